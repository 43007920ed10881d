/- Part of the proofs: an abstract program logic, plain models and contracts of functions. -/
import Derived.Test.YtboammbpdaoojaaGreatPi
import Derived.Test.YtboammbpdaoojaaGreatPd
import Derived.Test.YtboammbpdaoojaaGreatPb
import Derived.Test.YtboammbpdaoojaaGreatPc
set_option linter.unusedVariables false
set_option linter.unusedSimpArgs false
set_option maxRecDepth 100000
namespace Go.Proofs.YtboammbpdaoojaaGreat
open Go.Abs Go.Eu
theorem QG:∀(t:Tm) (vars params metas levels:Int),(Nd t)→(size t<1000000)→FY Tryz.prog 55 [.agg ((BK t).map .p),.p (I vars),.p (I params),.p (I metas),.p (I levels)] (fun v=>∃e:Int,v= .p (I e)∧(e=0→wf (max vars 0) metas 0 t)):=by
 intro t vars params metas levels h1 h2;refine A4 Tryz.func55 O oQ (n:=28) O O (Aw (BG O (BO O) fun b5=>Ar A0 1 [] O (Au (Aw (Ay A0 2 [0] O (Aq O (Iy O O) (Ay A0 3 [] O (DW O O (B2 O O (eo _ t 0 (max (vars:Int) (0:Int)) params metas levels (Nat.le_refl _) h1 An AZ) (.inl O)) ?_))))))));rintro _ ⟨e,rfl,he⟩;refine Ar A0 1 [] O (As A0 2 [] O (Av O (fun c=>?_) (fun c=>?_)))
 ·(try simp only[sd,se] at c);refine As A0 2 [] O (Az (⟨O,_,[],Ba O,List.nil_sublist _,⟨⟨_,O,?_⟩,O⟩⟩));exact fun h=>absurd h Ak
 (try simp only[sd,se] at c);refine A1 (Au (Aw (Aq O (BP (i:=0) BQ O O Ag) (Aq O (BF O O (T9 _ t (Nat.le_refl _) h1) O) (Ar A0 1 [] O (Av O (fun c1=>?_) (fun c1=>?_)))))))
 ·(try simp only[sd,se] at c1);refine As A0 1 [] O (Az (⟨O,_,[],Ba O,List.nil_sublist _,⟨⟨_,O,?_⟩,O⟩⟩));exact fun h=>absurd h Am
 (try simp only[sd,se] at c1);refine A1 (Au (Aw (Aq O (BP (i:=0) BQ O O Ag) (Aq O (BF O O (QT _ t (Nat.le_refl _) h1) O) (Ar A0 1 [] O (Av O (fun c2=>?_) (fun c2=>?_)))))))
 ·(try simp only[sd,se] at c2);refine As A0 1 [] O (Az (⟨O,_,[],Ba O,List.nil_sublist _,⟨⟨_,O,?_⟩,O⟩⟩));exact fun h=>absurd h Am
 (try simp only[sd,se] at c2);refine A1 (As A0 1 [] O (Az (⟨O,_,[],Ba O,List.nil_sublist _,⟨⟨_,O,?_⟩,O⟩⟩)));exact fun _=>he An
theorem RX:∀(ds:List CC) (d:CC),(Hn ds)→(OB d)→FY Tryz.prog 135 [.p (.lst (List.map Bj ds)),.agg ((Bj d).map .p)] (YK):=by
 intro ds d h1 h2;have hn:=MK d;have hcl:=h2.cl;have hfl:=h2.fl;refine A4 Tryz.func135 O kr (n:=44) O O (Aw (BG O (BO O) fun b3=>Ar A0 1 [] O (Aw (Aq O (BP (i:=0) Gg O O Ad) (Aq O (BF O O (Lh d h2.cl h2.fl h2.nm) O) (Ar A0 1 [] O (Au (As A0 1 [] O (A8 (Be (α:=Nat) (fun i=>⟨44,mk [(0,.p (.lst (List.map Bj ds))),(5,.p (.lst (List.map F3 (Ck d)))),(6,.p (I (i:Int)))],[],[]⟩) (fun i=>(Ck d).length - i) (fun i=>i≤(Ck d).length) 0 AO ?_ ?_))))))))))
 ·exact BY ⟨we O,we O,we O,Ap⟩ (leH (is:=[]) O (DO))
 rintro i hC
 try simp only at hC
 have hi:=hC;refine Au (Aw (Ay A0 2 [] O (Aq O (BM GB O (List.length_map _)) (Ar A0 1 [] O (Av O (fun c=>?_) (fun c=>?_))))))
 ·(try simp only[sd,se] at c);refine A1 (Au (A8 (Au (Aw (Ay A0 2 [] O ?_)))));obtain⟨x,hx⟩:=A6 (l:=Ck d) (i:=i) An;refine Aq O (A5 GB O O An (Nf hx) (O)) (Aq O (El MR O) (DW O O (B2 O O (bN x (Zb h2 hx)) (.inl O)) ?_));rintro _ ⟨q,rfl⟩;refine Ar A0 1 [] O (Av O (fun c1=>?_) (fun c1=>?_))
  ·(try simp only[sd,se] at c1);refine As A0 1 [] O (Az (⟨O,_,_,⟨_,_,O,O,O⟩,(List.nil_sublist _),?_⟩))
   all_goals exact⟨⟨_,rfl⟩,rfl⟩
  (try simp only[sd,se] at c1);refine A1 (Aw (Ay A0 3 [] O (Aq O (A5 GB O O An (Nf hx) (O)) (Aq O (El MR O) (Aq O (BF O O (QV ds x h1) O) (Ay A0 3 [] O (BG O (A7 IZ O) fun b7=>Ar A0 2 [0,1] O (Au (BU [0,5,6] 43 Fz ?_ ?_)))))))))
  ·refine B6 (fun k=>false) EO (Bb A0 3 [] O (Fs 34 O (fun g=>?_) (fun g=>?_)))
   ·(try simp only[sd,se] at g);exact B4 A0 9 [] O (⟨O,O,AJ,⟨_,O⟩,⟨O,O,O,Ap⟩⟩)
   (try simp only[sd,se] at g);exact Bb A0 2 [] O (Cq O (fun _=>Co (lo:=0) (hi:=i) GB O (CB (JO _)) O ⟨_,O⟩ (Nat.zero_le _) AP (WB (f:=F3) (Ck d) i)) Ap (Bb A0 2 [] O (Cq O (fun _=>A5 GB O O An (Nf hx) (O)) Ap (Cq O (fun _=>El MR O) Ap (Cq O (fun _=>BF O O (Tr ((Ck d).take i) x Ai) O) Ap (B4 A0 1 [] O (⟨O,O,AJ,⟨_,O⟩,⟨O,O,O,Ap⟩⟩)))))))
  rintro _ ⟨q1,rfl⟩;refine Av O (fun c2=>?_) (fun c2=>?_)
  ·(try simp only[sd,se] at c2);refine As A0 1 [] O (Az (⟨O,_,_,⟨_,_,O,O,O⟩,(List.nil_sublist _),?_⟩))
   all_goals exact⟨⟨_,rfl⟩,rfl⟩
  (try simp only[sd,se] at c2);refine A1 (A3 (Ar A0 3 [] O ?_));refine⟨(i+1),AT,by omega,BY ⟨we rfl,we rfl,we rfl,trivial⟩ (leH (is:=[]) rfl (DO))⟩
 (try simp only[sd,se] at c);refine Bh (As A0 1 [] O (Az (⟨O,_,_,⟨_,_,O,O,O⟩,(List.nil_sublist _),?_⟩)))
 all_goals exact⟨⟨_,rfl⟩,rfl⟩
theorem gd:∀(t:Tm),(TB t)→FY Tryz.prog 115 [.agg ((BK t).map .p)] (fun v=>∃(l:List Tm) (q:Tm),v= .tup [.p (.lst (BC l)),TV q]∧l.length<1000000):=by
 intro t h1;have hsz:=h1.sz;refine A4 Tryz.func115 O m7 (n:=27) O O (Aw (BG O (BO O) fun b1=>bg O (BG O (A7 Bw O) fun b3=>Bf O (As A0 1 [] O (Au (A8 (BN (Fo (t:=4) (sz:=5) O) ?_)))))));refine Be (α:=Tm×List Tm×Option Nat×Nat) (fun(y,l,o,cp)=>⟨27,mk [(1,.ptr b1 0),(3,.ptr b3 0),(4,.vs o (BC l).length cp)],[.vec o 5 (BC l) cp,.box b3 [.p (I 0),.p (I 0),.p (.str ⟨#[]⟩),.p (.nils),.p (.nils)],.box b1 ((BK y).map .p)],[]⟩) (fun(y,l,o,cp)=>size y) (fun(y,l,o,cp)=>Nd y∧l.length+size y≤size t) ⟨t,[],none,0⟩ (⟨h1.nd,by simp⟩) ?_ ?_
 ·exact BY ⟨we O,we O,we O,Ap⟩ (leH (is:=[0,1,2]) O (wl (oe O) (wl (oe O) (wl (oe O) (DO)))))
 rintro⟨y,l,o,cp⟩ hC
 try simp only at hC
 have hl0:l.length<1000000:=by have:=hC.2;omega
 refine Au (Au ?_);obtain⟨yk,yi,yn,yl,ys⟩:=y;refine BU [1,3,4] 13 (fun y=>y= .p (.bool (((yk:Int)==(6:Int))&&(((ys.length:Nat):Int)==(2:Int))))) ?_ ?_
 ·refine A3 (Ay A0 4 [2] O (BI 8 O (fun g=>?_) (fun g=>?_)))
  ·(try simp only[sd,se] at g);exact Ay A0 2 [2] O (BA O (BM Bg O (BR _)) (Ar A0 2 [] O (⟨O,O,AJ,AH,⟨O,O,O,Ap⟩⟩)))
  (try simp only[sd,se] at g);exact Ar A0 5 [] O (⟨O,O,AJ,AH,⟨O,O,O,Ap⟩⟩)
 rintro _ rfl;refine Av O (fun c=>?_) (fun c=>?_)
 ·(try simp only[sd,se] at c);refine A1 (A8 (Aw (Ay A0 3 [2] O ?_)));obtain⟨x,hx⟩:=A6 (l:=ys) (i:=0) (by first | omega | (simp at c;omega));refine Aq O (A5 Bg O O An (Bd hx) (BB _)) (Aq O (BJ BQ O (BB _)) ?_);obtain⟨xk,xi,xn,xl,xs⟩:=x;refine Aq O (Bx Bg Bw O O O O O) (Ih O O (Cs (i:=0) (rows':=BC [(.mk xk xi xn xl xs:Tm)]) Bg Bg Bw O O O O O O (Bu _) AD (Nl l [(.mk xk xi xn xl xs:Tm)])) fun o1 cp1=>Ar A0 1 [] O (A3 (Ay A0 2 [2] O ?_)));obtain⟨x1,hx1⟩:=A6 (l:=ys) (i:=1) (by first | omega | (simp at c;omega));refine Aq O (A5 Bg O O An (Bd hx1) (BB _)) (Ar A0 2 [2,1] O ?_);refine⟨⟨x1,l++[(.mk xk xi xn xl xs:Tm)],o1,cp1⟩,(by have:=Cb hx1;simp only[size];omega),⟨DK hC.1.2.2.2.2.1 hx1,by have:=Cb hx1;have:=hC.2;simp only[size] at *;simp only[List.length_append,List.length_cons,List.length_nil];omega⟩,BY ⟨we rfl,we rfl,we rfl,trivial⟩ (leH (is:=[0,1,2]) rfl (wl (oe rfl) (wl (oe rfl) (wl (oe rfl) (DO)))))⟩
 (try simp only[sd,se] at c);refine Bh (Au (B6 (fun k=>false) EO (B4 A0 4 [2,1,0] O (BN (Cw (i:=0) [4,25,2] O (Eh ⟨O,O,O,Ap⟩)) (Az (⟨O,_,_,⟨_,_,O,O,⟨_,_,O,(BE (i:=0) BQ O O O),O⟩⟩,(List.nil_sublist _),?_⟩))))))
 all_goals exact⟨⟨l,(.mk yk yi yn yl ys:Tm),rfl,by have:=hC.2;omega⟩,rfl⟩
theorem Rj:∀(n:Nat) (s:Oq) (t:Tm),(size t≤n)→(Nd t)→(Hn s.env)→(s.own.length<9000000)→(OB s.d)→FY Tryz.prog 172 [.agg ((Fg s).map .p),.agg ((BK t).map .p)] (YK):=by
 intro n
 induction n with
 | zero=>intro s t h;cases t;simp[size] at h
 | succ n ih =>
  intro s t h1 h2 h3 h4 h5;have h3l:=h3.len;obtain⟨tk,ti,tn,tl,ts⟩:=t;have hk:=h2.2.2.2.2.1;have hkl:=h2.2.2.2.1;simp only[De] at hkl;simp only[size] at h1;refine A4 Tryz.func172 O nQ (n:=59) O O (Aw (BG O (BO O) fun b2=>BG O (BO O) fun b3=>Ar A0 1 [] O (Au (As A0 3 [0] O (BU [2,3] 12 (fun _=>True) ?_ ?_)))))
  ·refine Av O (fun c=>?_) (fun c=>?_)
   ·(try simp only[sd,se] at c);refine Aw (Aq O (Ax M3 O O) (Aq O (A2 (i:=1) ae O O (I0 _)) (Ay A0 2 [0] O (Aq O (BF O O (QV s.env tn h3) O) (Ay A0 3 [] O (BG O (A7 IZ O) fun b5=>Ar A0 2 [0,1] O (Au (As A0 2 [] O (Av O (fun c1=>?_) (fun c1=>?_))))))))))
    ·(try simp only[sd,se] at c1);refine Au (Aw (Aq O (Ax M3 O O) (Aq O (A2 (i:=2) Un O O (Ur _)) (Ay A0 2 [1] O (Aq O (BF O O (Tr s.own tn h4) O) (Ar A0 1 [] O (Av O (fun c2=>?_) (fun c2=>?_))))))))
     ·(try simp only[sd,se] at c2);refine As A0 1 [] O (Az (⟨O,_,_,⟨_,_,O,O,O⟩,(List.nil_sublist _),?_⟩))
      all_goals exact⟨⟨_,rfl⟩,rfl⟩
     (try simp only[sd,se] at c2);refine A1 (A3 (Aq O (Ax M3 O O) (Aq O (Bv (i:=2) Gg O O (SC _) (Cr _)) (Aq O (Ax M3 O O) (Aq O (A2 (i:=2) ae O O (I0 _)) (Aq O (BM Ic O (List.length_map _)) (Ay A0 2 [1] O (Aq O (BF O O (Sy s.d (s.env.length:Nat) tn h5.cl h5.fl) O) (Ar A0 1 [0,1] O (Aw (Ay A0 2 [1] O (Aq O (BM FQ O (List.length_map _)) (Aq O (Ax GU O O) (Aq O (A2 (i:=0) Df O O (IT _)) (Ar A0 1 [] O (Av O (fun c3=>?_) (fun c3=>?_)))))))))))))))))
     ·(try simp only[sd,se] at c3);refine As A0 1 [] O (Az (⟨O,_,_,⟨_,_,O,O,O⟩,(List.nil_sublist _),?_⟩))
      all_goals exact⟨⟨_,rfl⟩,rfl⟩
     (try simp only[sd,se] at c3);exact A1 (⟨O,O,(CH (is:=[1,2]) O),Ap,⟨O,O,Ap⟩⟩)
    (try simp only[sd,se] at c1);refine A1 (Aw (Ay A0 2 [1] O (Aq O (BM FQ O (List.length_map _)) (Aq O (Ax GU O O) (Aq O (A2 (i:=0) Df O O (IT _)) (Ar A0 1 [] O (Av O (fun c2=>?_) (fun c2=>?_))))))))
    ·(try simp only[sd,se] at c2);refine As A0 1 [] O (Az (⟨O,_,_,⟨_,_,O,O,O⟩,(List.nil_sublist _),?_⟩))
     all_goals exact⟨⟨_,rfl⟩,rfl⟩
    (try simp only[sd,se] at c2);exact A1 (⟨O,O,(CH (is:=[1,2]) O),Ap,⟨O,O,Ap⟩⟩)
   (try simp only[sd,se] at c);exact A1 (⟨O,O,(List.Sublist.refl _),Ap,⟨O,O,Ap⟩⟩)
  intro _ _;refine Au (As A0 1 [] O (A8 (Be (α:=Nat) (fun i=>⟨59,mk [(2,.ptr b2 0),(3,.ptr b3 0),(7,.p (I (i:Int)))],[.box b3 [.p (I tk),.p (I ti),.p (.str tn),.p (.lst (List.map B5 tl)),.p (.lst (BC ts))],.box b2 ((Fg s).map .p)],[]⟩) (fun i=>ts.length - i) (fun i=>i≤ts.length) 0 AO ?_ ?_)))
  ·exact BY ⟨we O,we O,we O,Ap⟩ (leH (is:=[0,1]) O (wl (oe O) (wl (oe O) (DO))))
  rintro i hC
  try simp only at hC
  have hi:=hC;refine Au (Aw (Ay A0 3 [0] O (Aq O (BM Bg O (BR _)) (Ar A0 1 [] O (Av O (fun c=>?_) (fun c=>?_))))))
  ·(try simp only[sd,se] at c);refine A1 (Au (A8 (Au (B6 (fun k=>Nat.beq k 6) EO (Bb A0 4 [1,0] O ?_)))));obtain⟨x,hx⟩:=A6 (l:=ts) (i:=i) An;refine BL O (fun _=>A5 Bg O O An (Bd hx) (BB _)) Ap (BL O (fun _=>BJ BQ O (BB _)) Ap (JM [] O O (B2 O O (ih s x (by have:=Cb hx;omega) (DK hk hx) h3 h4 h5) (.inl O)) Aj (⟨_,0,O⟩) AB ?_));rintro _ ⟨e,rfl⟩;refine⟨Ap,?_⟩;refine B4 A0 1 [] O (As A0 2 [] O (Av O (fun c1=>?_) (fun c1=>?_)))
   ·(try simp only[sd,se] at c1);refine As A0 2 [] O (Az (⟨O,_,_,⟨_,_,O,O,O⟩,(List.nil_sublist _),?_⟩))
    all_goals exact⟨⟨_,rfl⟩,rfl⟩
   (try simp only[sd,se] at c1);refine A1 (A3 (Ar A0 3 [] O ?_));refine⟨(i+1),AT,by omega,BY ⟨we rfl,we rfl,we rfl,trivial⟩ (leH (is:=[0,1]) rfl (wl (oe rfl) (wl (oe rfl) (DO))))⟩
  (try simp only[sd,se] at c);refine Bh (As A0 1 [] O (Az (⟨O,_,_,⟨_,_,O,O,O⟩,(List.nil_sublist _),?_⟩)))
  all_goals exact⟨⟨_,rfl⟩,rfl⟩
theorem WQ:∀(d:CC),(OB d)→FY Tryz.prog 134 [.agg ((Bj d).map .p)] (fun v=>∃ee:Int,v= .p (I ee)∧(ee=0→UO d)):=by
 intro d h1;have hfl:=h1.fl;have hcl:=h1.cl;have hrl:=h1.rl;refine A4 Tryz.func134 O lJ (n:=96) O O (Aw (BG O (BO O) fun b1=>Ar A0 1 [] O (Au (Au (BU [1] 16 (fun y=>y= .p (.bool (((decide ((d.params:Int)<(0:Int)))||(decide ((d.params:Int) > (8:Int))))||(decide ((d.fixed:Int)<(0:Int)))))) ?_ ?_)))))
 ·refine A3 (Aq O (Ax C3 O O) (Aq O (A2 (i:=0) Df O O (Ca _)) (Ay A0 2 [] O (BI 7 O (fun g=>?_) (fun g=>?_)))))
  ·(try simp only[sd,se] at g);exact Ar A0 9 [] O (⟨O,O,AJ,AH,⟨O,Ap⟩⟩)
  (try simp only[sd,se] at g);refine BA O (Ax C3 O O) (BA O (A2 (i:=0) Df O O (Ca _)) (Ay A0 3 [] O (BI 12 O (fun g1=>?_) (fun g1=>?_))))
  ·(try simp only[sd,se] at g1);exact Ar A0 4 [] O (⟨O,O,AJ,AH,⟨O,Ap⟩⟩)
  (try simp only[sd,se] at g1);exact BA O (Ax C3 O O) (BA O (A2 (i:=0) Df O O (DR _)) (Ar A0 2 [] O (⟨O,O,AJ,AH,⟨O,Ap⟩⟩)))
 rintro _ rfl;refine Av O (fun c=>?_) (fun c=>?_)
 ·(try simp only[sd,se] at c);refine As A0 1 [] O (Az (⟨O,_,_,⟨_,_,O,O,O⟩,(List.nil_sublist _),?_⟩))
  all_goals exact⟨⟨_,rfl,fun h=>absurd h Am⟩,rfl⟩
 (try simp only[sd,se] at c);have hf0:0≤d.fixed:=by omega
 refine A1 (Au (Au (BU [1] 37 Fz ?_ ?_)))
 ·refine A3 (Aq O (Ax C3 O O) (Aq O (A2 (i:=0) IH O O (CF _)) (Aq O (BM Hh O (List.length_map _)) (Ay A0 2 [] O (BI 21 O (fun g=>?_) (fun g=>?_))))))
  ·(try simp only[sd,se] at g);exact Ar A0 16 [] O (⟨O,O,AJ,⟨_,O⟩,⟨O,Ap⟩⟩)
  (try simp only[sd,se] at g);refine BA O (Ax C3 O O) (BA O (A2 (i:=0) Df O O (Dh _)) (Ay A0 2 [] O (BI 25 O (fun g1=>?_) (fun g1=>?_))))
  ·(try simp only[sd,se] at g1);refine BA O (Ax C3 O O) (BA O (A2 (i:=0) HI O O (CA _)) (BA O (BM Gp O (List.length_map _)) (Ay A0 2 [] O (BI 30 O (fun g2=>?_) (fun g2=>?_)))))
   ·(try simp only[sd,se] at g2);exact Ar A0 7 [] O (⟨O,O,AJ,⟨_,O⟩,⟨O,Ap⟩⟩)
   (try simp only[sd,se] at g2);exact BA O (Ax C3 O O) (BA O (A2 (i:=0) HI O O (CA _)) (BA O (BM Gp O (List.length_map _)) (Ar A0 4 [] O (⟨O,O,AJ,⟨_,O⟩,⟨O,Ap⟩⟩))))
  (try simp only[sd,se] at g1);exact Ar A0 12 [] O (⟨O,O,AJ,⟨_,O⟩,⟨O,Ap⟩⟩)
 rintro _ ⟨q,rfl⟩;refine Av O (fun c1=>?_) (fun c1=>?_)
 ·(try simp only[sd,se] at c1);refine As A0 1 [] O (Az (⟨O,_,_,⟨_,_,O,O,O⟩,(List.nil_sublist _),?_⟩))
  all_goals exact⟨⟨_,rfl,fun h=>absurd h Am⟩,rfl⟩
 (try simp only[sd,se] at c1);refine A1 (Au (As A0 1 [] O (A8 ?_)));refine Be (α:=Nat) (fun i=>⟨96,mk [(1,.ptr b1 0),(3,.p (I (i:Int)))],[.box b1 ((Bj d).map .p)],[]⟩) (fun i=>d.funs.length - i) (fun i=>i≤d.funs.length∧(∀j,j<i→∀x,d.funs[j]?=some x→1≤x.arity∧x.arity≤16)) 0 (⟨by omega,fun j h=>by omega⟩) ?_ ?_
 ·exact BY ⟨we O,we O,Ap⟩ (leH (is:=[0]) O (wl (oe O) (DO)))
 rintro i hC
 try simp only at hC
 obtain⟨hi,hC⟩:=hC;refine Au (Aw (Ay A0 2 [] O (Aq O (A2 (i:=0) HI O O (CA _)) (Aq O (BM Gp O (List.length_map _)) (Ar A0 1 [] O (Av O (fun c2=>?_) (fun c2=>?_)))))))
 ·(try simp only[sd,se] at c2);obtain⟨x,hx⟩:=A6 (l:=d.funs) (i:=i) An;refine A1 (Au (A8 (Au (BU [1,3] 60 (fun y=>∃q:Bool,y= .p (.bool q)∧(q=false→1≤x.arity∧x.arity≤16)) ?_ ?_))))
  ·refine A3 (Aq O (Ax C3 O O) (Aq O (A2 (i:=0) HI O O (CA _)) (Br O (Aq O (A5 Gp O O An (ET hx) (Da _)) (Aq O (Bz G4 O O) (Aq O (DH Df O (CT _)) (Ay A0 2 [] O (BI 52 O (fun g=>?_) (fun g=>?_)))))))))
   ·(try simp only[sd,se] at g);exact Ar A0 8 [] O (⟨O,O,AJ,(by refine⟨_,rfl,fun h=>?_⟩;first | (exact absurd h Am) | (simp only[decide_eq_false_iff_not] at h;omega) | omega),⟨O,O,Ap⟩⟩)
   (try simp only[sd,se] at g);exact BA O (Ax C3 O O) (BA O (A2 (i:=0) HI O O (CA _)) (BA O (BT O) (BA O (A5 Gp O O An (ET hx) (Da _)) (BA O (Bz G4 O O) (BA O (DH Df O (CT _)) (Ar A0 2 [] O (⟨O,O,AJ,(by refine⟨_,rfl,fun h=>?_⟩;first | (exact absurd h Am) | (simp only[decide_eq_false_iff_not] at h;omega) | omega),⟨O,O,Ap⟩⟩)))))))
  rintro _ ⟨q,rfl,hq⟩;refine Av O (fun c3=>?_) (fun c3=>?_)
  ·(try simp only[sd,se] at c3);refine As A0 1 [] O (Az (⟨O,_,_,⟨_,_,O,O,O⟩,(List.nil_sublist _),?_⟩))
   all_goals exact⟨⟨_,rfl,fun h=>absurd h Am⟩,rfl⟩
  (try simp only[sd,se] at c3);have hq3:=hq (by simpa using c3);refine A1 (A3 (Ar A0 3 [] O (⟨(i+1),AT,⟨by omega,Cu (p:=fun _ (x:Gh)=>1≤x.arity∧x.arity≤16) hC hx hq3⟩,BY ⟨we rfl,we rfl,trivial⟩ (leH (is:=[0]) rfl (wl (oe rfl) (DO)))⟩)))
 (try simp only[sd,se] at c2);refine Bh (Au (Au (BU [] 95 (fun y=>∃q:Bool,y= .p (.bool q)∧(q=false→d.kind=3→d.fixed≤1000000)) ?_ ?_)))
 ·refine A3 (Aq O (Ax C3 O O) (Aq O (A2 (i:=0) Df O O (Dh _)) (Ay A0 2 [] O (BI 64 O (fun g=>?_) (fun g=>?_)))))
  ·(try simp only[sd,se] at g);refine Ay A0 2 [] O (BA O (A2 (i:=0) Df O O (DE _)) (BA O (Ax C3 O O) (BA O (A2 (i:=0) Df O O (Ca _)) (Ay A0 2 [] O (BI 71 O (fun g1=>?_) (fun g1=>?_))))))
   ·(try simp only[sd,se] at g1);refine Ay A0 2 [] O (BA O (A2 (i:=0) Df O O (DE _)) (BA O (Ax C3 O O) (BA O (A2 (i:=0) Df O O (Ca _)) (BA O (EX O O) (Ay A0 3 [] O (BI 80 O (fun g2=>?_) (fun g2=>?_)))))))
    ·(try simp only[sd,se] at g2);exact Ar A0 15 [] O (⟨O,O,AJ,(by refine⟨_,rfl,fun h h3=>?_⟩;first | (exact absurd h Am) | omega | exact hq (by simpa using h)),Ap⟩)
    (try simp only[sd,se] at g2);refine Ay A0 2 [] O (BA O (A2 (i:=0) GY O O (Ch _)) (BA O (BM Bg O (BR _)) (BA O (Ax C3 O O) (BA O (A2 (i:=0) IH O O (CF _)) (BA O (BM Hh O (List.length_map _)) (Ay A0 3 [] O (BI 90 O (fun g3=>?_) (fun g3=>?_))))))))
    ·(try simp only[sd,se] at g3);exact Ar A0 5 [] O (⟨O,O,AJ,(by refine⟨_,rfl,fun h h3=>?_⟩;first | (exact absurd h Am) | omega | exact hq (by simpa using h)),Ap⟩)
    (try simp only[sd,se] at g3);refine BA O (BP (i:=0) Gg O O Ad) (HU O O O O (B2 O O (Sd d h1) (.inl O)) ?_);rintro _ ⟨q1,rfl,hq⟩;exact Ar A0 3 [] O (⟨O,O,AJ,(by refine⟨_,rfl,fun h h3=>?_⟩;first | (exact absurd h Am) | omega | exact hq (by simpa using h)),Ap⟩)
   (try simp only[sd,se] at g1);refine Ay A0 11 [] O (BA O (A2 (i:=0) GY O O (Ch _)) (BA O (BM Bg O (BR _)) (BA O (Ax C3 O O) (BA O (A2 (i:=0) IH O O (CF _)) (BA O (BM Hh O (List.length_map _)) (Ay A0 3 [] O (BI 90 O (fun g2=>?_) (fun g2=>?_))))))))
   ·(try simp only[sd,se] at g2);exact Ar A0 5 [] O (⟨O,O,AJ,(by refine⟨_,rfl,fun h h3=>?_⟩;first | (exact absurd h Am) | omega | exact hq (by simpa using h)),Ap⟩)
   (try simp only[sd,se] at g2);refine BA O (BP (i:=0) Gg O O Ad) (HU O O O O (B2 O O (Sd d h1) (.inl O)) ?_);rintro _ ⟨q1,rfl,hq⟩;exact Ar A0 3 [] O (⟨O,O,AJ,(by refine⟨_,rfl,fun h h3=>?_⟩;first | (exact absurd h Am) | omega | exact hq (by simpa using h)),Ap⟩)
  (try simp only[sd,se] at g);exact Ar A0 31 [] O (⟨O,O,AJ,(by refine⟨_,rfl,fun h h3=>?_⟩;first | (exact absurd h Am) | omega | exact hq (by simpa using h)),Ap⟩)
 rintro _ ⟨q,rfl,hq⟩;refine Av O (fun c3=>?_) (fun c3=>?_)
 ·(try simp only[sd,se] at c3);refine As A0 1 [] O (Az (⟨O,_,_,⟨_,_,O,O,O⟩,(List.nil_sublist _),?_⟩))
  all_goals exact⟨⟨_,rfl,fun h=>absurd h Am⟩,rfl⟩
 (try simp only[sd,se] at c3);have hq4:=hq (by simpa using c3);refine A1 (As A0 1 [] O (Az (⟨O,_,_,⟨_,_,O,O,O⟩,(List.nil_sublist _),?_⟩)))
 all_goals exact⟨⟨_,rfl,fun _=>⟨hf0,HO An hC,hq4⟩⟩,rfl⟩
theorem W9:∀(d:CC) (k:Int),(OB d)→(0≤d.fixed∧d.fixed≤1000000)→(0≤k)→(k<d.ctors.length)→FY Tryz.prog 85 [.agg ((Bj d).map .p),.p (I k)] (fun v=>∃e:Int,v= .p (I e)∧0≤e∧e≤1000000):=by
 intro d k h1 h2 h3 h4;have hcl:=h1.cl;refine A4 Tryz.func85 O oo (n:=23) O O (Aw (BG O (BO O) fun b2=>Ar A0 1 [] O (Aw (Aq O (Ax C3 O O) (Aq O (A2 (i:=0) IH O O (CF _)) (Br O ?_))))));obtain⟨x,hx⟩:=A6 (l:=d.ctors) (i:=(k:Int).toNat) An;refine Aq O (A5 Hh O O An (EZ hx) (D7 _)) (Aq O (Bz I2 O O) (Aq O (DL BQ O (FH _) (BB _)) (DW O O (B2 O O (gd x.type (h1.cs _ (List.mem_of_getElem? hx)).ty) (.inl O)) ?_)));rintro _ ⟨l,q,rfl,hl⟩;refine Ay A0 3 [] O (BG O (A7 Bw O) fun b6=>Ar A0 2 [0,1] O (Aw (Br O (Aq O (BM Bg O (BR _)) (Aq O (Ax C3 O O) (Aq O (A2 (i:=1) Df O O (DR _)) (Aq O (Pk O O An An) (Aq O (Iy O O) (Ar A0 1 [] O (Az (⟨O,_,_,⟨_,_,O,O,O⟩,(List.nil_sublist _),?_⟩)))))))))))
 all_goals exact⟨⟨_,rfl,by omega,by omega⟩,rfl⟩
theorem GV:∀(s:Oq) (t:Tm) (vs ps:Int),(TB t)→(Hn s.env)→(s.own.length<9000000)→(OB s.d)→(vs≤549755813888)→FY Tryz.prog 151 [.agg ((Fg s).map .p),.agg ((BK t).map .p),.p (I vs),.p (I ps)] (fun v=>∃ee:Int,v= .p (I ee)∧(ee=0→okB t=true)):=by
 intro s t vs ps h1 h2 h3 h4 h5;refine A4 Tryz.func151 O mW (n:=20) O O (Aw (BG O (BO O) fun b4=>BG O (BO O) fun b5=>Ar A0 1 [] O (Au (Aw (Ay A0 3 [0] O (DW O O (B2 O O (QG t vs ps 0 0 h1.nd h1.sz) (.inl O)) ?_))))));rintro _ ⟨e,rfl,he⟩;refine Ar A0 1 [] O (As A0 2 [] O (Av O (fun c=>?_) (fun c=>?_)))
 ·(try simp only[sd,se] at c);refine As A0 2 [] O (Az (⟨O,_,_,⟨_,_,O,O,O⟩,(List.nil_sublist _),?_⟩))
  all_goals exact⟨⟨_,rfl,fun h=>absurd h Ak⟩,rfl⟩
 (try simp only[sd,se] at c);refine A1 (Aw (Ay A0 2 [1,0] O (DW O O (B2 O O (Rj (size t) s t (Nat.le_refl _) h1.nd h2 h3 h4) (.inl O)) ?_)));rintro _ ⟨e1,rfl⟩;refine Ar A0 1 [] O (Az (⟨O,_,_,⟨_,_,O,O,O⟩,(List.nil_sublist _),?_⟩))
 all_goals exact⟨⟨_,rfl,fun _=>cG h1.nd h1.sz h5 (he An)⟩,rfl⟩
theorem TG:∀(n:Nat) (a b:E3),(KX a≤n)→(Gj a)→FY Tryz.prog 173 [.agg ((C4 a).map .p),.agg ((C4 b).map .p)] (fun v=>∃bb:Bool,v= .p (.bool bb)∧(bb=true→MP a.body b.body=true∧a.branches.length=b.branches.length)):=by
 intro n
 induction n with
 | zero=>intro a b h;have:=OY a;omega
 | succ n ih =>
  intro a b h1 h2;have hal:=h2.bl;refine A4 Tryz.func173 O mn (n:=74) O O (Aw (BG O (BO O) fun b2=>BG O (BO O) fun b3=>Ar A0 1 [] O (Au (Au (BU [2,3] 36 (fun y=>∃q:Bool,y= .p (.bool q)∧(q=false→a.branches.length=b.branches.length∧MP a.body b.body=true)) ?_ ?_)))))
  ·refine A3 (Aq O (Ax Fi O O) (Aq O (A2 (i:=1) Df O O (Gq _)) (Aq O (Ax Fi O O) (Aq O (A2 (i:=0) Df O O (Gq _)) (Ay A0 2 [] O (BI 13 O (fun g=>?_) (fun g=>?_)))))))
   ·(try simp only[sd,se] at g);exact Ar A0 23 [] O (⟨O,O,AJ,(by refine⟨_,rfl,fun h=>?_⟩;first | (exact absurd h Am) | (simp_all;done) | (simp_all;omega)),⟨O,O,Ap⟩⟩)
   (try simp only[sd,se] at g);refine BA O (Ax Fi O O) (BA O (A2 (i:=1) Df O O (DZ _)) (BA O (Ax Fi O O) (BA O (A2 (i:=0) Df O O (DZ _)) (Ay A0 3 [] O (BI 20 O (fun g1=>?_) (fun g1=>?_))))))
   ·(try simp only[sd,se] at g1);exact Ar A0 16 [] O (⟨O,O,AJ,(by refine⟨_,rfl,fun h=>?_⟩;first | (exact absurd h Am) | (simp_all;done) | (simp_all;omega)),⟨O,O,Ap⟩⟩)
   (try simp only[sd,se] at g1);refine BA O (Ax Fi O O) (BA O (Bv (i:=1) BQ O O (FC _) (BB _)) (BA O (Ax Fi O O) (BA O (Bv (i:=0) BQ O O (FC _) (BB _)) (BA O (BF O O (Ma _ a.body b.body (Nat.le_refl _) h2.body.nd) O) (Ay A0 3 [] O (BI 28 O (fun g2=>?_) (fun g2=>?_)))))))
   ·(try simp only[sd,se] at g2);exact Ar A0 8 [] O (⟨O,O,AJ,(by refine⟨_,rfl,fun h=>?_⟩;first | (exact absurd h Am) | (simp_all;done) | (simp_all;omega)),⟨O,O,Ap⟩⟩)
   (try simp only[sd,se] at g2);exact BA O (Ax Fi O O) (BA O (A2 (i:=1) Lx O O (CL _)) (BA O (BM Kg O (Fq _)) (BA O (Ax Fi O O) (BA O (A2 (i:=0) Lx O O (CL _)) (BA O (BM Kg O (Fq _)) (Ar A0 2 [] O (⟨O,O,AJ,(by refine⟨_,rfl,fun h=>?_⟩;first | (exact absurd h Am) | (simp_all;done) | (simp_all;omega)),⟨O,O,Ap⟩⟩)))))))
  rintro _ ⟨q,rfl,hq⟩;refine Av O (fun c=>?_) (fun c=>?_)
  ·(try simp only[sd,se] at c);refine As A0 1 [] O (Az (⟨O,_,_,⟨_,_,O,O,O⟩,(List.nil_sublist _),?_⟩))
   all_goals exact⟨⟨_,rfl,fun h=>absurd h Am⟩,rfl⟩
  (try simp only[sd,se] at c);obtain⟨hqa,hqb⟩:=hq (by simpa using c);refine A1 (Au (As A0 1 [] O (A8 (Be (α:=Nat) (fun i=>⟨74,mk [(2,.ptr b2 0),(3,.ptr b3 0),(5,.p (I (i:Int)))],[.box b3 ((C4 b).map .p),.box b2 ((C4 a).map .p)],[]⟩) (fun i=>a.branches.length - i) (fun i=>i≤a.branches.length) 0 AO ?_ ?_))))
  ·exact BY ⟨we O,we O,we O,Ap⟩ (leH (is:=[0,1]) O (wl (oe O) (wl (oe O) (DO))))
  rintro i hC
  try simp only at hC
  have hi:=hC;refine Au (Aw (Ay A0 2 [] O (Aq O (A2 (i:=1) Lx O O (CL _)) (Aq O (BM Kg O (Fq _)) (Ar A0 1 [] O (Av O (fun c1=>?_) (fun c1=>?_)))))))
  ·(try simp only[sd,se] at c1);obtain⟨x,hx⟩:=A6 (l:=a.branches) (i:=i) An;obtain⟨x1,hx1⟩:=A6 (l:=b.branches) (i:=i) An;refine A1 (Au (A8 (Au (fp [.val (.ptr b2 (0+7)),.val (.p (.lst (KZ a.branches))),.val (.p (I (i:Int))),.val (.ref (GM x)),.val (.agg ((GM x).map .p)),.val (.ptr b3 (0+7)),.val (.p (.lst (KZ b.branches))),.val (.p (I (i:Int))),.val (.ref (GM x1)),.val (.agg ((GM x1).map .p)),.new [.p (.str ⟨#[]⟩),.p (.bool false),.p (I 0),.p (I 0),.p (I 0),.p (.str ⟨#[]⟩),.p (.nils),.p (.nils),.p (I 0),.p (.nils)],.new [.p (.str ⟨#[]⟩),.p (.bool false),.p (I 0),.p (I 0),.p (I 0),.p (.str ⟨#[]⟩),.p (.nils),.p (.nils),.p (I 0),.p (.nils)]] [.p .any,.p .any] [5,6,7,8,9] EO O Aj Aj Aj ?_ ?_))))
   ·exact Ap
   refine JF O (fun Bs=>Ax Fi O O) (JF O (fun Bs=>A2 (i:=Bs.length+1) Lx O (CM O) (CL _)) (JF O (fun Bs=>BT O) (JF O (fun Bs=>A5 Kg O O An (Ga hx) (Dc _)) (JF O (fun Bs=>BJ SK O (Dc _)) (JF O (fun Bs=>Ax Fi O O) (JF O (fun Bs=>A2 (i:=Bs.length+0) Lx O (CM O) (CL _)) (JF O (fun Bs=>BT O) (JF O (fun Bs=>A5 Kg O O An (Ga hx1) (Dc _)) (JF O (fun Bs=>BJ SK O (Dc _)) (dc O (fun Bs=>A7 YP O) fun b6=>dc O (fun Bs=>A7 YP O) fun b7=>jk ?_))))))))));refine Xz [.box b6 ((GM x).map .p),.box b7 [.p (.str ⟨#[]⟩),.p (.bool false),.p (I 0),.p (I 0),.p (I 0),.p (.str ⟨#[]⟩),.p (.nils),.p (.nils),.p (I 0),.p (.nils)]] O (CZ (i:=0) SK O O O (by simp[Dc]) (by first | rfl | simp[Dc]) (TY _)) (Xz [.box b6 ((GM x).map .p),.box b7 ((GM x1).map .p)] O (CZ (i:=1) SK O O O (by simp[Dc]) (by first | rfl | simp[Dc]) (TY _)) (ir (Au (BU [2,3,5] 73 Fz ?_ ?_))))
   ·refine A3 (Aq O (Ax JB O O) (Aq O (A2 (i:=0) MR O O (Gv _)) (Aq O (Ax JB O O) (Aq O (A2 (i:=1) MR O O (Gv _)) (Aq O (Jg O O) (Br O (BI 59 O (fun g=>?_) (fun g=>?_))))))))
    ·(try simp only[sd,se] at g);exact Ar A0 14 [] O (⟨O,O,AJ,⟨_,O⟩,⟨O,O,O,Ap⟩⟩)
    (try simp only[sd,se] at g);refine BA O (Ax JB O O) (BA O (A2 (i:=0) oF O O (G0 _)) (BA O (Ax JB O O) (BA O (A2 (i:=1) oF O O (G0 _)) (BA O (W0 rJ O O) (Ay A0 2 [] O (BI 66 O (fun g1=>?_) (fun g1=>?_)))))))
    ·(try simp only[sd,se] at g1);exact Ar A0 7 [] O (⟨O,O,AJ,⟨_,O⟩,⟨O,O,O,Ap⟩⟩)
    (try simp only[sd,se] at g1);refine BA O (Ax JB O O) (BA O (Bv (i:=0) Kf O O (Fp _) (Cy _)) (BA O (Ax JB O O) (BA O (Bv (i:=1) Kf O O (Fp _) (Cy _)) (HU O O O O (B2 O O (ih x.tree x1.tree (by have:=Qp hx;omega) (Im h2.bs hx).tr) (.inl O)) ?_))));rintro _ ⟨q1,rfl,hq⟩;exact Ar A0 2 [] O (⟨O,O,AJ,⟨_,O⟩,⟨O,O,O,Ap⟩⟩)
   rintro _ ⟨q1,rfl⟩;refine Av O (fun c2=>?_) (fun c2=>?_)
   ·(try simp only[sd,se] at c2);refine As A0 1 [] O (Az (⟨O,_,_,⟨_,_,O,O,O⟩,(List.nil_sublist _),?_⟩))
    all_goals exact⟨⟨_,rfl,fun h=>absurd h Am⟩,rfl⟩
   (try simp only[sd,se] at c2);refine A1 (A3 (Ar A0 3 [] O ?_));refine⟨(i+1),AT,by omega,BY ⟨we rfl,we rfl,we rfl,trivial⟩ (leH (is:=[2,3]) rfl (wl (oe rfl) (wl (oe rfl) (DO))))⟩
  (try simp only[sd,se] at c1);refine Bh (As A0 1 [] O (Az (⟨O,_,_,⟨_,_,O,O,O⟩,(List.nil_sublist _),?_⟩)))
  all_goals exact⟨⟨_,rfl,fun _=>⟨hqb,hqa⟩⟩,rfl⟩
theorem Wp:∀(n:Nat) (s:Oq) (t:E3) (vs dp:Int),(KX t≤n)→(Gj t)→(Lz s.env)→(s.own.length<9000000)→(OB s.d)→(0≤dp∧dp≤200)→(0≤vs∧vs+(201 - dp)*1000000≤549755813888)→FY Tryz.prog 152 [.agg ((Fg s).map .p),.agg ((C4 t).map .p),.p (I vs),.p (I dp)] (fun v=>∃ee:Int,v= .p (I ee)∧(ee=0→Ew t)):=by
 intro n
 induction n with
 | zero=>intro s t vs dp h;have:=OY t;omega
 | succ n ih =>
  intro s t vs dp h1 h2 h3 h4 h5 h6 h7;have htl:=h2.bl;refine A4 Tryz.func152 O ml (n:=110) O O (Aw (BG O (BO O) fun b4=>BG O (BO O) fun b5=>Ar A0 1 [] O (Au (As A0 2 [] O (Av O (fun c=>?_) (fun c=>?_))))))
  ·(try simp only[sd,se] at c);refine As A0 1 [] O (Az (⟨O,_,_,⟨_,_,O,O,O⟩,(List.nil_sublist _),?_⟩))
   all_goals exact⟨⟨_,rfl,fun h=>absurd h Am⟩,rfl⟩
  (try simp only[sd,se] at c);refine A1 (Au (Aw (Aq O (Ax Fi O O) (Aq O (A2 (i:=0) Df O O (Gq _)) (Bf O (A8 (As A0 2 [] O (Av O (fun c1=>?_) (fun c1=>?_)))))))))
  ·(try simp only[sd,se] at c1);refine Au (Au (BU [2,4,5] 28 (fun y=>y= .p (.bool (((t.var:Int) !=(0:Int))||(decide (((t.branches.length:Nat):Int) > (0:Int)))))) ?_ ?_))
   ·refine A3 (Aq O (Ax Fi O O) (Aq O (A2 (i:=0) Df O O (DZ _)) (Ay A0 2 [] O (BI 23 O (fun g=>?_) (fun g=>?_)))))
    ·(try simp only[sd,se] at g);exact Ar A0 5 [] O (⟨O,O,AJ,AH,⟨O,O,O,Ap⟩⟩)
    (try simp only[sd,se] at g);exact BA O (Ax Fi O O) (BA O (A2 (i:=0) Lx O O (CL _)) (BA O (BM Kg O (Fq _)) (Ar A0 2 [] O (⟨O,O,AJ,AH,⟨O,O,O,Ap⟩⟩))))
   rintro _ rfl;refine Av O (fun c2=>?_) (fun c2=>?_)
   ·(try simp only[sd,se] at c2);refine As A0 1 [] O (Az (⟨O,_,_,⟨_,_,O,O,O⟩,(List.nil_sublist _),?_⟩))
    all_goals exact⟨⟨_,rfl,fun h=>absurd h Am⟩,rfl⟩
   (try simp only[sd,se] at c2);have hb0:t.branches.length=0:=by omega
   refine A1 (Aw (Ay A0 2 [1] O (Aq O (Bv (i:=0) BQ O O (FC _) (BB _)) (Ay A0 3 [] O (Aq O (A2 (i:=1) Df O O (OQ _)) (DW O O (B2 O O (GV s t.body vs s.d.params h2.body h3.env h4 h5 An) (.inl O)) ?_))))));rintro _ ⟨e,rfl,he⟩;refine Ar A0 1 [] O (Az (⟨O,_,_,⟨_,_,O,O,O⟩,(List.nil_sublist _),?_⟩))
   all_goals exact⟨⟨_,rfl,fun h=>QR (he h) (j9 hb0)⟩,rfl⟩
  (try simp only[sd,se] at c1);refine As A0 2 [] O (Av O (fun c2=>?_) (fun c2=>?_))
  ·(try simp only[sd,se] at c2);refine Aw (Aq O (Ax Fi O O) (Aq O (Bv (i:=0) BQ O O (FC _) (BB _)) (Aq O (BF O O (Jo t.body h2.body.nd) O) (Ar A0 1 [] O (Av O (fun c3=>?_) (fun c3=>?_))))))
   ·(try simp only[sd,se] at c3);refine As A0 1 [] O (Az (⟨O,_,_,⟨_,_,O,O,O⟩,(List.nil_sublist _),?_⟩))
    all_goals exact⟨⟨_,rfl,fun h=>absurd h Am⟩,rfl⟩
   (try simp only[sd,se] at c3);have hz0:MP t.body BZ=true:=by simpa using c3
   refine A1 (Au (Au (BU [2,3,4,5] 51 (fun y=>y= .p (.bool ((decide ((t.var:Int)<(0:Int)))||(decide ((t.var:Int)≥(vs:Int)))))) ?_ ?_)))
   ·refine A3 (Aq O (Ax Fi O O) (Aq O (A2 (i:=0) Df O O (DZ _)) (Ay A0 2 [] O (BI 46 O (fun g=>?_) (fun g=>?_)))))
    ·(try simp only[sd,se] at g);exact Ar A0 5 [] O (⟨O,O,AJ,AH,⟨O,O,O,O,Ap⟩⟩)
    (try simp only[sd,se] at g);exact BA O (Ax Fi O O) (BA O (A2 (i:=0) Df O O (DZ _)) (Ar A0 3 [] O (⟨O,O,AJ,AH,⟨O,O,O,O,Ap⟩⟩)))
   rintro _ rfl;refine Av O (fun c4=>?_) (fun c4=>?_)
   ·(try simp only[sd,se] at c4);refine As A0 1 [] O (Az (⟨O,_,_,⟨_,_,O,O,O⟩,(List.nil_sublist _),?_⟩))
    all_goals exact⟨⟨_,rfl,fun h=>absurd h Am⟩,rfl⟩
   (try simp only[sd,se] at c4);refine A1 (Au (Aw (Aq O (Ax Fi O O) (Aq O (A2 (i:=0) Lx O O (CL _)) (Aq O (BM Kg O (Fq _)) (Ar A0 1 [] O (Av O (fun c5=>?_) (fun c5=>?_))))))))
   ·(try simp only[sd,se] at c5);refine As A0 1 [] O (Az (⟨O,_,_,⟨_,_,O,O,O⟩,(List.nil_sublist _),?_⟩))
    all_goals exact⟨⟨_,rfl,fun h=>absurd h Am⟩,rfl⟩
   (try simp only[sd,se] at c5);refine A1 (Au (As A0 1 [] O (A8 ?_)));refine Be (α:=Nat) (fun i=>⟨110,mk [(2,.p (I vs)),(3,.p (I dp)),(4,.ptr b4 0),(5,.ptr b5 0),(9,.p (I (i:Int)))],[.box b5 ((C4 t).map .p),.box b4 ((Fg s).map .p)],[]⟩) (fun i=>t.branches.length - i) (fun i=>i≤t.branches.length∧(∀j,j<i→∀x,t.branches[j]?=some x→Ew x.tree)) 0 (⟨by omega,fun j h=>by omega⟩) ?_ ?_
   ·exact BY ⟨we O,we O,we O,we O,we O,Ap⟩ (leH (is:=[0,1]) O (wl (oe O) (wl (oe O) (DO))))
   rintro i hC
   try simp only at hC
   obtain⟨hi,hC⟩:=hC;refine Au (Aw (Ay A0 2 [] O (Aq O (A2 (i:=0) Lx O O (CL _)) (Aq O (BM Kg O (Fq _)) (Ar A0 1 [] O (Av O (fun c6=>?_) (fun c6=>?_)))))))
   ·(try simp only[sd,se] at c6);refine A1 (Au (A8 (Aw (Aq O (Ax Fi O O) (Aq O (A2 (i:=0) Lx O O (CL _)) (Br O ?_))))));obtain⟨x,hx⟩:=A6 (l:=t.branches) (i:=i) An;refine Aq O (A5 Kg O O An (Ga hx) (Dc _)) (Aq O (BJ SK O (Dc _)) (BG O (A7 YP O) fun b10=>Ar A0 1 [0,1] O (Aw (Aq O (Ax M3 O O) (Aq O (A2 (i:=2) ae O O (I0 _)) (Aq O (Ax JB O O) (Aq O (A2 (i:=0) MR O O (Gv _)) (Aq O (BF O O (QV s.env x.ctor h3.env) O) (Ay A0 3 [] O (BG O (A7 IZ O) fun b11=>Ar A0 2 [0,1] O (Au (Au (BU [2,3,4,5,9,10,11] 82 (fun y=>∃q:Bool,y= .p (.bool q)∧(q=false→(Bq s.env x.ctor).2=0∧(Bq s.env x.ctor).1.kind=4)) ?_ ?_)))))))))))))
    ·refine A3 (Ay A0 3 [] O (BI 78 O (fun g=>?_) (fun g=>?_)))
     ·(try simp only[sd,se] at g);refine Ar A0 4 [] O ?_;exact⟨O,O,AJ,(by refine⟨_,rfl,fun h=>?_⟩;first | (exact absurd h Am) | exact⟨by simpa using g,by simpa using h⟩),⟨O,O,O,O,O,O,O,Ap⟩⟩
     (try simp only[sd,se] at g);refine BA O (Ax GU O O) (BA O (A2 (i:=0) Df O O (Dj _)) (Ar A0 2 [] O ?_));exact⟨O,O,AJ,(by refine⟨_,rfl,fun h=>?_⟩;first | (exact absurd h Am) | exact⟨by simpa using g,by simpa using h⟩),⟨O,O,O,O,O,O,O,Ap⟩⟩
    rintro _ ⟨q,rfl,hq⟩;refine Av O (fun c7=>?_) (fun c7=>?_)
    ·(try simp only[sd,se] at c7);refine As A0 1 [] O (Az (⟨O,_,_,⟨_,_,O,O,O⟩,(List.nil_sublist _),?_⟩))
     all_goals exact⟨⟨_,rfl,fun h=>absurd h Am⟩,rfl⟩
    (try simp only[sd,se] at c7);obtain⟨hqc,hqd⟩:=hq (by simpa using c7);obtain⟨dd,k1,k2,k3,k4⟩:=WY hqc hqd;refine A1 (Au (Aw (Aq O (Ax JB O O) (Aq O (A2 (i:=1) oF O O (G0 _)) (Bf O (Av O (fun c8=>?_) (fun c8=>?_)))))))
    ·(try simp only[sd,se] at c8);refine Au (Aw (Aq O (Ax JB O O) (Aq O (Bv (i:=1) Kf O O (Fp _) (Cy _)) (Aq O (CJ Fi Yn O) (DW O O (B2 O O (Bl.args (TG (KX x.tree) x.tree (E3.mk 0 (.mk 0 0 ⟨#[]⟩ [] []:Tm) 0 []) (Nat.le_refl _) (Im h2.bs hx).tr) (aw (we O) (aw (C7 O) (Eg)))) (.inl O)) ?_)))));rintro _ ⟨q1,rfl,hq⟩;refine Ar A0 1 [] O (Av O (fun c9=>?_) (fun c9=>?_))
     ·(try simp only[sd,se] at c9);refine As A0 1 [] O (Az (⟨O,_,_,⟨_,_,O,O,O⟩,(List.nil_sublist _),?_⟩))
      all_goals exact⟨⟨_,rfl,fun h=>absurd h Am⟩,rfl⟩
     (try simp only[sd,se] at c9);have hok:Ew x.tree:=XB (hq (by simpa using c9)).1 (hq (by simpa using c9)).2;refine A1 (Bh (A3 (Ar A0 3 [] O (⟨(i+1),AT,⟨by omega,Cu (p:=fun _ (y:F7)=>Ew y.tree) hC hx hok⟩,BY ⟨we rfl,we rfl,we rfl,we rfl,we rfl,trivial⟩ (leH (is:=[2,3]) rfl (wl (oe rfl) (wl (oe rfl) (DO))))⟩))))
    (try simp only[sd,se] at c8);refine A1 (Au (B6 (fun k=>Nat.beq k 12||Nat.beq k 16) EO (Bb A0 2 [3] O (Cc (j:=1) O O O (fun H i hi=>Bv (i:=i) Kf O hi (Fp _) (Cy _)) AB Ap (Bb A0 2 [] O (Cc (j:=3) O O O (fun H i hi=>A2 (i:=i) ae O hi (I0 _)) AB Ap (Bb A0 1 [] O (Cc (j:=0) O O O (fun H i hi=>A2 (i:=i) Df O hi (EJ _)) AB Ap ?_))))))));obtain⟨x1,hx1⟩:=A6 (l:=s.env) (i:=(((Bq s.env x.ctor).1).decl:Int).toNat) (by have:=(List.getElem?_eq_some_iff.1 k2).1;omega);refine BL O (fun _=>A5 Ic O O An (Ed hx1) (Cr _)) Ap (Bb A0 2 [] O (Cc (j:=0) O O O (fun H i hi=>A2 (i:=i) Df O hi (Gs _)) AB Ap ?_));refine JM [(14,.free (.p (I dp))),(15,.free (.p (I ((dp:Int)+(1:Int)))))] O O (B2 O O (W9 x1 (((Bq s.env x.ctor).1).item) (h3.all _ (List.mem_of_getElem? hx1)).din (h3.all _ (List.mem_of_getElem? hx1)).fx k3 (by have e:=Option.some.inj (k2.symm.trans hx1);subst e;exact k4)) (.inl O)) Aj (⟨_,0,O,by omega,by omega⟩) AB ?_;rintro _ ⟨e,rfl,he0,he1⟩;refine⟨Ap,?_⟩;refine Bb A0 3 [] O (JM [] O O (B2 O O (ih s x.tree ((vs:Int)+(e:Int)) ((dp:Int)+(1:Int)) (by have:=Qp hx;omega) (Im h2.bs hx).tr h3 h4 h5 An An) (.inl O)) Aj (⟨_,1,O,fun h=>absurd h Am⟩) AB ?_);rintro _ ⟨e1,rfl,he⟩;refine⟨AM,?_⟩;refine B4 A0 1 [] O (As A0 2 [] O (Av O (fun c9=>?_) (fun c9=>?_)))
    ·(try simp only[sd,se] at c9);refine As A0 2 [] O (Az (⟨O,_,_,⟨_,_,O,O,O⟩,(List.nil_sublist _),?_⟩))
     all_goals exact⟨⟨_,rfl,fun h=>absurd h Ak⟩,rfl⟩
    (try simp only[sd,se] at c9);have hok:= @he An;refine A1 (A3 (Ar A0 3 [] O (⟨(i+1),AT,⟨by omega,Cu (p:=fun _ (y:F7)=>Ew y.tree) hC hx hok⟩,BY ⟨we rfl,we rfl,we rfl,we rfl,we rfl,trivial⟩ (leH (is:=[2,3]) rfl (wl (oe rfl) (wl (oe rfl) (DO))))⟩)))
   (try simp only[sd,se] at c6);refine Bh (As A0 1 [] O (Az (⟨O,_,_,⟨_,_,O,O,O⟩,(List.nil_sublist _),?_⟩)))
   all_goals exact⟨⟨_,rfl,fun _=>QR (by rw[HQ.1 hz0];exact Ho) (HO An hC)⟩,rfl⟩
  (try simp only[sd,se] at c2);refine As A0 1 [] O (Az (⟨O,_,_,⟨_,_,O,O,O⟩,(List.nil_sublist _),?_⟩))
  all_goals exact⟨⟨_,rfl,fun h=>absurd h Am⟩,rfl⟩
theorem Y3:∀(ds:List CC) (d:CC),(Lz ds)→(OB d)→(UO d)→FY Tryz.prog 136 [.p (.lst (List.map Bj ds)),.agg ((Bj d).map .p)] (fun v=>∃ee:Int,v= .p (I ee)∧(ee=0→cw d)):=by
 intro ds d h1 h2 h3;have hn:=MK d;have hcl:=h2.cl;have hfl:=h2.fl;have hrl:=h2.rl;refine A4 Tryz.func136 O kh (n:=161) O O (Aw (BG O (BO O) fun b3=>Ar A0 1 [] O (Aw (Ay A0 2 [0] O (Aq O (aa M3 iM (mQ O O O)) (BG O (A7 iM O) fun b5=>Ar A0 1 [0,1] O (Au (Aw (Aq O (Ax C3 O O) (Aq O (A2 (i:=1) Df O O (Dh _)) (Ar A0 1 [] O (BU [3,5] 17 (fun _=>True) ?_ ?_))))))))))))
 ·refine Av O (fun c=>?_) (fun c=>?_)
  ·(try simp only[sd,se] at c);refine Aw (Ay A0 2 [0] O (Aq O (Bv (i:=1) BQ O O (FI _) (BB _)) (Aq O (Ax C3 O O) (Aq O (A2 (i:=1) Df O O (Ca _)) (DW O O (B2 O O (GV (Oq.mk ds [] d) d.type 0 d.params h2.ty h1.env Ao h2 An) (.inl O)) ?_)))));rintro _ ⟨e,rfl,he⟩;refine Ar A0 1 [] O (As A0 2 [] O (Av O (fun c1=>?_) (fun c1=>?_)))
   ·(try simp only[sd,se] at c1);refine As A0 2 [] O (Az (⟨O,_,_,⟨_,_,O,O,O⟩,(List.nil_sublist _),?_⟩))
    all_goals exact⟨⟨_,rfl,fun h=>absurd h Ak⟩,rfl⟩
   (try simp only[sd,se] at c1);exact A1 (⟨O,O,(List.Sublist.refl _),Ap,⟨O,O,Ap⟩⟩)
  (try simp only[sd,se] at c);exact A1 (⟨O,O,(List.Sublist.refl _),Ap,⟨O,O,Ap⟩⟩)
 intro _ _;refine Au (Aw (Aq O (Ax C3 O O) (Aq O (A2 (i:=1) Df O O (Dh _)) (Bf O (A8 (Au (As A0 2 [] O (BU [3,5,33] 34 (fun y=>y= .p (.bool (decide (d.kind=1∨d.kind=2)))) ?_ ?_))))))))
 ·refine Av O (fun c=>?_) (fun c=>?_)
  ·(try simp only[sd,se] at c);exact A1 (⟨O,O,(List.Sublist.refl _),(by refine pB (Bool.eq_iff_iff.2 ?_);simp only[beq_iff_eq,decide_eq_true_eq];omega),⟨O,O,O,Ap⟩⟩)
  (try simp only[sd,se] at c);exact A3 (Ar A0 2 [] O (⟨O,O,(List.Sublist.refl _),(by refine pB (Bool.eq_iff_iff.2 ?_);simp only[beq_iff_eq,decide_eq_true_eq];omega),⟨O,O,O,Ap⟩⟩))
 rintro _ rfl;refine Av O (fun c=>?_) (fun c=>?_)
 ·(try simp only[sd,se] at c);have hk12:d.kind=1∨d.kind=2:=by simpa using c
  refine Aw (Ay A0 2 [0] O (Aq O (Bv (i:=1) BQ O O (FP _) (BB _)) (Aq O (Ax C3 O O) (Aq O (A2 (i:=1) Df O O (Ca _)) (DW O O (B2 O O (GV (Oq.mk ds [] d) d.value 0 d.params h2.vl h1.env Ao h2 An) (.inl O)) ?_)))));rintro _ ⟨e,rfl,he⟩;refine Ar A0 1 [] O (Az (⟨O,_,_,⟨_,_,O,O,O⟩,(List.nil_sublist _),?_⟩))
  all_goals exact⟨⟨_,rfl,fun h=>⟨fun _=>he h,fun _=>by omega,fun _=>by omega⟩⟩,rfl⟩
 (try simp only[sd,se] at c);have hk12:¬(d.kind=1∨d.kind=2):=by simpa using c
 refine As A0 2 [] O (Av O (fun c1=>?_) (fun c1=>?_))
 ·(try simp only[sd,se] at c1);have hn1:=Zy (d:=d) (by simpa using c1);have hk3:=c1;refine Aw (Aq O (Ax C3 O O) (Aq O (A2 (i:=1) MR O O (DV _)) (Aq O (Bx GB ed O O O O O) (Aq O (Ax M3 O O) (Aq O (Dg (i:=0) (ds:=(Fg (Oq.mk ds [d.name] d)).map .p) Un O O O O O O O) (Bf O (Au (As A0 1 [] O (A8 (Be (α:=Nat) (fun i=>⟨161,mk [(3,.ptr b3 0),(5,.ptr b5 0),(7,.p (I (i:Int)))],[.box b5 ((Fg (Oq.mk ds [d.name] d)).map .p),.box b3 ((Bj d).map .p)],[]⟩) (fun i=>d.ctors.length - i) (fun i=>i≤d.ctors.length) 0 AO ?_ ?_))))))))))
  ·exact BY ⟨we O,we O,we O,Ap⟩ (leH (is:=[0,1]) O (wl (oe O) (wl (oe O) (DO))))
  rintro i hC
  try simp only at hC
  have hi:=hC;refine Au (Aw (Ay A0 2 [] O (Aq O (A2 (i:=1) IH O O (CF _)) (Aq O (BM Hh O (List.length_map _)) (Ar A0 1 [] O (Av O (fun c2=>?_) (fun c2=>?_)))))))
  ·(try simp only[sd,se] at c2);refine A1 (Au (A8 (Au (B6 (fun k=>Nat.beq k 9) EO (Bb A0 2 [0] O (Cc (j:=1) O O O (fun H i hi=>A2 (i:=i) IH O hi (CF _)) AB Ap (BL O (fun _=>BT O) Ap ?_)))))));obtain⟨x,hx⟩:=A6 (l:=d.ctors) (i:=i) An;refine BL O (fun _=>A5 Hh O O An (EZ hx) (D7 _)) Ap (BL O (fun _=>Bz I2 O O) Ap (BL O (fun _=>DL BQ O (FH _) (BB _)) Ap (BL O (fun _=>Ax C3 O O) Ap (Cc (j:=1) O O O (fun H i hi=>A2 (i:=i) Df O hi (Ca _)) AB Ap (JM [] O O (B2 O O (GV (Oq.mk ds [d.name] d) x.type 0 d.params (h2.cs _ (List.mem_of_getElem? hx)).ty h1.env Ao h2 An) (.inl O)) Aj (⟨_,1,O,fun h=>absurd h Am⟩) AB ?_)))));rintro _ ⟨e,rfl,he⟩;refine⟨Ap,?_⟩;refine B4 A0 1 [] O (As A0 2 [] O (Av O (fun c3=>?_) (fun c3=>?_)))
   ·(try simp only[sd,se] at c3);refine As A0 2 [] O (Az (⟨O,_,_,⟨_,_,O,O,O⟩,(List.nil_sublist _),?_⟩))
    all_goals exact⟨⟨_,rfl,fun h=>absurd h Ak⟩,rfl⟩
   (try simp only[sd,se] at c3);refine A1 (A3 (Ar A0 3 [] O ?_));refine⟨(i+1),AT,by omega,BY ⟨we rfl,we rfl,we rfl,trivial⟩ (leH (is:=[0,1]) rfl (wl (oe rfl) (wl (oe rfl) (DO))))⟩
  (try simp only[sd,se] at c2);refine Bh (Aw (Aq O (BP (i:=1) Gg O O Ad) (Aq O (BF O O (Lh d h2.cl h2.fl h2.nm) O) (Ar A0 1 [] O (Aw (Ay A0 2 [] O (Aq O (BM GB O (List.length_map _)) (Aq O (Pk O O An An) (Aq O (Co (lo:=0) (hi:=((((Ck d).length:Nat):Int) - (1:Int):Int).toNat) GB O (CB (JO _)) O ⟨_,pI An⟩ (Nat.zero_le _) AP (WB (f:=F3) (Ck d) (((((Ck d).length:Nat):Int) - (1:Int):Int).toNat))) (Aq O (Ax M3 O O) (Aq O (Dg (i:=0) (ds:=(Fg (Oq.mk ds ((Ck d).take (((((Ck d).length:Nat):Int) - (1:Int):Int).toNat)) d)).map .p) Un O O O O O O O) (Bf O (Au (Aw (Ay A0 3 [0] O (Aq O (Bv (i:=1) BQ O O (Ea _) (BB _)) (Ay A0 2 [] O ?_)))))))))))))))));refine Aq O (A2 (i:=1) Df O O (DE _)) (DW O O (B2 O O (GV (Oq.mk ds ((Ck d).take (((((Ck d).length:Nat):Int) - (1:Int):Int).toNat)) d) d.recs.type 0 d.recs.params h2.rt h1.env Ai h2 An) (.inl O)) ?_);rintro _ ⟨e,rfl,he⟩;refine Ar A0 1 [] O (As A0 2 [] O (Av O (fun c3=>?_) (fun c3=>?_)))
  ·(try simp only[sd,se] at c3);refine As A0 2 [] O (Az (⟨O,_,_,⟨_,_,O,O,O⟩,(List.nil_sublist _),?_⟩))
   all_goals exact⟨⟨_,rfl,fun h=>absurd h Ak⟩,rfl⟩
  (try simp only[sd,se] at c3);refine A1 (Aw (Ay A0 2 [] O (Aq O (Dg (i:=0) (ds:=(Fg (Oq.mk ds (Ck d) d)).map .p) Un O O O O O O O) (Bf O (As A0 1 [] O (A8 ?_))))));refine Be (α:=Nat) (fun i=>⟨161,mk [(3,.ptr b3 0),(5,.ptr b5 0),(11,.p (I (i:Int)))],[.box b5 ((Fg (Oq.mk ds (Ck d) d)).map .p),.box b3 ((Bj d).map .p)],[]⟩) (fun i=>d.recs.rules.length - i) (fun i=>i≤d.recs.rules.length∧(∀j,j<i→∀x,d.recs.rules[j]?=some x→okB x=true)) 0 (⟨by omega,fun j h=>by omega⟩) ?_ ?_
  ·exact BY ⟨we O,we O,we O,Ap⟩ (leH (is:=[0,1]) O (wl (oe O) (wl (oe O) (DO))))
  rintro i hC1
  try simp only at hC1
  obtain⟨hi,hR⟩:=hC1;refine Au (Aw (Ay A0 3 [] O (Aq O (A2 (i:=1) GY O O (Ch _)) (Aq O (BM Bg O (BR _)) (Ar A0 1 [] O (Av O (fun c4=>?_) (fun c4=>?_)))))))
  ·(try simp only[sd,se] at c4);refine A1 (Au (A8 (Au (B6 (fun k=>Nat.beq k 10) EO (Bb A0 3 [0] O (Cc (j:=1) O O O (fun H i hi=>A2 (i:=i) GY O hi (Ch _)) AB Ap (BL O (fun _=>BT O) Ap ?_)))))));obtain⟨x,hx⟩:=A6 (l:=d.recs.rules) (i:=i) An;refine BL O (fun _=>A5 Bg O O An (Bd hx) (BB _)) Ap (Bb A0 3 [] O (Cc (j:=1) O O O (fun H i hi=>A2 (i:=i) Df O hi (DE _)) AB Ap (JM [] O O (B2 O O (GV (Oq.mk ds (Ck d) d) x 0 d.recs.params (h2.rs _ (List.mem_of_getElem? hx)) h1.env Ab h2 An) (.inl O)) Aj (⟨_,1,O,fun h=>absurd h Am⟩) AB ?_)));rintro _ ⟨e1,rfl,he1⟩;refine⟨Ap,?_⟩;refine B4 A0 1 [] O (As A0 2 [] O (Av O (fun c5=>?_) (fun c5=>?_)))
   ·(try simp only[sd,se] at c5);refine As A0 2 [] O (Az (⟨O,_,_,⟨_,_,O,O,O⟩,(List.nil_sublist _),?_⟩))
    all_goals exact⟨⟨_,rfl,fun h=>absurd h Ak⟩,rfl⟩
   (try simp only[sd,se] at c5);refine A1 (A3 (Ar A0 3 [] O (⟨(i+1),AT,⟨by omega,Cu (p:=fun _ (y:Tm)=>okB y=true) hR hx (he1 An)⟩,BY ⟨we rfl,we rfl,we rfl,trivial⟩ (leH (is:=[0,1]) rfl (wl (oe rfl) (wl (oe rfl) (DO))))⟩)))
  (try simp only[sd,se] at c4);refine Bh (As A0 1 [] O (Az (⟨O,_,_,⟨_,_,O,O,O⟩,(List.nil_sublist _),?_⟩)))
  all_goals exact⟨⟨_,rfl,fun _=>⟨fun _=>by omega,fun _=>HO An hR,fun _=>by omega⟩⟩,rfl⟩
 (try simp only[sd,se] at c1);have hk3:=c1;refine As A0 2 [] O (Av O (fun c2=>?_) (fun c2=>?_))
 ·(try simp only[sd,se] at c2);refine Au (As A0 1 [] O (A8 (Be (α:=Nat) (fun i=>⟨161,mk [(3,.ptr b3 0),(5,.ptr b5 0),(13,.p (I (i:Int)))],[.box b5 ((Fg (Oq.mk ds [] d)).map .p),.box b3 ((Bj d).map .p)],[]⟩) (fun i=>d.funs.length - i) (fun i=>i≤d.funs.length) 0 AO ?_ ?_)))
  ·exact BY ⟨we O,we O,we O,Ap⟩ (leH (is:=[0,1]) O (wl (oe O) (wl (oe O) (DO))))
  rintro i hC
  try simp only at hC
  have hi:=hC;refine Au (Aw (Ay A0 2 [] O (Aq O (A2 (i:=1) HI O O (CA _)) (Aq O (BM Gp O (List.length_map _)) (Ar A0 1 [] O (Av O (fun c3=>?_) (fun c3=>?_)))))))
  ·(try simp only[sd,se] at c3);refine A1 (Au (A8 (Au (B6 (fun k=>Nat.beq k 9) EO (Bb A0 2 [0] O (Cc (j:=1) O O O (fun H i hi=>A2 (i:=i) HI O hi (CA _)) AB Ap (BL O (fun _=>BT O) Ap ?_)))))));obtain⟨x,hx⟩:=A6 (l:=d.funs) (i:=i) An;refine BL O (fun _=>A5 Gp O O An (ET hx) (Da _)) Ap (BL O (fun _=>Bz G4 O O) Ap (BL O (fun _=>DL BQ O (IE _) (BB _)) Ap (BL O (fun _=>Ax C3 O O) Ap (Cc (j:=1) O O O (fun H i hi=>A2 (i:=i) Df O hi (Ca _)) AB Ap (JM [] O O (B2 O O (GV (Oq.mk ds [] d) x.type 0 d.params (h2.fs _ (List.mem_of_getElem? hx)).ty h1.env Ao h2 An) (.inl O)) Aj (⟨_,1,O,fun h=>absurd h Am⟩) AB ?_)))));rintro _ ⟨e,rfl,he⟩;refine⟨Ap,?_⟩;refine B4 A0 1 [] O (As A0 2 [] O (Av O (fun c4=>?_) (fun c4=>?_)))
   ·(try simp only[sd,se] at c4);refine As A0 2 [] O (Az (⟨O,_,_,⟨_,_,O,O,O⟩,(List.nil_sublist _),?_⟩))
    all_goals exact⟨⟨_,rfl,fun h=>absurd h Ak⟩,rfl⟩
   (try simp only[sd,se] at c4);refine A1 (A3 (Ar A0 3 [] O ?_));refine⟨(i+1),AT,by omega,BY ⟨we rfl,we rfl,we rfl,trivial⟩ (leH (is:=[0,1]) rfl (wl (oe rfl) (wl (oe rfl) (DO))))⟩
  (try simp only[sd,se] at c3);refine Bh (Aw (Aq O (BP (i:=1) Gg O O Ad) (Aq O (BF O O (Lh d h2.cl h2.fl h2.nm) O) (Aq O (Ax M3 O O) (Aq O (Dg (i:=0) (ds:=(Fg (Oq.mk ds (Ck d) d)).map .p) Un O O O O O O O) (Bf O (As A0 1 [] O (A8 ?_))))))));refine Be (α:=Nat) (fun i=>⟨161,mk [(3,.ptr b3 0),(5,.ptr b5 0),(15,.p (I (i:Int)))],[.box b5 ((Fg (Oq.mk ds (Ck d) d)).map .p),.box b3 ((Bj d).map .p)],[]⟩) (fun i=>d.funs.length - i) (fun i=>i≤d.funs.length∧(∀j,j<i→∀x,d.funs[j]?=some x→Ew x.tree)) 0 (⟨by omega,fun j h=>by omega⟩) ?_ ?_
  ·exact BY ⟨we O,we O,we O,Ap⟩ (leH (is:=[0,1]) O (wl (oe O) (wl (oe O) (DO))))
  rintro i hC1
  try simp only at hC1
  obtain⟨hi,hT⟩:=hC1;refine Au (Aw (Ay A0 2 [] O (Aq O (A2 (i:=1) HI O O (CA _)) (Aq O (BM Gp O (List.length_map _)) (Ar A0 1 [] O (Av O (fun c4=>?_) (fun c4=>?_)))))))
  ·(try simp only[sd,se] at c4);refine A1 (Au (A8 (Au (B6 (fun k=>Nat.beq k 13) EO (Bb A0 2 [0] O (Cc (j:=1) O O O (fun H i hi=>A2 (i:=i) HI O hi (CA _)) AB Ap (BL O (fun _=>BT O) Ap ?_)))))));obtain⟨x,hx⟩:=A6 (l:=d.funs) (i:=i) An;refine BL O (fun _=>A5 Gp O O An (ET hx) (Da _)) Ap (BL O (fun _=>Bz G4 O O) Ap (BL O (fun _=>DL Kf O (EL _) (Cy _)) Ap (BL O (fun _=>Ax C3 O O) Ap (Cc (j:=1) O O O (fun H i hi=>A2 (i:=i) HI O hi (CA _)) AB Ap (BL O (fun _=>BT O) Ap (BL O (fun _=>A5 Gp O O An (ET hx) (Da _)) Ap (BL O (fun _=>Bz G4 O O) Ap (BL O (fun _=>DH Df O (CT _)) Ap ?_))))))));have hax:=h3.2.1 _ (List.mem_of_getElem? hx);refine JM [] O O (B2 O O (Wp (KX x.tree) (Oq.mk ds (Ck d) d) x.tree x.arity 0 (Nat.le_refl _) (h2.fs _ (List.mem_of_getElem? hx)).tr h1 Ab h2 An An) (.inl O)) Aj (⟨_,1,O,fun h=>absurd h Am⟩) AB ?_;rintro _ ⟨e,rfl,he⟩;refine⟨Ap,?_⟩;refine B4 A0 1 [] O (As A0 2 [] O (Av O (fun c5=>?_) (fun c5=>?_)))
   ·(try simp only[sd,se] at c5);refine As A0 2 [] O (Az (⟨O,_,_,⟨_,_,O,O,O⟩,(List.nil_sublist _),?_⟩))
    all_goals exact⟨⟨_,rfl,fun h=>absurd h Ak⟩,rfl⟩
   (try simp only[sd,se] at c5);refine A1 (A3 (Ar A0 3 [] O (⟨(i+1),AT,⟨by omega,Cu (p:=fun _ (y:Gh)=>Ew y.tree) hT hx (he An)⟩,BY ⟨we rfl,we rfl,we rfl,trivial⟩ (leH (is:=[0,1]) rfl (wl (oe rfl) (wl (oe rfl) (DO))))⟩)))
  (try simp only[sd,se] at c4);refine Bh (As A0 1 [] O (Az (⟨O,_,_,⟨_,_,O,O,O⟩,(List.nil_sublist _),?_⟩)))
  all_goals exact⟨⟨_,rfl,fun _=>⟨fun _=>by omega,fun _=>by omega,fun _=>HO An hT⟩⟩,rfl⟩
 (try simp only[sd,se] at c2);refine A1 (As A0 1 [] O (Az (⟨O,_,_,⟨_,_,O,O,O⟩,(List.nil_sublist _),?_⟩)))
 all_goals exact⟨⟨_,rfl,fun _=>⟨fun _=>by omega,fun _=>by omega,fun _=>by omega⟩⟩,rfl⟩
theorem aU:∀(ds:List CC) (d:CC),(Lz ds)→(OB d)→FY Tryz.prog 102 [.p (.lst (List.map Bj ds)),.agg ((Bj d).map .p)] (fun v=>∃ee:Int,v= .p (I ee)∧(ee=0→DG d)):=by
 intro ds d h1 h2;refine A4 Tryz.func102 O l9 (n:=32) O O (Aw (BG O (BO O) fun b3=>Ar A0 1 [] O (Au (Au (BU [0,3] 14 (fun y=>y= .p (.bool ((decide ((d.kind:Int)<(0:Int)))||(decide ((d.kind:Int) > (4:Int)))))) ?_ ?_)))))
 ·refine A3 (Aq O (Ax C3 O O) (Aq O (A2 (i:=0) Df O O (Dh _)) (Ay A0 2 [] O (BI 10 O (fun g=>?_) (fun g=>?_)))))
  ·(try simp only[sd,se] at g);exact Ar A0 4 [] O (⟨O,O,AJ,AH,⟨O,O,Ap⟩⟩)
  (try simp only[sd,se] at g);exact BA O (Ax C3 O O) (BA O (A2 (i:=0) Df O O (Dh _)) (Ar A0 2 [] O (⟨O,O,AJ,AH,⟨O,O,Ap⟩⟩)))
 rintro _ rfl;refine Av O (fun c=>?_) (fun c=>?_)
 ·(try simp only[sd,se] at c);refine As A0 1 [] O (Az (⟨O,_,_,⟨_,_,O,O,O⟩,(List.nil_sublist _),?_⟩))
  all_goals exact⟨⟨_,rfl,fun h=>absurd h Am⟩,rfl⟩
 (try simp only[sd,se] at c);have hk:0≤d.kind∧d.kind≤4:=by omega
 refine A1 (Au (Aw (Aq O (BP (i:=0) Gg O O Ad) (DW O O (B2 O O (XG d h2 hk) (.inl O)) ?_))));rintro _ ⟨q,rfl,hq⟩;refine Ar A0 1 [] O (Av O (fun c1=>?_) (fun c1=>?_))
 ·(try simp only[sd,se] at c1);refine As A0 1 [] O (Az (⟨O,_,_,⟨_,_,O,O,O⟩,(List.nil_sublist _),?_⟩))
  all_goals exact⟨⟨_,rfl,fun h=>absurd h Am⟩,rfl⟩
 (try simp only[sd,se] at c1);have hu:=hq (by simpa using c1);refine A1 (Au (Aw (Aq O (BP (i:=0) Gg O O Ad) (DW O O (B2 O O (WQ d h2) (.inl O)) ?_))));rintro _ ⟨e,rfl,he⟩;refine Ar A0 1 [] O (As A0 2 [] O (Av O (fun c2=>?_) (fun c2=>?_)))
 ·(try simp only[sd,se] at c2);refine As A0 2 [] O (Az (⟨O,_,_,⟨_,_,O,O,O⟩,(List.nil_sublist _),?_⟩))
  all_goals exact⟨⟨_,rfl,fun h=>absurd h Ak⟩,rfl⟩
 (try simp only[sd,se] at c2);have hcn:=he An;refine A1 (Au (Aw (Ay A0 2 [0] O (DW O O (B2 O O (RX ds d h1.env h2) (.inl O)) ?_))));rintro _ ⟨e1,rfl⟩;refine Ar A0 1 [] O (As A0 2 [] O (Av O (fun c3=>?_) (fun c3=>?_)))
 ·(try simp only[sd,se] at c3);refine As A0 2 [] O (Az (⟨O,_,_,⟨_,_,O,O,O⟩,(List.nil_sublist _),?_⟩))
  all_goals exact⟨⟨_,rfl,fun h=>absurd h Ak⟩,rfl⟩
 (try simp only[sd,se] at c3);refine A1 (Aw (Ay A0 2 [0] O (DW O O (B2 O O (Y3 ds d h1 h2 hcn) (.inl O)) ?_)));rintro _ ⟨e2,rfl,he1⟩;refine Ar A0 1 [] O (Az (⟨O,_,_,⟨_,_,O,O,O⟩,(List.nil_sublist _),?_⟩))
 all_goals exact⟨⟨_,rfl,fun h=>mA h2 hk hu hcn (he1 h)⟩,rfl⟩
theorem V5:∀(ds:List CC),(Hn ds)→FY Tryz.prog 66 [.p (.lst (List.map Bj ds))] (fun v=>∃a e:Int,v= .tup [.p (I a),.p (I e)]∧(e=0→Lz ds)):=by
 intro ds h1;have hl:=h1.len;refine A4 Tryz.func66 O oT (n:=27) O O (As A0 2 [] O (Au (Aw (Br O (Aq O (BM Ic O (List.length_map _)) (Ar A0 1 [] O (Av O (fun c=>?_) (fun c=>?_))))))))
 ·(try simp only[sd,se] at c);refine As A0 2 [] O (Az (⟨O,_,_,⟨_,_,O,O,⟨_,_,O,O,O⟩⟩,(List.nil_sublist _),?_⟩))
  all_goals exact⟨⟨_,_,rfl,fun h=>absurd h Am⟩,rfl⟩
 (try simp only[sd,se] at c);refine A1 (Au (As A0 1 [] O (A8 ?_)));refine Be (α:=Nat) (fun i=>⟨27,mk [(0,.p (.lst (List.map Bj ds))),(4,.p (I (i:Int)))],[],[]⟩) (fun i=>ds.length - i) (fun i=>i≤ds.length∧(∀j,j<i→∀x,ds[j]?=some x→DG x)) 0 (⟨by omega,fun j h=>by omega⟩) ?_ ?_
 ·exact BY ⟨we O,we O,Ap⟩ (leH (is:=[]) O (DO))
 rintro i hC
 try simp only at hC
 obtain⟨hi,hC⟩:=hC;refine Au (Aw (Ay A0 2 [] O (Aq O (BM Ic O (List.length_map _)) (Ar A0 1 [] O (Av O (fun c1=>?_) (fun c1=>?_))))))
 ·(try simp only[sd,se] at c1);refine A1 (Au (A8 (Au (B6 (fun k=>Nat.beq k 7) EO (Bb A0 2 [] O (BL O (fun _=>Co (lo:=0) (hi:=i) Ic O (CB (Zv _)) O ⟨_,O⟩ (Nat.zero_le _) AP (WB (f:=Bj) ds i)) Ap (Bb A0 2 [] O ?_)))))));obtain⟨x,hx⟩:=A6 (l:=ds) (i:=i) An;refine BL O (fun _=>A5 Ic O O An (Ed hx) (Cr _)) Ap (BL O (fun _=>BJ Gg O (Cr _)) Ap (JM [] O O (B2 O O (aU (ds.take i) x (Zx h1 hC) (h1.all _ (List.mem_of_getElem? hx))) (.inl O)) Aj (⟨_,1,O,fun h=>absurd h Am⟩) AB ?_));rintro _ ⟨e,rfl,he⟩;refine⟨Ap,?_⟩;refine B4 A0 1 [] O (As A0 2 [] O (Av O (fun c2=>?_) (fun c2=>?_)))
  ·(try simp only[sd,se] at c2);refine As A0 4 [] O (Az (⟨O,_,_,⟨_,_,O,O,⟨_,_,O,O,O⟩⟩,(List.nil_sublist _),?_⟩))
   all_goals exact⟨⟨_,_,rfl,fun h=>absurd h Ak⟩,rfl⟩
  (try simp only[sd,se] at c2);refine A1 (A3 (Ar A0 3 [] O (⟨(i+1),AT,⟨by omega,Cu (p:=fun _ (y:CC)=>DG y) hC hx (he An)⟩,BY ⟨we rfl,we rfl,trivial⟩ (leH (is:=[]) rfl (DO))⟩)))
 (try simp only[sd,se] at c1);refine Bh (As A0 2 [] O (Az (⟨O,_,_,⟨_,_,O,O,⟨_,_,O,O,O⟩⟩,(List.nil_sublist _),?_⟩)))
 all_goals exact⟨⟨_,_,rfl,fun _=>⟨h1,HO An hC⟩⟩,rfl⟩
theorem HB:∀(t:Tm),(TB t)→E4 Tryz.prog 131 [.agg ((BK t).map .p)] (.p (.bool (decide (FL t≤400)&&decide (En t≤150)))):=by
 intro t h1;refine A4 Tryz.func131 O nu (n:=11) O O (Aw (BG O (BO O) fun b1=>Ar A0 1 [] O (Au (BU [] 2 (fun y=>y= .p (.bool ((decide ((FL t:Int)≤(400:Int)))&&(decide ((En t:Int)≤(150:Int)))))) ?_ ?_))))
 ·refine A3 (Aq O (BP (i:=0) BQ O O Ag) (Aq O (BF O O (T9 _ t (Nat.le_refl _) h1.nd) O) (Ay A0 2 [] O (BI 6 O (fun g=>?_) (fun g=>?_)))))
  ·(try simp only[sd,se] at g);exact BA O (BP (i:=0) BQ O O Ag) (BA O (BF O O (QT _ t (Nat.le_refl _) h1.nd) O) (Ar A0 3 [] O ⟨O,O,AJ,AH,Ap⟩))
  (try simp only[sd,se] at g);exact Ar A0 5 [] O ⟨O,O,AJ,AH,Ap⟩
 rintro _ rfl;refine Az (⟨O,_,_,⟨_,_,O,O,O⟩,(List.nil_sublist _),?_⟩)
 all_goals exact⟨rfl,rfl⟩
theorem Rg:∀(n:Nat) (t:E3) (dp:Int),(KX t≤n)→(Gj t)→(-1000<dp∧dp<1000)→FY Tryz.prog 132 [.agg ((C4 t).map .p),.p (I dp)] (fun v=>∃bb:Bool,v= .p (.bool bb)∧(bb=true→(DY t:Int)≤42 - dp)):=by
 intro n
 induction n with
 | zero=>intro t dp h;have:=OY t;omega
 | succ n ih =>
  intro t dp h1 h2 h3;have htl:=h2.bl;refine A4 Tryz.func132 O lr (n:=47) O O (Aw (BG O (BO O) fun b2=>Ar A0 1 [] O (Au (Au (BU [1,2] 19 (fun y=>∃q:Bool,y= .p (.bool q)∧(q=false→dp≤40)) ?_ ?_)))))
  ·refine A3 (Ay A0 3 [] O (BI 8 O (fun g=>?_) (fun g=>?_)))
   ·(try simp only[sd,se] at g);exact Ar A0 11 [] O (⟨O,O,AJ,(by refine⟨_,rfl,fun h=>?_⟩;first | (exact absurd h Am) | omega),⟨O,O,Ap⟩⟩)
   (try simp only[sd,se] at g);refine BA O (Ax Fi O O) (BA O (A2 (i:=0) Lx O O (CL _)) (BA O (BM Kg O (Fq _)) (Ay A0 3 [] O (BI 14 O (fun g1=>?_) (fun g1=>?_)))))
   ·(try simp only[sd,se] at g1);exact Ar A0 5 [] O (⟨O,O,AJ,(by refine⟨_,rfl,fun h=>?_⟩;first | (exact absurd h Am) | omega),⟨O,O,Ap⟩⟩)
   (try simp only[sd,se] at g1);exact BA O (Ax Fi O O) (BA O (Bv (i:=0) BQ O O (FC _) (BB _)) (BA O (BF O O (HB t.body h2.body) O) (Ar A0 2 [] O (⟨O,O,AJ,(by refine⟨_,rfl,fun h=>?_⟩;first | (exact absurd h Am) | omega),⟨O,O,Ap⟩⟩))))
  rintro _ ⟨q,rfl,hq⟩;refine Av O (fun c=>?_) (fun c=>?_)
  ·(try simp only[sd,se] at c);refine As A0 1 [] O (Az (⟨O,_,_,⟨_,_,O,O,O⟩,(List.nil_sublist _),?_⟩))
   all_goals exact⟨⟨_,rfl,fun h=>absurd h Am⟩,rfl⟩
  (try simp only[sd,se] at c);have hq1:=hq (by simpa using c);refine A1 (Au (As A0 1 [] O (A8 ?_)));refine Be (α:=Nat) (fun i=>⟨47,mk [(1,.p (I dp)),(2,.ptr b2 0),(5,.p (I (i:Int)))],[.box b2 ((C4 t).map .p)],[]⟩) (fun i=>t.branches.length - i) (fun i=>i≤t.branches.length∧(∀j,j<i→∀x,t.branches[j]?=some x→(DY x.tree:Int)≤42 - (dp+1))) 0 (⟨by omega,fun j h=>by omega⟩) ?_ ?_
  ·exact BY ⟨we O,we O,we O,Ap⟩ (leH (is:=[0]) O (wl (oe O) (DO)))
  rintro i hC
  try simp only at hC
  obtain⟨hi,hC⟩:=hC;refine Au (Aw (Ay A0 2 [] O (Aq O (A2 (i:=0) Lx O O (CL _)) (Aq O (BM Kg O (Fq _)) (Ar A0 1 [] O (Av O (fun c1=>?_) (fun c1=>?_)))))))
  ·(try simp only[sd,se] at c1);obtain⟨x,hx⟩:=A6 (l:=t.branches) (i:=i) An;refine A1 (Au (A8 (Au (BU [1,2,5] 46 (fun y=>∃q:Bool,y= .p (.bool q)∧(q=false→(DY x.tree:Int)≤42 - (dp+1))) ?_ ?_))))
   ·refine A3 (Aq O (Ax Fi O O) (Aq O (A2 (i:=0) Lx O O (CL _)) (Br O (Aq O (A5 Kg O O An (Ga hx) (Dc _)) (Aq O (Bz JB O O) (Aq O (DL Kf O (Fp _) (Cy _)) (Ay A0 2 [] O (DW O O (B2 O O (ih x.tree ((dp:Int)+(1:Int)) (by have:=Qp hx;omega) (Im h2.bs hx).tr An) (.inl O)) ?_))))))));rintro _ ⟨q1,rfl,hq⟩;refine Ay A0 2 [] O (BI 37 O (fun g=>?_) (fun g=>?_))
    ·(try simp only[sd,se] at g);exact Ar A0 9 [] O (⟨O,O,AJ,(by refine⟨_,rfl,fun h=>?_⟩;first | (exact absurd h Am) | exact hq (by simpa using g)),⟨O,O,O,Ap⟩⟩)
    (try simp only[sd,se] at g);exact BA O (Ax Fi O O) (BA O (A2 (i:=0) Lx O O (CL _)) (BA O (BT O) (BA O (A5 Kg O O An (Ga hx) (Dc _)) (BA O (Bz JB O O) (BA O (DH MR O (Gv _)) (BA O (Ff iR O) (Ar A0 2 [] O (⟨O,O,AJ,(by refine⟨_,rfl,fun h=>?_⟩;first | (exact absurd h Am) | exact hq (by simpa using g)),⟨O,O,O,Ap⟩⟩))))))))
   rintro _ ⟨q,rfl,hqx⟩;refine Av O (fun c2=>?_) (fun c2=>?_)
   ·(try simp only[sd,se] at c2);refine As A0 1 [] O (Az (⟨O,_,_,⟨_,_,O,O,O⟩,(List.nil_sublist _),?_⟩))
    all_goals exact⟨⟨_,rfl,fun h=>absurd h Am⟩,rfl⟩
   (try simp only[sd,se] at c2);have hok:=hqx (by simpa using c2);refine A1 (A3 (Ar A0 3 [] O (⟨(i+1),AT,⟨by omega,Cu (p:=fun _ (y:F7)=>(DY y.tree:Int)≤42 - (dp+1)) hC hx hok⟩,BY ⟨we rfl,we rfl,we rfl,trivial⟩ (leH (is:=[0]) rfl (wl (oe rfl) (DO)))⟩)))
  (try simp only[sd,se] at c1);refine Bh (As A0 1 [] O (Az (⟨O,_,_,⟨_,_,O,O,O⟩,(List.nil_sublist _),?_⟩)))
  all_goals exact⟨⟨_,rfl,fun _=>gY hq1 (HO An hC)⟩,rfl⟩
theorem Vo:∀(d:CC),(OB d)→FY Tryz.prog 101 [.agg ((Bj d).map .p)] (fun v=>∃bb:Bool,v= .p (.bool bb)∧(bb=true→Sk d)):=by
 intro d h1;have hcl:=h1.cl;have hfl:=h1.fl;have hrl:=h1.rl;refine A4 Tryz.func101 O lN (n:=124) O O (Aw (BG O (BO O) fun b1=>Ar A0 1 [] O (Au (Au (BU [1] 47 (fun y=>∃q:Bool,y= .p (.bool q)∧(q=false→FL d.value≤400)) ?_ ?_)))))
 ·refine A3 (Aq O (Ax C3 O O) (Aq O (A2 (i:=0) MR O O (DV _)) (Aq O (Ff iR O) (Ay A0 2 [] O (BI 10 O (fun g=>?_) (fun g=>?_))))))
  ·(try simp only[sd,se] at g);exact Ar A0 37 [] O (⟨O,O,AJ,(by refine⟨_,rfl,fun h=>?_⟩;first | (exact absurd h Am) | (simp_all;done) | (simp_all;omega)),⟨O,Ap⟩⟩)
  (try simp only[sd,se] at g);refine BA O (Ax C3 O O) (BA O (Bv (i:=0) BQ O O (FI _) (BB _)) (BA O (BF O O (HB d.type h1.ty) O) (Ay A0 3 [] O (BI 16 O (fun g1=>?_) (fun g1=>?_)))))
  ·(try simp only[sd,se] at g1);exact Ar A0 31 [] O (⟨O,O,AJ,(by refine⟨_,rfl,fun h=>?_⟩;first | (exact absurd h Am) | (simp_all;done) | (simp_all;omega)),⟨O,Ap⟩⟩)
  (try simp only[sd,se] at g1);refine BA O (Ax C3 O O) (BA O (Bv (i:=0) BQ O O (FP _) (BB _)) (BA O (BF O O (HB d.value h1.vl) O) (Ay A0 3 [] O (BI 22 O (fun g2=>?_) (fun g2=>?_)))))
  ·(try simp only[sd,se] at g2);exact Ar A0 25 [] O (⟨O,O,AJ,(by refine⟨_,rfl,fun h=>?_⟩;first | (exact absurd h Am) | (simp_all;done) | (simp_all;omega)),⟨O,Ap⟩⟩)
  (try simp only[sd,se] at g2);refine BA O (Ax C3 O O) (BA O (A2 (i:=0) IH O O (CF _)) (BA O (BM Hh O (List.length_map _)) (Ay A0 3 [] O (BI 28 O (fun g3=>?_) (fun g3=>?_)))))
  ·(try simp only[sd,se] at g3);exact Ar A0 19 [] O (⟨O,O,AJ,(by refine⟨_,rfl,fun h=>?_⟩;first | (exact absurd h Am) | (simp_all;done) | (simp_all;omega)),⟨O,Ap⟩⟩)
  (try simp only[sd,se] at g3);refine BA O (Ax C3 O O) (BA O (A2 (i:=0) HI O O (CA _)) (BA O (BM Gp O (List.length_map _)) (Ay A0 3 [] O (BI 34 O (fun g4=>?_) (fun g4=>?_)))))
  ·(try simp only[sd,se] at g4);exact Ar A0 13 [] O (⟨O,O,AJ,(by refine⟨_,rfl,fun h=>?_⟩;first | (exact absurd h Am) | (simp_all;done) | (simp_all;omega)),⟨O,Ap⟩⟩)
  (try simp only[sd,se] at g4);refine Ay A0 2 [] O (BA O (Bv (i:=0) BQ O O (Ea _) (BB _)) (BA O (BF O O (HB d.recs.type h1.rt) O) (Ay A0 3 [] O (BI 41 O (fun g5=>?_) (fun g5=>?_)))))
  ·(try simp only[sd,se] at g5);exact Ar A0 6 [] O (⟨O,O,AJ,(by refine⟨_,rfl,fun h=>?_⟩;first | (exact absurd h Am) | (simp_all;done) | (simp_all;omega)),⟨O,Ap⟩⟩)
  (try simp only[sd,se] at g5);exact Ay A0 2 [] O (BA O (A2 (i:=0) GY O O (Ch _)) (BA O (BM Bg O (BR _)) (Ar A0 2 [] O (⟨O,O,AJ,(by refine⟨_,rfl,fun h=>?_⟩;first | (exact absurd h Am) | (simp_all;done) | (simp_all;omega)),⟨O,Ap⟩⟩))))
 rintro _ ⟨q,rfl,hq⟩;refine Av O (fun c=>?_) (fun c=>?_)
 ·(try simp only[sd,se] at c);refine As A0 1 [] O (Az (⟨O,_,_,⟨_,_,O,O,O⟩,(List.nil_sublist _),?_⟩))
  all_goals exact⟨⟨_,rfl,fun h=>absurd h Am⟩,rfl⟩
 (try simp only[sd,se] at c);have hq1:=hq (by simpa using c);refine A1 (Au (As A0 1 [] O (A8 (Be (α:=Nat) (fun i=>⟨124,mk [(1,.ptr b1 0),(3,.p (I (i:Int)))],[.box b1 ((Bj d).map .p)],[]⟩) (fun i=>d.ctors.length - i) (fun i=>i≤d.ctors.length) 0 AO ?_ ?_))))
 ·exact BY ⟨we O,we O,Ap⟩ (leH (is:=[0]) O (wl (oe O) (DO)))
 rintro i hC
 try simp only at hC
 have hi:=hC;refine Au (Aw (Ay A0 2 [] O (Aq O (A2 (i:=0) IH O O (CF _)) (Aq O (BM Hh O (List.length_map _)) (Ar A0 1 [] O (Av O (fun c1=>?_) (fun c1=>?_)))))))
 ·(try simp only[sd,se] at c1);refine A1 (Au (A8 (Au (BU [1,3] 72 Fz ?_ ?_))))
  ·refine A3 (Aq O (Ax C3 O O) (Aq O (A2 (i:=0) IH O O (CF _)) (Br O ?_)));obtain⟨x,hx⟩:=A6 (l:=d.ctors) (i:=i) An;refine Aq O (A5 Hh O O An (EZ hx) (D7 _)) (Aq O (Bz I2 O O) (Aq O (DH MR O (Fm _)) (Aq O (Ff iR O) (Ay A0 2 [] O (BI 63 O (fun g=>?_) (fun g=>?_))))))
   ·(try simp only[sd,se] at g);exact Ar A0 9 [] O (⟨O,O,AJ,⟨_,O⟩,⟨O,O,Ap⟩⟩)
   (try simp only[sd,se] at g);exact BA O (Ax C3 O O) (BA O (A2 (i:=0) IH O O (CF _)) (BA O (BT O) (BA O (A5 Hh O O An (EZ hx) (D7 _)) (BA O (Bz I2 O O) (BA O (DL BQ O (FH _) (BB _)) (BA O (BF O O (HB x.type (h1.cs _ (List.mem_of_getElem? hx)).ty) O) (Ar A0 2 [] O (⟨O,O,AJ,⟨_,O⟩,⟨O,O,Ap⟩⟩))))))))
  rintro _ ⟨q1,rfl⟩;refine Av O (fun c2=>?_) (fun c2=>?_)
  ·(try simp only[sd,se] at c2);refine As A0 1 [] O (Az (⟨O,_,_,⟨_,_,O,O,O⟩,(List.nil_sublist _),?_⟩))
   all_goals exact⟨⟨_,rfl,fun h=>absurd h Am⟩,rfl⟩
  (try simp only[sd,se] at c2);refine A1 (A3 (Ar A0 3 [] O ?_));refine⟨(i+1),AT,by omega,BY ⟨we rfl,we rfl,trivial⟩ (leH (is:=[0]) rfl (wl (oe rfl) (DO)))⟩
 (try simp only[sd,se] at c1);refine Bh (Au (As A0 1 [] O (A8 ?_)));refine Be (α:=Nat) (fun i=>⟨124,mk [(1,.ptr b1 0),(4,.p (I (i:Int)))],[.box b1 ((Bj d).map .p)],[]⟩) (fun i=>d.recs.rules.length - i) (fun i=>i≤d.recs.rules.length∧(∀j,j<i→∀x,d.recs.rules[j]?=some x→FL x≤400)) 0 (⟨by omega,fun j h=>by omega⟩) ?_ ?_
 ·exact BY ⟨we O,we O,Ap⟩ (leH (is:=[0]) O (wl (oe O) (DO)))
 rintro i hC1
 try simp only at hC1
 obtain⟨hi,hR⟩:=hC1;refine Au (Aw (Ay A0 3 [] O (Aq O (A2 (i:=0) GY O O (Ch _)) (Aq O (BM Bg O (BR _)) (Ar A0 1 [] O (Av O (fun c2=>?_) (fun c2=>?_)))))))
 ·(try simp only[sd,se] at c2);refine A1 (Au (A8 (Aw (Ay A0 2 [] O (Aq O (A2 (i:=0) GY O O (Ch _)) (Br O ?_))))));obtain⟨x,hx⟩:=A6 (l:=d.recs.rules) (i:=i) An;refine Aq O (A5 Bg O O An (Bd hx) (BB _)) (Aq O (BJ BQ O (BB _)) (Aq O (BF O O (HB x (h1.rs _ (List.mem_of_getElem? hx))) O) (Ar A0 1 [] O (Av O (fun c3=>?_) (fun c3=>?_)))))
  ·(try simp only[sd,se] at c3);refine As A0 1 [] O (Az (⟨O,_,_,⟨_,_,O,O,O⟩,(List.nil_sublist _),?_⟩))
   all_goals exact⟨⟨_,rfl,fun h=>absurd h Am⟩,rfl⟩
  (try simp only[sd,se] at c3);have hqr:FL x≤400:=by simp_all
  refine A1 (A3 (Ar A0 3 [] O (⟨(i+1),AT,⟨by omega,Cu (p:=fun _ (y:Tm)=>FL y≤400) hR hx hqr⟩,BY ⟨we rfl,we rfl,trivial⟩ (leH (is:=[0]) rfl (wl (oe rfl) (DO)))⟩)))
 (try simp only[sd,se] at c2);refine Bh (Au (As A0 1 [] O (A8 ?_)));refine Be (α:=Nat) (fun i=>⟨124,mk [(1,.ptr b1 0),(5,.p (I (i:Int)))],[.box b1 ((Bj d).map .p)],[]⟩) (fun i=>d.funs.length - i) (fun i=>i≤d.funs.length∧(∀j,j<i→∀x,d.funs[j]?=some x→(DY x.tree:Int)≤42 - 0)) 0 (⟨by omega,fun j h=>by omega⟩) ?_ ?_
 ·exact BY ⟨we O,we O,Ap⟩ (leH (is:=[0]) O (wl (oe O) (DO)))
 rintro i hC2
 try simp only at hC2
 obtain⟨hi,hT⟩:=hC2;refine Au (Aw (Ay A0 2 [] O (Aq O (A2 (i:=0) HI O O (CA _)) (Aq O (BM Gp O (List.length_map _)) (Ar A0 1 [] O (Av O (fun c3=>?_) (fun c3=>?_)))))))
 ·(try simp only[sd,se] at c3);obtain⟨x,hx⟩:=A6 (l:=d.funs) (i:=i) An;refine A1 (Au (A8 (Au (BU [1,5] 123 (fun y=>∃q:Bool,y= .p (.bool q)∧(q=false→(DY x.tree:Int)≤42 - 0)) ?_ ?_))))
  ·refine A3 (Aq O (Ax C3 O O) (Aq O (A2 (i:=0) HI O O (CA _)) (Br O (Aq O (A5 Gp O O An (ET hx) (Da _)) (Aq O (Bz G4 O O) (Aq O (DH MR O (II _)) (Aq O (Ff iR O) (Ay A0 2 [] O (BI 104 O (fun g=>?_) (fun g=>?_))))))))))
   ·(try simp only[sd,se] at g);exact Ar A0 19 [] O (⟨O,O,AJ,(by refine⟨_,rfl,fun h=>?_⟩;first | (exact absurd h Am) | exact hq (by simpa using h)),⟨O,O,Ap⟩⟩)
   (try simp only[sd,se] at g);refine BA O (Ax C3 O O) (BA O (A2 (i:=0) HI O O (CA _)) (BA O (BT O) (BA O (A5 Gp O O An (ET hx) (Da _)) (BA O (Bz G4 O O) (BA O (DL BQ O (IE _) (BB _)) (BA O (BF O O (HB x.type (h1.fs _ (List.mem_of_getElem? hx)).ty) O) (Ay A0 3 [] O (BI 114 O (fun g1=>?_) (fun g1=>?_)))))))))
   ·(try simp only[sd,se] at g1);exact Ar A0 9 [] O (⟨O,O,AJ,(by refine⟨_,rfl,fun h=>?_⟩;first | (exact absurd h Am) | exact hq (by simpa using h)),⟨O,O,Ap⟩⟩)
   (try simp only[sd,se] at g1);refine BA O (Ax C3 O O) (BA O (A2 (i:=0) HI O O (CA _)) (BA O (BT O) (BA O (A5 Gp O O An (ET hx) (Da _)) (BA O (Bz G4 O O) (BA O (DL Kf O (EL _) (Cy _)) (HU O O O O (B2 O O (Rg (KX x.tree) x.tree 0 (Nat.le_refl _) (h1.fs _ (List.mem_of_getElem? hx)).tr An) (.inl O)) ?_))))));rintro _ ⟨q1,rfl,hq⟩;exact Ar A0 2 [] O (⟨O,O,AJ,(by refine⟨_,rfl,fun h=>?_⟩;first | (exact absurd h Am) | exact hq (by simpa using h)),⟨O,O,Ap⟩⟩)
  rintro _ ⟨q,rfl,hqx⟩;refine Av O (fun c4=>?_) (fun c4=>?_)
  ·(try simp only[sd,se] at c4);refine As A0 1 [] O (Az (⟨O,_,_,⟨_,_,O,O,O⟩,(List.nil_sublist _),?_⟩))
   all_goals exact⟨⟨_,rfl,fun h=>absurd h Am⟩,rfl⟩
  (try simp only[sd,se] at c4);have hok:=hqx (by simpa using c4);refine A1 (A3 (Ar A0 3 [] O (⟨(i+1),AT,⟨by omega,Cu (p:=fun _ (y:Gh)=>(DY y.tree:Int)≤42 - 0) hT hx hok⟩,BY ⟨we rfl,we rfl,trivial⟩ (leH (is:=[0]) rfl (wl (oe rfl) (DO)))⟩)))
 (try simp only[sd,se] at c3);refine Bh (As A0 1 [] O (Az (⟨O,_,_,⟨_,_,O,O,O⟩,(List.nil_sublist _),?_⟩)))
 all_goals exact⟨⟨_,rfl,fun _=>a8 h1 hq1 (HO An hR) (HO An hT)⟩,rfl⟩
theorem gE:∀(ds:List CC),(Hn ds)→FY Tryz.prog 65 [.p (.lst (List.map Bj ds))] (fun v=>∃bb:Bool,v= .p (.bool bb)∧(bb=true→(∀d∈ds,Sk d)∧ds.length≤70)):=by
 intro ds h1;have hl:=h1.len;refine A4 Tryz.func65 O qA (n:=23) O O (As A0 1 [] O (Au (As A0 1 [] O (A8 ?_))));refine Be (α:=Nat) (fun i=>⟨23,mk [(0,.p (.lst (List.map Bj ds))),(3,.p (I (i:Int)))],[],[]⟩) (fun i=>ds.length - i) (fun i=>i≤ds.length∧(∀j,j<i→∀x,ds[j]?=some x→Sk x)) 0 (⟨by omega,fun j h=>by omega⟩) ?_ ?_
 ·exact BY ⟨we O,we O,Ap⟩ (leH (is:=[]) O (DO))
 rintro i hC
 try simp only at hC
 obtain⟨hi,hC⟩:=hC;refine Au (Au (BU [0,3] 11 (fun y=>∃q:Bool,y= .p (.bool q)∧(q=true→i<ds.length)∧(q=false→ds.length≤i∨80≤i)) ?_ ?_))
 ·refine A3 (Ay A0 2 [] O (Aq O (BM Ic O (List.length_map _)) (Ay A0 2 [] O (BI 8 O (fun g=>?_) (fun g=>?_)))))
  ·(try simp only[sd,se] at g);refine Ar A0 3 [] O ?_;exact⟨rfl,rfl,AJ,(by refine⟨_,rfl,fun h=>?_,fun h=>?_⟩<;>first | (exact absurd h Am) | omega | (simp only[decide_eq_true_eq,decide_eq_false_iff_not] at h;omega)),⟨rfl,rfl,trivial⟩⟩
  (try simp only[sd,se] at g);refine Ar A0 3 [] O ?_;exact⟨rfl,rfl,AJ,(by refine⟨_,rfl,fun h=>?_,fun h=>?_⟩<;>first | (exact absurd h Am) | omega | (simp only[decide_eq_true_eq,decide_eq_false_iff_not] at h;omega)),⟨rfl,rfl,trivial⟩⟩
 rintro _ ⟨q,rfl,hq,hqn⟩;refine Av O (fun c=>?_) (fun c=>?_)
 ·(try simp only[sd,se] at c);have hq1:=hq (by simpa using c);refine A1 (Au (A8 (Aw (Ay A0 2 [] O ?_))));obtain⟨x,hx⟩:=A6 (l:=ds) (i:=i) An;refine Aq O (A5 Ic O O An (Ed hx) (Cr _)) (Aq O (BJ Gg O (Cr _)) (DW O O (B2 O O (Vo x (h1.all _ (List.mem_of_getElem? hx))) (.inl O)) ?_));rintro _ ⟨q1,rfl,hq⟩;refine Ar A0 1 [] O (Av O (fun c1=>?_) (fun c1=>?_))
  ·(try simp only[sd,se] at c1);refine As A0 1 [] O (Az (⟨O,_,_,⟨_,_,O,O,O⟩,(List.nil_sublist _),?_⟩))
   all_goals exact⟨⟨_,rfl,fun h=>absurd h Am⟩,rfl⟩
  (try simp only[sd,se] at c1);have hok:=hq (by simpa using c1);refine A1 (A3 (Ar A0 3 [] O (⟨(i+1),AT,⟨by omega,Cu (p:=fun _ (y:CC)=>Sk y) hC hx hok⟩,BY ⟨we rfl,we rfl,trivial⟩ (leH (is:=[]) rfl (DO))⟩)))
 (try simp only[sd,se] at c);have hqe:=hqn (by simpa using c);refine Bh (Aw (Br O (Aq O (BM Ic O (List.length_map _)) (Ar A0 2 [] O (Az (⟨O,_,_,⟨_,_,O,O,O⟩,(List.nil_sublist _),?_⟩))))))
 all_goals exact⟨⟨_,rfl,fun h=>⟨HO (by simp only[decide_eq_true_eq] at h;omega) hC,by simp only[decide_eq_true_eq] at h;omega⟩⟩,rfl⟩
theorem aB:∀(ds:List CC),(Hn ds)→FY Tryz.prog 31 [.p (.lst (List.map Bj ds))] (fun v=>∃bb:Bool,v= .p (.bool bb)∧(bb=true→HE ds∧ds.length≤70)):=by
 intro ds h1;refine A4 Tryz.func31 O pU (n:=15) O O (As A0 1 [] O (Au (Aw (Br O (DW O O (B2 O O (gE ds h1) (.inl O)) ?_)))));rintro _ ⟨q,rfl,hq⟩;refine Ar A0 1 [] O (Av O (fun c=>?_) (fun c=>?_))
 ·(try simp only[sd,se] at c);refine As A0 1 [] O (Az (⟨O,_,_,⟨_,_,O,O,O⟩,(List.nil_sublist _),?_⟩))
  all_goals exact⟨⟨_,rfl,fun h=>absurd h Am⟩,rfl⟩
 (try simp only[sd,se] at c);have hf:=hq (by simpa using c);refine A1 (Aw (Br O (DW O O (B2 O O (V5 ds h1) (.inl O)) ?_)));rintro _ ⟨a,e,rfl,he⟩;refine Ar A0 5 [] O (As A0 3 [] O (Az (⟨O,_,_,⟨_,_,O,O,O⟩,(List.nil_sublist _),?_⟩)))
 all_goals exact⟨⟨_,rfl,fun h=>⟨e6 (he (by simpa using h)) hf.1,hf.2⟩⟩,rfl⟩
end Go.Proofs.YtboammbpdaoojaaGreat
namespace Go.Eu
open Go.Abs
def vT (i:Int):Tm:= .mk 0 i ⟨#[]⟩ [] []
def Nk (nm:ByteArray):Tm:= .mk 3 0 nm [] []
def Jz:ByteArray:=⟨#[78,97,116]⟩
def ic:ByteArray:=⟨#[122,101,114,111]⟩
def SY:ByteArray:=⟨#[115,117,99,99]⟩
def Om:ByteArray:=⟨#[112,108,117,115]⟩
def Vz (b:Tm):Tm:=if (CS 1 0 0 0 b).2≠0 then BZ else (CS 1 0 0 0 b).1
def Wq (a b:Tm):Tm:= .mk 6 0 ⟨#[]⟩ [] [a,Vz b]
def WN:CC:=⟨3,Jz,0,.mk 2 0 ⟨#[]⟩ [⟨0,[]⟩] [],BZ,0,[⟨ic,Nk Jz⟩,⟨SY,Wq (Nk Jz) (Nk Jz)⟩],⟨0,Nk Jz,[Nk Jz,Nk Jz]⟩,[]⟩
def Qx:E3:= .mk 1 BZ 0 [.mk ic false (.mk 0 (vT 0) 0 []),.mk SY false (.mk 0 (apply (Nk SY) [apply (Nk Om) [vT 0,vT 1]]) 0 [])]
def Qr:CC:=⟨4,⟨#[]⟩,0,BZ,BZ,0,[],⟨0,BZ,[]⟩,[⟨Om,Wq (Nk Jz) (Wq (Nk Jz) (Nk Jz)),2,Qx⟩]⟩
def DT:List CC:=[WN,Qr]
theorem kD (nm:ByteArray) (h:nm.size<De):Nd (Nk nm):=by
 simp only[Nk,Nd,Ld,List.length_nil,De];simp only[De] at h;exact⟨h,by omega,by simp,by omega,trivial,by simp[Ir],by simp[Ir]⟩
theorem pC:Nd (Wq (Nk Jz) (Nk Jz)):=by
 have h:Vz (Nk Jz)=Nk Jz:=by rfl
 have h1:=kD Jz Am;rw[Wq,h];simp only[Nd,Ld,List.length_nil,List.length_cons,De];exact⟨by decide,by omega,by simp,by omega,⟨h1,h1,trivial⟩,by simp[Ir],by simp[Ir]⟩
end Go.Eu
namespace Go.Proofs.YtboammbpdaoojaaGreat
open Go.Abs Go.Eu
theorem Hw:∀(nm:ByteArray),E4 Tryz.prog 35 [.p (.str nm)] (.agg ((BK (.mk 3 0 nm [] [])).map .p)):=by
 intro nm;refine A4 Tryz.func35 O pT (n:=5) O O (Aw (BG O (A7 Bw O) fun b2=>Bf O (As A0 3 [0,0] O (BN (Bc (i:=0) O) (Az (⟨O,_,_,⟨_,_,O,(BE (i:=0) BQ O O O),O⟩,(List.nil_sublist _),?_⟩))))))
 all_goals exact⟨rfl,rfl⟩
theorem aT:∀(i:Int),E4 Tryz.prog 68 [.p (I i)] (.agg ((BK (.mk 0 i ⟨#[]⟩ [] [])).map .p)):=by
 intro i;refine A4 Tryz.func68 O p6 (n:=5) O O (Aw (BG O (A7 Bw O) fun b2=>Bf O (As A0 3 [0,0] O (BN (Bc (i:=0) O) (Az (⟨O,_,_,⟨_,_,O,(BE (i:=0) BQ O O O),O⟩,(List.nil_sublist _),?_⟩))))))
 all_goals exact⟨rfl,rfl⟩
theorem JX:∀(i:Int),E4 Tryz.prog 33 [.p (I i)] (.agg ((BK (.mk 0 i ⟨#[]⟩ [] [])).map .p)):=by
 intro i;refine A4 Tryz.func33 O p4 (n:=5) O O (Aw (BG O (A7 Bw O) fun b2=>Bf O (As A0 3 [0,0] O (BN (Bc (i:=0) O) (Az (⟨O,_,_,⟨_,_,O,(BE (i:=0) BQ O O O),O⟩,(List.nil_sublist _),?_⟩))))))
 all_goals exact⟨rfl,rfl⟩
theorem Xi:∀(t:Tm) (l:List Tm),(l.length<De)→E4 Tryz.prog 69 [.agg ((BK t).map .p),.p (.lst (BC l))] (.agg ((BK (apply t l)).map .p)):=by
 intro t l h1;refine A4 Tryz.func69 O oI (n:=8) O O (Aw (BG O (BO O) fun b2=>BG O (A7 Bw O) fun b4=>Bf O (Aw (Ay A0 2 [1] O (Aq O (BF O O (HX t l h1) O) (Ar A0 1 [0,1] O (Az (⟨O,_,_,⟨_,_,O,(BE (i:=0) BQ O O Ag),O⟩,(List.nil_sublist _),?_⟩))))))))
 all_goals exact⟨rfl,rfl⟩
theorem XU:∀(t:Tm) (l:List Tm),(l.length<De)→E4 Tryz.prog 34 [.agg ((BK t).map .p),.p (.lst (BC l))] (.agg ((BK (apply t l)).map .p)):=by
 intro t l h1;refine A4 Tryz.func34 O qB (n:=8) O O (Aw (BG O (BO O) fun b2=>BG O (A7 Bw O) fun b4=>Bf O (Aw (Ay A0 2 [1] O (Aq O (BF O O (HX t l h1) O) (Ar A0 1 [0,1] O (Az (⟨O,_,_,⟨_,_,O,(BE (i:=0) BQ O O Ag),O⟩,(List.nil_sublist _),?_⟩))))))))
 all_goals exact⟨rfl,rfl⟩
theorem cu:∀(t:Tm) (by' fr:Int),(Nd t)→(size t<1000000)→(by'=1)→(fr=0)→E4 Tryz.prog 103 [.agg ((BK t).map .p),.p (I by'),.p (I fr)] (.tup [.agg ((BK (Vz t)).map .p),.p (I ((CS 1 0 0 0 t).2))]):=by
 intro t by' fr h1 h2 h3 h4
 refine A4 Tryz.func103 O mj (n:=40) O O (Aw (BG O (BO O) fun b3=>BG O (A7 Bw O) fun b6=>Ar A0 1 [] O (Au (Au (BU [1,2,3,6] 19 (fun y=>y= .p (.bool (((decide ((fr:Int)<(0:Int)))||(decide ((by':Int)<(-65536:Int))))||(decide ((by':Int) > (65536:Int)))))) ?_ ?_)))))
 ·refine A3 (Ay A0 3 [] O (BI 12 O (fun g=>?_) (fun g=>?_)))
  ·(try simp only[sd,se] at g);exact Ar A0 7 [] O (⟨O,O,AJ,AH,⟨O,O,O,O,Ap⟩⟩)
  (try simp only[sd,se] at g);refine Ay A0 4 [] O (BI 16 O (fun g1=>?_) (fun g1=>?_))
  ·(try simp only[sd,se] at g1);exact Ar A0 3 [] O (⟨O,O,AJ,AH,⟨O,O,O,O,Ap⟩⟩)
  (try simp only[sd,se] at g1);exact Ar A0 3 [] O (⟨O,O,AJ,AH,⟨O,O,O,O,Ap⟩⟩)
 rintro _ rfl;refine Av O (fun c=>?_) (fun c=>?_)
 ·(try simp only[sd,se] at c);refine As A0 3 [0,0] O (BN (Bc (i:=0) O) (Az (⟨O,_,_,⟨_,_,O,(BE (i:=0) BQ O O O),⟨_,_,O,O,O⟩⟩,(List.nil_sublist _),?_⟩)))
  all_goals exact⟨by show (.tup [.agg [.p (I 0),.p (I 0),.p (.str ⟨#[]⟩),.p (.lst []),.p (.lst [])],.p (I 2)]:AV)=_;exfalso;omega,rfl⟩
 (try simp only[sd,se] at c);refine A1 (Aw (Aq O (CJ im ie O) (BG O (BO O) fun b22=>Ar A0 1 [] O (Aw (Ay A0 4 [2] O (Aq O (YC O O) (Aq O (CW [0] O (.inl ⟨O,O,O⟩) (X6 _ t b22 by' (min (fr:Int) (65536:Int)) 0 0 0 (Nat.le_refl _) h1 An An) ⟨_,_,rfl,rfl,rfl⟩ Am rfl (.inl rfl)) (BG O (A7 Bw O) fun b9=>Ar A0 1 [0,1] O (Au (As A0 5 [1] O (Av O (fun c1=>?_) (fun c1=>?_))))))))))))
 ·(try simp only[sd,se] at c1);refine Au (B6 (fun k=>false) EO (B4 A0 7 [1,2,0] O (BN (Bc (i:=2) O) (Az (⟨O,_,_,⟨_,_,O,(BE (i:=2) BQ O O O),⟨_,_,O,O,O⟩⟩,(List.nil_sublist _),?_⟩)))))
  all_goals exact⟨by show (.tup [.agg [.p (I 0),.p (I 0),.p (.str ⟨#[]⟩),.p (.lst []),.p (.lst [])],.p (I ((CS by' (min (fr:Int) (65536:Int)) 0 0 t).2))]:AV)=_;subst h3 h4;have c2:(CS 1 0 0 0 t).2≠0:=c1;rw[Vz,if_pos c2];rfl,rfl⟩
 (try simp only[sd,se] at c1);refine A1 (As A0 3 [0,2,1] O (Az (⟨O,_,_,⟨_,_,O,(BE (i:=2) BQ O O Ag),⟨_,_,O,O,O⟩⟩,(List.nil_sublist _),?_⟩)))
 all_goals exact⟨by show (.tup [.agg ((BK ((CS by' (min (fr:Int) (65536:Int)) 0 0 t).1)).map .p),.p (I 0)]:AV)=_;subst h3 h4;have c2:(CS 1 0 0 0 t).2=0:=c1;rw[Vz,if_neg (fun h=>h c2),c2];rfl,rfl⟩
theorem Wz:∀(a b:Tm),(Nd b)→(size b<1000000)→E4 Tryz.prog 70 [.agg ((BK a).map .p),.agg ((BK b).map .p)] (.agg ((BK (.mk 6 0 ⟨#[]⟩ [] [a,Vz b])).map .p)):=by
 intro a b h1 h2;refine A4 Tryz.func70 O pM (n:=16) O O (Aw (BG O (BO O) fun b2=>BG O (BO O) fun b3=>BG O (A7 Bw O) fun b4=>Bf O (Aw (Aq O (BP (i:=1) BQ O O Ag) (Aq O (BF O O (cu b 1 0 h1 h2 O O) O) (Ay A0 3 [] O (BG O (A7 Bw O) fun b5=>Ar A0 2 [0,1] O (Aw (Ay A0 2 [3,0] O (Aq O (Bi (rows:=BC [a,(Vz b)]) Bg Bw O O O O (CB (Bu _)) (ED _)) (Ar A0 2 [1,0] O (BN (Bc (i:=1) O) (Az (⟨O,_,_,⟨_,_,O,(BE (i:=1) BQ O O O),O⟩,(List.nil_sublist _),?_⟩))))))))))))))
 all_goals exact⟨rfl,rfl⟩
theorem kJ (l:List Hq):∀r∈l.map GL,∀c∈r,c≠ .nils:=by
 intro r hr;obtain⟨t,_,rfl⟩:=List.mem_map.1 hr;intro c hc;simp only[GL,List.mem_cons] at hc;rcases hc with rfl | hc
 ·simp
 exact qY _ c hc
set_option maxHeartbeats 4000000 in
theorem eX:E4 Tryz.prog 36 [] (.p (.lst (List.map Bj DT))):=by
 refine A4 Tryz.func36 O pF (n:=55) O O (As A0 1 [] O (As A0 1 [] O (Aw (Aq O (BF O O (Hw ⟨#[78,97,116]⟩) O) (BG O (A7 Bw O) fun b2=>Ar A0 1 [0,1] O (As A0 1 [] O (Au ?_)))))));refine Ph [.val (.agg [.p (I 0),.p (.nils)]),.val (.p (.lst (List.map B5 ([(CX.mk 0 [])])))),.val (.agg [.p (I 2),.p (I 0),.p (.str ⟨#[]⟩),.p (.lst (List.map B5 ([(CX.mk 0 [])]))),.p (.nils)]),.val (.agg [.p (I 3),.p (I 0),.p (.str ⟨#[78,97,116]⟩),.p (.lst (List.map B5 [])),.p (.lst (BC []))]),.val (.agg [.p (.str ⟨#[122,101,114,111]⟩),.p (I 3),.p (I 0),.p (.str ⟨#[78,97,116]⟩),.p (.lst (List.map B5 [])),.p (.lst (BC []))]),.val (.agg [.p (I 3),.p (I 0),.p (.str ⟨#[78,97,116]⟩),.p (.lst (List.map B5 [])),.p (.lst (BC []))]),.val (.agg [.p (I 3),.p (I 0),.p (.str ⟨#[78,97,116]⟩),.p (.lst (List.map B5 [])),.p (.lst (BC []))]),.val (.agg [.p (I 6),.p (I 0),.p (.str ⟨#[]⟩),.p (.lst (List.map B5 [])),.p (.lst (BC ([(.mk 3 0 ⟨#[78,97,116]⟩ [] []:Tm),Vz (.mk 3 0 ⟨#[78,97,116]⟩ [] []:Tm)])))]),.val (.agg [.p (.str ⟨#[115,117,99,99]⟩),.p (I 6),.p (I 0),.p (.str ⟨#[]⟩),.p (.lst (List.map B5 [])),.p (.lst (BC ([(.mk 3 0 ⟨#[78,97,116]⟩ [] []:Tm),Vz (.mk 3 0 ⟨#[78,97,116]⟩ [] []:Tm)])))]),.val (.p (.lst (List.map GL ([(Hq.mk ⟨#[122,101,114,111]⟩ (.mk 3 0 ⟨#[78,97,116]⟩ [] []:Tm)),(Hq.mk ⟨#[115,117,99,99]⟩ (.mk 6 0 ⟨#[]⟩ [] ([(.mk 3 0 ⟨#[78,97,116]⟩ [] []:Tm),Vz (.mk 3 0 ⟨#[78,97,116]⟩ [] []:Tm)]):Tm))])))),.val (.agg [.p (I 3),.p (.str ⟨#[78,97,116]⟩),.p (I 0),.p (I 2),.p (I 0),.p (.str ⟨#[]⟩),.p (.lst (List.map B5 ([(CX.mk 0 [])]))),.p (.nils),.p (I 0),.p (I 0),.p (.str ⟨#[]⟩),.p (.nils),.p (.nils),.p (I 0),.p (.lst (List.map GL ([(Hq.mk ⟨#[122,101,114,111]⟩ (.mk 3 0 ⟨#[78,97,116]⟩ [] []:Tm)),(Hq.mk ⟨#[115,117,99,99]⟩ (.mk 6 0 ⟨#[]⟩ [] ([(.mk 3 0 ⟨#[78,97,116]⟩ [] []:Tm),Vz (.mk 3 0 ⟨#[78,97,116]⟩ [] []:Tm)]):Tm))]))),.p (I 0),.p (I 0),.p (I 0),.p (.str ⟨#[]⟩),.p (.nils),.p (.nils),.p (.nils),.p (.nils)]),.new [.p (I 0),.p (.str ⟨#[]⟩),.p (I 0),.p (I 0),.p (I 0),.p (.str ⟨#[]⟩),.p (.nils),.p (.nils),.p (I 0),.p (I 0),.p (.str ⟨#[]⟩),.p (.nils),.p (.nils),.p (I 0),.p (.nils),.p (I 0),.p (I 0),.p (I 0),.p (.str ⟨#[]⟩),.p (.nils),.p (.nils),.p (.nils),.p (.nils)]] EO O Aj Aj ?_
 refine Cz O (fun Bs=>CJ cO Hi O) (Cz O (fun Bs=>Bx FQ Hi O O O O O) (Cz O (fun Bs=>CJ Gi Bw O) (Cz O (fun Bs=>BP (i:=Bs.length+0) BQ O (CM O) Ag) (Cz O (fun Bs=>CJ I2 YL O) (Cz O (fun Bs=>BP (i:=Bs.length+0) BQ O (CM O) O) (Cz O (fun Bs=>BP (i:=Bs.length+0) BQ O (CM O) O) (Cz O (fun Bs=>BF O O (Wz (.mk 3 0 ⟨#[78,97,116]⟩ [] []:Tm) (.mk 3 0 ⟨#[78,97,116]⟩ [] []:Tm) (kD _ Am) (by simp[size,BS])) O) (Cz O (fun Bs=>CJ I2 YL O) ?_))))))));refine Cz O (fun Bs=>Bi (rows:=List.map GL ([(Hq.mk ⟨#[122,101,114,111]⟩ (.mk 3 0 ⟨#[78,97,116]⟩ [] []:Tm)),(Hq.mk ⟨#[115,117,99,99]⟩ (.mk 6 0 ⟨#[]⟩ [] ([(.mk 3 0 ⟨#[78,97,116]⟩ [] []:Tm),Vz (.mk 3 0 ⟨#[78,97,116]⟩ [] []:Tm)]):Tm))])) Hh YL O O O O (CB (Yi _)) (kJ _)) (Cz O (fun Bs=>CJ C3 Ml O) (Qh O (fun Bs=>A7 Ml O) fun b4=>TS ?_))
 change AL _ _ _ 12 ⟨55,_,[.box b4 [.p (I 0),.p (.str ⟨#[]⟩),.p (I 0),.p (I 0),.p (I 0),.p (.str ⟨#[]⟩),.p (.nils),.p (.nils),.p (I 0),.p (I 0),.p (.str ⟨#[]⟩),.p (.nils),.p (.nils),.p (I 0),.p (.nils),.p (I 0),.p (I 0),.p (I 0),.p (.str ⟨#[]⟩),.p (.nils),.p (.nils),.p (.nils),.p (.nils)],.box b2 [.p (I 3),.p (I 0),.p (.str ⟨#[78,97,116]⟩),.p (.lst (List.map B5 [])),.p (.lst (BC []))]],[]⟩ _
 refine Ar A0 1 [0,0] O (Aw (Ay A0 3 [1,1,1] O (Aq O (Bi (rows:=BC ([(.mk 3 0 ⟨#[78,97,116]⟩ [] []:Tm),(.mk 3 0 ⟨#[78,97,116]⟩ [] []:Tm)])) Bg Bw O O O O (CB (Bu _)) (ED _)) (Ar A0 3 [0,0] O (Aw (Br O (Aq O (BF O O (aT 0) O) (Ay A0 3 [] O (Aq O (BF O O (Hw ⟨#[115,117,99,99]⟩) O) (Br O (Aq O (BF O O (Hw ⟨#[112,108,117,115]⟩) O) (Br O (Aq O (BF O O (aT 0) O) (Br O (Aq O (BF O O (aT 1) O) (Aq O (Bi (rows:=BC ([(.mk 0 0 ⟨#[]⟩ [] []),(.mk 0 1 ⟨#[]⟩ [] [])])) Bg Bw O O O O (CB (Bu _)) (ED _)) (Aq O (BF O O (Xi (.mk 3 0 ⟨#[112,108,117,115]⟩ [] []) ([(.mk 0 0 ⟨#[]⟩ [] []),(.mk 0 1 ⟨#[]⟩ [] [])]) (by simp[De])) O) ?_)))))))))))))))));refine Aq O (Bi (rows:=BC ([(apply (.mk 3 0 ⟨#[112,108,117,115]⟩ [] []) ([(.mk 0 0 ⟨#[]⟩ [] []),(.mk 0 1 ⟨#[]⟩ [] [])]))])) Bg Bw O O O O (CB (Bu _)) (ED _)) (Aq O (BF O O (Xi (.mk 3 0 ⟨#[115,117,99,99]⟩ [] []) ([(apply (.mk 3 0 ⟨#[112,108,117,115]⟩ [] []) ([(.mk 0 0 ⟨#[]⟩ [] []),(.mk 0 1 ⟨#[]⟩ [] [])]))]) (by simp[De])) O) ?_);generalize hz:apply (.mk 3 0 ⟨#[115,117,99,99]⟩ [] []) ([(apply (.mk 3 0 ⟨#[112,108,117,115]⟩ [] []) ([(.mk 0 0 ⟨#[]⟩ [] []),(.mk 0 1 ⟨#[]⟩ [] [])]))])=z;obtain⟨zk,zi,zn,zl,zs⟩:=z;refine Ay A0 2 [] O (Aq O (Bx Kg YP O O O O O) (Aq O (CJ Fi Yn O) (BG O (A7 Yn O) fun b5=>Ar A0 1 [0,0] O (Au (B6 (fun k=>false) EO (Bb A0 4 [1,2,2,2] O (BL O (fun _=>BF O O (Wz (.mk 3 0 ⟨#[78,97,116]⟩ [] []:Tm) (.mk 3 0 ⟨#[78,97,116]⟩ [] []:Tm) (kD _ Am) (by simp[size,BS])) O) Ap (BL O (fun _=>BF O O (Wz (.mk 3 0 ⟨#[78,97,116]⟩ [] []:Tm) (.mk 6 0 ⟨#[]⟩ [] [(.mk 3 0 ⟨#[78,97,116]⟩ [] []:Tm),Vz (.mk 3 0 ⟨#[78,97,116]⟩ [] []:Tm)]) pC Am) O) Ap (Bb A0 2 [0] O (BL O (fun _=>Bx Gp ao O O O O O) Ap (BL O (fun _=>CJ C3 Ml O) Ap (BL O (fun _=>Bx Ic Ml O O O O O) Ap (B4 A0 1 [] O (Az (⟨O,_,_,⟨_,_,O,O,O⟩,(List.nil_sublist _),?_⟩)))))))))))))))
 all_goals exact⟨by show (.p (.lst (List.map Bj ([(CC.mk 3 ⟨#[78,97,116]⟩ 0 (.mk 2 0 ⟨#[]⟩ ([(CX.mk 0 [])]) []:Tm) (.mk 0 0 ⟨#[]⟩ [] []:Tm) 0 ([(Hq.mk ⟨#[122,101,114,111]⟩ (.mk 3 0 ⟨#[78,97,116]⟩ [] []:Tm)),(Hq.mk ⟨#[115,117,99,99]⟩ (.mk 6 0 ⟨#[]⟩ [] ([(.mk 3 0 ⟨#[78,97,116]⟩ [] []:Tm),Vz (.mk 3 0 ⟨#[78,97,116]⟩ [] []:Tm)]):Tm))]) (eF.mk 0 (.mk 3 0 ⟨#[78,97,116]⟩ [] []:Tm) ([(.mk 3 0 ⟨#[78,97,116]⟩ [] []:Tm),(.mk 3 0 ⟨#[78,97,116]⟩ [] []:Tm)])) []),(CC.mk 4 ⟨#[]⟩ 0 (.mk 0 0 ⟨#[]⟩ [] []:Tm) (.mk 0 0 ⟨#[]⟩ [] []:Tm) 0 [] (eF.mk 0 (.mk 0 0 ⟨#[]⟩ [] []:Tm) []) ([(Gh.mk ⟨#[112,108,117,115]⟩ (.mk 6 0 ⟨#[]⟩ [] ([(.mk 3 0 ⟨#[78,97,116]⟩ [] []:Tm),Vz (.mk 6 0 ⟨#[]⟩ [] [(.mk 3 0 ⟨#[78,97,116]⟩ [] []:Tm),Vz (.mk 3 0 ⟨#[78,97,116]⟩ [] []:Tm)])]):Tm) 2 (E3.mk 1 (.mk 0 0 ⟨#[]⟩ [] []:Tm) 0 ([(F7.mk ⟨#[122,101,114,111]⟩ false (E3.mk 0 (.mk 0 0 ⟨#[]⟩ [] []:Tm) 0 [])),(F7.mk ⟨#[115,117,99,99]⟩ false (E3.mk 0 (.mk zk zi zn zl zs:Tm) 0 []))])))]))]))):AV)=_;rw[←hz];rfl,rfl⟩
end Go.Proofs.YtboammbpdaoojaaGreat
namespace Go.Eu
open Go.Abs
theorem HF {t:Tm}(h:okB t=true) (hs:size t<1000000):TB t:=⟨(CY.1 h).nd,hs⟩
theorem YU:OB WN where
 nm:=by decide
 ty:=HF rfl Am
 vl:=HF rfl Am
 cl:=by decide
 cs:=by
  intro c hc;simp only[WN,List.mem_cons,List.not_mem_nil,or_false] at hc;rcases hc with rfl | rfl
  ·exact⟨by decide,HF rfl Am⟩
  exact⟨by decide,HF rfl Am⟩
 rt:=HF rfl Am
 rl:=by decide
 rs:=by
  intro c hc;simp only[WN,List.mem_cons,List.not_mem_nil,or_false] at hc;rcases hc with rfl | rfl<;>exact HF rfl Am
 fl:=by decide
 fs:=by intro c hc;cases hc
theorem Ye:Gj Qx:=⟨HF rfl Am,by decide,⟨by decide,HF rfl Am,by decide,trivial⟩,⟨by decide,HF rfl Am,by decide,trivial⟩,trivial⟩
theorem VX:OB Qr where
 nm:=by decide
 ty:=HF rfl Am
 vl:=HF rfl Am
 cl:=by decide
 cs:=by intro c hc;cases hc
 rt:=HF rfl Am
 rl:=by decide
 rs:=by intro c hc;cases hc
 fl:=by decide
 fs:=by
  intro c hc;simp only[Qr,List.mem_cons,List.not_mem_nil,or_false] at hc;subst hc;exact⟨by decide,HF rfl Am,Ye⟩
theorem Jl:HE DT:=by
 have h0:∀d∈DT,d=WN∨d=Qr:=fun d hd=>by simpa [DT] using hd
 refine⟨⟨⟨by decide,fun d hd=>?_⟩,fun d hd=>?_⟩,fun d hd=>?_,fun d hd=>?_,fun d hd=>?_⟩
 ·rcases h0 d hd with rfl | rfl
  ·exact YU
  exact VX
 ·rcases h0 d hd with rfl | rfl
  ·exact⟨YU,by decide,rfl,by intro t ht;simp only[WN,List.mem_cons,List.not_mem_nil,or_false] at ht;rcases ht with rfl | rfl<;>rfl,by intro f hf;cases hf⟩
  refine⟨VX,by decide,rfl,(by intro t ht;cases ht),?_⟩;intro f hf;simp only[Qr,List.mem_cons,List.not_mem_nil,or_false] at hf;subst hf;exact⟨by decide,by decide,rfl,⟨rfl,trivial⟩,⟨rfl,trivial⟩,trivial⟩
 ·rcases h0 d hd with rfl | rfl<;>decide
 ·rcases h0 d hd with rfl | rfl
  ·intro t ht;simp only[WN,List.mem_cons,List.not_mem_nil,or_false] at ht;rcases ht with rfl | rfl<;>decide
  intro t ht;cases ht
 rcases h0 d hd with rfl | rfl
 ·intro f hf;cases hf
 intro f hf;simp only[Qr,List.mem_cons,List.not_mem_nil,or_false] at hf;subst hf;decide
def ap (f x:Tm):Tm:= .mk 4 0 ⟨#[]⟩ [] [f,x]
def qk:Tm:= .mk 5 0 ⟨#[]⟩ [] [Nk Jz,vT 0]
def qI:Tm:=ap (ap (Nk Om) (ap (Nk SY) (vT 3))) (vT 4)
def Ke:Tm:=ap (Nk SY) (ap (ap (Nk Om) (vT 3)) (vT 4))
def Rm:Tm:=ap (ap (Nk Om) (ap qk (vT 3))) (vT 4)
def My:Tm:=ap (ap (Nk Om) (vT 3)) (vT 4)
def pP:Tm:= .mk 9 0 ⟨#[]⟩ [] [ap qk (vT 2)]
def N7:Tm:= .mk 9 0 ⟨#[]⟩ [] [vT 2]
def L3:Tm:=ap (.mk 12 0 ⟨#[]⟩ [] []) (vT 0)
def kY:Tm:=ap (ap (Nk Om) L3) (vT 1)
def ka:Tm:=ap (Nk SY) L3
theorem kv:DJ DT Bo 20 20000 qI= .ok (Ke,19999):=rfl
theorem mS:DJ DT Bo 20 20000 Rm= .ok (Rm,19999):=rfl
theorem j3:Em DT Bo 20 20000 Rm= .ok (some My,19999):=rfl
theorem mv:DJ DT Bo 20 20000 pP= .ok (N7,19999):=rfl
theorem kA (n:Nat) (s:Int):HG DT Bo (n+2) s L3= .ok (some 0,s):=by
 rw[Ty,show DJ DT Bo (n+1) s L3= .ok (L3,s) from rfl];show Iq DT Bo (n+1) (L3,s)=_;rw[Sr rfl];rfl
theorem lA:HG DT Bo 20 20000 kY= .ok (some 0,20000):=by
 rw[Ty,show DJ DT Bo 19 20000 kY= .ok (kY,20000) from rfl];show Iq DT Bo 19 (kY,20000)=_;rw[Uh (f:=⟨Om,Wq (Nk Jz) (Wq (Nk Jz) (Nk Jz)),2,Qx⟩) (d:=Qr) rfl rfl rfl rfl rfl rfl Am];show (Dm DT Bo (DJ DT Bo 19) 19 Qx [L3,vT 1] BZ 20000).bind (Uq DT Bo 19)=_;rw[show Dm DT Bo (DJ DT Bo 19) 19 Qx [L3,vT 1] BZ 20000= .ok ((none,L3),20000) from rfl];show Uq DT Bo 19 ((none,L3),20000)=_;rw[YF rfl rfl (HK (by intro h;cases h))];exact kA 17 20000
theorem nq:HG DT Bo 20 20000 ka= .ok (none,20000):=by
 rw[Ty,show DJ DT Bo 19 20000 ka= .ok (ka,20000) from rfl];show Iq DT Bo 19 (ka,20000)=_;rw[QS rfl rfl rfl Am Am]
theorem YH:Nd Ke∧Nd Rm∧Nd My∧Nd N7:=⟨(CY.1 (show okB Ke=true from rfl)).nd,(CY.1 (show okB Rm=true from rfl)).nd,(CY.1 (show okB My=true from rfl)).nd,(CY.1 (show okB N7=true from rfl)).nd⟩
end Go.Eu
namespace Go.Proofs.YtboammbpdaoojaaGreat
open Go.Abs Go.Eu
theorem SQ (f x:Tm):E4 Tryz.prog 34 [TV f,kg [x]] (TV (.mk 4 0 ⟨#[]⟩ [] [f,x])):=XU f [x] (by simp[De])
theorem U2 (f x y:Tm):E4 Tryz.prog 34 [TV f,kg [x,y]] (TV (.mk 4 0 ⟨#[]⟩ [] [(.mk 4 0 ⟨#[]⟩ [] [f,x]:Tm),y])):=XU f [x,y] (by simp[De])
theorem ku:E4 Tryz.prog 12 [.p (.lst (List.map Bj DT)),TV qI] (.tup [TV Ke,.p (I 0)]):=by
 have h:=Nn DT 20 qI Jl (by rw[kv];simp);rw[kv] at h;exact h
theorem lX:E4 Tryz.prog 12 [.p (.lst (List.map Bj DT)),TV Rm] (.tup [TV Rm,.p (I 0)]):=by
 have h:=Nn DT 20 Rm Jl (by rw[mS];simp);rw[mS] at h;exact h
theorem nB:E4 Tryz.prog 16 [.p (.lst (List.map Bj DT)),TV Rm] (.tup [TV My,.p (.bool true),.p (I 0)]):=by
 have h:=fN DT 20 Rm Jl (by rw[j3];simp) (by rw[j3];intro q c e;cases e;rfl);rw[j3] at h;exact h
theorem lb:E4 Tryz.prog 12 [.p (.lst (List.map Bj DT)),TV pP] (.tup [TV N7,.p (I 0)]):=by
 have h:=Nn DT 20 pP Jl (by rw[mv];simp);rw[mv] at h;exact h
theorem mY:E4 Tryz.prog 18 [.p (.lst (List.map Bj DT)),TV kY] (.tup [.p (I 0),.p (.bool true),.p (I 0)]):=by
 have h:=eC DT 20 kY Jl (by rw[lA];simp);rw[lA] at h;exact h
theorem mx:E4 Tryz.prog 18 [.p (.lst (List.map Bj DT)),TV ka] (.tup [.p (I 0),.p (.bool false),.p (I 0)]):=by
 have h:=eC DT 20 ka Jl (by rw[nq];simp);rw[nq] at h;exact h
theorem gy:E4 Tryz.prog 15 [TV Ke,TV Ke] (.p (.bool true)):=by
 have h:=Ma 1000 Ke Ke Am YH.1;rw[Fe rfl] at h;exact h
theorem fO:E4 Tryz.prog 15 [TV Rm,TV Rm] (.p (.bool true)):=by
 have h:=Ma 1000 Rm Rm Am YH.2.1;rw[Fe rfl] at h;exact h
theorem iH:E4 Tryz.prog 15 [TV My,TV My] (.p (.bool true)):=by
 have h:=Ma 1000 My My Am YH.2.2.1;rw[Fe rfl] at h;exact h
theorem ec:E4 Tryz.prog 15 [TV N7,TV N7] (.p (.bool true)):=by
 have h:=Ma 1000 N7 N7 Am YH.2.2.2;rw[Fe rfl] at h;exact h
set_option maxHeartbeats 4000000 in
theorem Mp:E4 Tryz.prog 11 [] (.p (.bool true)):=by
 refine A4 Tryz.func11 O oS (n:=188) O O (Au (GZ (M:=⟨188,mk [],[],[]⟩) (Dp Ap (List.Sublist.refl _)) (A3 (Ar A0 1 [] O (Au (GZ (M:=⟨188,mk [],[],[]⟩) (Dp Ap (List.Sublist.refl _)) (A3 (Ar A0 1 [] O (Au (GZ (M:=⟨188,mk [(1,.p (.fn 33))],[],[]⟩) (Dp ⟨O,Ap⟩ (List.Sublist.refl _)) (A3 (Ar A0 1 [] O (Au (GZ (M:=⟨188,mk [(1,.p (.fn 33)),(2,.p (.fn 34))],[],[]⟩) (Dp ⟨O,O,Ap⟩ (List.Sublist.refl _)) (A3 (Aq O (BF O O (Hw ⟨#[78,97,116]⟩) O) (Br O (Aq O (BF O O (JX 0) O) (Aq O (Bi (rows:=BC ([(.mk 3 0 ⟨#[78,97,116]⟩ [] []),(.mk 0 0 ⟨#[]⟩ [] [])])) Bg Bw O O O O (CB (Bu _)) (ED _)) (Aq O (CJ Gi Bw O) (BG O (A7 Bw O) fun b3=>Ar A0 1 [0,0] O ?_)))))))))))))))))))));refine Au (GZ (M:=⟨188,mk [(1,.p (.fn 33)),(2,.p (.fn 34)),(3,.ptr b3 0)],[.box b3 [.p (I 5),.p (I 0),.p (.str ⟨#[]⟩),.p (.nils),.p (.lst (BC ([(.mk 3 0 ⟨#[78,97,116]⟩ [] []),(.mk 0 0 ⟨#[]⟩ [] [])])))]],[]⟩) (Dp ⟨O,O,O,Ap⟩ (List.Sublist.refl _)) (A3 (Aq O (BF O O (eX ) O) (Ar A0 1 [] O (Au (GZ (M:=⟨188,mk [(1,.p (.fn 33)),(2,.p (.fn 34)),(3,.ptr b3 0),(4,.p (.lst (List.map Bj DT)))],[.box b3 [.p (I 5),.p (I 0),.p (.str ⟨#[]⟩),.p (.nils),.p (.lst (BC ([(.mk 3 0 ⟨#[78,97,116]⟩ [] []),(.mk 0 0 ⟨#[]⟩ [] [])])))]],[]⟩) (Dp ⟨O,O,O,O,Ap⟩ (List.Sublist.refl _)) (A3 (Ay A0 2 [] O (Aq O (BF O O (Hw ⟨#[112,108,117,115]⟩) O) (Br O (Aq O (BF O O (Hw ⟨#[115,117,99,99]⟩) O) (Br O (Aq O (BF O O (JX 3) O) ?_)))))))))))));refine Aq O (Bi (rows:=BC ([(.mk 0 3 ⟨#[]⟩ [] [])])) Bg Bw O O O O (CB (Bu _)) (ED _)) (Aq O (BF O O (SQ (.mk 3 0 ⟨#[115,117,99,99]⟩ [] []) (.mk 0 3 ⟨#[]⟩ [] []:Tm)) O) (Br O (Aq O (BF O O (JX 4) O) (Aq O (Bi (rows:=BC ([(.mk 4 0 ⟨#[]⟩ [] [(.mk 3 0 ⟨#[115,117,99,99]⟩ [] []),(.mk 0 3 ⟨#[]⟩ [] []:Tm)]),(.mk 0 4 ⟨#[]⟩ [] [])])) Bg Bw O O O O (CB (Bu _)) (ED _)) (Aq O (BF O O (U2 (.mk 3 0 ⟨#[112,108,117,115]⟩ [] []) (.mk 4 0 ⟨#[]⟩ [] [(.mk 3 0 ⟨#[115,117,99,99]⟩ [] []:Tm),(.mk 0 3 ⟨#[]⟩ [] []:Tm)]:Tm) (.mk 0 4 ⟨#[]⟩ [] []:Tm)) O) (Aq O (BF O O (ku ) O) (Ay A0 3 [] O (BG O (A7 Bw O) fun b5=>Ar A0 2 [0,1] O (Au ?_)))))))))
 refine GZ (M:=⟨188,mk [(1,.p (.fn 33)),(2,.p (.fn 34)),(3,.ptr b3 0),(4,.p (.lst (List.map Bj DT))),(5,.ptr b5 0),(6,.p (I 0))],[.box b5 ((BK Ke).map .p),.box b3 [.p (I 5),.p (I 0),.p (.str ⟨#[]⟩),.p (.nils),.p (.lst (BC ([(.mk 3 0 ⟨#[78,97,116]⟩ [] []),(.mk 0 0 ⟨#[]⟩ [] [])])))]],[]⟩) (Dp ⟨O,O,O,O,O,O,Ap⟩ (List.Sublist.refl _)) ?_;refine Ph [.val (.p (.fn 34)),.val (.agg ((BK (.mk 3 0 ⟨#[112,108,117,115]⟩ [] [])).map .p)),.val (.p (.fn 34)),.val (.agg [.p (I 5),.p (I 0),.p (.str ⟨#[]⟩),.p (.nils),.p (.lst (BC ([(.mk 3 0 ⟨#[78,97,116]⟩ [] []),(.mk 0 0 ⟨#[]⟩ [] [])])))]),.val (.p (.fn 33)),.val (.agg ((BK (.mk 0 3 ⟨#[]⟩ [] [])).map .p)),.val (.p (.lst (BC ([(.mk 0 3 ⟨#[]⟩ [] [])])))),.val (.agg ((BK (.mk 4 0 ⟨#[]⟩ [] [(.mk 5 0 ⟨#[]⟩ [] ([(.mk 3 0 ⟨#[78,97,116]⟩ [] []),(.mk 0 0 ⟨#[]⟩ [] [])]):Tm),(.mk 0 3 ⟨#[]⟩ [] []:Tm)])).map .p)),.val (.p (.fn 33)),.val (.agg ((BK (.mk 0 4 ⟨#[]⟩ [] [])).map .p)),.val (.p (.lst (BC ([(.mk 4 0 ⟨#[]⟩ [] [(.mk 5 0 ⟨#[]⟩ [] ([(.mk 3 0 ⟨#[78,97,116]⟩ [] []),(.mk 0 0 ⟨#[]⟩ [] [])]):Tm),(.mk 0 3 ⟨#[]⟩ [] []:Tm)]),(.mk 0 4 ⟨#[]⟩ [] [])])))),.val (.agg ((BK (.mk 4 0 ⟨#[]⟩ [] [(.mk 4 0 ⟨#[]⟩ [] [(.mk 3 0 ⟨#[112,108,117,115]⟩ [] []),(.mk 4 0 ⟨#[]⟩ [] [(.mk 5 0 ⟨#[]⟩ [] [(.mk 3 0 ⟨#[78,97,116]⟩ [] []:Tm),(.mk 0 0 ⟨#[]⟩ [] []:Tm)]:Tm),(.mk 0 3 ⟨#[]⟩ [] []:Tm)]:Tm)]:Tm),(.mk 0 4 ⟨#[]⟩ [] []:Tm)])).map .p)),.new [.p (I 0),.p (I 0),.p (.str ⟨#[]⟩),.p (.nils),.p (.nils)]] EO O Aj Aj ?_;refine Cz O (fun Bs=>BT O) (Cz O (fun Bs=>BF O O (Hw ⟨#[112,108,117,115]⟩) O) (Cz O (fun Bs=>BT O) (Cz O (fun Bs=>BP (i:=Bs.length+1) BQ O (CM O) O) (Cz O (fun Bs=>BT O) (Cz O (fun Bs=>BF O O (JX 3) O) (Cz O (fun Bs=>Bi (rows:=BC ([(.mk 0 3 ⟨#[]⟩ [] [])])) Bg Bw O O O O (CB (Bu _)) (ED _)) (Cz O (fun Bs=>Es O O (SQ (.mk 5 0 ⟨#[]⟩ [] ([(.mk 3 0 ⟨#[78,97,116]⟩ [] []),(.mk 0 0 ⟨#[]⟩ [] [])]):Tm) (.mk 0 3 ⟨#[]⟩ [] []:Tm)) (aw (C7 O) (aw (we O) (Eg)))) (Cz O (fun Bs=>BT O) (Cz O (fun Bs=>BF O O (JX 4) O) ?_)))))))))
 refine Cz O (fun Bs=>Bi (rows:=BC ([(.mk 4 0 ⟨#[]⟩ [] [(.mk 5 0 ⟨#[]⟩ [] ([(.mk 3 0 ⟨#[78,97,116]⟩ [] []),(.mk 0 0 ⟨#[]⟩ [] [])]):Tm),(.mk 0 3 ⟨#[]⟩ [] []:Tm)]),(.mk 0 4 ⟨#[]⟩ [] [])])) Bg Bw O O O O (CB (Bu _)) (ED _)) (Cz O (fun Bs=>BF O O (U2 (.mk 3 0 ⟨#[112,108,117,115]⟩ [] []) (.mk 4 0 ⟨#[]⟩ [] [(.mk 5 0 ⟨#[]⟩ [] [(.mk 3 0 ⟨#[78,97,116]⟩ [] []:Tm),(.mk 0 0 ⟨#[]⟩ [] []:Tm)]:Tm),(.mk 0 3 ⟨#[]⟩ [] []:Tm)]:Tm) (.mk 0 4 ⟨#[]⟩ [] []:Tm)) O) (Qh O (fun Bs=>A7 Bw O) fun b7=>TS ?_))
 change AL _ _ _ 13 ⟨188,_,[.box b7 [.p (I 0),.p (I 0),.p (.str ⟨#[]⟩),.p (.nils),.p (.nils)],.box b5 ((BK Ke).map .p),.box b3 [.p (I 5),.p (I 0),.p (.str ⟨#[]⟩),.p (.nils),.p (.lst (BC ([(.mk 3 0 ⟨#[78,97,116]⟩ [] []),(.mk 0 0 ⟨#[]⟩ [] [])])))]],[]⟩ _
 refine Ar A0 1 [0,1] O (Au (GZ (M:=⟨188,mk [(1,.p (.fn 33)),(2,.p (.fn 34)),(3,.ptr b3 0),(4,.p (.lst (List.map Bj DT))),(5,.ptr b5 0),(6,.p (I 0)),(7,.ptr b7 0)],[.box b7 ((BK (.mk 4 0 ⟨#[]⟩ [] [(.mk 4 0 ⟨#[]⟩ [] [(.mk 3 0 ⟨#[112,108,117,115]⟩ [] []),(.mk 4 0 ⟨#[]⟩ [] [(.mk 5 0 ⟨#[]⟩ [] [(.mk 3 0 ⟨#[78,97,116]⟩ [] []:Tm),(.mk 0 0 ⟨#[]⟩ [] []:Tm)]:Tm),(.mk 0 3 ⟨#[]⟩ [] []:Tm)]:Tm)]:Tm),(.mk 0 4 ⟨#[]⟩ [] []:Tm)])).map .p),.box b5 ((BK Ke).map .p),.box b3 [.p (I 5),.p (I 0),.p (.str ⟨#[]⟩),.p (.nils),.p (.lst (BC ([(.mk 3 0 ⟨#[78,97,116]⟩ [] []),(.mk 0 0 ⟨#[]⟩ [] [])])))]],[]⟩) (Dp ⟨O,O,O,O,O,O,O,Ap⟩ (List.Sublist.refl _)) (A3 (Ay A0 2 [0] O (Aq O (BF O O (lX ) O) (Ay A0 3 [] O (BG O (A7 Bw O) fun b8=>Ar A0 2 [0,1] O (Au ?_))))))));refine GZ (M:=⟨188,mk [(1,.p (.fn 33)),(2,.p (.fn 34)),(3,.ptr b3 0),(4,.p (.lst (List.map Bj DT))),(5,.ptr b5 0),(6,.p (I 0)),(7,.ptr b7 0),(8,.ptr b8 0),(9,.p (I 0))],[.box b8 ((BK Rm).map .p),.box b7 ((BK (.mk 4 0 ⟨#[]⟩ [] [(.mk 4 0 ⟨#[]⟩ [] [(.mk 3 0 ⟨#[112,108,117,115]⟩ [] []),(.mk 4 0 ⟨#[]⟩ [] [(.mk 5 0 ⟨#[]⟩ [] [(.mk 3 0 ⟨#[78,97,116]⟩ [] []:Tm),(.mk 0 0 ⟨#[]⟩ [] []:Tm)]:Tm),(.mk 0 3 ⟨#[]⟩ [] []:Tm)]:Tm)]:Tm),(.mk 0 4 ⟨#[]⟩ [] []:Tm)])).map .p),.box b5 ((BK Ke).map .p),.box b3 [.p (I 5),.p (I 0),.p (.str ⟨#[]⟩),.p (.nils),.p (.lst (BC ([(.mk 3 0 ⟨#[78,97,116]⟩ [] []),(.mk 0 0 ⟨#[]⟩ [] [])])))]],[]⟩) (Dp ⟨O,O,O,O,O,O,O,O,O,Ap⟩ (List.Sublist.refl _)) (A3 (Ay A0 2 [1] O (Aq O (BF O O (nB ) O) (Ay A0 4 [] O (BG O (A7 Bw O) fun b10=>?_)))))
 refine Ar A0 3 [0,1] O (Au (GZ (M:=⟨188,mk [(1,.p (.fn 33)),(2,.p (.fn 34)),(3,.ptr b3 0),(4,.p (.lst (List.map Bj DT))),(5,.ptr b5 0),(6,.p (I 0)),(7,.ptr b7 0),(8,.ptr b8 0),(9,.p (I 0)),(10,.ptr b10 0),(11,.p (.bool true)),(12,.p (I 0))],[.box b10 ((BK My).map .p),.box b8 ((BK Rm).map .p),.box b7 ((BK (.mk 4 0 ⟨#[]⟩ [] [(.mk 4 0 ⟨#[]⟩ [] [(.mk 3 0 ⟨#[112,108,117,115]⟩ [] []),(.mk 4 0 ⟨#[]⟩ [] [(.mk 5 0 ⟨#[]⟩ [] [(.mk 3 0 ⟨#[78,97,116]⟩ [] []:Tm),(.mk 0 0 ⟨#[]⟩ [] []:Tm)]:Tm),(.mk 0 3 ⟨#[]⟩ [] []:Tm)]:Tm)]:Tm),(.mk 0 4 ⟨#[]⟩ [] []:Tm)])).map .p),.box b5 ((BK Ke).map .p),.box b3 [.p (I 5),.p (I 0),.p (.str ⟨#[]⟩),.p (.nils),.p (.lst (BC ([(.mk 3 0 ⟨#[78,97,116]⟩ [] []),(.mk 0 0 ⟨#[]⟩ [] [])])))]],[]⟩) (Dp ⟨O,O,O,O,O,O,O,O,O,O,O,O,Ap⟩ (List.Sublist.refl _)) ?_));refine B6 (fun k=>Nat.beq k 13) EO (Bb A0 4 [4] O (BL O (fun _=>BF O O (JX 2) O) Ap (BL O (fun _=>Bi (rows:=BC ([(.mk 0 2 ⟨#[]⟩ [] [])])) Bg Bw O O O O (CB (Bu _)) (ED _)) Ap (BL O (fun _=>Es O O (SQ (.mk 5 0 ⟨#[]⟩ [] ([(.mk 3 0 ⟨#[78,97,116]⟩ [] []),(.mk 0 0 ⟨#[]⟩ [] [])]):Tm) (.mk 0 2 ⟨#[]⟩ [] []:Tm)) (aw (C7 O) (aw (we O) (Eg)))) Ap (BL O (fun _=>Bi (rows:=BC ([(.mk 4 0 ⟨#[]⟩ [] [(.mk 5 0 ⟨#[]⟩ [] ([(.mk 3 0 ⟨#[78,97,116]⟩ [] []),(.mk 0 0 ⟨#[]⟩ [] [])]):Tm),(.mk 0 2 ⟨#[]⟩ [] []:Tm)])])) Bg Bw O O O O (CB (Bu _)) (ED _)) Ap (BL O (fun _=>CJ Gi Bw O) Ap (BL O (fun _=>Es O O (lb ) (aw (we O) (aw (C7 O) (Eg)))) Ap (Bb A0 3 [] O (J7 [] O O (A7 Bw O) Aj fun b13=>⟨AB,Ap,?_⟩)))))))));refine B4 A0 2 [0,1] O (Au ?_)
 refine GZ (M:=⟨188,mk [(1,.p (.fn 33)),(2,.p (.fn 34)),(4,.p (.lst (List.map Bj DT))),(5,.ptr b5 0),(6,.p (I 0)),(7,.ptr b7 0),(8,.ptr b8 0),(9,.p (I 0)),(10,.ptr b10 0),(11,.p (.bool true)),(12,.p (I 0)),(13,.ptr b13 0),(14,.p (I 0))],[.box b13 ((BK N7).map .p),.box b10 ((BK My).map .p),.box b8 ((BK Rm).map .p),.box b7 ((BK (.mk 4 0 ⟨#[]⟩ [] [(.mk 4 0 ⟨#[]⟩ [] [(.mk 3 0 ⟨#[112,108,117,115]⟩ [] []),(.mk 4 0 ⟨#[]⟩ [] [(.mk 5 0 ⟨#[]⟩ [] [(.mk 3 0 ⟨#[78,97,116]⟩ [] []:Tm),(.mk 0 0 ⟨#[]⟩ [] []:Tm)]:Tm),(.mk 0 3 ⟨#[]⟩ [] []:Tm)]:Tm)]:Tm),(.mk 0 4 ⟨#[]⟩ [] []:Tm)])).map .p),.box b5 ((BK Ke).map .p),.box b3 [.p (I 5),.p (I 0),.p (.str ⟨#[]⟩),.p (.nils),.p (.lst (BC ([(.mk 3 0 ⟨#[78,97,116]⟩ [] []),(.mk 0 0 ⟨#[]⟩ [] [])])))]],[]⟩) (Dp ⟨O,O,O,O,O,O,O,O,O,O,O,O,O,Ap⟩ (List.Sublist.refl _)) ?_;refine A3 (Ay A0 3 [] O (Aq O (BF O O (JX 0) O) (Aq O (Bi (rows:=BC ([(.mk 0 0 ⟨#[]⟩ [] [])])) Bg Bw O O O O (CB (Bu _)) (ED _)) (Aq O (Es O O (SQ (.mk 12 0 ⟨#[]⟩ [] []:Tm) (.mk 0 0 ⟨#[]⟩ [] []:Tm)) (aw (C7 O) (aw (we O) (Eg)))) (BG O (A7 Bw O) fun b15=>Ar A0 1 [0,1] O (Au ?_))))));refine GZ (M:=⟨188,mk [(1,.p (.fn 33)),(2,.p (.fn 34)),(4,.p (.lst (List.map Bj DT))),(5,.ptr b5 0),(6,.p (I 0)),(7,.ptr b7 0),(8,.ptr b8 0),(9,.p (I 0)),(10,.ptr b10 0),(11,.p (.bool true)),(12,.p (I 0)),(13,.ptr b13 0),(14,.p (I 0)),(15,.ptr b15 0)],[.box b15 ((BK (.mk 4 0 ⟨#[]⟩ [] [(.mk 12 0 ⟨#[]⟩ [] []:Tm),(.mk 0 0 ⟨#[]⟩ [] []:Tm)])).map .p),.box b13 ((BK N7).map .p),.box b10 ((BK My).map .p),.box b8 ((BK Rm).map .p),.box b7 ((BK (.mk 4 0 ⟨#[]⟩ [] [(.mk 4 0 ⟨#[]⟩ [] [(.mk 3 0 ⟨#[112,108,117,115]⟩ [] []),(.mk 4 0 ⟨#[]⟩ [] [(.mk 5 0 ⟨#[]⟩ [] [(.mk 3 0 ⟨#[78,97,116]⟩ [] []:Tm),(.mk 0 0 ⟨#[]⟩ [] []:Tm)]:Tm),(.mk 0 3 ⟨#[]⟩ [] []:Tm)]:Tm)]:Tm),(.mk 0 4 ⟨#[]⟩ [] []:Tm)])).map .p),.box b5 ((BK Ke).map .p),.box b3 [.p (I 5),.p (I 0),.p (.str ⟨#[]⟩),.p (.nils),.p (.lst (BC ([(.mk 3 0 ⟨#[78,97,116]⟩ [] []),(.mk 0 0 ⟨#[]⟩ [] [])])))]],[]⟩) (Dp ⟨O,O,O,O,O,O,O,O,O,O,O,O,O,O,Ap⟩ (List.Sublist.refl _)) ?_
 refine B6 (fun k=>false) EO (Bb A0 2 [] O (BL O (fun _=>BF O O (Hw ⟨#[112,108,117,115]⟩) O) Ap (Bb A0 2 [0] O (BL O (fun _=>BF O O (JX 1) O) Ap (BL O (fun _=>Bi (rows:=BC ([(.mk 4 0 ⟨#[]⟩ [] [(.mk 12 0 ⟨#[]⟩ [] []:Tm),(.mk 0 0 ⟨#[]⟩ [] []:Tm)]),(.mk 0 1 ⟨#[]⟩ [] [])])) Bg Bw O O O O (CB (Bu _)) (ED _)) Ap (BL O (fun _=>BF O O (U2 (.mk 3 0 ⟨#[112,108,117,115]⟩ [] []) (.mk 4 0 ⟨#[]⟩ [] [(.mk 12 0 ⟨#[]⟩ [] []:Tm),(.mk 0 0 ⟨#[]⟩ [] []:Tm)]:Tm) (.mk 0 1 ⟨#[]⟩ [] []:Tm)) O) Ap (BL O (fun _=>BF O O (mY ) O) Ap (B4 A0 7 [] O (Au ?_)))))))));refine GZ (M:=⟨188,mk [(1,.p (.fn 33)),(2,.p (.fn 34)),(4,.p (.lst (List.map Bj DT))),(5,.ptr b5 0),(6,.p (I 0)),(7,.ptr b7 0),(8,.ptr b8 0),(9,.p (I 0)),(10,.ptr b10 0),(11,.p (.bool true)),(12,.p (I 0)),(13,.ptr b13 0),(14,.p (I 0)),(15,.ptr b15 0),(16,.p (I 0)),(17,.p (.bool true)),(18,.p (I 0))],[.box b15 ((BK (.mk 4 0 ⟨#[]⟩ [] [(.mk 12 0 ⟨#[]⟩ [] []:Tm),(.mk 0 0 ⟨#[]⟩ [] []:Tm)])).map .p),.box b13 ((BK N7).map .p),.box b10 ((BK My).map .p),.box b8 ((BK Rm).map .p),.box b7 ((BK (.mk 4 0 ⟨#[]⟩ [] [(.mk 4 0 ⟨#[]⟩ [] [(.mk 3 0 ⟨#[112,108,117,115]⟩ [] []),(.mk 4 0 ⟨#[]⟩ [] [(.mk 5 0 ⟨#[]⟩ [] [(.mk 3 0 ⟨#[78,97,116]⟩ [] []:Tm),(.mk 0 0 ⟨#[]⟩ [] []:Tm)]:Tm),(.mk 0 3 ⟨#[]⟩ [] []:Tm)]:Tm)]:Tm),(.mk 0 4 ⟨#[]⟩ [] []:Tm)])).map .p),.box b5 ((BK Ke).map .p),.box b3 [.p (I 5),.p (I 0),.p (.str ⟨#[]⟩),.p (.nils),.p (.lst (BC ([(.mk 3 0 ⟨#[78,97,116]⟩ [] []),(.mk 0 0 ⟨#[]⟩ [] [])])))]],[]⟩) (Dp ⟨O,O,O,O,O,O,O,O,O,O,O,O,O,O,O,O,O,Ap⟩ (List.Sublist.refl _)) ?_;refine B6 (fun k=>false) EO (Bb A0 2 [] O (BL O (fun _=>BF O O (Hw ⟨#[115,117,99,99]⟩) O) Ap (Bb A0 1 [0] O (BL O (fun _=>Bi (rows:=BC ([(.mk 4 0 ⟨#[]⟩ [] [(.mk 12 0 ⟨#[]⟩ [] []:Tm),(.mk 0 0 ⟨#[]⟩ [] []:Tm)])])) Bg Bw O O O O (CB (Bu _)) (ED _)) Ap (BL O (fun _=>BF O O (SQ (.mk 3 0 ⟨#[115,117,99,99]⟩ [] []) (.mk 4 0 ⟨#[]⟩ [] [(.mk 12 0 ⟨#[]⟩ [] []:Tm),(.mk 0 0 ⟨#[]⟩ [] []:Tm)]:Tm)) O) Ap (BL O (fun _=>BF O O (mx ) O) Ap (B4 A0 7 [] O (Au (Au ?_)))))))))
 refine GZ (M:=⟨188,mk [(1,.p (.fn 33)),(2,.p (.fn 34)),(5,.ptr b5 0),(6,.p (I 0)),(7,.ptr b7 0),(8,.ptr b8 0),(9,.p (I 0)),(10,.ptr b10 0),(11,.p (.bool true)),(12,.p (I 0)),(13,.ptr b13 0),(14,.p (I 0)),(16,.p (I 0)),(17,.p (.bool true)),(18,.p (I 0)),(20,.p (.bool false)),(21,.p (I 0))],[.box b15 ((BK (.mk 4 0 ⟨#[]⟩ [] [(.mk 12 0 ⟨#[]⟩ [] []:Tm),(.mk 0 0 ⟨#[]⟩ [] []:Tm)])).map .p),.box b13 ((BK N7).map .p),.box b10 ((BK My).map .p),.box b8 ((BK Rm).map .p),.box b7 ((BK (.mk 4 0 ⟨#[]⟩ [] [(.mk 4 0 ⟨#[]⟩ [] [(.mk 3 0 ⟨#[112,108,117,115]⟩ [] []),(.mk 4 0 ⟨#[]⟩ [] [(.mk 5 0 ⟨#[]⟩ [] [(.mk 3 0 ⟨#[78,97,116]⟩ [] []:Tm),(.mk 0 0 ⟨#[]⟩ [] []:Tm)]:Tm),(.mk 0 3 ⟨#[]⟩ [] []:Tm)]:Tm)]:Tm),(.mk 0 4 ⟨#[]⟩ [] []:Tm)])).map .p),.box b5 ((BK Ke).map .p),.box b3 [.p (I 5),.p (I 0),.p (.str ⟨#[]⟩),.p (.nils),.p (.lst (BC ([(.mk 3 0 ⟨#[78,97,116]⟩ [] []),(.mk 0 0 ⟨#[]⟩ [] [])])))]],[]⟩) (Dp ⟨O,O,O,O,O,O,O,O,O,O,O,O,O,O,O,O,O,Ap⟩ (List.Sublist.refl _)) ?_;refine A3 (Ar A0 22 [] O ?_);refine Av O (fun c=>by cases c) (fun c=>?_);refine A1 (Au ?_);refine GZ (M:=⟨188,mk [(1,.p (.fn 33)),(2,.p (.fn 34)),(5,.ptr b5 0),(7,.ptr b7 0),(8,.ptr b8 0),(10,.ptr b10 0),(11,.p (.bool true)),(13,.ptr b13 0),(16,.p (I 0)),(17,.p (.bool true)),(20,.p (.bool false))],[.box b15 ((BK (.mk 4 0 ⟨#[]⟩ [] [(.mk 12 0 ⟨#[]⟩ [] []:Tm),(.mk 0 0 ⟨#[]⟩ [] []:Tm)])).map .p),.box b13 ((BK N7).map .p),.box b10 ((BK My).map .p),.box b8 ((BK Rm).map .p),.box b7 ((BK (.mk 4 0 ⟨#[]⟩ [] [(.mk 4 0 ⟨#[]⟩ [] [(.mk 3 0 ⟨#[112,108,117,115]⟩ [] []),(.mk 4 0 ⟨#[]⟩ [] [(.mk 5 0 ⟨#[]⟩ [] [(.mk 3 0 ⟨#[78,97,116]⟩ [] []:Tm),(.mk 0 0 ⟨#[]⟩ [] []:Tm)]:Tm),(.mk 0 3 ⟨#[]⟩ [] []:Tm)]:Tm)]:Tm),(.mk 0 4 ⟨#[]⟩ [] []:Tm)])).map .p),.box b5 ((BK Ke).map .p),.box b3 [.p (I 5),.p (I 0),.p (.str ⟨#[]⟩),.p (.nils),.p (.lst (BC ([(.mk 3 0 ⟨#[78,97,116]⟩ [] []),(.mk 0 0 ⟨#[]⟩ [] [])])))]],[]⟩) (Dp ⟨O,O,O,O,O,O,O,O,O,O,O,Ap⟩ (List.Sublist.refl _)) ?_
 refine B6 (fun k=>false) EO (Bb A0 2 [5] O (BL O (fun _=>BF O O (Hw ⟨#[115,117,99,99]⟩) O) Ap (BL O (fun _=>BT O) Ap (BL O (fun _=>BF O O (Hw ⟨#[112,108,117,115]⟩) O) Ap (BL O (fun _=>BT O) Ap (BL O (fun _=>BF O O (JX 3) O) Ap (BL O (fun _=>BT O) Ap (BL O (fun _=>BF O O (JX 4) O) Ap (BL O (fun _=>Bi (rows:=BC ([(.mk 0 3 ⟨#[]⟩ [] []),(.mk 0 4 ⟨#[]⟩ [] [])])) Bg Bw O O O O (CB (Bu _)) (ED _)) Ap (BL O (fun _=>BF O O (U2 (.mk 3 0 ⟨#[112,108,117,115]⟩ [] []) (.mk 0 3 ⟨#[]⟩ [] []:Tm) (.mk 0 4 ⟨#[]⟩ [] []:Tm)) O) Ap ?_))))))))));refine BL O (fun _=>Bi (rows:=BC ([(.mk 4 0 ⟨#[]⟩ [] [(.mk 4 0 ⟨#[]⟩ [] [(.mk 3 0 ⟨#[112,108,117,115]⟩ [] []),(.mk 0 3 ⟨#[]⟩ [] []:Tm)]:Tm),(.mk 0 4 ⟨#[]⟩ [] []:Tm)])])) Bg Bw O O O O (CB (Bu _)) (ED _)) Ap (BL O (fun _=>BF O O (SQ (.mk 3 0 ⟨#[115,117,99,99]⟩ [] []) (.mk 4 0 ⟨#[]⟩ [] [(.mk 4 0 ⟨#[]⟩ [] [(.mk 3 0 ⟨#[112,108,117,115]⟩ [] []:Tm),(.mk 0 3 ⟨#[]⟩ [] []:Tm)]:Tm),(.mk 0 4 ⟨#[]⟩ [] []:Tm)]:Tm)) O) Ap (BL O (fun _=>BF O O (gy ) O) Ap (Bb A0 3 [3,4] O (Cq O (fun _=>BF O O (fO ) O) Ap (Bb A0 7 [2] O (Cq O (fun _=>BF O O (Hw ⟨#[112,108,117,115]⟩) O) Ap (Cq O (fun _=>BT O) Ap (Cq O (fun _=>BF O O (JX 3) O) Ap (Cq O (fun _=>BT O) Ap (Cq O (fun _=>BF O O (JX 4) O) Ap ?_))))))))));refine Cq O (fun _=>Bi (rows:=BC ([(.mk 0 3 ⟨#[]⟩ [] []),(.mk 0 4 ⟨#[]⟩ [] [])])) Bg Bw O O O O (CB (Bu _)) (ED _)) Ap (Cq O (fun _=>BF O O (U2 (.mk 3 0 ⟨#[112,108,117,115]⟩ [] []) (.mk 0 3 ⟨#[]⟩ [] []:Tm) (.mk 0 4 ⟨#[]⟩ [] []:Tm)) O) Ap (Cq O (fun _=>BF O O (iH ) O) Ap (Bb A0 4 [1] O (Cq O (fun _=>BF O O (JX 2) O) Ap (Cq O (fun _=>Bi (rows:=BC ([(.mk 0 2 ⟨#[]⟩ [] [])])) Bg Bw O O O O (CB (Bu _)) (ED _)) Ap (Cq O (fun _=>CJ Gi Bw O) Ap (Cq O (fun _=>Es O O (ec ) (aw (we O) (aw (C7 O) (Eg)))) Ap (B4 A0 13 [] O (Az (⟨O,_,_,⟨_,_,O,O,O⟩,(List.nil_sublist _),?_⟩))))))))))
 all_goals exact⟨rfl,rfl⟩
theorem Vx:∀(n:Nat) (l:List Tm) (most:Int),BS l≤n→Vm l→l.length<wide→E4 Tryz.prog 29 [.p (I most),kg l] (.p (I (EA l most 0))):=by
 intro n
 induction n using Nat.strongRecOn with
 | ind n ih =>
  intro l most hs hnd hlen;simp only[wide] at hlen;refine A4 Tryz.func29 O p5 (n:=29) O O (As A0 1 [] O (As A0 1 [] O (Au (Aw (Br O (Aq O (Ci Bg O) (Ar A0 1 [] O (A8 (Be (α:=Nat×Int) (fun s=>⟨29,mk [(0,.p (I most)),(5,.p (I s.2)),(8,kg l),(9,.p (I (BC l).length)),(10,.p (I s.1))],[],[]⟩) (fun s=>l.length - s.1) (fun s=>s.1≤l.length∧EA (l.drop s.1) most s.2=EA l most 0) ((0,0)) Ao ?_ ?_)))))))))
  ·exact Dp ⟨O,O,O,O,O,Ap⟩ AA
  rintro⟨i,m⟩ ⟨hi,hC⟩;simp only at hi hC;refine As A0 1 [] O (Au (Av O (fun c1=>?_) (fun c1=>?_)))
  ·(try simp only[sd] at c1);have hi2:i<l.length:=by rw[BR] at c1;omega
   obtain⟨t,hk⟩:=A6 hi2;have hks:=Cb hk;obtain⟨kd,ix,nm,ls,ks⟩:=t;have hnt:=Pf hnd hk;simp only[Wd] at hnt;simp only[size] at hks;refine A1 (Au (A8 (Aw (Aq O (A5 Bg O O An (Bd hk) (BB _)) (Aq O (BJ BQ O (BB _)) (BG O (A7 Bw O) fun b7=>Ar A0 1 [0,0] O (Au (As A0 3 [] O (Av O (fun c2=>?_) (fun c2=>?_))))))))))
   ·(try simp only[sd] at c2);refine As A0 2 [] O (Az ⟨O,_,[],Ba O,List.nil_sublist _,?_⟩);exact⟨pI (by rw[←hC,Rs hk,if_pos An]),O⟩
   (try simp only[sd] at c2);refine A1 (A3 (Ay A0 3 [] O (Aq O (IY O O) (Ay A0 2 [0] O (Aq O (BF O O (ih (BS ks) An ks _ (Nat.le_refl _) hnt.2.2.2.2.1 hnt.2.2.2.1) O) (Aq O (EX O O) (Aq O (EX O O) (Ar A0 1 [] O (A3 (Ar A0 2 [] O ?_))))))))));exact⟨(i+1,wr (m+wr (1+EA ks (wr (most - m)) 0))),Ai,⟨by omega,by rw[←hC,Rs hk,if_neg An,EG]⟩,Dp ⟨rfl,rfl,rfl,rfl,rfl,trivial⟩ AA⟩
  (try simp only[sd] at c1);have hi2:i=l.length:=by rw[BR] at c1;omega
  refine Bh (As A0 2 [] O (Az ⟨O,_,[],Ba O,List.nil_sublist _,?_⟩));exact⟨pI (by rw[←hC,hi2,List.drop_length];rfl),O⟩
theorem iy:∀(x:CX),(kZ x)→E4 Tryz.prog 100 [.agg ((B5 x).map .p)] (.p (.bool (decide ((x.vars.length:Int) > 20)))):=by
 intro x h1;refine A4 Tryz.func100 O lL (n:=7) O O (Aw (BG O (BO O) fun b1=>Ar A0 1 [] O (Aw (Ay A0 2 [0] O (Aq O (BM D4 O (List.length_map _)) (Ar A0 2 [] O (Az (⟨O,_,_,⟨_,_,O,O,O⟩,(List.nil_sublist _),?_⟩))))))))
 all_goals exact⟨rfl,rfl⟩
theorem jf:∀(l:List CX),(l.length<wide)→(∀x∈l,kZ x)→FY Tryz.prog 130 [.p (.lst (List.map B5 l)),.p (.fn 100)] (fun v=>∃r:Int,v= .p (I r)∧(r<0→∀x∈l,x.vars.length≤20)):=by
 intro l h1 h2;simp only[wide] at h1;refine A4 Tryz.func130 O ik (n:=19) O O (As A0 1 [] O (Au (Aw (Br O (Aq O (BM FQ O (List.length_map _)) (Ar A0 1 [] O (A8 ?_)))))));refine Be (α:=Nat) (fun i=>⟨19,mk [(0,.p (.lst (List.map B5 l))),(1,.p (.fn 100)),(7,.p (I (l.length:Nat))),(8,.p (I (i:Int)))],[],[]⟩) (fun i=>l.length - i) (fun i=>i≤l.length∧(∀j,j<i→∀x,l[j]?=some x→x.vars.length≤20)) 0 (⟨by omega,fun j h=>by omega⟩) ?_ ?_
 ·exact BY ⟨we O,we O,we O,we O,Ap⟩ (leH (is:=[]) O (DO))
 rintro i hC
 try simp only at hC
 obtain⟨hi,hC⟩:=hC;refine As A0 1 [] O (Au (Av O (fun c=>?_) (fun c=>?_)))
 ·(try simp only[sd,se] at c);refine A1 (Au (A8 (As A0 2 [] O (Aw (Ay A0 3 [] O ?_)))));obtain⟨x,hx⟩:=A6 (l:=l) (i:=i) An;refine Aq O (A5 FQ O O An (G3 hx) (Dx _)) (Aq O (BJ FW O (Dx _)) (Aq O (BF O O (iy x (h2 x (List.mem_of_getElem? hx))) O) (Bf O (Av O (fun c1=>?_) (fun c1=>?_)))))
  ·(try simp only[sd,se] at c1);refine As A0 2 [] O (Az (⟨O,_,[],Ba O,List.nil_sublist _,⟨⟨_,O,?_⟩,O⟩⟩));exact fun h=>by omega
  (try simp only[sd,se] at c1);refine A1 (A3 (Ar A0 2 [] O (⟨(i+1),AT,⟨by omega,Cu hC hx An⟩,BY ⟨we rfl,we rfl,we rfl,we rfl,trivial⟩ (leH (is:=[]) rfl (DO))⟩)))
 (try simp only[sd,se] at c);refine Bh (As A0 1 [] O (Az (⟨O,_,[],Ba O,List.nil_sublist _,⟨⟨_,O,?_⟩,O⟩⟩)));exact fun _ x hx=>by obtain⟨j,hj⟩:=KI hx;exact hC j (by have:=(List.getElem?_eq_some_iff.1 hj).1;omega) x hj
theorem gJ:∀(l:List CX),(l.length<wide)→(∀x∈l,kZ x)→FY Tryz.prog 99 [.p (.lst (List.map B5 l)),.p (.fn 100)] (fun v=>∃b:Bool,v= .p (.bool b)∧(b=false→∀x∈l,x.vars.length≤20)):=by
 intro l h1 h2;refine A4 Tryz.func99 O nU (n:=9) O O (As A0 1 [] O (Aw (Ay A0 2 [] O (DW O O (B2 O O (jf l h1 h2) (.inl O)) ?_))));rintro _ ⟨r,rfl,hr⟩;refine Ar A0 2 [] O (Az (⟨O,_,[],Ba O,List.nil_sublist _,⟨⟨_,O,?_⟩,O⟩⟩));exact fun h=>hr (by simp at h;omega)
theorem nV:∀(n:Nat) (l:List Tm),(BS l≤n)→(Vm l)→(l.length<wide)→FY Tryz.prog 64 [.p (.lst (BC l))] (fun v=>∃b:Bool,v= .p (.bool b)∧(b=true→XL l)):=by
 intro n
 induction n using Nat.strongRecOn with
 | ind n ih =>
  intro l h1 h2 h3;have h3b:=h3;simp only[wide] at h3b;refine A4 Tryz.func64 O pN (n:=36) O O (As A0 1 [] O (Au (Aw (Br O (Aq O (BF O O (Vx _ l 200 (Nat.le_refl _) h2 h3) O) (Ar A0 1 [] O (Av O (fun c=>?_) (fun c=>?_))))))))
  ·have cR:=c;(try simp only[sd,se] at c);refine As A0 1 [] O (Az (⟨O,_,[],Ba O,List.nil_sublist _,⟨⟨_,O,?_⟩,O⟩⟩));exact fun h=>absurd h Am
  have cR:=c;(try simp only[sd,se] at c);refine A1 (Au (Aw (Br O (Aq O (BM Bg O (BR _)) (Ar A0 1 [] O (A8 ?_))))));refine Be (α:=Nat) (fun i=>⟨36,mk [(8,.p (.lst (BC l))),(9,.p (I (l.length:Nat))),(10,.p (I (i:Int)))],[],[]⟩) (fun i=>l.length - i) (fun i=>i≤l.length∧(∀j,j<i→∀x,l[j]?=some x→ZT x)) 0 (⟨by omega,fun j h=>by omega⟩) ?_ ?_
  ·exact BY ⟨we O,we O,we O,Ap⟩ (leH (is:=[]) O (DO))
  rintro i hC
  try simp only at hC
  obtain⟨hi,hC⟩:=hC;refine As A0 1 [] O (Au (Av O (fun c1=>?_) (fun c1=>?_)))
  ·have c1R:=c1;(try simp only[sd,se] at c1);refine A1 (Au (A8 (Aw ?_)));obtain⟨t,ht⟩:=A6 (l:=l) (i:=i) An;refine Aq O (A5 Bg O O An (Bd ht) (BB _)) (Aq O (BJ BQ O (BB _)) (BG O (A7 Bw O) fun b4=>Ar A0 1 [0,1] O (Au ?_)));obtain⟨tk,ti,tn,tl,ts⟩:=t;have hnt:=Pf h2 ht;simp only[Wd] at hnt;have hks:=Cb ht;simp only[size] at hks;refine BU [8,9,10] 34 (fun y=>∃b:Bool,y= .p (.bool b)∧(b=false→ZT (.mk tk ti tn tl ts))) ?_ ?_
   ·refine A3 (Ay A0 2 [0] O (Aq O (Ff iR O) (Ay A0 2 [] O (BI 18 O (fun g=>?_) (fun g=>?_)))))
    ·(try simp only[sd,se] at g);refine Ar A0 16 [] O ?_;exact⟨O,O,AJ,(by first | exact⟨_,rfl,fun h=>absurd h Am⟩ | exact⟨_,rfl,fun h=>by simp only[Bool.not_eq_false'] at h;exact⟨by omega,by omega,hb Ak,(hb1 h).sz,(hb1 h).nd,(hb1 h).fw⟩⟩),⟨O,O,O,Ap⟩⟩
    (try simp only[sd,se] at g);refine Ay A0 2 [0] O (BA O (BM FQ O (List.length_map _)) (Ay A0 3 [] O (BI 24 O (fun g1=>?_) (fun g1=>?_))))
    ·(try simp only[sd,se] at g1);refine Ar A0 10 [] O ?_;exact⟨O,O,AJ,(by first | exact⟨_,rfl,fun h=>absurd h Am⟩ | exact⟨_,rfl,fun h=>by simp only[Bool.not_eq_false'] at h;exact⟨by omega,by omega,hb Ak,(hb1 h).sz,(hb1 h).nd,(hb1 h).fw⟩⟩),⟨O,O,O,Ap⟩⟩
    (try simp only[sd,se] at g1);refine Ay A0 2 [0] O (HU O O O O (B2 O O (gJ tl hnt.2.1 hnt.2.2.1) (.inl O)) ?_);rintro _ ⟨b,rfl,hb⟩;refine Ay A0 2 [] O (BI 29 O (fun g2=>?_) (fun g2=>?_))
    ·(try simp only[sd,se] at g2);refine Ar A0 5 [] O ?_;exact⟨O,O,AJ,(by first | exact⟨_,rfl,fun h=>absurd h Am⟩ | exact⟨_,rfl,fun h=>by simp only[Bool.not_eq_false'] at h;exact⟨by omega,by omega,hb Ak,(hb1 h).sz,(hb1 h).nd,(hb1 h).fw⟩⟩),⟨O,O,O,Ap⟩⟩
    (try simp only[sd,se] at g2);refine Ay A0 2 [0] O (HU O O O O (B2 O O (ih (BS ts) An ts (Nat.le_refl _) hnt.2.2.2.2.1 hnt.2.2.2.1) (.inl O)) ?_);rintro _ ⟨b1,rfl,hb1⟩;refine Ar A0 2 [] O ?_;exact⟨O,O,AJ,(by first | exact⟨_,rfl,fun h=>absurd h Am⟩ | exact⟨_,rfl,fun h=>by simp only[Bool.not_eq_false'] at h;exact⟨by omega,by omega,hb Ak,(hb1 h).sz,(hb1 h).nd,(hb1 h).fw⟩⟩),⟨O,O,O,Ap⟩⟩
   rintro _ ⟨q,rfl,hq⟩;refine Av O (fun c2=>?_) (fun c2=>?_)
   ·have c2R:=c2;(try simp only[sd,se] at c2);refine As A0 1 [] O (Az (⟨O,_,[],Ba O,List.nil_sublist _,⟨⟨_,O,?_⟩,O⟩⟩));exact fun h=>absurd h Am
   have c2R:=c2;(try simp only[sd,se] at c2);refine A1 (A3 (Ar A0 2 [] O (⟨(i+1),AT,⟨by omega,Cu hC ht (hq (by simpa using c2))⟩,BY ⟨we rfl,we rfl,we rfl,trivial⟩ (leH (is:=[]) rfl (DO))⟩)))
  have c1R:=c1;(try simp only[sd,se] at c1);refine Bh (As A0 1 [] O (Az (⟨O,_,[],Ba O,List.nil_sublist _,⟨⟨_,O,?_⟩,O⟩⟩)));exact fun _=>fJ (m:=i) An h2 h3 An hC
theorem db:∀(l:List Tm),(Vm l)→(l.length<wide)→FY Tryz.prog 30 [.p (.lst (BC l))] (fun v=>∃bb:Bool,v= .p (.bool bb)∧(bb=true→XL l∧∀t∈l,okB t=true)):=by
 intro l h1 h2;have h2b:=h2;simp only[wide] at h2b;refine A4 Tryz.func30 O oN (n:=18) O O (As A0 1 [] O (Au (Aw (Br O (DW O O (B2 O O (nV _ l (Nat.le_refl _) h1 h2) (.inl O)) ?_)))));rintro _ ⟨b,rfl,hb⟩;refine Ar A0 1 [] O (Av O (fun c=>?_) (fun c=>?_))
 ·(try simp only[sd,se] at c);refine As A0 1 [] O (Az (⟨O,_,[],Ba O,List.nil_sublist _,⟨⟨_,O,?_⟩,O⟩⟩));exact fun h=>absurd h Am
 (try simp only[sd,se] at c);have hf:=hb (by simpa using c);refine A1 (Au (Aw (Br O (Aq O (BM Bg O (BR _)) (Ar A0 1 [] O (A8 ?_))))));refine Be (α:=Nat) (fun i=>⟨18,mk [(8,.p (.lst (BC l))),(9,.p (I (l.length:Nat))),(10,.p (I (i:Int)))],[],[]⟩) (fun i=>l.length - i) (fun i=>i≤l.length∧(∀j,j<i→∀x,l[j]?=some x→okB x=true)) 0 (⟨by omega,fun j h=>by omega⟩) ?_ ?_
 ·exact BY ⟨we O,we O,we O,Ap⟩ (leH (is:=[]) O (DO))
 rintro i hC
 try simp only at hC
 obtain⟨hi,hC⟩:=hC;refine As A0 1 [] O (Au (Av O (fun c1=>?_) (fun c1=>?_)))
 ·(try simp only[sd,se] at c1);refine A1 (Au (A8 (Aw ?_)));obtain⟨x,hx⟩:=A6 (l:=l) (i:=i) An;refine Aq O (A5 Bg O O An (Bd hx) (BB _)) (Aq O (BJ BQ O (BB _)) (BG O (A7 Bw O) fun b4=>Ar A0 1 [0,1] O (Aw (Aq O (BP (i:=0) BQ O O Ag) (DW O O (B2 O O (QG x 65536 8 65536 65536 (DK hf.nd hx) (by have:=Cb hx;have:=hf.sz;omega)) (.inl O)) ?_)))));rintro _ ⟨e,rfl,he⟩;refine Ar A0 1 [] O (Av O (fun c2=>?_) (fun c2=>?_))
  ·(try simp only[sd,se] at c2);refine As A0 1 [] O (Az (⟨O,_,[],Ba O,List.nil_sublist _,⟨⟨_,O,?_⟩,O⟩⟩));exact fun h=>absurd h Am
  (try simp only[sd,se] at c2);refine A1 (A3 (Ar A0 2 [] O (⟨(i+1),AT,⟨by omega,Cu hC hx (cG (DK hf.nd hx) (by have:=Cb hx;have:=hf.sz;omega) An (he An))⟩,BY ⟨we rfl,we rfl,we rfl,trivial⟩ (leH (is:=[]) rfl (DO))⟩)))
 (try simp only[sd,se] at c1);refine Bh (As A0 1 [] O (Az (⟨O,_,[],Ba O,List.nil_sublist _,⟨⟨_,O,?_⟩,O⟩⟩)));exact fun _=>⟨hf,HO An hC⟩
theorem eS:∀(t:Tm),(okB t=true)→(size t<1000000)→FY Tryz.prog 20 [.agg ((BK t).map .p)] (Fz):=by
 intro t h1 h2;refine A4 Tryz.func20 O oG (n:=6) O O (Aw (BG O (BO O) fun b1=>Ar A0 1 [] O (Aw (Aq O (BP (i:=0) BQ O O Ag) (DW O O (B2 O O (QG t 60000 8 65536 65536 (CY.1 h1).nd h2) (.inl O)) ?_)))));rintro _ ⟨e,rfl,he⟩;refine Ar A0 2 [] O (Az (⟨O,_,_,⟨_,_,O,O,O⟩,(List.nil_sublist _),?_⟩))
 all_goals exact⟨⟨_,rfl⟩,rfl⟩
theorem kR:∀(l:List Tm),(l.length<1000000)→(∀x∈l,okB x=true∧size x<1000000)→FY Tryz.prog 67 [.p (.lst (BC l)),.p (.fn 20)] (YK):=by
 intro l h1 h2;refine A4 Tryz.func67 O qH (n:=19) O O (As A0 1 [] O (Au (Aw (Br O (Aq O (BM Bg O (BR _)) (Ar A0 1 [] O (A8 (Be (α:=Nat) (fun i=>⟨19,mk [(0,.p (.lst (BC l))),(1,.p (.fn 20)),(7,.p (I (l.length:Nat))),(8,.p (I (i:Int)))],[],[]⟩) (fun i=>l.length - i) (fun i=>i≤l.length) 0 AO ?_ ?_))))))))
 ·exact BY ⟨we O,we O,we O,we O,Ap⟩ (leH (is:=[]) O (DO))
 rintro i hC
 try simp only at hC
 have hi:=hC;refine As A0 1 [] O (Au (Av O (fun c=>?_) (fun c=>?_)))
 ·(try simp only[sd,se] at c);refine A1 (Au (A8 (As A0 2 [] O (Aw (Ay A0 3 [] O ?_)))));obtain⟨x,hx⟩:=A6 (l:=l) (i:=i) An;refine Aq O (A5 Bg O O An (Bd hx) (BB _)) (Aq O (BJ BQ O (BB _)) (DW O O (B2 O O (eS x (h2 _ (List.mem_of_getElem? hx)).1 (h2 _ (List.mem_of_getElem? hx)).2) (.inl O)) ?_));rintro _ ⟨q,rfl⟩;refine Bf O (Av O (fun c1=>?_) (fun c1=>?_))
  ·(try simp only[sd,se] at c1);refine As A0 2 [] O (Az (⟨O,_,_,⟨_,_,O,O,O⟩,(List.nil_sublist _),?_⟩))
   all_goals exact⟨⟨_,rfl⟩,rfl⟩
  (try simp only[sd,se] at c1);refine A1 (A3 (Ar A0 2 [] O ?_));refine⟨(i+1),AT,by omega,BY ⟨we rfl,we rfl,we rfl,we rfl,trivial⟩ (leH (is:=[]) rfl (DO))⟩
 (try simp only[sd,se] at c);refine Bh (As A0 1 [] O (Az (⟨O,_,_,⟨_,_,O,O,O⟩,(List.nil_sublist _),?_⟩)))
 all_goals exact⟨⟨_,rfl⟩,rfl⟩
theorem gR:∀(l:List Tm),(l.length<1000000)→(∀x∈l,okB x=true∧size x<1000000)→FY Tryz.prog 32 [.p (.lst (BC l)),.p (.fn 20)] (Fz):=by
 intro l h1 h2;refine A4 Tryz.func32 O oP (n:=9) O O (As A0 1 [] O (Aw (Ay A0 2 [] O (DW O O (B2 O O (kR l h1 h2) (.inl O)) ?_))));rintro _ ⟨r,rfl⟩;refine Ar A0 2 [] O (Az (⟨O,_,_,⟨_,_,O,O,O⟩,(List.nil_sublist _),?_⟩))
 all_goals exact⟨⟨_,rfl⟩,rfl⟩
theorem da:∀(ds:List CC) (l:List Tm),(Hn ds)→(Vm l)→(l.length<wide)→FY Tryz.prog 10 [.p (.lst (List.map Bj ds)),.p (.lst (BC l))] (fun v=>∃bb:Bool,v= .p (.bool bb)∧(bb=true→W7 ds l)):=by
 intro ds l h1 h2 h3;refine A4 Tryz.func10 O pA (n:=21) O O (As A0 1 [] O (Aw (Br O (Aq O (BF O O (Vx _ l 60 (Nat.le_refl _) h2 h3) O) (Ay A0 2 [] O (BI 8 O (fun g=>?_) (fun g=>?_)))))))
 ·(try simp only[sd,se] at g);refine BA O (BT O) (HU O O O O (B2 O O (db l h2 h3) (.inl O)) ?_);rintro _ ⟨b,rfl,hb⟩;refine Ay A0 2 [] O (BI 12 O (fun g1=>?_) (fun g1=>?_))
  ·(try simp only[sd,se] at g1);refine BA O (BT O) (HU O O O O (B2 O O (aB ds h1) (.inl O)) ?_);rintro _ ⟨q,rfl,hq⟩;refine Ay A0 2 [] O (BI 16 O (fun g2=>?_) (fun g2=>?_))
   ·(try simp only[sd,se] at g2);refine BA O (BT O) (HU O O O O (B2 O O (gR l (ZO (hb Ak).1) (V8 (hb Ak))) (.inl O)) ?_);rintro _ ⟨q1,rfl⟩;refine Ar A0 3 [] O (Az (⟨O,_,_,⟨_,_,O,O,O⟩,(List.nil_sublist _),?_⟩))
    all_goals exact⟨⟨_,rfl,fun h=>bp An (hb Ak) (hq Ak)⟩,rfl⟩
   (try simp only[sd,se] at g2);refine Ar A0 5 [] O (Az (⟨O,_,_,⟨_,_,O,O,O⟩,(List.nil_sublist _),?_⟩))
   all_goals exact⟨⟨_,rfl,fun h=>absurd h Am⟩,rfl⟩
  (try simp only[sd,se] at g1);refine Ar A0 9 [] O (Az (⟨O,_,_,⟨_,_,O,O,O⟩,(List.nil_sublist _),?_⟩))
  all_goals exact⟨⟨_,rfl,fun h=>absurd h Am⟩,rfl⟩
 (try simp only[sd,se] at g);refine Ar A0 13 [] O (Az (⟨O,_,_,⟨_,_,O,O,O⟩,(List.nil_sublist _),?_⟩))
 all_goals exact⟨⟨_,rfl,fun h=>absurd h Am⟩,rfl⟩
def re (ds:List CC) (n:Nat):Prop:=∀(b:Nat) (t:Tm) (c c2:IV) (q:Option Int),HG ds jF n c t= .ok (q,c2)→Bl Tryz.prog 19 [.p (.lst (List.map Bj ds)),.agg ((BK t).map .p),.ptr b 0] [.box b ((Ys c).map .p)] (G5 (.tup [.p (I (q.getD 0)),.p (.bool q.isSome)]) [.box b ((Ys c2).map .p)])
end Go.Proofs.YtboammbpdaoojaaGreat
namespace Go.Eu
open Go.Abs
def NF {α:Type}(o:Out α):Prop:=o≠ .fail
section
variable {α β:Type}
end
section
variable {E:List CC}{W:IV→Tm→Out (Tm×IV)}
end
@[irreducible] def FN:Nat:=1000000000000
theorem Ug:FN=1000000000000:=by unfold FN;rfl
section
variable {E:List CC}{t:Tm}
theorem cP (hE:HE E) (ho:okB t=true) (hs:size t≤10000):DB (DJ E Bo FN 20000 t) (fun r=>okB r.1=true∧size r.1<549755813888) :=
 DB.mono (WJ Xq hE FN 20000 t ⟨Kx,ho,fun _=>by simp;omega,fun _=>by rw[Ug];simp;omega,by rw[Ug];omega⟩) fun r h=>⟨h.ok,by have:=Gx h.ok;omega⟩
end
structure Fit (z:Nat) (q:Tm):Prop where
 sz:size q≤2000+z
 dp:depth q≤95+z
def QF (z:Nat) (o:Out (Option Tm×IV)):Prop:=∀q c',o= .ok (some q,c')→c'.over=false→Fit z q
theorem QF.mono {z z':Nat}{o:Out (Option Tm×IV)}(h:QF z o) (hz:z≤z'):QF z' o:=fun q c' e hv=>by
 obtain⟨h1,h2⟩:=h q c' e hv;exact⟨by omega,by omega⟩
section
variable {E:List CC}
end
section
variable {E:List CC}{t:Tm}
end
section
variable {E:List CC}{t:E3}{a:List Tm}
structure gI (t:E3) (a:List Tm):Prop where
 tok:Ew t
 dep:DY t≤50
 ok:∀x∈a,okB x=true
 sz:BS a≤60
theorem gI.len (h:gI t a):a.length≤60:=by have:=FF a;have:=h.sz;omega
theorem gI.all (h:gI t a):∀x∈a,okB x=true∧size x≤100000:=fun x hx=>⟨h.ok x hx,by have:=HH hx;have:=h.sz;omega⟩
end
end Go.Eu
namespace Go.Proofs.YtboammbpdaoojaaGreat
open Go.Abs Go.Eu
end Go.Proofs.YtboammbpdaoojaaGreat
namespace Go.Eu
open Go.Abs
section
variable {E:List CC}{t:Tm}
theorem jE (hE:HE E) (ho:okB t=true) (hs:size t≤10000):okB (Mc BZ (DJ E Bo FN 20000 t))=true∧size (Mc BZ (DJ E Bo FN 20000 t))<100000000:=by
 have h:=WJ Xq hE FN 20000 t ⟨Kx,ho,fun _=>by simp;omega,fun _=>by rw[Ug];simp;omega,by rw[Ug];omega⟩;cases ho2:DJ E Bo FN 20000 t with
 | stuck=>exact⟨Ho,by decide⟩
 | fail=>exact⟨Ho,by decide⟩
 | ok a =>
  rw[ho2] at h;have h1:Sn Bo F8 (fun n=>(20000 - n).toNat) 20000 20000 t a:=h;have h2:=h1.sz;have h3:=h1.j.1;have h4:=h1.j.2;refine⟨h1.ok,?_⟩;show size a.1<100000000;have:((20000:Int) - a.2).toNat - ((20000:Int) - 20000).toNat≤20000:=by omega
  have:=Nat.mul_le_mul_right 4500 this;omega
end
def DN (k:Int) (ks:List Tm):Tm:= .mk k 0 ⟨#[]⟩ [] ks
theorem Pc {k:Int}{ks:List Tm}(hN:kW k 0 ⟨#[]⟩ [] ks.length=true) (h:∀x∈ks,okB x=true) (hs:BS ks<1000000):okB (DN k ks)=true :=
 KO (by rw[DN,KQ,hN];simpa using Ib.2 fun x hx=>Hp (h x hx)) (by simp only[DN,size];omega)
theorem TF:∃k,FN=k+2:=⟨999999999998,by rw[Ug]⟩
theorem _root_.Go.AS {α:Prop}(h:α:=by simp only[DN,size,BS];omega):α:=h
section
variable {E:List CC}{f:Tm}{xs:List Tm}
theorem Pr {h:Tm}(ho:okB h=true) (hs:size h≤5000) (ha:∀x∈xs,okB x=true) (hz:BS xs≤60):okB (apply h xs)=true∧size (apply h xs)≤10000:=by
 have h1:=EB xs h;have h2:=FF xs;exact⟨KO (IN (Hp ho) fun x hx=>Hp (ha x hx)) An,by omega⟩
theorem Tk {n:Nat}{x:Tm×Int}{xs:List Tm}{a b:Tm}{l l2:Int}(h1:Bo.put 20000 x (fun y s=>DJ E Bo n s (apply y xs))= .ok (a,l)) (h2:DJ E Bo FN 20000 (apply x.1 xs)= .ok (b,l2)):a=b:=by
 obtain⟨_,g⟩:=UL (by rw[h1];simp);rw[g] at h1;split at h1
 ·cases h1
 exact bT h1 h2 An
theorem J3 {k:Int}{ks:List Tm}(hk:k≠4):A9 (apply (DN k ks) xs)=(DN k ks,xs):=Oa (h:=DN k ks) hk xs
theorem Nj {n:Nat}(h:n≤1000):Bo.many n=false:=by simp[Bo];omega
structure Gt (l0 l1 l2:Tm) (xs:List Tm):Prop where
 o0:okB l0=true
 o1:okB l1=true
 o2:okB l2=true
 oa:∀x∈xs,okB x=true
 sz:size l0+size l1+size l2+BS xs≤60
variable {l0 l1 l2 a b:Tm}{l m:Int}
theorem Gt.lam (h:Gt l0 l1 l2 xs):okB (DN 5 [l0,l1])=true∧size (DN 5 [l0,l1])≤100:=by
 have:=h.sz;exact⟨Pc O (by simp[h.o0,h.o1]) (by simp only[BS];omega),by simp only[DN,size,BS];omega⟩
theorem Gt.len (h:Gt l0 l1 l2 xs):xs.length≤60:=by have:=h.sz;have:=FF xs;omega
theorem Gt.args (h:Gt l0 l1 l2 xs):∀x∈l2::xs,okB x=true:=fun x hx=>by
 rcases List.mem_cons.1 hx with rfl | hx
 ·exact h.o2
 exact h.oa x hx
theorem Gt.beta (h:Gt l0 l1 l2 xs):okB (apply (Lu (DN 5 [l0,l1]) l2) xs)=true∧size (apply (Lu (DN 5 [l0,l1]) l2) xs)≤10000:=by
 have hz:=h.sz;have hh:=h.lam;exact Pr (KO (Xw (Hp hh.1) (Hp h.o2)) (by simp only[Lu,size,BS];omega)) (by simp only[Lu,size,BS];omega) h.oa An
theorem Gt.zeta (h:Gt l0 l1 l2 xs):okB (apply (DN 11 [l0,l2,l1]) xs)=true∧size (apply (DN 11 [l0,l2,l1]) xs)≤10000:=by
 have hz:=h.sz;exact Pr (Pc O (by simp[h.o0,h.o1,h.o2]) (by simp only[BS];omega)) AS h.oa An
theorem Gt.pair1 (h:Gt l0 l1 l2 xs):okB (DN 8 [l0,l1,l2])=true:=by
 have hz:=h.sz;exact Pc O (by simp[h.o0,h.o1,h.o2]) (by simp only[BS];omega)
theorem Gt.swap (h:Gt l0 l1 l2 xs):Gt l0 l2 l1 xs:=⟨h.o0,h.o2,h.o1,h.oa,by have:=h.sz;omega⟩
theorem Gt.proj (h:Gt l0 l1 l2 xs) {k:Int}(hk:k=9∨k=10):okB (apply (DN k [DN 8 [l0,l1,l2]]) xs)=true∧size (apply (DN k [DN 8 [l0,l1,l2]]) xs)≤10000:=by
 have hz:=h.sz;refine Pr (Pc (by rcases hk with rfl | rfl<;>rfl) (by simp[h.pair1]) AS) AS h.oa An
theorem Gt.body (h:Gt l0 l1 l2 xs):okB (apply (CI l1 [l2] 0).1 xs)=true∧size (apply (CI l1 [l2] 0).1 xs)≤10000:=by
 have hz:=h.sz;have h2:=Ip h.o1 (vs:=[l2]) (by simp[h.o2]);exact Pr (Lk h.o1 (by simp[h.o2]) Ao) An h.oa An
theorem Gt.second (h:Gt l0 l1 l2 xs):okB (apply l1 xs)=true∧size (apply l1 xs)≤10000:=by
 have hz:=h.sz;exact Pr h.o1 An h.oa An
theorem cH (h:Gt l0 l1 l2 xs) (e1:DJ E Bo FN 20000 (apply (Lu (DN 5 [l0,l1]) l2) xs)= .ok (a,l)) (e2:DJ E Bo FN 20000 (apply (CI l1 [l2] 0).1 xs)= .ok (b,m)):a=b:=by
 obtain⟨k,hk⟩:=TF;have hs:A9 (apply (Lu (DN 5 [l0,l1]) l2) xs)=(DN 5 [l0,l1],l2::xs):=J3 (xs:=l2::xs) Am;have hl:=h.len;rw[hk] at e1;rw[W5 (b:=l1) h.beta.1 rfl (Nj (by rw[hs,List.length_cons];omega)) (by rw[hs];rfl) (by rw[hs];simp) (by rw[hs];rfl),hs] at e1;exact Tk (x:=CI l1 [l2] 0) (xs:=xs) e1 e2
theorem aA (h:Gt l0 l1 l2 xs) (e1:DJ E Bo FN 20000 (apply (DN 11 [l0,l2,l1]) xs)= .ok (a,l)) (e2:DJ E Bo FN 20000 (apply (CI l1 [l2] 0).1 xs)= .ok (b,m)):a=b:=by
 obtain⟨k,hk⟩:=TF;have hs:A9 (apply (DN 11 [l0,l2,l1]) xs)=(DN 11 [l0,l2,l1],xs):=J3 Am;have hl:=h.len;rw[hk] at e1;rw[XO (v:=l2) (b:=l1) h.zeta.1 rfl (Nj (by rw[hs];simp only;omega)) (by rw[hs];rfl) (by rw[hs];rfl) (by rw[hs];rfl),hs] at e1;exact Tk (x:=CI l1 [l2] 0) (xs:=xs) e1 e2
theorem Uj (h:Gt l0 l1 l2 xs) {k9:Int}{y:Tm}(h9:k9=9∨k9=10) (hy:[l0,l1,l2][(1+k9 - 9).toNat]?=some y) (e1:DJ E Bo FN 20000 (apply (DN k9 [DN 8 [l0,l1,l2]]) xs)= .ok (a,l)) (e2:DJ E Bo FN 20000 (apply y xs)= .ok (b,m)):a=b:=by
 obtain⟨k,hk⟩:=TF;have hs:A9 (apply (DN k9 [DN 8 [l0,l1,l2]]) xs)=(DN k9 [DN 8 [l0,l1,l2]],xs):=J3 An;have hl:=h.len;rw[hk] at e1;rw[T5 (p:=DN 8 [l0,l1,l2]) (h.proj h9).1 rfl (Nj (by rw[hs];simp only;omega)) (by rw[hs];exact h9) (by rw[hs];rfl),hs] at e1;obtain⟨r,g1,g2,g3⟩:=LG e1;have hp:A9 (DN 8 [l0,l1,l2])=(DN 8 [l0,l1,l2],[]):=J3 (xs:=[]) Am;rw[dA h.pair1 rfl (Nj (by rw[hp];simp)) (by rw[hp];exact(by decide:(8:Int)≠5)) (by rw[hp];exact(by decide:(8:Int)≠11)) (by rw[hp];exact(by decide:(8:Int)≠9)) (by rw[hp];exact(by decide:(8:Int)≠10)) (by rw[hp];exact(by decide:(8:Int)≠3))] at g1;cases g1;rw[U1 (h:=DN k9 [DN 8 [l0,l1,l2]]) (r:=(DN 8 [l0,l1,l2],20000)) (q:=y) rfl hy] at g3;exact Tk (x:=(y,0)) (xs:=xs) g3 e2
theorem fZ {o p:Out (Tm×Int)}(h:∀a l b m,o= .ok (a,l)→p= .ok (b,m)→a=b) (h1:JJ o≠11) (h2:JJ p≠11):JJ o=0∧JJ p=0∧Mc BZ o=Mc BZ p:=by
 cases o with
 | stuck=>exact absurd rfl h1
 | fail=>exact absurd rfl h1
 | ok x =>
  cases p with
  | stuck=>exact absurd rfl h2
  | fail=>exact absurd rfl h2
  | ok y=>exact⟨rfl,rfl,h x.1 x.2 y.1 y.2 rfl rfl⟩
end
end Go.Eu
namespace Go.Proofs.YtboammbpdaoojaaGreat
open Go.Abs Go.Eu
end Go.Proofs.YtboammbpdaoojaaGreat
namespace Go.Eu
open Go.Abs
def qT (ds:List CC) (i:Nat):List Gh:=(ds.take i).flatMap CC.funs
structure rL (f:Gh):Prop where
 tin:Gj f.tree
 tok:Ew f.tree
 dep:DY f.tree≤50
 lo:1≤f.arity
 hi:f.arity≤16
end Go.Eu
namespace Go.Abs
theorem L4 {F:Nat→Prop}{w:World}{b sz:Nat}{vs:List Value}{T:TypeId}(hb:w.heap[b]?=some (.cells ⟨vs⟩ T (0,0))):∀(rows:List (List PV)) (o:Nat),(∀r∈rows,r.length=sz)→Bp F w (rows.flatten.map .p) (vs.drop o)→Bt F w b sz o rows
 | [],_,_,_=>by simp[Bt]
 | r::rows,o,hr,h=>by
  have hl:r.length=sz:=hr r Ao;rw[List.flatten_cons,List.map_append] at h;have hlen:=h.length;have h1:Bp F w (r.map .p) ((vs.drop o).take sz)∧Bp F w (rows.flatten.map .p) ((vs.drop o).drop sz):=by
   have key:∀(xs ys:List AV) (us:List Value),Bp F w (xs++ys) us→Bp F w xs (us.take xs.length)∧Bp F w ys (us.drop xs.length):=by
    intro xs
    induction xs with
    | nil=>intro ys us h;exact⟨by simp[Bp],by simpa using h⟩
    | cons x xs ih =>
     intro ys us h;simp only[List.cons_append,Bp] at h ⊢;obtain⟨u,us',rfl,h1,h2⟩:=h;obtain⟨h3,h4⟩:=ih ys us' h2;simp only[List.length_cons,List.take_succ_cons,List.drop_succ_cons];exact⟨⟨_,_,O,h1,h3⟩,h4⟩
   have:=key _ _ _ h;rw[List.length_map,hl] at this;exact this
  have hsz:sz≤(vs.drop o).length:=by
   have:=h1.1.length;simp only[List.length_map,List.length_take] at this;omega
  simp only[Bt];refine⟨hl,?_,L4 hb rows (o+sz) (fun x hx=>hr x (by simp[hx])) (by rw[←List.drop_drop];exact h1.2)⟩;have key2:∀(r:List PV) (us:List Value) (o:Nat),(∀j u,us[j]?=some u→vs[o+j]?=some u)→Bp F w (r.map .p) us→B7 F w b o r:=by
   intro r
   induction r with
   | nil=>intro us o _ _;simp[B7]
   | cons c cs ih =>
    intro us o hu h;simp only[List.map_cons,Bp,B9] at h;obtain⟨u,us',rfl,h1,h2⟩:=h;simp only[B7];refine⟨⟨u,?_,h1⟩,ih us' (o+1) (fun j v hv=>by have:=hu (j+1) v (by simpa using hv);rw[←this];congr 1;omega) h2⟩;have:=hu 0 u rfl;unfold World.cell?;rw[hb];simpa using this
  refine key2 r _ o (fun j u hj=>?_) h1.1;rw[List.getElem?_take] at hj;split at hj
  ·rw[List.getElem?_drop] at hj;exact hj
  cases hj
theorem ZM {n:Nat}{τ:Nat→AV}{H:List BD}{D:List Dw}{i b sz:Nat}{cs:List AV}{rows:List (List PV)}(hi:H[i]?=some (.box b cs)) (hc:cs=rows.flatten.map .p) (hr:∀r∈rows,r.length=sz) :
  G6 ⟨n,τ,H,D⟩ ⟨n,τ,.fro b sz rows::H.eraseIdx i,D⟩:=by
 subst hc;intro F a w hs;have hmem:=List.mem_of_getElem? hi;have hFb:F b:=hs.heap.sub _ hmem b rfl;have hbd:b<w.heap.size:=hs.heap.bd b hFb;have st:DF F w (fun k=>F k∧k≠b) w:=⟨Nat.le_refl _,fun _ _ _=>rfl,fun _ h _ h'=>h h'.1⟩;have hne:∀x∈H.eraseIdx i,∀k,x.key=some k→k≠b:=by
  intro x hx k hk hkb;subst hkb;obtain⟨j,hj⟩:=List.mem_iff_getElem?.1 hx;rw[List.getElem?_eraseIdx] at hj;split at hj
  ·have:=Ft hs.heap.nodup hj hi hk rfl;omega
  have:=Ft hs.heap.nodup hj hi hk rfl;omega
 have hsub:(H.eraseIdx i).Sublist H:=List.eraseIdx_sublist H i;refine⟨fun k=>F k∧k≠b,⟨hs.size,fun t=>B9.mono st _ _ (hs.tmp t),?_,Ei.mono st _ _ hs.defs⟩,?_⟩
 ·have:=hs.heap.sublist hsub;refine⟨fun x hx k hk=>?_,by simpa [List.filterMap_cons,BD.key] using this.nodup,fun x hx=>?_,fun k hk=>this.bd k hk.1⟩
  ·rcases List.mem_cons.1 hx with rfl | hx
   ·cases hk
   exact⟨this.sub x hx k hk,hne x hx k hk⟩
  rcases List.mem_cons.1 hx with rfl | hx
  ·obtain⟨vs,T,hb,hr2⟩:=hs.heap.obj _ hmem;refine⟨⟨vs⟩,T,hb,?_,fun h=>h.2 O,L4 hb rows 0 hr (by rw[List.drop_zero];exact Bp.mono st _ _ hr2)⟩;have:=hr2.length;rw[List.length_map,Wb hr] at this;simpa using this
  exact HV.mono st x (fun _ _=>O) (this.obj x hx)
 refine⟨Nat.le_refl _,fun _ _ _=>O,fun k hk hn=>⟨hk,fun e=>hn _ hmem (by rw[e];rfl)⟩,fun k hk=> .inl hk.1,fun x hx k hk=>?_,O,O,O⟩;rcases List.mem_cons.1 hx with rfl | hx
 ·cases hk
 exact .inl ⟨x,hsub.subset hx,hk⟩
section
variable {P:Program}{dst:Option Tmp}{ty:TypeId}{pos:String}{aft:Array Edge}{g:Option (Nat×Bool)}{ρ:Operand→AV}{H:List BD}{x y z:Operand}{v:AV}
theorem Cv {T:TypeId}{b i j o sz:Nat}{rows:List (List PV)}{r:List PV}(hT:Dl P T=some (true,sz)) (hx:ρ x= .ptr b o) (hi:H[i]?=some (.fro b sz rows)) (ho:o=j*sz) (hr:rows[j]?=some r) :
  DU P ⟨dst,.load T x,ty,pos,aft,g⟩ ρ H (.agg (r.map .p)) H :=
 CG fun F w E hH hE=>by
  subst ho;obtain⟨d,hu,hd,hz⟩:=EY hT;have h1:=hE x Aa;rw[hx] at h1;simp only[B9] at h1;obtain⟨vs,T',hb,_,_,hrows⟩:=hH.obj _ (List.mem_of_getElem? hi);obtain⟨hc,hl⟩:=hrows.at hr;obtain⟨us,u1,u2,u3⟩:=hc.vals;rw[Nat.zero_add] at u1;refine⟨.agg ⟨us⟩,?_,by simp only[B9];exact⟨us,rfl,u3⟩⟩;simp only[execOp,Instr.loadAt,h1,Instr.sureAddr,Sem.run_bind,Sem.run_pure,Result.andThen_ok,FJ hu hd u1 (by rw[hz,u2,hl])]
theorem Rl {T e:TypeId}{bl:Bool}{len sz b:Nat}(hu:P.underlying T=some (.array len e)) (ht:Dl P e=some (bl,sz)) (hx:ρ x= .ptr b 0) :
  DU P ⟨dst,.slice T x none none none,ty,pos,aft,g⟩ ρ H (.vs (some b) len len) H :=
 CG fun F w E hH hE=>by
  obtain⟨inf,h1,h2⟩:=Pe ht;have e1:=hE x Aa;rw[hx] at e1;simp only[B9] at e1;refine⟨.slice (some ⟨b,0,none⟩) len len,?_,by simp[B9]⟩;simp[execOp,Instr.sliceAt,Sem.run_bind,run_underlying hu,e1,Instr.slice,Instr.sliceBounds,sizeOf,typeInfo,h1,Instr.sureAddr,asAddr];exact fun _=>O
theorem Qg {T T2 e e2:TypeId}{sz bytes n2 n3 i b n:Nat}{rows rows':List (List PV)}{zv:Value}(hT:E6 P T=some (e,sz,bytes)) (hT2:E6 P T2=some (e2,n2,n3)) (hz:zeroOf P e=some zv) (hzs:zv.cells.size=sz) (hb0:(Nat.blt 0 sz&&Nat.blt 0 bytes)=true)
  (hx:ρ x= .vs (some b) n n) (hn:n=rows.length) (hi:H[i]?=some (.fro b sz rows)) (hy:norm (ρ y)= .p (.lst rows')) (hr':∀r∈rows',r.length=sz) (hroom:2*(rows.length+rows'.length)*bytes≤281474976710656) {rows2:List (List PV)} (h2:rows++rows'=rows2) :
  DU P ⟨dst,.call { callee:= .builtin .append,args:=#[x,y],argTypes:=#[T,T2] },ty,pos,aft,g⟩ ρ H (.p (.lst rows2)) H:=by
 subst hn;subst h2;refine GF (R:=fun r H'=>match r with | .val v=>v= .p (.lst (rows++rows'))∧H'=H | .panic _=>False) fun F w E hH hE=>?_;simp only[Bool.and_eq_true,Nat.blt_eq] at hb0;obtain⟨hu,inf,hinf,hs,hby⟩:=EN hT;obtain⟨hu2,_⟩:=EN hT2;have h1:=hE x AU;have h2:=(hE y AU).norm;rw[hx] at h1;rw[hy] at h2;simp only[B9] at h1;obtain⟨vs0,T',hb,hvs,hFb,hrows⟩:=hH.obj _ (List.mem_of_getElem? hi);have hblt:b<w.heap.size:=(Array.getElem?_eq_some_iff.1 hb).1;have hlens:=hrows.lens;obtain⟨ns,oy,cy,hEy,hns,hnsl,hnsr⟩:=Gz (P:=P) h2 hr';have hlall:∀r∈rows++rows',r.length=sz:=by
  intro r hr;rcases List.mem_append.1 hr with hr | hr
  ·exact hlens r hr
  exact hr' r hr
 have hlen:(rows++rows').length=rows.length+rows'.length:=by simp
 have hlenof:∀w,(Builtin.lenOf (E y)).run P w= .ok rows'.length w:=fun w=>by rw[hEy];rfl
 have hszr:∀w,(sizeOf e).run P w= .ok sz w:=fun w=>by simp[sizeOf,typeInfo,hinf,hs]
 have hti:∀w,(typeInfo e).run P w= .ok inf w:=fun w=>by simp[typeInfo,hinf]
 unfold zeroOf at hz;have hz':∃j,P.info? e=some j∧j.zero=some zv:=by
  cases hq:P.info? e with
  | none=>simp[hq] at hz
  | some j=>exact⟨j,rfl,by simpa [hq] using hz⟩
 obtain⟨j,hj,hz'⟩:=hz';have hzv:∀w,(zeroValue e).run P w= .ok zv w:=fun w=>by simp[zeroValue,typeInfo,hj,hz',Sem.run_bind]
 by_cases hcap:rows.length+rows'.length≤rows.length
 ·have hr0:rows'=[]:=List.eq_nil_of_length_eq_zero An;subst hr0;have hns0:ns=[]:=by apply List.eq_nil_of_length_eq_zero;simpa using hnsl
  subst hns0;refine⟨.slice (some ⟨b,0,none⟩) rows.length rows.length,w,.p (.lst (rows++[])),H,F,?_,⟨O,O⟩,.refl,hH,?_⟩
  ·simp only[execOp,resolve,invoke,builtin,Builtin.append_,h1,Sem.run_bind,Sem.run_pure,Result.andThen_ok,List.map_toArray,List.map_cons,List.map_nil,List.getElem?_toArray,List.getElem?_cons_zero,List.getElem?_cons_succ,run_underlying hu,run_underlying hu2,hszr,pure_bind,
    Bool.false_eq_true,if_false,hlenof,Bool.not_false,if_true]
   rw[if_pos hcap];simp only[Sem.run_bind,hns,Result.andThen_ok];rfl
  rw[List.append_nil];simp only[B9,CE];exact .inr ⟨b,0,rows.length,sz,O,hFb,hblt,Nat.le_refl _,hrows⟩
 have hcap':rows.length<rows.length+rows'.length:=by omega
 generalize hnc:Question.cut (.appendCap (rows.length+rows'.length) rows.length e) (w.tape w.drawn (.appendCap (rows.length+rows'.length) rows.length e))=newCap;have hncge:rows.length+rows'.length≤newCap:=by rw[←hnc];simp only[Question.cut];omega
 have hnext:=Q8 hcap';have hask:∀(b:Nat) w,(askRoom b).run P w= .ok () w:=by intro b w;unfold askRoom;split<;>rfl
 let w1:World:={ w with drawn:=w.drawn+1 }
 have same:DF F w F w1:=⟨Nat.le_refl _,fun _ _ _=>rfl,fun _ h _=>h⟩;obtain⟨os',a1,a2,a3⟩:=(Bt.mono same b sz rfl 0 rows hrows).vals;have hos':(Builtin.firstCells sz rows.length (.slice (some ⟨b,0,none⟩) rows.length rows.length)).run P w1= .ok ⟨os'⟩ w1:=by
  have:=run_loadCells_list (P:=P) w1 ⟨b,0,none⟩ os' (fun j v hv=>by rw[Addr.add_mid];exact a1 j v hv);rw[a2] at this;exact this
 obtain⟨ns',oy',cy',hEy',hns',hnsl',hnsr'⟩:=Gz (P:=P) (B9.mono same _ _ h2) hr'
 let vs:List Value:=os'++ns'++(Builtin.zeroCells zv.cells (newCap - (rows.length+rows'.length))).toList
 have hrun:(execOp E ⟨dst,.call { callee:= .builtin .append,args:=#[x,y],argTypes:=#[T,T2] },ty,pos,aft,g⟩).run P w= .ok (.value (.slice (some ⟨w.heap.size,0,none⟩) (rows.length+rows'.length) newCap)) (World.push w1 (.cells ⟨vs⟩ e (0,0))):=by
  simp only[execOp,resolve,invoke,builtin,Builtin.append_,h1,Sem.run_bind,Sem.run_pure,Result.andThen_ok,List.map_toArray,List.map_cons,List.map_nil,List.getElem?_toArray,List.getElem?_cons_zero,List.getElem?_cons_succ,run_underlying hu,run_underlying hu2,hszr,pure_bind,
   Bool.false_eq_true,if_false,hlenof,Bool.not_false,if_true]
  rw[if_neg hcap];simp only[Sem.run_bind,hti,Result.andThen_ok,hby];rw[if_neg Ai];simp only[Sem.run_bind,Sem.run_pure,Result.andThen_ok,hti,hby,pure_bind];rw[if_neg (by
   have:Builtin.nextslicecap (rows.length+rows'.length) rows.length*bytes≤2*(rows.length+rows'.length)*bytes:=Nat.mul_le_mul_right bytes hnext;simp;omega)]
  have hch:(choose (.appendCap (rows.length+rows'.length) rows.length e)).run P w= .ok newCap w1:=by
   simp only[choose,Sem.run,Question.forced,Bool.false_eq_true,if_false,hnc];rfl
  simp only[Sem.run_bind,Sem.run_pure,Result.andThen_ok,pure_bind,hch,hti,hask,hos',hns',hzv,newRow,newObj,Sem.run,Result.andThen];have evs:(⟨os'⟩++⟨ns'⟩++Builtin.zeroCells zv.cells (newCap - (rows.length+rows'.length)):Array Value)=⟨vs⟩:=by
   apply Array.ext';simp[vs]
  rw[evs];rfl
 have hlen2:(rows++rows').flatten.length=(rows.length+rows'.length)*sz:=by rw[Wb hlall,hlen]
 have hpre:Bp F w1 ((rows++rows').flatten.map .p) (vs.take ((rows++rows').flatten.length)):=by
  have e1:vs.take ((rows++rows').flatten.length)=os'++ns':=by
   rw[hlen2];have:(os'++ns').length=(rows.length+rows'.length)*sz:=by rw[List.length_append,a2,hnsl',Nat.add_mul]
   rw[←this];exact List.take_left
  rw[e1,List.flatten_append,List.map_append];exact a3.append hnsr'
 have hH1:HRel F H w1:=hH.stable' same (fun _ h=>h) (fun _ _ _ _=>rfl) hH.bd;have t1:Trans F H w F H w1:=⟨Nat.le_refl _,fun _ _ _=>rfl,fun _ h _=>h,fun _ h=> .inl h,fun o ho b hb=> .inl ⟨o,ho,hb⟩,rfl,rfl,rfl⟩;refine⟨_,_,.p (.lst (rows++rows')),H,F,hrun,⟨O,O⟩,t1.trans hH.bd (O8 H _),QP hH1 _,?_⟩;have:=Uy (T:=e) (c:=newCap) hH1.bd hlall hpre;rw[hlen] at this;exact this hncge
end
end Go.Abs
namespace Go.Eu
open Go.Abs
def X7 (x:Tm×Tm×Tm):List PV:=BK x.1++(BK x.2.1++BK x.2.2)
theorem ew (a b c:Tm):(X7 (a,b,c)).map AV.p=(BC [a,b,c]).flatten.map .p:=by simp[X7,BC]
theorem eU (a b c:Tm):∀r∈BC [a,b,c],r.length=5:=by
 intro r hr;simp only[BC,List.mem_cons,List.not_mem_nil,or_false] at hr;rcases hr with rfl | rfl | rfl<;>exact BB _
theorem YD:∀{a b:List Tm},Vm a→Vm b→Vm (a++b)
 | [],b,_,h=>h
 | t::a,b,h,h'=>⟨h.1,YD h.2 h'⟩
theorem gp {ds:List CC}{l0 l1 l2:Tm}{xs:List Tm}(h:W7 ds ([l0,l1,l2]++xs)):Gt l0 l1 l2 xs:=by
 have hz:=h.sz;rw[IC] at hz;simp only[BS] at hz;exact⟨h.ok l0 Ao,h.ok l1 Ao,h.ok l2 Ao,fun x hx=>h.ok x (by simp[hx]),by omega⟩
structure Qa (ds:List CC) (a b:Tm):Prop where
 oa:okB a=true∧size a≤10000
 ob:okB b=true∧size b≤10000
 eq:∀x l y m,DJ ds Bo FN 20000 a= .ok (x,l)→DJ ds Bo FN 20000 b= .ok (y,m)→x=y
theorem Qa.run {ds:List CC}{a b:Tm}(h:Qa ds a b):JJ (DJ ds Bo FN 20000 a)=11∨JJ (DJ ds Bo FN 20000 b)=11∨(JJ (DJ ds Bo FN 20000 a)=0∧JJ (DJ ds Bo FN 20000 b)=0∧Mc BZ (DJ ds Bo FN 20000 a)=Mc BZ (DJ ds Bo FN 20000 b)):=by
 by_cases h1:JJ (DJ ds Bo FN 20000 a)=11
 ·exact .inl h1
 by_cases h2:JJ (DJ ds Bo FN 20000 b)=11
 ·exact .inr (.inl h2)
 exact .inr (.inr (fZ h.eq h1 h2))
section
variable {ds:List CC}{l0 l1 l2:Tm}{xs:List Tm}
theorem Yh (h:Gt l0 l1 l2 xs):Qa ds (apply (Lu (DN 5 [l0,l1]) l2) xs) (apply (CI l1 [l2] 0).1 xs):=⟨h.beta,h.body,fun x l y m e1 e2=>cH h e1 e2⟩
theorem ZQ (h:Gt l0 l1 l2 xs):Qa ds (apply (DN 11 [l0,l2,l1]) xs) (apply (CI l1 [l2] 0).1 xs):=⟨h.zeta,h.body,fun x l y m e1 e2=>aA h e1 e2⟩
theorem Z8 (h:Gt l0 l1 l2 xs):Qa ds (apply (DN 10 [DN 8 [l0,l2,l1]]) xs) (apply l1 xs):=⟨h.swap.proj (.inr rfl),h.second,fun x l y m e1 e2=>Uj h.swap (.inr rfl) rfl e1 e2⟩
theorem dE (h:Gt l0 l1 l2 xs):Qa ds (apply (DN 9 [DN 8 [l0,l1,l2]]) xs) (apply l1 xs):=⟨h.proj (.inl rfl),h.second,fun x l y m e1 e2=>Uj h (.inl rfl) rfl e1 e2⟩
end
end Go.Eu
