/- Part of the proofs: an abstract program logic, plain models and contracts of functions. -/
import Derived.Test.YtboammbpdaoojaaGreatPi
import Derived.Test.YtboammbpdaoojaaGreatPd
import Derived.Test.YtboammbpdaoojaaGreatPb
import Derived.Test.YtboammbpdaoojaaGreatPc
set_option linter.unusedVariables false
set_option linter.unusedSimpArgs false
set_option maxRecDepth 100000
namespace Go.Proofs.YtboammbpdaoojaaGreat
open Go.Abs Go.Eu
theorem Qz:∀(t:Tm) (vars params metas levels:Int),(Nd t)→(size t<1000000)→F7 Tryz.prog 55 [.agg ((BO t).map .p),.p (I vars),.p (I params),.p (I metas),.p (I levels)] (fun v=>∃e:Int,v= .p (I e)∧(e=0→wf (max vars 0) metas 0 t)):=by
 intro t vars params metas levels h1 h2;refine A5 Tryz.func55 O qW (n:=28) O O (Aw (BF O (BN O) fun b5=>Ar Ay 1 [] O (As (Aw (Ax Ay 2 [0] O (Aq O (FI O O) (Ax Ay 3 [] O (Ds O O (CA O O (ib _ t 0 (max (vars:Int) (0:Int)) params metas levels (Nat.le_refl _) h1 An AZ) (.inl O)) ?_))))))));rintro _ ⟨e,rfl,he⟩;refine Ar Ay 1 [] O (Au Ay 2 [] O (Av O (fun c=>?_) (fun c=>?_)))
 ·(try simp only[sd,se] at c);refine Au Ay 2 [] O (Az (⟨O,_,[],Bi O,List.nil_sublist _,⟨⟨_,O,?_⟩,O⟩⟩));exact fun h=>absurd h Ak
 (try simp only[sd,se] at c);refine A1 (As (Aw (Aq O (BT (i:=0) BY O O Ag) (Aq O (BC O O (Mi _ t (Nat.le_refl _) h1) O) (Ar Ay 1 [] O (Av O (fun c1=>?_) (fun c1=>?_)))))))
 ·(try simp only[sd,se] at c1);refine Au Ay 1 [] O (Az (⟨O,_,[],Bi O,List.nil_sublist _,⟨⟨_,O,?_⟩,O⟩⟩));exact fun h=>absurd h Am
 (try simp only[sd,se] at c1);refine A1 (As (Aw (Aq O (BT (i:=0) BY O O Ag) (Aq O (BC O O (N8 _ t (Nat.le_refl _) h1) O) (Ar Ay 1 [] O (Av O (fun c2=>?_) (fun c2=>?_)))))))
 ·(try simp only[sd,se] at c2);refine Au Ay 1 [] O (Az (⟨O,_,[],Bi O,List.nil_sublist _,⟨⟨_,O,?_⟩,O⟩⟩));exact fun h=>absurd h Am
 (try simp only[sd,se] at c2);refine A1 (Au Ay 1 [] O (Az (⟨O,_,[],Bi O,List.nil_sublist _,⟨⟨_,O,?_⟩,O⟩⟩)));exact fun _=>he An
theorem SU:∀(ds:List CH) (d:CH),(G1 ds)→(Ns d)→F7 Tryz.prog 135 [.p (.lst (List.map Bh ds)),.agg ((Bh d).map .p)] (Yr):=by
 intro ds d h1 h2;have hn:=NL d;have hcl:=h2.cl;have hfl:=h2.fl;refine A5 Tryz.func135 O oV (n:=44) O O (Aw (BF O (BN O) fun b3=>Ar Ay 1 [] O (Aw (Aq O (BT (i:=0) FW O O Ad) (Aq O (BC O O (Mf d h2.cl h2.fl h2.nm) O) (Ar Ay 1 [] O (As (Au Ay 1 [] O (A8 (Bb (α:=Nat) (fun i=>⟨44,mk [(0,.p (.lst (List.map Bh ds))),(5,.p (.lst (List.map Gk (C2 d)))),(6,.p (I (i:Int)))],[],[]⟩) (fun i=>(C2 d).length - i) (fun i=>i≤(C2 d).length) 0 AP ?_ ?_))))))))))
 ·exact BU ⟨we O,we O,we O,Ap⟩ (leH (is:=[]) O (C3))
 rintro i hC
 try simp only at hC
 have hi:=hC;refine As (Aw (Ax Ay 2 [] O (Aq O (BK Gq O (List.length_map _)) (Ar Ay 1 [] O (Av O (fun c=>?_) (fun c=>?_))))))
 ·(try simp only[sd,se] at c);refine A1 (As (A8 (As (Aw (Ax Ay 2 [] O ?_)))));obtain⟨x,hx⟩:=A6 (l:=C2 d) (i:=i) An;refine Aq O (A4 Gq O O An (Ou hx) (O)) (Aq O (E8 Ln O) (Ds O O (CA O O (fc x (bE h2 hx)) (.inl O)) ?_));rintro _ ⟨q,rfl⟩;refine Ar Ay 1 [] O (Av O (fun c1=>?_) (fun c1=>?_))
  ·(try simp only[sd,se] at c1);refine Au Ay 1 [] O (Az (⟨O,_,_,⟨_,_,O,O,O⟩,(List.nil_sublist _),?_⟩))
   all_goals exact⟨⟨_,rfl⟩,rfl⟩
  (try simp only[sd,se] at c1);refine A1 (Aw (Ax Ay 3 [] O (Aq O (A4 Gq O O An (Ou hx) (O)) (Aq O (E8 Ln O) (Aq O (BC O O (MH ds x h1) O) (Ax Ay 3 [] O (BF O (A7 Hw O) fun b7=>Ar Ay 2 [0,1] O (As (BS [0,5,6] 43 Ge ?_ ?_)))))))))
  ·refine Bt (fun k=>false) Dn (BP Ay 3 [] O (Du 34 O (fun g=>?_) (fun g=>?_)))
   ·(try simp only[sd,se] at g);exact Bj Ay 9 [] O (⟨O,O,AK,⟨_,O⟩,⟨O,O,O,Ap⟩⟩)
   (try simp only[sd,se] at g);exact BP Ay 2 [] O (CZ O (fun _=>CY (lo:=0) (hi:=i) Gq O (CF (Kd _)) O ⟨_,O⟩ (Nat.zero_le _) AQ (Xb (f:=Gk) (C2 d) i)) Ap (BP Ay 2 [] O (CZ O (fun _=>A4 Gq O O An (Ou hx) (O)) Ap (CZ O (fun _=>E8 Ln O) Ap (CZ O (fun _=>BC O O (UD ((C2 d).take i) x Ai) O) Ap (Bj Ay 1 [] O (⟨O,O,AK,⟨_,O⟩,⟨O,O,O,Ap⟩⟩)))))))
  rintro _ ⟨q1,rfl⟩;refine Av O (fun c2=>?_) (fun c2=>?_)
  ·(try simp only[sd,se] at c2);refine Au Ay 1 [] O (Az (⟨O,_,_,⟨_,_,O,O,O⟩,(List.nil_sublist _),?_⟩))
   all_goals exact⟨⟨_,rfl⟩,rfl⟩
  (try simp only[sd,se] at c2);refine A1 (A2 (Ar Ay 3 [] O ?_));refine⟨(i+1),AT,by omega,BU ⟨we rfl,we rfl,we rfl,trivial⟩ (leH (is:=[]) rfl (C3))⟩
 (try simp only[sd,se] at c);refine Bf (Au Ay 1 [] O (Az (⟨O,_,_,⟨_,_,O,O,O⟩,(List.nil_sublist _),?_⟩)))
 all_goals exact⟨⟨_,rfl⟩,rfl⟩
theorem gQ:∀(t:Tm),(UW t)→F7 Tryz.prog 115 [.agg ((BO t).map .p)] (fun v=>∃(l:List Tm) (q:Tm),v= .tup [.p (.lst (BE l)),TV q]∧l.length<1000000):=by
 intro t h1;have hsz:=h1.sz;refine A5 Tryz.func115 O kD (n:=27) O O (Aw (BF O (BN O) fun b1=>TE O (BF O (A7 Bw O) fun b3=>Bg O (Au Ay 1 [] O (As (A8 (BH (D4 (t:=4) (sz:=5) O) ?_)))))));refine Bb (α:=Tm×List Tm×Option Nat×Nat) (fun(y,l,o,cp)=>⟨27,mk [(1,.ptr b1 0),(3,.ptr b3 0),(4,.vs o (BE l).length cp)],[.vec o 5 (BE l) cp,.box b3 [.p (I 0),.p (I 0),.p (.str ⟨#[]⟩),.p (.nils),.p (.nils)],.box b1 ((BO y).map .p)],[]⟩) (fun(y,l,o,cp)=>size y) (fun(y,l,o,cp)=>Nd y∧l.length+size y≤size t) ⟨t,[],none,0⟩ (⟨h1.nd,by simp⟩) ?_ ?_
 ·exact BU ⟨we O,we O,we O,Ap⟩ (leH (is:=[0,1,2]) O (wl (oe O) (wl (oe O) (wl (oe O) (C3)))))
 rintro⟨y,l,o,cp⟩ hC
 try simp only at hC
 have hl0:l.length<1000000:=by have:=hC.2;omega
 refine As (As ?_);obtain⟨yk,yi,yn,yl,ys⟩:=y;refine BS [1,3,4] 13 (fun y=>y= .p (.bool (((yk:Int)==(6:Int))&&(((ys.length:Nat):Int)==(2:Int))))) ?_ ?_
 ·refine A2 (Ax Ay 4 [2] O (BL 8 O (fun g=>?_) (fun g=>?_)))
  ·(try simp only[sd,se] at g);exact Ax Ay 2 [2] O (BB O (BK Be O (BQ _)) (Ar Ay 2 [] O (⟨O,O,AK,AI,⟨O,O,O,Ap⟩⟩)))
  (try simp only[sd,se] at g);exact Ar Ay 5 [] O (⟨O,O,AK,AI,⟨O,O,O,Ap⟩⟩)
 rintro _ rfl;refine Av O (fun c=>?_) (fun c=>?_)
 ·(try simp only[sd,se] at c);refine A1 (A8 (Aw (Ax Ay 3 [2] O ?_)));obtain⟨x,hx⟩:=A6 (l:=ys) (i:=0) (by first | omega | (simp at c;omega));refine Aq O (A4 Be O O An (Bd hx) (BD _)) (Aq O (BM BY O (BD _)) ?_);obtain⟨xk,xi,xn,xl,xs⟩:=x;refine Aq O (Bl Be Bw O O O O O) (Er O O (CK (i:=0) (rows':=BE [(.mk xk xi xn xl xs:Tm)]) Be Be Bw O O O O O O (Bv _) AD (Jf l [(.mk xk xi xn xl xs:Tm)])) fun o1 cp1=>Ar Ay 1 [] O (A2 (Ax Ay 2 [2] O ?_)));obtain⟨x1,hx1⟩:=A6 (l:=ys) (i:=1) (by first | omega | (simp at c;omega));refine Aq O (A4 Be O O An (Bd hx1) (BD _)) (Ar Ay 2 [2,1] O ?_);refine⟨⟨x1,l++[(.mk xk xi xn xl xs:Tm)],o1,cp1⟩,(by have:=Cc hx1;simp only[size];omega),⟨DQ hC.1.2.2.2.2.1 hx1,by have:=Cc hx1;have:=hC.2;simp only[size] at *;simp only[List.length_append,List.length_cons,List.length_nil];omega⟩,BU ⟨we rfl,we rfl,we rfl,trivial⟩ (leH (is:=[0,1,2]) rfl (wl (oe rfl) (wl (oe rfl) (wl (oe rfl) (C3)))))⟩
 (try simp only[sd,se] at c);refine Bf (As (Bt (fun k=>false) Dn (Bj Ay 4 [2,1,0] O (BH (Ce (i:=0) [4,25,2] O (Dx ⟨O,O,O,Ap⟩)) (Az (⟨O,_,_,⟨_,_,O,O,⟨_,_,O,(A9 (i:=0) BY O O O),O⟩⟩,(List.nil_sublist _),?_⟩))))))
 all_goals exact⟨⟨l,(.mk yk yi yn yl ys:Tm),rfl,by have:=hC.2;omega⟩,rfl⟩
theorem Si:∀(n:Nat) (s:Pr) (t:Tm),(size t≤n)→(Nd t)→(G1 s.env)→(s.own.length<9000000)→(Ns s.d)→F7 Tryz.prog 172 [.agg ((GI s).map .p),.agg ((BO t).map .p)] (Yr):=by
 intro n
 induction n with
 | zero=>intro s t h;cases t;simp[size] at h
 | succ n ih =>
  intro s t h1 h2 h3 h4 h5;have h3l:=h3.len;obtain⟨tk,ti,tn,tl,ts⟩:=t;have hk:=h2.2.2.2.2.1;have hkl:=h2.2.2.2.1;simp only[Dc] at hkl;simp only[size] at h1;refine A5 Tryz.func172 O qB (n:=59) O O (Aw (BF O (BN O) fun b2=>BF O (BN O) fun b3=>Ar Ay 1 [] O (As (Au Ay 3 [0] O (BS [2,3] 12 (fun _=>True) ?_ ?_)))))
  ·refine Av O (fun c=>?_) (fun c=>?_)
   ·(try simp only[sd,se] at c);refine Aw (Aq O (A0 Oc O O) (Aq O (A3 (i:=1) dt O O (Jv _)) (Ax Ay 2 [0] O (Aq O (BC O O (MH s.env tn h3) O) (Ax Ay 3 [] O (BF O (A7 Hw O) fun b5=>Ar Ay 2 [0,1] O (As (Au Ay 2 [] O (Av O (fun c1=>?_) (fun c1=>?_))))))))))
    ·(try simp only[sd,se] at c1);refine As (Aw (Aq O (A0 Oc O O) (Aq O (A3 (i:=2) V6 O O (VL _)) (Ax Ay 2 [1] O (Aq O (BC O O (UD s.own tn h4) O) (Ar Ay 1 [] O (Av O (fun c2=>?_) (fun c2=>?_))))))))
     ·(try simp only[sd,se] at c2);refine Au Ay 1 [] O (Az (⟨O,_,_,⟨_,_,O,O,O⟩,(List.nil_sublist _),?_⟩))
      all_goals exact⟨⟨_,rfl⟩,rfl⟩
     (try simp only[sd,se] at c2);refine A1 (A2 (Aq O (A0 Oc O O) (Aq O (Bu (i:=2) FW O O (To _) (Cm _)) (Aq O (A0 Oc O O) (Aq O (A3 (i:=2) dt O O (Jv _)) (Aq O (BK HT O (List.length_map _)) (Ax Ay 2 [1] O (Aq O (BC O O (Ta s.d (s.env.length:Nat) tn h5.cl h5.fl) O) (Ar Ay 1 [0,1] O (Aw (Ax Ay 2 [1] O (Aq O (BK EX O (List.length_map _)) (Aq O (A0 GH O O) (Aq O (A3 (i:=0) DN O O (HV _)) (Ar Ay 1 [] O (Av O (fun c3=>?_) (fun c3=>?_)))))))))))))))))
     ·(try simp only[sd,se] at c3);refine Au Ay 1 [] O (Az (⟨O,_,_,⟨_,_,O,O,O⟩,(List.nil_sublist _),?_⟩))
      all_goals exact⟨⟨_,rfl⟩,rfl⟩
     (try simp only[sd,se] at c3);exact A1 (⟨O,O,(B4 (is:=[1,2]) O),Ap,⟨O,O,Ap⟩⟩)
    (try simp only[sd,se] at c1);refine A1 (Aw (Ax Ay 2 [1] O (Aq O (BK EX O (List.length_map _)) (Aq O (A0 GH O O) (Aq O (A3 (i:=0) DN O O (HV _)) (Ar Ay 1 [] O (Av O (fun c2=>?_) (fun c2=>?_))))))))
    ·(try simp only[sd,se] at c2);refine Au Ay 1 [] O (Az (⟨O,_,_,⟨_,_,O,O,O⟩,(List.nil_sublist _),?_⟩))
     all_goals exact⟨⟨_,rfl⟩,rfl⟩
    (try simp only[sd,se] at c2);exact A1 (⟨O,O,(B4 (is:=[1,2]) O),Ap,⟨O,O,Ap⟩⟩)
   (try simp only[sd,se] at c);exact A1 (⟨O,O,(List.Sublist.refl _),Ap,⟨O,O,Ap⟩⟩)
  intro _ _;refine As (Au Ay 1 [] O (A8 (Bb (α:=Nat) (fun i=>⟨59,mk [(2,.ptr b2 0),(3,.ptr b3 0),(7,.p (I (i:Int)))],[.box b3 [.p (I tk),.p (I ti),.p (.str tn),.p (.lst (List.map Bz tl)),.p (.lst (BE ts))],.box b2 ((GI s).map .p)],[]⟩) (fun i=>ts.length - i) (fun i=>i≤ts.length) 0 AP ?_ ?_)))
  ·exact BU ⟨we O,we O,we O,Ap⟩ (leH (is:=[0,1]) O (wl (oe O) (wl (oe O) (C3))))
  rintro i hC
  try simp only at hC
  have hi:=hC;refine As (Aw (Ax Ay 3 [0] O (Aq O (BK Be O (BQ _)) (Ar Ay 1 [] O (Av O (fun c=>?_) (fun c=>?_))))))
  ·(try simp only[sd,se] at c);refine A1 (As (A8 (As (Bt (fun k=>Nat.beq k 6) Dn (BP Ay 4 [1,0] O ?_)))));obtain⟨x,hx⟩:=A6 (l:=ts) (i:=i) An;refine BG O (fun _=>A4 Be O O An (Bd hx) (BD _)) Ap (BG O (fun _=>BM BY O (BD _)) Ap (J2 [] O O (CA O O (ih s x (by have:=Cc hx;omega) (DQ hk hx) h3 h4 h5) (.inl O)) Aj (⟨_,0,O⟩) AB ?_));rintro _ ⟨e,rfl⟩;refine⟨Ap,?_⟩;refine Bj Ay 1 [] O (Au Ay 2 [] O (Av O (fun c1=>?_) (fun c1=>?_)))
   ·(try simp only[sd,se] at c1);refine Au Ay 2 [] O (Az (⟨O,_,_,⟨_,_,O,O,O⟩,(List.nil_sublist _),?_⟩))
    all_goals exact⟨⟨_,rfl⟩,rfl⟩
   (try simp only[sd,se] at c1);refine A1 (A2 (Ar Ay 3 [] O ?_));refine⟨(i+1),AT,by omega,BU ⟨we rfl,we rfl,we rfl,trivial⟩ (leH (is:=[0,1]) rfl (wl (oe rfl) (wl (oe rfl) (C3))))⟩
  (try simp only[sd,se] at c);refine Bf (Au Ay 1 [] O (Az (⟨O,_,_,⟨_,_,O,O,O⟩,(List.nil_sublist _),?_⟩)))
  all_goals exact⟨⟨_,rfl⟩,rfl⟩
theorem XI:∀(d:CH),(Ns d)→F7 Tryz.prog 134 [.agg ((Bh d).map .p)] (fun v=>∃ee:Int,v= .p (I ee)∧(ee=0→UE d)):=by
 intro d h1;have hfl:=h1.fl;have hcl:=h1.cl;have hrl:=h1.rl;refine A5 Tryz.func134 O pA (n:=96) O O (Aw (BF O (BN O) fun b1=>Ar Ay 1 [] O (As (As (BS [1] 16 (fun y=>y= .p (.bool (((decide ((d.params:Int)<(0:Int)))||(decide ((d.params:Int) > (8:Int))))||(decide ((d.fixed:Int)<(0:Int)))))) ?_ ?_)))))
 ·refine A2 (Aq O (A0 Cz O O) (Aq O (A3 (i:=0) DN O O (Co _)) (Ax Ay 2 [] O (BL 7 O (fun g=>?_) (fun g=>?_)))))
  ·(try simp only[sd,se] at g);exact Ar Ay 9 [] O (⟨O,O,AK,AI,⟨O,Ap⟩⟩)
  (try simp only[sd,se] at g);refine BB O (A0 Cz O O) (BB O (A3 (i:=0) DN O O (Co _)) (Ax Ay 3 [] O (BL 12 O (fun g1=>?_) (fun g1=>?_))))
  ·(try simp only[sd,se] at g1);exact Ar Ay 4 [] O (⟨O,O,AK,AI,⟨O,Ap⟩⟩)
  (try simp only[sd,se] at g1);exact BB O (A0 Cz O O) (BB O (A3 (i:=0) DN O O (Cn _)) (Ar Ay 2 [] O (⟨O,O,AK,AI,⟨O,Ap⟩⟩)))
 rintro _ rfl;refine Av O (fun c=>?_) (fun c=>?_)
 ·(try simp only[sd,se] at c);refine Au Ay 1 [] O (Az (⟨O,_,_,⟨_,_,O,O,O⟩,(List.nil_sublist _),?_⟩))
  all_goals exact⟨⟨_,rfl,fun h=>absurd h Am⟩,rfl⟩
 (try simp only[sd,se] at c);have hf0:0≤d.fixed:=by omega
 refine A1 (As (As (BS [1] 37 Ge ?_ ?_)))
 ·refine A2 (Aq O (A0 Cz O O) (Aq O (A3 (i:=0) Hg O O (B8 _)) (Aq O (BK HN O (List.length_map _)) (Ax Ay 2 [] O (BL 21 O (fun g=>?_) (fun g=>?_))))))
  ·(try simp only[sd,se] at g);exact Ar Ay 16 [] O (⟨O,O,AK,⟨_,O⟩,⟨O,Ap⟩⟩)
  (try simp only[sd,se] at g);refine BB O (A0 Cz O O) (BB O (A3 (i:=0) DN O O (D2 _)) (Ax Ay 2 [] O (BL 25 O (fun g1=>?_) (fun g1=>?_))))
  ·(try simp only[sd,se] at g1);refine BB O (A0 Cz O O) (BB O (A3 (i:=0) HY O O (CD _)) (BB O (BK GB O (List.length_map _)) (Ax Ay 2 [] O (BL 30 O (fun g2=>?_) (fun g2=>?_)))))
   ·(try simp only[sd,se] at g2);exact Ar Ay 7 [] O (⟨O,O,AK,⟨_,O⟩,⟨O,Ap⟩⟩)
   (try simp only[sd,se] at g2);exact BB O (A0 Cz O O) (BB O (A3 (i:=0) HY O O (CD _)) (BB O (BK GB O (List.length_map _)) (Ar Ay 4 [] O (⟨O,O,AK,⟨_,O⟩,⟨O,Ap⟩⟩))))
  (try simp only[sd,se] at g1);exact Ar Ay 12 [] O (⟨O,O,AK,⟨_,O⟩,⟨O,Ap⟩⟩)
 rintro _ ⟨q,rfl⟩;refine Av O (fun c1=>?_) (fun c1=>?_)
 ·(try simp only[sd,se] at c1);refine Au Ay 1 [] O (Az (⟨O,_,_,⟨_,_,O,O,O⟩,(List.nil_sublist _),?_⟩))
  all_goals exact⟨⟨_,rfl,fun h=>absurd h Am⟩,rfl⟩
 (try simp only[sd,se] at c1);refine A1 (As (Au Ay 1 [] O (A8 ?_)));refine Bb (α:=Nat) (fun i=>⟨96,mk [(1,.ptr b1 0),(3,.p (I (i:Int)))],[.box b1 ((Bh d).map .p)],[]⟩) (fun i=>d.funs.length - i) (fun i=>i≤d.funs.length∧(∀j,j<i→∀x,d.funs[j]?=some x→1≤x.arity∧x.arity≤16)) 0 (⟨by omega,fun j h=>by omega⟩) ?_ ?_
 ·exact BU ⟨we O,we O,Ap⟩ (leH (is:=[0]) O (wl (oe O) (C3)))
 rintro i hC
 try simp only at hC
 obtain⟨hi,hC⟩:=hC;refine As (Aw (Ax Ay 2 [] O (Aq O (A3 (i:=0) HY O O (CD _)) (Aq O (BK GB O (List.length_map _)) (Ar Ay 1 [] O (Av O (fun c2=>?_) (fun c2=>?_)))))))
 ·(try simp only[sd,se] at c2);obtain⟨x,hx⟩:=A6 (l:=d.funs) (i:=i) An;refine A1 (As (A8 (As (BS [1,3] 60 (fun y=>∃q:Bool,y= .p (.bool q)∧(q=false→1≤x.arity∧x.arity≤16)) ?_ ?_))))
  ·refine A2 (Aq O (A0 Cz O O) (Aq O (A3 (i:=0) HY O O (CD _)) (Bq O (Aq O (A4 GB O O An (EO hx) (DJ _)) (Aq O (By Gv O O) (Aq O (C6 DN O (CL _)) (Ax Ay 2 [] O (BL 52 O (fun g=>?_) (fun g=>?_)))))))))
   ·(try simp only[sd,se] at g);exact Ar Ay 8 [] O (⟨O,O,AK,(by refine⟨_,rfl,fun h=>?_⟩;first | (exact absurd h Am) | (simp only[decide_eq_false_iff_not] at h;omega) | omega),⟨O,O,Ap⟩⟩)
   (try simp only[sd,se] at g);exact BB O (A0 Cz O O) (BB O (A3 (i:=0) HY O O (CD _)) (BB O (BZ O) (BB O (A4 GB O O An (EO hx) (DJ _)) (BB O (By Gv O O) (BB O (C6 DN O (CL _)) (Ar Ay 2 [] O (⟨O,O,AK,(by refine⟨_,rfl,fun h=>?_⟩;first | (exact absurd h Am) | (simp only[decide_eq_false_iff_not] at h;omega) | omega),⟨O,O,Ap⟩⟩)))))))
  rintro _ ⟨q,rfl,hq⟩;refine Av O (fun c3=>?_) (fun c3=>?_)
  ·(try simp only[sd,se] at c3);refine Au Ay 1 [] O (Az (⟨O,_,_,⟨_,_,O,O,O⟩,(List.nil_sublist _),?_⟩))
   all_goals exact⟨⟨_,rfl,fun h=>absurd h Am⟩,rfl⟩
  (try simp only[sd,se] at c3);have hq3:=hq (by simpa using c3);refine A1 (A2 (Ar Ay 3 [] O (⟨(i+1),AT,⟨by omega,Cu (p:=fun _ (x:G7)=>1≤x.arity∧x.arity≤16) hC hx hq3⟩,BU ⟨we rfl,we rfl,trivial⟩ (leH (is:=[0]) rfl (wl (oe rfl) (C3)))⟩)))
 (try simp only[sd,se] at c2);refine Bf (As (As (BS [] 95 (fun y=>∃q:Bool,y= .p (.bool q)∧(q=false→d.kind=3→d.fixed≤1000000)) ?_ ?_)))
 ·refine A2 (Aq O (A0 Cz O O) (Aq O (A3 (i:=0) DN O O (D2 _)) (Ax Ay 2 [] O (BL 64 O (fun g=>?_) (fun g=>?_)))))
  ·(try simp only[sd,se] at g);refine Ax Ay 2 [] O (BB O (A3 (i:=0) DN O O (Dd _)) (BB O (A0 Cz O O) (BB O (A3 (i:=0) DN O O (Co _)) (Ax Ay 2 [] O (BL 71 O (fun g1=>?_) (fun g1=>?_))))))
   ·(try simp only[sd,se] at g1);refine Ax Ay 2 [] O (BB O (A3 (i:=0) DN O O (Dd _)) (BB O (A0 Cz O O) (BB O (A3 (i:=0) DN O O (Co _)) (BB O (EC O O) (Ax Ay 3 [] O (BL 80 O (fun g2=>?_) (fun g2=>?_)))))))
    ·(try simp only[sd,se] at g2);exact Ar Ay 15 [] O (⟨O,O,AK,(by refine⟨_,rfl,fun h h3=>?_⟩;first | (exact absurd h Am) | omega | exact hq (by simpa using h)),Ap⟩)
    (try simp only[sd,se] at g2);refine Ax Ay 2 [] O (BB O (A3 (i:=0) Gj O O (Ck _)) (BB O (BK Be O (BQ _)) (BB O (A0 Cz O O) (BB O (A3 (i:=0) Hg O O (B8 _)) (BB O (BK HN O (List.length_map _)) (Ax Ay 3 [] O (BL 90 O (fun g3=>?_) (fun g3=>?_))))))))
    ·(try simp only[sd,se] at g3);exact Ar Ay 5 [] O (⟨O,O,AK,(by refine⟨_,rfl,fun h h3=>?_⟩;first | (exact absurd h Am) | omega | exact hq (by simpa using h)),Ap⟩)
    (try simp only[sd,se] at g3);refine BB O (BT (i:=0) FW O O Ad) (HZ O O O O (CA O O (Tw d h1) (.inl O)) ?_);rintro _ ⟨q1,rfl,hq⟩;exact Ar Ay 3 [] O (⟨O,O,AK,(by refine⟨_,rfl,fun h h3=>?_⟩;first | (exact absurd h Am) | omega | exact hq (by simpa using h)),Ap⟩)
   (try simp only[sd,se] at g1);refine Ax Ay 11 [] O (BB O (A3 (i:=0) Gj O O (Ck _)) (BB O (BK Be O (BQ _)) (BB O (A0 Cz O O) (BB O (A3 (i:=0) Hg O O (B8 _)) (BB O (BK HN O (List.length_map _)) (Ax Ay 3 [] O (BL 90 O (fun g2=>?_) (fun g2=>?_))))))))
   ·(try simp only[sd,se] at g2);exact Ar Ay 5 [] O (⟨O,O,AK,(by refine⟨_,rfl,fun h h3=>?_⟩;first | (exact absurd h Am) | omega | exact hq (by simpa using h)),Ap⟩)
   (try simp only[sd,se] at g2);refine BB O (BT (i:=0) FW O O Ad) (HZ O O O O (CA O O (Tw d h1) (.inl O)) ?_);rintro _ ⟨q1,rfl,hq⟩;exact Ar Ay 3 [] O (⟨O,O,AK,(by refine⟨_,rfl,fun h h3=>?_⟩;first | (exact absurd h Am) | omega | exact hq (by simpa using h)),Ap⟩)
  (try simp only[sd,se] at g);exact Ar Ay 31 [] O (⟨O,O,AK,(by refine⟨_,rfl,fun h h3=>?_⟩;first | (exact absurd h Am) | omega | exact hq (by simpa using h)),Ap⟩)
 rintro _ ⟨q,rfl,hq⟩;refine Av O (fun c3=>?_) (fun c3=>?_)
 ·(try simp only[sd,se] at c3);refine Au Ay 1 [] O (Az (⟨O,_,_,⟨_,_,O,O,O⟩,(List.nil_sublist _),?_⟩))
  all_goals exact⟨⟨_,rfl,fun h=>absurd h Am⟩,rfl⟩
 (try simp only[sd,se] at c3);have hq4:=hq (by simpa using c3);refine A1 (Au Ay 1 [] O (Az (⟨O,_,_,⟨_,_,O,O,O⟩,(List.nil_sublist _),?_⟩)))
 all_goals exact⟨⟨_,rfl,fun _=>⟨hf0,IE An hC,hq4⟩⟩,rfl⟩
theorem X6:∀(d:CH) (k:Int),(Ns d)→(0≤d.fixed∧d.fixed≤1000000)→(0≤k)→(k<d.ctors.length)→F7 Tryz.prog 85 [.agg ((Bh d).map .p),.p (I k)] (fun v=>∃e:Int,v= .p (I e)∧0≤e∧e≤1000000):=by
 intro d k h1 h2 h3 h4;have hcl:=h1.cl;refine A5 Tryz.func85 O oc (n:=23) O O (Aw (BF O (BN O) fun b2=>Ar Ay 1 [] O (Aw (Aq O (A0 Cz O O) (Aq O (A3 (i:=0) Hg O O (B8 _)) (Bq O ?_))))));obtain⟨x,hx⟩:=A6 (l:=d.ctors) (i:=(k:Int).toNat) An;refine Aq O (A4 HN O O An (ES hx) (D5 _)) (Aq O (By Ik O O) (Aq O (DC BY O (E4 _) (BD _)) (Ds O O (CA O O (gQ x.type (h1.cs _ (List.mem_of_getElem? hx)).ty) (.inl O)) ?_)));rintro _ ⟨l,q,rfl,hl⟩;refine Ax Ay 3 [] O (BF O (A7 Bw O) fun b6=>Ar Ay 2 [0,1] O (Aw (Bq O (Aq O (BK Be O (BQ _)) (Aq O (A0 Cz O O) (Aq O (A3 (i:=1) DN O O (Cn _)) (Aq O (Kw O O An An) (Aq O (FI O O) (Ar Ay 1 [] O (Az (⟨O,_,_,⟨_,_,O,O,O⟩,(List.nil_sublist _),?_⟩)))))))))))
 all_goals exact⟨⟨_,rfl,by omega,by omega⟩,rfl⟩
theorem HB:∀(s:Pr) (t:Tm) (vs ps:Int),(UW t)→(G1 s.env)→(s.own.length<9000000)→(Ns s.d)→(vs≤549755813888)→F7 Tryz.prog 151 [.agg ((GI s).map .p),.agg ((BO t).map .p),.p (I vs),.p (I ps)] (fun v=>∃ee:Int,v= .p (I ee)∧(ee=0→okB t=true)):=by
 intro s t vs ps h1 h2 h3 h4 h5;refine A5 Tryz.func151 O nh (n:=20) O O (Aw (BF O (BN O) fun b4=>BF O (BN O) fun b5=>Ar Ay 1 [] O (As (Aw (Ax Ay 3 [0] O (Ds O O (CA O O (Qz t vs ps 0 0 h1.nd h1.sz) (.inl O)) ?_))))));rintro _ ⟨e,rfl,he⟩;refine Ar Ay 1 [] O (Au Ay 2 [] O (Av O (fun c=>?_) (fun c=>?_)))
 ·(try simp only[sd,se] at c);refine Au Ay 2 [] O (Az (⟨O,_,_,⟨_,_,O,O,O⟩,(List.nil_sublist _),?_⟩))
  all_goals exact⟨⟨_,rfl,fun h=>absurd h Ak⟩,rfl⟩
 (try simp only[sd,se] at c);refine A1 (Aw (Ax Ay 2 [1,0] O (Ds O O (CA O O (Si (size t) s t (Nat.le_refl _) h1.nd h2 h3 h4) (.inl O)) ?_)));rintro _ ⟨e1,rfl⟩;refine Ar Ay 1 [] O (Az (⟨O,_,_,⟨_,_,O,O,O⟩,(List.nil_sublist _),?_⟩))
 all_goals exact⟨⟨_,rfl,fun _=>ct h1.nd h1.sz h5 (he An)⟩,rfl⟩
theorem UM:∀(n:Nat) (a b:Es),(La a≤n)→(HS a)→F7 Tryz.prog 173 [.agg ((Ch a).map .p),.agg ((Ch b).map .p)] (fun v=>∃bb:Bool,v= .p (.bool bb)∧(bb=true→NV a.body b.body=true∧a.branches.length=b.branches.length)):=by
 intro n
 induction n with
 | zero=>intro a b h;have:=O7 a;omega
 | succ n ih =>
  intro a b h1 h2;have hal:=h2.bl;refine A5 Tryz.func173 O po (n:=74) O O (Aw (BF O (BN O) fun b2=>BF O (BN O) fun b3=>Ar Ay 1 [] O (As (As (BS [2,3] 36 (fun y=>∃q:Bool,y= .p (.bool q)∧(q=false→a.branches.length=b.branches.length∧NV a.body b.body=true)) ?_ ?_)))))
  ·refine A2 (Aq O (A0 FF O O) (Aq O (A3 (i:=1) DN O O (GZ _)) (Aq O (A0 FF O O) (Aq O (A3 (i:=0) DN O O (GZ _)) (Ax Ay 2 [] O (BL 13 O (fun g=>?_) (fun g=>?_)))))))
   ·(try simp only[sd,se] at g);exact Ar Ay 23 [] O (⟨O,O,AK,(by refine⟨_,rfl,fun h=>?_⟩;first | (exact absurd h Am) | (simp_all;done) | (simp_all;omega)),⟨O,O,Ap⟩⟩)
   (try simp only[sd,se] at g);refine BB O (A0 FF O O) (BB O (A3 (i:=1) DN O O (DE _)) (BB O (A0 FF O O) (BB O (A3 (i:=0) DN O O (DE _)) (Ax Ay 3 [] O (BL 20 O (fun g1=>?_) (fun g1=>?_))))))
   ·(try simp only[sd,se] at g1);exact Ar Ay 16 [] O (⟨O,O,AK,(by refine⟨_,rfl,fun h=>?_⟩;first | (exact absurd h Am) | (simp_all;done) | (simp_all;omega)),⟨O,O,Ap⟩⟩)
   (try simp only[sd,se] at g1);refine BB O (A0 FF O O) (BB O (Bu (i:=1) BY O O (E1 _) (BD _)) (BB O (A0 FF O O) (BB O (Bu (i:=0) BY O O (E1 _) (BD _)) (BB O (BC O O (NI _ a.body b.body (Nat.le_refl _) h2.body.nd) O) (Ax Ay 3 [] O (BL 28 O (fun g2=>?_) (fun g2=>?_)))))))
   ·(try simp only[sd,se] at g2);exact Ar Ay 8 [] O (⟨O,O,AK,(by refine⟨_,rfl,fun h=>?_⟩;first | (exact absurd h Am) | (simp_all;done) | (simp_all;omega)),⟨O,O,Ap⟩⟩)
   (try simp only[sd,se] at g2);exact BB O (A0 FF O O) (BB O (A3 (i:=1) Kf O O (CG _)) (BB O (BK Jd O (Fv _)) (BB O (A0 FF O O) (BB O (A3 (i:=0) Kf O O (CG _)) (BB O (BK Jd O (Fv _)) (Ar Ay 2 [] O (⟨O,O,AK,(by refine⟨_,rfl,fun h=>?_⟩;first | (exact absurd h Am) | (simp_all;done) | (simp_all;omega)),⟨O,O,Ap⟩⟩)))))))
  rintro _ ⟨q,rfl,hq⟩;refine Av O (fun c=>?_) (fun c=>?_)
  ·(try simp only[sd,se] at c);refine Au Ay 1 [] O (Az (⟨O,_,_,⟨_,_,O,O,O⟩,(List.nil_sublist _),?_⟩))
   all_goals exact⟨⟨_,rfl,fun h=>absurd h Am⟩,rfl⟩
  (try simp only[sd,se] at c);obtain⟨hqa,hqb⟩:=hq (by simpa using c);refine A1 (As (Au Ay 1 [] O (A8 (Bb (α:=Nat) (fun i=>⟨74,mk [(2,.ptr b2 0),(3,.ptr b3 0),(5,.p (I (i:Int)))],[.box b3 ((Ch b).map .p),.box b2 ((Ch a).map .p)],[]⟩) (fun i=>a.branches.length - i) (fun i=>i≤a.branches.length) 0 AP ?_ ?_))))
  ·exact BU ⟨we O,we O,we O,Ap⟩ (leH (is:=[0,1]) O (wl (oe O) (wl (oe O) (C3))))
  rintro i hC
  try simp only at hC
  have hi:=hC;refine As (Aw (Ax Ay 2 [] O (Aq O (A3 (i:=1) Kf O O (CG _)) (Aq O (BK Jd O (Fv _)) (Ar Ay 1 [] O (Av O (fun c1=>?_) (fun c1=>?_)))))))
  ·(try simp only[sd,se] at c1);obtain⟨x,hx⟩:=A6 (l:=a.branches) (i:=i) An;obtain⟨x1,hx1⟩:=A6 (l:=b.branches) (i:=i) An;refine A1 (As (A8 (As (gX [.val (.ptr b2 (0+7)),.val (.p (.lst (LQ a.branches))),.val (.p (I (i:Int))),.val (.ref (G2 x)),.val (.agg ((G2 x).map .p)),.val (.ptr b3 (0+7)),.val (.p (.lst (LQ b.branches))),.val (.p (I (i:Int))),.val (.ref (G2 x1)),.val (.agg ((G2 x1).map .p)),.new [.p (.str ⟨#[]⟩),.p (.bool false),.p (I 0),.p (I 0),.p (I 0),.p (.str ⟨#[]⟩),.p (.nils),.p (.nils),.p (I 0),.p (.nils)],.new [.p (.str ⟨#[]⟩),.p (.bool false),.p (I 0),.p (I 0),.p (I 0),.p (.str ⟨#[]⟩),.p (.nils),.p (.nils),.p (I 0),.p (.nils)]] [.p .any,.p .any] [5,6,7,8,9] Dn O Aj Aj Aj ?_ ?_))))
   ·exact Ap
   refine J5 O (fun Bs=>A0 FF O O) (J5 O (fun Bs=>A3 (i:=Bs.length+1) Kf O (CX O) (CG _)) (J5 O (fun Bs=>BZ O) (J5 O (fun Bs=>A4 Jd O O An (FX hx) (DO _)) (J5 O (fun Bs=>BM TZ O (DO _)) (J5 O (fun Bs=>A0 FF O O) (J5 O (fun Bs=>A3 (i:=Bs.length+0) Kf O (CX O) (CG _)) (J5 O (fun Bs=>BZ O) (J5 O (fun Bs=>A4 Jd O O An (FX hx1) (DO _)) (J5 O (fun Bs=>BM TZ O (DO _)) (cQ O (fun Bs=>A7 ZS O) fun b6=>cQ O (fun Bs=>A7 ZS O) fun b7=>lj ?_))))))))));refine YU [.box b6 ((G2 x).map .p),.box b7 [.p (.str ⟨#[]⟩),.p (.bool false),.p (I 0),.p (I 0),.p (I 0),.p (.str ⟨#[]⟩),.p (.nils),.p (.nils),.p (I 0),.p (.nils)]] O (Cd (i:=0) TZ O O O (by simp[DO]) (by first | rfl | simp[DO]) (UA _)) (YU [.box b6 ((G2 x).map .p),.box b7 ((G2 x1).map .p)] O (Cd (i:=1) TZ O O O (by simp[DO]) (by first | rfl | simp[DO]) (UA _)) (km (As (BS [2,3,5] 73 Ge ?_ ?_))))
   ·refine A2 (Aq O (A0 IJ O O) (Aq O (A3 (i:=0) Ln O O (GW _)) (Aq O (A0 IJ O O) (Aq O (A3 (i:=1) Ln O O (GW _)) (Aq O (I1 O O) (Bq O (BL 59 O (fun g=>?_) (fun g=>?_))))))))
    ·(try simp only[sd,se] at g);exact Ar Ay 14 [] O (⟨O,O,AK,⟨_,O⟩,⟨O,O,O,Ap⟩⟩)
    (try simp only[sd,se] at g);refine BB O (A0 IJ O O) (BB O (A3 (i:=0) oW O O (GM _)) (BB O (A0 IJ O O) (BB O (A3 (i:=1) oW O O (GM _)) (BB O (W2 sL O O) (Ax Ay 2 [] O (BL 66 O (fun g1=>?_) (fun g1=>?_)))))))
    ·(try simp only[sd,se] at g1);exact Ar Ay 7 [] O (⟨O,O,AK,⟨_,O⟩,⟨O,O,O,Ap⟩⟩)
    (try simp only[sd,se] at g1);refine BB O (A0 IJ O O) (BB O (Bu (i:=0) IY O O (Fj _) (Cl _)) (BB O (A0 IJ O O) (BB O (Bu (i:=1) IY O O (Fj _) (Cl _)) (HZ O O O O (CA O O (ih x.tree x1.tree (by have:=RL hx;omega) (JX h2.bs hx).tr) (.inl O)) ?_))));rintro _ ⟨q1,rfl,hq⟩;exact Ar Ay 2 [] O (⟨O,O,AK,⟨_,O⟩,⟨O,O,O,Ap⟩⟩)
   rintro _ ⟨q1,rfl⟩;refine Av O (fun c2=>?_) (fun c2=>?_)
   ·(try simp only[sd,se] at c2);refine Au Ay 1 [] O (Az (⟨O,_,_,⟨_,_,O,O,O⟩,(List.nil_sublist _),?_⟩))
    all_goals exact⟨⟨_,rfl,fun h=>absurd h Am⟩,rfl⟩
   (try simp only[sd,se] at c2);refine A1 (A2 (Ar Ay 3 [] O ?_));refine⟨(i+1),AT,by omega,BU ⟨we rfl,we rfl,we rfl,trivial⟩ (leH (is:=[2,3]) rfl (wl (oe rfl) (wl (oe rfl) (C3))))⟩
  (try simp only[sd,se] at c1);refine Bf (Au Ay 1 [] O (Az (⟨O,_,_,⟨_,_,O,O,O⟩,(List.nil_sublist _),?_⟩)))
  all_goals exact⟨⟨_,rfl,fun _=>⟨hqb,hqa⟩⟩,rfl⟩
theorem YD:∀(n:Nat) (s:Pr) (t:Es) (vs dp:Int),(La t≤n)→(HS t)→(Je s.env)→(s.own.length<9000000)→(Ns s.d)→(0≤dp∧dp≤200)→(0≤vs∧vs+(201 - dp)*1000000≤549755813888)→F7 Tryz.prog 152 [.agg ((GI s).map .p),.agg ((Ch t).map .p),.p (I vs),.p (I dp)] (fun v=>∃ee:Int,v= .p (I ee)∧(ee=0→FC t)):=by
 intro n
 induction n with
 | zero=>intro s t vs dp h;have:=O7 t;omega
 | succ n ih =>
  intro s t vs dp h1 h2 h3 h4 h5 h6 h7;have htl:=h2.bl;refine A5 Tryz.func152 O qI (n:=110) O O (Aw (BF O (BN O) fun b4=>BF O (BN O) fun b5=>Ar Ay 1 [] O (As (Au Ay 2 [] O (Av O (fun c=>?_) (fun c=>?_))))))
  ·(try simp only[sd,se] at c);refine Au Ay 1 [] O (Az (⟨O,_,_,⟨_,_,O,O,O⟩,(List.nil_sublist _),?_⟩))
   all_goals exact⟨⟨_,rfl,fun h=>absurd h Am⟩,rfl⟩
  (try simp only[sd,se] at c);refine A1 (As (Aw (Aq O (A0 FF O O) (Aq O (A3 (i:=0) DN O O (GZ _)) (Bg O (A8 (Au Ay 2 [] O (Av O (fun c1=>?_) (fun c1=>?_)))))))))
  ·(try simp only[sd,se] at c1);refine As (As (BS [2,4,5] 28 (fun y=>y= .p (.bool (((t.var:Int) !=(0:Int))||(decide (((t.branches.length:Nat):Int) > (0:Int)))))) ?_ ?_))
   ·refine A2 (Aq O (A0 FF O O) (Aq O (A3 (i:=0) DN O O (DE _)) (Ax Ay 2 [] O (BL 23 O (fun g=>?_) (fun g=>?_)))))
    ·(try simp only[sd,se] at g);exact Ar Ay 5 [] O (⟨O,O,AK,AI,⟨O,O,O,Ap⟩⟩)
    (try simp only[sd,se] at g);exact BB O (A0 FF O O) (BB O (A3 (i:=0) Kf O O (CG _)) (BB O (BK Jd O (Fv _)) (Ar Ay 2 [] O (⟨O,O,AK,AI,⟨O,O,O,Ap⟩⟩))))
   rintro _ rfl;refine Av O (fun c2=>?_) (fun c2=>?_)
   ·(try simp only[sd,se] at c2);refine Au Ay 1 [] O (Az (⟨O,_,_,⟨_,_,O,O,O⟩,(List.nil_sublist _),?_⟩))
    all_goals exact⟨⟨_,rfl,fun h=>absurd h Am⟩,rfl⟩
   (try simp only[sd,se] at c2);have hb0:t.branches.length=0:=by omega
   refine A1 (Aw (Ax Ay 2 [1] O (Aq O (Bu (i:=0) BY O O (E1 _) (BD _)) (Ax Ay 3 [] O (Aq O (A3 (i:=1) DN O O (PE _)) (Ds O O (CA O O (HB s t.body vs s.d.params h2.body h3.env h4 h5 An) (.inl O)) ?_))))));rintro _ ⟨e,rfl,he⟩;refine Ar Ay 1 [] O (Az (⟨O,_,_,⟨_,_,O,O,O⟩,(List.nil_sublist _),?_⟩))
   all_goals exact⟨⟨_,rfl,fun h=>Rc (he h) (mG hb0)⟩,rfl⟩
  (try simp only[sd,se] at c1);refine Au Ay 2 [] O (Av O (fun c2=>?_) (fun c2=>?_))
  ·(try simp only[sd,se] at c2);refine Aw (Aq O (A0 FF O O) (Aq O (Bu (i:=0) BY O O (E1 _) (BD _)) (Aq O (BC O O (KI t.body h2.body.nd) O) (Ar Ay 1 [] O (Av O (fun c3=>?_) (fun c3=>?_))))))
   ·(try simp only[sd,se] at c3);refine Au Ay 1 [] O (Az (⟨O,_,_,⟨_,_,O,O,O⟩,(List.nil_sublist _),?_⟩))
    all_goals exact⟨⟨_,rfl,fun h=>absurd h Am⟩,rfl⟩
   (try simp only[sd,se] at c3);have hz0:NV t.body Bc=true:=by simpa using c3
   refine A1 (As (As (BS [2,3,4,5] 51 (fun y=>y= .p (.bool ((decide ((t.var:Int)<(0:Int)))||(decide ((t.var:Int)≥(vs:Int)))))) ?_ ?_)))
   ·refine A2 (Aq O (A0 FF O O) (Aq O (A3 (i:=0) DN O O (DE _)) (Ax Ay 2 [] O (BL 46 O (fun g=>?_) (fun g=>?_)))))
    ·(try simp only[sd,se] at g);exact Ar Ay 5 [] O (⟨O,O,AK,AI,⟨O,O,O,O,Ap⟩⟩)
    (try simp only[sd,se] at g);exact BB O (A0 FF O O) (BB O (A3 (i:=0) DN O O (DE _)) (Ar Ay 3 [] O (⟨O,O,AK,AI,⟨O,O,O,O,Ap⟩⟩)))
   rintro _ rfl;refine Av O (fun c4=>?_) (fun c4=>?_)
   ·(try simp only[sd,se] at c4);refine Au Ay 1 [] O (Az (⟨O,_,_,⟨_,_,O,O,O⟩,(List.nil_sublist _),?_⟩))
    all_goals exact⟨⟨_,rfl,fun h=>absurd h Am⟩,rfl⟩
   (try simp only[sd,se] at c4);refine A1 (As (Aw (Aq O (A0 FF O O) (Aq O (A3 (i:=0) Kf O O (CG _)) (Aq O (BK Jd O (Fv _)) (Ar Ay 1 [] O (Av O (fun c5=>?_) (fun c5=>?_))))))))
   ·(try simp only[sd,se] at c5);refine Au Ay 1 [] O (Az (⟨O,_,_,⟨_,_,O,O,O⟩,(List.nil_sublist _),?_⟩))
    all_goals exact⟨⟨_,rfl,fun h=>absurd h Am⟩,rfl⟩
   (try simp only[sd,se] at c5);refine A1 (As (Au Ay 1 [] O (A8 ?_)));refine Bb (α:=Nat) (fun i=>⟨110,mk [(2,.p (I vs)),(3,.p (I dp)),(4,.ptr b4 0),(5,.ptr b5 0),(9,.p (I (i:Int)))],[.box b5 ((Ch t).map .p),.box b4 ((GI s).map .p)],[]⟩) (fun i=>t.branches.length - i) (fun i=>i≤t.branches.length∧(∀j,j<i→∀x,t.branches[j]?=some x→FC x.tree)) 0 (⟨by omega,fun j h=>by omega⟩) ?_ ?_
   ·exact BU ⟨we O,we O,we O,we O,we O,Ap⟩ (leH (is:=[0,1]) O (wl (oe O) (wl (oe O) (C3))))
   rintro i hC
   try simp only at hC
   obtain⟨hi,hC⟩:=hC;refine As (Aw (Ax Ay 2 [] O (Aq O (A3 (i:=0) Kf O O (CG _)) (Aq O (BK Jd O (Fv _)) (Ar Ay 1 [] O (Av O (fun c6=>?_) (fun c6=>?_)))))))
   ·(try simp only[sd,se] at c6);refine A1 (As (A8 (Aw (Aq O (A0 FF O O) (Aq O (A3 (i:=0) Kf O O (CG _)) (Bq O ?_))))));obtain⟨x,hx⟩:=A6 (l:=t.branches) (i:=i) An;refine Aq O (A4 Jd O O An (FX hx) (DO _)) (Aq O (BM TZ O (DO _)) (BF O (A7 ZS O) fun b10=>Ar Ay 1 [0,1] O (Aw (Aq O (A0 Oc O O) (Aq O (A3 (i:=2) dt O O (Jv _)) (Aq O (A0 IJ O O) (Aq O (A3 (i:=0) Ln O O (GW _)) (Aq O (BC O O (MH s.env x.ctor h3.env) O) (Ax Ay 3 [] O (BF O (A7 Hw O) fun b11=>Ar Ay 2 [0,1] O (As (As (BS [2,3,4,5,9,10,11] 82 (fun y=>∃q:Bool,y= .p (.bool q)∧(q=false→(Bp s.env x.ctor).2=0∧(Bp s.env x.ctor).1.kind=4)) ?_ ?_)))))))))))))
    ·refine A2 (Ax Ay 3 [] O (BL 78 O (fun g=>?_) (fun g=>?_)))
     ·(try simp only[sd,se] at g);refine Ar Ay 4 [] O ?_;exact⟨O,O,AK,(by refine⟨_,rfl,fun h=>?_⟩;first | (exact absurd h Am) | exact⟨by simpa using g,by simpa using h⟩),⟨O,O,O,O,O,O,O,Ap⟩⟩
     (try simp only[sd,se] at g);refine BB O (A0 GH O O) (BB O (A3 (i:=0) DN O O (Da _)) (Ar Ay 2 [] O ?_));exact⟨O,O,AK,(by refine⟨_,rfl,fun h=>?_⟩;first | (exact absurd h Am) | exact⟨by simpa using g,by simpa using h⟩),⟨O,O,O,O,O,O,O,Ap⟩⟩
    rintro _ ⟨q,rfl,hq⟩;refine Av O (fun c7=>?_) (fun c7=>?_)
    ·(try simp only[sd,se] at c7);refine Au Ay 1 [] O (Az (⟨O,_,_,⟨_,_,O,O,O⟩,(List.nil_sublist _),?_⟩))
     all_goals exact⟨⟨_,rfl,fun h=>absurd h Am⟩,rfl⟩
    (try simp only[sd,se] at c7);obtain⟨hqc,hqd⟩:=hq (by simpa using c7);obtain⟨dd,k1,k2,k3,k4⟩:=XY hqc hqd;refine A1 (As (Aw (Aq O (A0 IJ O O) (Aq O (A3 (i:=1) oW O O (GM _)) (Bg O (Av O (fun c8=>?_) (fun c8=>?_)))))))
    ·(try simp only[sd,se] at c8);refine As (Aw (Aq O (A0 IJ O O) (Aq O (Bu (i:=1) IY O O (Fj _) (Cl _)) (Aq O (CP FF Wk O) (Ds O O (CA O O (Bo.args (UM (La x.tree) x.tree (Es.mk 0 (.mk 0 0 ⟨#[]⟩ [] []:Tm) 0 []) (Nat.le_refl _) (JX h2.bs hx).tr) (aw (we O) (aw (Dt O) (Eo)))) (.inl O)) ?_)))));rintro _ ⟨q1,rfl,hq⟩;refine Ar Ay 1 [] O (Av O (fun c9=>?_) (fun c9=>?_))
     ·(try simp only[sd,se] at c9);refine Au Ay 1 [] O (Az (⟨O,_,_,⟨_,_,O,O,O⟩,(List.nil_sublist _),?_⟩))
      all_goals exact⟨⟨_,rfl,fun h=>absurd h Am⟩,rfl⟩
     (try simp only[sd,se] at c9);have hok:FC x.tree:=W9 (hq (by simpa using c9)).1 (hq (by simpa using c9)).2;refine A1 (Bf (A2 (Ar Ay 3 [] O (⟨(i+1),AT,⟨by omega,Cu (p:=fun _ (y:GQ)=>FC y.tree) hC hx hok⟩,BU ⟨we rfl,we rfl,we rfl,we rfl,we rfl,trivial⟩ (leH (is:=[2,3]) rfl (wl (oe rfl) (wl (oe rfl) (C3))))⟩))))
    (try simp only[sd,se] at c8);refine A1 (As (Bt (fun k=>Nat.beq k 12||Nat.beq k 16) Dn (BP Ay 2 [3] O (CU (j:=1) O O O (fun H i hi=>Bu (i:=i) IY O hi (Fj _) (Cl _)) AB Ap (BP Ay 2 [] O (CU (j:=3) O O O (fun H i hi=>A3 (i:=i) dt O hi (Jv _)) AB Ap (BP Ay 1 [] O (CU (j:=0) O O O (fun H i hi=>A3 (i:=i) DN O hi (DZ _)) AB Ap ?_))))))));obtain⟨x1,hx1⟩:=A6 (l:=s.env) (i:=(((Bp s.env x.ctor).1).decl:Int).toNat) (by have:=(List.getElem?_eq_some_iff.1 k2).1;omega);refine BG O (fun _=>A4 HT O O An (D3 hx1) (Cm _)) Ap (BP Ay 2 [] O (CU (j:=0) O O O (fun H i hi=>A3 (i:=i) DN O hi (Fh _)) AB Ap ?_));refine J2 [(14,.free (.p (I dp))),(15,.free (.p (I ((dp:Int)+(1:Int)))))] O O (CA O O (X6 x1 (((Bp s.env x.ctor).1).item) (h3.all _ (List.mem_of_getElem? hx1)).din (h3.all _ (List.mem_of_getElem? hx1)).fx k3 (by have e:=Option.some.inj (k2.symm.trans hx1);subst e;exact k4)) (.inl O)) Aj (⟨_,0,O,by omega,by omega⟩) AB ?_;rintro _ ⟨e,rfl,he0,he1⟩;refine⟨Ap,?_⟩;refine BP Ay 3 [] O (J2 [] O O (CA O O (ih s x.tree ((vs:Int)+(e:Int)) ((dp:Int)+(1:Int)) (by have:=RL hx;omega) (JX h2.bs hx).tr h3 h4 h5 An An) (.inl O)) Aj (⟨_,1,O,fun h=>absurd h Am⟩) AB ?_);rintro _ ⟨e1,rfl,he⟩;refine⟨AN,?_⟩;refine Bj Ay 1 [] O (Au Ay 2 [] O (Av O (fun c9=>?_) (fun c9=>?_)))
    ·(try simp only[sd,se] at c9);refine Au Ay 2 [] O (Az (⟨O,_,_,⟨_,_,O,O,O⟩,(List.nil_sublist _),?_⟩))
     all_goals exact⟨⟨_,rfl,fun h=>absurd h Ak⟩,rfl⟩
    (try simp only[sd,se] at c9);have hok:= @he An;refine A1 (A2 (Ar Ay 3 [] O (⟨(i+1),AT,⟨by omega,Cu (p:=fun _ (y:GQ)=>FC y.tree) hC hx hok⟩,BU ⟨we rfl,we rfl,we rfl,we rfl,we rfl,trivial⟩ (leH (is:=[2,3]) rfl (wl (oe rfl) (wl (oe rfl) (C3))))⟩)))
   (try simp only[sd,se] at c6);refine Bf (Au Ay 1 [] O (Az (⟨O,_,_,⟨_,_,O,O,O⟩,(List.nil_sublist _),?_⟩)))
   all_goals exact⟨⟨_,rfl,fun _=>Rc (by rw[IB.1 hz0];exact IL) (IE An hC)⟩,rfl⟩
  (try simp only[sd,se] at c2);refine Au Ay 1 [] O (Az (⟨O,_,_,⟨_,_,O,O,O⟩,(List.nil_sublist _),?_⟩))
  all_goals exact⟨⟨_,rfl,fun h=>absurd h Am⟩,rfl⟩
theorem Zq:∀(ds:List CH) (d:CH),(Je ds)→(Ns d)→(UE d)→F7 Tryz.prog 136 [.p (.lst (List.map Bh ds)),.agg ((Bh d).map .p)] (fun v=>∃ee:Int,v= .p (I ee)∧(ee=0→eC d)):=by
 intro ds d h1 h2 h3;have hn:=NL d;have hcl:=h2.cl;have hfl:=h2.fl;have hrl:=h2.rl;refine A5 Tryz.func136 O nF (n:=161) O O (Aw (BF O (BN O) fun b3=>Ar Ay 1 [] O (Aw (Ax Ay 2 [0] O (Aq O (fe Oc kU (pe O O O)) (BF O (A7 kU O) fun b5=>Ar Ay 1 [0,1] O (As (Aw (Aq O (A0 Cz O O) (Aq O (A3 (i:=1) DN O O (D2 _)) (Ar Ay 1 [] O (BS [3,5] 17 (fun _=>True) ?_ ?_))))))))))))
 ·refine Av O (fun c=>?_) (fun c=>?_)
  ·(try simp only[sd,se] at c);refine Aw (Ax Ay 2 [0] O (Aq O (Bu (i:=1) BY O O (E2 _) (BD _)) (Aq O (A0 Cz O O) (Aq O (A3 (i:=1) DN O O (Co _)) (Ds O O (CA O O (HB (Pr.mk ds [] d) d.type 0 d.params h2.ty h1.env Ao h2 An) (.inl O)) ?_)))));rintro _ ⟨e,rfl,he⟩;refine Ar Ay 1 [] O (Au Ay 2 [] O (Av O (fun c1=>?_) (fun c1=>?_)))
   ·(try simp only[sd,se] at c1);refine Au Ay 2 [] O (Az (⟨O,_,_,⟨_,_,O,O,O⟩,(List.nil_sublist _),?_⟩))
    all_goals exact⟨⟨_,rfl,fun h=>absurd h Ak⟩,rfl⟩
   (try simp only[sd,se] at c1);exact A1 (⟨O,O,(List.Sublist.refl _),Ap,⟨O,O,Ap⟩⟩)
  (try simp only[sd,se] at c);exact A1 (⟨O,O,(List.Sublist.refl _),Ap,⟨O,O,Ap⟩⟩)
 intro _ _;refine As (Aw (Aq O (A0 Cz O O) (Aq O (A3 (i:=1) DN O O (D2 _)) (Bg O (A8 (As (Au Ay 2 [] O (BS [3,5,33] 34 (fun y=>y= .p (.bool (decide (d.kind=1∨d.kind=2)))) ?_ ?_))))))))
 ·refine Av O (fun c=>?_) (fun c=>?_)
  ·(try simp only[sd,se] at c);exact A1 (⟨O,O,(List.Sublist.refl _),(by refine pB (Bool.eq_iff_iff.2 ?_);simp only[beq_iff_eq,decide_eq_true_eq];omega),⟨O,O,O,Ap⟩⟩)
  (try simp only[sd,se] at c);exact A2 (Ar Ay 2 [] O (⟨O,O,(List.Sublist.refl _),(by refine pB (Bool.eq_iff_iff.2 ?_);simp only[beq_iff_eq,decide_eq_true_eq];omega),⟨O,O,O,Ap⟩⟩))
 rintro _ rfl;refine Av O (fun c=>?_) (fun c=>?_)
 ·(try simp only[sd,se] at c);have hk12:d.kind=1∨d.kind=2:=by simpa using c
  refine Aw (Ax Ay 2 [0] O (Aq O (Bu (i:=1) BY O O (FA _) (BD _)) (Aq O (A0 Cz O O) (Aq O (A3 (i:=1) DN O O (Co _)) (Ds O O (CA O O (HB (Pr.mk ds [] d) d.value 0 d.params h2.vl h1.env Ao h2 An) (.inl O)) ?_)))));rintro _ ⟨e,rfl,he⟩;refine Ar Ay 1 [] O (Az (⟨O,_,_,⟨_,_,O,O,O⟩,(List.nil_sublist _),?_⟩))
  all_goals exact⟨⟨_,rfl,fun h=>⟨fun _=>he h,fun _=>by omega,fun _=>by omega⟩⟩,rfl⟩
 (try simp only[sd,se] at c);have hk12:¬(d.kind=1∨d.kind=2):=by simpa using c
 refine Au Ay 2 [] O (Av O (fun c1=>?_) (fun c1=>?_))
 ·(try simp only[sd,se] at c1);have hn1:=bB (d:=d) (by simpa using c1);have hk3:=c1;refine Aw (Aq O (A0 Cz O O) (Aq O (A3 (i:=1) Ln O O (DH _)) (Aq O (Bl Gq iE O O O O O) (Aq O (A0 Oc O O) (Aq O (Dz (i:=0) (ds:=(GI (Pr.mk ds [d.name] d)).map .p) V6 O O O O O O O) (Bg O (As (Au Ay 1 [] O (A8 (Bb (α:=Nat) (fun i=>⟨161,mk [(3,.ptr b3 0),(5,.ptr b5 0),(7,.p (I (i:Int)))],[.box b5 ((GI (Pr.mk ds [d.name] d)).map .p),.box b3 ((Bh d).map .p)],[]⟩) (fun i=>d.ctors.length - i) (fun i=>i≤d.ctors.length) 0 AP ?_ ?_))))))))))
  ·exact BU ⟨we O,we O,we O,Ap⟩ (leH (is:=[0,1]) O (wl (oe O) (wl (oe O) (C3))))
  rintro i hC
  try simp only at hC
  have hi:=hC;refine As (Aw (Ax Ay 2 [] O (Aq O (A3 (i:=1) Hg O O (B8 _)) (Aq O (BK HN O (List.length_map _)) (Ar Ay 1 [] O (Av O (fun c2=>?_) (fun c2=>?_)))))))
  ·(try simp only[sd,se] at c2);refine A1 (As (A8 (As (Bt (fun k=>Nat.beq k 9) Dn (BP Ay 2 [0] O (CU (j:=1) O O O (fun H i hi=>A3 (i:=i) Hg O hi (B8 _)) AB Ap (BG O (fun _=>BZ O) Ap ?_)))))));obtain⟨x,hx⟩:=A6 (l:=d.ctors) (i:=i) An;refine BG O (fun _=>A4 HN O O An (ES hx) (D5 _)) Ap (BG O (fun _=>By Ik O O) Ap (BG O (fun _=>DC BY O (E4 _) (BD _)) Ap (BG O (fun _=>A0 Cz O O) Ap (CU (j:=1) O O O (fun H i hi=>A3 (i:=i) DN O hi (Co _)) AB Ap (J2 [] O O (CA O O (HB (Pr.mk ds [d.name] d) x.type 0 d.params (h2.cs _ (List.mem_of_getElem? hx)).ty h1.env Ao h2 An) (.inl O)) Aj (⟨_,1,O,fun h=>absurd h Am⟩) AB ?_)))));rintro _ ⟨e,rfl,he⟩;refine⟨Ap,?_⟩;refine Bj Ay 1 [] O (Au Ay 2 [] O (Av O (fun c3=>?_) (fun c3=>?_)))
   ·(try simp only[sd,se] at c3);refine Au Ay 2 [] O (Az (⟨O,_,_,⟨_,_,O,O,O⟩,(List.nil_sublist _),?_⟩))
    all_goals exact⟨⟨_,rfl,fun h=>absurd h Ak⟩,rfl⟩
   (try simp only[sd,se] at c3);refine A1 (A2 (Ar Ay 3 [] O ?_));refine⟨(i+1),AT,by omega,BU ⟨we rfl,we rfl,we rfl,trivial⟩ (leH (is:=[0,1]) rfl (wl (oe rfl) (wl (oe rfl) (C3))))⟩
  (try simp only[sd,se] at c2);refine Bf (Aw (Aq O (BT (i:=1) FW O O Ad) (Aq O (BC O O (Mf d h2.cl h2.fl h2.nm) O) (Ar Ay 1 [] O (Aw (Ax Ay 2 [] O (Aq O (BK Gq O (List.length_map _)) (Aq O (Kw O O An An) (Aq O (CY (lo:=0) (hi:=((((C2 d).length:Nat):Int) - (1:Int):Int).toNat) Gq O (CF (Kd _)) O ⟨_,pI An⟩ (Nat.zero_le _) AQ (Xb (f:=Gk) (C2 d) (((((C2 d).length:Nat):Int) - (1:Int):Int).toNat))) (Aq O (A0 Oc O O) (Aq O (Dz (i:=0) (ds:=(GI (Pr.mk ds ((C2 d).take (((((C2 d).length:Nat):Int) - (1:Int):Int).toNat)) d)).map .p) V6 O O O O O O O) (Bg O (As (Aw (Ax Ay 3 [0] O (Aq O (Bu (i:=1) BY O O (Ev _) (BD _)) (Ax Ay 2 [] O ?_)))))))))))))))));refine Aq O (A3 (i:=1) DN O O (Dd _)) (Ds O O (CA O O (HB (Pr.mk ds ((C2 d).take (((((C2 d).length:Nat):Int) - (1:Int):Int).toNat)) d) d.recs.type 0 d.recs.params h2.rt h1.env Ai h2 An) (.inl O)) ?_);rintro _ ⟨e,rfl,he⟩;refine Ar Ay 1 [] O (Au Ay 2 [] O (Av O (fun c3=>?_) (fun c3=>?_)))
  ·(try simp only[sd,se] at c3);refine Au Ay 2 [] O (Az (⟨O,_,_,⟨_,_,O,O,O⟩,(List.nil_sublist _),?_⟩))
   all_goals exact⟨⟨_,rfl,fun h=>absurd h Ak⟩,rfl⟩
  (try simp only[sd,se] at c3);refine A1 (Aw (Ax Ay 2 [] O (Aq O (Dz (i:=0) (ds:=(GI (Pr.mk ds (C2 d) d)).map .p) V6 O O O O O O O) (Bg O (Au Ay 1 [] O (A8 ?_))))));refine Bb (α:=Nat) (fun i=>⟨161,mk [(3,.ptr b3 0),(5,.ptr b5 0),(11,.p (I (i:Int)))],[.box b5 ((GI (Pr.mk ds (C2 d) d)).map .p),.box b3 ((Bh d).map .p)],[]⟩) (fun i=>d.recs.rules.length - i) (fun i=>i≤d.recs.rules.length∧(∀j,j<i→∀x,d.recs.rules[j]?=some x→okB x=true)) 0 (⟨by omega,fun j h=>by omega⟩) ?_ ?_
  ·exact BU ⟨we O,we O,we O,Ap⟩ (leH (is:=[0,1]) O (wl (oe O) (wl (oe O) (C3))))
  rintro i hC1
  try simp only at hC1
  obtain⟨hi,hR⟩:=hC1;refine As (Aw (Ax Ay 3 [] O (Aq O (A3 (i:=1) Gj O O (Ck _)) (Aq O (BK Be O (BQ _)) (Ar Ay 1 [] O (Av O (fun c4=>?_) (fun c4=>?_)))))))
  ·(try simp only[sd,se] at c4);refine A1 (As (A8 (As (Bt (fun k=>Nat.beq k 10) Dn (BP Ay 3 [0] O (CU (j:=1) O O O (fun H i hi=>A3 (i:=i) Gj O hi (Ck _)) AB Ap (BG O (fun _=>BZ O) Ap ?_)))))));obtain⟨x,hx⟩:=A6 (l:=d.recs.rules) (i:=i) An;refine BG O (fun _=>A4 Be O O An (Bd hx) (BD _)) Ap (BP Ay 3 [] O (CU (j:=1) O O O (fun H i hi=>A3 (i:=i) DN O hi (Dd _)) AB Ap (J2 [] O O (CA O O (HB (Pr.mk ds (C2 d) d) x 0 d.recs.params (h2.rs _ (List.mem_of_getElem? hx)) h1.env Ab h2 An) (.inl O)) Aj (⟨_,1,O,fun h=>absurd h Am⟩) AB ?_)));rintro _ ⟨e1,rfl,he1⟩;refine⟨Ap,?_⟩;refine Bj Ay 1 [] O (Au Ay 2 [] O (Av O (fun c5=>?_) (fun c5=>?_)))
   ·(try simp only[sd,se] at c5);refine Au Ay 2 [] O (Az (⟨O,_,_,⟨_,_,O,O,O⟩,(List.nil_sublist _),?_⟩))
    all_goals exact⟨⟨_,rfl,fun h=>absurd h Ak⟩,rfl⟩
   (try simp only[sd,se] at c5);refine A1 (A2 (Ar Ay 3 [] O (⟨(i+1),AT,⟨by omega,Cu (p:=fun _ (y:Tm)=>okB y=true) hR hx (he1 An)⟩,BU ⟨we rfl,we rfl,we rfl,trivial⟩ (leH (is:=[0,1]) rfl (wl (oe rfl) (wl (oe rfl) (C3))))⟩)))
  (try simp only[sd,se] at c4);refine Bf (Au Ay 1 [] O (Az (⟨O,_,_,⟨_,_,O,O,O⟩,(List.nil_sublist _),?_⟩)))
  all_goals exact⟨⟨_,rfl,fun _=>⟨fun _=>by omega,fun _=>IE An hR,fun _=>by omega⟩⟩,rfl⟩
 (try simp only[sd,se] at c1);have hk3:=c1;refine Au Ay 2 [] O (Av O (fun c2=>?_) (fun c2=>?_))
 ·(try simp only[sd,se] at c2);refine As (Au Ay 1 [] O (A8 (Bb (α:=Nat) (fun i=>⟨161,mk [(3,.ptr b3 0),(5,.ptr b5 0),(13,.p (I (i:Int)))],[.box b5 ((GI (Pr.mk ds [] d)).map .p),.box b3 ((Bh d).map .p)],[]⟩) (fun i=>d.funs.length - i) (fun i=>i≤d.funs.length) 0 AP ?_ ?_)))
  ·exact BU ⟨we O,we O,we O,Ap⟩ (leH (is:=[0,1]) O (wl (oe O) (wl (oe O) (C3))))
  rintro i hC
  try simp only at hC
  have hi:=hC;refine As (Aw (Ax Ay 2 [] O (Aq O (A3 (i:=1) HY O O (CD _)) (Aq O (BK GB O (List.length_map _)) (Ar Ay 1 [] O (Av O (fun c3=>?_) (fun c3=>?_)))))))
  ·(try simp only[sd,se] at c3);refine A1 (As (A8 (As (Bt (fun k=>Nat.beq k 9) Dn (BP Ay 2 [0] O (CU (j:=1) O O O (fun H i hi=>A3 (i:=i) HY O hi (CD _)) AB Ap (BG O (fun _=>BZ O) Ap ?_)))))));obtain⟨x,hx⟩:=A6 (l:=d.funs) (i:=i) An;refine BG O (fun _=>A4 GB O O An (EO hx) (DJ _)) Ap (BG O (fun _=>By Gv O O) Ap (BG O (fun _=>DC BY O (Ir _) (BD _)) Ap (BG O (fun _=>A0 Cz O O) Ap (CU (j:=1) O O O (fun H i hi=>A3 (i:=i) DN O hi (Co _)) AB Ap (J2 [] O O (CA O O (HB (Pr.mk ds [] d) x.type 0 d.params (h2.fs _ (List.mem_of_getElem? hx)).ty h1.env Ao h2 An) (.inl O)) Aj (⟨_,1,O,fun h=>absurd h Am⟩) AB ?_)))));rintro _ ⟨e,rfl,he⟩;refine⟨Ap,?_⟩;refine Bj Ay 1 [] O (Au Ay 2 [] O (Av O (fun c4=>?_) (fun c4=>?_)))
   ·(try simp only[sd,se] at c4);refine Au Ay 2 [] O (Az (⟨O,_,_,⟨_,_,O,O,O⟩,(List.nil_sublist _),?_⟩))
    all_goals exact⟨⟨_,rfl,fun h=>absurd h Ak⟩,rfl⟩
   (try simp only[sd,se] at c4);refine A1 (A2 (Ar Ay 3 [] O ?_));refine⟨(i+1),AT,by omega,BU ⟨we rfl,we rfl,we rfl,trivial⟩ (leH (is:=[0,1]) rfl (wl (oe rfl) (wl (oe rfl) (C3))))⟩
  (try simp only[sd,se] at c3);refine Bf (Aw (Aq O (BT (i:=1) FW O O Ad) (Aq O (BC O O (Mf d h2.cl h2.fl h2.nm) O) (Aq O (A0 Oc O O) (Aq O (Dz (i:=0) (ds:=(GI (Pr.mk ds (C2 d) d)).map .p) V6 O O O O O O O) (Bg O (Au Ay 1 [] O (A8 ?_))))))));refine Bb (α:=Nat) (fun i=>⟨161,mk [(3,.ptr b3 0),(5,.ptr b5 0),(15,.p (I (i:Int)))],[.box b5 ((GI (Pr.mk ds (C2 d) d)).map .p),.box b3 ((Bh d).map .p)],[]⟩) (fun i=>d.funs.length - i) (fun i=>i≤d.funs.length∧(∀j,j<i→∀x,d.funs[j]?=some x→FC x.tree)) 0 (⟨by omega,fun j h=>by omega⟩) ?_ ?_
  ·exact BU ⟨we O,we O,we O,Ap⟩ (leH (is:=[0,1]) O (wl (oe O) (wl (oe O) (C3))))
  rintro i hC1
  try simp only at hC1
  obtain⟨hi,hT⟩:=hC1;refine As (Aw (Ax Ay 2 [] O (Aq O (A3 (i:=1) HY O O (CD _)) (Aq O (BK GB O (List.length_map _)) (Ar Ay 1 [] O (Av O (fun c4=>?_) (fun c4=>?_)))))))
  ·(try simp only[sd,se] at c4);refine A1 (As (A8 (As (Bt (fun k=>Nat.beq k 13) Dn (BP Ay 2 [0] O (CU (j:=1) O O O (fun H i hi=>A3 (i:=i) HY O hi (CD _)) AB Ap (BG O (fun _=>BZ O) Ap ?_)))))));obtain⟨x,hx⟩:=A6 (l:=d.funs) (i:=i) An;refine BG O (fun _=>A4 GB O O An (EO hx) (DJ _)) Ap (BG O (fun _=>By Gv O O) Ap (BG O (fun _=>DC IY O (Db _) (Cl _)) Ap (BG O (fun _=>A0 Cz O O) Ap (CU (j:=1) O O O (fun H i hi=>A3 (i:=i) HY O hi (CD _)) AB Ap (BG O (fun _=>BZ O) Ap (BG O (fun _=>A4 GB O O An (EO hx) (DJ _)) Ap (BG O (fun _=>By Gv O O) Ap (BG O (fun _=>C6 DN O (CL _)) Ap ?_))))))));have hax:=h3.2.1 _ (List.mem_of_getElem? hx);refine J2 [] O O (CA O O (YD (La x.tree) (Pr.mk ds (C2 d) d) x.tree x.arity 0 (Nat.le_refl _) (h2.fs _ (List.mem_of_getElem? hx)).tr h1 Ab h2 An An) (.inl O)) Aj (⟨_,1,O,fun h=>absurd h Am⟩) AB ?_;rintro _ ⟨e,rfl,he⟩;refine⟨Ap,?_⟩;refine Bj Ay 1 [] O (Au Ay 2 [] O (Av O (fun c5=>?_) (fun c5=>?_)))
   ·(try simp only[sd,se] at c5);refine Au Ay 2 [] O (Az (⟨O,_,_,⟨_,_,O,O,O⟩,(List.nil_sublist _),?_⟩))
    all_goals exact⟨⟨_,rfl,fun h=>absurd h Ak⟩,rfl⟩
   (try simp only[sd,se] at c5);refine A1 (A2 (Ar Ay 3 [] O (⟨(i+1),AT,⟨by omega,Cu (p:=fun _ (y:G7)=>FC y.tree) hT hx (he An)⟩,BU ⟨we rfl,we rfl,we rfl,trivial⟩ (leH (is:=[0,1]) rfl (wl (oe rfl) (wl (oe rfl) (C3))))⟩)))
  (try simp only[sd,se] at c4);refine Bf (Au Ay 1 [] O (Az (⟨O,_,_,⟨_,_,O,O,O⟩,(List.nil_sublist _),?_⟩)))
  all_goals exact⟨⟨_,rfl,fun _=>⟨fun _=>by omega,fun _=>by omega,fun _=>IE An hT⟩⟩,rfl⟩
 (try simp only[sd,se] at c2);refine A1 (Au Ay 1 [] O (Az (⟨O,_,_,⟨_,_,O,O,O⟩,(List.nil_sublist _),?_⟩)))
 all_goals exact⟨⟨_,rfl,fun _=>⟨fun _=>by omega,fun _=>by omega,fun _=>by omega⟩⟩,rfl⟩
theorem cg:∀(ds:List CH) (d:CH),(Je ds)→(Ns d)→F7 Tryz.prog 102 [.p (.lst (List.map Bh ds)),.agg ((Bh d).map .p)] (fun v=>∃ee:Int,v= .p (I ee)∧(ee=0→DG d)):=by
 intro ds d h1 h2;refine A5 Tryz.func102 O oD (n:=32) O O (Aw (BF O (BN O) fun b3=>Ar Ay 1 [] O (As (As (BS [0,3] 14 (fun y=>y= .p (.bool ((decide ((d.kind:Int)<(0:Int)))||(decide ((d.kind:Int) > (4:Int)))))) ?_ ?_)))))
 ·refine A2 (Aq O (A0 Cz O O) (Aq O (A3 (i:=0) DN O O (D2 _)) (Ax Ay 2 [] O (BL 10 O (fun g=>?_) (fun g=>?_)))))
  ·(try simp only[sd,se] at g);exact Ar Ay 4 [] O (⟨O,O,AK,AI,⟨O,O,Ap⟩⟩)
  (try simp only[sd,se] at g);exact BB O (A0 Cz O O) (BB O (A3 (i:=0) DN O O (D2 _)) (Ar Ay 2 [] O (⟨O,O,AK,AI,⟨O,O,Ap⟩⟩)))
 rintro _ rfl;refine Av O (fun c=>?_) (fun c=>?_)
 ·(try simp only[sd,se] at c);refine Au Ay 1 [] O (Az (⟨O,_,_,⟨_,_,O,O,O⟩,(List.nil_sublist _),?_⟩))
  all_goals exact⟨⟨_,rfl,fun h=>absurd h Am⟩,rfl⟩
 (try simp only[sd,se] at c);have hk:0≤d.kind∧d.kind≤4:=by omega
 refine A1 (As (Aw (Aq O (BT (i:=0) FW O O Ad) (Ds O O (CA O O (Wy d h2 hk) (.inl O)) ?_))));rintro _ ⟨q,rfl,hq⟩;refine Ar Ay 1 [] O (Av O (fun c1=>?_) (fun c1=>?_))
 ·(try simp only[sd,se] at c1);refine Au Ay 1 [] O (Az (⟨O,_,_,⟨_,_,O,O,O⟩,(List.nil_sublist _),?_⟩))
  all_goals exact⟨⟨_,rfl,fun h=>absurd h Am⟩,rfl⟩
 (try simp only[sd,se] at c1);have hu:=hq (by simpa using c1);refine A1 (As (Aw (Aq O (BT (i:=0) FW O O Ad) (Ds O O (CA O O (XI d h2) (.inl O)) ?_))));rintro _ ⟨e,rfl,he⟩;refine Ar Ay 1 [] O (Au Ay 2 [] O (Av O (fun c2=>?_) (fun c2=>?_)))
 ·(try simp only[sd,se] at c2);refine Au Ay 2 [] O (Az (⟨O,_,_,⟨_,_,O,O,O⟩,(List.nil_sublist _),?_⟩))
  all_goals exact⟨⟨_,rfl,fun h=>absurd h Ak⟩,rfl⟩
 (try simp only[sd,se] at c2);have hcn:=he An;refine A1 (As (Aw (Ax Ay 2 [0] O (Ds O O (CA O O (SU ds d h1.env h2) (.inl O)) ?_))));rintro _ ⟨e1,rfl⟩;refine Ar Ay 1 [] O (Au Ay 2 [] O (Av O (fun c3=>?_) (fun c3=>?_)))
 ·(try simp only[sd,se] at c3);refine Au Ay 2 [] O (Az (⟨O,_,_,⟨_,_,O,O,O⟩,(List.nil_sublist _),?_⟩))
  all_goals exact⟨⟨_,rfl,fun h=>absurd h Ak⟩,rfl⟩
 (try simp only[sd,se] at c3);refine A1 (Aw (Ax Ay 2 [0] O (Ds O O (CA O O (Zq ds d h1 h2 hcn) (.inl O)) ?_)));rintro _ ⟨e2,rfl,he1⟩;refine Ar Ay 1 [] O (Az (⟨O,_,_,⟨_,_,O,O,O⟩,(List.nil_sublist _),?_⟩))
 all_goals exact⟨⟨_,rfl,fun h=>qJ h2 hk hu hcn (he1 h)⟩,rfl⟩
theorem X7:∀(ds:List CH),(G1 ds)→F7 Tryz.prog 66 [.p (.lst (List.map Bh ds))] (fun v=>∃a e:Int,v= .tup [.p (I a),.p (I e)]∧(e=0→Je ds)):=by
 intro ds h1;have hl:=h1.len;refine A5 Tryz.func66 O qT (n:=27) O O (Au Ay 2 [] O (As (Aw (Bq O (Aq O (BK HT O (List.length_map _)) (Ar Ay 1 [] O (Av O (fun c=>?_) (fun c=>?_))))))))
 ·(try simp only[sd,se] at c);refine Au Ay 2 [] O (Az (⟨O,_,_,⟨_,_,O,O,⟨_,_,O,O,O⟩⟩,(List.nil_sublist _),?_⟩))
  all_goals exact⟨⟨_,_,rfl,fun h=>absurd h Am⟩,rfl⟩
 (try simp only[sd,se] at c);refine A1 (As (Au Ay 1 [] O (A8 ?_)));refine Bb (α:=Nat) (fun i=>⟨27,mk [(0,.p (.lst (List.map Bh ds))),(4,.p (I (i:Int)))],[],[]⟩) (fun i=>ds.length - i) (fun i=>i≤ds.length∧(∀j,j<i→∀x,ds[j]?=some x→DG x)) 0 (⟨by omega,fun j h=>by omega⟩) ?_ ?_
 ·exact BU ⟨we O,we O,Ap⟩ (leH (is:=[]) O (C3))
 rintro i hC
 try simp only at hC
 obtain⟨hi,hC⟩:=hC;refine As (Aw (Ax Ay 2 [] O (Aq O (BK HT O (List.length_map _)) (Ar Ay 1 [] O (Av O (fun c1=>?_) (fun c1=>?_))))))
 ·(try simp only[sd,se] at c1);refine A1 (As (A8 (As (Bt (fun k=>Nat.beq k 7) Dn (BP Ay 2 [] O (BG O (fun _=>CY (lo:=0) (hi:=i) HT O (CF (ay _)) O ⟨_,O⟩ (Nat.zero_le _) AQ (Xb (f:=Bh) ds i)) Ap (BP Ay 2 [] O ?_)))))));obtain⟨x,hx⟩:=A6 (l:=ds) (i:=i) An;refine BG O (fun _=>A4 HT O O An (D3 hx) (Cm _)) Ap (BG O (fun _=>BM FW O (Cm _)) Ap (J2 [] O O (CA O O (cg (ds.take i) x (aj h1 hC) (h1.all _ (List.mem_of_getElem? hx))) (.inl O)) Aj (⟨_,1,O,fun h=>absurd h Am⟩) AB ?_));rintro _ ⟨e,rfl,he⟩;refine⟨Ap,?_⟩;refine Bj Ay 1 [] O (Au Ay 2 [] O (Av O (fun c2=>?_) (fun c2=>?_)))
  ·(try simp only[sd,se] at c2);refine Au Ay 4 [] O (Az (⟨O,_,_,⟨_,_,O,O,⟨_,_,O,O,O⟩⟩,(List.nil_sublist _),?_⟩))
   all_goals exact⟨⟨_,_,rfl,fun h=>absurd h Ak⟩,rfl⟩
  (try simp only[sd,se] at c2);refine A1 (A2 (Ar Ay 3 [] O (⟨(i+1),AT,⟨by omega,Cu (p:=fun _ (y:CH)=>DG y) hC hx (he An)⟩,BU ⟨we rfl,we rfl,trivial⟩ (leH (is:=[]) rfl (C3))⟩)))
 (try simp only[sd,se] at c1);refine Bf (Au Ay 2 [] O (Az (⟨O,_,_,⟨_,_,O,O,⟨_,_,O,O,O⟩⟩,(List.nil_sublist _),?_⟩)))
 all_goals exact⟨⟨_,_,rfl,fun _=>⟨h1,IE An hC⟩⟩,rfl⟩
theorem Hv:∀(t:Tm),(UW t)→EZ Tryz.prog 131 [.agg ((BO t).map .p)] (.p (.bool (decide (Ek t≤400)&&decide (Et t≤150)))):=by
 intro t h1;refine A5 Tryz.func131 O pv (n:=11) O O (Aw (BF O (BN O) fun b1=>Ar Ay 1 [] O (As (BS [] 2 (fun y=>y= .p (.bool ((decide ((Ek t:Int)≤(400:Int)))&&(decide ((Et t:Int)≤(150:Int)))))) ?_ ?_))))
 ·refine A2 (Aq O (BT (i:=0) BY O O Ag) (Aq O (BC O O (Mi _ t (Nat.le_refl _) h1.nd) O) (Ax Ay 2 [] O (BL 6 O (fun g=>?_) (fun g=>?_)))))
  ·(try simp only[sd,se] at g);exact BB O (BT (i:=0) BY O O Ag) (BB O (BC O O (N8 _ t (Nat.le_refl _) h1.nd) O) (Ar Ay 3 [] O ⟨O,O,AK,AI,Ap⟩))
  (try simp only[sd,se] at g);exact Ar Ay 5 [] O ⟨O,O,AK,AI,Ap⟩
 rintro _ rfl;refine Az (⟨O,_,_,⟨_,_,O,O,O⟩,(List.nil_sublist _),?_⟩)
 all_goals exact⟨rfl,rfl⟩
theorem SS:∀(n:Nat) (t:Es) (dp:Int),(La t≤n)→(HS t)→(-1000<dp∧dp<1000)→F7 Tryz.prog 132 [.agg ((Ch t).map .p),.p (I dp)] (fun v=>∃bb:Bool,v= .p (.bool bb)∧(bb=true→(Dl t:Int)≤42 - dp)):=by
 intro n
 induction n with
 | zero=>intro t dp h;have:=O7 t;omega
 | succ n ih =>
  intro t dp h1 h2 h3;have htl:=h2.bl;refine A5 Tryz.func132 O nN (n:=47) O O (Aw (BF O (BN O) fun b2=>Ar Ay 1 [] O (As (As (BS [1,2] 19 (fun y=>∃q:Bool,y= .p (.bool q)∧(q=false→dp≤40)) ?_ ?_)))))
  ·refine A2 (Ax Ay 3 [] O (BL 8 O (fun g=>?_) (fun g=>?_)))
   ·(try simp only[sd,se] at g);exact Ar Ay 11 [] O (⟨O,O,AK,(by refine⟨_,rfl,fun h=>?_⟩;first | (exact absurd h Am) | omega),⟨O,O,Ap⟩⟩)
   (try simp only[sd,se] at g);refine BB O (A0 FF O O) (BB O (A3 (i:=0) Kf O O (CG _)) (BB O (BK Jd O (Fv _)) (Ax Ay 3 [] O (BL 14 O (fun g1=>?_) (fun g1=>?_)))))
   ·(try simp only[sd,se] at g1);exact Ar Ay 5 [] O (⟨O,O,AK,(by refine⟨_,rfl,fun h=>?_⟩;first | (exact absurd h Am) | omega),⟨O,O,Ap⟩⟩)
   (try simp only[sd,se] at g1);exact BB O (A0 FF O O) (BB O (Bu (i:=0) BY O O (E1 _) (BD _)) (BB O (BC O O (Hv t.body h2.body) O) (Ar Ay 2 [] O (⟨O,O,AK,(by refine⟨_,rfl,fun h=>?_⟩;first | (exact absurd h Am) | omega),⟨O,O,Ap⟩⟩))))
  rintro _ ⟨q,rfl,hq⟩;refine Av O (fun c=>?_) (fun c=>?_)
  ·(try simp only[sd,se] at c);refine Au Ay 1 [] O (Az (⟨O,_,_,⟨_,_,O,O,O⟩,(List.nil_sublist _),?_⟩))
   all_goals exact⟨⟨_,rfl,fun h=>absurd h Am⟩,rfl⟩
  (try simp only[sd,se] at c);have hq1:=hq (by simpa using c);refine A1 (As (Au Ay 1 [] O (A8 ?_)));refine Bb (α:=Nat) (fun i=>⟨47,mk [(1,.p (I dp)),(2,.ptr b2 0),(5,.p (I (i:Int)))],[.box b2 ((Ch t).map .p)],[]⟩) (fun i=>t.branches.length - i) (fun i=>i≤t.branches.length∧(∀j,j<i→∀x,t.branches[j]?=some x→(Dl x.tree:Int)≤42 - (dp+1))) 0 (⟨by omega,fun j h=>by omega⟩) ?_ ?_
  ·exact BU ⟨we O,we O,we O,Ap⟩ (leH (is:=[0]) O (wl (oe O) (C3)))
  rintro i hC
  try simp only at hC
  obtain⟨hi,hC⟩:=hC;refine As (Aw (Ax Ay 2 [] O (Aq O (A3 (i:=0) Kf O O (CG _)) (Aq O (BK Jd O (Fv _)) (Ar Ay 1 [] O (Av O (fun c1=>?_) (fun c1=>?_)))))))
  ·(try simp only[sd,se] at c1);obtain⟨x,hx⟩:=A6 (l:=t.branches) (i:=i) An;refine A1 (As (A8 (As (BS [1,2,5] 46 (fun y=>∃q:Bool,y= .p (.bool q)∧(q=false→(Dl x.tree:Int)≤42 - (dp+1))) ?_ ?_))))
   ·refine A2 (Aq O (A0 FF O O) (Aq O (A3 (i:=0) Kf O O (CG _)) (Bq O (Aq O (A4 Jd O O An (FX hx) (DO _)) (Aq O (By IJ O O) (Aq O (DC IY O (Fj _) (Cl _)) (Ax Ay 2 [] O (Ds O O (CA O O (ih x.tree ((dp:Int)+(1:Int)) (by have:=RL hx;omega) (JX h2.bs hx).tr An) (.inl O)) ?_))))))));rintro _ ⟨q1,rfl,hq⟩;refine Ax Ay 2 [] O (BL 37 O (fun g=>?_) (fun g=>?_))
    ·(try simp only[sd,se] at g);exact Ar Ay 9 [] O (⟨O,O,AK,(by refine⟨_,rfl,fun h=>?_⟩;first | (exact absurd h Am) | exact hq (by simpa using g)),⟨O,O,O,Ap⟩⟩)
    (try simp only[sd,se] at g);exact BB O (A0 FF O O) (BB O (A3 (i:=0) Kf O O (CG _)) (BB O (BZ O) (BB O (A4 Jd O O An (FX hx) (DO _)) (BB O (By IJ O O) (BB O (C6 Ln O (GW _)) (BB O (GF kK O) (Ar Ay 2 [] O (⟨O,O,AK,(by refine⟨_,rfl,fun h=>?_⟩;first | (exact absurd h Am) | exact hq (by simpa using g)),⟨O,O,O,Ap⟩⟩))))))))
   rintro _ ⟨q,rfl,hqx⟩;refine Av O (fun c2=>?_) (fun c2=>?_)
   ·(try simp only[sd,se] at c2);refine Au Ay 1 [] O (Az (⟨O,_,_,⟨_,_,O,O,O⟩,(List.nil_sublist _),?_⟩))
    all_goals exact⟨⟨_,rfl,fun h=>absurd h Am⟩,rfl⟩
   (try simp only[sd,se] at c2);have hok:=hqx (by simpa using c2);refine A1 (A2 (Ar Ay 3 [] O (⟨(i+1),AT,⟨by omega,Cu (p:=fun _ (y:GQ)=>(Dl y.tree:Int)≤42 - (dp+1)) hC hx hok⟩,BU ⟨we rfl,we rfl,we rfl,trivial⟩ (leH (is:=[0]) rfl (wl (oe rfl) (C3)))⟩)))
  (try simp only[sd,se] at c1);refine Bf (Au Ay 1 [] O (Az (⟨O,_,_,⟨_,_,O,O,O⟩,(List.nil_sublist _),?_⟩)))
  all_goals exact⟨⟨_,rfl,fun _=>iV hq1 (IE An hC)⟩,rfl⟩
theorem VD:∀(d:CH),(Ns d)→F7 Tryz.prog 101 [.agg ((Bh d).map .p)] (fun v=>∃bb:Bool,v= .p (.bool bb)∧(bb=true→TJ d)):=by
 intro d h1;have hcl:=h1.cl;have hfl:=h1.fl;have hrl:=h1.rl;refine A5 Tryz.func101 O oF (n:=124) O O (Aw (BF O (BN O) fun b1=>Ar Ay 1 [] O (As (As (BS [1] 47 (fun y=>∃q:Bool,y= .p (.bool q)∧(q=false→Ek d.value≤400)) ?_ ?_)))))
 ·refine A2 (Aq O (A0 Cz O O) (Aq O (A3 (i:=0) Ln O O (DH _)) (Aq O (GF kK O) (Ax Ay 2 [] O (BL 10 O (fun g=>?_) (fun g=>?_))))))
  ·(try simp only[sd,se] at g);exact Ar Ay 37 [] O (⟨O,O,AK,(by refine⟨_,rfl,fun h=>?_⟩;first | (exact absurd h Am) | (simp_all;done) | (simp_all;omega)),⟨O,Ap⟩⟩)
  (try simp only[sd,se] at g);refine BB O (A0 Cz O O) (BB O (Bu (i:=0) BY O O (E2 _) (BD _)) (BB O (BC O O (Hv d.type h1.ty) O) (Ax Ay 3 [] O (BL 16 O (fun g1=>?_) (fun g1=>?_)))))
  ·(try simp only[sd,se] at g1);exact Ar Ay 31 [] O (⟨O,O,AK,(by refine⟨_,rfl,fun h=>?_⟩;first | (exact absurd h Am) | (simp_all;done) | (simp_all;omega)),⟨O,Ap⟩⟩)
  (try simp only[sd,se] at g1);refine BB O (A0 Cz O O) (BB O (Bu (i:=0) BY O O (FA _) (BD _)) (BB O (BC O O (Hv d.value h1.vl) O) (Ax Ay 3 [] O (BL 22 O (fun g2=>?_) (fun g2=>?_)))))
  ·(try simp only[sd,se] at g2);exact Ar Ay 25 [] O (⟨O,O,AK,(by refine⟨_,rfl,fun h=>?_⟩;first | (exact absurd h Am) | (simp_all;done) | (simp_all;omega)),⟨O,Ap⟩⟩)
  (try simp only[sd,se] at g2);refine BB O (A0 Cz O O) (BB O (A3 (i:=0) Hg O O (B8 _)) (BB O (BK HN O (List.length_map _)) (Ax Ay 3 [] O (BL 28 O (fun g3=>?_) (fun g3=>?_)))))
  ·(try simp only[sd,se] at g3);exact Ar Ay 19 [] O (⟨O,O,AK,(by refine⟨_,rfl,fun h=>?_⟩;first | (exact absurd h Am) | (simp_all;done) | (simp_all;omega)),⟨O,Ap⟩⟩)
  (try simp only[sd,se] at g3);refine BB O (A0 Cz O O) (BB O (A3 (i:=0) HY O O (CD _)) (BB O (BK GB O (List.length_map _)) (Ax Ay 3 [] O (BL 34 O (fun g4=>?_) (fun g4=>?_)))))
  ·(try simp only[sd,se] at g4);exact Ar Ay 13 [] O (⟨O,O,AK,(by refine⟨_,rfl,fun h=>?_⟩;first | (exact absurd h Am) | (simp_all;done) | (simp_all;omega)),⟨O,Ap⟩⟩)
  (try simp only[sd,se] at g4);refine Ax Ay 2 [] O (BB O (Bu (i:=0) BY O O (Ev _) (BD _)) (BB O (BC O O (Hv d.recs.type h1.rt) O) (Ax Ay 3 [] O (BL 41 O (fun g5=>?_) (fun g5=>?_)))))
  ·(try simp only[sd,se] at g5);exact Ar Ay 6 [] O (⟨O,O,AK,(by refine⟨_,rfl,fun h=>?_⟩;first | (exact absurd h Am) | (simp_all;done) | (simp_all;omega)),⟨O,Ap⟩⟩)
  (try simp only[sd,se] at g5);exact Ax Ay 2 [] O (BB O (A3 (i:=0) Gj O O (Ck _)) (BB O (BK Be O (BQ _)) (Ar Ay 2 [] O (⟨O,O,AK,(by refine⟨_,rfl,fun h=>?_⟩;first | (exact absurd h Am) | (simp_all;done) | (simp_all;omega)),⟨O,Ap⟩⟩))))
 rintro _ ⟨q,rfl,hq⟩;refine Av O (fun c=>?_) (fun c=>?_)
 ·(try simp only[sd,se] at c);refine Au Ay 1 [] O (Az (⟨O,_,_,⟨_,_,O,O,O⟩,(List.nil_sublist _),?_⟩))
  all_goals exact⟨⟨_,rfl,fun h=>absurd h Am⟩,rfl⟩
 (try simp only[sd,se] at c);have hq1:=hq (by simpa using c);refine A1 (As (Au Ay 1 [] O (A8 (Bb (α:=Nat) (fun i=>⟨124,mk [(1,.ptr b1 0),(3,.p (I (i:Int)))],[.box b1 ((Bh d).map .p)],[]⟩) (fun i=>d.ctors.length - i) (fun i=>i≤d.ctors.length) 0 AP ?_ ?_))))
 ·exact BU ⟨we O,we O,Ap⟩ (leH (is:=[0]) O (wl (oe O) (C3)))
 rintro i hC
 try simp only at hC
 have hi:=hC;refine As (Aw (Ax Ay 2 [] O (Aq O (A3 (i:=0) Hg O O (B8 _)) (Aq O (BK HN O (List.length_map _)) (Ar Ay 1 [] O (Av O (fun c1=>?_) (fun c1=>?_)))))))
 ·(try simp only[sd,se] at c1);refine A1 (As (A8 (As (BS [1,3] 72 Ge ?_ ?_))))
  ·refine A2 (Aq O (A0 Cz O O) (Aq O (A3 (i:=0) Hg O O (B8 _)) (Bq O ?_)));obtain⟨x,hx⟩:=A6 (l:=d.ctors) (i:=i) An;refine Aq O (A4 HN O O An (ES hx) (D5 _)) (Aq O (By Ik O O) (Aq O (C6 Ln O (Fb _)) (Aq O (GF kK O) (Ax Ay 2 [] O (BL 63 O (fun g=>?_) (fun g=>?_))))))
   ·(try simp only[sd,se] at g);exact Ar Ay 9 [] O (⟨O,O,AK,⟨_,O⟩,⟨O,O,Ap⟩⟩)
   (try simp only[sd,se] at g);exact BB O (A0 Cz O O) (BB O (A3 (i:=0) Hg O O (B8 _)) (BB O (BZ O) (BB O (A4 HN O O An (ES hx) (D5 _)) (BB O (By Ik O O) (BB O (DC BY O (E4 _) (BD _)) (BB O (BC O O (Hv x.type (h1.cs _ (List.mem_of_getElem? hx)).ty) O) (Ar Ay 2 [] O (⟨O,O,AK,⟨_,O⟩,⟨O,O,Ap⟩⟩))))))))
  rintro _ ⟨q1,rfl⟩;refine Av O (fun c2=>?_) (fun c2=>?_)
  ·(try simp only[sd,se] at c2);refine Au Ay 1 [] O (Az (⟨O,_,_,⟨_,_,O,O,O⟩,(List.nil_sublist _),?_⟩))
   all_goals exact⟨⟨_,rfl,fun h=>absurd h Am⟩,rfl⟩
  (try simp only[sd,se] at c2);refine A1 (A2 (Ar Ay 3 [] O ?_));refine⟨(i+1),AT,by omega,BU ⟨we rfl,we rfl,trivial⟩ (leH (is:=[0]) rfl (wl (oe rfl) (C3)))⟩
 (try simp only[sd,se] at c1);refine Bf (As (Au Ay 1 [] O (A8 ?_)));refine Bb (α:=Nat) (fun i=>⟨124,mk [(1,.ptr b1 0),(4,.p (I (i:Int)))],[.box b1 ((Bh d).map .p)],[]⟩) (fun i=>d.recs.rules.length - i) (fun i=>i≤d.recs.rules.length∧(∀j,j<i→∀x,d.recs.rules[j]?=some x→Ek x≤400)) 0 (⟨by omega,fun j h=>by omega⟩) ?_ ?_
 ·exact BU ⟨we O,we O,Ap⟩ (leH (is:=[0]) O (wl (oe O) (C3)))
 rintro i hC1
 try simp only at hC1
 obtain⟨hi,hR⟩:=hC1;refine As (Aw (Ax Ay 3 [] O (Aq O (A3 (i:=0) Gj O O (Ck _)) (Aq O (BK Be O (BQ _)) (Ar Ay 1 [] O (Av O (fun c2=>?_) (fun c2=>?_)))))))
 ·(try simp only[sd,se] at c2);refine A1 (As (A8 (Aw (Ax Ay 2 [] O (Aq O (A3 (i:=0) Gj O O (Ck _)) (Bq O ?_))))));obtain⟨x,hx⟩:=A6 (l:=d.recs.rules) (i:=i) An;refine Aq O (A4 Be O O An (Bd hx) (BD _)) (Aq O (BM BY O (BD _)) (Aq O (BC O O (Hv x (h1.rs _ (List.mem_of_getElem? hx))) O) (Ar Ay 1 [] O (Av O (fun c3=>?_) (fun c3=>?_)))))
  ·(try simp only[sd,se] at c3);refine Au Ay 1 [] O (Az (⟨O,_,_,⟨_,_,O,O,O⟩,(List.nil_sublist _),?_⟩))
   all_goals exact⟨⟨_,rfl,fun h=>absurd h Am⟩,rfl⟩
  (try simp only[sd,se] at c3);have hqr:Ek x≤400:=by simp_all
  refine A1 (A2 (Ar Ay 3 [] O (⟨(i+1),AT,⟨by omega,Cu (p:=fun _ (y:Tm)=>Ek y≤400) hR hx hqr⟩,BU ⟨we rfl,we rfl,trivial⟩ (leH (is:=[0]) rfl (wl (oe rfl) (C3)))⟩)))
 (try simp only[sd,se] at c2);refine Bf (As (Au Ay 1 [] O (A8 ?_)));refine Bb (α:=Nat) (fun i=>⟨124,mk [(1,.ptr b1 0),(5,.p (I (i:Int)))],[.box b1 ((Bh d).map .p)],[]⟩) (fun i=>d.funs.length - i) (fun i=>i≤d.funs.length∧(∀j,j<i→∀x,d.funs[j]?=some x→(Dl x.tree:Int)≤42 - 0)) 0 (⟨by omega,fun j h=>by omega⟩) ?_ ?_
 ·exact BU ⟨we O,we O,Ap⟩ (leH (is:=[0]) O (wl (oe O) (C3)))
 rintro i hC2
 try simp only at hC2
 obtain⟨hi,hT⟩:=hC2;refine As (Aw (Ax Ay 2 [] O (Aq O (A3 (i:=0) HY O O (CD _)) (Aq O (BK GB O (List.length_map _)) (Ar Ay 1 [] O (Av O (fun c3=>?_) (fun c3=>?_)))))))
 ·(try simp only[sd,se] at c3);obtain⟨x,hx⟩:=A6 (l:=d.funs) (i:=i) An;refine A1 (As (A8 (As (BS [1,5] 123 (fun y=>∃q:Bool,y= .p (.bool q)∧(q=false→(Dl x.tree:Int)≤42 - 0)) ?_ ?_))))
  ·refine A2 (Aq O (A0 Cz O O) (Aq O (A3 (i:=0) HY O O (CD _)) (Bq O (Aq O (A4 GB O O An (EO hx) (DJ _)) (Aq O (By Gv O O) (Aq O (C6 Ln O (Ix _)) (Aq O (GF kK O) (Ax Ay 2 [] O (BL 104 O (fun g=>?_) (fun g=>?_))))))))))
   ·(try simp only[sd,se] at g);exact Ar Ay 19 [] O (⟨O,O,AK,(by refine⟨_,rfl,fun h=>?_⟩;first | (exact absurd h Am) | exact hq (by simpa using h)),⟨O,O,Ap⟩⟩)
   (try simp only[sd,se] at g);refine BB O (A0 Cz O O) (BB O (A3 (i:=0) HY O O (CD _)) (BB O (BZ O) (BB O (A4 GB O O An (EO hx) (DJ _)) (BB O (By Gv O O) (BB O (DC BY O (Ir _) (BD _)) (BB O (BC O O (Hv x.type (h1.fs _ (List.mem_of_getElem? hx)).ty) O) (Ax Ay 3 [] O (BL 114 O (fun g1=>?_) (fun g1=>?_)))))))))
   ·(try simp only[sd,se] at g1);exact Ar Ay 9 [] O (⟨O,O,AK,(by refine⟨_,rfl,fun h=>?_⟩;first | (exact absurd h Am) | exact hq (by simpa using h)),⟨O,O,Ap⟩⟩)
   (try simp only[sd,se] at g1);refine BB O (A0 Cz O O) (BB O (A3 (i:=0) HY O O (CD _)) (BB O (BZ O) (BB O (A4 GB O O An (EO hx) (DJ _)) (BB O (By Gv O O) (BB O (DC IY O (Db _) (Cl _)) (HZ O O O O (CA O O (SS (La x.tree) x.tree 0 (Nat.le_refl _) (h1.fs _ (List.mem_of_getElem? hx)).tr An) (.inl O)) ?_))))));rintro _ ⟨q1,rfl,hq⟩;exact Ar Ay 2 [] O (⟨O,O,AK,(by refine⟨_,rfl,fun h=>?_⟩;first | (exact absurd h Am) | exact hq (by simpa using h)),⟨O,O,Ap⟩⟩)
  rintro _ ⟨q,rfl,hqx⟩;refine Av O (fun c4=>?_) (fun c4=>?_)
  ·(try simp only[sd,se] at c4);refine Au Ay 1 [] O (Az (⟨O,_,_,⟨_,_,O,O,O⟩,(List.nil_sublist _),?_⟩))
   all_goals exact⟨⟨_,rfl,fun h=>absurd h Am⟩,rfl⟩
  (try simp only[sd,se] at c4);have hok:=hqx (by simpa using c4);refine A1 (A2 (Ar Ay 3 [] O (⟨(i+1),AT,⟨by omega,Cu (p:=fun _ (y:G7)=>(Dl y.tree:Int)≤42 - 0) hT hx hok⟩,BU ⟨we rfl,we rfl,trivial⟩ (leH (is:=[0]) rfl (wl (oe rfl) (C3)))⟩)))
 (try simp only[sd,se] at c3);refine Bf (Au Ay 1 [] O (Az (⟨O,_,_,⟨_,_,O,O,O⟩,(List.nil_sublist _),?_⟩)))
 all_goals exact⟨⟨_,rfl,fun _=>dz h1 hq1 (IE An hR) (IE An hT)⟩,rfl⟩
theorem j0:∀(ds:List CH),(G1 ds)→F7 Tryz.prog 65 [.p (.lst (List.map Bh ds))] (fun v=>∃bb:Bool,v= .p (.bool bb)∧(bb=true→(∀d∈ds,TJ d)∧ds.length≤70)):=by
 intro ds h1;have hl:=h1.len;refine A5 Tryz.func65 O qw (n:=23) O O (Au Ay 1 [] O (As (Au Ay 1 [] O (A8 ?_))));refine Bb (α:=Nat) (fun i=>⟨23,mk [(0,.p (.lst (List.map Bh ds))),(3,.p (I (i:Int)))],[],[]⟩) (fun i=>ds.length - i) (fun i=>i≤ds.length∧(∀j,j<i→∀x,ds[j]?=some x→TJ x)) 0 (⟨by omega,fun j h=>by omega⟩) ?_ ?_
 ·exact BU ⟨we O,we O,Ap⟩ (leH (is:=[]) O (C3))
 rintro i hC
 try simp only at hC
 obtain⟨hi,hC⟩:=hC;refine As (As (BS [0,3] 11 (fun y=>∃q:Bool,y= .p (.bool q)∧(q=true→i<ds.length)∧(q=false→ds.length≤i∨80≤i)) ?_ ?_))
 ·refine A2 (Ax Ay 2 [] O (Aq O (BK HT O (List.length_map _)) (Ax Ay 2 [] O (BL 8 O (fun g=>?_) (fun g=>?_)))))
  ·(try simp only[sd,se] at g);refine Ar Ay 3 [] O ?_;exact⟨rfl,rfl,AK,(by refine⟨_,rfl,fun h=>?_,fun h=>?_⟩<;>first | (exact absurd h Am) | omega | (simp only[decide_eq_true_eq,decide_eq_false_iff_not] at h;omega)),⟨rfl,rfl,trivial⟩⟩
  (try simp only[sd,se] at g);refine Ar Ay 3 [] O ?_;exact⟨rfl,rfl,AK,(by refine⟨_,rfl,fun h=>?_,fun h=>?_⟩<;>first | (exact absurd h Am) | omega | (simp only[decide_eq_true_eq,decide_eq_false_iff_not] at h;omega)),⟨rfl,rfl,trivial⟩⟩
 rintro _ ⟨q,rfl,hq,hqn⟩;refine Av O (fun c=>?_) (fun c=>?_)
 ·(try simp only[sd,se] at c);have hq1:=hq (by simpa using c);refine A1 (As (A8 (Aw (Ax Ay 2 [] O ?_))));obtain⟨x,hx⟩:=A6 (l:=ds) (i:=i) An;refine Aq O (A4 HT O O An (D3 hx) (Cm _)) (Aq O (BM FW O (Cm _)) (Ds O O (CA O O (VD x (h1.all _ (List.mem_of_getElem? hx))) (.inl O)) ?_));rintro _ ⟨q1,rfl,hq⟩;refine Ar Ay 1 [] O (Av O (fun c1=>?_) (fun c1=>?_))
  ·(try simp only[sd,se] at c1);refine Au Ay 1 [] O (Az (⟨O,_,_,⟨_,_,O,O,O⟩,(List.nil_sublist _),?_⟩))
   all_goals exact⟨⟨_,rfl,fun h=>absurd h Am⟩,rfl⟩
  (try simp only[sd,se] at c1);have hok:=hq (by simpa using c1);refine A1 (A2 (Ar Ay 3 [] O (⟨(i+1),AT,⟨by omega,Cu (p:=fun _ (y:CH)=>TJ y) hC hx hok⟩,BU ⟨we rfl,we rfl,trivial⟩ (leH (is:=[]) rfl (C3))⟩)))
 (try simp only[sd,se] at c);have hqe:=hqn (by simpa using c);refine Bf (Aw (Bq O (Aq O (BK HT O (List.length_map _)) (Ar Ay 2 [] O (Az (⟨O,_,_,⟨_,_,O,O,O⟩,(List.nil_sublist _),?_⟩))))))
 all_goals exact⟨⟨_,rfl,fun h=>⟨IE (by simp only[decide_eq_true_eq] at h;omega) hC,by simp only[decide_eq_true_eq] at h;omega⟩⟩,rfl⟩
theorem eJ:∀(ds:List CH),(G1 ds)→F7 Tryz.prog 31 [.p (.lst (List.map Bh ds))] (fun v=>∃bb:Bool,v= .p (.bool bb)∧(bb=true→Gh ds∧ds.length≤70)):=by
 intro ds h1;refine A5 Tryz.func31 O sC (n:=15) O O (Au Ay 1 [] O (As (Aw (Bq O (Ds O O (CA O O (j0 ds h1) (.inl O)) ?_)))));rintro _ ⟨q,rfl,hq⟩;refine Ar Ay 1 [] O (Av O (fun c=>?_) (fun c=>?_))
 ·(try simp only[sd,se] at c);refine Au Ay 1 [] O (Az (⟨O,_,_,⟨_,_,O,O,O⟩,(List.nil_sublist _),?_⟩))
  all_goals exact⟨⟨_,rfl,fun h=>absurd h Am⟩,rfl⟩
 (try simp only[sd,se] at c);have hf:=hq (by simpa using c);refine A1 (Aw (Bq O (Ds O O (CA O O (X7 ds h1) (.inl O)) ?_)));rintro _ ⟨a,e,rfl,he⟩;refine Ar Ay 5 [] O (Au Ay 3 [] O (Az (⟨O,_,_,⟨_,_,O,O,O⟩,(List.nil_sublist _),?_⟩)))
 all_goals exact⟨⟨_,rfl,fun h=>⟨iD (he (by simpa using h)) hf.1,hf.2⟩⟩,rfl⟩
end Go.Proofs.YtboammbpdaoojaaGreat
namespace Go.Eu
open Go.Abs
def vT (i:Int):Tm:= .mk 0 i ⟨#[]⟩ [] []
def Nz (nm:ByteArray):Tm:= .mk 3 0 nm [] []
def K2:ByteArray:=⟨#[78,97,116]⟩
def kS:ByteArray:=⟨#[122,101,114,111]⟩
def Su:ByteArray:=⟨#[115,117,99,99]⟩
def Px:ByteArray:=⟨#[112,108,117,115]⟩
def Wu (b:Tm):Tm:=if (Cg 1 0 0 0 b).2≠0 then Bc else (Cg 1 0 0 0 b).1
def YF (a b:Tm):Tm:= .mk 6 0 ⟨#[]⟩ [] [a,Wu b]
def X5:CH:=⟨3,K2,0,.mk 2 0 ⟨#[]⟩ [⟨0,[]⟩] [],Bc,0,[⟨kS,Nz K2⟩,⟨Su,YF (Nz K2) (Nz K2)⟩],⟨0,Nz K2,[Nz K2,Nz K2]⟩,[]⟩
def SD:Es:= .mk 1 Bc 0 [.mk kS false (.mk 0 (vT 0) 0 []),.mk Su false (.mk 0 (apply (Nz Su) [apply (Nz Px) [vT 0,vT 1]]) 0 [])]
def Re:CH:=⟨4,⟨#[]⟩,0,Bc,Bc,0,[],⟨0,Bc,[]⟩,[⟨Px,YF (Nz K2) (YF (Nz K2) (Nz K2)),2,SD⟩]⟩
def Df:List CH:=[X5,Re]
theorem kf (nm:ByteArray) (h:nm.size<Dc):Nd (Nz nm):=by
 simp only[Nz,Nd,MJ,List.length_nil,Dc];simp only[Dc] at h;exact⟨h,by omega,by simp,by omega,trivial,by simp[Iz],by simp[Iz]⟩
theorem qp:Nd (YF (Nz K2) (Nz K2)):=by
 have h:Wu (Nz K2)=Nz K2:=by rfl
 have h1:=kf K2 Am;rw[YF,h];simp only[Nd,MJ,List.length_nil,List.length_cons,Dc];exact⟨by decide,by omega,by simp,by omega,⟨h1,h1,trivial⟩,by simp[Iz],by simp[Iz]⟩
end Go.Eu
namespace Go.Proofs.YtboammbpdaoojaaGreat
open Go.Abs Go.Eu
theorem IZ:∀(nm:ByteArray),EZ Tryz.prog 35 [.p (.str nm)] (.agg ((BO (.mk 3 0 nm [] [])).map .p)):=by
 intro nm;refine A5 Tryz.func35 O qd (n:=5) O O (Aw (BF O (A7 Bw O) fun b2=>Bg O (Au Ay 3 [0,0] O (BH (BR (i:=0) O) (Az (⟨O,_,_,⟨_,_,O,(A9 (i:=0) BY O O O),O⟩,(List.nil_sublist _),?_⟩))))))
 all_goals exact⟨rfl,rfl⟩
theorem cA:∀(i:Int),EZ Tryz.prog 68 [.p (I i)] (.agg ((BO (.mk 0 i ⟨#[]⟩ [] [])).map .p)):=by
 intro i;refine A5 Tryz.func68 O sH (n:=5) O O (Aw (BF O (A7 Bw O) fun b2=>Bg O (Au Ay 3 [0,0] O (BH (BR (i:=0) O) (Az (⟨O,_,_,⟨_,_,O,(A9 (i:=0) BY O O O),O⟩,(List.nil_sublist _),?_⟩))))))
 all_goals exact⟨rfl,rfl⟩
theorem KJ:∀(i:Int),EZ Tryz.prog 33 [.p (I i)] (.agg ((BO (.mk 0 i ⟨#[]⟩ [] [])).map .p)):=by
 intro i;refine A5 Tryz.func33 O sS (n:=5) O O (Aw (BF O (A7 Bw O) fun b2=>Bg O (Au Ay 3 [0,0] O (BH (BR (i:=0) O) (Az (⟨O,_,_,⟨_,_,O,(A9 (i:=0) BY O O O),O⟩,(List.nil_sublist _),?_⟩))))))
 all_goals exact⟨rfl,rfl⟩
theorem ZW:∀(t:Tm) (l:List Tm),(l.length<Dc)→EZ Tryz.prog 69 [.agg ((BO t).map .p),.p (.lst (BE l))] (.agg ((BO (apply t l)).map .p)):=by
 intro t l h1;refine A5 Tryz.func69 O rv (n:=8) O O (Aw (BF O (BN O) fun b2=>BF O (A7 Bw O) fun b4=>Bg O (Aw (Ax Ay 2 [1] O (Aq O (BC O O (GL t l h1) O) (Ar Ay 1 [0,1] O (Az (⟨O,_,_,⟨_,_,O,(A9 (i:=0) BY O O Ag),O⟩,(List.nil_sublist _),?_⟩))))))))
 all_goals exact⟨rfl,rfl⟩
theorem ZD:∀(t:Tm) (l:List Tm),(l.length<Dc)→EZ Tryz.prog 34 [.agg ((BO t).map .p),.p (.lst (BE l))] (.agg ((BO (apply t l)).map .p)):=by
 intro t l h1;refine A5 Tryz.func34 O rC (n:=8) O O (Aw (BF O (BN O) fun b2=>BF O (A7 Bw O) fun b4=>Bg O (Aw (Ax Ay 2 [1] O (Aq O (BC O O (GL t l h1) O) (Ar Ay 1 [0,1] O (Az (⟨O,_,_,⟨_,_,O,(A9 (i:=0) BY O O Ag),O⟩,(List.nil_sublist _),?_⟩))))))))
 all_goals exact⟨rfl,rfl⟩
theorem fU:∀(t:Tm) (by' fr:Int),(Nd t)→(size t<1000000)→(by'=1)→(fr=0)→EZ Tryz.prog 103 [.agg ((BO t).map .p),.p (I by'),.p (I fr)] (.tup [.agg ((BO (Wu t)).map .p),.p (I ((Cg 1 0 0 0 t).2))]):=by
 intro t by' fr h1 h2 h3 h4
 refine A5 Tryz.func103 O nY (n:=40) O O (Aw (BF O (BN O) fun b3=>BF O (A7 Bw O) fun b6=>Ar Ay 1 [] O (As (As (BS [1,2,3,6] 19 (fun y=>y= .p (.bool (((decide ((fr:Int)<(0:Int)))||(decide ((by':Int)<(-65536:Int))))||(decide ((by':Int) > (65536:Int)))))) ?_ ?_)))))
 ·refine A2 (Ax Ay 3 [] O (BL 12 O (fun g=>?_) (fun g=>?_)))
  ·(try simp only[sd,se] at g);exact Ar Ay 7 [] O (⟨O,O,AK,AI,⟨O,O,O,O,Ap⟩⟩)
  (try simp only[sd,se] at g);refine Ax Ay 4 [] O (BL 16 O (fun g1=>?_) (fun g1=>?_))
  ·(try simp only[sd,se] at g1);exact Ar Ay 3 [] O (⟨O,O,AK,AI,⟨O,O,O,O,Ap⟩⟩)
  (try simp only[sd,se] at g1);exact Ar Ay 3 [] O (⟨O,O,AK,AI,⟨O,O,O,O,Ap⟩⟩)
 rintro _ rfl;refine Av O (fun c=>?_) (fun c=>?_)
 ·(try simp only[sd,se] at c);refine Au Ay 3 [0,0] O (BH (BR (i:=0) O) (Az (⟨O,_,_,⟨_,_,O,(A9 (i:=0) BY O O O),⟨_,_,O,O,O⟩⟩,(List.nil_sublist _),?_⟩)))
  all_goals exact⟨by show (.tup [.agg [.p (I 0),.p (I 0),.p (.str ⟨#[]⟩),.p (.lst []),.p (.lst [])],.p (I 2)]:AV)=_;exfalso;omega,rfl⟩
 (try simp only[sd,se] at c);refine A1 (Aw (Aq O (CP gE eK O) (BF O (BN O) fun b22=>Ar Ay 1 [] O (Aw (Ax Ay 4 [2] O (Aq O (Y2 O O) (Aq O (B9 [0] O (.inl ⟨O,O,O⟩) (ZR _ t b22 by' (min (fr:Int) (65536:Int)) 0 0 0 (Nat.le_refl _) h1 An An) ⟨_,_,rfl,rfl,rfl⟩ Am rfl (.inl rfl)) (BF O (A7 Bw O) fun b9=>Ar Ay 1 [0,1] O (As (Au Ay 5 [1] O (Av O (fun c1=>?_) (fun c1=>?_))))))))))))
 ·(try simp only[sd,se] at c1);refine As (Bt (fun k=>false) Dn (Bj Ay 7 [1,2,0] O (BH (BR (i:=2) O) (Az (⟨O,_,_,⟨_,_,O,(A9 (i:=2) BY O O O),⟨_,_,O,O,O⟩⟩,(List.nil_sublist _),?_⟩)))))
  all_goals exact⟨by show (.tup [.agg [.p (I 0),.p (I 0),.p (.str ⟨#[]⟩),.p (.lst []),.p (.lst [])],.p (I ((Cg by' (min (fr:Int) (65536:Int)) 0 0 t).2))]:AV)=_;subst h3 h4;have c2:(Cg 1 0 0 0 t).2≠0:=c1;rw[Wu,if_pos c2];rfl,rfl⟩
 (try simp only[sd,se] at c1);refine A1 (Au Ay 3 [0,2,1] O (Az (⟨O,_,_,⟨_,_,O,(A9 (i:=2) BY O O Ag),⟨_,_,O,O,O⟩⟩,(List.nil_sublist _),?_⟩)))
 all_goals exact⟨by show (.tup [.agg ((BO ((Cg by' (min (fr:Int) (65536:Int)) 0 0 t).1)).map .p),.p (I 0)]:AV)=_;subst h3 h4;have c2:(Cg 1 0 0 0 t).2=0:=c1;rw[Wu,if_neg (fun h=>h c2),c2];rfl,rfl⟩
theorem Xl:∀(a b:Tm),(Nd b)→(size b<1000000)→EZ Tryz.prog 70 [.agg ((BO a).map .p),.agg ((BO b).map .p)] (.agg ((BO (.mk 6 0 ⟨#[]⟩ [] [a,Wu b])).map .p)):=by
 intro a b h1 h2;refine A5 Tryz.func70 O si (n:=16) O O (Aw (BF O (BN O) fun b2=>BF O (BN O) fun b3=>BF O (A7 Bw O) fun b4=>Bg O (Aw (Aq O (BT (i:=1) BY O O Ag) (Aq O (BC O O (fU b 1 0 h1 h2 O O) O) (Ax Ay 3 [] O (BF O (A7 Bw O) fun b5=>Ar Ay 2 [0,1] O (Aw (Ax Ay 2 [3,0] O (Aq O (Bx (rows:=BE [a,(Wu b)]) Be Bw O O O O (CF (Bv _)) (FE _)) (Ar Ay 2 [1,0] O (BH (BR (i:=1) O) (Az (⟨O,_,_,⟨_,_,O,(A9 (i:=1) BY O O O),O⟩,(List.nil_sublist _),?_⟩))))))))))))))
 all_goals exact⟨rfl,rfl⟩
theorem lT (l:List IX):∀r∈l.map Gp,∀c∈r,c≠ .nils:=by
 intro r hr;obtain⟨t,_,rfl⟩:=List.mem_map.1 hr;intro c hc;simp only[Gp,List.mem_cons] at hc;rcases hc with rfl | hc
 ·simp
 exact tN _ c hc
set_option maxHeartbeats 4000000 in
theorem gf:EZ Tryz.prog 36 [] (.p (.lst (List.map Bh Df))):=by
 refine A5 Tryz.func36 O sq (n:=55) O O (Au Ay 1 [] O (Au Ay 1 [] O (Aw (Aq O (BC O O (IZ ⟨#[78,97,116]⟩) O) (BF O (A7 Bw O) fun b2=>Ar Ay 1 [0,1] O (Au Ay 1 [] O (As ?_)))))));refine UF [.val (.agg [.p (I 0),.p (.nils)]),.val (.p (.lst (List.map Bz ([(CV.mk 0 [])])))),.val (.agg [.p (I 2),.p (I 0),.p (.str ⟨#[]⟩),.p (.lst (List.map Bz ([(CV.mk 0 [])]))),.p (.nils)]),.val (.agg [.p (I 3),.p (I 0),.p (.str ⟨#[78,97,116]⟩),.p (.lst (List.map Bz [])),.p (.lst (BE []))]),.val (.agg [.p (.str ⟨#[122,101,114,111]⟩),.p (I 3),.p (I 0),.p (.str ⟨#[78,97,116]⟩),.p (.lst (List.map Bz [])),.p (.lst (BE []))]),.val (.agg [.p (I 3),.p (I 0),.p (.str ⟨#[78,97,116]⟩),.p (.lst (List.map Bz [])),.p (.lst (BE []))]),.val (.agg [.p (I 3),.p (I 0),.p (.str ⟨#[78,97,116]⟩),.p (.lst (List.map Bz [])),.p (.lst (BE []))]),.val (.agg [.p (I 6),.p (I 0),.p (.str ⟨#[]⟩),.p (.lst (List.map Bz [])),.p (.lst (BE ([(.mk 3 0 ⟨#[78,97,116]⟩ [] []:Tm),Wu (.mk 3 0 ⟨#[78,97,116]⟩ [] []:Tm)])))]),.val (.agg [.p (.str ⟨#[115,117,99,99]⟩),.p (I 6),.p (I 0),.p (.str ⟨#[]⟩),.p (.lst (List.map Bz [])),.p (.lst (BE ([(.mk 3 0 ⟨#[78,97,116]⟩ [] []:Tm),Wu (.mk 3 0 ⟨#[78,97,116]⟩ [] []:Tm)])))]),.val (.p (.lst (List.map Gp ([(IX.mk ⟨#[122,101,114,111]⟩ (.mk 3 0 ⟨#[78,97,116]⟩ [] []:Tm)),(IX.mk ⟨#[115,117,99,99]⟩ (.mk 6 0 ⟨#[]⟩ [] ([(.mk 3 0 ⟨#[78,97,116]⟩ [] []:Tm),Wu (.mk 3 0 ⟨#[78,97,116]⟩ [] []:Tm)]):Tm))])))),.val (.agg [.p (I 3),.p (.str ⟨#[78,97,116]⟩),.p (I 0),.p (I 2),.p (I 0),.p (.str ⟨#[]⟩),.p (.lst (List.map Bz ([(CV.mk 0 [])]))),.p (.nils),.p (I 0),.p (I 0),.p (.str ⟨#[]⟩),.p (.nils),.p (.nils),.p (I 0),.p (.lst (List.map Gp ([(IX.mk ⟨#[122,101,114,111]⟩ (.mk 3 0 ⟨#[78,97,116]⟩ [] []:Tm)),(IX.mk ⟨#[115,117,99,99]⟩ (.mk 6 0 ⟨#[]⟩ [] ([(.mk 3 0 ⟨#[78,97,116]⟩ [] []:Tm),Wu (.mk 3 0 ⟨#[78,97,116]⟩ [] []:Tm)]):Tm))]))),.p (I 0),.p (I 0),.p (I 0),.p (.str ⟨#[]⟩),.p (.nils),.p (.nils),.p (.nils),.p (.nils)]),.new [.p (I 0),.p (.str ⟨#[]⟩),.p (I 0),.p (I 0),.p (I 0),.p (.str ⟨#[]⟩),.p (.nils),.p (.nils),.p (I 0),.p (I 0),.p (.str ⟨#[]⟩),.p (.nils),.p (.nils),.p (I 0),.p (.nils),.p (I 0),.p (I 0),.p (I 0),.p (.str ⟨#[]⟩),.p (.nils),.p (.nils),.p (.nils),.p (.nils)]] Dn O Aj Aj ?_
 refine Dq O (fun Bs=>CP TO EK O) (Dq O (fun Bs=>Bl EX EK O O O O O) (Dq O (fun Bs=>CP HO Bw O) (Dq O (fun Bs=>BT (i:=Bs.length+0) BY O (CX O) Ag) (Dq O (fun Bs=>CP Ik Ye O) (Dq O (fun Bs=>BT (i:=Bs.length+0) BY O (CX O) O) (Dq O (fun Bs=>BT (i:=Bs.length+0) BY O (CX O) O) (Dq O (fun Bs=>BC O O (Xl (.mk 3 0 ⟨#[78,97,116]⟩ [] []:Tm) (.mk 3 0 ⟨#[78,97,116]⟩ [] []:Tm) (kf _ Am) (by simp[size,Ba])) O) (Dq O (fun Bs=>CP Ik Ye O) ?_))))))));refine Dq O (fun Bs=>Bx (rows:=List.map Gp ([(IX.mk ⟨#[122,101,114,111]⟩ (.mk 3 0 ⟨#[78,97,116]⟩ [] []:Tm)),(IX.mk ⟨#[115,117,99,99]⟩ (.mk 6 0 ⟨#[]⟩ [] ([(.mk 3 0 ⟨#[78,97,116]⟩ [] []:Tm),Wu (.mk 3 0 ⟨#[78,97,116]⟩ [] []:Tm)]):Tm))])) HN Ye O O O O (CF (a8 _)) (lT _)) (Dq O (fun Bs=>CP Cz JP O) (X4 O (fun Bs=>A7 JP O) fun b4=>YK ?_))
 change AL _ _ _ 12 ⟨55,_,[.box b4 [.p (I 0),.p (.str ⟨#[]⟩),.p (I 0),.p (I 0),.p (I 0),.p (.str ⟨#[]⟩),.p (.nils),.p (.nils),.p (I 0),.p (I 0),.p (.str ⟨#[]⟩),.p (.nils),.p (.nils),.p (I 0),.p (.nils),.p (I 0),.p (I 0),.p (I 0),.p (.str ⟨#[]⟩),.p (.nils),.p (.nils),.p (.nils),.p (.nils)],.box b2 [.p (I 3),.p (I 0),.p (.str ⟨#[78,97,116]⟩),.p (.lst (List.map Bz [])),.p (.lst (BE []))]],[]⟩ _
 refine Ar Ay 1 [0,0] O (Aw (Ax Ay 3 [1,1,1] O (Aq O (Bx (rows:=BE ([(.mk 3 0 ⟨#[78,97,116]⟩ [] []:Tm),(.mk 3 0 ⟨#[78,97,116]⟩ [] []:Tm)])) Be Bw O O O O (CF (Bv _)) (FE _)) (Ar Ay 3 [0,0] O (Aw (Bq O (Aq O (BC O O (cA 0) O) (Ax Ay 3 [] O (Aq O (BC O O (IZ ⟨#[115,117,99,99]⟩) O) (Bq O (Aq O (BC O O (IZ ⟨#[112,108,117,115]⟩) O) (Bq O (Aq O (BC O O (cA 0) O) (Bq O (Aq O (BC O O (cA 1) O) (Aq O (Bx (rows:=BE ([(.mk 0 0 ⟨#[]⟩ [] []),(.mk 0 1 ⟨#[]⟩ [] [])])) Be Bw O O O O (CF (Bv _)) (FE _)) (Aq O (BC O O (ZW (.mk 3 0 ⟨#[112,108,117,115]⟩ [] []) ([(.mk 0 0 ⟨#[]⟩ [] []),(.mk 0 1 ⟨#[]⟩ [] [])]) (by simp[Dc])) O) ?_)))))))))))))))));refine Aq O (Bx (rows:=BE ([(apply (.mk 3 0 ⟨#[112,108,117,115]⟩ [] []) ([(.mk 0 0 ⟨#[]⟩ [] []),(.mk 0 1 ⟨#[]⟩ [] [])]))])) Be Bw O O O O (CF (Bv _)) (FE _)) (Aq O (BC O O (ZW (.mk 3 0 ⟨#[115,117,99,99]⟩ [] []) ([(apply (.mk 3 0 ⟨#[112,108,117,115]⟩ [] []) ([(.mk 0 0 ⟨#[]⟩ [] []),(.mk 0 1 ⟨#[]⟩ [] [])]))]) (by simp[Dc])) O) ?_);generalize hz:apply (.mk 3 0 ⟨#[115,117,99,99]⟩ [] []) ([(apply (.mk 3 0 ⟨#[112,108,117,115]⟩ [] []) ([(.mk 0 0 ⟨#[]⟩ [] []),(.mk 0 1 ⟨#[]⟩ [] [])]))])=z;obtain⟨zk,zi,zn,zl,zs⟩:=z;refine Ax Ay 2 [] O (Aq O (Bl Jd ZS O O O O O) (Aq O (CP FF Wk O) (BF O (A7 Wk O) fun b5=>Ar Ay 1 [0,0] O (As (Bt (fun k=>false) Dn (BP Ay 4 [1,2,2,2] O (BG O (fun _=>BC O O (Xl (.mk 3 0 ⟨#[78,97,116]⟩ [] []:Tm) (.mk 3 0 ⟨#[78,97,116]⟩ [] []:Tm) (kf _ Am) (by simp[size,Ba])) O) Ap (BG O (fun _=>BC O O (Xl (.mk 3 0 ⟨#[78,97,116]⟩ [] []:Tm) (.mk 6 0 ⟨#[]⟩ [] [(.mk 3 0 ⟨#[78,97,116]⟩ [] []:Tm),Wu (.mk 3 0 ⟨#[78,97,116]⟩ [] []:Tm)]) qp Am) O) Ap (BP Ay 2 [0] O (BG O (fun _=>Bl GB Vx O O O O O) Ap (BG O (fun _=>CP Cz JP O) Ap (BG O (fun _=>Bl HT JP O O O O O) Ap (Bj Ay 1 [] O (Az (⟨O,_,_,⟨_,_,O,O,O⟩,(List.nil_sublist _),?_⟩)))))))))))))))
 all_goals exact⟨by show (.p (.lst (List.map Bh ([(CH.mk 3 ⟨#[78,97,116]⟩ 0 (.mk 2 0 ⟨#[]⟩ ([(CV.mk 0 [])]) []:Tm) (.mk 0 0 ⟨#[]⟩ [] []:Tm) 0 ([(IX.mk ⟨#[122,101,114,111]⟩ (.mk 3 0 ⟨#[78,97,116]⟩ [] []:Tm)),(IX.mk ⟨#[115,117,99,99]⟩ (.mk 6 0 ⟨#[]⟩ [] ([(.mk 3 0 ⟨#[78,97,116]⟩ [] []:Tm),Wu (.mk 3 0 ⟨#[78,97,116]⟩ [] []:Tm)]):Tm))]) (gJ.mk 0 (.mk 3 0 ⟨#[78,97,116]⟩ [] []:Tm) ([(.mk 3 0 ⟨#[78,97,116]⟩ [] []:Tm),(.mk 3 0 ⟨#[78,97,116]⟩ [] []:Tm)])) []),(CH.mk 4 ⟨#[]⟩ 0 (.mk 0 0 ⟨#[]⟩ [] []:Tm) (.mk 0 0 ⟨#[]⟩ [] []:Tm) 0 [] (gJ.mk 0 (.mk 0 0 ⟨#[]⟩ [] []:Tm) []) ([(G7.mk ⟨#[112,108,117,115]⟩ (.mk 6 0 ⟨#[]⟩ [] ([(.mk 3 0 ⟨#[78,97,116]⟩ [] []:Tm),Wu (.mk 6 0 ⟨#[]⟩ [] [(.mk 3 0 ⟨#[78,97,116]⟩ [] []:Tm),Wu (.mk 3 0 ⟨#[78,97,116]⟩ [] []:Tm)])]):Tm) 2 (Es.mk 1 (.mk 0 0 ⟨#[]⟩ [] []:Tm) 0 ([(GQ.mk ⟨#[122,101,114,111]⟩ false (Es.mk 0 (.mk 0 0 ⟨#[]⟩ [] []:Tm) 0 [])),(GQ.mk ⟨#[115,117,99,99]⟩ false (Es.mk 0 (.mk zk zi zn zl zs:Tm) 0 []))])))]))]))):AV)=_;rw[←hz];rfl,rfl⟩
end Go.Proofs.YtboammbpdaoojaaGreat
namespace Go.Eu
open Go.Abs
theorem H5 {t:Tm}(h:okB t=true) (hs:size t<1000000):UW t:=⟨(CM.1 h).nd,hs⟩
theorem YZ:Ns X5 where
 nm:=by decide
 ty:=H5 rfl Am
 vl:=H5 rfl Am
 cl:=by decide
 cs:=by
  intro c hc;simp only[X5,List.mem_cons,List.not_mem_nil,or_false] at hc;rcases hc with rfl | rfl
  ·exact⟨by decide,H5 rfl Am⟩
  exact⟨by decide,H5 rfl Am⟩
 rt:=H5 rfl Am
 rl:=by decide
 rs:=by
  intro c hc;simp only[X5,List.mem_cons,List.not_mem_nil,or_false] at hc;rcases hc with rfl | rfl<;>exact H5 rfl Am
 fl:=by decide
 fs:=by intro c hc;cases hc
theorem Zh:HS SD:=⟨H5 rfl Am,by decide,⟨by decide,H5 rfl Am,by decide,trivial⟩,⟨by decide,H5 rfl Am,by decide,trivial⟩,trivial⟩
theorem V2:Ns Re where
 nm:=by decide
 ty:=H5 rfl Am
 vl:=H5 rfl Am
 cl:=by decide
 cs:=by intro c hc;cases hc
 rt:=H5 rfl Am
 rl:=by decide
 rs:=by intro c hc;cases hc
 fl:=by decide
 fs:=by
  intro c hc;simp only[Re,List.mem_cons,List.not_mem_nil,or_false] at hc;subst hc;exact⟨by decide,H5 rfl Am,Zh⟩
theorem KP:Gh Df:=by
 have h0:∀d∈Df,d=X5∨d=Re:=fun d hd=>by simpa [Df] using hd
 refine⟨⟨⟨by decide,fun d hd=>?_⟩,fun d hd=>?_⟩,fun d hd=>?_,fun d hd=>?_,fun d hd=>?_⟩
 ·rcases h0 d hd with rfl | rfl
  ·exact YZ
  exact V2
 ·rcases h0 d hd with rfl | rfl
  ·exact⟨YZ,by decide,rfl,by intro t ht;simp only[X5,List.mem_cons,List.not_mem_nil,or_false] at ht;rcases ht with rfl | rfl<;>rfl,by intro f hf;cases hf⟩
  refine⟨V2,by decide,rfl,(by intro t ht;cases ht),?_⟩;intro f hf;simp only[Re,List.mem_cons,List.not_mem_nil,or_false] at hf;subst hf;exact⟨by decide,by decide,rfl,⟨rfl,trivial⟩,⟨rfl,trivial⟩,trivial⟩
 ·rcases h0 d hd with rfl | rfl<;>decide
 ·rcases h0 d hd with rfl | rfl
  ·intro t ht;simp only[X5,List.mem_cons,List.not_mem_nil,or_false] at ht;rcases ht with rfl | rfl<;>decide
  intro t ht;cases ht
 rcases h0 d hd with rfl | rfl
 ·intro f hf;cases hf
 intro f hf;simp only[Re,List.mem_cons,List.not_mem_nil,or_false] at hf;subst hf;decide
def ap (f x:Tm):Tm:= .mk 4 0 ⟨#[]⟩ [] [f,x]
def s5:Tm:= .mk 5 0 ⟨#[]⟩ [] [Nz K2,vT 0]
def sb:Tm:=ap (ap (Nz Px) (ap (Nz Su) (vT 3))) (vT 4)
def Lf:Tm:=ap (Nz Su) (ap (ap (Nz Px) (vT 3)) (vT 4))
def SV:Tm:=ap (ap (Nz Px) (ap s5 (vT 3))) (vT 4)
def Of:Tm:=ap (ap (Nz Px) (vT 3)) (vT 4)
def rL:Tm:= .mk 9 0 ⟨#[]⟩ [] [ap s5 (vT 2)]
def PQ:Tm:= .mk 9 0 ⟨#[]⟩ [] [vT 2]
def M7:Tm:=ap (.mk 12 0 ⟨#[]⟩ [] []) (vT 0)
def mS:Tm:=ap (ap (Nz Px) M7) (vT 1)
def mT:Tm:=ap (Nz Su) M7
theorem nt:EA Df B1 20 20000 sb= .ok (Lf,19999):=rfl
theorem ph:EA Df B1 20 20000 SV= .ok (SV,19999):=rfl
theorem mM:E9 Df B1 20 20000 SV= .ok (some Of,19999):=rfl
theorem p4:EA Df B1 20 20000 rL= .ok (PQ,19999):=rfl
theorem lb (n:Nat) (s:Int):IU Df B1 (n+2) s M7= .ok (some 0,s):=by
 rw[Ue,show EA Df B1 (n+1) s M7= .ok (M7,s) from rfl];show Jc Df B1 (n+1) (M7,s)=_;rw[S7 rfl];rfl
theorem pS:IU Df B1 20 20000 mS= .ok (some 0,20000):=by
 rw[Ue,show EA Df B1 19 20000 mS= .ok (mS,20000) from rfl];show Jc Df B1 19 (mS,20000)=_;rw[Vg (f:=⟨Px,YF (Nz K2) (YF (Nz K2) (Nz K2)),2,SD⟩) (d:=Re) rfl rfl rfl rfl rfl rfl Am];show (Dp Df B1 (EA Df B1 19) 19 SD [M7,vT 1] Bc 20000).bind (Wr Df B1 19)=_;rw[show Dp Df B1 (EA Df B1 19) 19 SD [M7,vT 1] Bc 20000= .ok ((none,M7),20000) from rfl];show Wr Df B1 19 ((none,M7),20000)=_;rw[Y8 rfl rfl (Hu (by intro h;cases h))];exact lb 17 20000
theorem nS:IU Df B1 20 20000 mT= .ok (none,20000):=by
 rw[Ue,show EA Df B1 19 20000 mT= .ok (mT,20000) from rfl];show Jc Df B1 19 (mT,20000)=_;rw[Rl rfl rfl rfl Am Am]
theorem Yg:Nd Lf∧Nd SV∧Nd Of∧Nd PQ:=⟨(CM.1 (show okB Lf=true from rfl)).nd,(CM.1 (show okB SV=true from rfl)).nd,(CM.1 (show okB Of=true from rfl)).nd,(CM.1 (show okB PQ=true from rfl)).nd⟩
end Go.Eu
namespace Go.Proofs.YtboammbpdaoojaaGreat
open Go.Abs Go.Eu
theorem Tk (f x:Tm):EZ Tryz.prog 34 [TV f,mU [x]] (TV (.mk 4 0 ⟨#[]⟩ [] [f,x])):=ZD f [x] (by simp[Dc])
theorem VS (f x y:Tm):EZ Tryz.prog 34 [TV f,mU [x,y]] (TV (.mk 4 0 ⟨#[]⟩ [] [(.mk 4 0 ⟨#[]⟩ [] [f,x]:Tm),y])):=ZD f [x,y] (by simp[Dc])
theorem nV:EZ Tryz.prog 12 [.p (.lst (List.map Bh Df)),TV sb] (.tup [TV Lf,.p (I 0)]):=by
 have h:=UN Df 20 sb KP (by rw[nt];simp);rw[nt] at h;exact h
theorem pC:EZ Tryz.prog 12 [.p (.lst (List.map Bh Df)),TV SV] (.tup [TV SV,.p (I 0)]):=by
 have h:=UN Df 20 SV KP (by rw[ph];simp);rw[ph] at h;exact h
theorem m5:EZ Tryz.prog 16 [.p (.lst (List.map Bh Df)),TV SV] (.tup [TV Of,.p (.bool true),.p (I 0)]):=by
 have h:=iP Df 20 SV KP (by rw[mM];simp) (by rw[mM];intro q c e;cases e;rfl);rw[mM] at h;exact h
theorem pj:EZ Tryz.prog 12 [.p (.lst (List.map Bh Df)),TV rL] (.tup [TV PQ,.p (I 0)]):=by
 have h:=UN Df 20 rL KP (by rw[p4];simp);rw[p4] at h;exact h
theorem nL:EZ Tryz.prog 18 [.p (.lst (List.map Bh Df)),TV mS] (.tup [.p (I 0),.p (.bool true),.p (I 0)]):=by
 have h:=bq Df 20 mS KP (by rw[pS];simp);rw[pS] at h;exact h
theorem mu:EZ Tryz.prog 18 [.p (.lst (List.map Bh Df)),TV mT] (.tup [.p (I 0),.p (.bool false),.p (I 0)]):=by
 have h:=bq Df 20 mT KP (by rw[nS];simp);rw[nS] at h;exact h
theorem jK:EZ Tryz.prog 15 [TV Lf,TV Lf] (.p (.bool true)):=by
 have h:=NI 1000 Lf Lf Am Yg.1;rw[GC rfl] at h;exact h
theorem ga:EZ Tryz.prog 15 [TV SV,TV SV] (.p (.bool true)):=by
 have h:=NI 1000 SV SV Am Yg.2.1;rw[GC rfl] at h;exact h
theorem iO:EZ Tryz.prog 15 [TV Of,TV Of] (.p (.bool true)):=by
 have h:=NI 1000 Of Of Am Yg.2.2.1;rw[GC rfl] at h;exact h
theorem ia:EZ Tryz.prog 15 [TV PQ,TV PQ] (.p (.bool true)):=by
 have h:=NI 1000 PQ PQ Am Yg.2.2.2;rw[GC rfl] at h;exact h
set_option maxHeartbeats 4000000 in
theorem JD:EZ Tryz.prog 11 [] (.p (.bool true)):=by
 refine A5 Tryz.func11 O rI (n:=188) O O (As (HG (M:=⟨188,mk [],[],[]⟩) (D8 Ap (List.Sublist.refl _)) (A2 (Ar Ay 1 [] O (As (HG (M:=⟨188,mk [],[],[]⟩) (D8 Ap (List.Sublist.refl _)) (A2 (Ar Ay 1 [] O (As (HG (M:=⟨188,mk [(1,.p (.fn 33))],[],[]⟩) (D8 ⟨O,Ap⟩ (List.Sublist.refl _)) (A2 (Ar Ay 1 [] O (As (HG (M:=⟨188,mk [(1,.p (.fn 33)),(2,.p (.fn 34))],[],[]⟩) (D8 ⟨O,O,Ap⟩ (List.Sublist.refl _)) (A2 (Aq O (BC O O (IZ ⟨#[78,97,116]⟩) O) (Bq O (Aq O (BC O O (KJ 0) O) (Aq O (Bx (rows:=BE ([(.mk 3 0 ⟨#[78,97,116]⟩ [] []),(.mk 0 0 ⟨#[]⟩ [] [])])) Be Bw O O O O (CF (Bv _)) (FE _)) (Aq O (CP HO Bw O) (BF O (A7 Bw O) fun b3=>Ar Ay 1 [0,0] O ?_)))))))))))))))))))));refine As (HG (M:=⟨188,mk [(1,.p (.fn 33)),(2,.p (.fn 34)),(3,.ptr b3 0)],[.box b3 [.p (I 5),.p (I 0),.p (.str ⟨#[]⟩),.p (.nils),.p (.lst (BE ([(.mk 3 0 ⟨#[78,97,116]⟩ [] []),(.mk 0 0 ⟨#[]⟩ [] [])])))]],[]⟩) (D8 ⟨O,O,O,Ap⟩ (List.Sublist.refl _)) (A2 (Aq O (BC O O (gf ) O) (Ar Ay 1 [] O (As (HG (M:=⟨188,mk [(1,.p (.fn 33)),(2,.p (.fn 34)),(3,.ptr b3 0),(4,.p (.lst (List.map Bh Df)))],[.box b3 [.p (I 5),.p (I 0),.p (.str ⟨#[]⟩),.p (.nils),.p (.lst (BE ([(.mk 3 0 ⟨#[78,97,116]⟩ [] []),(.mk 0 0 ⟨#[]⟩ [] [])])))]],[]⟩) (D8 ⟨O,O,O,O,Ap⟩ (List.Sublist.refl _)) (A2 (Ax Ay 2 [] O (Aq O (BC O O (IZ ⟨#[112,108,117,115]⟩) O) (Bq O (Aq O (BC O O (IZ ⟨#[115,117,99,99]⟩) O) (Bq O (Aq O (BC O O (KJ 3) O) ?_)))))))))))));refine Aq O (Bx (rows:=BE ([(.mk 0 3 ⟨#[]⟩ [] [])])) Be Bw O O O O (CF (Bv _)) (FE _)) (Aq O (BC O O (Tk (.mk 3 0 ⟨#[115,117,99,99]⟩ [] []) (.mk 0 3 ⟨#[]⟩ [] []:Tm)) O) (Bq O (Aq O (BC O O (KJ 4) O) (Aq O (Bx (rows:=BE ([(.mk 4 0 ⟨#[]⟩ [] [(.mk 3 0 ⟨#[115,117,99,99]⟩ [] []),(.mk 0 3 ⟨#[]⟩ [] []:Tm)]),(.mk 0 4 ⟨#[]⟩ [] [])])) Be Bw O O O O (CF (Bv _)) (FE _)) (Aq O (BC O O (VS (.mk 3 0 ⟨#[112,108,117,115]⟩ [] []) (.mk 4 0 ⟨#[]⟩ [] [(.mk 3 0 ⟨#[115,117,99,99]⟩ [] []:Tm),(.mk 0 3 ⟨#[]⟩ [] []:Tm)]:Tm) (.mk 0 4 ⟨#[]⟩ [] []:Tm)) O) (Aq O (BC O O (nV ) O) (Ax Ay 3 [] O (BF O (A7 Bw O) fun b5=>Ar Ay 2 [0,1] O (As ?_)))))))))
 refine HG (M:=⟨188,mk [(1,.p (.fn 33)),(2,.p (.fn 34)),(3,.ptr b3 0),(4,.p (.lst (List.map Bh Df))),(5,.ptr b5 0),(6,.p (I 0))],[.box b5 ((BO Lf).map .p),.box b3 [.p (I 5),.p (I 0),.p (.str ⟨#[]⟩),.p (.nils),.p (.lst (BE ([(.mk 3 0 ⟨#[78,97,116]⟩ [] []),(.mk 0 0 ⟨#[]⟩ [] [])])))]],[]⟩) (D8 ⟨O,O,O,O,O,O,Ap⟩ (List.Sublist.refl _)) ?_;refine UF [.val (.p (.fn 34)),.val (.agg ((BO (.mk 3 0 ⟨#[112,108,117,115]⟩ [] [])).map .p)),.val (.p (.fn 34)),.val (.agg [.p (I 5),.p (I 0),.p (.str ⟨#[]⟩),.p (.nils),.p (.lst (BE ([(.mk 3 0 ⟨#[78,97,116]⟩ [] []),(.mk 0 0 ⟨#[]⟩ [] [])])))]),.val (.p (.fn 33)),.val (.agg ((BO (.mk 0 3 ⟨#[]⟩ [] [])).map .p)),.val (.p (.lst (BE ([(.mk 0 3 ⟨#[]⟩ [] [])])))),.val (.agg ((BO (.mk 4 0 ⟨#[]⟩ [] [(.mk 5 0 ⟨#[]⟩ [] ([(.mk 3 0 ⟨#[78,97,116]⟩ [] []),(.mk 0 0 ⟨#[]⟩ [] [])]):Tm),(.mk 0 3 ⟨#[]⟩ [] []:Tm)])).map .p)),.val (.p (.fn 33)),.val (.agg ((BO (.mk 0 4 ⟨#[]⟩ [] [])).map .p)),.val (.p (.lst (BE ([(.mk 4 0 ⟨#[]⟩ [] [(.mk 5 0 ⟨#[]⟩ [] ([(.mk 3 0 ⟨#[78,97,116]⟩ [] []),(.mk 0 0 ⟨#[]⟩ [] [])]):Tm),(.mk 0 3 ⟨#[]⟩ [] []:Tm)]),(.mk 0 4 ⟨#[]⟩ [] [])])))),.val (.agg ((BO (.mk 4 0 ⟨#[]⟩ [] [(.mk 4 0 ⟨#[]⟩ [] [(.mk 3 0 ⟨#[112,108,117,115]⟩ [] []),(.mk 4 0 ⟨#[]⟩ [] [(.mk 5 0 ⟨#[]⟩ [] [(.mk 3 0 ⟨#[78,97,116]⟩ [] []:Tm),(.mk 0 0 ⟨#[]⟩ [] []:Tm)]:Tm),(.mk 0 3 ⟨#[]⟩ [] []:Tm)]:Tm)]:Tm),(.mk 0 4 ⟨#[]⟩ [] []:Tm)])).map .p)),.new [.p (I 0),.p (I 0),.p (.str ⟨#[]⟩),.p (.nils),.p (.nils)]] Dn O Aj Aj ?_;refine Dq O (fun Bs=>BZ O) (Dq O (fun Bs=>BC O O (IZ ⟨#[112,108,117,115]⟩) O) (Dq O (fun Bs=>BZ O) (Dq O (fun Bs=>BT (i:=Bs.length+1) BY O (CX O) O) (Dq O (fun Bs=>BZ O) (Dq O (fun Bs=>BC O O (KJ 3) O) (Dq O (fun Bs=>Bx (rows:=BE ([(.mk 0 3 ⟨#[]⟩ [] [])])) Be Bw O O O O (CF (Bv _)) (FE _)) (Dq O (fun Bs=>Gw O O (Tk (.mk 5 0 ⟨#[]⟩ [] ([(.mk 3 0 ⟨#[78,97,116]⟩ [] []),(.mk 0 0 ⟨#[]⟩ [] [])]):Tm) (.mk 0 3 ⟨#[]⟩ [] []:Tm)) (aw (Dt O) (aw (we O) (Eo)))) (Dq O (fun Bs=>BZ O) (Dq O (fun Bs=>BC O O (KJ 4) O) ?_)))))))))
 refine Dq O (fun Bs=>Bx (rows:=BE ([(.mk 4 0 ⟨#[]⟩ [] [(.mk 5 0 ⟨#[]⟩ [] ([(.mk 3 0 ⟨#[78,97,116]⟩ [] []),(.mk 0 0 ⟨#[]⟩ [] [])]):Tm),(.mk 0 3 ⟨#[]⟩ [] []:Tm)]),(.mk 0 4 ⟨#[]⟩ [] [])])) Be Bw O O O O (CF (Bv _)) (FE _)) (Dq O (fun Bs=>BC O O (VS (.mk 3 0 ⟨#[112,108,117,115]⟩ [] []) (.mk 4 0 ⟨#[]⟩ [] [(.mk 5 0 ⟨#[]⟩ [] [(.mk 3 0 ⟨#[78,97,116]⟩ [] []:Tm),(.mk 0 0 ⟨#[]⟩ [] []:Tm)]:Tm),(.mk 0 3 ⟨#[]⟩ [] []:Tm)]:Tm) (.mk 0 4 ⟨#[]⟩ [] []:Tm)) O) (X4 O (fun Bs=>A7 Bw O) fun b7=>YK ?_))
 change AL _ _ _ 13 ⟨188,_,[.box b7 [.p (I 0),.p (I 0),.p (.str ⟨#[]⟩),.p (.nils),.p (.nils)],.box b5 ((BO Lf).map .p),.box b3 [.p (I 5),.p (I 0),.p (.str ⟨#[]⟩),.p (.nils),.p (.lst (BE ([(.mk 3 0 ⟨#[78,97,116]⟩ [] []),(.mk 0 0 ⟨#[]⟩ [] [])])))]],[]⟩ _
 refine Ar Ay 1 [0,1] O (As (HG (M:=⟨188,mk [(1,.p (.fn 33)),(2,.p (.fn 34)),(3,.ptr b3 0),(4,.p (.lst (List.map Bh Df))),(5,.ptr b5 0),(6,.p (I 0)),(7,.ptr b7 0)],[.box b7 ((BO (.mk 4 0 ⟨#[]⟩ [] [(.mk 4 0 ⟨#[]⟩ [] [(.mk 3 0 ⟨#[112,108,117,115]⟩ [] []),(.mk 4 0 ⟨#[]⟩ [] [(.mk 5 0 ⟨#[]⟩ [] [(.mk 3 0 ⟨#[78,97,116]⟩ [] []:Tm),(.mk 0 0 ⟨#[]⟩ [] []:Tm)]:Tm),(.mk 0 3 ⟨#[]⟩ [] []:Tm)]:Tm)]:Tm),(.mk 0 4 ⟨#[]⟩ [] []:Tm)])).map .p),.box b5 ((BO Lf).map .p),.box b3 [.p (I 5),.p (I 0),.p (.str ⟨#[]⟩),.p (.nils),.p (.lst (BE ([(.mk 3 0 ⟨#[78,97,116]⟩ [] []),(.mk 0 0 ⟨#[]⟩ [] [])])))]],[]⟩) (D8 ⟨O,O,O,O,O,O,O,Ap⟩ (List.Sublist.refl _)) (A2 (Ax Ay 2 [0] O (Aq O (BC O O (pC ) O) (Ax Ay 3 [] O (BF O (A7 Bw O) fun b8=>Ar Ay 2 [0,1] O (As ?_))))))));refine HG (M:=⟨188,mk [(1,.p (.fn 33)),(2,.p (.fn 34)),(3,.ptr b3 0),(4,.p (.lst (List.map Bh Df))),(5,.ptr b5 0),(6,.p (I 0)),(7,.ptr b7 0),(8,.ptr b8 0),(9,.p (I 0))],[.box b8 ((BO SV).map .p),.box b7 ((BO (.mk 4 0 ⟨#[]⟩ [] [(.mk 4 0 ⟨#[]⟩ [] [(.mk 3 0 ⟨#[112,108,117,115]⟩ [] []),(.mk 4 0 ⟨#[]⟩ [] [(.mk 5 0 ⟨#[]⟩ [] [(.mk 3 0 ⟨#[78,97,116]⟩ [] []:Tm),(.mk 0 0 ⟨#[]⟩ [] []:Tm)]:Tm),(.mk 0 3 ⟨#[]⟩ [] []:Tm)]:Tm)]:Tm),(.mk 0 4 ⟨#[]⟩ [] []:Tm)])).map .p),.box b5 ((BO Lf).map .p),.box b3 [.p (I 5),.p (I 0),.p (.str ⟨#[]⟩),.p (.nils),.p (.lst (BE ([(.mk 3 0 ⟨#[78,97,116]⟩ [] []),(.mk 0 0 ⟨#[]⟩ [] [])])))]],[]⟩) (D8 ⟨O,O,O,O,O,O,O,O,O,Ap⟩ (List.Sublist.refl _)) (A2 (Ax Ay 2 [1] O (Aq O (BC O O (m5 ) O) (Ax Ay 4 [] O (BF O (A7 Bw O) fun b10=>?_)))))
 refine Ar Ay 3 [0,1] O (As (HG (M:=⟨188,mk [(1,.p (.fn 33)),(2,.p (.fn 34)),(3,.ptr b3 0),(4,.p (.lst (List.map Bh Df))),(5,.ptr b5 0),(6,.p (I 0)),(7,.ptr b7 0),(8,.ptr b8 0),(9,.p (I 0)),(10,.ptr b10 0),(11,.p (.bool true)),(12,.p (I 0))],[.box b10 ((BO Of).map .p),.box b8 ((BO SV).map .p),.box b7 ((BO (.mk 4 0 ⟨#[]⟩ [] [(.mk 4 0 ⟨#[]⟩ [] [(.mk 3 0 ⟨#[112,108,117,115]⟩ [] []),(.mk 4 0 ⟨#[]⟩ [] [(.mk 5 0 ⟨#[]⟩ [] [(.mk 3 0 ⟨#[78,97,116]⟩ [] []:Tm),(.mk 0 0 ⟨#[]⟩ [] []:Tm)]:Tm),(.mk 0 3 ⟨#[]⟩ [] []:Tm)]:Tm)]:Tm),(.mk 0 4 ⟨#[]⟩ [] []:Tm)])).map .p),.box b5 ((BO Lf).map .p),.box b3 [.p (I 5),.p (I 0),.p (.str ⟨#[]⟩),.p (.nils),.p (.lst (BE ([(.mk 3 0 ⟨#[78,97,116]⟩ [] []),(.mk 0 0 ⟨#[]⟩ [] [])])))]],[]⟩) (D8 ⟨O,O,O,O,O,O,O,O,O,O,O,O,Ap⟩ (List.Sublist.refl _)) ?_));refine Bt (fun k=>Nat.beq k 13) Dn (BP Ay 4 [4] O (BG O (fun _=>BC O O (KJ 2) O) Ap (BG O (fun _=>Bx (rows:=BE ([(.mk 0 2 ⟨#[]⟩ [] [])])) Be Bw O O O O (CF (Bv _)) (FE _)) Ap (BG O (fun _=>Gw O O (Tk (.mk 5 0 ⟨#[]⟩ [] ([(.mk 3 0 ⟨#[78,97,116]⟩ [] []),(.mk 0 0 ⟨#[]⟩ [] [])]):Tm) (.mk 0 2 ⟨#[]⟩ [] []:Tm)) (aw (Dt O) (aw (we O) (Eo)))) Ap (BG O (fun _=>Bx (rows:=BE ([(.mk 4 0 ⟨#[]⟩ [] [(.mk 5 0 ⟨#[]⟩ [] ([(.mk 3 0 ⟨#[78,97,116]⟩ [] []),(.mk 0 0 ⟨#[]⟩ [] [])]):Tm),(.mk 0 2 ⟨#[]⟩ [] []:Tm)])])) Be Bw O O O O (CF (Bv _)) (FE _)) Ap (BG O (fun _=>CP HO Bw O) Ap (BG O (fun _=>Gw O O (pj ) (aw (we O) (aw (Dt O) (Eo)))) Ap (BP Ay 3 [] O (Gi [] O O (A7 Bw O) Aj fun b13=>⟨AB,Ap,?_⟩)))))))));refine Bj Ay 2 [0,1] O (As ?_)
 refine HG (M:=⟨188,mk [(1,.p (.fn 33)),(2,.p (.fn 34)),(4,.p (.lst (List.map Bh Df))),(5,.ptr b5 0),(6,.p (I 0)),(7,.ptr b7 0),(8,.ptr b8 0),(9,.p (I 0)),(10,.ptr b10 0),(11,.p (.bool true)),(12,.p (I 0)),(13,.ptr b13 0),(14,.p (I 0))],[.box b13 ((BO PQ).map .p),.box b10 ((BO Of).map .p),.box b8 ((BO SV).map .p),.box b7 ((BO (.mk 4 0 ⟨#[]⟩ [] [(.mk 4 0 ⟨#[]⟩ [] [(.mk 3 0 ⟨#[112,108,117,115]⟩ [] []),(.mk 4 0 ⟨#[]⟩ [] [(.mk 5 0 ⟨#[]⟩ [] [(.mk 3 0 ⟨#[78,97,116]⟩ [] []:Tm),(.mk 0 0 ⟨#[]⟩ [] []:Tm)]:Tm),(.mk 0 3 ⟨#[]⟩ [] []:Tm)]:Tm)]:Tm),(.mk 0 4 ⟨#[]⟩ [] []:Tm)])).map .p),.box b5 ((BO Lf).map .p),.box b3 [.p (I 5),.p (I 0),.p (.str ⟨#[]⟩),.p (.nils),.p (.lst (BE ([(.mk 3 0 ⟨#[78,97,116]⟩ [] []),(.mk 0 0 ⟨#[]⟩ [] [])])))]],[]⟩) (D8 ⟨O,O,O,O,O,O,O,O,O,O,O,O,O,Ap⟩ (List.Sublist.refl _)) ?_;refine A2 (Ax Ay 3 [] O (Aq O (BC O O (KJ 0) O) (Aq O (Bx (rows:=BE ([(.mk 0 0 ⟨#[]⟩ [] [])])) Be Bw O O O O (CF (Bv _)) (FE _)) (Aq O (Gw O O (Tk (.mk 12 0 ⟨#[]⟩ [] []:Tm) (.mk 0 0 ⟨#[]⟩ [] []:Tm)) (aw (Dt O) (aw (we O) (Eo)))) (BF O (A7 Bw O) fun b15=>Ar Ay 1 [0,1] O (As ?_))))));refine HG (M:=⟨188,mk [(1,.p (.fn 33)),(2,.p (.fn 34)),(4,.p (.lst (List.map Bh Df))),(5,.ptr b5 0),(6,.p (I 0)),(7,.ptr b7 0),(8,.ptr b8 0),(9,.p (I 0)),(10,.ptr b10 0),(11,.p (.bool true)),(12,.p (I 0)),(13,.ptr b13 0),(14,.p (I 0)),(15,.ptr b15 0)],[.box b15 ((BO (.mk 4 0 ⟨#[]⟩ [] [(.mk 12 0 ⟨#[]⟩ [] []:Tm),(.mk 0 0 ⟨#[]⟩ [] []:Tm)])).map .p),.box b13 ((BO PQ).map .p),.box b10 ((BO Of).map .p),.box b8 ((BO SV).map .p),.box b7 ((BO (.mk 4 0 ⟨#[]⟩ [] [(.mk 4 0 ⟨#[]⟩ [] [(.mk 3 0 ⟨#[112,108,117,115]⟩ [] []),(.mk 4 0 ⟨#[]⟩ [] [(.mk 5 0 ⟨#[]⟩ [] [(.mk 3 0 ⟨#[78,97,116]⟩ [] []:Tm),(.mk 0 0 ⟨#[]⟩ [] []:Tm)]:Tm),(.mk 0 3 ⟨#[]⟩ [] []:Tm)]:Tm)]:Tm),(.mk 0 4 ⟨#[]⟩ [] []:Tm)])).map .p),.box b5 ((BO Lf).map .p),.box b3 [.p (I 5),.p (I 0),.p (.str ⟨#[]⟩),.p (.nils),.p (.lst (BE ([(.mk 3 0 ⟨#[78,97,116]⟩ [] []),(.mk 0 0 ⟨#[]⟩ [] [])])))]],[]⟩) (D8 ⟨O,O,O,O,O,O,O,O,O,O,O,O,O,O,Ap⟩ (List.Sublist.refl _)) ?_
 refine Bt (fun k=>false) Dn (BP Ay 2 [] O (BG O (fun _=>BC O O (IZ ⟨#[112,108,117,115]⟩) O) Ap (BP Ay 2 [0] O (BG O (fun _=>BC O O (KJ 1) O) Ap (BG O (fun _=>Bx (rows:=BE ([(.mk 4 0 ⟨#[]⟩ [] [(.mk 12 0 ⟨#[]⟩ [] []:Tm),(.mk 0 0 ⟨#[]⟩ [] []:Tm)]),(.mk 0 1 ⟨#[]⟩ [] [])])) Be Bw O O O O (CF (Bv _)) (FE _)) Ap (BG O (fun _=>BC O O (VS (.mk 3 0 ⟨#[112,108,117,115]⟩ [] []) (.mk 4 0 ⟨#[]⟩ [] [(.mk 12 0 ⟨#[]⟩ [] []:Tm),(.mk 0 0 ⟨#[]⟩ [] []:Tm)]:Tm) (.mk 0 1 ⟨#[]⟩ [] []:Tm)) O) Ap (BG O (fun _=>BC O O (nL ) O) Ap (Bj Ay 7 [] O (As ?_)))))))));refine HG (M:=⟨188,mk [(1,.p (.fn 33)),(2,.p (.fn 34)),(4,.p (.lst (List.map Bh Df))),(5,.ptr b5 0),(6,.p (I 0)),(7,.ptr b7 0),(8,.ptr b8 0),(9,.p (I 0)),(10,.ptr b10 0),(11,.p (.bool true)),(12,.p (I 0)),(13,.ptr b13 0),(14,.p (I 0)),(15,.ptr b15 0),(16,.p (I 0)),(17,.p (.bool true)),(18,.p (I 0))],[.box b15 ((BO (.mk 4 0 ⟨#[]⟩ [] [(.mk 12 0 ⟨#[]⟩ [] []:Tm),(.mk 0 0 ⟨#[]⟩ [] []:Tm)])).map .p),.box b13 ((BO PQ).map .p),.box b10 ((BO Of).map .p),.box b8 ((BO SV).map .p),.box b7 ((BO (.mk 4 0 ⟨#[]⟩ [] [(.mk 4 0 ⟨#[]⟩ [] [(.mk 3 0 ⟨#[112,108,117,115]⟩ [] []),(.mk 4 0 ⟨#[]⟩ [] [(.mk 5 0 ⟨#[]⟩ [] [(.mk 3 0 ⟨#[78,97,116]⟩ [] []:Tm),(.mk 0 0 ⟨#[]⟩ [] []:Tm)]:Tm),(.mk 0 3 ⟨#[]⟩ [] []:Tm)]:Tm)]:Tm),(.mk 0 4 ⟨#[]⟩ [] []:Tm)])).map .p),.box b5 ((BO Lf).map .p),.box b3 [.p (I 5),.p (I 0),.p (.str ⟨#[]⟩),.p (.nils),.p (.lst (BE ([(.mk 3 0 ⟨#[78,97,116]⟩ [] []),(.mk 0 0 ⟨#[]⟩ [] [])])))]],[]⟩) (D8 ⟨O,O,O,O,O,O,O,O,O,O,O,O,O,O,O,O,O,Ap⟩ (List.Sublist.refl _)) ?_;refine Bt (fun k=>false) Dn (BP Ay 2 [] O (BG O (fun _=>BC O O (IZ ⟨#[115,117,99,99]⟩) O) Ap (BP Ay 1 [0] O (BG O (fun _=>Bx (rows:=BE ([(.mk 4 0 ⟨#[]⟩ [] [(.mk 12 0 ⟨#[]⟩ [] []:Tm),(.mk 0 0 ⟨#[]⟩ [] []:Tm)])])) Be Bw O O O O (CF (Bv _)) (FE _)) Ap (BG O (fun _=>BC O O (Tk (.mk 3 0 ⟨#[115,117,99,99]⟩ [] []) (.mk 4 0 ⟨#[]⟩ [] [(.mk 12 0 ⟨#[]⟩ [] []:Tm),(.mk 0 0 ⟨#[]⟩ [] []:Tm)]:Tm)) O) Ap (BG O (fun _=>BC O O (mu ) O) Ap (Bj Ay 7 [] O (As (As ?_)))))))))
 refine HG (M:=⟨188,mk [(1,.p (.fn 33)),(2,.p (.fn 34)),(5,.ptr b5 0),(6,.p (I 0)),(7,.ptr b7 0),(8,.ptr b8 0),(9,.p (I 0)),(10,.ptr b10 0),(11,.p (.bool true)),(12,.p (I 0)),(13,.ptr b13 0),(14,.p (I 0)),(16,.p (I 0)),(17,.p (.bool true)),(18,.p (I 0)),(20,.p (.bool false)),(21,.p (I 0))],[.box b15 ((BO (.mk 4 0 ⟨#[]⟩ [] [(.mk 12 0 ⟨#[]⟩ [] []:Tm),(.mk 0 0 ⟨#[]⟩ [] []:Tm)])).map .p),.box b13 ((BO PQ).map .p),.box b10 ((BO Of).map .p),.box b8 ((BO SV).map .p),.box b7 ((BO (.mk 4 0 ⟨#[]⟩ [] [(.mk 4 0 ⟨#[]⟩ [] [(.mk 3 0 ⟨#[112,108,117,115]⟩ [] []),(.mk 4 0 ⟨#[]⟩ [] [(.mk 5 0 ⟨#[]⟩ [] [(.mk 3 0 ⟨#[78,97,116]⟩ [] []:Tm),(.mk 0 0 ⟨#[]⟩ [] []:Tm)]:Tm),(.mk 0 3 ⟨#[]⟩ [] []:Tm)]:Tm)]:Tm),(.mk 0 4 ⟨#[]⟩ [] []:Tm)])).map .p),.box b5 ((BO Lf).map .p),.box b3 [.p (I 5),.p (I 0),.p (.str ⟨#[]⟩),.p (.nils),.p (.lst (BE ([(.mk 3 0 ⟨#[78,97,116]⟩ [] []),(.mk 0 0 ⟨#[]⟩ [] [])])))]],[]⟩) (D8 ⟨O,O,O,O,O,O,O,O,O,O,O,O,O,O,O,O,O,Ap⟩ (List.Sublist.refl _)) ?_;refine A2 (Ar Ay 22 [] O ?_);refine Av O (fun c=>by cases c) (fun c=>?_);refine A1 (As ?_);refine HG (M:=⟨188,mk [(1,.p (.fn 33)),(2,.p (.fn 34)),(5,.ptr b5 0),(7,.ptr b7 0),(8,.ptr b8 0),(10,.ptr b10 0),(11,.p (.bool true)),(13,.ptr b13 0),(16,.p (I 0)),(17,.p (.bool true)),(20,.p (.bool false))],[.box b15 ((BO (.mk 4 0 ⟨#[]⟩ [] [(.mk 12 0 ⟨#[]⟩ [] []:Tm),(.mk 0 0 ⟨#[]⟩ [] []:Tm)])).map .p),.box b13 ((BO PQ).map .p),.box b10 ((BO Of).map .p),.box b8 ((BO SV).map .p),.box b7 ((BO (.mk 4 0 ⟨#[]⟩ [] [(.mk 4 0 ⟨#[]⟩ [] [(.mk 3 0 ⟨#[112,108,117,115]⟩ [] []),(.mk 4 0 ⟨#[]⟩ [] [(.mk 5 0 ⟨#[]⟩ [] [(.mk 3 0 ⟨#[78,97,116]⟩ [] []:Tm),(.mk 0 0 ⟨#[]⟩ [] []:Tm)]:Tm),(.mk 0 3 ⟨#[]⟩ [] []:Tm)]:Tm)]:Tm),(.mk 0 4 ⟨#[]⟩ [] []:Tm)])).map .p),.box b5 ((BO Lf).map .p),.box b3 [.p (I 5),.p (I 0),.p (.str ⟨#[]⟩),.p (.nils),.p (.lst (BE ([(.mk 3 0 ⟨#[78,97,116]⟩ [] []),(.mk 0 0 ⟨#[]⟩ [] [])])))]],[]⟩) (D8 ⟨O,O,O,O,O,O,O,O,O,O,O,Ap⟩ (List.Sublist.refl _)) ?_
 refine Bt (fun k=>false) Dn (BP Ay 2 [5] O (BG O (fun _=>BC O O (IZ ⟨#[115,117,99,99]⟩) O) Ap (BG O (fun _=>BZ O) Ap (BG O (fun _=>BC O O (IZ ⟨#[112,108,117,115]⟩) O) Ap (BG O (fun _=>BZ O) Ap (BG O (fun _=>BC O O (KJ 3) O) Ap (BG O (fun _=>BZ O) Ap (BG O (fun _=>BC O O (KJ 4) O) Ap (BG O (fun _=>Bx (rows:=BE ([(.mk 0 3 ⟨#[]⟩ [] []),(.mk 0 4 ⟨#[]⟩ [] [])])) Be Bw O O O O (CF (Bv _)) (FE _)) Ap (BG O (fun _=>BC O O (VS (.mk 3 0 ⟨#[112,108,117,115]⟩ [] []) (.mk 0 3 ⟨#[]⟩ [] []:Tm) (.mk 0 4 ⟨#[]⟩ [] []:Tm)) O) Ap ?_))))))))));refine BG O (fun _=>Bx (rows:=BE ([(.mk 4 0 ⟨#[]⟩ [] [(.mk 4 0 ⟨#[]⟩ [] [(.mk 3 0 ⟨#[112,108,117,115]⟩ [] []),(.mk 0 3 ⟨#[]⟩ [] []:Tm)]:Tm),(.mk 0 4 ⟨#[]⟩ [] []:Tm)])])) Be Bw O O O O (CF (Bv _)) (FE _)) Ap (BG O (fun _=>BC O O (Tk (.mk 3 0 ⟨#[115,117,99,99]⟩ [] []) (.mk 4 0 ⟨#[]⟩ [] [(.mk 4 0 ⟨#[]⟩ [] [(.mk 3 0 ⟨#[112,108,117,115]⟩ [] []:Tm),(.mk 0 3 ⟨#[]⟩ [] []:Tm)]:Tm),(.mk 0 4 ⟨#[]⟩ [] []:Tm)]:Tm)) O) Ap (BG O (fun _=>BC O O (jK ) O) Ap (BP Ay 3 [3,4] O (CZ O (fun _=>BC O O (ga ) O) Ap (BP Ay 7 [2] O (CZ O (fun _=>BC O O (IZ ⟨#[112,108,117,115]⟩) O) Ap (CZ O (fun _=>BZ O) Ap (CZ O (fun _=>BC O O (KJ 3) O) Ap (CZ O (fun _=>BZ O) Ap (CZ O (fun _=>BC O O (KJ 4) O) Ap ?_))))))))));refine CZ O (fun _=>Bx (rows:=BE ([(.mk 0 3 ⟨#[]⟩ [] []),(.mk 0 4 ⟨#[]⟩ [] [])])) Be Bw O O O O (CF (Bv _)) (FE _)) Ap (CZ O (fun _=>BC O O (VS (.mk 3 0 ⟨#[112,108,117,115]⟩ [] []) (.mk 0 3 ⟨#[]⟩ [] []:Tm) (.mk 0 4 ⟨#[]⟩ [] []:Tm)) O) Ap (CZ O (fun _=>BC O O (iO ) O) Ap (BP Ay 4 [1] O (CZ O (fun _=>BC O O (KJ 2) O) Ap (CZ O (fun _=>Bx (rows:=BE ([(.mk 0 2 ⟨#[]⟩ [] [])])) Be Bw O O O O (CF (Bv _)) (FE _)) Ap (CZ O (fun _=>CP HO Bw O) Ap (CZ O (fun _=>Gw O O (ia ) (aw (we O) (aw (Dt O) (Eo)))) Ap (Bj Ay 13 [] O (Az (⟨O,_,_,⟨_,_,O,O,O⟩,(List.nil_sublist _),?_⟩))))))))))
 all_goals exact⟨rfl,rfl⟩
theorem VR:∀(n:Nat) (l:List Tm) (most:Int),Ba l≤n→bU l→l.length<wide→EZ Tryz.prog 29 [.p (I most),mU l] (.p (I (ET l most 0))):=by
 intro n
 induction n using Nat.strongRecOn with
 | ind n ih =>
  intro l most hs hnd hlen;simp only[wide] at hlen;refine A5 Tryz.func29 O sP (n:=29) O O (Au Ay 1 [] O (Au Ay 1 [] O (As (Aw (Bq O (Aq O (Cy Be O) (Ar Ay 1 [] O (A8 (Bb (α:=Nat×Int) (fun s=>⟨29,mk [(0,.p (I most)),(5,.p (I s.2)),(8,mU l),(9,.p (I (BE l).length)),(10,.p (I s.1))],[],[]⟩) (fun s=>l.length - s.1) (fun s=>s.1≤l.length∧ET (l.drop s.1) most s.2=ET l most 0) ((0,0)) Ao ?_ ?_)))))))))
  ·exact D8 ⟨O,O,O,O,O,Ap⟩ AA
  rintro⟨i,m⟩ ⟨hi,hC⟩;simp only at hi hC;refine Au Ay 1 [] O (As (Av O (fun c1=>?_) (fun c1=>?_)))
  ·(try simp only[sd] at c1);have hi2:i<l.length:=by rw[BQ] at c1;omega
   obtain⟨t,hk⟩:=A6 hi2;have hks:=Cc hk;obtain⟨kd,ix,nm,ls,ks⟩:=t;have hnt:=QU hnd hk;simp only[Wd] at hnt;simp only[size] at hks;refine A1 (As (A8 (Aw (Aq O (A4 Be O O An (Bd hk) (BD _)) (Aq O (BM BY O (BD _)) (BF O (A7 Bw O) fun b7=>Ar Ay 1 [0,0] O (As (Au Ay 3 [] O (Av O (fun c2=>?_) (fun c2=>?_))))))))))
   ·(try simp only[sd] at c2);refine Au Ay 2 [] O (Az ⟨O,_,[],Bi O,List.nil_sublist _,?_⟩);exact⟨pI (by rw[←hC,Tl hk,if_pos An]),O⟩
   (try simp only[sd] at c2);refine A1 (A2 (Ax Ay 3 [] O (Aq O (JS O O) (Ax Ay 2 [0] O (Aq O (BC O O (ih (Ba ks) An ks _ (Nat.le_refl _) hnt.2.2.2.2.1 hnt.2.2.2.1) O) (Aq O (EC O O) (Aq O (EC O O) (Ar Ay 1 [] O (A2 (Ar Ay 2 [] O ?_))))))))));exact⟨(i+1,wr (m+wr (1+ET ks (wr (most - m)) 0))),Ai,⟨by omega,by rw[←hC,Tl hk,if_neg An,Eg]⟩,D8 ⟨rfl,rfl,rfl,rfl,rfl,trivial⟩ AA⟩
  (try simp only[sd] at c1);have hi2:i=l.length:=by rw[BQ] at c1;omega
  refine Bf (Au Ay 2 [] O (Az ⟨O,_,[],Bi O,List.nil_sublist _,?_⟩));exact⟨pI (by rw[←hC,hi2,List.drop_length];rfl),O⟩
theorem ly:∀(x:CV),(mV x)→EZ Tryz.prog 100 [.agg ((Bz x).map .p)] (.p (.bool (decide ((x.vars.length:Int) > 20)))):=by
 intro x h1;refine A5 Tryz.func100 O px (n:=7) O O (Aw (BF O (BN O) fun b1=>Ar Ay 1 [] O (Aw (Ax Ay 2 [0] O (Aq O (BK CS O (List.length_map _)) (Ar Ay 2 [] O (Az (⟨O,_,_,⟨_,_,O,O,O⟩,(List.nil_sublist _),?_⟩))))))))
 all_goals exact⟨rfl,rfl⟩
theorem mK:∀(l:List CV),(l.length<wide)→(∀x∈l,mV x)→F7 Tryz.prog 130 [.p (.lst (List.map Bz l)),.p (.fn 100)] (fun v=>∃r:Int,v= .p (I r)∧(r<0→∀x∈l,x.vars.length≤20)):=by
 intro l h1 h2;simp only[wide] at h1;refine A5 Tryz.func130 O j3 (n:=19) O O (Au Ay 1 [] O (As (Aw (Bq O (Aq O (BK EX O (List.length_map _)) (Ar Ay 1 [] O (A8 ?_)))))));refine Bb (α:=Nat) (fun i=>⟨19,mk [(0,.p (.lst (List.map Bz l))),(1,.p (.fn 100)),(7,.p (I (l.length:Nat))),(8,.p (I (i:Int)))],[],[]⟩) (fun i=>l.length - i) (fun i=>i≤l.length∧(∀j,j<i→∀x,l[j]?=some x→x.vars.length≤20)) 0 (⟨by omega,fun j h=>by omega⟩) ?_ ?_
 ·exact BU ⟨we O,we O,we O,we O,Ap⟩ (leH (is:=[]) O (C3))
 rintro i hC
 try simp only at hC
 obtain⟨hi,hC⟩:=hC;refine Au Ay 1 [] O (As (Av O (fun c=>?_) (fun c=>?_)))
 ·(try simp only[sd,se] at c);refine A1 (As (A8 (Au Ay 2 [] O (Aw (Ax Ay 3 [] O ?_)))));obtain⟨x,hx⟩:=A6 (l:=l) (i:=i) An;refine Aq O (A4 EX O O An (Fs hx) (Dg _)) (Aq O (BM DY O (Dg _)) (Aq O (BC O O (ly x (h2 x (List.mem_of_getElem? hx))) O) (Bg O (Av O (fun c1=>?_) (fun c1=>?_)))))
  ·(try simp only[sd,se] at c1);refine Au Ay 2 [] O (Az (⟨O,_,[],Bi O,List.nil_sublist _,⟨⟨_,O,?_⟩,O⟩⟩));exact fun h=>by omega
  (try simp only[sd,se] at c1);refine A1 (A2 (Ar Ay 2 [] O (⟨(i+1),AT,⟨by omega,Cu hC hx An⟩,BU ⟨we rfl,we rfl,we rfl,we rfl,trivial⟩ (leH (is:=[]) rfl (C3))⟩)))
 (try simp only[sd,se] at c);refine Bf (Au Ay 1 [] O (Az (⟨O,_,[],Bi O,List.nil_sublist _,⟨⟨_,O,?_⟩,O⟩⟩)));exact fun _ x hx=>by obtain⟨j,hj⟩:=K8 hx;exact hC j (by have:=(List.getElem?_eq_some_iff.1 hj).1;omega) x hj
theorem ja:∀(l:List CV),(l.length<wide)→(∀x∈l,mV x)→F7 Tryz.prog 99 [.p (.lst (List.map Bz l)),.p (.fn 100)] (fun v=>∃b:Bool,v= .p (.bool b)∧(b=false→∀x∈l,x.vars.length≤20)):=by
 intro l h1 h2;refine A5 Tryz.func99 O pW (n:=9) O O (Au Ay 1 [] O (Aw (Ax Ay 2 [] O (Ds O O (CA O O (mK l h1 h2) (.inl O)) ?_))));rintro _ ⟨r,rfl,hr⟩;refine Ar Ay 2 [] O (Az (⟨O,_,[],Bi O,List.nil_sublist _,⟨⟨_,O,?_⟩,O⟩⟩));exact fun h=>hr (by simp at h;omega)
theorem oR:∀(n:Nat) (l:List Tm),(Ba l≤n)→(bU l)→(l.length<wide)→F7 Tryz.prog 64 [.p (.lst (BE l))] (fun v=>∃b:Bool,v= .p (.bool b)∧(b=true→XK l)):=by
 intro n
 induction n using Nat.strongRecOn with
 | ind n ih =>
  intro l h1 h2 h3;have h3b:=h3;simp only[wide] at h3b;refine A5 Tryz.func64 O sr (n:=36) O O (Au Ay 1 [] O (As (Aw (Bq O (Aq O (BC O O (VR _ l 200 (Nat.le_refl _) h2 h3) O) (Ar Ay 1 [] O (Av O (fun c=>?_) (fun c=>?_))))))))
  ·have cR:=c;(try simp only[sd,se] at c);refine Au Ay 1 [] O (Az (⟨O,_,[],Bi O,List.nil_sublist _,⟨⟨_,O,?_⟩,O⟩⟩));exact fun h=>absurd h Am
  have cR:=c;(try simp only[sd,se] at c);refine A1 (As (Aw (Bq O (Aq O (BK Be O (BQ _)) (Ar Ay 1 [] O (A8 ?_))))));refine Bb (α:=Nat) (fun i=>⟨36,mk [(8,.p (.lst (BE l))),(9,.p (I (l.length:Nat))),(10,.p (I (i:Int)))],[],[]⟩) (fun i=>l.length - i) (fun i=>i≤l.length∧(∀j,j<i→∀x,l[j]?=some x→Zz x)) 0 (⟨by omega,fun j h=>by omega⟩) ?_ ?_
  ·exact BU ⟨we O,we O,we O,Ap⟩ (leH (is:=[]) O (C3))
  rintro i hC
  try simp only at hC
  obtain⟨hi,hC⟩:=hC;refine Au Ay 1 [] O (As (Av O (fun c1=>?_) (fun c1=>?_)))
  ·have c1R:=c1;(try simp only[sd,se] at c1);refine A1 (As (A8 (Aw ?_)));obtain⟨t,ht⟩:=A6 (l:=l) (i:=i) An;refine Aq O (A4 Be O O An (Bd ht) (BD _)) (Aq O (BM BY O (BD _)) (BF O (A7 Bw O) fun b4=>Ar Ay 1 [0,1] O (As ?_)));obtain⟨tk,ti,tn,tl,ts⟩:=t;have hnt:=QU h2 ht;simp only[Wd] at hnt;have hks:=Cc ht;simp only[size] at hks;refine BS [8,9,10] 34 (fun y=>∃b:Bool,y= .p (.bool b)∧(b=false→Zz (.mk tk ti tn tl ts))) ?_ ?_
   ·refine A2 (Ax Ay 2 [0] O (Aq O (GF kK O) (Ax Ay 2 [] O (BL 18 O (fun g=>?_) (fun g=>?_)))))
    ·(try simp only[sd,se] at g);refine Ar Ay 16 [] O ?_;exact⟨O,O,AK,(by first | exact⟨_,rfl,fun h=>absurd h Am⟩ | exact⟨_,rfl,fun h=>by simp only[Bool.not_eq_false'] at h;exact⟨by omega,by omega,hb Ak,(hb1 h).sz,(hb1 h).nd,(hb1 h).fw⟩⟩),⟨O,O,O,Ap⟩⟩
    (try simp only[sd,se] at g);refine Ax Ay 2 [0] O (BB O (BK EX O (List.length_map _)) (Ax Ay 3 [] O (BL 24 O (fun g1=>?_) (fun g1=>?_))))
    ·(try simp only[sd,se] at g1);refine Ar Ay 10 [] O ?_;exact⟨O,O,AK,(by first | exact⟨_,rfl,fun h=>absurd h Am⟩ | exact⟨_,rfl,fun h=>by simp only[Bool.not_eq_false'] at h;exact⟨by omega,by omega,hb Ak,(hb1 h).sz,(hb1 h).nd,(hb1 h).fw⟩⟩),⟨O,O,O,Ap⟩⟩
    (try simp only[sd,se] at g1);refine Ax Ay 2 [0] O (HZ O O O O (CA O O (ja tl hnt.2.1 hnt.2.2.1) (.inl O)) ?_);rintro _ ⟨b,rfl,hb⟩;refine Ax Ay 2 [] O (BL 29 O (fun g2=>?_) (fun g2=>?_))
    ·(try simp only[sd,se] at g2);refine Ar Ay 5 [] O ?_;exact⟨O,O,AK,(by first | exact⟨_,rfl,fun h=>absurd h Am⟩ | exact⟨_,rfl,fun h=>by simp only[Bool.not_eq_false'] at h;exact⟨by omega,by omega,hb Ak,(hb1 h).sz,(hb1 h).nd,(hb1 h).fw⟩⟩),⟨O,O,O,Ap⟩⟩
    (try simp only[sd,se] at g2);refine Ax Ay 2 [0] O (HZ O O O O (CA O O (ih (Ba ts) An ts (Nat.le_refl _) hnt.2.2.2.2.1 hnt.2.2.2.1) (.inl O)) ?_);rintro _ ⟨b1,rfl,hb1⟩;refine Ar Ay 2 [] O ?_;exact⟨O,O,AK,(by first | exact⟨_,rfl,fun h=>absurd h Am⟩ | exact⟨_,rfl,fun h=>by simp only[Bool.not_eq_false'] at h;exact⟨by omega,by omega,hb Ak,(hb1 h).sz,(hb1 h).nd,(hb1 h).fw⟩⟩),⟨O,O,O,Ap⟩⟩
   rintro _ ⟨q,rfl,hq⟩;refine Av O (fun c2=>?_) (fun c2=>?_)
   ·have c2R:=c2;(try simp only[sd,se] at c2);refine Au Ay 1 [] O (Az (⟨O,_,[],Bi O,List.nil_sublist _,⟨⟨_,O,?_⟩,O⟩⟩));exact fun h=>absurd h Am
   have c2R:=c2;(try simp only[sd,se] at c2);refine A1 (A2 (Ar Ay 2 [] O (⟨(i+1),AT,⟨by omega,Cu hC ht (hq (by simpa using c2))⟩,BU ⟨we rfl,we rfl,we rfl,trivial⟩ (leH (is:=[]) rfl (C3))⟩)))
  have c1R:=c1;(try simp only[sd,se] at c1);refine Bf (Au Ay 1 [] O (Az (⟨O,_,[],Bi O,List.nil_sublist _,⟨⟨_,O,?_⟩,O⟩⟩)));exact fun _=>jt (m:=i) An h2 h3 An hC
theorem gH:∀(l:List Tm),(bU l)→(l.length<wide)→F7 Tryz.prog 30 [.p (.lst (BE l))] (fun v=>∃bb:Bool,v= .p (.bool bb)∧(bb=true→XK l∧∀t∈l,okB t=true)):=by
 intro l h1 h2;have h2b:=h2;simp only[wide] at h2b;refine A5 Tryz.func30 O qZ (n:=18) O O (Au Ay 1 [] O (As (Aw (Bq O (Ds O O (CA O O (oR _ l (Nat.le_refl _) h1 h2) (.inl O)) ?_)))));rintro _ ⟨b,rfl,hb⟩;refine Ar Ay 1 [] O (Av O (fun c=>?_) (fun c=>?_))
 ·(try simp only[sd,se] at c);refine Au Ay 1 [] O (Az (⟨O,_,[],Bi O,List.nil_sublist _,⟨⟨_,O,?_⟩,O⟩⟩));exact fun h=>absurd h Am
 (try simp only[sd,se] at c);have hf:=hb (by simpa using c);refine A1 (As (Aw (Bq O (Aq O (BK Be O (BQ _)) (Ar Ay 1 [] O (A8 ?_))))));refine Bb (α:=Nat) (fun i=>⟨18,mk [(8,.p (.lst (BE l))),(9,.p (I (l.length:Nat))),(10,.p (I (i:Int)))],[],[]⟩) (fun i=>l.length - i) (fun i=>i≤l.length∧(∀j,j<i→∀x,l[j]?=some x→okB x=true)) 0 (⟨by omega,fun j h=>by omega⟩) ?_ ?_
 ·exact BU ⟨we O,we O,we O,Ap⟩ (leH (is:=[]) O (C3))
 rintro i hC
 try simp only at hC
 obtain⟨hi,hC⟩:=hC;refine Au Ay 1 [] O (As (Av O (fun c1=>?_) (fun c1=>?_)))
 ·(try simp only[sd,se] at c1);refine A1 (As (A8 (Aw ?_)));obtain⟨x,hx⟩:=A6 (l:=l) (i:=i) An;refine Aq O (A4 Be O O An (Bd hx) (BD _)) (Aq O (BM BY O (BD _)) (BF O (A7 Bw O) fun b4=>Ar Ay 1 [0,1] O (Aw (Aq O (BT (i:=0) BY O O Ag) (Ds O O (CA O O (Qz x 65536 8 65536 65536 (DQ hf.nd hx) (by have:=Cc hx;have:=hf.sz;omega)) (.inl O)) ?_)))));rintro _ ⟨e,rfl,he⟩;refine Ar Ay 1 [] O (Av O (fun c2=>?_) (fun c2=>?_))
  ·(try simp only[sd,se] at c2);refine Au Ay 1 [] O (Az (⟨O,_,[],Bi O,List.nil_sublist _,⟨⟨_,O,?_⟩,O⟩⟩));exact fun h=>absurd h Am
  (try simp only[sd,se] at c2);refine A1 (A2 (Ar Ay 2 [] O (⟨(i+1),AT,⟨by omega,Cu hC hx (ct (DQ hf.nd hx) (by have:=Cc hx;have:=hf.sz;omega) An (he An))⟩,BU ⟨we rfl,we rfl,we rfl,trivial⟩ (leH (is:=[]) rfl (C3))⟩)))
 (try simp only[sd,se] at c1);refine Bf (Au Ay 1 [] O (Az (⟨O,_,[],Bi O,List.nil_sublist _,⟨⟨_,O,?_⟩,O⟩⟩)));exact fun _=>⟨hf,IE An hC⟩
theorem iw:∀(t:Tm),(okB t=true)→(size t<1000000)→F7 Tryz.prog 20 [.agg ((BO t).map .p)] (Ge):=by
 intro t h1 h2;refine A5 Tryz.func20 O sf (n:=6) O O (Aw (BF O (BN O) fun b1=>Ar Ay 1 [] O (Aw (Aq O (BT (i:=0) BY O O Ag) (Ds O O (CA O O (Qz t 60000 8 65536 65536 (CM.1 h1).nd h2) (.inl O)) ?_)))));rintro _ ⟨e,rfl,he⟩;refine Ar Ay 2 [] O (Az (⟨O,_,_,⟨_,_,O,O,O⟩,(List.nil_sublist _),?_⟩))
 all_goals exact⟨⟨_,rfl⟩,rfl⟩
theorem lL:∀(l:List Tm),(l.length<1000000)→(∀x∈l,okB x=true∧size x<1000000)→F7 Tryz.prog 67 [.p (.lst (BE l)),.p (.fn 20)] (Yr):=by
 intro l h1 h2;refine A5 Tryz.func67 O qU (n:=19) O O (Au Ay 1 [] O (As (Aw (Bq O (Aq O (BK Be O (BQ _)) (Ar Ay 1 [] O (A8 (Bb (α:=Nat) (fun i=>⟨19,mk [(0,.p (.lst (BE l))),(1,.p (.fn 20)),(7,.p (I (l.length:Nat))),(8,.p (I (i:Int)))],[],[]⟩) (fun i=>l.length - i) (fun i=>i≤l.length) 0 AP ?_ ?_))))))))
 ·exact BU ⟨we O,we O,we O,we O,Ap⟩ (leH (is:=[]) O (C3))
 rintro i hC
 try simp only at hC
 have hi:=hC;refine Au Ay 1 [] O (As (Av O (fun c=>?_) (fun c=>?_)))
 ·(try simp only[sd,se] at c);refine A1 (As (A8 (Au Ay 2 [] O (Aw (Ax Ay 3 [] O ?_)))));obtain⟨x,hx⟩:=A6 (l:=l) (i:=i) An;refine Aq O (A4 Be O O An (Bd hx) (BD _)) (Aq O (BM BY O (BD _)) (Ds O O (CA O O (iw x (h2 _ (List.mem_of_getElem? hx)).1 (h2 _ (List.mem_of_getElem? hx)).2) (.inl O)) ?_));rintro _ ⟨q,rfl⟩;refine Bg O (Av O (fun c1=>?_) (fun c1=>?_))
  ·(try simp only[sd,se] at c1);refine Au Ay 2 [] O (Az (⟨O,_,_,⟨_,_,O,O,O⟩,(List.nil_sublist _),?_⟩))
   all_goals exact⟨⟨_,rfl⟩,rfl⟩
  (try simp only[sd,se] at c1);refine A1 (A2 (Ar Ay 2 [] O ?_));refine⟨(i+1),AT,by omega,BU ⟨we rfl,we rfl,we rfl,we rfl,trivial⟩ (leH (is:=[]) rfl (C3))⟩
 (try simp only[sd,se] at c);refine Bf (Au Ay 1 [] O (Az (⟨O,_,_,⟨_,_,O,O,O⟩,(List.nil_sublist _),?_⟩)))
 all_goals exact⟨⟨_,rfl⟩,rfl⟩
theorem iL:∀(l:List Tm),(l.length<1000000)→(∀x∈l,okB x=true∧size x<1000000)→F7 Tryz.prog 32 [.p (.lst (BE l)),.p (.fn 20)] (Ge):=by
 intro l h1 h2;refine A5 Tryz.func32 O qv (n:=9) O O (Au Ay 1 [] O (Aw (Ax Ay 2 [] O (Ds O O (CA O O (lL l h1 h2) (.inl O)) ?_))));rintro _ ⟨r,rfl⟩;refine Ar Ay 2 [] O (Az (⟨O,_,_,⟨_,_,O,O,O⟩,(List.nil_sublist _),?_⟩))
 all_goals exact⟨⟨_,rfl⟩,rfl⟩
theorem eR:∀(ds:List CH) (l:List Tm),(G1 ds)→(bU l)→(l.length<wide)→F7 Tryz.prog 10 [.p (.lst (List.map Bh ds)),.p (.lst (BE l))] (fun v=>∃bb:Bool,v= .p (.bool bb)∧(bb=true→ez ds l)):=by
 intro ds l h1 h2 h3;refine A5 Tryz.func10 O rU (n:=21) O O (Au Ay 1 [] O (Aw (Bq O (Aq O (BC O O (VR _ l 60 (Nat.le_refl _) h2 h3) O) (Ax Ay 2 [] O (BL 8 O (fun g=>?_) (fun g=>?_)))))))
 ·(try simp only[sd,se] at g);refine BB O (BZ O) (HZ O O O O (CA O O (gH l h2 h3) (.inl O)) ?_);rintro _ ⟨b,rfl,hb⟩;refine Ax Ay 2 [] O (BL 12 O (fun g1=>?_) (fun g1=>?_))
  ·(try simp only[sd,se] at g1);refine BB O (BZ O) (HZ O O O O (CA O O (eJ ds h1) (.inl O)) ?_);rintro _ ⟨q,rfl,hq⟩;refine Ax Ay 2 [] O (BL 16 O (fun g2=>?_) (fun g2=>?_))
   ·(try simp only[sd,se] at g2);refine BB O (BZ O) (HZ O O O O (CA O O (iL l (au (hb Ak).1) (XA (hb Ak))) (.inl O)) ?_);rintro _ ⟨q1,rfl⟩;refine Ar Ay 3 [] O (Az (⟨O,_,_,⟨_,_,O,O,O⟩,(List.nil_sublist _),?_⟩))
    all_goals exact⟨⟨_,rfl,fun h=>dV An (hb Ak) (hq Ak)⟩,rfl⟩
   (try simp only[sd,se] at g2);refine Ar Ay 5 [] O (Az (⟨O,_,_,⟨_,_,O,O,O⟩,(List.nil_sublist _),?_⟩))
   all_goals exact⟨⟨_,rfl,fun h=>absurd h Am⟩,rfl⟩
  (try simp only[sd,se] at g1);refine Ar Ay 9 [] O (Az (⟨O,_,_,⟨_,_,O,O,O⟩,(List.nil_sublist _),?_⟩))
  all_goals exact⟨⟨_,rfl,fun h=>absurd h Am⟩,rfl⟩
 (try simp only[sd,se] at g);refine Ar Ay 13 [] O (Az (⟨O,_,_,⟨_,_,O,O,O⟩,(List.nil_sublist _),?_⟩))
 all_goals exact⟨⟨_,rfl,fun h=>absurd h Am⟩,rfl⟩
end Go.Proofs.YtboammbpdaoojaaGreat
namespace Go.Eu
open Go.Abs
def NF {α:Type}(o:Out α):Prop:=o≠ .fail
section
variable {α β:Type}
theorem Fo (a:α):NF (.ok a):=fun h=>by cases h
theorem Fm:NF (.stuck:Out α):=fun h=>by cases h
theorem Qb {o:Out α}{k:α→Out β}(h:NF o) (hk:∀a,NF (k a)):NF (o.bind k):=by
 cases o with
 | stuck=>exact Fm
 | fail=>exact absurd rfl h
 | ok a=>exact hk a
theorem XF {σ:Type}{o:Out (Tm×σ)}{k:Tm×σ→Out β}(h:NF o) (hk:∀a,NF (k a)):NF (o.chk k):=by
 unfold Out.chk;refine Qb h fun r=>?_;split
 ·exact hk r
 exact Fm
theorem NJ {s:EP}{x:Tm×Int}{k:Tm→EP→Out α}(hk:∀t s',NF (k t s')):NF (DU.put s x k):=by
 unfold Sys.put;split
 ·exact hk _ _
 exact Fm
end
section
variable {E:List CH}{W:EP→Tm→Out (Tm×EP)}
theorem UY (hW:∀c t,NF (W c t)):∀(n:Nat) (t:Es) (vs:List Tm) (l:Tm) (c:EP),NF (Dp E DU W n t vs l c)
 | 0,t,vs,l,c=>by rw[Dp];exact Fm
 | n+1,t,vs,l,c=>by
  rw[Dp];split
  ·split
   ·exact Fo _
   refine XF (hW _ _) fun r=>?_;split
   ·exact Fo _
   split
   ·exact Fo _
   exact UY hW n _ _ _ _
  exact Fo _
theorem db {d:CH}{h:Tm}{a:List Tm}{c:EP}:NF (Ep DU d h a c):=by
 unfold Ep;split
 ·exact Fo _
 exact NJ fun _ _=>Fo _
theorem jT {d:CH}{h m:Tm}{a:List Tm}{c:EP}:NF (Ew E DU d h a m c):=by
 unfold Ew;split
 ·exact Fo _
 split
 ·exact Fo _
 split
 ·exact Fo _
 exact NJ fun _ _=>Fo _
theorem gm {h b:Tm}{vs a:List Tm}{c:EP}:NF (HM DU h b vs a c):=by
 unfold HM;split
 ·exact Fo _
 split
 ·exact Fm
 exact NJ fun _ _=>Fo _
theorem di (hW:∀c t,NF (W c t)) {n:Nat}{h:Tm}{a:List Tm}{c:EP}:NF (EU E DU W n h a c):=by
 unfold EU;split
 ·exact Fo _
 split
 ·exact db
 split
 ·unfold R0;split
  ·exact Fo _
  exact XF (hW _ _) fun r=>jT
 split
 ·unfold JW;split
  ·exact Fo _
  refine Qb (UY hW _ _ _ _ _) fun q=>?_;split
  ·exact Fo _
  split
  ·exact Fo _
  exact gm
 exact Fo _
theorem kY:∀(n:Nat) (c:EP) (t:Tm),NF (EA E DU n c t)
 | 0,c,t=>by rw[EA];exact Fm
 | n+1,c,t=>by
  have ih:=kY n;rw[EA];split
  ·exact Fm
  split
  ·exact Fo _
  split
  ·rename_i h;exact absurd h (by simp[DU])
  split
  ·split
   ·exact Fo _
   unfold N0;split
   ·exact Fm
   exact NJ fun _ _=>ih _ _
  split
  ·unfold U2;split
   ·exact NJ fun _ _=>ih _ _
   exact Fm
  split
  ·split
   ·exact Fm
   refine XF (ih _ _) fun r=>?_;split
   ·exact Fo _
   unfold My;split
   ·exact Fm
   exact NJ fun _ _=>ih _ _
  split
  ·refine Qb (di ih) fun r=>?_;split
   ·exact Fo _
   exact ih _ _
  exact Fo _
theorem ki {n:Nat}{t:Es}{a:List Tm}{c:EP}:NF (Gn E DU n t a c):=by
 rw[YE];refine Qb (UY (kY n) _ _ _ _ _) fun q=>?_;unfold ZZ;split
 ·exact Fo _
 split
 ·exact Fm
 exact NJ fun _ _=>Fo _
end
theorem mC {α:Type}{o:Out α}{p:α→Prop}(h:DK o p) (hf:NF o):∃a,o= .ok a∧p a:=by
 cases o with
 | stuck=>exact h.elim
 | fail=>exact absurd rfl hf
 | ok a=>exact⟨a,rfl,h⟩
@[irreducible] def FN:Nat:=1000000000000
theorem kB:FN=1000000000000:=by unfold FN;rfl
section
variable {E:List CH}{t:Tm}
end
structure Fit (z:Nat) (q:Tm):Prop where
 sz:size q≤2000+z
 dp:depth q≤95+z
def QF (z:Nat) (o:Out (Option Tm×EP)):Prop:=∀q c',o= .ok (some q,c')→c'.over=false→Fit z q
theorem QF.mono {z z':Nat}{o:Out (Option Tm×EP)}(h:QF z o) (hz:z≤z'):QF z' o:=fun q c' e hv=>by
 obtain⟨h1,h2⟩:=h q c' e hv;exact⟨by omega,by omega⟩
section
variable {E:List CH}
end
theorem XR:mD NB:=⟨rfl,by decide,fun _=>by decide⟩
section
variable {E:List CH}{t:Tm}
end
section
variable {E:List CH}{t:Es}{a:List Tm}
structure VQ (t:Es) (a:List Tm):Prop where
 tok:FC t
 dep:Dl t≤50
 ok:∀x∈a,okB x=true
 sz:Ba a≤60
theorem VQ.len (h:VQ t a):a.length≤60:=by have:=Fe a;have:=h.sz;omega
theorem VQ.all (h:VQ t a):∀x∈a,okB x=true∧size x≤100000:=fun x hx=>⟨h.ok x hx,by have:=Fx hx;have:=h.sz;omega⟩
theorem jX (hE:Gh E) (h:VQ t a):DK (Gn E B1 FN t a 20000) (fun r=>Gg r.2∧∀x,r.1=some x→okB x=true) :=
 Y4 jy hE Ko Ao h.tok h.dep h.all (by have:=h.len;omega) (by have:=h.sz;omega) (by rw[kB];omega)
theorem jY (hE:Gh E) (h:VQ t a):∃q c,Gn E DU FN t a NB= .ok (q,c)∧okB (q.getD Bc)=true:=by
 obtain⟨⟨q,c⟩,h1,h2⟩:=mC (Y4 jE hE XR (by simp[NB]) h.tok h.dep h.all (by have:=h.len;omega) (by have:=h.sz;omega) (by rw[kB];omega)) (ki (n:=FN) (t:=t) (a:=a) (c:=NB));refine⟨q,c,h1,?_⟩;cases q with
 | none=>exact IL
 | some x=>exact h2.2 x rfl
theorem iv (hE:Gh E) (h:VQ t a) {q:Option Tm}{c:EP}(hs:Gn E DU FN t a NB= .ok (q,c)) (hv:c.over=false):LD (Gn E B1 FN t a 20000)=(q.getD Bc,q.isSome,0):=by
 obtain⟨l',h1⟩:=dC hE.g ec hs hv (fun v hm=>by have:=Fx hm;have:=h.sz;simp[NB];omega) 20000 (by simp[NB]);simp only at h1;rw[h1];rfl
theorem gr (o:Out (Option Tm×Int)):(LD o).2.2=0∨(LD o).2.2=11:=by
 cases o with
 | stuck=>exact .inr rfl
 | fail=>exact .inr rfl
 | ok a=>exact .inl rfl
end
section
variable {E:List CH}{t:Tm}
end
def KG (k:Int) (ks:List Tm):Tm:= .mk k 0 ⟨#[]⟩ [] ks
theorem T6 {k:Int}{ks:List Tm}(hN:mQ k 0 ⟨#[]⟩ [] ks.length=true) (h:∀x∈ks,okB x=true) (hs:Ba ks<1000000):okB (KG k ks)=true :=
 Lr (by rw[KG,Kz,hN];simpa using JL.2 fun x hx=>JF (h x hx)) (by simp only[KG,size];omega)
section
variable {E:List CH}{f:Tm}{xs:List Tm}
theorem Xg {h:Tm}(ho:okB h=true) (hs:size h≤5000) (ha:∀x∈xs,okB x=true) (hz:Ba xs≤60):okB (apply h xs)=true∧size (apply h xs)≤10000:=by
 have h1:=C8 xs h;have h2:=Fe xs;exact⟨Lr (I9 (JF ho) fun x hx=>JF (ha x hx)) An,by omega⟩
structure MG (l0 l1 l2:Tm) (xs:List Tm):Prop where
 o0:okB l0=true
 o1:okB l1=true
 o2:okB l2=true
 oa:∀x∈xs,okB x=true
 sz:size l0+size l1+size l2+Ba xs≤60
variable {l0 l1 l2 a b:Tm}{l m:Int}
theorem MG.lam (h:MG l0 l1 l2 xs):okB (KG 5 [l0,l1])=true∧size (KG 5 [l0,l1])≤100:=by
 have:=h.sz;exact⟨T6 O (by simp[h.o0,h.o1]) (by simp only[Ba];omega),by simp only[KG,size,Ba];omega⟩
theorem MG.len (h:MG l0 l1 l2 xs):xs.length≤60:=by have:=h.sz;have:=Fe xs;omega
theorem MG.args (h:MG l0 l1 l2 xs):∀x∈l2::xs,okB x=true:=fun x hx=>by
 rcases List.mem_cons.1 hx with rfl | hx
 ·exact h.o2
 exact h.oa x hx
theorem MG.pair1 (h:MG l0 l1 l2 xs):okB (KG 8 [l0,l1,l2])=true:=by
 have hz:=h.sz;exact T6 O (by simp[h.o0,h.o1,h.o2]) (by simp only[Ba];omega)
theorem MG.swap (h:MG l0 l1 l2 xs):MG l0 l2 l1 xs:=⟨h.o0,h.o2,h.o1,h.oa,by have:=h.sz;omega⟩
theorem MG.proj (h:MG l0 l1 l2 xs) {k:Int}(hk:k=9∨k=10):okB (apply (KG k [KG 8 [l0,l1,l2]]) xs)=true∧size (apply (KG k [KG 8 [l0,l1,l2]]) xs)≤10000:=by
 have hz:=h.sz;refine Xg (T6 (by rcases hk with rfl | rfl<;>rfl) (by simp[h.pair1]) (by simp only[KG,size,Ba];omega)) (by simp only[KG,size,Ba];omega) h.oa An
theorem MG.body (h:MG l0 l1 l2 xs):okB (apply (CJ l1 [l2] 0).1 xs)=true∧size (apply (CJ l1 [l2] 0).1 xs)≤10000:=by
 have hz:=h.sz;have h2:=JN h.o1 (vs:=[l2]) (by simp[h.o2]);exact Xg (KH h.o1 (by simp[h.o2]) Ao) An h.oa An
theorem MG.second (h:MG l0 l1 l2 xs):okB (apply l1 xs)=true∧size (apply l1 xs)≤10000:=by
 have hz:=h.sz;exact Xg h.o1 An h.oa An
end
def Hd (ds:List CH) (i:Nat):List G7:=(ds.take i).flatMap CH.funs
theorem No {ds:List CH}{i:Nat}{x:CH}(h:ds[i]?=some x):Hd ds (i+1)=Hd ds i++x.funs:=by
 simp[Hd,List.take_add_one,h]
theorem bG {ds:List CH}{i:Nat}{x:CH}(hi:G1 ds) (h:ds[i]?=some x) (hC:(Hd ds i).length≤i*2000000):(Hd ds (i+1)).length≤(i+1)*2000000:=by
 have:=(hi.all x (List.mem_of_getElem? h)).fl;rw[No h,List.length_append];omega
structure mq (f:G7):Prop where
 tin:HS f.tree
 tok:FC f.tree
 dep:Dl f.tree≤50
 lo:1≤f.arity
 hi:f.arity≤16
theorem Zv {ds:List CH}(he:Gh ds) (hi:G1 ds) {n j:Nat}{f:G7}(h:(Hd ds n)[j]?=some f):mq f:=by
 obtain⟨d,hd,hf⟩:=List.mem_flatMap.1 (List.mem_of_getElem? h);have hm:=List.mem_of_mem_take hd;obtain⟨g1,g2,g3⟩:=(he.g.all d hm).fu f hf;exact⟨((hi.all d hm).fs f hf).tr,g3,he.fu d hm f hf,g1,g2⟩
theorem dq {f:G7}{l:List Tm}(hf:mq f) (ho:∀x∈l,okB x=true) (hz:Ba l≤60):VQ f.tree (l.take f.arity.toNat)∧ON f.tree (l.take f.arity.toNat):=by
 have h1:=DW l f.arity.toNat;have h2:(l.take f.arity.toNat).length≤16:=by have:=hf.hi;rw[List.length_take];omega
 have h3:=hf.dep;have hm:∀x∈l.take f.arity.toNat,okB x=true:=fun x hx=>ho x (List.mem_of_mem_take hx);exact⟨⟨hf.tok,hf.dep,hm,by omega⟩,⟨hf.tin,hf.tok,by omega,hm⟩⟩
end Go.Eu
namespace Go.Abs
section
variable {P:Program}{dst:Option Tmp}{ty:TypeId}{pos:String}{aft:Array Edge}{g:Option (Nat×Bool)}{ρ:Operand→AV}{H:List BI}{x y z:Operand}{v:AV}
theorem XH {s d:TypeId}{n:Int}(hs:P.underlying s=some (.int .u8)) (hd:P.underlying d=some (.int .i64)) (hx:ρ x= .p (.int .u8 n)) (h1:0≤n) (h2:n<256) :
  Dh P ⟨dst,.convert s d x,ty,pos,aft,g⟩ ρ H (.p (.int .i64 n)) H :=
 CN fun F w E hH hE=>by
  have e1:=hE x Aa;rw[hx] at e1;simp only[CE,CI] at e1;have hk:P.intKind d= .i64:=by unfold Program.intKind;rw[hd]
  have hw:IntKind.i64.wrap n=n:=Qr (k:= .i64) (show (-9223372036854775808:Int)≤n by omega) (show n≤9223372036854775807 by omega);have:=run_convert_int (P:=P) w s d .u8 n (by rw[hs];rfl) (by rw[hk];exact hd);rw[hk,hw] at this;exact⟨.int .i64 n,by simp[execOp,e1,this],by simp[CE,CI]⟩
end
end Go.Abs
namespace Go.Proofs.YtboammbpdaoojaaGreat
open Go.Abs Go.Eu
theorem Xt:∀(ds:List CH) (w:Int) (xs:List Tm),(G1 ds)→(0≤w∧w<256)→(bU xs)→(xs.length<wide)→EZ Tryz.prog 9 [.p (.lst (List.map Bh ds)),.p (.int .u8 w),.p (.lst (BE xs))] (.p (.bool true)):=by
 intro ds w xs h1 h2 h3 h4;have h1l:=h1.len;refine A5 Tryz.func9 O tz (n:=107) O O (Au Ay 1 [] O (As (Aw (Bq O (Aq O (BK Be O (BQ _)) (Ax Ay 2 [] O (BL 20 O (fun g=>?_) (fun g=>?_))))))))
 ·(try simp only[sd,se] at g);refine Ar Ay 5 [] O ?_;refine Av O (fun c=>?_) (fun c=>by cases c);refine Aw (Aq O (BC O O (JD ) O) (Ar Ay 1 [] O (Az (⟨O,_,_,⟨_,_,O,O,O⟩,(List.nil_sublist _),?_⟩))))
  all_goals exact⟨rfl,rfl⟩
 (try simp only[sd,se] at g);refine Ax Ay 2 [] O (HZ O O O O (CA O O (eR ds xs h1 h3 h4) (.inl O)) ?_);rintro _ ⟨q,rfl,hq⟩;refine Ar Ay 2 [] O (Av O (fun c=>?_) (fun c=>?_))
 ·(try simp only[sd,se] at c);refine Aw (Aq O (BC O O (JD ) O) (Ar Ay 1 [] O (Az (⟨O,_,_,⟨_,_,O,O,O⟩,(List.nil_sublist _),?_⟩))))
  all_goals exact⟨rfl,rfl⟩
 (try simp only[sd,se] at c);have hs:=hq (by simpa using c);refine A1 (Aw (TE O (B2 (D4 (t:=7) (sz:=15) O) (Bg O (As (Aw (Bq O (Aq O (BK HT O (List.length_map _)) (Ar Ay 1 [] O (A8 (Bb (α:=Nat×Option Nat×Nat) (fun(i,o,cp)=>⟨107,mk [(0,.p (.lst (List.map Bh ds))),(1,.p (.int .u8 w)),(2,.p (.lst (BE xs))),(7,.vs o (List.map Ec (Hd ds i)).length cp),(27,.p (.lst (List.map Bh ds))),(28,.p (I (ds.length:Nat))),(29,.p (I (i:Int)))],[.vec o 15 (List.map Ec (Hd ds i)) cp],[]⟩) (fun(i,o,cp)=>ds.length - i) (fun(i,o,cp)=>i≤ds.length∧((Hd ds i).length≤i*2000000)) ⟨0,none,0⟩ (by simp[Hd]) ?_ ?_)))))))))))
 ·exact BU ⟨we O,we O,we O,we O,we O,we O,we O,Ap⟩ (leH (is:=[0]) O (wl (oe O) (C3)))
 rintro⟨i,o,cp⟩ hC
 try simp only at hC
 obtain⟨hi,hC⟩:=hC;refine Au Ay 1 [] O (As (Av O (fun c1=>?_) (fun c1=>?_)))
 ·(try simp only[sd,se] at c1);refine A1 (As (A8 (Aw ?_)));obtain⟨x,hx⟩:=A6 (l:=ds) (i:=i) An;refine Aq O (A4 HT O O An (D3 hx) (Cm _)) (Aq O (BM FW O (Cm _)) (BF O (A7 JP O) fun b9=>Ar Ay 1 [0,1] O (A2 (Ax Ay 2 [] O (Aq O (A3 (i:=0) HY O O (CD _)) (Er O O (CK (i:=1) (rows':=List.map Ec x.funs) GB GB Vx O O O O O O (aN _) (by simp only[List.length_map];have:=hs.few;have:=(h1.all x (List.mem_of_getElem? hx)).fl;omega) (F3 (f:=Ec) (Hd ds i) x.funs)) fun o1 cp1=>Ar Ay 1 [] O (A2 (Ar Ay 2 [] O (⟨⟨i+1,o1,cp1⟩,AT,⟨by omega,bG h1 hx hC⟩,BU ⟨we rfl,we rfl,we rfl,we (F5 (f:=Ec) ((Hd ds i)++x.funs) ((No hx).symm)),we rfl,we rfl,we rfl,trivial⟩ (leH (is:=[1]) rfl (wl (FJ (f:=Ec) ((Hd ds i)++x.funs) ((No hx).symm)) (C3)))⟩)))))))))
 (try simp only[sd,se] at c1);refine Bf (As (Aw (B2 (Ce (i:=0) [7] O (Dx ⟨O,Ap⟩)) (Bq O (Aq O (BK GB O (List.length_map _)) (Ar Ay 1 [] O (Av O (fun c2=>?_) (fun c2=>?_))))))))
 ·(try simp only[sd,se] at c2);refine Aw (Aq O (BC O O (JD ) O) (Ar Ay 1 [] O (Az (⟨O,_,_,⟨_,_,O,O,O⟩,(List.nil_sublist _),?_⟩))))
  all_goals exact⟨rfl,rfl⟩
 (try simp only[sd,se] at c2);have hn0:((Hd ds i).length:Int)≠0:=by simpa using c2
 have hm0:0≤w.tmod ((Hd ds i).length:Int):=Int.tmod_nonneg _ h2.1;have hm1:w.tmod ((Hd ds i).length:Int)<((Hd ds i).length:Int):=Int.tmod_lt_of_pos _ An;refine A1 (Aw (Ax Ay 2 [] O (Aq O (XH Aj Aj O An An) (Bq O (Aq O (BK GB O (List.length_map _)) (Aq O (jN O O (by first | decide | assumption | omega)) ?_))))));obtain⟨x,hx⟩:=A6 (l:=(Hd ds i)) (i:=(((w:Int)).tmod (((Hd ds i).length:Nat):Int):Int).toNat) An;have hF:=Zv hs.env h1 hx;refine Aq O (A4 GB O O An (EO hx) (DJ _)) (Aq O (BM Zn O (DJ _)) (BF O (A7 Vx O) fun b10=>Ar Ay 1 [0,1] O (As (Aw (Bq O (Aq O (BK Be O (BQ _)) (Aq O (A0 Gv O O) (Aq O (A3 (i:=0) DN O O (CL _)) (Ar Ay 1 [] O (Av O (fun c3=>?_) (fun c3=>?_)))))))))))
 ·(try simp only[sd,se] at c3);refine Aw (Aq O (BC O O (JD ) O) (Ar Ay 1 [] O (Az (⟨O,_,_,⟨_,_,O,O,O⟩,(List.nil_sublist _),?_⟩))))
  all_goals exact⟨rfl,rfl⟩
 (try simp only[sd,se] at c3);obtain⟨hsp,hlf⟩:=dq hF hs.ok hs.sz;obtain⟨q,c2,hr1,hr2⟩:=jY hs.env hsp;refine A1 (Aw (Ax Ay 2 [] O (Aq O (A3 (i:=0) DN O O (CL _)) (Aq O (CY (lo:=0) (hi:=(x.arity:Int).toNat) Be O (CF (Bv _)) O ⟨_,pI (by have:=hF.lo;omega)⟩ (Nat.zero_le _) AQ (Mx xs ((x.arity:Int).toNat))) (Ar Ay 1 [] O (Aw (Ax Ay 2 [] O (Aq O (Bu (i:=0) IY O O (Db _) (Cl _)) (Bq O (Aq O (BC O O (lC ds FN x.tree (xs.take ((x.arity:Int).toNat)) hs.env hlf (jX hs.env hsp).ns) O) (Ax Ay 4 [] O (BF O (A7 Bw O) fun b11=>Ar Ay 3 [0,1] O (Aw (YS O O O (.inl ⟨O,O,O⟩) aR (DF _) fun bc=>Ar Ay 1 [] O (Aw (Ax Ay 2 [] O (Aq O (Bu (i:=2) IY O O (Db _) (Cl _)) (Ax Ay 2 [] O ?_))))))))))))))))));refine Aq O (B9 [0] O (.inl ⟨O,O,O⟩) (jm ds FN bc x.tree (xs.take ((x.arity:Int).toNat)) NB c2 q hs.env hlf hr1) ⟨_,_,O,O,O⟩ Am O (.inl O)) (Ax Ay 3 [] O (BF O (A7 Bw O) fun b15=>Ar Ay 2 [0,1] O (As (Au Ay 4 [1] O (Av O (fun c4=>?_) (fun c4=>?_))))))
 ·(try simp only[sd,se] at c4);refine As (BS [] 6 (fun y=>y= .p (.bool (((((LD (Gn ds B1 FN x.tree (xs.take ((x.arity:Int).toNat)) 20000)).2.2:Int)==(0:Int))||(((LD (Gn ds B1 FN x.tree (xs.take ((x.arity:Int).toNat)) 20000)).2.2:Int)==(11:Int)))&&true))) ?_ ?_)
  ·refine A2 (Ax Ay 3 [] O (BL 85 O (fun g1=>?_) (fun g1=>?_)))
   ·(try simp only[sd,se] at g1);exact Ax Ay 4 [] O (BB O (BC O O (JD ) O) (Ar Ay 2 [] O ⟨O,O,AK,AI,Ap⟩))
   (try simp only[sd,se] at g1);refine Ax Ay 4 [] O (BL 89 O (fun g2=>?_) (fun g2=>?_))
   ·(try simp only[sd,se] at g2);exact BB O (BC O O (JD ) O) (Ar Ay 2 [] O ⟨O,O,AK,AI,Ap⟩)
   (try simp only[sd,se] at g2);exact Ar Ay 3 [] O ⟨O,O,AK,AI,Ap⟩
  rintro _ rfl;refine Az (⟨O,_,_,⟨_,_,O,O,O⟩,(List.nil_sublist _),?_⟩)
  all_goals exact⟨by show (.p (.bool (((((LD (Gn ds B1 FN x.tree (xs.take ((x.arity:Int).toNat)) 20000)).2.2:Int)==(0:Int))||(((LD (Gn ds B1 FN x.tree (xs.take ((x.arity:Int).toNat)) 20000)).2.2:Int)==(11:Int)))&&true)):AV)=_;refine pB ?_;rcases gr (Gn ds B1 FN x.tree (xs.take x.arity.toNat) 20000) with h | h<;>simp[h],rfl⟩
 (try simp only[sd,se] at c4);have hw:=iv hs.env hsp hr1 (by simpa using c4);refine A1 (As (BS [] 6 (fun y=>y= .p (.bool ((((((LD (Gn ds B1 FN x.tree (xs.take ((x.arity:Int).toNat)) 20000)).2.2:Int)==(0:Int))&&(((LD (Gn ds B1 FN x.tree (xs.take ((x.arity:Int).toNat)) 20000)).2.1)==q.isSome))&&(NV ((LD (Gn ds B1 FN x.tree (xs.take ((x.arity:Int).toNat)) 20000)).1) (q.getD Bc)))&&true))) ?_ ?_))
 ·refine A2 (Ax Ay 3 [] O (BL 94 O (fun g1=>?_) (fun g1=>?_)))
  ·(try simp only[sd,se] at g1);refine Ax Ay 2 [] O (BB O (Q3 sL O O) (Ax Ay 2 [] O (BL 99 O (fun g2=>?_) (fun g2=>?_))))
   ·(try simp only[sd,se] at g2);refine Ax Ay 2 [2,0] O (BB O (BC O O (NI _ ((LD (Gn ds B1 FN x.tree (xs.take ((x.arity:Int).toNat)) 20000)).1) (q.getD Bc) (Nat.le_refl _) (by rw[hw];exact(CM.1 hr2).nd)) O) (Ax Ay 2 [] O (BL 104 O (fun g3=>?_) (fun g3=>?_))))
    ·(try simp only[sd,se] at g3);exact BB O (BC O O (JD ) O) (Ar Ay 2 [] O ⟨O,O,AK,AI,Ap⟩)
    (try simp only[sd,se] at g3);exact Ar Ay 3 [] O ⟨O,O,AK,AI,Ap⟩
   (try simp only[sd,se] at g2);exact Ar Ay 8 [] O ⟨O,O,AK,AI,Ap⟩
  (try simp only[sd,se] at g1);exact Ar Ay 13 [] O ⟨O,O,AK,AI,Ap⟩
 rintro _ rfl;refine Az (⟨O,_,_,⟨_,_,O,O,O⟩,(List.nil_sublist _),?_⟩)
 all_goals exact⟨by show (.p (.bool ((((((LD (Gn ds B1 FN x.tree (xs.take ((x.arity:Int).toNat)) 20000)).2.2:Int)==(0:Int))&&(((LD (Gn ds B1 FN x.tree (xs.take ((x.arity:Int).toNat)) 20000)).2.1)==q.isSome))&&(NV ((LD (Gn ds B1 FN x.tree (xs.take ((x.arity:Int).toNat)) 20000)).1) (q.getD Bc)))&&true)):AV)=_;refine pB ?_;rw[hw];simp[GC],rfl⟩
end Go.Proofs.YtboammbpdaoojaaGreat
