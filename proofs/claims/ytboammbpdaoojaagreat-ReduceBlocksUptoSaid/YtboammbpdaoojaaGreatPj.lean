/- Part of the proofs: an abstract program logic, plain models and contracts of functions. -/
import Derived.Test.YtboammbpdaoojaaGreatPi
import Derived.Test.YtboammbpdaoojaaGreatPd
import Derived.Test.YtboammbpdaoojaaGreatPb
set_option linter.unusedVariables false
set_option linter.unusedSimpArgs false
set_option maxRecDepth 100000
namespace Go.Proofs.YtboammbpdaoojaaGreat
open Go.Abs Go.Eu
theorem Q7:∀(t:Tm) (vars params metas levels:Int),(Nd t)→(size t<1000000)→GC Tryz.prog 55 [.agg ((BO t).map .p),.p (I vars),.p (I params),.p (I metas),.p (I levels)] (fun v=>∃e:Int,v= .p (I e)∧(e=0→wf (max vars 0) metas 0 t)):=by
 intro t vars params metas levels h1 h2;refine A6 Tryz.func55 O qF (n:=28) O O (Az (BG O (BP O) fun b5=>As Ay 1 [] O (Au (Az (Ax Ay 2 [0] O (Ar O (FR O O) (Ax Ay 3 [] O (Dk O O (CC O O (iw _ t 0 (max (vars:Int) (0:Int)) params metas levels (Nat.le_refl _) h1 Ao Aa) (.inl O)) ?_))))))));rintro _ ⟨e,rfl,he⟩;refine As Ay 1 [] O (Av Ay 2 [] O (Aw O (fun c=>?_) (fun c=>?_)))
 ·(try simp only[sd,se] at c);refine Av Ay 2 [] O (A1 (⟨O,_,[],Bl O,List.nil_sublist _,⟨⟨_,O,?_⟩,O⟩⟩));exact fun h=>absurd h Al
 (try simp only[sd,se] at c);refine A2 (Au (Az (Ar O (BU (i:=0) Ba O O Ah) (Ar O (BF O O (MS _ t (Nat.le_refl _) h1) O) (As Ay 1 [] O (Aw O (fun c1=>?_) (fun c1=>?_)))))))
 ·(try simp only[sd,se] at c1);refine Av Ay 1 [] O (A1 (⟨O,_,[],Bl O,List.nil_sublist _,⟨⟨_,O,?_⟩,O⟩⟩));exact fun h=>absurd h An
 (try simp only[sd,se] at c1);refine A2 (Au (Az (Ar O (BU (i:=0) Ba O O Ah) (Ar O (BF O O (OL _ t (Nat.le_refl _) h1) O) (As Ay 1 [] O (Aw O (fun c2=>?_) (fun c2=>?_)))))))
 ·(try simp only[sd,se] at c2);refine Av Ay 1 [] O (A1 (⟨O,_,[],Bl O,List.nil_sublist _,⟨⟨_,O,?_⟩,O⟩⟩));exact fun h=>absurd h An
 (try simp only[sd,se] at c2);refine A2 (Av Ay 1 [] O (A1 (⟨O,_,[],Bl O,List.nil_sublist _,⟨⟨_,O,?_⟩,O⟩⟩)));exact fun _=>he Ao
theorem SM:∀(ds:List CK) (d:CK),(HT ds)→(Nn d)→GC Tryz.prog 135 [.p (.lst (List.map Bk ds)),.agg ((Bk d).map .p)] (Yw):=by
 intro ds d h1 h2;have hn:=M6 d;have hcl:=h2.cl;have hfl:=h2.fl;refine A6 Tryz.func135 O od (n:=44) O O (Az (BG O (BP O) fun b3=>As Ay 1 [] O (Az (Ar O (BU (i:=0) FM O O Ae) (Ar O (BF O O (MO d h2.cl h2.fl h2.nm) O) (As Ay 1 [] O (Au (Av Ay 1 [] O (BA (Be (α:=Nat) (fun i=>⟨44,mk [(0,.p (.lst (List.map Bk ds))),(5,.p (.lst (List.map Gi (C6 d)))),(6,.p (I (i:Int)))],[],[]⟩) (fun i=>(C6 d).length - i) (fun i=>i≤(C6 d).length) 0 AQ ?_ ?_))))))))))
 ·exact BY ⟨we O,we O,we O,Aq⟩ (leH (is:=[]) O (C7))
 rintro i hC
 try simp only at hC
 have hi:=hC;refine Au (Az (Ax Ay 2 [] O (Ar O (BM G0 O (List.length_map _)) (As Ay 1 [] O (Aw O (fun c=>?_) (fun c=>?_))))))
 ·(try simp only[sd,se] at c);refine A2 (Au (BA (Au (Az (Ax Ay 2 [] O ?_)))));obtain⟨x,hx⟩:=A7 (l:=C6 d) (i:=i) Ao;refine Ar O (A5 G0 O O Ao (N2 hx) (O)) (Ar O (FE Lu O) (Dk O O (CC O O (ct x (Z5 h2 hx)) (.inl O)) ?_));rintro _ ⟨q,rfl⟩;refine As Ay 1 [] O (Aw O (fun c1=>?_) (fun c1=>?_))
  ·(try simp only[sd,se] at c1);refine Av Ay 1 [] O (A1 (⟨O,_,_,⟨_,_,O,O,O⟩,(List.nil_sublist _),?_⟩))
   all_goals exact⟨⟨_,rfl⟩,rfl⟩
  (try simp only[sd,se] at c1);refine A2 (Az (Ax Ay 3 [] O (Ar O (A5 G0 O O Ao (N2 hx) (O)) (Ar O (FE Lu O) (Ar O (BF O O (Lf ds x h1) O) (Ax Ay 3 [] O (BG O (A8 Hk O) fun b7=>As Ay 2 [0,1] O (Au (BR [0,5,6] 43 Gd ?_ ?_)))))))))
  ·refine Bu (fun k=>false) Dt (BQ Ay 3 [] O (Dx 34 O (fun g=>?_) (fun g=>?_)))
   ·(try simp only[sd,se] at g);exact Bn Ay 9 [] O (⟨O,O,AK,⟨_,O⟩,⟨O,O,O,Aq⟩⟩)
   (try simp only[sd,se] at g);exact BQ Ay 2 [] O (Cc O (fun _=>Ca (lo:=0) (hi:=i) G0 O (CF (J9 _)) O ⟨_,O⟩ (Nat.zero_le _) AR (YA (f:=Gi) (C6 d) i)) Aq (BQ Ay 2 [] O (Cc O (fun _=>A5 G0 O O Ao (N2 hx) (O)) Aq (Cc O (fun _=>FE Lu O) Aq (Cc O (fun _=>BF O O (Ui ((C6 d).take i) x Aj) O) Aq (Bn Ay 1 [] O (⟨O,O,AK,⟨_,O⟩,⟨O,O,O,Aq⟩⟩)))))))
  rintro _ ⟨q1,rfl⟩;refine Aw O (fun c2=>?_) (fun c2=>?_)
  ·(try simp only[sd,se] at c2);refine Av Ay 1 [] O (A1 (⟨O,_,_,⟨_,_,O,O,O⟩,(List.nil_sublist _),?_⟩))
   all_goals exact⟨⟨_,rfl⟩,rfl⟩
  (try simp only[sd,se] at c2);refine A2 (A4 (As Ay 3 [] O ?_));refine⟨(i+1),AU,by omega,BY ⟨we rfl,we rfl,we rfl,trivial⟩ (leH (is:=[]) rfl (C7))⟩
 (try simp only[sd,se] at c);refine Bg (Av Ay 1 [] O (A1 (⟨O,_,_,⟨_,_,O,O,O⟩,(List.nil_sublist _),?_⟩)))
 all_goals exact⟨⟨_,rfl⟩,rfl⟩
theorem gY:∀(t:Tm),(US t)→GC Tryz.prog 115 [.agg ((BO t).map .p)] (fun v=>∃(l:List Tm) (q:Tm),v= .tup [.p (.lst (BE l)),TV q]∧l.length<1000000):=by
 intro t h1;have hsz:=h1.sz;refine A6 Tryz.func115 O j3 (n:=27) O O (Az (BG O (BP O) fun b1=>VV O (BG O (A8 Bz O) fun b3=>Bj O (Av Ay 1 [] O (Au (BA (BI (EG (t:=4) (sz:=5) O) ?_)))))));refine Be (α:=Tm×List Tm×Option Nat×Nat) (fun(y,l,o,cp)=>⟨27,mk [(1,.ptr b1 0),(3,.ptr b3 0),(4,.vs o (BE l).length cp)],[.vec o 5 (BE l) cp,.box b3 [.p (I 0),.p (I 0),.p (.str ⟨#[]⟩),.p (.nils),.p (.nils)],.box b1 ((BO y).map .p)],[]⟩) (fun(y,l,o,cp)=>size y) (fun(y,l,o,cp)=>Nd y∧l.length+size y≤size t) ⟨t,[],none,0⟩ (⟨h1.nd,by simp⟩) ?_ ?_
 ·exact BY ⟨we O,we O,we O,Aq⟩ (leH (is:=[0,1,2]) O (wl (oe O) (wl (oe O) (wl (oe O) (C7)))))
 rintro⟨y,l,o,cp⟩ hC
 try simp only at hC
 have hl0:l.length<1000000:=by have:=hC.2;omega
 refine Au (Au ?_);obtain⟨yk,yi,yn,yl,ys⟩:=y;refine BR [1,3,4] 13 (fun y=>y= .p (.bool (((yk:Int)==(6:Int))&&(((ys.length:Nat):Int)==(2:Int))))) ?_ ?_
 ·refine A4 (Ax Ay 4 [2] O (BL 8 O (fun g=>?_) (fun g=>?_)))
  ·(try simp only[sd,se] at g);exact Ax Ay 2 [2] O (BC O (BM Bf O (BS _)) (As Ay 2 [] O (⟨O,O,AK,AI,⟨O,O,O,Aq⟩⟩)))
  (try simp only[sd,se] at g);exact As Ay 5 [] O (⟨O,O,AK,AI,⟨O,O,O,Aq⟩⟩)
 rintro _ rfl;refine Aw O (fun c=>?_) (fun c=>?_)
 ·(try simp only[sd,se] at c);refine A2 (BA (Az (Ax Ay 3 [2] O ?_)));obtain⟨x,hx⟩:=A7 (l:=ys) (i:=0) (by first | omega | (simp at c;omega));refine Ar O (A5 Bf O O Ao (Bc hx) (BD _)) (Ar O (BN Ba O (BD _)) ?_);obtain⟨xk,xi,xn,xl,xs⟩:=x;refine Ar O (Bo Bf Bz O O O O O) (FF O O (CQ (i:=0) (rows':=BE [(.mk xk xi xn xl xs:Tm)]) Bf Bf Bz O O O O O O (Bw _) AD (Jl l [(.mk xk xi xn xl xs:Tm)])) fun o1 cp1=>As Ay 1 [] O (A4 (Ax Ay 2 [2] O ?_)));obtain⟨x1,hx1⟩:=A7 (l:=ys) (i:=1) (by first | omega | (simp at c;omega));refine Ar O (A5 Bf O O Ao (Bc hx1) (BD _)) (As Ay 2 [2,1] O ?_);refine⟨⟨x1,l++[(.mk xk xi xn xl xs:Tm)],o1,cp1⟩,(by have:=Ce hx1;simp only[size];omega),⟨DW hC.1.2.2.2.2.1 hx1,by have:=Ce hx1;have:=hC.2;simp only[size] at *;simp only[List.length_append,List.length_cons,List.length_nil];omega⟩,BY ⟨we rfl,we rfl,we rfl,trivial⟩ (leH (is:=[0,1,2]) rfl (wl (oe rfl) (wl (oe rfl) (wl (oe rfl) (C7)))))⟩
 (try simp only[sd,se] at c);refine Bg (Au (Bu (fun k=>false) Dt (Bn Ay 4 [2,1,0] O (BI (Cj (i:=0) [4,25,2] O (D6 ⟨O,O,O,Aq⟩)) (A1 (⟨O,_,_,⟨_,_,O,O,⟨_,_,O,(BB (i:=0) Ba O O O),O⟩⟩,(List.nil_sublist _),?_⟩))))))
 all_goals exact⟨⟨l,(.mk yk yi yn yl ys:Tm),rfl,by have:=hC.2;omega⟩,rfl⟩
theorem Se:∀(n:Nat) (s:Pg) (t:Tm),(size t≤n)→(Nd t)→(HT s.env)→(s.own.length<9000000)→(Nn s.d)→GC Tryz.prog 172 [.agg ((GL s).map .p),.agg ((BO t).map .p)] (Yw):=by
 intro n
 induction n with
 | zero=>intro s t h;cases t;simp[size] at h
 | succ n ih =>
  intro s t h1 h2 h3 h4 h5;have h3l:=h3.len;obtain⟨tk,ti,tn,tl,ts⟩:=t;have hk:=h2.2.2.2.2.1;have hkl:=h2.2.2.2.1;simp only[Dd] at hkl;simp only[size] at h1;refine A6 Tryz.func172 O oD (n:=59) O O (Az (BG O (BP O) fun b2=>BG O (BP O) fun b3=>As Ay 1 [] O (Au (Av Ay 3 [0] O (BR [2,3] 12 (fun _=>True) ?_ ?_)))))
  ·refine Aw O (fun c=>?_) (fun c=>?_)
   ·(try simp only[sd,se] at c);refine Az (Ar O (A0 Nr O O) (Ar O (A3 (i:=1) eJ O O (Jq _)) (Ax Ay 2 [0] O (Ar O (BF O O (Lf s.env tn h3) O) (Ax Ay 3 [] O (BG O (A8 Hk O) fun b5=>As Ay 2 [0,1] O (Au (Av Ay 2 [] O (Aw O (fun c1=>?_) (fun c1=>?_))))))))))
    ·(try simp only[sd,se] at c1);refine Au (Az (Ar O (A0 Nr O O) (Ar O (A3 (i:=2) Wr O O (Wk _)) (Ax Ay 2 [1] O (Ar O (BF O O (Ui s.own tn h4) O) (As Ay 1 [] O (Aw O (fun c2=>?_) (fun c2=>?_))))))))
     ·(try simp only[sd,se] at c2);refine Av Ay 1 [] O (A1 (⟨O,_,_,⟨_,_,O,O,O⟩,(List.nil_sublist _),?_⟩))
      all_goals exact⟨⟨_,rfl⟩,rfl⟩
     (try simp only[sd,se] at c2);refine A2 (A4 (Ar O (A0 Nr O O) (Ar O (By (i:=2) FM O O (Tp _) (Cl _)) (Ar O (A0 Nr O O) (Ar O (A3 (i:=2) eJ O O (Jq _)) (Ar O (BM Hj O (List.length_map _)) (Ax Ay 2 [1] O (Ar O (BF O O (TS s.d (s.env.length:Nat) tn h5.cl h5.fl) O) (As Ay 1 [0,1] O (Az (Ax Ay 2 [1] O (Ar O (BM EZ O (List.length_map _)) (Ar O (A0 Fe O O) (Ar O (A3 (i:=0) DH O O (Hd _)) (As Ay 1 [] O (Aw O (fun c3=>?_) (fun c3=>?_)))))))))))))))))
     ·(try simp only[sd,se] at c3);refine Av Ay 1 [] O (A1 (⟨O,_,_,⟨_,_,O,O,O⟩,(List.nil_sublist _),?_⟩))
      all_goals exact⟨⟨_,rfl⟩,rfl⟩
     (try simp only[sd,se] at c3);exact A2 (⟨O,O,(B4 (is:=[1,2]) O),Aq,⟨O,O,Aq⟩⟩)
    (try simp only[sd,se] at c1);refine A2 (Az (Ax Ay 2 [1] O (Ar O (BM EZ O (List.length_map _)) (Ar O (A0 Fe O O) (Ar O (A3 (i:=0) DH O O (Hd _)) (As Ay 1 [] O (Aw O (fun c2=>?_) (fun c2=>?_))))))))
    ·(try simp only[sd,se] at c2);refine Av Ay 1 [] O (A1 (⟨O,_,_,⟨_,_,O,O,O⟩,(List.nil_sublist _),?_⟩))
     all_goals exact⟨⟨_,rfl⟩,rfl⟩
    (try simp only[sd,se] at c2);exact A2 (⟨O,O,(B4 (is:=[1,2]) O),Aq,⟨O,O,Aq⟩⟩)
   (try simp only[sd,se] at c);exact A2 (⟨O,O,(List.Sublist.refl _),Aq,⟨O,O,Aq⟩⟩)
  intro _ _;refine Au (Av Ay 1 [] O (BA (Be (α:=Nat) (fun i=>⟨59,mk [(2,.ptr b2 0),(3,.ptr b3 0),(7,.p (I (i:Int)))],[.box b3 [.p (I tk),.p (I ti),.p (.str tn),.p (.lst (List.map B0 tl)),.p (.lst (BE ts))],.box b2 ((GL s).map .p)],[]⟩) (fun i=>ts.length - i) (fun i=>i≤ts.length) 0 AQ ?_ ?_)))
  ·exact BY ⟨we O,we O,we O,Aq⟩ (leH (is:=[0,1]) O (wl (oe O) (wl (oe O) (C7))))
  rintro i hC
  try simp only at hC
  have hi:=hC;refine Au (Az (Ax Ay 3 [0] O (Ar O (BM Bf O (BS _)) (As Ay 1 [] O (Aw O (fun c=>?_) (fun c=>?_))))))
  ·(try simp only[sd,se] at c);refine A2 (Au (BA (Au (Bu (fun k=>Nat.beq k 6) Dt (BQ Ay 4 [1,0] O ?_)))));obtain⟨x,hx⟩:=A7 (l:=ts) (i:=i) Ao;refine BH O (fun _=>A5 Bf O O Ao (Bc hx) (BD _)) Aq (BH O (fun _=>BN Ba O (BD _)) Aq (J3 [] O O (CC O O (ih s x (by have:=Ce hx;omega) (DW hk hx) h3 h4 h5) (.inl O)) Ak (⟨_,0,O⟩) AB ?_));rintro _ ⟨e,rfl⟩;refine⟨Aq,?_⟩;refine Bn Ay 1 [] O (Av Ay 2 [] O (Aw O (fun c1=>?_) (fun c1=>?_)))
   ·(try simp only[sd,se] at c1);refine Av Ay 2 [] O (A1 (⟨O,_,_,⟨_,_,O,O,O⟩,(List.nil_sublist _),?_⟩))
    all_goals exact⟨⟨_,rfl⟩,rfl⟩
   (try simp only[sd,se] at c1);refine A2 (A4 (As Ay 3 [] O ?_));refine⟨(i+1),AU,by omega,BY ⟨we rfl,we rfl,we rfl,trivial⟩ (leH (is:=[0,1]) rfl (wl (oe rfl) (wl (oe rfl) (C7))))⟩
  (try simp only[sd,se] at c);refine Bg (Av Ay 1 [] O (A1 (⟨O,_,_,⟨_,_,O,O,O⟩,(List.nil_sublist _),?_⟩)))
  all_goals exact⟨⟨_,rfl⟩,rfl⟩
theorem X1:∀(d:CK),(Nn d)→GC Tryz.prog 134 [.agg ((Bk d).map .p)] (fun v=>∃ee:Int,v= .p (I ee)∧(ee=0→Uk d)):=by
 intro d h1;have hfl:=h1.fl;have hcl:=h1.cl;have hrl:=h1.rl;refine A6 Tryz.func134 O ni (n:=96) O O (Az (BG O (BP O) fun b1=>As Ay 1 [] O (Au (Au (BR [1] 16 (fun y=>y= .p (.bool (((decide ((d.params:Int)<(0:Int)))||(decide ((d.params:Int) > (8:Int))))||(decide ((d.fixed:Int)<(0:Int)))))) ?_ ?_)))))
 ·refine A4 (Ar O (A0 Cy O O) (Ar O (A3 (i:=0) DH O O (Cq _)) (Ax Ay 2 [] O (BL 7 O (fun g=>?_) (fun g=>?_)))))
  ·(try simp only[sd,se] at g);exact As Ay 9 [] O (⟨O,O,AK,AI,⟨O,Aq⟩⟩)
  (try simp only[sd,se] at g);refine BC O (A0 Cy O O) (BC O (A3 (i:=0) DH O O (Cq _)) (Ax Ay 3 [] O (BL 12 O (fun g1=>?_) (fun g1=>?_))))
  ·(try simp only[sd,se] at g1);exact As Ay 4 [] O (⟨O,O,AK,AI,⟨O,Aq⟩⟩)
  (try simp only[sd,se] at g1);exact BC O (A0 Cy O O) (BC O (A3 (i:=0) DH O O (Co _)) (As Ay 2 [] O (⟨O,O,AK,AI,⟨O,Aq⟩⟩)))
 rintro _ rfl;refine Aw O (fun c=>?_) (fun c=>?_)
 ·(try simp only[sd,se] at c);refine Av Ay 1 [] O (A1 (⟨O,_,_,⟨_,_,O,O,O⟩,(List.nil_sublist _),?_⟩))
  all_goals exact⟨⟨_,rfl,fun h=>absurd h An⟩,rfl⟩
 (try simp only[sd,se] at c);have hf0:0≤d.fixed:=by omega
 refine A2 (Au (Au (BR [1] 37 Gd ?_ ?_)))
 ·refine A4 (Ar O (A0 Cy O O) (Ar O (A3 (i:=0) Hl O O (CB _)) (Ar O (BM HN O (List.length_map _)) (Ax Ay 2 [] O (BL 21 O (fun g=>?_) (fun g=>?_))))))
  ·(try simp only[sd,se] at g);exact As Ay 16 [] O (⟨O,O,AK,⟨_,O⟩,⟨O,Aq⟩⟩)
  (try simp only[sd,se] at g);refine BC O (A0 Cy O O) (BC O (A3 (i:=0) DH O O (D3 _)) (Ax Ay 2 [] O (BL 25 O (fun g1=>?_) (fun g1=>?_))))
  ·(try simp only[sd,se] at g1);refine BC O (A0 Cy O O) (BC O (A3 (i:=0) Gj O O (B6 _)) (BC O (BM Gn O (List.length_map _)) (Ax Ay 2 [] O (BL 30 O (fun g2=>?_) (fun g2=>?_)))))
   ·(try simp only[sd,se] at g2);exact As Ay 7 [] O (⟨O,O,AK,⟨_,O⟩,⟨O,Aq⟩⟩)
   (try simp only[sd,se] at g2);exact BC O (A0 Cy O O) (BC O (A3 (i:=0) Gj O O (B6 _)) (BC O (BM Gn O (List.length_map _)) (As Ay 4 [] O (⟨O,O,AK,⟨_,O⟩,⟨O,Aq⟩⟩))))
  (try simp only[sd,se] at g1);exact As Ay 12 [] O (⟨O,O,AK,⟨_,O⟩,⟨O,Aq⟩⟩)
 rintro _ ⟨q,rfl⟩;refine Aw O (fun c1=>?_) (fun c1=>?_)
 ·(try simp only[sd,se] at c1);refine Av Ay 1 [] O (A1 (⟨O,_,_,⟨_,_,O,O,O⟩,(List.nil_sublist _),?_⟩))
  all_goals exact⟨⟨_,rfl,fun h=>absurd h An⟩,rfl⟩
 (try simp only[sd,se] at c1);refine A2 (Au (Av Ay 1 [] O (BA ?_)));refine Be (α:=Nat) (fun i=>⟨96,mk [(1,.ptr b1 0),(3,.p (I (i:Int)))],[.box b1 ((Bk d).map .p)],[]⟩) (fun i=>d.funs.length - i) (fun i=>i≤d.funs.length∧(∀j,j<i→∀x,d.funs[j]?=some x→1≤x.arity∧x.arity≤16)) 0 (⟨by omega,fun j h=>by omega⟩) ?_ ?_
 ·exact BY ⟨we O,we O,Aq⟩ (leH (is:=[0]) O (wl (oe O) (C7)))
 rintro i hC
 try simp only at hC
 obtain⟨hi,hC⟩:=hC;refine Au (Az (Ax Ay 2 [] O (Ar O (A3 (i:=0) Gj O O (B6 _)) (Ar O (BM Gn O (List.length_map _)) (As Ay 1 [] O (Aw O (fun c2=>?_) (fun c2=>?_)))))))
 ·(try simp only[sd,se] at c2);obtain⟨x,hx⟩:=A7 (l:=d.funs) (i:=i) Ao;refine A2 (Au (BA (Au (BR [1,3] 60 (fun y=>∃q:Bool,y= .p (.bool q)∧(q=false→1≤x.arity∧x.arity≤16)) ?_ ?_))))
  ·refine A4 (Ar O (A0 Cy O O) (Ar O (A3 (i:=0) Gj O O (B6 _)) (Bt O (Ar O (A5 Gn O O Ao (D7 hx) (DF _)) (Ar O (Bv GX O O) (Ar O (C0 DH O (CI _)) (Ax Ay 2 [] O (BL 52 O (fun g=>?_) (fun g=>?_)))))))))
   ·(try simp only[sd,se] at g);exact As Ay 8 [] O (⟨O,O,AK,(by refine⟨_,rfl,fun h=>?_⟩;first | (exact absurd h An) | (simp only[decide_eq_false_iff_not] at h;omega) | omega),⟨O,O,Aq⟩⟩)
   (try simp only[sd,se] at g);exact BC O (A0 Cy O O) (BC O (A3 (i:=0) Gj O O (B6 _)) (BC O (BZ O) (BC O (A5 Gn O O Ao (D7 hx) (DF _)) (BC O (Bv GX O O) (BC O (C0 DH O (CI _)) (As Ay 2 [] O (⟨O,O,AK,(by refine⟨_,rfl,fun h=>?_⟩;first | (exact absurd h An) | (simp only[decide_eq_false_iff_not] at h;omega) | omega),⟨O,O,Aq⟩⟩)))))))
  rintro _ ⟨q,rfl,hq⟩;refine Aw O (fun c3=>?_) (fun c3=>?_)
  ·(try simp only[sd,se] at c3);refine Av Ay 1 [] O (A1 (⟨O,_,_,⟨_,_,O,O,O⟩,(List.nil_sublist _),?_⟩))
   all_goals exact⟨⟨_,rfl,fun h=>absurd h An⟩,rfl⟩
  (try simp only[sd,se] at c3);have hq3:=hq (by simpa using c3);refine A2 (A4 (As Ay 3 [] O (⟨(i+1),AU,⟨by omega,Cw (p:=fun _ (x:Hi)=>1≤x.arity∧x.arity≤16) hC hx hq3⟩,BY ⟨we rfl,we rfl,trivial⟩ (leH (is:=[0]) rfl (wl (oe rfl) (C7)))⟩)))
 (try simp only[sd,se] at c2);refine Bg (Au (Au (BR [] 95 (fun y=>∃q:Bool,y= .p (.bool q)∧(q=false→d.kind=3→d.fixed≤1000000)) ?_ ?_)))
 ·refine A4 (Ar O (A0 Cy O O) (Ar O (A3 (i:=0) DH O O (D3 _)) (Ax Ay 2 [] O (BL 64 O (fun g=>?_) (fun g=>?_)))))
  ·(try simp only[sd,se] at g);refine Ax Ay 2 [] O (BC O (A3 (i:=0) DH O O (De _)) (BC O (A0 Cy O O) (BC O (A3 (i:=0) DH O O (Cq _)) (Ax Ay 2 [] O (BL 71 O (fun g1=>?_) (fun g1=>?_))))))
   ·(try simp only[sd,se] at g1);refine Ax Ay 2 [] O (BC O (A3 (i:=0) DH O O (De _)) (BC O (A0 Cy O O) (BC O (A3 (i:=0) DH O O (Cq _)) (BC O (ED O O) (Ax Ay 3 [] O (BL 80 O (fun g2=>?_) (fun g2=>?_)))))))
    ·(try simp only[sd,se] at g2);exact As Ay 15 [] O (⟨O,O,AK,(by refine⟨_,rfl,fun h h3=>?_⟩;first | (exact absurd h An) | omega | exact hq (by simpa using h)),Aq⟩)
    (try simp only[sd,se] at g2);refine Ax Ay 2 [] O (BC O (A3 (i:=0) Gk O O (Ck _)) (BC O (BM Bf O (BS _)) (BC O (A0 Cy O O) (BC O (A3 (i:=0) Hl O O (CB _)) (BC O (BM HN O (List.length_map _)) (Ax Ay 3 [] O (BL 90 O (fun g3=>?_) (fun g3=>?_))))))))
    ·(try simp only[sd,se] at g3);exact As Ay 5 [] O (⟨O,O,AK,(by refine⟨_,rfl,fun h h3=>?_⟩;first | (exact absurd h An) | omega | exact hq (by simpa using h)),Aq⟩)
    (try simp only[sd,se] at g3);refine BC O (BU (i:=0) FM O O Ae) (IF O O O O (CC O O (Ss d h1) (.inl O)) ?_);rintro _ ⟨q1,rfl,hq⟩;exact As Ay 3 [] O (⟨O,O,AK,(by refine⟨_,rfl,fun h h3=>?_⟩;first | (exact absurd h An) | omega | exact hq (by simpa using h)),Aq⟩)
   (try simp only[sd,se] at g1);refine Ax Ay 11 [] O (BC O (A3 (i:=0) Gk O O (Ck _)) (BC O (BM Bf O (BS _)) (BC O (A0 Cy O O) (BC O (A3 (i:=0) Hl O O (CB _)) (BC O (BM HN O (List.length_map _)) (Ax Ay 3 [] O (BL 90 O (fun g2=>?_) (fun g2=>?_))))))))
   ·(try simp only[sd,se] at g2);exact As Ay 5 [] O (⟨O,O,AK,(by refine⟨_,rfl,fun h h3=>?_⟩;first | (exact absurd h An) | omega | exact hq (by simpa using h)),Aq⟩)
   (try simp only[sd,se] at g2);refine BC O (BU (i:=0) FM O O Ae) (IF O O O O (CC O O (Ss d h1) (.inl O)) ?_);rintro _ ⟨q1,rfl,hq⟩;exact As Ay 3 [] O (⟨O,O,AK,(by refine⟨_,rfl,fun h h3=>?_⟩;first | (exact absurd h An) | omega | exact hq (by simpa using h)),Aq⟩)
  (try simp only[sd,se] at g);exact As Ay 31 [] O (⟨O,O,AK,(by refine⟨_,rfl,fun h h3=>?_⟩;first | (exact absurd h An) | omega | exact hq (by simpa using h)),Aq⟩)
 rintro _ ⟨q,rfl,hq⟩;refine Aw O (fun c3=>?_) (fun c3=>?_)
 ·(try simp only[sd,se] at c3);refine Av Ay 1 [] O (A1 (⟨O,_,_,⟨_,_,O,O,O⟩,(List.nil_sublist _),?_⟩))
  all_goals exact⟨⟨_,rfl,fun h=>absurd h An⟩,rfl⟩
 (try simp only[sd,se] at c3);have hq4:=hq (by simpa using c3);refine A2 (Av Ay 1 [] O (A1 (⟨O,_,_,⟨_,_,O,O,O⟩,(List.nil_sublist _),?_⟩)))
 all_goals exact⟨⟨_,rfl,fun _=>⟨hf0,II Ao hC,hq4⟩⟩,rfl⟩
theorem XK:∀(d:CK) (k:Int),(Nn d)→(0≤d.fixed∧d.fixed≤1000000)→(0≤k)→(k<d.ctors.length)→GC Tryz.prog 85 [.agg ((Bk d).map .p),.p (I k)] (fun v=>∃e:Int,v= .p (I e)∧0≤e∧e≤1000000):=by
 intro d k h1 h2 h3 h4;have hcl:=h1.cl;refine A6 Tryz.func85 O ny (n:=23) O O (Az (BG O (BP O) fun b2=>As Ay 1 [] O (Az (Ar O (A0 Cy O O) (Ar O (A3 (i:=0) Hl O O (CB _)) (Bt O ?_))))));obtain⟨x,hx⟩:=A7 (l:=d.ctors) (i:=(k:Int).toNat) Ao;refine Ar O (A5 HN O O Ao (EX hx) (D8 _)) (Ar O (Bv Ir O O) (Ar O (DA Ba O (FA _) (BD _)) (Dk O O (CC O O (gY x.type (h1.cs _ (List.mem_of_getElem? hx)).ty) (.inl O)) ?_)));rintro _ ⟨l,q,rfl,hl⟩;refine Ax Ay 3 [] O (BG O (A8 Bz O) fun b6=>As Ay 2 [0,1] O (Az (Bt O (Ar O (BM Bf O (BS _)) (Ar O (A0 Cy O O) (Ar O (A3 (i:=1) DH O O (Co _)) (Ar O (Kh O O Ao Ao) (Ar O (FR O O) (As Ay 1 [] O (A1 (⟨O,_,_,⟨_,_,O,O,O⟩,(List.nil_sublist _),?_⟩)))))))))))
 all_goals exact⟨⟨_,rfl,by omega,by omega⟩,rfl⟩
theorem HB:∀(s:Pg) (t:Tm) (vs ps:Int),(US t)→(HT s.env)→(s.own.length<9000000)→(Nn s.d)→(vs≤549755813888)→GC Tryz.prog 151 [.agg ((GL s).map .p),.agg ((BO t).map .p),.p (I vs),.p (I ps)] (fun v=>∃ee:Int,v= .p (I ee)∧(ee=0→okB t=true)):=by
 intro s t vs ps h1 h2 h3 h4 h5;refine A6 Tryz.func151 O ou (n:=20) O O (Az (BG O (BP O) fun b4=>BG O (BP O) fun b5=>As Ay 1 [] O (Au (Az (Ax Ay 3 [0] O (Dk O O (CC O O (Q7 t vs ps 0 0 h1.nd h1.sz) (.inl O)) ?_))))));rintro _ ⟨e,rfl,he⟩;refine As Ay 1 [] O (Av Ay 2 [] O (Aw O (fun c=>?_) (fun c=>?_)))
 ·(try simp only[sd,se] at c);refine Av Ay 2 [] O (A1 (⟨O,_,_,⟨_,_,O,O,O⟩,(List.nil_sublist _),?_⟩))
  all_goals exact⟨⟨_,rfl,fun h=>absurd h Al⟩,rfl⟩
 (try simp only[sd,se] at c);refine A2 (Az (Ax Ay 2 [1,0] O (Dk O O (CC O O (Se (size t) s t (Nat.le_refl _) h1.nd h2 h3 h4) (.inl O)) ?_)));rintro _ ⟨e1,rfl⟩;refine As Ay 1 [] O (A1 (⟨O,_,_,⟨_,_,O,O,O⟩,(List.nil_sublist _),?_⟩))
 all_goals exact⟨⟨_,rfl,fun _=>ez h1.nd h1.sz h5 (he Ao)⟩,rfl⟩
theorem U8:∀(n:Nat) (a b:FJ),(LO a≤n)→(Hq a)→GC Tryz.prog 173 [.agg ((Ct a).map .p),.agg ((Ct b).map .p)] (fun v=>∃bb:Bool,v= .p (.bool bb)∧(bb=true→Nj a.body b.body=true∧a.branches.length=b.branches.length)):=by
 intro n
 induction n with
 | zero=>intro a b h;have:=PE a;omega
 | succ n ih =>
  intro a b h1 h2;have hal:=h2.bl;refine A6 Tryz.func173 O mL (n:=74) O O (Az (BG O (BP O) fun b2=>BG O (BP O) fun b3=>As Ay 1 [] O (Au (Au (BR [2,3] 36 (fun y=>∃q:Bool,y= .p (.bool q)∧(q=false→a.branches.length=b.branches.length∧Nj a.body b.body=true)) ?_ ?_)))))
  ·refine A4 (Ar O (A0 FP O O) (Ar O (A3 (i:=1) DH O O (Gc _)) (Ar O (A0 FP O O) (Ar O (A3 (i:=0) DH O O (Gc _)) (Ax Ay 2 [] O (BL 13 O (fun g=>?_) (fun g=>?_)))))))
   ·(try simp only[sd,se] at g);exact As Ay 23 [] O (⟨O,O,AK,(by refine⟨_,rfl,fun h=>?_⟩;first | (exact absurd h An) | (simp_all;done) | (simp_all;omega)),⟨O,O,Aq⟩⟩)
   (try simp only[sd,se] at g);refine BC O (A0 FP O O) (BC O (A3 (i:=1) DH O O (DK _)) (BC O (A0 FP O O) (BC O (A3 (i:=0) DH O O (DK _)) (Ax Ay 3 [] O (BL 20 O (fun g1=>?_) (fun g1=>?_))))))
   ·(try simp only[sd,se] at g1);exact As Ay 16 [] O (⟨O,O,AK,(by refine⟨_,rfl,fun h=>?_⟩;first | (exact absurd h An) | (simp_all;done) | (simp_all;omega)),⟨O,O,Aq⟩⟩)
   (try simp only[sd,se] at g1);refine BC O (A0 FP O O) (BC O (By (i:=1) Ba O O (E9 _) (BD _)) (BC O (A0 FP O O) (BC O (By (i:=0) Ba O O (E9 _) (BD _)) (BC O (BF O O (NJ _ a.body b.body (Nat.le_refl _) h2.body.nd) O) (Ax Ay 3 [] O (BL 28 O (fun g2=>?_) (fun g2=>?_)))))))
   ·(try simp only[sd,se] at g2);exact As Ay 8 [] O (⟨O,O,AK,(by refine⟨_,rfl,fun h=>?_⟩;first | (exact absurd h An) | (simp_all;done) | (simp_all;omega)),⟨O,O,Aq⟩⟩)
   (try simp only[sd,se] at g2);exact BC O (A0 FP O O) (BC O (A3 (i:=1) KE O O (CG _)) (BC O (BM Jb O (F6 _)) (BC O (A0 FP O O) (BC O (A3 (i:=0) KE O O (CG _)) (BC O (BM Jb O (F6 _)) (As Ay 2 [] O (⟨O,O,AK,(by refine⟨_,rfl,fun h=>?_⟩;first | (exact absurd h An) | (simp_all;done) | (simp_all;omega)),⟨O,O,Aq⟩⟩)))))))
  rintro _ ⟨q,rfl,hq⟩;refine Aw O (fun c=>?_) (fun c=>?_)
  ·(try simp only[sd,se] at c);refine Av Ay 1 [] O (A1 (⟨O,_,_,⟨_,_,O,O,O⟩,(List.nil_sublist _),?_⟩))
   all_goals exact⟨⟨_,rfl,fun h=>absurd h An⟩,rfl⟩
  (try simp only[sd,se] at c);obtain⟨hqa,hqb⟩:=hq (by simpa using c);refine A2 (Au (Av Ay 1 [] O (BA (Be (α:=Nat) (fun i=>⟨74,mk [(2,.ptr b2 0),(3,.ptr b3 0),(5,.p (I (i:Int)))],[.box b3 ((Ct b).map .p),.box b2 ((Ct a).map .p)],[]⟩) (fun i=>a.branches.length - i) (fun i=>i≤a.branches.length) 0 AQ ?_ ?_))))
  ·exact BY ⟨we O,we O,we O,Aq⟩ (leH (is:=[0,1]) O (wl (oe O) (wl (oe O) (C7))))
  rintro i hC
  try simp only at hC
  have hi:=hC;refine Au (Az (Ax Ay 2 [] O (Ar O (A3 (i:=1) KE O O (CG _)) (Ar O (BM Jb O (F6 _)) (As Ay 1 [] O (Aw O (fun c1=>?_) (fun c1=>?_)))))))
  ·(try simp only[sd,se] at c1);obtain⟨x,hx⟩:=A7 (l:=a.branches) (i:=i) Ao;obtain⟨x1,hx1⟩:=A7 (l:=b.branches) (i:=i) Ao;refine A2 (Au (BA (Au (jf [.val (.ptr b2 (0+7)),.val (.p (.lst (LJ a.branches))),.val (.p (I (i:Int))),.val (.ref (Gw x)),.val (.agg ((Gw x).map .p)),.val (.ptr b3 (0+7)),.val (.p (.lst (LJ b.branches))),.val (.p (I (i:Int))),.val (.ref (Gw x1)),.val (.agg ((Gw x1).map .p)),.new [.p (.str ⟨#[]⟩),.p (.bool false),.p (I 0),.p (I 0),.p (I 0),.p (.str ⟨#[]⟩),.p (.nils),.p (.nils),.p (I 0),.p (.nils)],.new [.p (.str ⟨#[]⟩),.p (.bool false),.p (I 0),.p (I 0),.p (I 0),.p (.str ⟨#[]⟩),.p (.nils),.p (.nils),.p (I 0),.p (.nils)]] [.p .any,.p .any] [5,6,7,8,9] Dt O Ak Ak Ak ?_ ?_))))
   ·exact Aq
   refine Jz O (fun Bs=>A0 FP O O) (Jz O (fun Bs=>A3 (i:=Bs.length+1) KE O (CS O) (CG _)) (Jz O (fun Bs=>BZ O) (Jz O (fun Bs=>A5 Jb O O Ao (FZ hx) (DT _)) (Jz O (fun Bs=>BN Sw O (DT _)) (Jz O (fun Bs=>A0 FP O O) (Jz O (fun Bs=>A3 (i:=Bs.length+0) KE O (CS O) (CG _)) (Jz O (fun Bs=>BZ O) (Jz O (fun Bs=>A5 Jb O O Ao (FZ hx1) (DT _)) (Jz O (fun Bs=>BN Sw O (DT _)) (eZ O (fun Bs=>A8 YV O) fun b6=>eZ O (fun Bs=>A8 YV O) fun b7=>kj ?_))))))))));refine ZJ [.box b6 ((Gw x).map .p),.box b7 [.p (.str ⟨#[]⟩),.p (.bool false),.p (I 0),.p (I 0),.p (I 0),.p (.str ⟨#[]⟩),.p (.nils),.p (.nils),.p (I 0),.p (.nils)]] O (CY (i:=0) Sw O O O (by simp[DT]) (by first | rfl | simp[DT]) (Ug _)) (ZJ [.box b6 ((Gw x).map .p),.box b7 ((Gw x1).map .p)] O (CY (i:=1) Sw O O O (by simp[DT]) (by first | rfl | simp[DT]) (Ug _)) (lg (Au (BR [2,3,5] 73 Gd ?_ ?_))))
   ·refine A4 (Ar O (A0 IU O O) (Ar O (A3 (i:=0) Lu O O (GZ _)) (Ar O (A0 IU O O) (Ar O (A3 (i:=1) Lu O O (GZ _)) (Ar O (JB O O) (Bt O (BL 59 O (fun g=>?_) (fun g=>?_))))))))
    ·(try simp only[sd,se] at g);exact As Ay 14 [] O (⟨O,O,AK,⟨_,O⟩,⟨O,O,O,Aq⟩⟩)
    (try simp only[sd,se] at g);refine BC O (A0 IU O O) (BC O (A3 (i:=0) ml O O (GM _)) (BC O (A0 IU O O) (BC O (A3 (i:=1) ml O O (GM _)) (BC O (W5 sB O O) (Ax Ay 2 [] O (BL 66 O (fun g1=>?_) (fun g1=>?_)))))))
    ·(try simp only[sd,se] at g1);exact As Ay 7 [] O (⟨O,O,AK,⟨_,O⟩,⟨O,O,O,Aq⟩⟩)
    (try simp only[sd,se] at g1);refine BC O (A0 IU O O) (BC O (By (i:=0) Iv O O (Ft _) (Cn _)) (BC O (A0 IU O O) (BC O (By (i:=1) Iv O O (Ft _) (Cn _)) (IF O O O O (CC O O (ih x.tree x1.tree (by have:=Rj hx;omega) (JX h2.bs hx).tr) (.inl O)) ?_))));rintro _ ⟨q1,rfl,hq⟩;exact As Ay 2 [] O (⟨O,O,AK,⟨_,O⟩,⟨O,O,O,Aq⟩⟩)
   rintro _ ⟨q1,rfl⟩;refine Aw O (fun c2=>?_) (fun c2=>?_)
   ·(try simp only[sd,se] at c2);refine Av Ay 1 [] O (A1 (⟨O,_,_,⟨_,_,O,O,O⟩,(List.nil_sublist _),?_⟩))
    all_goals exact⟨⟨_,rfl,fun h=>absurd h An⟩,rfl⟩
   (try simp only[sd,se] at c2);refine A2 (A4 (As Ay 3 [] O ?_));refine⟨(i+1),AU,by omega,BY ⟨we rfl,we rfl,we rfl,trivial⟩ (leH (is:=[2,3]) rfl (wl (oe rfl) (wl (oe rfl) (C7))))⟩
  (try simp only[sd,se] at c1);refine Bg (Av Ay 1 [] O (A1 (⟨O,_,_,⟨_,_,O,O,O⟩,(List.nil_sublist _),?_⟩)))
  all_goals exact⟨⟨_,rfl,fun _=>⟨hqb,hqa⟩⟩,rfl⟩
theorem X3:∀(n:Nat) (s:Pg) (t:FJ) (vs dp:Int),(LO t≤n)→(Hq t)→(Ja s.env)→(s.own.length<9000000)→(Nn s.d)→(0≤dp∧dp≤200)→(0≤vs∧vs+(201 - dp)*1000000≤549755813888)→GC Tryz.prog 152 [.agg ((GL s).map .p),.agg ((Ct t).map .p),.p (I vs),.p (I dp)] (fun v=>∃ee:Int,v= .p (I ee)∧(ee=0→Fg t)):=by
 intro n
 induction n with
 | zero=>intro s t vs dp h;have:=PE t;omega
 | succ n ih =>
  intro s t vs dp h1 h2 h3 h4 h5 h6 h7;have htl:=h2.bl;refine A6 Tryz.func152 O og (n:=110) O O (Az (BG O (BP O) fun b4=>BG O (BP O) fun b5=>As Ay 1 [] O (Au (Av Ay 2 [] O (Aw O (fun c=>?_) (fun c=>?_))))))
  ·(try simp only[sd,se] at c);refine Av Ay 1 [] O (A1 (⟨O,_,_,⟨_,_,O,O,O⟩,(List.nil_sublist _),?_⟩))
   all_goals exact⟨⟨_,rfl,fun h=>absurd h An⟩,rfl⟩
  (try simp only[sd,se] at c);refine A2 (Au (Az (Ar O (A0 FP O O) (Ar O (A3 (i:=0) DH O O (Gc _)) (Bj O (BA (Av Ay 2 [] O (Aw O (fun c1=>?_) (fun c1=>?_)))))))))
  ·(try simp only[sd,se] at c1);refine Au (Au (BR [2,4,5] 28 (fun y=>y= .p (.bool (((t.var:Int) !=(0:Int))||(decide (((t.branches.length:Nat):Int) > (0:Int)))))) ?_ ?_))
   ·refine A4 (Ar O (A0 FP O O) (Ar O (A3 (i:=0) DH O O (DK _)) (Ax Ay 2 [] O (BL 23 O (fun g=>?_) (fun g=>?_)))))
    ·(try simp only[sd,se] at g);exact As Ay 5 [] O (⟨O,O,AK,AI,⟨O,O,O,Aq⟩⟩)
    (try simp only[sd,se] at g);exact BC O (A0 FP O O) (BC O (A3 (i:=0) KE O O (CG _)) (BC O (BM Jb O (F6 _)) (As Ay 2 [] O (⟨O,O,AK,AI,⟨O,O,O,Aq⟩⟩))))
   rintro _ rfl;refine Aw O (fun c2=>?_) (fun c2=>?_)
   ·(try simp only[sd,se] at c2);refine Av Ay 1 [] O (A1 (⟨O,_,_,⟨_,_,O,O,O⟩,(List.nil_sublist _),?_⟩))
    all_goals exact⟨⟨_,rfl,fun h=>absurd h An⟩,rfl⟩
   (try simp only[sd,se] at c2);have hb0:t.branches.length=0:=by omega
   refine A2 (Az (Ax Ay 2 [1] O (Ar O (By (i:=0) Ba O O (E9 _) (BD _)) (Ax Ay 3 [] O (Ar O (A3 (i:=1) DH O O (Pa _)) (Dk O O (CC O O (HB s t.body vs s.d.params h2.body h3.env h4 h5 Ao) (.inl O)) ?_))))));rintro _ ⟨e,rfl,he⟩;refine As Ay 1 [] O (A1 (⟨O,_,_,⟨_,_,O,O,O⟩,(List.nil_sublist _),?_⟩))
   all_goals exact⟨⟨_,rfl,fun h=>RE (he h) (lx hb0)⟩,rfl⟩
  (try simp only[sd,se] at c1);refine Av Ay 2 [] O (Aw O (fun c2=>?_) (fun c2=>?_))
  ·(try simp only[sd,se] at c2);refine Az (Ar O (A0 FP O O) (Ar O (By (i:=0) Ba O O (E9 _) (BD _)) (Ar O (BF O O (KJ t.body h2.body.nd) O) (As Ay 1 [] O (Aw O (fun c3=>?_) (fun c3=>?_))))))
   ·(try simp only[sd,se] at c3);refine Av Ay 1 [] O (A1 (⟨O,_,_,⟨_,_,O,O,O⟩,(List.nil_sublist _),?_⟩))
    all_goals exact⟨⟨_,rfl,fun h=>absurd h An⟩,rfl⟩
   (try simp only[sd,se] at c3);have hz0:Nj t.body Bi=true:=by simpa using c3
   refine A2 (Au (Au (BR [2,3,4,5] 51 (fun y=>y= .p (.bool ((decide ((t.var:Int)<(0:Int)))||(decide ((t.var:Int)≥(vs:Int)))))) ?_ ?_)))
   ·refine A4 (Ar O (A0 FP O O) (Ar O (A3 (i:=0) DH O O (DK _)) (Ax Ay 2 [] O (BL 46 O (fun g=>?_) (fun g=>?_)))))
    ·(try simp only[sd,se] at g);exact As Ay 5 [] O (⟨O,O,AK,AI,⟨O,O,O,O,Aq⟩⟩)
    (try simp only[sd,se] at g);exact BC O (A0 FP O O) (BC O (A3 (i:=0) DH O O (DK _)) (As Ay 3 [] O (⟨O,O,AK,AI,⟨O,O,O,O,Aq⟩⟩)))
   rintro _ rfl;refine Aw O (fun c4=>?_) (fun c4=>?_)
   ·(try simp only[sd,se] at c4);refine Av Ay 1 [] O (A1 (⟨O,_,_,⟨_,_,O,O,O⟩,(List.nil_sublist _),?_⟩))
    all_goals exact⟨⟨_,rfl,fun h=>absurd h An⟩,rfl⟩
   (try simp only[sd,se] at c4);refine A2 (Au (Az (Ar O (A0 FP O O) (Ar O (A3 (i:=0) KE O O (CG _)) (Ar O (BM Jb O (F6 _)) (As Ay 1 [] O (Aw O (fun c5=>?_) (fun c5=>?_))))))))
   ·(try simp only[sd,se] at c5);refine Av Ay 1 [] O (A1 (⟨O,_,_,⟨_,_,O,O,O⟩,(List.nil_sublist _),?_⟩))
    all_goals exact⟨⟨_,rfl,fun h=>absurd h An⟩,rfl⟩
   (try simp only[sd,se] at c5);refine A2 (Au (Av Ay 1 [] O (BA ?_)));refine Be (α:=Nat) (fun i=>⟨110,mk [(2,.p (I vs)),(3,.p (I dp)),(4,.ptr b4 0),(5,.ptr b5 0),(9,.p (I (i:Int)))],[.box b5 ((Ct t).map .p),.box b4 ((GL s).map .p)],[]⟩) (fun i=>t.branches.length - i) (fun i=>i≤t.branches.length∧(∀j,j<i→∀x,t.branches[j]?=some x→Fg x.tree)) 0 (⟨by omega,fun j h=>by omega⟩) ?_ ?_
   ·exact BY ⟨we O,we O,we O,we O,we O,Aq⟩ (leH (is:=[0,1]) O (wl (oe O) (wl (oe O) (C7))))
   rintro i hC
   try simp only at hC
   obtain⟨hi,hC⟩:=hC;refine Au (Az (Ax Ay 2 [] O (Ar O (A3 (i:=0) KE O O (CG _)) (Ar O (BM Jb O (F6 _)) (As Ay 1 [] O (Aw O (fun c6=>?_) (fun c6=>?_)))))))
   ·(try simp only[sd,se] at c6);refine A2 (Au (BA (Az (Ar O (A0 FP O O) (Ar O (A3 (i:=0) KE O O (CG _)) (Bt O ?_))))));obtain⟨x,hx⟩:=A7 (l:=t.branches) (i:=i) Ao;refine Ar O (A5 Jb O O Ao (FZ hx) (DT _)) (Ar O (BN Sw O (DT _)) (BG O (A8 YV O) fun b10=>As Ay 1 [0,1] O (Az (Ar O (A0 Nr O O) (Ar O (A3 (i:=2) eJ O O (Jq _)) (Ar O (A0 IU O O) (Ar O (A3 (i:=0) Lu O O (GZ _)) (Ar O (BF O O (Lf s.env x.ctor h3.env) O) (Ax Ay 3 [] O (BG O (A8 Hk O) fun b11=>As Ay 2 [0,1] O (Au (Au (BR [2,3,4,5,9,10,11] 82 (fun y=>∃q:Bool,y= .p (.bool q)∧(q=false→(Bh s.env x.ctor).2=0∧(Bh s.env x.ctor).1.kind=4)) ?_ ?_)))))))))))))
    ·refine A4 (Ax Ay 3 [] O (BL 78 O (fun g=>?_) (fun g=>?_)))
     ·(try simp only[sd,se] at g);refine As Ay 4 [] O ?_;exact⟨O,O,AK,(by refine⟨_,rfl,fun h=>?_⟩;first | (exact absurd h An) | exact⟨by simpa using g,by simpa using h⟩),⟨O,O,O,O,O,O,O,Aq⟩⟩
     (try simp only[sd,se] at g);refine BC O (A0 Fe O O) (BC O (A3 (i:=0) DH O O (DB _)) (As Ay 2 [] O ?_));exact⟨O,O,AK,(by refine⟨_,rfl,fun h=>?_⟩;first | (exact absurd h An) | exact⟨by simpa using g,by simpa using h⟩),⟨O,O,O,O,O,O,O,Aq⟩⟩
    rintro _ ⟨q,rfl,hq⟩;refine Aw O (fun c7=>?_) (fun c7=>?_)
    ·(try simp only[sd,se] at c7);refine Av Ay 1 [] O (A1 (⟨O,_,_,⟨_,_,O,O,O⟩,(List.nil_sublist _),?_⟩))
     all_goals exact⟨⟨_,rfl,fun h=>absurd h An⟩,rfl⟩
    (try simp only[sd,se] at c7);obtain⟨hqc,hqd⟩:=hq (by simpa using c7);obtain⟨dd,k1,k2,k3,k4⟩:=Xi hqc hqd;refine A2 (Au (Az (Ar O (A0 IU O O) (Ar O (A3 (i:=1) ml O O (GM _)) (Bj O (Aw O (fun c8=>?_) (fun c8=>?_)))))))
    ·(try simp only[sd,se] at c8);refine Au (Az (Ar O (A0 IU O O) (Ar O (By (i:=1) Iv O O (Ft _) (Cn _)) (Ar O (CO FP Vc O) (Dk O O (CC O O (Bq.args (U8 (LO x.tree) x.tree (FJ.mk 0 (.mk 0 0 ⟨#[]⟩ [] []:Tm) 0 []) (Nat.le_refl _) (JX h2.bs hx).tr) (aw (we O) (aw (Df O) (Et)))) (.inl O)) ?_)))));rintro _ ⟨q1,rfl,hq⟩;refine As Ay 1 [] O (Aw O (fun c9=>?_) (fun c9=>?_))
     ·(try simp only[sd,se] at c9);refine Av Ay 1 [] O (A1 (⟨O,_,_,⟨_,_,O,O,O⟩,(List.nil_sublist _),?_⟩))
      all_goals exact⟨⟨_,rfl,fun h=>absurd h An⟩,rfl⟩
     (try simp only[sd,se] at c9);have hok:Fg x.tree:=W7 (hq (by simpa using c9)).1 (hq (by simpa using c9)).2;refine A2 (Bg (A4 (As Ay 3 [] O (⟨(i+1),AU,⟨by omega,Cw (p:=fun _ (y:GD)=>Fg y.tree) hC hx hok⟩,BY ⟨we rfl,we rfl,we rfl,we rfl,we rfl,trivial⟩ (leH (is:=[2,3]) rfl (wl (oe rfl) (wl (oe rfl) (C7))))⟩))))
    (try simp only[sd,se] at c8);refine A2 (Au (Bu (fun k=>Nat.beq k 12||Nat.beq k 16) Dt (BQ Ay 2 [3] O (CX (j:=1) O O O (fun H i hi=>By (i:=i) Iv O hi (Ft _) (Cn _)) AB Aq (BQ Ay 2 [] O (CX (j:=3) O O O (fun H i hi=>A3 (i:=i) eJ O hi (Jq _)) AB Aq (BQ Ay 1 [] O (CX (j:=0) O O O (fun H i hi=>A3 (i:=i) DH O hi (DR _)) AB Aq ?_))))))));obtain⟨x1,hx1⟩:=A7 (l:=s.env) (i:=(((Bh s.env x.ctor).1).decl:Int).toNat) (by have:=(List.getElem?_eq_some_iff.1 k2).1;omega);refine BH O (fun _=>A5 Hj O O Ao (D4 hx1) (Cl _)) Aq (BQ Ay 2 [] O (CX (j:=0) O O O (fun H i hi=>A3 (i:=i) DH O hi (Dq _)) AB Aq ?_));refine J3 [(14,.free (.p (I dp))),(15,.free (.p (I ((dp:Int)+(1:Int)))))] O O (CC O O (XK x1 (((Bh s.env x.ctor).1).item) (h3.all _ (List.mem_of_getElem? hx1)).din (h3.all _ (List.mem_of_getElem? hx1)).fx k3 (by have e:=Option.some.inj (k2.symm.trans hx1);subst e;exact k4)) (.inl O)) Ak (⟨_,0,O,by omega,by omega⟩) AB ?_;rintro _ ⟨e,rfl,he0,he1⟩;refine⟨Aq,?_⟩;refine BQ Ay 3 [] O (J3 [] O O (CC O O (ih s x.tree ((vs:Int)+(e:Int)) ((dp:Int)+(1:Int)) (by have:=Rj hx;omega) (JX h2.bs hx).tr h3 h4 h5 Ao Ao) (.inl O)) Ak (⟨_,1,O,fun h=>absurd h An⟩) AB ?_);rintro _ ⟨e1,rfl,he⟩;refine⟨AN,?_⟩;refine Bn Ay 1 [] O (Av Ay 2 [] O (Aw O (fun c9=>?_) (fun c9=>?_)))
    ·(try simp only[sd,se] at c9);refine Av Ay 2 [] O (A1 (⟨O,_,_,⟨_,_,O,O,O⟩,(List.nil_sublist _),?_⟩))
     all_goals exact⟨⟨_,rfl,fun h=>absurd h Al⟩,rfl⟩
    (try simp only[sd,se] at c9);have hok:= @he Ao;refine A2 (A4 (As Ay 3 [] O (⟨(i+1),AU,⟨by omega,Cw (p:=fun _ (y:GD)=>Fg y.tree) hC hx hok⟩,BY ⟨we rfl,we rfl,we rfl,we rfl,we rfl,trivial⟩ (leH (is:=[2,3]) rfl (wl (oe rfl) (wl (oe rfl) (C7))))⟩)))
   (try simp only[sd,se] at c6);refine Bg (Av Ay 1 [] O (A1 (⟨O,_,_,⟨_,_,O,O,O⟩,(List.nil_sublist _),?_⟩)))
   all_goals exact⟨⟨_,rfl,fun _=>RE (by rw[IK.1 hz0];exact HR) (II Ao hC)⟩,rfl⟩
  (try simp only[sd,se] at c2);refine Av Ay 1 [] O (A1 (⟨O,_,_,⟨_,_,O,O,O⟩,(List.nil_sublist _),?_⟩))
  all_goals exact⟨⟨_,rfl,fun h=>absurd h An⟩,rfl⟩
theorem aD:∀(ds:List CK) (d:CK),(Ja ds)→(Nn d)→(Uk d)→GC Tryz.prog 136 [.p (.lst (List.map Bk ds)),.agg ((Bk d).map .p)] (fun v=>∃ee:Int,v= .p (I ee)∧(ee=0→cH d)):=by
 intro ds d h1 h2 h3;have hn:=M6 d;have hcl:=h2.cl;have hfl:=h2.fl;have hrl:=h2.rl;refine A6 Tryz.func136 O pe (n:=161) O O (Az (BG O (BP O) fun b3=>As Ay 1 [] O (Az (Ax Ay 2 [0] O (Ar O (eA Nr kE (mw O O O)) (BG O (A8 kE O) fun b5=>As Ay 1 [0,1] O (Au (Az (Ar O (A0 Cy O O) (Ar O (A3 (i:=1) DH O O (D3 _)) (As Ay 1 [] O (BR [3,5] 17 (fun _=>True) ?_ ?_))))))))))))
 ·refine Aw O (fun c=>?_) (fun c=>?_)
  ·(try simp only[sd,se] at c);refine Az (Ax Ay 2 [0] O (Ar O (By (i:=1) Ba O O (E6 _) (BD _)) (Ar O (A0 Cy O O) (Ar O (A3 (i:=1) DH O O (Cq _)) (Dk O O (CC O O (HB (Pg.mk ds [] d) d.type 0 d.params h2.ty h1.env Ap h2 Ao) (.inl O)) ?_)))));rintro _ ⟨e,rfl,he⟩;refine As Ay 1 [] O (Av Ay 2 [] O (Aw O (fun c1=>?_) (fun c1=>?_)))
   ·(try simp only[sd,se] at c1);refine Av Ay 2 [] O (A1 (⟨O,_,_,⟨_,_,O,O,O⟩,(List.nil_sublist _),?_⟩))
    all_goals exact⟨⟨_,rfl,fun h=>absurd h Al⟩,rfl⟩
   (try simp only[sd,se] at c1);exact A2 (⟨O,O,(List.Sublist.refl _),Aq,⟨O,O,Aq⟩⟩)
  (try simp only[sd,se] at c);exact A2 (⟨O,O,(List.Sublist.refl _),Aq,⟨O,O,Aq⟩⟩)
 intro _ _;refine Au (Az (Ar O (A0 Cy O O) (Ar O (A3 (i:=1) DH O O (D3 _)) (Bj O (BA (Au (Av Ay 2 [] O (BR [3,5,33] 34 (fun y=>y= .p (.bool (decide (d.kind=1∨d.kind=2)))) ?_ ?_))))))))
 ·refine Aw O (fun c=>?_) (fun c=>?_)
  ·(try simp only[sd,se] at c);exact A2 (⟨O,O,(List.Sublist.refl _),(by refine pB (Bool.eq_iff_iff.2 ?_);simp only[beq_iff_eq,decide_eq_true_eq];omega),⟨O,O,O,Aq⟩⟩)
  (try simp only[sd,se] at c);exact A4 (As Ay 2 [] O (⟨O,O,(List.Sublist.refl _),(by refine pB (Bool.eq_iff_iff.2 ?_);simp only[beq_iff_eq,decide_eq_true_eq];omega),⟨O,O,O,Aq⟩⟩))
 rintro _ rfl;refine Aw O (fun c=>?_) (fun c=>?_)
 ·(try simp only[sd,se] at c);have hk12:d.kind=1∨d.kind=2:=by simpa using c
  refine Az (Ax Ay 2 [0] O (Ar O (By (i:=1) Ba O O (FD _) (BD _)) (Ar O (A0 Cy O O) (Ar O (A3 (i:=1) DH O O (Cq _)) (Dk O O (CC O O (HB (Pg.mk ds [] d) d.value 0 d.params h2.vl h1.env Ap h2 Ao) (.inl O)) ?_)))));rintro _ ⟨e,rfl,he⟩;refine As Ay 1 [] O (A1 (⟨O,_,_,⟨_,_,O,O,O⟩,(List.nil_sublist _),?_⟩))
  all_goals exact⟨⟨_,rfl,fun h=>⟨fun _=>he h,fun _=>by omega,fun _=>by omega⟩⟩,rfl⟩
 (try simp only[sd,se] at c);have hk12:¬(d.kind=1∨d.kind=2):=by simpa using c
 refine Av Ay 2 [] O (Aw O (fun c1=>?_) (fun c1=>?_))
 ·(try simp only[sd,se] at c1);have hn1:=Zr (d:=d) (by simpa using c1);have hk3:=c1;refine Az (Ar O (A0 Cy O O) (Ar O (A3 (i:=1) Lu O O (DP _)) (Ar O (Bo G0 fy O O O O O) (Ar O (A0 Nr O O) (Ar O (D2 (i:=0) (ds:=(GL (Pg.mk ds [d.name] d)).map .p) Wr O O O O O O O) (Bj O (Au (Av Ay 1 [] O (BA (Be (α:=Nat) (fun i=>⟨161,mk [(3,.ptr b3 0),(5,.ptr b5 0),(7,.p (I (i:Int)))],[.box b5 ((GL (Pg.mk ds [d.name] d)).map .p),.box b3 ((Bk d).map .p)],[]⟩) (fun i=>d.ctors.length - i) (fun i=>i≤d.ctors.length) 0 AQ ?_ ?_))))))))))
  ·exact BY ⟨we O,we O,we O,Aq⟩ (leH (is:=[0,1]) O (wl (oe O) (wl (oe O) (C7))))
  rintro i hC
  try simp only at hC
  have hi:=hC;refine Au (Az (Ax Ay 2 [] O (Ar O (A3 (i:=1) Hl O O (CB _)) (Ar O (BM HN O (List.length_map _)) (As Ay 1 [] O (Aw O (fun c2=>?_) (fun c2=>?_)))))))
  ·(try simp only[sd,se] at c2);refine A2 (Au (BA (Au (Bu (fun k=>Nat.beq k 9) Dt (BQ Ay 2 [0] O (CX (j:=1) O O O (fun H i hi=>A3 (i:=i) Hl O hi (CB _)) AB Aq (BH O (fun _=>BZ O) Aq ?_)))))));obtain⟨x,hx⟩:=A7 (l:=d.ctors) (i:=i) Ao;refine BH O (fun _=>A5 HN O O Ao (EX hx) (D8 _)) Aq (BH O (fun _=>Bv Ir O O) Aq (BH O (fun _=>DA Ba O (FA _) (BD _)) Aq (BH O (fun _=>A0 Cy O O) Aq (CX (j:=1) O O O (fun H i hi=>A3 (i:=i) DH O hi (Cq _)) AB Aq (J3 [] O O (CC O O (HB (Pg.mk ds [d.name] d) x.type 0 d.params (h2.cs _ (List.mem_of_getElem? hx)).ty h1.env Ap h2 Ao) (.inl O)) Ak (⟨_,1,O,fun h=>absurd h An⟩) AB ?_)))));rintro _ ⟨e,rfl,he⟩;refine⟨Aq,?_⟩;refine Bn Ay 1 [] O (Av Ay 2 [] O (Aw O (fun c3=>?_) (fun c3=>?_)))
   ·(try simp only[sd,se] at c3);refine Av Ay 2 [] O (A1 (⟨O,_,_,⟨_,_,O,O,O⟩,(List.nil_sublist _),?_⟩))
    all_goals exact⟨⟨_,rfl,fun h=>absurd h Al⟩,rfl⟩
   (try simp only[sd,se] at c3);refine A2 (A4 (As Ay 3 [] O ?_));refine⟨(i+1),AU,by omega,BY ⟨we rfl,we rfl,we rfl,trivial⟩ (leH (is:=[0,1]) rfl (wl (oe rfl) (wl (oe rfl) (C7))))⟩
  (try simp only[sd,se] at c2);refine Bg (Az (Ar O (BU (i:=1) FM O O Ae) (Ar O (BF O O (MO d h2.cl h2.fl h2.nm) O) (As Ay 1 [] O (Az (Ax Ay 2 [] O (Ar O (BM G0 O (List.length_map _)) (Ar O (Kh O O Ao Ao) (Ar O (Ca (lo:=0) (hi:=((((C6 d).length:Nat):Int) - (1:Int):Int).toNat) G0 O (CF (J9 _)) O ⟨_,pI Ao⟩ (Nat.zero_le _) AR (YA (f:=Gi) (C6 d) (((((C6 d).length:Nat):Int) - (1:Int):Int).toNat))) (Ar O (A0 Nr O O) (Ar O (D2 (i:=0) (ds:=(GL (Pg.mk ds ((C6 d).take (((((C6 d).length:Nat):Int) - (1:Int):Int).toNat)) d)).map .p) Wr O O O O O O O) (Bj O (Au (Az (Ax Ay 3 [0] O (Ar O (By (i:=1) Ba O O (FC _) (BD _)) (Ax Ay 2 [] O ?_)))))))))))))))));refine Ar O (A3 (i:=1) DH O O (De _)) (Dk O O (CC O O (HB (Pg.mk ds ((C6 d).take (((((C6 d).length:Nat):Int) - (1:Int):Int).toNat)) d) d.recs.type 0 d.recs.params h2.rt h1.env Aj h2 Ao) (.inl O)) ?_);rintro _ ⟨e,rfl,he⟩;refine As Ay 1 [] O (Av Ay 2 [] O (Aw O (fun c3=>?_) (fun c3=>?_)))
  ·(try simp only[sd,se] at c3);refine Av Ay 2 [] O (A1 (⟨O,_,_,⟨_,_,O,O,O⟩,(List.nil_sublist _),?_⟩))
   all_goals exact⟨⟨_,rfl,fun h=>absurd h Al⟩,rfl⟩
  (try simp only[sd,se] at c3);refine A2 (Az (Ax Ay 2 [] O (Ar O (D2 (i:=0) (ds:=(GL (Pg.mk ds (C6 d) d)).map .p) Wr O O O O O O O) (Bj O (Av Ay 1 [] O (BA ?_))))));refine Be (α:=Nat) (fun i=>⟨161,mk [(3,.ptr b3 0),(5,.ptr b5 0),(11,.p (I (i:Int)))],[.box b5 ((GL (Pg.mk ds (C6 d) d)).map .p),.box b3 ((Bk d).map .p)],[]⟩) (fun i=>d.recs.rules.length - i) (fun i=>i≤d.recs.rules.length∧(∀j,j<i→∀x,d.recs.rules[j]?=some x→okB x=true)) 0 (⟨by omega,fun j h=>by omega⟩) ?_ ?_
  ·exact BY ⟨we O,we O,we O,Aq⟩ (leH (is:=[0,1]) O (wl (oe O) (wl (oe O) (C7))))
  rintro i hC1
  try simp only at hC1
  obtain⟨hi,hR⟩:=hC1;refine Au (Az (Ax Ay 3 [] O (Ar O (A3 (i:=1) Gk O O (Ck _)) (Ar O (BM Bf O (BS _)) (As Ay 1 [] O (Aw O (fun c4=>?_) (fun c4=>?_)))))))
  ·(try simp only[sd,se] at c4);refine A2 (Au (BA (Au (Bu (fun k=>Nat.beq k 10) Dt (BQ Ay 3 [0] O (CX (j:=1) O O O (fun H i hi=>A3 (i:=i) Gk O hi (Ck _)) AB Aq (BH O (fun _=>BZ O) Aq ?_)))))));obtain⟨x,hx⟩:=A7 (l:=d.recs.rules) (i:=i) Ao;refine BH O (fun _=>A5 Bf O O Ao (Bc hx) (BD _)) Aq (BQ Ay 3 [] O (CX (j:=1) O O O (fun H i hi=>A3 (i:=i) DH O hi (De _)) AB Aq (J3 [] O O (CC O O (HB (Pg.mk ds (C6 d) d) x 0 d.recs.params (h2.rs _ (List.mem_of_getElem? hx)) h1.env Ac h2 Ao) (.inl O)) Ak (⟨_,1,O,fun h=>absurd h An⟩) AB ?_)));rintro _ ⟨e1,rfl,he1⟩;refine⟨Aq,?_⟩;refine Bn Ay 1 [] O (Av Ay 2 [] O (Aw O (fun c5=>?_) (fun c5=>?_)))
   ·(try simp only[sd,se] at c5);refine Av Ay 2 [] O (A1 (⟨O,_,_,⟨_,_,O,O,O⟩,(List.nil_sublist _),?_⟩))
    all_goals exact⟨⟨_,rfl,fun h=>absurd h Al⟩,rfl⟩
   (try simp only[sd,se] at c5);refine A2 (A4 (As Ay 3 [] O (⟨(i+1),AU,⟨by omega,Cw (p:=fun _ (y:Tm)=>okB y=true) hR hx (he1 Ao)⟩,BY ⟨we rfl,we rfl,we rfl,trivial⟩ (leH (is:=[0,1]) rfl (wl (oe rfl) (wl (oe rfl) (C7))))⟩)))
  (try simp only[sd,se] at c4);refine Bg (Av Ay 1 [] O (A1 (⟨O,_,_,⟨_,_,O,O,O⟩,(List.nil_sublist _),?_⟩)))
  all_goals exact⟨⟨_,rfl,fun _=>⟨fun _=>by omega,fun _=>II Ao hR,fun _=>by omega⟩⟩,rfl⟩
 (try simp only[sd,se] at c1);have hk3:=c1;refine Av Ay 2 [] O (Aw O (fun c2=>?_) (fun c2=>?_))
 ·(try simp only[sd,se] at c2);refine Au (Av Ay 1 [] O (BA (Be (α:=Nat) (fun i=>⟨161,mk [(3,.ptr b3 0),(5,.ptr b5 0),(13,.p (I (i:Int)))],[.box b5 ((GL (Pg.mk ds [] d)).map .p),.box b3 ((Bk d).map .p)],[]⟩) (fun i=>d.funs.length - i) (fun i=>i≤d.funs.length) 0 AQ ?_ ?_)))
  ·exact BY ⟨we O,we O,we O,Aq⟩ (leH (is:=[0,1]) O (wl (oe O) (wl (oe O) (C7))))
  rintro i hC
  try simp only at hC
  have hi:=hC;refine Au (Az (Ax Ay 2 [] O (Ar O (A3 (i:=1) Gj O O (B6 _)) (Ar O (BM Gn O (List.length_map _)) (As Ay 1 [] O (Aw O (fun c3=>?_) (fun c3=>?_)))))))
  ·(try simp only[sd,se] at c3);refine A2 (Au (BA (Au (Bu (fun k=>Nat.beq k 9) Dt (BQ Ay 2 [0] O (CX (j:=1) O O O (fun H i hi=>A3 (i:=i) Gj O hi (B6 _)) AB Aq (BH O (fun _=>BZ O) Aq ?_)))))));obtain⟨x,hx⟩:=A7 (l:=d.funs) (i:=i) Ao;refine BH O (fun _=>A5 Gn O O Ao (D7 hx) (DF _)) Aq (BH O (fun _=>Bv GX O O) Aq (BH O (fun _=>DA Ba O (I1 _) (BD _)) Aq (BH O (fun _=>A0 Cy O O) Aq (CX (j:=1) O O O (fun H i hi=>A3 (i:=i) DH O hi (Cq _)) AB Aq (J3 [] O O (CC O O (HB (Pg.mk ds [] d) x.type 0 d.params (h2.fs _ (List.mem_of_getElem? hx)).ty h1.env Ap h2 Ao) (.inl O)) Ak (⟨_,1,O,fun h=>absurd h An⟩) AB ?_)))));rintro _ ⟨e,rfl,he⟩;refine⟨Aq,?_⟩;refine Bn Ay 1 [] O (Av Ay 2 [] O (Aw O (fun c4=>?_) (fun c4=>?_)))
   ·(try simp only[sd,se] at c4);refine Av Ay 2 [] O (A1 (⟨O,_,_,⟨_,_,O,O,O⟩,(List.nil_sublist _),?_⟩))
    all_goals exact⟨⟨_,rfl,fun h=>absurd h Al⟩,rfl⟩
   (try simp only[sd,se] at c4);refine A2 (A4 (As Ay 3 [] O ?_));refine⟨(i+1),AU,by omega,BY ⟨we rfl,we rfl,we rfl,trivial⟩ (leH (is:=[0,1]) rfl (wl (oe rfl) (wl (oe rfl) (C7))))⟩
  (try simp only[sd,se] at c3);refine Bg (Az (Ar O (BU (i:=1) FM O O Ae) (Ar O (BF O O (MO d h2.cl h2.fl h2.nm) O) (Ar O (A0 Nr O O) (Ar O (D2 (i:=0) (ds:=(GL (Pg.mk ds (C6 d) d)).map .p) Wr O O O O O O O) (Bj O (Av Ay 1 [] O (BA ?_))))))));refine Be (α:=Nat) (fun i=>⟨161,mk [(3,.ptr b3 0),(5,.ptr b5 0),(15,.p (I (i:Int)))],[.box b5 ((GL (Pg.mk ds (C6 d) d)).map .p),.box b3 ((Bk d).map .p)],[]⟩) (fun i=>d.funs.length - i) (fun i=>i≤d.funs.length∧(∀j,j<i→∀x,d.funs[j]?=some x→Fg x.tree)) 0 (⟨by omega,fun j h=>by omega⟩) ?_ ?_
  ·exact BY ⟨we O,we O,we O,Aq⟩ (leH (is:=[0,1]) O (wl (oe O) (wl (oe O) (C7))))
  rintro i hC1
  try simp only at hC1
  obtain⟨hi,hT⟩:=hC1;refine Au (Az (Ax Ay 2 [] O (Ar O (A3 (i:=1) Gj O O (B6 _)) (Ar O (BM Gn O (List.length_map _)) (As Ay 1 [] O (Aw O (fun c4=>?_) (fun c4=>?_)))))))
  ·(try simp only[sd,se] at c4);refine A2 (Au (BA (Au (Bu (fun k=>Nat.beq k 13) Dt (BQ Ay 2 [0] O (CX (j:=1) O O O (fun H i hi=>A3 (i:=i) Gj O hi (B6 _)) AB Aq (BH O (fun _=>BZ O) Aq ?_)))))));obtain⟨x,hx⟩:=A7 (l:=d.funs) (i:=i) Ao;refine BH O (fun _=>A5 Gn O O Ao (D7 hx) (DF _)) Aq (BH O (fun _=>Bv GX O O) Aq (BH O (fun _=>DA Iv O (Dn _) (Cn _)) Aq (BH O (fun _=>A0 Cy O O) Aq (CX (j:=1) O O O (fun H i hi=>A3 (i:=i) Gj O hi (B6 _)) AB Aq (BH O (fun _=>BZ O) Aq (BH O (fun _=>A5 Gn O O Ao (D7 hx) (DF _)) Aq (BH O (fun _=>Bv GX O O) Aq (BH O (fun _=>C0 DH O (CI _)) Aq ?_))))))));have hax:=h3.2.1 _ (List.mem_of_getElem? hx);refine J3 [] O O (CC O O (X3 (LO x.tree) (Pg.mk ds (C6 d) d) x.tree x.arity 0 (Nat.le_refl _) (h2.fs _ (List.mem_of_getElem? hx)).tr h1 Ac h2 Ao Ao) (.inl O)) Ak (⟨_,1,O,fun h=>absurd h An⟩) AB ?_;rintro _ ⟨e,rfl,he⟩;refine⟨Aq,?_⟩;refine Bn Ay 1 [] O (Av Ay 2 [] O (Aw O (fun c5=>?_) (fun c5=>?_)))
   ·(try simp only[sd,se] at c5);refine Av Ay 2 [] O (A1 (⟨O,_,_,⟨_,_,O,O,O⟩,(List.nil_sublist _),?_⟩))
    all_goals exact⟨⟨_,rfl,fun h=>absurd h Al⟩,rfl⟩
   (try simp only[sd,se] at c5);refine A2 (A4 (As Ay 3 [] O (⟨(i+1),AU,⟨by omega,Cw (p:=fun _ (y:Hi)=>Fg y.tree) hT hx (he Ao)⟩,BY ⟨we rfl,we rfl,we rfl,trivial⟩ (leH (is:=[0,1]) rfl (wl (oe rfl) (wl (oe rfl) (C7))))⟩)))
  (try simp only[sd,se] at c4);refine Bg (Av Ay 1 [] O (A1 (⟨O,_,_,⟨_,_,O,O,O⟩,(List.nil_sublist _),?_⟩)))
  all_goals exact⟨⟨_,rfl,fun _=>⟨fun _=>by omega,fun _=>by omega,fun _=>II Ao hT⟩⟩,rfl⟩
 (try simp only[sd,se] at c2);refine A2 (Av Ay 1 [] O (A1 (⟨O,_,_,⟨_,_,O,O,O⟩,(List.nil_sublist _),?_⟩)))
 all_goals exact⟨⟨_,rfl,fun _=>⟨fun _=>by omega,fun _=>by omega,fun _=>by omega⟩⟩,rfl⟩
theorem bQ:∀(ds:List CK) (d:CK),(Ja ds)→(Nn d)→GC Tryz.prog 102 [.p (.lst (List.map Bk ds)),.agg ((Bk d).map .p)] (fun v=>∃ee:Int,v= .p (I ee)∧(ee=0→DG d)):=by
 intro ds d h1 h2;refine A6 Tryz.func102 O nF (n:=32) O O (Az (BG O (BP O) fun b3=>As Ay 1 [] O (Au (Au (BR [0,3] 14 (fun y=>y= .p (.bool ((decide ((d.kind:Int)<(0:Int)))||(decide ((d.kind:Int) > (4:Int)))))) ?_ ?_)))))
 ·refine A4 (Ar O (A0 Cy O O) (Ar O (A3 (i:=0) DH O O (D3 _)) (Ax Ay 2 [] O (BL 10 O (fun g=>?_) (fun g=>?_)))))
  ·(try simp only[sd,se] at g);exact As Ay 4 [] O (⟨O,O,AK,AI,⟨O,O,Aq⟩⟩)
  (try simp only[sd,se] at g);exact BC O (A0 Cy O O) (BC O (A3 (i:=0) DH O O (D3 _)) (As Ay 2 [] O (⟨O,O,AK,AI,⟨O,O,Aq⟩⟩)))
 rintro _ rfl;refine Aw O (fun c=>?_) (fun c=>?_)
 ·(try simp only[sd,se] at c);refine Av Ay 1 [] O (A1 (⟨O,_,_,⟨_,_,O,O,O⟩,(List.nil_sublist _),?_⟩))
  all_goals exact⟨⟨_,rfl,fun h=>absurd h An⟩,rfl⟩
 (try simp only[sd,se] at c);have hk:0≤d.kind∧d.kind≤4:=by omega
 refine A2 (Au (Az (Ar O (BU (i:=0) FM O O Ae) (Dk O O (CC O O (YB d h2 hk) (.inl O)) ?_))));rintro _ ⟨q,rfl,hq⟩;refine As Ay 1 [] O (Aw O (fun c1=>?_) (fun c1=>?_))
 ·(try simp only[sd,se] at c1);refine Av Ay 1 [] O (A1 (⟨O,_,_,⟨_,_,O,O,O⟩,(List.nil_sublist _),?_⟩))
  all_goals exact⟨⟨_,rfl,fun h=>absurd h An⟩,rfl⟩
 (try simp only[sd,se] at c1);have hu:=hq (by simpa using c1);refine A2 (Au (Az (Ar O (BU (i:=0) FM O O Ae) (Dk O O (CC O O (X1 d h2) (.inl O)) ?_))));rintro _ ⟨e,rfl,he⟩;refine As Ay 1 [] O (Av Ay 2 [] O (Aw O (fun c2=>?_) (fun c2=>?_)))
 ·(try simp only[sd,se] at c2);refine Av Ay 2 [] O (A1 (⟨O,_,_,⟨_,_,O,O,O⟩,(List.nil_sublist _),?_⟩))
  all_goals exact⟨⟨_,rfl,fun h=>absurd h Al⟩,rfl⟩
 (try simp only[sd,se] at c2);have hcn:=he Ao;refine A2 (Au (Az (Ax Ay 2 [0] O (Dk O O (CC O O (SM ds d h1.env h2) (.inl O)) ?_))));rintro _ ⟨e1,rfl⟩;refine As Ay 1 [] O (Av Ay 2 [] O (Aw O (fun c3=>?_) (fun c3=>?_)))
 ·(try simp only[sd,se] at c3);refine Av Ay 2 [] O (A1 (⟨O,_,_,⟨_,_,O,O,O⟩,(List.nil_sublist _),?_⟩))
  all_goals exact⟨⟨_,rfl,fun h=>absurd h Al⟩,rfl⟩
 (try simp only[sd,se] at c3);refine A2 (Az (Ax Ay 2 [0] O (Dk O O (CC O O (aD ds d h1 h2 hcn) (.inl O)) ?_)));rintro _ ⟨e2,rfl,he1⟩;refine As Ay 1 [] O (A1 (⟨O,_,_,⟨_,_,O,O,O⟩,(List.nil_sublist _),?_⟩))
 all_goals exact⟨⟨_,rfl,fun h=>mf h2 hk hu hcn (he1 h)⟩,rfl⟩
theorem YC:∀(ds:List CK),(HT ds)→GC Tryz.prog 66 [.p (.lst (List.map Bk ds))] (fun v=>∃a e:Int,v= .tup [.p (I a),.p (I e)]∧(e=0→Ja ds)):=by
 intro ds h1;have hl:=h1.len;refine A6 Tryz.func66 O qt (n:=27) O O (Av Ay 2 [] O (Au (Az (Bt O (Ar O (BM Hj O (List.length_map _)) (As Ay 1 [] O (Aw O (fun c=>?_) (fun c=>?_))))))))
 ·(try simp only[sd,se] at c);refine Av Ay 2 [] O (A1 (⟨O,_,_,⟨_,_,O,O,⟨_,_,O,O,O⟩⟩,(List.nil_sublist _),?_⟩))
  all_goals exact⟨⟨_,_,rfl,fun h=>absurd h An⟩,rfl⟩
 (try simp only[sd,se] at c);refine A2 (Au (Av Ay 1 [] O (BA ?_)));refine Be (α:=Nat) (fun i=>⟨27,mk [(0,.p (.lst (List.map Bk ds))),(4,.p (I (i:Int)))],[],[]⟩) (fun i=>ds.length - i) (fun i=>i≤ds.length∧(∀j,j<i→∀x,ds[j]?=some x→DG x)) 0 (⟨by omega,fun j h=>by omega⟩) ?_ ?_
 ·exact BY ⟨we O,we O,Aq⟩ (leH (is:=[]) O (C7))
 rintro i hC
 try simp only at hC
 obtain⟨hi,hC⟩:=hC;refine Au (Az (Ax Ay 2 [] O (Ar O (BM Hj O (List.length_map _)) (As Ay 1 [] O (Aw O (fun c1=>?_) (fun c1=>?_))))))
 ·(try simp only[sd,se] at c1);refine A2 (Au (BA (Au (Bu (fun k=>Nat.beq k 7) Dt (BQ Ay 2 [] O (BH O (fun _=>Ca (lo:=0) (hi:=i) Hj O (CF (Zy _)) O ⟨_,O⟩ (Nat.zero_le _) AR (YA (f:=Bk) ds i)) Aq (BQ Ay 2 [] O ?_)))))));obtain⟨x,hx⟩:=A7 (l:=ds) (i:=i) Ao;refine BH O (fun _=>A5 Hj O O Ao (D4 hx) (Cl _)) Aq (BH O (fun _=>BN FM O (Cl _)) Aq (J3 [] O O (CC O O (bQ (ds.take i) x (aK h1 hC) (h1.all _ (List.mem_of_getElem? hx))) (.inl O)) Ak (⟨_,1,O,fun h=>absurd h An⟩) AB ?_));rintro _ ⟨e,rfl,he⟩;refine⟨Aq,?_⟩;refine Bn Ay 1 [] O (Av Ay 2 [] O (Aw O (fun c2=>?_) (fun c2=>?_)))
  ·(try simp only[sd,se] at c2);refine Av Ay 4 [] O (A1 (⟨O,_,_,⟨_,_,O,O,⟨_,_,O,O,O⟩⟩,(List.nil_sublist _),?_⟩))
   all_goals exact⟨⟨_,_,rfl,fun h=>absurd h Al⟩,rfl⟩
  (try simp only[sd,se] at c2);refine A2 (A4 (As Ay 3 [] O (⟨(i+1),AU,⟨by omega,Cw (p:=fun _ (y:CK)=>DG y) hC hx (he Ao)⟩,BY ⟨we rfl,we rfl,trivial⟩ (leH (is:=[]) rfl (C7))⟩)))
 (try simp only[sd,se] at c1);refine Bg (Av Ay 2 [] O (A1 (⟨O,_,_,⟨_,_,O,O,⟨_,_,O,O,O⟩⟩,(List.nil_sublist _),?_⟩)))
 all_goals exact⟨⟨_,_,rfl,fun _=>⟨h1,II Ao hC⟩⟩,rfl⟩
theorem Ht:∀(t:Tm),(US t)→Ec Tryz.prog 131 [.agg ((BO t).map .p)] (.p (.bool (decide (Eo t≤400)&&decide (Ev t≤150)))):=by
 intro t h1;refine A6 Tryz.func131 O mH (n:=11) O O (Az (BG O (BP O) fun b1=>As Ay 1 [] O (Au (BR [] 2 (fun y=>y= .p (.bool ((decide ((Eo t:Int)≤(400:Int)))&&(decide ((Ev t:Int)≤(150:Int)))))) ?_ ?_))))
 ·refine A4 (Ar O (BU (i:=0) Ba O O Ah) (Ar O (BF O O (MS _ t (Nat.le_refl _) h1.nd) O) (Ax Ay 2 [] O (BL 6 O (fun g=>?_) (fun g=>?_)))))
  ·(try simp only[sd,se] at g);exact BC O (BU (i:=0) Ba O O Ah) (BC O (BF O O (OL _ t (Nat.le_refl _) h1.nd) O) (As Ay 3 [] O ⟨O,O,AK,AI,Aq⟩))
  (try simp only[sd,se] at g);exact As Ay 5 [] O ⟨O,O,AK,AI,Aq⟩
 rintro _ rfl;refine A1 (⟨O,_,_,⟨_,_,O,O,O⟩,(List.nil_sublist _),?_⟩)
 all_goals exact⟨rfl,rfl⟩
theorem SV:∀(n:Nat) (t:FJ) (dp:Int),(LO t≤n)→(Hq t)→(-1000<dp∧dp<1000)→GC Tryz.prog 132 [.agg ((Ct t).map .p),.p (I dp)] (fun v=>∃bb:Bool,v= .p (.bool bb)∧(bb=true→(Dz t:Int)≤42 - dp)):=by
 intro n
 induction n with
 | zero=>intro t dp h;have:=PE t;omega
 | succ n ih =>
  intro t dp h1 h2 h3;have htl:=h2.bl;refine A6 Tryz.func132 O oR (n:=47) O O (Az (BG O (BP O) fun b2=>As Ay 1 [] O (Au (Au (BR [1,2] 19 (fun y=>∃q:Bool,y= .p (.bool q)∧(q=false→dp≤40)) ?_ ?_)))))
  ·refine A4 (Ax Ay 3 [] O (BL 8 O (fun g=>?_) (fun g=>?_)))
   ·(try simp only[sd,se] at g);exact As Ay 11 [] O (⟨O,O,AK,(by refine⟨_,rfl,fun h=>?_⟩;first | (exact absurd h An) | omega),⟨O,O,Aq⟩⟩)
   (try simp only[sd,se] at g);refine BC O (A0 FP O O) (BC O (A3 (i:=0) KE O O (CG _)) (BC O (BM Jb O (F6 _)) (Ax Ay 3 [] O (BL 14 O (fun g1=>?_) (fun g1=>?_)))))
   ·(try simp only[sd,se] at g1);exact As Ay 5 [] O (⟨O,O,AK,(by refine⟨_,rfl,fun h=>?_⟩;first | (exact absurd h An) | omega),⟨O,O,Aq⟩⟩)
   (try simp only[sd,se] at g1);exact BC O (A0 FP O O) (BC O (By (i:=0) Ba O O (E9 _) (BD _)) (BC O (BF O O (Ht t.body h2.body) O) (As Ay 2 [] O (⟨O,O,AK,(by refine⟨_,rfl,fun h=>?_⟩;first | (exact absurd h An) | omega),⟨O,O,Aq⟩⟩))))
  rintro _ ⟨q,rfl,hq⟩;refine Aw O (fun c=>?_) (fun c=>?_)
  ·(try simp only[sd,se] at c);refine Av Ay 1 [] O (A1 (⟨O,_,_,⟨_,_,O,O,O⟩,(List.nil_sublist _),?_⟩))
   all_goals exact⟨⟨_,rfl,fun h=>absurd h An⟩,rfl⟩
  (try simp only[sd,se] at c);have hq1:=hq (by simpa using c);refine A2 (Au (Av Ay 1 [] O (BA ?_)));refine Be (α:=Nat) (fun i=>⟨47,mk [(1,.p (I dp)),(2,.ptr b2 0),(5,.p (I (i:Int)))],[.box b2 ((Ct t).map .p)],[]⟩) (fun i=>t.branches.length - i) (fun i=>i≤t.branches.length∧(∀j,j<i→∀x,t.branches[j]?=some x→(Dz x.tree:Int)≤42 - (dp+1))) 0 (⟨by omega,fun j h=>by omega⟩) ?_ ?_
  ·exact BY ⟨we O,we O,we O,Aq⟩ (leH (is:=[0]) O (wl (oe O) (C7)))
  rintro i hC
  try simp only at hC
  obtain⟨hi,hC⟩:=hC;refine Au (Az (Ax Ay 2 [] O (Ar O (A3 (i:=0) KE O O (CG _)) (Ar O (BM Jb O (F6 _)) (As Ay 1 [] O (Aw O (fun c1=>?_) (fun c1=>?_)))))))
  ·(try simp only[sd,se] at c1);obtain⟨x,hx⟩:=A7 (l:=t.branches) (i:=i) Ao;refine A2 (Au (BA (Au (BR [1,2,5] 46 (fun y=>∃q:Bool,y= .p (.bool q)∧(q=false→(Dz x.tree:Int)≤42 - (dp+1))) ?_ ?_))))
   ·refine A4 (Ar O (A0 FP O O) (Ar O (A3 (i:=0) KE O O (CG _)) (Bt O (Ar O (A5 Jb O O Ao (FZ hx) (DT _)) (Ar O (Bv IU O O) (Ar O (DA Iv O (Ft _) (Cn _)) (Ax Ay 2 [] O (Dk O O (CC O O (ih x.tree ((dp:Int)+(1:Int)) (by have:=Rj hx;omega) (JX h2.bs hx).tr Ao) (.inl O)) ?_))))))));rintro _ ⟨q1,rfl,hq⟩;refine Ax Ay 2 [] O (BL 37 O (fun g=>?_) (fun g=>?_))
    ·(try simp only[sd,se] at g);exact As Ay 9 [] O (⟨O,O,AK,(by refine⟨_,rfl,fun h=>?_⟩;first | (exact absurd h An) | exact hq (by simpa using g)),⟨O,O,O,Aq⟩⟩)
    (try simp only[sd,se] at g);exact BC O (A0 FP O O) (BC O (A3 (i:=0) KE O O (CG _)) (BC O (BZ O) (BC O (A5 Jb O O Ao (FZ hx) (DT _)) (BC O (Bv IU O O) (BC O (C0 Lu O (GZ _)) (BC O (GG kD O) (As Ay 2 [] O (⟨O,O,AK,(by refine⟨_,rfl,fun h=>?_⟩;first | (exact absurd h An) | exact hq (by simpa using g)),⟨O,O,O,Aq⟩⟩))))))))
   rintro _ ⟨q,rfl,hqx⟩;refine Aw O (fun c2=>?_) (fun c2=>?_)
   ·(try simp only[sd,se] at c2);refine Av Ay 1 [] O (A1 (⟨O,_,_,⟨_,_,O,O,O⟩,(List.nil_sublist _),?_⟩))
    all_goals exact⟨⟨_,rfl,fun h=>absurd h An⟩,rfl⟩
   (try simp only[sd,se] at c2);have hok:=hqx (by simpa using c2);refine A2 (A4 (As Ay 3 [] O (⟨(i+1),AU,⟨by omega,Cw (p:=fun _ (y:GD)=>(Dz y.tree:Int)≤42 - (dp+1)) hC hx hok⟩,BY ⟨we rfl,we rfl,we rfl,trivial⟩ (leH (is:=[0]) rfl (wl (oe rfl) (C7)))⟩)))
  (try simp only[sd,se] at c1);refine Bg (Av Ay 1 [] O (A1 (⟨O,_,_,⟨_,_,O,O,O⟩,(List.nil_sublist _),?_⟩)))
  all_goals exact⟨⟨_,rfl,fun _=>hZ hq1 (II Ao hC)⟩,rfl⟩
theorem Wx:∀(d:CK),(Nn d)→GC Tryz.prog 101 [.agg ((Bk d).map .p)] (fun v=>∃bb:Bool,v= .p (.bool bb)∧(bb=true→Sh d)):=by
 intro d h1;have hcl:=h1.cl;have hfl:=h1.fl;have hrl:=h1.rl;refine A6 Tryz.func101 O mj (n:=124) O O (Az (BG O (BP O) fun b1=>As Ay 1 [] O (Au (Au (BR [1] 47 (fun y=>∃q:Bool,y= .p (.bool q)∧(q=false→Eo d.value≤400)) ?_ ?_)))))
 ·refine A4 (Ar O (A0 Cy O O) (Ar O (A3 (i:=0) Lu O O (DP _)) (Ar O (GG kD O) (Ax Ay 2 [] O (BL 10 O (fun g=>?_) (fun g=>?_))))))
  ·(try simp only[sd,se] at g);exact As Ay 37 [] O (⟨O,O,AK,(by refine⟨_,rfl,fun h=>?_⟩;first | (exact absurd h An) | (simp_all;done) | (simp_all;omega)),⟨O,Aq⟩⟩)
  (try simp only[sd,se] at g);refine BC O (A0 Cy O O) (BC O (By (i:=0) Ba O O (E6 _) (BD _)) (BC O (BF O O (Ht d.type h1.ty) O) (Ax Ay 3 [] O (BL 16 O (fun g1=>?_) (fun g1=>?_)))))
  ·(try simp only[sd,se] at g1);exact As Ay 31 [] O (⟨O,O,AK,(by refine⟨_,rfl,fun h=>?_⟩;first | (exact absurd h An) | (simp_all;done) | (simp_all;omega)),⟨O,Aq⟩⟩)
  (try simp only[sd,se] at g1);refine BC O (A0 Cy O O) (BC O (By (i:=0) Ba O O (FD _) (BD _)) (BC O (BF O O (Ht d.value h1.vl) O) (Ax Ay 3 [] O (BL 22 O (fun g2=>?_) (fun g2=>?_)))))
  ·(try simp only[sd,se] at g2);exact As Ay 25 [] O (⟨O,O,AK,(by refine⟨_,rfl,fun h=>?_⟩;first | (exact absurd h An) | (simp_all;done) | (simp_all;omega)),⟨O,Aq⟩⟩)
  (try simp only[sd,se] at g2);refine BC O (A0 Cy O O) (BC O (A3 (i:=0) Hl O O (CB _)) (BC O (BM HN O (List.length_map _)) (Ax Ay 3 [] O (BL 28 O (fun g3=>?_) (fun g3=>?_)))))
  ·(try simp only[sd,se] at g3);exact As Ay 19 [] O (⟨O,O,AK,(by refine⟨_,rfl,fun h=>?_⟩;first | (exact absurd h An) | (simp_all;done) | (simp_all;omega)),⟨O,Aq⟩⟩)
  (try simp only[sd,se] at g3);refine BC O (A0 Cy O O) (BC O (A3 (i:=0) Gj O O (B6 _)) (BC O (BM Gn O (List.length_map _)) (Ax Ay 3 [] O (BL 34 O (fun g4=>?_) (fun g4=>?_)))))
  ·(try simp only[sd,se] at g4);exact As Ay 13 [] O (⟨O,O,AK,(by refine⟨_,rfl,fun h=>?_⟩;first | (exact absurd h An) | (simp_all;done) | (simp_all;omega)),⟨O,Aq⟩⟩)
  (try simp only[sd,se] at g4);refine Ax Ay 2 [] O (BC O (By (i:=0) Ba O O (FC _) (BD _)) (BC O (BF O O (Ht d.recs.type h1.rt) O) (Ax Ay 3 [] O (BL 41 O (fun g5=>?_) (fun g5=>?_)))))
  ·(try simp only[sd,se] at g5);exact As Ay 6 [] O (⟨O,O,AK,(by refine⟨_,rfl,fun h=>?_⟩;first | (exact absurd h An) | (simp_all;done) | (simp_all;omega)),⟨O,Aq⟩⟩)
  (try simp only[sd,se] at g5);exact Ax Ay 2 [] O (BC O (A3 (i:=0) Gk O O (Ck _)) (BC O (BM Bf O (BS _)) (As Ay 2 [] O (⟨O,O,AK,(by refine⟨_,rfl,fun h=>?_⟩;first | (exact absurd h An) | (simp_all;done) | (simp_all;omega)),⟨O,Aq⟩⟩))))
 rintro _ ⟨q,rfl,hq⟩;refine Aw O (fun c=>?_) (fun c=>?_)
 ·(try simp only[sd,se] at c);refine Av Ay 1 [] O (A1 (⟨O,_,_,⟨_,_,O,O,O⟩,(List.nil_sublist _),?_⟩))
  all_goals exact⟨⟨_,rfl,fun h=>absurd h An⟩,rfl⟩
 (try simp only[sd,se] at c);have hq1:=hq (by simpa using c);refine A2 (Au (Av Ay 1 [] O (BA (Be (α:=Nat) (fun i=>⟨124,mk [(1,.ptr b1 0),(3,.p (I (i:Int)))],[.box b1 ((Bk d).map .p)],[]⟩) (fun i=>d.ctors.length - i) (fun i=>i≤d.ctors.length) 0 AQ ?_ ?_))))
 ·exact BY ⟨we O,we O,Aq⟩ (leH (is:=[0]) O (wl (oe O) (C7)))
 rintro i hC
 try simp only at hC
 have hi:=hC;refine Au (Az (Ax Ay 2 [] O (Ar O (A3 (i:=0) Hl O O (CB _)) (Ar O (BM HN O (List.length_map _)) (As Ay 1 [] O (Aw O (fun c1=>?_) (fun c1=>?_)))))))
 ·(try simp only[sd,se] at c1);refine A2 (Au (BA (Au (BR [1,3] 72 Gd ?_ ?_))))
  ·refine A4 (Ar O (A0 Cy O O) (Ar O (A3 (i:=0) Hl O O (CB _)) (Bt O ?_)));obtain⟨x,hx⟩:=A7 (l:=d.ctors) (i:=i) Ao;refine Ar O (A5 HN O O Ao (EX hx) (D8 _)) (Ar O (Bv Ir O O) (Ar O (C0 Lu O (Fl _)) (Ar O (GG kD O) (Ax Ay 2 [] O (BL 63 O (fun g=>?_) (fun g=>?_))))))
   ·(try simp only[sd,se] at g);exact As Ay 9 [] O (⟨O,O,AK,⟨_,O⟩,⟨O,O,Aq⟩⟩)
   (try simp only[sd,se] at g);exact BC O (A0 Cy O O) (BC O (A3 (i:=0) Hl O O (CB _)) (BC O (BZ O) (BC O (A5 HN O O Ao (EX hx) (D8 _)) (BC O (Bv Ir O O) (BC O (DA Ba O (FA _) (BD _)) (BC O (BF O O (Ht x.type (h1.cs _ (List.mem_of_getElem? hx)).ty) O) (As Ay 2 [] O (⟨O,O,AK,⟨_,O⟩,⟨O,O,Aq⟩⟩))))))))
  rintro _ ⟨q1,rfl⟩;refine Aw O (fun c2=>?_) (fun c2=>?_)
  ·(try simp only[sd,se] at c2);refine Av Ay 1 [] O (A1 (⟨O,_,_,⟨_,_,O,O,O⟩,(List.nil_sublist _),?_⟩))
   all_goals exact⟨⟨_,rfl,fun h=>absurd h An⟩,rfl⟩
  (try simp only[sd,se] at c2);refine A2 (A4 (As Ay 3 [] O ?_));refine⟨(i+1),AU,by omega,BY ⟨we rfl,we rfl,trivial⟩ (leH (is:=[0]) rfl (wl (oe rfl) (C7)))⟩
 (try simp only[sd,se] at c1);refine Bg (Au (Av Ay 1 [] O (BA ?_)));refine Be (α:=Nat) (fun i=>⟨124,mk [(1,.ptr b1 0),(4,.p (I (i:Int)))],[.box b1 ((Bk d).map .p)],[]⟩) (fun i=>d.recs.rules.length - i) (fun i=>i≤d.recs.rules.length∧(∀j,j<i→∀x,d.recs.rules[j]?=some x→Eo x≤400)) 0 (⟨by omega,fun j h=>by omega⟩) ?_ ?_
 ·exact BY ⟨we O,we O,Aq⟩ (leH (is:=[0]) O (wl (oe O) (C7)))
 rintro i hC1
 try simp only at hC1
 obtain⟨hi,hR⟩:=hC1;refine Au (Az (Ax Ay 3 [] O (Ar O (A3 (i:=0) Gk O O (Ck _)) (Ar O (BM Bf O (BS _)) (As Ay 1 [] O (Aw O (fun c2=>?_) (fun c2=>?_)))))))
 ·(try simp only[sd,se] at c2);refine A2 (Au (BA (Az (Ax Ay 2 [] O (Ar O (A3 (i:=0) Gk O O (Ck _)) (Bt O ?_))))));obtain⟨x,hx⟩:=A7 (l:=d.recs.rules) (i:=i) Ao;refine Ar O (A5 Bf O O Ao (Bc hx) (BD _)) (Ar O (BN Ba O (BD _)) (Ar O (BF O O (Ht x (h1.rs _ (List.mem_of_getElem? hx))) O) (As Ay 1 [] O (Aw O (fun c3=>?_) (fun c3=>?_)))))
  ·(try simp only[sd,se] at c3);refine Av Ay 1 [] O (A1 (⟨O,_,_,⟨_,_,O,O,O⟩,(List.nil_sublist _),?_⟩))
   all_goals exact⟨⟨_,rfl,fun h=>absurd h An⟩,rfl⟩
  (try simp only[sd,se] at c3);have hqr:Eo x≤400:=by simp_all
  refine A2 (A4 (As Ay 3 [] O (⟨(i+1),AU,⟨by omega,Cw (p:=fun _ (y:Tm)=>Eo y≤400) hR hx hqr⟩,BY ⟨we rfl,we rfl,trivial⟩ (leH (is:=[0]) rfl (wl (oe rfl) (C7)))⟩)))
 (try simp only[sd,se] at c2);refine Bg (Au (Av Ay 1 [] O (BA ?_)));refine Be (α:=Nat) (fun i=>⟨124,mk [(1,.ptr b1 0),(5,.p (I (i:Int)))],[.box b1 ((Bk d).map .p)],[]⟩) (fun i=>d.funs.length - i) (fun i=>i≤d.funs.length∧(∀j,j<i→∀x,d.funs[j]?=some x→(Dz x.tree:Int)≤42 - 0)) 0 (⟨by omega,fun j h=>by omega⟩) ?_ ?_
 ·exact BY ⟨we O,we O,Aq⟩ (leH (is:=[0]) O (wl (oe O) (C7)))
 rintro i hC2
 try simp only at hC2
 obtain⟨hi,hT⟩:=hC2;refine Au (Az (Ax Ay 2 [] O (Ar O (A3 (i:=0) Gj O O (B6 _)) (Ar O (BM Gn O (List.length_map _)) (As Ay 1 [] O (Aw O (fun c3=>?_) (fun c3=>?_)))))))
 ·(try simp only[sd,se] at c3);obtain⟨x,hx⟩:=A7 (l:=d.funs) (i:=i) Ao;refine A2 (Au (BA (Au (BR [1,5] 123 (fun y=>∃q:Bool,y= .p (.bool q)∧(q=false→(Dz x.tree:Int)≤42 - 0)) ?_ ?_))))
  ·refine A4 (Ar O (A0 Cy O O) (Ar O (A3 (i:=0) Gj O O (B6 _)) (Bt O (Ar O (A5 Gn O O Ao (D7 hx) (DF _)) (Ar O (Bv GX O O) (Ar O (C0 Lu O (Iy _)) (Ar O (GG kD O) (Ax Ay 2 [] O (BL 104 O (fun g=>?_) (fun g=>?_))))))))))
   ·(try simp only[sd,se] at g);exact As Ay 19 [] O (⟨O,O,AK,(by refine⟨_,rfl,fun h=>?_⟩;first | (exact absurd h An) | exact hq (by simpa using h)),⟨O,O,Aq⟩⟩)
   (try simp only[sd,se] at g);refine BC O (A0 Cy O O) (BC O (A3 (i:=0) Gj O O (B6 _)) (BC O (BZ O) (BC O (A5 Gn O O Ao (D7 hx) (DF _)) (BC O (Bv GX O O) (BC O (DA Ba O (I1 _) (BD _)) (BC O (BF O O (Ht x.type (h1.fs _ (List.mem_of_getElem? hx)).ty) O) (Ax Ay 3 [] O (BL 114 O (fun g1=>?_) (fun g1=>?_)))))))))
   ·(try simp only[sd,se] at g1);exact As Ay 9 [] O (⟨O,O,AK,(by refine⟨_,rfl,fun h=>?_⟩;first | (exact absurd h An) | exact hq (by simpa using h)),⟨O,O,Aq⟩⟩)
   (try simp only[sd,se] at g1);refine BC O (A0 Cy O O) (BC O (A3 (i:=0) Gj O O (B6 _)) (BC O (BZ O) (BC O (A5 Gn O O Ao (D7 hx) (DF _)) (BC O (Bv GX O O) (BC O (DA Iv O (Dn _) (Cn _)) (IF O O O O (CC O O (SV (LO x.tree) x.tree 0 (Nat.le_refl _) (h1.fs _ (List.mem_of_getElem? hx)).tr Ao) (.inl O)) ?_))))));rintro _ ⟨q1,rfl,hq⟩;exact As Ay 2 [] O (⟨O,O,AK,(by refine⟨_,rfl,fun h=>?_⟩;first | (exact absurd h An) | exact hq (by simpa using h)),⟨O,O,Aq⟩⟩)
  rintro _ ⟨q,rfl,hqx⟩;refine Aw O (fun c4=>?_) (fun c4=>?_)
  ·(try simp only[sd,se] at c4);refine Av Ay 1 [] O (A1 (⟨O,_,_,⟨_,_,O,O,O⟩,(List.nil_sublist _),?_⟩))
   all_goals exact⟨⟨_,rfl,fun h=>absurd h An⟩,rfl⟩
  (try simp only[sd,se] at c4);have hok:=hqx (by simpa using c4);refine A2 (A4 (As Ay 3 [] O (⟨(i+1),AU,⟨by omega,Cw (p:=fun _ (y:Hi)=>(Dz y.tree:Int)≤42 - 0) hT hx hok⟩,BY ⟨we rfl,we rfl,trivial⟩ (leH (is:=[0]) rfl (wl (oe rfl) (C7)))⟩)))
 (try simp only[sd,se] at c3);refine Bg (Av Ay 1 [] O (A1 (⟨O,_,_,⟨_,_,O,O,O⟩,(List.nil_sublist _),?_⟩)))
 all_goals exact⟨⟨_,rfl,fun _=>eG h1 hq1 (II Ao hR) (II Ao hT)⟩,rfl⟩
theorem gQ:∀(ds:List CK),(HT ds)→GC Tryz.prog 65 [.p (.lst (List.map Bk ds))] (fun v=>∃bb:Bool,v= .p (.bool bb)∧(bb=true→(∀d∈ds,Sh d)∧ds.length≤70)):=by
 intro ds h1;have hl:=h1.len;refine A6 Tryz.func65 O rv (n:=23) O O (Av Ay 1 [] O (Au (Av Ay 1 [] O (BA ?_))));refine Be (α:=Nat) (fun i=>⟨23,mk [(0,.p (.lst (List.map Bk ds))),(3,.p (I (i:Int)))],[],[]⟩) (fun i=>ds.length - i) (fun i=>i≤ds.length∧(∀j,j<i→∀x,ds[j]?=some x→Sh x)) 0 (⟨by omega,fun j h=>by omega⟩) ?_ ?_
 ·exact BY ⟨we O,we O,Aq⟩ (leH (is:=[]) O (C7))
 rintro i hC
 try simp only at hC
 obtain⟨hi,hC⟩:=hC;refine Au (Au (BR [0,3] 11 (fun y=>∃q:Bool,y= .p (.bool q)∧(q=true→i<ds.length)∧(q=false→ds.length≤i∨80≤i)) ?_ ?_))
 ·refine A4 (Ax Ay 2 [] O (Ar O (BM Hj O (List.length_map _)) (Ax Ay 2 [] O (BL 8 O (fun g=>?_) (fun g=>?_)))))
  ·(try simp only[sd,se] at g);refine As Ay 3 [] O ?_;exact⟨rfl,rfl,AK,(by refine⟨_,rfl,fun h=>?_,fun h=>?_⟩<;>first | (exact absurd h An) | omega | (simp only[decide_eq_true_eq,decide_eq_false_iff_not] at h;omega)),⟨rfl,rfl,trivial⟩⟩
  (try simp only[sd,se] at g);refine As Ay 3 [] O ?_;exact⟨rfl,rfl,AK,(by refine⟨_,rfl,fun h=>?_,fun h=>?_⟩<;>first | (exact absurd h An) | omega | (simp only[decide_eq_true_eq,decide_eq_false_iff_not] at h;omega)),⟨rfl,rfl,trivial⟩⟩
 rintro _ ⟨q,rfl,hq,hqn⟩;refine Aw O (fun c=>?_) (fun c=>?_)
 ·(try simp only[sd,se] at c);have hq1:=hq (by simpa using c);refine A2 (Au (BA (Az (Ax Ay 2 [] O ?_))));obtain⟨x,hx⟩:=A7 (l:=ds) (i:=i) Ao;refine Ar O (A5 Hj O O Ao (D4 hx) (Cl _)) (Ar O (BN FM O (Cl _)) (Dk O O (CC O O (Wx x (h1.all _ (List.mem_of_getElem? hx))) (.inl O)) ?_));rintro _ ⟨q1,rfl,hq⟩;refine As Ay 1 [] O (Aw O (fun c1=>?_) (fun c1=>?_))
  ·(try simp only[sd,se] at c1);refine Av Ay 1 [] O (A1 (⟨O,_,_,⟨_,_,O,O,O⟩,(List.nil_sublist _),?_⟩))
   all_goals exact⟨⟨_,rfl,fun h=>absurd h An⟩,rfl⟩
  (try simp only[sd,se] at c1);have hok:=hq (by simpa using c1);refine A2 (A4 (As Ay 3 [] O (⟨(i+1),AU,⟨by omega,Cw (p:=fun _ (y:CK)=>Sh y) hC hx hok⟩,BY ⟨we rfl,we rfl,trivial⟩ (leH (is:=[]) rfl (C7))⟩)))
 (try simp only[sd,se] at c);have hqe:=hqn (by simpa using c);refine Bg (Az (Bt O (Ar O (BM Hj O (List.length_map _)) (As Ay 2 [] O (A1 (⟨O,_,_,⟨_,_,O,O,O⟩,(List.nil_sublist _),?_⟩))))))
 all_goals exact⟨⟨_,rfl,fun h=>⟨II (by simp only[decide_eq_true_eq] at h;omega) hC,by simp only[decide_eq_true_eq] at h;omega⟩⟩,rfl⟩
theorem ca:∀(ds:List CK),(HT ds)→GC Tryz.prog 31 [.p (.lst (List.map Bk ds))] (fun v=>∃bb:Bool,v= .p (.bool bb)∧(bb=true→HQ ds∧ds.length≤70)):=by
 intro ds h1;refine A6 Tryz.func31 O rP (n:=15) O O (Av Ay 1 [] O (Au (Az (Bt O (Dk O O (CC O O (gQ ds h1) (.inl O)) ?_)))));rintro _ ⟨q,rfl,hq⟩;refine As Ay 1 [] O (Aw O (fun c=>?_) (fun c=>?_))
 ·(try simp only[sd,se] at c);refine Av Ay 1 [] O (A1 (⟨O,_,_,⟨_,_,O,O,O⟩,(List.nil_sublist _),?_⟩))
  all_goals exact⟨⟨_,rfl,fun h=>absurd h An⟩,rfl⟩
 (try simp only[sd,se] at c);have hf:=hq (by simpa using c);refine A2 (Az (Bt O (Dk O O (CC O O (YC ds h1) (.inl O)) ?_)));rintro _ ⟨a,e,rfl,he⟩;refine As Ay 5 [] O (Av Ay 3 [] O (A1 (⟨O,_,_,⟨_,_,O,O,O⟩,(List.nil_sublist _),?_⟩)))
 all_goals exact⟨⟨_,rfl,fun h=>⟨gr (he (by simpa using h)) hf.1,hf.2⟩⟩,rfl⟩
end Go.Proofs.YtboammbpdaoojaaGreat
namespace Go.Eu
open Go.Abs
def vT (i:Int):Tm:= .mk 0 i ⟨#[]⟩ [] []
def Oi (nm:ByteArray):Tm:= .mk 3 0 nm [] []
def Kg:ByteArray:=⟨#[78,97,116]⟩
def jl:ByteArray:=⟨#[122,101,114,111]⟩
def Ta:ByteArray:=⟨#[115,117,99,99]⟩
def Pk:ByteArray:=⟨#[112,108,117,115]⟩
def W3 (b:Tm):Tm:=if (Cf 1 0 0 0 b).2≠0 then Bi else (Cf 1 0 0 0 b).1
def X4 (a b:Tm):Tm:= .mk 6 0 ⟨#[]⟩ [] [a,W3 b]
def Xp:CK:=⟨3,Kg,0,.mk 2 0 ⟨#[]⟩ [⟨0,[]⟩] [],Bi,0,[⟨jl,Oi Kg⟩,⟨Ta,X4 (Oi Kg) (Oi Kg)⟩],⟨0,Oi Kg,[Oi Kg,Oi Kg]⟩,[]⟩
def Ru:FJ:= .mk 1 Bi 0 [.mk jl false (.mk 0 (vT 0) 0 []),.mk Ta false (.mk 0 (apply (Oi Ta) [apply (Oi Pk) [vT 0,vT 1]]) 0 [])]
def Ry:CK:=⟨4,⟨#[]⟩,0,Bi,Bi,0,[],⟨0,Bi,[]⟩,[⟨Pk,X4 (Oi Kg) (X4 (Oi Kg) (Oi Kg)),2,Ru⟩]⟩
def Di:List CK:=[Xp,Ry]
theorem kM (nm:ByteArray) (h:nm.size<Dd):Nd (Oi nm):=by
 simp only[Oi,Nd,Ld,List.length_nil,Dd];simp only[Dd] at h;exact⟨h,by omega,by simp,by omega,trivial,by simp[I2],by simp[I2]⟩
theorem qD:Nd (X4 (Oi Kg) (Oi Kg)):=by
 have h:W3 (Oi Kg)=Oi Kg:=by rfl
 have h1:=kM Kg An;rw[X4,h];simp only[Nd,Ld,List.length_nil,List.length_cons,Dd];exact⟨by decide,by omega,by simp,by omega,⟨h1,h1,trivial⟩,by simp[I2],by simp[I2]⟩
end Go.Eu
namespace Go.Proofs.YtboammbpdaoojaaGreat
open Go.Abs Go.Eu
theorem Ij:∀(nm:ByteArray),Ec Tryz.prog 35 [.p (.str nm)] (.agg ((BO (.mk 3 0 nm [] [])).map .p)):=by
 intro nm;refine A6 Tryz.func35 O qZ (n:=5) O O (Az (BG O (A8 Bz O) fun b2=>Bj O (Av Ay 3 [0,0] O (BI (BT (i:=0) O) (A1 (⟨O,_,_,⟨_,_,O,(BB (i:=0) Ba O O O),O⟩,(List.nil_sublist _),?_⟩))))))
 all_goals exact⟨rfl,rfl⟩
theorem dm:∀(i:Int),Ec Tryz.prog 68 [.p (I i)] (.agg ((BO (.mk 0 i ⟨#[]⟩ [] [])).map .p)):=by
 intro i;refine A6 Tryz.func68 O sJ (n:=5) O O (Az (BG O (A8 Bz O) fun b2=>Bj O (Av Ay 3 [0,0] O (BI (BT (i:=0) O) (A1 (⟨O,_,_,⟨_,_,O,(BB (i:=0) Ba O O O),O⟩,(List.nil_sublist _),?_⟩))))))
 all_goals exact⟨rfl,rfl⟩
theorem KT:∀(i:Int),Ec Tryz.prog 33 [.p (I i)] (.agg ((BO (.mk 0 i ⟨#[]⟩ [] [])).map .p)):=by
 intro i;refine A6 Tryz.func33 O r9 (n:=5) O O (Az (BG O (A8 Bz O) fun b2=>Bj O (Av Ay 3 [0,0] O (BI (BT (i:=0) O) (A1 (⟨O,_,_,⟨_,_,O,(BB (i:=0) Ba O O O),O⟩,(List.nil_sublist _),?_⟩))))))
 all_goals exact⟨rfl,rfl⟩
theorem Yl:∀(t:Tm) (l:List Tm),(l.length<Dd)→Ec Tryz.prog 69 [.agg ((BO t).map .p),.p (.lst (BE l))] (.agg ((BO (apply t l)).map .p)):=by
 intro t l h1;refine A6 Tryz.func69 O qm (n:=8) O O (Az (BG O (BP O) fun b2=>BG O (A8 Bz O) fun b4=>Bj O (Az (Ax Ay 2 [1] O (Ar O (BF O O (GQ t l h1) O) (As Ay 1 [0,1] O (A1 (⟨O,_,_,⟨_,_,O,(BB (i:=0) Ba O O Ah),O⟩,(List.nil_sublist _),?_⟩))))))))
 all_goals exact⟨rfl,rfl⟩
theorem ZR:∀(t:Tm) (l:List Tm),(l.length<Dd)→Ec Tryz.prog 34 [.agg ((BO t).map .p),.p (.lst (BE l))] (.agg ((BO (apply t l)).map .p)):=by
 intro t l h1;refine A6 Tryz.func34 O re (n:=8) O O (Az (BG O (BP O) fun b2=>BG O (A8 Bz O) fun b4=>Bj O (Az (Ax Ay 2 [1] O (Ar O (BF O O (GQ t l h1) O) (As Ay 1 [0,1] O (A1 (⟨O,_,_,⟨_,_,O,(BB (i:=0) Ba O O Ah),O⟩,(List.nil_sublist _),?_⟩))))))))
 all_goals exact⟨rfl,rfl⟩
theorem fU:∀(t:Tm) (by' fr:Int),(Nd t)→(size t<1000000)→(by'=1)→(fr=0)→Ec Tryz.prog 103 [.agg ((BO t).map .p),.p (I by'),.p (I fr)] (.tup [.agg ((BO (W3 t)).map .p),.p (I ((Cf 1 0 0 0 t).2))]):=by
 intro t by' fr h1 h2 h3 h4
 refine A6 Tryz.func103 O mZ (n:=40) O O (Az (BG O (BP O) fun b3=>BG O (A8 Bz O) fun b6=>As Ay 1 [] O (Au (Au (BR [1,2,3,6] 19 (fun y=>y= .p (.bool (((decide ((fr:Int)<(0:Int)))||(decide ((by':Int)<(-65536:Int))))||(decide ((by':Int) > (65536:Int)))))) ?_ ?_)))))
 ·refine A4 (Ax Ay 3 [] O (BL 12 O (fun g=>?_) (fun g=>?_)))
  ·(try simp only[sd,se] at g);exact As Ay 7 [] O (⟨O,O,AK,AI,⟨O,O,O,O,Aq⟩⟩)
  (try simp only[sd,se] at g);refine Ax Ay 4 [] O (BL 16 O (fun g1=>?_) (fun g1=>?_))
  ·(try simp only[sd,se] at g1);exact As Ay 3 [] O (⟨O,O,AK,AI,⟨O,O,O,O,Aq⟩⟩)
  (try simp only[sd,se] at g1);exact As Ay 3 [] O (⟨O,O,AK,AI,⟨O,O,O,O,Aq⟩⟩)
 rintro _ rfl;refine Aw O (fun c=>?_) (fun c=>?_)
 ·(try simp only[sd,se] at c);refine Av Ay 3 [0,0] O (BI (BT (i:=0) O) (A1 (⟨O,_,_,⟨_,_,O,(BB (i:=0) Ba O O O),⟨_,_,O,O,O⟩⟩,(List.nil_sublist _),?_⟩)))
  all_goals exact⟨by show (.tup [.agg [.p (I 0),.p (I 0),.p (.str ⟨#[]⟩),.p (.lst []),.p (.lst [])],.p (I 2)]:AV)=_;exfalso;omega,rfl⟩
 (try simp only[sd,se] at c);refine A2 (Az (Ar O (CO eW eU O) (BG O (BP O) fun b22=>As Ay 1 [] O (Az (Ax Ay 4 [2] O (Ar O (Ym O O) (Ar O (B8 [0] O (.inl ⟨O,O,O⟩) (ZQ _ t b22 by' (min (fr:Int) (65536:Int)) 0 0 0 (Nat.le_refl _) h1 Ao Ao) ⟨_,_,rfl,rfl,rfl⟩ An rfl (.inl rfl)) (BG O (A8 Bz O) fun b9=>As Ay 1 [0,1] O (Au (Av Ay 5 [1] O (Aw O (fun c1=>?_) (fun c1=>?_))))))))))))
 ·(try simp only[sd,se] at c1);refine Au (Bu (fun k=>false) Dt (Bn Ay 7 [1,2,0] O (BI (BT (i:=2) O) (A1 (⟨O,_,_,⟨_,_,O,(BB (i:=2) Ba O O O),⟨_,_,O,O,O⟩⟩,(List.nil_sublist _),?_⟩)))))
  all_goals exact⟨by show (.tup [.agg [.p (I 0),.p (I 0),.p (.str ⟨#[]⟩),.p (.lst []),.p (.lst [])],.p (I ((Cf by' (min (fr:Int) (65536:Int)) 0 0 t).2))]:AV)=_;subst h3 h4;have c2:(Cf 1 0 0 0 t).2≠0:=c1;rw[W3,if_pos c2];rfl,rfl⟩
 (try simp only[sd,se] at c1);refine A2 (Av Ay 3 [0,2,1] O (A1 (⟨O,_,_,⟨_,_,O,(BB (i:=2) Ba O O Ah),⟨_,_,O,O,O⟩⟩,(List.nil_sublist _),?_⟩)))
 all_goals exact⟨by show (.tup [.agg ((BO ((Cf by' (min (fr:Int) (65536:Int)) 0 0 t).1)).map .p),.p (I 0)]:AV)=_;subst h3 h4;have c2:(Cf 1 0 0 0 t).2=0:=c1;rw[W3,if_neg (fun h=>h c2),c2];rfl,rfl⟩
theorem Xo:∀(a b:Tm),(Nd b)→(size b<1000000)→Ec Tryz.prog 70 [.agg ((BO a).map .p),.agg ((BO b).map .p)] (.agg ((BO (.mk 6 0 ⟨#[]⟩ [] [a,W3 b])).map .p)):=by
 intro a b h1 h2;refine A6 Tryz.func70 O qh (n:=16) O O (Az (BG O (BP O) fun b2=>BG O (BP O) fun b3=>BG O (A8 Bz O) fun b4=>Bj O (Az (Ar O (BU (i:=1) Ba O O Ah) (Ar O (BF O O (fU b 1 0 h1 h2 O O) O) (Ax Ay 3 [] O (BG O (A8 Bz O) fun b5=>As Ay 2 [0,1] O (Az (Ax Ay 2 [3,0] O (Ar O (Bx (rows:=BE [a,(W3 b)]) Bf Bz O O O O (CF (Bw _)) (E8 _)) (As Ay 2 [1,0] O (BI (BT (i:=1) O) (A1 (⟨O,_,_,⟨_,_,O,(BB (i:=1) Ba O O O),O⟩,(List.nil_sublist _),?_⟩))))))))))))))
 all_goals exact⟨rfl,rfl⟩
theorem kK (l:List Ib):∀r∈l.map G1,∀c∈r,c≠ .nils:=by
 intro r hr;obtain⟨t,_,rfl⟩:=List.mem_map.1 hr;intro c hc;simp only[G1,List.mem_cons] at hc;rcases hc with rfl | hc
 ·simp
 exact sS _ c hc
set_option maxHeartbeats 4000000 in
theorem gy:Ec Tryz.prog 36 [] (.p (.lst (List.map Bk Di))):=by
 refine A6 Tryz.func36 O qe (n:=55) O O (Av Ay 1 [] O (Av Ay 1 [] O (Az (Ar O (BF O O (Ij ⟨#[78,97,116]⟩) O) (BG O (A8 Bz O) fun b2=>As Ay 1 [0,1] O (Av Ay 1 [] O (Au ?_)))))));refine UO [.val (.agg [.p (I 0),.p (.nils)]),.val (.p (.lst (List.map B0 ([(CZ.mk 0 [])])))),.val (.agg [.p (I 2),.p (I 0),.p (.str ⟨#[]⟩),.p (.lst (List.map B0 ([(CZ.mk 0 [])]))),.p (.nils)]),.val (.agg [.p (I 3),.p (I 0),.p (.str ⟨#[78,97,116]⟩),.p (.lst (List.map B0 [])),.p (.lst (BE []))]),.val (.agg [.p (.str ⟨#[122,101,114,111]⟩),.p (I 3),.p (I 0),.p (.str ⟨#[78,97,116]⟩),.p (.lst (List.map B0 [])),.p (.lst (BE []))]),.val (.agg [.p (I 3),.p (I 0),.p (.str ⟨#[78,97,116]⟩),.p (.lst (List.map B0 [])),.p (.lst (BE []))]),.val (.agg [.p (I 3),.p (I 0),.p (.str ⟨#[78,97,116]⟩),.p (.lst (List.map B0 [])),.p (.lst (BE []))]),.val (.agg [.p (I 6),.p (I 0),.p (.str ⟨#[]⟩),.p (.lst (List.map B0 [])),.p (.lst (BE ([(.mk 3 0 ⟨#[78,97,116]⟩ [] []:Tm),W3 (.mk 3 0 ⟨#[78,97,116]⟩ [] []:Tm)])))]),.val (.agg [.p (.str ⟨#[115,117,99,99]⟩),.p (I 6),.p (I 0),.p (.str ⟨#[]⟩),.p (.lst (List.map B0 [])),.p (.lst (BE ([(.mk 3 0 ⟨#[78,97,116]⟩ [] []:Tm),W3 (.mk 3 0 ⟨#[78,97,116]⟩ [] []:Tm)])))]),.val (.p (.lst (List.map G1 ([(Ib.mk ⟨#[122,101,114,111]⟩ (.mk 3 0 ⟨#[78,97,116]⟩ [] []:Tm)),(Ib.mk ⟨#[115,117,99,99]⟩ (.mk 6 0 ⟨#[]⟩ [] ([(.mk 3 0 ⟨#[78,97,116]⟩ [] []:Tm),W3 (.mk 3 0 ⟨#[78,97,116]⟩ [] []:Tm)]):Tm))])))),.val (.agg [.p (I 3),.p (.str ⟨#[78,97,116]⟩),.p (I 0),.p (I 2),.p (I 0),.p (.str ⟨#[]⟩),.p (.lst (List.map B0 ([(CZ.mk 0 [])]))),.p (.nils),.p (I 0),.p (I 0),.p (.str ⟨#[]⟩),.p (.nils),.p (.nils),.p (I 0),.p (.lst (List.map G1 ([(Ib.mk ⟨#[122,101,114,111]⟩ (.mk 3 0 ⟨#[78,97,116]⟩ [] []:Tm)),(Ib.mk ⟨#[115,117,99,99]⟩ (.mk 6 0 ⟨#[]⟩ [] ([(.mk 3 0 ⟨#[78,97,116]⟩ [] []:Tm),W3 (.mk 3 0 ⟨#[78,97,116]⟩ [] []:Tm)]):Tm))]))),.p (I 0),.p (I 0),.p (I 0),.p (.str ⟨#[]⟩),.p (.nils),.p (.nils),.p (.nils),.p (.nils)]),.new [.p (I 0),.p (.str ⟨#[]⟩),.p (I 0),.p (I 0),.p (I 0),.p (.str ⟨#[]⟩),.p (.nils),.p (.nils),.p (I 0),.p (I 0),.p (.str ⟨#[]⟩),.p (.nils),.p (.nils),.p (I 0),.p (.nils),.p (I 0),.p (I 0),.p (I 0),.p (.str ⟨#[]⟩),.p (.nils),.p (.nils),.p (.nils),.p (.nils)]] Dt O Ak Ak ?_
 refine Dw O (fun Bs=>CO Tz ER O) (Dw O (fun Bs=>Bo EZ ER O O O O O) (Dw O (fun Bs=>CO G8 Bz O) (Dw O (fun Bs=>BU (i:=Bs.length+0) Ba O (CS O) Ah) (Dw O (fun Bs=>CO Ir Yy O) (Dw O (fun Bs=>BU (i:=Bs.length+0) Ba O (CS O) O) (Dw O (fun Bs=>BU (i:=Bs.length+0) Ba O (CS O) O) (Dw O (fun Bs=>BF O O (Xo (.mk 3 0 ⟨#[78,97,116]⟩ [] []:Tm) (.mk 3 0 ⟨#[78,97,116]⟩ [] []:Tm) (kM _ An) (by simp[size,Bb])) O) (Dw O (fun Bs=>CO Ir Yy O) ?_))))))));refine Dw O (fun Bs=>Bx (rows:=List.map G1 ([(Ib.mk ⟨#[122,101,114,111]⟩ (.mk 3 0 ⟨#[78,97,116]⟩ [] []:Tm)),(Ib.mk ⟨#[115,117,99,99]⟩ (.mk 6 0 ⟨#[]⟩ [] ([(.mk 3 0 ⟨#[78,97,116]⟩ [] []:Tm),W3 (.mk 3 0 ⟨#[78,97,116]⟩ [] []:Tm)]):Tm))])) HN Yy O O O O (CF (aQ _)) (kK _)) (Dw O (fun Bs=>CO Cy JK O) (Xj O (fun Bs=>A8 JK O) fun b4=>XQ ?_))
 change AL _ _ _ 12 ⟨55,_,[.box b4 [.p (I 0),.p (.str ⟨#[]⟩),.p (I 0),.p (I 0),.p (I 0),.p (.str ⟨#[]⟩),.p (.nils),.p (.nils),.p (I 0),.p (I 0),.p (.str ⟨#[]⟩),.p (.nils),.p (.nils),.p (I 0),.p (.nils),.p (I 0),.p (I 0),.p (I 0),.p (.str ⟨#[]⟩),.p (.nils),.p (.nils),.p (.nils),.p (.nils)],.box b2 [.p (I 3),.p (I 0),.p (.str ⟨#[78,97,116]⟩),.p (.lst (List.map B0 [])),.p (.lst (BE []))]],[]⟩ _
 refine As Ay 1 [0,0] O (Az (Ax Ay 3 [1,1,1] O (Ar O (Bx (rows:=BE ([(.mk 3 0 ⟨#[78,97,116]⟩ [] []:Tm),(.mk 3 0 ⟨#[78,97,116]⟩ [] []:Tm)])) Bf Bz O O O O (CF (Bw _)) (E8 _)) (As Ay 3 [0,0] O (Az (Bt O (Ar O (BF O O (dm 0) O) (Ax Ay 3 [] O (Ar O (BF O O (Ij ⟨#[115,117,99,99]⟩) O) (Bt O (Ar O (BF O O (Ij ⟨#[112,108,117,115]⟩) O) (Bt O (Ar O (BF O O (dm 0) O) (Bt O (Ar O (BF O O (dm 1) O) (Ar O (Bx (rows:=BE ([(.mk 0 0 ⟨#[]⟩ [] []),(.mk 0 1 ⟨#[]⟩ [] [])])) Bf Bz O O O O (CF (Bw _)) (E8 _)) (Ar O (BF O O (Yl (.mk 3 0 ⟨#[112,108,117,115]⟩ [] []) ([(.mk 0 0 ⟨#[]⟩ [] []),(.mk 0 1 ⟨#[]⟩ [] [])]) (by simp[Dd])) O) ?_)))))))))))))))));refine Ar O (Bx (rows:=BE ([(apply (.mk 3 0 ⟨#[112,108,117,115]⟩ [] []) ([(.mk 0 0 ⟨#[]⟩ [] []),(.mk 0 1 ⟨#[]⟩ [] [])]))])) Bf Bz O O O O (CF (Bw _)) (E8 _)) (Ar O (BF O O (Yl (.mk 3 0 ⟨#[115,117,99,99]⟩ [] []) ([(apply (.mk 3 0 ⟨#[112,108,117,115]⟩ [] []) ([(.mk 0 0 ⟨#[]⟩ [] []),(.mk 0 1 ⟨#[]⟩ [] [])]))]) (by simp[Dd])) O) ?_);generalize hz:apply (.mk 3 0 ⟨#[115,117,99,99]⟩ [] []) ([(apply (.mk 3 0 ⟨#[112,108,117,115]⟩ [] []) ([(.mk 0 0 ⟨#[]⟩ [] []),(.mk 0 1 ⟨#[]⟩ [] [])]))])=z;obtain⟨zk,zi,zn,zl,zs⟩:=z;refine Ax Ay 2 [] O (Ar O (Bo Jb YV O O O O O) (Ar O (CO FP Vc O) (BG O (A8 Vc O) fun b5=>As Ay 1 [0,0] O (Au (Bu (fun k=>false) Dt (BQ Ay 4 [1,2,2,2] O (BH O (fun _=>BF O O (Xo (.mk 3 0 ⟨#[78,97,116]⟩ [] []:Tm) (.mk 3 0 ⟨#[78,97,116]⟩ [] []:Tm) (kM _ An) (by simp[size,Bb])) O) Aq (BH O (fun _=>BF O O (Xo (.mk 3 0 ⟨#[78,97,116]⟩ [] []:Tm) (.mk 6 0 ⟨#[]⟩ [] [(.mk 3 0 ⟨#[78,97,116]⟩ [] []:Tm),W3 (.mk 3 0 ⟨#[78,97,116]⟩ [] []:Tm)]) qD An) O) Aq (BQ Ay 2 [0] O (BH O (fun _=>Bo Gn aq O O O O O) Aq (BH O (fun _=>CO Cy JK O) Aq (BH O (fun _=>Bo Hj JK O O O O O) Aq (Bn Ay 1 [] O (A1 (⟨O,_,_,⟨_,_,O,O,O⟩,(List.nil_sublist _),?_⟩)))))))))))))))
 all_goals exact⟨by show (.p (.lst (List.map Bk ([(CK.mk 3 ⟨#[78,97,116]⟩ 0 (.mk 2 0 ⟨#[]⟩ ([(CZ.mk 0 [])]) []:Tm) (.mk 0 0 ⟨#[]⟩ [] []:Tm) 0 ([(Ib.mk ⟨#[122,101,114,111]⟩ (.mk 3 0 ⟨#[78,97,116]⟩ [] []:Tm)),(Ib.mk ⟨#[115,117,99,99]⟩ (.mk 6 0 ⟨#[]⟩ [] ([(.mk 3 0 ⟨#[78,97,116]⟩ [] []:Tm),W3 (.mk 3 0 ⟨#[78,97,116]⟩ [] []:Tm)]):Tm))]) (fo.mk 0 (.mk 3 0 ⟨#[78,97,116]⟩ [] []:Tm) ([(.mk 3 0 ⟨#[78,97,116]⟩ [] []:Tm),(.mk 3 0 ⟨#[78,97,116]⟩ [] []:Tm)])) []),(CK.mk 4 ⟨#[]⟩ 0 (.mk 0 0 ⟨#[]⟩ [] []:Tm) (.mk 0 0 ⟨#[]⟩ [] []:Tm) 0 [] (fo.mk 0 (.mk 0 0 ⟨#[]⟩ [] []:Tm) []) ([(Hi.mk ⟨#[112,108,117,115]⟩ (.mk 6 0 ⟨#[]⟩ [] ([(.mk 3 0 ⟨#[78,97,116]⟩ [] []:Tm),W3 (.mk 6 0 ⟨#[]⟩ [] [(.mk 3 0 ⟨#[78,97,116]⟩ [] []:Tm),W3 (.mk 3 0 ⟨#[78,97,116]⟩ [] []:Tm)])]):Tm) 2 (FJ.mk 1 (.mk 0 0 ⟨#[]⟩ [] []:Tm) 0 ([(GD.mk ⟨#[122,101,114,111]⟩ false (FJ.mk 0 (.mk 0 0 ⟨#[]⟩ [] []:Tm) 0 [])),(GD.mk ⟨#[115,117,99,99]⟩ false (FJ.mk 0 (.mk zk zi zn zl zs:Tm) 0 []))])))]))]))):AV)=_;rw[←hz];rfl,rfl⟩
end Go.Proofs.YtboammbpdaoojaaGreat
namespace Go.Eu
open Go.Abs
theorem Hv {t:Tm}(h:okB t=true) (hs:size t<1000000):US t:=⟨(CP.1 h).nd,hs⟩
theorem ZF:Nn Xp where
 nm:=by decide
 ty:=Hv rfl An
 vl:=Hv rfl An
 cl:=by decide
 cs:=by
  intro c hc;simp only[Xp,List.mem_cons,List.not_mem_nil,or_false] at hc;rcases hc with rfl | rfl
  ·exact⟨by decide,Hv rfl An⟩
  exact⟨by decide,Hv rfl An⟩
 rt:=Hv rfl An
 rl:=by decide
 rs:=by
  intro c hc;simp only[Xp,List.mem_cons,List.not_mem_nil,or_false] at hc;rcases hc with rfl | rfl<;>exact Hv rfl An
 fl:=by decide
 fs:=by intro c hc;cases hc
theorem bH:Hq Ru:=⟨Hv rfl An,by decide,⟨by decide,Hv rfl An,by decide,trivial⟩,⟨by decide,Hv rfl An,by decide,trivial⟩,trivial⟩
theorem VK:Nn Ry where
 nm:=by decide
 ty:=Hv rfl An
 vl:=Hv rfl An
 cl:=by decide
 cs:=by intro c hc;cases hc
 rt:=Hv rfl An
 rl:=by decide
 rs:=by intro c hc;cases hc
 fl:=by decide
 fs:=by
  intro c hc;simp only[Ry,List.mem_cons,List.not_mem_nil,or_false] at hc;subst hc;exact⟨by decide,Hv rfl An,bH⟩
theorem J7:HQ Di:=by
 have h0:∀d∈Di,d=Xp∨d=Ry:=fun d hd=>by simpa [Di] using hd
 refine⟨⟨⟨by decide,fun d hd=>?_⟩,fun d hd=>?_⟩,fun d hd=>?_,fun d hd=>?_,fun d hd=>?_⟩
 ·rcases h0 d hd with rfl | rfl
  ·exact ZF
  exact VK
 ·rcases h0 d hd with rfl | rfl
  ·exact⟨ZF,by decide,rfl,by intro t ht;simp only[Xp,List.mem_cons,List.not_mem_nil,or_false] at ht;rcases ht with rfl | rfl<;>rfl,by intro f hf;cases hf⟩
  refine⟨VK,by decide,rfl,(by intro t ht;cases ht),?_⟩;intro f hf;simp only[Ry,List.mem_cons,List.not_mem_nil,or_false] at hf;subst hf;exact⟨by decide,by decide,rfl,⟨rfl,trivial⟩,⟨rfl,trivial⟩,trivial⟩
 ·rcases h0 d hd with rfl | rfl<;>decide
 ·rcases h0 d hd with rfl | rfl
  ·intro t ht;simp only[Xp,List.mem_cons,List.not_mem_nil,or_false] at ht;rcases ht with rfl | rfl<;>decide
  intro t ht;cases ht
 rcases h0 d hd with rfl | rfl
 ·intro f hf;cases hf
 intro f hf;simp only[Ry,List.mem_cons,List.not_mem_nil,or_false] at hf;subst hf;decide
def ap (f x:Tm):Tm:= .mk 4 0 ⟨#[]⟩ [] [f,x]
def sZ:Tm:= .mk 5 0 ⟨#[]⟩ [] [Oi Kg,vT 0]
def sK:Tm:=ap (ap (Oi Pk) (ap (Oi Ta) (vT 3))) (vT 4)
def LX:Tm:=ap (Oi Ta) (ap (ap (Oi Pk) (vT 3)) (vT 4))
def SZ:Tm:=ap (ap (Oi Pk) (ap sZ (vT 3))) (vT 4)
def Ob:Tm:=ap (ap (Oi Pk) (vT 3)) (vT 4)
def r5:Tm:= .mk 9 0 ⟨#[]⟩ [] [ap sZ (vT 2)]
def PY:Tm:= .mk 9 0 ⟨#[]⟩ [] [vT 2]
def Mt:Tm:=ap (.mk 12 0 ⟨#[]⟩ [] []) (vT 0)
def l8:Tm:=ap (ap (Oi Pk) Mt) (vT 1)
def l6:Tm:=ap (Oi Ta) Mt
theorem pF:EF Di B5 20 20000 sK= .ok (LX,19999):=rfl
theorem oT:EF Di B5 20 20000 SZ= .ok (SZ,19999):=rfl
theorem ld:FG Di B5 20 20000 SZ= .ok (some Ob,19999):=rfl
theorem pG:EF Di B5 20 20000 r5= .ok (PY,19999):=rfl
theorem kx (n:Nat) (s:Int):EI Di B5 (n+2) s Mt= .ok (some 0,s):=by
 rw[O3,show EF Di B5 (n+1) s Mt= .ok (Mt,s) from rfl];show Il Di B5 (n+1) (Mt,s)=_;rw[O4 rfl];rfl
theorem mn:EI Di B5 20 20000 l8= .ok (some 0,20000):=by
 rw[O3,show EF Di B5 19 20000 l8= .ok (l8,20000) from rfl];show Il Di B5 19 (l8,20000)=_;rw[Q5 (f:=⟨Pk,X4 (Oi Kg) (X4 (Oi Kg) (Oi Kg)),2,Ru⟩) (d:=Ry) rfl rfl rfl rfl rfl rfl An];show (Ds Di B5 (EF Di B5 19) 19 Ru [Mt,vT 1] Bi 20000).bind (UZ Di B5 19)=_;rw[show Ds Di B5 (EF Di B5 19) 19 Ru [Mt,vT 1] Bi 20000= .ok ((none,Mt),20000) from rfl];show UZ Di B5 19 ((none,Mt),20000)=_;rw[Ub rfl rfl (ID (by intro h;cases h))];exact kx 17 20000
theorem nz:EI Di B5 20 20000 l6= .ok (none,20000):=by
 rw[O3,show EF Di B5 19 20000 l6= .ok (l6,20000) from rfl];show Il Di B5 19 (l6,20000)=_;rw[SE rfl rfl rfl An An]
theorem ZP:Nd LX∧Nd SZ∧Nd Ob∧Nd PY:=⟨(CP.1 (show okB LX=true from rfl)).nd,(CP.1 (show okB SZ=true from rfl)).nd,(CP.1 (show okB Ob=true from rfl)).nd,(CP.1 (show okB PY=true from rfl)).nd⟩
end Go.Eu
namespace Go.Proofs.YtboammbpdaoojaaGreat
open Go.Abs Go.Eu
theorem Tx (f x:Tm):Ec Tryz.prog 34 [TV f,pX [x]] (TV (.mk 4 0 ⟨#[]⟩ [] [f,x])):=ZR f [x] (by simp[Dd])
theorem Wo (f x y:Tm):Ec Tryz.prog 34 [TV f,pX [x,y]] (TV (.mk 4 0 ⟨#[]⟩ [] [(.mk 4 0 ⟨#[]⟩ [] [f,x]:Tm),y])):=ZR f [x,y] (by simp[Dd])
theorem pN:Ec Tryz.prog 12 [.p (.lst (List.map Bk Di)),TV sK] (.tup [TV LX,.p (I 0)]):=by
 have h:=UN Di 20 sK J7 (by rw[pF];simp);rw[pF] at h;exact h
theorem oM:Ec Tryz.prog 12 [.p (.lst (List.map Bk Di)),TV SZ] (.tup [TV SZ,.p (I 0)]):=by
 have h:=UN Di 20 SZ J7 (by rw[oT];simp);rw[oT] at h;exact h
theorem m0:Ec Tryz.prog 16 [.p (.lst (List.map Bk Di)),TV SZ] (.tup [TV Ob,.p (.bool true),.p (I 0)]):=by
 have h:=gE Di 20 SZ J7 (by rw[ld];simp) (by rw[ld];intro q c e;cases e;rfl);rw[ld] at h;exact h
theorem nt:Ec Tryz.prog 12 [.p (.lst (List.map Bk Di)),TV r5] (.tup [TV PY,.p (I 0)]):=by
 have h:=UN Di 20 r5 J7 (by rw[pG];simp);rw[pG] at h;exact h
theorem mC:Ec Tryz.prog 18 [.p (.lst (List.map Bk Di)),TV l8] (.tup [.p (I 0),.p (.bool true),.p (I 0)]):=by
 have h:=XE Di 20 l8 J7 (by rw[mn];simp);rw[mn] at h;exact h
theorem nS:Ec Tryz.prog 18 [.p (.lst (List.map Bk Di)),TV l6] (.tup [.p (I 0),.p (.bool false),.p (I 0)]):=by
 have h:=XE Di 20 l6 J7 (by rw[nz];simp);rw[nz] at h;exact h
theorem gF:Ec Tryz.prog 15 [TV LX,TV LX] (.p (.bool true)):=by
 have h:=NJ 1000 LX LX An ZP.1;rw[Gt rfl] at h;exact h
theorem gh:Ec Tryz.prog 15 [TV SZ,TV SZ] (.p (.bool true)):=by
 have h:=NJ 1000 SZ SZ An ZP.2.1;rw[Gt rfl] at h;exact h
theorem iq:Ec Tryz.prog 15 [TV Ob,TV Ob] (.p (.bool true)):=by
 have h:=NJ 1000 Ob Ob An ZP.2.2.1;rw[Gt rfl] at h;exact h
theorem gI:Ec Tryz.prog 15 [TV PY,TV PY] (.p (.bool true)):=by
 have h:=NJ 1000 PY PY An ZP.2.2.2;rw[Gt rfl] at h;exact h
set_option maxHeartbeats 4000000 in
theorem OI:Ec Tryz.prog 11 [] (.p (.bool true)):=by
 refine A6 Tryz.func11 O rU (n:=188) O O (Au (HF (M:=⟨188,mk [],[],[]⟩) (D9 Aq (List.Sublist.refl _)) (A4 (As Ay 1 [] O (Au (HF (M:=⟨188,mk [],[],[]⟩) (D9 Aq (List.Sublist.refl _)) (A4 (As Ay 1 [] O (Au (HF (M:=⟨188,mk [(1,.p (.fn 33))],[],[]⟩) (D9 ⟨O,Aq⟩ (List.Sublist.refl _)) (A4 (As Ay 1 [] O (Au (HF (M:=⟨188,mk [(1,.p (.fn 33)),(2,.p (.fn 34))],[],[]⟩) (D9 ⟨O,O,Aq⟩ (List.Sublist.refl _)) (A4 (Ar O (BF O O (Ij ⟨#[78,97,116]⟩) O) (Bt O (Ar O (BF O O (KT 0) O) (Ar O (Bx (rows:=BE ([(.mk 3 0 ⟨#[78,97,116]⟩ [] []),(.mk 0 0 ⟨#[]⟩ [] [])])) Bf Bz O O O O (CF (Bw _)) (E8 _)) (Ar O (CO G8 Bz O) (BG O (A8 Bz O) fun b3=>As Ay 1 [0,0] O ?_)))))))))))))))))))));refine Au (HF (M:=⟨188,mk [(1,.p (.fn 33)),(2,.p (.fn 34)),(3,.ptr b3 0)],[.box b3 [.p (I 5),.p (I 0),.p (.str ⟨#[]⟩),.p (.nils),.p (.lst (BE ([(.mk 3 0 ⟨#[78,97,116]⟩ [] []),(.mk 0 0 ⟨#[]⟩ [] [])])))]],[]⟩) (D9 ⟨O,O,O,Aq⟩ (List.Sublist.refl _)) (A4 (Ar O (BF O O (gy ) O) (As Ay 1 [] O (Au (HF (M:=⟨188,mk [(1,.p (.fn 33)),(2,.p (.fn 34)),(3,.ptr b3 0),(4,.p (.lst (List.map Bk Di)))],[.box b3 [.p (I 5),.p (I 0),.p (.str ⟨#[]⟩),.p (.nils),.p (.lst (BE ([(.mk 3 0 ⟨#[78,97,116]⟩ [] []),(.mk 0 0 ⟨#[]⟩ [] [])])))]],[]⟩) (D9 ⟨O,O,O,O,Aq⟩ (List.Sublist.refl _)) (A4 (Ax Ay 2 [] O (Ar O (BF O O (Ij ⟨#[112,108,117,115]⟩) O) (Bt O (Ar O (BF O O (Ij ⟨#[115,117,99,99]⟩) O) (Bt O (Ar O (BF O O (KT 3) O) ?_)))))))))))));refine Ar O (Bx (rows:=BE ([(.mk 0 3 ⟨#[]⟩ [] [])])) Bf Bz O O O O (CF (Bw _)) (E8 _)) (Ar O (BF O O (Tx (.mk 3 0 ⟨#[115,117,99,99]⟩ [] []) (.mk 0 3 ⟨#[]⟩ [] []:Tm)) O) (Bt O (Ar O (BF O O (KT 4) O) (Ar O (Bx (rows:=BE ([(.mk 4 0 ⟨#[]⟩ [] [(.mk 3 0 ⟨#[115,117,99,99]⟩ [] []),(.mk 0 3 ⟨#[]⟩ [] []:Tm)]),(.mk 0 4 ⟨#[]⟩ [] [])])) Bf Bz O O O O (CF (Bw _)) (E8 _)) (Ar O (BF O O (Wo (.mk 3 0 ⟨#[112,108,117,115]⟩ [] []) (.mk 4 0 ⟨#[]⟩ [] [(.mk 3 0 ⟨#[115,117,99,99]⟩ [] []:Tm),(.mk 0 3 ⟨#[]⟩ [] []:Tm)]:Tm) (.mk 0 4 ⟨#[]⟩ [] []:Tm)) O) (Ar O (BF O O (pN ) O) (Ax Ay 3 [] O (BG O (A8 Bz O) fun b5=>As Ay 2 [0,1] O (Au ?_)))))))))
 refine HF (M:=⟨188,mk [(1,.p (.fn 33)),(2,.p (.fn 34)),(3,.ptr b3 0),(4,.p (.lst (List.map Bk Di))),(5,.ptr b5 0),(6,.p (I 0))],[.box b5 ((BO LX).map .p),.box b3 [.p (I 5),.p (I 0),.p (.str ⟨#[]⟩),.p (.nils),.p (.lst (BE ([(.mk 3 0 ⟨#[78,97,116]⟩ [] []),(.mk 0 0 ⟨#[]⟩ [] [])])))]],[]⟩) (D9 ⟨O,O,O,O,O,O,Aq⟩ (List.Sublist.refl _)) ?_;refine UO [.val (.p (.fn 34)),.val (.agg ((BO (.mk 3 0 ⟨#[112,108,117,115]⟩ [] [])).map .p)),.val (.p (.fn 34)),.val (.agg [.p (I 5),.p (I 0),.p (.str ⟨#[]⟩),.p (.nils),.p (.lst (BE ([(.mk 3 0 ⟨#[78,97,116]⟩ [] []),(.mk 0 0 ⟨#[]⟩ [] [])])))]),.val (.p (.fn 33)),.val (.agg ((BO (.mk 0 3 ⟨#[]⟩ [] [])).map .p)),.val (.p (.lst (BE ([(.mk 0 3 ⟨#[]⟩ [] [])])))),.val (.agg ((BO (.mk 4 0 ⟨#[]⟩ [] [(.mk 5 0 ⟨#[]⟩ [] ([(.mk 3 0 ⟨#[78,97,116]⟩ [] []),(.mk 0 0 ⟨#[]⟩ [] [])]):Tm),(.mk 0 3 ⟨#[]⟩ [] []:Tm)])).map .p)),.val (.p (.fn 33)),.val (.agg ((BO (.mk 0 4 ⟨#[]⟩ [] [])).map .p)),.val (.p (.lst (BE ([(.mk 4 0 ⟨#[]⟩ [] [(.mk 5 0 ⟨#[]⟩ [] ([(.mk 3 0 ⟨#[78,97,116]⟩ [] []),(.mk 0 0 ⟨#[]⟩ [] [])]):Tm),(.mk 0 3 ⟨#[]⟩ [] []:Tm)]),(.mk 0 4 ⟨#[]⟩ [] [])])))),.val (.agg ((BO (.mk 4 0 ⟨#[]⟩ [] [(.mk 4 0 ⟨#[]⟩ [] [(.mk 3 0 ⟨#[112,108,117,115]⟩ [] []),(.mk 4 0 ⟨#[]⟩ [] [(.mk 5 0 ⟨#[]⟩ [] [(.mk 3 0 ⟨#[78,97,116]⟩ [] []:Tm),(.mk 0 0 ⟨#[]⟩ [] []:Tm)]:Tm),(.mk 0 3 ⟨#[]⟩ [] []:Tm)]:Tm)]:Tm),(.mk 0 4 ⟨#[]⟩ [] []:Tm)])).map .p)),.new [.p (I 0),.p (I 0),.p (.str ⟨#[]⟩),.p (.nils),.p (.nils)]] Dt O Ak Ak ?_;refine Dw O (fun Bs=>BZ O) (Dw O (fun Bs=>BF O O (Ij ⟨#[112,108,117,115]⟩) O) (Dw O (fun Bs=>BZ O) (Dw O (fun Bs=>BU (i:=Bs.length+1) Ba O (CS O) O) (Dw O (fun Bs=>BZ O) (Dw O (fun Bs=>BF O O (KT 3) O) (Dw O (fun Bs=>Bx (rows:=BE ([(.mk 0 3 ⟨#[]⟩ [] [])])) Bf Bz O O O O (CF (Bw _)) (E8 _)) (Dw O (fun Bs=>GU O O (Tx (.mk 5 0 ⟨#[]⟩ [] ([(.mk 3 0 ⟨#[78,97,116]⟩ [] []),(.mk 0 0 ⟨#[]⟩ [] [])]):Tm) (.mk 0 3 ⟨#[]⟩ [] []:Tm)) (aw (Df O) (aw (we O) (Et)))) (Dw O (fun Bs=>BZ O) (Dw O (fun Bs=>BF O O (KT 4) O) ?_)))))))))
 refine Dw O (fun Bs=>Bx (rows:=BE ([(.mk 4 0 ⟨#[]⟩ [] [(.mk 5 0 ⟨#[]⟩ [] ([(.mk 3 0 ⟨#[78,97,116]⟩ [] []),(.mk 0 0 ⟨#[]⟩ [] [])]):Tm),(.mk 0 3 ⟨#[]⟩ [] []:Tm)]),(.mk 0 4 ⟨#[]⟩ [] [])])) Bf Bz O O O O (CF (Bw _)) (E8 _)) (Dw O (fun Bs=>BF O O (Wo (.mk 3 0 ⟨#[112,108,117,115]⟩ [] []) (.mk 4 0 ⟨#[]⟩ [] [(.mk 5 0 ⟨#[]⟩ [] [(.mk 3 0 ⟨#[78,97,116]⟩ [] []:Tm),(.mk 0 0 ⟨#[]⟩ [] []:Tm)]:Tm),(.mk 0 3 ⟨#[]⟩ [] []:Tm)]:Tm) (.mk 0 4 ⟨#[]⟩ [] []:Tm)) O) (Xj O (fun Bs=>A8 Bz O) fun b7=>XQ ?_))
 change AL _ _ _ 13 ⟨188,_,[.box b7 [.p (I 0),.p (I 0),.p (.str ⟨#[]⟩),.p (.nils),.p (.nils)],.box b5 ((BO LX).map .p),.box b3 [.p (I 5),.p (I 0),.p (.str ⟨#[]⟩),.p (.nils),.p (.lst (BE ([(.mk 3 0 ⟨#[78,97,116]⟩ [] []),(.mk 0 0 ⟨#[]⟩ [] [])])))]],[]⟩ _
 refine As Ay 1 [0,1] O (Au (HF (M:=⟨188,mk [(1,.p (.fn 33)),(2,.p (.fn 34)),(3,.ptr b3 0),(4,.p (.lst (List.map Bk Di))),(5,.ptr b5 0),(6,.p (I 0)),(7,.ptr b7 0)],[.box b7 ((BO (.mk 4 0 ⟨#[]⟩ [] [(.mk 4 0 ⟨#[]⟩ [] [(.mk 3 0 ⟨#[112,108,117,115]⟩ [] []),(.mk 4 0 ⟨#[]⟩ [] [(.mk 5 0 ⟨#[]⟩ [] [(.mk 3 0 ⟨#[78,97,116]⟩ [] []:Tm),(.mk 0 0 ⟨#[]⟩ [] []:Tm)]:Tm),(.mk 0 3 ⟨#[]⟩ [] []:Tm)]:Tm)]:Tm),(.mk 0 4 ⟨#[]⟩ [] []:Tm)])).map .p),.box b5 ((BO LX).map .p),.box b3 [.p (I 5),.p (I 0),.p (.str ⟨#[]⟩),.p (.nils),.p (.lst (BE ([(.mk 3 0 ⟨#[78,97,116]⟩ [] []),(.mk 0 0 ⟨#[]⟩ [] [])])))]],[]⟩) (D9 ⟨O,O,O,O,O,O,O,Aq⟩ (List.Sublist.refl _)) (A4 (Ax Ay 2 [0] O (Ar O (BF O O (oM ) O) (Ax Ay 3 [] O (BG O (A8 Bz O) fun b8=>As Ay 2 [0,1] O (Au ?_))))))));refine HF (M:=⟨188,mk [(1,.p (.fn 33)),(2,.p (.fn 34)),(3,.ptr b3 0),(4,.p (.lst (List.map Bk Di))),(5,.ptr b5 0),(6,.p (I 0)),(7,.ptr b7 0),(8,.ptr b8 0),(9,.p (I 0))],[.box b8 ((BO SZ).map .p),.box b7 ((BO (.mk 4 0 ⟨#[]⟩ [] [(.mk 4 0 ⟨#[]⟩ [] [(.mk 3 0 ⟨#[112,108,117,115]⟩ [] []),(.mk 4 0 ⟨#[]⟩ [] [(.mk 5 0 ⟨#[]⟩ [] [(.mk 3 0 ⟨#[78,97,116]⟩ [] []:Tm),(.mk 0 0 ⟨#[]⟩ [] []:Tm)]:Tm),(.mk 0 3 ⟨#[]⟩ [] []:Tm)]:Tm)]:Tm),(.mk 0 4 ⟨#[]⟩ [] []:Tm)])).map .p),.box b5 ((BO LX).map .p),.box b3 [.p (I 5),.p (I 0),.p (.str ⟨#[]⟩),.p (.nils),.p (.lst (BE ([(.mk 3 0 ⟨#[78,97,116]⟩ [] []),(.mk 0 0 ⟨#[]⟩ [] [])])))]],[]⟩) (D9 ⟨O,O,O,O,O,O,O,O,O,Aq⟩ (List.Sublist.refl _)) (A4 (Ax Ay 2 [1] O (Ar O (BF O O (m0 ) O) (Ax Ay 4 [] O (BG O (A8 Bz O) fun b10=>?_)))))
 refine As Ay 3 [0,1] O (Au (HF (M:=⟨188,mk [(1,.p (.fn 33)),(2,.p (.fn 34)),(3,.ptr b3 0),(4,.p (.lst (List.map Bk Di))),(5,.ptr b5 0),(6,.p (I 0)),(7,.ptr b7 0),(8,.ptr b8 0),(9,.p (I 0)),(10,.ptr b10 0),(11,.p (.bool true)),(12,.p (I 0))],[.box b10 ((BO Ob).map .p),.box b8 ((BO SZ).map .p),.box b7 ((BO (.mk 4 0 ⟨#[]⟩ [] [(.mk 4 0 ⟨#[]⟩ [] [(.mk 3 0 ⟨#[112,108,117,115]⟩ [] []),(.mk 4 0 ⟨#[]⟩ [] [(.mk 5 0 ⟨#[]⟩ [] [(.mk 3 0 ⟨#[78,97,116]⟩ [] []:Tm),(.mk 0 0 ⟨#[]⟩ [] []:Tm)]:Tm),(.mk 0 3 ⟨#[]⟩ [] []:Tm)]:Tm)]:Tm),(.mk 0 4 ⟨#[]⟩ [] []:Tm)])).map .p),.box b5 ((BO LX).map .p),.box b3 [.p (I 5),.p (I 0),.p (.str ⟨#[]⟩),.p (.nils),.p (.lst (BE ([(.mk 3 0 ⟨#[78,97,116]⟩ [] []),(.mk 0 0 ⟨#[]⟩ [] [])])))]],[]⟩) (D9 ⟨O,O,O,O,O,O,O,O,O,O,O,O,Aq⟩ (List.Sublist.refl _)) ?_));refine Bu (fun k=>Nat.beq k 13) Dt (BQ Ay 4 [4] O (BH O (fun _=>BF O O (KT 2) O) Aq (BH O (fun _=>Bx (rows:=BE ([(.mk 0 2 ⟨#[]⟩ [] [])])) Bf Bz O O O O (CF (Bw _)) (E8 _)) Aq (BH O (fun _=>GU O O (Tx (.mk 5 0 ⟨#[]⟩ [] ([(.mk 3 0 ⟨#[78,97,116]⟩ [] []),(.mk 0 0 ⟨#[]⟩ [] [])]):Tm) (.mk 0 2 ⟨#[]⟩ [] []:Tm)) (aw (Df O) (aw (we O) (Et)))) Aq (BH O (fun _=>Bx (rows:=BE ([(.mk 4 0 ⟨#[]⟩ [] [(.mk 5 0 ⟨#[]⟩ [] ([(.mk 3 0 ⟨#[78,97,116]⟩ [] []),(.mk 0 0 ⟨#[]⟩ [] [])]):Tm),(.mk 0 2 ⟨#[]⟩ [] []:Tm)])])) Bf Bz O O O O (CF (Bw _)) (E8 _)) Aq (BH O (fun _=>CO G8 Bz O) Aq (BH O (fun _=>GU O O (nt ) (aw (we O) (aw (Df O) (Et)))) Aq (BQ Ay 3 [] O (G9 [] O O (A8 Bz O) Ak fun b13=>⟨AB,Aq,?_⟩)))))))));refine Bn Ay 2 [0,1] O (Au ?_)
 refine HF (M:=⟨188,mk [(1,.p (.fn 33)),(2,.p (.fn 34)),(4,.p (.lst (List.map Bk Di))),(5,.ptr b5 0),(6,.p (I 0)),(7,.ptr b7 0),(8,.ptr b8 0),(9,.p (I 0)),(10,.ptr b10 0),(11,.p (.bool true)),(12,.p (I 0)),(13,.ptr b13 0),(14,.p (I 0))],[.box b13 ((BO PY).map .p),.box b10 ((BO Ob).map .p),.box b8 ((BO SZ).map .p),.box b7 ((BO (.mk 4 0 ⟨#[]⟩ [] [(.mk 4 0 ⟨#[]⟩ [] [(.mk 3 0 ⟨#[112,108,117,115]⟩ [] []),(.mk 4 0 ⟨#[]⟩ [] [(.mk 5 0 ⟨#[]⟩ [] [(.mk 3 0 ⟨#[78,97,116]⟩ [] []:Tm),(.mk 0 0 ⟨#[]⟩ [] []:Tm)]:Tm),(.mk 0 3 ⟨#[]⟩ [] []:Tm)]:Tm)]:Tm),(.mk 0 4 ⟨#[]⟩ [] []:Tm)])).map .p),.box b5 ((BO LX).map .p),.box b3 [.p (I 5),.p (I 0),.p (.str ⟨#[]⟩),.p (.nils),.p (.lst (BE ([(.mk 3 0 ⟨#[78,97,116]⟩ [] []),(.mk 0 0 ⟨#[]⟩ [] [])])))]],[]⟩) (D9 ⟨O,O,O,O,O,O,O,O,O,O,O,O,O,Aq⟩ (List.Sublist.refl _)) ?_;refine A4 (Ax Ay 3 [] O (Ar O (BF O O (KT 0) O) (Ar O (Bx (rows:=BE ([(.mk 0 0 ⟨#[]⟩ [] [])])) Bf Bz O O O O (CF (Bw _)) (E8 _)) (Ar O (GU O O (Tx (.mk 12 0 ⟨#[]⟩ [] []:Tm) (.mk 0 0 ⟨#[]⟩ [] []:Tm)) (aw (Df O) (aw (we O) (Et)))) (BG O (A8 Bz O) fun b15=>As Ay 1 [0,1] O (Au ?_))))));refine HF (M:=⟨188,mk [(1,.p (.fn 33)),(2,.p (.fn 34)),(4,.p (.lst (List.map Bk Di))),(5,.ptr b5 0),(6,.p (I 0)),(7,.ptr b7 0),(8,.ptr b8 0),(9,.p (I 0)),(10,.ptr b10 0),(11,.p (.bool true)),(12,.p (I 0)),(13,.ptr b13 0),(14,.p (I 0)),(15,.ptr b15 0)],[.box b15 ((BO (.mk 4 0 ⟨#[]⟩ [] [(.mk 12 0 ⟨#[]⟩ [] []:Tm),(.mk 0 0 ⟨#[]⟩ [] []:Tm)])).map .p),.box b13 ((BO PY).map .p),.box b10 ((BO Ob).map .p),.box b8 ((BO SZ).map .p),.box b7 ((BO (.mk 4 0 ⟨#[]⟩ [] [(.mk 4 0 ⟨#[]⟩ [] [(.mk 3 0 ⟨#[112,108,117,115]⟩ [] []),(.mk 4 0 ⟨#[]⟩ [] [(.mk 5 0 ⟨#[]⟩ [] [(.mk 3 0 ⟨#[78,97,116]⟩ [] []:Tm),(.mk 0 0 ⟨#[]⟩ [] []:Tm)]:Tm),(.mk 0 3 ⟨#[]⟩ [] []:Tm)]:Tm)]:Tm),(.mk 0 4 ⟨#[]⟩ [] []:Tm)])).map .p),.box b5 ((BO LX).map .p),.box b3 [.p (I 5),.p (I 0),.p (.str ⟨#[]⟩),.p (.nils),.p (.lst (BE ([(.mk 3 0 ⟨#[78,97,116]⟩ [] []),(.mk 0 0 ⟨#[]⟩ [] [])])))]],[]⟩) (D9 ⟨O,O,O,O,O,O,O,O,O,O,O,O,O,O,Aq⟩ (List.Sublist.refl _)) ?_
 refine Bu (fun k=>false) Dt (BQ Ay 2 [] O (BH O (fun _=>BF O O (Ij ⟨#[112,108,117,115]⟩) O) Aq (BQ Ay 2 [0] O (BH O (fun _=>BF O O (KT 1) O) Aq (BH O (fun _=>Bx (rows:=BE ([(.mk 4 0 ⟨#[]⟩ [] [(.mk 12 0 ⟨#[]⟩ [] []:Tm),(.mk 0 0 ⟨#[]⟩ [] []:Tm)]),(.mk 0 1 ⟨#[]⟩ [] [])])) Bf Bz O O O O (CF (Bw _)) (E8 _)) Aq (BH O (fun _=>BF O O (Wo (.mk 3 0 ⟨#[112,108,117,115]⟩ [] []) (.mk 4 0 ⟨#[]⟩ [] [(.mk 12 0 ⟨#[]⟩ [] []:Tm),(.mk 0 0 ⟨#[]⟩ [] []:Tm)]:Tm) (.mk 0 1 ⟨#[]⟩ [] []:Tm)) O) Aq (BH O (fun _=>BF O O (mC ) O) Aq (Bn Ay 7 [] O (Au ?_)))))))));refine HF (M:=⟨188,mk [(1,.p (.fn 33)),(2,.p (.fn 34)),(4,.p (.lst (List.map Bk Di))),(5,.ptr b5 0),(6,.p (I 0)),(7,.ptr b7 0),(8,.ptr b8 0),(9,.p (I 0)),(10,.ptr b10 0),(11,.p (.bool true)),(12,.p (I 0)),(13,.ptr b13 0),(14,.p (I 0)),(15,.ptr b15 0),(16,.p (I 0)),(17,.p (.bool true)),(18,.p (I 0))],[.box b15 ((BO (.mk 4 0 ⟨#[]⟩ [] [(.mk 12 0 ⟨#[]⟩ [] []:Tm),(.mk 0 0 ⟨#[]⟩ [] []:Tm)])).map .p),.box b13 ((BO PY).map .p),.box b10 ((BO Ob).map .p),.box b8 ((BO SZ).map .p),.box b7 ((BO (.mk 4 0 ⟨#[]⟩ [] [(.mk 4 0 ⟨#[]⟩ [] [(.mk 3 0 ⟨#[112,108,117,115]⟩ [] []),(.mk 4 0 ⟨#[]⟩ [] [(.mk 5 0 ⟨#[]⟩ [] [(.mk 3 0 ⟨#[78,97,116]⟩ [] []:Tm),(.mk 0 0 ⟨#[]⟩ [] []:Tm)]:Tm),(.mk 0 3 ⟨#[]⟩ [] []:Tm)]:Tm)]:Tm),(.mk 0 4 ⟨#[]⟩ [] []:Tm)])).map .p),.box b5 ((BO LX).map .p),.box b3 [.p (I 5),.p (I 0),.p (.str ⟨#[]⟩),.p (.nils),.p (.lst (BE ([(.mk 3 0 ⟨#[78,97,116]⟩ [] []),(.mk 0 0 ⟨#[]⟩ [] [])])))]],[]⟩) (D9 ⟨O,O,O,O,O,O,O,O,O,O,O,O,O,O,O,O,O,Aq⟩ (List.Sublist.refl _)) ?_;refine Bu (fun k=>false) Dt (BQ Ay 2 [] O (BH O (fun _=>BF O O (Ij ⟨#[115,117,99,99]⟩) O) Aq (BQ Ay 1 [0] O (BH O (fun _=>Bx (rows:=BE ([(.mk 4 0 ⟨#[]⟩ [] [(.mk 12 0 ⟨#[]⟩ [] []:Tm),(.mk 0 0 ⟨#[]⟩ [] []:Tm)])])) Bf Bz O O O O (CF (Bw _)) (E8 _)) Aq (BH O (fun _=>BF O O (Tx (.mk 3 0 ⟨#[115,117,99,99]⟩ [] []) (.mk 4 0 ⟨#[]⟩ [] [(.mk 12 0 ⟨#[]⟩ [] []:Tm),(.mk 0 0 ⟨#[]⟩ [] []:Tm)]:Tm)) O) Aq (BH O (fun _=>BF O O (nS ) O) Aq (Bn Ay 7 [] O (Au (Au ?_)))))))))
 refine HF (M:=⟨188,mk [(1,.p (.fn 33)),(2,.p (.fn 34)),(5,.ptr b5 0),(6,.p (I 0)),(7,.ptr b7 0),(8,.ptr b8 0),(9,.p (I 0)),(10,.ptr b10 0),(11,.p (.bool true)),(12,.p (I 0)),(13,.ptr b13 0),(14,.p (I 0)),(16,.p (I 0)),(17,.p (.bool true)),(18,.p (I 0)),(20,.p (.bool false)),(21,.p (I 0))],[.box b15 ((BO (.mk 4 0 ⟨#[]⟩ [] [(.mk 12 0 ⟨#[]⟩ [] []:Tm),(.mk 0 0 ⟨#[]⟩ [] []:Tm)])).map .p),.box b13 ((BO PY).map .p),.box b10 ((BO Ob).map .p),.box b8 ((BO SZ).map .p),.box b7 ((BO (.mk 4 0 ⟨#[]⟩ [] [(.mk 4 0 ⟨#[]⟩ [] [(.mk 3 0 ⟨#[112,108,117,115]⟩ [] []),(.mk 4 0 ⟨#[]⟩ [] [(.mk 5 0 ⟨#[]⟩ [] [(.mk 3 0 ⟨#[78,97,116]⟩ [] []:Tm),(.mk 0 0 ⟨#[]⟩ [] []:Tm)]:Tm),(.mk 0 3 ⟨#[]⟩ [] []:Tm)]:Tm)]:Tm),(.mk 0 4 ⟨#[]⟩ [] []:Tm)])).map .p),.box b5 ((BO LX).map .p),.box b3 [.p (I 5),.p (I 0),.p (.str ⟨#[]⟩),.p (.nils),.p (.lst (BE ([(.mk 3 0 ⟨#[78,97,116]⟩ [] []),(.mk 0 0 ⟨#[]⟩ [] [])])))]],[]⟩) (D9 ⟨O,O,O,O,O,O,O,O,O,O,O,O,O,O,O,O,O,Aq⟩ (List.Sublist.refl _)) ?_;refine A4 (As Ay 22 [] O ?_);refine Aw O (fun c=>by cases c) (fun c=>?_);refine A2 (Au ?_);refine HF (M:=⟨188,mk [(1,.p (.fn 33)),(2,.p (.fn 34)),(5,.ptr b5 0),(7,.ptr b7 0),(8,.ptr b8 0),(10,.ptr b10 0),(11,.p (.bool true)),(13,.ptr b13 0),(16,.p (I 0)),(17,.p (.bool true)),(20,.p (.bool false))],[.box b15 ((BO (.mk 4 0 ⟨#[]⟩ [] [(.mk 12 0 ⟨#[]⟩ [] []:Tm),(.mk 0 0 ⟨#[]⟩ [] []:Tm)])).map .p),.box b13 ((BO PY).map .p),.box b10 ((BO Ob).map .p),.box b8 ((BO SZ).map .p),.box b7 ((BO (.mk 4 0 ⟨#[]⟩ [] [(.mk 4 0 ⟨#[]⟩ [] [(.mk 3 0 ⟨#[112,108,117,115]⟩ [] []),(.mk 4 0 ⟨#[]⟩ [] [(.mk 5 0 ⟨#[]⟩ [] [(.mk 3 0 ⟨#[78,97,116]⟩ [] []:Tm),(.mk 0 0 ⟨#[]⟩ [] []:Tm)]:Tm),(.mk 0 3 ⟨#[]⟩ [] []:Tm)]:Tm)]:Tm),(.mk 0 4 ⟨#[]⟩ [] []:Tm)])).map .p),.box b5 ((BO LX).map .p),.box b3 [.p (I 5),.p (I 0),.p (.str ⟨#[]⟩),.p (.nils),.p (.lst (BE ([(.mk 3 0 ⟨#[78,97,116]⟩ [] []),(.mk 0 0 ⟨#[]⟩ [] [])])))]],[]⟩) (D9 ⟨O,O,O,O,O,O,O,O,O,O,O,Aq⟩ (List.Sublist.refl _)) ?_
 refine Bu (fun k=>false) Dt (BQ Ay 2 [5] O (BH O (fun _=>BF O O (Ij ⟨#[115,117,99,99]⟩) O) Aq (BH O (fun _=>BZ O) Aq (BH O (fun _=>BF O O (Ij ⟨#[112,108,117,115]⟩) O) Aq (BH O (fun _=>BZ O) Aq (BH O (fun _=>BF O O (KT 3) O) Aq (BH O (fun _=>BZ O) Aq (BH O (fun _=>BF O O (KT 4) O) Aq (BH O (fun _=>Bx (rows:=BE ([(.mk 0 3 ⟨#[]⟩ [] []),(.mk 0 4 ⟨#[]⟩ [] [])])) Bf Bz O O O O (CF (Bw _)) (E8 _)) Aq (BH O (fun _=>BF O O (Wo (.mk 3 0 ⟨#[112,108,117,115]⟩ [] []) (.mk 0 3 ⟨#[]⟩ [] []:Tm) (.mk 0 4 ⟨#[]⟩ [] []:Tm)) O) Aq ?_))))))))));refine BH O (fun _=>Bx (rows:=BE ([(.mk 4 0 ⟨#[]⟩ [] [(.mk 4 0 ⟨#[]⟩ [] [(.mk 3 0 ⟨#[112,108,117,115]⟩ [] []),(.mk 0 3 ⟨#[]⟩ [] []:Tm)]:Tm),(.mk 0 4 ⟨#[]⟩ [] []:Tm)])])) Bf Bz O O O O (CF (Bw _)) (E8 _)) Aq (BH O (fun _=>BF O O (Tx (.mk 3 0 ⟨#[115,117,99,99]⟩ [] []) (.mk 4 0 ⟨#[]⟩ [] [(.mk 4 0 ⟨#[]⟩ [] [(.mk 3 0 ⟨#[112,108,117,115]⟩ [] []:Tm),(.mk 0 3 ⟨#[]⟩ [] []:Tm)]:Tm),(.mk 0 4 ⟨#[]⟩ [] []:Tm)]:Tm)) O) Aq (BH O (fun _=>BF O O (gF ) O) Aq (BQ Ay 3 [3,4] O (Cc O (fun _=>BF O O (gh ) O) Aq (BQ Ay 7 [2] O (Cc O (fun _=>BF O O (Ij ⟨#[112,108,117,115]⟩) O) Aq (Cc O (fun _=>BZ O) Aq (Cc O (fun _=>BF O O (KT 3) O) Aq (Cc O (fun _=>BZ O) Aq (Cc O (fun _=>BF O O (KT 4) O) Aq ?_))))))))));refine Cc O (fun _=>Bx (rows:=BE ([(.mk 0 3 ⟨#[]⟩ [] []),(.mk 0 4 ⟨#[]⟩ [] [])])) Bf Bz O O O O (CF (Bw _)) (E8 _)) Aq (Cc O (fun _=>BF O O (Wo (.mk 3 0 ⟨#[112,108,117,115]⟩ [] []) (.mk 0 3 ⟨#[]⟩ [] []:Tm) (.mk 0 4 ⟨#[]⟩ [] []:Tm)) O) Aq (Cc O (fun _=>BF O O (iq ) O) Aq (BQ Ay 4 [1] O (Cc O (fun _=>BF O O (KT 2) O) Aq (Cc O (fun _=>Bx (rows:=BE ([(.mk 0 2 ⟨#[]⟩ [] [])])) Bf Bz O O O O (CF (Bw _)) (E8 _)) Aq (Cc O (fun _=>CO G8 Bz O) Aq (Cc O (fun _=>GU O O (gI ) (aw (we O) (aw (Df O) (Et)))) Aq (Bn Ay 13 [] O (A1 (⟨O,_,_,⟨_,_,O,O,O⟩,(List.nil_sublist _),?_⟩))))))))))
 all_goals exact⟨rfl,rfl⟩
theorem Vx:∀(n:Nat) (l:List Tm) (most:Int),Bb l≤n→iL l→l.length<wide→Ec Tryz.prog 29 [.p (I most),pX l] (.p (I (Ea l most 0))):=by
 intro n
 induction n using Nat.strongRecOn with
 | ind n ih =>
  intro l most hs hnd hlen;simp only[wide] at hlen;refine A6 Tryz.func29 O qi (n:=29) O O (Av Ay 1 [] O (Av Ay 1 [] O (Au (Az (Bt O (Ar O (C4 Bf O) (As Ay 1 [] O (BA (Be (α:=Nat×Int) (fun s=>⟨29,mk [(0,.p (I most)),(5,.p (I s.2)),(8,pX l),(9,.p (I (BE l).length)),(10,.p (I s.1))],[],[]⟩) (fun s=>l.length - s.1) (fun s=>s.1≤l.length∧Ea (l.drop s.1) most s.2=Ea l most 0) ((0,0)) Ap ?_ ?_)))))))))
  ·exact D9 ⟨O,O,O,O,O,Aq⟩ AA
  rintro⟨i,m⟩ ⟨hi,hC⟩;simp only at hi hC;refine Av Ay 1 [] O (Au (Aw O (fun c1=>?_) (fun c1=>?_)))
  ·(try simp only[sd] at c1);have hi2:i<l.length:=by rw[BS] at c1;omega
   obtain⟨t,hk⟩:=A7 hi2;have hks:=Ce hk;obtain⟨kd,ix,nm,ls,ks⟩:=t;have hnt:=Qh hnd hk;simp only[Wd] at hnt;simp only[size] at hks;refine A2 (Au (BA (Az (Ar O (A5 Bf O O Ao (Bc hk) (BD _)) (Ar O (BN Ba O (BD _)) (BG O (A8 Bz O) fun b7=>As Ay 1 [0,0] O (Au (Av Ay 3 [] O (Aw O (fun c2=>?_) (fun c2=>?_))))))))))
   ·(try simp only[sd] at c2);refine Av Ay 2 [] O (A1 ⟨O,_,[],Bl O,List.nil_sublist _,?_⟩);exact⟨pI (by rw[←hC,TJ hk,if_pos Ao]),O⟩
   (try simp only[sd] at c2);refine A2 (A4 (Ax Ay 3 [] O (Ar O (JR O O) (Ax Ay 2 [0] O (Ar O (BF O O (ih (Bb ks) Ao ks _ (Nat.le_refl _) hnt.2.2.2.2.1 hnt.2.2.2.1) O) (Ar O (ED O O) (Ar O (ED O O) (As Ay 1 [] O (A4 (As Ay 2 [] O ?_))))))))));exact⟨(i+1,wr (m+wr (1+Ea ks (wr (most - m)) 0))),Aj,⟨by omega,by rw[←hC,TJ hk,if_neg Ao,Ek]⟩,D9 ⟨rfl,rfl,rfl,rfl,rfl,trivial⟩ AA⟩
  (try simp only[sd] at c1);have hi2:i=l.length:=by rw[BS] at c1;omega
  refine Bg (Av Ay 2 [] O (A1 ⟨O,_,[],Bl O,List.nil_sublist _,?_⟩));exact⟨pI (by rw[←hC,hi2,List.drop_length];rfl),O⟩
theorem lB:∀(x:CZ),(l7 x)→Ec Tryz.prog 100 [.agg ((B0 x).map .p)] (.p (.bool (decide ((x.vars.length:Int) > 20)))):=by
 intro x h1;refine A6 Tryz.func100 O n4 (n:=7) O O (Az (BG O (BP O) fun b1=>As Ay 1 [] O (Az (Ax Ay 2 [0] O (Ar O (BM CW O (List.length_map _)) (As Ay 2 [] O (A1 (⟨O,_,_,⟨_,_,O,O,O⟩,(List.nil_sublist _),?_⟩))))))))
 all_goals exact⟨rfl,rfl⟩
theorem kc:∀(l:List CZ),(l.length<wide)→(∀x∈l,l7 x)→GC Tryz.prog 130 [.p (.lst (List.map B0 l)),.p (.fn 100)] (fun v=>∃r:Int,v= .p (I r)∧(r<0→∀x∈l,x.vars.length≤20)):=by
 intro l h1 h2;simp only[wide] at h1;refine A6 Tryz.func130 O jr (n:=19) O O (Av Ay 1 [] O (Au (Az (Bt O (Ar O (BM EZ O (List.length_map _)) (As Ay 1 [] O (BA ?_)))))));refine Be (α:=Nat) (fun i=>⟨19,mk [(0,.p (.lst (List.map B0 l))),(1,.p (.fn 100)),(7,.p (I (l.length:Nat))),(8,.p (I (i:Int)))],[],[]⟩) (fun i=>l.length - i) (fun i=>i≤l.length∧(∀j,j<i→∀x,l[j]?=some x→x.vars.length≤20)) 0 (⟨by omega,fun j h=>by omega⟩) ?_ ?_
 ·exact BY ⟨we O,we O,we O,we O,Aq⟩ (leH (is:=[]) O (C7))
 rintro i hC
 try simp only at hC
 obtain⟨hi,hC⟩:=hC;refine Av Ay 1 [] O (Au (Aw O (fun c=>?_) (fun c=>?_)))
 ·(try simp only[sd,se] at c);refine A2 (Au (BA (Av Ay 2 [] O (Az (Ax Ay 3 [] O ?_)))));obtain⟨x,hx⟩:=A7 (l:=l) (i:=i) Ao;refine Ar O (A5 EZ O O Ao (Fz hx) (Dm _)) (Ar O (BN Dc O (Dm _)) (Ar O (BF O O (lB x (h2 x (List.mem_of_getElem? hx))) O) (Bj O (Aw O (fun c1=>?_) (fun c1=>?_)))))
  ·(try simp only[sd,se] at c1);refine Av Ay 2 [] O (A1 (⟨O,_,[],Bl O,List.nil_sublist _,⟨⟨_,O,?_⟩,O⟩⟩));exact fun h=>by omega
  (try simp only[sd,se] at c1);refine A2 (A4 (As Ay 2 [] O (⟨(i+1),AU,⟨by omega,Cw hC hx Ao⟩,BY ⟨we rfl,we rfl,we rfl,we rfl,trivial⟩ (leH (is:=[]) rfl (C7))⟩)))
 (try simp only[sd,se] at c);refine Bg (Av Ay 1 [] O (A1 (⟨O,_,[],Bl O,List.nil_sublist _,⟨⟨_,O,?_⟩,O⟩⟩)));exact fun _ x hx=>by obtain⟨j,hj⟩:=Kl hx;exact hC j (by have:=(List.getElem?_eq_some_iff.1 hj).1;omega) x hj
theorem jW:∀(l:List CZ),(l.length<wide)→(∀x∈l,l7 x)→GC Tryz.prog 99 [.p (.lst (List.map B0 l)),.p (.fn 100)] (fun v=>∃b:Bool,v= .p (.bool b)∧(b=false→∀x∈l,x.vars.length≤20)):=by
 intro l h1 h2;refine A6 Tryz.func99 O mF (n:=9) O O (Av Ay 1 [] O (Az (Ax Ay 2 [] O (Dk O O (CC O O (kc l h1 h2) (.inl O)) ?_))));rintro _ ⟨r,rfl,hr⟩;refine As Ay 2 [] O (A1 (⟨O,_,[],Bl O,List.nil_sublist _,⟨⟨_,O,?_⟩,O⟩⟩));exact fun h=>hr (by simp at h;omega)
theorem oK:∀(n:Nat) (l:List Tm),(Bb l≤n)→(iL l)→(l.length<wide)→GC Tryz.prog 64 [.p (.lst (BE l))] (fun v=>∃b:Bool,v= .p (.bool b)∧(b=true→YF l)):=by
 intro n
 induction n using Nat.strongRecOn with
 | ind n ih =>
  intro l h1 h2 h3;have h3b:=h3;simp only[wide] at h3b;refine A6 Tryz.func64 O qY (n:=36) O O (Av Ay 1 [] O (Au (Az (Bt O (Ar O (BF O O (Vx _ l 200 (Nat.le_refl _) h2 h3) O) (As Ay 1 [] O (Aw O (fun c=>?_) (fun c=>?_))))))))
  ·have cR:=c;(try simp only[sd,se] at c);refine Av Ay 1 [] O (A1 (⟨O,_,[],Bl O,List.nil_sublist _,⟨⟨_,O,?_⟩,O⟩⟩));exact fun h=>absurd h An
  have cR:=c;(try simp only[sd,se] at c);refine A2 (Au (Az (Bt O (Ar O (BM Bf O (BS _)) (As Ay 1 [] O (BA ?_))))));refine Be (α:=Nat) (fun i=>⟨36,mk [(8,.p (.lst (BE l))),(9,.p (I (l.length:Nat))),(10,.p (I (i:Int)))],[],[]⟩) (fun i=>l.length - i) (fun i=>i≤l.length∧(∀j,j<i→∀x,l[j]?=some x→Zn x)) 0 (⟨by omega,fun j h=>by omega⟩) ?_ ?_
  ·exact BY ⟨we O,we O,we O,Aq⟩ (leH (is:=[]) O (C7))
  rintro i hC
  try simp only at hC
  obtain⟨hi,hC⟩:=hC;refine Av Ay 1 [] O (Au (Aw O (fun c1=>?_) (fun c1=>?_)))
  ·have c1R:=c1;(try simp only[sd,se] at c1);refine A2 (Au (BA (Az ?_)));obtain⟨t,ht⟩:=A7 (l:=l) (i:=i) Ao;refine Ar O (A5 Bf O O Ao (Bc ht) (BD _)) (Ar O (BN Ba O (BD _)) (BG O (A8 Bz O) fun b4=>As Ay 1 [0,1] O (Au ?_)));obtain⟨tk,ti,tn,tl,ts⟩:=t;have hnt:=Qh h2 ht;simp only[Wd] at hnt;have hks:=Ce ht;simp only[size] at hks;refine BR [8,9,10] 34 (fun y=>∃b:Bool,y= .p (.bool b)∧(b=false→Zn (.mk tk ti tn tl ts))) ?_ ?_
   ·refine A4 (Ax Ay 2 [0] O (Ar O (GG kD O) (Ax Ay 2 [] O (BL 18 O (fun g=>?_) (fun g=>?_)))))
    ·(try simp only[sd,se] at g);refine As Ay 16 [] O ?_;exact⟨O,O,AK,(by first | exact⟨_,rfl,fun h=>absurd h An⟩ | exact⟨_,rfl,fun h=>by simp only[Bool.not_eq_false'] at h;exact⟨by omega,by omega,hb Al,(hb1 h).sz,(hb1 h).nd,(hb1 h).fw⟩⟩),⟨O,O,O,Aq⟩⟩
    (try simp only[sd,se] at g);refine Ax Ay 2 [0] O (BC O (BM EZ O (List.length_map _)) (Ax Ay 3 [] O (BL 24 O (fun g1=>?_) (fun g1=>?_))))
    ·(try simp only[sd,se] at g1);refine As Ay 10 [] O ?_;exact⟨O,O,AK,(by first | exact⟨_,rfl,fun h=>absurd h An⟩ | exact⟨_,rfl,fun h=>by simp only[Bool.not_eq_false'] at h;exact⟨by omega,by omega,hb Al,(hb1 h).sz,(hb1 h).nd,(hb1 h).fw⟩⟩),⟨O,O,O,Aq⟩⟩
    (try simp only[sd,se] at g1);refine Ax Ay 2 [0] O (IF O O O O (CC O O (jW tl hnt.2.1 hnt.2.2.1) (.inl O)) ?_);rintro _ ⟨b,rfl,hb⟩;refine Ax Ay 2 [] O (BL 29 O (fun g2=>?_) (fun g2=>?_))
    ·(try simp only[sd,se] at g2);refine As Ay 5 [] O ?_;exact⟨O,O,AK,(by first | exact⟨_,rfl,fun h=>absurd h An⟩ | exact⟨_,rfl,fun h=>by simp only[Bool.not_eq_false'] at h;exact⟨by omega,by omega,hb Al,(hb1 h).sz,(hb1 h).nd,(hb1 h).fw⟩⟩),⟨O,O,O,Aq⟩⟩
    (try simp only[sd,se] at g2);refine Ax Ay 2 [0] O (IF O O O O (CC O O (ih (Bb ts) Ao ts (Nat.le_refl _) hnt.2.2.2.2.1 hnt.2.2.2.1) (.inl O)) ?_);rintro _ ⟨b1,rfl,hb1⟩;refine As Ay 2 [] O ?_;exact⟨O,O,AK,(by first | exact⟨_,rfl,fun h=>absurd h An⟩ | exact⟨_,rfl,fun h=>by simp only[Bool.not_eq_false'] at h;exact⟨by omega,by omega,hb Al,(hb1 h).sz,(hb1 h).nd,(hb1 h).fw⟩⟩),⟨O,O,O,Aq⟩⟩
   rintro _ ⟨q,rfl,hq⟩;refine Aw O (fun c2=>?_) (fun c2=>?_)
   ·have c2R:=c2;(try simp only[sd,se] at c2);refine Av Ay 1 [] O (A1 (⟨O,_,[],Bl O,List.nil_sublist _,⟨⟨_,O,?_⟩,O⟩⟩));exact fun h=>absurd h An
   have c2R:=c2;(try simp only[sd,se] at c2);refine A2 (A4 (As Ay 2 [] O (⟨(i+1),AU,⟨by omega,Cw hC ht (hq (by simpa using c2))⟩,BY ⟨we rfl,we rfl,we rfl,trivial⟩ (leH (is:=[]) rfl (C7))⟩)))
  have c1R:=c1;(try simp only[sd,se] at c1);refine Bg (Av Ay 1 [] O (A1 (⟨O,_,[],Bl O,List.nil_sublist _,⟨⟨_,O,?_⟩,O⟩⟩)));exact fun _=>jg (m:=i) Ao h2 h3 Ao hC
theorem eV:∀(l:List Tm),(iL l)→(l.length<wide)→GC Tryz.prog 30 [.p (.lst (BE l))] (fun v=>∃bb:Bool,v= .p (.bool bb)∧(bb=true→YF l∧∀t∈l,okB t=true)):=by
 intro l h1 h2;have h2b:=h2;simp only[wide] at h2b;refine A6 Tryz.func30 O qU (n:=18) O O (Av Ay 1 [] O (Au (Az (Bt O (Dk O O (CC O O (oK _ l (Nat.le_refl _) h1 h2) (.inl O)) ?_)))));rintro _ ⟨b,rfl,hb⟩;refine As Ay 1 [] O (Aw O (fun c=>?_) (fun c=>?_))
 ·(try simp only[sd,se] at c);refine Av Ay 1 [] O (A1 (⟨O,_,[],Bl O,List.nil_sublist _,⟨⟨_,O,?_⟩,O⟩⟩));exact fun h=>absurd h An
 (try simp only[sd,se] at c);have hf:=hb (by simpa using c);refine A2 (Au (Az (Bt O (Ar O (BM Bf O (BS _)) (As Ay 1 [] O (BA ?_))))));refine Be (α:=Nat) (fun i=>⟨18,mk [(8,.p (.lst (BE l))),(9,.p (I (l.length:Nat))),(10,.p (I (i:Int)))],[],[]⟩) (fun i=>l.length - i) (fun i=>i≤l.length∧(∀j,j<i→∀x,l[j]?=some x→okB x=true)) 0 (⟨by omega,fun j h=>by omega⟩) ?_ ?_
 ·exact BY ⟨we O,we O,we O,Aq⟩ (leH (is:=[]) O (C7))
 rintro i hC
 try simp only at hC
 obtain⟨hi,hC⟩:=hC;refine Av Ay 1 [] O (Au (Aw O (fun c1=>?_) (fun c1=>?_)))
 ·(try simp only[sd,se] at c1);refine A2 (Au (BA (Az ?_)));obtain⟨x,hx⟩:=A7 (l:=l) (i:=i) Ao;refine Ar O (A5 Bf O O Ao (Bc hx) (BD _)) (Ar O (BN Ba O (BD _)) (BG O (A8 Bz O) fun b4=>As Ay 1 [0,1] O (Az (Ar O (BU (i:=0) Ba O O Ah) (Dk O O (CC O O (Q7 x 65536 8 65536 65536 (DW hf.nd hx) (by have:=Ce hx;have:=hf.sz;omega)) (.inl O)) ?_)))));rintro _ ⟨e,rfl,he⟩;refine As Ay 1 [] O (Aw O (fun c2=>?_) (fun c2=>?_))
  ·(try simp only[sd,se] at c2);refine Av Ay 1 [] O (A1 (⟨O,_,[],Bl O,List.nil_sublist _,⟨⟨_,O,?_⟩,O⟩⟩));exact fun h=>absurd h An
  (try simp only[sd,se] at c2);refine A2 (A4 (As Ay 2 [] O (⟨(i+1),AU,⟨by omega,Cw hC hx (ez (DW hf.nd hx) (by have:=Ce hx;have:=hf.sz;omega) Ao (he Ao))⟩,BY ⟨we rfl,we rfl,we rfl,trivial⟩ (leH (is:=[]) rfl (C7))⟩)))
 (try simp only[sd,se] at c1);refine Bg (Av Ay 1 [] O (A1 (⟨O,_,[],Bl O,List.nil_sublist _,⟨⟨_,O,?_⟩,O⟩⟩)));exact fun _=>⟨hf,II Ao hC⟩
theorem jG:∀(t:Tm),(okB t=true)→(size t<1000000)→GC Tryz.prog 20 [.agg ((BO t).map .p)] (Gd):=by
 intro t h1 h2;refine A6 Tryz.func20 O qk (n:=6) O O (Az (BG O (BP O) fun b1=>As Ay 1 [] O (Az (Ar O (BU (i:=0) Ba O O Ah) (Dk O O (CC O O (Q7 t 60000 8 65536 65536 (CP.1 h1).nd h2) (.inl O)) ?_)))));rintro _ ⟨e,rfl,he⟩;refine As Ay 2 [] O (A1 (⟨O,_,_,⟨_,_,O,O,O⟩,(List.nil_sublist _),?_⟩))
 all_goals exact⟨⟨_,rfl⟩,rfl⟩
theorem kn:∀(l:List Tm),(l.length<1000000)→(∀x∈l,okB x=true∧size x<1000000)→GC Tryz.prog 67 [.p (.lst (BE l)),.p (.fn 20)] (Yw):=by
 intro l h1 h2;refine A6 Tryz.func67 O qa (n:=19) O O (Av Ay 1 [] O (Au (Az (Bt O (Ar O (BM Bf O (BS _)) (As Ay 1 [] O (BA (Be (α:=Nat) (fun i=>⟨19,mk [(0,.p (.lst (BE l))),(1,.p (.fn 20)),(7,.p (I (l.length:Nat))),(8,.p (I (i:Int)))],[],[]⟩) (fun i=>l.length - i) (fun i=>i≤l.length) 0 AQ ?_ ?_))))))))
 ·exact BY ⟨we O,we O,we O,we O,Aq⟩ (leH (is:=[]) O (C7))
 rintro i hC
 try simp only at hC
 have hi:=hC;refine Av Ay 1 [] O (Au (Aw O (fun c=>?_) (fun c=>?_)))
 ·(try simp only[sd,se] at c);refine A2 (Au (BA (Av Ay 2 [] O (Az (Ax Ay 3 [] O ?_)))));obtain⟨x,hx⟩:=A7 (l:=l) (i:=i) Ao;refine Ar O (A5 Bf O O Ao (Bc hx) (BD _)) (Ar O (BN Ba O (BD _)) (Dk O O (CC O O (jG x (h2 _ (List.mem_of_getElem? hx)).1 (h2 _ (List.mem_of_getElem? hx)).2) (.inl O)) ?_));rintro _ ⟨q,rfl⟩;refine Bj O (Aw O (fun c1=>?_) (fun c1=>?_))
  ·(try simp only[sd,se] at c1);refine Av Ay 2 [] O (A1 (⟨O,_,_,⟨_,_,O,O,O⟩,(List.nil_sublist _),?_⟩))
   all_goals exact⟨⟨_,rfl⟩,rfl⟩
  (try simp only[sd,se] at c1);refine A2 (A4 (As Ay 2 [] O ?_));refine⟨(i+1),AU,by omega,BY ⟨we rfl,we rfl,we rfl,we rfl,trivial⟩ (leH (is:=[]) rfl (C7))⟩
 (try simp only[sd,se] at c);refine Bg (Av Ay 1 [] O (A1 (⟨O,_,_,⟨_,_,O,O,O⟩,(List.nil_sublist _),?_⟩)))
 all_goals exact⟨⟨_,rfl⟩,rfl⟩
theorem gv:∀(l:List Tm),(l.length<1000000)→(∀x∈l,okB x=true∧size x<1000000)→GC Tryz.prog 32 [.p (.lst (BE l)),.p (.fn 20)] (Gd):=by
 intro l h1 h2;refine A6 Tryz.func32 O qx (n:=9) O O (Av Ay 1 [] O (Az (Ax Ay 2 [] O (Dk O O (CC O O (kn l h1 h2) (.inl O)) ?_))));rintro _ ⟨r,rfl⟩;refine As Ay 2 [] O (A1 (⟨O,_,_,⟨_,_,O,O,O⟩,(List.nil_sublist _),?_⟩))
 all_goals exact⟨⟨_,rfl⟩,rfl⟩
theorem cX:∀(ds:List CK) (l:List Tm),(HT ds)→(iL l)→(l.length<wide)→GC Tryz.prog 10 [.p (.lst (List.map Bk ds)),.p (.lst (BE l))] (fun v=>∃bb:Bool,v= .p (.bool bb)∧(bb=true→dK ds l)):=by
 intro ds l h1 h2 h3;refine A6 Tryz.func10 O ry (n:=21) O O (Av Ay 1 [] O (Az (Bt O (Ar O (BF O O (Vx _ l 60 (Nat.le_refl _) h2 h3) O) (Ax Ay 2 [] O (BL 8 O (fun g=>?_) (fun g=>?_)))))))
 ·(try simp only[sd,se] at g);refine BC O (BZ O) (IF O O O O (CC O O (eV l h2 h3) (.inl O)) ?_);rintro _ ⟨b,rfl,hb⟩;refine Ax Ay 2 [] O (BL 12 O (fun g1=>?_) (fun g1=>?_))
  ·(try simp only[sd,se] at g1);refine BC O (BZ O) (IF O O O O (CC O O (ca ds h1) (.inl O)) ?_);rintro _ ⟨q,rfl,hq⟩;refine Ax Ay 2 [] O (BL 16 O (fun g2=>?_) (fun g2=>?_))
   ·(try simp only[sd,se] at g2);refine BC O (BZ O) (IF O O O O (CC O O (gv l (ZV (hb Al).1) (W6 (hb Al))) (.inl O)) ?_);rintro _ ⟨q1,rfl⟩;refine As Ay 3 [] O (A1 (⟨O,_,_,⟨_,_,O,O,O⟩,(List.nil_sublist _),?_⟩))
    all_goals exact⟨⟨_,rfl,fun h=>cE Ao (hb Al) (hq Al)⟩,rfl⟩
   (try simp only[sd,se] at g2);refine As Ay 5 [] O (A1 (⟨O,_,_,⟨_,_,O,O,O⟩,(List.nil_sublist _),?_⟩))
   all_goals exact⟨⟨_,rfl,fun h=>absurd h An⟩,rfl⟩
  (try simp only[sd,se] at g1);refine As Ay 9 [] O (A1 (⟨O,_,_,⟨_,_,O,O,O⟩,(List.nil_sublist _),?_⟩))
  all_goals exact⟨⟨_,rfl,fun h=>absurd h An⟩,rfl⟩
 (try simp only[sd,se] at g);refine As Ay 13 [] O (A1 (⟨O,_,_,⟨_,_,O,O,O⟩,(List.nil_sublist _),?_⟩))
 all_goals exact⟨⟨_,rfl,fun h=>absurd h An⟩,rfl⟩
def tY (ds:List CK) (n:Nat):Prop:=∀(b:Nat) (t:Tm) (c c2:EL) (q:Option Int),EI ds DD n c t= .ok (q,c2)→Bq Tryz.prog 19 [.p (.lst (List.map Bk ds)),.agg ((BO t).map .p),.ptr b 0] [.box b ((G6 c).map .p)] (GW (.tup [.p (I (q.getD 0)),.p (.bool q.isSome)]) [.box b ((G6 c2).map .p)])
theorem _root_.Go.AP {α:Prop}(h:α:=by first | rfl | (refine pB ?_;simp_all [Bi];done)):α:=h
set_option maxHeartbeats 4000000 in
theorem gd:∀(ds:List CK) (hE:HQ ds) (n:Nat),tY ds n:=by
 intro ds hE n
 induction n using Nat.strongRecOn with
 | ind n ih =>
  intro b t c c2 q hC0;have h2:=hE;obtain⟨k,rfl⟩:=Vb hC0 Ap;rw[O3] at hC0;obtain⟨⟨pr,d2⟩,hw1,hr2,hC⟩:=He hC0;have hsp:lA pr:=TZ hr2;have hsl:=hsp.len;have hss:=hsp.sz;have hsa:=hsp.asz;refine A6 Tryz.func19 O rM (n:=144) O O (Az (BG O (BP O) fun b4=>As Ay 2 [] O (Az (Ax Ay 3 [0] O (Ar O (B8 [1] O (.inl ⟨O,O,O⟩) (VI ds hE k b t c d2 pr hw1) ⟨_,_,O,O,O⟩ An O (.inl O)) (Ar O (BF O O (SI _ pr (Nat.le_refl _) Aa) O) (Ax Ay 3 [] O (BG O (A8 Bz O) fun b8=>As Ay 2 [0,1] O (Au (Az (Ar O (A0 G8 O O) ?_)))))))))));generalize hz:(A9 pr).1=z;obtain⟨zk,zi,zn,zl,zs⟩:=z;have hzo:okB (.mk zk zi zn zl zs)=true:=hz▸hsp.head;have hzq:=hz;have hzl:=IN hzo;have hzn:=(CP.1 hzo).nd;refine As Ay 1 [0] O (BA (Av Ay 2 [] O (Aw O (fun c1=>?_) (fun c1=>?_))))
  ·(try simp only[sd,se] at c1);have hk:(A9 pr).1.kind=12:=by rw[hzq];exact c1
   have hq:=(O4 (r:=(pr,d2)) hk).symm.trans hC;cases hq;refine Av Ay 4 [0] O (A1 (⟨O,_,_,⟨_,_,O,O,⟨_,_,O,O,O⟩⟩,(B4 (is:=[2]) O),?_⟩))
   all_goals exact⟨by show (.tup [.p (I zi),.p (.bool true)]:AV)=_;rw[hzq];rfl,rfl⟩
  (try simp only[sd,se] at c1);refine Au (Av Ay 2 [] O (BR [0,2,8,9,26] 31 (fun y=>y= .p (.bool (decide (zk=9∨zk=10)))) ?_ ?_))
  ·refine Aw O (fun c3=>?_) (fun c3=>?_)
   ·(try simp only[sd,se] at c3);exact A2 (⟨O,O,(List.Sublist.refl _),(by refine pB (Bool.eq_iff_iff.2 ?_);simp only[beq_iff_eq,decide_eq_true_eq];omega),⟨O,O,O,O,O,Aq⟩⟩)
   (try simp only[sd,se] at c3);exact A4 (As Ay 2 [] O (⟨O,O,(List.Sublist.refl _),(by refine pB (Bool.eq_iff_iff.2 ?_);simp only[beq_iff_eq,decide_eq_true_eq];omega),⟨O,O,O,O,O,Aq⟩⟩))
  rintro _ rfl;refine Aw O (fun c3=>?_) (fun c3=>?_)
  ·(try simp only[sd,se] at c3);have hk9:zk=9∨zk=10:=by simpa using c3
   refine Az (Ax Ay 3 [0] O ?_);obtain⟨x,hx⟩:=A7 (l:=zs) (i:=0) Ao;refine Ar O (A5 Bf O O Ao (Bc hx) (BD _)) (Ax Ay 2 [] O ?_);obtain⟨p0,hp0⟩:=A7 (l:=zs) (i:=0) Ao;have hpx:=Option.some.inj (hp0.symm.trans hx);have hbq:=(TU (r:=(pr,d2)) (by rw[hzq];exact hk9) (by rw[hzq];exact hx)).symm.trans hC;refine Ar O (B8 [2] O (.inl ⟨O,O,O⟩) (ih k Ao b x d2 c2 q hbq) ⟨_,_,O,O,O⟩ An O (.inl O)) (As Ay 4 [] O (A1 (⟨O,_,_,⟨_,_,O,O,⟨_,_,O,O,O⟩⟩,(B4 (is:=[2]) O),?_⟩)))
   all_goals exact⟨rfl,rfl⟩
  (try simp only[sd,se] at c3);have hk9:¬(zk=9∨zk=10):=by simpa using c3
  refine Av Ay 2 [] O (Aw O (fun c4=>?_) (fun c4=>?_))
  ·(try simp only[sd,se] at c4);have hk:(A9 pr).1.kind=3:=by rw[hzq];exact c4
   refine Az (Ax Ay 2 [0] O (Ar O (BF O O (RQ ds (.mk zk zi zn zl zs:Tm) hE.g.env) O) (Ax Ay 3 [] O (BG O (A8 Hk O) fun b10=>As Ay 2 [0,1] O (Au (Au (BR [0,2,9,10] 58 (fun y=>y= .p (.bool ((!(QG ds (.mk zk zi zn zl zs:Tm)))||d2.over))) ?_ ?_)))))))
   ·refine A4 (Ax Ay 3 [] O (BL 53 O (fun g=>?_) (fun g=>?_)))
    ·(try simp only[sd,se] at g);exact As Ay 5 [] O (⟨O,O,AK,AI,⟨O,O,O,O,Aq⟩⟩)
    (try simp only[sd,se] at g);exact As Ay 5 [3] O (⟨O,O,AK,AI,⟨O,O,O,O,Aq⟩⟩)
   rintro _ rfl;refine Aw O (fun c5=>?_) (fun c5=>?_)
   ·(try simp only[sd,se] at c5);have hus:QG ds (.mk zk zi zn zl zs)=false∨d2.over=true:=by simpa using c5
    have hq:=(TE (r:=(pr,d2)) hk (by rw[hzq];exact hus)).symm.trans hC;cases hq;refine Av Ay 2 [] O (A1 (⟨O,_,_,⟨_,_,O,O,⟨_,_,O,O,O⟩⟩,(B4 (is:=[3]) O),?_⟩))
    all_goals exact⟨rfl,rfl⟩
   (try simp only[sd,se] at c5);have hus:QG ds (.mk zk zi zn zl zs)=true∧d2.over=false:=by simpa using c5
   obtain⟨hu,ho8⟩:=hus;have ho8:DD.over d2=false:=ho8;obtain⟨ix,dd,e1,e2,e3,e4⟩:=Hh hu;have hde:=e2.decl;have hdg:=h2.g.all _ e3;have hel:=h2.g.env.len;have hil:=(List.getElem?_eq_some_iff.1 e1).1;have hfx:=hdg.fx;have hnr:=Gz hdg;have hcl:=hdg.din.cl;have hfl:=hdg.din.fl;refine A2 (Az (Ax Ay 2 [] O (Ar O (A3 (i:=0) DH O O (DR _)) (Ar O (A5 Hj O O Ao (D4 e4) (Cl _)) (Ar O (BN FM O (Cl _)) (BG O (A8 JK O) fun b12=>As Ay 1 [0,1] O (Au (Au (BR [0,2,9,10,12] 73 (fun y=>y= .p (.bool (((((Bh ds (.mk zk zi zn zl zs:Tm).name).1).kind:Int)==(5:Int))&&(decide (((((A9 pr).2).length:Nat):Int) > (CR dd:Int)))))) ?_ ?_)))))))))
   ·refine A4 (Ar O (A0 Fe O O) (Ar O (A3 (i:=1) DH O O (DB _)) (Ax Ay 2 [] O (BL 67 O (fun g=>?_) (fun g=>?_)))))
    ·(try simp only[sd,se] at g);exact BC O (BZ O) (BC O (BM Bf O (BS _)) (BC O (BU (i:=0) FM O O Ae) (BC O (BF O O (L8 dd hdg.din hdg.fx) O) (As Ay 2 [] O (⟨O,O,AK,AI,⟨O,O,O,O,O,Aq⟩⟩)))))
    (try simp only[sd,se] at g);exact As Ay 6 [] O (⟨O,O,AK,AI,⟨O,O,O,O,O,Aq⟩⟩)
   rintro _ rfl;refine Aw O (fun c6=>?_) (fun c6=>?_)
   ·(try simp only[sd,se] at c6);have hk5:(Bh ds (Tm.mk zk zi zn zl zs).name).1.kind=5∧CR dd<((A9 pr).2.length:Int):=by simpa using c6
    refine Az (Ax Ay 3 [0] O (Ar O (BF O O (L8 dd hdg.din hdg.fx) O) ?_));obtain⟨x,hx⟩:=A7 (l:=(A9 pr).2) (i:=(CR dd:Int).toNat) Ao;have hbq:=(V2 (r:=(pr,d2)) hk (by rw[hzq];exact hu) ho8 (by rw[hzq];exact e4) (by rw[hzq];exact hk5.1) hk5.2 hx).symm.trans hC;refine Ar O (A5 Bf O O Ao (Bc hx) (BD _)) (Ax Ay 2 [] O (Ar O (B8 [4] O (.inl ⟨O,O,O⟩) (ih k Ao b x (EL.mk d2.steps d2.nodes d2.forms d2.limit d2.over) c2 q hbq) ⟨_,_,O,O,O⟩ An O (.inl O)) (As Ay 4 [] O (A1 (⟨O,_,_,⟨_,_,O,O,⟨_,_,O,O,O⟩⟩,(B4 (is:=[4]) O),?_⟩)))))
    all_goals exact⟨rfl,rfl⟩
   (try simp only[sd,se] at c6);have hk5:¬((Bh ds (Tm.mk zk zi zn zl zs).name).1.kind=5∧((A9 pr).2.length:Int) > CR dd):=by simpa using c6
   refine A2 (Au (BR [0,2,9,10,12] 98 (fun y=>y= .p (.bool (((((Bh ds (.mk zk zi zn zl zs:Tm).name).1).kind:Int)==(6:Int))&&(decide (((((A9 pr).2).length:Nat):Int)≥((E2 dd (Bh ds (Tm.mk zk zi zn zl zs).name).1.item).arity:Int)))))) ?_ ?_))
   ·refine A4 (Ar O (A0 Fe O O) (Ar O (A3 (i:=1) DH O O (DB _)) (Ax Ay 2 [] O (BL 87 O (fun g=>?_) (fun g=>?_)))))
    ·(try simp only[sd,se] at g);have hk6:=g;obtain⟨fk,ff,f1,f2⟩:=e2.func hk6;have hff:dd.funs[(Bh ds (Tm.mk zk zi zn zl zs).name).1.item.toNat]?=some ff:=by rw[f2];simpa using f1
     have hfm:=List.mem_of_getElem? hff;have hfa:=hdg.fu ff hfm;have hfi:=(List.getElem?_eq_some_iff.1 f1).1;have hfat:E2 dd (Bh ds (Tm.mk zk zi zn zl zs).name).1.item=ff:=CJ hff;exact BC O (BZ O) (BC O (BM Bf O (BS _)) (BC O (A0 Cy O O) (BC O (A3 (i:=0) Gj O O (B6 _)) (BC O (A0 Fe O O) (BC O (A3 (i:=1) DH O O (Dq _)) (BC O (A5 Gn O O Ao (D7 hff) (DF _)) (BC O (Bv GX O O) (BC O (C0 DH O (CI _)) (As Ay 2 [] O (⟨O,O,AK,(by first | rfl | (refine pB ?_;simp[hk6,hfat];done) | (refine pB ?_;simp_all;done)),⟨O,O,O,O,O,Aq⟩⟩))))))))))
    (try simp only[sd,se] at g);exact As Ay 11 [] O (⟨O,O,AK,(by first | rfl | (refine pB ?_;simp[hk6,hfat];done) | (refine pB ?_;simp_all;done)),⟨O,O,O,O,O,Aq⟩⟩)
   rintro _ rfl;refine Aw O (fun c7=>?_) (fun c7=>?_)
   ·(try simp only[sd,se] at c7);have hk66:(Bh ds (Tm.mk zk zi zn zl zs).name).1.kind=6∧(E2 dd (Bh ds (Tm.mk zk zi zn zl zs).name).1.item).arity≤((A9 pr).2.length:Int):=by simpa using c7
    obtain⟨hk6,hl6⟩:=hk66;obtain⟨fk,ff,f1,f2⟩:=e2.func hk6;have hff:dd.funs[(Bh ds (Tm.mk zk zi zn zl zs).name).1.item.toNat]?=some ff:=by rw[f2];simpa using f1
    have hfm:=List.mem_of_getElem? hff;have hfa:=hdg.fu ff hfm;have hfi:=(List.getElem?_eq_some_iff.1 f1).1;have hfat:E2 dd (Bh ds (Tm.mk zk zi zn zl zs).name).1.item=ff:=CJ hff;rw[hfat] at hl6;refine Au ?_;obtain⟨⟨lq,d3⟩,hl1,hl2⟩:=IH ((Q5 (r:=(pr,d2)) hk (by rw[hzq];exact hu) ho8 (by rw[hzq];exact e4) (by rw[hzq];exact hk6) (by rw[hzq];exact hff) hl6).symm.trans hC);have hlo:=Sl _ _ _ _ _ _ _ HR hl1;refine HZ [.box b12 ((Bk dd).map .p),.box b10 ((DN ((Bh ds (.mk zk zi zn zl zs:Tm).name).1)).map .p),.box b8 [.p (I zk),.p (I zi),.p (.str zn),.p (.lst (List.map B0 zl)),.p (.lst (BE zs))],.box b4 ((BO t).map .p),.box b ((G6 d3).map .p)] 18 [.val (.p (.lst (List.map Bk ds))),.val (.ptr b12 (0+22)),.val (.p (.lst (List.map Em dd.funs))),.val (.ptr b10 (0+2)),.val (.p (I (((Bh ds (.mk zk zi zn zl zs:Tm).name).1).item))),.val (.ref (Em ff)),.val (.ref (List.drop 7 (Em ff))),.val (.agg ((Ct ff.tree).map .p)),.val (.p (.lst (BE ((A9 pr).2)))),.val (.ptr b12 (0+22)),.val (.p (.lst (List.map Em dd.funs))),.val (.ptr b10 (0+2)),.val (.p (I (((Bh ds (.mk zk zi zn zl zs:Tm).name).1).item))),.val (.ref (Em ff)),.val (.ref (List.drop 6 (Em ff))),.val (.p (I ff.arity)),.val (.p (.lst (BE (((A9 pr).2).take ((ff.arity:Int).toNat))))),.val (.ptr b 0),.val (.tup [.agg ((BO (I9 lq)).map .p),.p (.lst (BE (ML lq))),.p (.bool lq.1.isSome),.agg ((BO lq.2).map .p)]),.val (.tup [.agg ((BO (I9 lq)).map .p),.p (.lst (BE (ML lq))),.p (.bool lq.1.isSome),.agg ((BO lq.2).map .p)]),.val (.agg ((BO (I9 lq)).map .p)),.val (.p (.lst (BE (ML lq)))),.val (.p (.bool lq.1.isSome)),.val (.agg ((BO lq.2).map .p)),.new [.p (I 0),.p (I 0),.p (.str ⟨#[]⟩),.p (.nils),.p (.nils)],.new [.p (I 0),.p (I 0),.p (.str ⟨#[]⟩),.p (.nils),.p (.nils)]] [.p .any,.p (.lst (BE (ML lq))),.p (.bool lq.1.isSome),.p .any] [21,22,23] Dt O Ak Ak Ak O ?_ ?_
    ·exact Aq
    refine Bd O O (fun Bs=>BZ O) (Bd O O (fun Bs=>A0 Cy O O) (Ew O O O (fun Bs=>A3 (i:=Bs.length+0) Gj O (CS O) (B6 _)) (fun Bs=>A3 (i:=Bs.length+0) Gj O (CS O) (B6 _)) (Bd O O (fun Bs=>A0 Fe O O) (Ew O O O (fun Bs=>A3 (i:=Bs.length+1) DH O (CS O) (Dq _)) (fun Bs=>A3 (i:=Bs.length+1) DH O (CS O) (Dq _)) (Bd O O (fun Bs=>A5 Gn O O Ao (D7 hff) (DF _)) (Bd O O (fun Bs=>Bv GX O O) (Bd O O (fun Bs=>DA Iv O (Dn _) (Cn _)) (Bd O O (fun Bs=>BZ O) (Bd O O (fun Bs=>A0 Cy O O) ?_)))))))));refine Ew O O O (fun Bs=>A3 (i:=Bs.length+0) Gj O (CS O) (B6 _)) (fun Bs=>A3 (i:=Bs.length+0) Gj O (CS O) (B6 _)) (Bd O O (fun Bs=>A0 Fe O O) (Ew O O O (fun Bs=>A3 (i:=Bs.length+1) DH O (CS O) (Dq _)) (fun Bs=>A3 (i:=Bs.length+1) DH O (CS O) (Dq _)) (Bd O O (fun Bs=>A5 Gn O O Ao (D7 hff) (DF _)) (Bd O O (fun Bs=>Bv GX O O) (Bd O O (fun Bs=>C0 DH O (CI _)) (Bd O O (fun Bs=>Ca (lo:=0) (hi:=(ff.arity:Int).toNat) Bf O (CF (Bw _)) O ⟨_,pI Ao⟩ (Nat.zero_le _) AR (My ((A9 pr).2) ((ff.arity:Int).toNat))) (Bd O O (fun Bs=>BZ O) ?_)))))));refine JP O (fun Bs=>GF [4] O (.inl ⟨O,O,O⟩) (Wh k k ds ff.tree (((A9 pr).2).take ((ff.arity:Int).toNat)) b (EL.mk d2.steps d2.nodes d2.forms d2.limit d2.over) d3 lq (VI ds hE k) hE.g (OP hE e3 hfm hsp.args) hl1) ⟨_,_,O,O,O⟩ An O (aw (we O) (aw (we O) (aw (we O) (aw (we O) (Et)))))) (Bd O O (fun Bs=>BZ O) (Bd O O (fun Bs=>Cx O O) (Bd O O (fun Bs=>Cx O O) (Bd O O (fun Bs=>Cx O O) (Bd O O (fun Bs=>Cx O O) (Lq O O (fun Bs=>A8 Bz O) fun b13=>Lq O O (fun Bs=>A8 Bz O) fun b16=>JJ ?_))))));refine DV [.box b13 ((BO (I9 lq)).map .p),.box b16 [.p (I 0),.p (I 0),.p (.str ⟨#[]⟩),.p (.nils),.p (.nils)],.box b12 ((Bk dd).map .p),.box b10 ((DN ((Bh ds (.mk zk zi zn zl zs:Tm).name).1)).map .p),.box b8 [.p (I zk),.p (I zi),.p (.str zn),.p (.lst (List.map B0 zl)),.p (.lst (BE zs))],.box b4 ((BO t).map .p),.box b ((G6 d3).map .p)] O (CY (i:=0) Ba O O O Ah AX (E0 _)) (DV [.box b13 ((BO (I9 lq)).map .p),.box b16 [.p (I 0),.p (I 0),.p (.str ⟨#[]⟩),.p (.nils),.p (.nils)],.box b12 ((Bk dd).map .p),.box b10 ((DN ((Bh ds (.mk zk zi zn zl zs:Tm).name).1)).map .p),.box b8 [.p (I zk),.p (I zi),.p (.str zn),.p (.lst (List.map B0 zl)),.p (.lst (BE zs))],.box b4 ((BO t).map .p),.box b ((G6 d3).map .p)] O (Du O) ?_)
    refine DV [.box b13 ((BO (I9 lq)).map .p),.box b16 [.p (I 0),.p (I 0),.p (.str ⟨#[]⟩),.p (.nils),.p (.nils)],.box b12 ((Bk dd).map .p),.box b10 ((DN ((Bh ds (.mk zk zi zn zl zs:Tm).name).1)).map .p),.box b8 [.p (I zk),.p (I zi),.p (.str zn),.p (.lst (List.map B0 zl)),.p (.lst (BE zs))],.box b4 ((BO t).map .p),.box b ((G6 d3).map .p)] O (Du O) (DV [.box b13 ((BO (I9 lq)).map .p),.box b16 ((BO lq.2).map .p),.box b12 ((Bk dd).map .p),.box b10 ((DN ((Bh ds (.mk zk zi zn zl zs:Tm).name).1)).map .p),.box b8 [.p (I zk),.p (I zi),.p (.str zn),.p (.lst (List.map B0 zl)),.p (.lst (BE zs))],.box b4 ((BO t).map .p),.box b ((G6 d3).map .p)] O (CY (i:=1) Ba O O O Ah AX (E0 _)) (JZ (Au ?_)));refine BR [0,2,16] 137 (fun y=>y= .p (.bool (((!lq.1.isSome)&&(!d3.over))&&(!(Nj lq.2 Bi))))) ?_ ?_
    ·refine A4 (Ax Ay 3 [] O (BL 125 O (fun g=>?_) (fun g=>?_)))
     ·(try simp only[sd,se] at g);refine Ax Ay 7 [6] O (BL 132 O (fun g1=>?_) (fun g1=>?_))
      ·(try simp only[sd,se] at g1);exact Ax Ay 2 [1] O (BC O (GU O O (NJ _ lq.2 (.mk 0 0 ⟨#[]⟩ [] []:Tm) (Nat.le_refl _) (CP.1 hlo).nd) (aw (we O) (aw (Df O) (Et)))) (As Ay 2 [] O (⟨O,O,AK,AP,⟨O,O,O,Aq⟩⟩)))
      (try simp only[sd,se] at g1);exact As Ay 5 [] O (⟨O,O,AK,AP,⟨O,O,O,Aq⟩⟩)
     (try simp only[sd,se] at g);exact As Ay 12 [] O (⟨O,O,AK,AP,⟨O,O,O,Aq⟩⟩)
    rintro _ rfl;refine Aw O (fun c8=>?_) (fun c8=>?_)
    ·(try simp only[sd,se] at c8);have hbq:=(Ub (q:=(lq,d3)) (by simpa using c8.1.1) (by simpa [DD] using c8.1.2) (by simpa using c8.2)).symm.trans hl2;refine Az (Ax Ay 3 [1] O (Ar O (B8 [6] O (.inl ⟨O,O,O⟩) (ih k Ao b lq.2 (EL.mk d3.steps d3.nodes d3.forms d3.limit d3.over) c2 q hbq) ⟨_,_,O,O,O⟩ An O (.inl O)) (As Ay 4 [] O (A1 (⟨O,_,_,⟨_,_,O,O,⟨_,_,O,O,O⟩⟩,(B4 (is:=[6]) O),?_⟩)))))
     all_goals exact⟨rfl,rfl⟩
    (try simp only[sd,se] at c8);rw[S5 (q:=(lq,d3)) (by by_cases hqs:lq.1.isSome=true;exact .inl hqs;by_cases hov:d3.over=true;exact .inr (.inl hov);exact .inr (.inr (by simpa [hqs,hov] using c8)))] at hl2;cases hl2;refine A2 (Av Ay 2 [] O (A1 (⟨O,_,_,⟨_,_,O,O,⟨_,_,O,O,O⟩⟩,(B4 (is:=[6]) O),?_⟩)))
    all_goals exact⟨rfl,rfl⟩
   (try simp only[sd,se] at c7);have hk6:¬((Bh ds (Tm.mk zk zi zn zl zs).name).1.kind=6∧((A9 pr).2.length:Int)≥(E2 dd (Bh ds (Tm.mk zk zi zn zl zs).name).1.item).arity):=by simpa using c7
   have hq:=(aV (r:=(pr,d2)) hk (by rw[hzq];exact hu) ho8 (by rw[hzq];exact e4) (by rw[hzq];exact hk5) (by rw[hzq];exact hk6)).symm.trans hC;cases hq;refine A2 (Av Ay 2 [] O (A1 (⟨O,_,_,⟨_,_,O,O,⟨_,_,O,O,O⟩⟩,(B4 (is:=[4]) O),?_⟩)))
   all_goals exact⟨rfl,rfl⟩
  (try simp only[sd,se] at c4);have hq:=(YU (r:=(pr,d2)) (by rw[hzq];assumption) (by rw[hzq];show ¬zk=9;omega) (by rw[hzq];show ¬zk=10;omega) (by rw[hzq];assumption)).symm.trans hC;cases hq;refine A2 (Av Ay 2 [] O (A1 (⟨O,_,_,⟨_,_,O,O,⟨_,_,O,O,O⟩⟩,(B4 (is:=[2]) O),?_⟩)))
  all_goals exact⟨rfl,rfl⟩
end Go.Proofs.YtboammbpdaoojaaGreat
namespace Go.Eu
open Go.Abs
def NF {α:Type}(o:Out α):Prop:=o≠ .fail
section
variable {α β:Type}
theorem Es (a:α):NF (.ok a):=fun h=>by cases h
theorem FU:NF (.stuck:Out α):=fun h=>by cases h
theorem QQ {o:Out α}{k:α→Out β}(h:NF o) (hk:∀a,NF (k a)):NF (o.bind k):=by
 cases o with
 | stuck=>exact FU
 | fail=>exact absurd rfl h
 | ok a=>exact hk a
theorem U3 {σ:Type}{o:Out (Tm×σ)}{k:Tm×σ→Out β}(h:NF o) (hk:∀a,NF (k a)):NF (o.chk k):=by
 unfold Out.chk;refine QQ h fun r=>?_;split
 ·exact hk r
 exact FU
theorem PS {s:EL}{x:Tm×Int}{k:Tm→EL→Out α}(hk:∀t s',NF (k t s')):NF (DD.put s x k):=by
 unfold Sys.put;split
 ·exact hk _ _
 exact FU
end
section
variable {E:List CK}{W:EL→Tm→Out (Tm×EL)}
theorem Ur (hW:∀c t,NF (W c t)):∀(n:Nat) (t:FJ) (vs:List Tm) (l:Tm) (c:EL),NF (Ds E DD W n t vs l c)
 | 0,t,vs,l,c=>by rw[Ds];exact FU
 | n+1,t,vs,l,c=>by
  rw[Ds];split
  ·split
   ·exact Es _
   refine U3 (hW _ _) fun r=>?_;split
   ·exact Es _
   split
   ·exact Es _
   exact Ur hW n _ _ _ _
  exact Es _
theorem dr {d:CK}{h:Tm}{a:List Tm}{c:EL}:NF (E1 DD d h a c):=by
 unfold E1;split
 ·exact Es _
 exact PS fun _ _=>Es _
theorem gf {d:CK}{h m:Tm}{a:List Tm}{c:EL}:NF (E4 E DD d h a m c):=by
 unfold E4;split
 ·exact Es _
 split
 ·exact Es _
 split
 ·exact Es _
 exact PS fun _ _=>Es _
theorem iE {h b:Tm}{vs a:List Tm}{c:EL}:NF (HL DD h b vs a c):=by
 unfold HL;split
 ·exact Es _
 split
 ·exact FU
 exact PS fun _ _=>Es _
theorem cc (hW:∀c t,NF (W c t)) {n:Nat}{h:Tm}{a:List Tm}{c:EL}:NF (EY E DD W n h a c):=by
 unfold EY;split
 ·exact Es _
 split
 ·exact dr
 split
 ·unfold RV;split
  ·exact Es _
  exact U3 (hW _ _) fun r=>gf
 split
 ·unfold JO;split
  ·exact Es _
  refine QQ (Ur hW _ _ _ _ _) fun q=>?_;split
  ·exact Es _
  split
  ·exact Es _
  exact iE
 exact Es _
theorem bP:∀(n:Nat) (c:EL) (t:Tm),NF (EF E DD n c t)
 | 0,c,t=>by rw[EF];exact FU
 | n+1,c,t=>by
  have ih:=bP n;rw[EF];split
  ·exact FU
  split
  ·exact Es _
  split
  ·rename_i h;exact absurd h (by simp[DD])
  split
  ·split
   ·exact Es _
   unfold Nw;split
   ·exact FU
   exact PS fun _ _=>ih _ _
  split
  ·unfold Ua;split
   ·exact PS fun _ _=>ih _ _
   exact FU
  split
  ·split
   ·exact FU
   refine U3 (ih _ _) fun r=>?_;split
   ·exact Es _
   unfold Ms;split
   ·exact FU
   exact PS fun _ _=>ih _ _
  split
  ·refine QQ (cc ih) fun r=>?_;split
   ·exact Es _
   exact ih _ _
  exact Es _
theorem fY:∀(n:Nat) (c:EL) (t:Tm),NF (EI E DD n c t)
 | 0,c,t=>by rw[EI];exact FU
 | n+1,c,t=>by
  have ih:=fY n;rw[O3];refine U3 (bP _ _ _) fun r=>?_;unfold Il;split
  ·exact Es _
  split
  ·split
   ·exact FU
   exact ih _ _
  split
  ·split
   ·exact Es _
   split
   ·exact Es _
   split
   ·exact ih _ _
   split
   ·refine QQ (Ur (bP n) _ _ _ _ _) fun q=>?_;unfold UZ;split
    ·exact Es _
    split
    ·exact ih _ _
    exact Es _
   exact Es _
  exact Es _
end
theorem lT {α:Type}{o:Out α}{p:α→Prop}(h:DM o p) (hf:NF o):∃a,o= .ok a∧p a:=by
 cases o with
 | stuck=>exact h.elim
 | fail=>exact absurd rfl hf
 | ok a=>exact⟨a,rfl,h⟩
@[irreducible] def FN:Nat:=1000000000000
theorem kB:FN=1000000000000:=by unfold FN;rfl
section
variable {E:List CK}{t:Tm}
end
structure Fit (z:Nat) (q:Tm):Prop where
 sz:size q≤2000+z
 dp:depth q≤95+z
def QF (z:Nat) (o:Out (Option Tm×EL)):Prop:=∀q c',o= .ok (some q,c')→c'.over=false→Fit z q
theorem QF.mono {z z':Nat}{o:Out (Option Tm×EL)}(h:QF z o) (hz:z≤z'):QF z' o:=fun q c' e hv=>by
 obtain⟨h1,h2⟩:=h q c' e hv;exact⟨by omega,by omega⟩
section
variable {E:List CK}
end
theorem XF:kW Je:=⟨rfl,by decide,fun _=>by decide⟩
section
variable {E:List CK}{t:Tm}
theorem gm (hE:HQ E) (ho:okB t=true) (hs:size t≤10000):DM (EI E B5 FN 20000 t) (fun _=>True) :=
 Qi gb hE FN 20000 t NW ho Ap (fun _=>by simp;omega) (by rw[kB];simp;omega)
theorem iJ (hE:HQ E) (ho:okB t=true) (hs:size t≤10000):∃q c,EI E DD FN Je t= .ok (q,c):=by
 obtain⟨⟨q,c⟩,h1,h2⟩:=lT (Qi jc hE FN Je t XF ho (by simp[Je]) (fun _=>by simp[Je];omega) (by rw[kB];simp[Je];omega)) (fY FN Je t);exact⟨q,c,h1⟩
theorem jC (hE:HQ E) (ho:okB t=true) (hs:size t≤60) {q:Option Int}{c:EL}(h:EI E DD FN Je t= .ok (q,c)) (hv:c.over=false):LU (EI E B5 FN 20000 t)=(q.getD 0,q.isSome,0):=by
 obtain⟨l',h1⟩:=WZ hE.g FN Je c t q cw h hv (by simp[Je];omega) 20000 (by simp[Je]);simp only at h1;rw[h1];rfl
theorem gx (o:Out (Option Int×Int)):(LU o).2.2=0∨(LU o).2.2=11:=by
 cases o with
 | stuck=>exact .inr rfl
 | fail=>exact .inr rfl
 | ok a=>exact .inl rfl
end
section
variable {E:List CK}{t:FJ}{a:List Tm}
structure iY (t:FJ) (a:List Tm):Prop where
 tok:Fg t
 dep:Dz t≤50
 ok:∀x∈a,okB x=true
 sz:Bb a≤60
theorem iY.len (h:iY t a):a.length≤60:=by have:=HW a;have:=h.sz;omega
theorem iY.all (h:iY t a):∀x∈a,okB x=true∧size x≤100000:=fun x hx=>⟨h.ok x hx,by have:=En hx;have:=h.sz;omega⟩
end
end Go.Eu
namespace Go.Proofs.YtboammbpdaoojaaGreat
open Go.Abs Go.Eu
theorem aY:∀(ds:List CK) (t:Tm),(HT ds)→(Wd t)→Ec Tryz.prog 5 [.p (.lst (List.map Bk ds)),.agg ((BO t).map .p)] (.p (.bool true)):=by
 intro ds t h1 h2;refine A6 Tryz.func5 O tE (n:=60) O O (Az (BG O (BP O) fun b3=>As Ay 1 [] O (Au (Az (Ax Ay 2 [0] O (Ar O (Bx (rows:=BE [t]) Bf Bz O O O O (CF (Bw _)) (E8 _)) (Dk O O (CC O O (cX ds [t] h1 ⟨h2,Aq⟩ (by simp[wide])) (.inl O)) ?_)))))));rintro _ ⟨q,rfl,hq⟩;refine As Ay 1 [] O (Aw O (fun c=>?_) (fun c=>?_))
 ·(try simp only[sd,se] at c);refine Az (Ar O (BF O O (OI ) O) (As Ay 1 [] O (A1 (⟨O,_,_,⟨_,_,O,O,O⟩,(List.nil_sublist _),?_⟩))))
  all_goals exact⟨rfl,rfl⟩
 (try simp only[sd,se] at c);have hs:=hq (by simpa using c);have ho:=hs.ok t Ap;have hsz:size t≤60:=by have:=hs.sz;simp only[Bb] at this;omega
 obtain⟨q,c2,hr1⟩:=iJ hs.env ho Ao;refine A2 (Az (Ax Ay 2 [0] O (Ar O (BF O O (XE ds FN t hs.env (gm hs.env ho Ao).ns) O) (As Ay 7 [] O (Az (Y6 O O O (.inl ⟨O,O,O⟩) aO (DZ _) fun bc=>As Ay 1 [] O (Az (Ax Ay 3 [1] O (Ar O (B8 [0] O (.inl ⟨O,O,O⟩) (gd ds hs.env FN bc t Je c2 q hr1) ⟨_,_,O,O,O⟩ An O (.inl O)) (As Ay 5 [] O (Au (Av Ay 4 [0] O (Aw O (fun c1=>?_) (fun c1=>?_))))))))))))))
 ·(try simp only[sd,se] at c1);refine Au (BR [] 4 (fun y=>y= .p (.bool (((((LU (EI ds B5 FN 20000 t)).2.2:Int)==(0:Int))||(((LU (EI ds B5 FN 20000 t)).2.2:Int)==(11:Int)))&&true))) ?_ ?_)
  ·refine A4 (Ax Ay 3 [] O (BL 38 O (fun g=>?_) (fun g=>?_)))
   ·(try simp only[sd,se] at g);exact Ax Ay 4 [] O (BC O (BF O O (OI ) O) (As Ay 2 [] O ⟨O,O,AK,AI,Aq⟩))
   (try simp only[sd,se] at g);refine Ax Ay 4 [] O (BL 42 O (fun g1=>?_) (fun g1=>?_))
   ·(try simp only[sd,se] at g1);exact BC O (BF O O (OI ) O) (As Ay 2 [] O ⟨O,O,AK,AI,Aq⟩)
   (try simp only[sd,se] at g1);exact As Ay 3 [] O ⟨O,O,AK,AI,Aq⟩
  rintro _ rfl;refine A1 (⟨O,_,_,⟨_,_,O,O,O⟩,(List.nil_sublist _),?_⟩)
  all_goals exact⟨by show (.p (.bool (((((LU (EI ds B5 FN 20000 t)).2.2:Int)==(0:Int))||(((LU (EI ds B5 FN 20000 t)).2.2:Int)==(11:Int)))&&true)):AV)=_;refine pB ?_;rcases gx (EI ds B5 FN 20000 t) with h | h<;>simp[h],rfl⟩
 (try simp only[sd,se] at c1);have hw:=jC hs.env ho hsz hr1 (by simpa using c1);refine A2 (Au (BR [] 4 (fun y=>y= .p (.bool ((((((LU (EI ds B5 FN 20000 t)).2.2:Int)==(0:Int))&&(((LU (EI ds B5 FN 20000 t)).2.1)==q.isSome))&&(((LU (EI ds B5 FN 20000 t)).1:Int)==(q.getD 0:Int)))&&true))) ?_ ?_))
 ·refine A4 (Ax Ay 3 [] O (BL 47 O (fun g=>?_) (fun g=>?_)))
  ·(try simp only[sd,se] at g);refine Ax Ay 2 [] O (BC O (R8 sB O O) (Ax Ay 2 [] O (BL 52 O (fun g1=>?_) (fun g1=>?_))))
   ·(try simp only[sd,se] at g1);refine Ax Ay 5 [] O (BL 57 O (fun g2=>?_) (fun g2=>?_))
    ·(try simp only[sd,se] at g2);exact BC O (BF O O (OI ) O) (As Ay 2 [] O ⟨O,O,AK,AI,Aq⟩)
    (try simp only[sd,se] at g2);exact As Ay 3 [] O ⟨O,O,AK,AI,Aq⟩
   (try simp only[sd,se] at g1);exact As Ay 8 [] O ⟨O,O,AK,AI,Aq⟩
  (try simp only[sd,se] at g);exact As Ay 13 [] O ⟨O,O,AK,AI,Aq⟩
 rintro _ rfl;refine A1 (⟨O,_,_,⟨_,_,O,O,O⟩,(List.nil_sublist _),?_⟩)
 all_goals exact⟨by show (.p (.bool ((((((LU (EI ds B5 FN 20000 t)).2.2:Int)==(0:Int))&&(((LU (EI ds B5 FN 20000 t)).2.1)==q.isSome))&&(((LU (EI ds B5 FN 20000 t)).1:Int)==(q.getD 0:Int)))&&true)):AV)=_;refine pB ?_;rw[hw];simp,rfl⟩
end Go.Proofs.YtboammbpdaoojaaGreat
