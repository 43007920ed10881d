/- Part of the proofs: an abstract program logic, plain models and contracts of functions. -/
import Derived.Test.YtboammbpdaoojaaGreatPi
import Derived.Test.YtboammbpdaoojaaGreatPd
import Derived.Test.YtboammbpdaoojaaGreatPb
set_option linter.unusedVariables false
set_option linter.unusedSimpArgs false
set_option maxRecDepth 100000
namespace Go.Proofs.YtboammbpdaoojaaGreat
open Go.Abs Go.Eu
theorem RU:∀(t:Tm) (vars params metas levels:Int),(Nd t)→(size t<1000000)→GO Tryz.prog 55 [.agg ((Bb t).map .p),.p (I vars),.p (I params),.p (I metas),.p (I levels)] (fun v=>∃e:Int,v= .p (I e)∧(e=0→wf (max vars 0) metas 0 t)):=by
 intro t vars params metas levels h1 h2;refine BF Tryz.func55 O rM (n:=28) O O (A6 (BO O (Ba O) fun b5=>A1 A7 1 [] O (A2 (A6 (A5 A7 2 [0] O (A0 O (Fi O O) (A5 A7 3 [] O (D2 O O (CO O O (jC _ t 0 (max (vars:Int) (0:Int)) params metas levels (Nat.le_refl _) h1 Ax Ai) (.inl O)) ?_))))))));rintro _ ⟨e,rfl,he⟩;refine A1 A7 1 [] O (A3 A7 2 [] O (A4 O (fun c=>?_) (fun c=>?_)))
 ·(try simp only[sd,se] at c);refine A3 A7 2 [] O (A9 (⟨O,_,[],Bv O,List.nil_sublist _,⟨⟨_,O,?_⟩,O⟩⟩));exact fun h=>absurd h Au
 (try simp only[sd,se] at c);refine BA (A2 (A6 (A0 O (Bf (i:=0) Bg O O Ap) (A0 O (BL O O (Mo _ t (Nat.le_refl _) h1) O) (A1 A7 1 [] O (A4 O (fun c1=>?_) (fun c1=>?_)))))))
 ·(try simp only[sd,se] at c1);refine A3 A7 1 [] O (A9 (⟨O,_,[],Bv O,List.nil_sublist _,⟨⟨_,O,?_⟩,O⟩⟩));exact fun h=>absurd h Aw
 (try simp only[sd,se] at c1);refine BA (A2 (A6 (A0 O (Bf (i:=0) Bg O O Ap) (A0 O (BL O O (Om _ t (Nat.le_refl _) h1) O) (A1 A7 1 [] O (A4 O (fun c2=>?_) (fun c2=>?_)))))))
 ·(try simp only[sd,se] at c2);refine A3 A7 1 [] O (A9 (⟨O,_,[],Bv O,List.nil_sublist _,⟨⟨_,O,?_⟩,O⟩⟩));exact fun h=>absurd h Aw
 (try simp only[sd,se] at c2);refine BA (A3 A7 1 [] O (A9 (⟨O,_,[],Bv O,List.nil_sublist _,⟨⟨_,O,?_⟩,O⟩⟩)));exact fun _=>he Ax
theorem Sh:∀(ds:List CX) (d:CX),(Hj ds)→(Ns d)→GO Tryz.prog 135 [.p (.lst (List.map Bu ds)),.agg ((Bu d).map .p)] (Z1):=by
 intro ds d h1 h2;have hn:=NH d;have hcl:=h2.cl;have hfl:=h2.fl;refine BF Tryz.func135 O nI (n:=44) O O (A6 (BO O (Ba O) fun b3=>A1 A7 1 [] O (A6 (A0 O (Bf (i:=0) Fg O O Am) (A0 O (BL O O (Mf d h2.cl h2.fl h2.nm) O) (A1 A7 1 [] O (A2 (A3 A7 1 [] O (BJ (Bn (α:=Nat) (fun i=>⟨44,mk [(0,.p (.lst (List.map Bu ds))),(5,.p (.lst (List.map Gx (DH d)))),(6,.p (I (i:Int)))],[],[]⟩) (fun i=>(DH d).length - i) (fun i=>i≤(DH d).length) 0 AW ?_ ?_))))))))))
 ·exact Bh ⟨we O,we O,we O,Az⟩ (leH (is:=[]) O (DJ))
 rintro i hC
 try simp only at hC
 have hi:=hC;refine A2 (A6 (A5 A7 2 [] O (A0 O (BT HC O (List.length_map _)) (A1 A7 1 [] O (A4 O (fun c=>?_) (fun c=>?_))))))
 ·(try simp only[sd,se] at c);refine BA (A2 (BJ (A2 (A6 (A5 A7 2 [] O ?_)))));obtain⟨x,hx⟩:=BE (l:=DH d) (i:=i) Ax;refine A0 O (BD HC O O Ax (Ol hx) (O)) (A0 O (E9 Lg O) (D2 O O (CO O O (fA x (ay h2 hx)) (.inl O)) ?_));rintro _ ⟨q,rfl⟩;refine A1 A7 1 [] O (A4 O (fun c1=>?_) (fun c1=>?_))
  ·(try simp only[sd,se] at c1);refine A3 A7 1 [] O (A9 (⟨O,_,_,⟨_,_,O,O,O⟩,(List.nil_sublist _),?_⟩))
   all_goals exact⟨⟨_,rfl⟩,rfl⟩
  (try simp only[sd,se] at c1);refine BA (A6 (A5 A7 3 [] O (A0 O (BD HC O O Ax (Ol hx) (O)) (A0 O (E9 Lg O) (A0 O (BL O O (Lv ds x h1) O) (A5 A7 3 [] O (BO O (BG Hw O) fun b7=>A1 A7 2 [0,1] O (A2 (Be [0,5,6] 43 Gm ?_ ?_)))))))))
  ·refine B0 (fun k=>false) Dt (BZ A7 3 [] O (D9 34 O (fun g=>?_) (fun g=>?_)))
   ·(try simp only[sd,se] at g);exact Bt A7 9 [] O (⟨O,O,AP,⟨_,O⟩,⟨O,O,O,Az⟩⟩)
   (try simp only[sd,se] at g);exact BZ A7 2 [] O (Cm O (fun _=>Cc (lo:=0) (hi:=i) HC O (CM (Kb _)) O ⟨_,O⟩ (Nat.zero_le _) AX (YC (f:=Gx) (DH d) i)) Az (BZ A7 2 [] O (Cm O (fun _=>BD HC O O Ax (Ol hx) (O)) Az (Cm O (fun _=>E9 Lg O) Az (Cm O (fun _=>BL O O (UP ((DH d).take i) x Ar) O) Az (Bt A7 1 [] O (⟨O,O,AP,⟨_,O⟩,⟨O,O,O,Az⟩⟩)))))))
  rintro _ ⟨q1,rfl⟩;refine A4 O (fun c2=>?_) (fun c2=>?_)
  ·(try simp only[sd,se] at c2);refine A3 A7 1 [] O (A9 (⟨O,_,_,⟨_,_,O,O,O⟩,(List.nil_sublist _),?_⟩))
   all_goals exact⟨⟨_,rfl⟩,rfl⟩
  (try simp only[sd,se] at c2);refine BA (BC (A1 A7 3 [] O ?_));refine⟨(i+1),Ac,by omega,Bh ⟨we rfl,we rfl,we rfl,trivial⟩ (leH (is:=[]) rfl (DJ))⟩
 (try simp only[sd,se] at c);refine Bo (A3 A7 1 [] O (A9 (⟨O,_,_,⟨_,_,O,O,O⟩,(List.nil_sublist _),?_⟩)))
 all_goals exact⟨⟨_,rfl⟩,rfl⟩
theorem iT:∀(t:Tm),(VF t)→GO Tryz.prog 115 [.agg ((Bb t).map .p)] (fun v=>∃(l:List Tm) (q:Tm),v= .tup [.p (.lst (BN l)),TV q]∧l.length<1000000):=by
 intro t h1;have hsz:=h1.sz;refine BF Tryz.func115 O ku (n:=27) O O (A6 (BO O (Ba O) fun b1=>L8 O (BO O (BG B4 O) fun b3=>Bq O (A3 A7 1 [] O (A2 (BJ (BQ (DS (t:=4) (sz:=5) O) ?_)))))));refine Bn (α:=Tm×List Tm×Option Nat×Nat) (fun(y,l,o,cp)=>⟨27,mk [(1,.ptr b1 0),(3,.ptr b3 0),(4,.vs o (BN l).length cp)],[.vec o 5 (BN l) cp,.box b3 [.p (I 0),.p (I 0),.p (.str ⟨#[]⟩),.p (.nils),.p (.nils)],.box b1 ((Bb y).map .p)],[]⟩) (fun(y,l,o,cp)=>size y) (fun(y,l,o,cp)=>Nd y∧l.length+size y≤size t) ⟨t,[],none,0⟩ (⟨h1.nd,by simp⟩) ?_ ?_
 ·exact Bh ⟨we O,we O,we O,Az⟩ (leH (is:=[0,1,2]) O (wl (oe O) (wl (oe O) (wl (oe O) (DJ)))))
 rintro⟨y,l,o,cp⟩ hC
 try simp only at hC
 have hl0:l.length<1000000:=by have:=hC.2;omega
 refine A2 (A2 ?_);obtain⟨yk,yi,yn,yl,ys⟩:=y;refine Be [1,3,4] 13 (fun y=>y= .p (.bool (((yk:Int)==(6:Int))&&(((ys.length:Nat):Int)==(2:Int))))) ?_ ?_
 ·refine BC (A5 A7 4 [2] O (BY 8 O (fun g=>?_) (fun g=>?_)))
  ·(try simp only[sd,se] at g);exact A5 A7 2 [2] O (BK O (BT Bk O (Bc _)) (A1 A7 2 [] O (⟨O,O,AP,AJ,⟨O,O,O,Az⟩⟩)))
  (try simp only[sd,se] at g);exact A1 A7 5 [] O (⟨O,O,AP,AJ,⟨O,O,O,Az⟩⟩)
 rintro _ rfl;refine A4 O (fun c=>?_) (fun c=>?_)
 ·(try simp only[sd,se] at c);refine BA (BJ (A6 (A5 A7 3 [2] O ?_)));obtain⟨x,hx⟩:=BE (l:=ys) (i:=0) (by first | omega | (simp at c;omega));refine A0 O (BD Bk O O Ax (Bj hx) (BM _)) (A0 O (BU Bg O (BM _)) ?_);obtain⟨xk,xi,xn,xl,xs⟩:=x;refine A0 O (Br Bk B4 O O O O O) (EN O O (CE (i:=0) (rows':=BN [(.mk xk xi xn xl xs:Tm)]) Bk Bk B4 O O O O O O (B1 _) AD (Hk l [(.mk xk xi xn xl xs:Tm)])) fun o1 cp1=>A1 A7 1 [] O (BC (A5 A7 2 [2] O ?_)));obtain⟨x1,hx1⟩:=BE (l:=ys) (i:=1) (by first | omega | (simp at c;omega));refine A0 O (BD Bk O O Ax (Bj hx1) (BM _)) (A1 A7 2 [2,1] O ?_);refine⟨⟨x1,l++[(.mk xk xi xn xl xs:Tm)],o1,cp1⟩,(by have:=Co hx1;simp only[size];omega),⟨Df hC.1.2.2.2.2.1 hx1,by have:=Co hx1;have:=hC.2;simp only[size] at *;simp only[List.length_append,List.length_cons,List.length_nil];omega⟩,Bh ⟨we rfl,we rfl,we rfl,trivial⟩ (leH (is:=[0,1,2]) rfl (wl (oe rfl) (wl (oe rfl) (wl (oe rfl) (DJ)))))⟩
 (try simp only[sd,se] at c);refine Bo (A2 (B0 (fun k=>false) Dt (Bt A7 4 [2,1,0] O (BQ (Cf (i:=0) [4,25,2] O (Ds ⟨O,O,O,Az⟩)) (A9 (⟨O,_,_,⟨_,_,O,O,⟨_,_,O,(BI (i:=0) Bg O O O),O⟩⟩,(List.nil_sublist _),?_⟩))))))
 all_goals exact⟨⟨l,(.mk yk yi yn yl ys:Tm),rfl,by have:=hC.2;omega⟩,rfl⟩
theorem Sv:∀(n:Nat) (s:P0) (t:Tm),(size t≤n)→(Nd t)→(Hj s.env)→(s.own.length<9000000)→(Ns s.d)→GO Tryz.prog 172 [.agg ((Ge s).map .p),.agg ((Bb t).map .p)] (Z1):=by
 intro n
 induction n with
 | zero=>intro s t h;cases t;simp[size] at h
 | succ n ih =>
  intro s t h1 h2 h3 h4 h5;have h3l:=h3.len;obtain⟨tk,ti,tn,tl,ts⟩:=t;have hk:=h2.2.2.2.2.1;have hkl:=h2.2.2.2.1;simp only[Dq] at hkl;simp only[size] at h1;refine BF Tryz.func172 O oV (n:=59) O O (A6 (BO O (Ba O) fun b2=>BO O (Ba O) fun b3=>A1 A7 1 [] O (A2 (A3 A7 3 [0] O (Be [2,3] 12 (fun _=>True) ?_ ?_)))))
  ·refine A4 O (fun c=>?_) (fun c=>?_)
   ·(try simp only[sd,se] at c);refine A6 (A0 O (A8 O0 O O) (A0 O (BB (i:=1) dz O O (J2 _)) (A5 A7 2 [0] O (A0 O (BL O O (Lv s.env tn h3) O) (A5 A7 3 [] O (BO O (BG Hw O) fun b5=>A1 A7 2 [0,1] O (A2 (A3 A7 2 [] O (A4 O (fun c1=>?_) (fun c1=>?_))))))))))
    ·(try simp only[sd,se] at c1);refine A2 (A6 (A0 O (A8 O0 O O) (A0 O (BB (i:=2) W6 O O (WT _)) (A5 A7 2 [1] O (A0 O (BL O O (UP s.own tn h4) O) (A1 A7 1 [] O (A4 O (fun c2=>?_) (fun c2=>?_))))))))
     ·(try simp only[sd,se] at c2);refine A3 A7 1 [] O (A9 (⟨O,_,_,⟨_,_,O,O,O⟩,(List.nil_sublist _),?_⟩))
      all_goals exact⟨⟨_,rfl⟩,rfl⟩
     (try simp only[sd,se] at c2);refine BA (BC (A0 O (A8 O0 O O) (A0 O (B6 (i:=2) Fg O O (S9 _) (Cx _)) (A0 O (A8 O0 O O) (A0 O (BB (i:=2) dz O O (J2 _)) (A0 O (BT Hz O (List.length_map _)) (A5 A7 2 [1] O (A0 O (BL O O (S7 s.d (s.env.length:Nat) tn h5.cl h5.fl) O) (A1 A7 1 [0,1] O (A6 (A5 A7 2 [1] O (A0 O (BT Em O (List.length_map _)) (A0 O (A8 Fv O O) (A0 O (BB (i:=0) DO O O (Hq _)) (A1 A7 1 [] O (A4 O (fun c3=>?_) (fun c3=>?_)))))))))))))))))
     ·(try simp only[sd,se] at c3);refine A3 A7 1 [] O (A9 (⟨O,_,_,⟨_,_,O,O,O⟩,(List.nil_sublist _),?_⟩))
      all_goals exact⟨⟨_,rfl⟩,rfl⟩
     (try simp only[sd,se] at c3);exact BA (⟨O,O,(CC (is:=[1,2]) O),Az,⟨O,O,Az⟩⟩)
    (try simp only[sd,se] at c1);refine BA (A6 (A5 A7 2 [1] O (A0 O (BT Em O (List.length_map _)) (A0 O (A8 Fv O O) (A0 O (BB (i:=0) DO O O (Hq _)) (A1 A7 1 [] O (A4 O (fun c2=>?_) (fun c2=>?_))))))))
    ·(try simp only[sd,se] at c2);refine A3 A7 1 [] O (A9 (⟨O,_,_,⟨_,_,O,O,O⟩,(List.nil_sublist _),?_⟩))
     all_goals exact⟨⟨_,rfl⟩,rfl⟩
    (try simp only[sd,se] at c2);exact BA (⟨O,O,(CC (is:=[1,2]) O),Az,⟨O,O,Az⟩⟩)
   (try simp only[sd,se] at c);exact BA (⟨O,O,(List.Sublist.refl _),Az,⟨O,O,Az⟩⟩)
  intro _ _;refine A2 (A3 A7 1 [] O (BJ (Bn (α:=Nat) (fun i=>⟨59,mk [(2,.ptr b2 0),(3,.ptr b3 0),(7,.p (I (i:Int)))],[.box b3 [.p (I tk),.p (I ti),.p (.str tn),.p (.lst (List.map B9 tl)),.p (.lst (BN ts))],.box b2 ((Ge s).map .p)],[]⟩) (fun i=>ts.length - i) (fun i=>i≤ts.length) 0 AW ?_ ?_)))
  ·exact Bh ⟨we O,we O,we O,Az⟩ (leH (is:=[0,1]) O (wl (oe O) (wl (oe O) (DJ))))
  rintro i hC
  try simp only at hC
  have hi:=hC;refine A2 (A6 (A5 A7 3 [0] O (A0 O (BT Bk O (Bc _)) (A1 A7 1 [] O (A4 O (fun c=>?_) (fun c=>?_))))))
  ·(try simp only[sd,se] at c);refine BA (A2 (BJ (A2 (B0 (fun k=>Nat.beq k 6) Dt (BZ A7 4 [1,0] O ?_)))));obtain⟨x,hx⟩:=BE (l:=ts) (i:=i) Ax;refine BP O (fun _=>BD Bk O O Ax (Bj hx) (BM _)) Az (BP O (fun _=>BU Bg O (BM _)) Az (KF [] O O (CO O O (ih s x (by have:=Co hx;omega) (Df hk hx) h3 h4 h5) (.inl O)) As (⟨_,0,O⟩) AB ?_));rintro _ ⟨e,rfl⟩;refine⟨Az,?_⟩;refine Bt A7 1 [] O (A3 A7 2 [] O (A4 O (fun c1=>?_) (fun c1=>?_)))
   ·(try simp only[sd,se] at c1);refine A3 A7 2 [] O (A9 (⟨O,_,_,⟨_,_,O,O,O⟩,(List.nil_sublist _),?_⟩))
    all_goals exact⟨⟨_,rfl⟩,rfl⟩
   (try simp only[sd,se] at c1);refine BA (BC (A1 A7 3 [] O ?_));refine⟨(i+1),Ac,by omega,Bh ⟨we rfl,we rfl,we rfl,trivial⟩ (leH (is:=[0,1]) rfl (wl (oe rfl) (wl (oe rfl) (DJ))))⟩
  (try simp only[sd,se] at c);refine Bo (A3 A7 1 [] O (A9 (⟨O,_,_,⟨_,_,O,O,O⟩,(List.nil_sublist _),?_⟩)))
  all_goals exact⟨⟨_,rfl⟩,rfl⟩
theorem Xg:∀(d:CX),(Ns d)→GO Tryz.prog 134 [.agg ((Bu d).map .p)] (fun v=>∃ee:Int,v= .p (I ee)∧(ee=0→VB d)):=by
 intro d h1;have hfl:=h1.fl;have hcl:=h1.cl;have hrl:=h1.rl;refine BF Tryz.func134 O pM (n:=96) O O (A6 (BO O (Ba O) fun b1=>A1 A7 1 [] O (A2 (A2 (Be [1] 16 (fun y=>y= .p (.bool (((decide ((d.params:Int)<(0:Int)))||(decide ((d.params:Int) > (8:Int))))||(decide ((d.fixed:Int)<(0:Int)))))) ?_ ?_)))))
 ·refine BC (A0 O (A8 DD O O) (A0 O (BB (i:=0) DO O O (C2 _)) (A5 A7 2 [] O (BY 7 O (fun g=>?_) (fun g=>?_)))))
  ·(try simp only[sd,se] at g);exact A1 A7 9 [] O (⟨O,O,AP,AJ,⟨O,Az⟩⟩)
  (try simp only[sd,se] at g);refine BK O (A8 DD O O) (BK O (BB (i:=0) DO O O (C2 _)) (A5 A7 3 [] O (BY 12 O (fun g1=>?_) (fun g1=>?_))))
  ·(try simp only[sd,se] at g1);exact A1 A7 4 [] O (⟨O,O,AP,AJ,⟨O,Az⟩⟩)
  (try simp only[sd,se] at g1);exact BK O (A8 DD O O) (BK O (BB (i:=0) DO O O (Cv _)) (A1 A7 2 [] O (⟨O,O,AP,AJ,⟨O,Az⟩⟩)))
 rintro _ rfl;refine A4 O (fun c=>?_) (fun c=>?_)
 ·(try simp only[sd,se] at c);refine A3 A7 1 [] O (A9 (⟨O,_,_,⟨_,_,O,O,O⟩,(List.nil_sublist _),?_⟩))
  all_goals exact⟨⟨_,rfl,fun h=>absurd h Aw⟩,rfl⟩
 (try simp only[sd,se] at c);have hf0:0≤d.fixed:=by omega
 refine BA (A2 (A2 (Be [1] 37 Gm ?_ ?_)))
 ·refine BC (A0 O (A8 DD O O) (A0 O (BB (i:=0) HY O O (CH _)) (A0 O (BT HN O (List.length_map _)) (A5 A7 2 [] O (BY 21 O (fun g=>?_) (fun g=>?_))))))
  ·(try simp only[sd,se] at g);exact A1 A7 16 [] O (⟨O,O,AP,⟨_,O⟩,⟨O,Az⟩⟩)
  (try simp only[sd,se] at g);refine BK O (A8 DD O O) (BK O (BB (i:=0) DO O O (EF _)) (A5 A7 2 [] O (BY 25 O (fun g1=>?_) (fun g1=>?_))))
  ·(try simp only[sd,se] at g1);refine BK O (A8 DD O O) (BK O (BB (i:=0) HW O O (CP _)) (BK O (BT Gy O (List.length_map _)) (A5 A7 2 [] O (BY 30 O (fun g2=>?_) (fun g2=>?_)))))
   ·(try simp only[sd,se] at g2);exact A1 A7 7 [] O (⟨O,O,AP,⟨_,O⟩,⟨O,Az⟩⟩)
   (try simp only[sd,se] at g2);exact BK O (A8 DD O O) (BK O (BB (i:=0) HW O O (CP _)) (BK O (BT Gy O (List.length_map _)) (A1 A7 4 [] O (⟨O,O,AP,⟨_,O⟩,⟨O,Az⟩⟩))))
  (try simp only[sd,se] at g1);exact A1 A7 12 [] O (⟨O,O,AP,⟨_,O⟩,⟨O,Az⟩⟩)
 rintro _ ⟨q,rfl⟩;refine A4 O (fun c1=>?_) (fun c1=>?_)
 ·(try simp only[sd,se] at c1);refine A3 A7 1 [] O (A9 (⟨O,_,_,⟨_,_,O,O,O⟩,(List.nil_sublist _),?_⟩))
  all_goals exact⟨⟨_,rfl,fun h=>absurd h Aw⟩,rfl⟩
 (try simp only[sd,se] at c1);refine BA (A2 (A3 A7 1 [] O (BJ ?_)));refine Bn (α:=Nat) (fun i=>⟨96,mk [(1,.ptr b1 0),(3,.p (I (i:Int)))],[.box b1 ((Bu d).map .p)],[]⟩) (fun i=>d.funs.length - i) (fun i=>i≤d.funs.length∧(∀j,j<i→∀x,d.funs[j]?=some x→1≤x.arity∧x.arity≤16)) 0 (⟨by omega,fun j h=>by omega⟩) ?_ ?_
 ·exact Bh ⟨we O,we O,Az⟩ (leH (is:=[0]) O (wl (oe O) (DJ)))
 rintro i hC
 try simp only at hC
 obtain⟨hi,hC⟩:=hC;refine A2 (A6 (A5 A7 2 [] O (A0 O (BB (i:=0) HW O O (CP _)) (A0 O (BT Gy O (List.length_map _)) (A1 A7 1 [] O (A4 O (fun c2=>?_) (fun c2=>?_)))))))
 ·(try simp only[sd,se] at c2);obtain⟨x,hx⟩:=BE (l:=d.funs) (i:=i) Ax;refine BA (A2 (BJ (A2 (Be [1,3] 60 (fun y=>∃q:Bool,y= .p (.bool q)∧(q=false→1≤x.arity∧x.arity≤16)) ?_ ?_))))
  ·refine BC (A0 O (A8 DD O O) (A0 O (BB (i:=0) HW O O (CP _)) (B3 O (A0 O (BD Gy O O Ax (ET hx) (DV _)) (A0 O (B7 Gw O O) (A0 O (DA DO O (CU _)) (A5 A7 2 [] O (BY 52 O (fun g=>?_) (fun g=>?_)))))))))
   ·(try simp only[sd,se] at g);exact A1 A7 8 [] O (⟨O,O,AP,(by refine⟨_,rfl,fun h=>?_⟩;first | (exact absurd h Aw) | (simp only[decide_eq_false_iff_not] at h;omega) | omega),⟨O,O,Az⟩⟩)
   (try simp only[sd,se] at g);exact BK O (A8 DD O O) (BK O (BB (i:=0) HW O O (CP _)) (BK O (Bi O) (BK O (BD Gy O O Ax (ET hx) (DV _)) (BK O (B7 Gw O O) (BK O (DA DO O (CU _)) (A1 A7 2 [] O (⟨O,O,AP,(by refine⟨_,rfl,fun h=>?_⟩;first | (exact absurd h Aw) | (simp only[decide_eq_false_iff_not] at h;omega) | omega),⟨O,O,Az⟩⟩)))))))
  rintro _ ⟨q,rfl,hq⟩;refine A4 O (fun c3=>?_) (fun c3=>?_)
  ·(try simp only[sd,se] at c3);refine A3 A7 1 [] O (A9 (⟨O,_,_,⟨_,_,O,O,O⟩,(List.nil_sublist _),?_⟩))
   all_goals exact⟨⟨_,rfl,fun h=>absurd h Aw⟩,rfl⟩
  (try simp only[sd,se] at c3);have hq3:=hq (by simpa using c3);refine BA (BC (A1 A7 3 [] O (⟨(i+1),Ac,⟨by omega,C9 (p:=fun _ (x:Hi)=>1≤x.arity∧x.arity≤16) hC hx hq3⟩,Bh ⟨we rfl,we rfl,trivial⟩ (leH (is:=[0]) rfl (wl (oe rfl) (DJ)))⟩)))
 (try simp only[sd,se] at c2);refine Bo (A2 (A2 (Be [] 95 (fun y=>∃q:Bool,y= .p (.bool q)∧(q=false→d.kind=3→d.fixed≤1000000)) ?_ ?_)))
 ·refine BC (A0 O (A8 DD O O) (A0 O (BB (i:=0) DO O O (EF _)) (A5 A7 2 [] O (BY 64 O (fun g=>?_) (fun g=>?_)))))
  ·(try simp only[sd,se] at g);refine A5 A7 2 [] O (BK O (BB (i:=0) DO O O (Du _)) (BK O (A8 DD O O) (BK O (BB (i:=0) DO O O (C2 _)) (A5 A7 2 [] O (BY 71 O (fun g1=>?_) (fun g1=>?_))))))
   ·(try simp only[sd,se] at g1);refine A5 A7 2 [] O (BK O (BB (i:=0) DO O O (Du _)) (BK O (A8 DD O O) (BK O (BB (i:=0) DO O O (C2 _)) (BK O (ES O O) (A5 A7 3 [] O (BY 80 O (fun g2=>?_) (fun g2=>?_)))))))
    ·(try simp only[sd,se] at g2);exact A1 A7 15 [] O (⟨O,O,AP,(by refine⟨_,rfl,fun h h3=>?_⟩;first | (exact absurd h Aw) | omega | exact hq (by simpa using h)),Az⟩)
    (try simp only[sd,se] at g2);refine A5 A7 2 [] O (BK O (BB (i:=0) Gu O O (Cw _)) (BK O (BT Bk O (Bc _)) (BK O (A8 DD O O) (BK O (BB (i:=0) HY O O (CH _)) (BK O (BT HN O (List.length_map _)) (A5 A7 3 [] O (BY 90 O (fun g3=>?_) (fun g3=>?_))))))))
    ·(try simp only[sd,se] at g3);exact A1 A7 5 [] O (⟨O,O,AP,(by refine⟨_,rfl,fun h h3=>?_⟩;first | (exact absurd h Aw) | omega | exact hq (by simpa using h)),Az⟩)
    (try simp only[sd,se] at g3);refine BK O (Bf (i:=0) Fg O O Am) (IW O O O O (CO O O (T4 d h1) (.inl O)) ?_);rintro _ ⟨q1,rfl,hq⟩;exact A1 A7 3 [] O (⟨O,O,AP,(by refine⟨_,rfl,fun h h3=>?_⟩;first | (exact absurd h Aw) | omega | exact hq (by simpa using h)),Az⟩)
   (try simp only[sd,se] at g1);refine A5 A7 11 [] O (BK O (BB (i:=0) Gu O O (Cw _)) (BK O (BT Bk O (Bc _)) (BK O (A8 DD O O) (BK O (BB (i:=0) HY O O (CH _)) (BK O (BT HN O (List.length_map _)) (A5 A7 3 [] O (BY 90 O (fun g2=>?_) (fun g2=>?_))))))))
   ·(try simp only[sd,se] at g2);exact A1 A7 5 [] O (⟨O,O,AP,(by refine⟨_,rfl,fun h h3=>?_⟩;first | (exact absurd h Aw) | omega | exact hq (by simpa using h)),Az⟩)
   (try simp only[sd,se] at g2);refine BK O (Bf (i:=0) Fg O O Am) (IW O O O O (CO O O (T4 d h1) (.inl O)) ?_);rintro _ ⟨q1,rfl,hq⟩;exact A1 A7 3 [] O (⟨O,O,AP,(by refine⟨_,rfl,fun h h3=>?_⟩;first | (exact absurd h Aw) | omega | exact hq (by simpa using h)),Az⟩)
  (try simp only[sd,se] at g);exact A1 A7 31 [] O (⟨O,O,AP,(by refine⟨_,rfl,fun h h3=>?_⟩;first | (exact absurd h Aw) | omega | exact hq (by simpa using h)),Az⟩)
 rintro _ ⟨q,rfl,hq⟩;refine A4 O (fun c3=>?_) (fun c3=>?_)
 ·(try simp only[sd,se] at c3);refine A3 A7 1 [] O (A9 (⟨O,_,_,⟨_,_,O,O,O⟩,(List.nil_sublist _),?_⟩))
  all_goals exact⟨⟨_,rfl,fun h=>absurd h Aw⟩,rfl⟩
 (try simp only[sd,se] at c3);have hq4:=hq (by simpa using c3);refine BA (A3 A7 1 [] O (A9 (⟨O,_,_,⟨_,_,O,O,O⟩,(List.nil_sublist _),?_⟩)))
 all_goals exact⟨⟨_,rfl,fun _=>⟨hf0,IX Ax hC,hq4⟩⟩,rfl⟩
theorem Xh:∀(d:CX) (k:Int),(Ns d)→(0≤d.fixed∧d.fixed≤1000000)→(0≤k)→(k<d.ctors.length)→GO Tryz.prog 85 [.agg ((Bu d).map .p),.p (I k)] (fun v=>∃e:Int,v= .p (I e)∧0≤e∧e≤1000000):=by
 intro d k h1 h2 h3 h4;have hcl:=h1.cl;refine BF Tryz.func85 O my (n:=23) O O (A6 (BO O (Ba O) fun b2=>A1 A7 1 [] O (A6 (A0 O (A8 DD O O) (A0 O (BB (i:=0) HY O O (CH _)) (B3 O ?_))))));obtain⟨x,hx⟩:=BE (l:=d.ctors) (i:=(k:Int).toNat) Ax;refine A0 O (BD HN O O Ax (EU hx) (D8 _)) (A0 O (B7 Iq O O) (A0 O (DU Bg O (FU _) (BM _)) (D2 O O (CO O O (iT x.type (h1.cs _ (List.mem_of_getElem? hx)).ty) (.inl O)) ?_)));rintro _ ⟨l,q,rfl,hl⟩;refine A5 A7 3 [] O (BO O (BG B4 O) fun b6=>A1 A7 2 [0,1] O (A6 (B3 O (A0 O (BT Bk O (Bc _)) (A0 O (A8 DD O O) (A0 O (BB (i:=1) DO O O (Cv _)) (A0 O (K4 O O Ax Ax) (A0 O (Fi O O) (A1 A7 1 [] O (A9 (⟨O,_,_,⟨_,_,O,O,O⟩,(List.nil_sublist _),?_⟩)))))))))))
 all_goals exact⟨⟨_,rfl,by omega,by omega⟩,rfl⟩
theorem HK:∀(s:P0) (t:Tm) (vs ps:Int),(VF t)→(Hj s.env)→(s.own.length<9000000)→(Ns s.d)→(vs≤549755813888)→GO Tryz.prog 151 [.agg ((Ge s).map .p),.agg ((Bb t).map .p),.p (I vs),.p (I ps)] (fun v=>∃ee:Int,v= .p (I ee)∧(ee=0→okB t=true)):=by
 intro s t vs ps h1 h2 h3 h4 h5;refine BF Tryz.func151 O pG (n:=20) O O (A6 (BO O (Ba O) fun b4=>BO O (Ba O) fun b5=>A1 A7 1 [] O (A2 (A6 (A5 A7 3 [0] O (D2 O O (CO O O (RU t vs ps 0 0 h1.nd h1.sz) (.inl O)) ?_))))));rintro _ ⟨e,rfl,he⟩;refine A1 A7 1 [] O (A3 A7 2 [] O (A4 O (fun c=>?_) (fun c=>?_)))
 ·(try simp only[sd,se] at c);refine A3 A7 2 [] O (A9 (⟨O,_,_,⟨_,_,O,O,O⟩,(List.nil_sublist _),?_⟩))
  all_goals exact⟨⟨_,rfl,fun h=>absurd h Au⟩,rfl⟩
 (try simp only[sd,se] at c);refine BA (A6 (A5 A7 2 [1,0] O (D2 O O (CO O O (Sv (size t) s t (Nat.le_refl _) h1.nd h2 h3 h4) (.inl O)) ?_)));rintro _ ⟨e1,rfl⟩;refine A1 A7 1 [] O (A9 (⟨O,_,_,⟨_,_,O,O,O⟩,(List.nil_sublist _),?_⟩))
 all_goals exact⟨⟨_,rfl,fun _=>et h1.nd h1.sz h5 (he Ax)⟩,rfl⟩
theorem VK:∀(n:Nat) (a b:FY),(LS a≤n)→(H4 a)→GO Tryz.prog 173 [.agg ((C5 a).map .p),.agg ((C5 b).map .p)] (fun v=>∃bb:Bool,v= .p (.bool bb)∧(bb=true→Nk a.body b.body=true∧a.branches.length=b.branches.length)):=by
 intro n
 induction n with
 | zero=>intro a b h;have:=PG a;omega
 | succ n ih =>
  intro a b h1 h2;have hal:=h2.bl;refine BF Tryz.func173 O qM (n:=74) O O (A6 (BO O (Ba O) fun b2=>BO O (Ba O) fun b3=>A1 A7 1 [] O (A2 (A2 (Be [2,3] 36 (fun y=>∃q:Bool,y= .p (.bool q)∧(q=false→a.branches.length=b.branches.length∧Nk a.body b.body=true)) ?_ ?_)))))
  ·refine BC (A0 O (A8 FK O O) (A0 O (BB (i:=1) DO O O (F6 _)) (A0 O (A8 FK O O) (A0 O (BB (i:=0) DO O O (F6 _)) (A5 A7 2 [] O (BY 13 O (fun g=>?_) (fun g=>?_)))))))
   ·(try simp only[sd,se] at g);exact A1 A7 23 [] O (⟨O,O,AP,(by refine⟨_,rfl,fun h=>?_⟩;first | (exact absurd h Aw) | (simp_all;done) | (simp_all;omega)),⟨O,O,Az⟩⟩)
   (try simp only[sd,se] at g);refine BK O (A8 FK O O) (BK O (BB (i:=1) DO O O (C0 _)) (BK O (A8 FK O O) (BK O (BB (i:=0) DO O O (C0 _)) (A5 A7 3 [] O (BY 20 O (fun g1=>?_) (fun g1=>?_))))))
   ·(try simp only[sd,se] at g1);exact A1 A7 16 [] O (⟨O,O,AP,(by refine⟨_,rfl,fun h=>?_⟩;first | (exact absurd h Aw) | (simp_all;done) | (simp_all;omega)),⟨O,O,Az⟩⟩)
   (try simp only[sd,se] at g1);refine BK O (A8 FK O O) (BK O (B6 (i:=1) Bg O O (Ew _) (BM _)) (BK O (A8 FK O O) (BK O (B6 (i:=0) Bg O O (Ew _) (BM _)) (BK O (BL O O (NY _ a.body b.body (Nat.le_refl _) h2.body.nd) O) (A5 A7 3 [] O (BY 28 O (fun g2=>?_) (fun g2=>?_)))))))
   ·(try simp only[sd,se] at g2);exact A1 A7 8 [] O (⟨O,O,AP,(by refine⟨_,rfl,fun h=>?_⟩;first | (exact absurd h Aw) | (simp_all;done) | (simp_all;omega)),⟨O,O,Az⟩⟩)
   (try simp only[sd,se] at g2);exact BK O (A8 FK O O) (BK O (BB (i:=1) Kd O O (CV _)) (BK O (BT Jm O (GI _)) (BK O (A8 FK O O) (BK O (BB (i:=0) Kd O O (CV _)) (BK O (BT Jm O (GI _)) (A1 A7 2 [] O (⟨O,O,AP,(by refine⟨_,rfl,fun h=>?_⟩;first | (exact absurd h Aw) | (simp_all;done) | (simp_all;omega)),⟨O,O,Az⟩⟩)))))))
  rintro _ ⟨q,rfl,hq⟩;refine A4 O (fun c=>?_) (fun c=>?_)
  ·(try simp only[sd,se] at c);refine A3 A7 1 [] O (A9 (⟨O,_,_,⟨_,_,O,O,O⟩,(List.nil_sublist _),?_⟩))
   all_goals exact⟨⟨_,rfl,fun h=>absurd h Aw⟩,rfl⟩
  (try simp only[sd,se] at c);obtain⟨hqa,hqb⟩:=hq (by simpa using c);refine BA (A2 (A3 A7 1 [] O (BJ (Bn (α:=Nat) (fun i=>⟨74,mk [(2,.ptr b2 0),(3,.ptr b3 0),(5,.p (I (i:Int)))],[.box b3 ((C5 b).map .p),.box b2 ((C5 a).map .p)],[]⟩) (fun i=>a.branches.length - i) (fun i=>i≤a.branches.length) 0 AW ?_ ?_))))
  ·exact Bh ⟨we O,we O,we O,Az⟩ (leH (is:=[0,1]) O (wl (oe O) (wl (oe O) (DJ))))
  rintro i hC
  try simp only at hC
  have hi:=hC;refine A2 (A6 (A5 A7 2 [] O (A0 O (BB (i:=1) Kd O O (CV _)) (A0 O (BT Jm O (GI _)) (A1 A7 1 [] O (A4 O (fun c1=>?_) (fun c1=>?_)))))))
  ·(try simp only[sd,se] at c1);obtain⟨x,hx⟩:=BE (l:=a.branches) (i:=i) Ax;obtain⟨x1,hx1⟩:=BE (l:=b.branches) (i:=i) Ax;refine BA (A2 (BJ (A2 (jA [.val (.ptr b2 (0+7)),.val (.p (.lst (LO a.branches))),.val (.p (I (i:Int))),.val (.ref (HD x)),.val (.agg ((HD x).map .p)),.val (.ptr b3 (0+7)),.val (.p (.lst (LO b.branches))),.val (.p (I (i:Int))),.val (.ref (HD x1)),.val (.agg ((HD x1).map .p)),.new [.p (.str ⟨#[]⟩),.p (.bool false),.p (I 0),.p (I 0),.p (I 0),.p (.str ⟨#[]⟩),.p (.nils),.p (.nils),.p (I 0),.p (.nils)],.new [.p (.str ⟨#[]⟩),.p (.bool false),.p (I 0),.p (I 0),.p (I 0),.p (.str ⟨#[]⟩),.p (.nils),.p (.nils),.p (I 0),.p (.nils)]] [.p .any,.p .any] [5,6,7,8,9] Dt O As As As ?_ ?_))))
   ·exact Az
   refine KG O (fun Bs=>A8 FK O O) (KG O (fun Bs=>BB (i:=Bs.length+1) Kd O (Ck O) (CV _)) (KG O (fun Bs=>Bi O) (KG O (fun Bs=>BD Jm O O Ax (Fm hx) (Dc _)) (KG O (fun Bs=>BU TB O (Dc _)) (KG O (fun Bs=>A8 FK O O) (KG O (fun Bs=>BB (i:=Bs.length+0) Kd O (Ck O) (CV _)) (KG O (fun Bs=>Bi O) (KG O (fun Bs=>BD Jm O O Ax (Fm hx1) (Dc _)) (KG O (fun Bs=>BU TB O (Dc _)) (fW O (fun Bs=>BG Zf O) fun b6=>fW O (fun Bs=>BG Zf O) fun b7=>mK ?_))))))))));refine Yt [.box b6 ((HD x).map .p),.box b7 [.p (.str ⟨#[]⟩),.p (.bool false),.p (I 0),.p (I 0),.p (I 0),.p (.str ⟨#[]⟩),.p (.nils),.p (.nils),.p (I 0),.p (.nils)]] O (Cq (i:=0) TB O O O (by simp[Dc]) (by first | rfl | simp[Dc]) (UY _)) (Yt [.box b6 ((HD x).map .p),.box b7 ((HD x1).map .p)] O (Cq (i:=1) TB O O O (by simp[Dc]) (by first | rfl | simp[Dc]) (UY _)) (mF (A2 (Be [2,3,5] 73 Gm ?_ ?_))))
   ·refine BC (A0 O (A8 Ig O O) (A0 O (BB (i:=0) Lg O O (Gl _)) (A0 O (A8 Ig O O) (A0 O (BB (i:=1) Lg O O (Gl _)) (A0 O (JS O O) (B3 O (BY 59 O (fun g=>?_) (fun g=>?_))))))))
    ·(try simp only[sd,se] at g);exact A1 A7 14 [] O (⟨O,O,AP,⟨_,O⟩,⟨O,O,O,Az⟩⟩)
    (try simp only[sd,se] at g);refine BK O (A8 Ig O O) (BK O (BB (i:=0) nR O O (GW _)) (BK O (A8 Ig O O) (BK O (BB (i:=1) nR O O (GW _)) (BK O (Xq qm O O) (A5 A7 2 [] O (BY 66 O (fun g1=>?_) (fun g1=>?_)))))))
    ·(try simp only[sd,se] at g1);exact A1 A7 7 [] O (⟨O,O,AP,⟨_,O⟩,⟨O,O,O,Az⟩⟩)
    (try simp only[sd,se] at g1);refine BK O (A8 Ig O O) (BK O (B6 (i:=0) JJ O O (F5 _) (Cy _)) (BK O (A8 Ig O O) (BK O (B6 (i:=1) JJ O O (F5 _) (Cy _)) (IW O O O O (CO O O (ih x.tree x1.tree (by have:=Rh hx;omega) (Jc h2.bs hx).tr) (.inl O)) ?_))));rintro _ ⟨q1,rfl,hq⟩;exact A1 A7 2 [] O (⟨O,O,AP,⟨_,O⟩,⟨O,O,O,Az⟩⟩)
   rintro _ ⟨q1,rfl⟩;refine A4 O (fun c2=>?_) (fun c2=>?_)
   ·(try simp only[sd,se] at c2);refine A3 A7 1 [] O (A9 (⟨O,_,_,⟨_,_,O,O,O⟩,(List.nil_sublist _),?_⟩))
    all_goals exact⟨⟨_,rfl,fun h=>absurd h Aw⟩,rfl⟩
   (try simp only[sd,se] at c2);refine BA (BC (A1 A7 3 [] O ?_));refine⟨(i+1),Ac,by omega,Bh ⟨we rfl,we rfl,we rfl,trivial⟩ (leH (is:=[2,3]) rfl (wl (oe rfl) (wl (oe rfl) (DJ))))⟩
  (try simp only[sd,se] at c1);refine Bo (A3 A7 1 [] O (A9 (⟨O,_,_,⟨_,_,O,O,O⟩,(List.nil_sublist _),?_⟩)))
  all_goals exact⟨⟨_,rfl,fun _=>⟨hqb,hqa⟩⟩,rfl⟩
theorem Xw:∀(n:Nat) (s:P0) (t:FY) (vs dp:Int),(LS t≤n)→(H4 t)→(KB s.env)→(s.own.length<9000000)→(Ns s.d)→(0≤dp∧dp≤200)→(0≤vs∧vs+(201 - dp)*1000000≤549755813888)→GO Tryz.prog 152 [.agg ((Ge s).map .p),.agg ((C5 t).map .p),.p (I vs),.p (I dp)] (fun v=>∃ee:Int,v= .p (I ee)∧(ee=0→Fz t)):=by
 intro n
 induction n with
 | zero=>intro s t vs dp h;have:=PG t;omega
 | succ n ih =>
  intro s t vs dp h1 h2 h3 h4 h5 h6 h7;have htl:=h2.bl;refine BF Tryz.func152 O p6 (n:=110) O O (A6 (BO O (Ba O) fun b4=>BO O (Ba O) fun b5=>A1 A7 1 [] O (A2 (A3 A7 2 [] O (A4 O (fun c=>?_) (fun c=>?_))))))
  ·(try simp only[sd,se] at c);refine A3 A7 1 [] O (A9 (⟨O,_,_,⟨_,_,O,O,O⟩,(List.nil_sublist _),?_⟩))
   all_goals exact⟨⟨_,rfl,fun h=>absurd h Aw⟩,rfl⟩
  (try simp only[sd,se] at c);refine BA (A2 (A6 (A0 O (A8 FK O O) (A0 O (BB (i:=0) DO O O (F6 _)) (Bq O (BJ (A3 A7 2 [] O (A4 O (fun c1=>?_) (fun c1=>?_)))))))))
  ·(try simp only[sd,se] at c1);refine A2 (A2 (Be [2,4,5] 28 (fun y=>y= .p (.bool (((t.var:Int) !=(0:Int))||(decide (((t.branches.length:Nat):Int) > (0:Int)))))) ?_ ?_))
   ·refine BC (A0 O (A8 FK O O) (A0 O (BB (i:=0) DO O O (C0 _)) (A5 A7 2 [] O (BY 23 O (fun g=>?_) (fun g=>?_)))))
    ·(try simp only[sd,se] at g);exact A1 A7 5 [] O (⟨O,O,AP,AJ,⟨O,O,O,Az⟩⟩)
    (try simp only[sd,se] at g);exact BK O (A8 FK O O) (BK O (BB (i:=0) Kd O O (CV _)) (BK O (BT Jm O (GI _)) (A1 A7 2 [] O (⟨O,O,AP,AJ,⟨O,O,O,Az⟩⟩))))
   rintro _ rfl;refine A4 O (fun c2=>?_) (fun c2=>?_)
   ·(try simp only[sd,se] at c2);refine A3 A7 1 [] O (A9 (⟨O,_,_,⟨_,_,O,O,O⟩,(List.nil_sublist _),?_⟩))
    all_goals exact⟨⟨_,rfl,fun h=>absurd h Aw⟩,rfl⟩
   (try simp only[sd,se] at c2);have hb0:t.branches.length=0:=by omega
   refine BA (A6 (A5 A7 2 [1] O (A0 O (B6 (i:=0) Bg O O (Ew _) (BM _)) (A5 A7 3 [] O (A0 O (BB (i:=1) DO O O (Ps _)) (D2 O O (CO O O (HK s t.body vs s.d.params h2.body h3.env h4 h5 Ax) (.inl O)) ?_))))));rintro _ ⟨e,rfl,he⟩;refine A1 A7 1 [] O (A9 (⟨O,_,_,⟨_,_,O,O,O⟩,(List.nil_sublist _),?_⟩))
   all_goals exact⟨⟨_,rfl,fun h=>Rw (he h) (lx hb0)⟩,rfl⟩
  (try simp only[sd,se] at c1);refine A3 A7 2 [] O (A4 O (fun c2=>?_) (fun c2=>?_))
  ·(try simp only[sd,se] at c2);refine A6 (A0 O (A8 FK O O) (A0 O (B6 (i:=0) Bg O O (Ew _) (BM _)) (A0 O (BL O O (KV t.body h2.body.nd) O) (A1 A7 1 [] O (A4 O (fun c3=>?_) (fun c3=>?_))))))
   ·(try simp only[sd,se] at c3);refine A3 A7 1 [] O (A9 (⟨O,_,_,⟨_,_,O,O,O⟩,(List.nil_sublist _),?_⟩))
    all_goals exact⟨⟨_,rfl,fun h=>absurd h Aw⟩,rfl⟩
   (try simp only[sd,se] at c3);have hz0:Nk t.body Bp=true:=by simpa using c3
   refine BA (A2 (A2 (Be [2,3,4,5] 51 (fun y=>y= .p (.bool ((decide ((t.var:Int)<(0:Int)))||(decide ((t.var:Int)≥(vs:Int)))))) ?_ ?_)))
   ·refine BC (A0 O (A8 FK O O) (A0 O (BB (i:=0) DO O O (C0 _)) (A5 A7 2 [] O (BY 46 O (fun g=>?_) (fun g=>?_)))))
    ·(try simp only[sd,se] at g);exact A1 A7 5 [] O (⟨O,O,AP,AJ,⟨O,O,O,O,Az⟩⟩)
    (try simp only[sd,se] at g);exact BK O (A8 FK O O) (BK O (BB (i:=0) DO O O (C0 _)) (A1 A7 3 [] O (⟨O,O,AP,AJ,⟨O,O,O,O,Az⟩⟩)))
   rintro _ rfl;refine A4 O (fun c4=>?_) (fun c4=>?_)
   ·(try simp only[sd,se] at c4);refine A3 A7 1 [] O (A9 (⟨O,_,_,⟨_,_,O,O,O⟩,(List.nil_sublist _),?_⟩))
    all_goals exact⟨⟨_,rfl,fun h=>absurd h Aw⟩,rfl⟩
   (try simp only[sd,se] at c4);refine BA (A2 (A6 (A0 O (A8 FK O O) (A0 O (BB (i:=0) Kd O O (CV _)) (A0 O (BT Jm O (GI _)) (A1 A7 1 [] O (A4 O (fun c5=>?_) (fun c5=>?_))))))))
   ·(try simp only[sd,se] at c5);refine A3 A7 1 [] O (A9 (⟨O,_,_,⟨_,_,O,O,O⟩,(List.nil_sublist _),?_⟩))
    all_goals exact⟨⟨_,rfl,fun h=>absurd h Aw⟩,rfl⟩
   (try simp only[sd,se] at c5);refine BA (A2 (A3 A7 1 [] O (BJ ?_)));refine Bn (α:=Nat) (fun i=>⟨110,mk [(2,.p (I vs)),(3,.p (I dp)),(4,.ptr b4 0),(5,.ptr b5 0),(9,.p (I (i:Int)))],[.box b5 ((C5 t).map .p),.box b4 ((Ge s).map .p)],[]⟩) (fun i=>t.branches.length - i) (fun i=>i≤t.branches.length∧(∀j,j<i→∀x,t.branches[j]?=some x→Fz x.tree)) 0 (⟨by omega,fun j h=>by omega⟩) ?_ ?_
   ·exact Bh ⟨we O,we O,we O,we O,we O,Az⟩ (leH (is:=[0,1]) O (wl (oe O) (wl (oe O) (DJ))))
   rintro i hC
   try simp only at hC
   obtain⟨hi,hC⟩:=hC;refine A2 (A6 (A5 A7 2 [] O (A0 O (BB (i:=0) Kd O O (CV _)) (A0 O (BT Jm O (GI _)) (A1 A7 1 [] O (A4 O (fun c6=>?_) (fun c6=>?_)))))))
   ·(try simp only[sd,se] at c6);refine BA (A2 (BJ (A6 (A0 O (A8 FK O O) (A0 O (BB (i:=0) Kd O O (CV _)) (B3 O ?_))))));obtain⟨x,hx⟩:=BE (l:=t.branches) (i:=i) Ax;refine A0 O (BD Jm O O Ax (Fm hx) (Dc _)) (A0 O (BU TB O (Dc _)) (BO O (BG Zf O) fun b10=>A1 A7 1 [0,1] O (A6 (A0 O (A8 O0 O O) (A0 O (BB (i:=2) dz O O (J2 _)) (A0 O (A8 Ig O O) (A0 O (BB (i:=0) Lg O O (Gl _)) (A0 O (BL O O (Lv s.env x.ctor h3.env) O) (A5 A7 3 [] O (BO O (BG Hw O) fun b11=>A1 A7 2 [0,1] O (A2 (A2 (Be [2,3,4,5,9,10,11] 82 (fun y=>∃q:Bool,y= .p (.bool q)∧(q=false→(Bw s.env x.ctor).2=0∧(Bw s.env x.ctor).1.kind=4)) ?_ ?_)))))))))))))
    ·refine BC (A5 A7 3 [] O (BY 78 O (fun g=>?_) (fun g=>?_)))
     ·(try simp only[sd,se] at g);refine A1 A7 4 [] O ?_;exact⟨O,O,AP,(by refine⟨_,rfl,fun h=>?_⟩;first | (exact absurd h Aw) | exact⟨by simpa using g,by simpa using h⟩),⟨O,O,O,O,O,O,O,Az⟩⟩
     (try simp only[sd,se] at g);refine BK O (A8 Fv O O) (BK O (BB (i:=0) DO O O (DK _)) (A1 A7 2 [] O ?_));exact⟨O,O,AP,(by refine⟨_,rfl,fun h=>?_⟩;first | (exact absurd h Aw) | exact⟨by simpa using g,by simpa using h⟩),⟨O,O,O,O,O,O,O,Az⟩⟩
    rintro _ ⟨q,rfl,hq⟩;refine A4 O (fun c7=>?_) (fun c7=>?_)
    ·(try simp only[sd,se] at c7);refine A3 A7 1 [] O (A9 (⟨O,_,_,⟨_,_,O,O,O⟩,(List.nil_sublist _),?_⟩))
     all_goals exact⟨⟨_,rfl,fun h=>absurd h Aw⟩,rfl⟩
    (try simp only[sd,se] at c7);obtain⟨hqc,hqd⟩:=hq (by simpa using c7);obtain⟨dd,k1,k2,k3,k4⟩:=Xy hqc hqd;refine BA (A2 (A6 (A0 O (A8 Ig O O) (A0 O (BB (i:=1) nR O O (GW _)) (Bq O (A4 O (fun c8=>?_) (fun c8=>?_)))))))
    ·(try simp only[sd,se] at c8);refine A2 (A6 (A0 O (A8 Ig O O) (A0 O (B6 (i:=1) JJ O O (F5 _) (Cy _)) (A0 O (Ca FK Sk O) (D2 O O (CO O O (B2.args (VK (LS x.tree) x.tree (FY.mk 0 (.mk 0 0 ⟨#[]⟩ [] []:Tm) 0 []) (Nat.le_refl _) (Jc h2.bs hx).tr) (aw (we O) (aw (Dv O) (FM)))) (.inl O)) ?_)))));rintro _ ⟨q1,rfl,hq⟩;refine A1 A7 1 [] O (A4 O (fun c9=>?_) (fun c9=>?_))
     ·(try simp only[sd,se] at c9);refine A3 A7 1 [] O (A9 (⟨O,_,_,⟨_,_,O,O,O⟩,(List.nil_sublist _),?_⟩))
      all_goals exact⟨⟨_,rfl,fun h=>absurd h Aw⟩,rfl⟩
     (try simp only[sd,se] at c9);have hok:Fz x.tree:=YS (hq (by simpa using c9)).1 (hq (by simpa using c9)).2;refine BA (Bo (BC (A1 A7 3 [] O (⟨(i+1),Ac,⟨by omega,C9 (p:=fun _ (y:GU)=>Fz y.tree) hC hx hok⟩,Bh ⟨we rfl,we rfl,we rfl,we rfl,we rfl,trivial⟩ (leH (is:=[2,3]) rfl (wl (oe rfl) (wl (oe rfl) (DJ))))⟩))))
    (try simp only[sd,se] at c8);refine BA (A2 (B0 (fun k=>Nat.beq k 12||Nat.beq k 16) Dt (BZ A7 2 [3] O (CY (j:=1) O O O (fun H i hi=>B6 (i:=i) JJ O hi (F5 _) (Cy _)) AB Az (BZ A7 2 [] O (CY (j:=3) O O O (fun H i hi=>BB (i:=i) dz O hi (J2 _)) AB Az (BZ A7 1 [] O (CY (j:=0) O O O (fun H i hi=>BB (i:=i) DO O hi (DZ _)) AB Az ?_))))))));obtain⟨x1,hx1⟩:=BE (l:=s.env) (i:=(((Bw s.env x.ctor).1).decl:Int).toNat) (by have:=(List.getElem?_eq_some_iff.1 k2).1;omega);refine BP O (fun _=>BD Hz O O Ax (EG hx1) (Cx _)) Az (BZ A7 2 [] O (CY (j:=0) O O O (fun H i hi=>BB (i:=i) DO O hi (E2 _)) AB Az ?_));refine KF [(14,.free (.p (I dp))),(15,.free (.p (I ((dp:Int)+(1:Int)))))] O O (CO O O (Xh x1 (((Bw s.env x.ctor).1).item) (h3.all _ (List.mem_of_getElem? hx1)).din (h3.all _ (List.mem_of_getElem? hx1)).fx k3 (by have e:=Option.some.inj (k2.symm.trans hx1);subst e;exact k4)) (.inl O)) As (⟨_,0,O,by omega,by omega⟩) AB ?_;rintro _ ⟨e,rfl,he0,he1⟩;refine⟨Az,?_⟩;refine BZ A7 3 [] O (KF [] O O (CO O O (ih s x.tree ((vs:Int)+(e:Int)) ((dp:Int)+(1:Int)) (by have:=Rh hx;omega) (Jc h2.bs hx).tr h3 h4 h5 Ax Ax) (.inl O)) As (⟨_,1,O,fun h=>absurd h Aw⟩) AB ?_);rintro _ ⟨e1,rfl,he⟩;refine⟨AR,?_⟩;refine Bt A7 1 [] O (A3 A7 2 [] O (A4 O (fun c9=>?_) (fun c9=>?_)))
    ·(try simp only[sd,se] at c9);refine A3 A7 2 [] O (A9 (⟨O,_,_,⟨_,_,O,O,O⟩,(List.nil_sublist _),?_⟩))
     all_goals exact⟨⟨_,rfl,fun h=>absurd h Au⟩,rfl⟩
    (try simp only[sd,se] at c9);have hok:= @he Ax;refine BA (BC (A1 A7 3 [] O (⟨(i+1),Ac,⟨by omega,C9 (p:=fun _ (y:GU)=>Fz y.tree) hC hx hok⟩,Bh ⟨we rfl,we rfl,we rfl,we rfl,we rfl,trivial⟩ (leH (is:=[2,3]) rfl (wl (oe rfl) (wl (oe rfl) (DJ))))⟩)))
   (try simp only[sd,se] at c6);refine Bo (A3 A7 1 [] O (A9 (⟨O,_,_,⟨_,_,O,O,O⟩,(List.nil_sublist _),?_⟩)))
   all_goals exact⟨⟨_,rfl,fun _=>Rw (by rw[IV.1 hz0];exact MF) (IX Ax hC)⟩,rfl⟩
  (try simp only[sd,se] at c2);refine A3 A7 1 [] O (A9 (⟨O,_,_,⟨_,_,O,O,O⟩,(List.nil_sublist _),?_⟩))
  all_goals exact⟨⟨_,rfl,fun h=>absurd h Aw⟩,rfl⟩
theorem bg:∀(ds:List CX) (d:CX),(KB ds)→(Ns d)→(VB d)→GO Tryz.prog 136 [.p (.lst (List.map Bu ds)),.agg ((Bu d).map .p)] (fun v=>∃ee:Int,v= .p (I ee)∧(ee=0→gR d)):=by
 intro ds d h1 h2 h3;have hn:=NH d;have hcl:=h2.cl;have hfl:=h2.fl;have hrl:=h2.rl;refine BF Tryz.func136 O ng (n:=161) O O (A6 (BO O (Ba O) fun b3=>A1 A7 1 [] O (A6 (A5 A7 2 [0] O (A0 O (cr O0 kc (oS O O O)) (BO O (BG kc O) fun b5=>A1 A7 1 [0,1] O (A2 (A6 (A0 O (A8 DD O O) (A0 O (BB (i:=1) DO O O (EF _)) (A1 A7 1 [] O (Be [3,5] 17 (fun _=>True) ?_ ?_))))))))))))
 ·refine A4 O (fun c=>?_) (fun c=>?_)
  ·(try simp only[sd,se] at c);refine A6 (A5 A7 2 [0] O (A0 O (B6 (i:=1) Bg O O (FP _) (BM _)) (A0 O (A8 DD O O) (A0 O (BB (i:=1) DO O O (C2 _)) (D2 O O (CO O O (HK (P0.mk ds [] d) d.type 0 d.params h2.ty h1.env Ay h2 Ax) (.inl O)) ?_)))));rintro _ ⟨e,rfl,he⟩;refine A1 A7 1 [] O (A3 A7 2 [] O (A4 O (fun c1=>?_) (fun c1=>?_)))
   ·(try simp only[sd,se] at c1);refine A3 A7 2 [] O (A9 (⟨O,_,_,⟨_,_,O,O,O⟩,(List.nil_sublist _),?_⟩))
    all_goals exact⟨⟨_,rfl,fun h=>absurd h Au⟩,rfl⟩
   (try simp only[sd,se] at c1);exact BA (⟨O,O,(List.Sublist.refl _),Az,⟨O,O,Az⟩⟩)
  (try simp only[sd,se] at c);exact BA (⟨O,O,(List.Sublist.refl _),Az,⟨O,O,Az⟩⟩)
 intro _ _;refine A2 (A6 (A0 O (A8 DD O O) (A0 O (BB (i:=1) DO O O (EF _)) (Bq O (BJ (A2 (A3 A7 2 [] O (Be [3,5,33] 34 (fun y=>y= .p (.bool (decide (d.kind=1∨d.kind=2)))) ?_ ?_))))))))
 ·refine A4 O (fun c=>?_) (fun c=>?_)
  ·(try simp only[sd,se] at c);exact BA (⟨O,O,(List.Sublist.refl _),(by refine pB (Bool.eq_iff_iff.2 ?_);simp only[beq_iff_eq,decide_eq_true_eq];omega),⟨O,O,O,Az⟩⟩)
  (try simp only[sd,se] at c);exact BC (A1 A7 2 [] O (⟨O,O,(List.Sublist.refl _),(by refine pB (Bool.eq_iff_iff.2 ?_);simp only[beq_iff_eq,decide_eq_true_eq];omega),⟨O,O,O,Az⟩⟩))
 rintro _ rfl;refine A4 O (fun c=>?_) (fun c=>?_)
 ·(try simp only[sd,se] at c);have hk12:d.kind=1∨d.kind=2:=by simpa using c
  refine A6 (A5 A7 2 [0] O (A0 O (B6 (i:=1) Bg O O (FZ _) (BM _)) (A0 O (A8 DD O O) (A0 O (BB (i:=1) DO O O (C2 _)) (D2 O O (CO O O (HK (P0.mk ds [] d) d.value 0 d.params h2.vl h1.env Ay h2 Ax) (.inl O)) ?_)))));rintro _ ⟨e,rfl,he⟩;refine A1 A7 1 [] O (A9 (⟨O,_,_,⟨_,_,O,O,O⟩,(List.nil_sublist _),?_⟩))
  all_goals exact⟨⟨_,rfl,fun h=>⟨fun _=>he h,fun _=>by omega,fun _=>by omega⟩⟩,rfl⟩
 (try simp only[sd,se] at c);have hk12:¬(d.kind=1∨d.kind=2):=by simpa using c
 refine A3 A7 2 [] O (A4 O (fun c1=>?_) (fun c1=>?_))
 ·(try simp only[sd,se] at c1);have hn1:=ad (d:=d) (by simpa using c1);have hk3:=c1;refine A6 (A0 O (A8 DD O O) (A0 O (BB (i:=1) Lg O O (DW _)) (A0 O (Br HC kF O O O O O) (A0 O (A8 O0 O O) (A0 O (EE (i:=0) (ds:=(Ge (P0.mk ds [d.name] d)).map .p) W6 O O O O O O O) (Bq O (A2 (A3 A7 1 [] O (BJ (Bn (α:=Nat) (fun i=>⟨161,mk [(3,.ptr b3 0),(5,.ptr b5 0),(7,.p (I (i:Int)))],[.box b5 ((Ge (P0.mk ds [d.name] d)).map .p),.box b3 ((Bu d).map .p)],[]⟩) (fun i=>d.ctors.length - i) (fun i=>i≤d.ctors.length) 0 AW ?_ ?_))))))))))
  ·exact Bh ⟨we O,we O,we O,Az⟩ (leH (is:=[0,1]) O (wl (oe O) (wl (oe O) (DJ))))
  rintro i hC
  try simp only at hC
  have hi:=hC;refine A2 (A6 (A5 A7 2 [] O (A0 O (BB (i:=1) HY O O (CH _)) (A0 O (BT HN O (List.length_map _)) (A1 A7 1 [] O (A4 O (fun c2=>?_) (fun c2=>?_)))))))
  ·(try simp only[sd,se] at c2);refine BA (A2 (BJ (A2 (B0 (fun k=>Nat.beq k 9) Dt (BZ A7 2 [0] O (CY (j:=1) O O O (fun H i hi=>BB (i:=i) HY O hi (CH _)) AB Az (BP O (fun _=>Bi O) Az ?_)))))));obtain⟨x,hx⟩:=BE (l:=d.ctors) (i:=i) Ax;refine BP O (fun _=>BD HN O O Ax (EU hx) (D8 _)) Az (BP O (fun _=>B7 Iq O O) Az (BP O (fun _=>DU Bg O (FU _) (BM _)) Az (BP O (fun _=>A8 DD O O) Az (CY (j:=1) O O O (fun H i hi=>BB (i:=i) DO O hi (C2 _)) AB Az (KF [] O O (CO O O (HK (P0.mk ds [d.name] d) x.type 0 d.params (h2.cs _ (List.mem_of_getElem? hx)).ty h1.env Ay h2 Ax) (.inl O)) As (⟨_,1,O,fun h=>absurd h Aw⟩) AB ?_)))));rintro _ ⟨e,rfl,he⟩;refine⟨Az,?_⟩;refine Bt A7 1 [] O (A3 A7 2 [] O (A4 O (fun c3=>?_) (fun c3=>?_)))
   ·(try simp only[sd,se] at c3);refine A3 A7 2 [] O (A9 (⟨O,_,_,⟨_,_,O,O,O⟩,(List.nil_sublist _),?_⟩))
    all_goals exact⟨⟨_,rfl,fun h=>absurd h Au⟩,rfl⟩
   (try simp only[sd,se] at c3);refine BA (BC (A1 A7 3 [] O ?_));refine⟨(i+1),Ac,by omega,Bh ⟨we rfl,we rfl,we rfl,trivial⟩ (leH (is:=[0,1]) rfl (wl (oe rfl) (wl (oe rfl) (DJ))))⟩
  (try simp only[sd,se] at c2);refine Bo (A6 (A0 O (Bf (i:=1) Fg O O Am) (A0 O (BL O O (Mf d h2.cl h2.fl h2.nm) O) (A1 A7 1 [] O (A6 (A5 A7 2 [] O (A0 O (BT HC O (List.length_map _)) (A0 O (K4 O O Ax Ax) (A0 O (Cc (lo:=0) (hi:=((((DH d).length:Nat):Int) - (1:Int):Int).toNat) HC O (CM (Kb _)) O ⟨_,pI Ax⟩ (Nat.zero_le _) AX (YC (f:=Gx) (DH d) (((((DH d).length:Nat):Int) - (1:Int):Int).toNat))) (A0 O (A8 O0 O O) (A0 O (EE (i:=0) (ds:=(Ge (P0.mk ds ((DH d).take (((((DH d).length:Nat):Int) - (1:Int):Int).toNat)) d)).map .p) W6 O O O O O O O) (Bq O (A2 (A6 (A5 A7 3 [0] O (A0 O (B6 (i:=1) Bg O O (FO _) (BM _)) (A5 A7 2 [] O ?_)))))))))))))))));refine A0 O (BB (i:=1) DO O O (Du _)) (D2 O O (CO O O (HK (P0.mk ds ((DH d).take (((((DH d).length:Nat):Int) - (1:Int):Int).toNat)) d) d.recs.type 0 d.recs.params h2.rt h1.env Ar h2 Ax) (.inl O)) ?_);rintro _ ⟨e,rfl,he⟩;refine A1 A7 1 [] O (A3 A7 2 [] O (A4 O (fun c3=>?_) (fun c3=>?_)))
  ·(try simp only[sd,se] at c3);refine A3 A7 2 [] O (A9 (⟨O,_,_,⟨_,_,O,O,O⟩,(List.nil_sublist _),?_⟩))
   all_goals exact⟨⟨_,rfl,fun h=>absurd h Au⟩,rfl⟩
  (try simp only[sd,se] at c3);refine BA (A6 (A5 A7 2 [] O (A0 O (EE (i:=0) (ds:=(Ge (P0.mk ds (DH d) d)).map .p) W6 O O O O O O O) (Bq O (A3 A7 1 [] O (BJ ?_))))));refine Bn (α:=Nat) (fun i=>⟨161,mk [(3,.ptr b3 0),(5,.ptr b5 0),(11,.p (I (i:Int)))],[.box b5 ((Ge (P0.mk ds (DH d) d)).map .p),.box b3 ((Bu d).map .p)],[]⟩) (fun i=>d.recs.rules.length - i) (fun i=>i≤d.recs.rules.length∧(∀j,j<i→∀x,d.recs.rules[j]?=some x→okB x=true)) 0 (⟨by omega,fun j h=>by omega⟩) ?_ ?_
  ·exact Bh ⟨we O,we O,we O,Az⟩ (leH (is:=[0,1]) O (wl (oe O) (wl (oe O) (DJ))))
  rintro i hC1
  try simp only at hC1
  obtain⟨hi,hR⟩:=hC1;refine A2 (A6 (A5 A7 3 [] O (A0 O (BB (i:=1) Gu O O (Cw _)) (A0 O (BT Bk O (Bc _)) (A1 A7 1 [] O (A4 O (fun c4=>?_) (fun c4=>?_)))))))
  ·(try simp only[sd,se] at c4);refine BA (A2 (BJ (A2 (B0 (fun k=>Nat.beq k 10) Dt (BZ A7 3 [0] O (CY (j:=1) O O O (fun H i hi=>BB (i:=i) Gu O hi (Cw _)) AB Az (BP O (fun _=>Bi O) Az ?_)))))));obtain⟨x,hx⟩:=BE (l:=d.recs.rules) (i:=i) Ax;refine BP O (fun _=>BD Bk O O Ax (Bj hx) (BM _)) Az (BZ A7 3 [] O (CY (j:=1) O O O (fun H i hi=>BB (i:=i) DO O hi (Du _)) AB Az (KF [] O O (CO O O (HK (P0.mk ds (DH d) d) x 0 d.recs.params (h2.rs _ (List.mem_of_getElem? hx)) h1.env Ak h2 Ax) (.inl O)) As (⟨_,1,O,fun h=>absurd h Aw⟩) AB ?_)));rintro _ ⟨e1,rfl,he1⟩;refine⟨Az,?_⟩;refine Bt A7 1 [] O (A3 A7 2 [] O (A4 O (fun c5=>?_) (fun c5=>?_)))
   ·(try simp only[sd,se] at c5);refine A3 A7 2 [] O (A9 (⟨O,_,_,⟨_,_,O,O,O⟩,(List.nil_sublist _),?_⟩))
    all_goals exact⟨⟨_,rfl,fun h=>absurd h Au⟩,rfl⟩
   (try simp only[sd,se] at c5);refine BA (BC (A1 A7 3 [] O (⟨(i+1),Ac,⟨by omega,C9 (p:=fun _ (y:Tm)=>okB y=true) hR hx (he1 Ax)⟩,Bh ⟨we rfl,we rfl,we rfl,trivial⟩ (leH (is:=[0,1]) rfl (wl (oe rfl) (wl (oe rfl) (DJ))))⟩)))
  (try simp only[sd,se] at c4);refine Bo (A3 A7 1 [] O (A9 (⟨O,_,_,⟨_,_,O,O,O⟩,(List.nil_sublist _),?_⟩)))
  all_goals exact⟨⟨_,rfl,fun _=>⟨fun _=>by omega,fun _=>IX Ax hR,fun _=>by omega⟩⟩,rfl⟩
 (try simp only[sd,se] at c1);have hk3:=c1;refine A3 A7 2 [] O (A4 O (fun c2=>?_) (fun c2=>?_))
 ·(try simp only[sd,se] at c2);refine A2 (A3 A7 1 [] O (BJ (Bn (α:=Nat) (fun i=>⟨161,mk [(3,.ptr b3 0),(5,.ptr b5 0),(13,.p (I (i:Int)))],[.box b5 ((Ge (P0.mk ds [] d)).map .p),.box b3 ((Bu d).map .p)],[]⟩) (fun i=>d.funs.length - i) (fun i=>i≤d.funs.length) 0 AW ?_ ?_)))
  ·exact Bh ⟨we O,we O,we O,Az⟩ (leH (is:=[0,1]) O (wl (oe O) (wl (oe O) (DJ))))
  rintro i hC
  try simp only at hC
  have hi:=hC;refine A2 (A6 (A5 A7 2 [] O (A0 O (BB (i:=1) HW O O (CP _)) (A0 O (BT Gy O (List.length_map _)) (A1 A7 1 [] O (A4 O (fun c3=>?_) (fun c3=>?_)))))))
  ·(try simp only[sd,se] at c3);refine BA (A2 (BJ (A2 (B0 (fun k=>Nat.beq k 9) Dt (BZ A7 2 [0] O (CY (j:=1) O O O (fun H i hi=>BB (i:=i) HW O hi (CP _)) AB Az (BP O (fun _=>Bi O) Az ?_)))))));obtain⟨x,hx⟩:=BE (l:=d.funs) (i:=i) Ax;refine BP O (fun _=>BD Gy O O Ax (ET hx) (DV _)) Az (BP O (fun _=>B7 Gw O O) Az (BP O (fun _=>DU Bg O (JC _) (BM _)) Az (BP O (fun _=>A8 DD O O) Az (CY (j:=1) O O O (fun H i hi=>BB (i:=i) DO O hi (C2 _)) AB Az (KF [] O O (CO O O (HK (P0.mk ds [] d) x.type 0 d.params (h2.fs _ (List.mem_of_getElem? hx)).ty h1.env Ay h2 Ax) (.inl O)) As (⟨_,1,O,fun h=>absurd h Aw⟩) AB ?_)))));rintro _ ⟨e,rfl,he⟩;refine⟨Az,?_⟩;refine Bt A7 1 [] O (A3 A7 2 [] O (A4 O (fun c4=>?_) (fun c4=>?_)))
   ·(try simp only[sd,se] at c4);refine A3 A7 2 [] O (A9 (⟨O,_,_,⟨_,_,O,O,O⟩,(List.nil_sublist _),?_⟩))
    all_goals exact⟨⟨_,rfl,fun h=>absurd h Au⟩,rfl⟩
   (try simp only[sd,se] at c4);refine BA (BC (A1 A7 3 [] O ?_));refine⟨(i+1),Ac,by omega,Bh ⟨we rfl,we rfl,we rfl,trivial⟩ (leH (is:=[0,1]) rfl (wl (oe rfl) (wl (oe rfl) (DJ))))⟩
  (try simp only[sd,se] at c3);refine Bo (A6 (A0 O (Bf (i:=1) Fg O O Am) (A0 O (BL O O (Mf d h2.cl h2.fl h2.nm) O) (A0 O (A8 O0 O O) (A0 O (EE (i:=0) (ds:=(Ge (P0.mk ds (DH d) d)).map .p) W6 O O O O O O O) (Bq O (A3 A7 1 [] O (BJ ?_))))))));refine Bn (α:=Nat) (fun i=>⟨161,mk [(3,.ptr b3 0),(5,.ptr b5 0),(15,.p (I (i:Int)))],[.box b5 ((Ge (P0.mk ds (DH d) d)).map .p),.box b3 ((Bu d).map .p)],[]⟩) (fun i=>d.funs.length - i) (fun i=>i≤d.funs.length∧(∀j,j<i→∀x,d.funs[j]?=some x→Fz x.tree)) 0 (⟨by omega,fun j h=>by omega⟩) ?_ ?_
  ·exact Bh ⟨we O,we O,we O,Az⟩ (leH (is:=[0,1]) O (wl (oe O) (wl (oe O) (DJ))))
  rintro i hC1
  try simp only at hC1
  obtain⟨hi,hT⟩:=hC1;refine A2 (A6 (A5 A7 2 [] O (A0 O (BB (i:=1) HW O O (CP _)) (A0 O (BT Gy O (List.length_map _)) (A1 A7 1 [] O (A4 O (fun c4=>?_) (fun c4=>?_)))))))
  ·(try simp only[sd,se] at c4);refine BA (A2 (BJ (A2 (B0 (fun k=>Nat.beq k 13) Dt (BZ A7 2 [0] O (CY (j:=1) O O O (fun H i hi=>BB (i:=i) HW O hi (CP _)) AB Az (BP O (fun _=>Bi O) Az ?_)))))));obtain⟨x,hx⟩:=BE (l:=d.funs) (i:=i) Ax;refine BP O (fun _=>BD Gy O O Ax (ET hx) (DV _)) Az (BP O (fun _=>B7 Gw O O) Az (BP O (fun _=>DU JJ O (D5 _) (Cy _)) Az (BP O (fun _=>A8 DD O O) Az (CY (j:=1) O O O (fun H i hi=>BB (i:=i) HW O hi (CP _)) AB Az (BP O (fun _=>Bi O) Az (BP O (fun _=>BD Gy O O Ax (ET hx) (DV _)) Az (BP O (fun _=>B7 Gw O O) Az (BP O (fun _=>DA DO O (CU _)) Az ?_))))))));have hax:=h3.2.1 _ (List.mem_of_getElem? hx);refine KF [] O O (CO O O (Xw (LS x.tree) (P0.mk ds (DH d) d) x.tree x.arity 0 (Nat.le_refl _) (h2.fs _ (List.mem_of_getElem? hx)).tr h1 Ak h2 Ax Ax) (.inl O)) As (⟨_,1,O,fun h=>absurd h Aw⟩) AB ?_;rintro _ ⟨e,rfl,he⟩;refine⟨Az,?_⟩;refine Bt A7 1 [] O (A3 A7 2 [] O (A4 O (fun c5=>?_) (fun c5=>?_)))
   ·(try simp only[sd,se] at c5);refine A3 A7 2 [] O (A9 (⟨O,_,_,⟨_,_,O,O,O⟩,(List.nil_sublist _),?_⟩))
    all_goals exact⟨⟨_,rfl,fun h=>absurd h Au⟩,rfl⟩
   (try simp only[sd,se] at c5);refine BA (BC (A1 A7 3 [] O (⟨(i+1),Ac,⟨by omega,C9 (p:=fun _ (y:Hi)=>Fz y.tree) hT hx (he Ax)⟩,Bh ⟨we rfl,we rfl,we rfl,trivial⟩ (leH (is:=[0,1]) rfl (wl (oe rfl) (wl (oe rfl) (DJ))))⟩)))
  (try simp only[sd,se] at c4);refine Bo (A3 A7 1 [] O (A9 (⟨O,_,_,⟨_,_,O,O,O⟩,(List.nil_sublist _),?_⟩)))
  all_goals exact⟨⟨_,rfl,fun _=>⟨fun _=>by omega,fun _=>by omega,fun _=>IX Ax hT⟩⟩,rfl⟩
 (try simp only[sd,se] at c2);refine BA (A3 A7 1 [] O (A9 (⟨O,_,_,⟨_,_,O,O,O⟩,(List.nil_sublist _),?_⟩)))
 all_goals exact⟨⟨_,rfl,fun _=>⟨fun _=>by omega,fun _=>by omega,fun _=>by omega⟩⟩,rfl⟩
theorem dS:∀(ds:List CX) (d:CX),(KB ds)→(Ns d)→GO Tryz.prog 102 [.p (.lst (List.map Bu ds)),.agg ((Bu d).map .p)] (fun v=>∃ee:Int,v= .p (I ee)∧(ee=0→DG d)):=by
 intro ds d h1 h2;refine BF Tryz.func102 O nS (n:=32) O O (A6 (BO O (Ba O) fun b3=>A1 A7 1 [] O (A2 (A2 (Be [0,3] 14 (fun y=>y= .p (.bool ((decide ((d.kind:Int)<(0:Int)))||(decide ((d.kind:Int) > (4:Int)))))) ?_ ?_)))))
 ·refine BC (A0 O (A8 DD O O) (A0 O (BB (i:=0) DO O O (EF _)) (A5 A7 2 [] O (BY 10 O (fun g=>?_) (fun g=>?_)))))
  ·(try simp only[sd,se] at g);exact A1 A7 4 [] O (⟨O,O,AP,AJ,⟨O,O,Az⟩⟩)
  (try simp only[sd,se] at g);exact BK O (A8 DD O O) (BK O (BB (i:=0) DO O O (EF _)) (A1 A7 2 [] O (⟨O,O,AP,AJ,⟨O,O,Az⟩⟩)))
 rintro _ rfl;refine A4 O (fun c=>?_) (fun c=>?_)
 ·(try simp only[sd,se] at c);refine A3 A7 1 [] O (A9 (⟨O,_,_,⟨_,_,O,O,O⟩,(List.nil_sublist _),?_⟩))
  all_goals exact⟨⟨_,rfl,fun h=>absurd h Aw⟩,rfl⟩
 (try simp only[sd,se] at c);have hk:0≤d.kind∧d.kind≤4:=by omega
 refine BA (A2 (A6 (A0 O (Bf (i:=0) Fg O O Am) (D2 O O (CO O O (Yg d h2 hk) (.inl O)) ?_))));rintro _ ⟨q,rfl,hq⟩;refine A1 A7 1 [] O (A4 O (fun c1=>?_) (fun c1=>?_))
 ·(try simp only[sd,se] at c1);refine A3 A7 1 [] O (A9 (⟨O,_,_,⟨_,_,O,O,O⟩,(List.nil_sublist _),?_⟩))
  all_goals exact⟨⟨_,rfl,fun h=>absurd h Aw⟩,rfl⟩
 (try simp only[sd,se] at c1);have hu:=hq (by simpa using c1);refine BA (A2 (A6 (A0 O (Bf (i:=0) Fg O O Am) (D2 O O (CO O O (Xg d h2) (.inl O)) ?_))));rintro _ ⟨e,rfl,he⟩;refine A1 A7 1 [] O (A3 A7 2 [] O (A4 O (fun c2=>?_) (fun c2=>?_)))
 ·(try simp only[sd,se] at c2);refine A3 A7 2 [] O (A9 (⟨O,_,_,⟨_,_,O,O,O⟩,(List.nil_sublist _),?_⟩))
  all_goals exact⟨⟨_,rfl,fun h=>absurd h Au⟩,rfl⟩
 (try simp only[sd,se] at c2);have hcn:=he Ax;refine BA (A2 (A6 (A5 A7 2 [0] O (D2 O O (CO O O (Sh ds d h1.env h2) (.inl O)) ?_))));rintro _ ⟨e1,rfl⟩;refine A1 A7 1 [] O (A3 A7 2 [] O (A4 O (fun c3=>?_) (fun c3=>?_)))
 ·(try simp only[sd,se] at c3);refine A3 A7 2 [] O (A9 (⟨O,_,_,⟨_,_,O,O,O⟩,(List.nil_sublist _),?_⟩))
  all_goals exact⟨⟨_,rfl,fun h=>absurd h Au⟩,rfl⟩
 (try simp only[sd,se] at c3);refine BA (A6 (A5 A7 2 [0] O (D2 O O (CO O O (bg ds d h1 h2 hcn) (.inl O)) ?_)));rintro _ ⟨e2,rfl,he1⟩;refine A1 A7 1 [] O (A9 (⟨O,_,_,⟨_,_,O,O,O⟩,(List.nil_sublist _),?_⟩))
 all_goals exact⟨⟨_,rfl,fun h=>pA h2 hk hu hcn (he1 h)⟩,rfl⟩
theorem Yk:∀(ds:List CX),(Hj ds)→GO Tryz.prog 66 [.p (.lst (List.map Bu ds))] (fun v=>∃a e:Int,v= .tup [.p (I a),.p (I e)]∧(e=0→KB ds)):=by
 intro ds h1;have hl:=h1.len;refine BF Tryz.func66 O rR (n:=27) O O (A3 A7 2 [] O (A2 (A6 (B3 O (A0 O (BT Hz O (List.length_map _)) (A1 A7 1 [] O (A4 O (fun c=>?_) (fun c=>?_))))))))
 ·(try simp only[sd,se] at c);refine A3 A7 2 [] O (A9 (⟨O,_,_,⟨_,_,O,O,⟨_,_,O,O,O⟩⟩,(List.nil_sublist _),?_⟩))
  all_goals exact⟨⟨_,_,rfl,fun h=>absurd h Aw⟩,rfl⟩
 (try simp only[sd,se] at c);refine BA (A2 (A3 A7 1 [] O (BJ ?_)));refine Bn (α:=Nat) (fun i=>⟨27,mk [(0,.p (.lst (List.map Bu ds))),(4,.p (I (i:Int)))],[],[]⟩) (fun i=>ds.length - i) (fun i=>i≤ds.length∧(∀j,j<i→∀x,ds[j]?=some x→DG x)) 0 (⟨by omega,fun j h=>by omega⟩) ?_ ?_
 ·exact Bh ⟨we O,we O,Az⟩ (leH (is:=[]) O (DJ))
 rintro i hC
 try simp only at hC
 obtain⟨hi,hC⟩:=hC;refine A2 (A6 (A5 A7 2 [] O (A0 O (BT Hz O (List.length_map _)) (A1 A7 1 [] O (A4 O (fun c1=>?_) (fun c1=>?_))))))
 ·(try simp only[sd,se] at c1);refine BA (A2 (BJ (A2 (B0 (fun k=>Nat.beq k 7) Dt (BZ A7 2 [] O (BP O (fun _=>Cc (lo:=0) (hi:=i) Hz O (CM (aH _)) O ⟨_,O⟩ (Nat.zero_le _) AX (YC (f:=Bu) ds i)) Az (BZ A7 2 [] O ?_)))))));obtain⟨x,hx⟩:=BE (l:=ds) (i:=i) Ax;refine BP O (fun _=>BD Hz O O Ax (EG hx) (Cx _)) Az (BP O (fun _=>BU Fg O (Cx _)) Az (KF [] O O (CO O O (dS (ds.take i) x (aY h1 hC) (h1.all _ (List.mem_of_getElem? hx))) (.inl O)) As (⟨_,1,O,fun h=>absurd h Aw⟩) AB ?_));rintro _ ⟨e,rfl,he⟩;refine⟨Az,?_⟩;refine Bt A7 1 [] O (A3 A7 2 [] O (A4 O (fun c2=>?_) (fun c2=>?_)))
  ·(try simp only[sd,se] at c2);refine A3 A7 4 [] O (A9 (⟨O,_,_,⟨_,_,O,O,⟨_,_,O,O,O⟩⟩,(List.nil_sublist _),?_⟩))
   all_goals exact⟨⟨_,_,rfl,fun h=>absurd h Au⟩,rfl⟩
  (try simp only[sd,se] at c2);refine BA (BC (A1 A7 3 [] O (⟨(i+1),Ac,⟨by omega,C9 (p:=fun _ (y:CX)=>DG y) hC hx (he Ax)⟩,Bh ⟨we rfl,we rfl,trivial⟩ (leH (is:=[]) rfl (DJ))⟩)))
 (try simp only[sd,se] at c1);refine Bo (A3 A7 2 [] O (A9 (⟨O,_,_,⟨_,_,O,O,⟨_,_,O,O,O⟩⟩,(List.nil_sublist _),?_⟩)))
 all_goals exact⟨⟨_,_,rfl,fun _=>⟨h1,IX Ax hC⟩⟩,rfl⟩
theorem IG:∀(t:Tm),(VF t)→Ep Tryz.prog 131 [.agg ((Bb t).map .p)] (.p (.bool (decide (E6 t≤400)&&decide (En t≤150)))):=by
 intro t h1;refine BF Tryz.func131 O pL (n:=11) O O (A6 (BO O (Ba O) fun b1=>A1 A7 1 [] O (A2 (Be [] 2 (fun y=>y= .p (.bool ((decide ((E6 t:Int)≤(400:Int)))&&(decide ((En t:Int)≤(150:Int)))))) ?_ ?_))))
 ·refine BC (A0 O (Bf (i:=0) Bg O O Ap) (A0 O (BL O O (Mo _ t (Nat.le_refl _) h1.nd) O) (A5 A7 2 [] O (BY 6 O (fun g=>?_) (fun g=>?_)))))
  ·(try simp only[sd,se] at g);exact BK O (Bf (i:=0) Bg O O Ap) (BK O (BL O O (Om _ t (Nat.le_refl _) h1.nd) O) (A1 A7 3 [] O ⟨O,O,AP,AJ,Az⟩))
  (try simp only[sd,se] at g);exact A1 A7 5 [] O ⟨O,O,AP,AJ,Az⟩
 rintro _ rfl;refine A9 (⟨O,_,_,⟨_,_,O,O,O⟩,(List.nil_sublist _),?_⟩)
 all_goals exact⟨rfl,rfl⟩
theorem Sn:∀(n:Nat) (t:FY) (dp:Int),(LS t≤n)→(H4 t)→(-1000<dp∧dp<1000)→GO Tryz.prog 132 [.agg ((C5 t).map .p),.p (I dp)] (fun v=>∃bb:Bool,v= .p (.bool bb)∧(bb=true→(EC t:Int)≤42 - dp)):=by
 intro n
 induction n with
 | zero=>intro t dp h;have:=PG t;omega
 | succ n ih =>
  intro t dp h1 h2 h3;have htl:=h2.bl;refine BF Tryz.func132 O pP (n:=47) O O (A6 (BO O (Ba O) fun b2=>A1 A7 1 [] O (A2 (A2 (Be [1,2] 19 (fun y=>∃q:Bool,y= .p (.bool q)∧(q=false→dp≤40)) ?_ ?_)))))
  ·refine BC (A5 A7 3 [] O (BY 8 O (fun g=>?_) (fun g=>?_)))
   ·(try simp only[sd,se] at g);exact A1 A7 11 [] O (⟨O,O,AP,(by refine⟨_,rfl,fun h=>?_⟩;first | (exact absurd h Aw) | omega),⟨O,O,Az⟩⟩)
   (try simp only[sd,se] at g);refine BK O (A8 FK O O) (BK O (BB (i:=0) Kd O O (CV _)) (BK O (BT Jm O (GI _)) (A5 A7 3 [] O (BY 14 O (fun g1=>?_) (fun g1=>?_)))))
   ·(try simp only[sd,se] at g1);exact A1 A7 5 [] O (⟨O,O,AP,(by refine⟨_,rfl,fun h=>?_⟩;first | (exact absurd h Aw) | omega),⟨O,O,Az⟩⟩)
   (try simp only[sd,se] at g1);exact BK O (A8 FK O O) (BK O (B6 (i:=0) Bg O O (Ew _) (BM _)) (BK O (BL O O (IG t.body h2.body) O) (A1 A7 2 [] O (⟨O,O,AP,(by refine⟨_,rfl,fun h=>?_⟩;first | (exact absurd h Aw) | omega),⟨O,O,Az⟩⟩))))
  rintro _ ⟨q,rfl,hq⟩;refine A4 O (fun c=>?_) (fun c=>?_)
  ·(try simp only[sd,se] at c);refine A3 A7 1 [] O (A9 (⟨O,_,_,⟨_,_,O,O,O⟩,(List.nil_sublist _),?_⟩))
   all_goals exact⟨⟨_,rfl,fun h=>absurd h Aw⟩,rfl⟩
  (try simp only[sd,se] at c);have hq1:=hq (by simpa using c);refine BA (A2 (A3 A7 1 [] O (BJ ?_)));refine Bn (α:=Nat) (fun i=>⟨47,mk [(1,.p (I dp)),(2,.ptr b2 0),(5,.p (I (i:Int)))],[.box b2 ((C5 t).map .p)],[]⟩) (fun i=>t.branches.length - i) (fun i=>i≤t.branches.length∧(∀j,j<i→∀x,t.branches[j]?=some x→(EC x.tree:Int)≤42 - (dp+1))) 0 (⟨by omega,fun j h=>by omega⟩) ?_ ?_
  ·exact Bh ⟨we O,we O,we O,Az⟩ (leH (is:=[0]) O (wl (oe O) (DJ)))
  rintro i hC
  try simp only at hC
  obtain⟨hi,hC⟩:=hC;refine A2 (A6 (A5 A7 2 [] O (A0 O (BB (i:=0) Kd O O (CV _)) (A0 O (BT Jm O (GI _)) (A1 A7 1 [] O (A4 O (fun c1=>?_) (fun c1=>?_)))))))
  ·(try simp only[sd,se] at c1);obtain⟨x,hx⟩:=BE (l:=t.branches) (i:=i) Ax;refine BA (A2 (BJ (A2 (Be [1,2,5] 46 (fun y=>∃q:Bool,y= .p (.bool q)∧(q=false→(EC x.tree:Int)≤42 - (dp+1))) ?_ ?_))))
   ·refine BC (A0 O (A8 FK O O) (A0 O (BB (i:=0) Kd O O (CV _)) (B3 O (A0 O (BD Jm O O Ax (Fm hx) (Dc _)) (A0 O (B7 Ig O O) (A0 O (DU JJ O (F5 _) (Cy _)) (A5 A7 2 [] O (D2 O O (CO O O (ih x.tree ((dp:Int)+(1:Int)) (by have:=Rh hx;omega) (Jc h2.bs hx).tr Ax) (.inl O)) ?_))))))));rintro _ ⟨q1,rfl,hq⟩;refine A5 A7 2 [] O (BY 37 O (fun g=>?_) (fun g=>?_))
    ·(try simp only[sd,se] at g);exact A1 A7 9 [] O (⟨O,O,AP,(by refine⟨_,rfl,fun h=>?_⟩;first | (exact absurd h Aw) | exact hq (by simpa using g)),⟨O,O,O,Az⟩⟩)
    (try simp only[sd,se] at g);exact BK O (A8 FK O O) (BK O (BB (i:=0) Kd O O (CV _)) (BK O (Bi O) (BK O (BD Jm O O Ax (Fm hx) (Dc _)) (BK O (B7 Ig O O) (BK O (DA Lg O (Gl _)) (BK O (Ga kM O) (A1 A7 2 [] O (⟨O,O,AP,(by refine⟨_,rfl,fun h=>?_⟩;first | (exact absurd h Aw) | exact hq (by simpa using g)),⟨O,O,O,Az⟩⟩))))))))
   rintro _ ⟨q,rfl,hqx⟩;refine A4 O (fun c2=>?_) (fun c2=>?_)
   ·(try simp only[sd,se] at c2);refine A3 A7 1 [] O (A9 (⟨O,_,_,⟨_,_,O,O,O⟩,(List.nil_sublist _),?_⟩))
    all_goals exact⟨⟨_,rfl,fun h=>absurd h Aw⟩,rfl⟩
   (try simp only[sd,se] at c2);have hok:=hqx (by simpa using c2);refine BA (BC (A1 A7 3 [] O (⟨(i+1),Ac,⟨by omega,C9 (p:=fun _ (y:GU)=>(EC y.tree:Int)≤42 - (dp+1)) hC hx hok⟩,Bh ⟨we rfl,we rfl,we rfl,trivial⟩ (leH (is:=[0]) rfl (wl (oe rfl) (DJ)))⟩)))
  (try simp only[sd,se] at c1);refine Bo (A3 A7 1 [] O (A9 (⟨O,_,_,⟨_,_,O,O,O⟩,(List.nil_sublist _),?_⟩)))
  all_goals exact⟨⟨_,rfl,fun _=>iR hq1 (IX Ax hC)⟩,rfl⟩
theorem Wh:∀(d:CX),(Ns d)→GO Tryz.prog 101 [.agg ((Bu d).map .p)] (fun v=>∃bb:Bool,v= .p (.bool bb)∧(bb=true→TT d)):=by
 intro d h1;have hcl:=h1.cl;have hfl:=h1.fl;have hrl:=h1.rl;refine BF Tryz.func101 O qK (n:=124) O O (A6 (BO O (Ba O) fun b1=>A1 A7 1 [] O (A2 (A2 (Be [1] 47 (fun y=>∃q:Bool,y= .p (.bool q)∧(q=false→E6 d.value≤400)) ?_ ?_)))))
 ·refine BC (A0 O (A8 DD O O) (A0 O (BB (i:=0) Lg O O (DW _)) (A0 O (Ga kM O) (A5 A7 2 [] O (BY 10 O (fun g=>?_) (fun g=>?_))))))
  ·(try simp only[sd,se] at g);exact A1 A7 37 [] O (⟨O,O,AP,(by refine⟨_,rfl,fun h=>?_⟩;first | (exact absurd h Aw) | (simp_all;done) | (simp_all;omega)),⟨O,Az⟩⟩)
  (try simp only[sd,se] at g);refine BK O (A8 DD O O) (BK O (B6 (i:=0) Bg O O (FP _) (BM _)) (BK O (BL O O (IG d.type h1.ty) O) (A5 A7 3 [] O (BY 16 O (fun g1=>?_) (fun g1=>?_)))))
  ·(try simp only[sd,se] at g1);exact A1 A7 31 [] O (⟨O,O,AP,(by refine⟨_,rfl,fun h=>?_⟩;first | (exact absurd h Aw) | (simp_all;done) | (simp_all;omega)),⟨O,Az⟩⟩)
  (try simp only[sd,se] at g1);refine BK O (A8 DD O O) (BK O (B6 (i:=0) Bg O O (FZ _) (BM _)) (BK O (BL O O (IG d.value h1.vl) O) (A5 A7 3 [] O (BY 22 O (fun g2=>?_) (fun g2=>?_)))))
  ·(try simp only[sd,se] at g2);exact A1 A7 25 [] O (⟨O,O,AP,(by refine⟨_,rfl,fun h=>?_⟩;first | (exact absurd h Aw) | (simp_all;done) | (simp_all;omega)),⟨O,Az⟩⟩)
  (try simp only[sd,se] at g2);refine BK O (A8 DD O O) (BK O (BB (i:=0) HY O O (CH _)) (BK O (BT HN O (List.length_map _)) (A5 A7 3 [] O (BY 28 O (fun g3=>?_) (fun g3=>?_)))))
  ·(try simp only[sd,se] at g3);exact A1 A7 19 [] O (⟨O,O,AP,(by refine⟨_,rfl,fun h=>?_⟩;first | (exact absurd h Aw) | (simp_all;done) | (simp_all;omega)),⟨O,Az⟩⟩)
  (try simp only[sd,se] at g3);refine BK O (A8 DD O O) (BK O (BB (i:=0) HW O O (CP _)) (BK O (BT Gy O (List.length_map _)) (A5 A7 3 [] O (BY 34 O (fun g4=>?_) (fun g4=>?_)))))
  ·(try simp only[sd,se] at g4);exact A1 A7 13 [] O (⟨O,O,AP,(by refine⟨_,rfl,fun h=>?_⟩;first | (exact absurd h Aw) | (simp_all;done) | (simp_all;omega)),⟨O,Az⟩⟩)
  (try simp only[sd,se] at g4);refine A5 A7 2 [] O (BK O (B6 (i:=0) Bg O O (FO _) (BM _)) (BK O (BL O O (IG d.recs.type h1.rt) O) (A5 A7 3 [] O (BY 41 O (fun g5=>?_) (fun g5=>?_)))))
  ·(try simp only[sd,se] at g5);exact A1 A7 6 [] O (⟨O,O,AP,(by refine⟨_,rfl,fun h=>?_⟩;first | (exact absurd h Aw) | (simp_all;done) | (simp_all;omega)),⟨O,Az⟩⟩)
  (try simp only[sd,se] at g5);exact A5 A7 2 [] O (BK O (BB (i:=0) Gu O O (Cw _)) (BK O (BT Bk O (Bc _)) (A1 A7 2 [] O (⟨O,O,AP,(by refine⟨_,rfl,fun h=>?_⟩;first | (exact absurd h Aw) | (simp_all;done) | (simp_all;omega)),⟨O,Az⟩⟩))))
 rintro _ ⟨q,rfl,hq⟩;refine A4 O (fun c=>?_) (fun c=>?_)
 ·(try simp only[sd,se] at c);refine A3 A7 1 [] O (A9 (⟨O,_,_,⟨_,_,O,O,O⟩,(List.nil_sublist _),?_⟩))
  all_goals exact⟨⟨_,rfl,fun h=>absurd h Aw⟩,rfl⟩
 (try simp only[sd,se] at c);have hq1:=hq (by simpa using c);refine BA (A2 (A3 A7 1 [] O (BJ (Bn (α:=Nat) (fun i=>⟨124,mk [(1,.ptr b1 0),(3,.p (I (i:Int)))],[.box b1 ((Bu d).map .p)],[]⟩) (fun i=>d.ctors.length - i) (fun i=>i≤d.ctors.length) 0 AW ?_ ?_))))
 ·exact Bh ⟨we O,we O,Az⟩ (leH (is:=[0]) O (wl (oe O) (DJ)))
 rintro i hC
 try simp only at hC
 have hi:=hC;refine A2 (A6 (A5 A7 2 [] O (A0 O (BB (i:=0) HY O O (CH _)) (A0 O (BT HN O (List.length_map _)) (A1 A7 1 [] O (A4 O (fun c1=>?_) (fun c1=>?_)))))))
 ·(try simp only[sd,se] at c1);refine BA (A2 (BJ (A2 (Be [1,3] 72 Gm ?_ ?_))))
  ·refine BC (A0 O (A8 DD O O) (A0 O (BB (i:=0) HY O O (CH _)) (B3 O ?_)));obtain⟨x,hx⟩:=BE (l:=d.ctors) (i:=i) Ax;refine A0 O (BD HN O O Ax (EU hx) (D8 _)) (A0 O (B7 Iq O O) (A0 O (DA Lg O (FQ _)) (A0 O (Ga kM O) (A5 A7 2 [] O (BY 63 O (fun g=>?_) (fun g=>?_))))))
   ·(try simp only[sd,se] at g);exact A1 A7 9 [] O (⟨O,O,AP,⟨_,O⟩,⟨O,O,Az⟩⟩)
   (try simp only[sd,se] at g);exact BK O (A8 DD O O) (BK O (BB (i:=0) HY O O (CH _)) (BK O (Bi O) (BK O (BD HN O O Ax (EU hx) (D8 _)) (BK O (B7 Iq O O) (BK O (DU Bg O (FU _) (BM _)) (BK O (BL O O (IG x.type (h1.cs _ (List.mem_of_getElem? hx)).ty) O) (A1 A7 2 [] O (⟨O,O,AP,⟨_,O⟩,⟨O,O,Az⟩⟩))))))))
  rintro _ ⟨q1,rfl⟩;refine A4 O (fun c2=>?_) (fun c2=>?_)
  ·(try simp only[sd,se] at c2);refine A3 A7 1 [] O (A9 (⟨O,_,_,⟨_,_,O,O,O⟩,(List.nil_sublist _),?_⟩))
   all_goals exact⟨⟨_,rfl,fun h=>absurd h Aw⟩,rfl⟩
  (try simp only[sd,se] at c2);refine BA (BC (A1 A7 3 [] O ?_));refine⟨(i+1),Ac,by omega,Bh ⟨we rfl,we rfl,trivial⟩ (leH (is:=[0]) rfl (wl (oe rfl) (DJ)))⟩
 (try simp only[sd,se] at c1);refine Bo (A2 (A3 A7 1 [] O (BJ ?_)));refine Bn (α:=Nat) (fun i=>⟨124,mk [(1,.ptr b1 0),(4,.p (I (i:Int)))],[.box b1 ((Bu d).map .p)],[]⟩) (fun i=>d.recs.rules.length - i) (fun i=>i≤d.recs.rules.length∧(∀j,j<i→∀x,d.recs.rules[j]?=some x→E6 x≤400)) 0 (⟨by omega,fun j h=>by omega⟩) ?_ ?_
 ·exact Bh ⟨we O,we O,Az⟩ (leH (is:=[0]) O (wl (oe O) (DJ)))
 rintro i hC1
 try simp only at hC1
 obtain⟨hi,hR⟩:=hC1;refine A2 (A6 (A5 A7 3 [] O (A0 O (BB (i:=0) Gu O O (Cw _)) (A0 O (BT Bk O (Bc _)) (A1 A7 1 [] O (A4 O (fun c2=>?_) (fun c2=>?_)))))))
 ·(try simp only[sd,se] at c2);refine BA (A2 (BJ (A6 (A5 A7 2 [] O (A0 O (BB (i:=0) Gu O O (Cw _)) (B3 O ?_))))));obtain⟨x,hx⟩:=BE (l:=d.recs.rules) (i:=i) Ax;refine A0 O (BD Bk O O Ax (Bj hx) (BM _)) (A0 O (BU Bg O (BM _)) (A0 O (BL O O (IG x (h1.rs _ (List.mem_of_getElem? hx))) O) (A1 A7 1 [] O (A4 O (fun c3=>?_) (fun c3=>?_)))))
  ·(try simp only[sd,se] at c3);refine A3 A7 1 [] O (A9 (⟨O,_,_,⟨_,_,O,O,O⟩,(List.nil_sublist _),?_⟩))
   all_goals exact⟨⟨_,rfl,fun h=>absurd h Aw⟩,rfl⟩
  (try simp only[sd,se] at c3);have hqr:E6 x≤400:=by simp_all
  refine BA (BC (A1 A7 3 [] O (⟨(i+1),Ac,⟨by omega,C9 (p:=fun _ (y:Tm)=>E6 y≤400) hR hx hqr⟩,Bh ⟨we rfl,we rfl,trivial⟩ (leH (is:=[0]) rfl (wl (oe rfl) (DJ)))⟩)))
 (try simp only[sd,se] at c2);refine Bo (A2 (A3 A7 1 [] O (BJ ?_)));refine Bn (α:=Nat) (fun i=>⟨124,mk [(1,.ptr b1 0),(5,.p (I (i:Int)))],[.box b1 ((Bu d).map .p)],[]⟩) (fun i=>d.funs.length - i) (fun i=>i≤d.funs.length∧(∀j,j<i→∀x,d.funs[j]?=some x→(EC x.tree:Int)≤42 - 0)) 0 (⟨by omega,fun j h=>by omega⟩) ?_ ?_
 ·exact Bh ⟨we O,we O,Az⟩ (leH (is:=[0]) O (wl (oe O) (DJ)))
 rintro i hC2
 try simp only at hC2
 obtain⟨hi,hT⟩:=hC2;refine A2 (A6 (A5 A7 2 [] O (A0 O (BB (i:=0) HW O O (CP _)) (A0 O (BT Gy O (List.length_map _)) (A1 A7 1 [] O (A4 O (fun c3=>?_) (fun c3=>?_)))))))
 ·(try simp only[sd,se] at c3);obtain⟨x,hx⟩:=BE (l:=d.funs) (i:=i) Ax;refine BA (A2 (BJ (A2 (Be [1,5] 123 (fun y=>∃q:Bool,y= .p (.bool q)∧(q=false→(EC x.tree:Int)≤42 - 0)) ?_ ?_))))
  ·refine BC (A0 O (A8 DD O O) (A0 O (BB (i:=0) HW O O (CP _)) (B3 O (A0 O (BD Gy O O Ax (ET hx) (DV _)) (A0 O (B7 Gw O O) (A0 O (DA Lg O (JA _)) (A0 O (Ga kM O) (A5 A7 2 [] O (BY 104 O (fun g=>?_) (fun g=>?_))))))))))
   ·(try simp only[sd,se] at g);exact A1 A7 19 [] O (⟨O,O,AP,(by refine⟨_,rfl,fun h=>?_⟩;first | (exact absurd h Aw) | exact hq (by simpa using h)),⟨O,O,Az⟩⟩)
   (try simp only[sd,se] at g);refine BK O (A8 DD O O) (BK O (BB (i:=0) HW O O (CP _)) (BK O (Bi O) (BK O (BD Gy O O Ax (ET hx) (DV _)) (BK O (B7 Gw O O) (BK O (DU Bg O (JC _) (BM _)) (BK O (BL O O (IG x.type (h1.fs _ (List.mem_of_getElem? hx)).ty) O) (A5 A7 3 [] O (BY 114 O (fun g1=>?_) (fun g1=>?_)))))))))
   ·(try simp only[sd,se] at g1);exact A1 A7 9 [] O (⟨O,O,AP,(by refine⟨_,rfl,fun h=>?_⟩;first | (exact absurd h Aw) | exact hq (by simpa using h)),⟨O,O,Az⟩⟩)
   (try simp only[sd,se] at g1);refine BK O (A8 DD O O) (BK O (BB (i:=0) HW O O (CP _)) (BK O (Bi O) (BK O (BD Gy O O Ax (ET hx) (DV _)) (BK O (B7 Gw O O) (BK O (DU JJ O (D5 _) (Cy _)) (IW O O O O (CO O O (Sn (LS x.tree) x.tree 0 (Nat.le_refl _) (h1.fs _ (List.mem_of_getElem? hx)).tr Ax) (.inl O)) ?_))))));rintro _ ⟨q1,rfl,hq⟩;exact A1 A7 2 [] O (⟨O,O,AP,(by refine⟨_,rfl,fun h=>?_⟩;first | (exact absurd h Aw) | exact hq (by simpa using h)),⟨O,O,Az⟩⟩)
  rintro _ ⟨q,rfl,hqx⟩;refine A4 O (fun c4=>?_) (fun c4=>?_)
  ·(try simp only[sd,se] at c4);refine A3 A7 1 [] O (A9 (⟨O,_,_,⟨_,_,O,O,O⟩,(List.nil_sublist _),?_⟩))
   all_goals exact⟨⟨_,rfl,fun h=>absurd h Aw⟩,rfl⟩
  (try simp only[sd,se] at c4);have hok:=hqx (by simpa using c4);refine BA (BC (A1 A7 3 [] O (⟨(i+1),Ac,⟨by omega,C9 (p:=fun _ (y:Hi)=>(EC y.tree:Int)≤42 - 0) hT hx hok⟩,Bh ⟨we rfl,we rfl,trivial⟩ (leH (is:=[0]) rfl (wl (oe rfl) (DJ)))⟩)))
 (try simp only[sd,se] at c3);refine Bo (A3 A7 1 [] O (A9 (⟨O,_,_,⟨_,_,O,O,O⟩,(List.nil_sublist _),?_⟩)))
 all_goals exact⟨⟨_,rfl,fun _=>dF h1 hq1 (IX Ax hR) (IX Ax hT)⟩,rfl⟩
theorem gw:∀(ds:List CX),(Hj ds)→GO Tryz.prog 65 [.p (.lst (List.map Bu ds))] (fun v=>∃bb:Bool,v= .p (.bool bb)∧(bb=true→(∀d∈ds,TT d)∧ds.length≤70)):=by
 intro ds h1;have hl:=h1.len;refine BF Tryz.func65 O r7 (n:=23) O O (A3 A7 1 [] O (A2 (A3 A7 1 [] O (BJ ?_))));refine Bn (α:=Nat) (fun i=>⟨23,mk [(0,.p (.lst (List.map Bu ds))),(3,.p (I (i:Int)))],[],[]⟩) (fun i=>ds.length - i) (fun i=>i≤ds.length∧(∀j,j<i→∀x,ds[j]?=some x→TT x)) 0 (⟨by omega,fun j h=>by omega⟩) ?_ ?_
 ·exact Bh ⟨we O,we O,Az⟩ (leH (is:=[]) O (DJ))
 rintro i hC
 try simp only at hC
 obtain⟨hi,hC⟩:=hC;refine A2 (A2 (Be [0,3] 11 (fun y=>∃q:Bool,y= .p (.bool q)∧(q=true→i<ds.length)∧(q=false→ds.length≤i∨80≤i)) ?_ ?_))
 ·refine BC (A5 A7 2 [] O (A0 O (BT Hz O (List.length_map _)) (A5 A7 2 [] O (BY 8 O (fun g=>?_) (fun g=>?_)))))
  ·(try simp only[sd,se] at g);refine A1 A7 3 [] O ?_;exact⟨rfl,rfl,AP,(by refine⟨_,rfl,fun h=>?_,fun h=>?_⟩<;>first | (exact absurd h Aw) | omega | (simp only[decide_eq_true_eq,decide_eq_false_iff_not] at h;omega)),⟨rfl,rfl,trivial⟩⟩
  (try simp only[sd,se] at g);refine A1 A7 3 [] O ?_;exact⟨rfl,rfl,AP,(by refine⟨_,rfl,fun h=>?_,fun h=>?_⟩<;>first | (exact absurd h Aw) | omega | (simp only[decide_eq_true_eq,decide_eq_false_iff_not] at h;omega)),⟨rfl,rfl,trivial⟩⟩
 rintro _ ⟨q,rfl,hq,hqn⟩;refine A4 O (fun c=>?_) (fun c=>?_)
 ·(try simp only[sd,se] at c);have hq1:=hq (by simpa using c);refine BA (A2 (BJ (A6 (A5 A7 2 [] O ?_))));obtain⟨x,hx⟩:=BE (l:=ds) (i:=i) Ax;refine A0 O (BD Hz O O Ax (EG hx) (Cx _)) (A0 O (BU Fg O (Cx _)) (D2 O O (CO O O (Wh x (h1.all _ (List.mem_of_getElem? hx))) (.inl O)) ?_));rintro _ ⟨q1,rfl,hq⟩;refine A1 A7 1 [] O (A4 O (fun c1=>?_) (fun c1=>?_))
  ·(try simp only[sd,se] at c1);refine A3 A7 1 [] O (A9 (⟨O,_,_,⟨_,_,O,O,O⟩,(List.nil_sublist _),?_⟩))
   all_goals exact⟨⟨_,rfl,fun h=>absurd h Aw⟩,rfl⟩
  (try simp only[sd,se] at c1);have hok:=hq (by simpa using c1);refine BA (BC (A1 A7 3 [] O (⟨(i+1),Ac,⟨by omega,C9 (p:=fun _ (y:CX)=>TT y) hC hx hok⟩,Bh ⟨we rfl,we rfl,trivial⟩ (leH (is:=[]) rfl (DJ))⟩)))
 (try simp only[sd,se] at c);have hqe:=hqn (by simpa using c);refine Bo (A6 (B3 O (A0 O (BT Hz O (List.length_map _)) (A1 A7 2 [] O (A9 (⟨O,_,_,⟨_,_,O,O,O⟩,(List.nil_sublist _),?_⟩))))))
 all_goals exact⟨⟨_,rfl,fun h=>⟨IX (by simp only[decide_eq_true_eq] at h;omega) hC,by simp only[decide_eq_true_eq] at h;omega⟩⟩,rfl⟩
theorem ep:∀(ds:List CX),(Hj ds)→GO Tryz.prog 31 [.p (.lst (List.map Bu ds))] (fun v=>∃bb:Bool,v= .p (.bool bb)∧(bb=true→Gz ds∧ds.length≤70)):=by
 intro ds h1;refine BF Tryz.func31 O sl (n:=15) O O (A3 A7 1 [] O (A2 (A6 (B3 O (D2 O O (CO O O (gw ds h1) (.inl O)) ?_)))));rintro _ ⟨q,rfl,hq⟩;refine A1 A7 1 [] O (A4 O (fun c=>?_) (fun c=>?_))
 ·(try simp only[sd,se] at c);refine A3 A7 1 [] O (A9 (⟨O,_,_,⟨_,_,O,O,O⟩,(List.nil_sublist _),?_⟩))
  all_goals exact⟨⟨_,rfl,fun h=>absurd h Aw⟩,rfl⟩
 (try simp only[sd,se] at c);have hf:=hq (by simpa using c);refine BA (A6 (B3 O (D2 O O (CO O O (Yk ds h1) (.inl O)) ?_)));rintro _ ⟨a,e,rfl,he⟩;refine A1 A7 5 [] O (A3 A7 3 [] O (A9 (⟨O,_,_,⟨_,_,O,O,O⟩,(List.nil_sublist _),?_⟩)))
 all_goals exact⟨⟨_,rfl,fun h=>⟨iq (he (by simpa using h)) hf.1,hf.2⟩⟩,rfl⟩
end Go.Proofs.YtboammbpdaoojaaGreat
namespace Go.Eu
open Go.Abs
def vT (i:Int):Tm:= .mk 0 i ⟨#[]⟩ [] []
def Oz (nm:ByteArray):Tm:= .mk 3 0 nm [] []
def K0:ByteArray:=⟨#[78,97,116]⟩
def kW:ByteArray:=⟨#[122,101,114,111]⟩
def UM:ByteArray:=⟨#[115,117,99,99]⟩
def P4:ByteArray:=⟨#[112,108,117,115]⟩
def XZ (b:Tm):Tm:=if (Cs 1 0 0 0 b).2≠0 then Bp else (Cs 1 0 0 0 b).1
def YZ (a b:Tm):Tm:= .mk 6 0 ⟨#[]⟩ [] [a,XZ b]
def YT:CX:=⟨3,K0,0,.mk 2 0 ⟨#[]⟩ [⟨0,[]⟩] [],Bp,0,[⟨kW,Oz K0⟩,⟨UM,YZ (Oz K0) (Oz K0)⟩],⟨0,Oz K0,[Oz K0,Oz K0]⟩,[]⟩
def SC:FY:= .mk 1 Bp 0 [.mk kW false (.mk 0 (vT 0) 0 []),.mk UM false (.mk 0 (apply (Oz UM) [apply (Oz P4) [vT 0,vT 1]]) 0 [])]
def Ru:CX:=⟨4,⟨#[]⟩,0,Bp,Bp,0,[],⟨0,Bp,[]⟩,[⟨P4,YZ (Oz K0) (YZ (Oz K0) (Oz K0)),2,SC⟩]⟩
def D3:List CX:=[YT,Ru]
theorem l5 (nm:ByteArray) (h:nm.size<Dq):Nd (Oz nm):=by
 simp only[Oz,Nd,Lx,List.length_nil,Dq];simp only[Dq] at h;exact⟨h,by omega,by simp,by omega,trivial,by simp[JB],by simp[JB]⟩
theorem sY:Nd (YZ (Oz K0) (Oz K0)):=by
 have h:XZ (Oz K0)=Oz K0:=by rfl
 have h1:=l5 K0 Aw;rw[YZ,h];simp only[Nd,Lx,List.length_nil,List.length_cons,Dq];exact⟨by decide,by omega,by simp,by omega,⟨h1,h1,trivial⟩,by simp[JB],by simp[JB]⟩
end Go.Eu
namespace Go.Proofs.YtboammbpdaoojaaGreat
open Go.Abs Go.Eu
theorem I1:∀(nm:ByteArray),Ep Tryz.prog 35 [.p (.str nm)] (.agg ((Bb (.mk 3 0 nm [] [])).map .p)):=by
 intro nm;refine BF Tryz.func35 O re (n:=5) O O (A6 (BO O (BG B4 O) fun b2=>Bq O (A3 A7 3 [0,0] O (BQ (Bd (i:=0) O) (A9 (⟨O,_,_,⟨_,_,O,(BI (i:=0) Bg O O O),O⟩,(List.nil_sublist _),?_⟩))))))
 all_goals exact⟨rfl,rfl⟩
theorem cX:∀(i:Int),Ep Tryz.prog 68 [.p (I i)] (.agg ((Bb (.mk 0 i ⟨#[]⟩ [] [])).map .p)):=by
 intro i;refine BF Tryz.func68 O qy (n:=5) O O (A6 (BO O (BG B4 O) fun b2=>Bq O (A3 A7 3 [0,0] O (BQ (Bd (i:=0) O) (A9 (⟨O,_,_,⟨_,_,O,(BI (i:=0) Bg O O O),O⟩,(List.nil_sublist _),?_⟩))))))
 all_goals exact⟨rfl,rfl⟩
theorem Ka:∀(i:Int),Ep Tryz.prog 33 [.p (I i)] (.agg ((Bb (.mk 0 i ⟨#[]⟩ [] [])).map .p)):=by
 intro i;refine BF Tryz.func33 O sO (n:=5) O O (A6 (BO O (BG B4 O) fun b2=>Bq O (A3 A7 3 [0,0] O (BQ (Bd (i:=0) O) (A9 (⟨O,_,_,⟨_,_,O,(BI (i:=0) Bg O O O),O⟩,(List.nil_sublist _),?_⟩))))))
 all_goals exact⟨rfl,rfl⟩
theorem ZN:∀(t:Tm) (l:List Tm),(l.length<Dq)→Ep Tryz.prog 69 [.agg ((Bb t).map .p),.p (.lst (BN l))] (.agg ((Bb (apply t l)).map .p)):=by
 intro t l h1;refine BF Tryz.func69 O rE (n:=8) O O (A6 (BO O (Ba O) fun b2=>BO O (BG B4 O) fun b4=>Bq O (A6 (A5 A7 2 [1] O (A0 O (BL O O (EH t l h1) O) (A1 A7 1 [0,1] O (A9 (⟨O,_,_,⟨_,_,O,(BI (i:=0) Bg O O Ap),O⟩,(List.nil_sublist _),?_⟩))))))))
 all_goals exact⟨rfl,rfl⟩
theorem ZI:∀(t:Tm) (l:List Tm),(l.length<Dq)→Ep Tryz.prog 34 [.agg ((Bb t).map .p),.p (.lst (BN l))] (.agg ((Bb (apply t l)).map .p)):=by
 intro t l h1;refine BF Tryz.func34 O sx (n:=8) O O (A6 (BO O (Ba O) fun b2=>BO O (BG B4 O) fun b4=>Bq O (A6 (A5 A7 2 [1] O (A0 O (BL O O (EH t l h1) O) (A1 A7 1 [0,1] O (A9 (⟨O,_,_,⟨_,_,O,(BI (i:=0) Bg O O Ap),O⟩,(List.nil_sublist _),?_⟩))))))))
 all_goals exact⟨rfl,rfl⟩
theorem gT:∀(t:Tm) (by' fr:Int),(Nd t)→(size t<1000000)→(by'=1)→(fr=0)→Ep Tryz.prog 103 [.agg ((Bb t).map .p),.p (I by'),.p (I fr)] (.tup [.agg ((Bb (XZ t)).map .p),.p (I ((Cs 1 0 0 0 t).2))]):=by
 intro t by' fr h1 h2 h3 h4
 refine BF Tryz.func103 O pN (n:=40) O O (A6 (BO O (Ba O) fun b3=>BO O (BG B4 O) fun b6=>A1 A7 1 [] O (A2 (A2 (Be [1,2,3,6] 19 (fun y=>y= .p (.bool (((decide ((fr:Int)<(0:Int)))||(decide ((by':Int)<(-65536:Int))))||(decide ((by':Int) > (65536:Int)))))) ?_ ?_)))))
 ·refine BC (A5 A7 3 [] O (BY 12 O (fun g=>?_) (fun g=>?_)))
  ·(try simp only[sd,se] at g);exact A1 A7 7 [] O (⟨O,O,AP,AJ,⟨O,O,O,O,Az⟩⟩)
  (try simp only[sd,se] at g);refine A5 A7 4 [] O (BY 16 O (fun g1=>?_) (fun g1=>?_))
  ·(try simp only[sd,se] at g1);exact A1 A7 3 [] O (⟨O,O,AP,AJ,⟨O,O,O,O,Az⟩⟩)
  (try simp only[sd,se] at g1);exact A1 A7 3 [] O (⟨O,O,AP,AJ,⟨O,O,O,O,Az⟩⟩)
 rintro _ rfl;refine A4 O (fun c=>?_) (fun c=>?_)
 ·(try simp only[sd,se] at c);refine A3 A7 3 [0,0] O (BQ (Bd (i:=0) O) (A9 (⟨O,_,_,⟨_,_,O,(BI (i:=0) Bg O O O),⟨_,_,O,O,O⟩⟩,(List.nil_sublist _),?_⟩)))
  all_goals exact⟨by show (.tup [.agg [.p (I 0),.p (I 0),.p (.str ⟨#[]⟩),.p (.lst []),.p (.lst [])],.p (I 2)]:AV)=_;exfalso;omega,rfl⟩
 (try simp only[sd,se] at c);refine BA (A6 (A0 O (Ca gN eO O) (BO O (Ba O) fun b22=>A1 A7 1 [] O (A6 (A5 A7 4 [2] O (A0 O (Zj O O) (A0 O (CF [0] O (.inl ⟨O,O,O⟩) (Za _ t b22 by' (min (fr:Int) (65536:Int)) 0 0 0 (Nat.le_refl _) h1 Ax Ax) ⟨_,_,rfl,rfl,rfl⟩ Aw rfl (.inl rfl)) (BO O (BG B4 O) fun b9=>A1 A7 1 [0,1] O (A2 (A3 A7 5 [1] O (A4 O (fun c1=>?_) (fun c1=>?_))))))))))))
 ·(try simp only[sd,se] at c1);refine A2 (B0 (fun k=>false) Dt (Bt A7 7 [1,2,0] O (BQ (Bd (i:=2) O) (A9 (⟨O,_,_,⟨_,_,O,(BI (i:=2) Bg O O O),⟨_,_,O,O,O⟩⟩,(List.nil_sublist _),?_⟩)))))
  all_goals exact⟨by show (.tup [.agg [.p (I 0),.p (I 0),.p (.str ⟨#[]⟩),.p (.lst []),.p (.lst [])],.p (I ((Cs by' (min (fr:Int) (65536:Int)) 0 0 t).2))]:AV)=_;subst h3 h4;have c2:(Cs 1 0 0 0 t).2≠0:=c1;rw[XZ,if_pos c2];rfl,rfl⟩
 (try simp only[sd,se] at c1);refine BA (A3 A7 3 [0,2,1] O (A9 (⟨O,_,_,⟨_,_,O,(BI (i:=2) Bg O O Ap),⟨_,_,O,O,O⟩⟩,(List.nil_sublist _),?_⟩)))
 all_goals exact⟨by show (.tup [.agg ((Bb ((Cs by' (min (fr:Int) (65536:Int)) 0 0 t).1)).map .p),.p (I 0)]:AV)=_;subst h3 h4;have c2:(Cs 1 0 0 0 t).2=0:=c1;rw[XZ,if_neg (fun h=>h c2),c2];rfl,rfl⟩
theorem Xd:∀(a b:Tm),(Nd b)→(size b<1000000)→Ep Tryz.prog 70 [.agg ((Bb a).map .p),.agg ((Bb b).map .p)] (.agg ((Bb (.mk 6 0 ⟨#[]⟩ [] [a,XZ b])).map .p)):=by
 intro a b h1 h2;refine BF Tryz.func70 O sa (n:=16) O O (A6 (BO O (Ba O) fun b2=>BO O (Ba O) fun b3=>BO O (BG B4 O) fun b4=>Bq O (A6 (A0 O (Bf (i:=1) Bg O O Ap) (A0 O (BL O O (gT b 1 0 h1 h2 O O) O) (A5 A7 3 [] O (BO O (BG B4 O) fun b5=>A1 A7 2 [0,1] O (A6 (A5 A7 2 [3,0] O (A0 O (B8 (rows:=BN [a,(XZ b)]) Bk B4 O O O O (CM (B1 _)) (FR _)) (A1 A7 2 [1,0] O (BQ (Bd (i:=1) O) (A9 (⟨O,_,_,⟨_,_,O,(BI (i:=1) Bg O O O),O⟩,(List.nil_sublist _),?_⟩))))))))))))))
 all_goals exact⟨rfl,rfl⟩
theorem lQ (l:List It):∀r∈l.map G8,∀c∈r,c≠ .nils:=by
 intro r hr;obtain⟨t,_,rfl⟩:=List.mem_map.1 hr;intro c hc;simp only[G8,List.mem_cons] at hc;rcases hc with rfl | hc
 ·simp
 exact tH _ c hc
set_option maxHeartbeats 4000000 in
theorem jX:Ep Tryz.prog 36 [] (.p (.lst (List.map Bu D3))):=by
 refine BF Tryz.func36 O sC (n:=55) O O (A3 A7 1 [] O (A3 A7 1 [] O (A6 (A0 O (BL O O (I1 ⟨#[78,97,116]⟩) O) (BO O (BG B4 O) fun b2=>A1 A7 1 [0,1] O (A3 A7 1 [] O (A2 ?_)))))));refine UO [.val (.agg [.p (I 0),.p (.nils)]),.val (.p (.lst (List.map B9 ([(Ci.mk 0 [])])))),.val (.agg [.p (I 2),.p (I 0),.p (.str ⟨#[]⟩),.p (.lst (List.map B9 ([(Ci.mk 0 [])]))),.p (.nils)]),.val (.agg [.p (I 3),.p (I 0),.p (.str ⟨#[78,97,116]⟩),.p (.lst (List.map B9 [])),.p (.lst (BN []))]),.val (.agg [.p (.str ⟨#[122,101,114,111]⟩),.p (I 3),.p (I 0),.p (.str ⟨#[78,97,116]⟩),.p (.lst (List.map B9 [])),.p (.lst (BN []))]),.val (.agg [.p (I 3),.p (I 0),.p (.str ⟨#[78,97,116]⟩),.p (.lst (List.map B9 [])),.p (.lst (BN []))]),.val (.agg [.p (I 3),.p (I 0),.p (.str ⟨#[78,97,116]⟩),.p (.lst (List.map B9 [])),.p (.lst (BN []))]),.val (.agg [.p (I 6),.p (I 0),.p (.str ⟨#[]⟩),.p (.lst (List.map B9 [])),.p (.lst (BN ([(.mk 3 0 ⟨#[78,97,116]⟩ [] []:Tm),XZ (.mk 3 0 ⟨#[78,97,116]⟩ [] []:Tm)])))]),.val (.agg [.p (.str ⟨#[115,117,99,99]⟩),.p (I 6),.p (I 0),.p (.str ⟨#[]⟩),.p (.lst (List.map B9 [])),.p (.lst (BN ([(.mk 3 0 ⟨#[78,97,116]⟩ [] []:Tm),XZ (.mk 3 0 ⟨#[78,97,116]⟩ [] []:Tm)])))]),.val (.p (.lst (List.map G8 ([(It.mk ⟨#[122,101,114,111]⟩ (.mk 3 0 ⟨#[78,97,116]⟩ [] []:Tm)),(It.mk ⟨#[115,117,99,99]⟩ (.mk 6 0 ⟨#[]⟩ [] ([(.mk 3 0 ⟨#[78,97,116]⟩ [] []:Tm),XZ (.mk 3 0 ⟨#[78,97,116]⟩ [] []:Tm)]):Tm))])))),.val (.agg [.p (I 3),.p (.str ⟨#[78,97,116]⟩),.p (I 0),.p (I 2),.p (I 0),.p (.str ⟨#[]⟩),.p (.lst (List.map B9 ([(Ci.mk 0 [])]))),.p (.nils),.p (I 0),.p (I 0),.p (.str ⟨#[]⟩),.p (.nils),.p (.nils),.p (I 0),.p (.lst (List.map G8 ([(It.mk ⟨#[122,101,114,111]⟩ (.mk 3 0 ⟨#[78,97,116]⟩ [] []:Tm)),(It.mk ⟨#[115,117,99,99]⟩ (.mk 6 0 ⟨#[]⟩ [] ([(.mk 3 0 ⟨#[78,97,116]⟩ [] []:Tm),XZ (.mk 3 0 ⟨#[78,97,116]⟩ [] []:Tm)]):Tm))]))),.p (I 0),.p (I 0),.p (I 0),.p (.str ⟨#[]⟩),.p (.nils),.p (.nils),.p (.nils),.p (.nils)]),.new [.p (I 0),.p (.str ⟨#[]⟩),.p (I 0),.p (I 0),.p (I 0),.p (.str ⟨#[]⟩),.p (.nils),.p (.nils),.p (I 0),.p (I 0),.p (.str ⟨#[]⟩),.p (.nils),.p (.nils),.p (I 0),.p (.nils),.p (I 0),.p (I 0),.p (I 0),.p (.str ⟨#[]⟩),.p (.nils),.p (.nils),.p (.nils),.p (.nils)]] Dt O As As ?_
 refine D7 O (fun Bs=>Ca S1 Ed O) (D7 O (fun Bs=>Br Em Ed O O O O O) (D7 O (fun Bs=>Ca HA B4 O) (D7 O (fun Bs=>Bf (i:=Bs.length+0) Bg O (Ck O) Ap) (D7 O (fun Bs=>Ca Iq Zt O) (D7 O (fun Bs=>Bf (i:=Bs.length+0) Bg O (Ck O) O) (D7 O (fun Bs=>Bf (i:=Bs.length+0) Bg O (Ck O) O) (D7 O (fun Bs=>BL O O (Xd (.mk 3 0 ⟨#[78,97,116]⟩ [] []:Tm) (.mk 3 0 ⟨#[78,97,116]⟩ [] []:Tm) (l5 _ Aw) (by simp[size,Bl])) O) (D7 O (fun Bs=>Ca Iq Zt O) ?_))))))));refine D7 O (fun Bs=>B8 (rows:=List.map G8 ([(It.mk ⟨#[122,101,114,111]⟩ (.mk 3 0 ⟨#[78,97,116]⟩ [] []:Tm)),(It.mk ⟨#[115,117,99,99]⟩ (.mk 6 0 ⟨#[]⟩ [] ([(.mk 3 0 ⟨#[78,97,116]⟩ [] []:Tm),XZ (.mk 3 0 ⟨#[78,97,116]⟩ [] []:Tm)]):Tm))])) HN Zt O O O O (CM (aM _)) (lQ _)) (D7 O (fun Bs=>Ca DD Iz O) (YA O (fun Bs=>BG Iz O) fun b4=>YV ?_))
 change AL _ _ _ 12 ⟨55,_,[.box b4 [.p (I 0),.p (.str ⟨#[]⟩),.p (I 0),.p (I 0),.p (I 0),.p (.str ⟨#[]⟩),.p (.nils),.p (.nils),.p (I 0),.p (I 0),.p (.str ⟨#[]⟩),.p (.nils),.p (.nils),.p (I 0),.p (.nils),.p (I 0),.p (I 0),.p (I 0),.p (.str ⟨#[]⟩),.p (.nils),.p (.nils),.p (.nils),.p (.nils)],.box b2 [.p (I 3),.p (I 0),.p (.str ⟨#[78,97,116]⟩),.p (.lst (List.map B9 [])),.p (.lst (BN []))]],[]⟩ _
 refine A1 A7 1 [0,0] O (A6 (A5 A7 3 [1,1,1] O (A0 O (B8 (rows:=BN ([(.mk 3 0 ⟨#[78,97,116]⟩ [] []:Tm),(.mk 3 0 ⟨#[78,97,116]⟩ [] []:Tm)])) Bk B4 O O O O (CM (B1 _)) (FR _)) (A1 A7 3 [0,0] O (A6 (B3 O (A0 O (BL O O (cX 0) O) (A5 A7 3 [] O (A0 O (BL O O (I1 ⟨#[115,117,99,99]⟩) O) (B3 O (A0 O (BL O O (I1 ⟨#[112,108,117,115]⟩) O) (B3 O (A0 O (BL O O (cX 0) O) (B3 O (A0 O (BL O O (cX 1) O) (A0 O (B8 (rows:=BN ([(.mk 0 0 ⟨#[]⟩ [] []),(.mk 0 1 ⟨#[]⟩ [] [])])) Bk B4 O O O O (CM (B1 _)) (FR _)) (A0 O (BL O O (ZN (.mk 3 0 ⟨#[112,108,117,115]⟩ [] []) ([(.mk 0 0 ⟨#[]⟩ [] []),(.mk 0 1 ⟨#[]⟩ [] [])]) (by simp[Dq])) O) ?_)))))))))))))))));refine A0 O (B8 (rows:=BN ([(apply (.mk 3 0 ⟨#[112,108,117,115]⟩ [] []) ([(.mk 0 0 ⟨#[]⟩ [] []),(.mk 0 1 ⟨#[]⟩ [] [])]))])) Bk B4 O O O O (CM (B1 _)) (FR _)) (A0 O (BL O O (ZN (.mk 3 0 ⟨#[115,117,99,99]⟩ [] []) ([(apply (.mk 3 0 ⟨#[112,108,117,115]⟩ [] []) ([(.mk 0 0 ⟨#[]⟩ [] []),(.mk 0 1 ⟨#[]⟩ [] [])]))]) (by simp[Dq])) O) ?_);generalize hz:apply (.mk 3 0 ⟨#[115,117,99,99]⟩ [] []) ([(apply (.mk 3 0 ⟨#[112,108,117,115]⟩ [] []) ([(.mk 0 0 ⟨#[]⟩ [] []),(.mk 0 1 ⟨#[]⟩ [] [])]))])=z;obtain⟨zk,zi,zn,zl,zs⟩:=z;refine A5 A7 2 [] O (A0 O (Br Jm Zf O O O O O) (A0 O (Ca FK Sk O) (BO O (BG Sk O) fun b5=>A1 A7 1 [0,0] O (A2 (B0 (fun k=>false) Dt (BZ A7 4 [1,2,2,2] O (BP O (fun _=>BL O O (Xd (.mk 3 0 ⟨#[78,97,116]⟩ [] []:Tm) (.mk 3 0 ⟨#[78,97,116]⟩ [] []:Tm) (l5 _ Aw) (by simp[size,Bl])) O) Az (BP O (fun _=>BL O O (Xd (.mk 3 0 ⟨#[78,97,116]⟩ [] []:Tm) (.mk 6 0 ⟨#[]⟩ [] [(.mk 3 0 ⟨#[78,97,116]⟩ [] []:Tm),XZ (.mk 3 0 ⟨#[78,97,116]⟩ [] []:Tm)]) sY Aw) O) Az (BZ A7 2 [0] O (BP O (fun _=>Br Gy bW O O O O O) Az (BP O (fun _=>Ca DD Iz O) Az (BP O (fun _=>Br Hz Iz O O O O O) Az (Bt A7 1 [] O (A9 (⟨O,_,_,⟨_,_,O,O,O⟩,(List.nil_sublist _),?_⟩)))))))))))))))
 all_goals exact⟨by show (.p (.lst (List.map Bu ([(CX.mk 3 ⟨#[78,97,116]⟩ 0 (.mk 2 0 ⟨#[]⟩ ([(Ci.mk 0 [])]) []:Tm) (.mk 0 0 ⟨#[]⟩ [] []:Tm) 0 ([(It.mk ⟨#[122,101,114,111]⟩ (.mk 3 0 ⟨#[78,97,116]⟩ [] []:Tm)),(It.mk ⟨#[115,117,99,99]⟩ (.mk 6 0 ⟨#[]⟩ [] ([(.mk 3 0 ⟨#[78,97,116]⟩ [] []:Tm),XZ (.mk 3 0 ⟨#[78,97,116]⟩ [] []:Tm)]):Tm))]) (gp.mk 0 (.mk 3 0 ⟨#[78,97,116]⟩ [] []:Tm) ([(.mk 3 0 ⟨#[78,97,116]⟩ [] []:Tm),(.mk 3 0 ⟨#[78,97,116]⟩ [] []:Tm)])) []),(CX.mk 4 ⟨#[]⟩ 0 (.mk 0 0 ⟨#[]⟩ [] []:Tm) (.mk 0 0 ⟨#[]⟩ [] []:Tm) 0 [] (gp.mk 0 (.mk 0 0 ⟨#[]⟩ [] []:Tm) []) ([(Hi.mk ⟨#[112,108,117,115]⟩ (.mk 6 0 ⟨#[]⟩ [] ([(.mk 3 0 ⟨#[78,97,116]⟩ [] []:Tm),XZ (.mk 6 0 ⟨#[]⟩ [] [(.mk 3 0 ⟨#[78,97,116]⟩ [] []:Tm),XZ (.mk 3 0 ⟨#[78,97,116]⟩ [] []:Tm)])]):Tm) 2 (FY.mk 1 (.mk 0 0 ⟨#[]⟩ [] []:Tm) 0 ([(GU.mk ⟨#[122,101,114,111]⟩ false (FY.mk 0 (.mk 0 0 ⟨#[]⟩ [] []:Tm) 0 [])),(GU.mk ⟨#[115,117,99,99]⟩ false (FY.mk 0 (.mk zk zi zn zl zs:Tm) 0 []))])))]))]))):AV)=_;rw[←hz];rfl,rfl⟩
end Go.Proofs.YtboammbpdaoojaaGreat
namespace Go.Eu
open Go.Abs
theorem ID {t:Tm}(h:okB t=true) (hs:size t<1000000):VF t:=⟨(CJ.1 h).nd,hs⟩
theorem ZU:Ns YT where
 nm:=by decide
 ty:=ID rfl Aw
 vl:=ID rfl Aw
 cl:=by decide
 cs:=by
  intro c hc;simp only[YT,List.mem_cons,List.not_mem_nil,or_false] at hc;rcases hc with rfl | rfl
  ·exact⟨by decide,ID rfl Aw⟩
  exact⟨by decide,ID rfl Aw⟩
 rt:=ID rfl Aw
 rl:=by decide
 rs:=by
  intro c hc;simp only[YT,List.mem_cons,List.not_mem_nil,or_false] at hc;rcases hc with rfl | rfl<;>exact ID rfl Aw
 fl:=by decide
 fs:=by intro c hc;cases hc
theorem ao:H4 SC:=⟨ID rfl Aw,by decide,⟨by decide,ID rfl Aw,by decide,trivial⟩,⟨by decide,ID rfl Aw,by decide,trivial⟩,trivial⟩
theorem XM:Ns Ru where
 nm:=by decide
 ty:=ID rfl Aw
 vl:=ID rfl Aw
 cl:=by decide
 cs:=by intro c hc;cases hc
 rt:=ID rfl Aw
 rl:=by decide
 rs:=by intro c hc;cases hc
 fl:=by decide
 fs:=by
  intro c hc;simp only[Ru,List.mem_cons,List.not_mem_nil,or_false] at hc;subst hc;exact⟨by decide,ID rfl Aw,ao⟩
theorem KQ:Gz D3:=by
 have h0:∀d∈D3,d=YT∨d=Ru:=fun d hd=>by simpa [D3] using hd
 refine⟨⟨⟨by decide,fun d hd=>?_⟩,fun d hd=>?_⟩,fun d hd=>?_,fun d hd=>?_,fun d hd=>?_⟩
 ·rcases h0 d hd with rfl | rfl
  ·exact ZU
  exact XM
 ·rcases h0 d hd with rfl | rfl
  ·exact⟨ZU,by decide,rfl,by intro t ht;simp only[YT,List.mem_cons,List.not_mem_nil,or_false] at ht;rcases ht with rfl | rfl<;>rfl,by intro f hf;cases hf⟩
  refine⟨XM,by decide,rfl,(by intro t ht;cases ht),?_⟩;intro f hf;simp only[Ru,List.mem_cons,List.not_mem_nil,or_false] at hf;subst hf;exact⟨by decide,by decide,rfl,⟨rfl,trivial⟩,⟨rfl,trivial⟩,trivial⟩
 ·rcases h0 d hd with rfl | rfl<;>decide
 ·rcases h0 d hd with rfl | rfl
  ·intro t ht;simp only[YT,List.mem_cons,List.not_mem_nil,or_false] at ht;rcases ht with rfl | rfl<;>decide
  intro t ht;cases ht
 rcases h0 d hd with rfl | rfl
 ·intro f hf;cases hf
 intro f hf;simp only[Ru,List.mem_cons,List.not_mem_nil,or_false] at hf;subst hf;decide
def ap (f x:Tm):Tm:= .mk 4 0 ⟨#[]⟩ [] [f,x]
def tQ:Tm:= .mk 5 0 ⟨#[]⟩ [] [Oz K0,vT 0]
def si:Tm:=ap (ap (Oz P4) (ap (Oz UM) (vT 3))) (vT 4)
def Lf:Tm:=ap (Oz UM) (ap (ap (Oz P4) (vT 3)) (vT 4))
def Ss:Tm:=ap (ap (Oz P4) (ap tQ (vT 3))) (vT 4)
def Nt:Tm:=ap (ap (Oz P4) (vT 3)) (vT 4)
def sZ:Tm:= .mk 9 0 ⟨#[]⟩ [] [ap tQ (vT 2)]
def PR:Tm:= .mk 9 0 ⟨#[]⟩ [] [vT 2]
def M4:Tm:=ap (.mk 12 0 ⟨#[]⟩ [] []) (vT 0)
def mT:Tm:=ap (ap (Oz P4) M4) (vT 1)
def mU:Tm:=ap (Oz UM) M4
theorem px:FF D3 CN 20 20000 si= .ok (Lf,19999):=rfl
theorem m5:FF D3 CN 20 20000 Ss= .ok (Ss,19999):=rfl
theorem l7:DY D3 CN 20 20000 Ss= .ok (some Nt,19999):=rfl
theorem pS:FF D3 CN 20 20000 sZ= .ok (PR,19999):=rfl
theorem lJ (n:Nat) (s:Int):Ii D3 CN (n+2) s M4= .ok (some 0,s):=by
 rw[VS,show FF D3 CN (n+1) s M4= .ok (M4,s) from rfl];show Jn D3 CN (n+1) (M4,s)=_;rw[S3 rfl];rfl
theorem pv:Ii D3 CN 20 20000 mT= .ok (some 0,20000):=by
 rw[VS,show FF D3 CN 19 20000 mT= .ok (mT,20000) from rfl];show Jn D3 CN 19 (mT,20000)=_;rw[Vr (f:=⟨P4,YZ (Oz K0) (YZ (Oz K0) (Oz K0)),2,SC⟩) (d:=Ru) rfl rfl rfl rfl rfl rfl Aw];show (E4 D3 CN (FF D3 CN 19) 19 SC [M4,vT 1] Bp 20000).bind (Ww D3 CN 19)=_;rw[show E4 D3 CN (FF D3 CN 19) 19 SC [M4,vT 1] Bp 20000= .ok ((none,M4),20000) from rfl];show Ww D3 CN 19 ((none,M4),20000)=_;rw[Y9 rfl rfl (H8 (by intro h;cases h))];exact lJ 17 20000
theorem qH:Ii D3 CN 20 20000 mU= .ok (none,20000):=by
 rw[VS,show FF D3 CN 19 20000 mU= .ok (mU,20000) from rfl];show Jn D3 CN 19 (mU,20000)=_;rw[RS rfl rfl rfl Aw Aw]
theorem Ys:Nd Lf∧Nd Ss∧Nd Nt∧Nd PR:=⟨(CJ.1 (show okB Lf=true from rfl)).nd,(CJ.1 (show okB Ss=true from rfl)).nd,(CJ.1 (show okB Nt=true from rfl)).nd,(CJ.1 (show okB PR=true from rfl)).nd⟩
end Go.Eu
namespace Go.Proofs.YtboammbpdaoojaaGreat
open Go.Abs Go.Eu
theorem Ta (f x:Tm):Ep Tryz.prog 34 [TV f,nL [x]] (TV (.mk 4 0 ⟨#[]⟩ [] [f,x])):=ZI f [x] (by simp[Dq])
theorem XV (f x y:Tm):Ep Tryz.prog 34 [TV f,nL [x,y]] (TV (.mk 4 0 ⟨#[]⟩ [] [(.mk 4 0 ⟨#[]⟩ [] [f,x]:Tm),y])):=ZI f [x,y] (by simp[Dq])
theorem pC:Ep Tryz.prog 12 [.p (.lst (List.map Bu D3)),TV si] (.tup [TV Lf,.p (I 0)]):=by
 have h:=Ue D3 20 si KQ (by rw[px];simp);rw[px] at h;exact h
theorem pY:Ep Tryz.prog 12 [.p (.lst (List.map Bu D3)),TV Ss] (.tup [TV Ss,.p (I 0)]):=by
 have h:=Ue D3 20 Ss KQ (by rw[m5];simp);rw[m5] at h;exact h
theorem ot:Ep Tryz.prog 16 [.p (.lst (List.map Bu D3)),TV Ss] (.tup [TV Nt,.p (.bool true),.p (I 0)]):=by
 have h:=ZB D3 20 Ss KQ (by rw[l7];simp) (by rw[l7];intro q c e;cases e;rfl);rw[l7] at h;exact h
theorem qG:Ep Tryz.prog 12 [.p (.lst (List.map Bu D3)),TV sZ] (.tup [TV PR,.p (I 0)]):=by
 have h:=Ue D3 20 sZ KQ (by rw[pS];simp);rw[pS] at h;exact h
theorem pc:Ep Tryz.prog 18 [.p (.lst (List.map Bu D3)),TV mT] (.tup [.p (I 0),.p (.bool true),.p (I 0)]):=by
 have h:=dr D3 20 mT KQ (by rw[pv];simp);rw[pv] at h;exact h
theorem mh:Ep Tryz.prog 18 [.p (.lst (List.map Bu D3)),TV mU] (.tup [.p (I 0),.p (.bool false),.p (I 0)]):=by
 have h:=dr D3 20 mU KQ (by rw[qH];simp);rw[qH] at h;exact h
theorem iC:Ep Tryz.prog 15 [TV Lf,TV Lf] (.p (.bool true)):=by
 have h:=NY 1000 Lf Lf Aw Ys.1;rw[Gd rfl] at h;exact h
theorem iZ:Ep Tryz.prog 15 [TV Ss,TV Ss] (.p (.bool true)):=by
 have h:=NY 1000 Ss Ss Aw Ys.2.1;rw[Gd rfl] at h;exact h
theorem j6:Ep Tryz.prog 15 [TV Nt,TV Nt] (.p (.bool true)):=by
 have h:=NY 1000 Nt Nt Aw Ys.2.2.1;rw[Gd rfl] at h;exact h
theorem iH:Ep Tryz.prog 15 [TV PR,TV PR] (.p (.bool true)):=by
 have h:=NY 1000 PR PR Aw Ys.2.2.2;rw[Gd rfl] at h;exact h
set_option maxHeartbeats 4000000 in
theorem N6:Ep Tryz.prog 11 [] (.p (.bool true)):=by
 refine BF Tryz.func11 O rA (n:=188) O O (A2 (HO (M:=⟨188,mk [],[],[]⟩) (EM Az (List.Sublist.refl _)) (BC (A1 A7 1 [] O (A2 (HO (M:=⟨188,mk [],[],[]⟩) (EM Az (List.Sublist.refl _)) (BC (A1 A7 1 [] O (A2 (HO (M:=⟨188,mk [(1,.p (.fn 33))],[],[]⟩) (EM ⟨O,Az⟩ (List.Sublist.refl _)) (BC (A1 A7 1 [] O (A2 (HO (M:=⟨188,mk [(1,.p (.fn 33)),(2,.p (.fn 34))],[],[]⟩) (EM ⟨O,O,Az⟩ (List.Sublist.refl _)) (BC (A0 O (BL O O (I1 ⟨#[78,97,116]⟩) O) (B3 O (A0 O (BL O O (Ka 0) O) (A0 O (B8 (rows:=BN ([(.mk 3 0 ⟨#[78,97,116]⟩ [] []),(.mk 0 0 ⟨#[]⟩ [] [])])) Bk B4 O O O O (CM (B1 _)) (FR _)) (A0 O (Ca HA B4 O) (BO O (BG B4 O) fun b3=>A1 A7 1 [0,0] O ?_)))))))))))))))))))));refine A2 (HO (M:=⟨188,mk [(1,.p (.fn 33)),(2,.p (.fn 34)),(3,.ptr b3 0)],[.box b3 [.p (I 5),.p (I 0),.p (.str ⟨#[]⟩),.p (.nils),.p (.lst (BN ([(.mk 3 0 ⟨#[78,97,116]⟩ [] []),(.mk 0 0 ⟨#[]⟩ [] [])])))]],[]⟩) (EM ⟨O,O,O,Az⟩ (List.Sublist.refl _)) (BC (A0 O (BL O O (jX ) O) (A1 A7 1 [] O (A2 (HO (M:=⟨188,mk [(1,.p (.fn 33)),(2,.p (.fn 34)),(3,.ptr b3 0),(4,.p (.lst (List.map Bu D3)))],[.box b3 [.p (I 5),.p (I 0),.p (.str ⟨#[]⟩),.p (.nils),.p (.lst (BN ([(.mk 3 0 ⟨#[78,97,116]⟩ [] []),(.mk 0 0 ⟨#[]⟩ [] [])])))]],[]⟩) (EM ⟨O,O,O,O,Az⟩ (List.Sublist.refl _)) (BC (A5 A7 2 [] O (A0 O (BL O O (I1 ⟨#[112,108,117,115]⟩) O) (B3 O (A0 O (BL O O (I1 ⟨#[115,117,99,99]⟩) O) (B3 O (A0 O (BL O O (Ka 3) O) ?_)))))))))))));refine A0 O (B8 (rows:=BN ([(.mk 0 3 ⟨#[]⟩ [] [])])) Bk B4 O O O O (CM (B1 _)) (FR _)) (A0 O (BL O O (Ta (.mk 3 0 ⟨#[115,117,99,99]⟩ [] []) (.mk 0 3 ⟨#[]⟩ [] []:Tm)) O) (B3 O (A0 O (BL O O (Ka 4) O) (A0 O (B8 (rows:=BN ([(.mk 4 0 ⟨#[]⟩ [] [(.mk 3 0 ⟨#[115,117,99,99]⟩ [] []),(.mk 0 3 ⟨#[]⟩ [] []:Tm)]),(.mk 0 4 ⟨#[]⟩ [] [])])) Bk B4 O O O O (CM (B1 _)) (FR _)) (A0 O (BL O O (XV (.mk 3 0 ⟨#[112,108,117,115]⟩ [] []) (.mk 4 0 ⟨#[]⟩ [] [(.mk 3 0 ⟨#[115,117,99,99]⟩ [] []:Tm),(.mk 0 3 ⟨#[]⟩ [] []:Tm)]:Tm) (.mk 0 4 ⟨#[]⟩ [] []:Tm)) O) (A0 O (BL O O (pC ) O) (A5 A7 3 [] O (BO O (BG B4 O) fun b5=>A1 A7 2 [0,1] O (A2 ?_)))))))))
 refine HO (M:=⟨188,mk [(1,.p (.fn 33)),(2,.p (.fn 34)),(3,.ptr b3 0),(4,.p (.lst (List.map Bu D3))),(5,.ptr b5 0),(6,.p (I 0))],[.box b5 ((Bb Lf).map .p),.box b3 [.p (I 5),.p (I 0),.p (.str ⟨#[]⟩),.p (.nils),.p (.lst (BN ([(.mk 3 0 ⟨#[78,97,116]⟩ [] []),(.mk 0 0 ⟨#[]⟩ [] [])])))]],[]⟩) (EM ⟨O,O,O,O,O,O,Az⟩ (List.Sublist.refl _)) ?_;refine UO [.val (.p (.fn 34)),.val (.agg ((Bb (.mk 3 0 ⟨#[112,108,117,115]⟩ [] [])).map .p)),.val (.p (.fn 34)),.val (.agg [.p (I 5),.p (I 0),.p (.str ⟨#[]⟩),.p (.nils),.p (.lst (BN ([(.mk 3 0 ⟨#[78,97,116]⟩ [] []),(.mk 0 0 ⟨#[]⟩ [] [])])))]),.val (.p (.fn 33)),.val (.agg ((Bb (.mk 0 3 ⟨#[]⟩ [] [])).map .p)),.val (.p (.lst (BN ([(.mk 0 3 ⟨#[]⟩ [] [])])))),.val (.agg ((Bb (.mk 4 0 ⟨#[]⟩ [] [(.mk 5 0 ⟨#[]⟩ [] ([(.mk 3 0 ⟨#[78,97,116]⟩ [] []),(.mk 0 0 ⟨#[]⟩ [] [])]):Tm),(.mk 0 3 ⟨#[]⟩ [] []:Tm)])).map .p)),.val (.p (.fn 33)),.val (.agg ((Bb (.mk 0 4 ⟨#[]⟩ [] [])).map .p)),.val (.p (.lst (BN ([(.mk 4 0 ⟨#[]⟩ [] [(.mk 5 0 ⟨#[]⟩ [] ([(.mk 3 0 ⟨#[78,97,116]⟩ [] []),(.mk 0 0 ⟨#[]⟩ [] [])]):Tm),(.mk 0 3 ⟨#[]⟩ [] []:Tm)]),(.mk 0 4 ⟨#[]⟩ [] [])])))),.val (.agg ((Bb (.mk 4 0 ⟨#[]⟩ [] [(.mk 4 0 ⟨#[]⟩ [] [(.mk 3 0 ⟨#[112,108,117,115]⟩ [] []),(.mk 4 0 ⟨#[]⟩ [] [(.mk 5 0 ⟨#[]⟩ [] [(.mk 3 0 ⟨#[78,97,116]⟩ [] []:Tm),(.mk 0 0 ⟨#[]⟩ [] []:Tm)]:Tm),(.mk 0 3 ⟨#[]⟩ [] []:Tm)]:Tm)]:Tm),(.mk 0 4 ⟨#[]⟩ [] []:Tm)])).map .p)),.new [.p (I 0),.p (I 0),.p (.str ⟨#[]⟩),.p (.nils),.p (.nils)]] Dt O As As ?_;refine D7 O (fun Bs=>Bi O) (D7 O (fun Bs=>BL O O (I1 ⟨#[112,108,117,115]⟩) O) (D7 O (fun Bs=>Bi O) (D7 O (fun Bs=>Bf (i:=Bs.length+1) Bg O (Ck O) O) (D7 O (fun Bs=>Bi O) (D7 O (fun Bs=>BL O O (Ka 3) O) (D7 O (fun Bs=>B8 (rows:=BN ([(.mk 0 3 ⟨#[]⟩ [] [])])) Bk B4 O O O O (CM (B1 _)) (FR _)) (D7 O (fun Bs=>GR O O (Ta (.mk 5 0 ⟨#[]⟩ [] ([(.mk 3 0 ⟨#[78,97,116]⟩ [] []),(.mk 0 0 ⟨#[]⟩ [] [])]):Tm) (.mk 0 3 ⟨#[]⟩ [] []:Tm)) (aw (Dv O) (aw (we O) (FM)))) (D7 O (fun Bs=>Bi O) (D7 O (fun Bs=>BL O O (Ka 4) O) ?_)))))))))
 refine D7 O (fun Bs=>B8 (rows:=BN ([(.mk 4 0 ⟨#[]⟩ [] [(.mk 5 0 ⟨#[]⟩ [] ([(.mk 3 0 ⟨#[78,97,116]⟩ [] []),(.mk 0 0 ⟨#[]⟩ [] [])]):Tm),(.mk 0 3 ⟨#[]⟩ [] []:Tm)]),(.mk 0 4 ⟨#[]⟩ [] [])])) Bk B4 O O O O (CM (B1 _)) (FR _)) (D7 O (fun Bs=>BL O O (XV (.mk 3 0 ⟨#[112,108,117,115]⟩ [] []) (.mk 4 0 ⟨#[]⟩ [] [(.mk 5 0 ⟨#[]⟩ [] [(.mk 3 0 ⟨#[78,97,116]⟩ [] []:Tm),(.mk 0 0 ⟨#[]⟩ [] []:Tm)]:Tm),(.mk 0 3 ⟨#[]⟩ [] []:Tm)]:Tm) (.mk 0 4 ⟨#[]⟩ [] []:Tm)) O) (YA O (fun Bs=>BG B4 O) fun b7=>YV ?_))
 change AL _ _ _ 13 ⟨188,_,[.box b7 [.p (I 0),.p (I 0),.p (.str ⟨#[]⟩),.p (.nils),.p (.nils)],.box b5 ((Bb Lf).map .p),.box b3 [.p (I 5),.p (I 0),.p (.str ⟨#[]⟩),.p (.nils),.p (.lst (BN ([(.mk 3 0 ⟨#[78,97,116]⟩ [] []),(.mk 0 0 ⟨#[]⟩ [] [])])))]],[]⟩ _
 refine A1 A7 1 [0,1] O (A2 (HO (M:=⟨188,mk [(1,.p (.fn 33)),(2,.p (.fn 34)),(3,.ptr b3 0),(4,.p (.lst (List.map Bu D3))),(5,.ptr b5 0),(6,.p (I 0)),(7,.ptr b7 0)],[.box b7 ((Bb (.mk 4 0 ⟨#[]⟩ [] [(.mk 4 0 ⟨#[]⟩ [] [(.mk 3 0 ⟨#[112,108,117,115]⟩ [] []),(.mk 4 0 ⟨#[]⟩ [] [(.mk 5 0 ⟨#[]⟩ [] [(.mk 3 0 ⟨#[78,97,116]⟩ [] []:Tm),(.mk 0 0 ⟨#[]⟩ [] []:Tm)]:Tm),(.mk 0 3 ⟨#[]⟩ [] []:Tm)]:Tm)]:Tm),(.mk 0 4 ⟨#[]⟩ [] []:Tm)])).map .p),.box b5 ((Bb Lf).map .p),.box b3 [.p (I 5),.p (I 0),.p (.str ⟨#[]⟩),.p (.nils),.p (.lst (BN ([(.mk 3 0 ⟨#[78,97,116]⟩ [] []),(.mk 0 0 ⟨#[]⟩ [] [])])))]],[]⟩) (EM ⟨O,O,O,O,O,O,O,Az⟩ (List.Sublist.refl _)) (BC (A5 A7 2 [0] O (A0 O (BL O O (pY ) O) (A5 A7 3 [] O (BO O (BG B4 O) fun b8=>A1 A7 2 [0,1] O (A2 ?_))))))));refine HO (M:=⟨188,mk [(1,.p (.fn 33)),(2,.p (.fn 34)),(3,.ptr b3 0),(4,.p (.lst (List.map Bu D3))),(5,.ptr b5 0),(6,.p (I 0)),(7,.ptr b7 0),(8,.ptr b8 0),(9,.p (I 0))],[.box b8 ((Bb Ss).map .p),.box b7 ((Bb (.mk 4 0 ⟨#[]⟩ [] [(.mk 4 0 ⟨#[]⟩ [] [(.mk 3 0 ⟨#[112,108,117,115]⟩ [] []),(.mk 4 0 ⟨#[]⟩ [] [(.mk 5 0 ⟨#[]⟩ [] [(.mk 3 0 ⟨#[78,97,116]⟩ [] []:Tm),(.mk 0 0 ⟨#[]⟩ [] []:Tm)]:Tm),(.mk 0 3 ⟨#[]⟩ [] []:Tm)]:Tm)]:Tm),(.mk 0 4 ⟨#[]⟩ [] []:Tm)])).map .p),.box b5 ((Bb Lf).map .p),.box b3 [.p (I 5),.p (I 0),.p (.str ⟨#[]⟩),.p (.nils),.p (.lst (BN ([(.mk 3 0 ⟨#[78,97,116]⟩ [] []),(.mk 0 0 ⟨#[]⟩ [] [])])))]],[]⟩) (EM ⟨O,O,O,O,O,O,O,O,O,Az⟩ (List.Sublist.refl _)) (BC (A5 A7 2 [1] O (A0 O (BL O O (ot ) O) (A5 A7 4 [] O (BO O (BG B4 O) fun b10=>?_)))))
 refine A1 A7 3 [0,1] O (A2 (HO (M:=⟨188,mk [(1,.p (.fn 33)),(2,.p (.fn 34)),(3,.ptr b3 0),(4,.p (.lst (List.map Bu D3))),(5,.ptr b5 0),(6,.p (I 0)),(7,.ptr b7 0),(8,.ptr b8 0),(9,.p (I 0)),(10,.ptr b10 0),(11,.p (.bool true)),(12,.p (I 0))],[.box b10 ((Bb Nt).map .p),.box b8 ((Bb Ss).map .p),.box b7 ((Bb (.mk 4 0 ⟨#[]⟩ [] [(.mk 4 0 ⟨#[]⟩ [] [(.mk 3 0 ⟨#[112,108,117,115]⟩ [] []),(.mk 4 0 ⟨#[]⟩ [] [(.mk 5 0 ⟨#[]⟩ [] [(.mk 3 0 ⟨#[78,97,116]⟩ [] []:Tm),(.mk 0 0 ⟨#[]⟩ [] []:Tm)]:Tm),(.mk 0 3 ⟨#[]⟩ [] []:Tm)]:Tm)]:Tm),(.mk 0 4 ⟨#[]⟩ [] []:Tm)])).map .p),.box b5 ((Bb Lf).map .p),.box b3 [.p (I 5),.p (I 0),.p (.str ⟨#[]⟩),.p (.nils),.p (.lst (BN ([(.mk 3 0 ⟨#[78,97,116]⟩ [] []),(.mk 0 0 ⟨#[]⟩ [] [])])))]],[]⟩) (EM ⟨O,O,O,O,O,O,O,O,O,O,O,O,Az⟩ (List.Sublist.refl _)) ?_));refine B0 (fun k=>Nat.beq k 13) Dt (BZ A7 4 [4] O (BP O (fun _=>BL O O (Ka 2) O) Az (BP O (fun _=>B8 (rows:=BN ([(.mk 0 2 ⟨#[]⟩ [] [])])) Bk B4 O O O O (CM (B1 _)) (FR _)) Az (BP O (fun _=>GR O O (Ta (.mk 5 0 ⟨#[]⟩ [] ([(.mk 3 0 ⟨#[78,97,116]⟩ [] []),(.mk 0 0 ⟨#[]⟩ [] [])]):Tm) (.mk 0 2 ⟨#[]⟩ [] []:Tm)) (aw (Dv O) (aw (we O) (FM)))) Az (BP O (fun _=>B8 (rows:=BN ([(.mk 4 0 ⟨#[]⟩ [] [(.mk 5 0 ⟨#[]⟩ [] ([(.mk 3 0 ⟨#[78,97,116]⟩ [] []),(.mk 0 0 ⟨#[]⟩ [] [])]):Tm),(.mk 0 2 ⟨#[]⟩ [] []:Tm)])])) Bk B4 O O O O (CM (B1 _)) (FR _)) Az (BP O (fun _=>Ca HA B4 O) Az (BP O (fun _=>GR O O (qG ) (aw (we O) (aw (Dv O) (FM)))) Az (BZ A7 3 [] O (GA [] O O (BG B4 O) As fun b13=>⟨AB,Az,?_⟩)))))))));refine Bt A7 2 [0,1] O (A2 ?_)
 refine HO (M:=⟨188,mk [(1,.p (.fn 33)),(2,.p (.fn 34)),(4,.p (.lst (List.map Bu D3))),(5,.ptr b5 0),(6,.p (I 0)),(7,.ptr b7 0),(8,.ptr b8 0),(9,.p (I 0)),(10,.ptr b10 0),(11,.p (.bool true)),(12,.p (I 0)),(13,.ptr b13 0),(14,.p (I 0))],[.box b13 ((Bb PR).map .p),.box b10 ((Bb Nt).map .p),.box b8 ((Bb Ss).map .p),.box b7 ((Bb (.mk 4 0 ⟨#[]⟩ [] [(.mk 4 0 ⟨#[]⟩ [] [(.mk 3 0 ⟨#[112,108,117,115]⟩ [] []),(.mk 4 0 ⟨#[]⟩ [] [(.mk 5 0 ⟨#[]⟩ [] [(.mk 3 0 ⟨#[78,97,116]⟩ [] []:Tm),(.mk 0 0 ⟨#[]⟩ [] []:Tm)]:Tm),(.mk 0 3 ⟨#[]⟩ [] []:Tm)]:Tm)]:Tm),(.mk 0 4 ⟨#[]⟩ [] []:Tm)])).map .p),.box b5 ((Bb Lf).map .p),.box b3 [.p (I 5),.p (I 0),.p (.str ⟨#[]⟩),.p (.nils),.p (.lst (BN ([(.mk 3 0 ⟨#[78,97,116]⟩ [] []),(.mk 0 0 ⟨#[]⟩ [] [])])))]],[]⟩) (EM ⟨O,O,O,O,O,O,O,O,O,O,O,O,O,Az⟩ (List.Sublist.refl _)) ?_;refine BC (A5 A7 3 [] O (A0 O (BL O O (Ka 0) O) (A0 O (B8 (rows:=BN ([(.mk 0 0 ⟨#[]⟩ [] [])])) Bk B4 O O O O (CM (B1 _)) (FR _)) (A0 O (GR O O (Ta (.mk 12 0 ⟨#[]⟩ [] []:Tm) (.mk 0 0 ⟨#[]⟩ [] []:Tm)) (aw (Dv O) (aw (we O) (FM)))) (BO O (BG B4 O) fun b15=>A1 A7 1 [0,1] O (A2 ?_))))));refine HO (M:=⟨188,mk [(1,.p (.fn 33)),(2,.p (.fn 34)),(4,.p (.lst (List.map Bu D3))),(5,.ptr b5 0),(6,.p (I 0)),(7,.ptr b7 0),(8,.ptr b8 0),(9,.p (I 0)),(10,.ptr b10 0),(11,.p (.bool true)),(12,.p (I 0)),(13,.ptr b13 0),(14,.p (I 0)),(15,.ptr b15 0)],[.box b15 ((Bb (.mk 4 0 ⟨#[]⟩ [] [(.mk 12 0 ⟨#[]⟩ [] []:Tm),(.mk 0 0 ⟨#[]⟩ [] []:Tm)])).map .p),.box b13 ((Bb PR).map .p),.box b10 ((Bb Nt).map .p),.box b8 ((Bb Ss).map .p),.box b7 ((Bb (.mk 4 0 ⟨#[]⟩ [] [(.mk 4 0 ⟨#[]⟩ [] [(.mk 3 0 ⟨#[112,108,117,115]⟩ [] []),(.mk 4 0 ⟨#[]⟩ [] [(.mk 5 0 ⟨#[]⟩ [] [(.mk 3 0 ⟨#[78,97,116]⟩ [] []:Tm),(.mk 0 0 ⟨#[]⟩ [] []:Tm)]:Tm),(.mk 0 3 ⟨#[]⟩ [] []:Tm)]:Tm)]:Tm),(.mk 0 4 ⟨#[]⟩ [] []:Tm)])).map .p),.box b5 ((Bb Lf).map .p),.box b3 [.p (I 5),.p (I 0),.p (.str ⟨#[]⟩),.p (.nils),.p (.lst (BN ([(.mk 3 0 ⟨#[78,97,116]⟩ [] []),(.mk 0 0 ⟨#[]⟩ [] [])])))]],[]⟩) (EM ⟨O,O,O,O,O,O,O,O,O,O,O,O,O,O,Az⟩ (List.Sublist.refl _)) ?_
 refine B0 (fun k=>false) Dt (BZ A7 2 [] O (BP O (fun _=>BL O O (I1 ⟨#[112,108,117,115]⟩) O) Az (BZ A7 2 [0] O (BP O (fun _=>BL O O (Ka 1) O) Az (BP O (fun _=>B8 (rows:=BN ([(.mk 4 0 ⟨#[]⟩ [] [(.mk 12 0 ⟨#[]⟩ [] []:Tm),(.mk 0 0 ⟨#[]⟩ [] []:Tm)]),(.mk 0 1 ⟨#[]⟩ [] [])])) Bk B4 O O O O (CM (B1 _)) (FR _)) Az (BP O (fun _=>BL O O (XV (.mk 3 0 ⟨#[112,108,117,115]⟩ [] []) (.mk 4 0 ⟨#[]⟩ [] [(.mk 12 0 ⟨#[]⟩ [] []:Tm),(.mk 0 0 ⟨#[]⟩ [] []:Tm)]:Tm) (.mk 0 1 ⟨#[]⟩ [] []:Tm)) O) Az (BP O (fun _=>BL O O (pc ) O) Az (Bt A7 7 [] O (A2 ?_)))))))));refine HO (M:=⟨188,mk [(1,.p (.fn 33)),(2,.p (.fn 34)),(4,.p (.lst (List.map Bu D3))),(5,.ptr b5 0),(6,.p (I 0)),(7,.ptr b7 0),(8,.ptr b8 0),(9,.p (I 0)),(10,.ptr b10 0),(11,.p (.bool true)),(12,.p (I 0)),(13,.ptr b13 0),(14,.p (I 0)),(15,.ptr b15 0),(16,.p (I 0)),(17,.p (.bool true)),(18,.p (I 0))],[.box b15 ((Bb (.mk 4 0 ⟨#[]⟩ [] [(.mk 12 0 ⟨#[]⟩ [] []:Tm),(.mk 0 0 ⟨#[]⟩ [] []:Tm)])).map .p),.box b13 ((Bb PR).map .p),.box b10 ((Bb Nt).map .p),.box b8 ((Bb Ss).map .p),.box b7 ((Bb (.mk 4 0 ⟨#[]⟩ [] [(.mk 4 0 ⟨#[]⟩ [] [(.mk 3 0 ⟨#[112,108,117,115]⟩ [] []),(.mk 4 0 ⟨#[]⟩ [] [(.mk 5 0 ⟨#[]⟩ [] [(.mk 3 0 ⟨#[78,97,116]⟩ [] []:Tm),(.mk 0 0 ⟨#[]⟩ [] []:Tm)]:Tm),(.mk 0 3 ⟨#[]⟩ [] []:Tm)]:Tm)]:Tm),(.mk 0 4 ⟨#[]⟩ [] []:Tm)])).map .p),.box b5 ((Bb Lf).map .p),.box b3 [.p (I 5),.p (I 0),.p (.str ⟨#[]⟩),.p (.nils),.p (.lst (BN ([(.mk 3 0 ⟨#[78,97,116]⟩ [] []),(.mk 0 0 ⟨#[]⟩ [] [])])))]],[]⟩) (EM ⟨O,O,O,O,O,O,O,O,O,O,O,O,O,O,O,O,O,Az⟩ (List.Sublist.refl _)) ?_;refine B0 (fun k=>false) Dt (BZ A7 2 [] O (BP O (fun _=>BL O O (I1 ⟨#[115,117,99,99]⟩) O) Az (BZ A7 1 [0] O (BP O (fun _=>B8 (rows:=BN ([(.mk 4 0 ⟨#[]⟩ [] [(.mk 12 0 ⟨#[]⟩ [] []:Tm),(.mk 0 0 ⟨#[]⟩ [] []:Tm)])])) Bk B4 O O O O (CM (B1 _)) (FR _)) Az (BP O (fun _=>BL O O (Ta (.mk 3 0 ⟨#[115,117,99,99]⟩ [] []) (.mk 4 0 ⟨#[]⟩ [] [(.mk 12 0 ⟨#[]⟩ [] []:Tm),(.mk 0 0 ⟨#[]⟩ [] []:Tm)]:Tm)) O) Az (BP O (fun _=>BL O O (mh ) O) Az (Bt A7 7 [] O (A2 (A2 ?_)))))))))
 refine HO (M:=⟨188,mk [(1,.p (.fn 33)),(2,.p (.fn 34)),(5,.ptr b5 0),(6,.p (I 0)),(7,.ptr b7 0),(8,.ptr b8 0),(9,.p (I 0)),(10,.ptr b10 0),(11,.p (.bool true)),(12,.p (I 0)),(13,.ptr b13 0),(14,.p (I 0)),(16,.p (I 0)),(17,.p (.bool true)),(18,.p (I 0)),(20,.p (.bool false)),(21,.p (I 0))],[.box b15 ((Bb (.mk 4 0 ⟨#[]⟩ [] [(.mk 12 0 ⟨#[]⟩ [] []:Tm),(.mk 0 0 ⟨#[]⟩ [] []:Tm)])).map .p),.box b13 ((Bb PR).map .p),.box b10 ((Bb Nt).map .p),.box b8 ((Bb Ss).map .p),.box b7 ((Bb (.mk 4 0 ⟨#[]⟩ [] [(.mk 4 0 ⟨#[]⟩ [] [(.mk 3 0 ⟨#[112,108,117,115]⟩ [] []),(.mk 4 0 ⟨#[]⟩ [] [(.mk 5 0 ⟨#[]⟩ [] [(.mk 3 0 ⟨#[78,97,116]⟩ [] []:Tm),(.mk 0 0 ⟨#[]⟩ [] []:Tm)]:Tm),(.mk 0 3 ⟨#[]⟩ [] []:Tm)]:Tm)]:Tm),(.mk 0 4 ⟨#[]⟩ [] []:Tm)])).map .p),.box b5 ((Bb Lf).map .p),.box b3 [.p (I 5),.p (I 0),.p (.str ⟨#[]⟩),.p (.nils),.p (.lst (BN ([(.mk 3 0 ⟨#[78,97,116]⟩ [] []),(.mk 0 0 ⟨#[]⟩ [] [])])))]],[]⟩) (EM ⟨O,O,O,O,O,O,O,O,O,O,O,O,O,O,O,O,O,Az⟩ (List.Sublist.refl _)) ?_;refine BC (A1 A7 22 [] O ?_);refine A4 O (fun c=>by cases c) (fun c=>?_);refine BA (A2 ?_);refine HO (M:=⟨188,mk [(1,.p (.fn 33)),(2,.p (.fn 34)),(5,.ptr b5 0),(7,.ptr b7 0),(8,.ptr b8 0),(10,.ptr b10 0),(11,.p (.bool true)),(13,.ptr b13 0),(16,.p (I 0)),(17,.p (.bool true)),(20,.p (.bool false))],[.box b15 ((Bb (.mk 4 0 ⟨#[]⟩ [] [(.mk 12 0 ⟨#[]⟩ [] []:Tm),(.mk 0 0 ⟨#[]⟩ [] []:Tm)])).map .p),.box b13 ((Bb PR).map .p),.box b10 ((Bb Nt).map .p),.box b8 ((Bb Ss).map .p),.box b7 ((Bb (.mk 4 0 ⟨#[]⟩ [] [(.mk 4 0 ⟨#[]⟩ [] [(.mk 3 0 ⟨#[112,108,117,115]⟩ [] []),(.mk 4 0 ⟨#[]⟩ [] [(.mk 5 0 ⟨#[]⟩ [] [(.mk 3 0 ⟨#[78,97,116]⟩ [] []:Tm),(.mk 0 0 ⟨#[]⟩ [] []:Tm)]:Tm),(.mk 0 3 ⟨#[]⟩ [] []:Tm)]:Tm)]:Tm),(.mk 0 4 ⟨#[]⟩ [] []:Tm)])).map .p),.box b5 ((Bb Lf).map .p),.box b3 [.p (I 5),.p (I 0),.p (.str ⟨#[]⟩),.p (.nils),.p (.lst (BN ([(.mk 3 0 ⟨#[78,97,116]⟩ [] []),(.mk 0 0 ⟨#[]⟩ [] [])])))]],[]⟩) (EM ⟨O,O,O,O,O,O,O,O,O,O,O,Az⟩ (List.Sublist.refl _)) ?_
 refine B0 (fun k=>false) Dt (BZ A7 2 [5] O (BP O (fun _=>BL O O (I1 ⟨#[115,117,99,99]⟩) O) Az (BP O (fun _=>Bi O) Az (BP O (fun _=>BL O O (I1 ⟨#[112,108,117,115]⟩) O) Az (BP O (fun _=>Bi O) Az (BP O (fun _=>BL O O (Ka 3) O) Az (BP O (fun _=>Bi O) Az (BP O (fun _=>BL O O (Ka 4) O) Az (BP O (fun _=>B8 (rows:=BN ([(.mk 0 3 ⟨#[]⟩ [] []),(.mk 0 4 ⟨#[]⟩ [] [])])) Bk B4 O O O O (CM (B1 _)) (FR _)) Az (BP O (fun _=>BL O O (XV (.mk 3 0 ⟨#[112,108,117,115]⟩ [] []) (.mk 0 3 ⟨#[]⟩ [] []:Tm) (.mk 0 4 ⟨#[]⟩ [] []:Tm)) O) Az ?_))))))))));refine BP O (fun _=>B8 (rows:=BN ([(.mk 4 0 ⟨#[]⟩ [] [(.mk 4 0 ⟨#[]⟩ [] [(.mk 3 0 ⟨#[112,108,117,115]⟩ [] []),(.mk 0 3 ⟨#[]⟩ [] []:Tm)]:Tm),(.mk 0 4 ⟨#[]⟩ [] []:Tm)])])) Bk B4 O O O O (CM (B1 _)) (FR _)) Az (BP O (fun _=>BL O O (Ta (.mk 3 0 ⟨#[115,117,99,99]⟩ [] []) (.mk 4 0 ⟨#[]⟩ [] [(.mk 4 0 ⟨#[]⟩ [] [(.mk 3 0 ⟨#[112,108,117,115]⟩ [] []:Tm),(.mk 0 3 ⟨#[]⟩ [] []:Tm)]:Tm),(.mk 0 4 ⟨#[]⟩ [] []:Tm)]:Tm)) O) Az (BP O (fun _=>BL O O (iC ) O) Az (BZ A7 3 [3,4] O (Cm O (fun _=>BL O O (iZ ) O) Az (BZ A7 7 [2] O (Cm O (fun _=>BL O O (I1 ⟨#[112,108,117,115]⟩) O) Az (Cm O (fun _=>Bi O) Az (Cm O (fun _=>BL O O (Ka 3) O) Az (Cm O (fun _=>Bi O) Az (Cm O (fun _=>BL O O (Ka 4) O) Az ?_))))))))));refine Cm O (fun _=>B8 (rows:=BN ([(.mk 0 3 ⟨#[]⟩ [] []),(.mk 0 4 ⟨#[]⟩ [] [])])) Bk B4 O O O O (CM (B1 _)) (FR _)) Az (Cm O (fun _=>BL O O (XV (.mk 3 0 ⟨#[112,108,117,115]⟩ [] []) (.mk 0 3 ⟨#[]⟩ [] []:Tm) (.mk 0 4 ⟨#[]⟩ [] []:Tm)) O) Az (Cm O (fun _=>BL O O (j6 ) O) Az (BZ A7 4 [1] O (Cm O (fun _=>BL O O (Ka 2) O) Az (Cm O (fun _=>B8 (rows:=BN ([(.mk 0 2 ⟨#[]⟩ [] [])])) Bk B4 O O O O (CM (B1 _)) (FR _)) Az (Cm O (fun _=>Ca HA B4 O) Az (Cm O (fun _=>GR O O (iH ) (aw (we O) (aw (Dv O) (FM)))) Az (Bt A7 13 [] O (A9 (⟨O,_,_,⟨_,_,O,O,O⟩,(List.nil_sublist _),?_⟩))))))))))
 all_goals exact⟨rfl,rfl⟩
theorem Vq:∀(n:Nat) (l:List Tm) (most:Int),Bl l≤n→jR l→l.length<wide→Ep Tryz.prog 29 [.p (I most),nL l] (.p (I (Eo l most 0))):=by
 intro n
 induction n using Nat.strongRecOn with
 | ind n ih =>
  intro l most hs hnd hlen;simp only[wide] at hlen;refine BF Tryz.func29 O rK (n:=29) O O (A3 A7 1 [] O (A3 A7 1 [] O (A2 (A6 (B3 O (A0 O (DE Bk O) (A1 A7 1 [] O (BJ (Bn (α:=Nat×Int) (fun s=>⟨29,mk [(0,.p (I most)),(5,.p (I s.2)),(8,nL l),(9,.p (I (BN l).length)),(10,.p (I s.1))],[],[]⟩) (fun s=>l.length - s.1) (fun s=>s.1≤l.length∧Eo (l.drop s.1) most s.2=Eo l most 0) ((0,0)) Ay ?_ ?_)))))))))
  ·exact EM ⟨O,O,O,O,O,Az⟩ AA
  rintro⟨i,m⟩ ⟨hi,hC⟩;simp only at hi hC;refine A3 A7 1 [] O (A2 (A4 O (fun c1=>?_) (fun c1=>?_)))
  ·(try simp only[sd] at c1);have hi2:i<l.length:=by rw[Bc] at c1;omega
   obtain⟨t,hk⟩:=BE hi2;have hks:=Co hk;obtain⟨kd,ix,nm,ls,ks⟩:=t;have hnt:=Qd hnd hk;simp only[Wd] at hnt;simp only[size] at hks;refine BA (A2 (BJ (A6 (A0 O (BD Bk O O Ax (Bj hk) (BM _)) (A0 O (BU Bg O (BM _)) (BO O (BG B4 O) fun b7=>A1 A7 1 [0,0] O (A2 (A3 A7 3 [] O (A4 O (fun c2=>?_) (fun c2=>?_))))))))))
   ·(try simp only[sd] at c2);refine A3 A7 2 [] O (A9 ⟨O,_,[],Bv O,List.nil_sublist _,?_⟩);exact⟨pI (by rw[←hC,UG hk,if_pos Ax]),O⟩
   (try simp only[sd] at c2);refine BA (BC (A5 A7 3 [] O (A0 O (JW O O) (A5 A7 2 [0] O (A0 O (BL O O (ih (Bl ks) Ax ks _ (Nat.le_refl _) hnt.2.2.2.2.1 hnt.2.2.2.1) O) (A0 O (ES O O) (A0 O (ES O O) (A1 A7 1 [] O (BC (A1 A7 2 [] O ?_))))))))));exact⟨(i+1,wr (m+wr (1+Eo ks (wr (most - m)) 0))),Ar,⟨by omega,by rw[←hC,UG hk,if_neg Ax,Es]⟩,EM ⟨rfl,rfl,rfl,rfl,rfl,trivial⟩ AA⟩
  (try simp only[sd] at c1);have hi2:i=l.length:=by rw[Bc] at c1;omega
  refine Bo (A3 A7 2 [] O (A9 ⟨O,_,[],Bv O,List.nil_sublist _,?_⟩));exact⟨pI (by rw[←hC,hi2,List.drop_length];rfl),O⟩
theorem mB:∀(x:Ci),(mW x)→Ep Tryz.prog 100 [.agg ((B9 x).map .p)] (.p (.bool (decide ((x.vars.length:Int) > 20)))):=by
 intro x h1;refine BF Tryz.func100 O nq (n:=7) O O (A6 (BO O (Ba O) fun b1=>A1 A7 1 [] O (A6 (A5 A7 2 [0] O (A0 O (BT Ch O (List.length_map _)) (A1 A7 2 [] O (A9 (⟨O,_,_,⟨_,_,O,O,O⟩,(List.nil_sublist _),?_⟩))))))))
 all_goals exact⟨rfl,rfl⟩
theorem lI:∀(l:List Ci),(l.length<wide)→(∀x∈l,mW x)→GO Tryz.prog 130 [.p (.lst (List.map B9 l)),.p (.fn 100)] (fun v=>∃r:Int,v= .p (I r)∧(r<0→∀x∈l,x.vars.length≤20)):=by
 intro l h1 h2;simp only[wide] at h1;refine BF Tryz.func130 O kL (n:=19) O O (A3 A7 1 [] O (A2 (A6 (B3 O (A0 O (BT Em O (List.length_map _)) (A1 A7 1 [] O (BJ ?_)))))));refine Bn (α:=Nat) (fun i=>⟨19,mk [(0,.p (.lst (List.map B9 l))),(1,.p (.fn 100)),(7,.p (I (l.length:Nat))),(8,.p (I (i:Int)))],[],[]⟩) (fun i=>l.length - i) (fun i=>i≤l.length∧(∀j,j<i→∀x,l[j]?=some x→x.vars.length≤20)) 0 (⟨by omega,fun j h=>by omega⟩) ?_ ?_
 ·exact Bh ⟨we O,we O,we O,we O,Az⟩ (leH (is:=[]) O (DJ))
 rintro i hC
 try simp only at hC
 obtain⟨hi,hC⟩:=hC;refine A3 A7 1 [] O (A2 (A4 O (fun c=>?_) (fun c=>?_)))
 ·(try simp only[sd,se] at c);refine BA (A2 (BJ (A3 A7 2 [] O (A6 (A5 A7 3 [] O ?_)))));obtain⟨x,hx⟩:=BE (l:=l) (i:=i) Ax;refine A0 O (BD Em O O Ax (GD hx) (D1 _)) (A0 O (BU Dp O (D1 _)) (A0 O (BL O O (mB x (h2 x (List.mem_of_getElem? hx))) O) (Bq O (A4 O (fun c1=>?_) (fun c1=>?_)))))
  ·(try simp only[sd,se] at c1);refine A3 A7 2 [] O (A9 (⟨O,_,[],Bv O,List.nil_sublist _,⟨⟨_,O,?_⟩,O⟩⟩));exact fun h=>by omega
  (try simp only[sd,se] at c1);refine BA (BC (A1 A7 2 [] O (⟨(i+1),Ac,⟨by omega,C9 hC hx Ax⟩,Bh ⟨we rfl,we rfl,we rfl,we rfl,trivial⟩ (leH (is:=[]) rfl (DJ))⟩)))
 (try simp only[sd,se] at c);refine Bo (A3 A7 1 [] O (A9 (⟨O,_,[],Bv O,List.nil_sublist _,⟨⟨_,O,?_⟩,O⟩⟩)));exact fun _ x hx=>by obtain⟨j,hj⟩:=LK hx;exact hC j (by have:=(List.getElem?_eq_some_iff.1 hj).1;omega) x hj
theorem iL:∀(l:List Ci),(l.length<wide)→(∀x∈l,mW x)→GO Tryz.prog 99 [.p (.lst (List.map B9 l)),.p (.fn 100)] (fun v=>∃b:Bool,v= .p (.bool b)∧(b=false→∀x∈l,x.vars.length≤20)):=by
 intro l h1 h2;refine BF Tryz.func99 O oG (n:=9) O O (A3 A7 1 [] O (A6 (A5 A7 2 [] O (D2 O O (CO O O (lI l h1 h2) (.inl O)) ?_))));rintro _ ⟨r,rfl,hr⟩;refine A1 A7 2 [] O (A9 (⟨O,_,[],Bv O,List.nil_sublist _,⟨⟨_,O,?_⟩,O⟩⟩));exact fun h=>hr (by simp at h;omega)
theorem pt:∀(n:Nat) (l:List Tm),(Bl l≤n)→(jR l)→(l.length<wide)→GO Tryz.prog 64 [.p (.lst (BN l))] (fun v=>∃b:Bool,v= .p (.bool b)∧(b=true→Xk l)):=by
 intro n
 induction n using Nat.strongRecOn with
 | ind n ih =>
  intro l h1 h2 h3;have h3b:=h3;simp only[wide] at h3b;refine BF Tryz.func64 O sg (n:=36) O O (A3 A7 1 [] O (A2 (A6 (B3 O (A0 O (BL O O (Vq _ l 200 (Nat.le_refl _) h2 h3) O) (A1 A7 1 [] O (A4 O (fun c=>?_) (fun c=>?_))))))))
  ·have cR:=c;(try simp only[sd,se] at c);refine A3 A7 1 [] O (A9 (⟨O,_,[],Bv O,List.nil_sublist _,⟨⟨_,O,?_⟩,O⟩⟩));exact fun h=>absurd h Aw
  have cR:=c;(try simp only[sd,se] at c);refine BA (A2 (A6 (B3 O (A0 O (BT Bk O (Bc _)) (A1 A7 1 [] O (BJ ?_))))));refine Bn (α:=Nat) (fun i=>⟨36,mk [(8,.p (.lst (BN l))),(9,.p (I (l.length:Nat))),(10,.p (I (i:Int)))],[],[]⟩) (fun i=>l.length - i) (fun i=>i≤l.length∧(∀j,j<i→∀x,l[j]?=some x→au x)) 0 (⟨by omega,fun j h=>by omega⟩) ?_ ?_
  ·exact Bh ⟨we O,we O,we O,Az⟩ (leH (is:=[]) O (DJ))
  rintro i hC
  try simp only at hC
  obtain⟨hi,hC⟩:=hC;refine A3 A7 1 [] O (A2 (A4 O (fun c1=>?_) (fun c1=>?_)))
  ·have c1R:=c1;(try simp only[sd,se] at c1);refine BA (A2 (BJ (A6 ?_)));obtain⟨t,ht⟩:=BE (l:=l) (i:=i) Ax;refine A0 O (BD Bk O O Ax (Bj ht) (BM _)) (A0 O (BU Bg O (BM _)) (BO O (BG B4 O) fun b4=>A1 A7 1 [0,1] O (A2 ?_)));obtain⟨tk,ti,tn,tl,ts⟩:=t;have hnt:=Qd h2 ht;simp only[Wd] at hnt;have hks:=Co ht;simp only[size] at hks;refine Be [8,9,10] 34 (fun y=>∃b:Bool,y= .p (.bool b)∧(b=false→au (.mk tk ti tn tl ts))) ?_ ?_
   ·refine BC (A5 A7 2 [0] O (A0 O (Ga kM O) (A5 A7 2 [] O (BY 18 O (fun g=>?_) (fun g=>?_)))))
    ·(try simp only[sd,se] at g);refine A1 A7 16 [] O ?_;exact⟨O,O,AP,(by first | exact⟨_,rfl,fun h=>absurd h Aw⟩ | exact⟨_,rfl,fun h=>by simp only[Bool.not_eq_false'] at h;exact⟨by omega,by omega,hb Au,(hb1 h).sz,(hb1 h).nd,(hb1 h).fw⟩⟩),⟨O,O,O,Az⟩⟩
    (try simp only[sd,se] at g);refine A5 A7 2 [0] O (BK O (BT Em O (List.length_map _)) (A5 A7 3 [] O (BY 24 O (fun g1=>?_) (fun g1=>?_))))
    ·(try simp only[sd,se] at g1);refine A1 A7 10 [] O ?_;exact⟨O,O,AP,(by first | exact⟨_,rfl,fun h=>absurd h Aw⟩ | exact⟨_,rfl,fun h=>by simp only[Bool.not_eq_false'] at h;exact⟨by omega,by omega,hb Au,(hb1 h).sz,(hb1 h).nd,(hb1 h).fw⟩⟩),⟨O,O,O,Az⟩⟩
    (try simp only[sd,se] at g1);refine A5 A7 2 [0] O (IW O O O O (CO O O (iL tl hnt.2.1 hnt.2.2.1) (.inl O)) ?_);rintro _ ⟨b,rfl,hb⟩;refine A5 A7 2 [] O (BY 29 O (fun g2=>?_) (fun g2=>?_))
    ·(try simp only[sd,se] at g2);refine A1 A7 5 [] O ?_;exact⟨O,O,AP,(by first | exact⟨_,rfl,fun h=>absurd h Aw⟩ | exact⟨_,rfl,fun h=>by simp only[Bool.not_eq_false'] at h;exact⟨by omega,by omega,hb Au,(hb1 h).sz,(hb1 h).nd,(hb1 h).fw⟩⟩),⟨O,O,O,Az⟩⟩
    (try simp only[sd,se] at g2);refine A5 A7 2 [0] O (IW O O O O (CO O O (ih (Bl ts) Ax ts (Nat.le_refl _) hnt.2.2.2.2.1 hnt.2.2.2.1) (.inl O)) ?_);rintro _ ⟨b1,rfl,hb1⟩;refine A1 A7 2 [] O ?_;exact⟨O,O,AP,(by first | exact⟨_,rfl,fun h=>absurd h Aw⟩ | exact⟨_,rfl,fun h=>by simp only[Bool.not_eq_false'] at h;exact⟨by omega,by omega,hb Au,(hb1 h).sz,(hb1 h).nd,(hb1 h).fw⟩⟩),⟨O,O,O,Az⟩⟩
   rintro _ ⟨q,rfl,hq⟩;refine A4 O (fun c2=>?_) (fun c2=>?_)
   ·have c2R:=c2;(try simp only[sd,se] at c2);refine A3 A7 1 [] O (A9 (⟨O,_,[],Bv O,List.nil_sublist _,⟨⟨_,O,?_⟩,O⟩⟩));exact fun h=>absurd h Aw
   have c2R:=c2;(try simp only[sd,se] at c2);refine BA (BC (A1 A7 2 [] O (⟨(i+1),Ac,⟨by omega,C9 hC ht (hq (by simpa using c2))⟩,Bh ⟨we rfl,we rfl,we rfl,trivial⟩ (leH (is:=[]) rfl (DJ))⟩)))
  have c1R:=c1;(try simp only[sd,se] at c1);refine Bo (A3 A7 1 [] O (A9 (⟨O,_,[],Bv O,List.nil_sublist _,⟨⟨_,O,?_⟩,O⟩⟩)));exact fun _=>kG (m:=i) Ax h2 h3 Ax hC
theorem gh:∀(l:List Tm),(jR l)→(l.length<wide)→GO Tryz.prog 30 [.p (.lst (BN l))] (fun v=>∃bb:Bool,v= .p (.bool bb)∧(bb=true→Xk l∧∀t∈l,okB t=true)):=by
 intro l h1 h2;have h2b:=h2;simp only[wide] at h2b;refine BF Tryz.func30 O q8 (n:=18) O O (A3 A7 1 [] O (A2 (A6 (B3 O (D2 O O (CO O O (pt _ l (Nat.le_refl _) h1 h2) (.inl O)) ?_)))));rintro _ ⟨b,rfl,hb⟩;refine A1 A7 1 [] O (A4 O (fun c=>?_) (fun c=>?_))
 ·(try simp only[sd,se] at c);refine A3 A7 1 [] O (A9 (⟨O,_,[],Bv O,List.nil_sublist _,⟨⟨_,O,?_⟩,O⟩⟩));exact fun h=>absurd h Aw
 (try simp only[sd,se] at c);have hf:=hb (by simpa using c);refine BA (A2 (A6 (B3 O (A0 O (BT Bk O (Bc _)) (A1 A7 1 [] O (BJ ?_))))));refine Bn (α:=Nat) (fun i=>⟨18,mk [(8,.p (.lst (BN l))),(9,.p (I (l.length:Nat))),(10,.p (I (i:Int)))],[],[]⟩) (fun i=>l.length - i) (fun i=>i≤l.length∧(∀j,j<i→∀x,l[j]?=some x→okB x=true)) 0 (⟨by omega,fun j h=>by omega⟩) ?_ ?_
 ·exact Bh ⟨we O,we O,we O,Az⟩ (leH (is:=[]) O (DJ))
 rintro i hC
 try simp only at hC
 obtain⟨hi,hC⟩:=hC;refine A3 A7 1 [] O (A2 (A4 O (fun c1=>?_) (fun c1=>?_)))
 ·(try simp only[sd,se] at c1);refine BA (A2 (BJ (A6 ?_)));obtain⟨x,hx⟩:=BE (l:=l) (i:=i) Ax;refine A0 O (BD Bk O O Ax (Bj hx) (BM _)) (A0 O (BU Bg O (BM _)) (BO O (BG B4 O) fun b4=>A1 A7 1 [0,1] O (A6 (A0 O (Bf (i:=0) Bg O O Ap) (D2 O O (CO O O (RU x 65536 8 65536 65536 (Df hf.nd hx) (by have:=Co hx;have:=hf.sz;omega)) (.inl O)) ?_)))));rintro _ ⟨e,rfl,he⟩;refine A1 A7 1 [] O (A4 O (fun c2=>?_) (fun c2=>?_))
  ·(try simp only[sd,se] at c2);refine A3 A7 1 [] O (A9 (⟨O,_,[],Bv O,List.nil_sublist _,⟨⟨_,O,?_⟩,O⟩⟩));exact fun h=>absurd h Aw
  (try simp only[sd,se] at c2);refine BA (BC (A1 A7 2 [] O (⟨(i+1),Ac,⟨by omega,C9 hC hx (et (Df hf.nd hx) (by have:=Co hx;have:=hf.sz;omega) Ax (he Ax))⟩,Bh ⟨we rfl,we rfl,we rfl,trivial⟩ (leH (is:=[]) rfl (DJ))⟩)))
 (try simp only[sd,se] at c1);refine Bo (A3 A7 1 [] O (A9 (⟨O,_,[],Bv O,List.nil_sublist _,⟨⟨_,O,?_⟩,O⟩⟩)));exact fun _=>⟨hf,IX Ax hC⟩
theorem kB:∀(t:Tm),(okB t=true)→(size t<1000000)→GO Tryz.prog 20 [.agg ((Bb t).map .p)] (Gm):=by
 intro t h1 h2;refine BF Tryz.func20 O rY (n:=6) O O (A6 (BO O (Ba O) fun b1=>A1 A7 1 [] O (A6 (A0 O (Bf (i:=0) Bg O O Ap) (D2 O O (CO O O (RU t 60000 8 65536 65536 (CJ.1 h1).nd h2) (.inl O)) ?_)))));rintro _ ⟨e,rfl,he⟩;refine A1 A7 2 [] O (A9 (⟨O,_,_,⟨_,_,O,O,O⟩,(List.nil_sublist _),?_⟩))
 all_goals exact⟨⟨_,rfl⟩,rfl⟩
theorem lB:∀(l:List Tm),(l.length<1000000)→(∀x∈l,okB x=true∧size x<1000000)→GO Tryz.prog 67 [.p (.lst (BN l)),.p (.fn 20)] (Z1):=by
 intro l h1 h2;refine BF Tryz.func67 O sQ (n:=19) O O (A3 A7 1 [] O (A2 (A6 (B3 O (A0 O (BT Bk O (Bc _)) (A1 A7 1 [] O (BJ (Bn (α:=Nat) (fun i=>⟨19,mk [(0,.p (.lst (BN l))),(1,.p (.fn 20)),(7,.p (I (l.length:Nat))),(8,.p (I (i:Int)))],[],[]⟩) (fun i=>l.length - i) (fun i=>i≤l.length) 0 AW ?_ ?_))))))))
 ·exact Bh ⟨we O,we O,we O,we O,Az⟩ (leH (is:=[]) O (DJ))
 rintro i hC
 try simp only at hC
 have hi:=hC;refine A3 A7 1 [] O (A2 (A4 O (fun c=>?_) (fun c=>?_)))
 ·(try simp only[sd,se] at c);refine BA (A2 (BJ (A3 A7 2 [] O (A6 (A5 A7 3 [] O ?_)))));obtain⟨x,hx⟩:=BE (l:=l) (i:=i) Ax;refine A0 O (BD Bk O O Ax (Bj hx) (BM _)) (A0 O (BU Bg O (BM _)) (D2 O O (CO O O (kB x (h2 _ (List.mem_of_getElem? hx)).1 (h2 _ (List.mem_of_getElem? hx)).2) (.inl O)) ?_));rintro _ ⟨q,rfl⟩;refine Bq O (A4 O (fun c1=>?_) (fun c1=>?_))
  ·(try simp only[sd,se] at c1);refine A3 A7 2 [] O (A9 (⟨O,_,_,⟨_,_,O,O,O⟩,(List.nil_sublist _),?_⟩))
   all_goals exact⟨⟨_,rfl⟩,rfl⟩
  (try simp only[sd,se] at c1);refine BA (BC (A1 A7 2 [] O ?_));refine⟨(i+1),Ac,by omega,Bh ⟨we rfl,we rfl,we rfl,we rfl,trivial⟩ (leH (is:=[]) rfl (DJ))⟩
 (try simp only[sd,se] at c);refine Bo (A3 A7 1 [] O (A9 (⟨O,_,_,⟨_,_,O,O,O⟩,(List.nil_sublist _),?_⟩)))
 all_goals exact⟨⟨_,rfl⟩,rfl⟩
theorem jO:∀(l:List Tm),(l.length<1000000)→(∀x∈l,okB x=true∧size x<1000000)→GO Tryz.prog 32 [.p (.lst (BN l)),.p (.fn 20)] (Gm):=by
 intro l h1 h2;refine BF Tryz.func32 O sE (n:=9) O O (A3 A7 1 [] O (A6 (A5 A7 2 [] O (D2 O O (CO O O (lB l h1 h2) (.inl O)) ?_))));rintro _ ⟨r,rfl⟩;refine A1 A7 2 [] O (A9 (⟨O,_,_,⟨_,_,O,O,O⟩,(List.nil_sublist _),?_⟩))
 all_goals exact⟨⟨_,rfl⟩,rfl⟩
theorem cO:∀(ds:List CX) (l:List Tm),(Hj ds)→(jR l)→(l.length<wide)→GO Tryz.prog 10 [.p (.lst (List.map Bu ds)),.p (.lst (BN l))] (fun v=>∃bb:Bool,v= .p (.bool bb)∧(bb=true→eJ ds l)):=by
 intro ds l h1 h2 h3;refine BF Tryz.func10 O sJ (n:=21) O O (A3 A7 1 [] O (A6 (B3 O (A0 O (BL O O (Vq _ l 60 (Nat.le_refl _) h2 h3) O) (A5 A7 2 [] O (BY 8 O (fun g=>?_) (fun g=>?_)))))))
 ·(try simp only[sd,se] at g);refine BK O (Bi O) (IW O O O O (CO O O (gh l h2 h3) (.inl O)) ?_);rintro _ ⟨b,rfl,hb⟩;refine A5 A7 2 [] O (BY 12 O (fun g1=>?_) (fun g1=>?_))
  ·(try simp only[sd,se] at g1);refine BK O (Bi O) (IW O O O O (CO O O (ep ds h1) (.inl O)) ?_);rintro _ ⟨q,rfl,hq⟩;refine A5 A7 2 [] O (BY 16 O (fun g2=>?_) (fun g2=>?_))
   ·(try simp only[sd,se] at g2);refine BK O (Bi O) (IW O O O O (CO O O (jO l (bB (hb Au).1) (X0 (hb Au))) (.inl O)) ?_);rintro _ ⟨q1,rfl⟩;refine A1 A7 3 [] O (A9 (⟨O,_,_,⟨_,_,O,O,O⟩,(List.nil_sublist _),?_⟩))
    all_goals exact⟨⟨_,rfl,fun h=>ej Ax (hb Au) (hq Au)⟩,rfl⟩
   (try simp only[sd,se] at g2);refine A1 A7 5 [] O (A9 (⟨O,_,_,⟨_,_,O,O,O⟩,(List.nil_sublist _),?_⟩))
   all_goals exact⟨⟨_,rfl,fun h=>absurd h Aw⟩,rfl⟩
  (try simp only[sd,se] at g1);refine A1 A7 9 [] O (A9 (⟨O,_,_,⟨_,_,O,O,O⟩,(List.nil_sublist _),?_⟩))
  all_goals exact⟨⟨_,rfl,fun h=>absurd h Aw⟩,rfl⟩
 (try simp only[sd,se] at g);refine A1 A7 13 [] O (A9 (⟨O,_,_,⟨_,_,O,O,O⟩,(List.nil_sublist _),?_⟩))
 all_goals exact⟨⟨_,rfl,fun h=>absurd h Aw⟩,rfl⟩
end Go.Proofs.YtboammbpdaoojaaGreat
namespace Go.Eu
open Go.Abs
def NF {α:Type}(o:Out α):Prop:=o≠ .fail
section
variable {α β:Type}
theorem GS (a:α):NF (.ok a):=fun h=>by cases h
theorem GZ:NF (.stuck:Out α):=fun h=>by cases h
theorem VD {o:Out α}{k:α→Out β}(h:NF o) (hk:∀a,NF (k a)):NF (o.bind k):=by
 cases o with
 | stuck=>exact GZ
 | fail=>exact absurd rfl h
 | ok a=>exact hk a
theorem O8 {s:EK}{x:Tm×Int}{k:Tm→EK→Out α}(hk:∀t s',NF (k t s')):NF (Dh.put s x k):=by
 unfold Sys.put;split
 ·exact hk _ _
 exact GZ
end
section
variable {E:List CX}{W:EK→Tm→Out (Tm×EK)}
theorem gQ {d:CX}{h:Tm}{a:List Tm}{c:EK}:NF (FB Dh d h a c):=by
 unfold FB;split
 ·exact GS _
 exact O8 fun _ _=>GS _
theorem ja {d:CX}{h m:Tm}{a:List Tm}{c:EK}:NF (FG E Dh d h a m c):=by
 unfold FG;split
 ·exact GS _
 split
 ·exact GS _
 split
 ·exact GS _
 exact O8 fun _ _=>GS _
theorem iD {h b:Tm}{vs a:List Tm}{c:EK}:NF (Gr Dh h b vs a c):=by
 unfold Gr;split
 ·exact GS _
 split
 ·exact GZ
 exact O8 fun _ _=>GS _
theorem ea {T:EK→Tm→Out (Option Tm×EK)}(hT:∀c t,NF (T c t)) {h:Tm}{ar:Int}{a:List Tm}:∀(n:Nat) (t:FY) (vs:List Tm) (pl:List (Int×List Int)) (c:EK),NF (GX E Dh T h ar a n t vs pl c)
 | 0,t,vs,pl,c=>by rw[GX];exact GZ
 | n+1,t,vs,pl,c=>by
  rw[GX];split
  ·split
   ·exact GS _
   split
   ·refine VD (hT _ _) fun r=>?_;split
    ·exact GS _
    split
    ·exact GZ
    exact GS _
   split
   ·exact GS _
   exact ea hT n _ _ _ _
  exact iD
theorem eD:∀(n:Nat) (c:EK) (t:Tm),NF (DY E Dh n c t)
 | 0,c,t=>by rw[DY];exact GZ
 | n+1,c,t=>by
  have ih:=eD n;rw[DY];split
  ·exact GZ
  split
  ·split
   ·exact GS _
   unfold L1;split
   ·exact GZ
   exact O8 fun _ _=>GS _
  split
  ·unfold Q2;split
   ·exact O8 fun _ _=>GS _
   exact GZ
  split
  ·split
   ·exact GZ
   split
   ·unfold LP;split
    ·exact GZ
    exact O8 fun _ _=>GS _
   refine VD (ih _ _) fun r=>?_;split
   ·exact GS _
   exact GS _
  split
  ·split
   ·exact GS _
   split
   ·exact gQ
   split
   ·split
    ·exact ja
    refine VD (ih _ _) fun r=>?_;split
    ·exact GS _
    exact GS _
   split
   ·exact ea ih _ _ _ _ _
   exact GS _
  exact GS _
end
theorem lV {α:Type}{o:Out α}{p:α→Prop}(h:ER o p) (hf:NF o):∃a,o= .ok a∧p a:=by
 cases o with
 | stuck=>exact h.elim
 | fail=>exact absurd rfl hf
 | ok a=>exact⟨a,rfl,h⟩
@[irreducible] def FN:Nat:=1000000000000
theorem kY:FN=1000000000000:=by unfold FN;rfl
section
variable {E:List CX}{t:Tm}
end
theorem J0 {n:Nat}:∀(xs:List Tm) (f:Tm),depth f≤n→(∀x∈xs,depth x≤n)→depth (apply f xs)≤n+xs.length
 | [],f,hf,_=>by simpa [apply] using hf
 | x::xs,f,hf,hx=>by
  have h1:=hx x Ay;have h2:depth (UW f x)≤n+1:=by simp only[UW,depth,I4];omega
  have:=J0 (n:=n+1) xs (UW f x) h2 fun y hy=>by have:=hx y (by simp[hy]);omega
  simp only[apply,List.foldl_cons,List.length_cons] at this ⊢;omega
theorem Pq {l:List Tm}{x:Tm}(h:x∈l):depth x≤Bl l:=by
 have h1:=IT x;have h2:=Gi h;omega
structure Fit (z:Nat) (q:Tm):Prop where
 sz:size q≤2000+z
 dp:depth q≤95+z
def QF (z:Nat) (o:Out (Option Tm×EK)):Prop:=∀q c',o= .ok (some q,c')→c'.over=false→Fit z q
theorem Ho {z:Nat}{c:EK}:QF z (.ok (none,c)):=fun q c' h _=>by cases h
theorem Il {z:Nat}:QF z .stuck:=fun q c' h _=>by cases h
theorem QF.mono {z z':Nat}{o:Out (Option Tm×EK)}(h:QF z o) (hz:z≤z'):QF z' o:=fun q c' e hv=>by
 obtain⟨h1,h2⟩:=h q c' e hv;exact⟨by omega,by omega⟩
theorem Po {z:Nat}{s:EK}{x:Tm×Int}{rest:List Tm}(hz:Bl rest+rest.length≤z):QF z (Dh.put s x fun t s'=> .ok (some (apply t rest),s')):=by
 intro q c' h hv;obtain⟨h1,h2⟩:=HH (h:=by rw[h];simp);rw[h2] at h;cases h;obtain⟨o1,o2,o3,o4⟩:=EK.form_over hv;have hs:=FA h1;rw[L0 Ax] at o3;rw[TD Ax] at o4;have h3:=DM rest x.1;have h4:=J0 (n:=max 95 (Bl rest)) rest x.1 Ax fun y hy=>by have:=Pq hy;omega
 exact⟨by omega,by omega⟩
theorem ec {h p:Tm}{i:Nat}(hp:h.kids[i]?=some p):size p<size h:=by
 obtain⟨k,j,n,l,ks⟩:=h;have:=Co (ts:=ks) hp;simp only[size];omega
section
variable {E:List CX}
theorem fq {d:CX}{h:Tm}{a:List Tm}{c:EK}{z:Nat}(hz:Bl a+a.length≤z):QF z (FB Dh d h a c):=by
 unfold FB;split
 ·exact Ho
 exact Po hz
theorem iA {d:CX}{h m:Tm}{a:List Tm}{c:EK}{z:Nat}(hz:Bl a+a.length≤z):QF z (FG E Dh d h a m c):=by
 have hd:=DL a (CQ d+1).toNat;unfold FG;split
 ·exact Ho
 split
 ·exact Ho
 split
 ·exact Ho
 exact Po (by rw[List.length_drop];omega)
theorem kE {h b:Tm}{vs a:List Tm}{c:EK}{z:Nat}(hz:Bl a+a.length≤z):QF z (Gr Dh h b vs a c):=by
 unfold Gr;split
 ·exact Ho
 split
 ·exact Il
 exact Po hz
theorem iF {h:Tm}{a:List Tm}{c:EK}{z:Nat}(hz:Bl a+a.length≤z):QF z (L1 Dh h a c fun x s'=> .ok (some x,s')):=by
 have hd:=DL a 1;unfold L1;split
 ·exact Il
 exact Po (by rw[List.length_drop];omega)
theorem mJ {h:Tm}{a:List Tm}{c:EK}{z:Nat}(hz:Bl a+a.length≤z):QF z (Q2 Dh h a c fun x s'=> .ok (some x,s')):=by
 unfold Q2;split
 ·exact Po hz
 exact Il
theorem iz {h p:Tm}{a:List Tm}{c:EK}{z:Nat}(hz:Bl a+a.length≤z):QF z (LP Dh h p a c fun x s'=> .ok (some x,s')):=by
 unfold LP;split
 ·exact Il
 exact Po hz
theorem U3 {h x y:Tm}{a:List Tm}{i:Nat}(hy:a[i]?=some y) (hx:Fit (size y) x):Fit (size h+Bl a+a.length) (apply h (a.set i x)):=by
 have h1:=MR (y:=x) hy;have h2:=DM (a.set i x) h;have h3:(a.set i x).length=a.length:=List.length_set;have h4:=Gi (List.mem_of_getElem? hy);have h5:=IT h;have h6:=hx.sz;have h7:=hx.dp;have h8:=J0 (n:=95+max (size h) (Bl a)) (a.set i x) h Ax fun z hz=>by
  rcases List.mem_or_eq_of_mem_set hz with hz | hz
  ·have:=Pq hz;omega
  rw[hz];omega
 exact⟨by omega,by omega⟩
theorem WD {v x:Tm}(hx:Fit (size v) x):∀(ps:List Int) (t z:Tm),Pu t ps v→Gq t ps x=some z→Fit (size t) z
 | [],t,z,h,hr=>by cases h;rw[Gq] at hr;cases hr;exact hx
 | p::ps,t,z,⟨y,h1,h2⟩,hr=>by
  rw[Gq,h1] at hr;simp only[Option.map_eq_some_iff] at hr;obtain⟨w,e1,e2⟩:=hr;have:=U3 (h:=(BH t).1) h1 (WD hx ps y w h2 e1);rw[GC] at this;rw[←e2];exact this
theorem gC (hE:KB E) {T:EK→Tm→Out (Option Tm×EK)}{h:Tm}{ar:Int}{a:List Tm}{z:Nat}(hz:size h+Bl a+a.length≤z) (hT:∀s v,QF (size v) (T s v)) :
  ∀(m:Nat) (t:FY) (vars:List Tm) (pl:List (Int×List Int)) (s:EK),X5 a vars pl→QF z (GX E Dh T h ar a m t vars pl s)
 | 0,t,vars,pl,s,_=>by rw[GX];exact Il
 | m+1,t,vars,pl,s,hp=>by
  rw[GX];split
  ·split
   ·exact Ho
   rename_i hb;have hlt:t.var.toNat<vars.length:=by omega
   have hx:=List.getElem?_eq_getElem hlt;obtain⟨j,path,y,p1,p2,p3⟩:=hp.at_ _ _ hx;rw[CI hx,CI p1];cases hc2:DQ E vars[t.var.toNat] with
   | none =>
    intro q c' hq hv;obtain⟨⟨r,c1⟩,h1,h2⟩:=GN hq;cases r with
    | none=>cases h2
    | some x =>
     simp only[CI p2] at h2;cases hr:Gq y path x with
     | none=>rw[hr] at h2;cases h2
     | some w =>
      rw[hr] at h2;cases h2;obtain⟨f1,f2⟩:=U3 (h:=h) p2 (WD (hT _ _ _ _ h1 hv) path y w p3 hr);exact⟨by omega,by omega⟩
   | some q =>
    obtain⟨d,k,f⟩:=q;simp only;cases hbr:C3 (El d k).name t.branches with
    | none=>exact Ho
    | some t' =>
     have hcf:=Ek hc2;have hfx:=(hE.all d hcf.mem).fx.1;have hmore:=hp.more hx p1 hfx;rw[←hcf.fs] at hmore;exact gC hE hz hT m t' (vars++f) _ s hmore
  have hd:=DL a ar.toNat;have hdl:(a.drop ar.toNat).length≤a.length:=by rw[List.length_drop];omega
  exact kE Ax
theorem fO (hE:KB E):∀(n:Nat) (s:EK) (t:Tm),QF (size t) (DY E Dh n s t)
 | 0,s,t=>by rw[DY];exact Il
 | n+1,s,t=>by
  have ih:=fO hE n;have hss:=GC t;have hhp:=size_pos (BH t).1;have hsa:Bl (BH t).2+(BH t).2.length≤size t:=by omega
  rw[DY];split
  ·exact Il
  split
  ·split
   ·exact Ho
   exact iF hsa
  split
  ·exact mJ hsa
  split
  ·split
   ·exact Il
   rename_i k9 p hp;split
   ·exact iz hsa
   intro q c' hq hv;obtain⟨⟨r,c1⟩,h1,h2⟩:=GN hq;cases r with
   | none=>cases h2
   | some x =>
    cases h2;obtain⟨f1,f2⟩:=ih _ _ _ _ h1 hv;have h4:=DM (BH t).2 (Hd (BH t).1.kind x);have h5:size (Hd (BH t).1.kind x)=1+size x:=by simp only[Hd,size,Bl];omega
    have h6:depth (Hd (BH t).1.kind x)=depth x+1:=by simp only[Hd,depth,I4];omega
    have h7:=ec hp;have h8:=J0 (n:=95+max (size (BH t).1) (Bl (BH t).2)) (BH t).2 (Hd (BH t).1.kind x) Ax fun y hy=>by have:=Pq hy;omega
    exact⟨by omega,by omega⟩
  split
  ·cases hu:Tg E (BH t).1 with
   | false=>rw[Cz,hu];exact Ho
   | true =>
    obtain⟨i,d,h1,h2,hd,h3⟩:=JV hu;have hg:=hE.all d hd;have hda:Cl E (Bw E (BH t).1.name).1.decl=d:=CI h3;rw[Cz,hu,if_pos rfl];simp only[hda];split
    ·exact fq hsa
    split
    ·rename_i hr5;have hni:=(F4 hg.din hg.fx).1;have hf0:=hg.fx.1;have hlt:(CQ d).toNat<(BH t).2.length:=by have:=hr5.2;unfold CQ at *;omega
     have hy:=List.getElem?_eq_getElem hlt;rw[CI hy];split
     ·exact iA hsa
     intro q c' hq hv;obtain⟨⟨r,c1⟩,g1,g2⟩:=GN hq;cases r with
     | none=>cases g2
     | some x =>
      cases g2;obtain⟨f1,f2⟩:=U3 (h:=(BH t).1) hy (ih _ _ _ _ g1 hv);exact⟨by omega,by omega⟩
    split
    ·rename_i hr6;obtain⟨k,f,h4,h5⟩:=h2.func hr6.1;have hfa:FL d (Bw E (BH t).1.name).1.item=f:=CI (by rw[h5];simpa using h4);obtain⟨f1,f2,f3⟩:=hg.fu f (List.mem_of_getElem? h4);rw[hfa] at hr6 ⊢;exact gC hE Ax ih n f.tree _ _ s (PE _ _ Ax)
    exact Ho
  exact Ho
end
theorem Xm:lO LZ:=⟨rfl,by decide,fun _=>by decide⟩
section
variable {E:List CX}{t:Tm}
theorem Zd (hE:Gz E) (ho:okB t=true) (hs:size t≤10000):ER (DY E CN FN 20000 t) (SO CN G0 (fun n=>(20000 - n).toNat) 20000 (size t)) :=
 N1 jb hE FN 20000 t NP Ay ho (by rw[kY];omega) Ax
theorem Yb (hE:Gz E) (ho:okB t=true) (hs:size t≤10000):lR (DY E CN FN 20000 t):=fun q c e=>((Zd hE ho hs).get e).ok q rfl |>.1
theorem kJ (hE:Gz E) (ho:okB t=true) (hs:size t≤10000):∃q c,DY E Dh FN LZ t= .ok (q,c)∧okB (q.getD Bp)=true:=by
 obtain⟨⟨q,c⟩,h1,h2⟩:=lV (N1 iW hE FN LZ t Xm (by simp[LZ]) ho (by rw[kY];omega) Ax) (eD FN LZ t);refine⟨q,c,h1,?_⟩;cases q with
 | none=>exact MF
 | some x=>exact(h2.ok x rfl).1
theorem aj {x:Tm}(ho:okB x=true) (h:Fit 60 x):XN x=true:=by
 have h1:=FA ho;have h2:=h.sz;have h3:=h.dp;unfold XN;rw[TD Ax];simp only[Bool.not_eq_true',Bool.or_eq_false_iff,decide_eq_false_iff_not];omega
theorem jG (hE:Gz E) (ho:okB t=true) (hs:size t≤60) {q:Option Tm}{c:EK}(h:DY E Dh FN LZ t= .ok (q,c)) (hq:okB (q.getD Bp)=true) (hv:c.over=false):Ie (DY E CN FN 20000 t)=(q.getD Bp,q.isSome,0):=by
 obtain⟨l',h1⟩:=WX (E:=E) FN LZ c t q dG h hv 20000 (by simp[LZ]);simp only at h1;rw[h1];cases q with
 | none=>rfl
 | some x =>
  have hf:=fO hE.g FN LZ t x c h hv;have:=aj hq (x:=x) ⟨by have:=hf.sz;omega,by have:=hf.dp;omega⟩;simp only[Ie,this,if_true,Option.getD_some,Option.isSome_some]
theorem jL (o:Out (Option Tm×Int)):(Ie o).2.2=0∨(Ie o).2.2=11:=by
 cases o with
 | stuck=>exact .inr rfl
 | fail=>exact .inr rfl
 | ok a =>
  obtain⟨q,c⟩:=a;cases q with
  | none=>exact .inl rfl
  | some x =>
   by_cases h:XN x=true
   ·exact .inl (by simp[Ie,h])
   exact .inr (by simp[Ie,h])
end
section
variable {E:List CX}{t:FY}{a:List Tm}
structure jz (t:FY) (a:List Tm):Prop where
 tok:Fz t
 dep:EC t≤50
 ok:∀x∈a,okB x=true
 sz:Bl a≤60
theorem jz.len (h:jz t a):a.length≤60:=by have:=Hn a;have:=h.sz;omega
theorem jz.all (h:jz t a):∀x∈a,okB x=true∧size x≤100000:=fun x hx=>⟨h.ok x hx,by have:=Gi hx;have:=h.sz;omega⟩
end
end Go.Eu
namespace Go.Proofs.YtboammbpdaoojaaGreat
open Go.Abs Go.Eu
theorem eA:∀(ds:List CX) (t:Tm),(Hj ds)→(Wd t)→Ep Tryz.prog 4 [.p (.lst (List.map Bu ds)),.agg ((Bb t).map .p)] (.p (.bool true)):=by
 intro ds t h1 h2;refine BF Tryz.func4 O uH (n:=60) O O (A6 (BO O (Ba O) fun b3=>A1 A7 1 [] O (A2 (A6 (A5 A7 2 [0] O (A0 O (B8 (rows:=BN [t]) Bk B4 O O O O (CM (B1 _)) (FR _)) (D2 O O (CO O O (cO ds [t] h1 ⟨h2,Az⟩ (by simp[wide])) (.inl O)) ?_)))))));rintro _ ⟨q,rfl,hq⟩;refine A1 A7 1 [] O (A4 O (fun c=>?_) (fun c=>?_))
 ·(try simp only[sd,se] at c);refine A6 (A0 O (BL O O (N6 ) O) (A1 A7 1 [] O (A9 (⟨O,_,_,⟨_,_,O,O,O⟩,(List.nil_sublist _),?_⟩))))
  all_goals exact⟨rfl,rfl⟩
 (try simp only[sd,se] at c);have hs:=hq (by simpa using c);have ho:=hs.ok t Ay;have hsz:size t≤60:=by have:=hs.sz;simp only[Bl] at this;omega
 obtain⟨q,c2,hr1,hr2⟩:=kJ hs.env ho Ax;refine BA (A6 (A5 A7 2 [0] O (A0 O (BL O O (ZB ds FN t hs.env (Zd hs.env ho Ax).ns (Yb hs.env ho Ax)) O) (A5 A7 4 [] O (BO O (BG B4 O) fun b5=>A1 A7 3 [0,1] O (A6 (Y2 O O O (.inl ⟨O,O,O⟩) aX (Dg _) fun bc=>A1 A7 1 [] O (A6 (A5 A7 3 [2] O (A0 O (CF [0] O (.inl ⟨O,O,O⟩) (fU ds hs.env FN bc t LZ c2 q hr1) ⟨_,_,O,O,O⟩ Aw O (.inl O)) (A5 A7 3 [] O (BO O (BG B4 O) fun b9=>A1 A7 2 [0,1] O (A2 (A3 A7 4 [1] O (A4 O (fun c1=>?_) (fun c1=>?_))))))))))))))))
 ·(try simp only[sd,se] at c1);refine A2 (Be [] 4 (fun y=>y= .p (.bool (((((Ie (DY ds CN FN 20000 t)).2.2:Int)==(0:Int))||(((Ie (DY ds CN FN 20000 t)).2.2:Int)==(11:Int)))&&true))) ?_ ?_)
  ·refine BC (A5 A7 3 [] O (BY 38 O (fun g=>?_) (fun g=>?_)))
   ·(try simp only[sd,se] at g);exact A5 A7 4 [] O (BK O (BL O O (N6 ) O) (A1 A7 2 [] O ⟨O,O,AP,AJ,Az⟩))
   (try simp only[sd,se] at g);refine A5 A7 4 [] O (BY 42 O (fun g1=>?_) (fun g1=>?_))
   ·(try simp only[sd,se] at g1);exact BK O (BL O O (N6 ) O) (A1 A7 2 [] O ⟨O,O,AP,AJ,Az⟩)
   (try simp only[sd,se] at g1);exact A1 A7 3 [] O ⟨O,O,AP,AJ,Az⟩
  rintro _ rfl;refine A9 (⟨O,_,_,⟨_,_,O,O,O⟩,(List.nil_sublist _),?_⟩)
  all_goals exact⟨by show (.p (.bool (((((Ie (DY ds CN FN 20000 t)).2.2:Int)==(0:Int))||(((Ie (DY ds CN FN 20000 t)).2.2:Int)==(11:Int)))&&true)):AV)=_;refine pB ?_;rcases jL (DY ds CN FN 20000 t) with h | h<;>simp[h],rfl⟩
 (try simp only[sd,se] at c1);have hw:=jG hs.env ho hsz hr1 hr2 (by simpa using c1);refine BA (A2 (Be [] 4 (fun y=>y= .p (.bool ((((((Ie (DY ds CN FN 20000 t)).2.2:Int)==(0:Int))&&(((Ie (DY ds CN FN 20000 t)).2.1)==q.isSome))&&(Nk ((Ie (DY ds CN FN 20000 t)).1) (q.getD Bp)))&&true))) ?_ ?_))
 ·refine BC (A5 A7 3 [] O (BY 47 O (fun g=>?_) (fun g=>?_)))
  ·(try simp only[sd,se] at g);refine A5 A7 2 [] O (BK O (SA qm O O) (A5 A7 2 [] O (BY 52 O (fun g1=>?_) (fun g1=>?_))))
   ·(try simp only[sd,se] at g1);refine A5 A7 2 [2,0] O (BK O (BL O O (NY _ ((Ie (DY ds CN FN 20000 t)).1) (q.getD Bp) (Nat.le_refl _) (by rw[hw];exact(CJ.1 hr2).nd)) O) (A5 A7 2 [] O (BY 57 O (fun g2=>?_) (fun g2=>?_))))
    ·(try simp only[sd,se] at g2);exact BK O (BL O O (N6 ) O) (A1 A7 2 [] O ⟨O,O,AP,AJ,Az⟩)
    (try simp only[sd,se] at g2);exact A1 A7 3 [] O ⟨O,O,AP,AJ,Az⟩
   (try simp only[sd,se] at g1);exact A1 A7 8 [] O ⟨O,O,AP,AJ,Az⟩
  (try simp only[sd,se] at g);exact A1 A7 13 [] O ⟨O,O,AP,AJ,Az⟩
 rintro _ rfl;refine A9 (⟨O,_,_,⟨_,_,O,O,O⟩,(List.nil_sublist _),?_⟩)
 all_goals exact⟨by show (.p (.bool ((((((Ie (DY ds CN FN 20000 t)).2.2:Int)==(0:Int))&&(((Ie (DY ds CN FN 20000 t)).2.1)==q.isSome))&&(Nk ((Ie (DY ds CN FN 20000 t)).1) (q.getD Bp)))&&true)):AV)=_;refine pB ?_;rw[hw];simp[Gd],rfl⟩
end Go.Proofs.YtboammbpdaoojaaGreat
