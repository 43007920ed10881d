/- Part of the proofs: an abstract program logic, plain models and contracts of functions. -/
import Derived.Test.YtboammbpdaoojaaGreatPb
import Derived.Test.YtboammbpdaoojaaGreatPj
import Derived.Test.YtboammbpdaoojaaGreatPd
import Derived.Test.YtboammbpdaoojaaGreatPi
set_option linter.unusedVariables false
set_option linter.unusedSimpArgs false
set_option maxRecDepth 100000
namespace Go.Proofs.YtboammbpdaoojaaGreat
open Go.Abs Go.Eu
theorem VF:∀(n:Nat) (l:List Tm) (most:Int),Bg l≤n→gS l→l.length<wide→FF Tryz.prog 29 [.p (I most),l4 l] (.p (I (EL l most 0))):=by
 intro n
 induction n using Nat.strongRecOn with
 | ind n ih =>
  intro l most hs hnd hlen;simp only[wide] at hlen;refine A9 Tryz.func29 O pE (n:=29) O O (Ay A8 1 [] O (Ay A8 1 [] O (Az (A3 (B0 O (Av O (Ct Br O) (Ax A8 1 [] O (BH (Bn (α:=Nat×Int) (fun s=>⟨29,mk [(0,.p (I most)),(5,.p (I s.2)),(8,l4 l),(9,.p (I (BK l).length)),(10,.p (I s.1))],[],[]⟩) (fun s=>l.length - s.1) (fun s=>s.1≤l.length∧EL (l.drop s.1) most s.2=EL l most 0) ((0,0)) As ?_ ?_)))))))))
  ·exact D2 ⟨O,O,O,O,O,Au⟩ AA
  rintro⟨i,m⟩ ⟨hi,hC⟩;simp only at hi hC;refine Ay A8 1 [] O (Az (A0 O (fun c1=>?_) (fun c1=>?_)))
  ·(try simp only[sd] at c1);have hi2:i<l.length:=by rw[Bc] at c1;omega
   obtain⟨t,hk⟩:=BB hi2;have hks:=Cj hk;obtain⟨kd,ix,nm,ls,ks⟩:=t;have hnt:=PW hnd hk;simp only[Wd] at hnt;simp only[size] at hks;refine A5 (Az (BH (A3 (Av O (BA Br O O Ar (Bj hk) (BJ _)) (Av O (BO Ba O (BJ _)) (BP O (BE B8 O) fun b7=>Ax A8 1 [0,0] O (Az (Ay A8 3 [] O (A0 O (fun c2=>?_) (fun c2=>?_))))))))))
   ·(try simp only[sd] at c2);refine Ay A8 2 [] O (A4 ⟨O,_,[],Bi O,List.nil_sublist _,?_⟩);exact⟨pI (by rw[←hC,R2 hk,if_pos Ar]),O⟩
   (try simp only[sd] at c2);refine A5 (A7 (A2 A8 3 [] O (Av O (JW O O) (A2 A8 2 [0] O (Av O (BM O O (ih (Bg ks) Ar ks _ (Nat.le_refl _) hnt.2.2.2.2.1 hnt.2.2.2.1) O) (Av O (FC O O) (Av O (FC O O) (Ax A8 1 [] O (A7 (Ax A8 2 [] O ?_))))))))));exact⟨(i+1,wr (m+wr (1+EL ks (wr (most - m)) 0))),Am,⟨by omega,by rw[←hC,R2 hk,if_neg Ar,EZ]⟩,D2 ⟨rfl,rfl,rfl,rfl,rfl,trivial⟩ AA⟩
  (try simp only[sd] at c1);have hi2:i=l.length:=by rw[Bc] at c1;omega
  refine Bp (Ay A8 2 [] O (A4 ⟨O,_,[],Bi O,List.nil_sublist _,?_⟩));exact⟨pI (by rw[←hC,hi2,List.drop_length];rfl),O⟩
theorem jt:∀(x:Cf),(kE x)→FF Tryz.prog 100 [.agg ((CD x).map .p)] (.p (.bool (decide ((x.vars.length:Int) > 20)))):=by
 intro x h1;refine A9 Tryz.func100 O kc (n:=7) O O (A3 (BP O (BY O) fun b1=>Ax A8 1 [] O (A3 (A2 A8 2 [0] O (Av O (BS EA O (List.length_map _)) (Ax A8 2 [] O (A4 (⟨O,_,_,⟨_,_,O,O,O⟩,(List.nil_sublist _),?_⟩))))))))
 all_goals exact⟨rfl,rfl⟩
theorem jI:∀(l:List Cf),(l.length<wide)→(∀x∈l,kE x)→FX Tryz.prog 130 [.p (.lst (List.map CD l)),.p (.fn 100)] (fun v=>∃r:Int,v= .p (I r)∧(r<0→∀x∈l,x.vars.length≤20)):=by
 intro l h1 h2;simp only[wide] at h1;refine A9 Tryz.func130 O iH (n:=19) O O (Ay A8 1 [] O (Az (A3 (B0 O (Av O (BS Fb O (List.length_map _)) (Ax A8 1 [] O (BH ?_)))))));refine Bn (α:=Nat) (fun i=>⟨19,mk [(0,.p (.lst (List.map CD l))),(1,.p (.fn 100)),(7,.p (I (l.length:Nat))),(8,.p (I (i:Int)))],[],[]⟩) (fun i=>l.length - i) (fun i=>i≤l.length∧(∀j,j<i→∀x,l[j]?=some x→x.vars.length≤20)) 0 (⟨by omega,fun j h=>by omega⟩) ?_ ?_
 ·exact Bh ⟨we O,we O,we O,we O,Au⟩ (leH (is:=[]) O (Dd))
 rintro i hC
 try simp only at hC
 obtain⟨hi,hC⟩:=hC;refine Ay A8 1 [] O (Az (A0 O (fun c=>?_) (fun c=>?_)))
 ·(try simp only[sd,se] at c);refine A5 (Az (BH (Ay A8 2 [] O (A3 (A2 A8 3 [] O ?_)))));obtain⟨x,hx⟩:=BB (l:=l) (i:=i) Ar;refine Av O (BA Fb O O Ar (G0 hx) (Dw _)) (Av O (BO FK O (Dw _)) (Av O (BM O O (jt x (h2 x (List.mem_of_getElem? hx))) O) (Bk O (A0 O (fun c1=>?_) (fun c1=>?_)))))
  ·(try simp only[sd,se] at c1);refine Ay A8 2 [] O (A4 (⟨O,_,[],Bi O,List.nil_sublist _,⟨⟨_,O,?_⟩,O⟩⟩));exact fun h=>by omega
  (try simp only[sd,se] at c1);refine A5 (A7 (Ax A8 2 [] O (⟨(i+1),AT,⟨by omega,C6 hC hx Ar⟩,Bh ⟨we rfl,we rfl,we rfl,we rfl,trivial⟩ (leH (is:=[]) rfl (Dd))⟩)))
 (try simp only[sd,se] at c);refine Bp (Ay A8 1 [] O (A4 (⟨O,_,[],Bi O,List.nil_sublist _,⟨⟨_,O,?_⟩,O⟩⟩)));exact fun _ x hx=>by obtain⟨j,hj⟩:=KN hx;exact hC j (by have:=(List.getElem?_eq_some_iff.1 hj).1;omega) x hj
theorem gB:∀(l:List Cf),(l.length<wide)→(∀x∈l,kE x)→FX Tryz.prog 99 [.p (.lst (List.map CD l)),.p (.fn 100)] (fun v=>∃b:Bool,v= .p (.bool b)∧(b=false→∀x∈l,x.vars.length≤20)):=by
 intro l h1 h2;refine A9 Tryz.func99 O kl (n:=9) O O (Ay A8 1 [] O (A3 (A2 A8 2 [] O (DO O O (B7 O O (jI l h1 h2) (.inl O)) ?_))));rintro _ ⟨r,rfl,hr⟩;refine Ax A8 2 [] O (A4 (⟨O,_,[],Bi O,List.nil_sublist _,⟨⟨_,O,?_⟩,O⟩⟩));exact fun h=>hr (by simp at h;omega)
theorem ky:∀(n:Nat) (l:List Tm),(Bg l≤n)→(gS l)→(l.length<wide)→FX Tryz.prog 64 [.p (.lst (BK l))] (fun v=>∃b:Bool,v= .p (.bool b)∧(b=true→Wy l)):=by
 intro n
 induction n using Nat.strongRecOn with
 | ind n ih =>
  intro l h1 h2 h3;have h3b:=h3;simp only[wide] at h3b;refine A9 Tryz.func64 O pA (n:=36) O O (Ay A8 1 [] O (Az (A3 (B0 O (Av O (BM O O (VF _ l 200 (Nat.le_refl _) h2 h3) O) (Ax A8 1 [] O (A0 O (fun c=>?_) (fun c=>?_))))))))
  ·have cR:=c;(try simp only[sd,se] at c);refine Ay A8 1 [] O (A4 (⟨O,_,[],Bi O,List.nil_sublist _,⟨⟨_,O,?_⟩,O⟩⟩));exact fun h=>absurd h Aq
  have cR:=c;(try simp only[sd,se] at c);refine A5 (Az (A3 (B0 O (Av O (BS Br O (Bc _)) (Ax A8 1 [] O (BH ?_))))));refine Bn (α:=Nat) (fun i=>⟨36,mk [(8,.p (.lst (BK l))),(9,.p (I (l.length:Nat))),(10,.p (I (i:Int)))],[],[]⟩) (fun i=>l.length - i) (fun i=>i≤l.length∧(∀j,j<i→∀x,l[j]?=some x→Zg x)) 0 (⟨by omega,fun j h=>by omega⟩) ?_ ?_
  ·exact Bh ⟨we O,we O,we O,Au⟩ (leH (is:=[]) O (Dd))
  rintro i hC
  try simp only at hC
  obtain⟨hi,hC⟩:=hC;refine Ay A8 1 [] O (Az (A0 O (fun c1=>?_) (fun c1=>?_)))
  ·have c1R:=c1;(try simp only[sd,se] at c1);refine A5 (Az (BH (A3 ?_)));obtain⟨t,ht⟩:=BB (l:=l) (i:=i) Ar;refine Av O (BA Br O O Ar (Bj ht) (BJ _)) (Av O (BO Ba O (BJ _)) (BP O (BE B8 O) fun b4=>Ax A8 1 [0,1] O (Az ?_)));obtain⟨tk,ti,tn,tl,ts⟩:=t;have hnt:=PW h2 ht;simp only[Wd] at hnt;have hks:=Cj ht;simp only[size] at hks;refine Bb [8,9,10] 34 (fun y=>∃b:Bool,y= .p (.bool b)∧(b=false→Zg (.mk tk ti tn tl ts))) ?_ ?_
   ·refine A7 (A2 A8 2 [0] O (Av O (Fm iD O) (A2 A8 2 [] O (BQ 18 O (fun g=>?_) (fun g=>?_)))))
    ·(try simp only[sd,se] at g);refine Ax A8 16 [] O ?_;exact⟨O,O,AK,(by first | exact⟨_,rfl,fun h=>absurd h Aq⟩ | exact⟨_,rfl,fun h=>by simp only[Bool.not_eq_false'] at h;exact⟨by omega,by omega,hb Ao,(hb1 h).sz,(hb1 h).nd,(hb1 h).fw⟩⟩),⟨O,O,O,Au⟩⟩
    (try simp only[sd,se] at g);refine A2 A8 2 [0] O (BF O (BS Fb O (List.length_map _)) (A2 A8 3 [] O (BQ 24 O (fun g1=>?_) (fun g1=>?_))))
    ·(try simp only[sd,se] at g1);refine Ax A8 10 [] O ?_;exact⟨O,O,AK,(by first | exact⟨_,rfl,fun h=>absurd h Aq⟩ | exact⟨_,rfl,fun h=>by simp only[Bool.not_eq_false'] at h;exact⟨by omega,by omega,hb Ao,(hb1 h).sz,(hb1 h).nd,(hb1 h).fw⟩⟩),⟨O,O,O,Au⟩⟩
    (try simp only[sd,se] at g1);refine A2 A8 2 [0] O (G5 O O O O (B7 O O (gB tl hnt.2.1 hnt.2.2.1) (.inl O)) ?_);rintro _ ⟨b,rfl,hb⟩;refine A2 A8 2 [] O (BQ 29 O (fun g2=>?_) (fun g2=>?_))
    ·(try simp only[sd,se] at g2);refine Ax A8 5 [] O ?_;exact⟨O,O,AK,(by first | exact⟨_,rfl,fun h=>absurd h Aq⟩ | exact⟨_,rfl,fun h=>by simp only[Bool.not_eq_false'] at h;exact⟨by omega,by omega,hb Ao,(hb1 h).sz,(hb1 h).nd,(hb1 h).fw⟩⟩),⟨O,O,O,Au⟩⟩
    (try simp only[sd,se] at g2);refine A2 A8 2 [0] O (G5 O O O O (B7 O O (ih (Bg ts) Ar ts (Nat.le_refl _) hnt.2.2.2.2.1 hnt.2.2.2.1) (.inl O)) ?_);rintro _ ⟨b1,rfl,hb1⟩;refine Ax A8 2 [] O ?_;exact⟨O,O,AK,(by first | exact⟨_,rfl,fun h=>absurd h Aq⟩ | exact⟨_,rfl,fun h=>by simp only[Bool.not_eq_false'] at h;exact⟨by omega,by omega,hb Ao,(hb1 h).sz,(hb1 h).nd,(hb1 h).fw⟩⟩),⟨O,O,O,Au⟩⟩
   rintro _ ⟨q,rfl,hq⟩;refine A0 O (fun c2=>?_) (fun c2=>?_)
   ·have c2R:=c2;(try simp only[sd,se] at c2);refine Ay A8 1 [] O (A4 (⟨O,_,[],Bi O,List.nil_sublist _,⟨⟨_,O,?_⟩,O⟩⟩));exact fun h=>absurd h Aq
   have c2R:=c2;(try simp only[sd,se] at c2);refine A5 (A7 (Ax A8 2 [] O (⟨(i+1),AT,⟨by omega,C6 hC ht (hq (by simpa using c2))⟩,Bh ⟨we rfl,we rfl,we rfl,trivial⟩ (leH (is:=[]) rfl (Dd))⟩)))
  have c1R:=c1;(try simp only[sd,se] at c1);refine Bp (Ay A8 1 [] O (A4 (⟨O,_,[],Bi O,List.nil_sublist _,⟨⟨_,O,?_⟩,O⟩⟩)));exact fun _=>ez (m:=i) Ar h2 h3 Ar hC
theorem aE:∀(l:List Tm),(gS l)→(l.length<wide)→FX Tryz.prog 30 [.p (.lst (BK l))] (fun v=>∃bb:Bool,v= .p (.bool bb)∧(bb=true→Wy l∧∀t∈l,okB t=true)):=by
 intro l h1 h2;have h2b:=h2;simp only[wide] at h2b;refine A9 Tryz.func30 O pZ (n:=18) O O (Ay A8 1 [] O (Az (A3 (B0 O (DO O O (B7 O O (ky _ l (Nat.le_refl _) h1 h2) (.inl O)) ?_)))));rintro _ ⟨b,rfl,hb⟩;refine Ax A8 1 [] O (A0 O (fun c=>?_) (fun c=>?_))
 ·(try simp only[sd,se] at c);refine Ay A8 1 [] O (A4 (⟨O,_,[],Bi O,List.nil_sublist _,⟨⟨_,O,?_⟩,O⟩⟩));exact fun h=>absurd h Aq
 (try simp only[sd,se] at c);have hf:=hb (by simpa using c);refine A5 (Az (A3 (B0 O (Av O (BS Br O (Bc _)) (Ax A8 1 [] O (BH ?_))))));refine Bn (α:=Nat) (fun i=>⟨18,mk [(8,.p (.lst (BK l))),(9,.p (I (l.length:Nat))),(10,.p (I (i:Int)))],[],[]⟩) (fun i=>l.length - i) (fun i=>i≤l.length∧(∀j,j<i→∀x,l[j]?=some x→okB x=true)) 0 (⟨by omega,fun j h=>by omega⟩) ?_ ?_
 ·exact Bh ⟨we O,we O,we O,Au⟩ (leH (is:=[]) O (Dd))
 rintro i hC
 try simp only at hC
 obtain⟨hi,hC⟩:=hC;refine Ay A8 1 [] O (Az (A0 O (fun c1=>?_) (fun c1=>?_)))
 ·(try simp only[sd,se] at c1);refine A5 (Az (BH (A3 ?_)));obtain⟨x,hx⟩:=BB (l:=l) (i:=i) Ar;refine Av O (BA Br O O Ar (Bj hx) (BJ _)) (Av O (BO Ba O (BJ _)) (BP O (BE B8 O) fun b4=>Ax A8 1 [0,1] O (A3 (Av O (BI (i:=0) Ba O O Ak) (DO O O (B7 O O (RI x 65536 8 65536 65536 (Dy hf.nd hx) (by have:=Cj hx;have:=hf.sz;omega)) (.inl O)) ?_)))));rintro _ ⟨e,rfl,he⟩;refine Ax A8 1 [] O (A0 O (fun c2=>?_) (fun c2=>?_))
  ·(try simp only[sd,se] at c2);refine Ay A8 1 [] O (A4 (⟨O,_,[],Bi O,List.nil_sublist _,⟨⟨_,O,?_⟩,O⟩⟩));exact fun h=>absurd h Aq
  (try simp only[sd,se] at c2);refine A5 (A7 (Ax A8 2 [] O (⟨(i+1),AT,⟨by omega,C6 hC hx (Z3 (Dy hf.nd hx) (by have:=Cj hx;have:=hf.sz;omega) Ar (he Ar))⟩,Bh ⟨we rfl,we rfl,we rfl,trivial⟩ (leH (is:=[]) rfl (Dd))⟩)))
 (try simp only[sd,se] at c1);refine Bp (Ay A8 1 [] O (A4 (⟨O,_,[],Bi O,List.nil_sublist _,⟨⟨_,O,?_⟩,O⟩⟩)));exact fun _=>⟨hf,Hc Ar hC⟩
theorem eV:∀(t:Tm),(okB t=true)→(size t<1000000)→FX Tryz.prog 20 [.agg ((BU t).map .p)] (Fh):=by
 intro t h1 h2;refine A9 Tryz.func20 O lW (n:=6) O O (A3 (BP O (BY O) fun b1=>Ax A8 1 [] O (A3 (Av O (BI (i:=0) Ba O O Ak) (DO O O (B7 O O (RI t 60000 8 65536 65536 (Ch.1 h1).nd h2) (.inl O)) ?_)))));rintro _ ⟨e,rfl,he⟩;refine Ax A8 2 [] O (A4 (⟨O,_,_,⟨_,_,O,O,O⟩,(List.nil_sublist _),?_⟩))
 all_goals exact⟨⟨_,rfl⟩,rfl⟩
theorem j5:∀(l:List Tm),(l.length<1000000)→(∀x∈l,okB x=true∧size x<1000000)→FX Tryz.prog 67 [.p (.lst (BK l)),.p (.fn 20)] (YL):=by
 intro l h1 h2;refine A9 Tryz.func67 O pH (n:=19) O O (Ay A8 1 [] O (Az (A3 (B0 O (Av O (BS Br O (Bc _)) (Ax A8 1 [] O (BH (Bn (α:=Nat) (fun i=>⟨19,mk [(0,.p (.lst (BK l))),(1,.p (.fn 20)),(7,.p (I (l.length:Nat))),(8,.p (I (i:Int)))],[],[]⟩) (fun i=>l.length - i) (fun i=>i≤l.length) 0 AP ?_ ?_))))))))
 ·exact Bh ⟨we O,we O,we O,we O,Au⟩ (leH (is:=[]) O (Dd))
 rintro i hC
 try simp only at hC
 have hi:=hC;refine Ay A8 1 [] O (Az (A0 O (fun c=>?_) (fun c=>?_)))
 ·(try simp only[sd,se] at c);refine A5 (Az (BH (Ay A8 2 [] O (A3 (A2 A8 3 [] O ?_)))));obtain⟨x,hx⟩:=BB (l:=l) (i:=i) Ar;refine Av O (BA Br O O Ar (Bj hx) (BJ _)) (Av O (BO Ba O (BJ _)) (DO O O (B7 O O (eV x (h2 _ (List.mem_of_getElem? hx)).1 (h2 _ (List.mem_of_getElem? hx)).2) (.inl O)) ?_));rintro _ ⟨q,rfl⟩;refine Bk O (A0 O (fun c1=>?_) (fun c1=>?_))
  ·(try simp only[sd,se] at c1);refine Ay A8 2 [] O (A4 (⟨O,_,_,⟨_,_,O,O,O⟩,(List.nil_sublist _),?_⟩))
   all_goals exact⟨⟨_,rfl⟩,rfl⟩
  (try simp only[sd,se] at c1);refine A5 (A7 (Ax A8 2 [] O ?_));refine⟨(i+1),AT,by omega,Bh ⟨we rfl,we rfl,we rfl,we rfl,trivial⟩ (leH (is:=[]) rfl (Dd))⟩
 (try simp only[sd,se] at c);refine Bp (Ay A8 1 [] O (A4 (⟨O,_,_,⟨_,_,O,O,O⟩,(List.nil_sublist _),?_⟩)))
 all_goals exact⟨⟨_,rfl⟩,rfl⟩
theorem eR:∀(l:List Tm),(l.length<1000000)→(∀x∈l,okB x=true∧size x<1000000)→FX Tryz.prog 32 [.p (.lst (BK l)),.p (.fn 20)] (Fh):=by
 intro l h1 h2;refine A9 Tryz.func32 O ou (n:=9) O O (Ay A8 1 [] O (A3 (A2 A8 2 [] O (DO O O (B7 O O (j5 l h1 h2) (.inl O)) ?_))));rintro _ ⟨r,rfl⟩;refine Ax A8 2 [] O (A4 (⟨O,_,_,⟨_,_,O,O,O⟩,(List.nil_sublist _),?_⟩))
 all_goals exact⟨⟨_,rfl⟩,rfl⟩
theorem aL:∀(ds:List CM) (l:List Tm),(Ho ds)→(gS l)→(l.length<wide)→FX Tryz.prog 10 [.p (.lst (List.map Bo ds)),.p (.lst (BK l))] (fun v=>∃bb:Bool,v= .p (.bool bb)∧(bb=true→bQ ds l)):=by
 intro ds l h1 h2 h3;refine A9 Tryz.func10 O oO (n:=21) O O (Ay A8 1 [] O (A3 (B0 O (Av O (BM O O (VF _ l 60 (Nat.le_refl _) h2 h3) O) (A2 A8 2 [] O (BQ 8 O (fun g=>?_) (fun g=>?_)))))))
 ·(try simp only[sd,se] at g);refine BF O (BC O) (G5 O O O O (B7 O O (aE l h2 h3) (.inl O)) ?_);rintro _ ⟨b,rfl,hb⟩;refine A2 A8 2 [] O (BQ 12 O (fun g1=>?_) (fun g1=>?_))
  ·(try simp only[sd,se] at g1);refine BF O (BC O) (G5 O O O O (B7 O O (ad ds h1) (.inl O)) ?_);rintro _ ⟨q,rfl,hq⟩;refine A2 A8 2 [] O (BQ 16 O (fun g2=>?_) (fun g2=>?_))
   ·(try simp only[sd,se] at g2);refine BF O (BC O) (G5 O O O O (B7 O O (eR l (Yi (hb Ao).1) (Wm (hb Ao))) (.inl O)) ?_);rintro _ ⟨q1,rfl⟩;refine Ax A8 3 [] O (A4 (⟨O,_,_,⟨_,_,O,O,O⟩,(List.nil_sublist _),?_⟩))
    all_goals exact⟨⟨_,rfl,fun h=>aZ Ar (hb Ao) (hq Ao)⟩,rfl⟩
   (try simp only[sd,se] at g2);refine Ax A8 5 [] O (A4 (⟨O,_,_,⟨_,_,O,O,O⟩,(List.nil_sublist _),?_⟩))
   all_goals exact⟨⟨_,rfl,fun h=>absurd h Aq⟩,rfl⟩
  (try simp only[sd,se] at g1);refine Ax A8 9 [] O (A4 (⟨O,_,_,⟨_,_,O,O,O⟩,(List.nil_sublist _),?_⟩))
  all_goals exact⟨⟨_,rfl,fun h=>absurd h Aq⟩,rfl⟩
 (try simp only[sd,se] at g);refine Ax A8 13 [] O (A4 (⟨O,_,_,⟨_,_,O,O,O⟩,(List.nil_sublist _),?_⟩))
 all_goals exact⟨⟨_,rfl,fun h=>absurd h Aq⟩,rfl⟩
def q8 (ds:List CM) (n:Nat):Prop:=∀(b:Nat) (t:Tm) (c c2:Ik) (q:Option Int),HJ ds jB n c t= .ok (q,c2)→Bu Tryz.prog 19 [.p (.lst (List.map Bo ds)),.agg ((BU t).map .p),.ptr b 0] [.box b ((ZV c).map .p)] (HM (.tup [.p (I (q.getD 0)),.p (.bool q.isSome)]) [.box b ((ZV c2).map .p)])
end Go.Proofs.YtboammbpdaoojaaGreat
namespace Go.Eu
open Go.Abs
def NF {α:Type}(o:Out α):Prop:=o≠ .fail
section
variable {α β:Type}
end
section
variable {E:List CM}{W:Ik→Tm→Out (Tm×Ik)}
end
@[irreducible] def FN:Nat:=1000000000000
theorem YB:FN=1000000000000:=by unfold FN;rfl
section
variable {E:List CM}{t:Tm}
theorem jr (hE:HD E) (ho:okB t=true) (hs:size t≤10000):DN (DJ E Bq FN 20000 t) (fun r=>okB r.1=true∧size r.1<549755813888) :=
 DN.mono (W9 YJ hE FN 20000 t ⟨LS,ho,fun _=>by simp;omega,fun _=>by rw[YB];simp;omega,by rw[YB];omega⟩) fun r h=>⟨h.ok,by have:=G3 h.ok;omega⟩
theorem Xg {α:Type}(o:Out (α×Int)):Iz o=0∨Iz o=11:=by
 cases o with
 | stuck=>exact .inr rfl
 | fail=>exact .inr rfl
 | ok a=>exact .inl rfl
end
structure Fit (z:Nat) (q:Tm):Prop where
 sz:size q≤2000+z
 dp:depth q≤95+z
def QF (z:Nat) (o:Out (Option Tm×Ik)):Prop:=∀q c',o= .ok (some q,c')→c'.over=false→Fit z q
theorem QF.mono {z z':Nat}{o:Out (Option Tm×Ik)}(h:QF z o) (hz:z≤z'):QF z' o:=fun q c' e hv=>by
 obtain⟨h1,h2⟩:=h q c' e hv;exact⟨by omega,by omega⟩
section
variable {E:List CM}
end
section
variable {E:List CM}{t:Tm}
end
section
variable {E:List CM}{t:FE}{a:List Tm}
structure gU (t:FE) (a:List Tm):Prop where
 tok:FJ t
 dep:Dn t≤50
 ok:∀x∈a,okB x=true
 sz:Bg a≤60
theorem gU.len (h:gU t a):a.length≤60:=by have:=Fx a;have:=h.sz;omega
theorem gU.all (h:gU t a):∀x∈a,okB x=true∧size x≤100000:=fun x hx=>⟨h.ok x hx,by have:=HR hx;have:=h.sz;omega⟩
end
end Go.Eu
namespace Go.Proofs.YtboammbpdaoojaaGreat
open Go.Abs Go.Eu
end Go.Proofs.YtboammbpdaoojaaGreat
namespace Go.Eu
open Go.Abs
theorem bT {o:Out (Tm×Int)}(h:Iz o=0):∃a l,o= .ok (a,l)∧G8 Be o=a:=by
 cases o with
 | ok a=>exact⟨a.1,a.2,rfl,rfl⟩
 | stuck=>simp[Iz] at h
 | fail=>simp[Iz] at h
theorem gv {a:Tm}{l:Int}:G8 Be (.ok (a,l):Out (Tm×Int))=a:=rfl
theorem ei {a:Tm}{l:Int}:Iz (.ok (a,l):Out (Tm×Int))=0:=rfl
section
variable {E:List CM}{t:Tm}
theorem Wx (hE:HD E) (ho:okB t=true) (hs:size t≤10000):okB (G8 Be (DJ E Bq FN 20000 t))=true∧size (G8 Be (DJ E Bq FN 20000 t))<100000000:=by
 have h:=W9 YJ hE FN 20000 t ⟨LS,ho,fun _=>by simp;omega,fun _=>by rw[YB];simp;omega,by rw[YB];omega⟩;cases ho2:DJ E Bq FN 20000 t with
 | stuck=>exact⟨Gp,by decide⟩
 | fail=>exact⟨Gp,by decide⟩
 | ok a =>
  rw[ho2] at h;have h1:SP Bq GH (fun n=>(20000 - n).toNat) 20000 20000 t a:=h;have h2:=h1.sz;have h3:=h1.j.1;have h4:=h1.j.2;refine⟨h1.ok,?_⟩;show size a.1<100000000;have:((20000:Int) - a.2).toNat - ((20000:Int) - 20000).toNat≤20000:=by omega
  have:=Nat.mul_le_mul_right 4500 this;omega
theorem jb {n:Nat}{a:Tm}{l:Int}(ho:okB a=true) (h:DJ E Bq n 20000 t= .ok (a,l)):∃N x,DJ E Bq N 20000 a= .ok (a,x):=by
 obtain⟨n',l1,l2,q1,q2⟩:=TR n _ _ t a h;have h1:=X9 ho q2;have h2:=XL (n'+1) l1 a a l2 (20000 - l1) Ar h1;rw[show l1+(20000 - l1)=20000 by omega] at h2;exact⟨_,_,h2⟩
theorem dK (hE:HD E) (ho:okB t=true) (hs:size t≤10000) (he:Iz (DJ E Bq FN 20000 t)=0):∃N x,DJ E Bq N 20000 (G8 Be (DJ E Bq FN 20000 t))= .ok (G8 Be (DJ E Bq FN 20000 t),x):=by
 obtain⟨a,l,h1,h2⟩:=bT he;have h3:=(Wx hE ho hs).1;rw[h2] at h3 ⊢;exact jb h3 h1
theorem ZJ (hE:HD E) (ho:okB t=true) (hs:size t≤10000) (he:Iz (DJ E Bq FN 20000 t)=0)
  (hp:¬((BD (G8 Be (DJ E Bq FN 20000 t))).1.kind=9∨(BD (G8 Be (DJ E Bq FN 20000 t))).1.kind=10))
  (hc:(BD (G8 Be (DJ E Bq FN 20000 t))).1.kind=3→(Bw E (BD (G8 Be (DJ E Bq FN 20000 t))).1.name).1.kind≠5∧(Bw E (BD (G8 Be (DJ E Bq FN 20000 t))).1.name).1.kind≠6) :
  EN E Bq 1 20000 (G8 Be (DJ E Bq FN 20000 t))= .ok (none,20000):=by
 obtain⟨a,l,h1,h2⟩:=bT he;have h3:=(Wx hE ho hs).1;rw[h2] at h3 hp hc ⊢;exact eG h1 hp hc h3 0 20000
end
def Jr (k:Int) (ks:List Tm):Tm:= .mk k 0 ⟨#[]⟩ [] ks
theorem TY {k:Int}{ks:List Tm}(hN:kF k 0 ⟨#[]⟩ [] ks.length=true) (h:∀x∈ks,okB x=true) (hs:Bg ks<1000000):okB (Jr k ks)=true :=
 LC (by rw[Jr,KJ,hN];simpa using Iy.2 fun x hx=>Ir (h x hx)) (by simp only[Jr,size];omega)
section
variable {E:List CM}{f:Tm}{xs:List Tm}
theorem V6 {h:Tm}(ho:okB h=true) (hs:size h≤5000) (ha:∀x∈xs,okB x=true) (hz:Bg xs≤60):okB (apply h xs)=true∧size (apply h xs)≤10000:=by
 have h1:=EM xs h;have h2:=Fx xs;exact⟨LC (IX (Ir ho) fun x hx=>Ir (ha x hx)) Ar,by omega⟩
structure LJ (l0 l1 l2:Tm) (xs:List Tm):Prop where
 o0:okB l0=true
 o1:okB l1=true
 o2:okB l2=true
 oa:∀x∈xs,okB x=true
 sz:size l0+size l1+size l2+Bg xs≤60
variable {l0 l1 l2 a b:Tm}{l m:Int}
theorem LJ.lam (h:LJ l0 l1 l2 xs):okB (Jr 5 [l0,l1])=true∧size (Jr 5 [l0,l1])≤100:=by
 have:=h.sz;exact⟨TY O (by simp[h.o0,h.o1]) (by simp only[Bg];omega),by simp only[Jr,size,Bg];omega⟩
theorem LJ.len (h:LJ l0 l1 l2 xs):xs.length≤60:=by have:=h.sz;have:=Fx xs;omega
theorem LJ.args (h:LJ l0 l1 l2 xs):∀x∈l2::xs,okB x=true:=fun x hx=>by
 rcases List.mem_cons.1 hx with rfl | hx
 ·exact h.o2
 exact h.oa x hx
theorem LJ.pair1 (h:LJ l0 l1 l2 xs):okB (Jr 8 [l0,l1,l2])=true:=by
 have hz:=h.sz;exact TY O (by simp[h.o0,h.o1,h.o2]) (by simp only[Bg];omega)
theorem LJ.swap (h:LJ l0 l1 l2 xs):LJ l0 l2 l1 xs:=⟨h.o0,h.o2,h.o1,h.oa,by have:=h.sz;omega⟩
theorem LJ.proj (h:LJ l0 l1 l2 xs) {k:Int}(hk:k=9∨k=10):okB (apply (Jr k [Jr 8 [l0,l1,l2]]) xs)=true∧size (apply (Jr k [Jr 8 [l0,l1,l2]]) xs)≤10000:=by
 have hz:=h.sz;refine V6 (TY (by rcases hk with rfl | rfl<;>rfl) (by simp[h.pair1]) (by simp only[Jr,size,Bg];omega)) (by simp only[Jr,size,Bg];omega) h.oa Ar
theorem LJ.body (h:LJ l0 l1 l2 xs):okB (apply (Cv l1 [l2] 0).1 xs)=true∧size (apply (Cv l1 [l2] 0).1 xs)≤10000:=by
 have hz:=h.sz;have h2:=Ib h.o1 (vs:=[l2]) (by simp[h.o2]);exact V6 (Lj h.o1 (by simp[h.o2]) As) Ar h.oa Ar
theorem LJ.second (h:LJ l0 l1 l2 xs):okB (apply l1 xs)=true∧size (apply l1 xs)≤10000:=by
 have hz:=h.sz;exact V6 h.o1 Ar h.oa Ar
end
end Go.Eu
namespace Go.Proofs.YtboammbpdaoojaaGreat
open Go.Abs Go.Eu
theorem ZD:∀(t:Tm) (vars params metas levels:Int),(Nd t)→(size t<100000000)→FX Tryz.prog 55 [.agg ((BU t).map .p),.p (I vars),.p (I params),.p (I metas),.p (I levels)] (fun v=>∃e:Int,v= .p (I e)):=by
 intro t vars params metas levels h1 h2;refine A9 Tryz.func55 O mL (n:=28) O O (A3 (BP O (BY O) fun b5=>Ax A8 1 [] O (Az (A3 (A2 A8 2 [0] O (Av O (IN O O) (A2 A8 3 [] O (DO O O (B7 O O (XU _ t 0 (max (vars:Int) (0:Int)) params metas levels (Nat.le_refl _) h1 Ar Ab) (.inl O)) ?_))))))));rintro _ ⟨e,rfl,he⟩;refine Ax A8 1 [] O (Ay A8 2 [] O (A0 O (fun c=>?_) (fun c=>?_)))
 ·(try simp only[sd,se] at c);refine Ay A8 2 [] O (A4 (⟨O,_,_,⟨_,_,O,O,O⟩,(List.nil_sublist _),?_⟩))
  all_goals exact⟨⟨_,rfl⟩,rfl⟩
 (try simp only[sd,se] at c);refine A5 (Az (A3 (Av O (BI (i:=0) Ba O O Ak) (Av O (BM O O (Tv _ t (Nat.le_refl _) h1) O) (Ax A8 1 [] O (A0 O (fun c1=>?_) (fun c1=>?_)))))))
 ·(try simp only[sd,se] at c1);refine Ay A8 1 [] O (A4 (⟨O,_,_,⟨_,_,O,O,O⟩,(List.nil_sublist _),?_⟩))
  all_goals exact⟨⟨_,rfl⟩,rfl⟩
 (try simp only[sd,se] at c1);refine A5 (Az (A3 (Av O (BI (i:=0) Ba O O Ak) (Av O (BM O O (Qd _ t (Nat.le_refl _) h1) O) (Ax A8 1 [] O (A0 O (fun c2=>?_) (fun c2=>?_)))))))
 ·(try simp only[sd,se] at c2);refine Ay A8 1 [] O (A4 (⟨O,_,_,⟨_,_,O,O,O⟩,(List.nil_sublist _),?_⟩))
  all_goals exact⟨⟨_,rfl⟩,rfl⟩
 (try simp only[sd,se] at c2);refine A5 (Ay A8 1 [] O (A4 (⟨O,_,_,⟨_,_,O,O,O⟩,(List.nil_sublist _),?_⟩)))
 all_goals exact⟨⟨_,rfl⟩,rfl⟩
theorem cW:∀(t:Tm),(Nd t)→(size t<100000000)→FX Tryz.prog 20 [.agg ((BU t).map .p)] (Fh):=by
 intro t h1 h2;refine A9 Tryz.func20 O lW (n:=6) O O (A3 (BP O (BY O) fun b1=>Ax A8 1 [] O (A3 (Av O (BI (i:=0) Ba O O Ak) (DO O O (B7 O O (ZD t 60000 8 65536 65536 h1 h2) (.inl O)) ?_)))));rintro _ ⟨e,rfl⟩;refine Ax A8 2 [] O (A4 (⟨O,_,_,⟨_,_,O,O,O⟩,(List.nil_sublist _),?_⟩))
 all_goals exact⟨⟨_,rfl⟩,rfl⟩
theorem eU:∀(ds:List CM) (t:Tm),(Ho ds)→(Wd t)→FF Tryz.prog 6 [.p (.lst (List.map Bo ds)),.agg ((BU t).map .p)] (.p (.bool true)):=by
 intro ds t h1 h2;refine A9 Tryz.func6 O qd (n:=112) O O (A3 (BP O (BY O) fun b3=>Ax A8 1 [] O (Az (A3 (A2 A8 2 [0] O (Av O (Bx (rows:=BK [t]) Br B8 O O O O (CQ (B9 _)) (Eo _)) (DO O O (B7 O O (aL ds [t] h1 ⟨h2,Au⟩ (by simp[wide])) (.inl O)) ?_)))))));rintro _ ⟨q,rfl,hq⟩;refine Ax A8 1 [] O (A0 O (fun c=>?_) (fun c=>?_))
 ·(try simp only[sd,se] at c);refine A3 (Av O (BM O O (Hh ) O) (Ax A8 1 [] O (A4 (⟨O,_,_,⟨_,_,O,O,O⟩,(List.nil_sublist _),?_⟩))))
  all_goals exact⟨rfl,rfl⟩
 (try simp only[sd,se] at c);have hs:=hq (by simpa using c);have ho:=hs.ok t As;have hsz:size t≤60:=by have:=hs.sz;simp only[Bg] at this;omega
 obtain⟨ha1,ha2⟩:=Wx hs.env ho Ar;refine A5 (A3 (A2 A8 2 [0] O (Av O (BM O O (Nr ds FN t hs.env (jr hs.env ho Ar).ns) O) (A2 A8 3 [] O (BP O (BE B8 O) fun b5=>Ax A8 2 [0,1] O (Az (A3 (A2 A8 3 [] O (BQ 30 O (fun g=>?_) (fun g=>?_))))))))))
 ·(try simp only[sd,se] at g);refine Ax A8 3 [] O ?_;refine A0 O (fun c1=>?_) (fun c1=>by cases c1);refine Az (Bb [] 4 (fun y=>y= .p (.bool ((((Iz (DJ ds Bq FN 20000 t):Int)==(0:Int))||((Iz (DJ ds Bq FN 20000 t):Int)==(11:Int)))&&true))) ?_ ?_)
  ·refine A7 (A2 A8 3 [] O (BQ 36 O (fun g1=>?_) (fun g1=>?_)))
   ·(try simp only[sd,se] at g1);exact A2 A8 4 [] O (BF O (BM O O (Hh ) O) (Ax A8 2 [] O ⟨O,O,AK,AI,Au⟩))
   (try simp only[sd,se] at g1);refine A2 A8 4 [] O (BQ 40 O (fun g2=>?_) (fun g2=>?_))
   ·(try simp only[sd,se] at g2);exact BF O (BM O O (Hh ) O) (Ax A8 2 [] O ⟨O,O,AK,AI,Au⟩)
   (try simp only[sd,se] at g2);exact Ax A8 3 [] O ⟨O,O,AK,AI,Au⟩
  rintro _ rfl;refine A4 (⟨O,_,_,⟨_,_,O,O,O⟩,(List.nil_sublist _),?_⟩)
  all_goals exact⟨by show (.p (.bool ((((Iz (DJ ds Bq FN 20000 t):Int)==(0:Int))||((Iz (DJ ds Bq FN 20000 t):Int)==(11:Int)))&&true)):AV)=_;refine pB ?_;rcases Xg (DJ ds Bq FN 20000 t) with h | h<;>simp[h],rfl⟩
 (try simp only[sd,se] at g);refine BF O (BI (i:=0) Ba O O Ak) (G5 O O O O (B7 O O (cW (G8 Be (DJ ds Bq FN 20000 t)) (Ch.1 ha1).nd ha2) (.inl O)) ?_);rintro _ ⟨q1,rfl⟩;refine Ax A8 1 [] O (A0 O (fun c1=>?_) (fun c1=>?_))
 ·(try simp only[sd,se] at c1);refine Az (Bb [] 4 (fun y=>y= .p (.bool ((((Iz (DJ ds Bq FN 20000 t):Int)==(0:Int))||((Iz (DJ ds Bq FN 20000 t):Int)==(11:Int)))&&true))) ?_ ?_)
  ·refine A7 (A2 A8 3 [] O (BQ 36 O (fun g1=>?_) (fun g1=>?_)))
   ·(try simp only[sd,se] at g1);exact A2 A8 4 [] O (BF O (BM O O (Hh ) O) (Ax A8 2 [] O ⟨O,O,AK,AI,Au⟩))
   (try simp only[sd,se] at g1);refine A2 A8 4 [] O (BQ 40 O (fun g2=>?_) (fun g2=>?_))
   ·(try simp only[sd,se] at g2);exact BF O (BM O O (Hh ) O) (Ax A8 2 [] O ⟨O,O,AK,AI,Au⟩)
   (try simp only[sd,se] at g2);exact Ax A8 3 [] O ⟨O,O,AK,AI,Au⟩
  rintro _ rfl;refine A4 (⟨O,_,_,⟨_,_,O,O,O⟩,(List.nil_sublist _),?_⟩)
  all_goals exact⟨by show (.p (.bool ((((Iz (DJ ds Bq FN 20000 t):Int)==(0:Int))||((Iz (DJ ds Bq FN 20000 t):Int)==(11:Int)))&&true)):AV)=_;refine pB ?_;rcases Xg (DJ ds Bq FN 20000 t) with h | h<;>simp[h],rfl⟩
 (try simp only[sd,se] at c1);have he0:Iz (DJ ds Bq FN 20000 t)=0:=by simpa using g
 obtain⟨N2,x2,hN2⟩:=dK hs.env ho Ar he0;refine A5 (A3 (A2 A8 2 [0] O (Av O (BM O O (Nr ds N2 (G8 Be (DJ ds Bq FN 20000 t)) hs.env (by rw[hN2];simp)) O) (A2 A8 3 [] O (BP O (BE B8 O) fun b7=>Ax A8 2 [0,1] O (Az (Ay A8 2 [] O (A0 O (fun c2=>?_) (fun c2=>?_)))))))))
 ·(try simp only[sd,se] at c2);refine Az (Bb [] 4 (fun y=>y= .p (.bool (((Iz (DJ ds Bq N2 20000 (G8 Be (DJ ds Bq FN 20000 t))):Int)==(11:Int))&&true))) ?_ ?_)
  ·refine A7 (A2 A8 3 [] O (BQ 53 O (fun g1=>?_) (fun g1=>?_)))
   ·(try simp only[sd,se] at g1);exact BF O (BM O O (Hh ) O) (Ax A8 2 [] O ⟨O,O,AK,AI,Au⟩)
   (try simp only[sd,se] at g1);exact Ax A8 3 [] O ⟨O,O,AK,AI,Au⟩
  rintro _ rfl;refine A4 (⟨O,_,_,⟨_,_,O,O,O⟩,(List.nil_sublist _),?_⟩)
  all_goals exact⟨by show (.p (.bool (((Iz (DJ ds Bq N2 20000 (G8 Be (DJ ds Bq FN 20000 t))):Int)==(11:Int))&&true)):AV)=_;rw[hN2] at c2;simp[ei] at c2,rfl⟩
 (try simp only[sd,se] at c2);refine A5 (Az (A3 (A2 A8 2 [1,0] O (Av O (BM O O (Mj _ (G8 Be (DJ ds Bq FN 20000 t)) (G8 Be (DJ ds Bq N2 20000 (G8 Be (DJ ds Bq FN 20000 t)))) (Nat.le_refl _) (Ch.1 ha1).nd) O) (Ax A8 1 [] O (A0 O (fun c3=>?_) (fun c3=>?_)))))))
 ·(try simp only[sd,se] at c3);refine Ay A8 1 [] O (A4 (⟨O,_,_,⟨_,_,O,O,O⟩,(List.nil_sublist _),?_⟩))
  all_goals exact⟨by show (.p (.bool false):AV)=_;rw[hN2] at c3;simp[gv,Fg] at c3,rfl⟩
 (try simp only[sd,se] at c3);refine A5 (A3 (Av O (BI (i:=1) Ba O O Ak) (Av O (BM O O (bg _ (G8 Be (DJ ds Bq FN 20000 t)) (Nat.le_refl _) Ab) O) (A2 A8 3 [] O (BP O (BE B8 O) fun b9=>Ax A8 2 [0,1] O (A3 (A2 A8 2 [] O ?_)))))));generalize hz:(BD (G8 Be (DJ ds Bq FN 20000 t))).1=z;obtain⟨zk,zi,zn,zl,zs⟩:=z;refine Av O (BG (i:=0) Lz O O O) (Av O (BM O O (NR ds zn h1) O) (A2 A8 3 [] O (BP O (BE IK O) fun b11=>Ax A8 2 [0,1] O (Az (Az (Bb [0,5] 94 (fun y=>y= .p (.bool ((((zk:Int)==(9:Int))||((zk:Int)==(10:Int)))||(((zk:Int)==(3:Int))&&(((((Bw ds zn).1).kind:Int)==(5:Int))||((((Bw ds zn).1).kind:Int)==(6:Int))))))) ?_ ?_))))))
 ·refine A7 (A2 A8 4 [1] O (BQ 75 O (fun g1=>?_) (fun g1=>?_)))
  ·(try simp only[sd,se] at g1);exact Ax A8 19 [] O (⟨O,O,AK,AI,⟨O,O,Au⟩⟩)
  (try simp only[sd,se] at g1);refine A2 A8 5 [1] O (BQ 80 O (fun g2=>?_) (fun g2=>?_))
  ·(try simp only[sd,se] at g2);exact Ax A8 14 [] O (⟨O,O,AK,AI,⟨O,O,Au⟩⟩)
  (try simp only[sd,se] at g2);refine A2 A8 4 [1] O (BQ 84 O (fun g3=>?_) (fun g3=>?_))
  ·(try simp only[sd,se] at g3);refine BF O (Aw E8 O O) (BF O (A6 (i:=0) C7 O O (DP _)) (A2 A8 2 [] O (BQ 88 O (fun g4=>?_) (fun g4=>?_))))
   ·(try simp only[sd,se] at g4);exact Ax A8 6 [] O (⟨O,O,AK,AI,⟨O,O,Au⟩⟩)
   (try simp only[sd,se] at g4);exact BF O (Aw E8 O O) (BF O (A6 (i:=0) C7 O O (DP _)) (Ax A8 4 [] O (⟨O,O,AK,AI,⟨O,O,Au⟩⟩)))
  (try simp only[sd,se] at g3);exact Ax A8 10 [] O (⟨O,O,AK,AI,⟨O,O,Au⟩⟩)
 rintro _ rfl;refine A0 O (fun c4=>?_) (fun c4=>?_)
 ·(try simp only[sd,se] at c4);refine A3 (Av O (BM O O (Hh ) O) (Ax A8 1 [] O (A4 (⟨O,_,_,⟨_,_,O,O,O⟩,(List.nil_sublist _),?_⟩))))
  all_goals exact⟨rfl,rfl⟩
 (try simp only[sd,se] at c4);have hst:=ZJ hs.env ho Ar he0 (by rw[hz];show ¬(zk=9∨zk=10);omega) (by rw[hz];show zk=3→(Bw ds zn).1.kind≠5∧(Bw ds zn).1.kind≠6;omega);refine A5 (A3 (A2 A8 2 [3] O (Av O (BM O O (Xz ds 1 (G8 Be (DJ ds Bq FN 20000 t)) hs.env (by rw[hst];simp) (by rw[hst];intro q c e;cases e;first | done | exact Gp)) O) (A2 A8 4 [] O (BP O (BE B8 O) fun b13=>Ax A8 3 [0,1] O (Az (Bb [] 4 (fun y=>y= .p (.bool (((((OV (EN ds Bq 1 20000 (G8 Be (DJ ds Bq FN 20000 t)))).2.2:Int)==(0:Int))&&(!((OV (EN ds Bq 1 20000 (G8 Be (DJ ds Bq FN 20000 t)))).2.1)))&&true))) ?_ ?_)))))))
 ·refine A7 (A2 A8 3 [] O (BQ 105 O (fun g1=>?_) (fun g1=>?_)))
  ·(try simp only[sd,se] at g1);refine A2 A8 4 [] O (BQ 109 O (fun g2=>?_) (fun g2=>?_))
   ·(try simp only[sd,se] at g2);exact BF O (BM O O (Hh ) O) (Ax A8 2 [] O ⟨O,O,AK,AI,Au⟩)
   (try simp only[sd,se] at g2);exact Ax A8 3 [] O ⟨O,O,AK,AI,Au⟩
  (try simp only[sd,se] at g1);exact Ax A8 7 [] O ⟨O,O,AK,AI,Au⟩
 rintro _ rfl;refine A4 (⟨O,_,_,⟨_,_,O,O,O⟩,(List.nil_sublist _),?_⟩)
 all_goals exact⟨by show (.p (.bool (((((OV (EN ds Bq 1 20000 (G8 Be (DJ ds Bq FN 20000 t)))).2.2:Int)==(0:Int))&&(!((OV (EN ds Bq 1 20000 (G8 Be (DJ ds Bq FN 20000 t)))).2.1)))&&true)):AV)=_;refine pB ?_;rw[hst];rfl,rfl⟩
end Go.Proofs.YtboammbpdaoojaaGreat
