/- Part of the proofs: an abstract program logic, plain models and contracts of functions. -/
import Derived.Test.YtboammbpdaoojaaGreatPb
import Derived.Test.YtboammbpdaoojaaGreatPj
import Derived.Test.YtboammbpdaoojaaGreatPd
set_option linter.unusedVariables false
set_option linter.unusedSimpArgs false
set_option maxRecDepth 100000
namespace Go.Proofs.YtboammbpdaoojaaGreat
open Go.Abs Go.Eu
theorem Vd:∀(n:Nat) (l:List Tm) (most:Int),Bl l≤n→im l→l.length<wide→Et Tryz.prog 29 [.p (I most),od l] (.p (I (Em l most 0))):=by
 intro n
 induction n using Nat.strongRecOn with
 | ind n ih =>
  intro l most hs hnd hlen;simp only[wide] at hlen;refine BD Tryz.func29 O qm (n:=29) O O (A2 BA 1 [] O (A2 BA 1 [] O (A1 (A4 (B6 O (Ay O (DH Bq O) (Az BA 1 [] O (BH (Bo (α:=Nat×Int) (fun s=>⟨29,mk [(0,.p (I most)),(5,.p (I s.2)),(8,od l),(9,.p (I (BO l).length)),(10,.p (I s.1))],[],[]⟩) (fun s=>l.length - s.1) (fun s=>s.1≤l.length∧Em (l.drop s.1) most s.2=Em l most 0) ((0,0)) Av ?_ ?_)))))))))
  ·exact EP ⟨O,O,O,O,O,Aw⟩ AA
  rintro⟨i,m⟩ ⟨hi,hC⟩;simp only at hi hC;refine A2 BA 1 [] O (A1 (A3 O (fun c1=>?_) (fun c1=>?_)))
  ·(try simp only[sd] at c1);have hi2:i<l.length:=by rw[Bh] at c1;omega
   obtain⟨t,hk⟩:=BE hi2;have hks:=Cs hk;obtain⟨kd,ix,nm,ls,ks⟩:=t;have hnt:=QJ hnd hk;simp only[Wd] at hnt;simp only[size] at hks;refine A7 (A1 (BH (A4 (Ay O (BC Bq O O Au (Bn hk) (BL _)) (Ay O (BQ Bd O (BL _)) (BP O (BF B8 O) fun b7=>Az BA 1 [0,0] O (A1 (A2 BA 3 [] O (A3 O (fun c2=>?_) (fun c2=>?_))))))))))
   ·(try simp only[sd] at c2);refine A2 BA 2 [] O (A6 ⟨O,_,[],Bx O,List.nil_sublist _,?_⟩);exact⟨pI (by rw[←hC,Tt hk,if_pos Au]),O⟩
   (try simp only[sd] at c2);refine A7 (A8 (A5 BA 3 [] O (Ay O (Ja O O) (A5 BA 2 [0] O (Ay O (BN O O (ih (Bl ks) Au ks _ (Nat.le_refl _) hnt.2.2.2.2.1 hnt.2.2.2.1) O) (Ay O (EU O O) (Ay O (EU O O) (Az BA 1 [] O (A8 (Az BA 2 [] O ?_))))))))));exact⟨(i+1,wr (m+wr (1+Em ks (wr (most - m)) 0))),Ao,⟨by omega,by rw[←hC,Tt hk,if_neg Au,E4]⟩,EP ⟨rfl,rfl,rfl,rfl,rfl,trivial⟩ AA⟩
  (try simp only[sd] at c1);have hi2:i=l.length:=by rw[Bh] at c1;omega
  refine Br (A2 BA 2 [] O (A6 ⟨O,_,[],Bx O,List.nil_sublist _,?_⟩));exact⟨pI (by rw[←hC,hi2,List.drop_length];rfl),O⟩
theorem kf:∀(x:Cl),(ll x)→Et Tryz.prog 100 [.agg ((CE x).map .p)] (.p (.bool (decide ((x.vars.length:Int) > 20)))):=by
 intro x h1;refine BD Tryz.func100 O nV (n:=7) O O (A4 (BP O (Bf O) fun b1=>Az BA 1 [] O (A4 (A5 BA 2 [0] O (Ay O (BZ Ck O (List.length_map _)) (Az BA 2 [] O (A6 (⟨O,_,_,⟨_,_,O,O,O⟩,(List.nil_sublist _),?_⟩))))))))
 all_goals exact⟨rfl,rfl⟩
theorem kC:∀(l:List Cl),(l.length<wide)→(∀x∈l,ll x)→GL Tryz.prog 130 [.p (.lst (List.map CE l)),.p (.fn 100)] (fun v=>∃r:Int,v= .p (I r)∧(r<0→∀x∈l,x.vars.length≤20)):=by
 intro l h1 h2;simp only[wide] at h1;refine BD Tryz.func130 O j8 (n:=19) O O (A2 BA 1 [] O (A1 (A4 (B6 O (Ay O (BZ En O (List.length_map _)) (Az BA 1 [] O (BH ?_)))))));refine Bo (α:=Nat) (fun i=>⟨19,mk [(0,.p (.lst (List.map CE l))),(1,.p (.fn 100)),(7,.p (I (l.length:Nat))),(8,.p (I (i:Int)))],[],[]⟩) (fun i=>l.length - i) (fun i=>i≤l.length∧(∀j,j<i→∀x,l[j]?=some x→x.vars.length≤20)) 0 (⟨by omega,fun j h=>by omega⟩) ?_ ?_
 ·exact Bk ⟨we O,we O,we O,we O,Aw⟩ (leH (is:=[]) O (DN))
 rintro i hC
 try simp only at hC
 obtain⟨hi,hC⟩:=hC;refine A2 BA 1 [] O (A1 (A3 O (fun c=>?_) (fun c=>?_)))
 ·(try simp only[sd,se] at c);refine A7 (A1 (BH (A2 BA 2 [] O (A4 (A5 BA 3 [] O ?_)))));obtain⟨x,hx⟩:=BE (l:=l) (i:=i) Au;refine Ay O (BC En O O Au (GC hx) (DT _)) (Ay O (BQ DY O (DT _)) (Ay O (BN O O (kf x (h2 x (List.mem_of_getElem? hx))) O) (Bt O (A3 O (fun c1=>?_) (fun c1=>?_)))))
  ·(try simp only[sd,se] at c1);refine A2 BA 2 [] O (A6 (⟨O,_,[],Bx O,List.nil_sublist _,⟨⟨_,O,?_⟩,O⟩⟩));exact fun h=>by omega
  (try simp only[sd,se] at c1);refine A7 (A8 (Az BA 2 [] O (⟨(i+1),AU,⟨by omega,DD hC hx Au⟩,Bk ⟨we rfl,we rfl,we rfl,we rfl,trivial⟩ (leH (is:=[]) rfl (DN))⟩)))
 (try simp only[sd,se] at c);refine Br (A2 BA 1 [] O (A6 (⟨O,_,[],Bx O,List.nil_sublist _,⟨⟨_,O,?_⟩,O⟩⟩)));exact fun _ x hx=>by obtain⟨j,hj⟩:=LQ hx;exact hC j (by have:=(List.getElem?_eq_some_iff.1 hj).1;omega) x hj
theorem ic:∀(l:List Cl),(l.length<wide)→(∀x∈l,ll x)→GL Tryz.prog 99 [.p (.lst (List.map CE l)),.p (.fn 100)] (fun v=>∃b:Bool,v= .p (.bool b)∧(b=false→∀x∈l,x.vars.length≤20)):=by
 intro l h1 h2;refine BD Tryz.func99 O pX (n:=9) O O (A2 BA 1 [] O (A4 (A5 BA 2 [] O (D1 O O (CP O O (kC l h1 h2) (.inl O)) ?_))));rintro _ ⟨r,rfl,hr⟩;refine Az BA 2 [] O (A6 (⟨O,_,[],Bx O,List.nil_sublist _,⟨⟨_,O,?_⟩,O⟩⟩));exact fun h=>hr (by simp at h;omega)
theorem oI:∀(n:Nat) (l:List Tm),(Bl l≤n)→(im l)→(l.length<wide)→GL Tryz.prog 64 [.p (.lst (BO l))] (fun v=>∃b:Bool,v= .p (.bool b)∧(b=true→XQ l)):=by
 intro n
 induction n using Nat.strongRecOn with
 | ind n ih =>
  intro l h1 h2 h3;have h3b:=h3;simp only[wide] at h3b;refine BD Tryz.func64 O rY (n:=36) O O (A2 BA 1 [] O (A1 (A4 (B6 O (Ay O (BN O O (Vd _ l 200 (Nat.le_refl _) h2 h3) O) (Az BA 1 [] O (A3 O (fun c=>?_) (fun c=>?_))))))))
  ·have cR:=c;(try simp only[sd,se] at c);refine A2 BA 1 [] O (A6 (⟨O,_,[],Bx O,List.nil_sublist _,⟨⟨_,O,?_⟩,O⟩⟩));exact fun h=>absurd h As
  have cR:=c;(try simp only[sd,se] at c);refine A7 (A1 (A4 (B6 O (Ay O (BZ Bq O (Bh _)) (Az BA 1 [] O (BH ?_))))));refine Bo (α:=Nat) (fun i=>⟨36,mk [(8,.p (.lst (BO l))),(9,.p (I (l.length:Nat))),(10,.p (I (i:Int)))],[],[]⟩) (fun i=>l.length - i) (fun i=>i≤l.length∧(∀j,j<i→∀x,l[j]?=some x→Zu x)) 0 (⟨by omega,fun j h=>by omega⟩) ?_ ?_
  ·exact Bk ⟨we O,we O,we O,Aw⟩ (leH (is:=[]) O (DN))
  rintro i hC
  try simp only at hC
  obtain⟨hi,hC⟩:=hC;refine A2 BA 1 [] O (A1 (A3 O (fun c1=>?_) (fun c1=>?_)))
  ·have c1R:=c1;(try simp only[sd,se] at c1);refine A7 (A1 (BH (A4 ?_)));obtain⟨t,ht⟩:=BE (l:=l) (i:=i) Au;refine Ay O (BC Bq O O Au (Bn ht) (BL _)) (Ay O (BQ Bd O (BL _)) (BP O (BF B8 O) fun b4=>Az BA 1 [0,1] O (A1 ?_)));obtain⟨tk,ti,tn,tl,ts⟩:=t;have hnt:=QJ h2 ht;simp only[Wd] at hnt;have hks:=Cs ht;simp only[size] at hks;refine Bi [8,9,10] 34 (fun y=>∃b:Bool,y= .p (.bool b)∧(b=false→Zu (.mk tk ti tn tl ts))) ?_ ?_
   ·refine A8 (A5 BA 2 [0] O (Ay O (Ge j9 O) (A5 BA 2 [] O (Ba 18 O (fun g=>?_) (fun g=>?_)))))
    ·(try simp only[sd,se] at g);refine Az BA 16 [] O ?_;exact⟨O,O,AM,(by first | exact⟨_,rfl,fun h=>absurd h As⟩ | exact⟨_,rfl,fun h=>by simp only[Bool.not_eq_false'] at h;exact⟨by omega,by omega,hb Aq,(hb1 h).sz,(hb1 h).nd,(hb1 h).fw⟩⟩),⟨O,O,O,Aw⟩⟩
    (try simp only[sd,se] at g);refine A5 BA 2 [0] O (BM O (BZ En O (List.length_map _)) (A5 BA 3 [] O (Ba 24 O (fun g1=>?_) (fun g1=>?_))))
    ·(try simp only[sd,se] at g1);refine Az BA 10 [] O ?_;exact⟨O,O,AM,(by first | exact⟨_,rfl,fun h=>absurd h As⟩ | exact⟨_,rfl,fun h=>by simp only[Bool.not_eq_false'] at h;exact⟨by omega,by omega,hb Aq,(hb1 h).sz,(hb1 h).nd,(hb1 h).fw⟩⟩),⟨O,O,O,Aw⟩⟩
    (try simp only[sd,se] at g1);refine A5 BA 2 [0] O (IU O O O O (CP O O (ic tl hnt.2.1 hnt.2.2.1) (.inl O)) ?_);rintro _ ⟨b,rfl,hb⟩;refine A5 BA 2 [] O (Ba 29 O (fun g2=>?_) (fun g2=>?_))
    ·(try simp only[sd,se] at g2);refine Az BA 5 [] O ?_;exact⟨O,O,AM,(by first | exact⟨_,rfl,fun h=>absurd h As⟩ | exact⟨_,rfl,fun h=>by simp only[Bool.not_eq_false'] at h;exact⟨by omega,by omega,hb Aq,(hb1 h).sz,(hb1 h).nd,(hb1 h).fw⟩⟩),⟨O,O,O,Aw⟩⟩
    (try simp only[sd,se] at g2);refine A5 BA 2 [0] O (IU O O O O (CP O O (ih (Bl ts) Au ts (Nat.le_refl _) hnt.2.2.2.2.1 hnt.2.2.2.1) (.inl O)) ?_);rintro _ ⟨b1,rfl,hb1⟩;refine Az BA 2 [] O ?_;exact⟨O,O,AM,(by first | exact⟨_,rfl,fun h=>absurd h As⟩ | exact⟨_,rfl,fun h=>by simp only[Bool.not_eq_false'] at h;exact⟨by omega,by omega,hb Aq,(hb1 h).sz,(hb1 h).nd,(hb1 h).fw⟩⟩),⟨O,O,O,Aw⟩⟩
   rintro _ ⟨q,rfl,hq⟩;refine A3 O (fun c2=>?_) (fun c2=>?_)
   ·have c2R:=c2;(try simp only[sd,se] at c2);refine A2 BA 1 [] O (A6 (⟨O,_,[],Bx O,List.nil_sublist _,⟨⟨_,O,?_⟩,O⟩⟩));exact fun h=>absurd h As
   have c2R:=c2;(try simp only[sd,se] at c2);refine A7 (A8 (Az BA 2 [] O (⟨(i+1),AU,⟨by omega,DD hC ht (hq (by simpa using c2))⟩,Bk ⟨we rfl,we rfl,we rfl,trivial⟩ (leH (is:=[]) rfl (DN))⟩)))
  have c1R:=c1;(try simp only[sd,se] at c1);refine Br (A2 BA 1 [] O (A6 (⟨O,_,[],Bx O,List.nil_sublist _,⟨⟨_,O,?_⟩,O⟩⟩)));exact fun _=>iC (m:=i) Au h2 h3 Au hC
theorem dw:∀(l:List Tm),(im l)→(l.length<wide)→GL Tryz.prog 30 [.p (.lst (BO l))] (fun v=>∃bb:Bool,v= .p (.bool bb)∧(bb=true→XQ l∧∀t∈l,okB t=true)):=by
 intro l h1 h2;have h2b:=h2;simp only[wide] at h2b;refine BD Tryz.func30 O qS (n:=18) O O (A2 BA 1 [] O (A1 (A4 (B6 O (D1 O O (CP O O (oI _ l (Nat.le_refl _) h1 h2) (.inl O)) ?_)))));rintro _ ⟨b,rfl,hb⟩;refine Az BA 1 [] O (A3 O (fun c=>?_) (fun c=>?_))
 ·(try simp only[sd,se] at c);refine A2 BA 1 [] O (A6 (⟨O,_,[],Bx O,List.nil_sublist _,⟨⟨_,O,?_⟩,O⟩⟩));exact fun h=>absurd h As
 (try simp only[sd,se] at c);have hf:=hb (by simpa using c);refine A7 (A1 (A4 (B6 O (Ay O (BZ Bq O (Bh _)) (Az BA 1 [] O (BH ?_))))));refine Bo (α:=Nat) (fun i=>⟨18,mk [(8,.p (.lst (BO l))),(9,.p (I (l.length:Nat))),(10,.p (I (i:Int)))],[],[]⟩) (fun i=>l.length - i) (fun i=>i≤l.length∧(∀j,j<i→∀x,l[j]?=some x→okB x=true)) 0 (⟨by omega,fun j h=>by omega⟩) ?_ ?_
 ·exact Bk ⟨we O,we O,we O,Aw⟩ (leH (is:=[]) O (DN))
 rintro i hC
 try simp only at hC
 obtain⟨hi,hC⟩:=hC;refine A2 BA 1 [] O (A1 (A3 O (fun c1=>?_) (fun c1=>?_)))
 ·(try simp only[sd,se] at c1);refine A7 (A1 (BH (A4 ?_)));obtain⟨x,hx⟩:=BE (l:=l) (i:=i) Au;refine Ay O (BC Bq O O Au (Bn hx) (BL _)) (Ay O (BQ Bd O (BL _)) (BP O (BF B8 O) fun b4=>Az BA 1 [0,1] O (A4 (Ay O (BI (i:=0) Bd O O Am) (D1 O O (CP O O (RO x 65536 8 65536 65536 (Di hf.nd hx) (by have:=Cs hx;have:=hf.sz;omega)) (.inl O)) ?_)))));rintro _ ⟨e,rfl,he⟩;refine Az BA 1 [] O (A3 O (fun c2=>?_) (fun c2=>?_))
  ·(try simp only[sd,se] at c2);refine A2 BA 1 [] O (A6 (⟨O,_,[],Bx O,List.nil_sublist _,⟨⟨_,O,?_⟩,O⟩⟩));exact fun h=>absurd h As
  (try simp only[sd,se] at c2);refine A7 (A8 (Az BA 2 [] O (⟨(i+1),AU,⟨by omega,DD hC hx (eN (Di hf.nd hx) (by have:=Cs hx;have:=hf.sz;omega) Au (he Au))⟩,Bk ⟨we rfl,we rfl,we rfl,trivial⟩ (leH (is:=[]) rfl (DN))⟩)))
 (try simp only[sd,se] at c1);refine Br (A2 BA 1 [] O (A6 (⟨O,_,[],Bx O,List.nil_sublist _,⟨⟨_,O,?_⟩,O⟩⟩)));exact fun _=>⟨hf,IM Au hC⟩
theorem hZ:∀(t:Tm),(okB t=true)→(size t<1000000)→GL Tryz.prog 20 [.agg ((Bg t).map .p)] (Gq):=by
 intro t h1 h2;refine BD Tryz.func20 O qF (n:=6) O O (A4 (BP O (Bf O) fun b1=>Az BA 1 [] O (A4 (Ay O (BI (i:=0) Bd O O Am) (D1 O O (CP O O (RO t 60000 8 65536 65536 (Cd.1 h1).nd h2) (.inl O)) ?_)))));rintro _ ⟨e,rfl,he⟩;refine Az BA 2 [] O (A6 (⟨O,_,_,⟨_,_,O,O,O⟩,(List.nil_sublist _),?_⟩))
 all_goals exact⟨⟨_,rfl⟩,rfl⟩
theorem lb:∀(l:List Tm),(l.length<1000000)→(∀x∈l,okB x=true∧size x<1000000)→GL Tryz.prog 67 [.p (.lst (BO l)),.p (.fn 20)] (ZG):=by
 intro l h1 h2;refine BD Tryz.func67 O qA (n:=19) O O (A2 BA 1 [] O (A1 (A4 (B6 O (Ay O (BZ Bq O (Bh _)) (Az BA 1 [] O (BH (Bo (α:=Nat) (fun i=>⟨19,mk [(0,.p (.lst (BO l))),(1,.p (.fn 20)),(7,.p (I (l.length:Nat))),(8,.p (I (i:Int)))],[],[]⟩) (fun i=>l.length - i) (fun i=>i≤l.length) 0 AQ ?_ ?_))))))))
 ·exact Bk ⟨we O,we O,we O,we O,Aw⟩ (leH (is:=[]) O (DN))
 rintro i hC
 try simp only at hC
 have hi:=hC;refine A2 BA 1 [] O (A1 (A3 O (fun c=>?_) (fun c=>?_)))
 ·(try simp only[sd,se] at c);refine A7 (A1 (BH (A2 BA 2 [] O (A4 (A5 BA 3 [] O ?_)))));obtain⟨x,hx⟩:=BE (l:=l) (i:=i) Au;refine Ay O (BC Bq O O Au (Bn hx) (BL _)) (Ay O (BQ Bd O (BL _)) (D1 O O (CP O O (hZ x (h2 _ (List.mem_of_getElem? hx)).1 (h2 _ (List.mem_of_getElem? hx)).2) (.inl O)) ?_));rintro _ ⟨q,rfl⟩;refine Bt O (A3 O (fun c1=>?_) (fun c1=>?_))
  ·(try simp only[sd,se] at c1);refine A2 BA 2 [] O (A6 (⟨O,_,_,⟨_,_,O,O,O⟩,(List.nil_sublist _),?_⟩))
   all_goals exact⟨⟨_,rfl⟩,rfl⟩
  (try simp only[sd,se] at c1);refine A7 (A8 (Az BA 2 [] O ?_));refine⟨(i+1),AU,by omega,Bk ⟨we rfl,we rfl,we rfl,we rfl,trivial⟩ (leH (is:=[]) rfl (DN))⟩
 (try simp only[sd,se] at c);refine Br (A2 BA 1 [] O (A6 (⟨O,_,_,⟨_,_,O,O,O⟩,(List.nil_sublist _),?_⟩)))
 all_goals exact⟨⟨_,rfl⟩,rfl⟩
theorem gQ:∀(l:List Tm),(l.length<1000000)→(∀x∈l,okB x=true∧size x<1000000)→GL Tryz.prog 32 [.p (.lst (BO l)),.p (.fn 20)] (Gq):=by
 intro l h1 h2;refine BD Tryz.func32 O qK (n:=9) O O (A2 BA 1 [] O (A4 (A5 BA 2 [] O (D1 O O (CP O O (lb l h1 h2) (.inl O)) ?_))));rintro _ ⟨r,rfl⟩;refine Az BA 2 [] O (A6 (⟨O,_,_,⟨_,_,O,O,O⟩,(List.nil_sublist _),?_⟩))
 all_goals exact⟨⟨_,rfl⟩,rfl⟩
theorem eW:∀(ds:List Cc) (l:List Tm),(Hd ds)→(im l)→(l.length<wide)→GL Tryz.prog 10 [.p (.lst (List.map Bw ds)),.p (.lst (BO l))] (fun v=>∃bb:Bool,v= .p (.bool bb)∧(bb=true→dZ ds l)):=by
 intro ds l h1 h2 h3;refine BD Tryz.func10 O rE (n:=21) O O (A2 BA 1 [] O (A4 (B6 O (Ay O (BN O O (Vd _ l 60 (Nat.le_refl _) h2 h3) O) (A5 BA 2 [] O (Ba 8 O (fun g=>?_) (fun g=>?_)))))))
 ·(try simp only[sd,se] at g);refine BM O (BB O) (IU O O O O (CP O O (dw l h2 h3) (.inl O)) ?_);rintro _ ⟨b,rfl,hb⟩;refine A5 BA 2 [] O (Ba 12 O (fun g1=>?_) (fun g1=>?_))
  ·(try simp only[sd,se] at g1);refine BM O (BB O) (IU O O O O (CP O O (cN ds h1) (.inl O)) ?_);rintro _ ⟨q,rfl,hq⟩;refine A5 BA 2 [] O (Ba 16 O (fun g2=>?_) (fun g2=>?_))
   ·(try simp only[sd,se] at g2);refine BM O (BB O) (IU O O O O (CP O O (gQ l (Zt (hb Aq).1) (XH (hb Aq))) (.inl O)) ?_);rintro _ ⟨q1,rfl⟩;refine Az BA 3 [] O (A6 (⟨O,_,_,⟨_,_,O,O,O⟩,(List.nil_sublist _),?_⟩))
    all_goals exact⟨⟨_,rfl,fun h=>dm Au (hb Aq) (hq Aq)⟩,rfl⟩
   (try simp only[sd,se] at g2);refine Az BA 5 [] O (A6 (⟨O,_,_,⟨_,_,O,O,O⟩,(List.nil_sublist _),?_⟩))
   all_goals exact⟨⟨_,rfl,fun h=>absurd h As⟩,rfl⟩
  (try simp only[sd,se] at g1);refine Az BA 9 [] O (A6 (⟨O,_,_,⟨_,_,O,O,O⟩,(List.nil_sublist _),?_⟩))
  all_goals exact⟨⟨_,rfl,fun h=>absurd h As⟩,rfl⟩
 (try simp only[sd,se] at g);refine Az BA 13 [] O (A6 (⟨O,_,_,⟨_,_,O,O,O⟩,(List.nil_sublist _),?_⟩))
 all_goals exact⟨⟨_,rfl,fun h=>absurd h As⟩,rfl⟩
end Go.Proofs.YtboammbpdaoojaaGreat
namespace Go.Eu
open Go.Abs
def NF {α:Type}(o:Out α):Prop:=o≠ .fail
section
variable {α β:Type}
theorem GU (a:α):NF (.ok a):=fun h=>by cases h
theorem GV:NF (.stuck:Out α):=fun h=>by cases h
theorem UB {o:Out α}{k:α→Out β}(h:NF o) (hk:∀a,NF (k a)):NF (o.bind k):=by
 cases o with
 | stuck=>exact GV
 | fail=>exact absurd rfl h
 | ok a=>exact hk a
theorem Xm {σ:Type}{o:Out (Tm×σ)}{k:Tm×σ→Out β}(h:NF o) (hk:∀a,NF (k a)):NF (o.chk k):=by
 unfold Out.chk;refine UB h fun r=>?_;split
 ·exact hk r
 exact GV
theorem O4 {s:Ev}{x:Tm×Int}{k:Tm→Ev→Out α}(hk:∀t s',NF (k t s')):NF (Du.put s x k):=by
 unfold Sys.put;split
 ·exact hk _ _
 exact GV
end
section
variable {E:List Cc}{W:Ev→Tm→Out (Tm×Ev)}
theorem YV (hW:∀c t,NF (W c t)):∀(n:Nat) (t:Fl) (vs:List Tm) (l:Tm) (c:Ev),NF (EE E Du W n t vs l c)
 | 0,t,vs,l,c=>by rw[EE];exact GV
 | n+1,t,vs,l,c=>by
  rw[EE];split
  ·split
   ·exact GU _
   refine Xm (hW _ _) fun r=>?_;split
   ·exact GU _
   split
   ·exact GU _
   exact YV hW n _ _ _ _
  exact GU _
theorem eo {d:Cc}{h:Tm}{a:List Tm}{c:Ev}:NF (FF Du d h a c):=by
 unfold FF;split
 ·exact GU _
 exact O4 fun _ _=>GU _
theorem gR {d:Cc}{h m:Tm}{a:List Tm}{c:Ev}:NF (FQ E Du d h a m c):=by
 unfold FQ;split
 ·exact GU _
 split
 ·exact GU _
 split
 ·exact GU _
 exact O4 fun _ _=>GU _
theorem gz {h b:Tm}{vs a:List Tm}{c:Ev}:NF (HR Du h b vs a c):=by
 unfold HR;split
 ·exact GU _
 split
 ·exact GV
 exact O4 fun _ _=>GU _
theorem eg (hW:∀c t,NF (W c t)) {n:Nat}{h:Tm}{a:List Tm}{c:Ev}:NF (Eo E Du W n h a c):=by
 unfold Eo;split
 ·exact GU _
 split
 ·exact eo
 split
 ·unfold RA;split
  ·exact GU _
  exact Xm (hW _ _) fun r=>gR
 split
 ·unfold JP;split
  ·exact GU _
  refine UB (YV hW _ _ _ _ _) fun q=>?_;split
  ·exact GU _
  split
  ·exact GU _
  exact gz
 exact GU _
theorem jn:∀(n:Nat) (c:Ev) (t:Tm),NF (D6 E Du n c t)
 | 0,c,t=>by rw[D6];exact GV
 | n+1,c,t=>by
  have ih:=jn n;rw[D6];split
  ·exact GV
  split
  ·exact GU _
  split
  ·rename_i h;exact absurd h (by simp[Du])
  split
  ·split
   ·exact GU _
   unfold Oq;split
   ·exact GV
   exact O4 fun _ _=>ih _ _
  split
  ·unfold Un;split
   ·exact O4 fun _ _=>ih _ _
   exact GV
  split
  ·split
   ·exact GV
   refine Xm (ih _ _) fun r=>?_;split
   ·exact GU _
   unfold Mx;split
   ·exact GV
   exact O4 fun _ _=>ih _ _
  split
  ·refine UB (eg ih) fun r=>?_;split
   ·exact GU _
   exact ih _ _
  exact GU _
end
theorem kV {α:Type}{o:Out α}{p:α→Prop}(h:Dn o p) (hf:NF o):∃a,o= .ok a∧p a:=by
 cases o with
 | stuck=>exact h.elim
 | fail=>exact absurd rfl hf
 | ok a=>exact⟨a,rfl,h⟩
@[irreducible] def FN:Nat:=1000000000000
theorem YR:FN=1000000000000:=by unfold FN;rfl
section
variable {E:List Cc}{t:Tm}
theorem kR (hE:Ha E) (ho:okB t=true) (hs:size t≤10000):Dn (D6 E CI FN 20000 t) (fun r=>okB r.1=true∧size r.1<549755813888) :=
 Dn.mono (Xy jb hE FN 20000 t ⟨Nb,ho,fun _=>by simp;omega,fun _=>by rw[YR];simp;omega,by rw[YR];omega⟩) fun r h=>⟨h.ok,by have:=F8 h.ok;omega⟩
theorem k0 (hE:Ha E) (ho:okB t=true) (hs:size t≤10000):∃r c,D6 E Du FN Lf t= .ok (r,c)∧okB r=true:=by
 obtain⟨⟨r,c⟩,h1,h2⟩:=kV (Xy jV hE FN Lf t ⟨⟨rfl,by decide,fun _=>by decide⟩,ho,fun _=>by simp[Lf];omega,fun _=>by rw[YR];simp[Lf];omega,by rw[YR];omega⟩) (jn FN Lf t);exact⟨r,c,h1,h2.ok⟩
theorem lX (hE:Ha E) (ho:okB t=true) (hs:size t≤10000) {r:Tm}{c:Ev}(h:D6 E Du FN Lf t= .ok (r,c)) (hv:c.over=false):QA (D6 E CI FN 20000 t)=0∧Xq Bu (D6 E CI FN 20000 t)=r:=by
 have h1:=(Y6 hE.g FN Lf t r c bQ h hv (by simp[Lf];omega)).2 20000 (by simp[Lf]);rw[h1];exact⟨O,O⟩
theorem jW {α:Type}(o:Out (α×Int)):QA o=0∨QA o=11:=by
 cases o with
 | stuck=>exact .inr rfl
 | fail=>exact .inr rfl
 | ok a=>exact .inl rfl
end
end Go.Eu
namespace Go.Proofs.YtboammbpdaoojaaGreat
open Go.Abs Go.Eu
theorem il:∀(ds:List Cc) (t:Tm),(Hd ds)→(Wd t)→Et Tryz.prog 3 [.p (.lst (List.map Bw ds)),.agg ((Bg t).map .p)] (.p (.bool true)):=by
 intro ds t h1 h2;refine BD Tryz.func3 O sm (n:=49) O O (A4 (BP O (Bf O) fun b3=>Az BA 1 [] O (A1 (A4 (A5 BA 2 [0] O (Ay O (CA (rows:=BO [t]) Bq B8 O O O O (CT (B9 _)) (FP _)) (D1 O O (CP O O (eW ds [t] h1 ⟨h2,Aw⟩ (by simp[wide])) (.inl O)) ?_)))))));rintro _ ⟨q,rfl,hq⟩;refine Az BA 1 [] O (A3 O (fun c=>?_) (fun c=>?_))
 ·(try simp only[sd,se] at c);refine A4 (Ay O (BN O O (OE ) O) (Az BA 1 [] O (A6 (⟨O,_,_,⟨_,_,O,O,O⟩,(List.nil_sublist _),?_⟩))))
  all_goals exact⟨rfl,rfl⟩
 (try simp only[sd,se] at c);have hs:=hq (by simpa using c);have ho:=hs.ok t Av;have hsz:size t≤60:=by have:=hs.sz;simp only[Bl] at this;omega
 obtain⟨r,c2,hr1,hr2⟩:=k0 hs.env ho Au;refine A7 (A4 (A5 BA 2 [0] O (Ay O (BN O O (QT ds FN t hs.env (kR hs.env ho Au).ns) O) (A5 BA 3 [] O (BP O (BF B8 O) fun b5=>Az BA 2 [0,1] O (A4 (Ys O O O (.inl ⟨O,O,O⟩) aT (Dm _) fun bc=>Az BA 1 [] O (A4 (A5 BA 3 [2] O (Ay O (CS [0] O (.inl ⟨O,O,O⟩) (eC ds hs.env FN bc t Lf c2 r hr1) ⟨_,_,O,O,O⟩ As O (.inl O)) (BP O (BF B8 O) fun b8=>Az BA 1 [0,1] O (A1 (A2 BA 4 [1] O (A3 O (fun c1=>?_) (fun c1=>?_)))))))))))))))
 ·(try simp only[sd,se] at c1);refine A1 (Bi [] 4 (fun y=>y= .p (.bool ((((QA (D6 ds CI FN 20000 t):Int)==(0:Int))||((QA (D6 ds CI FN 20000 t):Int)==(11:Int)))&&true))) ?_ ?_)
  ·refine A8 (A5 BA 3 [] O (Ba 32 O (fun g=>?_) (fun g=>?_)))
   ·(try simp only[sd,se] at g);exact A5 BA 4 [] O (BM O (BN O O (OE ) O) (Az BA 2 [] O ⟨O,O,AM,AJ,Aw⟩))
   (try simp only[sd,se] at g);refine A5 BA 4 [] O (Ba 36 O (fun g1=>?_) (fun g1=>?_))
   ·(try simp only[sd,se] at g1);exact BM O (BN O O (OE ) O) (Az BA 2 [] O ⟨O,O,AM,AJ,Aw⟩)
   (try simp only[sd,se] at g1);exact Az BA 3 [] O ⟨O,O,AM,AJ,Aw⟩
  rintro _ rfl;refine A6 (⟨O,_,_,⟨_,_,O,O,O⟩,(List.nil_sublist _),?_⟩)
  all_goals exact⟨by show (.p (.bool ((((QA (D6 ds CI FN 20000 t):Int)==(0:Int))||((QA (D6 ds CI FN 20000 t):Int)==(11:Int)))&&true)):AV)=_;refine pB ?_;rcases jW (D6 ds CI FN 20000 t) with h | h<;>simp[h],rfl⟩
 (try simp only[sd,se] at c1);obtain⟨hw1,hw2⟩:=lX hs.env ho Au hr1 (by simpa using c1);refine A7 (A1 (Bi [] 4 (fun y=>y= .p (.bool ((((QA (D6 ds CI FN 20000 t):Int)==(0:Int))&&(Ng (Xq Bu (D6 ds CI FN 20000 t)) r))&&true))) ?_ ?_))
 ·refine A8 (A5 BA 3 [] O (Ba 41 O (fun g=>?_) (fun g=>?_)))
  ·(try simp only[sd,se] at g);refine A5 BA 2 [2,0] O (BM O (BN O O (NP _ (Xq Bu (D6 ds CI FN 20000 t)) r (Nat.le_refl _) (hw2▸(Cd.1 hr2).nd)) O) (A5 BA 2 [] O (Ba 46 O (fun g1=>?_) (fun g1=>?_))))
   ·(try simp only[sd,se] at g1);exact BM O (BN O O (OE ) O) (Az BA 2 [] O ⟨O,O,AM,AJ,Aw⟩)
   (try simp only[sd,se] at g1);exact Az BA 3 [] O ⟨O,O,AM,AJ,Aw⟩
  (try simp only[sd,se] at g);exact Az BA 8 [] O ⟨O,O,AM,AJ,Aw⟩
 rintro _ rfl;refine A6 (⟨O,_,_,⟨_,_,O,O,O⟩,(List.nil_sublist _),?_⟩)
 all_goals exact⟨by show (.p (.bool ((((QA (D6 ds CI FN 20000 t):Int)==(0:Int))&&(Ng (Xq Bu (D6 ds CI FN 20000 t)) r))&&true)):AV)=_;refine pB ?_;rw[hw1,hw2];simp[GO],rfl⟩
end Go.Proofs.YtboammbpdaoojaaGreat
