/- Part of the proofs: an abstract program logic, plain models and contracts of functions. -/
import Derived.Test.YtboammbpdaoojaaGreatPi
import Derived.Test.YtboammbpdaoojaaGreatPd
import Derived.Test.YtboammbpdaoojaaGreatPb
import Derived.Test.YtboammbpdaoojaaGreatPg
set_option linter.unusedVariables false
set_option linter.unusedSimpArgs false
set_option maxRecDepth 100000
namespace Go.Proofs.YtboammbpdaoojaaGreat
open Go.Abs Go.Eu
def tX (ds:List Cc) (n:Nat):Prop:=∀(b:Nat) (t:Tm) (c c2:Ev) (q:Option Tm),FU ds Du n c t= .ok (q,c2)→B4 Tryz.prog 17 [.p (.lst (List.map Bw ds)),.agg ((Bg t).map .p),.ptr b 0] [.box b ((I5 c).map .p)] (Gx (.tup [TV (q.getD Bu),.p (.bool q.isSome)]) [.box b ((I5 c2).map .p)])
theorem aT:B4 Tryz.prog 13 [] [] (eZ (fun b=> .ptr b 0) ((I5 Lf).map .p)):=by
 refine BD Tryz.func13 O qv (n:=3) O O (A2 BA 1 [] O (A4 (Ay O (CB Q2 r8 O) (BP O (Bf O) fun b2=>Az BA 1 [] O (A6 (⟨O,_,_,⟨_,_,O,O,O⟩,(CJ (is:=[0]) O),?_⟩))))));exact⟨_,O,O⟩
end Go.Proofs.YtboammbpdaoojaaGreat
namespace Go.Eu
open Go.Abs
mutual
theorem bz {vars m:Int}(hv:vars≤549755813888):∀(t:Tm) (d:Int),wf vars m d t→0≤d→d+size t≤1073741824→Vp t
 | .mk k i n l ks,d,h,h0,h1=>by
  simp only[wf,size] at h h1;exact⟨fun e=>by have:=h.2.2.2.1 e;omega,ZB hv ks k d 0 h.2.2.2.2.2 h0 Au⟩
theorem ZB {vars m:Int}(hv:vars≤549755813888):∀(ts:List Tm) (k d:Int) (j:Nat),jR vars m k d j ts→0≤d→d+1+Bl ts≤1073741824→TE ts
 | [],k,d,j,h,h0,h1=>trivial
 | t::ts,k,d,j,h,h0,h1=>by
  have:=DK k j;simp only[jR,Bl] at h h1;have:=size_pos t;exact⟨bz hv t _ h.1 Au Au,ZB hv ts k d (j+1) h.2 h0 Au⟩
end
theorem eN {t:Tm}{vars m:Int}(hn:Nd t) (hs:size t<1000000) (hv:vars≤549755813888) (h:wf (max vars 0) m 0 t):okB t=true :=
 Cd.2 ⟨hn,jr t 0 h,bz Au t 0 h Au Au,by omega⟩
def Ym (d:Cc):Prop:=(d.kind≠1→d.kind≠2→d.value=Bu)∧(d.kind≠3→d.recs.rules.length=0∧d.fixed=0)∧(d.kind≠4→d.funs.length=0)
def Uk (d:Cc):Prop:=0≤d.fixed∧(∀f∈d.funs,1≤f.arity∧f.arity≤16)∧(d.kind=3→d.fixed≤1000000)
def cA (d:Cc):Prop:=(d.kind=1∨d.kind=2→okB d.value=true)∧(d.kind=3→∀t∈d.recs.rules,okB t=true)∧(d.kind=4→∀f∈d.funs,GA f.tree)
theorem mZ {d:Cc}(h:Nn d) (hk:0≤d.kind∧d.kind≤4) (hu:Ym d) (hc:Uk d) (ht:cA d):DG d:=by
 obtain⟨u1,u2,u3⟩:=hu;obtain⟨c1,c2,c3⟩:=hc;obtain⟨t1,t2,t3⟩:=ht;refine⟨h,⟨c1,?_⟩,?_,?_,fun f hf=>⟨(c2 f hf).1,(c2 f hf).2,?_⟩⟩
 ·by_cases h3:d.kind=3
  ·exact c3 h3
  rw[(u2 h3).2];omega
 ·by_cases h1:d.kind=1∨d.kind=2
  ·exact t1 h1
  rw[u1 Au Au];exact Kj
 ·by_cases h3:d.kind=3
  ·exact t2 h3
  intro t ht;rw[List.length_eq_zero_iff.1 (u2 h3).1] at ht;cases ht
 by_cases h4:d.kind=4
 ·exact t3 h4 f hf
 rw[List.length_eq_zero_iff.1 (u3 h4)] at hf;cases hf
def TN (d:Cc):Prop:=size d.value≤400∧(∀t∈d.recs.rules,size t≤400)∧∀f∈d.funs,EM f.tree≤50
theorem ja {ds:List Cc}(h:J7 ds) (hf:∀d∈ds,TN d):Ha ds:=⟨h,fun d hd=>(hf d hd).1,fun d hd=>(hf d hd).2.1,fun d hd=>(hf d hd).2.2⟩
theorem R5 {n:Nat}:∀{l:List GP},(∀x∈l,EM x.tree≤n)→LU l≤n
 | [],_=>by simp[LU]
 | .mk c a t::l,h=>by
  have h1:=h (.mk c a t) Av;have h2:=R5 (n:=n) (l:=l) fun x hx=>h x (by simp[hx]);simp only[LU,XA,GP.tree] at *;omega
theorem bG {n:Nat}{t:Fl}(h:∀x∈t.branches,EM x.tree≤n):EM t≤n+1:=by
 obtain⟨k,b,v,l⟩:=t;have h1:=R5 (n:=n) (l:=l) h;simp only[EM];omega
theorem TB:∀{l:List GP},(∀x∈l,GA x.tree)→Qm l
 | [],_=>trivial
 | .mk c a t::l,h=>⟨h (.mk c a t) Av,TB fun x hx=>h x (by simp[hx])⟩
theorem Q5 {t:Fl}(h0:okB t.body=true) (h:∀x∈t.branches,GA x.tree):GA t:=by
 obtain⟨k,b,v,l⟩:=t;exact⟨h0,TB h⟩
theorem XC {t:Fl}(h0:Ng t.body Bu=true) (h:t.branches.length=0):GA t :=
 Q5 (by rw[IT.1 h0];exact Kj) (fun x hx=>by rw[List.length_eq_zero_iff.1 h] at hx;cases hx)
theorem IM {α:Type}{p:α→Prop}{l:List α}{n:Nat}(hn:l.length≤n) (h:∀j,j<n→∀x,l[j]?=some x→p x):∀x∈l,p x:=fun x hx=>by
 obtain⟨j,hj⟩:=List.mem_iff_getElem?.1 hx;exact h j (by have:=(List.getElem?_eq_some_iff.1 hj).1;omega) x hj
theorem Zg {ds:List Cc}{i:Nat}(h:Hd ds) (hC:∀j,j<i→∀x,ds[j]?=some x→DG x):J7 (ds.take i) :=
 ⟨h.take i,fun d hd=>by
  obtain⟨j,hj⟩:=List.mem_iff_getElem?.1 hd;have hlt:=(List.getElem?_eq_some_iff.1 hj).1;rw[List.length_take] at hlt;rw[List.getElem?_take_of_lt Au] at hj;exact hC j Au d hj⟩
theorem kb {α:Type}{l:List α}(h:l.length=0) {p:α→Prop}:∀x∈l,p x:=fun x hx=>by
 rw[List.length_eq_zero_iff.1 h] at hx;cases hx
theorem jC {t:Fl}{dp:Int}(hd:dp≤40) (h:∀x∈t.branches,(EM x.tree:Int)≤42 - (dp+1)):(EM t:Int)≤42 - dp:=by
 have:=bG (n:=(42 - (dp+1)).toNat) (t:=t) fun x hx=>by have:=h x hx;omega
 omega
theorem P3 {t:Tm}(h:UA t) (hs:FC t≤400):size t≤400:=by
 have h1:=OQ (t:=t) (by have:=h.sz;omega);omega
theorem eY {d:Cc}(h:Nn d) (hv:FC d.value≤400) (hr:∀t∈d.recs.rules,FC t≤400) (hf:∀f∈d.funs,(EM f.tree:Int)≤42 - 0):TN d :=
 ⟨P3 h.vl hv,fun t ht=>P3 (h.rs t ht) (hr t ht),fun f hm=>by have:=hf f hm;omega⟩
structure dZ (ds:List Cc) (l:List Tm):Prop where
 env:Ha ds
 ok:∀t∈l,okB t=true
 sz:Bl l≤60
 few:ds.length≤70
theorem dm {ds:List Cc}{l:List Tm}(hn:Em l 60 0≤60) (hg:XQ l∧∀t∈l,okB t=true) (he:Ha ds∧ds.length≤70):dZ ds l :=
 ⟨he.1,hg.2,by have:=Ve hg.1 Au hn;omega,he.2⟩
theorem Zt {l:List Tm}(h:XQ l):l.length<1000000:=by
 have:=h.sz;have:=JC l;omega
theorem XH {l:List Tm}(h:XQ l∧∀t∈l,okB t=true):∀x∈l,okB x=true∧size x<1000000:=fun x hx =>
 ⟨h.2 x hx,by have:=h.1.sz;have:=HS hx;omega⟩
end Go.Eu
namespace Go.Proofs.YtboammbpdaoojaaGreat
open Go.Abs Go.Eu
theorem X3:∀(d:Cc),(Nn d)→(0≤d.kind∧d.kind≤4)→GL Tryz.prog 133 [.agg ((Bw d).map .p)] (fun v=>∃bb:Bool,v= .p (.bool bb)∧(bb=true→Ym d)):=by
 intro d h1 h2;refine BD Tryz.func133 O nQ (n:=87) O O (A4 (BP O (Bf O) fun b1=>Az BA 1 [] O (A1 (Bi [1] 3 (fun y=>y= .p (.bool ((((d.recs.params:Int)==(0:Int))&&(Ng d.recs.type Bu))&&(((d.recs.rules.length:Nat):Int)==(0:Int))))) ?_ ?_))))
 ·refine A8 (A5 BA 2 [] O (Ay O (A9 (i:=0) C0 O O (Dv _)) (A5 BA 2 [] O (Ba 9 O (fun g=>?_) (fun g=>?_)))))
  ·(try simp only[sd,se] at g);refine A5 BA 2 [] O (BM O (CC (i:=0) Bd O O (FM _) (BL _)) (BM O (BN O O (KO d.recs.type (by first | exact h1.rt.nd | exact h1.vl.nd | exact h1.ty.nd)) O) (A5 BA 2 [] O (Ba 15 O (fun g1=>?_) (fun g1=>?_)))))
   ·(try simp only[sd,se] at g1);exact A5 BA 2 [] O (BM O (A9 (i:=0) E9 O O (C2 _)) (BM O (BZ Bq O (Bh _)) (Az BA 3 [] O (⟨O,O,AM,AJ,⟨O,Aw⟩⟩))))
   (try simp only[sd,se] at g1);exact Az BA 7 [] O (⟨O,O,AM,AJ,⟨O,Aw⟩⟩)
  (try simp only[sd,se] at g);exact Az BA 13 [] O (⟨O,O,AM,AJ,⟨O,Aw⟩⟩)
 rintro _ rfl;refine A1 (Bi [1] 4 (fun y=>y= .p (.bool ((((d.fixed:Int)==(0:Int))&&(((d.ctors.length:Nat):Int)==(0:Int)))&&((((d.recs.params:Int)==(0:Int))&&(Ng d.recs.type Bu))&&(((d.recs.rules.length:Nat):Int)==(0:Int)))))) ?_ ?_)
 ·refine A8 (Ay O (Ax Cv O O) (Ay O (A9 (i:=0) C0 O O (C3 _)) (A5 BA 2 [] O (Ba 25 O (fun g=>?_) (fun g=>?_)))))
  ·(try simp only[sd,se] at g);refine BM O (Ax Cv O O) (BM O (A9 (i:=0) Hk O O (CN _)) (BM O (BZ HY O (List.length_map _)) (A5 BA 3 [] O (Ba 31 O (fun g1=>?_) (fun g1=>?_)))))
   ·(try simp only[sd,se] at g1);exact Az BA 3 [] O (⟨O,O,AM,AJ,⟨O,Aw⟩⟩)
   (try simp only[sd,se] at g1);exact Az BA 3 [] O (⟨O,O,AM,AJ,⟨O,Aw⟩⟩)
  (try simp only[sd,se] at g);exact Az BA 9 [] O (⟨O,O,AM,AJ,⟨O,Aw⟩⟩)
 rintro _ rfl;refine A1 (A4 (Ay O (Ax Cv O O) (Ay O (A9 (i:=0) C0 O O (EK _)) (Bt O (BH (A2 BA 2 [] O (A3 O (fun c=>?_) (fun c=>?_))))))))
 ·(try simp only[sd,se] at c);refine A1 (Bi [] 2 (fun y=>y= .p (.bool (((Ng d.value Bu)&&((((d.fixed:Int)==(0:Int))&&(((d.ctors.length:Nat):Int)==(0:Int)))&&((((d.recs.params:Int)==(0:Int))&&(Ng d.recs.type Bu))&&(((d.recs.rules.length:Nat):Int)==(0:Int)))))&&(((d.funs.length:Nat):Int)==(0:Int))))) ?_ ?_)
  ·refine A8 (Ay O (Ax Cv O O) (Ay O (CC (i:=0) Bd O O (FW _) (BL _)) (Ay O (BN O O (KO d.value (by first | exact h1.rt.nd | exact h1.vl.nd | exact h1.ty.nd)) O) (B6 O (Ba 41 O (fun g=>?_) (fun g=>?_))))))
   ·(try simp only[sd,se] at g);refine A5 BA 3 [] O (Ba 44 O (fun g1=>?_) (fun g1=>?_))
    ·(try simp only[sd,se] at g1);exact BM O (Ax Cv O O) (BM O (A9 (i:=0) Hn O O (CV _)) (BM O (BZ HW O (List.length_map _)) (Az BA 3 [] O ⟨O,O,AM,AJ,Aw⟩)))
    (try simp only[sd,se] at g1);exact Az BA 6 [] O ⟨O,O,AM,AJ,Aw⟩
   (try simp only[sd,se] at g);exact Az BA 9 [] O ⟨O,O,AM,AJ,Aw⟩
  rintro _ rfl;refine A6 (⟨O,_,_,⟨_,_,O,O,O⟩,(List.nil_sublist _),?_⟩)
  all_goals exact⟨⟨_,rfl,fun h=>by simp only[Bool.and_eq_true,beq_iff_eq,decide_eq_true_eq,IT] at h;refine⟨fun _ _=>?_,fun _=>⟨?_,?_⟩,fun _=>?_⟩<;>first | omega | (simp_all;done)⟩,rfl⟩
 (try simp only[sd,se] at c);refine A1 (A2 BA 2 [] O (Bi [1,4,35] 50 (fun y=>y= .p (.bool (decide (d.kind=1∨d.kind=2)))) ?_ ?_))
 ·refine A3 O (fun c1=>?_) (fun c1=>?_)
  ·(try simp only[sd,se] at c1);exact A7 (⟨O,O,(List.Sublist.refl _),(by refine pB (Bool.eq_iff_iff.2 ?_);simp only[beq_iff_eq,decide_eq_true_eq];omega),⟨O,O,O,Aw⟩⟩)
  (try simp only[sd,se] at c1);exact A8 (Az BA 2 [] O (⟨O,O,(List.Sublist.refl _),(by refine pB (Bool.eq_iff_iff.2 ?_);simp only[beq_iff_eq,decide_eq_true_eq];omega),⟨O,O,O,Aw⟩⟩))
 rintro _ rfl;refine A3 O (fun c1=>?_) (fun c1=>?_)
 ·(try simp only[sd,se] at c1);refine A1 (Bi [] 2 (fun y=>y= .p (.bool (((((d.fixed:Int)==(0:Int))&&(((d.ctors.length:Nat):Int)==(0:Int)))&&((((d.recs.params:Int)==(0:Int))&&(Ng d.recs.type Bu))&&(((d.recs.rules.length:Nat):Int)==(0:Int))))&&(((d.funs.length:Nat):Int)==(0:Int))))) ?_ ?_)
  ·refine A8 (A5 BA 2 [] O (Ba 54 O (fun g=>?_) (fun g=>?_)))
   ·(try simp only[sd,se] at g);exact BM O (Ax Cv O O) (BM O (A9 (i:=0) Hn O O (CV _)) (BM O (BZ HW O (List.length_map _)) (Az BA 3 [] O ⟨O,O,AM,AJ,Aw⟩)))
   (try simp only[sd,se] at g);exact Az BA 6 [] O ⟨O,O,AM,AJ,Aw⟩
  rintro _ rfl;refine A6 (⟨O,_,_,⟨_,_,O,O,O⟩,(List.nil_sublist _),?_⟩)
  all_goals exact⟨⟨_,rfl,fun h=>by simp only[Bool.and_eq_true,beq_iff_eq,decide_eq_true_eq,IT] at h;refine⟨fun _ _=>?_,fun _=>⟨?_,?_⟩,fun _=>?_⟩<;>first | omega | (simp_all;done)⟩,rfl⟩
 (try simp only[sd,se] at c1);refine A2 BA 2 [] O (A3 O (fun c2=>?_) (fun c2=>?_))
 ·(try simp only[sd,se] at c2);refine A1 (Bi [] 2 (fun y=>y= .p (.bool ((Ng d.value Bu)&&(((d.funs.length:Nat):Int)==(0:Int))))) ?_ ?_)
  ·refine A8 (Ay O (Ax Cv O O) (Ay O (CC (i:=0) Bd O O (FW _) (BL _)) (Ay O (BN O O (KO d.value (by first | exact h1.rt.nd | exact h1.vl.nd | exact h1.ty.nd)) O) (B6 O (Ba 65 O (fun g=>?_) (fun g=>?_))))))
   ·(try simp only[sd,se] at g);exact BM O (Ax Cv O O) (BM O (A9 (i:=0) Hn O O (CV _)) (BM O (BZ HW O (List.length_map _)) (Az BA 3 [] O ⟨O,O,AM,AJ,Aw⟩)))
   (try simp only[sd,se] at g);exact Az BA 6 [] O ⟨O,O,AM,AJ,Aw⟩
  rintro _ rfl;refine A6 (⟨O,_,_,⟨_,_,O,O,O⟩,(List.nil_sublist _),?_⟩)
  all_goals exact⟨⟨_,rfl,fun h=>by simp only[Bool.and_eq_true,beq_iff_eq,decide_eq_true_eq,IT] at h;refine⟨fun _ _=>?_,fun _=>⟨?_,?_⟩,fun _=>?_⟩<;>first | omega | (simp_all;done)⟩,rfl⟩
 (try simp only[sd,se] at c2);refine A7 (A1 (Bi [] 2 (fun y=>∃q:Bool,y= .p (.bool q)∧(q=true→Ng d.value Bu=true∧d.fixed=0∧d.recs.rules.length=0)) ?_ ?_))
 ·refine A8 (Ay O (Ax Cv O O) (Ay O (A9 (i:=0) Lm O O (Db _)) (Ay O (GF O O) (B6 O (Ba 74 O (fun g=>?_) (fun g=>?_))))))
  ·(try simp only[sd,se] at g);refine BM O (Ax Cv O O) (BM O (CC (i:=0) Bd O O (FO _) (BL _)) (BM O (BN O O (KO d.type (by first | exact h1.rt.nd | exact h1.vl.nd | exact h1.ty.nd)) O) (A5 BA 2 [] O (Ba 79 O (fun g1=>?_) (fun g1=>?_)))))
   ·(try simp only[sd,se] at g1);refine BM O (Ax Cv O O) (BM O (CC (i:=0) Bd O O (FW _) (BL _)) (BM O (BN O O (KO d.value (by first | exact h1.rt.nd | exact h1.vl.nd | exact h1.ty.nd)) O) (A5 BA 2 [] O (Ba 84 O (fun g2=>?_) (fun g2=>?_)))))
    ·(try simp only[sd,se] at g2);refine Az BA 3 [] O ?_;exact⟨rfl,rfl,AM,(by refine⟨_,rfl,fun h=>?_⟩;first | (exact absurd h As) | (refine⟨by simpa using Aq,?_,?_⟩<;>(simp only[Bool.and_eq_true,beq_iff_eq,decide_eq_true_eq] at h;omega))),trivial⟩
    (try simp only[sd,se] at g2);refine Az BA 3 [] O ?_;exact⟨rfl,rfl,AM,(by refine⟨_,rfl,fun h=>?_⟩;first | (exact absurd h As) | (refine⟨by simpa using Aq,?_,?_⟩<;>(simp only[Bool.and_eq_true,beq_iff_eq,decide_eq_true_eq] at h;omega))),trivial⟩
   (try simp only[sd,se] at g1);refine Az BA 8 [] O ?_;exact⟨rfl,rfl,AM,(by refine⟨_,rfl,fun h=>?_⟩;first | (exact absurd h As) | (refine⟨by simpa using Aq,?_,?_⟩<;>(simp only[Bool.and_eq_true,beq_iff_eq,decide_eq_true_eq] at h;omega))),trivial⟩
  (try simp only[sd,se] at g);refine Az BA 13 [] O ?_;exact⟨rfl,rfl,AM,(by refine⟨_,rfl,fun h=>?_⟩;first | (exact absurd h As) | (refine⟨by simpa using Aq,?_,?_⟩<;>(simp only[Bool.and_eq_true,beq_iff_eq,decide_eq_true_eq] at h;omega))),trivial⟩
 rintro _ ⟨q,rfl,hq⟩;refine A6 (⟨O,_,_,⟨_,_,O,O,O⟩,(List.nil_sublist _),?_⟩)
 all_goals exact⟨⟨_,rfl,fun h=>by obtain⟨q1,q2,q3⟩:=hq h;rw[IT] at q1;exact⟨fun _ _=>q1,fun _=>⟨q3,q2⟩,fun _=>by omega⟩⟩,rfl⟩
theorem Pr:∀(t:Tm),(UA t)→GL Tryz.prog 171 [.agg ((Bg t).map .p)] (fun v=>∃e:Int,v= .p (I e)∧0≤e∧e≤size t):=by
 intro t h1;have hsz:=h1.sz;refine BD Tryz.func171 O nA (n:=20) O O (A4 (BP O (Bf O) fun b1=>Az BA 1 [] O (A2 BA 1 [] O (A1 (BH ?_)))));refine Bo (α:=Tm×Int) (fun(y,m)=>⟨20,mk [(1,.ptr b1 0),(3,.p (I m))],[.box b1 ((Bg y).map .p)],[]⟩) (fun(y,m)=>size y) (fun(y,m)=>Nd y∧0≤m∧m+size y≤size t) ⟨t,0⟩ (⟨h1.nd,by omega,by omega⟩) ?_ ?_
 ·exact Bk ⟨we O,we O,Aw⟩ (leH (is:=[0]) O (wl (oe O) (DN)))
 rintro⟨y,m⟩ hC
 try simp only at hC
 obtain⟨hC,hm0,hm1⟩:=hC;refine A1 (A1 ?_);obtain⟨yk,yi,yn,yl,ys⟩:=y;refine Bi [1,3] 12 (fun y=>y= .p (.bool (((yk:Int)==(6:Int))&&(((ys.length:Nat):Int)==(2:Int))))) ?_ ?_
 ·refine A8 (A5 BA 4 [0] O (Ba 7 O (fun g=>?_) (fun g=>?_)))
  ·(try simp only[sd,se] at g);exact A5 BA 2 [0] O (BM O (BZ Bq O (Bh _)) (Az BA 2 [] O (⟨O,O,AM,AJ,⟨O,O,Aw⟩⟩)))
  (try simp only[sd,se] at g);exact Az BA 5 [] O (⟨O,O,AM,AJ,⟨O,O,Aw⟩⟩)
 rintro _ rfl;refine A3 O (fun c=>?_) (fun c=>?_)
 ·(try simp only[sd,se] at c);refine A7 (BH (A2 BA 3 [] O (A8 (A5 BA 2 [0] O ?_))));obtain⟨x,hx⟩:=BE (l:=ys) (i:=1) (by first | omega | (simp at c;omega));refine Ay O (BC Bq O O Au (Bn hx) (BL _)) (Az BA 2 [0,1] O ?_);refine⟨⟨x,(m:Int)+(1:Int)⟩,(by have:=Cs hx;simp only[size];omega),⟨Di hC.2.2.2.2.1 hx,by omega,by have:=Cs hx;simp only[size] at hm1;omega⟩,Bk ⟨we rfl,we rfl,trivial⟩ (leH (is:=[0]) rfl (wl (oe rfl) (DN)))⟩
 (try simp only[sd,se] at c);refine Br (A2 BA 2 [] O (A6 (⟨O,_,_,⟨_,_,O,O,O⟩,(List.nil_sublist _),?_⟩)))
 all_goals exact⟨⟨_,rfl,by omega,by simp only[size] at hm1;omega⟩,rfl⟩
theorem TI:∀(d:Cc),(Nn d)→GL Tryz.prog 150 [.agg ((Bw d).map .p)] (fun v=>∃bb:Bool,v= .p (.bool bb)∧(bb=true→d.fixed≤1000000)):=by
 intro d h1;have hcl:=h1.cl;have hts:=h1.ty.sz;refine BD Tryz.func150 O pK (n:=32) O O (A4 (BP O (Bf O) fun b1=>Az BA 1 [] O (A1 (B7 (fun k=>Nat.beq k 2) D7 (A0 O (fun _=>Ax Cv O O) Aw (BT (j:=0) O O O (fun H i hi=>CC (i:=i) Bd O hi (FO _) (BL _)) AB Aw ?_))))));refine J3 [(3,.free (.ptr b1 13)),(4,.read [.box b1 ((Bw d).map .p)] (.p (I d.fixed)))] O O (CP O O (Pr d.type h1.ty) (.inl O)) Ap (⟨_,0,O,by omega,by omega⟩) AB ?_;rintro _ ⟨e,rfl,he0,he1⟩;refine⟨Aw,?_⟩;refine A0 O (fun _=>Ax Cv O O) AO (BT (j:=0) O O O (fun H i hi=>A9 (i:=i) C0 O hi (C3 _)) AB AO (A0 O (fun _=>C4 O O O) AO (A0 O (fun _=>Bb O) AO (Bv O Ap (A1 (A2 BA 1 [] O (BH ?_)))))));refine Bo (α:=Nat×Bool) (fun(i,b)=>⟨32,mk [(1,.ptr b1 0),(3,.p (.bool b)),(4,.p (I (i:Int)))],[.box b1 ((Bw d).map .p)],[]⟩) (fun(i,b)=>d.ctors.length - i) (fun(i,b)=>i≤d.ctors.length∧(b=true→d.fixed≤1000000)) ⟨0,(decide ((e:Int)≥(d.fixed:Int)))⟩ (⟨by omega,fun h=>by simp only[decide_eq_true_eq] at h;omega⟩) ?_ ?_
 ·exact Bk ⟨we O,we O,we O,Aw⟩ (leH (is:=[0]) O (wl (oe O) (DN)))
 rintro⟨i,b⟩ hC
 try simp only at hC
 obtain⟨hi,hC⟩:=hC;refine A1 (A4 (A5 BA 2 [] O (Ay O (A9 (i:=0) Hk O O (CN _)) (Ay O (BZ HY O (List.length_map _)) (Az BA 1 [] O (A3 O (fun c=>?_) (fun c=>?_)))))))
 ·(try simp only[sd,se] at c);refine A7 (A1 (BH (Bi [1,4] 3 (fun y=>∃q:Bool,y= .p (.bool q)∧(q=true→b=true)) ?_ ?_)))
  ·refine B7 (fun k=>Nat.beq k 8) D7 (A0 O (fun _=>BB O) Aw (A0 O (fun _=>BB O) Aw (EB 19 O (fun g=>?_) (fun g=>?_))))
   ·(try simp only[sd,se] at g);refine Be O (fun _=>Ax Cv O O) Aw (Co (i:=0) O O O O O (fun H i hi=>A9 (i:=i) Hk O hi (CN _)) AB Aw (Be O (fun _=>BB O) Aw ?_));obtain⟨x,hx⟩:=BE (l:=d.ctors) (i:=i) Au;refine Be O (fun _=>BC HY O O Au (Ek hx) (EN _)) Aw (Be O (fun _=>Bp I0 O O) Aw (Be O (fun _=>DX Bd O (FJ _) (BL _)) Aw ?_));refine gd [(9,.free (.ptr b1 13)),(10,.read [.box b1 ((Bw d).map .p)] (.p (I d.fixed)))] O O O O (CP O O (Pr x.type (h1.cs _ (List.mem_of_getElem? hx)).ty) (.inl O)) Ap (⟨_,0,O,by omega,by omega⟩) AB ?_;rintro _ ⟨e1,rfl,he01,he11⟩;refine⟨Aw,?_⟩;exact Be O (fun _=>Ax Cv O O) AO (Co (i:=0) O O O O O (fun H i hi=>A9 (i:=i) C0 O hi (C3 _)) AB AO (Be O (fun _=>C4 O O O) AO (A0 O (fun _=>B2 O O) AO (A0 O (fun _=>Bb O) AO (Bv O Ap (⟨O,O,AM,(by refine⟨_,rfl,fun h=>?_⟩;first | (exact absurd h As) | assumption),⟨O,O,Aw⟩⟩))))))
   (try simp only[sd,se] at g);exact BR O AO (BR O AO (BR O AO (BR O AO (BR O AO (BR O AO (dB O O O O AO (BR O AO (BR O AO (BR O AO (A0 O (fun _=>B2 O O) AO (A0 O (fun _=>Bb O) AO (Bv O Ap (⟨O,O,AM,(by refine⟨_,rfl,fun h=>?_⟩;first | (exact absurd h As) | assumption),⟨O,O,Aw⟩⟩)))))))))))))
  rintro _ ⟨q,rfl,hq⟩;refine A8 (Az BA 3 [] O (⟨⟨i+1,q⟩,AU,⟨by omega,fun h=>hC (hq h)⟩,Bk ⟨we rfl,we rfl,we rfl,trivial⟩ (leH (is:=[0]) rfl (wl (oe rfl) (DN)))⟩))
 (try simp only[sd,se] at c);refine Br (A2 BA 2 [] O (A6 (⟨O,_,_,⟨_,_,O,O,O⟩,(List.nil_sublist _),?_⟩)))
 all_goals exact⟨⟨_,rfl,hC⟩,rfl⟩
theorem RO:∀(t:Tm) (vars params metas levels:Int),(Nd t)→(size t<1000000)→GL Tryz.prog 55 [.agg ((Bg t).map .p),.p (I vars),.p (I params),.p (I metas),.p (I levels)] (fun v=>∃e:Int,v= .p (I e)∧(e=0→wf (max vars 0) metas 0 t)):=by
 intro t vars params metas levels h1 h2;refine BD Tryz.func55 O rk (n:=28) O O (A4 (BP O (Bf O) fun b5=>Az BA 1 [] O (A1 (A4 (A5 BA 2 [0] O (Ay O (Ff O O) (A5 BA 3 [] O (D1 O O (CP O O (hG _ t 0 (max (vars:Int) (0:Int)) params metas levels (Nat.le_refl _) h1 Au Ad) (.inl O)) ?_))))))));rintro _ ⟨e,rfl,he⟩;refine Az BA 1 [] O (A2 BA 2 [] O (A3 O (fun c=>?_) (fun c=>?_)))
 ·(try simp only[sd,se] at c);refine A2 BA 2 [] O (A6 (⟨O,_,[],Bx O,List.nil_sublist _,⟨⟨_,O,?_⟩,O⟩⟩));exact fun h=>absurd h Aq
 (try simp only[sd,se] at c);refine A7 (A1 (A4 (Ay O (BI (i:=0) Bd O O Am) (Ay O (BN O O (Mn _ t (Nat.le_refl _) h1) O) (Az BA 1 [] O (A3 O (fun c1=>?_) (fun c1=>?_)))))))
 ·(try simp only[sd,se] at c1);refine A2 BA 1 [] O (A6 (⟨O,_,[],Bx O,List.nil_sublist _,⟨⟨_,O,?_⟩,O⟩⟩));exact fun h=>absurd h As
 (try simp only[sd,se] at c1);refine A7 (A1 (A4 (Ay O (BI (i:=0) Bd O O Am) (Ay O (BN O O (Nz _ t (Nat.le_refl _) h1) O) (Az BA 1 [] O (A3 O (fun c2=>?_) (fun c2=>?_)))))))
 ·(try simp only[sd,se] at c2);refine A2 BA 1 [] O (A6 (⟨O,_,[],Bx O,List.nil_sublist _,⟨⟨_,O,?_⟩,O⟩⟩));exact fun h=>absurd h As
 (try simp only[sd,se] at c2);refine A7 (A2 BA 1 [] O (A6 (⟨O,_,[],Bx O,List.nil_sublist _,⟨⟨_,O,?_⟩,O⟩⟩)));exact fun _=>he Au
theorem Sh:∀(ds:List Cc) (d:Cc),(Hd ds)→(Nn d)→GL Tryz.prog 135 [.p (.lst (List.map Bw ds)),.agg ((Bw d).map .p)] (ZG):=by
 intro ds d h1 h2;have hn:=NV d;have hcl:=h2.cl;have hfl:=h2.fl;refine BD Tryz.func135 O my (n:=44) O O (A4 (BP O (Bf O) fun b3=>Az BA 1 [] O (A4 (Ay O (BI (i:=0) EJ O O Aj) (Ay O (BN O O (Mp d h2.cl h2.fl h2.nm) O) (Az BA 1 [] O (A1 (A2 BA 1 [] O (BH (Bo (α:=Nat) (fun i=>⟨44,mk [(0,.p (.lst (List.map Bw ds))),(5,.p (.lst (List.map Gt (DL d)))),(6,.p (I (i:Int)))],[],[]⟩) (fun i=>(DL d).length - i) (fun i=>i≤(DL d).length) 0 AQ ?_ ?_))))))))))
 ·exact Bk ⟨we O,we O,we O,Aw⟩ (leH (is:=[]) O (DN))
 rintro i hC
 try simp only at hC
 have hi:=hC;refine A1 (A4 (A5 BA 2 [] O (Ay O (BZ HA O (List.length_map _)) (Az BA 1 [] O (A3 O (fun c=>?_) (fun c=>?_))))))
 ·(try simp only[sd,se] at c);refine A7 (A1 (BH (A1 (A4 (A5 BA 2 [] O ?_)))));obtain⟨x,hx⟩:=BE (l:=DL d) (i:=i) Au;refine Ay O (BC HA O O Au (Ny hx) (O)) (Ay O (Ci Lm O) (D1 O O (CP O O (eU x (aJ h2 hx)) (.inl O)) ?_));rintro _ ⟨q,rfl⟩;refine Az BA 1 [] O (A3 O (fun c1=>?_) (fun c1=>?_))
  ·(try simp only[sd,se] at c1);refine A2 BA 1 [] O (A6 (⟨O,_,_,⟨_,_,O,O,O⟩,(List.nil_sublist _),?_⟩))
   all_goals exact⟨⟨_,rfl⟩,rfl⟩
  (try simp only[sd,se] at c1);refine A7 (A4 (A5 BA 3 [] O (Ay O (BC HA O O Au (Ny hx) (O)) (Ay O (Ci Lm O) (Ay O (BN O O (Lx ds x h1) O) (A5 BA 3 [] O (BP O (BF IA O) fun b7=>Az BA 2 [0,1] O (A1 (Bi [0,5,6] 43 Gq ?_ ?_)))))))))
  ·refine B7 (fun k=>false) D7 (A0 O (fun _=>BB O) Aw (A0 O (fun _=>C4 O O O) Aw (A0 O (fun _=>BB O) Aw (EB 34 O (fun g=>?_) (fun g=>?_)))))
   ·(try simp only[sd,se] at g);exact BR O Aw (BR O Aw (BR O Aw (BR O Aw (BR O Aw (BR O Aw (BR O Aw (BR O Aw (A0 O (fun _=>B2 O O) Aw (Bv O Ap (⟨O,O,AM,⟨_,O⟩,⟨O,O,O,Aw⟩⟩))))))))))
   (try simp only[sd,se] at g);exact Be O (fun _=>BB O) Aw (Be O (fun _=>BB O) Aw (Be O (fun _=>Cp (lo:=0) (hi:=i) HA O (CT (KX _)) O ⟨_,O⟩ (Nat.zero_le _) AR (Xf (f:=Gt) (DL d) i)) Aw (Be O (fun _=>BB O) Aw (Be O (fun _=>BB O) Aw (Be O (fun _=>BC HA O O Au (Ny hx) (O)) Aw (Be O (fun _=>Ci Lm O) Aw (Be O (fun _=>BN O O (Ue ((DL d).take i) x Ao) O) Aw (A0 O (fun _=>B2 O O) Aw (Bv O Ap (⟨O,O,AM,⟨_,O⟩,⟨O,O,O,Aw⟩⟩))))))))))
  rintro _ ⟨q1,rfl⟩;refine A3 O (fun c2=>?_) (fun c2=>?_)
  ·(try simp only[sd,se] at c2);refine A2 BA 1 [] O (A6 (⟨O,_,_,⟨_,_,O,O,O⟩,(List.nil_sublist _),?_⟩))
   all_goals exact⟨⟨_,rfl⟩,rfl⟩
  (try simp only[sd,se] at c2);refine A7 (A8 (Az BA 3 [] O ?_));refine⟨(i+1),AU,by omega,Bk ⟨we rfl,we rfl,we rfl,trivial⟩ (leH (is:=[]) rfl (DN))⟩
 (try simp only[sd,se] at c);refine Br (A2 BA 1 [] O (A6 (⟨O,_,_,⟨_,_,O,O,O⟩,(List.nil_sublist _),?_⟩)))
 all_goals exact⟨⟨_,rfl⟩,rfl⟩
theorem gA:∀(t:Tm),(UA t)→GL Tryz.prog 115 [.agg ((Bg t).map .p)] (fun v=>∃(l:List Tm) (q:Tm),v= .tup [.p (.lst (BO l)),TV q]∧l.length<1000000):=by
 intro t h1;have hsz:=h1.sz;refine BD Tryz.func115 O jo (n:=27) O O (A4 (BP O (Bf O) fun b1=>Va O (BP O (BF B8 O) fun b3=>Bt O (A2 BA 1 [] O (A1 (BH (BS (EY (t:=4) (sz:=5) O) ?_)))))));refine Bo (α:=Tm×List Tm×Option Nat×Nat) (fun(y,l,o,cp)=>⟨27,mk [(1,.ptr b1 0),(3,.ptr b3 0),(4,.vs o (BO l).length cp)],[.vec o 5 (BO l) cp,.box b3 [.p (I 0),.p (I 0),.p (.str ⟨#[]⟩),.p (.nils),.p (.nils)],.box b1 ((Bg y).map .p)],[]⟩) (fun(y,l,o,cp)=>size y) (fun(y,l,o,cp)=>Nd y∧l.length+size y≤size t) ⟨t,[],none,0⟩ (⟨h1.nd,by simp⟩) ?_ ?_
 ·exact Bk ⟨we O,we O,we O,Aw⟩ (leH (is:=[0,1,2]) O (wl (oe O) (wl (oe O) (wl (oe O) (DN)))))
 rintro⟨y,l,o,cp⟩ hC
 try simp only at hC
 have hl0:l.length<1000000:=by have:=hC.2;omega
 refine A1 (A1 ?_);obtain⟨yk,yi,yn,yl,ys⟩:=y;refine Bi [1,3,4] 13 (fun y=>y= .p (.bool (((yk:Int)==(6:Int))&&(((ys.length:Nat):Int)==(2:Int))))) ?_ ?_
 ·refine A8 (A5 BA 4 [2] O (Ba 8 O (fun g=>?_) (fun g=>?_)))
  ·(try simp only[sd,se] at g);exact A5 BA 2 [2] O (BM O (BZ Bq O (Bh _)) (Az BA 2 [] O (⟨O,O,AM,AJ,⟨O,O,O,Aw⟩⟩)))
  (try simp only[sd,se] at g);exact Az BA 5 [] O (⟨O,O,AM,AJ,⟨O,O,O,Aw⟩⟩)
 rintro _ rfl;refine A3 O (fun c=>?_) (fun c=>?_)
 ·(try simp only[sd,se] at c);refine A7 (BH (A4 (A5 BA 3 [2] O ?_)));obtain⟨x,hx⟩:=BE (l:=ys) (i:=0) (by first | omega | (simp at c;omega));refine Ay O (BC Bq O O Au (Bn hx) (BL _)) (Ay O (BQ Bd O (BL _)) ?_);obtain⟨xk,xi,xn,xl,xs⟩:=x;refine Ay O (B0 Bq B8 O O O O O) (FV O O (Cb (i:=0) (rows':=BO [(.mk xk xi xn xl xs:Tm)]) Bq Bq B8 O O O O O O (B9 _) AE (Jj l [(.mk xk xi xn xl xs:Tm)])) fun o1 cp1=>Az BA 1 [] O (A8 (A5 BA 2 [2] O ?_)));obtain⟨x1,hx1⟩:=BE (l:=ys) (i:=1) (by first | omega | (simp at c;omega));refine Ay O (BC Bq O O Au (Bn hx1) (BL _)) (Az BA 2 [2,1] O ?_);refine⟨⟨x1,l++[(.mk xk xi xn xl xs:Tm)],o1,cp1⟩,(by have:=Cs hx1;simp only[size];omega),⟨Di hC.1.2.2.2.2.1 hx1,by have:=Cs hx1;have:=hC.2;simp only[size] at *;simp only[List.length_append,List.length_cons,List.length_nil];omega⟩,Bk ⟨we rfl,we rfl,we rfl,trivial⟩ (leH (is:=[0,1,2]) rfl (wl (oe rfl) (wl (oe rfl) (wl (oe rfl) (DN)))))⟩
 (try simp only[sd,se] at c);refine Br (A1 (B7 (fun k=>false) D7 (A0 O (fun _=>BB O) Aw (BT (j:=2) O O O (fun H i hi=>BI (i:=i) Bd O hi O) AB Aw (A0 O (fun _=>Bb O) Aw (CF O O (CO (i:=1) Bd O O O O O O) AB Aw (Bv O Ap (BS (Cx (i:=0) [4,25,2] O (EH ⟨O,O,O,Aw⟩)) (A6 (⟨O,_,_,⟨_,_,O,O,⟨_,_,O,(BJ (i:=0) Bd O O O),O⟩⟩,(List.nil_sublist _),?_⟩))))))))))
 all_goals exact⟨⟨l,(.mk yk yi yn yl ys:Tm),rfl,by have:=hC.2;omega⟩,rfl⟩
theorem _root_.Go.Ai {α:Prop}(h:α:=by simp[Ti]):α:=h
theorem Sg:∀(n:Nat) (s:Pu) (t:Tm),(size t≤n)→(Nd t)→(Hd s.env)→(s.own.length<9000000)→(Nn s.d)→GL Tryz.prog 172 [.agg ((GM s).map .p),.agg ((Bg t).map .p)] (ZG):=by
 intro n
 induction n with
 | zero=>intro s t h;cases t;simp[size] at h
 | succ n ih =>
  intro s t h1 h2 h3 h4 h5;have h3l:=h3.len;obtain⟨tk,ti,tn,tl,ts⟩:=t;have hk:=h2.2.2.2.2.1;have hkl:=h2.2.2.2.1;simp only[Dt] at hkl;simp only[size] at h1;refine BD Tryz.func172 O oP (n:=59) O O (A4 (BP O (Bf O) fun b2=>BP O (Bf O) fun b3=>Az BA 1 [] O (A1 (A2 BA 3 [0] O (Bi [2,3] 12 (fun _=>True) ?_ ?_)))))
  ·refine A3 O (fun c=>?_) (fun c=>?_)
   ·(try simp only[sd,se] at c);refine A4 (Ay O (Ax M1 O O) (Ay O (A9 (i:=1) Rg O O (Ji _)) (A5 BA 2 [0] O (Ay O (BN O O (Lx s.env tn h3) O) (A5 BA 3 [] O (BP O (BF IA O) fun b5=>Az BA 2 [0,1] O (A1 (A2 BA 2 [] O (A3 O (fun c1=>?_) (fun c1=>?_))))))))))
    ·(try simp only[sd,se] at c1);refine A1 (A4 (Ay O (Ax M1 O O) (Ay O (A9 (i:=2) Vt O O (Wf _)) (A5 BA 2 [1] O (Ay O (BN O O (Ue s.own tn h4) O) (Az BA 1 [] O (A3 O (fun c2=>?_) (fun c2=>?_))))))))
     ·(try simp only[sd,se] at c2);refine A2 BA 1 [] O (A6 (⟨O,_,_,⟨_,_,O,O,O⟩,(List.nil_sublist _),?_⟩))
      all_goals exact⟨⟨_,rfl⟩,rfl⟩
     (try simp only[sd,se] at c2);refine A7 (A8 (Ay O (Ax M1 O O) (Ay O (CC (i:=2) EJ O O (TR _) (Cw _)) (Ay O (Ax M1 O O) (Ay O (A9 (i:=2) Rg O O (Ji _)) (Ay O (BZ Hv O (List.length_map _)) (A5 BA 2 [1] O (Ay O (BN O O (Tq s.d (s.env.length:Nat) tn h5.cl h5.fl) O) (Az BA 1 [0,1] O (A4 (A5 BA 2 [1] O (Ay O (BZ En O (List.length_map _)) (Ay O (Ax FG O O) (Ay O (A9 (i:=0) C0 O O (Hc _)) (Az BA 1 [] O (A3 O (fun c3=>?_) (fun c3=>?_)))))))))))))))))
     ·(try simp only[sd,se] at c3);refine A2 BA 1 [] O (A6 (⟨O,_,_,⟨_,_,O,O,O⟩,(List.nil_sublist _),?_⟩))
      all_goals exact⟨⟨_,rfl⟩,rfl⟩
     (try simp only[sd,se] at c3);exact A7 (⟨O,O,(CJ (is:=[1,2]) O),Aw,⟨O,O,Aw⟩⟩)
    (try simp only[sd,se] at c1);refine A7 (A4 (A5 BA 2 [1] O (Ay O (BZ En O (List.length_map _)) (Ay O (Ax FG O O) (Ay O (A9 (i:=0) C0 O O (Hc _)) (Az BA 1 [] O (A3 O (fun c2=>?_) (fun c2=>?_))))))))
    ·(try simp only[sd,se] at c2);refine A2 BA 1 [] O (A6 (⟨O,_,_,⟨_,_,O,O,O⟩,(List.nil_sublist _),?_⟩))
     all_goals exact⟨⟨_,rfl⟩,rfl⟩
    (try simp only[sd,se] at c2);exact A7 (⟨O,O,(CJ (is:=[1,2]) O),Aw,⟨O,O,Aw⟩⟩)
   (try simp only[sd,se] at c);exact A7 (⟨O,O,(List.Sublist.refl _),Aw,⟨O,O,Aw⟩⟩)
  intro _ _;refine A1 (A2 BA 1 [] O (BH (Bo (α:=Nat) (fun i=>⟨59,mk [(2,.ptr b2 0),(3,.ptr b3 0),(7,.p (I (i:Int)))],[.box b3 [.p (I tk),.p (I ti),.p (.str tn),.p (.lst (List.map CE tl)),.p (.lst (BO ts))],.box b2 ((GM s).map .p)],[]⟩) (fun i=>ts.length - i) (fun i=>i≤ts.length) 0 AQ ?_ ?_)))
  ·exact Bk ⟨we O,we O,we O,Aw⟩ (leH (is:=[0,1]) O (wl (oe O) (wl (oe O) (DN))))
  rintro i hC
  try simp only at hC
  have hi:=hC;refine A1 (A4 (A5 BA 3 [0] O (Ay O (BZ Bq O (Bh _)) (Az BA 1 [] O (A3 O (fun c=>?_) (fun c=>?_))))))
  ·(try simp only[sd,se] at c);refine A7 (A1 (BH (A1 (B7 (fun k=>Nat.beq k 6) D7 (BT (j:=1) O O O (fun H i hi=>BI (i:=i) Tl O hi Ai) AB Aw (A0 O (fun _=>Ax DV O O) Aw (BT (j:=0) O O O (fun H i hi=>BG (i:=i) E9 O hi O) AB Aw (A0 O (fun _=>BB O) Aw ?_))))))));obtain⟨x,hx⟩:=BE (l:=ts) (i:=i) Au;refine A0 O (fun _=>BC Bq O O Au (Bn hx) (BL _)) Aw (A0 O (fun _=>BQ Bd O (BL _)) Aw (J3 [] O O (CP O O (ih s x (by have:=Cs hx;omega) (Di hk hx) h3 h4 h5) (.inl O)) Ap (⟨_,0,O⟩) AB ?_));rintro _ ⟨e,rfl⟩;refine⟨Aw,?_⟩;refine A0 O (fun _=>Bb O) Aw (Bv O Ap (A2 BA 2 [] O (A3 O (fun c1=>?_) (fun c1=>?_))))
   ·(try simp only[sd,se] at c1);refine A2 BA 2 [] O (A6 (⟨O,_,_,⟨_,_,O,O,O⟩,(List.nil_sublist _),?_⟩))
    all_goals exact⟨⟨_,rfl⟩,rfl⟩
   (try simp only[sd,se] at c1);refine A7 (A8 (Az BA 3 [] O ?_));refine⟨(i+1),AU,by omega,Bk ⟨we rfl,we rfl,we rfl,trivial⟩ (leH (is:=[0,1]) rfl (wl (oe rfl) (wl (oe rfl) (DN))))⟩
  (try simp only[sd,se] at c);refine Br (A2 BA 1 [] O (A6 (⟨O,_,_,⟨_,_,O,O,O⟩,(List.nil_sublist _),?_⟩)))
  all_goals exact⟨⟨_,rfl⟩,rfl⟩
theorem Xz:∀(d:Cc),(Nn d)→GL Tryz.prog 134 [.agg ((Bw d).map .p)] (fun v=>∃ee:Int,v= .p (I ee)∧(ee=0→Uk d)):=by
 intro d h1;have hfl:=h1.fl;have hcl:=h1.cl;have hrl:=h1.rl;refine BD Tryz.func134 O mz (n:=96) O O (A4 (BP O (Bf O) fun b1=>Az BA 1 [] O (A1 (A1 (Bi [1] 16 (fun y=>y= .p (.bool (((decide ((d.params:Int)<(0:Int)))||(decide ((d.params:Int) > (8:Int))))||(decide ((d.fixed:Int)<(0:Int)))))) ?_ ?_)))))
 ·refine A8 (Ay O (Ax Cv O O) (Ay O (A9 (i:=0) C0 O O (C6 _)) (A5 BA 2 [] O (Ba 7 O (fun g=>?_) (fun g=>?_)))))
  ·(try simp only[sd,se] at g);exact Az BA 9 [] O (⟨O,O,AM,AJ,⟨O,Aw⟩⟩)
  (try simp only[sd,se] at g);refine BM O (Ax Cv O O) (BM O (A9 (i:=0) C0 O O (C6 _)) (A5 BA 3 [] O (Ba 12 O (fun g1=>?_) (fun g1=>?_))))
  ·(try simp only[sd,se] at g1);exact Az BA 4 [] O (⟨O,O,AM,AJ,⟨O,Aw⟩⟩)
  (try simp only[sd,se] at g1);exact BM O (Ax Cv O O) (BM O (A9 (i:=0) C0 O O (C3 _)) (Az BA 2 [] O (⟨O,O,AM,AJ,⟨O,Aw⟩⟩)))
 rintro _ rfl;refine A3 O (fun c=>?_) (fun c=>?_)
 ·(try simp only[sd,se] at c);refine A2 BA 1 [] O (A6 (⟨O,_,_,⟨_,_,O,O,O⟩,(List.nil_sublist _),?_⟩))
  all_goals exact⟨⟨_,rfl,fun h=>absurd h As⟩,rfl⟩
 (try simp only[sd,se] at c);have hf0:0≤d.fixed:=by omega
 refine A7 (A1 (A1 (Bi [1] 37 Gq ?_ ?_)))
 ·refine A8 (Ay O (Ax Cv O O) (Ay O (A9 (i:=0) Hk O O (CN _)) (Ay O (BZ HY O (List.length_map _)) (A5 BA 2 [] O (Ba 21 O (fun g=>?_) (fun g=>?_))))))
  ·(try simp only[sd,se] at g);exact Az BA 16 [] O (⟨O,O,AM,⟨_,O⟩,⟨O,Aw⟩⟩)
  (try simp only[sd,se] at g);refine BM O (Ax Cv O O) (BM O (A9 (i:=0) C0 O O (EK _)) (A5 BA 2 [] O (Ba 25 O (fun g1=>?_) (fun g1=>?_))))
  ·(try simp only[sd,se] at g1);refine BM O (Ax Cv O O) (BM O (A9 (i:=0) Hn O O (CV _)) (BM O (BZ HW O (List.length_map _)) (A5 BA 2 [] O (Ba 30 O (fun g2=>?_) (fun g2=>?_)))))
   ·(try simp only[sd,se] at g2);exact Az BA 7 [] O (⟨O,O,AM,⟨_,O⟩,⟨O,Aw⟩⟩)
   (try simp only[sd,se] at g2);exact BM O (Ax Cv O O) (BM O (A9 (i:=0) Hn O O (CV _)) (BM O (BZ HW O (List.length_map _)) (Az BA 4 [] O (⟨O,O,AM,⟨_,O⟩,⟨O,Aw⟩⟩))))
  (try simp only[sd,se] at g1);exact Az BA 12 [] O (⟨O,O,AM,⟨_,O⟩,⟨O,Aw⟩⟩)
 rintro _ ⟨q,rfl⟩;refine A3 O (fun c1=>?_) (fun c1=>?_)
 ·(try simp only[sd,se] at c1);refine A2 BA 1 [] O (A6 (⟨O,_,_,⟨_,_,O,O,O⟩,(List.nil_sublist _),?_⟩))
  all_goals exact⟨⟨_,rfl,fun h=>absurd h As⟩,rfl⟩
 (try simp only[sd,se] at c1);refine A7 (A1 (A2 BA 1 [] O (BH ?_)));refine Bo (α:=Nat) (fun i=>⟨96,mk [(1,.ptr b1 0),(3,.p (I (i:Int)))],[.box b1 ((Bw d).map .p)],[]⟩) (fun i=>d.funs.length - i) (fun i=>i≤d.funs.length∧(∀j,j<i→∀x,d.funs[j]?=some x→1≤x.arity∧x.arity≤16)) 0 (⟨by omega,fun j h=>by omega⟩) ?_ ?_
 ·exact Bk ⟨we O,we O,Aw⟩ (leH (is:=[0]) O (wl (oe O) (DN)))
 rintro i hC
 try simp only at hC
 obtain⟨hi,hC⟩:=hC;refine A1 (A4 (A5 BA 2 [] O (Ay O (A9 (i:=0) Hn O O (CV _)) (Ay O (BZ HW O (List.length_map _)) (Az BA 1 [] O (A3 O (fun c2=>?_) (fun c2=>?_)))))))
 ·(try simp only[sd,se] at c2);obtain⟨x,hx⟩:=BE (l:=d.funs) (i:=i) Au;refine A7 (A1 (BH (A1 (Bi [1,3] 60 (fun y=>∃q:Bool,y= .p (.bool q)∧(q=false→1≤x.arity∧x.arity≤16)) ?_ ?_))))
  ·refine A8 (Ay O (Ax Cv O O) (Ay O (A9 (i:=0) Hn O O (CV _)) (B6 O (Ay O (BC HW O O Au (Es hx) (Dd _)) (Ay O (Bp Gu O O) (Ay O (DP C0 O (Ch _)) (A5 BA 2 [] O (Ba 52 O (fun g=>?_) (fun g=>?_)))))))))
   ·(try simp only[sd,se] at g);exact Az BA 8 [] O (⟨O,O,AM,(by refine⟨_,rfl,fun h=>?_⟩;first | (exact absurd h As) | (simp only[decide_eq_false_iff_not] at h;omega) | omega),⟨O,O,Aw⟩⟩)
   (try simp only[sd,se] at g);exact BM O (Ax Cv O O) (BM O (A9 (i:=0) Hn O O (CV _)) (BM O (BB O) (BM O (BC HW O O Au (Es hx) (Dd _)) (BM O (Bp Gu O O) (BM O (DP C0 O (Ch _)) (Az BA 2 [] O (⟨O,O,AM,(by refine⟨_,rfl,fun h=>?_⟩;first | (exact absurd h As) | (simp only[decide_eq_false_iff_not] at h;omega) | omega),⟨O,O,Aw⟩⟩)))))))
  rintro _ ⟨q,rfl,hq⟩;refine A3 O (fun c3=>?_) (fun c3=>?_)
  ·(try simp only[sd,se] at c3);refine A2 BA 1 [] O (A6 (⟨O,_,_,⟨_,_,O,O,O⟩,(List.nil_sublist _),?_⟩))
   all_goals exact⟨⟨_,rfl,fun h=>absurd h As⟩,rfl⟩
  (try simp only[sd,se] at c3);have hq3:=hq (by simpa using c3);refine A7 (A8 (Az BA 3 [] O (⟨(i+1),AU,⟨by omega,DD (p:=fun _ (x:Hj)=>1≤x.arity∧x.arity≤16) hC hx hq3⟩,Bk ⟨we rfl,we rfl,trivial⟩ (leH (is:=[0]) rfl (wl (oe rfl) (DN)))⟩)))
 (try simp only[sd,se] at c2);refine Br (A1 (A1 (Bi [] 95 (fun y=>∃q:Bool,y= .p (.bool q)∧(q=false→d.kind=3→d.fixed≤1000000)) ?_ ?_)))
 ·refine A8 (Ay O (Ax Cv O O) (Ay O (A9 (i:=0) C0 O O (EK _)) (A5 BA 2 [] O (Ba 64 O (fun g=>?_) (fun g=>?_)))))
  ·(try simp only[sd,se] at g);refine A5 BA 2 [] O (BM O (A9 (i:=0) C0 O O (Dv _)) (BM O (Ax Cv O O) (BM O (A9 (i:=0) C0 O O (C6 _)) (A5 BA 2 [] O (Ba 71 O (fun g1=>?_) (fun g1=>?_))))))
   ·(try simp only[sd,se] at g1);refine A5 BA 2 [] O (BM O (A9 (i:=0) C0 O O (Dv _)) (BM O (Ax Cv O O) (BM O (A9 (i:=0) C0 O O (C6 _)) (BM O (EU O O) (A5 BA 3 [] O (Ba 80 O (fun g2=>?_) (fun g2=>?_)))))))
    ·(try simp only[sd,se] at g2);exact Az BA 15 [] O (⟨O,O,AM,(by refine⟨_,rfl,fun h h3=>?_⟩;first | (exact absurd h As) | omega | exact hq (by simpa using h)),Aw⟩)
    (try simp only[sd,se] at g2);refine A5 BA 2 [] O (BM O (A9 (i:=0) E9 O O (C2 _)) (BM O (BZ Bq O (Bh _)) (BM O (Ax Cv O O) (BM O (A9 (i:=0) Hk O O (CN _)) (BM O (BZ HY O (List.length_map _)) (A5 BA 3 [] O (Ba 90 O (fun g3=>?_) (fun g3=>?_))))))))
    ·(try simp only[sd,se] at g3);exact Az BA 5 [] O (⟨O,O,AM,(by refine⟨_,rfl,fun h h3=>?_⟩;first | (exact absurd h As) | omega | exact hq (by simpa using h)),Aw⟩)
    (try simp only[sd,se] at g3);refine BM O (BI (i:=0) EJ O O Aj) (IU O O O O (CP O O (TI d h1) (.inl O)) ?_);rintro _ ⟨q1,rfl,hq⟩;exact Az BA 3 [] O (⟨O,O,AM,(by refine⟨_,rfl,fun h h3=>?_⟩;first | (exact absurd h As) | omega | exact hq (by simpa using h)),Aw⟩)
   (try simp only[sd,se] at g1);refine A5 BA 11 [] O (BM O (A9 (i:=0) E9 O O (C2 _)) (BM O (BZ Bq O (Bh _)) (BM O (Ax Cv O O) (BM O (A9 (i:=0) Hk O O (CN _)) (BM O (BZ HY O (List.length_map _)) (A5 BA 3 [] O (Ba 90 O (fun g2=>?_) (fun g2=>?_))))))))
   ·(try simp only[sd,se] at g2);exact Az BA 5 [] O (⟨O,O,AM,(by refine⟨_,rfl,fun h h3=>?_⟩;first | (exact absurd h As) | omega | exact hq (by simpa using h)),Aw⟩)
   (try simp only[sd,se] at g2);refine BM O (BI (i:=0) EJ O O Aj) (IU O O O O (CP O O (TI d h1) (.inl O)) ?_);rintro _ ⟨q1,rfl,hq⟩;exact Az BA 3 [] O (⟨O,O,AM,(by refine⟨_,rfl,fun h h3=>?_⟩;first | (exact absurd h As) | omega | exact hq (by simpa using h)),Aw⟩)
  (try simp only[sd,se] at g);exact Az BA 31 [] O (⟨O,O,AM,(by refine⟨_,rfl,fun h h3=>?_⟩;first | (exact absurd h As) | omega | exact hq (by simpa using h)),Aw⟩)
 rintro _ ⟨q,rfl,hq⟩;refine A3 O (fun c3=>?_) (fun c3=>?_)
 ·(try simp only[sd,se] at c3);refine A2 BA 1 [] O (A6 (⟨O,_,_,⟨_,_,O,O,O⟩,(List.nil_sublist _),?_⟩))
  all_goals exact⟨⟨_,rfl,fun h=>absurd h As⟩,rfl⟩
 (try simp only[sd,se] at c3);have hq4:=hq (by simpa using c3);refine A7 (A2 BA 1 [] O (A6 (⟨O,_,_,⟨_,_,O,O,O⟩,(List.nil_sublist _),?_⟩)))
 all_goals exact⟨⟨_,rfl,fun _=>⟨hf0,IM Au hC,hq4⟩⟩,rfl⟩
theorem Wz:∀(d:Cc) (k:Int),(Nn d)→(0≤d.fixed∧d.fixed≤1000000)→(0≤k)→(k<d.ctors.length)→GL Tryz.prog 85 [.agg ((Bw d).map .p),.p (I k)] (fun v=>∃e:Int,v= .p (I e)∧0≤e∧e≤1000000):=by
 intro d k h1 h2 h3 h4;have hcl:=h1.cl;refine BD Tryz.func85 O nE (n:=23) O O (A4 (BP O (Bf O) fun b2=>Az BA 1 [] O (A4 (Ay O (Ax Cv O O) (Ay O (A9 (i:=0) Hk O O (CN _)) (B6 O ?_))))));obtain⟨x,hx⟩:=BE (l:=d.ctors) (i:=(k:Int).toNat) Au;refine Ay O (BC HY O O Au (Ek hx) (EN _)) (Ay O (Bp I0 O O) (Ay O (DX Bd O (FJ _) (BL _)) (D1 O O (CP O O (gA x.type (h1.cs _ (List.mem_of_getElem? hx)).ty) (.inl O)) ?_)));rintro _ ⟨l,q,rfl,hl⟩;refine A5 BA 3 [] O (BP O (BF B8 O) fun b6=>Az BA 2 [0,1] O (A4 (B6 O (Ay O (BZ Bq O (Bh _)) (Ay O (Ax Cv O O) (Ay O (A9 (i:=1) C0 O O (C3 _)) (Ay O (IP O O Au Au) (Ay O (Ff O O) (Az BA 1 [] O (A6 (⟨O,_,_,⟨_,_,O,O,O⟩,(List.nil_sublist _),?_⟩)))))))))))
 all_goals exact⟨⟨_,rfl,by omega,by omega⟩,rfl⟩
theorem HH:∀(s:Pu) (t:Tm) (vs ps:Int),(UA t)→(Hd s.env)→(s.own.length<9000000)→(Nn s.d)→(vs≤549755813888)→GL Tryz.prog 151 [.agg ((GM s).map .p),.agg ((Bg t).map .p),.p (I vs),.p (I ps)] (fun v=>∃ee:Int,v= .p (I ee)∧(ee=0→okB t=true)):=by
 intro s t vs ps h1 h2 h3 h4 h5;refine BD Tryz.func151 O lu (n:=20) O O (A4 (BP O (Bf O) fun b4=>BP O (Bf O) fun b5=>Az BA 1 [] O (A1 (A4 (A5 BA 3 [0] O (D1 O O (CP O O (RO t vs ps 0 0 h1.nd h1.sz) (.inl O)) ?_))))));rintro _ ⟨e,rfl,he⟩;refine Az BA 1 [] O (A2 BA 2 [] O (A3 O (fun c=>?_) (fun c=>?_)))
 ·(try simp only[sd,se] at c);refine A2 BA 2 [] O (A6 (⟨O,_,_,⟨_,_,O,O,O⟩,(List.nil_sublist _),?_⟩))
  all_goals exact⟨⟨_,rfl,fun h=>absurd h Aq⟩,rfl⟩
 (try simp only[sd,se] at c);refine A7 (A4 (A5 BA 2 [1,0] O (D1 O O (CP O O (Sg (size t) s t (Nat.le_refl _) h1.nd h2 h3 h4) (.inl O)) ?_)));rintro _ ⟨e1,rfl⟩;refine Az BA 1 [] O (A6 (⟨O,_,_,⟨_,_,O,O,O⟩,(List.nil_sublist _),?_⟩))
 all_goals exact⟨⟨_,rfl,fun _=>eN h1.nd h1.sz h5 (he Au)⟩,rfl⟩
theorem Uv:∀(n:Nat) (a b:Fl),(Li a≤n)→(Hr a)→GL Tryz.prog 173 [.agg ((DF a).map .p),.agg ((DF b).map .p)] (fun v=>∃bb:Bool,v= .p (.bool bb)∧(bb=true→Ng a.body b.body=true∧a.branches.length=b.branches.length)):=by
 intro n
 induction n with
 | zero=>intro a b h;have:=PM a;omega
 | succ n ih =>
  intro a b h1 h2;have hal:=h2.bl;refine BD Tryz.func173 O np (n:=74) O O (A4 (BP O (Bf O) fun b2=>BP O (Bf O) fun b3=>Az BA 1 [] O (A1 (A1 (Bi [2,3] 36 (fun y=>∃q:Bool,y= .p (.bool q)∧(q=false→a.branches.length=b.branches.length∧Ng a.body b.body=true)) ?_ ?_)))))
  ·refine A8 (Ay O (Ax Fc O O) (Ay O (A9 (i:=1) C0 O O (Gh _)) (Ay O (Ax Fc O O) (Ay O (A9 (i:=0) C0 O O (Gh _)) (A5 BA 2 [] O (Ba 13 O (fun g=>?_) (fun g=>?_)))))))
   ·(try simp only[sd,se] at g);exact Az BA 23 [] O (⟨O,O,AM,(by refine⟨_,rfl,fun h=>?_⟩;first | (exact absurd h As) | (simp_all;done) | (simp_all;omega)),⟨O,O,Aw⟩⟩)
   (try simp only[sd,se] at g);refine BM O (Ax Fc O O) (BM O (A9 (i:=1) C0 O O (DZ _)) (BM O (Ax Fc O O) (BM O (A9 (i:=0) C0 O O (DZ _)) (A5 BA 3 [] O (Ba 20 O (fun g1=>?_) (fun g1=>?_))))))
   ·(try simp only[sd,se] at g1);exact Az BA 16 [] O (⟨O,O,AM,(by refine⟨_,rfl,fun h=>?_⟩;first | (exact absurd h As) | (simp_all;done) | (simp_all;omega)),⟨O,O,Aw⟩⟩)
   (try simp only[sd,se] at g1);refine BM O (Ax Fc O O) (BM O (CC (i:=1) Bd O O (FL _) (BL _)) (BM O (Ax Fc O O) (BM O (CC (i:=0) Bd O O (FL _) (BL _)) (BM O (BN O O (NP _ a.body b.body (Nat.le_refl _) h2.body.nd) O) (A5 BA 3 [] O (Ba 28 O (fun g2=>?_) (fun g2=>?_)))))))
   ·(try simp only[sd,se] at g2);exact Az BA 8 [] O (⟨O,O,AM,(by refine⟨_,rfl,fun h=>?_⟩;first | (exact absurd h As) | (simp_all;done) | (simp_all;omega)),⟨O,O,Aw⟩⟩)
   (try simp only[sd,se] at g2);exact BM O (Ax Fc O O) (BM O (A9 (i:=1) KP O O (CU _)) (BM O (BZ Jf O (GG _)) (BM O (Ax Fc O O) (BM O (A9 (i:=0) KP O O (CU _)) (BM O (BZ Jf O (GG _)) (Az BA 2 [] O (⟨O,O,AM,(by refine⟨_,rfl,fun h=>?_⟩;first | (exact absurd h As) | (simp_all;done) | (simp_all;omega)),⟨O,O,Aw⟩⟩)))))))
  rintro _ ⟨q,rfl,hq⟩;refine A3 O (fun c=>?_) (fun c=>?_)
  ·(try simp only[sd,se] at c);refine A2 BA 1 [] O (A6 (⟨O,_,_,⟨_,_,O,O,O⟩,(List.nil_sublist _),?_⟩))
   all_goals exact⟨⟨_,rfl,fun h=>absurd h As⟩,rfl⟩
  (try simp only[sd,se] at c);obtain⟨hqa,hqb⟩:=hq (by simpa using c);refine A7 (A1 (A2 BA 1 [] O (BH (Bo (α:=Nat) (fun i=>⟨74,mk [(2,.ptr b2 0),(3,.ptr b3 0),(5,.p (I (i:Int)))],[.box b3 ((DF b).map .p),.box b2 ((DF a).map .p)],[]⟩) (fun i=>a.branches.length - i) (fun i=>i≤a.branches.length) 0 AQ ?_ ?_))))
  ·exact Bk ⟨we O,we O,we O,Aw⟩ (leH (is:=[0,1]) O (wl (oe O) (wl (oe O) (DN))))
  rintro i hC
  try simp only at hC
  have hi:=hC;refine A1 (A4 (A5 BA 2 [] O (Ay O (A9 (i:=1) KP O O (CU _)) (Ay O (BZ Jf O (GG _)) (Az BA 1 [] O (A3 O (fun c1=>?_) (fun c1=>?_)))))))
  ·(try simp only[sd,se] at c1);obtain⟨x,hx⟩:=BE (l:=a.branches) (i:=i) Au;obtain⟨x1,hx1⟩:=BE (l:=b.branches) (i:=i) Au;refine A7 (A1 (BH (A1 (iv [.val (.ptr b2 (0+7)),.val (.p (.lst (LX a.branches))),.val (.p (I (i:Int))),.val (.ref (G4 x)),.val (.agg ((G4 x).map .p)),.val (.ptr b3 (0+7)),.val (.p (.lst (LX b.branches))),.val (.p (I (i:Int))),.val (.ref (G4 x1)),.val (.agg ((G4 x1).map .p)),.new [.p (.str ⟨#[]⟩),.p (.bool false),.p (I 0),.p (I 0),.p (I 0),.p (.str ⟨#[]⟩),.p (.nils),.p (.nils),.p (I 0),.p (.nils)],.new [.p (.str ⟨#[]⟩),.p (.bool false),.p (I 0),.p (I 0),.p (I 0),.p (.str ⟨#[]⟩),.p (.nils),.p (.nils),.p (I 0),.p (.nils)]] [.p .any,.p .any] [5,6,7,8,9] D7 O Ap Ap Ap ?_ ?_))))
   ·exact Aw
   refine J2 O (fun Bs=>Ax Fc O O) (J2 O (fun Bs=>A9 (i:=Bs.length+1) KP O (Cn O) (CU _)) (J2 O (fun Bs=>BB O) (J2 O (fun Bs=>BC Jf O O Au (Fk hx) (Dg _)) (J2 O (fun Bs=>BQ Ts O (Dg _)) (J2 O (fun Bs=>Ax Fc O O) (J2 O (fun Bs=>A9 (i:=Bs.length+0) KP O (Cn O) (CU _)) (J2 O (fun Bs=>BB O) (J2 O (fun Bs=>BC Jf O O Au (Fk hx1) (Dg _)) (J2 O (fun Bs=>BQ Ts O (Dg _)) (bM O (fun Bs=>BF Yf O) fun b6=>bM O (fun Bs=>BF Yf O) fun b7=>kp ?_))))))))));refine Yk [.box b6 ((G4 x).map .p),.box b7 [.p (.str ⟨#[]⟩),.p (.bool false),.p (I 0),.p (I 0),.p (I 0),.p (.str ⟨#[]⟩),.p (.nils),.p (.nils),.p (I 0),.p (.nils)]] O (Bc (i:=0) Ts O O O (by simp[Dg]) (by first | rfl | simp[Dg]) (U2 _)) (Yk [.box b6 ((G4 x).map .p),.box b7 ((G4 x1).map .p)] O (Bc (i:=1) Ts O O O (by simp[Dg]) (by first | rfl | simp[Dg]) (U2 _)) (lg (A1 (Bi [2,3,5] 73 Gq ?_ ?_))))
   ·refine A8 (Ay O (Ax Hq O O) (Ay O (A9 (i:=0) Lm O O (Gk _)) (Ay O (Ax Hq O O) (Ay O (A9 (i:=1) Lm O O (Gk _)) (Ay O (JE O O) (B6 O (Ba 59 O (fun g=>?_) (fun g=>?_))))))))
    ·(try simp only[sd,se] at g);exact Az BA 14 [] O (⟨O,O,AM,⟨_,O⟩,⟨O,O,O,Aw⟩⟩)
    (try simp only[sd,se] at g);refine BM O (Ax Hq O O) (BM O (A9 (i:=0) jv O O (GZ _)) (BM O (Ax Hq O O) (BM O (A9 (i:=1) jv O O (GZ _)) (BM O (XT sR O O) (A5 BA 2 [] O (Ba 66 O (fun g1=>?_) (fun g1=>?_)))))))
    ·(try simp only[sd,se] at g1);exact Az BA 7 [] O (⟨O,O,AM,⟨_,O⟩,⟨O,O,O,Aw⟩⟩)
    (try simp only[sd,se] at g1);refine BM O (Ax Hq O O) (BM O (CC (i:=0) HM O O (Fz _) (C7 _)) (BM O (Ax Hq O O) (BM O (CC (i:=1) HM O O (Fz _) (C7 _)) (IU O O O O (CP O O (ih x.tree x1.tree (by have:=R0 hx;omega) (JN h2.bs hx).tr) (.inl O)) ?_))));rintro _ ⟨q1,rfl,hq⟩;exact Az BA 2 [] O (⟨O,O,AM,⟨_,O⟩,⟨O,O,O,Aw⟩⟩)
   rintro _ ⟨q1,rfl⟩;refine A3 O (fun c2=>?_) (fun c2=>?_)
   ·(try simp only[sd,se] at c2);refine A2 BA 1 [] O (A6 (⟨O,_,_,⟨_,_,O,O,O⟩,(List.nil_sublist _),?_⟩))
    all_goals exact⟨⟨_,rfl,fun h=>absurd h As⟩,rfl⟩
   (try simp only[sd,se] at c2);refine A7 (A8 (Az BA 3 [] O ?_));refine⟨(i+1),AU,by omega,Bk ⟨we rfl,we rfl,we rfl,trivial⟩ (leH (is:=[2,3]) rfl (wl (oe rfl) (wl (oe rfl) (DN))))⟩
  (try simp only[sd,se] at c1);refine Br (A2 BA 1 [] O (A6 (⟨O,_,_,⟨_,_,O,O,O⟩,(List.nil_sublist _),?_⟩)))
  all_goals exact⟨⟨_,rfl,fun _=>⟨hqb,hqa⟩⟩,rfl⟩
theorem Xn:∀(n:Nat) (s:Pu) (t:Fl) (vs dp:Int),(Li t≤n)→(Hr t)→(J7 s.env)→(s.own.length<9000000)→(Nn s.d)→(0≤dp∧dp≤200)→(0≤vs∧vs+(201 - dp)*1000000≤549755813888)→GL Tryz.prog 152 [.agg ((GM s).map .p),.agg ((DF t).map .p),.p (I vs),.p (I dp)] (fun v=>∃ee:Int,v= .p (I ee)∧(ee=0→GA t)):=by
 intro n
 induction n with
 | zero=>intro s t vs dp h;have:=PM t;omega
 | succ n ih =>
  intro s t vs dp h1 h2 h3 h4 h5 h6 h7;have htl:=h2.bl;refine BD Tryz.func152 O oK (n:=110) O O (A4 (BP O (Bf O) fun b4=>BP O (Bf O) fun b5=>Az BA 1 [] O (A1 (A2 BA 2 [] O (A3 O (fun c=>?_) (fun c=>?_))))))
  ·(try simp only[sd,se] at c);refine A2 BA 1 [] O (A6 (⟨O,_,_,⟨_,_,O,O,O⟩,(List.nil_sublist _),?_⟩))
   all_goals exact⟨⟨_,rfl,fun h=>absurd h As⟩,rfl⟩
  (try simp only[sd,se] at c);refine A7 (A1 (A4 (Ay O (Ax Fc O O) (Ay O (A9 (i:=0) C0 O O (Gh _)) (Bt O (BH (A2 BA 2 [] O (A3 O (fun c1=>?_) (fun c1=>?_)))))))))
  ·(try simp only[sd,se] at c1);refine A1 (A1 (Bi [2,4,5] 28 (fun y=>y= .p (.bool (((t.var:Int) !=(0:Int))||(decide (((t.branches.length:Nat):Int) > (0:Int)))))) ?_ ?_))
   ·refine A8 (Ay O (Ax Fc O O) (Ay O (A9 (i:=0) C0 O O (DZ _)) (A5 BA 2 [] O (Ba 23 O (fun g=>?_) (fun g=>?_)))))
    ·(try simp only[sd,se] at g);exact Az BA 5 [] O (⟨O,O,AM,AJ,⟨O,O,O,Aw⟩⟩)
    (try simp only[sd,se] at g);exact BM O (Ax Fc O O) (BM O (A9 (i:=0) KP O O (CU _)) (BM O (BZ Jf O (GG _)) (Az BA 2 [] O (⟨O,O,AM,AJ,⟨O,O,O,Aw⟩⟩))))
   rintro _ rfl;refine A3 O (fun c2=>?_) (fun c2=>?_)
   ·(try simp only[sd,se] at c2);refine A2 BA 1 [] O (A6 (⟨O,_,_,⟨_,_,O,O,O⟩,(List.nil_sublist _),?_⟩))
    all_goals exact⟨⟨_,rfl,fun h=>absurd h As⟩,rfl⟩
   (try simp only[sd,se] at c2);have hb0:t.branches.length=0:=by omega
   refine A7 (A4 (A5 BA 2 [1] O (Ay O (CC (i:=0) Bd O O (FL _) (BL _)) (A5 BA 3 [] O (Ay O (A9 (i:=1) C0 O O (PE _)) (D1 O O (CP O O (HH s t.body vs s.d.params h2.body h3.env h4 h5 Au) (.inl O)) ?_))))));rintro _ ⟨e,rfl,he⟩;refine Az BA 1 [] O (A6 (⟨O,_,_,⟨_,_,O,O,O⟩,(List.nil_sublist _),?_⟩))
   all_goals exact⟨⟨_,rfl,fun h=>Q5 (he h) (kb hb0)⟩,rfl⟩
  (try simp only[sd,se] at c1);refine A2 BA 2 [] O (A3 O (fun c2=>?_) (fun c2=>?_))
  ·(try simp only[sd,se] at c2);refine A4 (Ay O (Ax Fc O O) (Ay O (CC (i:=0) Bd O O (FL _) (BL _)) (Ay O (BN O O (KO t.body h2.body.nd) O) (Az BA 1 [] O (A3 O (fun c3=>?_) (fun c3=>?_))))))
   ·(try simp only[sd,se] at c3);refine A2 BA 1 [] O (A6 (⟨O,_,_,⟨_,_,O,O,O⟩,(List.nil_sublist _),?_⟩))
    all_goals exact⟨⟨_,rfl,fun h=>absurd h As⟩,rfl⟩
   (try simp only[sd,se] at c3);have hz0:Ng t.body Bu=true:=by simpa using c3
   refine A7 (A1 (A1 (Bi [2,3,4,5] 51 (fun y=>y= .p (.bool ((decide ((t.var:Int)<(0:Int)))||(decide ((t.var:Int)≥(vs:Int)))))) ?_ ?_)))
   ·refine A8 (Ay O (Ax Fc O O) (Ay O (A9 (i:=0) C0 O O (DZ _)) (A5 BA 2 [] O (Ba 46 O (fun g=>?_) (fun g=>?_)))))
    ·(try simp only[sd,se] at g);exact Az BA 5 [] O (⟨O,O,AM,AJ,⟨O,O,O,O,Aw⟩⟩)
    (try simp only[sd,se] at g);exact BM O (Ax Fc O O) (BM O (A9 (i:=0) C0 O O (DZ _)) (Az BA 3 [] O (⟨O,O,AM,AJ,⟨O,O,O,O,Aw⟩⟩)))
   rintro _ rfl;refine A3 O (fun c4=>?_) (fun c4=>?_)
   ·(try simp only[sd,se] at c4);refine A2 BA 1 [] O (A6 (⟨O,_,_,⟨_,_,O,O,O⟩,(List.nil_sublist _),?_⟩))
    all_goals exact⟨⟨_,rfl,fun h=>absurd h As⟩,rfl⟩
   (try simp only[sd,se] at c4);refine A7 (A1 (A4 (Ay O (Ax Fc O O) (Ay O (A9 (i:=0) KP O O (CU _)) (Ay O (BZ Jf O (GG _)) (Az BA 1 [] O (A3 O (fun c5=>?_) (fun c5=>?_))))))))
   ·(try simp only[sd,se] at c5);refine A2 BA 1 [] O (A6 (⟨O,_,_,⟨_,_,O,O,O⟩,(List.nil_sublist _),?_⟩))
    all_goals exact⟨⟨_,rfl,fun h=>absurd h As⟩,rfl⟩
   (try simp only[sd,se] at c5);refine A7 (A1 (A2 BA 1 [] O (BH ?_)));refine Bo (α:=Nat) (fun i=>⟨110,mk [(2,.p (I vs)),(3,.p (I dp)),(4,.ptr b4 0),(5,.ptr b5 0),(9,.p (I (i:Int)))],[.box b5 ((DF t).map .p),.box b4 ((GM s).map .p)],[]⟩) (fun i=>t.branches.length - i) (fun i=>i≤t.branches.length∧(∀j,j<i→∀x,t.branches[j]?=some x→GA x.tree)) 0 (⟨by omega,fun j h=>by omega⟩) ?_ ?_
   ·exact Bk ⟨we O,we O,we O,we O,we O,Aw⟩ (leH (is:=[0,1]) O (wl (oe O) (wl (oe O) (DN))))
   rintro i hC
   try simp only at hC
   obtain⟨hi,hC⟩:=hC;refine A1 (A4 (A5 BA 2 [] O (Ay O (A9 (i:=0) KP O O (CU _)) (Ay O (BZ Jf O (GG _)) (Az BA 1 [] O (A3 O (fun c6=>?_) (fun c6=>?_)))))))
   ·(try simp only[sd,se] at c6);refine A7 (A1 (BH (A4 (Ay O (Ax Fc O O) (Ay O (A9 (i:=0) KP O O (CU _)) (B6 O ?_))))));obtain⟨x,hx⟩:=BE (l:=t.branches) (i:=i) Au;refine Ay O (BC Jf O O Au (Fk hx) (Dg _)) (Ay O (BQ Ts O (Dg _)) (BP O (BF Yf O) fun b10=>Az BA 1 [0,1] O (A4 (Ay O (Ax M1 O O) (Ay O (A9 (i:=2) Rg O O (Ji _)) (Ay O (Ax Hq O O) (Ay O (A9 (i:=0) Lm O O (Gk _)) (Ay O (BN O O (Lx s.env x.ctor h3.env) O) (A5 BA 3 [] O (BP O (BF IA O) fun b11=>Az BA 2 [0,1] O (A1 (A1 (Bi [2,3,4,5,9,10,11] 82 (fun y=>∃q:Bool,y= .p (.bool q)∧(q=false→(B3 s.env x.ctor).2=0∧(B3 s.env x.ctor).1.kind=4)) ?_ ?_)))))))))))))
    ·refine A8 (A5 BA 3 [] O (Ba 78 O (fun g=>?_) (fun g=>?_)))
     ·(try simp only[sd,se] at g);refine Az BA 4 [] O ?_;exact⟨O,O,AM,(by refine⟨_,rfl,fun h=>?_⟩;first | (exact absurd h As) | exact⟨by simpa using g,by simpa using h⟩),⟨O,O,O,O,O,O,O,Aw⟩⟩
     (try simp only[sd,se] at g);refine BM O (Ax FG O O) (BM O (A9 (i:=0) C0 O O (Dq _)) (Az BA 2 [] O ?_));exact⟨O,O,AM,(by refine⟨_,rfl,fun h=>?_⟩;first | (exact absurd h As) | exact⟨by simpa using g,by simpa using h⟩),⟨O,O,O,O,O,O,O,Aw⟩⟩
    rintro _ ⟨q,rfl,hq⟩;refine A3 O (fun c7=>?_) (fun c7=>?_)
    ·(try simp only[sd,se] at c7);refine A2 BA 1 [] O (A6 (⟨O,_,_,⟨_,_,O,O,O⟩,(List.nil_sublist _),?_⟩))
     all_goals exact⟨⟨_,rfl,fun h=>absurd h As⟩,rfl⟩
    (try simp only[sd,se] at c7);obtain⟨hqc,hqd⟩:=hq (by simpa using c7);obtain⟨dd,k1,k2,k3,k4⟩:=X8 hqc hqd;refine A7 (A1 (A4 (Ay O (Ax Hq O O) (Ay O (A9 (i:=1) jv O O (GZ _)) (Bt O (A3 O (fun c8=>?_) (fun c8=>?_)))))))
    ·(try simp only[sd,se] at c8);refine A1 (A4 (Ay O (Ax Hq O O) (Ay O (CC (i:=1) HM O O (Fz _) (C7 _)) (Ay O (CB Fc VE O) (D1 O O (CP O O (B4.args (Uv (Li x.tree) x.tree (Fl.mk 0 (.mk 0 0 ⟨#[]⟩ [] []:Tm) 0 []) (Nat.le_refl _) (JN h2.bs hx).tr) (aw (we O) (aw (D9 O) (FH)))) (.inl O)) ?_)))));rintro _ ⟨q1,rfl,hq⟩;refine Az BA 1 [] O (A3 O (fun c9=>?_) (fun c9=>?_))
     ·(try simp only[sd,se] at c9);refine A2 BA 1 [] O (A6 (⟨O,_,_,⟨_,_,O,O,O⟩,(List.nil_sublist _),?_⟩))
      all_goals exact⟨⟨_,rfl,fun h=>absurd h As⟩,rfl⟩
     (try simp only[sd,se] at c9);have hok:GA x.tree:=XC (hq (by simpa using c9)).1 (hq (by simpa using c9)).2;refine A7 (Br (A8 (Az BA 3 [] O (⟨(i+1),AU,⟨by omega,DD (p:=fun _ (y:GP)=>GA y.tree) hC hx hok⟩,Bk ⟨we rfl,we rfl,we rfl,we rfl,we rfl,trivial⟩ (leH (is:=[2,3]) rfl (wl (oe rfl) (wl (oe rfl) (DN))))⟩))))
    (try simp only[sd,se] at c8);refine A7 (A1 (B7 (fun k=>Nat.beq k 12||Nat.beq k 16) D7 (BT (j:=3) O O O (fun H i hi=>BI (i:=i) Tl O hi Ai) AB Aw (A0 O (fun _=>Ax Hq O O) Aw (BT (j:=1) O O O (fun H i hi=>CC (i:=i) HM O hi (Fz _) (C7 _)) AB Aw (A0 O (fun _=>BB O) Aw (A0 O (fun _=>Ax M1 O O) Aw (BT (j:=3) O O O (fun H i hi=>A9 (i:=i) Rg O hi (Ji _)) AB Aw (A0 O (fun _=>Ax FG O O) Aw (BT (j:=0) O O O (fun H i hi=>A9 (i:=i) C0 O hi (Ds _)) AB Aw ?_))))))))));obtain⟨x1,hx1⟩:=BE (l:=s.env) (i:=(((B3 s.env x.ctor).1).decl:Int).toNat) (by have:=(List.getElem?_eq_some_iff.1 k2).1;omega);refine A0 O (fun _=>BC Hv O O Au (EX hx1) (Cw _)) Aw (A0 O (fun _=>BQ EJ O (Cw _)) Aw (A0 O (fun _=>Ax FG O O) Aw (BT (j:=0) O O O (fun H i hi=>A9 (i:=i) C0 O hi (F6 _)) AB Aw ?_)));refine J3 [(14,.free (.p (I dp))),(15,.free (.p (I ((dp:Int)+(1:Int)))))] O O (CP O O (Wz x1 (((B3 s.env x.ctor).1).item) (h3.all _ (List.mem_of_getElem? hx1)).din (h3.all _ (List.mem_of_getElem? hx1)).fx k3 (by have e:=Option.some.inj (k2.symm.trans hx1);subst e;exact k4)) (.inl O)) Ap (⟨_,0,O,by omega,by omega⟩) AB ?_;rintro _ ⟨e,rfl,he0,he1⟩;refine⟨Aw,?_⟩;refine A0 O (fun _=>ET O O Au Au) AO (A0 O (fun _=>BB O) AO (A0 O (fun _=>ET O O Au Au) AO (J3 [] O O (CP O O (ih s x.tree ((vs:Int)+(e:Int)) ((dp:Int)+(1:Int)) (by have:=R0 hx;omega) (JN h2.bs hx).tr h3 h4 h5 Au Au) (.inl O)) Ap (⟨_,1,O,fun h=>absurd h As⟩) AB ?_)));rintro _ ⟨e1,rfl,he⟩;refine⟨AO,?_⟩;refine A0 O (fun _=>Bb O) AO (Bv O Ap (A2 BA 2 [] O (A3 O (fun c9=>?_) (fun c9=>?_))))
    ·(try simp only[sd,se] at c9);refine A2 BA 2 [] O (A6 (⟨O,_,_,⟨_,_,O,O,O⟩,(List.nil_sublist _),?_⟩))
     all_goals exact⟨⟨_,rfl,fun h=>absurd h Aq⟩,rfl⟩
    (try simp only[sd,se] at c9);have hok:= @he Au;refine A7 (A8 (Az BA 3 [] O (⟨(i+1),AU,⟨by omega,DD (p:=fun _ (y:GP)=>GA y.tree) hC hx hok⟩,Bk ⟨we rfl,we rfl,we rfl,we rfl,we rfl,trivial⟩ (leH (is:=[2,3]) rfl (wl (oe rfl) (wl (oe rfl) (DN))))⟩)))
   (try simp only[sd,se] at c6);refine Br (A2 BA 1 [] O (A6 (⟨O,_,_,⟨_,_,O,O,O⟩,(List.nil_sublist _),?_⟩)))
   all_goals exact⟨⟨_,rfl,fun _=>Q5 (by rw[IT.1 hz0];exact Kj) (IM Au hC)⟩,rfl⟩
  (try simp only[sd,se] at c2);refine A2 BA 1 [] O (A6 (⟨O,_,_,⟨_,_,O,O,O⟩,(List.nil_sublist _),?_⟩))
  all_goals exact⟨⟨_,rfl,fun h=>absurd h As⟩,rfl⟩
theorem ad:∀(ds:List Cc) (d:Cc),(J7 ds)→(Nn d)→(Uk d)→GL Tryz.prog 136 [.p (.lst (List.map Bw ds)),.agg ((Bw d).map .p)] (fun v=>∃ee:Int,v= .p (I ee)∧(ee=0→cA d)):=by
 intro ds d h1 h2 h3;have hn:=NV d;have hcl:=h2.cl;have hfl:=h2.fl;have hrl:=h2.rl;refine BD Tryz.func136 O nK (n:=161) O O (A4 (BP O (Bf O) fun b3=>Az BA 1 [] O (A4 (A5 BA 2 [0] O (Ay O (fe M1 j2 (o9 O O O)) (BP O (BF j2 O) fun b5=>Az BA 1 [0,1] O (A1 (A4 (Ay O (Ax Cv O O) (Ay O (A9 (i:=1) C0 O O (EK _)) (Az BA 1 [] O (Bi [3,5] 17 (fun _=>True) ?_ ?_))))))))))))
 ·refine A3 O (fun c=>?_) (fun c=>?_)
  ·(try simp only[sd,se] at c);refine A4 (A5 BA 2 [0] O (Ay O (CC (i:=1) Bd O O (FO _) (BL _)) (Ay O (Ax Cv O O) (Ay O (A9 (i:=1) C0 O O (C6 _)) (D1 O O (CP O O (HH (Pu.mk ds [] d) d.type 0 d.params h2.ty h1.env Av h2 Au) (.inl O)) ?_)))));rintro _ ⟨e,rfl,he⟩;refine Az BA 1 [] O (A2 BA 2 [] O (A3 O (fun c1=>?_) (fun c1=>?_)))
   ·(try simp only[sd,se] at c1);refine A2 BA 2 [] O (A6 (⟨O,_,_,⟨_,_,O,O,O⟩,(List.nil_sublist _),?_⟩))
    all_goals exact⟨⟨_,rfl,fun h=>absurd h Aq⟩,rfl⟩
   (try simp only[sd,se] at c1);exact A7 (⟨O,O,(List.Sublist.refl _),Aw,⟨O,O,Aw⟩⟩)
  (try simp only[sd,se] at c);exact A7 (⟨O,O,(List.Sublist.refl _),Aw,⟨O,O,Aw⟩⟩)
 intro _ _;refine A1 (A4 (Ay O (Ax Cv O O) (Ay O (A9 (i:=1) C0 O O (EK _)) (Bt O (BH (A1 (A2 BA 2 [] O (Bi [3,5,33] 34 (fun y=>y= .p (.bool (decide (d.kind=1∨d.kind=2)))) ?_ ?_))))))))
 ·refine A3 O (fun c=>?_) (fun c=>?_)
  ·(try simp only[sd,se] at c);exact A7 (⟨O,O,(List.Sublist.refl _),(by refine pB (Bool.eq_iff_iff.2 ?_);simp only[beq_iff_eq,decide_eq_true_eq];omega),⟨O,O,O,Aw⟩⟩)
  (try simp only[sd,se] at c);exact A8 (Az BA 2 [] O (⟨O,O,(List.Sublist.refl _),(by refine pB (Bool.eq_iff_iff.2 ?_);simp only[beq_iff_eq,decide_eq_true_eq];omega),⟨O,O,O,Aw⟩⟩))
 rintro _ rfl;refine A3 O (fun c=>?_) (fun c=>?_)
 ·(try simp only[sd,se] at c);have hk12:d.kind=1∨d.kind=2:=by simpa using c
  refine A4 (A5 BA 2 [0] O (Ay O (CC (i:=1) Bd O O (FW _) (BL _)) (Ay O (Ax Cv O O) (Ay O (A9 (i:=1) C0 O O (C6 _)) (D1 O O (CP O O (HH (Pu.mk ds [] d) d.value 0 d.params h2.vl h1.env Av h2 Au) (.inl O)) ?_)))));rintro _ ⟨e,rfl,he⟩;refine Az BA 1 [] O (A6 (⟨O,_,_,⟨_,_,O,O,O⟩,(List.nil_sublist _),?_⟩))
  all_goals exact⟨⟨_,rfl,fun h=>⟨fun _=>he h,fun _=>by omega,fun _=>by omega⟩⟩,rfl⟩
 (try simp only[sd,se] at c);have hk12:¬(d.kind=1∨d.kind=2):=by simpa using c
 refine A2 BA 2 [] O (A3 O (fun c1=>?_) (fun c1=>?_))
 ·(try simp only[sd,se] at c1);have hn1:=aI (d:=d) (by simpa using c1);have hk3:=c1;refine A4 (Ay O (Ax Cv O O) (Ay O (A9 (i:=1) Lm O O (Db _)) (Ay O (B0 HA gy O O O O O) (Ay O (Ax M1 O O) (Ay O (EG (i:=0) (ds:=(GM (Pu.mk ds [d.name] d)).map .p) Vt O O O O O O O) (Bt O (A1 (A2 BA 1 [] O (BH (Bo (α:=Nat) (fun i=>⟨161,mk [(3,.ptr b3 0),(5,.ptr b5 0),(7,.p (I (i:Int)))],[.box b5 ((GM (Pu.mk ds [d.name] d)).map .p),.box b3 ((Bw d).map .p)],[]⟩) (fun i=>d.ctors.length - i) (fun i=>i≤d.ctors.length) 0 AQ ?_ ?_))))))))))
  ·exact Bk ⟨we O,we O,we O,Aw⟩ (leH (is:=[0,1]) O (wl (oe O) (wl (oe O) (DN))))
  rintro i hC
  try simp only at hC
  have hi:=hC;refine A1 (A4 (A5 BA 2 [] O (Ay O (A9 (i:=1) Hk O O (CN _)) (Ay O (BZ HY O (List.length_map _)) (Az BA 1 [] O (A3 O (fun c2=>?_) (fun c2=>?_)))))))
  ·(try simp only[sd,se] at c2);refine A7 (A1 (BH (A1 (B7 (fun k=>Nat.beq k 9) D7 (BT (j:=0) O O O (fun H i hi=>BI (i:=i) Tl O hi Ai) AB Aw (A0 O (fun _=>Ax Cv O O) Aw (BT (j:=1) O O O (fun H i hi=>A9 (i:=i) Hk O hi (CN _)) AB Aw (A0 O (fun _=>BB O) Aw ?_))))))));obtain⟨x,hx⟩:=BE (l:=d.ctors) (i:=i) Au;refine A0 O (fun _=>BC HY O O Au (Ek hx) (EN _)) Aw (A0 O (fun _=>Bp I0 O O) Aw (A0 O (fun _=>DX Bd O (FJ _) (BL _)) Aw (A0 O (fun _=>Ax Cv O O) Aw (BT (j:=1) O O O (fun H i hi=>A9 (i:=i) C0 O hi (C6 _)) AB Aw (J3 [] O O (CP O O (HH (Pu.mk ds [d.name] d) x.type 0 d.params (h2.cs _ (List.mem_of_getElem? hx)).ty h1.env Av h2 Au) (.inl O)) Ap (⟨_,1,O,fun h=>absurd h As⟩) AB ?_)))));rintro _ ⟨e,rfl,he⟩;refine⟨Aw,?_⟩;refine A0 O (fun _=>Bb O) Aw (Bv O Ap (A2 BA 2 [] O (A3 O (fun c3=>?_) (fun c3=>?_))))
   ·(try simp only[sd,se] at c3);refine A2 BA 2 [] O (A6 (⟨O,_,_,⟨_,_,O,O,O⟩,(List.nil_sublist _),?_⟩))
    all_goals exact⟨⟨_,rfl,fun h=>absurd h Aq⟩,rfl⟩
   (try simp only[sd,se] at c3);refine A7 (A8 (Az BA 3 [] O ?_));refine⟨(i+1),AU,by omega,Bk ⟨we rfl,we rfl,we rfl,trivial⟩ (leH (is:=[0,1]) rfl (wl (oe rfl) (wl (oe rfl) (DN))))⟩
  (try simp only[sd,se] at c2);refine Br (A4 (Ay O (BI (i:=1) EJ O O Aj) (Ay O (BN O O (Mp d h2.cl h2.fl h2.nm) O) (Az BA 1 [] O (A4 (A5 BA 2 [] O (Ay O (BZ HA O (List.length_map _)) (Ay O (IP O O Au Au) (Ay O (Cp (lo:=0) (hi:=((((DL d).length:Nat):Int) - (1:Int):Int).toNat) HA O (CT (KX _)) O ⟨_,pI Au⟩ (Nat.zero_le _) AR (Xf (f:=Gt) (DL d) (((((DL d).length:Nat):Int) - (1:Int):Int).toNat))) (Ay O (Ax M1 O O) (Ay O (EG (i:=0) (ds:=(GM (Pu.mk ds ((DL d).take (((((DL d).length:Nat):Int) - (1:Int):Int).toNat)) d)).map .p) Vt O O O O O O O) (Bt O (A1 (A4 (A5 BA 3 [0] O (Ay O (CC (i:=1) Bd O O (FM _) (BL _)) (A5 BA 2 [] O ?_)))))))))))))))));refine Ay O (A9 (i:=1) C0 O O (Dv _)) (D1 O O (CP O O (HH (Pu.mk ds ((DL d).take (((((DL d).length:Nat):Int) - (1:Int):Int).toNat)) d) d.recs.type 0 d.recs.params h2.rt h1.env Ao h2 Au) (.inl O)) ?_);rintro _ ⟨e,rfl,he⟩;refine Az BA 1 [] O (A2 BA 2 [] O (A3 O (fun c3=>?_) (fun c3=>?_)))
  ·(try simp only[sd,se] at c3);refine A2 BA 2 [] O (A6 (⟨O,_,_,⟨_,_,O,O,O⟩,(List.nil_sublist _),?_⟩))
   all_goals exact⟨⟨_,rfl,fun h=>absurd h Aq⟩,rfl⟩
  (try simp only[sd,se] at c3);refine A7 (A4 (A5 BA 2 [] O (Ay O (EG (i:=0) (ds:=(GM (Pu.mk ds (DL d) d)).map .p) Vt O O O O O O O) (Bt O (A2 BA 1 [] O (BH ?_))))));refine Bo (α:=Nat) (fun i=>⟨161,mk [(3,.ptr b3 0),(5,.ptr b5 0),(11,.p (I (i:Int)))],[.box b5 ((GM (Pu.mk ds (DL d) d)).map .p),.box b3 ((Bw d).map .p)],[]⟩) (fun i=>d.recs.rules.length - i) (fun i=>i≤d.recs.rules.length∧(∀j,j<i→∀x,d.recs.rules[j]?=some x→okB x=true)) 0 (⟨by omega,fun j h=>by omega⟩) ?_ ?_
  ·exact Bk ⟨we O,we O,we O,Aw⟩ (leH (is:=[0,1]) O (wl (oe O) (wl (oe O) (DN))))
  rintro i hC1
  try simp only at hC1
  obtain⟨hi,hR⟩:=hC1;refine A1 (A4 (A5 BA 3 [] O (Ay O (A9 (i:=1) E9 O O (C2 _)) (Ay O (BZ Bq O (Bh _)) (Az BA 1 [] O (A3 O (fun c4=>?_) (fun c4=>?_)))))))
  ·(try simp only[sd,se] at c4);refine A7 (A1 (BH (A1 (B7 (fun k=>Nat.beq k 10) D7 (BT (j:=0) O O O (fun H i hi=>BI (i:=i) Tl O hi Ai) AB Aw (A0 O (fun _=>Ax Cv O O) Aw (A0 O (fun _=>Ax iw O O) Aw (BT (j:=1) O O O (fun H i hi=>A9 (i:=i) E9 O hi (C2 _)) AB Aw (A0 O (fun _=>BB O) Aw ?_)))))))));obtain⟨x,hx⟩:=BE (l:=d.recs.rules) (i:=i) Au;refine A0 O (fun _=>BC Bq O O Au (Bn hx) (BL _)) Aw (A0 O (fun _=>BQ Bd O (BL _)) Aw (A0 O (fun _=>Ax Cv O O) Aw (A0 O (fun _=>Ax iw O O) Aw (BT (j:=1) O O O (fun H i hi=>A9 (i:=i) C0 O hi (Dv _)) AB Aw (J3 [] O O (CP O O (HH (Pu.mk ds (DL d) d) x 0 d.recs.params (h2.rs _ (List.mem_of_getElem? hx)) h1.env Ag h2 Au) (.inl O)) Ap (⟨_,1,O,fun h=>absurd h As⟩) AB ?_)))));rintro _ ⟨e1,rfl,he1⟩;refine⟨Aw,?_⟩;refine A0 O (fun _=>Bb O) Aw (Bv O Ap (A2 BA 2 [] O (A3 O (fun c5=>?_) (fun c5=>?_))))
   ·(try simp only[sd,se] at c5);refine A2 BA 2 [] O (A6 (⟨O,_,_,⟨_,_,O,O,O⟩,(List.nil_sublist _),?_⟩))
    all_goals exact⟨⟨_,rfl,fun h=>absurd h Aq⟩,rfl⟩
   (try simp only[sd,se] at c5);refine A7 (A8 (Az BA 3 [] O (⟨(i+1),AU,⟨by omega,DD (p:=fun _ (y:Tm)=>okB y=true) hR hx (he1 Au)⟩,Bk ⟨we rfl,we rfl,we rfl,trivial⟩ (leH (is:=[0,1]) rfl (wl (oe rfl) (wl (oe rfl) (DN))))⟩)))
  (try simp only[sd,se] at c4);refine Br (A2 BA 1 [] O (A6 (⟨O,_,_,⟨_,_,O,O,O⟩,(List.nil_sublist _),?_⟩)))
  all_goals exact⟨⟨_,rfl,fun _=>⟨fun _=>by omega,fun _=>IM Au hR,fun _=>by omega⟩⟩,rfl⟩
 (try simp only[sd,se] at c1);have hk3:=c1;refine A2 BA 2 [] O (A3 O (fun c2=>?_) (fun c2=>?_))
 ·(try simp only[sd,se] at c2);refine A1 (A2 BA 1 [] O (BH (Bo (α:=Nat) (fun i=>⟨161,mk [(3,.ptr b3 0),(5,.ptr b5 0),(13,.p (I (i:Int)))],[.box b5 ((GM (Pu.mk ds [] d)).map .p),.box b3 ((Bw d).map .p)],[]⟩) (fun i=>d.funs.length - i) (fun i=>i≤d.funs.length) 0 AQ ?_ ?_)))
  ·exact Bk ⟨we O,we O,we O,Aw⟩ (leH (is:=[0,1]) O (wl (oe O) (wl (oe O) (DN))))
  rintro i hC
  try simp only at hC
  have hi:=hC;refine A1 (A4 (A5 BA 2 [] O (Ay O (A9 (i:=1) Hn O O (CV _)) (Ay O (BZ HW O (List.length_map _)) (Az BA 1 [] O (A3 O (fun c3=>?_) (fun c3=>?_)))))))
  ·(try simp only[sd,se] at c3);refine A7 (A1 (BH (A1 (B7 (fun k=>Nat.beq k 9) D7 (BT (j:=0) O O O (fun H i hi=>BI (i:=i) Tl O hi Ai) AB Aw (A0 O (fun _=>Ax Cv O O) Aw (BT (j:=1) O O O (fun H i hi=>A9 (i:=i) Hn O hi (CV _)) AB Aw (A0 O (fun _=>BB O) Aw ?_))))))));obtain⟨x,hx⟩:=BE (l:=d.funs) (i:=i) Au;refine A0 O (fun _=>BC HW O O Au (Es hx) (Dd _)) Aw (A0 O (fun _=>Bp Gu O O) Aw (A0 O (fun _=>DX Bd O (I4 _) (BL _)) Aw (A0 O (fun _=>Ax Cv O O) Aw (BT (j:=1) O O O (fun H i hi=>A9 (i:=i) C0 O hi (C6 _)) AB Aw (J3 [] O O (CP O O (HH (Pu.mk ds [] d) x.type 0 d.params (h2.fs _ (List.mem_of_getElem? hx)).ty h1.env Av h2 Au) (.inl O)) Ap (⟨_,1,O,fun h=>absurd h As⟩) AB ?_)))));rintro _ ⟨e,rfl,he⟩;refine⟨Aw,?_⟩;refine A0 O (fun _=>Bb O) Aw (Bv O Ap (A2 BA 2 [] O (A3 O (fun c4=>?_) (fun c4=>?_))))
   ·(try simp only[sd,se] at c4);refine A2 BA 2 [] O (A6 (⟨O,_,_,⟨_,_,O,O,O⟩,(List.nil_sublist _),?_⟩))
    all_goals exact⟨⟨_,rfl,fun h=>absurd h Aq⟩,rfl⟩
   (try simp only[sd,se] at c4);refine A7 (A8 (Az BA 3 [] O ?_));refine⟨(i+1),AU,by omega,Bk ⟨we rfl,we rfl,we rfl,trivial⟩ (leH (is:=[0,1]) rfl (wl (oe rfl) (wl (oe rfl) (DN))))⟩
  (try simp only[sd,se] at c3);refine Br (A4 (Ay O (BI (i:=1) EJ O O Aj) (Ay O (BN O O (Mp d h2.cl h2.fl h2.nm) O) (Ay O (Ax M1 O O) (Ay O (EG (i:=0) (ds:=(GM (Pu.mk ds (DL d) d)).map .p) Vt O O O O O O O) (Bt O (A2 BA 1 [] O (BH ?_))))))));refine Bo (α:=Nat) (fun i=>⟨161,mk [(3,.ptr b3 0),(5,.ptr b5 0),(15,.p (I (i:Int)))],[.box b5 ((GM (Pu.mk ds (DL d) d)).map .p),.box b3 ((Bw d).map .p)],[]⟩) (fun i=>d.funs.length - i) (fun i=>i≤d.funs.length∧(∀j,j<i→∀x,d.funs[j]?=some x→GA x.tree)) 0 (⟨by omega,fun j h=>by omega⟩) ?_ ?_
  ·exact Bk ⟨we O,we O,we O,Aw⟩ (leH (is:=[0,1]) O (wl (oe O) (wl (oe O) (DN))))
  rintro i hC1
  try simp only at hC1
  obtain⟨hi,hT⟩:=hC1;refine A1 (A4 (A5 BA 2 [] O (Ay O (A9 (i:=1) Hn O O (CV _)) (Ay O (BZ HW O (List.length_map _)) (Az BA 1 [] O (A3 O (fun c4=>?_) (fun c4=>?_)))))))
  ·(try simp only[sd,se] at c4);refine A7 (A1 (BH (A1 (B7 (fun k=>Nat.beq k 13) D7 (BT (j:=0) O O O (fun H i hi=>BI (i:=i) Tl O hi Ai) AB Aw (A0 O (fun _=>Ax Cv O O) Aw (BT (j:=1) O O O (fun H i hi=>A9 (i:=i) Hn O hi (CV _)) AB Aw (A0 O (fun _=>BB O) Aw ?_))))))));obtain⟨x,hx⟩:=BE (l:=d.funs) (i:=i) Au;refine A0 O (fun _=>BC HW O O Au (Es hx) (Dd _)) Aw (A0 O (fun _=>Bp Gu O O) Aw (A0 O (fun _=>DX HM O (EI _) (C7 _)) Aw (A0 O (fun _=>Ax Cv O O) Aw (BT (j:=1) O O O (fun H i hi=>A9 (i:=i) Hn O hi (CV _)) AB Aw (A0 O (fun _=>BB O) Aw (A0 O (fun _=>BC HW O O Au (Es hx) (Dd _)) Aw (A0 O (fun _=>Bp Gu O O) Aw (A0 O (fun _=>DP C0 O (Ch _)) Aw ?_))))))));have hax:=h3.2.1 _ (List.mem_of_getElem? hx);refine J3 [] O O (CP O O (Xn (Li x.tree) (Pu.mk ds (DL d) d) x.tree x.arity 0 (Nat.le_refl _) (h2.fs _ (List.mem_of_getElem? hx)).tr h1 Ag h2 Au Au) (.inl O)) Ap (⟨_,1,O,fun h=>absurd h As⟩) AB ?_;rintro _ ⟨e,rfl,he⟩;refine⟨Aw,?_⟩;refine A0 O (fun _=>Bb O) Aw (Bv O Ap (A2 BA 2 [] O (A3 O (fun c5=>?_) (fun c5=>?_))))
   ·(try simp only[sd,se] at c5);refine A2 BA 2 [] O (A6 (⟨O,_,_,⟨_,_,O,O,O⟩,(List.nil_sublist _),?_⟩))
    all_goals exact⟨⟨_,rfl,fun h=>absurd h Aq⟩,rfl⟩
   (try simp only[sd,se] at c5);refine A7 (A8 (Az BA 3 [] O (⟨(i+1),AU,⟨by omega,DD (p:=fun _ (y:Hj)=>GA y.tree) hT hx (he Au)⟩,Bk ⟨we rfl,we rfl,we rfl,trivial⟩ (leH (is:=[0,1]) rfl (wl (oe rfl) (wl (oe rfl) (DN))))⟩)))
  (try simp only[sd,se] at c4);refine Br (A2 BA 1 [] O (A6 (⟨O,_,_,⟨_,_,O,O,O⟩,(List.nil_sublist _),?_⟩)))
  all_goals exact⟨⟨_,rfl,fun _=>⟨fun _=>by omega,fun _=>by omega,fun _=>IM Au hT⟩⟩,rfl⟩
 (try simp only[sd,se] at c2);refine A7 (A2 BA 1 [] O (A6 (⟨O,_,_,⟨_,_,O,O,O⟩,(List.nil_sublist _),?_⟩)))
 all_goals exact⟨⟨_,rfl,fun _=>⟨fun _=>by omega,fun _=>by omega,fun _=>by omega⟩⟩,rfl⟩
theorem eO:∀(ds:List Cc) (d:Cc),(J7 ds)→(Nn d)→GL Tryz.prog 102 [.p (.lst (List.map Bw ds)),.agg ((Bw d).map .p)] (fun v=>∃ee:Int,v= .p (I ee)∧(ee=0→DG d)):=by
 intro ds d h1 h2;refine BD Tryz.func102 O oB (n:=32) O O (A4 (BP O (Bf O) fun b3=>Az BA 1 [] O (A1 (A1 (Bi [0,3] 14 (fun y=>y= .p (.bool ((decide ((d.kind:Int)<(0:Int)))||(decide ((d.kind:Int) > (4:Int)))))) ?_ ?_)))))
 ·refine A8 (Ay O (Ax Cv O O) (Ay O (A9 (i:=0) C0 O O (EK _)) (A5 BA 2 [] O (Ba 10 O (fun g=>?_) (fun g=>?_)))))
  ·(try simp only[sd,se] at g);exact Az BA 4 [] O (⟨O,O,AM,AJ,⟨O,O,Aw⟩⟩)
  (try simp only[sd,se] at g);exact BM O (Ax Cv O O) (BM O (A9 (i:=0) C0 O O (EK _)) (Az BA 2 [] O (⟨O,O,AM,AJ,⟨O,O,Aw⟩⟩)))
 rintro _ rfl;refine A3 O (fun c=>?_) (fun c=>?_)
 ·(try simp only[sd,se] at c);refine A2 BA 1 [] O (A6 (⟨O,_,_,⟨_,_,O,O,O⟩,(List.nil_sublist _),?_⟩))
  all_goals exact⟨⟨_,rfl,fun h=>absurd h As⟩,rfl⟩
 (try simp only[sd,se] at c);have hk:0≤d.kind∧d.kind≤4:=by omega
 refine A7 (A1 (A4 (Ay O (BI (i:=0) EJ O O Aj) (D1 O O (CP O O (X3 d h2 hk) (.inl O)) ?_))));rintro _ ⟨q,rfl,hq⟩;refine Az BA 1 [] O (A3 O (fun c1=>?_) (fun c1=>?_))
 ·(try simp only[sd,se] at c1);refine A2 BA 1 [] O (A6 (⟨O,_,_,⟨_,_,O,O,O⟩,(List.nil_sublist _),?_⟩))
  all_goals exact⟨⟨_,rfl,fun h=>absurd h As⟩,rfl⟩
 (try simp only[sd,se] at c1);have hu:=hq (by simpa using c1);refine A7 (A1 (A4 (Ay O (BI (i:=0) EJ O O Aj) (D1 O O (CP O O (Xz d h2) (.inl O)) ?_))));rintro _ ⟨e,rfl,he⟩;refine Az BA 1 [] O (A2 BA 2 [] O (A3 O (fun c2=>?_) (fun c2=>?_)))
 ·(try simp only[sd,se] at c2);refine A2 BA 2 [] O (A6 (⟨O,_,_,⟨_,_,O,O,O⟩,(List.nil_sublist _),?_⟩))
  all_goals exact⟨⟨_,rfl,fun h=>absurd h Aq⟩,rfl⟩
 (try simp only[sd,se] at c2);have hcn:=he Au;refine A7 (A1 (A4 (A5 BA 2 [0] O (D1 O O (CP O O (Sh ds d h1.env h2) (.inl O)) ?_))));rintro _ ⟨e1,rfl⟩;refine Az BA 1 [] O (A2 BA 2 [] O (A3 O (fun c3=>?_) (fun c3=>?_)))
 ·(try simp only[sd,se] at c3);refine A2 BA 2 [] O (A6 (⟨O,_,_,⟨_,_,O,O,O⟩,(List.nil_sublist _),?_⟩))
  all_goals exact⟨⟨_,rfl,fun h=>absurd h Aq⟩,rfl⟩
 (try simp only[sd,se] at c3);refine A7 (A4 (A5 BA 2 [0] O (D1 O O (CP O O (ad ds d h1 h2 hcn) (.inl O)) ?_)));rintro _ ⟨e2,rfl,he1⟩;refine Az BA 1 [] O (A6 (⟨O,_,_,⟨_,_,O,O,O⟩,(List.nil_sublist _),?_⟩))
 all_goals exact⟨⟨_,rfl,fun h=>mZ h2 hk hu hcn (he1 h)⟩,rfl⟩
theorem Xr:∀(ds:List Cc),(Hd ds)→GL Tryz.prog 66 [.p (.lst (List.map Bw ds))] (fun v=>∃a e:Int,v= .tup [.p (I a),.p (I e)]∧(e=0→J7 ds)):=by
 intro ds h1;have hl:=h1.len;refine BD Tryz.func66 O qT (n:=27) O O (A2 BA 2 [] O (A1 (A4 (B6 O (Ay O (BZ Hv O (List.length_map _)) (Az BA 1 [] O (A3 O (fun c=>?_) (fun c=>?_))))))))
 ·(try simp only[sd,se] at c);refine A2 BA 2 [] O (A6 (⟨O,_,_,⟨_,_,O,O,⟨_,_,O,O,O⟩⟩,(List.nil_sublist _),?_⟩))
  all_goals exact⟨⟨_,_,rfl,fun h=>absurd h As⟩,rfl⟩
 (try simp only[sd,se] at c);refine A7 (A1 (A2 BA 1 [] O (BH ?_)));refine Bo (α:=Nat) (fun i=>⟨27,mk [(0,.p (.lst (List.map Bw ds))),(4,.p (I (i:Int)))],[],[]⟩) (fun i=>ds.length - i) (fun i=>i≤ds.length∧(∀j,j<i→∀x,ds[j]?=some x→DG x)) 0 (⟨by omega,fun j h=>by omega⟩) ?_ ?_
 ·exact Bk ⟨we O,we O,Aw⟩ (leH (is:=[]) O (DN))
 rintro i hC
 try simp only at hC
 obtain⟨hi,hC⟩:=hC;refine A1 (A4 (A5 BA 2 [] O (Ay O (BZ Hv O (List.length_map _)) (Az BA 1 [] O (A3 O (fun c1=>?_) (fun c1=>?_))))))
 ·(try simp only[sd,se] at c1);refine A7 (A1 (BH (A1 (B7 (fun k=>Nat.beq k 7) D7 (A0 O (fun _=>BB O) Aw (A0 O (fun _=>BB O) Aw (A0 O (fun _=>Cp (lo:=0) (hi:=i) Hv O (CT (aE _)) O ⟨_,O⟩ (Nat.zero_le _) AR (Xf (f:=Bw) ds i)) Aw (A0 O (fun _=>BB O) Aw (A0 O (fun _=>BB O) Aw ?_)))))))));obtain⟨x,hx⟩:=BE (l:=ds) (i:=i) Au;refine A0 O (fun _=>BC Hv O O Au (EX hx) (Cw _)) Aw (A0 O (fun _=>BQ EJ O (Cw _)) Aw (J3 [] O O (CP O O (eO (ds.take i) x (Zg h1 hC) (h1.all _ (List.mem_of_getElem? hx))) (.inl O)) Ap (⟨_,1,O,fun h=>absurd h As⟩) AB ?_));rintro _ ⟨e,rfl,he⟩;refine⟨Aw,?_⟩;refine A0 O (fun _=>Bb O) Aw (Bv O Ap (A2 BA 2 [] O (A3 O (fun c2=>?_) (fun c2=>?_))))
  ·(try simp only[sd,se] at c2);refine A2 BA 4 [] O (A6 (⟨O,_,_,⟨_,_,O,O,⟨_,_,O,O,O⟩⟩,(List.nil_sublist _),?_⟩))
   all_goals exact⟨⟨_,_,rfl,fun h=>absurd h Aq⟩,rfl⟩
  (try simp only[sd,se] at c2);refine A7 (A8 (Az BA 3 [] O (⟨(i+1),AU,⟨by omega,DD (p:=fun _ (y:Cc)=>DG y) hC hx (he Au)⟩,Bk ⟨we rfl,we rfl,trivial⟩ (leH (is:=[]) rfl (DN))⟩)))
 (try simp only[sd,se] at c1);refine Br (A2 BA 2 [] O (A6 (⟨O,_,_,⟨_,_,O,O,⟨_,_,O,O,O⟩⟩,(List.nil_sublist _),?_⟩)))
 all_goals exact⟨⟨_,_,rfl,fun _=>⟨h1,IM Au hC⟩⟩,rfl⟩
theorem IH:∀(t:Tm),(UA t)→Et Tryz.prog 131 [.agg ((Bg t).map .p)] (.p (.bool (decide (FC t≤400)&&decide (FE t≤150)))):=by
 intro t h1;refine BD Tryz.func131 O nW (n:=11) O O (A4 (BP O (Bf O) fun b1=>Az BA 1 [] O (A1 (Bi [] 2 (fun y=>y= .p (.bool ((decide ((FC t:Int)≤(400:Int)))&&(decide ((FE t:Int)≤(150:Int)))))) ?_ ?_))))
 ·refine A8 (Ay O (BI (i:=0) Bd O O Am) (Ay O (BN O O (Mn _ t (Nat.le_refl _) h1.nd) O) (A5 BA 2 [] O (Ba 6 O (fun g=>?_) (fun g=>?_)))))
  ·(try simp only[sd,se] at g);exact BM O (BI (i:=0) Bd O O Am) (BM O (BN O O (Nz _ t (Nat.le_refl _) h1.nd) O) (Az BA 3 [] O ⟨O,O,AM,AJ,Aw⟩))
  (try simp only[sd,se] at g);exact Az BA 5 [] O ⟨O,O,AM,AJ,Aw⟩
 rintro _ rfl;refine A6 (⟨O,_,_,⟨_,_,O,O,O⟩,(List.nil_sublist _),?_⟩)
 all_goals exact⟨rfl,rfl⟩
theorem SZ:∀(n:Nat) (t:Fl) (dp:Int),(Li t≤n)→(Hr t)→(-1000<dp∧dp<1000)→GL Tryz.prog 132 [.agg ((DF t).map .p),.p (I dp)] (fun v=>∃bb:Bool,v= .p (.bool bb)∧(bb=true→(EM t:Int)≤42 - dp)):=by
 intro n
 induction n with
 | zero=>intro t dp h;have:=PM t;omega
 | succ n ih =>
  intro t dp h1 h2 h3;have htl:=h2.bl;refine BD Tryz.func132 O mC (n:=47) O O (A4 (BP O (Bf O) fun b2=>Az BA 1 [] O (A1 (A1 (Bi [1,2] 19 (fun y=>∃q:Bool,y= .p (.bool q)∧(q=false→dp≤40)) ?_ ?_)))))
  ·refine A8 (A5 BA 3 [] O (Ba 8 O (fun g=>?_) (fun g=>?_)))
   ·(try simp only[sd,se] at g);exact Az BA 11 [] O (⟨O,O,AM,(by refine⟨_,rfl,fun h=>?_⟩;first | (exact absurd h As) | omega),⟨O,O,Aw⟩⟩)
   (try simp only[sd,se] at g);refine BM O (Ax Fc O O) (BM O (A9 (i:=0) KP O O (CU _)) (BM O (BZ Jf O (GG _)) (A5 BA 3 [] O (Ba 14 O (fun g1=>?_) (fun g1=>?_)))))
   ·(try simp only[sd,se] at g1);exact Az BA 5 [] O (⟨O,O,AM,(by refine⟨_,rfl,fun h=>?_⟩;first | (exact absurd h As) | omega),⟨O,O,Aw⟩⟩)
   (try simp only[sd,se] at g1);exact BM O (Ax Fc O O) (BM O (CC (i:=0) Bd O O (FL _) (BL _)) (BM O (BN O O (IH t.body h2.body) O) (Az BA 2 [] O (⟨O,O,AM,(by refine⟨_,rfl,fun h=>?_⟩;first | (exact absurd h As) | omega),⟨O,O,Aw⟩⟩))))
  rintro _ ⟨q,rfl,hq⟩;refine A3 O (fun c=>?_) (fun c=>?_)
  ·(try simp only[sd,se] at c);refine A2 BA 1 [] O (A6 (⟨O,_,_,⟨_,_,O,O,O⟩,(List.nil_sublist _),?_⟩))
   all_goals exact⟨⟨_,rfl,fun h=>absurd h As⟩,rfl⟩
  (try simp only[sd,se] at c);have hq1:=hq (by simpa using c);refine A7 (A1 (A2 BA 1 [] O (BH ?_)));refine Bo (α:=Nat) (fun i=>⟨47,mk [(1,.p (I dp)),(2,.ptr b2 0),(5,.p (I (i:Int)))],[.box b2 ((DF t).map .p)],[]⟩) (fun i=>t.branches.length - i) (fun i=>i≤t.branches.length∧(∀j,j<i→∀x,t.branches[j]?=some x→(EM x.tree:Int)≤42 - (dp+1))) 0 (⟨by omega,fun j h=>by omega⟩) ?_ ?_
  ·exact Bk ⟨we O,we O,we O,Aw⟩ (leH (is:=[0]) O (wl (oe O) (DN)))
  rintro i hC
  try simp only at hC
  obtain⟨hi,hC⟩:=hC;refine A1 (A4 (A5 BA 2 [] O (Ay O (A9 (i:=0) KP O O (CU _)) (Ay O (BZ Jf O (GG _)) (Az BA 1 [] O (A3 O (fun c1=>?_) (fun c1=>?_)))))))
  ·(try simp only[sd,se] at c1);obtain⟨x,hx⟩:=BE (l:=t.branches) (i:=i) Au;refine A7 (A1 (BH (A1 (Bi [1,2,5] 46 (fun y=>∃q:Bool,y= .p (.bool q)∧(q=false→(EM x.tree:Int)≤42 - (dp+1))) ?_ ?_))))
   ·refine A8 (Ay O (Ax Fc O O) (Ay O (A9 (i:=0) KP O O (CU _)) (B6 O (Ay O (BC Jf O O Au (Fk hx) (Dg _)) (Ay O (Bp Hq O O) (Ay O (DX HM O (Fz _) (C7 _)) (A5 BA 2 [] O (D1 O O (CP O O (ih x.tree ((dp:Int)+(1:Int)) (by have:=R0 hx;omega) (JN h2.bs hx).tr Au) (.inl O)) ?_))))))));rintro _ ⟨q1,rfl,hq⟩;refine A5 BA 2 [] O (Ba 37 O (fun g=>?_) (fun g=>?_))
    ·(try simp only[sd,se] at g);exact Az BA 9 [] O (⟨O,O,AM,(by refine⟨_,rfl,fun h=>?_⟩;first | (exact absurd h As) | exact hq (by simpa using g)),⟨O,O,O,Aw⟩⟩)
    (try simp only[sd,se] at g);exact BM O (Ax Fc O O) (BM O (A9 (i:=0) KP O O (CU _)) (BM O (BB O) (BM O (BC Jf O O Au (Fk hx) (Dg _)) (BM O (Bp Hq O O) (BM O (DP Lm O (Gk _)) (BM O (Ge j9 O) (Az BA 2 [] O (⟨O,O,AM,(by refine⟨_,rfl,fun h=>?_⟩;first | (exact absurd h As) | exact hq (by simpa using g)),⟨O,O,O,Aw⟩⟩))))))))
   rintro _ ⟨q,rfl,hqx⟩;refine A3 O (fun c2=>?_) (fun c2=>?_)
   ·(try simp only[sd,se] at c2);refine A2 BA 1 [] O (A6 (⟨O,_,_,⟨_,_,O,O,O⟩,(List.nil_sublist _),?_⟩))
    all_goals exact⟨⟨_,rfl,fun h=>absurd h As⟩,rfl⟩
   (try simp only[sd,se] at c2);have hok:=hqx (by simpa using c2);refine A7 (A8 (Az BA 3 [] O (⟨(i+1),AU,⟨by omega,DD (p:=fun _ (y:GP)=>(EM y.tree:Int)≤42 - (dp+1)) hC hx hok⟩,Bk ⟨we rfl,we rfl,we rfl,trivial⟩ (leH (is:=[0]) rfl (wl (oe rfl) (DN)))⟩)))
  (try simp only[sd,se] at c1);refine Br (A2 BA 1 [] O (A6 (⟨O,_,_,⟨_,_,O,O,O⟩,(List.nil_sublist _),?_⟩)))
  all_goals exact⟨⟨_,rfl,fun _=>jC hq1 (IM Au hC)⟩,rfl⟩
theorem We:∀(d:Cc),(Nn d)→GL Tryz.prog 101 [.agg ((Bw d).map .p)] (fun v=>∃bb:Bool,v= .p (.bool bb)∧(bb=true→TN d)):=by
 intro d h1;have hcl:=h1.cl;have hfl:=h1.fl;have hrl:=h1.rl;refine BD Tryz.func101 O nD (n:=124) O O (A4 (BP O (Bf O) fun b1=>Az BA 1 [] O (A1 (A1 (Bi [1] 47 (fun y=>∃q:Bool,y= .p (.bool q)∧(q=false→FC d.value≤400)) ?_ ?_)))))
 ·refine A8 (Ay O (Ax Cv O O) (Ay O (A9 (i:=0) Lm O O (Db _)) (Ay O (Ge j9 O) (A5 BA 2 [] O (Ba 10 O (fun g=>?_) (fun g=>?_))))))
  ·(try simp only[sd,se] at g);exact Az BA 37 [] O (⟨O,O,AM,(by refine⟨_,rfl,fun h=>?_⟩;first | (exact absurd h As) | (simp_all;done) | (simp_all;omega)),⟨O,Aw⟩⟩)
  (try simp only[sd,se] at g);refine BM O (Ax Cv O O) (BM O (CC (i:=0) Bd O O (FO _) (BL _)) (BM O (BN O O (IH d.type h1.ty) O) (A5 BA 3 [] O (Ba 16 O (fun g1=>?_) (fun g1=>?_)))))
  ·(try simp only[sd,se] at g1);exact Az BA 31 [] O (⟨O,O,AM,(by refine⟨_,rfl,fun h=>?_⟩;first | (exact absurd h As) | (simp_all;done) | (simp_all;omega)),⟨O,Aw⟩⟩)
  (try simp only[sd,se] at g1);refine BM O (Ax Cv O O) (BM O (CC (i:=0) Bd O O (FW _) (BL _)) (BM O (BN O O (IH d.value h1.vl) O) (A5 BA 3 [] O (Ba 22 O (fun g2=>?_) (fun g2=>?_)))))
  ·(try simp only[sd,se] at g2);exact Az BA 25 [] O (⟨O,O,AM,(by refine⟨_,rfl,fun h=>?_⟩;first | (exact absurd h As) | (simp_all;done) | (simp_all;omega)),⟨O,Aw⟩⟩)
  (try simp only[sd,se] at g2);refine BM O (Ax Cv O O) (BM O (A9 (i:=0) Hk O O (CN _)) (BM O (BZ HY O (List.length_map _)) (A5 BA 3 [] O (Ba 28 O (fun g3=>?_) (fun g3=>?_)))))
  ·(try simp only[sd,se] at g3);exact Az BA 19 [] O (⟨O,O,AM,(by refine⟨_,rfl,fun h=>?_⟩;first | (exact absurd h As) | (simp_all;done) | (simp_all;omega)),⟨O,Aw⟩⟩)
  (try simp only[sd,se] at g3);refine BM O (Ax Cv O O) (BM O (A9 (i:=0) Hn O O (CV _)) (BM O (BZ HW O (List.length_map _)) (A5 BA 3 [] O (Ba 34 O (fun g4=>?_) (fun g4=>?_)))))
  ·(try simp only[sd,se] at g4);exact Az BA 13 [] O (⟨O,O,AM,(by refine⟨_,rfl,fun h=>?_⟩;first | (exact absurd h As) | (simp_all;done) | (simp_all;omega)),⟨O,Aw⟩⟩)
  (try simp only[sd,se] at g4);refine A5 BA 2 [] O (BM O (CC (i:=0) Bd O O (FM _) (BL _)) (BM O (BN O O (IH d.recs.type h1.rt) O) (A5 BA 3 [] O (Ba 41 O (fun g5=>?_) (fun g5=>?_)))))
  ·(try simp only[sd,se] at g5);exact Az BA 6 [] O (⟨O,O,AM,(by refine⟨_,rfl,fun h=>?_⟩;first | (exact absurd h As) | (simp_all;done) | (simp_all;omega)),⟨O,Aw⟩⟩)
  (try simp only[sd,se] at g5);exact A5 BA 2 [] O (BM O (A9 (i:=0) E9 O O (C2 _)) (BM O (BZ Bq O (Bh _)) (Az BA 2 [] O (⟨O,O,AM,(by refine⟨_,rfl,fun h=>?_⟩;first | (exact absurd h As) | (simp_all;done) | (simp_all;omega)),⟨O,Aw⟩⟩))))
 rintro _ ⟨q,rfl,hq⟩;refine A3 O (fun c=>?_) (fun c=>?_)
 ·(try simp only[sd,se] at c);refine A2 BA 1 [] O (A6 (⟨O,_,_,⟨_,_,O,O,O⟩,(List.nil_sublist _),?_⟩))
  all_goals exact⟨⟨_,rfl,fun h=>absurd h As⟩,rfl⟩
 (try simp only[sd,se] at c);have hq1:=hq (by simpa using c);refine A7 (A1 (A2 BA 1 [] O (BH (Bo (α:=Nat) (fun i=>⟨124,mk [(1,.ptr b1 0),(3,.p (I (i:Int)))],[.box b1 ((Bw d).map .p)],[]⟩) (fun i=>d.ctors.length - i) (fun i=>i≤d.ctors.length) 0 AQ ?_ ?_))))
 ·exact Bk ⟨we O,we O,Aw⟩ (leH (is:=[0]) O (wl (oe O) (DN)))
 rintro i hC
 try simp only at hC
 have hi:=hC;refine A1 (A4 (A5 BA 2 [] O (Ay O (A9 (i:=0) Hk O O (CN _)) (Ay O (BZ HY O (List.length_map _)) (Az BA 1 [] O (A3 O (fun c1=>?_) (fun c1=>?_)))))))
 ·(try simp only[sd,se] at c1);refine A7 (A1 (BH (A1 (Bi [1,3] 72 Gq ?_ ?_))))
  ·refine A8 (Ay O (Ax Cv O O) (Ay O (A9 (i:=0) Hk O O (CN _)) (B6 O ?_)));obtain⟨x,hx⟩:=BE (l:=d.ctors) (i:=i) Au;refine Ay O (BC HY O O Au (Ek hx) (EN _)) (Ay O (Bp I0 O O) (Ay O (DP Lm O (Fx _)) (Ay O (Ge j9 O) (A5 BA 2 [] O (Ba 63 O (fun g=>?_) (fun g=>?_))))))
   ·(try simp only[sd,se] at g);exact Az BA 9 [] O (⟨O,O,AM,⟨_,O⟩,⟨O,O,Aw⟩⟩)
   (try simp only[sd,se] at g);exact BM O (Ax Cv O O) (BM O (A9 (i:=0) Hk O O (CN _)) (BM O (BB O) (BM O (BC HY O O Au (Ek hx) (EN _)) (BM O (Bp I0 O O) (BM O (DX Bd O (FJ _) (BL _)) (BM O (BN O O (IH x.type (h1.cs _ (List.mem_of_getElem? hx)).ty) O) (Az BA 2 [] O (⟨O,O,AM,⟨_,O⟩,⟨O,O,Aw⟩⟩))))))))
  rintro _ ⟨q1,rfl⟩;refine A3 O (fun c2=>?_) (fun c2=>?_)
  ·(try simp only[sd,se] at c2);refine A2 BA 1 [] O (A6 (⟨O,_,_,⟨_,_,O,O,O⟩,(List.nil_sublist _),?_⟩))
   all_goals exact⟨⟨_,rfl,fun h=>absurd h As⟩,rfl⟩
  (try simp only[sd,se] at c2);refine A7 (A8 (Az BA 3 [] O ?_));refine⟨(i+1),AU,by omega,Bk ⟨we rfl,we rfl,trivial⟩ (leH (is:=[0]) rfl (wl (oe rfl) (DN)))⟩
 (try simp only[sd,se] at c1);refine Br (A1 (A2 BA 1 [] O (BH ?_)));refine Bo (α:=Nat) (fun i=>⟨124,mk [(1,.ptr b1 0),(4,.p (I (i:Int)))],[.box b1 ((Bw d).map .p)],[]⟩) (fun i=>d.recs.rules.length - i) (fun i=>i≤d.recs.rules.length∧(∀j,j<i→∀x,d.recs.rules[j]?=some x→FC x≤400)) 0 (⟨by omega,fun j h=>by omega⟩) ?_ ?_
 ·exact Bk ⟨we O,we O,Aw⟩ (leH (is:=[0]) O (wl (oe O) (DN)))
 rintro i hC1
 try simp only at hC1
 obtain⟨hi,hR⟩:=hC1;refine A1 (A4 (A5 BA 3 [] O (Ay O (A9 (i:=0) E9 O O (C2 _)) (Ay O (BZ Bq O (Bh _)) (Az BA 1 [] O (A3 O (fun c2=>?_) (fun c2=>?_)))))))
 ·(try simp only[sd,se] at c2);refine A7 (A1 (BH (A4 (A5 BA 2 [] O (Ay O (A9 (i:=0) E9 O O (C2 _)) (B6 O ?_))))));obtain⟨x,hx⟩:=BE (l:=d.recs.rules) (i:=i) Au;refine Ay O (BC Bq O O Au (Bn hx) (BL _)) (Ay O (BQ Bd O (BL _)) (Ay O (BN O O (IH x (h1.rs _ (List.mem_of_getElem? hx))) O) (Az BA 1 [] O (A3 O (fun c3=>?_) (fun c3=>?_)))))
  ·(try simp only[sd,se] at c3);refine A2 BA 1 [] O (A6 (⟨O,_,_,⟨_,_,O,O,O⟩,(List.nil_sublist _),?_⟩))
   all_goals exact⟨⟨_,rfl,fun h=>absurd h As⟩,rfl⟩
  (try simp only[sd,se] at c3);have hqr:FC x≤400:=by simp_all
  refine A7 (A8 (Az BA 3 [] O (⟨(i+1),AU,⟨by omega,DD (p:=fun _ (y:Tm)=>FC y≤400) hR hx hqr⟩,Bk ⟨we rfl,we rfl,trivial⟩ (leH (is:=[0]) rfl (wl (oe rfl) (DN)))⟩)))
 (try simp only[sd,se] at c2);refine Br (A1 (A2 BA 1 [] O (BH ?_)));refine Bo (α:=Nat) (fun i=>⟨124,mk [(1,.ptr b1 0),(5,.p (I (i:Int)))],[.box b1 ((Bw d).map .p)],[]⟩) (fun i=>d.funs.length - i) (fun i=>i≤d.funs.length∧(∀j,j<i→∀x,d.funs[j]?=some x→(EM x.tree:Int)≤42 - 0)) 0 (⟨by omega,fun j h=>by omega⟩) ?_ ?_
 ·exact Bk ⟨we O,we O,Aw⟩ (leH (is:=[0]) O (wl (oe O) (DN)))
 rintro i hC2
 try simp only at hC2
 obtain⟨hi,hT⟩:=hC2;refine A1 (A4 (A5 BA 2 [] O (Ay O (A9 (i:=0) Hn O O (CV _)) (Ay O (BZ HW O (List.length_map _)) (Az BA 1 [] O (A3 O (fun c3=>?_) (fun c3=>?_)))))))
 ·(try simp only[sd,se] at c3);obtain⟨x,hx⟩:=BE (l:=d.funs) (i:=i) Au;refine A7 (A1 (BH (A1 (Bi [1,5] 123 (fun y=>∃q:Bool,y= .p (.bool q)∧(q=false→(EM x.tree:Int)≤42 - 0)) ?_ ?_))))
  ·refine A8 (Ay O (Ax Cv O O) (Ay O (A9 (i:=0) Hn O O (CV _)) (B6 O (Ay O (BC HW O O Au (Es hx) (Dd _)) (Ay O (Bp Gu O O) (Ay O (DP Lm O (I9 _)) (Ay O (Ge j9 O) (A5 BA 2 [] O (Ba 104 O (fun g=>?_) (fun g=>?_))))))))))
   ·(try simp only[sd,se] at g);exact Az BA 19 [] O (⟨O,O,AM,(by refine⟨_,rfl,fun h=>?_⟩;first | (exact absurd h As) | exact hq (by simpa using h)),⟨O,O,Aw⟩⟩)
   (try simp only[sd,se] at g);refine BM O (Ax Cv O O) (BM O (A9 (i:=0) Hn O O (CV _)) (BM O (BB O) (BM O (BC HW O O Au (Es hx) (Dd _)) (BM O (Bp Gu O O) (BM O (DX Bd O (I4 _) (BL _)) (BM O (BN O O (IH x.type (h1.fs _ (List.mem_of_getElem? hx)).ty) O) (A5 BA 3 [] O (Ba 114 O (fun g1=>?_) (fun g1=>?_)))))))))
   ·(try simp only[sd,se] at g1);exact Az BA 9 [] O (⟨O,O,AM,(by refine⟨_,rfl,fun h=>?_⟩;first | (exact absurd h As) | exact hq (by simpa using h)),⟨O,O,Aw⟩⟩)
   (try simp only[sd,se] at g1);refine BM O (Ax Cv O O) (BM O (A9 (i:=0) Hn O O (CV _)) (BM O (BB O) (BM O (BC HW O O Au (Es hx) (Dd _)) (BM O (Bp Gu O O) (BM O (DX HM O (EI _) (C7 _)) (IU O O O O (CP O O (SZ (Li x.tree) x.tree 0 (Nat.le_refl _) (h1.fs _ (List.mem_of_getElem? hx)).tr Au) (.inl O)) ?_))))));rintro _ ⟨q1,rfl,hq⟩;exact Az BA 2 [] O (⟨O,O,AM,(by refine⟨_,rfl,fun h=>?_⟩;first | (exact absurd h As) | exact hq (by simpa using h)),⟨O,O,Aw⟩⟩)
  rintro _ ⟨q,rfl,hqx⟩;refine A3 O (fun c4=>?_) (fun c4=>?_)
  ·(try simp only[sd,se] at c4);refine A2 BA 1 [] O (A6 (⟨O,_,_,⟨_,_,O,O,O⟩,(List.nil_sublist _),?_⟩))
   all_goals exact⟨⟨_,rfl,fun h=>absurd h As⟩,rfl⟩
  (try simp only[sd,se] at c4);have hok:=hqx (by simpa using c4);refine A7 (A8 (Az BA 3 [] O (⟨(i+1),AU,⟨by omega,DD (p:=fun _ (y:Hj)=>(EM y.tree:Int)≤42 - 0) hT hx hok⟩,Bk ⟨we rfl,we rfl,trivial⟩ (leH (is:=[0]) rfl (wl (oe rfl) (DN)))⟩)))
 (try simp only[sd,se] at c3);refine Br (A2 BA 1 [] O (A6 (⟨O,_,_,⟨_,_,O,O,O⟩,(List.nil_sublist _),?_⟩)))
 all_goals exact⟨⟨_,rfl,fun _=>eY h1 hq1 (IM Au hR) (IM Au hT)⟩,rfl⟩
theorem iP:∀(ds:List Cc),(Hd ds)→GL Tryz.prog 65 [.p (.lst (List.map Bw ds))] (fun v=>∃bb:Bool,v= .p (.bool bb)∧(bb=true→(∀d∈ds,TN d)∧ds.length≤70)):=by
 intro ds h1;have hl:=h1.len;refine BD Tryz.func65 O qQ (n:=23) O O (A2 BA 1 [] O (A1 (A2 BA 1 [] O (BH ?_))));refine Bo (α:=Nat) (fun i=>⟨23,mk [(0,.p (.lst (List.map Bw ds))),(3,.p (I (i:Int)))],[],[]⟩) (fun i=>ds.length - i) (fun i=>i≤ds.length∧(∀j,j<i→∀x,ds[j]?=some x→TN x)) 0 (⟨by omega,fun j h=>by omega⟩) ?_ ?_
 ·exact Bk ⟨we O,we O,Aw⟩ (leH (is:=[]) O (DN))
 rintro i hC
 try simp only at hC
 obtain⟨hi,hC⟩:=hC;refine A1 (A1 (Bi [0,3] 11 (fun y=>∃q:Bool,y= .p (.bool q)∧(q=true→i<ds.length)∧(q=false→ds.length≤i∨80≤i)) ?_ ?_))
 ·refine A8 (A5 BA 2 [] O (Ay O (BZ Hv O (List.length_map _)) (A5 BA 2 [] O (Ba 8 O (fun g=>?_) (fun g=>?_)))))
  ·(try simp only[sd,se] at g);refine Az BA 3 [] O ?_;exact⟨rfl,rfl,AM,(by refine⟨_,rfl,fun h=>?_,fun h=>?_⟩<;>first | (exact absurd h As) | omega | (simp only[decide_eq_true_eq,decide_eq_false_iff_not] at h;omega)),⟨rfl,rfl,trivial⟩⟩
  (try simp only[sd,se] at g);refine Az BA 3 [] O ?_;exact⟨rfl,rfl,AM,(by refine⟨_,rfl,fun h=>?_,fun h=>?_⟩<;>first | (exact absurd h As) | omega | (simp only[decide_eq_true_eq,decide_eq_false_iff_not] at h;omega)),⟨rfl,rfl,trivial⟩⟩
 rintro _ ⟨q,rfl,hq,hqn⟩;refine A3 O (fun c=>?_) (fun c=>?_)
 ·(try simp only[sd,se] at c);have hq1:=hq (by simpa using c);refine A7 (A1 (BH (A4 (A5 BA 2 [] O ?_))));obtain⟨x,hx⟩:=BE (l:=ds) (i:=i) Au;refine Ay O (BC Hv O O Au (EX hx) (Cw _)) (Ay O (BQ EJ O (Cw _)) (D1 O O (CP O O (We x (h1.all _ (List.mem_of_getElem? hx))) (.inl O)) ?_));rintro _ ⟨q1,rfl,hq⟩;refine Az BA 1 [] O (A3 O (fun c1=>?_) (fun c1=>?_))
  ·(try simp only[sd,se] at c1);refine A2 BA 1 [] O (A6 (⟨O,_,_,⟨_,_,O,O,O⟩,(List.nil_sublist _),?_⟩))
   all_goals exact⟨⟨_,rfl,fun h=>absurd h As⟩,rfl⟩
  (try simp only[sd,se] at c1);have hok:=hq (by simpa using c1);refine A7 (A8 (Az BA 3 [] O (⟨(i+1),AU,⟨by omega,DD (p:=fun _ (y:Cc)=>TN y) hC hx hok⟩,Bk ⟨we rfl,we rfl,trivial⟩ (leH (is:=[]) rfl (DN))⟩)))
 (try simp only[sd,se] at c);have hqe:=hqn (by simpa using c);refine Br (A4 (B6 O (Ay O (BZ Hv O (List.length_map _)) (Az BA 2 [] O (A6 (⟨O,_,_,⟨_,_,O,O,O⟩,(List.nil_sublist _),?_⟩))))))
 all_goals exact⟨⟨_,rfl,fun h=>⟨IM (by simp only[decide_eq_true_eq] at h;omega) hC,by simp only[decide_eq_true_eq] at h;omega⟩⟩,rfl⟩
theorem cN:∀(ds:List Cc),(Hd ds)→GL Tryz.prog 31 [.p (.lst (List.map Bw ds))] (fun v=>∃bb:Bool,v= .p (.bool bb)∧(bb=true→Ha ds∧ds.length≤70)):=by
 intro ds h1;refine BD Tryz.func31 O qR (n:=15) O O (A2 BA 1 [] O (A1 (A4 (B6 O (D1 O O (CP O O (iP ds h1) (.inl O)) ?_)))));rintro _ ⟨q,rfl,hq⟩;refine Az BA 1 [] O (A3 O (fun c=>?_) (fun c=>?_))
 ·(try simp only[sd,se] at c);refine A2 BA 1 [] O (A6 (⟨O,_,_,⟨_,_,O,O,O⟩,(List.nil_sublist _),?_⟩))
  all_goals exact⟨⟨_,rfl,fun h=>absurd h As⟩,rfl⟩
 (try simp only[sd,se] at c);have hf:=hq (by simpa using c);refine A7 (A4 (B6 O (D1 O O (CP O O (Xr ds h1) (.inl O)) ?_)));rintro _ ⟨a,e,rfl,he⟩;refine Az BA 5 [] O (A2 BA 3 [] O (A6 (⟨O,_,_,⟨_,_,O,O,O⟩,(List.nil_sublist _),?_⟩)))
 all_goals exact⟨⟨_,rfl,fun h=>⟨ja (he (by simpa using h)) hf.1,hf.2⟩⟩,rfl⟩
end Go.Proofs.YtboammbpdaoojaaGreat
namespace Go.Eu
open Go.Abs
def vT (i:Int):Tm:= .mk 0 i ⟨#[]⟩ [] []
def Ns (nm:ByteArray):Tm:= .mk 3 0 nm [] []
def Ks:ByteArray:=⟨#[78,97,116]⟩
def jc:ByteArray:=⟨#[122,101,114,111]⟩
def Tf:ByteArray:=⟨#[115,117,99,99]⟩
def P8:ByteArray:=⟨#[112,108,117,115]⟩
def Wu (b:Tm):Tm:=if (Cu 1 0 0 0 b).2≠0 then Bu else (Cu 1 0 0 0 b).1
def Ww (a b:Tm):Tm:= .mk 6 0 ⟨#[]⟩ [] [a,Wu b]
def X4:Cc:=⟨3,Ks,0,.mk 2 0 ⟨#[]⟩ [⟨0,[]⟩] [],Bu,0,[⟨jc,Ns Ks⟩,⟨Tf,Ww (Ns Ks) (Ns Ks)⟩],⟨0,Ns Ks,[Ns Ks,Ns Ks]⟩,[]⟩
def RF:Fl:= .mk 1 Bu 0 [.mk jc false (.mk 0 (vT 0) 0 []),.mk Tf false (.mk 0 (apply (Ns Tf) [apply (Ns P8) [vT 0,vT 1]]) 0 [])]
def Rr:Cc:=⟨4,⟨#[]⟩,0,Bu,Bu,0,[],⟨0,Bu,[]⟩,[⟨P8,Ww (Ns Ks) (Ww (Ns Ks) (Ns Ks)),2,RF⟩]⟩
def Dx:List Cc:=[X4,Rr]
theorem kl (nm:ByteArray) (h:nm.size<Dt):Nd (Ns nm):=by
 simp only[Ns,Nd,Lo,List.length_nil,Dt];simp only[Dt] at h;exact⟨h,by omega,by simp,by omega,trivial,by simp[I3],by simp[I3]⟩
theorem rP:Nd (Ww (Ns Ks) (Ns Ks)):=by
 have h:Wu (Ns Ks)=Ns Ks:=by rfl
 have h1:=kl Ks As;rw[Ww,h];simp only[Nd,Lo,List.length_nil,List.length_cons,Dt];exact⟨by decide,by omega,by simp,by omega,⟨h1,h1,trivial⟩,by simp[I3],by simp[I3]⟩
end Go.Eu
namespace Go.Proofs.YtboammbpdaoojaaGreat
open Go.Abs Go.Eu
theorem Iq:∀(nm:ByteArray),Et Tryz.prog 35 [.p (.str nm)] (.agg ((Bg (.mk 3 0 nm [] [])).map .p)):=by
 intro nm;refine BD Tryz.func35 O ri (n:=5) O O (A4 (BP O (BF B8 O) fun b2=>Bt O (A2 BA 3 [0,0] O (BS (Bj (i:=0) O) (A6 (⟨O,_,_,⟨_,_,O,(BJ (i:=0) Bd O O O),O⟩,(List.nil_sublist _),?_⟩))))))
 all_goals exact⟨rfl,rfl⟩
theorem eX:∀(i:Int),Et Tryz.prog 68 [.p (I i)] (.agg ((Bg (.mk 0 i ⟨#[]⟩ [] [])).map .p)):=by
 intro i;refine BD Tryz.func68 O rT (n:=5) O O (A4 (BP O (BF B8 O) fun b2=>Bt O (A2 BA 3 [0,0] O (BS (Bj (i:=0) O) (A6 (⟨O,_,_,⟨_,_,O,(BJ (i:=0) Bd O O O),O⟩,(List.nil_sublist _),?_⟩))))))
 all_goals exact⟨rfl,rfl⟩
theorem KZ:∀(i:Int),Et Tryz.prog 33 [.p (I i)] (.agg ((Bg (.mk 0 i ⟨#[]⟩ [] [])).map .p)):=by
 intro i;refine BD Tryz.func33 O qU (n:=5) O O (A4 (BP O (BF B8 O) fun b2=>Bt O (A2 BA 3 [0,0] O (BS (Bj (i:=0) O) (A6 (⟨O,_,_,⟨_,_,O,(BJ (i:=0) Bd O O O),O⟩,(List.nil_sublist _),?_⟩))))))
 all_goals exact⟨rfl,rfl⟩
theorem YT:∀(t:Tm) (l:List Tm),(l.length<Dt)→Et Tryz.prog 69 [.agg ((Bg t).map .p),.p (.lst (BO l))] (.agg ((Bg (apply t l)).map .p)):=by
 intro t l h1;refine BD Tryz.func69 O r7 (n:=8) O O (A4 (BP O (Bf O) fun b2=>BP O (BF B8 O) fun b4=>Bt O (A4 (A5 BA 2 [1] O (Ay O (BN O O (GS t l h1) O) (Az BA 1 [0,1] O (A6 (⟨O,_,_,⟨_,_,O,(BJ (i:=0) Bd O O Am),O⟩,(List.nil_sublist _),?_⟩))))))))
 all_goals exact⟨rfl,rfl⟩
theorem Yl:∀(t:Tm) (l:List Tm),(l.length<Dt)→Et Tryz.prog 34 [.agg ((Bg t).map .p),.p (.lst (BO l))] (.agg ((Bg (apply t l)).map .p)):=by
 intro t l h1;refine BD Tryz.func34 O rK (n:=8) O O (A4 (BP O (Bf O) fun b2=>BP O (BF B8 O) fun b4=>Bt O (A4 (A5 BA 2 [1] O (Ay O (BN O O (GS t l h1) O) (Az BA 1 [0,1] O (A6 (⟨O,_,_,⟨_,_,O,(BJ (i:=0) Bd O O Am),O⟩,(List.nil_sublist _),?_⟩))))))))
 all_goals exact⟨rfl,rfl⟩
theorem fN:∀(t:Tm) (by' fr:Int),(Nd t)→(size t<1000000)→(by'=1)→(fr=0)→Et Tryz.prog 103 [.agg ((Bg t).map .p),.p (I by'),.p (I fr)] (.tup [.agg ((Bg (Wu t)).map .p),.p (I ((Cu 1 0 0 0 t).2))]):=by
 intro t by' fr h1 h2 h3 h4
 refine BD Tryz.func103 O ou (n:=40) O O (A4 (BP O (Bf O) fun b3=>BP O (BF B8 O) fun b6=>Az BA 1 [] O (A1 (A1 (Bi [1,2,3,6] 19 (fun y=>y= .p (.bool (((decide ((fr:Int)<(0:Int)))||(decide ((by':Int)<(-65536:Int))))||(decide ((by':Int) > (65536:Int)))))) ?_ ?_)))))
 ·refine A8 (A5 BA 3 [] O (Ba 12 O (fun g=>?_) (fun g=>?_)))
  ·(try simp only[sd,se] at g);exact Az BA 7 [] O (⟨O,O,AM,AJ,⟨O,O,O,O,Aw⟩⟩)
  (try simp only[sd,se] at g);refine A5 BA 4 [] O (Ba 16 O (fun g1=>?_) (fun g1=>?_))
  ·(try simp only[sd,se] at g1);exact Az BA 3 [] O (⟨O,O,AM,AJ,⟨O,O,O,O,Aw⟩⟩)
  (try simp only[sd,se] at g1);exact Az BA 3 [] O (⟨O,O,AM,AJ,⟨O,O,O,O,Aw⟩⟩)
 rintro _ rfl;refine A3 O (fun c=>?_) (fun c=>?_)
 ·(try simp only[sd,se] at c);refine A2 BA 3 [0,0] O (BS (Bj (i:=0) O) (A6 (⟨O,_,_,⟨_,_,O,(BJ (i:=0) Bd O O O),⟨_,_,O,O,O⟩⟩,(List.nil_sublist _),?_⟩)))
  all_goals exact⟨by show (.tup [.agg [.p (I 0),.p (I 0),.p (.str ⟨#[]⟩),.p (.lst []),.p (.lst [])],.p (I 2)]:AV)=_;exfalso;omega,rfl⟩
 (try simp only[sd,se] at c);refine A7 (A4 (Ay O (CB P2 eR O) (BP O (Bf O) fun b22=>Az BA 1 [] O (A4 (A5 BA 4 [2] O (Ay O (Yt O O) (Ay O (CS [0] O (.inl ⟨O,O,O⟩) (Yc _ t b22 by' (min (fr:Int) (65536:Int)) 0 0 0 (Nat.le_refl _) h1 Au Au) ⟨_,_,rfl,rfl,rfl⟩ As rfl (.inl rfl)) (BP O (BF B8 O) fun b9=>Az BA 1 [0,1] O (A1 (A2 BA 5 [1] O (A3 O (fun c1=>?_) (fun c1=>?_))))))))))))
 ·(try simp only[sd,se] at c1);refine A1 (B7 (fun k=>false) D7 (A0 O (fun _=>CB DV B8 O) Aw (A0 O (fun _=>BB O) Aw (A0 O (fun _=>CW O) Aw (A0 O (fun _=>Ax P2 O O) Aw (BT (j:=1) O O O (fun H i hi=>BG (i:=i) C0 O hi O) AB Aw (CF O O (CO (i:=2) Bd O O O O O O) AB Aw (A0 O (fun _=>Bb O) Aw (Bv O Ap (BS (Bj (i:=2) O) (A6 (⟨O,_,_,⟨_,_,O,(BJ (i:=2) Bd O O O),⟨_,_,O,O,O⟩⟩,(List.nil_sublist _),?_⟩))))))))))))
  all_goals exact⟨by show (.tup [.agg [.p (I 0),.p (I 0),.p (.str ⟨#[]⟩),.p (.lst []),.p (.lst [])],.p (I ((Cu by' (min (fr:Int) (65536:Int)) 0 0 t).2))]:AV)=_;subst h3 h4;have c2:(Cu 1 0 0 0 t).2≠0:=c1;rw[Wu,if_pos c2];rfl,rfl⟩
 (try simp only[sd,se] at c1);refine A7 (A2 BA 3 [0,2,1] O (A6 (⟨O,_,_,⟨_,_,O,(BJ (i:=2) Bd O O Am),⟨_,_,O,O,O⟩⟩,(List.nil_sublist _),?_⟩)))
 all_goals exact⟨by show (.tup [.agg ((Bg ((Cu by' (min (fr:Int) (65536:Int)) 0 0 t).1)).map .p),.p (I 0)]:AV)=_;subst h3 h4;have c2:(Cu 1 0 0 0 t).2=0:=c1;rw[Wu,if_neg (fun h=>h c2),c2];rfl,rfl⟩
theorem YH:∀(a b:Tm),(Nd b)→(size b<1000000)→Et Tryz.prog 70 [.agg ((Bg a).map .p),.agg ((Bg b).map .p)] (.agg ((Bg (.mk 6 0 ⟨#[]⟩ [] [a,Wu b])).map .p)):=by
 intro a b h1 h2;refine BD Tryz.func70 O qw (n:=16) O O (A4 (BP O (Bf O) fun b2=>BP O (Bf O) fun b3=>BP O (BF B8 O) fun b4=>Bt O (A4 (Ay O (BI (i:=1) Bd O O Am) (Ay O (BN O O (fN b 1 0 h1 h2 O O) O) (A5 BA 3 [] O (BP O (BF B8 O) fun b5=>Az BA 2 [0,1] O (A4 (A5 BA 2 [3,0] O (Ay O (CA (rows:=BO [a,(Wu b)]) Bq B8 O O O O (CT (B9 _)) (FP _)) (Az BA 2 [1,0] O (BS (Bj (i:=1) O) (A6 (⟨O,_,_,⟨_,_,O,(BJ (i:=1) Bd O O O),O⟩,(List.nil_sublist _),?_⟩))))))))))))))
 all_goals exact⟨rfl,rfl⟩
theorem lY (l:List Im):∀r∈l.map G0,∀c∈r,c≠ .nils:=by
 intro r hr;obtain⟨t,_,rfl⟩:=List.mem_map.1 hr;intro c hc;simp only[G0,List.mem_cons] at hc;rcases hc with rfl | hc
 ·simp
 exact sD _ c hc
set_option maxHeartbeats 4000000 in
theorem gE:Et Tryz.prog 36 [] (.p (.lst (List.map Bw Dx))):=by
 refine BD Tryz.func36 O rU (n:=55) O O (A2 BA 1 [] O (A2 BA 1 [] O (A4 (Ay O (BN O O (Iq ⟨#[78,97,116]⟩) O) (BP O (BF B8 O) fun b2=>Az BA 1 [0,1] O (A2 BA 1 [] O (A1 ?_)))))));refine Ur [.val (.agg [.p (I 0),.p (.nils)]),.val (.p (.lst (List.map CE ([(Cl.mk 0 [])])))),.val (.agg [.p (I 2),.p (I 0),.p (.str ⟨#[]⟩),.p (.lst (List.map CE ([(Cl.mk 0 [])]))),.p (.nils)]),.val (.agg [.p (I 3),.p (I 0),.p (.str ⟨#[78,97,116]⟩),.p (.lst (List.map CE [])),.p (.lst (BO []))]),.val (.agg [.p (.str ⟨#[122,101,114,111]⟩),.p (I 3),.p (I 0),.p (.str ⟨#[78,97,116]⟩),.p (.lst (List.map CE [])),.p (.lst (BO []))]),.val (.agg [.p (I 3),.p (I 0),.p (.str ⟨#[78,97,116]⟩),.p (.lst (List.map CE [])),.p (.lst (BO []))]),.val (.agg [.p (I 3),.p (I 0),.p (.str ⟨#[78,97,116]⟩),.p (.lst (List.map CE [])),.p (.lst (BO []))]),.val (.agg [.p (I 6),.p (I 0),.p (.str ⟨#[]⟩),.p (.lst (List.map CE [])),.p (.lst (BO ([(.mk 3 0 ⟨#[78,97,116]⟩ [] []:Tm),Wu (.mk 3 0 ⟨#[78,97,116]⟩ [] []:Tm)])))]),.val (.agg [.p (.str ⟨#[115,117,99,99]⟩),.p (I 6),.p (I 0),.p (.str ⟨#[]⟩),.p (.lst (List.map CE [])),.p (.lst (BO ([(.mk 3 0 ⟨#[78,97,116]⟩ [] []:Tm),Wu (.mk 3 0 ⟨#[78,97,116]⟩ [] []:Tm)])))]),.val (.p (.lst (List.map G0 ([(Im.mk ⟨#[122,101,114,111]⟩ (.mk 3 0 ⟨#[78,97,116]⟩ [] []:Tm)),(Im.mk ⟨#[115,117,99,99]⟩ (.mk 6 0 ⟨#[]⟩ [] ([(.mk 3 0 ⟨#[78,97,116]⟩ [] []:Tm),Wu (.mk 3 0 ⟨#[78,97,116]⟩ [] []:Tm)]):Tm))])))),.val (.agg [.p (I 3),.p (.str ⟨#[78,97,116]⟩),.p (I 0),.p (I 2),.p (I 0),.p (.str ⟨#[]⟩),.p (.lst (List.map CE ([(Cl.mk 0 [])]))),.p (.nils),.p (I 0),.p (I 0),.p (.str ⟨#[]⟩),.p (.nils),.p (.nils),.p (I 0),.p (.lst (List.map G0 ([(Im.mk ⟨#[122,101,114,111]⟩ (.mk 3 0 ⟨#[78,97,116]⟩ [] []:Tm)),(Im.mk ⟨#[115,117,99,99]⟩ (.mk 6 0 ⟨#[]⟩ [] ([(.mk 3 0 ⟨#[78,97,116]⟩ [] []:Tm),Wu (.mk 3 0 ⟨#[78,97,116]⟩ [] []:Tm)]):Tm))]))),.p (I 0),.p (I 0),.p (I 0),.p (.str ⟨#[]⟩),.p (.nils),.p (.nils),.p (.nils),.p (.nils)]),.new [.p (I 0),.p (.str ⟨#[]⟩),.p (I 0),.p (I 0),.p (I 0),.p (.str ⟨#[]⟩),.p (.nils),.p (.nils),.p (I 0),.p (I 0),.p (.str ⟨#[]⟩),.p (.nils),.p (.nils),.p (I 0),.p (.nils),.p (I 0),.p (I 0),.p (I 0),.p (.str ⟨#[]⟩),.p (.nils),.p (.nils),.p (.nils),.p (.nils)]] D7 O Ap Ap ?_
 refine D5 O (fun Bs=>CB Ea Ef O) (D5 O (fun Bs=>B0 En Ef O O O O O) (D5 O (fun Bs=>CB DV B8 O) (D5 O (fun Bs=>BI (i:=Bs.length+0) Bd O (Cn O) Am) (D5 O (fun Bs=>CB I0 Yv O) (D5 O (fun Bs=>BI (i:=Bs.length+0) Bd O (Cn O) O) (D5 O (fun Bs=>BI (i:=Bs.length+0) Bd O (Cn O) O) (D5 O (fun Bs=>BN O O (YH (.mk 3 0 ⟨#[78,97,116]⟩ [] []:Tm) (.mk 3 0 ⟨#[78,97,116]⟩ [] []:Tm) (kl _ As) (by simp[size,Bl])) O) (D5 O (fun Bs=>CB I0 Yv O) ?_))))))));refine D5 O (fun Bs=>CA (rows:=List.map G0 ([(Im.mk ⟨#[122,101,114,111]⟩ (.mk 3 0 ⟨#[78,97,116]⟩ [] []:Tm)),(Im.mk ⟨#[115,117,99,99]⟩ (.mk 6 0 ⟨#[]⟩ [] ([(.mk 3 0 ⟨#[78,97,116]⟩ [] []:Tm),Wu (.mk 3 0 ⟨#[78,97,116]⟩ [] []:Tm)]):Tm))])) HY Yv O O O O (CT (ZX _)) (lY _)) (D5 O (fun Bs=>CB Cv Je O) (Xv O (fun Bs=>BF Je O) fun b4=>XO ?_))
 change AL _ _ _ 12 ⟨55,_,[.box b4 [.p (I 0),.p (.str ⟨#[]⟩),.p (I 0),.p (I 0),.p (I 0),.p (.str ⟨#[]⟩),.p (.nils),.p (.nils),.p (I 0),.p (I 0),.p (.str ⟨#[]⟩),.p (.nils),.p (.nils),.p (I 0),.p (.nils),.p (I 0),.p (I 0),.p (I 0),.p (.str ⟨#[]⟩),.p (.nils),.p (.nils),.p (.nils),.p (.nils)],.box b2 [.p (I 3),.p (I 0),.p (.str ⟨#[78,97,116]⟩),.p (.lst (List.map CE [])),.p (.lst (BO []))]],[]⟩ _
 refine Az BA 1 [0,0] O (A4 (A5 BA 3 [1,1,1] O (Ay O (CA (rows:=BO ([(.mk 3 0 ⟨#[78,97,116]⟩ [] []:Tm),(.mk 3 0 ⟨#[78,97,116]⟩ [] []:Tm)])) Bq B8 O O O O (CT (B9 _)) (FP _)) (Az BA 3 [0,0] O (A4 (B6 O (Ay O (BN O O (eX 0) O) (A5 BA 3 [] O (Ay O (BN O O (Iq ⟨#[115,117,99,99]⟩) O) (B6 O (Ay O (BN O O (Iq ⟨#[112,108,117,115]⟩) O) (B6 O (Ay O (BN O O (eX 0) O) (B6 O (Ay O (BN O O (eX 1) O) (Ay O (CA (rows:=BO ([(.mk 0 0 ⟨#[]⟩ [] []),(.mk 0 1 ⟨#[]⟩ [] [])])) Bq B8 O O O O (CT (B9 _)) (FP _)) (Ay O (BN O O (YT (.mk 3 0 ⟨#[112,108,117,115]⟩ [] []) ([(.mk 0 0 ⟨#[]⟩ [] []),(.mk 0 1 ⟨#[]⟩ [] [])]) (by simp[Dt])) O) ?_)))))))))))))))));refine Ay O (CA (rows:=BO ([(apply (.mk 3 0 ⟨#[112,108,117,115]⟩ [] []) ([(.mk 0 0 ⟨#[]⟩ [] []),(.mk 0 1 ⟨#[]⟩ [] [])]))])) Bq B8 O O O O (CT (B9 _)) (FP _)) (Ay O (BN O O (YT (.mk 3 0 ⟨#[115,117,99,99]⟩ [] []) ([(apply (.mk 3 0 ⟨#[112,108,117,115]⟩ [] []) ([(.mk 0 0 ⟨#[]⟩ [] []),(.mk 0 1 ⟨#[]⟩ [] [])]))]) (by simp[Dt])) O) ?_);generalize hz:apply (.mk 3 0 ⟨#[115,117,99,99]⟩ [] []) ([(apply (.mk 3 0 ⟨#[112,108,117,115]⟩ [] []) ([(.mk 0 0 ⟨#[]⟩ [] []),(.mk 0 1 ⟨#[]⟩ [] [])]))])=z;obtain⟨zk,zi,zn,zl,zs⟩:=z;refine A5 BA 2 [] O (Ay O (B0 Jf Yf O O O O O) (Ay O (CB Fc VE O) (BP O (BF VE O) fun b5=>Az BA 1 [0,0] O (A1 (B7 (fun k=>false) D7 (BT (j:=1) O O O (fun H i hi=>BI (i:=i) EJ O hi O) AB Aw (BT (j:=2) O O O (fun H i hi=>BI (i:=i) Bd O hi O) AB Aw (BT (j:=2) O O O (fun H i hi=>BI (i:=i) Bd O hi O) AB Aw (BT (j:=2) O O O (fun H i hi=>BI (i:=i) Bd O hi O) AB Aw (A0 O (fun _=>BN O O (YH (.mk 3 0 ⟨#[78,97,116]⟩ [] []:Tm) (.mk 3 0 ⟨#[78,97,116]⟩ [] []:Tm) (kl _ As) (by simp[size,Bl])) O) Aw (A0 O (fun _=>BN O O (YH (.mk 3 0 ⟨#[78,97,116]⟩ [] []:Tm) (.mk 6 0 ⟨#[]⟩ [] [(.mk 3 0 ⟨#[78,97,116]⟩ [] []:Tm),Wu (.mk 3 0 ⟨#[78,97,116]⟩ [] []:Tm)]) rP As) O) Aw ?_)))))))))));refine BT (j:=0) O O O (fun H i hi=>BI (i:=i) HM O hi O) AB Aw (A0 O (fun _=>CB Gu X2 O) Aw (A0 O (fun _=>B0 HW X2 O O O O O) Aw (A0 O (fun _=>CB Cv Je O) Aw (A0 O (fun _=>B0 Hv Je O O O O O) Aw (A0 O (fun _=>Bb O) Aw (Bv O Ap (A6 (⟨O,_,_,⟨_,_,O,O,O⟩,(List.nil_sublist _),?_⟩))))))))
 all_goals exact⟨by show (.p (.lst (List.map Bw ([(Cc.mk 3 ⟨#[78,97,116]⟩ 0 (.mk 2 0 ⟨#[]⟩ ([(Cl.mk 0 [])]) []:Tm) (.mk 0 0 ⟨#[]⟩ [] []:Tm) 0 ([(Im.mk ⟨#[122,101,114,111]⟩ (.mk 3 0 ⟨#[78,97,116]⟩ [] []:Tm)),(Im.mk ⟨#[115,117,99,99]⟩ (.mk 6 0 ⟨#[]⟩ [] ([(.mk 3 0 ⟨#[78,97,116]⟩ [] []:Tm),Wu (.mk 3 0 ⟨#[78,97,116]⟩ [] []:Tm)]):Tm))]) (fo.mk 0 (.mk 3 0 ⟨#[78,97,116]⟩ [] []:Tm) ([(.mk 3 0 ⟨#[78,97,116]⟩ [] []:Tm),(.mk 3 0 ⟨#[78,97,116]⟩ [] []:Tm)])) []),(Cc.mk 4 ⟨#[]⟩ 0 (.mk 0 0 ⟨#[]⟩ [] []:Tm) (.mk 0 0 ⟨#[]⟩ [] []:Tm) 0 [] (fo.mk 0 (.mk 0 0 ⟨#[]⟩ [] []:Tm) []) ([(Hj.mk ⟨#[112,108,117,115]⟩ (.mk 6 0 ⟨#[]⟩ [] ([(.mk 3 0 ⟨#[78,97,116]⟩ [] []:Tm),Wu (.mk 6 0 ⟨#[]⟩ [] [(.mk 3 0 ⟨#[78,97,116]⟩ [] []:Tm),Wu (.mk 3 0 ⟨#[78,97,116]⟩ [] []:Tm)])]):Tm) 2 (Fl.mk 1 (.mk 0 0 ⟨#[]⟩ [] []:Tm) 0 ([(GP.mk ⟨#[122,101,114,111]⟩ false (Fl.mk 0 (.mk 0 0 ⟨#[]⟩ [] []:Tm) 0 [])),(GP.mk ⟨#[115,117,99,99]⟩ false (Fl.mk 0 (.mk zk zi zn zl zs:Tm) 0 []))])))]))]))):AV)=_;rw[←hz];rfl,rfl⟩
end Go.Proofs.YtboammbpdaoojaaGreat
namespace Go.Eu
open Go.Abs
theorem IC {t:Tm}(h:okB t=true) (hs:size t<1000000):UA t:=⟨(Cd.1 h).nd,hs⟩
theorem YO:Nn X4 where
 nm:=by decide
 ty:=IC rfl As
 vl:=IC rfl As
 cl:=by decide
 cs:=by
  intro c hc;simp only[X4,List.mem_cons,List.not_mem_nil,or_false] at hc;rcases hc with rfl | rfl
  ·exact⟨by decide,IC rfl As⟩
  exact⟨by decide,IC rfl As⟩
 rt:=IC rfl As
 rl:=by decide
 rs:=by
  intro c hc;simp only[X4,List.mem_cons,List.not_mem_nil,or_false] at hc;rcases hc with rfl | rfl<;>exact IC rfl As
 fl:=by decide
 fs:=by intro c hc;cases hc
theorem Ze:Hr RF:=⟨IC rfl As,by decide,⟨by decide,IC rfl As,by decide,trivial⟩,⟨by decide,IC rfl As,by decide,trivial⟩,trivial⟩
theorem V1:Nn Rr where
 nm:=by decide
 ty:=IC rfl As
 vl:=IC rfl As
 cl:=by decide
 cs:=by intro c hc;cases hc
 rt:=IC rfl As
 rl:=by decide
 rs:=by intro c hc;cases hc
 fl:=by decide
 fs:=by
  intro c hc;simp only[Rr,List.mem_cons,List.not_mem_nil,or_false] at hc;subst hc;exact⟨by decide,IC rfl As,Ze⟩
theorem KN:Ha Dx:=by
 have h0:∀d∈Dx,d=X4∨d=Rr:=fun d hd=>by simpa [Dx] using hd
 refine⟨⟨⟨by decide,fun d hd=>?_⟩,fun d hd=>?_⟩,fun d hd=>?_,fun d hd=>?_,fun d hd=>?_⟩
 ·rcases h0 d hd with rfl | rfl
  ·exact YO
  exact V1
 ·rcases h0 d hd with rfl | rfl
  ·exact⟨YO,by decide,rfl,by intro t ht;simp only[X4,List.mem_cons,List.not_mem_nil,or_false] at ht;rcases ht with rfl | rfl<;>rfl,by intro f hf;cases hf⟩
  refine⟨V1,by decide,rfl,(by intro t ht;cases ht),?_⟩;intro f hf;simp only[Rr,List.mem_cons,List.not_mem_nil,or_false] at hf;subst hf;exact⟨by decide,by decide,rfl,⟨rfl,trivial⟩,⟨rfl,trivial⟩,trivial⟩
 ·rcases h0 d hd with rfl | rfl<;>decide
 ·rcases h0 d hd with rfl | rfl
  ·intro t ht;simp only[X4,List.mem_cons,List.not_mem_nil,or_false] at ht;rcases ht with rfl | rfl<;>decide
  intro t ht;cases ht
 rcases h0 d hd with rfl | rfl
 ·intro f hf;cases hf
 intro f hf;simp only[Rr,List.mem_cons,List.not_mem_nil,or_false] at hf;subst hf;decide
def ap (f x:Tm):Tm:= .mk 4 0 ⟨#[]⟩ [] [f,x]
def sL:Tm:= .mk 5 0 ⟨#[]⟩ [] [Ns Ks,vT 0]
def rA:Tm:=ap (ap (Ns P8) (ap (Ns Tf) (vT 3))) (vT 4)
def Lj:Tm:=ap (Ns Tf) (ap (ap (Ns P8) (vT 3)) (vT 4))
def SX:Tm:=ap (ap (Ns P8) (ap sL (vT 3))) (vT 4)
def OO:Tm:=ap (ap (Ns P8) (vT 3)) (vT 4)
def pw:Tm:= .mk 9 0 ⟨#[]⟩ [] [ap sL (vT 2)]
def O2:Tm:= .mk 9 0 ⟨#[]⟩ [] [vT 2]
def Mw:Tm:=ap (.mk 12 0 ⟨#[]⟩ [] []) (vT 0)
def lp:Tm:=ap (ap (Ns P8) Mw) (vT 1)
def lr:Tm:=ap (Ns Tf) Mw
theorem mV:D6 Dx CI 20 20000 rA= .ok (Lj,19999):=rfl
theorem pT:D6 Dx CI 20 20000 SX= .ok (SX,19999):=rfl
theorem lZ:FU Dx CI 20 20000 SX= .ok (some OO,19999):=rfl
theorem mK:D6 Dx CI 20 20000 pw= .ok (O2,19999):=rfl
theorem kA (n:Nat) (s:Int):Ib Dx CI (n+2) s Mw= .ok (some 0,s):=by
 rw[US,show D6 Dx CI (n+1) s Mw= .ok (Mw,s) from rfl];show Jg Dx CI (n+1) (Mw,s)=_;rw[Sz rfl];rfl
theorem pR:Ib Dx CI 20 20000 lp= .ok (some 0,20000):=by
 rw[US,show D6 Dx CI 19 20000 lp= .ok (lp,20000) from rfl];show Jg Dx CI 19 (lp,20000)=_;rw[WD (f:=⟨P8,Ww (Ns Ks) (Ww (Ns Ks) (Ns Ks)),2,RF⟩) (d:=Rr) rfl rfl rfl rfl rfl rfl As];show (EE Dx CI (D6 Dx CI 19) 19 RF [Mw,vT 1] Bu 20000).bind (WV Dx CI 19)=_;rw[show EE Dx CI (D6 Dx CI 19) 19 RF [Mw,vT 1] Bu 20000= .ok ((none,Mw),20000) from rfl];show WV Dx CI 19 ((none,Mw),20000)=_;rw[Yb rfl rfl (H5 (by intro h;cases h))];exact kA 17 20000
theorem og:Ib Dx CI 20 20000 lr= .ok (none,20000):=by
 rw[US,show D6 Dx CI 19 20000 lr= .ok (lr,20000) from rfl];show Jg Dx CI 19 (lr,20000)=_;rw[RG rfl rfl rfl As As]
theorem ZA:Nd Lj∧Nd SX∧Nd OO∧Nd O2:=⟨(Cd.1 (show okB Lj=true from rfl)).nd,(Cd.1 (show okB SX=true from rfl)).nd,(Cd.1 (show okB OO=true from rfl)).nd,(Cd.1 (show okB O2=true from rfl)).nd⟩
end Go.Eu
namespace Go.Proofs.YtboammbpdaoojaaGreat
open Go.Abs Go.Eu
theorem Tk (f x:Tm):Et Tryz.prog 34 [TV f,od [x]] (TV (.mk 4 0 ⟨#[]⟩ [] [f,x])):=Yl f [x] (by simp[Dt])
theorem Vv (f x y:Tm):Et Tryz.prog 34 [TV f,od [x,y]] (TV (.mk 4 0 ⟨#[]⟩ [] [(.mk 4 0 ⟨#[]⟩ [] [f,x]:Tm),y])):=Yl f [x,y] (by simp[Dt])
theorem m9:Et Tryz.prog 12 [.p (.lst (List.map Bw Dx)),TV rA] (.tup [TV Lj,.p (I 0)]):=by
 have h:=QT Dx 20 rA KN (by rw[mV];simp);rw[mV] at h;exact h
theorem oo:Et Tryz.prog 12 [.p (.lst (List.map Bw Dx)),TV SX] (.tup [TV SX,.p (I 0)]):=by
 have h:=QT Dx 20 SX KN (by rw[pT];simp);rw[pT] at h;exact h
theorem pG:Et Tryz.prog 16 [.p (.lst (List.map Bw Dx)),TV SX] (.tup [TV OO,.p (.bool true),.p (I 0)]):=by
 have h:=jE Dx 20 SX KN (by rw[lZ];simp) (by rw[lZ];intro q c e;cases e;rfl);rw[lZ] at h;exact h
theorem mh:Et Tryz.prog 12 [.p (.lst (List.map Bw Dx)),TV pw] (.tup [TV O2,.p (I 0)]):=by
 have h:=QT Dx 20 pw KN (by rw[mK];simp);rw[mK] at h;exact h
theorem ma:Et Tryz.prog 18 [.p (.lst (List.map Bw Dx)),TV lp] (.tup [.p (I 0),.p (.bool true),.p (I 0)]):=by
 have h:=dG Dx 20 lp KN (by rw[pR];simp);rw[pR] at h;exact h
theorem oY:Et Tryz.prog 18 [.p (.lst (List.map Bw Dx)),TV lr] (.tup [.p (I 0),.p (.bool false),.p (I 0)]):=by
 have h:=dG Dx 20 lr KN (by rw[og];simp);rw[og] at h;exact h
theorem jB:Et Tryz.prog 15 [TV Lj,TV Lj] (.p (.bool true)):=by
 have h:=NP 1000 Lj Lj As ZA.1;rw[GO rfl] at h;exact h
theorem iq:Et Tryz.prog 15 [TV SX,TV SX] (.p (.bool true)):=by
 have h:=NP 1000 SX SX As ZA.2.1;rw[GO rfl] at h;exact h
theorem iD:Et Tryz.prog 15 [TV OO,TV OO] (.p (.bool true)):=by
 have h:=NP 1000 OO OO As ZA.2.2.1;rw[GO rfl] at h;exact h
theorem gY:Et Tryz.prog 15 [TV O2,TV O2] (.p (.bool true)):=by
 have h:=NP 1000 O2 O2 As ZA.2.2.2;rw[GO rfl] at h;exact h
set_option maxHeartbeats 4000000 in
theorem OE:Et Tryz.prog 11 [] (.p (.bool true)):=by
 refine BD Tryz.func11 O ql (n:=188) O O (A1 (HG (M:=⟨188,mk [],[],[]⟩) (EP Aw (List.Sublist.refl _)) (A8 (Az BA 1 [] O (A1 (HG (M:=⟨188,mk [],[],[]⟩) (EP Aw (List.Sublist.refl _)) (A8 (Az BA 1 [] O (A1 (HG (M:=⟨188,mk [(1,.p (.fn 33))],[],[]⟩) (EP ⟨O,Aw⟩ (List.Sublist.refl _)) (A8 (Az BA 1 [] O (A1 (HG (M:=⟨188,mk [(1,.p (.fn 33)),(2,.p (.fn 34))],[],[]⟩) (EP ⟨O,O,Aw⟩ (List.Sublist.refl _)) (A8 (Ay O (BN O O (Iq ⟨#[78,97,116]⟩) O) (B6 O (Ay O (BN O O (KZ 0) O) (Ay O (CA (rows:=BO ([(.mk 3 0 ⟨#[78,97,116]⟩ [] []),(.mk 0 0 ⟨#[]⟩ [] [])])) Bq B8 O O O O (CT (B9 _)) (FP _)) (Ay O (CB DV B8 O) (BP O (BF B8 O) fun b3=>Az BA 1 [0,0] O ?_)))))))))))))))))))));refine A1 (HG (M:=⟨188,mk [(1,.p (.fn 33)),(2,.p (.fn 34)),(3,.ptr b3 0)],[.box b3 [.p (I 5),.p (I 0),.p (.str ⟨#[]⟩),.p (.nils),.p (.lst (BO ([(.mk 3 0 ⟨#[78,97,116]⟩ [] []),(.mk 0 0 ⟨#[]⟩ [] [])])))]],[]⟩) (EP ⟨O,O,O,Aw⟩ (List.Sublist.refl _)) (A8 (Ay O (BN O O (gE ) O) (Az BA 1 [] O (A1 (HG (M:=⟨188,mk [(1,.p (.fn 33)),(2,.p (.fn 34)),(3,.ptr b3 0),(4,.p (.lst (List.map Bw Dx)))],[.box b3 [.p (I 5),.p (I 0),.p (.str ⟨#[]⟩),.p (.nils),.p (.lst (BO ([(.mk 3 0 ⟨#[78,97,116]⟩ [] []),(.mk 0 0 ⟨#[]⟩ [] [])])))]],[]⟩) (EP ⟨O,O,O,O,Aw⟩ (List.Sublist.refl _)) (A8 (A5 BA 2 [] O (Ay O (BN O O (Iq ⟨#[112,108,117,115]⟩) O) (B6 O (Ay O (BN O O (Iq ⟨#[115,117,99,99]⟩) O) (B6 O (Ay O (BN O O (KZ 3) O) ?_)))))))))))));refine Ay O (CA (rows:=BO ([(.mk 0 3 ⟨#[]⟩ [] [])])) Bq B8 O O O O (CT (B9 _)) (FP _)) (Ay O (BN O O (Tk (.mk 3 0 ⟨#[115,117,99,99]⟩ [] []) (.mk 0 3 ⟨#[]⟩ [] []:Tm)) O) (B6 O (Ay O (BN O O (KZ 4) O) (Ay O (CA (rows:=BO ([(.mk 4 0 ⟨#[]⟩ [] [(.mk 3 0 ⟨#[115,117,99,99]⟩ [] []),(.mk 0 3 ⟨#[]⟩ [] []:Tm)]),(.mk 0 4 ⟨#[]⟩ [] [])])) Bq B8 O O O O (CT (B9 _)) (FP _)) (Ay O (BN O O (Vv (.mk 3 0 ⟨#[112,108,117,115]⟩ [] []) (.mk 4 0 ⟨#[]⟩ [] [(.mk 3 0 ⟨#[115,117,99,99]⟩ [] []:Tm),(.mk 0 3 ⟨#[]⟩ [] []:Tm)]:Tm) (.mk 0 4 ⟨#[]⟩ [] []:Tm)) O) (Ay O (BN O O (m9 ) O) (A5 BA 3 [] O (BP O (BF B8 O) fun b5=>Az BA 2 [0,1] O (A1 ?_)))))))))
 refine HG (M:=⟨188,mk [(1,.p (.fn 33)),(2,.p (.fn 34)),(3,.ptr b3 0),(4,.p (.lst (List.map Bw Dx))),(5,.ptr b5 0),(6,.p (I 0))],[.box b5 ((Bg Lj).map .p),.box b3 [.p (I 5),.p (I 0),.p (.str ⟨#[]⟩),.p (.nils),.p (.lst (BO ([(.mk 3 0 ⟨#[78,97,116]⟩ [] []),(.mk 0 0 ⟨#[]⟩ [] [])])))]],[]⟩) (EP ⟨O,O,O,O,O,O,Aw⟩ (List.Sublist.refl _)) ?_;refine Ur [.val (.p (.fn 34)),.val (.agg ((Bg (.mk 3 0 ⟨#[112,108,117,115]⟩ [] [])).map .p)),.val (.p (.fn 34)),.val (.agg [.p (I 5),.p (I 0),.p (.str ⟨#[]⟩),.p (.nils),.p (.lst (BO ([(.mk 3 0 ⟨#[78,97,116]⟩ [] []),(.mk 0 0 ⟨#[]⟩ [] [])])))]),.val (.p (.fn 33)),.val (.agg ((Bg (.mk 0 3 ⟨#[]⟩ [] [])).map .p)),.val (.p (.lst (BO ([(.mk 0 3 ⟨#[]⟩ [] [])])))),.val (.agg ((Bg (.mk 4 0 ⟨#[]⟩ [] [(.mk 5 0 ⟨#[]⟩ [] ([(.mk 3 0 ⟨#[78,97,116]⟩ [] []),(.mk 0 0 ⟨#[]⟩ [] [])]):Tm),(.mk 0 3 ⟨#[]⟩ [] []:Tm)])).map .p)),.val (.p (.fn 33)),.val (.agg ((Bg (.mk 0 4 ⟨#[]⟩ [] [])).map .p)),.val (.p (.lst (BO ([(.mk 4 0 ⟨#[]⟩ [] [(.mk 5 0 ⟨#[]⟩ [] ([(.mk 3 0 ⟨#[78,97,116]⟩ [] []),(.mk 0 0 ⟨#[]⟩ [] [])]):Tm),(.mk 0 3 ⟨#[]⟩ [] []:Tm)]),(.mk 0 4 ⟨#[]⟩ [] [])])))),.val (.agg ((Bg (.mk 4 0 ⟨#[]⟩ [] [(.mk 4 0 ⟨#[]⟩ [] [(.mk 3 0 ⟨#[112,108,117,115]⟩ [] []),(.mk 4 0 ⟨#[]⟩ [] [(.mk 5 0 ⟨#[]⟩ [] [(.mk 3 0 ⟨#[78,97,116]⟩ [] []:Tm),(.mk 0 0 ⟨#[]⟩ [] []:Tm)]:Tm),(.mk 0 3 ⟨#[]⟩ [] []:Tm)]:Tm)]:Tm),(.mk 0 4 ⟨#[]⟩ [] []:Tm)])).map .p)),.new [.p (I 0),.p (I 0),.p (.str ⟨#[]⟩),.p (.nils),.p (.nils)]] D7 O Ap Ap ?_;refine D5 O (fun Bs=>BB O) (D5 O (fun Bs=>BN O O (Iq ⟨#[112,108,117,115]⟩) O) (D5 O (fun Bs=>BB O) (D5 O (fun Bs=>BI (i:=Bs.length+1) Bd O (Cn O) O) (D5 O (fun Bs=>BB O) (D5 O (fun Bs=>BN O O (KZ 3) O) (D5 O (fun Bs=>CA (rows:=BO ([(.mk 0 3 ⟨#[]⟩ [] [])])) Bq B8 O O O O (CT (B9 _)) (FP _)) (D5 O (fun Bs=>G6 O O (Tk (.mk 5 0 ⟨#[]⟩ [] ([(.mk 3 0 ⟨#[78,97,116]⟩ [] []),(.mk 0 0 ⟨#[]⟩ [] [])]):Tm) (.mk 0 3 ⟨#[]⟩ [] []:Tm)) (aw (D9 O) (aw (we O) (FH)))) (D5 O (fun Bs=>BB O) (D5 O (fun Bs=>BN O O (KZ 4) O) ?_)))))))))
 refine D5 O (fun Bs=>CA (rows:=BO ([(.mk 4 0 ⟨#[]⟩ [] [(.mk 5 0 ⟨#[]⟩ [] ([(.mk 3 0 ⟨#[78,97,116]⟩ [] []),(.mk 0 0 ⟨#[]⟩ [] [])]):Tm),(.mk 0 3 ⟨#[]⟩ [] []:Tm)]),(.mk 0 4 ⟨#[]⟩ [] [])])) Bq B8 O O O O (CT (B9 _)) (FP _)) (D5 O (fun Bs=>BN O O (Vv (.mk 3 0 ⟨#[112,108,117,115]⟩ [] []) (.mk 4 0 ⟨#[]⟩ [] [(.mk 5 0 ⟨#[]⟩ [] [(.mk 3 0 ⟨#[78,97,116]⟩ [] []:Tm),(.mk 0 0 ⟨#[]⟩ [] []:Tm)]:Tm),(.mk 0 3 ⟨#[]⟩ [] []:Tm)]:Tm) (.mk 0 4 ⟨#[]⟩ [] []:Tm)) O) (Xv O (fun Bs=>BF B8 O) fun b7=>XO ?_))
 change AL _ _ _ 13 ⟨188,_,[.box b7 [.p (I 0),.p (I 0),.p (.str ⟨#[]⟩),.p (.nils),.p (.nils)],.box b5 ((Bg Lj).map .p),.box b3 [.p (I 5),.p (I 0),.p (.str ⟨#[]⟩),.p (.nils),.p (.lst (BO ([(.mk 3 0 ⟨#[78,97,116]⟩ [] []),(.mk 0 0 ⟨#[]⟩ [] [])])))]],[]⟩ _
 refine Az BA 1 [0,1] O (A1 (HG (M:=⟨188,mk [(1,.p (.fn 33)),(2,.p (.fn 34)),(3,.ptr b3 0),(4,.p (.lst (List.map Bw Dx))),(5,.ptr b5 0),(6,.p (I 0)),(7,.ptr b7 0)],[.box b7 ((Bg (.mk 4 0 ⟨#[]⟩ [] [(.mk 4 0 ⟨#[]⟩ [] [(.mk 3 0 ⟨#[112,108,117,115]⟩ [] []),(.mk 4 0 ⟨#[]⟩ [] [(.mk 5 0 ⟨#[]⟩ [] [(.mk 3 0 ⟨#[78,97,116]⟩ [] []:Tm),(.mk 0 0 ⟨#[]⟩ [] []:Tm)]:Tm),(.mk 0 3 ⟨#[]⟩ [] []:Tm)]:Tm)]:Tm),(.mk 0 4 ⟨#[]⟩ [] []:Tm)])).map .p),.box b5 ((Bg Lj).map .p),.box b3 [.p (I 5),.p (I 0),.p (.str ⟨#[]⟩),.p (.nils),.p (.lst (BO ([(.mk 3 0 ⟨#[78,97,116]⟩ [] []),(.mk 0 0 ⟨#[]⟩ [] [])])))]],[]⟩) (EP ⟨O,O,O,O,O,O,O,Aw⟩ (List.Sublist.refl _)) (A8 (A5 BA 2 [0] O (Ay O (BN O O (oo ) O) (A5 BA 3 [] O (BP O (BF B8 O) fun b8=>Az BA 2 [0,1] O (A1 ?_))))))));refine HG (M:=⟨188,mk [(1,.p (.fn 33)),(2,.p (.fn 34)),(3,.ptr b3 0),(4,.p (.lst (List.map Bw Dx))),(5,.ptr b5 0),(6,.p (I 0)),(7,.ptr b7 0),(8,.ptr b8 0),(9,.p (I 0))],[.box b8 ((Bg SX).map .p),.box b7 ((Bg (.mk 4 0 ⟨#[]⟩ [] [(.mk 4 0 ⟨#[]⟩ [] [(.mk 3 0 ⟨#[112,108,117,115]⟩ [] []),(.mk 4 0 ⟨#[]⟩ [] [(.mk 5 0 ⟨#[]⟩ [] [(.mk 3 0 ⟨#[78,97,116]⟩ [] []:Tm),(.mk 0 0 ⟨#[]⟩ [] []:Tm)]:Tm),(.mk 0 3 ⟨#[]⟩ [] []:Tm)]:Tm)]:Tm),(.mk 0 4 ⟨#[]⟩ [] []:Tm)])).map .p),.box b5 ((Bg Lj).map .p),.box b3 [.p (I 5),.p (I 0),.p (.str ⟨#[]⟩),.p (.nils),.p (.lst (BO ([(.mk 3 0 ⟨#[78,97,116]⟩ [] []),(.mk 0 0 ⟨#[]⟩ [] [])])))]],[]⟩) (EP ⟨O,O,O,O,O,O,O,O,O,Aw⟩ (List.Sublist.refl _)) (A8 (A5 BA 2 [1] O (Ay O (BN O O (pG ) O) (A5 BA 4 [] O (BP O (BF B8 O) fun b10=>?_)))))
 refine Az BA 3 [0,1] O (A1 (HG (M:=⟨188,mk [(1,.p (.fn 33)),(2,.p (.fn 34)),(3,.ptr b3 0),(4,.p (.lst (List.map Bw Dx))),(5,.ptr b5 0),(6,.p (I 0)),(7,.ptr b7 0),(8,.ptr b8 0),(9,.p (I 0)),(10,.ptr b10 0),(11,.p (.bool true)),(12,.p (I 0))],[.box b10 ((Bg OO).map .p),.box b8 ((Bg SX).map .p),.box b7 ((Bg (.mk 4 0 ⟨#[]⟩ [] [(.mk 4 0 ⟨#[]⟩ [] [(.mk 3 0 ⟨#[112,108,117,115]⟩ [] []),(.mk 4 0 ⟨#[]⟩ [] [(.mk 5 0 ⟨#[]⟩ [] [(.mk 3 0 ⟨#[78,97,116]⟩ [] []:Tm),(.mk 0 0 ⟨#[]⟩ [] []:Tm)]:Tm),(.mk 0 3 ⟨#[]⟩ [] []:Tm)]:Tm)]:Tm),(.mk 0 4 ⟨#[]⟩ [] []:Tm)])).map .p),.box b5 ((Bg Lj).map .p),.box b3 [.p (I 5),.p (I 0),.p (.str ⟨#[]⟩),.p (.nils),.p (.lst (BO ([(.mk 3 0 ⟨#[78,97,116]⟩ [] []),(.mk 0 0 ⟨#[]⟩ [] [])])))]],[]⟩) (EP ⟨O,O,O,O,O,O,O,O,O,O,O,O,Aw⟩ (List.Sublist.refl _)) ?_));refine B7 (fun k=>Nat.beq k 13) D7 (A0 O (fun _=>BB O) Aw (A0 O (fun _=>BB O) Aw (BT (j:=4) O O O (fun H i hi=>BI (i:=i) Bd O hi O) AB Aw (A0 O (fun _=>BB O) Aw (A0 O (fun _=>BN O O (KZ 2) O) Aw (A0 O (fun _=>CA (rows:=BO ([(.mk 0 2 ⟨#[]⟩ [] [])])) Bq B8 O O O O (CT (B9 _)) (FP _)) Aw (A0 O (fun _=>G6 O O (Tk (.mk 5 0 ⟨#[]⟩ [] ([(.mk 3 0 ⟨#[78,97,116]⟩ [] []),(.mk 0 0 ⟨#[]⟩ [] [])]):Tm) (.mk 0 2 ⟨#[]⟩ [] []:Tm)) (aw (D9 O) (aw (we O) (FH)))) Aw (A0 O (fun _=>CA (rows:=BO ([(.mk 4 0 ⟨#[]⟩ [] [(.mk 5 0 ⟨#[]⟩ [] ([(.mk 3 0 ⟨#[78,97,116]⟩ [] []),(.mk 0 0 ⟨#[]⟩ [] [])]):Tm),(.mk 0 2 ⟨#[]⟩ [] []:Tm)])])) Bq B8 O O O O (CT (B9 _)) (FP _)) Aw (A0 O (fun _=>CB DV B8 O) Aw ?_)))))))));refine A0 O (fun _=>G6 O O (mh ) (aw (we O) (aw (D9 O) (FH)))) Aw (A0 O (fun _=>BB O) Aw (A0 O (fun _=>By O O) Aw (A0 O (fun _=>By O O) Aw (HJ [] O O (BF B8 O) Ap fun b13=>⟨AB,Aw,?_⟩))));refine CF O O (Bc (i:=0) Bd O O O Am Aa (C5 _)) AB Aw (A0 O (fun _=>Bb O) Aw (Bv O Ap (A1 ?_)))
 refine HG (M:=⟨188,mk [(1,.p (.fn 33)),(2,.p (.fn 34)),(4,.p (.lst (List.map Bw Dx))),(5,.ptr b5 0),(6,.p (I 0)),(7,.ptr b7 0),(8,.ptr b8 0),(9,.p (I 0)),(10,.ptr b10 0),(11,.p (.bool true)),(12,.p (I 0)),(13,.ptr b13 0),(14,.p (I 0))],[.box b13 ((Bg O2).map .p),.box b10 ((Bg OO).map .p),.box b8 ((Bg SX).map .p),.box b7 ((Bg (.mk 4 0 ⟨#[]⟩ [] [(.mk 4 0 ⟨#[]⟩ [] [(.mk 3 0 ⟨#[112,108,117,115]⟩ [] []),(.mk 4 0 ⟨#[]⟩ [] [(.mk 5 0 ⟨#[]⟩ [] [(.mk 3 0 ⟨#[78,97,116]⟩ [] []:Tm),(.mk 0 0 ⟨#[]⟩ [] []:Tm)]:Tm),(.mk 0 3 ⟨#[]⟩ [] []:Tm)]:Tm)]:Tm),(.mk 0 4 ⟨#[]⟩ [] []:Tm)])).map .p),.box b5 ((Bg Lj).map .p),.box b3 [.p (I 5),.p (I 0),.p (.str ⟨#[]⟩),.p (.nils),.p (.lst (BO ([(.mk 3 0 ⟨#[78,97,116]⟩ [] []),(.mk 0 0 ⟨#[]⟩ [] [])])))]],[]⟩) (EP ⟨O,O,O,O,O,O,O,O,O,O,O,O,O,Aw⟩ (List.Sublist.refl _)) ?_;refine A8 (A5 BA 3 [] O (Ay O (BN O O (KZ 0) O) (Ay O (CA (rows:=BO ([(.mk 0 0 ⟨#[]⟩ [] [])])) Bq B8 O O O O (CT (B9 _)) (FP _)) (Ay O (G6 O O (Tk (.mk 12 0 ⟨#[]⟩ [] []:Tm) (.mk 0 0 ⟨#[]⟩ [] []:Tm)) (aw (D9 O) (aw (we O) (FH)))) (BP O (BF B8 O) fun b15=>Az BA 1 [0,1] O (A1 ?_))))));refine HG (M:=⟨188,mk [(1,.p (.fn 33)),(2,.p (.fn 34)),(4,.p (.lst (List.map Bw Dx))),(5,.ptr b5 0),(6,.p (I 0)),(7,.ptr b7 0),(8,.ptr b8 0),(9,.p (I 0)),(10,.ptr b10 0),(11,.p (.bool true)),(12,.p (I 0)),(13,.ptr b13 0),(14,.p (I 0)),(15,.ptr b15 0)],[.box b15 ((Bg (.mk 4 0 ⟨#[]⟩ [] [(.mk 12 0 ⟨#[]⟩ [] []:Tm),(.mk 0 0 ⟨#[]⟩ [] []:Tm)])).map .p),.box b13 ((Bg O2).map .p),.box b10 ((Bg OO).map .p),.box b8 ((Bg SX).map .p),.box b7 ((Bg (.mk 4 0 ⟨#[]⟩ [] [(.mk 4 0 ⟨#[]⟩ [] [(.mk 3 0 ⟨#[112,108,117,115]⟩ [] []),(.mk 4 0 ⟨#[]⟩ [] [(.mk 5 0 ⟨#[]⟩ [] [(.mk 3 0 ⟨#[78,97,116]⟩ [] []:Tm),(.mk 0 0 ⟨#[]⟩ [] []:Tm)]:Tm),(.mk 0 3 ⟨#[]⟩ [] []:Tm)]:Tm)]:Tm),(.mk 0 4 ⟨#[]⟩ [] []:Tm)])).map .p),.box b5 ((Bg Lj).map .p),.box b3 [.p (I 5),.p (I 0),.p (.str ⟨#[]⟩),.p (.nils),.p (.lst (BO ([(.mk 3 0 ⟨#[78,97,116]⟩ [] []),(.mk 0 0 ⟨#[]⟩ [] [])])))]],[]⟩) (EP ⟨O,O,O,O,O,O,O,O,O,O,O,O,O,O,Aw⟩ (List.Sublist.refl _)) ?_
 refine B7 (fun k=>false) D7 (A0 O (fun _=>BB O) Aw (A0 O (fun _=>BB O) Aw (A0 O (fun _=>BN O O (Iq ⟨#[112,108,117,115]⟩) O) Aw (BT (j:=0) O O O (fun H i hi=>BI (i:=i) Bd O hi Am) AB Aw (A0 O (fun _=>BB O) Aw (A0 O (fun _=>BN O O (KZ 1) O) Aw (A0 O (fun _=>CA (rows:=BO ([(.mk 4 0 ⟨#[]⟩ [] [(.mk 12 0 ⟨#[]⟩ [] []:Tm),(.mk 0 0 ⟨#[]⟩ [] []:Tm)]),(.mk 0 1 ⟨#[]⟩ [] [])])) Bq B8 O O O O (CT (B9 _)) (FP _)) Aw (A0 O (fun _=>BN O O (Vv (.mk 3 0 ⟨#[112,108,117,115]⟩ [] []) (.mk 4 0 ⟨#[]⟩ [] [(.mk 12 0 ⟨#[]⟩ [] []:Tm),(.mk 0 0 ⟨#[]⟩ [] []:Tm)]:Tm) (.mk 0 1 ⟨#[]⟩ [] []:Tm)) O) Aw (A0 O (fun _=>BN O O (ma ) O) Aw (A0 O (fun _=>BB O) Aw (A0 O (fun _=>By O O) Aw ?_)))))))))));refine A0 O (fun _=>By O O) Aw (A0 O (fun _=>By O O) Aw (A0 O (fun _=>Bb O) Aw (A0 O (fun _=>Bb O) Aw (A0 O (fun _=>Bb O) Aw (Bv O Ap (A1 ?_))))));refine HG (M:=⟨188,mk [(1,.p (.fn 33)),(2,.p (.fn 34)),(4,.p (.lst (List.map Bw Dx))),(5,.ptr b5 0),(6,.p (I 0)),(7,.ptr b7 0),(8,.ptr b8 0),(9,.p (I 0)),(10,.ptr b10 0),(11,.p (.bool true)),(12,.p (I 0)),(13,.ptr b13 0),(14,.p (I 0)),(15,.ptr b15 0),(16,.p (I 0)),(17,.p (.bool true)),(18,.p (I 0))],[.box b15 ((Bg (.mk 4 0 ⟨#[]⟩ [] [(.mk 12 0 ⟨#[]⟩ [] []:Tm),(.mk 0 0 ⟨#[]⟩ [] []:Tm)])).map .p),.box b13 ((Bg O2).map .p),.box b10 ((Bg OO).map .p),.box b8 ((Bg SX).map .p),.box b7 ((Bg (.mk 4 0 ⟨#[]⟩ [] [(.mk 4 0 ⟨#[]⟩ [] [(.mk 3 0 ⟨#[112,108,117,115]⟩ [] []),(.mk 4 0 ⟨#[]⟩ [] [(.mk 5 0 ⟨#[]⟩ [] [(.mk 3 0 ⟨#[78,97,116]⟩ [] []:Tm),(.mk 0 0 ⟨#[]⟩ [] []:Tm)]:Tm),(.mk 0 3 ⟨#[]⟩ [] []:Tm)]:Tm)]:Tm),(.mk 0 4 ⟨#[]⟩ [] []:Tm)])).map .p),.box b5 ((Bg Lj).map .p),.box b3 [.p (I 5),.p (I 0),.p (.str ⟨#[]⟩),.p (.nils),.p (.lst (BO ([(.mk 3 0 ⟨#[78,97,116]⟩ [] []),(.mk 0 0 ⟨#[]⟩ [] [])])))]],[]⟩) (EP ⟨O,O,O,O,O,O,O,O,O,O,O,O,O,O,O,O,O,Aw⟩ (List.Sublist.refl _)) ?_
 refine B7 (fun k=>false) D7 (A0 O (fun _=>BB O) Aw (A0 O (fun _=>BB O) Aw (A0 O (fun _=>BN O O (Iq ⟨#[115,117,99,99]⟩) O) Aw (BT (j:=0) O O O (fun H i hi=>BI (i:=i) Bd O hi Am) AB Aw (A0 O (fun _=>CA (rows:=BO ([(.mk 4 0 ⟨#[]⟩ [] [(.mk 12 0 ⟨#[]⟩ [] []:Tm),(.mk 0 0 ⟨#[]⟩ [] []:Tm)])])) Bq B8 O O O O (CT (B9 _)) (FP _)) Aw (A0 O (fun _=>BN O O (Tk (.mk 3 0 ⟨#[115,117,99,99]⟩ [] []) (.mk 4 0 ⟨#[]⟩ [] [(.mk 12 0 ⟨#[]⟩ [] []:Tm),(.mk 0 0 ⟨#[]⟩ [] []:Tm)]:Tm)) O) Aw (A0 O (fun _=>BN O O (oY ) O) Aw (A0 O (fun _=>BB O) Aw (A0 O (fun _=>By O O) Aw (A0 O (fun _=>By O O) Aw (A0 O (fun _=>By O O) Aw (A0 O (fun _=>Bb O) Aw (A0 O (fun _=>Bb O) Aw ?_)))))))))))));refine A0 O (fun _=>Bb O) Aw (Bv O Ap (A1 (A1 ?_)));refine HG (M:=⟨188,mk [(1,.p (.fn 33)),(2,.p (.fn 34)),(5,.ptr b5 0),(6,.p (I 0)),(7,.ptr b7 0),(8,.ptr b8 0),(9,.p (I 0)),(10,.ptr b10 0),(11,.p (.bool true)),(12,.p (I 0)),(13,.ptr b13 0),(14,.p (I 0)),(16,.p (I 0)),(17,.p (.bool true)),(18,.p (I 0)),(20,.p (.bool false)),(21,.p (I 0))],[.box b15 ((Bg (.mk 4 0 ⟨#[]⟩ [] [(.mk 12 0 ⟨#[]⟩ [] []:Tm),(.mk 0 0 ⟨#[]⟩ [] []:Tm)])).map .p),.box b13 ((Bg O2).map .p),.box b10 ((Bg OO).map .p),.box b8 ((Bg SX).map .p),.box b7 ((Bg (.mk 4 0 ⟨#[]⟩ [] [(.mk 4 0 ⟨#[]⟩ [] [(.mk 3 0 ⟨#[112,108,117,115]⟩ [] []),(.mk 4 0 ⟨#[]⟩ [] [(.mk 5 0 ⟨#[]⟩ [] [(.mk 3 0 ⟨#[78,97,116]⟩ [] []:Tm),(.mk 0 0 ⟨#[]⟩ [] []:Tm)]:Tm),(.mk 0 3 ⟨#[]⟩ [] []:Tm)]:Tm)]:Tm),(.mk 0 4 ⟨#[]⟩ [] []:Tm)])).map .p),.box b5 ((Bg Lj).map .p),.box b3 [.p (I 5),.p (I 0),.p (.str ⟨#[]⟩),.p (.nils),.p (.lst (BO ([(.mk 3 0 ⟨#[78,97,116]⟩ [] []),(.mk 0 0 ⟨#[]⟩ [] [])])))]],[]⟩) (EP ⟨O,O,O,O,O,O,O,O,O,O,O,O,O,O,O,O,O,Aw⟩ (List.Sublist.refl _)) ?_;refine A8 (Az BA 22 [] O ?_);refine A3 O (fun c=>by cases c) (fun c=>?_);refine A7 (A1 ?_)
 refine HG (M:=⟨188,mk [(1,.p (.fn 33)),(2,.p (.fn 34)),(5,.ptr b5 0),(7,.ptr b7 0),(8,.ptr b8 0),(10,.ptr b10 0),(11,.p (.bool true)),(13,.ptr b13 0),(16,.p (I 0)),(17,.p (.bool true)),(20,.p (.bool false))],[.box b15 ((Bg (.mk 4 0 ⟨#[]⟩ [] [(.mk 12 0 ⟨#[]⟩ [] []:Tm),(.mk 0 0 ⟨#[]⟩ [] []:Tm)])).map .p),.box b13 ((Bg O2).map .p),.box b10 ((Bg OO).map .p),.box b8 ((Bg SX).map .p),.box b7 ((Bg (.mk 4 0 ⟨#[]⟩ [] [(.mk 4 0 ⟨#[]⟩ [] [(.mk 3 0 ⟨#[112,108,117,115]⟩ [] []),(.mk 4 0 ⟨#[]⟩ [] [(.mk 5 0 ⟨#[]⟩ [] [(.mk 3 0 ⟨#[78,97,116]⟩ [] []:Tm),(.mk 0 0 ⟨#[]⟩ [] []:Tm)]:Tm),(.mk 0 3 ⟨#[]⟩ [] []:Tm)]:Tm)]:Tm),(.mk 0 4 ⟨#[]⟩ [] []:Tm)])).map .p),.box b5 ((Bg Lj).map .p),.box b3 [.p (I 5),.p (I 0),.p (.str ⟨#[]⟩),.p (.nils),.p (.lst (BO ([(.mk 3 0 ⟨#[78,97,116]⟩ [] []),(.mk 0 0 ⟨#[]⟩ [] [])])))]],[]⟩) (EP ⟨O,O,O,O,O,O,O,O,O,O,O,Aw⟩ (List.Sublist.refl _)) ?_;refine B7 (fun k=>false) D7 (BT (j:=5) O O O (fun H i hi=>BI (i:=i) Bd O hi Am) AB Aw (A0 O (fun _=>BB O) Aw (A0 O (fun _=>BN O O (Iq ⟨#[115,117,99,99]⟩) O) Aw (A0 O (fun _=>BB O) Aw (A0 O (fun _=>BN O O (Iq ⟨#[112,108,117,115]⟩) O) Aw (A0 O (fun _=>BB O) Aw (A0 O (fun _=>BN O O (KZ 3) O) Aw (A0 O (fun _=>BB O) Aw (A0 O (fun _=>BN O O (KZ 4) O) Aw (A0 O (fun _=>CA (rows:=BO ([(.mk 0 3 ⟨#[]⟩ [] []),(.mk 0 4 ⟨#[]⟩ [] [])])) Bq B8 O O O O (CT (B9 _)) (FP _)) Aw (A0 O (fun _=>BN O O (Vv (.mk 3 0 ⟨#[112,108,117,115]⟩ [] []) (.mk 0 3 ⟨#[]⟩ [] []:Tm) (.mk 0 4 ⟨#[]⟩ [] []:Tm)) O) Aw ?_)))))))))));refine A0 O (fun _=>CA (rows:=BO ([(.mk 4 0 ⟨#[]⟩ [] [(.mk 4 0 ⟨#[]⟩ [] [(.mk 3 0 ⟨#[112,108,117,115]⟩ [] []),(.mk 0 3 ⟨#[]⟩ [] []:Tm)]:Tm),(.mk 0 4 ⟨#[]⟩ [] []:Tm)])])) Bq B8 O O O O (CT (B9 _)) (FP _)) Aw (A0 O (fun _=>BN O O (Tk (.mk 3 0 ⟨#[115,117,99,99]⟩ [] []) (.mk 4 0 ⟨#[]⟩ [] [(.mk 4 0 ⟨#[]⟩ [] [(.mk 3 0 ⟨#[112,108,117,115]⟩ [] []:Tm),(.mk 0 3 ⟨#[]⟩ [] []:Tm)]:Tm),(.mk 0 4 ⟨#[]⟩ [] []:Tm)]:Tm)) O) Aw (A0 O (fun _=>BN O O (jB ) O) Aw (A0 O (fun _=>BB O) Aw (Co (i:=3) O O O O O (fun H i hi=>BI (i:=i) Bd O hi Am) AB Aw (Co (i:=4) O O O O O (fun H i hi=>BI (i:=i) Bd O hi Am) AB Aw (Be O (fun _=>BN O O (iq ) O) Aw (A0 O (fun _=>B2 O O) Aw (A0 O (fun _=>BB O) Aw ?_))))))))
 refine Be O (fun _=>BB O) Aw (A0 O (fun _=>B2 O O) Aw (A0 O (fun _=>BB O) Aw (Co (i:=2) O O O O O (fun H i hi=>BI (i:=i) Bd O hi Am) AB Aw (Be O (fun _=>BB O) Aw (Be O (fun _=>BN O O (Iq ⟨#[112,108,117,115]⟩) O) Aw (Be O (fun _=>BB O) Aw (Be O (fun _=>BN O O (KZ 3) O) Aw (Be O (fun _=>BB O) Aw (Be O (fun _=>BN O O (KZ 4) O) Aw (Be O (fun _=>CA (rows:=BO ([(.mk 0 3 ⟨#[]⟩ [] []),(.mk 0 4 ⟨#[]⟩ [] [])])) Bq B8 O O O O (CT (B9 _)) (FP _)) Aw (Be O (fun _=>BN O O (Vv (.mk 3 0 ⟨#[112,108,117,115]⟩ [] []) (.mk 0 3 ⟨#[]⟩ [] []:Tm) (.mk 0 4 ⟨#[]⟩ [] []:Tm)) O) Aw (Be O (fun _=>BN O O (iD ) O) Aw (A0 O (fun _=>B2 O O) Aw ?_)))))))))))));refine A0 O (fun _=>BB O) Aw (Co (i:=1) O O O O O (fun H i hi=>BI (i:=i) Bd O hi Am) AB Aw (Be O (fun _=>BB O) Aw (Be O (fun _=>BN O O (KZ 2) O) Aw (Be O (fun _=>CA (rows:=BO ([(.mk 0 2 ⟨#[]⟩ [] [])])) Bq B8 O O O O (CT (B9 _)) (FP _)) Aw (Be O (fun _=>CB DV B8 O) Aw (Be O (fun _=>G6 O O (gY ) (aw (we O) (aw (D9 O) (FH)))) Aw (A0 O (fun _=>B2 O O) Aw (A0 O (fun _=>BB O) Aw (Be O (fun _=>BB O) Aw (Be O (fun _=>C4 O O O) Aw (A0 O (fun _=>B2 O O) Aw (A0 O (fun _=>BB O) Aw (Be O (fun _=>BB O) Aw (A0 O (fun _=>B2 O O) Aw (A0 O (fun _=>BB O) Aw (Be O (fun _=>BB O) Aw (Be O (fun _=>MT O) Aw ?_)))))))))))))))));refine A0 O (fun _=>B2 O O) Aw (A0 O (fun _=>Bb O) Aw (Bv O Ap (A6 (⟨O,_,_,⟨_,_,O,O,O⟩,(List.nil_sublist _),?_⟩))))
 all_goals exact⟨rfl,rfl⟩
end Go.Proofs.YtboammbpdaoojaaGreat
