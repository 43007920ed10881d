/- Part of the proofs: an abstract program logic, plain models and contracts of functions. -/
import Derived.Test.YtboammbpdaoojaaGreatPi
import Derived.Test.YtboammbpdaoojaaGreatPd
import Derived.Test.YtboammbpdaoojaaGreatPb
import Derived.Test.YtboammbpdaoojaaGreatPg
set_option linter.unusedVariables false
set_option linter.unusedSimpArgs false
set_option maxRecDepth 100000
namespace Go.Proofs.YtboammbpdaoojaaGreat
open Go.Abs Go.Eu
def rF (ds:List CM) (n:Nat):Prop:=∀(b:Nat) (t:Tm) (c c2:Ik) (q:Option Tm),EN ds jB n c t= .ok (q,c2)→Bu Tryz.prog 17 [.p (.lst (List.map Bo ds)),.agg ((BU t).map .p),.ptr b 0] [.box b ((ZV c).map .p)] (HM (.tup [TV (q.getD Be),.p (.bool q.isSome)]) [.box b ((ZV c2).map .p)])
end Go.Proofs.YtboammbpdaoojaaGreat
namespace Go.Eu
open Go.Abs
mutual
theorem cK {vars m:Int}(hv:vars≤549755813888):∀(t:Tm) (d:Int),wf vars m d t→0≤d→d+size t≤1073741824→Vp t
 | .mk k i n l ks,d,h,h0,h1=>by
  simp only[wf,size] at h h1;exact⟨fun e=>by have:=h.2.2.2.1 e;omega,YR hv ks k d 0 h.2.2.2.2.2 h0 Ar⟩
theorem YR {vars m:Int}(hv:vars≤549755813888):∀(ts:List Tm) (k d:Int) (j:Nat),fW vars m k d j ts→0≤d→d+1+Bg ts≤1073741824→SU ts
 | [],k,d,j,h,h0,h1=>trivial
 | t::ts,k,d,j,h,h0,h1=>by
  have:=DD k j;simp only[fW,Bg] at h h1;have:=size_pos t;exact⟨cK hv t _ h.1 Ar Ar,YR hv ts k d (j+1) h.2 h0 Ar⟩
end
theorem Z3 {t:Tm}{vars m:Int}(hn:Nd t) (hs:size t<1000000) (hv:vars≤549755813888) (h:wf (max vars 0) m 0 t):okB t=true :=
 Ch.2 ⟨hn,gx t 0 h,cK Ar t 0 h Ar Ar,by omega⟩
def X2 (d:CM):Prop:=(d.kind≠1→d.kind≠2→d.value=Be)∧(d.kind≠3→d.recs.rules.length=0∧d.fixed=0)∧(d.kind≠4→d.funs.length=0)
def T8 (d:CM):Prop:=0≤d.fixed∧(∀f∈d.funs,1≤f.arity∧f.arity≤16)∧(d.kind=3→d.fixed≤1000000)
def dM (d:CM):Prop:=(d.kind=1∨d.kind=2→okB d.value=true)∧(d.kind=3→∀t∈d.recs.rules,okB t=true)∧(d.kind=4→∀f∈d.funs,FJ f.tree)
theorem kX {d:CM}(h:OD d) (hk:0≤d.kind∧d.kind≤4) (hu:X2 d) (hc:T8 d) (ht:dM d):DG d:=by
 obtain⟨u1,u2,u3⟩:=hu;obtain⟨c1,c2,c3⟩:=hc;obtain⟨t1,t2,t3⟩:=ht;refine⟨h,⟨c1,?_⟩,?_,?_,fun f hf=>⟨(c2 f hf).1,(c2 f hf).2,?_⟩⟩
 ·by_cases h3:d.kind=3
  ·exact c3 h3
  rw[(u2 h3).2];omega
 ·by_cases h1:d.kind=1∨d.kind=2
  ·exact t1 h1
  rw[u1 Ar Ar];exact Gp
 ·by_cases h3:d.kind=3
  ·exact t2 h3
  intro t ht;rw[List.length_eq_zero_iff.1 (u2 h3).1] at ht;cases ht
 by_cases h4:d.kind=4
 ·exact t3 h4 f hf
 rw[List.length_eq_zero_iff.1 (u3 h4)] at hf;cases hf
def Rr (d:CM):Prop:=size d.value≤400∧(∀t∈d.recs.rules,size t≤400)∧∀f∈d.funs,Dn f.tree≤50
theorem gm {ds:List CM}(h:L3 ds) (hf:∀d∈ds,Rr d):HD ds:=⟨h,fun d hd=>(hf d hd).1,fun d hd=>(hf d hd).2.1,fun d hd=>(hf d hd).2.2⟩
theorem QY {n:Nat}:∀{l:List GF},(∀x∈l,Dn x.tree≤n)→Jv l≤n
 | [],_=>by simp[Jv]
 | .mk c a t::l,h=>by
  have h1:=h (.mk c a t) As;have h2:=QY (n:=n) (l:=l) fun x hx=>h x (by simp[hx]);simp only[Jv,WQ,GF.tree] at *;omega
theorem Zr {n:Nat}{t:FE}(h:∀x∈t.branches,Dn x.tree≤n):Dn t≤n+1:=by
 obtain⟨k,b,v,l⟩:=t;have h1:=QY (n:=n) (l:=l) h;simp only[Dn];omega
theorem R4:∀{l:List GF},(∀x∈l,FJ x.tree)→QS l
 | [],_=>trivial
 | .mk c a t::l,h=>⟨h (.mk c a t) As,R4 fun x hx=>h x (by simp[hx])⟩
theorem P9 {t:FE}(h0:okB t.body=true) (h:∀x∈t.branches,FJ x.tree):FJ t:=by
 obtain⟨k,b,v,l⟩:=t;exact⟨h0,R4 h⟩
theorem Wn {t:FE}(h0:NQ t.body Be=true) (h:t.branches.length=0):FJ t :=
 P9 (by rw[HY.1 h0];exact Gp) (fun x hx=>by rw[List.length_eq_zero_iff.1 h] at hx;cases hx)
theorem Hc {α:Type}{p:α→Prop}{l:List α}{n:Nat}(hn:l.length≤n) (h:∀j,j<n→∀x,l[j]?=some x→p x):∀x∈l,p x:=fun x hx=>by
 obtain⟨j,hj⟩:=List.mem_iff_getElem?.1 hx;exact h j (by have:=(List.getElem?_eq_some_iff.1 hj).1;omega) x hj
theorem YW {ds:List CM}{i:Nat}(h:Ho ds) (hC:∀j,j<i→∀x,ds[j]?=some x→DG x):L3 (ds.take i) :=
 ⟨h.take i,fun d hd=>by
  obtain⟨j,hj⟩:=List.mem_iff_getElem?.1 hd;have hlt:=(List.getElem?_eq_some_iff.1 hj).1;rw[List.length_take] at hlt;rw[List.getElem?_take_of_lt Ar] at hj;exact hC j Ar d hj⟩
theorem ja {α:Type}{l:List α}(h:l.length=0) {p:α→Prop}:∀x∈l,p x:=fun x hx=>by
 rw[List.length_eq_zero_iff.1 h] at hx;cases hx
theorem gZ {t:FE}{dp:Int}(hd:dp≤40) (h:∀x∈t.branches,(Dn x.tree:Int)≤42 - (dp+1)):(Dn t:Int)≤42 - dp:=by
 have:=Zr (n:=(42 - (dp+1)).toNat) (t:=t) fun x hx=>by have:=h x hx;omega
 omega
theorem O3 {t:Tm}(h:To t) (hs:Fo t≤400):size t≤400:=by
 have h1:=Qb (t:=t) (by have:=h.sz;omega);omega
theorem aM {d:CM}(h:OD d) (hv:Fo d.value≤400) (hr:∀t∈d.recs.rules,Fo t≤400) (hf:∀f∈d.funs,(Dn f.tree:Int)≤42 - 0):Rr d :=
 ⟨O3 h.vl hv,fun t ht=>O3 (h.rs t ht) (hr t ht),fun f hm=>by have:=hf f hm;omega⟩
structure bQ (ds:List CM) (l:List Tm):Prop where
 env:HD ds
 ok:∀t∈l,okB t=true
 sz:Bg l≤60
 few:ds.length≤70
theorem aZ {ds:List CM}{l:List Tm}(hn:EL l 60 0≤60) (hg:Wy l∧∀t∈l,okB t=true) (he:HD ds∧ds.length≤70):bQ ds l :=
 ⟨he.1,hg.2,by have:=VL hg.1 Ar hn;omega,he.2⟩
theorem Yi {l:List Tm}(h:Wy l):l.length<1000000:=by
 have:=h.sz;have:=Fx l;omega
theorem Wm {l:List Tm}(h:Wy l∧∀t∈l,okB t=true):∀x∈l,okB x=true∧size x<1000000:=fun x hx =>
 ⟨h.2 x hx,by have:=h.1.sz;have:=HR hx;omega⟩
end Go.Eu
namespace Go.Proofs.YtboammbpdaoojaaGreat
open Go.Abs Go.Eu
theorem Vy:∀(d:CM),(OD d)→(0≤d.kind∧d.kind≤4)→FX Tryz.prog 133 [.agg ((Bo d).map .p)] (fun v=>∃bb:Bool,v= .p (.bool bb)∧(bb=true→X2 d)):=by
 intro d h1 h2;refine A9 Tryz.func133 O kZ (n:=87) O O (A3 (BP O (BY O) fun b1=>Ax A8 1 [] O (Az (Bb [1] 3 (fun y=>y= .p (.bool ((((d.recs.params:Int)==(0:Int))&&(NQ d.recs.type Be))&&(((d.recs.rules.length:Nat):Int)==(0:Int))))) ?_ ?_))))
 ·refine A7 (A2 A8 2 [] O (Av O (A6 (i:=0) C7 O O (DU _)) (A2 A8 2 [] O (BQ 9 O (fun g=>?_) (fun g=>?_)))))
  ·(try simp only[sd,se] at g);refine A2 A8 2 [] O (BF O (B4 (i:=0) Ba O O (Em _) (BJ _)) (BF O (BM O O (Je d.recs.type (by first | exact h1.rt.nd | exact h1.vl.nd | exact h1.ty.nd)) O) (A2 A8 2 [] O (BQ 15 O (fun g1=>?_) (fun g1=>?_)))))
   ·(try simp only[sd,se] at g1);exact A2 A8 2 [] O (BF O (A6 (i:=0) E3 O O (Cr _)) (BF O (BS Br O (Bc _)) (Ax A8 3 [] O (⟨O,O,AK,AI,⟨O,Au⟩⟩))))
   (try simp only[sd,se] at g1);exact Ax A8 7 [] O (⟨O,O,AK,AI,⟨O,Au⟩⟩)
  (try simp only[sd,se] at g);exact Ax A8 13 [] O (⟨O,O,AK,AI,⟨O,Au⟩⟩)
 rintro _ rfl;refine Az (Bb [1] 4 (fun y=>y= .p (.bool ((((d.fixed:Int)==(0:Int))&&(((d.ctors.length:Nat):Int)==(0:Int)))&&((((d.recs.params:Int)==(0:Int))&&(NQ d.recs.type Be))&&(((d.recs.rules.length:Nat):Int)==(0:Int)))))) ?_ ?_)
 ·refine A7 (Av O (Aw Cm O O) (Av O (A6 (i:=0) C7 O O (DY _)) (A2 A8 2 [] O (BQ 25 O (fun g=>?_) (fun g=>?_)))))
  ·(try simp only[sd,se] at g);refine BF O (Aw Cm O O) (BF O (A6 (i:=0) IM O O (CJ _)) (BF O (BS Hu O (List.length_map _)) (A2 A8 3 [] O (BQ 31 O (fun g1=>?_) (fun g1=>?_)))))
   ·(try simp only[sd,se] at g1);exact Ax A8 3 [] O (⟨O,O,AK,AI,⟨O,Au⟩⟩)
   (try simp only[sd,se] at g1);exact Ax A8 3 [] O (⟨O,O,AK,AI,⟨O,Au⟩⟩)
  (try simp only[sd,se] at g);exact Ax A8 9 [] O (⟨O,O,AK,AI,⟨O,Au⟩⟩)
 rintro _ rfl;refine Az (A3 (Av O (Aw Cm O O) (Av O (A6 (i:=0) C7 O O (Du _)) (Bk O (BH (Ay A8 2 [] O (A0 O (fun c=>?_) (fun c=>?_))))))))
 ·(try simp only[sd,se] at c);refine Az (Bb [] 2 (fun y=>y= .p (.bool (((NQ d.value Be)&&((((d.fixed:Int)==(0:Int))&&(((d.ctors.length:Nat):Int)==(0:Int)))&&((((d.recs.params:Int)==(0:Int))&&(NQ d.recs.type Be))&&(((d.recs.rules.length:Nat):Int)==(0:Int)))))&&(((d.funs.length:Nat):Int)==(0:Int))))) ?_ ?_)
  ·refine A7 (Av O (Aw Cm O O) (Av O (B4 (i:=0) Ba O O (Fa _) (BJ _)) (Av O (BM O O (Je d.value (by first | exact h1.rt.nd | exact h1.vl.nd | exact h1.ty.nd)) O) (B0 O (BQ 41 O (fun g=>?_) (fun g=>?_))))))
   ·(try simp only[sd,se] at g);refine A2 A8 3 [] O (BQ 44 O (fun g1=>?_) (fun g1=>?_))
    ·(try simp only[sd,se] at g1);exact BF O (Aw Cm O O) (BF O (A6 (i:=0) HS O O (CI _)) (BF O (BS G9 O (List.length_map _)) (Ax A8 3 [] O ⟨O,O,AK,AI,Au⟩)))
    (try simp only[sd,se] at g1);exact Ax A8 6 [] O ⟨O,O,AK,AI,Au⟩
   (try simp only[sd,se] at g);exact Ax A8 9 [] O ⟨O,O,AK,AI,Au⟩
  rintro _ rfl;refine A4 (⟨O,_,_,⟨_,_,O,O,O⟩,(List.nil_sublist _),?_⟩)
  all_goals exact⟨⟨_,rfl,fun h=>by simp only[Bool.and_eq_true,beq_iff_eq,decide_eq_true_eq,HY] at h;refine⟨fun _ _=>?_,fun _=>⟨?_,?_⟩,fun _=>?_⟩<;>first | omega | (simp_all;done)⟩,rfl⟩
 (try simp only[sd,se] at c);refine Az (Ay A8 2 [] O (Bb [1,4,35] 50 (fun y=>y= .p (.bool (decide (d.kind=1∨d.kind=2)))) ?_ ?_))
 ·refine A0 O (fun c1=>?_) (fun c1=>?_)
  ·(try simp only[sd,se] at c1);exact A5 (⟨O,O,(List.Sublist.refl _),(by refine pB (Bool.eq_iff_iff.2 ?_);simp only[beq_iff_eq,decide_eq_true_eq];omega),⟨O,O,O,Au⟩⟩)
  (try simp only[sd,se] at c1);exact A7 (Ax A8 2 [] O (⟨O,O,(List.Sublist.refl _),(by refine pB (Bool.eq_iff_iff.2 ?_);simp only[beq_iff_eq,decide_eq_true_eq];omega),⟨O,O,O,Au⟩⟩))
 rintro _ rfl;refine A0 O (fun c1=>?_) (fun c1=>?_)
 ·(try simp only[sd,se] at c1);refine Az (Bb [] 2 (fun y=>y= .p (.bool (((((d.fixed:Int)==(0:Int))&&(((d.ctors.length:Nat):Int)==(0:Int)))&&((((d.recs.params:Int)==(0:Int))&&(NQ d.recs.type Be))&&(((d.recs.rules.length:Nat):Int)==(0:Int))))&&(((d.funs.length:Nat):Int)==(0:Int))))) ?_ ?_)
  ·refine A7 (A2 A8 2 [] O (BQ 54 O (fun g=>?_) (fun g=>?_)))
   ·(try simp only[sd,se] at g);exact BF O (Aw Cm O O) (BF O (A6 (i:=0) HS O O (CI _)) (BF O (BS G9 O (List.length_map _)) (Ax A8 3 [] O ⟨O,O,AK,AI,Au⟩)))
   (try simp only[sd,se] at g);exact Ax A8 6 [] O ⟨O,O,AK,AI,Au⟩
  rintro _ rfl;refine A4 (⟨O,_,_,⟨_,_,O,O,O⟩,(List.nil_sublist _),?_⟩)
  all_goals exact⟨⟨_,rfl,fun h=>by simp only[Bool.and_eq_true,beq_iff_eq,decide_eq_true_eq,HY] at h;refine⟨fun _ _=>?_,fun _=>⟨?_,?_⟩,fun _=>?_⟩<;>first | omega | (simp_all;done)⟩,rfl⟩
 (try simp only[sd,se] at c1);refine Ay A8 2 [] O (A0 O (fun c2=>?_) (fun c2=>?_))
 ·(try simp only[sd,se] at c2);refine Az (Bb [] 2 (fun y=>y= .p (.bool ((NQ d.value Be)&&(((d.funs.length:Nat):Int)==(0:Int))))) ?_ ?_)
  ·refine A7 (Av O (Aw Cm O O) (Av O (B4 (i:=0) Ba O O (Fa _) (BJ _)) (Av O (BM O O (Je d.value (by first | exact h1.rt.nd | exact h1.vl.nd | exact h1.ty.nd)) O) (B0 O (BQ 65 O (fun g=>?_) (fun g=>?_))))))
   ·(try simp only[sd,se] at g);exact BF O (Aw Cm O O) (BF O (A6 (i:=0) HS O O (CI _)) (BF O (BS G9 O (List.length_map _)) (Ax A8 3 [] O ⟨O,O,AK,AI,Au⟩)))
   (try simp only[sd,se] at g);exact Ax A8 6 [] O ⟨O,O,AK,AI,Au⟩
  rintro _ rfl;refine A4 (⟨O,_,_,⟨_,_,O,O,O⟩,(List.nil_sublist _),?_⟩)
  all_goals exact⟨⟨_,rfl,fun h=>by simp only[Bool.and_eq_true,beq_iff_eq,decide_eq_true_eq,HY] at h;refine⟨fun _ _=>?_,fun _=>⟨?_,?_⟩,fun _=>?_⟩<;>first | omega | (simp_all;done)⟩,rfl⟩
 (try simp only[sd,se] at c2);refine A5 (Az (Bb [] 2 (fun y=>∃q:Bool,y= .p (.bool q)∧(q=true→NQ d.value Be=true∧d.fixed=0∧d.recs.rules.length=0)) ?_ ?_))
 ·refine A7 (Av O (Aw Cm O O) (Av O (A6 (i:=0) Lz O O (De _)) (Av O (F4 O O) (B0 O (BQ 74 O (fun g=>?_) (fun g=>?_))))))
  ·(try simp only[sd,se] at g);refine BF O (Aw Cm O O) (BF O (B4 (i:=0) Ba O O (FO _) (BJ _)) (BF O (BM O O (Je d.type (by first | exact h1.rt.nd | exact h1.vl.nd | exact h1.ty.nd)) O) (A2 A8 2 [] O (BQ 79 O (fun g1=>?_) (fun g1=>?_)))))
   ·(try simp only[sd,se] at g1);refine BF O (Aw Cm O O) (BF O (B4 (i:=0) Ba O O (Fa _) (BJ _)) (BF O (BM O O (Je d.value (by first | exact h1.rt.nd | exact h1.vl.nd | exact h1.ty.nd)) O) (A2 A8 2 [] O (BQ 84 O (fun g2=>?_) (fun g2=>?_)))))
    ·(try simp only[sd,se] at g2);refine Ax A8 3 [] O ?_;exact⟨rfl,rfl,AK,(by refine⟨_,rfl,fun h=>?_⟩;first | (exact absurd h Aq) | (refine⟨by simpa using Ao,?_,?_⟩<;>(simp only[Bool.and_eq_true,beq_iff_eq,decide_eq_true_eq] at h;omega))),trivial⟩
    (try simp only[sd,se] at g2);refine Ax A8 3 [] O ?_;exact⟨rfl,rfl,AK,(by refine⟨_,rfl,fun h=>?_⟩;first | (exact absurd h Aq) | (refine⟨by simpa using Ao,?_,?_⟩<;>(simp only[Bool.and_eq_true,beq_iff_eq,decide_eq_true_eq] at h;omega))),trivial⟩
   (try simp only[sd,se] at g1);refine Ax A8 8 [] O ?_;exact⟨rfl,rfl,AK,(by refine⟨_,rfl,fun h=>?_⟩;first | (exact absurd h Aq) | (refine⟨by simpa using Ao,?_,?_⟩<;>(simp only[Bool.and_eq_true,beq_iff_eq,decide_eq_true_eq] at h;omega))),trivial⟩
  (try simp only[sd,se] at g);refine Ax A8 13 [] O ?_;exact⟨rfl,rfl,AK,(by refine⟨_,rfl,fun h=>?_⟩;first | (exact absurd h Aq) | (refine⟨by simpa using Ao,?_,?_⟩<;>(simp only[Bool.and_eq_true,beq_iff_eq,decide_eq_true_eq] at h;omega))),trivial⟩
 rintro _ ⟨q,rfl,hq⟩;refine A4 (⟨O,_,_,⟨_,_,O,O,O⟩,(List.nil_sublist _),?_⟩)
 all_goals exact⟨⟨_,rfl,fun h=>by obtain⟨q1,q2,q3⟩:=hq h;rw[HY] at q1;exact⟨fun _ _=>q1,fun _=>⟨q3,q2⟩,fun _=>by omega⟩⟩,rfl⟩
theorem Ou:∀(t:Tm),(To t)→FX Tryz.prog 171 [.agg ((BU t).map .p)] (fun v=>∃e:Int,v= .p (I e)∧0≤e∧e≤size t):=by
 intro t h1;have hsz:=h1.sz;refine A9 Tryz.func171 O kx (n:=20) O O (A3 (BP O (BY O) fun b1=>Ax A8 1 [] O (Ay A8 1 [] O (Az (BH ?_)))));refine Bn (α:=Tm×Int) (fun(y,m)=>⟨20,mk [(1,.ptr b1 0),(3,.p (I m))],[.box b1 ((BU y).map .p)],[]⟩) (fun(y,m)=>size y) (fun(y,m)=>Nd y∧0≤m∧m+size y≤size t) ⟨t,0⟩ (⟨h1.nd,by omega,by omega⟩) ?_ ?_
 ·exact Bh ⟨we O,we O,Au⟩ (leH (is:=[0]) O (wl (oe O) (Dd)))
 rintro⟨y,m⟩ hC
 try simp only at hC
 obtain⟨hC,hm0,hm1⟩:=hC;refine Az (Az ?_);obtain⟨yk,yi,yn,yl,ys⟩:=y;refine Bb [1,3] 12 (fun y=>y= .p (.bool (((yk:Int)==(6:Int))&&(((ys.length:Nat):Int)==(2:Int))))) ?_ ?_
 ·refine A7 (A2 A8 4 [0] O (BQ 7 O (fun g=>?_) (fun g=>?_)))
  ·(try simp only[sd,se] at g);exact A2 A8 2 [0] O (BF O (BS Br O (Bc _)) (Ax A8 2 [] O (⟨O,O,AK,AI,⟨O,O,Au⟩⟩)))
  (try simp only[sd,se] at g);exact Ax A8 5 [] O (⟨O,O,AK,AI,⟨O,O,Au⟩⟩)
 rintro _ rfl;refine A0 O (fun c=>?_) (fun c=>?_)
 ·(try simp only[sd,se] at c);refine A5 (BH (Ay A8 3 [] O (A7 (A2 A8 2 [0] O ?_))));obtain⟨x,hx⟩:=BB (l:=ys) (i:=1) (by first | omega | (simp at c;omega));refine Av O (BA Br O O Ar (Bj hx) (BJ _)) (Ax A8 2 [0,1] O ?_);refine⟨⟨x,(m:Int)+(1:Int)⟩,(by have:=Cj hx;simp only[size];omega),⟨Dy hC.2.2.2.2.1 hx,by omega,by have:=Cj hx;simp only[size] at hm1;omega⟩,Bh ⟨we rfl,we rfl,trivial⟩ (leH (is:=[0]) rfl (wl (oe rfl) (Dd)))⟩
 (try simp only[sd,se] at c);refine Bp (Ay A8 2 [] O (A4 (⟨O,_,_,⟨_,_,O,O,O⟩,(List.nil_sublist _),?_⟩)))
 all_goals exact⟨⟨_,rfl,by omega,by simp only[size] at hm1;omega⟩,rfl⟩
theorem Ry:∀(d:CM),(OD d)→FX Tryz.prog 150 [.agg ((Bo d).map .p)] (fun v=>∃bb:Bool,v= .p (.bool bb)∧(bb=true→d.fixed≤1000000)):=by
 intro d h1;have hcl:=h1.cl;have hts:=h1.ty.sz;refine A9 Tryz.func150 O m5 (n:=32) O O (A3 (BP O (BY O) fun b1=>Ax A8 1 [] O (Az (CG (fun k=>Nat.beq k 2) Eg (A1 O (fun _=>Aw Cm O O) Au (BT (j:=0) O O O (fun H i hi=>B4 (i:=i) Ba O hi (FO _) (BJ _)) AB Au ?_))))));refine JN [(3,.free (.ptr b1 13)),(4,.read [.box b1 ((Bo d).map .p)] (.p (I d.fixed)))] O O (B7 O O (Ou d.type h1.ty) (.inl O)) An (⟨_,0,O,by omega,by omega⟩) AB ?_;rintro _ ⟨e,rfl,he0,he1⟩;refine⟨Au,?_⟩;refine A1 O (fun _=>Aw Cm O O) AN (BT (j:=0) O O O (fun H i hi=>A6 (i:=i) C7 O hi (DY _)) AB AN (A1 O (fun _=>D8 O O O) AN (A1 O (fun _=>Bf O) AN (B6 O An (Az (Ay A8 1 [] O (BH ?_)))))));refine Bn (α:=Nat×Bool) (fun(i,b)=>⟨32,mk [(1,.ptr b1 0),(3,.p (.bool b)),(4,.p (I (i:Int)))],[.box b1 ((Bo d).map .p)],[]⟩) (fun(i,b)=>d.ctors.length - i) (fun(i,b)=>i≤d.ctors.length∧(b=true→d.fixed≤1000000)) ⟨0,(decide ((e:Int)≥(d.fixed:Int)))⟩ (⟨by omega,fun h=>by simp only[decide_eq_true_eq] at h;omega⟩) ?_ ?_
 ·exact Bh ⟨we O,we O,we O,Au⟩ (leH (is:=[0]) O (wl (oe O) (Dd)))
 rintro⟨i,b⟩ hC
 try simp only at hC
 obtain⟨hi,hC⟩:=hC;refine Az (A3 (A2 A8 2 [] O (Av O (A6 (i:=0) IM O O (CJ _)) (Av O (BS Hu O (List.length_map _)) (Ax A8 1 [] O (A0 O (fun c=>?_) (fun c=>?_)))))))
 ·(try simp only[sd,se] at c);refine A5 (Az (BH (Bb [1,4] 3 (fun y=>∃q:Bool,y= .p (.bool q)∧(q=true→b=true)) ?_ ?_)))
  ·refine CG (fun k=>Nat.beq k 8) Eg (A1 O (fun _=>BC O) Au (A1 O (fun _=>BC O) Au (GX 19 O (fun g=>?_) (fun g=>?_))))
   ·(try simp only[sd,se] at g);refine By O (fun _=>Aw Cm O O) Au (Dl (i:=0) O O O O O (fun H i hi=>A6 (i:=i) IM O hi (CJ _)) AB Au (By O (fun _=>BC O) Au ?_));obtain⟨x,hx⟩:=BB (l:=d.ctors) (i:=i) Ar;refine By O (fun _=>BA Hu O O Ar (Eh hx) (EI _)) Au (By O (fun _=>B3 I8 O O) Au (By O (fun _=>DV Ba O (FP _) (BJ _)) Au ?_));refine fE [(9,.free (.ptr b1 13)),(10,.read [.box b1 ((Bo d).map .p)] (.p (I d.fixed)))] O O O O (B7 O O (Ou x.type (h1.cs _ (List.mem_of_getElem? hx)).ty) (.inl O)) An (⟨_,0,O,by omega,by omega⟩) AB ?_;rintro _ ⟨e1,rfl,he01,he11⟩;refine⟨Au,?_⟩;exact By O (fun _=>Aw Cm O O) AN (Dl (i:=0) O O O O O (fun H i hi=>A6 (i:=i) C7 O hi (DY _)) AB AN (By O (fun _=>D8 O O O) AN (A1 O (fun _=>CS O O) AN (A1 O (fun _=>Bf O) AN (B6 O An (⟨O,O,AK,(by refine⟨_,rfl,fun h=>?_⟩;first | (exact absurd h Aq) | assumption),⟨O,O,Au⟩⟩))))))
   (try simp only[sd,se] at g);exact B1 O AN (B1 O AN (B1 O AN (B1 O AN (B1 O AN (B1 O AN (bL O O O O AN (B1 O AN (B1 O AN (B1 O AN (A1 O (fun _=>CS O O) AN (A1 O (fun _=>Bf O) AN (B6 O An (⟨O,O,AK,(by refine⟨_,rfl,fun h=>?_⟩;first | (exact absurd h Aq) | assumption),⟨O,O,Au⟩⟩)))))))))))))
  rintro _ ⟨q,rfl,hq⟩;refine A7 (Ax A8 3 [] O (⟨⟨i+1,q⟩,AT,⟨by omega,fun h=>hC (hq h)⟩,Bh ⟨we rfl,we rfl,we rfl,trivial⟩ (leH (is:=[0]) rfl (wl (oe rfl) (Dd)))⟩))
 (try simp only[sd,se] at c);refine Bp (Ay A8 2 [] O (A4 (⟨O,_,_,⟨_,_,O,O,O⟩,(List.nil_sublist _),?_⟩)))
 all_goals exact⟨⟨_,rfl,hC⟩,rfl⟩
theorem RI:∀(t:Tm) (vars params metas levels:Int),(Nd t)→(size t<1000000)→FX Tryz.prog 55 [.agg ((BU t).map .p),.p (I vars),.p (I params),.p (I metas),.p (I levels)] (fun v=>∃e:Int,v= .p (I e)∧(e=0→wf (max vars 0) metas 0 t)):=by
 intro t vars params metas levels h1 h2;refine A9 Tryz.func55 O mL (n:=28) O O (A3 (BP O (BY O) fun b5=>Ax A8 1 [] O (Az (A3 (A2 A8 2 [0] O (Av O (IN O O) (A2 A8 3 [] O (DO O O (B7 O O (XU _ t 0 (max (vars:Int) (0:Int)) params metas levels (Nat.le_refl _) h1 Ar Ab) (.inl O)) ?_))))))));rintro _ ⟨e,rfl,he⟩;refine Ax A8 1 [] O (Ay A8 2 [] O (A0 O (fun c=>?_) (fun c=>?_)))
 ·(try simp only[sd,se] at c);refine Ay A8 2 [] O (A4 (⟨O,_,[],Bi O,List.nil_sublist _,⟨⟨_,O,?_⟩,O⟩⟩));exact fun h=>absurd h Ao
 (try simp only[sd,se] at c);refine A5 (Az (A3 (Av O (BI (i:=0) Ba O O Ak) (Av O (BM O O (Tv _ t (Nat.le_refl _) h1) O) (Ax A8 1 [] O (A0 O (fun c1=>?_) (fun c1=>?_)))))))
 ·(try simp only[sd,se] at c1);refine Ay A8 1 [] O (A4 (⟨O,_,[],Bi O,List.nil_sublist _,⟨⟨_,O,?_⟩,O⟩⟩));exact fun h=>absurd h Aq
 (try simp only[sd,se] at c1);refine A5 (Az (A3 (Av O (BI (i:=0) Ba O O Ak) (Av O (BM O O (Qd _ t (Nat.le_refl _) h1) O) (Ax A8 1 [] O (A0 O (fun c2=>?_) (fun c2=>?_)))))))
 ·(try simp only[sd,se] at c2);refine Ay A8 1 [] O (A4 (⟨O,_,[],Bi O,List.nil_sublist _,⟨⟨_,O,?_⟩,O⟩⟩));exact fun h=>absurd h Aq
 (try simp only[sd,se] at c2);refine A5 (Ay A8 1 [] O (A4 (⟨O,_,[],Bi O,List.nil_sublist _,⟨⟨_,O,?_⟩,O⟩⟩)));exact fun _=>he Ar
theorem Rf:∀(ds:List CM) (d:CM),(Ho ds)→(OD d)→FX Tryz.prog 135 [.p (.lst (List.map Bo ds)),.agg ((Bo d).map .p)] (YL):=by
 intro ds d h1 h2;have hn:=MN d;have hcl:=h2.cl;have hfl:=h2.fl;refine A9 Tryz.func135 O kq (n:=44) O O (A3 (BP O (BY O) fun b3=>Ax A8 1 [] O (A3 (Av O (BI (i:=0) Ew O O Ah) (Av O (BM O O (Ls d h2.cl h2.fl h2.nm) O) (Ax A8 1 [] O (Az (Ay A8 1 [] O (BH (Bn (α:=Nat) (fun i=>⟨44,mk [(0,.p (.lst (List.map Bo ds))),(5,.p (.lst (List.map GD (Cw d)))),(6,.p (I (i:Int)))],[],[]⟩) (fun i=>(Cw d).length - i) (fun i=>i≤(Cw d).length) 0 AP ?_ ?_))))))))))
 ·exact Bh ⟨we O,we O,we O,Au⟩ (leH (is:=[]) O (Dd))
 rintro i hC
 try simp only at hC
 have hi:=hC;refine Az (A3 (A2 A8 2 [] O (Av O (BS GS O (List.length_map _)) (Ax A8 1 [] O (A0 O (fun c=>?_) (fun c=>?_))))))
 ·(try simp only[sd,se] at c);refine A5 (Az (BH (Az (A3 (A2 A8 2 [] O ?_)))));obtain⟨x,hx⟩:=BB (l:=Cw d) (i:=i) Ar;refine Av O (BA GS O O Ar (Nq hx) (O)) (Av O (Dt Lz O) (DO O O (B7 O O (aX x (ZS h2 hx)) (.inl O)) ?_));rintro _ ⟨q,rfl⟩;refine Ax A8 1 [] O (A0 O (fun c1=>?_) (fun c1=>?_))
  ·(try simp only[sd,se] at c1);refine Ay A8 1 [] O (A4 (⟨O,_,_,⟨_,_,O,O,O⟩,(List.nil_sublist _),?_⟩))
   all_goals exact⟨⟨_,rfl⟩,rfl⟩
  (try simp only[sd,se] at c1);refine A5 (A3 (A2 A8 3 [] O (Av O (BA GS O O Ar (Nq hx) (O)) (Av O (Dt Lz O) (Av O (BM O O (NR ds x h1) O) (A2 A8 3 [] O (BP O (BE IK O) fun b7=>Ax A8 2 [0,1] O (Az (Bb [0,5,6] 43 Fh ?_ ?_)))))))))
  ·refine CG (fun k=>false) Eg (A1 O (fun _=>BC O) Au (A1 O (fun _=>D8 O O O) Au (A1 O (fun _=>BC O) Au (GX 34 O (fun g=>?_) (fun g=>?_)))))
   ·(try simp only[sd,se] at g);exact B1 O Au (B1 O Au (B1 O Au (B1 O Au (B1 O Au (B1 O Au (B1 O Au (B1 O Au (A1 O (fun _=>CS O O) Au (B6 O An (⟨O,O,AK,⟨_,O⟩,⟨O,O,O,Au⟩⟩))))))))))
   (try simp only[sd,se] at g);exact By O (fun _=>BC O) Au (By O (fun _=>BC O) Au (By O (fun _=>Cz (lo:=0) (hi:=i) GS O (CQ (Jt _)) O ⟨_,O⟩ (Nat.zero_le _) AQ (XF (f:=GD) (Cw d) i)) Au (By O (fun _=>BC O) Au (By O (fun _=>BC O) Au (By O (fun _=>BA GS O O Ar (Nq hx) (O)) Au (By O (fun _=>Dt Lz O) Au (By O (fun _=>BM O O (TS ((Cw d).take i) x Am) O) Au (A1 O (fun _=>CS O O) Au (B6 O An (⟨O,O,AK,⟨_,O⟩,⟨O,O,O,Au⟩⟩))))))))))
  rintro _ ⟨q1,rfl⟩;refine A0 O (fun c2=>?_) (fun c2=>?_)
  ·(try simp only[sd,se] at c2);refine Ay A8 1 [] O (A4 (⟨O,_,_,⟨_,_,O,O,O⟩,(List.nil_sublist _),?_⟩))
   all_goals exact⟨⟨_,rfl⟩,rfl⟩
  (try simp only[sd,se] at c2);refine A5 (A7 (Ax A8 3 [] O ?_));refine⟨(i+1),AT,by omega,Bh ⟨we rfl,we rfl,we rfl,trivial⟩ (leH (is:=[]) rfl (Dd))⟩
 (try simp only[sd,se] at c);refine Bp (Ay A8 1 [] O (A4 (⟨O,_,_,⟨_,_,O,O,O⟩,(List.nil_sublist _),?_⟩)))
 all_goals exact⟨⟨_,rfl⟩,rfl⟩
theorem gJ:∀(t:Tm),(To t)→FX Tryz.prog 115 [.agg ((BU t).map .p)] (fun v=>∃(l:List Tm) (q:Tm),v= .tup [.p (.lst (BK l)),TV q]∧l.length<1000000):=by
 intro t h1;have hsz:=h1.sz;refine A9 Tryz.func115 O mu (n:=27) O O (A3 (BP O (BY O) fun b1=>aG O (BP O (BE B8 O) fun b3=>Bk O (Ay A8 1 [] O (Az (BH (BZ (F3 (t:=4) (sz:=5) O) ?_)))))));refine Bn (α:=Tm×List Tm×Option Nat×Nat) (fun(y,l,o,cp)=>⟨27,mk [(1,.ptr b1 0),(3,.ptr b3 0),(4,.vs o (BK l).length cp)],[.vec o 5 (BK l) cp,.box b3 [.p (I 0),.p (I 0),.p (.str ⟨#[]⟩),.p (.nils),.p (.nils)],.box b1 ((BU y).map .p)],[]⟩) (fun(y,l,o,cp)=>size y) (fun(y,l,o,cp)=>Nd y∧l.length+size y≤size t) ⟨t,[],none,0⟩ (⟨h1.nd,by simp⟩) ?_ ?_
 ·exact Bh ⟨we O,we O,we O,Au⟩ (leH (is:=[0,1,2]) O (wl (oe O) (wl (oe O) (wl (oe O) (Dd)))))
 rintro⟨y,l,o,cp⟩ hC
 try simp only at hC
 have hl0:l.length<1000000:=by have:=hC.2;omega
 refine Az (Az ?_);obtain⟨yk,yi,yn,yl,ys⟩:=y;refine Bb [1,3,4] 13 (fun y=>y= .p (.bool (((yk:Int)==(6:Int))&&(((ys.length:Nat):Int)==(2:Int))))) ?_ ?_
 ·refine A7 (A2 A8 4 [2] O (BQ 8 O (fun g=>?_) (fun g=>?_)))
  ·(try simp only[sd,se] at g);exact A2 A8 2 [2] O (BF O (BS Br O (Bc _)) (Ax A8 2 [] O (⟨O,O,AK,AI,⟨O,O,O,Au⟩⟩)))
  (try simp only[sd,se] at g);exact Ax A8 5 [] O (⟨O,O,AK,AI,⟨O,O,O,Au⟩⟩)
 rintro _ rfl;refine A0 O (fun c=>?_) (fun c=>?_)
 ·(try simp only[sd,se] at c);refine A5 (BH (A3 (A2 A8 3 [2] O ?_)));obtain⟨x,hx⟩:=BB (l:=ys) (i:=0) (by first | omega | (simp at c;omega));refine Av O (BA Br O O Ar (Bj hx) (BJ _)) (Av O (BO Ba O (BJ _)) ?_);obtain⟨xk,xi,xn,xl,xs⟩:=x;refine Av O (CC Br B8 O O O O O) (Il O O (C4 (i:=0) (rows':=BK [(.mk xk xi xn xl xs:Tm)]) Br Br B8 O O O O O O (B9 _) AE (O7 l [(.mk xk xi xn xl xs:Tm)])) fun o1 cp1=>Ax A8 1 [] O (A7 (A2 A8 2 [2] O ?_)));obtain⟨x1,hx1⟩:=BB (l:=ys) (i:=1) (by first | omega | (simp at c;omega));refine Av O (BA Br O O Ar (Bj hx1) (BJ _)) (Ax A8 2 [2,1] O ?_);refine⟨⟨x1,l++[(.mk xk xi xn xl xs:Tm)],o1,cp1⟩,(by have:=Cj hx1;simp only[size];omega),⟨Dy hC.1.2.2.2.2.1 hx1,by have:=Cj hx1;have:=hC.2;simp only[size] at *;simp only[List.length_append,List.length_cons,List.length_nil];omega⟩,Bh ⟨we rfl,we rfl,we rfl,trivial⟩ (leH (is:=[0,1,2]) rfl (wl (oe rfl) (wl (oe rfl) (wl (oe rfl) (Dd)))))⟩
 (try simp only[sd,se] at c);refine Bp (Az (CG (fun k=>false) Eg (A1 O (fun _=>BC O) Au (BT (j:=2) O O O (fun H i hi=>BI (i:=i) Ba O hi O) AB Au (A1 O (fun _=>Bf O) Au (Cd O O (Cl (i:=1) Ba O O O O O O) AB Au (B6 O An (BZ (DE (i:=0) [4,25,2] O (FQ ⟨O,O,O,Au⟩)) (A4 (⟨O,_,_,⟨_,_,O,O,⟨_,_,O,(BN (i:=0) Ba O O O),O⟩⟩,(List.nil_sublist _),?_⟩))))))))))
 all_goals exact⟨⟨l,(.mk yk yi yn yl ys:Tm),rfl,by have:=hC.2;omega⟩,rfl⟩
theorem _root_.Go.Ag {α:Prop}(h:α:=by simp[SM]):α:=h
theorem RX:∀(n:Nat) (s:PD) (t:Tm),(size t≤n)→(Nd t)→(Ho s.env)→(s.own.length<9000000)→(OD s.d)→FX Tryz.prog 172 [.agg ((Fq s).map .p),.agg ((BU t).map .p)] (YL):=by
 intro n
 induction n with
 | zero=>intro s t h;cases t;simp[size] at h
 | succ n ih =>
  intro s t h1 h2 h3 h4 h5;have h3l:=h3.len;obtain⟨tk,ti,tn,tl,ts⟩:=t;have hk:=h2.2.2.2.2.1;have hkl:=h2.2.2.2.1;simp only[Dv] at hkl;simp only[size] at h1;refine A9 Tryz.func172 O l5 (n:=59) O O (A3 (BP O (BY O) fun b2=>BP O (BY O) fun b3=>Ax A8 1 [] O (Az (Ay A8 3 [0] O (Bb [2,3] 12 (fun _=>True) ?_ ?_)))))
  ·refine A0 O (fun c=>?_) (fun c=>?_)
   ·(try simp only[sd,se] at c);refine A3 (Av O (Aw ME O O) (Av O (A6 (i:=1) Qu O O (JK _)) (A2 A8 2 [0] O (Av O (BM O O (NR s.env tn h3) O) (A2 A8 3 [] O (BP O (BE IK O) fun b5=>Ax A8 2 [0,1] O (Az (Ay A8 2 [] O (A0 O (fun c1=>?_) (fun c1=>?_))))))))))
    ·(try simp only[sd,se] at c1);refine Az (A3 (Av O (Aw ME O O) (Av O (A6 (i:=2) Ur O O (U1 _)) (A2 A8 2 [1] O (Av O (BM O O (TS s.own tn h4) O) (Ax A8 1 [] O (A0 O (fun c2=>?_) (fun c2=>?_))))))))
     ·(try simp only[sd,se] at c2);refine Ay A8 1 [] O (A4 (⟨O,_,_,⟨_,_,O,O,O⟩,(List.nil_sublist _),?_⟩))
      all_goals exact⟨⟨_,rfl⟩,rfl⟩
     (try simp only[sd,se] at c2);refine A5 (A7 (Av O (Aw ME O O) (Av O (B4 (i:=2) Ew O O (Sv _) (Cp _)) (Av O (Aw ME O O) (Av O (A6 (i:=2) Qu O O (JK _)) (Av O (BS Iv O (List.length_map _)) (A2 A8 2 [1] O (Av O (BM O O (Sy s.d (s.env.length:Nat) tn h5.cl h5.fl) O) (Ax A8 1 [0,1] O (A3 (A2 A8 2 [1] O (Av O (BS Fb O (List.length_map _)) (Av O (Aw E8 O O) (Av O (A6 (i:=0) C7 O O (Ip _)) (Ax A8 1 [] O (A0 O (fun c3=>?_) (fun c3=>?_)))))))))))))))))
     ·(try simp only[sd,se] at c3);refine Ay A8 1 [] O (A4 (⟨O,_,_,⟨_,_,O,O,O⟩,(List.nil_sublist _),?_⟩))
      all_goals exact⟨⟨_,rfl⟩,rfl⟩
     (try simp only[sd,se] at c3);exact A5 (⟨O,O,(CO (is:=[1,2]) O),Au,⟨O,O,Au⟩⟩)
    (try simp only[sd,se] at c1);refine A5 (A3 (A2 A8 2 [1] O (Av O (BS Fb O (List.length_map _)) (Av O (Aw E8 O O) (Av O (A6 (i:=0) C7 O O (Ip _)) (Ax A8 1 [] O (A0 O (fun c2=>?_) (fun c2=>?_))))))))
    ·(try simp only[sd,se] at c2);refine Ay A8 1 [] O (A4 (⟨O,_,_,⟨_,_,O,O,O⟩,(List.nil_sublist _),?_⟩))
     all_goals exact⟨⟨_,rfl⟩,rfl⟩
    (try simp only[sd,se] at c2);exact A5 (⟨O,O,(CO (is:=[1,2]) O),Au,⟨O,O,Au⟩⟩)
   (try simp only[sd,se] at c);exact A5 (⟨O,O,(List.Sublist.refl _),Au,⟨O,O,Au⟩⟩)
  intro _ _;refine Az (Ay A8 1 [] O (BH (Bn (α:=Nat) (fun i=>⟨59,mk [(2,.ptr b2 0),(3,.ptr b3 0),(7,.p (I (i:Int)))],[.box b3 [.p (I tk),.p (I ti),.p (.str tn),.p (.lst (List.map CD tl)),.p (.lst (BK ts))],.box b2 ((Fq s).map .p)],[]⟩) (fun i=>ts.length - i) (fun i=>i≤ts.length) 0 AP ?_ ?_)))
  ·exact Bh ⟨we O,we O,we O,Au⟩ (leH (is:=[0,1]) O (wl (oe O) (wl (oe O) (Dd))))
  rintro i hC
  try simp only at hC
  have hi:=hC;refine Az (A3 (A2 A8 3 [0] O (Av O (BS Br O (Bc _)) (Ax A8 1 [] O (A0 O (fun c=>?_) (fun c=>?_))))))
  ·(try simp only[sd,se] at c);refine A5 (Az (BH (Az (CG (fun k=>Nat.beq k 6) Eg (BT (j:=1) O O O (fun H i hi=>BI (i:=i) Rv O hi Ag) AB Au (A1 O (fun _=>Aw Dq O O) Au (BT (j:=0) O O O (fun H i hi=>BG (i:=i) E3 O hi O) AB Au (A1 O (fun _=>BC O) Au ?_))))))));obtain⟨x,hx⟩:=BB (l:=ts) (i:=i) Ar;refine A1 O (fun _=>BA Br O O Ar (Bj hx) (BJ _)) Au (A1 O (fun _=>BO Ba O (BJ _)) Au (JN [] O O (B7 O O (ih s x (by have:=Cj hx;omega) (Dy hk hx) h3 h4 h5) (.inl O)) An (⟨_,0,O⟩) AB ?_));rintro _ ⟨e,rfl⟩;refine⟨Au,?_⟩;refine A1 O (fun _=>Bf O) Au (B6 O An (Ay A8 2 [] O (A0 O (fun c1=>?_) (fun c1=>?_))))
   ·(try simp only[sd,se] at c1);refine Ay A8 2 [] O (A4 (⟨O,_,_,⟨_,_,O,O,O⟩,(List.nil_sublist _),?_⟩))
    all_goals exact⟨⟨_,rfl⟩,rfl⟩
   (try simp only[sd,se] at c1);refine A5 (A7 (Ax A8 3 [] O ?_));refine⟨(i+1),AT,by omega,Bh ⟨we rfl,we rfl,we rfl,trivial⟩ (leH (is:=[0,1]) rfl (wl (oe rfl) (wl (oe rfl) (Dd))))⟩
  (try simp only[sd,se] at c);refine Bp (Ay A8 1 [] O (A4 (⟨O,_,_,⟨_,_,O,O,O⟩,(List.nil_sublist _),?_⟩)))
  all_goals exact⟨⟨_,rfl⟩,rfl⟩
theorem WJ:∀(d:CM),(OD d)→FX Tryz.prog 134 [.agg ((Bo d).map .p)] (fun v=>∃ee:Int,v= .p (I ee)∧(ee=0→T8 d)):=by
 intro d h1;have hfl:=h1.fl;have hcl:=h1.cl;have hrl:=h1.rl;refine A9 Tryz.func134 O ml (n:=96) O O (A3 (BP O (BY O) fun b1=>Ax A8 1 [] O (Az (Az (Bb [1] 16 (fun y=>y= .p (.bool (((decide ((d.params:Int)<(0:Int)))||(decide ((d.params:Int) > (8:Int))))||(decide ((d.fixed:Int)<(0:Int)))))) ?_ ?_)))))
 ·refine A7 (Av O (Aw Cm O O) (Av O (A6 (i:=0) C7 O O (Ci _)) (A2 A8 2 [] O (BQ 7 O (fun g=>?_) (fun g=>?_)))))
  ·(try simp only[sd,se] at g);exact Ax A8 9 [] O (⟨O,O,AK,AI,⟨O,Au⟩⟩)
  (try simp only[sd,se] at g);refine BF O (Aw Cm O O) (BF O (A6 (i:=0) C7 O O (Ci _)) (A2 A8 3 [] O (BQ 12 O (fun g1=>?_) (fun g1=>?_))))
  ·(try simp only[sd,se] at g1);exact Ax A8 4 [] O (⟨O,O,AK,AI,⟨O,Au⟩⟩)
  (try simp only[sd,se] at g1);exact BF O (Aw Cm O O) (BF O (A6 (i:=0) C7 O O (DY _)) (Ax A8 2 [] O (⟨O,O,AK,AI,⟨O,Au⟩⟩)))
 rintro _ rfl;refine A0 O (fun c=>?_) (fun c=>?_)
 ·(try simp only[sd,se] at c);refine Ay A8 1 [] O (A4 (⟨O,_,_,⟨_,_,O,O,O⟩,(List.nil_sublist _),?_⟩))
  all_goals exact⟨⟨_,rfl,fun h=>absurd h Aq⟩,rfl⟩
 (try simp only[sd,se] at c);have hf0:0≤d.fixed:=by omega
 refine A5 (Az (Az (Bb [1] 37 Fh ?_ ?_)))
 ·refine A7 (Av O (Aw Cm O O) (Av O (A6 (i:=0) IM O O (CJ _)) (Av O (BS Hu O (List.length_map _)) (A2 A8 2 [] O (BQ 21 O (fun g=>?_) (fun g=>?_))))))
  ·(try simp only[sd,se] at g);exact Ax A8 16 [] O (⟨O,O,AK,⟨_,O⟩,⟨O,Au⟩⟩)
  (try simp only[sd,se] at g);refine BF O (Aw Cm O O) (BF O (A6 (i:=0) C7 O O (Du _)) (A2 A8 2 [] O (BQ 25 O (fun g1=>?_) (fun g1=>?_))))
  ·(try simp only[sd,se] at g1);refine BF O (Aw Cm O O) (BF O (A6 (i:=0) HS O O (CI _)) (BF O (BS G9 O (List.length_map _)) (A2 A8 2 [] O (BQ 30 O (fun g2=>?_) (fun g2=>?_)))))
   ·(try simp only[sd,se] at g2);exact Ax A8 7 [] O (⟨O,O,AK,⟨_,O⟩,⟨O,Au⟩⟩)
   (try simp only[sd,se] at g2);exact BF O (Aw Cm O O) (BF O (A6 (i:=0) HS O O (CI _)) (BF O (BS G9 O (List.length_map _)) (Ax A8 4 [] O (⟨O,O,AK,⟨_,O⟩,⟨O,Au⟩⟩))))
  (try simp only[sd,se] at g1);exact Ax A8 12 [] O (⟨O,O,AK,⟨_,O⟩,⟨O,Au⟩⟩)
 rintro _ ⟨q,rfl⟩;refine A0 O (fun c1=>?_) (fun c1=>?_)
 ·(try simp only[sd,se] at c1);refine Ay A8 1 [] O (A4 (⟨O,_,_,⟨_,_,O,O,O⟩,(List.nil_sublist _),?_⟩))
  all_goals exact⟨⟨_,rfl,fun h=>absurd h Aq⟩,rfl⟩
 (try simp only[sd,se] at c1);refine A5 (Az (Ay A8 1 [] O (BH ?_)));refine Bn (α:=Nat) (fun i=>⟨96,mk [(1,.ptr b1 0),(3,.p (I (i:Int)))],[.box b1 ((Bo d).map .p)],[]⟩) (fun i=>d.funs.length - i) (fun i=>i≤d.funs.length∧(∀j,j<i→∀x,d.funs[j]?=some x→1≤x.arity∧x.arity≤16)) 0 (⟨by omega,fun j h=>by omega⟩) ?_ ?_
 ·exact Bh ⟨we O,we O,Au⟩ (leH (is:=[0]) O (wl (oe O) (Dd)))
 rintro i hC
 try simp only at hC
 obtain⟨hi,hC⟩:=hC;refine Az (A3 (A2 A8 2 [] O (Av O (A6 (i:=0) HS O O (CI _)) (Av O (BS G9 O (List.length_map _)) (Ax A8 1 [] O (A0 O (fun c2=>?_) (fun c2=>?_)))))))
 ·(try simp only[sd,se] at c2);obtain⟨x,hx⟩:=BB (l:=d.funs) (i:=i) Ar;refine A5 (Az (BH (Az (Bb [1,3] 60 (fun y=>∃q:Bool,y= .p (.bool q)∧(q=false→1≤x.arity∧x.arity≤16)) ?_ ?_))))
  ·refine A7 (Av O (Aw Cm O O) (Av O (A6 (i:=0) HS O O (CI _)) (B0 O (Av O (BA G9 O O Ar (Ec hx) (DQ _)) (Av O (B3 G2 O O) (Av O (DW C7 O (Cb _)) (A2 A8 2 [] O (BQ 52 O (fun g=>?_) (fun g=>?_)))))))))
   ·(try simp only[sd,se] at g);exact Ax A8 8 [] O (⟨O,O,AK,(by refine⟨_,rfl,fun h=>?_⟩;first | (exact absurd h Aq) | (simp only[decide_eq_false_iff_not] at h;omega) | omega),⟨O,O,Au⟩⟩)
   (try simp only[sd,se] at g);exact BF O (Aw Cm O O) (BF O (A6 (i:=0) HS O O (CI _)) (BF O (BC O) (BF O (BA G9 O O Ar (Ec hx) (DQ _)) (BF O (B3 G2 O O) (BF O (DW C7 O (Cb _)) (Ax A8 2 [] O (⟨O,O,AK,(by refine⟨_,rfl,fun h=>?_⟩;first | (exact absurd h Aq) | (simp only[decide_eq_false_iff_not] at h;omega) | omega),⟨O,O,Au⟩⟩)))))))
  rintro _ ⟨q,rfl,hq⟩;refine A0 O (fun c3=>?_) (fun c3=>?_)
  ·(try simp only[sd,se] at c3);refine Ay A8 1 [] O (A4 (⟨O,_,_,⟨_,_,O,O,O⟩,(List.nil_sublist _),?_⟩))
   all_goals exact⟨⟨_,rfl,fun h=>absurd h Aq⟩,rfl⟩
  (try simp only[sd,se] at c3);have hq3:=hq (by simpa using c3);refine A5 (A7 (Ax A8 3 [] O (⟨(i+1),AT,⟨by omega,C6 (p:=fun _ (x:HB)=>1≤x.arity∧x.arity≤16) hC hx hq3⟩,Bh ⟨we rfl,we rfl,trivial⟩ (leH (is:=[0]) rfl (wl (oe rfl) (Dd)))⟩)))
 (try simp only[sd,se] at c2);refine Bp (Az (Az (Bb [] 95 (fun y=>∃q:Bool,y= .p (.bool q)∧(q=false→d.kind=3→d.fixed≤1000000)) ?_ ?_)))
 ·refine A7 (Av O (Aw Cm O O) (Av O (A6 (i:=0) C7 O O (Du _)) (A2 A8 2 [] O (BQ 64 O (fun g=>?_) (fun g=>?_)))))
  ·(try simp only[sd,se] at g);refine A2 A8 2 [] O (BF O (A6 (i:=0) C7 O O (DU _)) (BF O (Aw Cm O O) (BF O (A6 (i:=0) C7 O O (Ci _)) (A2 A8 2 [] O (BQ 71 O (fun g1=>?_) (fun g1=>?_))))))
   ·(try simp only[sd,se] at g1);refine A2 A8 2 [] O (BF O (A6 (i:=0) C7 O O (DU _)) (BF O (Aw Cm O O) (BF O (A6 (i:=0) C7 O O (Ci _)) (BF O (FC O O) (A2 A8 3 [] O (BQ 80 O (fun g2=>?_) (fun g2=>?_)))))))
    ·(try simp only[sd,se] at g2);exact Ax A8 15 [] O (⟨O,O,AK,(by refine⟨_,rfl,fun h h3=>?_⟩;first | (exact absurd h Aq) | omega | exact hq (by simpa using h)),Au⟩)
    (try simp only[sd,se] at g2);refine A2 A8 2 [] O (BF O (A6 (i:=0) E3 O O (Cr _)) (BF O (BS Br O (Bc _)) (BF O (Aw Cm O O) (BF O (A6 (i:=0) IM O O (CJ _)) (BF O (BS Hu O (List.length_map _)) (A2 A8 3 [] O (BQ 90 O (fun g3=>?_) (fun g3=>?_))))))))
    ·(try simp only[sd,se] at g3);exact Ax A8 5 [] O (⟨O,O,AK,(by refine⟨_,rfl,fun h h3=>?_⟩;first | (exact absurd h Aq) | omega | exact hq (by simpa using h)),Au⟩)
    (try simp only[sd,se] at g3);refine BF O (BI (i:=0) Ew O O Ah) (G5 O O O O (B7 O O (Ry d h1) (.inl O)) ?_);rintro _ ⟨q1,rfl,hq⟩;exact Ax A8 3 [] O (⟨O,O,AK,(by refine⟨_,rfl,fun h h3=>?_⟩;first | (exact absurd h Aq) | omega | exact hq (by simpa using h)),Au⟩)
   (try simp only[sd,se] at g1);refine A2 A8 11 [] O (BF O (A6 (i:=0) E3 O O (Cr _)) (BF O (BS Br O (Bc _)) (BF O (Aw Cm O O) (BF O (A6 (i:=0) IM O O (CJ _)) (BF O (BS Hu O (List.length_map _)) (A2 A8 3 [] O (BQ 90 O (fun g2=>?_) (fun g2=>?_))))))))
   ·(try simp only[sd,se] at g2);exact Ax A8 5 [] O (⟨O,O,AK,(by refine⟨_,rfl,fun h h3=>?_⟩;first | (exact absurd h Aq) | omega | exact hq (by simpa using h)),Au⟩)
   (try simp only[sd,se] at g2);refine BF O (BI (i:=0) Ew O O Ah) (G5 O O O O (B7 O O (Ry d h1) (.inl O)) ?_);rintro _ ⟨q1,rfl,hq⟩;exact Ax A8 3 [] O (⟨O,O,AK,(by refine⟨_,rfl,fun h h3=>?_⟩;first | (exact absurd h Aq) | omega | exact hq (by simpa using h)),Au⟩)
  (try simp only[sd,se] at g);exact Ax A8 31 [] O (⟨O,O,AK,(by refine⟨_,rfl,fun h h3=>?_⟩;first | (exact absurd h Aq) | omega | exact hq (by simpa using h)),Au⟩)
 rintro _ ⟨q,rfl,hq⟩;refine A0 O (fun c3=>?_) (fun c3=>?_)
 ·(try simp only[sd,se] at c3);refine Ay A8 1 [] O (A4 (⟨O,_,_,⟨_,_,O,O,O⟩,(List.nil_sublist _),?_⟩))
  all_goals exact⟨⟨_,rfl,fun h=>absurd h Aq⟩,rfl⟩
 (try simp only[sd,se] at c3);have hq4:=hq (by simpa using c3);refine A5 (Ay A8 1 [] O (A4 (⟨O,_,_,⟨_,_,O,O,O⟩,(List.nil_sublist _),?_⟩)))
 all_goals exact⟨⟨_,rfl,fun _=>⟨hf0,Hc Ar hC,hq4⟩⟩,rfl⟩
theorem WA:∀(d:CM) (k:Int),(OD d)→(0≤d.fixed∧d.fixed≤1000000)→(0≤k)→(k<d.ctors.length)→FX Tryz.prog 85 [.agg ((Bo d).map .p),.p (I k)] (fun v=>∃e:Int,v= .p (I e)∧0≤e∧e≤1000000):=by
 intro d k h1 h2 h3 h4;have hcl:=h1.cl;refine A9 Tryz.func85 O ni (n:=23) O O (A3 (BP O (BY O) fun b2=>Ax A8 1 [] O (A3 (Av O (Aw Cm O O) (Av O (A6 (i:=0) IM O O (CJ _)) (B0 O ?_))))));obtain⟨x,hx⟩:=BB (l:=d.ctors) (i:=(k:Int).toNat) Ar;refine Av O (BA Hu O O Ar (Eh hx) (EI _)) (Av O (B3 I8 O O) (Av O (DV Ba O (FP _) (BJ _)) (DO O O (B7 O O (gJ x.type (h1.cs _ (List.mem_of_getElem? hx)).ty) (.inl O)) ?_)));rintro _ ⟨l,q,rfl,hl⟩;refine A2 A8 3 [] O (BP O (BE B8 O) fun b6=>Ax A8 2 [0,1] O (A3 (B0 O (Av O (BS Br O (Bc _)) (Av O (Aw Cm O O) (Av O (A6 (i:=1) C7 O O (DY _)) (Av O (Lp O O Ar Ar) (Av O (IN O O) (Ax A8 1 [] O (A4 (⟨O,_,_,⟨_,_,O,O,O⟩,(List.nil_sublist _),?_⟩)))))))))))
 all_goals exact⟨⟨_,rfl,by omega,by omega⟩,rfl⟩
theorem Gc:∀(s:PD) (t:Tm) (vs ps:Int),(To t)→(Ho s.env)→(s.own.length<9000000)→(OD s.d)→(vs≤549755813888)→FX Tryz.prog 151 [.agg ((Fq s).map .p),.agg ((BU t).map .p),.p (I vs),.p (I ps)] (fun v=>∃ee:Int,v= .p (I ee)∧(ee=0→okB t=true)):=by
 intro s t vs ps h1 h2 h3 h4 h5;refine A9 Tryz.func151 O lA (n:=20) O O (A3 (BP O (BY O) fun b4=>BP O (BY O) fun b5=>Ax A8 1 [] O (Az (A3 (A2 A8 3 [0] O (DO O O (B7 O O (RI t vs ps 0 0 h1.nd h1.sz) (.inl O)) ?_))))));rintro _ ⟨e,rfl,he⟩;refine Ax A8 1 [] O (Ay A8 2 [] O (A0 O (fun c=>?_) (fun c=>?_)))
 ·(try simp only[sd,se] at c);refine Ay A8 2 [] O (A4 (⟨O,_,_,⟨_,_,O,O,O⟩,(List.nil_sublist _),?_⟩))
  all_goals exact⟨⟨_,rfl,fun h=>absurd h Ao⟩,rfl⟩
 (try simp only[sd,se] at c);refine A5 (A3 (A2 A8 2 [1,0] O (DO O O (B7 O O (RX (size t) s t (Nat.le_refl _) h1.nd h2 h3 h4) (.inl O)) ?_)));rintro _ ⟨e1,rfl⟩;refine Ax A8 1 [] O (A4 (⟨O,_,_,⟨_,_,O,O,O⟩,(List.nil_sublist _),?_⟩))
 all_goals exact⟨⟨_,rfl,fun _=>Z3 h1.nd h1.sz h5 (he Ar)⟩,rfl⟩
theorem Tj:∀(n:Nat) (a b:FE),(KX a≤n)→(HF a)→FX Tryz.prog 173 [.agg ((DA a).map .p),.agg ((DA b).map .p)] (fun v=>∃bb:Bool,v= .p (.bool bb)∧(bb=true→NQ a.body b.body=true∧a.branches.length=b.branches.length)):=by
 intro n
 induction n with
 | zero=>intro a b h;have:=N4 a;omega
 | succ n ih =>
  intro a b h1 h2;have hal:=h2.bl;refine A9 Tryz.func173 O nN (n:=74) O O (A3 (BP O (BY O) fun b2=>BP O (BY O) fun b3=>Ax A8 1 [] O (Az (Az (Bb [2,3] 36 (fun y=>∃q:Bool,y= .p (.bool q)∧(q=false→a.branches.length=b.branches.length∧NQ a.body b.body=true)) ?_ ?_)))))
  ·refine A7 (Av O (Aw Fs O O) (Av O (A6 (i:=1) C7 O O (Gs _)) (Av O (Aw Fs O O) (Av O (A6 (i:=0) C7 O O (Gs _)) (A2 A8 2 [] O (BQ 13 O (fun g=>?_) (fun g=>?_)))))))
   ·(try simp only[sd,se] at g);exact Ax A8 23 [] O (⟨O,O,AK,(by refine⟨_,rfl,fun h=>?_⟩;first | (exact absurd h Aq) | (simp_all;done) | (simp_all;omega)),⟨O,O,Au⟩⟩)
   (try simp only[sd,se] at g);refine BF O (Aw Fs O O) (BF O (A6 (i:=1) C7 O O (Dk _)) (BF O (Aw Fs O O) (BF O (A6 (i:=0) C7 O O (Dk _)) (A2 A8 3 [] O (BQ 20 O (fun g1=>?_) (fun g1=>?_))))))
   ·(try simp only[sd,se] at g1);exact Ax A8 16 [] O (⟨O,O,AK,(by refine⟨_,rfl,fun h=>?_⟩;first | (exact absurd h Aq) | (simp_all;done) | (simp_all;omega)),⟨O,O,Au⟩⟩)
   (try simp only[sd,se] at g1);refine BF O (Aw Fs O O) (BF O (B4 (i:=1) Ba O O (FT _) (BJ _)) (BF O (Aw Fs O O) (BF O (B4 (i:=0) Ba O O (FT _) (BJ _)) (BF O (BM O O (Mj _ a.body b.body (Nat.le_refl _) h2.body.nd) O) (A2 A8 3 [] O (BQ 28 O (fun g2=>?_) (fun g2=>?_)))))))
   ·(try simp only[sd,se] at g2);exact Ax A8 8 [] O (⟨O,O,AK,(by refine⟨_,rfl,fun h=>?_⟩;first | (exact absurd h Aq) | (simp_all;done) | (simp_all;omega)),⟨O,O,Au⟩⟩)
   (try simp only[sd,se] at g2);exact BF O (Aw Fs O O) (BF O (A6 (i:=1) L0 O O (CU _)) (BF O (BS Kg O (F5 _)) (BF O (Aw Fs O O) (BF O (A6 (i:=0) L0 O O (CU _)) (BF O (BS Kg O (F5 _)) (Ax A8 2 [] O (⟨O,O,AK,(by refine⟨_,rfl,fun h=>?_⟩;first | (exact absurd h Aq) | (simp_all;done) | (simp_all;omega)),⟨O,O,Au⟩⟩)))))))
  rintro _ ⟨q,rfl,hq⟩;refine A0 O (fun c=>?_) (fun c=>?_)
  ·(try simp only[sd,se] at c);refine Ay A8 1 [] O (A4 (⟨O,_,_,⟨_,_,O,O,O⟩,(List.nil_sublist _),?_⟩))
   all_goals exact⟨⟨_,rfl,fun h=>absurd h Aq⟩,rfl⟩
  (try simp only[sd,se] at c);obtain⟨hqa,hqb⟩:=hq (by simpa using c);refine A5 (Az (Ay A8 1 [] O (BH (Bn (α:=Nat) (fun i=>⟨74,mk [(2,.ptr b2 0),(3,.ptr b3 0),(5,.p (I (i:Int)))],[.box b3 ((DA b).map .p),.box b2 ((DA a).map .p)],[]⟩) (fun i=>a.branches.length - i) (fun i=>i≤a.branches.length) 0 AP ?_ ?_))))
  ·exact Bh ⟨we O,we O,we O,Au⟩ (leH (is:=[0,1]) O (wl (oe O) (wl (oe O) (Dd))))
  rintro i hC
  try simp only at hC
  have hi:=hC;refine Az (A3 (A2 A8 2 [] O (Av O (A6 (i:=1) L0 O O (CU _)) (Av O (BS Kg O (F5 _)) (Ax A8 1 [] O (A0 O (fun c1=>?_) (fun c1=>?_)))))))
  ·(try simp only[sd,se] at c1);obtain⟨x,hx⟩:=BB (l:=a.branches) (i:=i) Ar;obtain⟨x1,hx1⟩:=BB (l:=b.branches) (i:=i) Ar;refine A5 (Az (BH (Az (e9 [.val (.ptr b2 (0+7)),.val (.p (.lst (KY a.branches))),.val (.p (I (i:Int))),.val (.ref (GG x)),.val (.agg ((GG x).map .p)),.val (.ptr b3 (0+7)),.val (.p (.lst (KY b.branches))),.val (.p (I (i:Int))),.val (.ref (GG x1)),.val (.agg ((GG x1).map .p)),.new [.p (.str ⟨#[]⟩),.p (.bool false),.p (I 0),.p (I 0),.p (I 0),.p (.str ⟨#[]⟩),.p (.nils),.p (.nils),.p (I 0),.p (.nils)],.new [.p (.str ⟨#[]⟩),.p (.bool false),.p (I 0),.p (I 0),.p (I 0),.p (.str ⟨#[]⟩),.p (.nils),.p (.nils),.p (I 0),.p (.nils)]] [.p .any,.p .any] [5,6,7,8,9] Eg O An An An ?_ ?_))))
   ·exact Au
   refine JR O (fun Bs=>Aw Fs O O) (JR O (fun Bs=>A6 (i:=Bs.length+1) L0 O (CX O) (CU _)) (JR O (fun Bs=>BC O) (JR O (fun Bs=>BA Kg O O Ar (Gj hx) (Di _)) (JR O (fun Bs=>BO Se O (Di _)) (JR O (fun Bs=>Aw Fs O O) (JR O (fun Bs=>A6 (i:=Bs.length+0) L0 O (CX O) (CU _)) (JR O (fun Bs=>BC O) (JR O (fun Bs=>BA Kg O O Ar (Gj hx1) (Di _)) (JR O (fun Bs=>BO Se O (Di _)) (Z2 O (fun Bs=>BE Xk O) fun b6=>Z2 O (fun Bs=>BE Xk O) fun b7=>jU ?_))))))))));refine YE [.box b6 ((GG x).map .p),.box b7 [.p (.str ⟨#[]⟩),.p (.bool false),.p (I 0),.p (I 0),.p (I 0),.p (.str ⟨#[]⟩),.p (.nils),.p (.nils),.p (I 0),.p (.nils)]] O (Bd (i:=0) Se O O O (by simp[Di]) (by first | rfl | simp[Di]) (TB _)) (YE [.box b6 ((GG x).map .p),.box b7 ((GG x1).map .p)] O (Bd (i:=1) Se O O O (by simp[Di]) (by first | rfl | simp[Di]) (TB _)) (jl (Az (Bb [2,3,5] 73 Fh ?_ ?_))))
   ·refine A7 (Av O (Aw Im O O) (Av O (A6 (i:=0) Lz O O (Gv _)) (Av O (Aw Im O O) (Av O (A6 (i:=1) Lz O O (Gv _)) (Av O (Jc O O) (B0 O (BQ 59 O (fun g=>?_) (fun g=>?_))))))))
    ·(try simp only[sd,se] at g);exact Ax A8 14 [] O (⟨O,O,AK,⟨_,O⟩,⟨O,O,O,Au⟩⟩)
    (try simp only[sd,se] at g);refine BF O (Aw Im O O) (BF O (A6 (i:=0) iY O O (Gu _)) (BF O (Aw Im O O) (BF O (A6 (i:=1) iY O O (Gu _)) (BF O (V1 qm O O) (A2 A8 2 [] O (BQ 66 O (fun g1=>?_) (fun g1=>?_)))))))
    ·(try simp only[sd,se] at g1);exact Ax A8 7 [] O (⟨O,O,AK,⟨_,O⟩,⟨O,O,O,Au⟩⟩)
    (try simp only[sd,se] at g1);refine BF O (Aw Im O O) (BF O (B4 (i:=0) It O O (Fz _) (Cq _)) (BF O (Aw Im O O) (BF O (B4 (i:=1) It O O (Fz _) (Cq _)) (G5 O O O O (B7 O O (ih x.tree x1.tree (by have:=Qv hx;omega) (Ii h2.bs hx).tr) (.inl O)) ?_))));rintro _ ⟨q1,rfl,hq⟩;exact Ax A8 2 [] O (⟨O,O,AK,⟨_,O⟩,⟨O,O,O,Au⟩⟩)
   rintro _ ⟨q1,rfl⟩;refine A0 O (fun c2=>?_) (fun c2=>?_)
   ·(try simp only[sd,se] at c2);refine Ay A8 1 [] O (A4 (⟨O,_,_,⟨_,_,O,O,O⟩,(List.nil_sublist _),?_⟩))
    all_goals exact⟨⟨_,rfl,fun h=>absurd h Aq⟩,rfl⟩
   (try simp only[sd,se] at c2);refine A5 (A7 (Ax A8 3 [] O ?_));refine⟨(i+1),AT,by omega,Bh ⟨we rfl,we rfl,we rfl,trivial⟩ (leH (is:=[2,3]) rfl (wl (oe rfl) (wl (oe rfl) (Dd))))⟩
  (try simp only[sd,se] at c1);refine Bp (Ay A8 1 [] O (A4 (⟨O,_,_,⟨_,_,O,O,O⟩,(List.nil_sublist _),?_⟩)))
  all_goals exact⟨⟨_,rfl,fun _=>⟨hqb,hqa⟩⟩,rfl⟩
theorem Wv:∀(n:Nat) (s:PD) (t:FE) (vs dp:Int),(KX t≤n)→(HF t)→(L3 s.env)→(s.own.length<9000000)→(OD s.d)→(0≤dp∧dp≤200)→(0≤vs∧vs+(201 - dp)*1000000≤549755813888)→FX Tryz.prog 152 [.agg ((Fq s).map .p),.agg ((DA t).map .p),.p (I vs),.p (I dp)] (fun v=>∃ee:Int,v= .p (I ee)∧(ee=0→FJ t)):=by
 intro n
 induction n with
 | zero=>intro s t vs dp h;have:=N4 t;omega
 | succ n ih =>
  intro s t vs dp h1 h2 h3 h4 h5 h6 h7;have htl:=h2.bl;refine A9 Tryz.func152 O lh (n:=110) O O (A3 (BP O (BY O) fun b4=>BP O (BY O) fun b5=>Ax A8 1 [] O (Az (Ay A8 2 [] O (A0 O (fun c=>?_) (fun c=>?_))))))
  ·(try simp only[sd,se] at c);refine Ay A8 1 [] O (A4 (⟨O,_,_,⟨_,_,O,O,O⟩,(List.nil_sublist _),?_⟩))
   all_goals exact⟨⟨_,rfl,fun h=>absurd h Aq⟩,rfl⟩
  (try simp only[sd,se] at c);refine A5 (Az (A3 (Av O (Aw Fs O O) (Av O (A6 (i:=0) C7 O O (Gs _)) (Bk O (BH (Ay A8 2 [] O (A0 O (fun c1=>?_) (fun c1=>?_)))))))))
  ·(try simp only[sd,se] at c1);refine Az (Az (Bb [2,4,5] 28 (fun y=>y= .p (.bool (((t.var:Int) !=(0:Int))||(decide (((t.branches.length:Nat):Int) > (0:Int)))))) ?_ ?_))
   ·refine A7 (Av O (Aw Fs O O) (Av O (A6 (i:=0) C7 O O (Dk _)) (A2 A8 2 [] O (BQ 23 O (fun g=>?_) (fun g=>?_)))))
    ·(try simp only[sd,se] at g);exact Ax A8 5 [] O (⟨O,O,AK,AI,⟨O,O,O,Au⟩⟩)
    (try simp only[sd,se] at g);exact BF O (Aw Fs O O) (BF O (A6 (i:=0) L0 O O (CU _)) (BF O (BS Kg O (F5 _)) (Ax A8 2 [] O (⟨O,O,AK,AI,⟨O,O,O,Au⟩⟩))))
   rintro _ rfl;refine A0 O (fun c2=>?_) (fun c2=>?_)
   ·(try simp only[sd,se] at c2);refine Ay A8 1 [] O (A4 (⟨O,_,_,⟨_,_,O,O,O⟩,(List.nil_sublist _),?_⟩))
    all_goals exact⟨⟨_,rfl,fun h=>absurd h Aq⟩,rfl⟩
   (try simp only[sd,se] at c2);have hb0:t.branches.length=0:=by omega
   refine A5 (A3 (A2 A8 2 [1] O (Av O (B4 (i:=0) Ba O O (FT _) (BJ _)) (A2 A8 3 [] O (Av O (A6 (i:=1) C7 O O (OF _)) (DO O O (B7 O O (Gc s t.body vs s.d.params h2.body h3.env h4 h5 Ar) (.inl O)) ?_))))));rintro _ ⟨e,rfl,he⟩;refine Ax A8 1 [] O (A4 (⟨O,_,_,⟨_,_,O,O,O⟩,(List.nil_sublist _),?_⟩))
   all_goals exact⟨⟨_,rfl,fun h=>P9 (he h) (ja hb0)⟩,rfl⟩
  (try simp only[sd,se] at c1);refine Ay A8 2 [] O (A0 O (fun c2=>?_) (fun c2=>?_))
  ·(try simp only[sd,se] at c2);refine A3 (Av O (Aw Fs O O) (Av O (B4 (i:=0) Ba O O (FT _) (BJ _)) (Av O (BM O O (Je t.body h2.body.nd) O) (Ax A8 1 [] O (A0 O (fun c3=>?_) (fun c3=>?_))))))
   ·(try simp only[sd,se] at c3);refine Ay A8 1 [] O (A4 (⟨O,_,_,⟨_,_,O,O,O⟩,(List.nil_sublist _),?_⟩))
    all_goals exact⟨⟨_,rfl,fun h=>absurd h Aq⟩,rfl⟩
   (try simp only[sd,se] at c3);have hz0:NQ t.body Be=true:=by simpa using c3
   refine A5 (Az (Az (Bb [2,3,4,5] 51 (fun y=>y= .p (.bool ((decide ((t.var:Int)<(0:Int)))||(decide ((t.var:Int)≥(vs:Int)))))) ?_ ?_)))
   ·refine A7 (Av O (Aw Fs O O) (Av O (A6 (i:=0) C7 O O (Dk _)) (A2 A8 2 [] O (BQ 46 O (fun g=>?_) (fun g=>?_)))))
    ·(try simp only[sd,se] at g);exact Ax A8 5 [] O (⟨O,O,AK,AI,⟨O,O,O,O,Au⟩⟩)
    (try simp only[sd,se] at g);exact BF O (Aw Fs O O) (BF O (A6 (i:=0) C7 O O (Dk _)) (Ax A8 3 [] O (⟨O,O,AK,AI,⟨O,O,O,O,Au⟩⟩)))
   rintro _ rfl;refine A0 O (fun c4=>?_) (fun c4=>?_)
   ·(try simp only[sd,se] at c4);refine Ay A8 1 [] O (A4 (⟨O,_,_,⟨_,_,O,O,O⟩,(List.nil_sublist _),?_⟩))
    all_goals exact⟨⟨_,rfl,fun h=>absurd h Aq⟩,rfl⟩
   (try simp only[sd,se] at c4);refine A5 (Az (A3 (Av O (Aw Fs O O) (Av O (A6 (i:=0) L0 O O (CU _)) (Av O (BS Kg O (F5 _)) (Ax A8 1 [] O (A0 O (fun c5=>?_) (fun c5=>?_))))))))
   ·(try simp only[sd,se] at c5);refine Ay A8 1 [] O (A4 (⟨O,_,_,⟨_,_,O,O,O⟩,(List.nil_sublist _),?_⟩))
    all_goals exact⟨⟨_,rfl,fun h=>absurd h Aq⟩,rfl⟩
   (try simp only[sd,se] at c5);refine A5 (Az (Ay A8 1 [] O (BH ?_)));refine Bn (α:=Nat) (fun i=>⟨110,mk [(2,.p (I vs)),(3,.p (I dp)),(4,.ptr b4 0),(5,.ptr b5 0),(9,.p (I (i:Int)))],[.box b5 ((DA t).map .p),.box b4 ((Fq s).map .p)],[]⟩) (fun i=>t.branches.length - i) (fun i=>i≤t.branches.length∧(∀j,j<i→∀x,t.branches[j]?=some x→FJ x.tree)) 0 (⟨by omega,fun j h=>by omega⟩) ?_ ?_
   ·exact Bh ⟨we O,we O,we O,we O,we O,Au⟩ (leH (is:=[0,1]) O (wl (oe O) (wl (oe O) (Dd))))
   rintro i hC
   try simp only at hC
   obtain⟨hi,hC⟩:=hC;refine Az (A3 (A2 A8 2 [] O (Av O (A6 (i:=0) L0 O O (CU _)) (Av O (BS Kg O (F5 _)) (Ax A8 1 [] O (A0 O (fun c6=>?_) (fun c6=>?_)))))))
   ·(try simp only[sd,se] at c6);refine A5 (Az (BH (A3 (Av O (Aw Fs O O) (Av O (A6 (i:=0) L0 O O (CU _)) (B0 O ?_))))));obtain⟨x,hx⟩:=BB (l:=t.branches) (i:=i) Ar;refine Av O (BA Kg O O Ar (Gj hx) (Di _)) (Av O (BO Se O (Di _)) (BP O (BE Xk O) fun b10=>Ax A8 1 [0,1] O (A3 (Av O (Aw ME O O) (Av O (A6 (i:=2) Qu O O (JK _)) (Av O (Aw Im O O) (Av O (A6 (i:=0) Lz O O (Gv _)) (Av O (BM O O (NR s.env x.ctor h3.env) O) (A2 A8 3 [] O (BP O (BE IK O) fun b11=>Ax A8 2 [0,1] O (Az (Az (Bb [2,3,4,5,9,10,11] 82 (fun y=>∃q:Bool,y= .p (.bool q)∧(q=false→(Bw s.env x.ctor).2=0∧(Bw s.env x.ctor).1.kind=4)) ?_ ?_)))))))))))))
    ·refine A7 (A2 A8 3 [] O (BQ 78 O (fun g=>?_) (fun g=>?_)))
     ·(try simp only[sd,se] at g);refine Ax A8 4 [] O ?_;exact⟨O,O,AK,(by refine⟨_,rfl,fun h=>?_⟩;first | (exact absurd h Aq) | exact⟨by simpa using g,by simpa using h⟩),⟨O,O,O,O,O,O,O,Au⟩⟩
     (try simp only[sd,se] at g);refine BF O (Aw E8 O O) (BF O (A6 (i:=0) C7 O O (DP _)) (Ax A8 2 [] O ?_));exact⟨O,O,AK,(by refine⟨_,rfl,fun h=>?_⟩;first | (exact absurd h Aq) | exact⟨by simpa using g,by simpa using h⟩),⟨O,O,O,O,O,O,O,Au⟩⟩
    rintro _ ⟨q,rfl,hq⟩;refine A0 O (fun c7=>?_) (fun c7=>?_)
    ·(try simp only[sd,se] at c7);refine Ay A8 1 [] O (A4 (⟨O,_,_,⟨_,_,O,O,O⟩,(List.nil_sublist _),?_⟩))
     all_goals exact⟨⟨_,rfl,fun h=>absurd h Aq⟩,rfl⟩
    (try simp only[sd,se] at c7);obtain⟨hqc,hqd⟩:=hq (by simpa using c7);obtain⟨dd,k1,k2,k3,k4⟩:=Vv hqc hqd;refine A5 (Az (A3 (Av O (Aw Im O O) (Av O (A6 (i:=1) iY O O (Gu _)) (Bk O (A0 O (fun c8=>?_) (fun c8=>?_)))))))
    ·(try simp only[sd,se] at c8);refine Az (A3 (Av O (Aw Im O O) (Av O (B4 (i:=1) It O O (Fz _) (Cq _)) (Av O (CE Fs Ye O) (DO O O (B7 O O (Bu.args (Tj (KX x.tree) x.tree (FE.mk 0 (.mk 0 0 ⟨#[]⟩ [] []:Tm) 0 []) (Nat.le_refl _) (Ii h2.bs hx).tr) (aw (we O) (aw (Dz O) (FB)))) (.inl O)) ?_)))));rintro _ ⟨q1,rfl,hq⟩;refine Ax A8 1 [] O (A0 O (fun c9=>?_) (fun c9=>?_))
     ·(try simp only[sd,se] at c9);refine Ay A8 1 [] O (A4 (⟨O,_,_,⟨_,_,O,O,O⟩,(List.nil_sublist _),?_⟩))
      all_goals exact⟨⟨_,rfl,fun h=>absurd h Aq⟩,rfl⟩
     (try simp only[sd,se] at c9);have hok:FJ x.tree:=Wn (hq (by simpa using c9)).1 (hq (by simpa using c9)).2;refine A5 (Bp (A7 (Ax A8 3 [] O (⟨(i+1),AT,⟨by omega,C6 (p:=fun _ (y:GF)=>FJ y.tree) hC hx hok⟩,Bh ⟨we rfl,we rfl,we rfl,we rfl,we rfl,trivial⟩ (leH (is:=[2,3]) rfl (wl (oe rfl) (wl (oe rfl) (Dd))))⟩))))
    (try simp only[sd,se] at c8);refine A5 (Az (CG (fun k=>Nat.beq k 12||Nat.beq k 16) Eg (BT (j:=3) O O O (fun H i hi=>BI (i:=i) Rv O hi Ag) AB Au (A1 O (fun _=>Aw Im O O) Au (BT (j:=1) O O O (fun H i hi=>B4 (i:=i) It O hi (Fz _) (Cq _)) AB Au (A1 O (fun _=>BC O) Au (A1 O (fun _=>Aw ME O O) Au (BT (j:=3) O O O (fun H i hi=>A6 (i:=i) Qu O hi (JK _)) AB Au (A1 O (fun _=>Aw E8 O O) Au (BT (j:=0) O O O (fun H i hi=>A6 (i:=i) C7 O hi (ER _)) AB Au ?_))))))))));obtain⟨x1,hx1⟩:=BB (l:=s.env) (i:=(((Bw s.env x.ctor).1).decl:Int).toNat) (by have:=(List.getElem?_eq_some_iff.1 k2).1;omega);refine A1 O (fun _=>BA Iv O O Ar (En hx1) (Cp _)) Au (A1 O (fun _=>BO Ew O (Cp _)) Au (A1 O (fun _=>Aw E8 O O) Au (BT (j:=0) O O O (fun H i hi=>A6 (i:=i) C7 O hi (Gt _)) AB Au ?_)));refine JN [(14,.free (.p (I dp))),(15,.free (.p (I ((dp:Int)+(1:Int)))))] O O (B7 O O (WA x1 (((Bw s.env x.ctor).1).item) (h3.all _ (List.mem_of_getElem? hx1)).din (h3.all _ (List.mem_of_getElem? hx1)).fx k3 (by have e:=Option.some.inj (k2.symm.trans hx1);subst e;exact k4)) (.inl O)) An (⟨_,0,O,by omega,by omega⟩) AB ?_;rintro _ ⟨e,rfl,he0,he1⟩;refine⟨Au,?_⟩;refine A1 O (fun _=>Ga O O Ar Ar) AN (A1 O (fun _=>BC O) AN (A1 O (fun _=>Ga O O Ar Ar) AN (JN [] O O (B7 O O (ih s x.tree ((vs:Int)+(e:Int)) ((dp:Int)+(1:Int)) (by have:=Qv hx;omega) (Ii h2.bs hx).tr h3 h4 h5 Ar Ar) (.inl O)) An (⟨_,1,O,fun h=>absurd h Aq⟩) AB ?_)));rintro _ ⟨e1,rfl,he⟩;refine⟨AN,?_⟩;refine A1 O (fun _=>Bf O) AN (B6 O An (Ay A8 2 [] O (A0 O (fun c9=>?_) (fun c9=>?_))))
    ·(try simp only[sd,se] at c9);refine Ay A8 2 [] O (A4 (⟨O,_,_,⟨_,_,O,O,O⟩,(List.nil_sublist _),?_⟩))
     all_goals exact⟨⟨_,rfl,fun h=>absurd h Ao⟩,rfl⟩
    (try simp only[sd,se] at c9);have hok:= @he Ar;refine A5 (A7 (Ax A8 3 [] O (⟨(i+1),AT,⟨by omega,C6 (p:=fun _ (y:GF)=>FJ y.tree) hC hx hok⟩,Bh ⟨we rfl,we rfl,we rfl,we rfl,we rfl,trivial⟩ (leH (is:=[2,3]) rfl (wl (oe rfl) (wl (oe rfl) (Dd))))⟩)))
   (try simp only[sd,se] at c6);refine Bp (Ay A8 1 [] O (A4 (⟨O,_,_,⟨_,_,O,O,O⟩,(List.nil_sublist _),?_⟩)))
   all_goals exact⟨⟨_,rfl,fun _=>P9 (by rw[HY.1 hz0];exact Gp) (Hc Ar hC)⟩,rfl⟩
  (try simp only[sd,se] at c2);refine Ay A8 1 [] O (A4 (⟨O,_,_,⟨_,_,O,O,O⟩,(List.nil_sublist _),?_⟩))
  all_goals exact⟨⟨_,rfl,fun h=>absurd h Aq⟩,rfl⟩
theorem ZX:∀(ds:List CM) (d:CM),(L3 ds)→(OD d)→(T8 d)→FX Tryz.prog 136 [.p (.lst (List.map Bo ds)),.agg ((Bo d).map .p)] (fun v=>∃ee:Int,v= .p (I ee)∧(ee=0→dM d)):=by
 intro ds d h1 h2 h3;have hn:=MN d;have hcl:=h2.cl;have hfl:=h2.fl;have hrl:=h2.rl;refine A9 Tryz.func136 O mC (n:=161) O O (A3 (BP O (BY O) fun b3=>Ax A8 1 [] O (A3 (A2 A8 2 [0] O (Av O (dc ME iE (mR O O O)) (BP O (BE iE O) fun b5=>Ax A8 1 [0,1] O (Az (A3 (Av O (Aw Cm O O) (Av O (A6 (i:=1) C7 O O (Du _)) (Ax A8 1 [] O (Bb [3,5] 17 (fun _=>True) ?_ ?_))))))))))))
 ·refine A0 O (fun c=>?_) (fun c=>?_)
  ·(try simp only[sd,se] at c);refine A3 (A2 A8 2 [0] O (Av O (B4 (i:=1) Ba O O (FO _) (BJ _)) (Av O (Aw Cm O O) (Av O (A6 (i:=1) C7 O O (Ci _)) (DO O O (B7 O O (Gc (PD.mk ds [] d) d.type 0 d.params h2.ty h1.env As h2 Ar) (.inl O)) ?_)))));rintro _ ⟨e,rfl,he⟩;refine Ax A8 1 [] O (Ay A8 2 [] O (A0 O (fun c1=>?_) (fun c1=>?_)))
   ·(try simp only[sd,se] at c1);refine Ay A8 2 [] O (A4 (⟨O,_,_,⟨_,_,O,O,O⟩,(List.nil_sublist _),?_⟩))
    all_goals exact⟨⟨_,rfl,fun h=>absurd h Ao⟩,rfl⟩
   (try simp only[sd,se] at c1);exact A5 (⟨O,O,(List.Sublist.refl _),Au,⟨O,O,Au⟩⟩)
  (try simp only[sd,se] at c);exact A5 (⟨O,O,(List.Sublist.refl _),Au,⟨O,O,Au⟩⟩)
 intro _ _;refine Az (A3 (Av O (Aw Cm O O) (Av O (A6 (i:=1) C7 O O (Du _)) (Bk O (BH (Az (Ay A8 2 [] O (Bb [3,5,33] 34 (fun y=>y= .p (.bool (decide (d.kind=1∨d.kind=2)))) ?_ ?_))))))))
 ·refine A0 O (fun c=>?_) (fun c=>?_)
  ·(try simp only[sd,se] at c);exact A5 (⟨O,O,(List.Sublist.refl _),(by refine pB (Bool.eq_iff_iff.2 ?_);simp only[beq_iff_eq,decide_eq_true_eq];omega),⟨O,O,O,Au⟩⟩)
  (try simp only[sd,se] at c);exact A7 (Ax A8 2 [] O (⟨O,O,(List.Sublist.refl _),(by refine pB (Bool.eq_iff_iff.2 ?_);simp only[beq_iff_eq,decide_eq_true_eq];omega),⟨O,O,O,Au⟩⟩))
 rintro _ rfl;refine A0 O (fun c=>?_) (fun c=>?_)
 ·(try simp only[sd,se] at c);have hk12:d.kind=1∨d.kind=2:=by simpa using c
  refine A3 (A2 A8 2 [0] O (Av O (B4 (i:=1) Ba O O (Fa _) (BJ _)) (Av O (Aw Cm O O) (Av O (A6 (i:=1) C7 O O (Ci _)) (DO O O (B7 O O (Gc (PD.mk ds [] d) d.value 0 d.params h2.vl h1.env As h2 Ar) (.inl O)) ?_)))));rintro _ ⟨e,rfl,he⟩;refine Ax A8 1 [] O (A4 (⟨O,_,_,⟨_,_,O,O,O⟩,(List.nil_sublist _),?_⟩))
  all_goals exact⟨⟨_,rfl,fun h=>⟨fun _=>he h,fun _=>by omega,fun _=>by omega⟩⟩,rfl⟩
 (try simp only[sd,se] at c);have hk12:¬(d.kind=1∨d.kind=2):=by simpa using c
 refine Ay A8 2 [] O (A0 O (fun c1=>?_) (fun c1=>?_))
 ·(try simp only[sd,se] at c1);have hn1:=ZH (d:=d) (by simpa using c1);have hk3:=c1;refine A3 (Av O (Aw Cm O O) (Av O (A6 (i:=1) Lz O O (De _)) (Av O (CC GS gb O O O O O) (Av O (Aw ME O O) (Av O (Ds (i:=0) (ds:=(Fq (PD.mk ds [d.name] d)).map .p) Ur O O O O O O O) (Bk O (Az (Ay A8 1 [] O (BH (Bn (α:=Nat) (fun i=>⟨161,mk [(3,.ptr b3 0),(5,.ptr b5 0),(7,.p (I (i:Int)))],[.box b5 ((Fq (PD.mk ds [d.name] d)).map .p),.box b3 ((Bo d).map .p)],[]⟩) (fun i=>d.ctors.length - i) (fun i=>i≤d.ctors.length) 0 AP ?_ ?_))))))))))
  ·exact Bh ⟨we O,we O,we O,Au⟩ (leH (is:=[0,1]) O (wl (oe O) (wl (oe O) (Dd))))
  rintro i hC
  try simp only at hC
  have hi:=hC;refine Az (A3 (A2 A8 2 [] O (Av O (A6 (i:=1) IM O O (CJ _)) (Av O (BS Hu O (List.length_map _)) (Ax A8 1 [] O (A0 O (fun c2=>?_) (fun c2=>?_)))))))
  ·(try simp only[sd,se] at c2);refine A5 (Az (BH (Az (CG (fun k=>Nat.beq k 9) Eg (BT (j:=0) O O O (fun H i hi=>BI (i:=i) Rv O hi Ag) AB Au (A1 O (fun _=>Aw Cm O O) Au (BT (j:=1) O O O (fun H i hi=>A6 (i:=i) IM O hi (CJ _)) AB Au (A1 O (fun _=>BC O) Au ?_))))))));obtain⟨x,hx⟩:=BB (l:=d.ctors) (i:=i) Ar;refine A1 O (fun _=>BA Hu O O Ar (Eh hx) (EI _)) Au (A1 O (fun _=>B3 I8 O O) Au (A1 O (fun _=>DV Ba O (FP _) (BJ _)) Au (A1 O (fun _=>Aw Cm O O) Au (BT (j:=1) O O O (fun H i hi=>A6 (i:=i) C7 O hi (Ci _)) AB Au (JN [] O O (B7 O O (Gc (PD.mk ds [d.name] d) x.type 0 d.params (h2.cs _ (List.mem_of_getElem? hx)).ty h1.env As h2 Ar) (.inl O)) An (⟨_,1,O,fun h=>absurd h Aq⟩) AB ?_)))));rintro _ ⟨e,rfl,he⟩;refine⟨Au,?_⟩;refine A1 O (fun _=>Bf O) Au (B6 O An (Ay A8 2 [] O (A0 O (fun c3=>?_) (fun c3=>?_))))
   ·(try simp only[sd,se] at c3);refine Ay A8 2 [] O (A4 (⟨O,_,_,⟨_,_,O,O,O⟩,(List.nil_sublist _),?_⟩))
    all_goals exact⟨⟨_,rfl,fun h=>absurd h Ao⟩,rfl⟩
   (try simp only[sd,se] at c3);refine A5 (A7 (Ax A8 3 [] O ?_));refine⟨(i+1),AT,by omega,Bh ⟨we rfl,we rfl,we rfl,trivial⟩ (leH (is:=[0,1]) rfl (wl (oe rfl) (wl (oe rfl) (Dd))))⟩
  (try simp only[sd,se] at c2);refine Bp (A3 (Av O (BI (i:=1) Ew O O Ah) (Av O (BM O O (Ls d h2.cl h2.fl h2.nm) O) (Ax A8 1 [] O (A3 (A2 A8 2 [] O (Av O (BS GS O (List.length_map _)) (Av O (Lp O O Ar Ar) (Av O (Cz (lo:=0) (hi:=((((Cw d).length:Nat):Int) - (1:Int):Int).toNat) GS O (CQ (Jt _)) O ⟨_,pI Ar⟩ (Nat.zero_le _) AQ (XF (f:=GD) (Cw d) (((((Cw d).length:Nat):Int) - (1:Int):Int).toNat))) (Av O (Aw ME O O) (Av O (Ds (i:=0) (ds:=(Fq (PD.mk ds ((Cw d).take (((((Cw d).length:Nat):Int) - (1:Int):Int).toNat)) d)).map .p) Ur O O O O O O O) (Bk O (Az (A3 (A2 A8 3 [0] O (Av O (B4 (i:=1) Ba O O (Em _) (BJ _)) (A2 A8 2 [] O ?_)))))))))))))))));refine Av O (A6 (i:=1) C7 O O (DU _)) (DO O O (B7 O O (Gc (PD.mk ds ((Cw d).take (((((Cw d).length:Nat):Int) - (1:Int):Int).toNat)) d) d.recs.type 0 d.recs.params h2.rt h1.env Am h2 Ar) (.inl O)) ?_);rintro _ ⟨e,rfl,he⟩;refine Ax A8 1 [] O (Ay A8 2 [] O (A0 O (fun c3=>?_) (fun c3=>?_)))
  ·(try simp only[sd,se] at c3);refine Ay A8 2 [] O (A4 (⟨O,_,_,⟨_,_,O,O,O⟩,(List.nil_sublist _),?_⟩))
   all_goals exact⟨⟨_,rfl,fun h=>absurd h Ao⟩,rfl⟩
  (try simp only[sd,se] at c3);refine A5 (A3 (A2 A8 2 [] O (Av O (Ds (i:=0) (ds:=(Fq (PD.mk ds (Cw d) d)).map .p) Ur O O O O O O O) (Bk O (Ay A8 1 [] O (BH ?_))))));refine Bn (α:=Nat) (fun i=>⟨161,mk [(3,.ptr b3 0),(5,.ptr b5 0),(11,.p (I (i:Int)))],[.box b5 ((Fq (PD.mk ds (Cw d) d)).map .p),.box b3 ((Bo d).map .p)],[]⟩) (fun i=>d.recs.rules.length - i) (fun i=>i≤d.recs.rules.length∧(∀j,j<i→∀x,d.recs.rules[j]?=some x→okB x=true)) 0 (⟨by omega,fun j h=>by omega⟩) ?_ ?_
  ·exact Bh ⟨we O,we O,we O,Au⟩ (leH (is:=[0,1]) O (wl (oe O) (wl (oe O) (Dd))))
  rintro i hC1
  try simp only at hC1
  obtain⟨hi,hR⟩:=hC1;refine Az (A3 (A2 A8 3 [] O (Av O (A6 (i:=1) E3 O O (Cr _)) (Av O (BS Br O (Bc _)) (Ax A8 1 [] O (A0 O (fun c4=>?_) (fun c4=>?_)))))))
  ·(try simp only[sd,se] at c4);refine A5 (Az (BH (Az (CG (fun k=>Nat.beq k 10) Eg (BT (j:=0) O O O (fun H i hi=>BI (i:=i) Rv O hi Ag) AB Au (A1 O (fun _=>Aw Cm O O) Au (A1 O (fun _=>Aw il O O) Au (BT (j:=1) O O O (fun H i hi=>A6 (i:=i) E3 O hi (Cr _)) AB Au (A1 O (fun _=>BC O) Au ?_)))))))));obtain⟨x,hx⟩:=BB (l:=d.recs.rules) (i:=i) Ar;refine A1 O (fun _=>BA Br O O Ar (Bj hx) (BJ _)) Au (A1 O (fun _=>BO Ba O (BJ _)) Au (A1 O (fun _=>Aw Cm O O) Au (A1 O (fun _=>Aw il O O) Au (BT (j:=1) O O O (fun H i hi=>A6 (i:=i) C7 O hi (DU _)) AB Au (JN [] O O (B7 O O (Gc (PD.mk ds (Cw d) d) x 0 d.recs.params (h2.rs _ (List.mem_of_getElem? hx)) h1.env Ae h2 Ar) (.inl O)) An (⟨_,1,O,fun h=>absurd h Aq⟩) AB ?_)))));rintro _ ⟨e1,rfl,he1⟩;refine⟨Au,?_⟩;refine A1 O (fun _=>Bf O) Au (B6 O An (Ay A8 2 [] O (A0 O (fun c5=>?_) (fun c5=>?_))))
   ·(try simp only[sd,se] at c5);refine Ay A8 2 [] O (A4 (⟨O,_,_,⟨_,_,O,O,O⟩,(List.nil_sublist _),?_⟩))
    all_goals exact⟨⟨_,rfl,fun h=>absurd h Ao⟩,rfl⟩
   (try simp only[sd,se] at c5);refine A5 (A7 (Ax A8 3 [] O (⟨(i+1),AT,⟨by omega,C6 (p:=fun _ (y:Tm)=>okB y=true) hR hx (he1 Ar)⟩,Bh ⟨we rfl,we rfl,we rfl,trivial⟩ (leH (is:=[0,1]) rfl (wl (oe rfl) (wl (oe rfl) (Dd))))⟩)))
  (try simp only[sd,se] at c4);refine Bp (Ay A8 1 [] O (A4 (⟨O,_,_,⟨_,_,O,O,O⟩,(List.nil_sublist _),?_⟩)))
  all_goals exact⟨⟨_,rfl,fun _=>⟨fun _=>by omega,fun _=>Hc Ar hR,fun _=>by omega⟩⟩,rfl⟩
 (try simp only[sd,se] at c1);have hk3:=c1;refine Ay A8 2 [] O (A0 O (fun c2=>?_) (fun c2=>?_))
 ·(try simp only[sd,se] at c2);refine Az (Ay A8 1 [] O (BH (Bn (α:=Nat) (fun i=>⟨161,mk [(3,.ptr b3 0),(5,.ptr b5 0),(13,.p (I (i:Int)))],[.box b5 ((Fq (PD.mk ds [] d)).map .p),.box b3 ((Bo d).map .p)],[]⟩) (fun i=>d.funs.length - i) (fun i=>i≤d.funs.length) 0 AP ?_ ?_)))
  ·exact Bh ⟨we O,we O,we O,Au⟩ (leH (is:=[0,1]) O (wl (oe O) (wl (oe O) (Dd))))
  rintro i hC
  try simp only at hC
  have hi:=hC;refine Az (A3 (A2 A8 2 [] O (Av O (A6 (i:=1) HS O O (CI _)) (Av O (BS G9 O (List.length_map _)) (Ax A8 1 [] O (A0 O (fun c3=>?_) (fun c3=>?_)))))))
  ·(try simp only[sd,se] at c3);refine A5 (Az (BH (Az (CG (fun k=>Nat.beq k 9) Eg (BT (j:=0) O O O (fun H i hi=>BI (i:=i) Rv O hi Ag) AB Au (A1 O (fun _=>Aw Cm O O) Au (BT (j:=1) O O O (fun H i hi=>A6 (i:=i) HS O hi (CI _)) AB Au (A1 O (fun _=>BC O) Au ?_))))))));obtain⟨x,hx⟩:=BB (l:=d.funs) (i:=i) Ar;refine A1 O (fun _=>BA G9 O O Ar (Ec hx) (DQ _)) Au (A1 O (fun _=>B3 G2 O O) Au (A1 O (fun _=>DV Ba O (IQ _) (BJ _)) Au (A1 O (fun _=>Aw Cm O O) Au (BT (j:=1) O O O (fun H i hi=>A6 (i:=i) C7 O hi (Ci _)) AB Au (JN [] O O (B7 O O (Gc (PD.mk ds [] d) x.type 0 d.params (h2.fs _ (List.mem_of_getElem? hx)).ty h1.env As h2 Ar) (.inl O)) An (⟨_,1,O,fun h=>absurd h Aq⟩) AB ?_)))));rintro _ ⟨e,rfl,he⟩;refine⟨Au,?_⟩;refine A1 O (fun _=>Bf O) Au (B6 O An (Ay A8 2 [] O (A0 O (fun c4=>?_) (fun c4=>?_))))
   ·(try simp only[sd,se] at c4);refine Ay A8 2 [] O (A4 (⟨O,_,_,⟨_,_,O,O,O⟩,(List.nil_sublist _),?_⟩))
    all_goals exact⟨⟨_,rfl,fun h=>absurd h Ao⟩,rfl⟩
   (try simp only[sd,se] at c4);refine A5 (A7 (Ax A8 3 [] O ?_));refine⟨(i+1),AT,by omega,Bh ⟨we rfl,we rfl,we rfl,trivial⟩ (leH (is:=[0,1]) rfl (wl (oe rfl) (wl (oe rfl) (Dd))))⟩
  (try simp only[sd,se] at c3);refine Bp (A3 (Av O (BI (i:=1) Ew O O Ah) (Av O (BM O O (Ls d h2.cl h2.fl h2.nm) O) (Av O (Aw ME O O) (Av O (Ds (i:=0) (ds:=(Fq (PD.mk ds (Cw d) d)).map .p) Ur O O O O O O O) (Bk O (Ay A8 1 [] O (BH ?_))))))));refine Bn (α:=Nat) (fun i=>⟨161,mk [(3,.ptr b3 0),(5,.ptr b5 0),(15,.p (I (i:Int)))],[.box b5 ((Fq (PD.mk ds (Cw d) d)).map .p),.box b3 ((Bo d).map .p)],[]⟩) (fun i=>d.funs.length - i) (fun i=>i≤d.funs.length∧(∀j,j<i→∀x,d.funs[j]?=some x→FJ x.tree)) 0 (⟨by omega,fun j h=>by omega⟩) ?_ ?_
  ·exact Bh ⟨we O,we O,we O,Au⟩ (leH (is:=[0,1]) O (wl (oe O) (wl (oe O) (Dd))))
  rintro i hC1
  try simp only at hC1
  obtain⟨hi,hT⟩:=hC1;refine Az (A3 (A2 A8 2 [] O (Av O (A6 (i:=1) HS O O (CI _)) (Av O (BS G9 O (List.length_map _)) (Ax A8 1 [] O (A0 O (fun c4=>?_) (fun c4=>?_)))))))
  ·(try simp only[sd,se] at c4);refine A5 (Az (BH (Az (CG (fun k=>Nat.beq k 13) Eg (BT (j:=0) O O O (fun H i hi=>BI (i:=i) Rv O hi Ag) AB Au (A1 O (fun _=>Aw Cm O O) Au (BT (j:=1) O O O (fun H i hi=>A6 (i:=i) HS O hi (CI _)) AB Au (A1 O (fun _=>BC O) Au ?_))))))));obtain⟨x,hx⟩:=BB (l:=d.funs) (i:=i) Ar;refine A1 O (fun _=>BA G9 O O Ar (Ec hx) (DQ _)) Au (A1 O (fun _=>B3 G2 O O) Au (A1 O (fun _=>DV It O (ET _) (Cq _)) Au (A1 O (fun _=>Aw Cm O O) Au (BT (j:=1) O O O (fun H i hi=>A6 (i:=i) HS O hi (CI _)) AB Au (A1 O (fun _=>BC O) Au (A1 O (fun _=>BA G9 O O Ar (Ec hx) (DQ _)) Au (A1 O (fun _=>B3 G2 O O) Au (A1 O (fun _=>DW C7 O (Cb _)) Au ?_))))))));have hax:=h3.2.1 _ (List.mem_of_getElem? hx);refine JN [] O O (B7 O O (Wv (KX x.tree) (PD.mk ds (Cw d) d) x.tree x.arity 0 (Nat.le_refl _) (h2.fs _ (List.mem_of_getElem? hx)).tr h1 Ae h2 Ar Ar) (.inl O)) An (⟨_,1,O,fun h=>absurd h Aq⟩) AB ?_;rintro _ ⟨e,rfl,he⟩;refine⟨Au,?_⟩;refine A1 O (fun _=>Bf O) Au (B6 O An (Ay A8 2 [] O (A0 O (fun c5=>?_) (fun c5=>?_))))
   ·(try simp only[sd,se] at c5);refine Ay A8 2 [] O (A4 (⟨O,_,_,⟨_,_,O,O,O⟩,(List.nil_sublist _),?_⟩))
    all_goals exact⟨⟨_,rfl,fun h=>absurd h Ao⟩,rfl⟩
   (try simp only[sd,se] at c5);refine A5 (A7 (Ax A8 3 [] O (⟨(i+1),AT,⟨by omega,C6 (p:=fun _ (y:HB)=>FJ y.tree) hT hx (he Ar)⟩,Bh ⟨we rfl,we rfl,we rfl,trivial⟩ (leH (is:=[0,1]) rfl (wl (oe rfl) (wl (oe rfl) (Dd))))⟩)))
  (try simp only[sd,se] at c4);refine Bp (Ay A8 1 [] O (A4 (⟨O,_,_,⟨_,_,O,O,O⟩,(List.nil_sublist _),?_⟩)))
  all_goals exact⟨⟨_,rfl,fun _=>⟨fun _=>by omega,fun _=>by omega,fun _=>Hc Ar hT⟩⟩,rfl⟩
 (try simp only[sd,se] at c2);refine A5 (Ay A8 1 [] O (A4 (⟨O,_,_,⟨_,_,O,O,O⟩,(List.nil_sublist _),?_⟩)))
 all_goals exact⟨⟨_,rfl,fun _=>⟨fun _=>by omega,fun _=>by omega,fun _=>by omega⟩⟩,rfl⟩
theorem aA:∀(ds:List CM) (d:CM),(L3 ds)→(OD d)→FX Tryz.prog 102 [.p (.lst (List.map Bo ds)),.agg ((Bo d).map .p)] (fun v=>∃ee:Int,v= .p (I ee)∧(ee=0→DG d)):=by
 intro ds d h1 h2;refine A9 Tryz.func102 O lf (n:=32) O O (A3 (BP O (BY O) fun b3=>Ax A8 1 [] O (Az (Az (Bb [0,3] 14 (fun y=>y= .p (.bool ((decide ((d.kind:Int)<(0:Int)))||(decide ((d.kind:Int) > (4:Int)))))) ?_ ?_)))))
 ·refine A7 (Av O (Aw Cm O O) (Av O (A6 (i:=0) C7 O O (Du _)) (A2 A8 2 [] O (BQ 10 O (fun g=>?_) (fun g=>?_)))))
  ·(try simp only[sd,se] at g);exact Ax A8 4 [] O (⟨O,O,AK,AI,⟨O,O,Au⟩⟩)
  (try simp only[sd,se] at g);exact BF O (Aw Cm O O) (BF O (A6 (i:=0) C7 O O (Du _)) (Ax A8 2 [] O (⟨O,O,AK,AI,⟨O,O,Au⟩⟩)))
 rintro _ rfl;refine A0 O (fun c=>?_) (fun c=>?_)
 ·(try simp only[sd,se] at c);refine Ay A8 1 [] O (A4 (⟨O,_,_,⟨_,_,O,O,O⟩,(List.nil_sublist _),?_⟩))
  all_goals exact⟨⟨_,rfl,fun h=>absurd h Aq⟩,rfl⟩
 (try simp only[sd,se] at c);have hk:0≤d.kind∧d.kind≤4:=by omega
 refine A5 (Az (A3 (Av O (BI (i:=0) Ew O O Ah) (DO O O (B7 O O (Vy d h2 hk) (.inl O)) ?_))));rintro _ ⟨q,rfl,hq⟩;refine Ax A8 1 [] O (A0 O (fun c1=>?_) (fun c1=>?_))
 ·(try simp only[sd,se] at c1);refine Ay A8 1 [] O (A4 (⟨O,_,_,⟨_,_,O,O,O⟩,(List.nil_sublist _),?_⟩))
  all_goals exact⟨⟨_,rfl,fun h=>absurd h Aq⟩,rfl⟩
 (try simp only[sd,se] at c1);have hu:=hq (by simpa using c1);refine A5 (Az (A3 (Av O (BI (i:=0) Ew O O Ah) (DO O O (B7 O O (WJ d h2) (.inl O)) ?_))));rintro _ ⟨e,rfl,he⟩;refine Ax A8 1 [] O (Ay A8 2 [] O (A0 O (fun c2=>?_) (fun c2=>?_)))
 ·(try simp only[sd,se] at c2);refine Ay A8 2 [] O (A4 (⟨O,_,_,⟨_,_,O,O,O⟩,(List.nil_sublist _),?_⟩))
  all_goals exact⟨⟨_,rfl,fun h=>absurd h Ao⟩,rfl⟩
 (try simp only[sd,se] at c2);have hcn:=he Ar;refine A5 (Az (A3 (A2 A8 2 [0] O (DO O O (B7 O O (Rf ds d h1.env h2) (.inl O)) ?_))));rintro _ ⟨e1,rfl⟩;refine Ax A8 1 [] O (Ay A8 2 [] O (A0 O (fun c3=>?_) (fun c3=>?_)))
 ·(try simp only[sd,se] at c3);refine Ay A8 2 [] O (A4 (⟨O,_,_,⟨_,_,O,O,O⟩,(List.nil_sublist _),?_⟩))
  all_goals exact⟨⟨_,rfl,fun h=>absurd h Ao⟩,rfl⟩
 (try simp only[sd,se] at c3);refine A5 (A3 (A2 A8 2 [0] O (DO O O (B7 O O (ZX ds d h1 h2 hcn) (.inl O)) ?_)));rintro _ ⟨e2,rfl,he1⟩;refine Ax A8 1 [] O (A4 (⟨O,_,_,⟨_,_,O,O,O⟩,(List.nil_sublist _),?_⟩))
 all_goals exact⟨⟨_,rfl,fun h=>kX h2 hk hu hcn (he1 h)⟩,rfl⟩
theorem WX:∀(ds:List CM),(Ho ds)→FX Tryz.prog 66 [.p (.lst (List.map Bo ds))] (fun v=>∃a e:Int,v= .tup [.p (I a),.p (I e)]∧(e=0→L3 ds)):=by
 intro ds h1;have hl:=h1.len;refine A9 Tryz.func66 O oT (n:=27) O O (Ay A8 2 [] O (Az (A3 (B0 O (Av O (BS Iv O (List.length_map _)) (Ax A8 1 [] O (A0 O (fun c=>?_) (fun c=>?_))))))))
 ·(try simp only[sd,se] at c);refine Ay A8 2 [] O (A4 (⟨O,_,_,⟨_,_,O,O,⟨_,_,O,O,O⟩⟩,(List.nil_sublist _),?_⟩))
  all_goals exact⟨⟨_,_,rfl,fun h=>absurd h Aq⟩,rfl⟩
 (try simp only[sd,se] at c);refine A5 (Az (Ay A8 1 [] O (BH ?_)));refine Bn (α:=Nat) (fun i=>⟨27,mk [(0,.p (.lst (List.map Bo ds))),(4,.p (I (i:Int)))],[],[]⟩) (fun i=>ds.length - i) (fun i=>i≤ds.length∧(∀j,j<i→∀x,ds[j]?=some x→DG x)) 0 (⟨by omega,fun j h=>by omega⟩) ?_ ?_
 ·exact Bh ⟨we O,we O,Au⟩ (leH (is:=[]) O (Dd))
 rintro i hC
 try simp only at hC
 obtain⟨hi,hC⟩:=hC;refine Az (A3 (A2 A8 2 [] O (Av O (BS Iv O (List.length_map _)) (Ax A8 1 [] O (A0 O (fun c1=>?_) (fun c1=>?_))))))
 ·(try simp only[sd,se] at c1);refine A5 (Az (BH (Az (CG (fun k=>Nat.beq k 7) Eg (A1 O (fun _=>BC O) Au (A1 O (fun _=>BC O) Au (A1 O (fun _=>Cz (lo:=0) (hi:=i) Iv O (CQ (Yo _)) O ⟨_,O⟩ (Nat.zero_le _) AQ (XF (f:=Bo) ds i)) Au (A1 O (fun _=>BC O) Au (A1 O (fun _=>BC O) Au ?_)))))))));obtain⟨x,hx⟩:=BB (l:=ds) (i:=i) Ar;refine A1 O (fun _=>BA Iv O O Ar (En hx) (Cp _)) Au (A1 O (fun _=>BO Ew O (Cp _)) Au (JN [] O O (B7 O O (aA (ds.take i) x (YW h1 hC) (h1.all _ (List.mem_of_getElem? hx))) (.inl O)) An (⟨_,1,O,fun h=>absurd h Aq⟩) AB ?_));rintro _ ⟨e,rfl,he⟩;refine⟨Au,?_⟩;refine A1 O (fun _=>Bf O) Au (B6 O An (Ay A8 2 [] O (A0 O (fun c2=>?_) (fun c2=>?_))))
  ·(try simp only[sd,se] at c2);refine Ay A8 4 [] O (A4 (⟨O,_,_,⟨_,_,O,O,⟨_,_,O,O,O⟩⟩,(List.nil_sublist _),?_⟩))
   all_goals exact⟨⟨_,_,rfl,fun h=>absurd h Ao⟩,rfl⟩
  (try simp only[sd,se] at c2);refine A5 (A7 (Ax A8 3 [] O (⟨(i+1),AT,⟨by omega,C6 (p:=fun _ (y:CM)=>DG y) hC hx (he Ar)⟩,Bh ⟨we rfl,we rfl,trivial⟩ (leH (is:=[]) rfl (Dd))⟩)))
 (try simp only[sd,se] at c1);refine Bp (Ay A8 2 [] O (A4 (⟨O,_,_,⟨_,_,O,O,⟨_,_,O,O,O⟩⟩,(List.nil_sublist _),?_⟩)))
 all_goals exact⟨⟨_,_,rfl,fun _=>⟨h1,Hc Ar hC⟩⟩,rfl⟩
theorem HK:∀(t:Tm),(To t)→FF Tryz.prog 131 [.agg ((BU t).map .p)] (.p (.bool (decide (Fo t≤400)&&decide (Ep t≤150)))):=by
 intro t h1;refine A9 Tryz.func131 O kh (n:=11) O O (A3 (BP O (BY O) fun b1=>Ax A8 1 [] O (Az (Bb [] 2 (fun y=>y= .p (.bool ((decide ((Fo t:Int)≤(400:Int)))&&(decide ((Ep t:Int)≤(150:Int)))))) ?_ ?_))))
 ·refine A7 (Av O (BI (i:=0) Ba O O Ak) (Av O (BM O O (Tv _ t (Nat.le_refl _) h1.nd) O) (A2 A8 2 [] O (BQ 6 O (fun g=>?_) (fun g=>?_)))))
  ·(try simp only[sd,se] at g);exact BF O (BI (i:=0) Ba O O Ak) (BF O (BM O O (Qd _ t (Nat.le_refl _) h1.nd) O) (Ax A8 3 [] O ⟨O,O,AK,AI,Au⟩))
  (try simp only[sd,se] at g);exact Ax A8 5 [] O ⟨O,O,AK,AI,Au⟩
 rintro _ rfl;refine A4 (⟨O,_,_,⟨_,_,O,O,O⟩,(List.nil_sublist _),?_⟩)
 all_goals exact⟨rfl,rfl⟩
theorem RT:∀(n:Nat) (t:FE) (dp:Int),(KX t≤n)→(HF t)→(-1000<dp∧dp<1000)→FX Tryz.prog 132 [.agg ((DA t).map .p),.p (I dp)] (fun v=>∃bb:Bool,v= .p (.bool bb)∧(bb=true→(Dn t:Int)≤42 - dp)):=by
 intro n
 induction n with
 | zero=>intro t dp h;have:=N4 t;omega
 | succ n ih =>
  intro t dp h1 h2 h3;have htl:=h2.bl;refine A9 Tryz.func132 O mG (n:=47) O O (A3 (BP O (BY O) fun b2=>Ax A8 1 [] O (Az (Az (Bb [1,2] 19 (fun y=>∃q:Bool,y= .p (.bool q)∧(q=false→dp≤40)) ?_ ?_)))))
  ·refine A7 (A2 A8 3 [] O (BQ 8 O (fun g=>?_) (fun g=>?_)))
   ·(try simp only[sd,se] at g);exact Ax A8 11 [] O (⟨O,O,AK,(by refine⟨_,rfl,fun h=>?_⟩;first | (exact absurd h Aq) | omega),⟨O,O,Au⟩⟩)
   (try simp only[sd,se] at g);refine BF O (Aw Fs O O) (BF O (A6 (i:=0) L0 O O (CU _)) (BF O (BS Kg O (F5 _)) (A2 A8 3 [] O (BQ 14 O (fun g1=>?_) (fun g1=>?_)))))
   ·(try simp only[sd,se] at g1);exact Ax A8 5 [] O (⟨O,O,AK,(by refine⟨_,rfl,fun h=>?_⟩;first | (exact absurd h Aq) | omega),⟨O,O,Au⟩⟩)
   (try simp only[sd,se] at g1);exact BF O (Aw Fs O O) (BF O (B4 (i:=0) Ba O O (FT _) (BJ _)) (BF O (BM O O (HK t.body h2.body) O) (Ax A8 2 [] O (⟨O,O,AK,(by refine⟨_,rfl,fun h=>?_⟩;first | (exact absurd h Aq) | omega),⟨O,O,Au⟩⟩))))
  rintro _ ⟨q,rfl,hq⟩;refine A0 O (fun c=>?_) (fun c=>?_)
  ·(try simp only[sd,se] at c);refine Ay A8 1 [] O (A4 (⟨O,_,_,⟨_,_,O,O,O⟩,(List.nil_sublist _),?_⟩))
   all_goals exact⟨⟨_,rfl,fun h=>absurd h Aq⟩,rfl⟩
  (try simp only[sd,se] at c);have hq1:=hq (by simpa using c);refine A5 (Az (Ay A8 1 [] O (BH ?_)));refine Bn (α:=Nat) (fun i=>⟨47,mk [(1,.p (I dp)),(2,.ptr b2 0),(5,.p (I (i:Int)))],[.box b2 ((DA t).map .p)],[]⟩) (fun i=>t.branches.length - i) (fun i=>i≤t.branches.length∧(∀j,j<i→∀x,t.branches[j]?=some x→(Dn x.tree:Int)≤42 - (dp+1))) 0 (⟨by omega,fun j h=>by omega⟩) ?_ ?_
  ·exact Bh ⟨we O,we O,we O,Au⟩ (leH (is:=[0]) O (wl (oe O) (Dd)))
  rintro i hC
  try simp only at hC
  obtain⟨hi,hC⟩:=hC;refine Az (A3 (A2 A8 2 [] O (Av O (A6 (i:=0) L0 O O (CU _)) (Av O (BS Kg O (F5 _)) (Ax A8 1 [] O (A0 O (fun c1=>?_) (fun c1=>?_)))))))
  ·(try simp only[sd,se] at c1);obtain⟨x,hx⟩:=BB (l:=t.branches) (i:=i) Ar;refine A5 (Az (BH (Az (Bb [1,2,5] 46 (fun y=>∃q:Bool,y= .p (.bool q)∧(q=false→(Dn x.tree:Int)≤42 - (dp+1))) ?_ ?_))))
   ·refine A7 (Av O (Aw Fs O O) (Av O (A6 (i:=0) L0 O O (CU _)) (B0 O (Av O (BA Kg O O Ar (Gj hx) (Di _)) (Av O (B3 Im O O) (Av O (DV It O (Fz _) (Cq _)) (A2 A8 2 [] O (DO O O (B7 O O (ih x.tree ((dp:Int)+(1:Int)) (by have:=Qv hx;omega) (Ii h2.bs hx).tr Ar) (.inl O)) ?_))))))));rintro _ ⟨q1,rfl,hq⟩;refine A2 A8 2 [] O (BQ 37 O (fun g=>?_) (fun g=>?_))
    ·(try simp only[sd,se] at g);exact Ax A8 9 [] O (⟨O,O,AK,(by refine⟨_,rfl,fun h=>?_⟩;first | (exact absurd h Aq) | exact hq (by simpa using g)),⟨O,O,O,Au⟩⟩)
    (try simp only[sd,se] at g);exact BF O (Aw Fs O O) (BF O (A6 (i:=0) L0 O O (CU _)) (BF O (BC O) (BF O (BA Kg O O Ar (Gj hx) (Di _)) (BF O (B3 Im O O) (BF O (DW Lz O (Gv _)) (BF O (Fm iD O) (Ax A8 2 [] O (⟨O,O,AK,(by refine⟨_,rfl,fun h=>?_⟩;first | (exact absurd h Aq) | exact hq (by simpa using g)),⟨O,O,O,Au⟩⟩))))))))
   rintro _ ⟨q,rfl,hqx⟩;refine A0 O (fun c2=>?_) (fun c2=>?_)
   ·(try simp only[sd,se] at c2);refine Ay A8 1 [] O (A4 (⟨O,_,_,⟨_,_,O,O,O⟩,(List.nil_sublist _),?_⟩))
    all_goals exact⟨⟨_,rfl,fun h=>absurd h Aq⟩,rfl⟩
   (try simp only[sd,se] at c2);have hok:=hqx (by simpa using c2);refine A5 (A7 (Ax A8 3 [] O (⟨(i+1),AT,⟨by omega,C6 (p:=fun _ (y:GF)=>(Dn y.tree:Int)≤42 - (dp+1)) hC hx hok⟩,Bh ⟨we rfl,we rfl,we rfl,trivial⟩ (leH (is:=[0]) rfl (wl (oe rfl) (Dd)))⟩)))
  (try simp only[sd,se] at c1);refine Bp (Ay A8 1 [] O (A4 (⟨O,_,_,⟨_,_,O,O,O⟩,(List.nil_sublist _),?_⟩)))
  all_goals exact⟨⟨_,rfl,fun _=>gZ hq1 (Hc Ar hC)⟩,rfl⟩
theorem Uk:∀(d:CM),(OD d)→FX Tryz.prog 101 [.agg ((Bo d).map .p)] (fun v=>∃bb:Bool,v= .p (.bool bb)∧(bb=true→Rr d)):=by
 intro d h1;have hcl:=h1.cl;have hfl:=h1.fl;have hrl:=h1.rl;refine A9 Tryz.func101 O ku (n:=124) O O (A3 (BP O (BY O) fun b1=>Ax A8 1 [] O (Az (Az (Bb [1] 47 (fun y=>∃q:Bool,y= .p (.bool q)∧(q=false→Fo d.value≤400)) ?_ ?_)))))
 ·refine A7 (Av O (Aw Cm O O) (Av O (A6 (i:=0) Lz O O (De _)) (Av O (Fm iD O) (A2 A8 2 [] O (BQ 10 O (fun g=>?_) (fun g=>?_))))))
  ·(try simp only[sd,se] at g);exact Ax A8 37 [] O (⟨O,O,AK,(by refine⟨_,rfl,fun h=>?_⟩;first | (exact absurd h Aq) | (simp_all;done) | (simp_all;omega)),⟨O,Au⟩⟩)
  (try simp only[sd,se] at g);refine BF O (Aw Cm O O) (BF O (B4 (i:=0) Ba O O (FO _) (BJ _)) (BF O (BM O O (HK d.type h1.ty) O) (A2 A8 3 [] O (BQ 16 O (fun g1=>?_) (fun g1=>?_)))))
  ·(try simp only[sd,se] at g1);exact Ax A8 31 [] O (⟨O,O,AK,(by refine⟨_,rfl,fun h=>?_⟩;first | (exact absurd h Aq) | (simp_all;done) | (simp_all;omega)),⟨O,Au⟩⟩)
  (try simp only[sd,se] at g1);refine BF O (Aw Cm O O) (BF O (B4 (i:=0) Ba O O (Fa _) (BJ _)) (BF O (BM O O (HK d.value h1.vl) O) (A2 A8 3 [] O (BQ 22 O (fun g2=>?_) (fun g2=>?_)))))
  ·(try simp only[sd,se] at g2);exact Ax A8 25 [] O (⟨O,O,AK,(by refine⟨_,rfl,fun h=>?_⟩;first | (exact absurd h Aq) | (simp_all;done) | (simp_all;omega)),⟨O,Au⟩⟩)
  (try simp only[sd,se] at g2);refine BF O (Aw Cm O O) (BF O (A6 (i:=0) IM O O (CJ _)) (BF O (BS Hu O (List.length_map _)) (A2 A8 3 [] O (BQ 28 O (fun g3=>?_) (fun g3=>?_)))))
  ·(try simp only[sd,se] at g3);exact Ax A8 19 [] O (⟨O,O,AK,(by refine⟨_,rfl,fun h=>?_⟩;first | (exact absurd h Aq) | (simp_all;done) | (simp_all;omega)),⟨O,Au⟩⟩)
  (try simp only[sd,se] at g3);refine BF O (Aw Cm O O) (BF O (A6 (i:=0) HS O O (CI _)) (BF O (BS G9 O (List.length_map _)) (A2 A8 3 [] O (BQ 34 O (fun g4=>?_) (fun g4=>?_)))))
  ·(try simp only[sd,se] at g4);exact Ax A8 13 [] O (⟨O,O,AK,(by refine⟨_,rfl,fun h=>?_⟩;first | (exact absurd h Aq) | (simp_all;done) | (simp_all;omega)),⟨O,Au⟩⟩)
  (try simp only[sd,se] at g4);refine A2 A8 2 [] O (BF O (B4 (i:=0) Ba O O (Em _) (BJ _)) (BF O (BM O O (HK d.recs.type h1.rt) O) (A2 A8 3 [] O (BQ 41 O (fun g5=>?_) (fun g5=>?_)))))
  ·(try simp only[sd,se] at g5);exact Ax A8 6 [] O (⟨O,O,AK,(by refine⟨_,rfl,fun h=>?_⟩;first | (exact absurd h Aq) | (simp_all;done) | (simp_all;omega)),⟨O,Au⟩⟩)
  (try simp only[sd,se] at g5);exact A2 A8 2 [] O (BF O (A6 (i:=0) E3 O O (Cr _)) (BF O (BS Br O (Bc _)) (Ax A8 2 [] O (⟨O,O,AK,(by refine⟨_,rfl,fun h=>?_⟩;first | (exact absurd h Aq) | (simp_all;done) | (simp_all;omega)),⟨O,Au⟩⟩))))
 rintro _ ⟨q,rfl,hq⟩;refine A0 O (fun c=>?_) (fun c=>?_)
 ·(try simp only[sd,se] at c);refine Ay A8 1 [] O (A4 (⟨O,_,_,⟨_,_,O,O,O⟩,(List.nil_sublist _),?_⟩))
  all_goals exact⟨⟨_,rfl,fun h=>absurd h Aq⟩,rfl⟩
 (try simp only[sd,se] at c);have hq1:=hq (by simpa using c);refine A5 (Az (Ay A8 1 [] O (BH (Bn (α:=Nat) (fun i=>⟨124,mk [(1,.ptr b1 0),(3,.p (I (i:Int)))],[.box b1 ((Bo d).map .p)],[]⟩) (fun i=>d.ctors.length - i) (fun i=>i≤d.ctors.length) 0 AP ?_ ?_))))
 ·exact Bh ⟨we O,we O,Au⟩ (leH (is:=[0]) O (wl (oe O) (Dd)))
 rintro i hC
 try simp only at hC
 have hi:=hC;refine Az (A3 (A2 A8 2 [] O (Av O (A6 (i:=0) IM O O (CJ _)) (Av O (BS Hu O (List.length_map _)) (Ax A8 1 [] O (A0 O (fun c1=>?_) (fun c1=>?_)))))))
 ·(try simp only[sd,se] at c1);refine A5 (Az (BH (Az (Bb [1,3] 72 Fh ?_ ?_))))
  ·refine A7 (Av O (Aw Cm O O) (Av O (A6 (i:=0) IM O O (CJ _)) (B0 O ?_)));obtain⟨x,hx⟩:=BB (l:=d.ctors) (i:=i) Ar;refine Av O (BA Hu O O Ar (Eh hx) (EI _)) (Av O (B3 I8 O O) (Av O (DW Lz O (Fy _)) (Av O (Fm iD O) (A2 A8 2 [] O (BQ 63 O (fun g=>?_) (fun g=>?_))))))
   ·(try simp only[sd,se] at g);exact Ax A8 9 [] O (⟨O,O,AK,⟨_,O⟩,⟨O,O,Au⟩⟩)
   (try simp only[sd,se] at g);exact BF O (Aw Cm O O) (BF O (A6 (i:=0) IM O O (CJ _)) (BF O (BC O) (BF O (BA Hu O O Ar (Eh hx) (EI _)) (BF O (B3 I8 O O) (BF O (DV Ba O (FP _) (BJ _)) (BF O (BM O O (HK x.type (h1.cs _ (List.mem_of_getElem? hx)).ty) O) (Ax A8 2 [] O (⟨O,O,AK,⟨_,O⟩,⟨O,O,Au⟩⟩))))))))
  rintro _ ⟨q1,rfl⟩;refine A0 O (fun c2=>?_) (fun c2=>?_)
  ·(try simp only[sd,se] at c2);refine Ay A8 1 [] O (A4 (⟨O,_,_,⟨_,_,O,O,O⟩,(List.nil_sublist _),?_⟩))
   all_goals exact⟨⟨_,rfl,fun h=>absurd h Aq⟩,rfl⟩
  (try simp only[sd,se] at c2);refine A5 (A7 (Ax A8 3 [] O ?_));refine⟨(i+1),AT,by omega,Bh ⟨we rfl,we rfl,trivial⟩ (leH (is:=[0]) rfl (wl (oe rfl) (Dd)))⟩
 (try simp only[sd,se] at c1);refine Bp (Az (Ay A8 1 [] O (BH ?_)));refine Bn (α:=Nat) (fun i=>⟨124,mk [(1,.ptr b1 0),(4,.p (I (i:Int)))],[.box b1 ((Bo d).map .p)],[]⟩) (fun i=>d.recs.rules.length - i) (fun i=>i≤d.recs.rules.length∧(∀j,j<i→∀x,d.recs.rules[j]?=some x→Fo x≤400)) 0 (⟨by omega,fun j h=>by omega⟩) ?_ ?_
 ·exact Bh ⟨we O,we O,Au⟩ (leH (is:=[0]) O (wl (oe O) (Dd)))
 rintro i hC1
 try simp only at hC1
 obtain⟨hi,hR⟩:=hC1;refine Az (A3 (A2 A8 3 [] O (Av O (A6 (i:=0) E3 O O (Cr _)) (Av O (BS Br O (Bc _)) (Ax A8 1 [] O (A0 O (fun c2=>?_) (fun c2=>?_)))))))
 ·(try simp only[sd,se] at c2);refine A5 (Az (BH (A3 (A2 A8 2 [] O (Av O (A6 (i:=0) E3 O O (Cr _)) (B0 O ?_))))));obtain⟨x,hx⟩:=BB (l:=d.recs.rules) (i:=i) Ar;refine Av O (BA Br O O Ar (Bj hx) (BJ _)) (Av O (BO Ba O (BJ _)) (Av O (BM O O (HK x (h1.rs _ (List.mem_of_getElem? hx))) O) (Ax A8 1 [] O (A0 O (fun c3=>?_) (fun c3=>?_)))))
  ·(try simp only[sd,se] at c3);refine Ay A8 1 [] O (A4 (⟨O,_,_,⟨_,_,O,O,O⟩,(List.nil_sublist _),?_⟩))
   all_goals exact⟨⟨_,rfl,fun h=>absurd h Aq⟩,rfl⟩
  (try simp only[sd,se] at c3);have hqr:Fo x≤400:=by simp_all
  refine A5 (A7 (Ax A8 3 [] O (⟨(i+1),AT,⟨by omega,C6 (p:=fun _ (y:Tm)=>Fo y≤400) hR hx hqr⟩,Bh ⟨we rfl,we rfl,trivial⟩ (leH (is:=[0]) rfl (wl (oe rfl) (Dd)))⟩)))
 (try simp only[sd,se] at c2);refine Bp (Az (Ay A8 1 [] O (BH ?_)));refine Bn (α:=Nat) (fun i=>⟨124,mk [(1,.ptr b1 0),(5,.p (I (i:Int)))],[.box b1 ((Bo d).map .p)],[]⟩) (fun i=>d.funs.length - i) (fun i=>i≤d.funs.length∧(∀j,j<i→∀x,d.funs[j]?=some x→(Dn x.tree:Int)≤42 - 0)) 0 (⟨by omega,fun j h=>by omega⟩) ?_ ?_
 ·exact Bh ⟨we O,we O,Au⟩ (leH (is:=[0]) O (wl (oe O) (Dd)))
 rintro i hC2
 try simp only at hC2
 obtain⟨hi,hT⟩:=hC2;refine Az (A3 (A2 A8 2 [] O (Av O (A6 (i:=0) HS O O (CI _)) (Av O (BS G9 O (List.length_map _)) (Ax A8 1 [] O (A0 O (fun c3=>?_) (fun c3=>?_)))))))
 ·(try simp only[sd,se] at c3);obtain⟨x,hx⟩:=BB (l:=d.funs) (i:=i) Ar;refine A5 (Az (BH (Az (Bb [1,5] 123 (fun y=>∃q:Bool,y= .p (.bool q)∧(q=false→(Dn x.tree:Int)≤42 - 0)) ?_ ?_))))
  ·refine A7 (Av O (Aw Cm O O) (Av O (A6 (i:=0) HS O O (CI _)) (B0 O (Av O (BA G9 O O Ar (Ec hx) (DQ _)) (Av O (B3 G2 O O) (Av O (DW Lz O (IP _)) (Av O (Fm iD O) (A2 A8 2 [] O (BQ 104 O (fun g=>?_) (fun g=>?_))))))))))
   ·(try simp only[sd,se] at g);exact Ax A8 19 [] O (⟨O,O,AK,(by refine⟨_,rfl,fun h=>?_⟩;first | (exact absurd h Aq) | exact hq (by simpa using h)),⟨O,O,Au⟩⟩)
   (try simp only[sd,se] at g);refine BF O (Aw Cm O O) (BF O (A6 (i:=0) HS O O (CI _)) (BF O (BC O) (BF O (BA G9 O O Ar (Ec hx) (DQ _)) (BF O (B3 G2 O O) (BF O (DV Ba O (IQ _) (BJ _)) (BF O (BM O O (HK x.type (h1.fs _ (List.mem_of_getElem? hx)).ty) O) (A2 A8 3 [] O (BQ 114 O (fun g1=>?_) (fun g1=>?_)))))))))
   ·(try simp only[sd,se] at g1);exact Ax A8 9 [] O (⟨O,O,AK,(by refine⟨_,rfl,fun h=>?_⟩;first | (exact absurd h Aq) | exact hq (by simpa using h)),⟨O,O,Au⟩⟩)
   (try simp only[sd,se] at g1);refine BF O (Aw Cm O O) (BF O (A6 (i:=0) HS O O (CI _)) (BF O (BC O) (BF O (BA G9 O O Ar (Ec hx) (DQ _)) (BF O (B3 G2 O O) (BF O (DV It O (ET _) (Cq _)) (G5 O O O O (B7 O O (RT (KX x.tree) x.tree 0 (Nat.le_refl _) (h1.fs _ (List.mem_of_getElem? hx)).tr Ar) (.inl O)) ?_))))));rintro _ ⟨q1,rfl,hq⟩;exact Ax A8 2 [] O (⟨O,O,AK,(by refine⟨_,rfl,fun h=>?_⟩;first | (exact absurd h Aq) | exact hq (by simpa using h)),⟨O,O,Au⟩⟩)
  rintro _ ⟨q,rfl,hqx⟩;refine A0 O (fun c4=>?_) (fun c4=>?_)
  ·(try simp only[sd,se] at c4);refine Ay A8 1 [] O (A4 (⟨O,_,_,⟨_,_,O,O,O⟩,(List.nil_sublist _),?_⟩))
   all_goals exact⟨⟨_,rfl,fun h=>absurd h Aq⟩,rfl⟩
  (try simp only[sd,se] at c4);have hok:=hqx (by simpa using c4);refine A5 (A7 (Ax A8 3 [] O (⟨(i+1),AT,⟨by omega,C6 (p:=fun _ (y:HB)=>(Dn y.tree:Int)≤42 - 0) hT hx hok⟩,Bh ⟨we rfl,we rfl,trivial⟩ (leH (is:=[0]) rfl (wl (oe rfl) (Dd)))⟩)))
 (try simp only[sd,se] at c3);refine Bp (Ay A8 1 [] O (A4 (⟨O,_,_,⟨_,_,O,O,O⟩,(List.nil_sublist _),?_⟩)))
 all_goals exact⟨⟨_,rfl,fun _=>aM h1 hq1 (Hc Ar hR) (Hc Ar hT)⟩,rfl⟩
theorem ew:∀(ds:List CM),(Ho ds)→FX Tryz.prog 65 [.p (.lst (List.map Bo ds))] (fun v=>∃bb:Bool,v= .p (.bool bb)∧(bb=true→(∀d∈ds,Rr d)∧ds.length≤70)):=by
 intro ds h1;have hl:=h1.len;refine A9 Tryz.func65 O pt (n:=23) O O (Ay A8 1 [] O (Az (Ay A8 1 [] O (BH ?_))));refine Bn (α:=Nat) (fun i=>⟨23,mk [(0,.p (.lst (List.map Bo ds))),(3,.p (I (i:Int)))],[],[]⟩) (fun i=>ds.length - i) (fun i=>i≤ds.length∧(∀j,j<i→∀x,ds[j]?=some x→Rr x)) 0 (⟨by omega,fun j h=>by omega⟩) ?_ ?_
 ·exact Bh ⟨we O,we O,Au⟩ (leH (is:=[]) O (Dd))
 rintro i hC
 try simp only at hC
 obtain⟨hi,hC⟩:=hC;refine Az (Az (Bb [0,3] 11 (fun y=>∃q:Bool,y= .p (.bool q)∧(q=true→i<ds.length)∧(q=false→ds.length≤i∨80≤i)) ?_ ?_))
 ·refine A7 (A2 A8 2 [] O (Av O (BS Iv O (List.length_map _)) (A2 A8 2 [] O (BQ 8 O (fun g=>?_) (fun g=>?_)))))
  ·(try simp only[sd,se] at g);refine Ax A8 3 [] O ?_;exact⟨rfl,rfl,AK,(by refine⟨_,rfl,fun h=>?_,fun h=>?_⟩<;>first | (exact absurd h Aq) | omega | (simp only[decide_eq_true_eq,decide_eq_false_iff_not] at h;omega)),⟨rfl,rfl,trivial⟩⟩
  (try simp only[sd,se] at g);refine Ax A8 3 [] O ?_;exact⟨rfl,rfl,AK,(by refine⟨_,rfl,fun h=>?_,fun h=>?_⟩<;>first | (exact absurd h Aq) | omega | (simp only[decide_eq_true_eq,decide_eq_false_iff_not] at h;omega)),⟨rfl,rfl,trivial⟩⟩
 rintro _ ⟨q,rfl,hq,hqn⟩;refine A0 O (fun c=>?_) (fun c=>?_)
 ·(try simp only[sd,se] at c);have hq1:=hq (by simpa using c);refine A5 (Az (BH (A3 (A2 A8 2 [] O ?_))));obtain⟨x,hx⟩:=BB (l:=ds) (i:=i) Ar;refine Av O (BA Iv O O Ar (En hx) (Cp _)) (Av O (BO Ew O (Cp _)) (DO O O (B7 O O (Uk x (h1.all _ (List.mem_of_getElem? hx))) (.inl O)) ?_));rintro _ ⟨q1,rfl,hq⟩;refine Ax A8 1 [] O (A0 O (fun c1=>?_) (fun c1=>?_))
  ·(try simp only[sd,se] at c1);refine Ay A8 1 [] O (A4 (⟨O,_,_,⟨_,_,O,O,O⟩,(List.nil_sublist _),?_⟩))
   all_goals exact⟨⟨_,rfl,fun h=>absurd h Aq⟩,rfl⟩
  (try simp only[sd,se] at c1);have hok:=hq (by simpa using c1);refine A5 (A7 (Ax A8 3 [] O (⟨(i+1),AT,⟨by omega,C6 (p:=fun _ (y:CM)=>Rr y) hC hx hok⟩,Bh ⟨we rfl,we rfl,trivial⟩ (leH (is:=[]) rfl (Dd))⟩)))
 (try simp only[sd,se] at c);have hqe:=hqn (by simpa using c);refine Bp (A3 (B0 O (Av O (BS Iv O (List.length_map _)) (Ax A8 2 [] O (A4 (⟨O,_,_,⟨_,_,O,O,O⟩,(List.nil_sublist _),?_⟩))))))
 all_goals exact⟨⟨_,rfl,fun h=>⟨Hc (by simp only[decide_eq_true_eq] at h;omega) hC,by simp only[decide_eq_true_eq] at h;omega⟩⟩,rfl⟩
theorem ad:∀(ds:List CM),(Ho ds)→FX Tryz.prog 31 [.p (.lst (List.map Bo ds))] (fun v=>∃bb:Bool,v= .p (.bool bb)∧(bb=true→HD ds∧ds.length≤70)):=by
 intro ds h1;refine A9 Tryz.func31 O oR (n:=15) O O (Ay A8 1 [] O (Az (A3 (B0 O (DO O O (B7 O O (ew ds h1) (.inl O)) ?_)))));rintro _ ⟨q,rfl,hq⟩;refine Ax A8 1 [] O (A0 O (fun c=>?_) (fun c=>?_))
 ·(try simp only[sd,se] at c);refine Ay A8 1 [] O (A4 (⟨O,_,_,⟨_,_,O,O,O⟩,(List.nil_sublist _),?_⟩))
  all_goals exact⟨⟨_,rfl,fun h=>absurd h Aq⟩,rfl⟩
 (try simp only[sd,se] at c);have hf:=hq (by simpa using c);refine A5 (A3 (B0 O (DO O O (B7 O O (WX ds h1) (.inl O)) ?_)));rintro _ ⟨a,e,rfl,he⟩;refine Ax A8 5 [] O (Ay A8 3 [] O (A4 (⟨O,_,_,⟨_,_,O,O,O⟩,(List.nil_sublist _),?_⟩)))
 all_goals exact⟨⟨_,rfl,fun h=>⟨gm (he (by simpa using h)) hf.1,hf.2⟩⟩,rfl⟩
end Go.Proofs.YtboammbpdaoojaaGreat
namespace Go.Eu
open Go.Abs
def vT (i:Int):Tm:= .mk 0 i ⟨#[]⟩ [] []
def Nl (nm:ByteArray):Tm:= .mk 3 0 nm [] []
def Jw:ByteArray:=⟨#[78,97,116]⟩
def iI:ByteArray:=⟨#[122,101,114,111]⟩
def Sq:ByteArray:=⟨#[115,117,99,99]⟩
def Oo:ByteArray:=⟨#[112,108,117,115]⟩
def Vo (b:Tm):Tm:=if (Ce 1 0 0 0 b).2≠0 then Be else (Ce 1 0 0 0 b).1
def WO (a b:Tm):Tm:= .mk 6 0 ⟨#[]⟩ [] [a,Vo b]
def W3:CM:=⟨3,Jw,0,.mk 2 0 ⟨#[]⟩ [⟨0,[]⟩] [],Be,0,[⟨iI,Nl Jw⟩,⟨Sq,WO (Nl Jw) (Nl Jw)⟩],⟨0,Nl Jw,[Nl Jw,Nl Jw]⟩,[]⟩
def QL:FE:= .mk 1 Be 0 [.mk iI false (.mk 0 (vT 0) 0 []),.mk Sq false (.mk 0 (apply (Nl Sq) [apply (Nl Oo) [vT 0,vT 1]]) 0 [])]
def P5:CM:=⟨4,⟨#[]⟩,0,Be,Be,0,[],⟨0,Be,[]⟩,[⟨Oo,WO (Nl Jw) (WO (Nl Jw) (Nl Jw)),2,QL⟩]⟩
def Dc:List CM:=[W3,P5]
theorem jq (nm:ByteArray) (h:nm.size<Dv):Nd (Nl nm):=by
 simp only[Nl,Nd,Mk,List.length_nil,Dv];simp only[Dv] at h;exact⟨h,by omega,by simp,by omega,trivial,by simp[JJ],by simp[JJ]⟩
theorem pC:Nd (WO (Nl Jw) (Nl Jw)):=by
 have h:Vo (Nl Jw)=Nl Jw:=by rfl
 have h1:=jq Jw Aq;rw[WO,h];simp only[Nd,Mk,List.length_nil,List.length_cons,Dv];exact⟨by decide,by omega,by simp,by omega,⟨h1,h1,trivial⟩,by simp[JJ],by simp[JJ]⟩
end Go.Eu
namespace Go.Proofs.YtboammbpdaoojaaGreat
open Go.Abs Go.Eu
theorem IA:∀(nm:ByteArray),FF Tryz.prog 35 [.p (.str nm)] (.agg ((BU (.mk 3 0 nm [] [])).map .p)):=by
 intro nm;refine A9 Tryz.func35 O oK (n:=5) O O (A3 (BP O (BE B8 O) fun b2=>Bk O (Ay A8 3 [0,0] O (BZ (Bl (i:=0) O) (A4 (⟨O,_,_,⟨_,_,O,(BN (i:=0) Ba O O O),O⟩,(List.nil_sublist _),?_⟩))))))
 all_goals exact⟨rfl,rfl⟩
theorem bM:∀(i:Int),FF Tryz.prog 68 [.p (I i)] (.agg ((BU (.mk 0 i ⟨#[]⟩ [] [])).map .p)):=by
 intro i;refine A9 Tryz.func68 O ow (n:=5) O O (A3 (BP O (BE B8 O) fun b2=>Bk O (Ay A8 3 [0,0] O (BZ (Bl (i:=0) O) (A4 (⟨O,_,_,⟨_,_,O,(BN (i:=0) Ba O O O),O⟩,(List.nil_sublist _),?_⟩))))))
 all_goals exact⟨rfl,rfl⟩
theorem Jk:∀(i:Int),FF Tryz.prog 33 [.p (I i)] (.agg ((BU (.mk 0 i ⟨#[]⟩ [] [])).map .p)):=by
 intro i;refine A9 Tryz.func33 O oN (n:=5) O O (A3 (BP O (BE B8 O) fun b2=>Bk O (Ay A8 3 [0,0] O (BZ (Bl (i:=0) O) (A4 (⟨O,_,_,⟨_,_,O,(BN (i:=0) Ba O O O),O⟩,(List.nil_sublist _),?_⟩))))))
 all_goals exact⟨rfl,rfl⟩
theorem X3:∀(t:Tm) (l:List Tm),(l.length<Dv)→FF Tryz.prog 69 [.agg ((BU t).map .p),.p (.lst (BK l))] (.agg ((BU (apply t l)).map .p)):=by
 intro t l h1;refine A9 Tryz.func69 O oY (n:=8) O O (A3 (BP O (BY O) fun b2=>BP O (BE B8 O) fun b4=>Bk O (A3 (A2 A8 2 [1] O (Av O (BM O O (VD t l h1) O) (Ax A8 1 [0,1] O (A4 (⟨O,_,_,⟨_,_,O,(BN (i:=0) Ba O O Ak),O⟩,(List.nil_sublist _),?_⟩))))))))
 all_goals exact⟨rfl,rfl⟩
theorem XZ:∀(t:Tm) (l:List Tm),(l.length<Dv)→FF Tryz.prog 34 [.agg ((BU t).map .p),.p (.lst (BK l))] (.agg ((BU (apply t l)).map .p)):=by
 intro t l h1;refine A9 Tryz.func34 O pq (n:=8) O O (A3 (BP O (BY O) fun b2=>BP O (BE B8 O) fun b4=>Bk O (A3 (A2 A8 2 [1] O (Av O (BM O O (VD t l h1) O) (Ax A8 1 [0,1] O (A4 (⟨O,_,_,⟨_,_,O,(BN (i:=0) Ba O O Ak),O⟩,(List.nil_sublist _),?_⟩))))))))
 all_goals exact⟨rfl,rfl⟩
theorem cY:∀(t:Tm) (by' fr:Int),(Nd t)→(size t<1000000)→(by'=1)→(fr=0)→FF Tryz.prog 103 [.agg ((BU t).map .p),.p (I by'),.p (I fr)] (.tup [.agg ((BU (Vo t)).map .p),.p (I ((Ce 1 0 0 0 t).2))]):=by
 intro t by' fr h1 h2 h3 h4
 refine A9 Tryz.func103 O ka (n:=40) O O (A3 (BP O (BY O) fun b3=>BP O (BE B8 O) fun b6=>Ax A8 1 [] O (Az (Az (Bb [1,2,3,6] 19 (fun y=>y= .p (.bool (((decide ((fr:Int)<(0:Int)))||(decide ((by':Int)<(-65536:Int))))||(decide ((by':Int) > (65536:Int)))))) ?_ ?_)))))
 ·refine A7 (A2 A8 3 [] O (BQ 12 O (fun g=>?_) (fun g=>?_)))
  ·(try simp only[sd,se] at g);exact Ax A8 7 [] O (⟨O,O,AK,AI,⟨O,O,O,O,Au⟩⟩)
  (try simp only[sd,se] at g);refine A2 A8 4 [] O (BQ 16 O (fun g1=>?_) (fun g1=>?_))
  ·(try simp only[sd,se] at g1);exact Ax A8 3 [] O (⟨O,O,AK,AI,⟨O,O,O,O,Au⟩⟩)
  (try simp only[sd,se] at g1);exact Ax A8 3 [] O (⟨O,O,AK,AI,⟨O,O,O,O,Au⟩⟩)
 rintro _ rfl;refine A0 O (fun c=>?_) (fun c=>?_)
 ·(try simp only[sd,se] at c);refine Ay A8 3 [0,0] O (BZ (Bl (i:=0) O) (A4 (⟨O,_,_,⟨_,_,O,(BN (i:=0) Ba O O O),⟨_,_,O,O,O⟩⟩,(List.nil_sublist _),?_⟩)))
  all_goals exact⟨by show (.tup [.agg [.p (I 0),.p (I 0),.p (.str ⟨#[]⟩),.p (.lst []),.p (.lst [])],.p (I 2)]:AV)=_;exfalso;omega,rfl⟩
 (try simp only[sd,se] at c);refine A5 (A3 (Av O (CE hO mH O) (BP O (BY O) fun b22=>Ax A8 1 [] O (A3 (A2 A8 4 [2] O (Av O (gr O O) (Av O (Co [0] O (.inl ⟨O,O,O⟩) (fP _ t b22 by' (min (fr:Int) (65536:Int)) 0 0 0 (Nat.le_refl _) h1 Ar Ar) ⟨_,_,rfl,rfl,rfl⟩ Aq rfl (.inl rfl)) (BP O (BE B8 O) fun b9=>Ax A8 1 [0,1] O (Az (Ay A8 5 [1] O (A0 O (fun c1=>?_) (fun c1=>?_))))))))))))
 ·(try simp only[sd,se] at c1);refine Az (CG (fun k=>false) Eg (A1 O (fun _=>CE Dq B8 O) Au (A1 O (fun _=>BC O) Au (A1 O (fun _=>DB O) Au (A1 O (fun _=>Aw hO O O) Au (BT (j:=1) O O O (fun H i hi=>BG (i:=i) C7 O hi O) AB Au (Cd O O (Cl (i:=2) Ba O O O O O O) AB Au (A1 O (fun _=>Bf O) Au (B6 O An (BZ (Bl (i:=2) O) (A4 (⟨O,_,_,⟨_,_,O,(BN (i:=2) Ba O O O),⟨_,_,O,O,O⟩⟩,(List.nil_sublist _),?_⟩))))))))))))
  all_goals exact⟨by show (.tup [.agg [.p (I 0),.p (I 0),.p (.str ⟨#[]⟩),.p (.lst []),.p (.lst [])],.p (I ((Ce by' (min (fr:Int) (65536:Int)) 0 0 t).2))]:AV)=_;subst h3 h4;have c2:(Ce 1 0 0 0 t).2≠0:=c1;rw[Vo,if_pos c2];rfl,rfl⟩
 (try simp only[sd,se] at c1);refine A5 (Ay A8 3 [0,2,1] O (A4 (⟨O,_,_,⟨_,_,O,(BN (i:=2) Ba O O Ak),⟨_,_,O,O,O⟩⟩,(List.nil_sublist _),?_⟩)))
 all_goals exact⟨by show (.tup [.agg ((BU ((Ce by' (min (fr:Int) (65536:Int)) 0 0 t).1)).map .p),.p (I 0)]:AV)=_;subst h3 h4;have c2:(Ce 1 0 0 0 t).2=0:=c1;rw[Vo,if_neg (fun h=>h c2),c2];rfl,rfl⟩
theorem WW:∀(a b:Tm),(Nd b)→(size b<1000000)→FF Tryz.prog 70 [.agg ((BU a).map .p),.agg ((BU b).map .p)] (.agg ((BU (.mk 6 0 ⟨#[]⟩ [] [a,Vo b])).map .p)):=by
 intro a b h1 h2;refine A9 Tryz.func70 O oJ (n:=16) O O (A3 (BP O (BY O) fun b2=>BP O (BY O) fun b3=>BP O (BE B8 O) fun b4=>Bk O (A3 (Av O (BI (i:=1) Ba O O Ak) (Av O (BM O O (cY b 1 0 h1 h2 O O) O) (A2 A8 3 [] O (BP O (BE B8 O) fun b5=>Ax A8 2 [0,1] O (A3 (A2 A8 2 [3,0] O (Av O (Bx (rows:=BK [a,(Vo b)]) Br B8 O O O O (CQ (B9 _)) (Eo _)) (Ax A8 2 [1,0] O (BZ (Bl (i:=1) O) (A4 (⟨O,_,_,⟨_,_,O,(BN (i:=1) Ba O O O),O⟩,(List.nil_sublist _),?_⟩))))))))))))))
 all_goals exact⟨rfl,rfl⟩
theorem j9 (l:List Hz):∀r∈l.map GK,∀c∈r,c≠ .nils:=by
 intro r hr;obtain⟨t,_,rfl⟩:=List.mem_map.1 hr;intro c hc;simp only[GK,List.mem_cons] at hc;rcases hc with rfl | hc
 ·simp
 exact pz _ c hc
set_option maxHeartbeats 4000000 in
theorem fq:FF Tryz.prog 36 [] (.p (.lst (List.map Bo Dc))):=by
 refine A9 Tryz.func36 O ox (n:=55) O O (Ay A8 1 [] O (Ay A8 1 [] O (A3 (Av O (BM O O (IA ⟨#[78,97,116]⟩) O) (BP O (BE B8 O) fun b2=>Ax A8 1 [0,1] O (Ay A8 1 [] O (Az ?_)))))));refine Tp [.val (.agg [.p (I 0),.p (.nils)]),.val (.p (.lst (List.map CD ([(Cf.mk 0 [])])))),.val (.agg [.p (I 2),.p (I 0),.p (.str ⟨#[]⟩),.p (.lst (List.map CD ([(Cf.mk 0 [])]))),.p (.nils)]),.val (.agg [.p (I 3),.p (I 0),.p (.str ⟨#[78,97,116]⟩),.p (.lst (List.map CD [])),.p (.lst (BK []))]),.val (.agg [.p (.str ⟨#[122,101,114,111]⟩),.p (I 3),.p (I 0),.p (.str ⟨#[78,97,116]⟩),.p (.lst (List.map CD [])),.p (.lst (BK []))]),.val (.agg [.p (I 3),.p (I 0),.p (.str ⟨#[78,97,116]⟩),.p (.lst (List.map CD [])),.p (.lst (BK []))]),.val (.agg [.p (I 3),.p (I 0),.p (.str ⟨#[78,97,116]⟩),.p (.lst (List.map CD [])),.p (.lst (BK []))]),.val (.agg [.p (I 6),.p (I 0),.p (.str ⟨#[]⟩),.p (.lst (List.map CD [])),.p (.lst (BK ([(.mk 3 0 ⟨#[78,97,116]⟩ [] []:Tm),Vo (.mk 3 0 ⟨#[78,97,116]⟩ [] []:Tm)])))]),.val (.agg [.p (.str ⟨#[115,117,99,99]⟩),.p (I 6),.p (I 0),.p (.str ⟨#[]⟩),.p (.lst (List.map CD [])),.p (.lst (BK ([(.mk 3 0 ⟨#[78,97,116]⟩ [] []:Tm),Vo (.mk 3 0 ⟨#[78,97,116]⟩ [] []:Tm)])))]),.val (.p (.lst (List.map GK ([(Hz.mk ⟨#[122,101,114,111]⟩ (.mk 3 0 ⟨#[78,97,116]⟩ [] []:Tm)),(Hz.mk ⟨#[115,117,99,99]⟩ (.mk 6 0 ⟨#[]⟩ [] ([(.mk 3 0 ⟨#[78,97,116]⟩ [] []:Tm),Vo (.mk 3 0 ⟨#[78,97,116]⟩ [] []:Tm)]):Tm))])))),.val (.agg [.p (I 3),.p (.str ⟨#[78,97,116]⟩),.p (I 0),.p (I 2),.p (I 0),.p (.str ⟨#[]⟩),.p (.lst (List.map CD ([(Cf.mk 0 [])]))),.p (.nils),.p (I 0),.p (I 0),.p (.str ⟨#[]⟩),.p (.nils),.p (.nils),.p (I 0),.p (.lst (List.map GK ([(Hz.mk ⟨#[122,101,114,111]⟩ (.mk 3 0 ⟨#[78,97,116]⟩ [] []:Tm)),(Hz.mk ⟨#[115,117,99,99]⟩ (.mk 6 0 ⟨#[]⟩ [] ([(.mk 3 0 ⟨#[78,97,116]⟩ [] []:Tm),Vo (.mk 3 0 ⟨#[78,97,116]⟩ [] []:Tm)]):Tm))]))),.p (I 0),.p (I 0),.p (I 0),.p (.str ⟨#[]⟩),.p (.nils),.p (.nils),.p (.nils),.p (.nils)]),.new [.p (I 0),.p (.str ⟨#[]⟩),.p (I 0),.p (I 0),.p (I 0),.p (.str ⟨#[]⟩),.p (.nils),.p (.nils),.p (I 0),.p (I 0),.p (.str ⟨#[]⟩),.p (.nils),.p (.nils),.p (I 0),.p (.nils),.p (I 0),.p (I 0),.p (I 0),.p (.str ⟨#[]⟩),.p (.nils),.p (.nils),.p (.nils),.p (.nils)]] Eg O An An ?_
 refine Df O (fun Bs=>CE JB He O) (Df O (fun Bs=>CC Fb He O O O O O) (Df O (fun Bs=>CE Dq B8 O) (Df O (fun Bs=>BI (i:=Bs.length+0) Ba O (CX O) Ak) (Df O (fun Bs=>CE I8 XN O) (Df O (fun Bs=>BI (i:=Bs.length+0) Ba O (CX O) O) (Df O (fun Bs=>BI (i:=Bs.length+0) Ba O (CX O) O) (Df O (fun Bs=>BM O O (WW (.mk 3 0 ⟨#[78,97,116]⟩ [] []:Tm) (.mk 3 0 ⟨#[78,97,116]⟩ [] []:Tm) (jq _ Aq) (by simp[size,Bg])) O) (Df O (fun Bs=>CE I8 XN O) ?_))))))));refine Df O (fun Bs=>Bx (rows:=List.map GK ([(Hz.mk ⟨#[122,101,114,111]⟩ (.mk 3 0 ⟨#[78,97,116]⟩ [] []:Tm)),(Hz.mk ⟨#[115,117,99,99]⟩ (.mk 6 0 ⟨#[]⟩ [] ([(.mk 3 0 ⟨#[78,97,116]⟩ [] []:Tm),Vo (.mk 3 0 ⟨#[78,97,116]⟩ [] []:Tm)]):Tm))])) Hu XN O O O O (CQ (Zm _)) (j9 _)) (Df O (fun Bs=>CE Cm MY O) (Vt O (fun Bs=>BE MY O) fun b4=>XE ?_))
 change AL _ _ _ 12 ⟨55,_,[.box b4 [.p (I 0),.p (.str ⟨#[]⟩),.p (I 0),.p (I 0),.p (I 0),.p (.str ⟨#[]⟩),.p (.nils),.p (.nils),.p (I 0),.p (I 0),.p (.str ⟨#[]⟩),.p (.nils),.p (.nils),.p (I 0),.p (.nils),.p (I 0),.p (I 0),.p (I 0),.p (.str ⟨#[]⟩),.p (.nils),.p (.nils),.p (.nils),.p (.nils)],.box b2 [.p (I 3),.p (I 0),.p (.str ⟨#[78,97,116]⟩),.p (.lst (List.map CD [])),.p (.lst (BK []))]],[]⟩ _
 refine Ax A8 1 [0,0] O (A3 (A2 A8 3 [1,1,1] O (Av O (Bx (rows:=BK ([(.mk 3 0 ⟨#[78,97,116]⟩ [] []:Tm),(.mk 3 0 ⟨#[78,97,116]⟩ [] []:Tm)])) Br B8 O O O O (CQ (B9 _)) (Eo _)) (Ax A8 3 [0,0] O (A3 (B0 O (Av O (BM O O (bM 0) O) (A2 A8 3 [] O (Av O (BM O O (IA ⟨#[115,117,99,99]⟩) O) (B0 O (Av O (BM O O (IA ⟨#[112,108,117,115]⟩) O) (B0 O (Av O (BM O O (bM 0) O) (B0 O (Av O (BM O O (bM 1) O) (Av O (Bx (rows:=BK ([(.mk 0 0 ⟨#[]⟩ [] []),(.mk 0 1 ⟨#[]⟩ [] [])])) Br B8 O O O O (CQ (B9 _)) (Eo _)) (Av O (BM O O (X3 (.mk 3 0 ⟨#[112,108,117,115]⟩ [] []) ([(.mk 0 0 ⟨#[]⟩ [] []),(.mk 0 1 ⟨#[]⟩ [] [])]) (by simp[Dv])) O) ?_)))))))))))))))));refine Av O (Bx (rows:=BK ([(apply (.mk 3 0 ⟨#[112,108,117,115]⟩ [] []) ([(.mk 0 0 ⟨#[]⟩ [] []),(.mk 0 1 ⟨#[]⟩ [] [])]))])) Br B8 O O O O (CQ (B9 _)) (Eo _)) (Av O (BM O O (X3 (.mk 3 0 ⟨#[115,117,99,99]⟩ [] []) ([(apply (.mk 3 0 ⟨#[112,108,117,115]⟩ [] []) ([(.mk 0 0 ⟨#[]⟩ [] []),(.mk 0 1 ⟨#[]⟩ [] [])]))]) (by simp[Dv])) O) ?_);generalize hz:apply (.mk 3 0 ⟨#[115,117,99,99]⟩ [] []) ([(apply (.mk 3 0 ⟨#[112,108,117,115]⟩ [] []) ([(.mk 0 0 ⟨#[]⟩ [] []),(.mk 0 1 ⟨#[]⟩ [] [])]))])=z;obtain⟨zk,zi,zn,zl,zs⟩:=z;refine A2 A8 2 [] O (Av O (CC Kg Xk O O O O O) (Av O (CE Fs Ye O) (BP O (BE Ye O) fun b5=>Ax A8 1 [0,0] O (Az (CG (fun k=>false) Eg (BT (j:=1) O O O (fun H i hi=>BI (i:=i) Ew O hi O) AB Au (BT (j:=2) O O O (fun H i hi=>BI (i:=i) Ba O hi O) AB Au (BT (j:=2) O O O (fun H i hi=>BI (i:=i) Ba O hi O) AB Au (BT (j:=2) O O O (fun H i hi=>BI (i:=i) Ba O hi O) AB Au (A1 O (fun _=>BM O O (WW (.mk 3 0 ⟨#[78,97,116]⟩ [] []:Tm) (.mk 3 0 ⟨#[78,97,116]⟩ [] []:Tm) (jq _ Aq) (by simp[size,Bg])) O) Au (A1 O (fun _=>BM O O (WW (.mk 3 0 ⟨#[78,97,116]⟩ [] []:Tm) (.mk 6 0 ⟨#[]⟩ [] [(.mk 3 0 ⟨#[78,97,116]⟩ [] []:Tm),Vo (.mk 3 0 ⟨#[78,97,116]⟩ [] []:Tm)]) pC Aq) O) Au ?_)))))))))));refine BT (j:=0) O O O (fun H i hi=>BI (i:=i) It O hi O) AB Au (A1 O (fun _=>CE G2 Zl O) Au (A1 O (fun _=>CC G9 Zl O O O O O) Au (A1 O (fun _=>CE Cm MY O) Au (A1 O (fun _=>CC Iv MY O O O O O) Au (A1 O (fun _=>Bf O) Au (B6 O An (A4 (⟨O,_,_,⟨_,_,O,O,O⟩,(List.nil_sublist _),?_⟩))))))))
 all_goals exact⟨by show (.p (.lst (List.map Bo ([(CM.mk 3 ⟨#[78,97,116]⟩ 0 (.mk 2 0 ⟨#[]⟩ ([(Cf.mk 0 [])]) []:Tm) (.mk 0 0 ⟨#[]⟩ [] []:Tm) 0 ([(Hz.mk ⟨#[122,101,114,111]⟩ (.mk 3 0 ⟨#[78,97,116]⟩ [] []:Tm)),(Hz.mk ⟨#[115,117,99,99]⟩ (.mk 6 0 ⟨#[]⟩ [] ([(.mk 3 0 ⟨#[78,97,116]⟩ [] []:Tm),Vo (.mk 3 0 ⟨#[78,97,116]⟩ [] []:Tm)]):Tm))]) (dq.mk 0 (.mk 3 0 ⟨#[78,97,116]⟩ [] []:Tm) ([(.mk 3 0 ⟨#[78,97,116]⟩ [] []:Tm),(.mk 3 0 ⟨#[78,97,116]⟩ [] []:Tm)])) []),(CM.mk 4 ⟨#[]⟩ 0 (.mk 0 0 ⟨#[]⟩ [] []:Tm) (.mk 0 0 ⟨#[]⟩ [] []:Tm) 0 [] (dq.mk 0 (.mk 0 0 ⟨#[]⟩ [] []:Tm) []) ([(HB.mk ⟨#[112,108,117,115]⟩ (.mk 6 0 ⟨#[]⟩ [] ([(.mk 3 0 ⟨#[78,97,116]⟩ [] []:Tm),Vo (.mk 6 0 ⟨#[]⟩ [] [(.mk 3 0 ⟨#[78,97,116]⟩ [] []:Tm),Vo (.mk 3 0 ⟨#[78,97,116]⟩ [] []:Tm)])]):Tm) 2 (FE.mk 1 (.mk 0 0 ⟨#[]⟩ [] []:Tm) 0 ([(GF.mk ⟨#[122,101,114,111]⟩ false (FE.mk 0 (.mk 0 0 ⟨#[]⟩ [] []:Tm) 0 [])),(GF.mk ⟨#[115,117,99,99]⟩ false (FE.mk 0 (.mk zk zi zn zl zs:Tm) 0 []))])))]))]))):AV)=_;rw[←hz];rfl,rfl⟩
end Go.Proofs.YtboammbpdaoojaaGreat
namespace Go.Eu
open Go.Abs
theorem HU {t:Tm}(h:okB t=true) (hs:size t<1000000):To t:=⟨(Ch.1 h).nd,hs⟩
theorem Xv:OD W3 where
 nm:=by decide
 ty:=HU rfl Aq
 vl:=HU rfl Aq
 cl:=by decide
 cs:=by
  intro c hc;simp only[W3,List.mem_cons,List.not_mem_nil,or_false] at hc;rcases hc with rfl | rfl
  ·exact⟨by decide,HU rfl Aq⟩
  exact⟨by decide,HU rfl Aq⟩
 rt:=HU rfl Aq
 rl:=by decide
 rs:=by
  intro c hc;simp only[W3,List.mem_cons,List.not_mem_nil,or_false] at hc;rcases hc with rfl | rfl<;>exact HU rfl Aq
 fl:=by decide
 fs:=by intro c hc;cases hc
theorem Y4:HF QL:=⟨HU rfl Aq,by decide,⟨by decide,HU rfl Aq,by decide,trivial⟩,⟨by decide,HU rfl Aq,by decide,trivial⟩,trivial⟩
theorem UZ:OD P5 where
 nm:=by decide
 ty:=HU rfl Aq
 vl:=HU rfl Aq
 cl:=by decide
 cs:=by intro c hc;cases hc
 rt:=HU rfl Aq
 rl:=by decide
 rs:=by intro c hc;cases hc
 fl:=by decide
 fs:=by
  intro c hc;simp only[P5,List.mem_cons,List.not_mem_nil,or_false] at hc;subst hc;exact⟨by decide,HU rfl Aq,Y4⟩
theorem Ja:HD Dc:=by
 have h0:∀d∈Dc,d=W3∨d=P5:=fun d hd=>by simpa [Dc] using hd
 refine⟨⟨⟨by decide,fun d hd=>?_⟩,fun d hd=>?_⟩,fun d hd=>?_,fun d hd=>?_,fun d hd=>?_⟩
 ·rcases h0 d hd with rfl | rfl
  ·exact Xv
  exact UZ
 ·rcases h0 d hd with rfl | rfl
  ·exact⟨Xv,by decide,rfl,by intro t ht;simp only[W3,List.mem_cons,List.not_mem_nil,or_false] at ht;rcases ht with rfl | rfl<;>rfl,by intro f hf;cases hf⟩
  refine⟨UZ,by decide,rfl,(by intro t ht;cases ht),?_⟩;intro f hf;simp only[P5,List.mem_cons,List.not_mem_nil,or_false] at hf;subst hf;exact⟨by decide,by decide,rfl,⟨rfl,trivial⟩,⟨rfl,trivial⟩,trivial⟩
 ·rcases h0 d hd with rfl | rfl<;>decide
 ·rcases h0 d hd with rfl | rfl
  ·intro t ht;simp only[W3,List.mem_cons,List.not_mem_nil,or_false] at ht;rcases ht with rfl | rfl<;>decide
  intro t ht;cases ht
 rcases h0 d hd with rfl | rfl
 ·intro f hf;cases hf
 intro f hf;simp only[P5,List.mem_cons,List.not_mem_nil,or_false] at hf;subst hf;decide
def ap (f x:Tm):Tm:= .mk 4 0 ⟨#[]⟩ [] [f,x]
def p6:Tm:= .mk 5 0 ⟨#[]⟩ [] [Nl Jw,vT 0]
def pD:Tm:=ap (ap (Nl Oo) (ap (Nl Sq) (vT 3))) (vT 4)
def Kh:Tm:=ap (Nl Sq) (ap (ap (Nl Oo) (vT 3)) (vT 4))
def RV:Tm:=ap (ap (Nl Oo) (ap p6 (vT 3))) (vT 4)
def NX:Tm:=ap (ap (Nl Oo) (vT 3)) (vT 4)
def oc:Tm:= .mk 9 0 ⟨#[]⟩ [] [ap p6 (vT 2)]
def Nx:Tm:= .mk 9 0 ⟨#[]⟩ [] [vT 2]
def L9:Tm:=ap (.mk 12 0 ⟨#[]⟩ [] []) (vT 0)
def kH:Tm:=ap (ap (Nl Oo) L9) (vT 1)
def kG:Tm:=ap (Nl Sq) L9
theorem lb:DJ Dc Bq 20 20000 pD= .ok (Kh,19999):=rfl
theorem kf:DJ Dc Bq 20 20000 RV= .ok (RV,19999):=rfl
theorem ie:EN Dc Bq 20 20000 RV= .ok (some NX,19999):=rfl
theorem lU:DJ Dc Bq 20 20000 oc= .ok (Nx,19999):=rfl
theorem jY (n:Nat) (s:Int):HJ Dc Bq (n+2) s L9= .ok (some 0,s):=by
 rw[T6,show DJ Dc Bq (n+1) s L9= .ok (L9,s) from rfl];show I0 Dc Bq (n+1) (L9,s)=_;rw[SX rfl];rfl
theorem kr:HJ Dc Bq 20 20000 kH= .ok (some 0,20000):=by
 rw[T6,show DJ Dc Bq 19 20000 kH= .ok (kH,20000) from rfl];show I0 Dc Bq 19 (kH,20000)=_;rw[Uv (f:=⟨Oo,WO (Nl Jw) (WO (Nl Jw) (Nl Jw)),2,QL⟩) (d:=P5) rfl rfl rfl rfl rfl rfl Aq];show (EH Dc Bq (DJ Dc Bq 19) 19 QL [L9,vT 1] Be 20000).bind (VM Dc Bq 19)=_;rw[show EH Dc Bq (DJ Dc Bq 19) 19 QL [L9,vT 1] Be 20000= .ok ((none,L9),20000) from rfl];show VM Dc Bq 19 ((none,L9),20000)=_;rw[X5 rfl rfl (HV (by intro h;cases h))];exact jY 17 20000
theorem lM:HJ Dc Bq 20 20000 kG= .ok (none,20000):=by
 rw[T6,show DJ Dc Bq 19 20000 kG= .ok (kG,20000) from rfl];show I0 Dc Bq 19 (kG,20000)=_;rw[Qx rfl rfl rfl Aq Aq]
theorem Xf:Nd Kh∧Nd RV∧Nd NX∧Nd Nx:=⟨(Ch.1 (show okB Kh=true from rfl)).nd,(Ch.1 (show okB RV=true from rfl)).nd,(Ch.1 (show okB NX=true from rfl)).nd,(Ch.1 (show okB Nx=true from rfl)).nd⟩
end Go.Eu
namespace Go.Proofs.YtboammbpdaoojaaGreat
open Go.Abs Go.Eu
theorem S6 (f x:Tm):FF Tryz.prog 34 [TV f,l4 [x]] (TV (.mk 4 0 ⟨#[]⟩ [] [f,x])):=XZ f [x] (by simp[Dv])
theorem VG (f x y:Tm):FF Tryz.prog 34 [TV f,l4 [x,y]] (TV (.mk 4 0 ⟨#[]⟩ [] [(.mk 4 0 ⟨#[]⟩ [] [f,x]:Tm),y])):=XZ f [x,y] (by simp[Dv])
theorem lS:FF Tryz.prog 12 [.p (.lst (List.map Bo Dc)),TV pD] (.tup [TV Kh,.p (I 0)]):=by
 have h:=Nr Dc 20 pD Ja (by rw[lb];simp);rw[lb] at h;exact h
theorem mw:FF Tryz.prog 12 [.p (.lst (List.map Bo Dc)),TV RV] (.tup [TV RV,.p (I 0)]):=by
 have h:=Nr Dc 20 RV Ja (by rw[kf];simp);rw[kf] at h;exact h
theorem nA:FF Tryz.prog 16 [.p (.lst (List.map Bo Dc)),TV RV] (.tup [TV NX,.p (.bool true),.p (I 0)]):=by
 have h:=Xz Dc 20 RV Ja (by rw[ie];simp) (by rw[ie];intro q c e;cases e;rfl);rw[ie] at h;exact h
theorem nC:FF Tryz.prog 12 [.p (.lst (List.map Bo Dc)),TV oc] (.tup [TV Nx,.p (I 0)]):=by
 have h:=Nr Dc 20 oc Ja (by rw[lU];simp);rw[lU] at h;exact h
theorem lY:FF Tryz.prog 18 [.p (.lst (List.map Bo Dc)),TV kH] (.tup [.p (I 0),.p (.bool true),.p (I 0)]):=by
 have h:=Z4 Dc 20 kH Ja (by rw[kr];simp);rw[kr] at h;exact h
theorem kg:FF Tryz.prog 18 [.p (.lst (List.map Bo Dc)),TV kG] (.tup [.p (I 0),.p (.bool false),.p (I 0)]):=by
 have h:=Z4 Dc 20 kG Ja (by rw[lM];simp);rw[lM] at h;exact h
theorem dz:FF Tryz.prog 15 [TV Kh,TV Kh] (.p (.bool true)):=by
 have h:=Mj 1000 Kh Kh Aq Xf.1;rw[Fg rfl] at h;exact h
theorem eI:FF Tryz.prog 15 [TV RV,TV RV] (.p (.bool true)):=by
 have h:=Mj 1000 RV RV Aq Xf.2.1;rw[Fg rfl] at h;exact h
theorem gY:FF Tryz.prog 15 [TV NX,TV NX] (.p (.bool true)):=by
 have h:=Mj 1000 NX NX Aq Xf.2.2.1;rw[Fg rfl] at h;exact h
theorem fg:FF Tryz.prog 15 [TV Nx,TV Nx] (.p (.bool true)):=by
 have h:=Mj 1000 Nx Nx Aq Xf.2.2.2;rw[Fg rfl] at h;exact h
set_option maxHeartbeats 4000000 in
theorem Hh:FF Tryz.prog 11 [] (.p (.bool true)):=by
 refine A9 Tryz.func11 O oH (n:=188) O O (Az (Gb (M:=⟨188,mk [],[],[]⟩) (D2 Au (List.Sublist.refl _)) (A7 (Ax A8 1 [] O (Az (Gb (M:=⟨188,mk [],[],[]⟩) (D2 Au (List.Sublist.refl _)) (A7 (Ax A8 1 [] O (Az (Gb (M:=⟨188,mk [(1,.p (.fn 33))],[],[]⟩) (D2 ⟨O,Au⟩ (List.Sublist.refl _)) (A7 (Ax A8 1 [] O (Az (Gb (M:=⟨188,mk [(1,.p (.fn 33)),(2,.p (.fn 34))],[],[]⟩) (D2 ⟨O,O,Au⟩ (List.Sublist.refl _)) (A7 (Av O (BM O O (IA ⟨#[78,97,116]⟩) O) (B0 O (Av O (BM O O (Jk 0) O) (Av O (Bx (rows:=BK ([(.mk 3 0 ⟨#[78,97,116]⟩ [] []),(.mk 0 0 ⟨#[]⟩ [] [])])) Br B8 O O O O (CQ (B9 _)) (Eo _)) (Av O (CE Dq B8 O) (BP O (BE B8 O) fun b3=>Ax A8 1 [0,0] O ?_)))))))))))))))))))));refine Az (Gb (M:=⟨188,mk [(1,.p (.fn 33)),(2,.p (.fn 34)),(3,.ptr b3 0)],[.box b3 [.p (I 5),.p (I 0),.p (.str ⟨#[]⟩),.p (.nils),.p (.lst (BK ([(.mk 3 0 ⟨#[78,97,116]⟩ [] []),(.mk 0 0 ⟨#[]⟩ [] [])])))]],[]⟩) (D2 ⟨O,O,O,Au⟩ (List.Sublist.refl _)) (A7 (Av O (BM O O (fq ) O) (Ax A8 1 [] O (Az (Gb (M:=⟨188,mk [(1,.p (.fn 33)),(2,.p (.fn 34)),(3,.ptr b3 0),(4,.p (.lst (List.map Bo Dc)))],[.box b3 [.p (I 5),.p (I 0),.p (.str ⟨#[]⟩),.p (.nils),.p (.lst (BK ([(.mk 3 0 ⟨#[78,97,116]⟩ [] []),(.mk 0 0 ⟨#[]⟩ [] [])])))]],[]⟩) (D2 ⟨O,O,O,O,Au⟩ (List.Sublist.refl _)) (A7 (A2 A8 2 [] O (Av O (BM O O (IA ⟨#[112,108,117,115]⟩) O) (B0 O (Av O (BM O O (IA ⟨#[115,117,99,99]⟩) O) (B0 O (Av O (BM O O (Jk 3) O) ?_)))))))))))));refine Av O (Bx (rows:=BK ([(.mk 0 3 ⟨#[]⟩ [] [])])) Br B8 O O O O (CQ (B9 _)) (Eo _)) (Av O (BM O O (S6 (.mk 3 0 ⟨#[115,117,99,99]⟩ [] []) (.mk 0 3 ⟨#[]⟩ [] []:Tm)) O) (B0 O (Av O (BM O O (Jk 4) O) (Av O (Bx (rows:=BK ([(.mk 4 0 ⟨#[]⟩ [] [(.mk 3 0 ⟨#[115,117,99,99]⟩ [] []),(.mk 0 3 ⟨#[]⟩ [] []:Tm)]),(.mk 0 4 ⟨#[]⟩ [] [])])) Br B8 O O O O (CQ (B9 _)) (Eo _)) (Av O (BM O O (VG (.mk 3 0 ⟨#[112,108,117,115]⟩ [] []) (.mk 4 0 ⟨#[]⟩ [] [(.mk 3 0 ⟨#[115,117,99,99]⟩ [] []:Tm),(.mk 0 3 ⟨#[]⟩ [] []:Tm)]:Tm) (.mk 0 4 ⟨#[]⟩ [] []:Tm)) O) (Av O (BM O O (lS ) O) (A2 A8 3 [] O (BP O (BE B8 O) fun b5=>Ax A8 2 [0,1] O (Az ?_)))))))))
 refine Gb (M:=⟨188,mk [(1,.p (.fn 33)),(2,.p (.fn 34)),(3,.ptr b3 0),(4,.p (.lst (List.map Bo Dc))),(5,.ptr b5 0),(6,.p (I 0))],[.box b5 ((BU Kh).map .p),.box b3 [.p (I 5),.p (I 0),.p (.str ⟨#[]⟩),.p (.nils),.p (.lst (BK ([(.mk 3 0 ⟨#[78,97,116]⟩ [] []),(.mk 0 0 ⟨#[]⟩ [] [])])))]],[]⟩) (D2 ⟨O,O,O,O,O,O,Au⟩ (List.Sublist.refl _)) ?_;refine Tp [.val (.p (.fn 34)),.val (.agg ((BU (.mk 3 0 ⟨#[112,108,117,115]⟩ [] [])).map .p)),.val (.p (.fn 34)),.val (.agg [.p (I 5),.p (I 0),.p (.str ⟨#[]⟩),.p (.nils),.p (.lst (BK ([(.mk 3 0 ⟨#[78,97,116]⟩ [] []),(.mk 0 0 ⟨#[]⟩ [] [])])))]),.val (.p (.fn 33)),.val (.agg ((BU (.mk 0 3 ⟨#[]⟩ [] [])).map .p)),.val (.p (.lst (BK ([(.mk 0 3 ⟨#[]⟩ [] [])])))),.val (.agg ((BU (.mk 4 0 ⟨#[]⟩ [] [(.mk 5 0 ⟨#[]⟩ [] ([(.mk 3 0 ⟨#[78,97,116]⟩ [] []),(.mk 0 0 ⟨#[]⟩ [] [])]):Tm),(.mk 0 3 ⟨#[]⟩ [] []:Tm)])).map .p)),.val (.p (.fn 33)),.val (.agg ((BU (.mk 0 4 ⟨#[]⟩ [] [])).map .p)),.val (.p (.lst (BK ([(.mk 4 0 ⟨#[]⟩ [] [(.mk 5 0 ⟨#[]⟩ [] ([(.mk 3 0 ⟨#[78,97,116]⟩ [] []),(.mk 0 0 ⟨#[]⟩ [] [])]):Tm),(.mk 0 3 ⟨#[]⟩ [] []:Tm)]),(.mk 0 4 ⟨#[]⟩ [] [])])))),.val (.agg ((BU (.mk 4 0 ⟨#[]⟩ [] [(.mk 4 0 ⟨#[]⟩ [] [(.mk 3 0 ⟨#[112,108,117,115]⟩ [] []),(.mk 4 0 ⟨#[]⟩ [] [(.mk 5 0 ⟨#[]⟩ [] [(.mk 3 0 ⟨#[78,97,116]⟩ [] []:Tm),(.mk 0 0 ⟨#[]⟩ [] []:Tm)]:Tm),(.mk 0 3 ⟨#[]⟩ [] []:Tm)]:Tm)]:Tm),(.mk 0 4 ⟨#[]⟩ [] []:Tm)])).map .p)),.new [.p (I 0),.p (I 0),.p (.str ⟨#[]⟩),.p (.nils),.p (.nils)]] Eg O An An ?_;refine Df O (fun Bs=>BC O) (Df O (fun Bs=>BM O O (IA ⟨#[112,108,117,115]⟩) O) (Df O (fun Bs=>BC O) (Df O (fun Bs=>BI (i:=Bs.length+1) Ba O (CX O) O) (Df O (fun Bs=>BC O) (Df O (fun Bs=>BM O O (Jk 3) O) (Df O (fun Bs=>Bx (rows:=BK ([(.mk 0 3 ⟨#[]⟩ [] [])])) Br B8 O O O O (CQ (B9 _)) (Eo _)) (Df O (fun Bs=>G1 O O (S6 (.mk 5 0 ⟨#[]⟩ [] ([(.mk 3 0 ⟨#[78,97,116]⟩ [] []),(.mk 0 0 ⟨#[]⟩ [] [])]):Tm) (.mk 0 3 ⟨#[]⟩ [] []:Tm)) (aw (Dz O) (aw (we O) (FB)))) (Df O (fun Bs=>BC O) (Df O (fun Bs=>BM O O (Jk 4) O) ?_)))))))))
 refine Df O (fun Bs=>Bx (rows:=BK ([(.mk 4 0 ⟨#[]⟩ [] [(.mk 5 0 ⟨#[]⟩ [] ([(.mk 3 0 ⟨#[78,97,116]⟩ [] []),(.mk 0 0 ⟨#[]⟩ [] [])]):Tm),(.mk 0 3 ⟨#[]⟩ [] []:Tm)]),(.mk 0 4 ⟨#[]⟩ [] [])])) Br B8 O O O O (CQ (B9 _)) (Eo _)) (Df O (fun Bs=>BM O O (VG (.mk 3 0 ⟨#[112,108,117,115]⟩ [] []) (.mk 4 0 ⟨#[]⟩ [] [(.mk 5 0 ⟨#[]⟩ [] [(.mk 3 0 ⟨#[78,97,116]⟩ [] []:Tm),(.mk 0 0 ⟨#[]⟩ [] []:Tm)]:Tm),(.mk 0 3 ⟨#[]⟩ [] []:Tm)]:Tm) (.mk 0 4 ⟨#[]⟩ [] []:Tm)) O) (Vt O (fun Bs=>BE B8 O) fun b7=>XE ?_))
 change AL _ _ _ 13 ⟨188,_,[.box b7 [.p (I 0),.p (I 0),.p (.str ⟨#[]⟩),.p (.nils),.p (.nils)],.box b5 ((BU Kh).map .p),.box b3 [.p (I 5),.p (I 0),.p (.str ⟨#[]⟩),.p (.nils),.p (.lst (BK ([(.mk 3 0 ⟨#[78,97,116]⟩ [] []),(.mk 0 0 ⟨#[]⟩ [] [])])))]],[]⟩ _
 refine Ax A8 1 [0,1] O (Az (Gb (M:=⟨188,mk [(1,.p (.fn 33)),(2,.p (.fn 34)),(3,.ptr b3 0),(4,.p (.lst (List.map Bo Dc))),(5,.ptr b5 0),(6,.p (I 0)),(7,.ptr b7 0)],[.box b7 ((BU (.mk 4 0 ⟨#[]⟩ [] [(.mk 4 0 ⟨#[]⟩ [] [(.mk 3 0 ⟨#[112,108,117,115]⟩ [] []),(.mk 4 0 ⟨#[]⟩ [] [(.mk 5 0 ⟨#[]⟩ [] [(.mk 3 0 ⟨#[78,97,116]⟩ [] []:Tm),(.mk 0 0 ⟨#[]⟩ [] []:Tm)]:Tm),(.mk 0 3 ⟨#[]⟩ [] []:Tm)]:Tm)]:Tm),(.mk 0 4 ⟨#[]⟩ [] []:Tm)])).map .p),.box b5 ((BU Kh).map .p),.box b3 [.p (I 5),.p (I 0),.p (.str ⟨#[]⟩),.p (.nils),.p (.lst (BK ([(.mk 3 0 ⟨#[78,97,116]⟩ [] []),(.mk 0 0 ⟨#[]⟩ [] [])])))]],[]⟩) (D2 ⟨O,O,O,O,O,O,O,Au⟩ (List.Sublist.refl _)) (A7 (A2 A8 2 [0] O (Av O (BM O O (mw ) O) (A2 A8 3 [] O (BP O (BE B8 O) fun b8=>Ax A8 2 [0,1] O (Az ?_))))))));refine Gb (M:=⟨188,mk [(1,.p (.fn 33)),(2,.p (.fn 34)),(3,.ptr b3 0),(4,.p (.lst (List.map Bo Dc))),(5,.ptr b5 0),(6,.p (I 0)),(7,.ptr b7 0),(8,.ptr b8 0),(9,.p (I 0))],[.box b8 ((BU RV).map .p),.box b7 ((BU (.mk 4 0 ⟨#[]⟩ [] [(.mk 4 0 ⟨#[]⟩ [] [(.mk 3 0 ⟨#[112,108,117,115]⟩ [] []),(.mk 4 0 ⟨#[]⟩ [] [(.mk 5 0 ⟨#[]⟩ [] [(.mk 3 0 ⟨#[78,97,116]⟩ [] []:Tm),(.mk 0 0 ⟨#[]⟩ [] []:Tm)]:Tm),(.mk 0 3 ⟨#[]⟩ [] []:Tm)]:Tm)]:Tm),(.mk 0 4 ⟨#[]⟩ [] []:Tm)])).map .p),.box b5 ((BU Kh).map .p),.box b3 [.p (I 5),.p (I 0),.p (.str ⟨#[]⟩),.p (.nils),.p (.lst (BK ([(.mk 3 0 ⟨#[78,97,116]⟩ [] []),(.mk 0 0 ⟨#[]⟩ [] [])])))]],[]⟩) (D2 ⟨O,O,O,O,O,O,O,O,O,Au⟩ (List.Sublist.refl _)) (A7 (A2 A8 2 [1] O (Av O (BM O O (nA ) O) (A2 A8 4 [] O (BP O (BE B8 O) fun b10=>?_)))))
 refine Ax A8 3 [0,1] O (Az (Gb (M:=⟨188,mk [(1,.p (.fn 33)),(2,.p (.fn 34)),(3,.ptr b3 0),(4,.p (.lst (List.map Bo Dc))),(5,.ptr b5 0),(6,.p (I 0)),(7,.ptr b7 0),(8,.ptr b8 0),(9,.p (I 0)),(10,.ptr b10 0),(11,.p (.bool true)),(12,.p (I 0))],[.box b10 ((BU NX).map .p),.box b8 ((BU RV).map .p),.box b7 ((BU (.mk 4 0 ⟨#[]⟩ [] [(.mk 4 0 ⟨#[]⟩ [] [(.mk 3 0 ⟨#[112,108,117,115]⟩ [] []),(.mk 4 0 ⟨#[]⟩ [] [(.mk 5 0 ⟨#[]⟩ [] [(.mk 3 0 ⟨#[78,97,116]⟩ [] []:Tm),(.mk 0 0 ⟨#[]⟩ [] []:Tm)]:Tm),(.mk 0 3 ⟨#[]⟩ [] []:Tm)]:Tm)]:Tm),(.mk 0 4 ⟨#[]⟩ [] []:Tm)])).map .p),.box b5 ((BU Kh).map .p),.box b3 [.p (I 5),.p (I 0),.p (.str ⟨#[]⟩),.p (.nils),.p (.lst (BK ([(.mk 3 0 ⟨#[78,97,116]⟩ [] []),(.mk 0 0 ⟨#[]⟩ [] [])])))]],[]⟩) (D2 ⟨O,O,O,O,O,O,O,O,O,O,O,O,Au⟩ (List.Sublist.refl _)) ?_));refine CG (fun k=>Nat.beq k 13) Eg (A1 O (fun _=>BC O) Au (A1 O (fun _=>BC O) Au (BT (j:=4) O O O (fun H i hi=>BI (i:=i) Ba O hi O) AB Au (A1 O (fun _=>BC O) Au (A1 O (fun _=>BM O O (Jk 2) O) Au (A1 O (fun _=>Bx (rows:=BK ([(.mk 0 2 ⟨#[]⟩ [] [])])) Br B8 O O O O (CQ (B9 _)) (Eo _)) Au (A1 O (fun _=>G1 O O (S6 (.mk 5 0 ⟨#[]⟩ [] ([(.mk 3 0 ⟨#[78,97,116]⟩ [] []),(.mk 0 0 ⟨#[]⟩ [] [])]):Tm) (.mk 0 2 ⟨#[]⟩ [] []:Tm)) (aw (Dz O) (aw (we O) (FB)))) Au (A1 O (fun _=>Bx (rows:=BK ([(.mk 4 0 ⟨#[]⟩ [] [(.mk 5 0 ⟨#[]⟩ [] ([(.mk 3 0 ⟨#[78,97,116]⟩ [] []),(.mk 0 0 ⟨#[]⟩ [] [])]):Tm),(.mk 0 2 ⟨#[]⟩ [] []:Tm)])])) Br B8 O O O O (CQ (B9 _)) (Eo _)) Au (A1 O (fun _=>CE Dq B8 O) Au ?_)))))))));refine A1 O (fun _=>G1 O O (nC ) (aw (we O) (aw (Dz O) (FB)))) Au (A1 O (fun _=>BC O) Au (A1 O (fun _=>CB O O) Au (A1 O (fun _=>CB O O) Au (KB [] O O (BE B8 O) An fun b13=>⟨AB,Au,?_⟩))));refine Cd O O (Bd (i:=0) Ba O O O Ak AX (DR _)) AB Au (A1 O (fun _=>Bf O) Au (B6 O An (Az ?_)))
 refine Gb (M:=⟨188,mk [(1,.p (.fn 33)),(2,.p (.fn 34)),(4,.p (.lst (List.map Bo Dc))),(5,.ptr b5 0),(6,.p (I 0)),(7,.ptr b7 0),(8,.ptr b8 0),(9,.p (I 0)),(10,.ptr b10 0),(11,.p (.bool true)),(12,.p (I 0)),(13,.ptr b13 0),(14,.p (I 0))],[.box b13 ((BU Nx).map .p),.box b10 ((BU NX).map .p),.box b8 ((BU RV).map .p),.box b7 ((BU (.mk 4 0 ⟨#[]⟩ [] [(.mk 4 0 ⟨#[]⟩ [] [(.mk 3 0 ⟨#[112,108,117,115]⟩ [] []),(.mk 4 0 ⟨#[]⟩ [] [(.mk 5 0 ⟨#[]⟩ [] [(.mk 3 0 ⟨#[78,97,116]⟩ [] []:Tm),(.mk 0 0 ⟨#[]⟩ [] []:Tm)]:Tm),(.mk 0 3 ⟨#[]⟩ [] []:Tm)]:Tm)]:Tm),(.mk 0 4 ⟨#[]⟩ [] []:Tm)])).map .p),.box b5 ((BU Kh).map .p),.box b3 [.p (I 5),.p (I 0),.p (.str ⟨#[]⟩),.p (.nils),.p (.lst (BK ([(.mk 3 0 ⟨#[78,97,116]⟩ [] []),(.mk 0 0 ⟨#[]⟩ [] [])])))]],[]⟩) (D2 ⟨O,O,O,O,O,O,O,O,O,O,O,O,O,Au⟩ (List.Sublist.refl _)) ?_;refine A7 (A2 A8 3 [] O (Av O (BM O O (Jk 0) O) (Av O (Bx (rows:=BK ([(.mk 0 0 ⟨#[]⟩ [] [])])) Br B8 O O O O (CQ (B9 _)) (Eo _)) (Av O (G1 O O (S6 (.mk 12 0 ⟨#[]⟩ [] []:Tm) (.mk 0 0 ⟨#[]⟩ [] []:Tm)) (aw (Dz O) (aw (we O) (FB)))) (BP O (BE B8 O) fun b15=>Ax A8 1 [0,1] O (Az ?_))))));refine Gb (M:=⟨188,mk [(1,.p (.fn 33)),(2,.p (.fn 34)),(4,.p (.lst (List.map Bo Dc))),(5,.ptr b5 0),(6,.p (I 0)),(7,.ptr b7 0),(8,.ptr b8 0),(9,.p (I 0)),(10,.ptr b10 0),(11,.p (.bool true)),(12,.p (I 0)),(13,.ptr b13 0),(14,.p (I 0)),(15,.ptr b15 0)],[.box b15 ((BU (.mk 4 0 ⟨#[]⟩ [] [(.mk 12 0 ⟨#[]⟩ [] []:Tm),(.mk 0 0 ⟨#[]⟩ [] []:Tm)])).map .p),.box b13 ((BU Nx).map .p),.box b10 ((BU NX).map .p),.box b8 ((BU RV).map .p),.box b7 ((BU (.mk 4 0 ⟨#[]⟩ [] [(.mk 4 0 ⟨#[]⟩ [] [(.mk 3 0 ⟨#[112,108,117,115]⟩ [] []),(.mk 4 0 ⟨#[]⟩ [] [(.mk 5 0 ⟨#[]⟩ [] [(.mk 3 0 ⟨#[78,97,116]⟩ [] []:Tm),(.mk 0 0 ⟨#[]⟩ [] []:Tm)]:Tm),(.mk 0 3 ⟨#[]⟩ [] []:Tm)]:Tm)]:Tm),(.mk 0 4 ⟨#[]⟩ [] []:Tm)])).map .p),.box b5 ((BU Kh).map .p),.box b3 [.p (I 5),.p (I 0),.p (.str ⟨#[]⟩),.p (.nils),.p (.lst (BK ([(.mk 3 0 ⟨#[78,97,116]⟩ [] []),(.mk 0 0 ⟨#[]⟩ [] [])])))]],[]⟩) (D2 ⟨O,O,O,O,O,O,O,O,O,O,O,O,O,O,Au⟩ (List.Sublist.refl _)) ?_
 refine CG (fun k=>false) Eg (A1 O (fun _=>BC O) Au (A1 O (fun _=>BC O) Au (A1 O (fun _=>BM O O (IA ⟨#[112,108,117,115]⟩) O) Au (BT (j:=0) O O O (fun H i hi=>BI (i:=i) Ba O hi Ak) AB Au (A1 O (fun _=>BC O) Au (A1 O (fun _=>BM O O (Jk 1) O) Au (A1 O (fun _=>Bx (rows:=BK ([(.mk 4 0 ⟨#[]⟩ [] [(.mk 12 0 ⟨#[]⟩ [] []:Tm),(.mk 0 0 ⟨#[]⟩ [] []:Tm)]),(.mk 0 1 ⟨#[]⟩ [] [])])) Br B8 O O O O (CQ (B9 _)) (Eo _)) Au (A1 O (fun _=>BM O O (VG (.mk 3 0 ⟨#[112,108,117,115]⟩ [] []) (.mk 4 0 ⟨#[]⟩ [] [(.mk 12 0 ⟨#[]⟩ [] []:Tm),(.mk 0 0 ⟨#[]⟩ [] []:Tm)]:Tm) (.mk 0 1 ⟨#[]⟩ [] []:Tm)) O) Au (A1 O (fun _=>BM O O (lY ) O) Au (A1 O (fun _=>BC O) Au (A1 O (fun _=>CB O O) Au ?_)))))))))));refine A1 O (fun _=>CB O O) Au (A1 O (fun _=>CB O O) Au (A1 O (fun _=>Bf O) Au (A1 O (fun _=>Bf O) Au (A1 O (fun _=>Bf O) Au (B6 O An (Az ?_))))));refine Gb (M:=⟨188,mk [(1,.p (.fn 33)),(2,.p (.fn 34)),(4,.p (.lst (List.map Bo Dc))),(5,.ptr b5 0),(6,.p (I 0)),(7,.ptr b7 0),(8,.ptr b8 0),(9,.p (I 0)),(10,.ptr b10 0),(11,.p (.bool true)),(12,.p (I 0)),(13,.ptr b13 0),(14,.p (I 0)),(15,.ptr b15 0),(16,.p (I 0)),(17,.p (.bool true)),(18,.p (I 0))],[.box b15 ((BU (.mk 4 0 ⟨#[]⟩ [] [(.mk 12 0 ⟨#[]⟩ [] []:Tm),(.mk 0 0 ⟨#[]⟩ [] []:Tm)])).map .p),.box b13 ((BU Nx).map .p),.box b10 ((BU NX).map .p),.box b8 ((BU RV).map .p),.box b7 ((BU (.mk 4 0 ⟨#[]⟩ [] [(.mk 4 0 ⟨#[]⟩ [] [(.mk 3 0 ⟨#[112,108,117,115]⟩ [] []),(.mk 4 0 ⟨#[]⟩ [] [(.mk 5 0 ⟨#[]⟩ [] [(.mk 3 0 ⟨#[78,97,116]⟩ [] []:Tm),(.mk 0 0 ⟨#[]⟩ [] []:Tm)]:Tm),(.mk 0 3 ⟨#[]⟩ [] []:Tm)]:Tm)]:Tm),(.mk 0 4 ⟨#[]⟩ [] []:Tm)])).map .p),.box b5 ((BU Kh).map .p),.box b3 [.p (I 5),.p (I 0),.p (.str ⟨#[]⟩),.p (.nils),.p (.lst (BK ([(.mk 3 0 ⟨#[78,97,116]⟩ [] []),(.mk 0 0 ⟨#[]⟩ [] [])])))]],[]⟩) (D2 ⟨O,O,O,O,O,O,O,O,O,O,O,O,O,O,O,O,O,Au⟩ (List.Sublist.refl _)) ?_
 refine CG (fun k=>false) Eg (A1 O (fun _=>BC O) Au (A1 O (fun _=>BC O) Au (A1 O (fun _=>BM O O (IA ⟨#[115,117,99,99]⟩) O) Au (BT (j:=0) O O O (fun H i hi=>BI (i:=i) Ba O hi Ak) AB Au (A1 O (fun _=>Bx (rows:=BK ([(.mk 4 0 ⟨#[]⟩ [] [(.mk 12 0 ⟨#[]⟩ [] []:Tm),(.mk 0 0 ⟨#[]⟩ [] []:Tm)])])) Br B8 O O O O (CQ (B9 _)) (Eo _)) Au (A1 O (fun _=>BM O O (S6 (.mk 3 0 ⟨#[115,117,99,99]⟩ [] []) (.mk 4 0 ⟨#[]⟩ [] [(.mk 12 0 ⟨#[]⟩ [] []:Tm),(.mk 0 0 ⟨#[]⟩ [] []:Tm)]:Tm)) O) Au (A1 O (fun _=>BM O O (kg ) O) Au (A1 O (fun _=>BC O) Au (A1 O (fun _=>CB O O) Au (A1 O (fun _=>CB O O) Au (A1 O (fun _=>CB O O) Au (A1 O (fun _=>Bf O) Au (A1 O (fun _=>Bf O) Au ?_)))))))))))));refine A1 O (fun _=>Bf O) Au (B6 O An (Az (Az ?_)));refine Gb (M:=⟨188,mk [(1,.p (.fn 33)),(2,.p (.fn 34)),(5,.ptr b5 0),(6,.p (I 0)),(7,.ptr b7 0),(8,.ptr b8 0),(9,.p (I 0)),(10,.ptr b10 0),(11,.p (.bool true)),(12,.p (I 0)),(13,.ptr b13 0),(14,.p (I 0)),(16,.p (I 0)),(17,.p (.bool true)),(18,.p (I 0)),(20,.p (.bool false)),(21,.p (I 0))],[.box b15 ((BU (.mk 4 0 ⟨#[]⟩ [] [(.mk 12 0 ⟨#[]⟩ [] []:Tm),(.mk 0 0 ⟨#[]⟩ [] []:Tm)])).map .p),.box b13 ((BU Nx).map .p),.box b10 ((BU NX).map .p),.box b8 ((BU RV).map .p),.box b7 ((BU (.mk 4 0 ⟨#[]⟩ [] [(.mk 4 0 ⟨#[]⟩ [] [(.mk 3 0 ⟨#[112,108,117,115]⟩ [] []),(.mk 4 0 ⟨#[]⟩ [] [(.mk 5 0 ⟨#[]⟩ [] [(.mk 3 0 ⟨#[78,97,116]⟩ [] []:Tm),(.mk 0 0 ⟨#[]⟩ [] []:Tm)]:Tm),(.mk 0 3 ⟨#[]⟩ [] []:Tm)]:Tm)]:Tm),(.mk 0 4 ⟨#[]⟩ [] []:Tm)])).map .p),.box b5 ((BU Kh).map .p),.box b3 [.p (I 5),.p (I 0),.p (.str ⟨#[]⟩),.p (.nils),.p (.lst (BK ([(.mk 3 0 ⟨#[78,97,116]⟩ [] []),(.mk 0 0 ⟨#[]⟩ [] [])])))]],[]⟩) (D2 ⟨O,O,O,O,O,O,O,O,O,O,O,O,O,O,O,O,O,Au⟩ (List.Sublist.refl _)) ?_;refine A7 (Ax A8 22 [] O ?_);refine A0 O (fun c=>by cases c) (fun c=>?_);refine A5 (Az ?_)
 refine Gb (M:=⟨188,mk [(1,.p (.fn 33)),(2,.p (.fn 34)),(5,.ptr b5 0),(7,.ptr b7 0),(8,.ptr b8 0),(10,.ptr b10 0),(11,.p (.bool true)),(13,.ptr b13 0),(16,.p (I 0)),(17,.p (.bool true)),(20,.p (.bool false))],[.box b15 ((BU (.mk 4 0 ⟨#[]⟩ [] [(.mk 12 0 ⟨#[]⟩ [] []:Tm),(.mk 0 0 ⟨#[]⟩ [] []:Tm)])).map .p),.box b13 ((BU Nx).map .p),.box b10 ((BU NX).map .p),.box b8 ((BU RV).map .p),.box b7 ((BU (.mk 4 0 ⟨#[]⟩ [] [(.mk 4 0 ⟨#[]⟩ [] [(.mk 3 0 ⟨#[112,108,117,115]⟩ [] []),(.mk 4 0 ⟨#[]⟩ [] [(.mk 5 0 ⟨#[]⟩ [] [(.mk 3 0 ⟨#[78,97,116]⟩ [] []:Tm),(.mk 0 0 ⟨#[]⟩ [] []:Tm)]:Tm),(.mk 0 3 ⟨#[]⟩ [] []:Tm)]:Tm)]:Tm),(.mk 0 4 ⟨#[]⟩ [] []:Tm)])).map .p),.box b5 ((BU Kh).map .p),.box b3 [.p (I 5),.p (I 0),.p (.str ⟨#[]⟩),.p (.nils),.p (.lst (BK ([(.mk 3 0 ⟨#[78,97,116]⟩ [] []),(.mk 0 0 ⟨#[]⟩ [] [])])))]],[]⟩) (D2 ⟨O,O,O,O,O,O,O,O,O,O,O,Au⟩ (List.Sublist.refl _)) ?_;refine CG (fun k=>false) Eg (BT (j:=5) O O O (fun H i hi=>BI (i:=i) Ba O hi Ak) AB Au (A1 O (fun _=>BC O) Au (A1 O (fun _=>BM O O (IA ⟨#[115,117,99,99]⟩) O) Au (A1 O (fun _=>BC O) Au (A1 O (fun _=>BM O O (IA ⟨#[112,108,117,115]⟩) O) Au (A1 O (fun _=>BC O) Au (A1 O (fun _=>BM O O (Jk 3) O) Au (A1 O (fun _=>BC O) Au (A1 O (fun _=>BM O O (Jk 4) O) Au (A1 O (fun _=>Bx (rows:=BK ([(.mk 0 3 ⟨#[]⟩ [] []),(.mk 0 4 ⟨#[]⟩ [] [])])) Br B8 O O O O (CQ (B9 _)) (Eo _)) Au (A1 O (fun _=>BM O O (VG (.mk 3 0 ⟨#[112,108,117,115]⟩ [] []) (.mk 0 3 ⟨#[]⟩ [] []:Tm) (.mk 0 4 ⟨#[]⟩ [] []:Tm)) O) Au ?_)))))))))));refine A1 O (fun _=>Bx (rows:=BK ([(.mk 4 0 ⟨#[]⟩ [] [(.mk 4 0 ⟨#[]⟩ [] [(.mk 3 0 ⟨#[112,108,117,115]⟩ [] []),(.mk 0 3 ⟨#[]⟩ [] []:Tm)]:Tm),(.mk 0 4 ⟨#[]⟩ [] []:Tm)])])) Br B8 O O O O (CQ (B9 _)) (Eo _)) Au (A1 O (fun _=>BM O O (S6 (.mk 3 0 ⟨#[115,117,99,99]⟩ [] []) (.mk 4 0 ⟨#[]⟩ [] [(.mk 4 0 ⟨#[]⟩ [] [(.mk 3 0 ⟨#[112,108,117,115]⟩ [] []:Tm),(.mk 0 3 ⟨#[]⟩ [] []:Tm)]:Tm),(.mk 0 4 ⟨#[]⟩ [] []:Tm)]:Tm)) O) Au (A1 O (fun _=>BM O O (dz ) O) Au (A1 O (fun _=>BC O) Au (Dl (i:=3) O O O O O (fun H i hi=>BI (i:=i) Ba O hi Ak) AB Au (Dl (i:=4) O O O O O (fun H i hi=>BI (i:=i) Ba O hi Ak) AB Au (By O (fun _=>BM O O (eI ) O) Au (A1 O (fun _=>CS O O) Au (A1 O (fun _=>BC O) Au ?_))))))))
 refine By O (fun _=>BC O) Au (A1 O (fun _=>CS O O) Au (A1 O (fun _=>BC O) Au (Dl (i:=2) O O O O O (fun H i hi=>BI (i:=i) Ba O hi Ak) AB Au (By O (fun _=>BC O) Au (By O (fun _=>BM O O (IA ⟨#[112,108,117,115]⟩) O) Au (By O (fun _=>BC O) Au (By O (fun _=>BM O O (Jk 3) O) Au (By O (fun _=>BC O) Au (By O (fun _=>BM O O (Jk 4) O) Au (By O (fun _=>Bx (rows:=BK ([(.mk 0 3 ⟨#[]⟩ [] []),(.mk 0 4 ⟨#[]⟩ [] [])])) Br B8 O O O O (CQ (B9 _)) (Eo _)) Au (By O (fun _=>BM O O (VG (.mk 3 0 ⟨#[112,108,117,115]⟩ [] []) (.mk 0 3 ⟨#[]⟩ [] []:Tm) (.mk 0 4 ⟨#[]⟩ [] []:Tm)) O) Au (By O (fun _=>BM O O (gY ) O) Au (A1 O (fun _=>CS O O) Au ?_)))))))))))));refine A1 O (fun _=>BC O) Au (Dl (i:=1) O O O O O (fun H i hi=>BI (i:=i) Ba O hi Ak) AB Au (By O (fun _=>BC O) Au (By O (fun _=>BM O O (Jk 2) O) Au (By O (fun _=>Bx (rows:=BK ([(.mk 0 2 ⟨#[]⟩ [] [])])) Br B8 O O O O (CQ (B9 _)) (Eo _)) Au (By O (fun _=>CE Dq B8 O) Au (By O (fun _=>G1 O O (fg ) (aw (we O) (aw (Dz O) (FB)))) Au (A1 O (fun _=>CS O O) Au (A1 O (fun _=>BC O) Au (By O (fun _=>BC O) Au (By O (fun _=>D8 O O O) Au (A1 O (fun _=>CS O O) Au (A1 O (fun _=>BC O) Au (By O (fun _=>BC O) Au (A1 O (fun _=>CS O O) Au (A1 O (fun _=>BC O) Au (By O (fun _=>BC O) Au (By O (fun _=>PS O) Au ?_)))))))))))))))));refine A1 O (fun _=>CS O O) Au (A1 O (fun _=>Bf O) Au (B6 O An (A4 (⟨O,_,_,⟨_,_,O,O,O⟩,(List.nil_sublist _),?_⟩))))
 all_goals exact⟨rfl,rfl⟩
end Go.Proofs.YtboammbpdaoojaaGreat
