/- Part of the proofs: an abstract program logic, plain models and contracts of functions. -/
import Derived.Test.YtifphifongokcaaGreatPh
import Derived.Test.YtifphifongokcaaGreatPb
import Derived.Test.YtifphifongokcaaGreatPf
import Derived.Test.YtifphifongokcaaGreatPd
import Derived.Test.YtifphifongokcaaGreatPe
import Derived.Test.YtifphifongokcaaGreatPg
set_option linter.unusedVariables false
set_option linter.unusedSimpArgs false
set_option maxRecDepth 100000
namespace Go.Eu
open Go.Abs
def oF (n:Nat):List (Int×List Int):=(List.range n).map fun i:Nat=>((i:Int),[])
structure dT (a us:List Tm) (pl:List (Int×List Int)) (w:Ge):Prop where
 ok:ZO a us pl
 nn:∀p∈pl,0≤p.1∧(∀q∈p.2,0≤q)∧p.2.length+IU w≤1000
theorem dT.len {a us:List Tm}{pl:List (Int×List Int)}{w:Ge}(h:dT a us pl w):pl.length=us.length:=h.ok.len
theorem dT.next {E:List Ck}{a us f:List Tm}{pl:List (Int×List Int)}{w q:Ge}(h:dT a us pl w) (hE:ZG E) {i:Nat}{v:Tm}{p:Int×List Int}{d:Ck}{j:Int}{nm:ByteArray}(hv:us[i]?=some v) (hp:pl[i]?=some p) (hc:II E v=some (d,j,f)) (hb:Ec nm w.branches=some q) (ho:Kc w):dT a (us++f) (pl++Ji p d.fixed f.length) q:=by
 have hcf:=KI hc;obtain⟨b1,b2⟩:=XV hb ho;have hfx:=(hE.all d hcf.mem).fx.1;have hmore:=h.ok.more hv hp hfx;rw[←hcf.fs] at hmore;obtain⟨n1,n2,n3⟩:=h.nn p (List.mem_of_getElem? hp);refine⟨hmore,fun r hr=>?_⟩;rcases List.mem_append.1 hr with hr | hr
 ·obtain⟨m1,m2,m3⟩:=h.nn r hr;exact⟨m1,m2,by omega⟩
 obtain⟨k,_,rfl⟩:=List.mem_map.1 hr;refine⟨n1,fun q hq=>?_,by simp only[List.length_append,List.length_cons,List.length_nil];omega⟩;rcases List.mem_append.1 hq with hq | hq
 ·exact n2 q hq
 have:=List.mem_singleton.1 hq;omega
theorem dT.at_ {a us:List Tm}{pl:List (Int×List Int)}{w:Ge}(h:dT a us pl w) {i:Nat}{v:Tm}{p:Int×List Int}(hv:us[i]?=some v) (hp:pl[i]?=some p):0≤p.1∧(∀q∈p.2,0≤q)∧p.2.length≤1000∧p.1.toNat<a.length:=by
 obtain⟨n1,n2,n3⟩:=h.nn p (List.mem_of_getElem? hp);obtain⟨j,path,y,h1,h2,h3⟩:=h.ok.at_ i v hv;rw[hp] at h1;cases h1;exact⟨n1,n2,by omega,(List.getElem?_eq_some_iff.1 h2).1⟩
section
variable {E:List Ck}{σ:Type}{S:Sys σ}{T:σ→Tm→Out (Option Tm×σ)}{h:Tm}{ar:Int}{a us:List Tm}{n:Nat}{t:Ge}{pl:List (Int×List Int)}{s:σ}{x:Tm}{p:Int×List Int}
def m5 (h:Tm) (a:List Tm) (p:Int×List Int) (r:Option Tm×σ):Out (Option Tm×σ):=match r.1 with
 | none=> .ok (none,r.2)
 | some x=>match YN (a.getD p.1.toNat default) p.2 x with
  | none=> .stuck
  | some y=> .ok (some (apply h (a.set p.1.toNat y)),r.2)
end
def mq (E:List Ck) {σ:Type}(S:Sys σ) (n:Nat) (h:Tm) (a:List Tm) (s:σ):Out (Option Tm×σ):=match Jo E h with
 | none=> .ok (none,s)
 | some x =>
  if x.kind=1 then Sz S (CT E x.decl) h a s
  else if x.kind=5∧(a.length:Int) > Ft (CT E x.decl) then match II E (a.getD (Ft (CT E x.decl)).toNat default) with
   | some _=>Xi E S (CT E x.decl) h a (a.getD (Ft (CT E x.decl)).toNat default) s
   | none=>(Wc E S n s (a.getD (Ft (CT E x.decl)).toNat default)).bind fun r=>match r.1 with
    | none=> .ok (none,r.2)
    | some y=> .ok (some (apply h (a.set (Ft (CT E x.decl)).toNat y)),r.2)
  else if x.kind=6∧(a.length:Int)≥(GB (CT E x.decl) x.item).arity then
   eF E S (Wc E S n) h (GB (CT E x.decl) x.item).arity a n (GB (CT E x.decl) x.item).tree (a.take (GB (CT E x.decl) x.item).arity.toNat) (oF (GB (CT E x.decl) x.item).arity.toNat) s
  else .ok (none,s)
section
variable {E:List Ck}{σ:Type}{S:Sys σ}{n:Nat}{h:Tm}{a:List Tm}{s:σ}{d:Ck}{x:Tm}
def nT (h:Tm) (a:List Tm) (k:Nat) (r:Option Tm×σ):Out (Option Tm×σ):=match r.1 with
 | none=> .ok (none,r.2)
 | some y=> .ok (some (apply h (a.set k y)),r.2)
section
variable (hu:iz E h=true) (hd:E[(EF E h.name).1.decl.toNat]?=some d)
include hu hd
omit hd
end
end
section
variable {E:List Ck}{σ:Type}{S:Sys σ}{n:Nat}{t:Tm}{s:σ}{X:Out (Option Tm×σ)}
section
variable (ho:okB t=true)
include ho
def np (h:Tm) (a:List Tm) (r:Option Tm×σ):Out (Option Tm×σ):=match r.1 with
 | none=> .ok (none,r.2)
 | some x=> .ok (some (apply (RX h.kind x) a),r.2)
end
end
section
variable {E:List Ck}{σ:Type}{S:Sys σ}{n:Nat}{t:Tm}{s:σ}{r:Tm×σ}{d:Ck}{X:Out (Option Int×σ)}
noncomputable def lC (E:List Ck) (S:Sys σ) (n:Nat) (q:(Option (Tm×List Tm)×Tm)×σ):Out (Option Int×σ):=match q.1.1 with
 | some _=> .ok (none,q.2)
 | none=>if S.over q.2=false∧Iy q.1.2 Bi=false then VP E S n q.2 q.1.2 else .ok (none,q.2)
noncomputable def nB (E:List Ck) (S:Sys σ) (n:Nat) (r:Tm×σ):Out (Option Int×σ) :=
 if (BI r.1).1.kind=12 then .ok (some (BI r.1).1.index,r.2)
  else if (BI r.1).1.kind=9∨(BI r.1).1.kind=10 then match (BI r.1).1.kids[0]? with
   | none=> .stuck
   | some p=>VP E S n r.2 p
  else if (BI r.1).1.kind=3 then match Jo E (BI r.1).1 with
   | none=> .ok (none,r.2)
   | some x =>
    if S.over r.2=true then .ok (none,r.2)
    else if x.kind=5∧((BI r.1).2.length:Int) > Ft (CT E x.decl) then VP E S n r.2 ((BI r.1).2.getD (Ft (CT E x.decl)).toNat default)
    else if x.kind=6∧((BI r.1).2.length:Int)≥(GB (CT E x.decl) x.item).arity then
     (Pn E S (Uo E S n) n (GB (CT E x.decl) x.item).tree ((BI r.1).2.take (GB (CT E x.decl) x.item).arity.toNat) Bi r.2).bind (lC E S n)
    else .ok (none,r.2)
  else .ok (none,r.2)
section
variable (hk:(BI r.1).1.kind=3) (hu:iz E (BI r.1).1=true) (ho:S.over r.2=false) (hd:E[(EF E (BI r.1).1.name).1.decl.toNat]?=some d)
include hk hu ho
include hd
end
end
section
variable {E:List Ck}{σ:Type}{S:Sys σ}{n:Nat}{t:Ge}{a:List Tm}{s:σ}
def nL (S:Sys σ) (q:(Option (Tm×List Tm)×Tm)×σ):Out (Option Tm×σ):=match q.1.1 with
 | none=> .ok (none,q.2)
 | some (b,vars)=>if okB b=false∨vars.all okB=false∨1125899906842624≤Bb vars then .stuck else S.put q.2 (Gn b vars.reverse 0) fun x s'=> .ok (some x,s')
end
def km (q:Tm):Bool:= !(decide ((size q:Int) > 4096)||decide (Dq q > 200))
def oI:Out (Option Tm×Int)→Tm×Bool×Int
 | .ok (some q,_)=>if km q=true then (q,true,0) else (Bi,false,11)
 | .ok (none,_)=>(Bi,false,0)
 | _=>(Bi,false,11)
def nP:Out (Option Tm×Int)→Tm×Bool×Int
 | .ok (q,_)=>(q.getD Bi,q.isSome,0)
 | _=>(Bi,false,11)
def mx:Out (Option Int×Int)→Int×Bool×Int
 | .ok (q,_)=>(q.getD 0,q.isSome,0)
 | _=>(0,false,11)
def m7 (o:Out (Option Tm×Int)):Prop:=∀q c,o= .ok (some q,c)→okB q=true
section
variable {o:Out (Option Tm×Int)}{q:Option Tm}{c e:Int}
end
section
variable {o:Out (Option Int×Int)}{q:Option Int}{c e:Int}
end
section
variable {E:List Ck}{σ:Type}{S:Sys σ}{W:σ→Tm→Out (Tm×σ)}
end
def iw (d:Ck):Prop:=(d.kind≠1→d.kind≠2→d.value=Bi)∧(d.kind≠3→d.recs.rules.length=0∧d.fixed=0)∧(d.kind≠4→d.funs.length=0)
def ic (d:Ck):Prop:=0≤d.fixed∧(∀f∈d.funs,1≤f.arity∧f.arity≤16)∧(d.kind=3→d.fixed≤1000000)
def lM (d:Ck):Prop:=(d.kind=1∨d.kind=2→okB d.value=true)∧(d.kind=3→∀t∈d.recs.rules,okB t=true)∧(d.kind=4→∀f∈d.funs,Kc f.tree)
def lq (d:Ck):Prop:=size d.value≤400∧(∀t∈d.recs.rules,size t≤400)∧∀f∈d.funs,IU f.tree≤50
theorem T5 {α:Type}{p:α→Prop}{l:List α}{n:Nat}(hn:l.length≤n) (h:∀j,j<n→∀x,l[j]?=some x→p x):∀x∈l,p x:=fun x hx=>by
 obtain⟨j,hj⟩:=List.mem_iff_getElem?.1 hx;exact h j (by have:=(List.getElem?_eq_some_iff.1 hj).1;omega) x hj
theorem JA {t:Tm}(h:Re t) (hs:Dg t≤400):size t≤400:=by
 have h1:=Nz (t:=t) (by have:=h.sz;omega);omega
structure j5 (ds:List Ck) (l:List Tm):Prop where
 env:Uz ds
 ok:∀t∈l,okB t=true
 sz:Bb l≤60
 few:ds.length≤70
end Go.Eu
namespace Go.Proofs.YtifphifongokcaaGreat
open Go.Abs Go.Eu
theorem GO:∀(t:Tm),(Re t)→D3 Tryz.prog 61 [.agg ((Bc t).map .p)] (.p (.bool (decide (Dg t≤400)&&decide (Dq t≤150)))):=by
 intro t h1;refine A1 Tryz.func61 O jN (n:=11) O O (Ay (BE O (BT O) fun b1=>Aq Az 1 [] O (As (Bj [] 2 (fun y=>y= .p (.bool ((decide ((Dg t:Int)≤(400:Int)))&&(decide ((Dq t:Int)≤(150:Int)))))) ?_ ?_))))
 ·refine Ax (Ar O (BR (i:=0) Bx O O Ad) (Ar O (BB O O (Tu _ t (Nat.le_refl _) h1.nd) O) (A0 Az 2 [] O (BS 6 O (fun g=>?_) (fun g=>?_)))))
  ·(try simp only[sd,se] at g);exact BK O (BR (i:=0) Bx O O Ad) (BK O (BB O O (SA _ t (Nat.le_refl _) h1.nd) O) (Aq Az 3 [] O ⟨O,O,AK,AH,Ap⟩))
  (try simp only[sd,se] at g);exact Aq Az 5 [] O ⟨O,O,AK,AH,Ap⟩
 rintro _ rfl;refine A4 (⟨O,_,_,⟨_,_,O,O,O⟩,(List.nil_sublist _),?_⟩)
 all_goals exact⟨rfl,rfl⟩
theorem OZ:∀(n:Nat) (t:Ge) (dp:Int),(MB t≤n)→(HH t)→(-1000<dp∧dp<1000)→Lj Tryz.prog 62 [.agg ((FX t).map .p),.p (I dp)] (J5):=by
 intro n
 induction n with
 | zero=>intro t dp h;have:=U8 t;omega
 | succ n ih =>
  intro t dp h1 h2 h3;have htl:=h2.bl;refine A1 Tryz.func62 O kL (n:=47) O O (Ay (BE O (BT O) fun b2=>Aq Az 1 [] O (As (As (Bj [1,2] 19 (fun y=>∃q:Bool,y= .p (.bool q)∧(q=false→dp≤40)) ?_ ?_)))))
  ·refine Ax (A0 Az 3 [] O (BS 8 O (fun g=>?_) (fun g=>?_)))
   ·(try simp only[sd,se] at g);exact Aq Az 11 [] O (⟨O,O,AK,(by refine⟨_,rfl,fun h=>?_⟩;first | (exact absurd h Am) | omega),⟨O,O,Ap⟩⟩)
   (try simp only[sd,se] at g);refine BK O (A3 Ux O O) (BK O (A6 (i:=0) T3 O O (E2 _)) (BK O (BH UY O (Oy _)) (A0 Az 3 [] O (BS 14 O (fun g1=>?_) (fun g1=>?_)))))
   ·(try simp only[sd,se] at g1);exact Aq Az 5 [] O (⟨O,O,AK,(by refine⟨_,rfl,fun h=>?_⟩;first | (exact absurd h Am) | omega),⟨O,O,Ap⟩⟩)
   (try simp only[sd,se] at g1);exact BK O (A3 Ux O O) (BK O (DW (i:=0) Bx O O (QY _) (BF _)) (BK O (BB O O (GO t.body h2.body) O) (Aq Az 2 [] O (⟨O,O,AK,(by refine⟨_,rfl,fun h=>?_⟩;first | (exact absurd h Am) | omega),⟨O,O,Ap⟩⟩))))
  rintro _ ⟨q,rfl,hq⟩;refine A2 O (fun c=>?_) (fun c=>?_)
  ·(try simp only[sd,se] at c);refine Au Az 1 [] O (A4 (⟨O,_,_,⟨_,_,O,O,O⟩,(List.nil_sublist _),?_⟩))
   all_goals exact⟨⟨_,rfl⟩,rfl⟩
  (try simp only[sd,se] at c);have hq1:=hq (by simpa using c);refine A5 (As (Au Az 1 [] O (BA (Bh (α:=Nat) (fun i=>⟨47,mk [(1,.p (I dp)),(2,.ptr b2 0),(5,.p (I (i:Int)))],[.box b2 ((FX t).map .p)],[]⟩) (fun i=>t.branches.length - i) (fun i=>i≤t.branches.length) 0 AO ?_ ?_))))
  ·exact BZ ⟨we O,we O,we O,Ap⟩ (leH (is:=[0]) O (wl (oe O) (DF)))
  rintro i hC
  try simp only at hC
  have hi:=hC;refine As (Ay (A0 Az 2 [] O (Ar O (A6 (i:=0) T3 O O (E2 _)) (Ar O (BH UY O (Oy _)) (Aq Az 1 [] O (A2 O (fun c1=>?_) (fun c1=>?_)))))))
  ·(try simp only[sd,se] at c1);refine A5 (As (BA (As (Bj [1,2,5] 46 J5 ?_ ?_))))
   ·refine Ax (Ar O (A3 Ux O O) (Ar O (A6 (i:=0) T3 O O (E2 _)) (CA O ?_)));obtain⟨x,hx⟩:=A9 (l:=t.branches) (i:=i) An;refine Ar O (BC UY O O An (Ou hx) (Lg _)) (Ar O (DS cO O O) (Ar O (Gf bJ O (Qj _) (HB _)) (A0 Az 2 [] O (I6 O O (Dl O O (ih x.tree ((dp:Int)+(1:Int)) (by have:=Xs hx;omega) (Nl h2.bs hx).tr An) (.inl O)) ?_))));rintro _ ⟨q1,rfl⟩;refine A0 Az 2 [] O (BS 37 O (fun g=>?_) (fun g=>?_))
    ·(try simp only[sd,se] at g);exact Aq Az 9 [] O (⟨O,O,AK,⟨_,O⟩,⟨O,O,O,Ap⟩⟩)
    (try simp only[sd,se] at g);exact BK O (A3 Ux O O) (BK O (A6 (i:=0) T3 O O (E2 _)) (BK O (Bm O) (BK O (BC UY O O An (Ou hx) (Lg _)) (BK O (DS cO O O) (BK O (I9 S3 O (Qx _)) (BK O (Fc dX O) (Aq Az 2 [] O (⟨O,O,AK,⟨_,O⟩,⟨O,O,O,Ap⟩⟩))))))))
   rintro _ ⟨q1,rfl⟩;refine A2 O (fun c2=>?_) (fun c2=>?_)
   ·(try simp only[sd,se] at c2);refine Au Az 1 [] O (A4 (⟨O,_,_,⟨_,_,O,O,O⟩,(List.nil_sublist _),?_⟩))
    all_goals exact⟨⟨_,rfl⟩,rfl⟩
   (try simp only[sd,se] at c2);refine A5 (Ax (Aq Az 3 [] O ?_));refine⟨(i+1),AQ,by omega,BZ ⟨we rfl,we rfl,we rfl,trivial⟩ (leH (is:=[0]) rfl (wl (oe rfl) (DF)))⟩
  (try simp only[sd,se] at c1);refine Bk (Au Az 1 [] O (A4 (⟨O,_,_,⟨_,_,O,O,O⟩,(List.nil_sublist _),?_⟩)))
  all_goals exact⟨⟨_,rfl⟩,rfl⟩
theorem SB:∀(d:Ck),(XR d)→Lj Tryz.prog 20 [.agg ((D9 d).map .p)] (fun v=>∃bb:Bool,v= .p (.bool bb)∧(bb=true→d.name.size≤200∧Dg d.type≤400∧∀c∈d.ctors,Dg c.type≤400)):=by
 intro d h1;have hcl:=h1.cl;have hfl:=h1.fl;have hrl:=h1.rl;refine A1 Tryz.func20 O jL (n:=124) O O (Ay (BE O (BT O) fun b1=>Aq Az 1 [] O (As (As (Bj [1] 47 (fun y=>∃q:Bool,y= .p (.bool q)∧(q=false→d.name.size≤200∧Dg d.type≤400)) ?_ ?_)))))
 ·refine Ax (Ar O (A3 EO O O) (Ar O (A6 (i:=0) S3 O O (F4 _)) (Ar O (Fc dX O) (A0 Az 2 [] O (BS 10 O (fun g=>?_) (fun g=>?_))))))
  ·(try simp only[sd,se] at g);exact Aq Az 37 [] O (⟨O,O,AK,(by refine⟨_,rfl,fun h=>?_⟩;first | (exact absurd h Am) | (simp_all;done) | (simp_all;omega)),⟨O,Ap⟩⟩)
  (try simp only[sd,se] at g);refine BK O (A3 EO O O) (BK O (DW (i:=0) Bx O O (Gz _) (BF _)) (BK O (BB O O (GO d.type h1.ty) O) (A0 Az 3 [] O (BS 16 O (fun g1=>?_) (fun g1=>?_)))))
  ·(try simp only[sd,se] at g1);exact Aq Az 31 [] O (⟨O,O,AK,(by refine⟨_,rfl,fun h=>?_⟩;first | (exact absurd h Am) | (simp_all;done) | (simp_all;omega)),⟨O,Ap⟩⟩)
  (try simp only[sd,se] at g1);refine BK O (A3 EO O O) (BK O (DW (i:=0) Bx O O (Oj _) (BF _)) (BK O (BB O O (GO d.value h1.vl) O) (A0 Az 3 [] O (BS 22 O (fun g2=>?_) (fun g2=>?_)))))
  ·(try simp only[sd,se] at g2);exact Aq Az 25 [] O (⟨O,O,AK,(by refine⟨_,rfl,fun h=>?_⟩;first | (exact absurd h Am) | (simp_all;done) | (simp_all;omega)),⟨O,Ap⟩⟩)
  (try simp only[sd,se] at g2);refine BK O (A3 EO O O) (BK O (A6 (i:=0) Oe O O (DE _)) (BK O (BH Md O (List.length_map _)) (A0 Az 3 [] O (BS 28 O (fun g3=>?_) (fun g3=>?_)))))
  ·(try simp only[sd,se] at g3);exact Aq Az 19 [] O (⟨O,O,AK,(by refine⟨_,rfl,fun h=>?_⟩;first | (exact absurd h Am) | (simp_all;done) | (simp_all;omega)),⟨O,Ap⟩⟩)
  (try simp only[sd,se] at g3);refine BK O (A3 EO O O) (BK O (A6 (i:=0) YI O O (F5 _)) (BK O (BH YA O (List.length_map _)) (A0 Az 3 [] O (BS 34 O (fun g4=>?_) (fun g4=>?_)))))
  ·(try simp only[sd,se] at g4);exact Aq Az 13 [] O (⟨O,O,AK,(by refine⟨_,rfl,fun h=>?_⟩;first | (exact absurd h Am) | (simp_all;done) | (simp_all;omega)),⟨O,Ap⟩⟩)
  (try simp only[sd,se] at g4);refine A0 Az 2 [] O (BK O (DW (i:=0) Bx O O (LA _) (BF _)) (BK O (BB O O (GO d.recs.type h1.rt) O) (A0 Az 3 [] O (BS 41 O (fun g5=>?_) (fun g5=>?_)))))
  ·(try simp only[sd,se] at g5);exact Aq Az 6 [] O (⟨O,O,AK,(by refine⟨_,rfl,fun h=>?_⟩;first | (exact absurd h Am) | (simp_all;done) | (simp_all;omega)),⟨O,Ap⟩⟩)
  (try simp only[sd,se] at g5);exact A0 Az 2 [] O (BK O (A6 (i:=0) DD O O (FQ _)) (BK O (BH BY O (BD _)) (Aq Az 2 [] O (⟨O,O,AK,(by refine⟨_,rfl,fun h=>?_⟩;first | (exact absurd h Am) | (simp_all;done) | (simp_all;omega)),⟨O,Ap⟩⟩))))
 rintro _ ⟨q,rfl,hq⟩;refine A2 O (fun c=>?_) (fun c=>?_)
 ·(try simp only[sd,se] at c);refine Au Az 1 [] O (A4 (⟨O,_,_,⟨_,_,O,O,O⟩,(List.nil_sublist _),?_⟩))
  all_goals exact⟨⟨_,rfl,fun h=>absurd h Am⟩,rfl⟩
 (try simp only[sd,se] at c);have hq1:=hq (by simpa using c);refine A5 (As (Au Az 1 [] O (BA ?_)));refine Bh (α:=Nat) (fun i=>⟨124,mk [(1,.ptr b1 0),(3,.p (I (i:Int)))],[.box b1 ((D9 d).map .p)],[]⟩) (fun i=>d.ctors.length - i) (fun i=>i≤d.ctors.length∧(∀j,j<i→∀x,d.ctors[j]?=some x→Dg x.type≤400)) 0 (⟨by omega,fun j h=>by omega⟩) ?_ ?_
 ·exact BZ ⟨we O,we O,Ap⟩ (leH (is:=[0]) O (wl (oe O) (DF)))
 rintro i hC
 try simp only at hC
 obtain⟨hi,hT⟩:=hC;refine As (Ay (A0 Az 2 [] O (Ar O (A6 (i:=0) Oe O O (DE _)) (Ar O (BH Md O (List.length_map _)) (Aq Az 1 [] O (A2 O (fun c1=>?_) (fun c1=>?_)))))))
 ·(try simp only[sd,se] at c1);obtain⟨x,hx⟩:=A9 (l:=d.ctors) (i:=i) An;refine A5 (As (BA (As (Bj [1,3] 72 (fun y=>∃q:Bool,y= .p (.bool q)∧(q=false→Dg x.type≤400)) ?_ ?_))))
  ·refine Ax (Ar O (A3 EO O O) (Ar O (A6 (i:=0) Oe O O (DE _)) (CA O (Ar O (BC Md O O An (IB hx) (Fg _)) (Ar O (DS QK O O) (Ar O (I9 S3 O (Im _)) (Ar O (Fc dX O) (A0 Az 2 [] O (BS 63 O (fun g=>?_) (fun g=>?_))))))))))
   ·(try simp only[sd,se] at g);exact Aq Az 9 [] O (⟨O,O,AK,(by refine⟨_,rfl,fun h=>?_⟩;first | (exact absurd h Am) | (simp_all;done) | (simp_all;omega)),⟨O,O,Ap⟩⟩)
   (try simp only[sd,se] at g);exact BK O (A3 EO O O) (BK O (A6 (i:=0) Oe O O (DE _)) (BK O (Bm O) (BK O (BC Md O O An (IB hx) (Fg _)) (BK O (DS QK O O) (BK O (Gf Bx O (G3 _) (BF _)) (BK O (BB O O (GO x.type (h1.cs _ (List.mem_of_getElem? hx)).ty) O) (Aq Az 2 [] O (⟨O,O,AK,(by refine⟨_,rfl,fun h=>?_⟩;first | (exact absurd h Am) | (simp_all;done) | (simp_all;omega)),⟨O,O,Ap⟩⟩))))))))
  rintro _ ⟨q,rfl,hqx⟩;refine A2 O (fun c2=>?_) (fun c2=>?_)
  ·(try simp only[sd,se] at c2);refine Au Az 1 [] O (A4 (⟨O,_,_,⟨_,_,O,O,O⟩,(List.nil_sublist _),?_⟩))
   all_goals exact⟨⟨_,rfl,fun h=>absurd h Am⟩,rfl⟩
  (try simp only[sd,se] at c2);have hok:=hqx (by simpa using c2);refine A5 (Ax (Aq Az 3 [] O (⟨(i+1),AQ,⟨by omega,GN (p:=fun _ (y:HZ)=>Dg y.type≤400) hT hx hok⟩,BZ ⟨we rfl,we rfl,trivial⟩ (leH (is:=[0]) rfl (wl (oe rfl) (DF)))⟩)))
 (try simp only[sd,se] at c1);refine Bk (As (Au Az 1 [] O (BA (Bh (α:=Nat) (fun i=>⟨124,mk [(1,.ptr b1 0),(4,.p (I (i:Int)))],[.box b1 ((D9 d).map .p)],[]⟩) (fun i=>d.recs.rules.length - i) (fun i=>i≤d.recs.rules.length) 0 AO ?_ ?_))))
 ·exact BZ ⟨we O,we O,Ap⟩ (leH (is:=[0]) O (wl (oe O) (DF)))
 rintro i hC1
 try simp only at hC1
 have hi:=hC1;refine As (Ay (A0 Az 3 [] O (Ar O (A6 (i:=0) DD O O (FQ _)) (Ar O (BH BY O (BD _)) (Aq Az 1 [] O (A2 O (fun c2=>?_) (fun c2=>?_)))))))
 ·(try simp only[sd,se] at c2);refine A5 (As (BA (Ay (A0 Az 2 [] O (Ar O (A6 (i:=0) DD O O (FQ _)) (CA O ?_))))));obtain⟨x,hx⟩:=A9 (l:=d.recs.rules) (i:=i) An;refine Ar O (BC BY O O An (B0 hx) (BF _)) (Ar O (Bg Bx O (BF _)) (Ar O (BB O O (GO x (h1.rs _ (List.mem_of_getElem? hx))) O) (Aq Az 1 [] O (A2 O (fun c3=>?_) (fun c3=>?_)))))
  ·(try simp only[sd,se] at c3);refine Au Az 1 [] O (A4 (⟨O,_,_,⟨_,_,O,O,O⟩,(List.nil_sublist _),?_⟩))
   all_goals exact⟨⟨_,rfl,fun h=>absurd h Am⟩,rfl⟩
  (try simp only[sd,se] at c3);refine A5 (Ax (Aq Az 3 [] O ?_));refine⟨(i+1),AQ,by omega,BZ ⟨we rfl,we rfl,trivial⟩ (leH (is:=[0]) rfl (wl (oe rfl) (DF)))⟩
 (try simp only[sd,se] at c2);refine Bk (As (Au Az 1 [] O (BA (Bh (α:=Nat) (fun i=>⟨124,mk [(1,.ptr b1 0),(5,.p (I (i:Int)))],[.box b1 ((D9 d).map .p)],[]⟩) (fun i=>d.funs.length - i) (fun i=>i≤d.funs.length) 0 AO ?_ ?_))))
 ·exact BZ ⟨we O,we O,Ap⟩ (leH (is:=[0]) O (wl (oe O) (DF)))
 rintro i hC2
 try simp only at hC2
 have hi:=hC2;refine As (Ay (A0 Az 2 [] O (Ar O (A6 (i:=0) YI O O (F5 _)) (Ar O (BH YA O (List.length_map _)) (Aq Az 1 [] O (A2 O (fun c3=>?_) (fun c3=>?_)))))))
 ·(try simp only[sd,se] at c3);obtain⟨x,hx⟩:=A9 (l:=d.funs) (i:=i) An;refine A5 (As (BA (As (Bj [1,5] 123 J5 ?_ ?_))))
  ·refine Ax (Ar O (A3 EO O O) (Ar O (A6 (i:=0) YI O O (F5 _)) (CA O (Ar O (BC YA O O An (OV hx) (Kt _)) (Ar O (DS XZ O O) (Ar O (I9 S3 O (Ql _)) (Ar O (Fc dX O) (A0 Az 2 [] O (BS 104 O (fun g=>?_) (fun g=>?_))))))))))
   ·(try simp only[sd,se] at g);exact Aq Az 19 [] O (⟨O,O,AK,⟨_,O⟩,⟨O,O,Ap⟩⟩)
   (try simp only[sd,se] at g);refine BK O (A3 EO O O) (BK O (A6 (i:=0) YI O O (F5 _)) (BK O (Bm O) (BK O (BC YA O O An (OV hx) (Kt _)) (BK O (DS XZ O O) (BK O (Gf Bx O (Qv _) (BF _)) (BK O (BB O O (GO x.type (h1.fs _ (List.mem_of_getElem? hx)).ty) O) (A0 Az 3 [] O (BS 114 O (fun g1=>?_) (fun g1=>?_)))))))))
   ·(try simp only[sd,se] at g1);exact Aq Az 9 [] O (⟨O,O,AK,⟨_,O⟩,⟨O,O,Ap⟩⟩)
   (try simp only[sd,se] at g1);refine BK O (A3 EO O O) (BK O (A6 (i:=0) YI O O (F5 _)) (BK O (Bm O) (BK O (BC YA O O An (OV hx) (Kt _)) (BK O (DS XZ O O) (BK O (Gf bJ O (Qw _) (HB _)) (LM O O O O (Dl O O (OZ (MB x.tree) x.tree 0 (Nat.le_refl _) (h1.fs _ (List.mem_of_getElem? hx)).tr An) (.inl O)) ?_))))));rintro _ ⟨q1,rfl⟩;exact Aq Az 2 [] O (⟨O,O,AK,⟨_,O⟩,⟨O,O,Ap⟩⟩)
  rintro _ ⟨q1,rfl⟩;refine A2 O (fun c4=>?_) (fun c4=>?_)
  ·(try simp only[sd,se] at c4);refine Au Az 1 [] O (A4 (⟨O,_,_,⟨_,_,O,O,O⟩,(List.nil_sublist _),?_⟩))
   all_goals exact⟨⟨_,rfl,fun h=>absurd h Am⟩,rfl⟩
  (try simp only[sd,se] at c4);refine A5 (Ax (Aq Az 3 [] O ?_));refine⟨(i+1),AQ,by omega,BZ ⟨we rfl,we rfl,trivial⟩ (leH (is:=[0]) rfl (wl (oe rfl) (DF)))⟩
 (try simp only[sd,se] at c3);refine Bk (Au Az 1 [] O (A4 (⟨O,_,_,⟨_,_,O,O,O⟩,(List.nil_sublist _),?_⟩)))
 all_goals exact⟨⟨_,rfl,fun _=>⟨hq1.1,hq1.2,T5 An hT⟩⟩,rfl⟩
theorem PA:∀(t:Tm) (vars params metas levels:Int),(Re t)→Lj Tryz.prog 14 [.agg ((Bc t).map .p),.p (I vars),.p (I params),.p (I metas),.p (I levels)] (fun v=>∃ee:Int,v= .p (I ee)∧(ee=0→wf (max vars 0) metas 0 t∧Cw t)):=by
 intro t vars params metas levels h1;refine A1 Tryz.func14 O kW (n:=28) O O (Ay (BE O (BT O) fun b5=>Aq Az 1 [] O (As (Ay (A0 Az 2 [0] O (Ar O (QP O O) (A0 Az 3 [] O (I6 O O (Dl O O (aC (size t) t 0 (max (vars:Int) (0:Int)) params metas levels (Nat.le_refl _) h1.nd An (by have:=h1.sz;simp only[Cb];omega)) (.inl O)) ?_))))))));rintro _ ⟨e,rfl,he⟩;refine Aq Az 1 [] O (Au Az 2 [] O (A2 O (fun c=>?_) (fun c=>?_)))
 ·(try simp only[sd,se] at c);refine Au Az 2 [] O (A4 (⟨O,_,_,⟨_,_,O,O,O⟩,(List.nil_sublist _),?_⟩))
  all_goals exact⟨⟨_,rfl,fun h=>absurd h Aj⟩,rfl⟩
 (try simp only[sd,se] at c);refine A5 (As (Ay (Ar O (BR (i:=0) Bx O O Ad) (Ar O (BB O O (Tu _ t (Nat.le_refl _) h1.nd) O) (Aq Az 1 [] O (A2 O (fun c1=>?_) (fun c1=>?_)))))))
 ·(try simp only[sd,se] at c1);refine Au Az 1 [] O (A4 (⟨O,_,_,⟨_,_,O,O,O⟩,(List.nil_sublist _),?_⟩))
  all_goals exact⟨⟨_,rfl,fun h=>absurd h Am⟩,rfl⟩
 (try simp only[sd,se] at c1);refine A5 (As (Ay (Ar O (BR (i:=0) Bx O O Ad) (Ar O (BB O O (SA _ t (Nat.le_refl _) h1.nd) O) (Aq Az 1 [] O (A2 O (fun c2=>?_) (fun c2=>?_)))))))
 ·(try simp only[sd,se] at c2);refine Au Az 1 [] O (A4 (⟨O,_,_,⟨_,_,O,O,O⟩,(List.nil_sublist _),?_⟩))
  all_goals exact⟨⟨_,rfl,fun h=>absurd h Am⟩,rfl⟩
 (try simp only[sd,se] at c2);refine A5 (Au Az 1 [] O (A4 (⟨O,_,_,⟨_,_,O,O,O⟩,(List.nil_sublist _),?_⟩)))
 all_goals exact⟨⟨_,rfl,fun _=>he An⟩,rfl⟩
theorem S5:∀(d:Ck),(XR d)→Lj Tryz.prog 21 [.agg ((D9 d).map .p)] (fun v=>∃bb:Bool,v= .p (.bool bb)∧(bb=true→(0≤d.params∧d.params≤8)∧(wf 0 0 0 d.type∧Cw d.type)∧d.ctors.length≤32∧∀c∈d.ctors,wf 0 0 0 c.type∧Cw c.type)):=by
 intro d h1;have hcl:=h1.cl;refine A1 Tryz.func21 O lB (n:=43) O O (Ay (BE O (BT O) fun b1=>Aq Az 1 [] O (As (As (Bj [1] 25 (fun y=>∃q:Bool,y= .p (.bool q)∧(q=false→(0≤d.params∧d.params≤8)∧(wf 0 0 0 d.type∧Cw d.type)∧d.ctors.length≤32)) ?_ ?_)))))
 ·refine Ax (Ar O (A3 EO O O) (Ar O (A6 (i:=0) Hd O O (Dk _)) (A0 Az 2 [] O (BS 7 O (fun g=>?_) (fun g=>?_)))))
  ·(try simp only[sd,se] at g);refine Aq Az 18 [] O ?_;exact⟨O,O,AK,(by refine⟨_,rfl,fun h=>?_⟩;first | (exact absurd h Am) | (simp_all;omega) | exact⟨by simp_all,he Al,by simp_all⟩),⟨O,Ap⟩⟩
  (try simp only[sd,se] at g);refine BK O (A3 EO O O) (BK O (A6 (i:=0) Hd O O (Dk _)) (A0 Az 3 [] O (BS 12 O (fun g1=>?_) (fun g1=>?_))))
  ·(try simp only[sd,se] at g1);refine Aq Az 13 [] O ?_;exact⟨O,O,AK,(by refine⟨_,rfl,fun h=>?_⟩;first | (exact absurd h Am) | (simp_all;omega) | exact⟨by simp_all,he Al,by simp_all⟩),⟨O,Ap⟩⟩
  (try simp only[sd,se] at g1);refine BK O (A3 EO O O) (BK O (DW (i:=0) Bx O O (Gz _) (BF _)) (BK O (A3 EO O O) (BK O (A6 (i:=0) Hd O O (Dk _)) (LM O O O O (Dl O O (PA d.type 0 d.params 0 0 h1.ty) (.inl O)) ?_))));rintro _ ⟨e,rfl,he⟩;refine A0 Az 3 [] O (BS 20 O (fun g2=>?_) (fun g2=>?_))
  ·(try simp only[sd,se] at g2);refine Aq Az 5 [] O ?_;exact⟨O,O,AK,(by refine⟨_,rfl,fun h=>?_⟩;first | (exact absurd h Am) | (simp_all;omega) | exact⟨by simp_all,he Al,by simp_all⟩),⟨O,Ap⟩⟩
  (try simp only[sd,se] at g2);refine BK O (A3 EO O O) (BK O (A6 (i:=0) Oe O O (DE _)) (BK O (BH Md O (List.length_map _)) (Aq Az 2 [] O ?_)));exact⟨O,O,AK,(by refine⟨_,rfl,fun h=>?_⟩;first | (exact absurd h Am) | (simp_all;omega) | exact⟨by simp_all,he Al,by simp_all⟩),⟨O,Ap⟩⟩
 rintro _ ⟨q,rfl,hq⟩;refine A2 O (fun c=>?_) (fun c=>?_)
 ·(try simp only[sd,se] at c);refine Au Az 1 [] O (A4 (⟨O,_,_,⟨_,_,O,O,O⟩,(List.nil_sublist _),?_⟩))
  all_goals exact⟨⟨_,rfl,fun h=>absurd h Am⟩,rfl⟩
 (try simp only[sd,se] at c);have hq1:=hq (by simpa using c);refine A5 (As (Au Az 1 [] O (BA ?_)));refine Bh (α:=Nat) (fun i=>⟨43,mk [(1,.ptr b1 0),(3,.p (I (i:Int)))],[.box b1 ((D9 d).map .p)],[]⟩) (fun i=>d.ctors.length - i) (fun i=>i≤d.ctors.length∧(∀j,j<i→∀x,d.ctors[j]?=some x→wf 0 0 0 x.type∧Cw x.type)) 0 (⟨by omega,fun j h=>by omega⟩) ?_ ?_
 ·exact BZ ⟨we O,we O,Ap⟩ (leH (is:=[0]) O (wl (oe O) (DF)))
 rintro i hC
 try simp only at hC
 obtain⟨hi,hT⟩:=hC;refine As (Ay (A0 Az 2 [] O (Ar O (A6 (i:=0) Oe O O (DE _)) (Ar O (BH Md O (List.length_map _)) (Aq Az 1 [] O (A2 O (fun c1=>?_) (fun c1=>?_)))))))
 ·(try simp only[sd,se] at c1);refine A5 (As (BA (As (CK (fun k=>Nat.beq k 8) Eb (BG O (fun _=>A3 EO O O) Ap (Cj (j:=0) O O O (fun H i hi=>A6 (i:=i) Oe O hi (DE _)) AB Ap (BG O (fun _=>Bm O) Ap ?_)))))));obtain⟨x,hx⟩:=A9 (l:=d.ctors) (i:=i) An;refine BG O (fun _=>BC Md O O An (IB hx) (Fg _)) Ap (BG O (fun _=>DS QK O O) Ap (BG O (fun _=>Gf Bx O (G3 _) (BF _)) Ap (BG O (fun _=>A3 EO O O) Ap (Cj (j:=0) O O O (fun H i hi=>A6 (i:=i) Hd O hi (Dk _)) AB Ap (WE [] O O (Dl O O (PA x.type 0 d.params 0 0 (h1.cs _ (List.mem_of_getElem? hx)).ty) (.inl O)) Ai (⟨_,1,O,fun h=>absurd h Am⟩) AB ?_)))));rintro _ ⟨e,rfl,he⟩;refine⟨Ap,?_⟩;refine CE Az 1 [] O (A2 O (fun c2=>?_) (fun c2=>?_))
  ·(try simp only[sd,se] at c2);refine Au Az 1 [] O (A4 (⟨O,_,_,⟨_,_,O,O,O⟩,(List.nil_sublist _),?_⟩))
   all_goals exact⟨⟨_,rfl,fun h=>absurd h Am⟩,rfl⟩
  (try simp only[sd,se] at c2);have hok:=he An;refine A5 (Ax (Aq Az 3 [] O (⟨(i+1),AQ,⟨by omega,GN (p:=fun _ (y:HZ)=>wf 0 0 0 y.type∧Cw y.type) hT hx hok⟩,BZ ⟨we rfl,we rfl,trivial⟩ (leH (is:=[0]) rfl (wl (oe rfl) (DF)))⟩)))
 (try simp only[sd,se] at c1);refine Bk (Au Az 1 [] O (A4 (⟨O,_,_,⟨_,_,O,O,O⟩,(List.nil_sublist _),?_⟩)))
 all_goals exact⟨⟨_,rfl,fun _=>⟨hq1.1,hq1.2.1,hq1.2.2,T5 An hT⟩⟩,rfl⟩
theorem _root_.Go.Ae {α:Prop}(h:α:=by simp[OT]):α:=h
theorem ZS:∀(d:Ck),(XR d)→Lj Tryz.prog 5 [.agg ((D9 d).map .p)] (fun v=>∃bb:Bool,v= .p (.bool bb)∧(bb=true→(d.name.size≤200∧Dg d.type≤400∧∀c∈d.ctors,Dg c.type≤400)∧((0≤d.params∧d.params≤8)∧(wf 0 0 0 d.type∧Cw d.type)∧d.ctors.length≤32∧∀c∈d.ctors,wf 0 0 0 c.type∧Cw c.type))):=by
 intro d h1;refine A1 Tryz.func5 O oB (n:=14) O O (Ay (BE O (BT O) fun b1=>Aq Az 1 [] O (As (Bj [] 2 (fun y=>∃q:Bool,y= .p (.bool q)∧(q=true→(d.name.size≤200∧Dg d.type≤400∧∀c∈d.ctors,Dg c.type≤400)∧((0≤d.params∧d.params≤8)∧(wf 0 0 0 d.type∧Cw d.type)∧d.ctors.length≤32∧∀c∈d.ctors,wf 0 0 0 c.type∧Cw c.type))) ?_ ?_))))
 ·refine Ax (Ar O (BR (i:=0) Ru O O Ae) (I6 O O (Dl O O (SB d h1) (.inl O)) ?_));rintro _ ⟨q,rfl,hq⟩;refine CA O (BS 5 O (fun g=>?_) (fun g=>?_))
  ·(try simp only[sd,se] at g);refine BK O (BR (i:=0) Ru O O Ae) (LM O O O O (Dl O O (S5 d h1) (.inl O)) ?_);rintro _ ⟨q1,rfl,hq1⟩;refine A0 Az 2 [] O (BS 9 O (fun g1=>?_) (fun g1=>?_))
   ·(try simp only[sd,se] at g1);refine BK O (A3 EO O O) (BK O (A6 (i:=0) S3 O O (F4 _)) (LM O O O O (Dl O O (XJ d.name (by have:=h1.nm;simp only[Cb];omega)) (.inl O)) ?_));rintro _ ⟨q2,rfl⟩;exact Aq Az 2 [] O (⟨O,O,AK,(by refine⟨_,rfl,fun h=>?_⟩;first | (exact absurd h Am) | exact⟨hq Al,hq1 Al⟩ | exact⟨hq Aj,hq1 Aj⟩),Ap⟩)
   (try simp only[sd,se] at g1);exact Aq Az 5 [] O (⟨O,O,AK,(by refine⟨_,rfl,fun h=>?_⟩;first | (exact absurd h Am) | exact⟨hq Al,hq1 Al⟩ | exact⟨hq Aj,hq1 Aj⟩),Ap⟩)
  (try simp only[sd,se] at g);exact Aq Az 9 [] O (⟨O,O,AK,(by refine⟨_,rfl,fun h=>?_⟩;first | (exact absurd h Am) | exact⟨hq Al,hq1 Al⟩ | exact⟨hq Aj,hq1 Aj⟩),Ap⟩)
 rintro _ ⟨q,rfl,hq⟩;refine A4 (⟨O,_,_,⟨_,_,O,O,O⟩,(List.nil_sublist _),?_⟩)
 all_goals exact⟨⟨_,rfl,hq⟩,rfl⟩
theorem EB:∀(i:Int),D3 Tryz.prog 28 [.p (I i)] (.agg ((Bc (BP i)).map .p)):=by
 intro i;refine A1 Tryz.func28 O kU (n:=5) O O (Ay (BE O (A7 Bq O) fun b2=>Bo O (Au Az 3 [0,0] O (BU (CB (i:=0) O) (A4 (⟨O,_,_,⟨_,_,O,(BO (i:=0) Bx O O O),O⟩,(List.nil_sublist _),?_⟩))))))
 all_goals exact⟨rfl,rfl⟩
theorem JW:∀(s:ByteArray) (l:List CN),D3 Tryz.prog 25 [.p (.str s),.p (.lst (List.map B6 l))] (.agg ((Bc (.mk 3 0 s l [])).map .p)):=by
 intro s l;refine A1 Tryz.func25 O lV (n:=8) O O (Ay (BE O (A7 Bq O) fun b4=>Bo O (Au Az 4 [0,0] O (BU (CB (i:=0) O) (A4 (⟨O,_,_,⟨_,_,O,(BO (i:=0) Bx O O O),O⟩,(List.nil_sublist _),?_⟩))))))
 all_goals exact⟨rfl,rfl⟩
theorem LJ:∀(a b:Tm),D3 Tryz.prog 26 [.agg ((Bc a).map .p),.agg ((Bc b).map .p)] (.agg ((Bc (.mk 6 0 ⟨#[]⟩ [] [a,b])).map .p)):=by
 intro a b;refine A1 Tryz.func26 O kf (n:=9) O O (Ay (BE O (BT O) fun b2=>BE O (BT O) fun b3=>BE O (A7 Bq O) fun b4=>Bo O (Ay (A0 Az 2 [2,1] O (Ar O (Ba (rows:=Av [a,b]) BY Bq O O O O (By (Bn _)) (ED _)) (Aq Az 2 [0,0] O (BU (CB (i:=0) O) (A4 (⟨O,_,_,⟨_,_,O,(BO (i:=0) Bx O O O),O⟩,(List.nil_sublist _),?_⟩)))))))))
 all_goals exact⟨rfl,rfl⟩
theorem HV:∀(f:Tm) (xs:List Tm),(xs.length<Cb)→D3 Tryz.prog 27 [.agg ((Bc f).map .p),.p (.lst (Av xs))] (.agg ((Bc (apply f xs)).map .p)):=by
 intro f xs h1;refine A1 Tryz.func27 O jr (n:=8) O O (Ay (BE O (BT O) fun b2=>BE O (A7 Bq O) fun b4=>Bo O (Ay (A0 Az 2 [1] O (Ar O (BB O O (FF f xs h1) O) (Aq Az 1 [0,1] O (A4 (⟨O,_,_,⟨_,_,O,(BO (i:=0) Bx O O Ad),O⟩,(List.nil_sublist _),?_⟩))))))))
 all_goals exact⟨rfl,rfl⟩
theorem Z7:∀(b:Nat) (o:Option Nat) (c:Nat) (tel:List Tm) (xs:List Tm) (t:Tm) (brc bh bfi:Nat) (rc:Tm) (fl:List Int),(tel.length≤100000)→(∀p∈fl,-1000000≤p∧p≤1000000)→(fl.length≤1000000)→(xs.length≤1000000)→Br Tryz.prog 117 [.p (.lst (Av xs)),.agg ((Bc t).map .p),.ptr brc 0,.ptr bh 0,.ptr bfi 0] [.box b [.vs o (Av tel).length c],.vec o 5 (Av tel) c,.box brc ((Bc rc).map .p),.box bh [.ptr b 0],.box bfi [.p (.lst (List.map CG fl))]] (FV (.agg ((Bc (apply (apply (apply rc (Bt (tel.length:Nat) fl)) xs) [t])).map .p)) [.box b [.vs o (Av tel).length c],.vec o 5 (Av tel) c,.box brc ((Bc rc).map .p),.box bh [.ptr b 0],.box bfi [.p (.lst (List.map CG fl))]]):=by
 intro b o c tel xs t brc bh bfi rc fl h1 h2 h3 h4;refine A1 Tryz.func117 O gu (n:=20) O O (Ay (BE O (BT O) fun b6=>BE O (A7 Bq O) fun b7=>Bo O (As (D8 [.val (.agg ((Bc rc).map .p)),.val (.ptr b 0),.val (.p (.lst (List.map CG fl))),.val (.p (.lst (Av (Bt (tel.length:Nat) fl)))),.val (.agg ((Bc (apply rc (Bt (tel.length:Nat) fl))).map .p)),.new [.p (I 0),.p (I 0),.p (.str ⟨#[]⟩),.p (.nils),.p (.nils)]] Eb O Ai Ai (BN O (fun Bs=>BR (i:=Bs.length+4) Bx O (CL O) Ad) (BN O (fun Bs=>CJ (i:=Bs.length+5) lU O (CL O) O) (BN O (fun Bs=>CJ (i:=Bs.length+6) cU O (CL O) O) (BN O (fun Bs=>JM [2,3] O (.inl ⟨O,O,O⟩) (IW b o c tel fl h1 h2 h3) ⟨_,_,O,O,⟨_,_,O,O,O⟩⟩ Am (aw (we O) (aw (we O) (FE)))) ?_))))))));refine BN O (fun Bs=>BB O O (Dz rc (Bt (tel.length:Nat) fl) (by simp only[Cb,Bt,List.length_map];omega)) O) (FB O (fun Bs=>A7 Bq O) fun b8=>FD ?_)
 change AL _ _ _ 6 ⟨20,_,[.box b8 [.p (I 0),.p (I 0),.p (.str ⟨#[]⟩),.p (.nils),.p (.nils)],.box b7 [.p (I 0),.p (I 0),.p (.str ⟨#[]⟩),.p (.nils),.p (.nils)],.box b6 ((Bc t).map .p),.box b [.vs o (Av tel).length c],.vec o 5 (Av tel) c,.box brc ((Bc rc).map .p),.box bh [.ptr b 0],.box bfi [.p (.lst (List.map CG fl))]],[]⟩ _
 refine Aq Az 1 [0,1] O (As (CK (fun k=>false) Eb (Bf Az 2 [0] O (BG O (fun _=>BB O O (Dz (apply rc (Bt (tel.length:Nat) fl)) xs AW) O) Ap (Bf Az 1 [2] O (BG O (fun _=>Ba (rows:=Av [t]) BY Bq O O O O (By (Bn _)) (ED _)) Ap ?_))))));refine BG O (fun _=>BB O O (Dz (apply (apply rc (Bt (tel.length:Nat) fl)) xs) [t] (show (1:Nat)<Cb by decide)) rfl) trivial ?_;refine CE Az 1 [1,1] O (A4 (⟨O,_,_,⟨_,_,O,(BO (i:=1) Bx O O Ad),O⟩,(Dn (is:=[3,4,5,6,7]) O),?_⟩))
 all_goals exact⟨rfl,rfl⟩
theorem Z0:∀(b:Nat) (o:Option Nat) (c:Nat) (tel:List Tm) (bf br bi brc bfi:Nat) (f:Fam) (r:Rfl) (pl:List Int) (rc:Tm) (fl:List Int) (F:Nat) (x:Int),(tel.length≤50000)→(f.params.length≤1000)→(cg r)→(∀p∈pl,-1000000≤p∧p≤1000000)→(pl.length≤50000)→(((f.params.length:Nat)+r.field:Int).toNat=F)→(pl[F]?=some x)→(∀p∈fl,-1000000≤p∧p≤1000000)→(fl.length≤1000000)→Br Tryz.prog 116 [.ptr b 0,.ptr bf 0,.ptr br 0,.ptr bi 0,.ptr brc 0,.ptr bfi 0] [.box b [.vs o (Av tel).length c],.vec o 5 (Av tel) c,.box bf ((Bu f).map .p),.box br ((Cu r).map .p),.box bi [.p (.lst (List.map CG pl))],.box brc ((Bc rc).map .p),.box bfi [.p (.lst (List.map CG fl))]] (fun w H'=>∃o2 c2,w= .val (TV (apply (apply (apply rc (Bt ((tel++(Aw (tel.length:Nat) (pl.take F) r.args).1).length:Nat) fl)) (CW ((tel++(Aw (tel.length:Nat) (pl.take F) r.args).1).length:Nat) (Aw (tel.length:Nat) (pl.take F) r.args).2 r.results)) [(apply (Ei ((tel++(Aw (tel.length:Nat) (pl.take F) r.args).1).length:Nat) x) (Bt ((tel++(Aw (tel.length:Nat) (pl.take F) r.args).1).length:Nat) ((Aw (tel.length:Nat) (pl.take F) r.args).2.drop F)))]))∧H'=[.box b [.vs o2 (Av (tel++(Aw (tel.length:Nat) (pl.take F) r.args).1)).length c2],.vec o2 5 (Av (tel++(Aw (tel.length:Nat) (pl.take F) r.args).1)) c2,.box bf ((Bu f).map .p),.box br ((Cu r).map .p),.box bi [.p (.lst (pl.map CG))],.box brc ((Bc rc).map .p),.box bfi [.p (.lst (fl.map CG))]]):=by
 intro b o c tel bf br bi brc bfi f r pl rc fl F x h1 h2 h3 h4 h5 h6 h7 h8 h9;refine A1 Tryz.func116 O gD (n:=14) O O (Ay (BE O (BT O) fun b6=>BE O (A7 Bq O) fun b7=>Bo O (Ay (Ar O (BR (i:=4) Gc O O AZ) (Ar O (BR (i:=5) TY O O (by simp[Dw])) (A0 Az 3 [6,1] O ?_))))));refine Gg [2,3,7,1,8] O O O (.inl ⟨O,O,O⟩) (Uq 117 [.ptr brc 0,.ptr b6 0,.ptr bfi 0] b o c tel f r pl x (apply (apply (apply rc (Bt ((tel++(Aw (tel.length:Nat) (pl.take F) r.args).1).length:Nat) fl)) (CW ((tel++(Aw (tel.length:Nat) (pl.take F) r.args).1).length:Nat) (Aw (tel.length:Nat) (pl.take F) r.args).2 r.results)) [(apply (Ei ((tel++(Aw (tel.length:Nat) (pl.take F) r.args).1).length:Nat) x) (Bt ((tel++(Aw (tel.length:Nat) (pl.take F) r.args).1).length:Nat) ((Aw (tel.length:Nat) (pl.take F) r.args).2.drop F)))]) [.box brc ((Bc rc).map .p),.box b6 [.ptr b 0],.box bfi [.p (.lst (List.map CG fl))]] F h6 h1 h2 h3.lo h4 h5 h7 h3.na h3.va h3.sa h3.la h3.nr h3.vr h3.sr h3.lr (fun o' c'=>Z7 b o' c' (tel++(Aw (tel.length:Nat) (pl.take F) r.args).1) (CW ((tel++(Aw (tel.length:Nat) (pl.take F) r.args).1).length:Nat) (Aw (tel.length:Nat) (pl.take F) r.args).2 r.results) (apply (Ei ((tel++(Aw (tel.length:Nat) (pl.take F) r.args).1).length:Nat) x) (Bt ((tel++(Aw (tel.length:Nat) (pl.take F) r.args).1).length:Nat) ((Aw (tel.length:Nat) (pl.take F) r.args).2.drop F))) brc b6 bfi rc fl (by rw[List.length_append,(Bd _).1];have:=h3.la;omega) h8 h9 (by have:=h3.lr;simp only[CW,List.length_map];omega))) ⟨_,_,O,O,⟨_,_,O,O,⟨_,_,O,O,⟨_,_,O,O,⟨_,_,O,O,O⟩⟩⟩⟩⟩ Am (CQ _) ?_ (fun _ _ ⟨_,_,h,_⟩=>by cases h);rintro _ _ ⟨on,cn,h,rfl⟩;cases h;refine⟨O,?_⟩;refine Aq Az 1 [0,1] O (A4 (⟨O,_,_,⟨_,_,O,(BO (i:=0) Bx O O Ad),O⟩,(Dn (is:=[2,3,4,5,6,7,8]) O),?_⟩))
 all_goals exact⟨_,_,rfl,rfl⟩
theorem VE:∀(b:Nat) (o:Option Nat) (c:Nat) (tel:List Tm) (bf br bi brc bfi:Nat) (f:Fam) (r:Rfl) (pl:List Int) (rc:Tm) (fl:List Int) (F:Nat) (x:Int),(tel.length≤50000)→(f.params.length≤1000)→(cg r)→(∀p∈pl,-1000000≤p∧p≤1000000)→(pl.length≤50000)→(((f.params.length:Nat)+r.field:Int).toNat=F)→(pl[F]?=some x)→(∀p∈fl,-1000000≤p∧p≤1000000)→(fl.length≤1000000)→Br Tryz.prog 114 [.ptr b 0,.fn (.func 116) [] [.ptr bf 0,.ptr br 0,.ptr bi 0,.ptr brc 0,.ptr bfi 0]] [.box b [.vs o (Av tel).length c],.vec o 5 (Av tel) c,.box bf ((Bu f).map .p),.box br ((Cu r).map .p),.box bi [.p (.lst (List.map CG pl))],.box brc ((Bc rc).map .p),.box bfi [.p (.lst (List.map CG fl))]] (FV (.tup [.p (.lst (Av ((Aw (tel.length:Nat) (pl.take F) r.args).1))),.agg ((Bc (apply (apply (apply rc (Bt ((tel++(Aw (tel.length:Nat) (pl.take F) r.args).1).length:Nat) fl)) (CW ((tel++(Aw (tel.length:Nat) (pl.take F) r.args).1).length:Nat) (Aw (tel.length:Nat) (pl.take F) r.args).2 r.results)) [(apply (Ei ((tel++(Aw (tel.length:Nat) (pl.take F) r.args).1).length:Nat) x) (Bt ((tel++(Aw (tel.length:Nat) (pl.take F) r.args).1).length:Nat) ((Aw (tel.length:Nat) (pl.take F) r.args).2.drop F)))])).map .p)]) [.box b [.vs o (Av tel).length c],.vec o 5 (Av tel) c,.box bf ((Bu f).map .p),.box br ((Cu r).map .p),.box bi [.p (.lst (List.map CG pl))],.box brc ((Bc rc).map .p),.box bfi [.p (.lst (List.map CG fl))]]):=fun b o c tel bf br bi brc bfi f r pl rc fl F x h1 h2 h3 h4 h5 h6 h7 h8 h9=>O7 116 [.ptr bf 0,.ptr br 0,.ptr bi 0,.ptr brc 0,.ptr bfi 0] b o c tel (Aw (tel.length:Nat) (pl.take F) r.args).1 (apply (apply (apply rc (Bt ((tel++(Aw (tel.length:Nat) (pl.take F) r.args).1).length:Nat) fl)) (CW ((tel++(Aw (tel.length:Nat) (pl.take F) r.args).1).length:Nat) (Aw (tel.length:Nat) (pl.take F) r.args).2 r.results)) [(apply (Ei ((tel++(Aw (tel.length:Nat) (pl.take F) r.args).1).length:Nat) x) (Bt ((tel++(Aw (tel.length:Nat) (pl.take F) r.args).1).length:Nat) ((Aw (tel.length:Nat) (pl.take F) r.args).2.drop F)))]) [.box bf ((Bu f).map .p),.box br ((Cu r).map .p),.box bi [.p (.lst (pl.map CG))],.box brc ((Bc rc).map .p),.box bfi [.p (.lst (fl.map CG))]] An (fun b' o' c'=>Z0 b' o' c' tel bf br bi brc bfi f r pl rc fl F x h1 h2 h3 h4 h5 h6 h7 h8 h9)
theorem Qz:∀(xs:List Tm) (t:Tm),(D7 xs)→(xs.length<Cb)→D3 Tryz.prog 76 [.p (.lst (Av xs)),.agg ((Bc t).map .p)] (.agg ((Bc (Bw 5 xs t)).map .p)):=by
 intro xs t h1 h2;refine A1 Tryz.func76 O jX (n:=9) O O (Ay (BE O (BT O) fun b3=>BE O (A7 Bq O) fun b4=>Bo O (As (CK (fun k=>Nat.beq k 0) Eb (QD [(1,.free (.p (.lst (Av xs)))),(2,.read [.box b3 ((Bc t).map .p)] (.agg ((Bc t).map .p)))] O O O (.inl ⟨O,O,O⟩) (Xg 5) (.inl O) Ai fun bn=>⟨AB,Ap,?_⟩)))));refine Bf Az 2 [2] O (Jc O O (Cg [0] O (.inr O) (Ua xs t bn 5 h1 h2) ⟨_,_,O,O,O⟩ Am O (.inl O)) AB AM (CE Az 1 [1,1] O (A4 (⟨O,_,_,⟨_,_,O,(BO (i:=1) Bx O O Ad),O⟩,(List.nil_sublist _),?_⟩))))
 all_goals exact⟨rfl,rfl⟩
end Go.Proofs.YtifphifongokcaaGreat
namespace Go.Eu
open Go.Abs
structure fS (k:E6):Prop where
 f:D7 k.fields
 r:D7 k.results
 rs:∀x∈k.recs,D7 x.args∧D7 x.results
 nm:k.name.size<Cb
theorem V8 {own:Tm}{params:List Tm}{ni:Nat}{t:Tm}{last:Int}{l:List Tm}(h:Da own params ni t last=some l) (ht:Nd t):D7 l:=by
 unfold Da at h;split at h
 ·injection h with h;subst h;exact HX (Kp t ht).2 _
 cases h
theorem Th {own:Tm}{params:List Tm}{ni:Nat}:∀(l:List Tm) (i:Nat),D7 l→∀r∈FC own params ni i l,D7 r.args∧D7 r.results
 | [],i,_,r,hr=>by simp[FC] at hr
 | t::ts,i,h,r,hr=>by
  obtain⟨a1,a2⟩:=G4 h.1;unfold FC at hr;split at hr
  ·exact Th ts (i+1) h.2 r hr
  rename_i l hl;rcases List.mem_cons.1 hr with rfl | hr
  ·exact⟨a2,V8 hl a1⟩
  exact Th ts (i+1) h.2 r hr
theorem Y4 {own:Tm}{params:List Tm}{ni:Nat}{c:HZ}{x:E6}(h:Dc own params ni c=some x) (hc:Nd c.type) (hn:c.name.size<Cb):fS x:=by
 unfold Dc at h;split at h
 ·obtain⟨l,hl,rfl⟩:=Option.map_eq_some_iff.1 h;obtain⟨a1,a2⟩:=G4 hc;exact⟨HX a2 _,V8 hl a1,Th _ _ (HX a2 _),hn⟩
 cases h
theorem Si {own:Tm}{params:List Tm}{ni:Nat}:∀{cs:List HZ}{l:List E6},C4 own params ni cs=some l→(∀c∈cs,Nd c.type∧c.name.size<Cb)→∀x∈l,fS x
 | [],l,h,_=>by simp only[C4] at h;injection h with h;subst h;exact fun x hx=>(by cases hx)
 | c::cs,l,h,hc=>by
  simp only[C4] at h;split at h
  ·cases h
  rename_i x hx;obtain⟨l2,hl2,rfl⟩:=Option.map_eq_some_iff.1 h;intro y hy;rcases List.mem_cons.1 hy with rfl | hy
  ·exact Y4 hx (hc c Ao).1 (hc c Ao).2
  exact Si hl2 (fun z hz=>hc z (by simp[hz])) y hy
theorem eA {d:Ck}(h:HR d=0) (hn:Nd d.type) (hc:∀c∈d.ctors,Nd c.type∧c.name.size<Cb):D7 (BQ d).indices∧∀k∈(BQ d).ctors,fS k:=by
 obtain⟨a1,a2⟩:=G4 hn;unfold HR BQ at *;unfold K3 at *;by_cases h1:d.kind≠3
 ·rw[if_pos h1] at h;simp at h
 rw[if_neg h1] at h ⊢;by_cases h2:d.fixed<0∨((BM d.type).1.length:Int)<d.fixed∨((BM d.type).2.kind≠1∧(BM d.type).2.kind≠2)
 ·rw[if_pos h2] at h;simp at h
 rw[if_neg h2] at h ⊢;cases hq:C4 (Co d.name d.params) ((BM d.type).1.take d.fixed.toNat) ((BM d.type).1.drop d.fixed.toNat).length d.ctors with
 | none=>rw[hq] at h;simp at h
 | some l =>
  simp only;exact⟨HX a2 _,Si hq hc⟩
theorem I2.vp {n:Nat}{t:Tm}(h:I2 n t) (hn:n≤60000):Vp t:=by
 obtain⟨⟨m,hw⟩,_,hz⟩:=h;exact bQ An t 0 hw An An
theorem I2.wt {n:Nat}{t:Tm}(h:I2 n t):Wt t:=by
 obtain⟨⟨m,hw⟩,_,_⟩:=h;exact bF t 0 hw
theorem KU {l:List Tm}{x:Tm}(h:x∈l):∃i:Nat,l[i]?=some x:=List.getElem?_of_mem h
theorem eC {p:Nat}{k:E6}(hp:p≤1000) (h:PS p k) (hn:fS k) (hl:k.results.length≤1000) (hr:∀r∈k.recs,r.results.length≤1000):Vs k:=by
 have hf:=h.fl;have fin:∀t∈k.fields,∃n,n≤60000∧I2 n t:=fun t ht=>by
  obtain⟨i,hi⟩:=KU ht;have:=(List.getElem?_eq_some_iff.1 hi).1;exact⟨p+i,by omega,h.fields i t hi⟩
 refine⟨hn.f,Fv fun t ht=>?_,fun t ht=>?_,h.fl,h.rl,fun r hr'=>?_,hn.r,Fv fun t ht=>(h.res t ht).vp An,fun t ht=>by have:=(h.res t ht).2.2;omega,hl,hn.nm⟩
 ·obtain⟨n,h1,h2⟩:=fin t ht;exact h2.vp h1
 ·obtain⟨n,h1,h2⟩:=fin t ht;have:=h2.2.2;omega
 have g:=h.recs r hr';have g1:=g.lo;have g2:=g.hi;have g3:=g.al;have ain:∀t∈r.args,∃n,n≤60000∧I2 n t:=fun t ht=>by
  obtain⟨i,hi⟩:=KU ht;have:=(List.getElem?_eq_some_iff.1 hi).1;exact⟨p+r.field.toNat+i,by omega,g.args i t hi⟩
 exact⟨⟨by omega,(hn.rs r hr').1,Fv fun t ht=>(by obtain⟨n,h1,h2⟩:=ain t ht;exact h2.vp h1),fun t ht=>(by obtain⟨n,h1,h2⟩:=ain t ht;have:=h2.2.2;omega),g3,(hn.rs r hr').2,Fv fun t ht=>(g.res t ht).vp An,fun t ht=>(by have:=(g.res t ht).2.2;omega),hr r hr'⟩,g2⟩
theorem UX {own:Tm}{params:List Tm}{ni:Nat}{t:Tm}{last:Int}{l:List Tm}(h:Da own params ni t last=some l):l.length=ni:=by
 unfold Da at h;split at h
 ·rename_i hq;injection h with h;subst h;rw[List.length_drop,hq.1];omega
 cases h
theorem Qe {own:Tm}{params:List Tm}{ni:Nat}:∀(l:List Tm) (i:Nat),∀r∈FC own params ni i l,r.results.length=ni
 | [],i,r,hr=>by simp[FC] at hr
 | t::ts,i,r,hr=>by
  unfold FC at hr;split at hr
  ·exact Qe ts (i+1) r hr
  rename_i l hl;rcases List.mem_cons.1 hr with rfl | hr
  ·exact UX hl
  exact Qe ts (i+1) r hr
theorem VQ {own:Tm}{params:List Tm}{ni:Nat}{c:HZ}{x:E6}(h:Dc own params ni c=some x):x.results.length=ni∧∀r∈x.recs,r.results.length=ni:=by
 unfold Dc at h;split at h
 ·obtain⟨l,hl,rfl⟩:=Option.map_eq_some_iff.1 h;exact⟨UX hl,Qe _ _⟩
 cases h
theorem PW {own:Tm}{params:List Tm}{ni:Nat}:∀{cs:List HZ}{l:List E6},C4 own params ni cs=some l→∀x∈l,x.results.length=ni∧∀r∈x.recs,r.results.length=ni
 | [],l,h=>by simp only[C4] at h;injection h with h;subst h;exact fun x hx=>(by cases hx)
 | c::cs,l,h=>by
  simp only[C4] at h;split at h
  ·cases h
  rename_i x hx;obtain⟨l2,hl2,rfl⟩:=Option.map_eq_some_iff.1 h;intro y hy;rcases List.mem_cons.1 hy with rfl | hy
  ·exact VQ hx
  exact PW hl2 y hy
theorem cr {p:Nat}{k:E6}(h:PS p k) (hn:fS k) (hl:k.results.length≤1000) (hr:∀r∈k.recs,r.results.length≤1000):ib k:=by
 refine⟨fun t ht=>?_,h.fl,h.rl,fun r hr'=>?_,fun t ht=>⟨?_,(h.res t ht).wt,by have:=(h.res t ht).2.2;omega⟩,hl⟩
 ·obtain⟨i,hi⟩:=KU ht;have q:=h.fields i t hi;exact⟨Cq hn.f hi,q.wt,by have:=q.2.2;omega⟩
 ·have g:=h.recs r hr';refine⟨fun t ht=>?_,fun t ht=>?_,g.al,hr r hr',g.lo,g.hi⟩
  ·obtain⟨i,hi⟩:=KU ht;have q:=g.args i t hi;exact⟨Cq (hn.rs r hr').1 hi,q.wt,by have:=q.2.2;omega⟩
  obtain⟨i,hi⟩:=KU ht;have q:=g.res t ht;exact⟨Cq (hn.rs r hr').2 hi,q.wt,by have:=q.2.2;omega⟩
 obtain⟨i,hi⟩:=KU ht;exact Cq hn.r hi
theorem aA {d:Ck}(h:HR d=0):∀k∈(BQ d).ctors,k.results.length=(BQ d).indices.length∧∀r∈k.recs,r.results.length=(BQ d).indices.length:=by
 unfold HR BQ at *;unfold K3 at *;by_cases h1:d.kind≠3
 ·rw[if_pos h1] at h;simp at h
 rw[if_neg h1] at h ⊢;by_cases h2:d.fixed<0∨((BM d.type).1.length:Int)<d.fixed∨((BM d.type).2.kind≠1∧(BM d.type).2.kind≠2)
 ·rw[if_pos h2] at h;simp at h
 rw[if_neg h2] at h ⊢;cases hq:C4 (Co d.name d.params) ((BM d.type).1.take d.fixed.toNat) ((BM d.type).1.drop d.fixed.toNat).length d.ctors with
 | none=>rw[hq] at h;simp at h
 | some l =>
  simp only;exact PW hq
theorem Zo {d:Ck}(h:HR d=0) (ht:I2 0 d.type) (hn:Nd d.type) (hc:∀c∈d.ctors,I2 0 c.type∧Nd c.type∧c.name.size<Cb):RT (BQ d)∧(BQ d).levels=d.params∧(BQ d).name=d.name∧(BQ d).ctors.length=d.ctors.length∧D7 (BQ d).indices∧I8 (BQ d).indices∧(∀t∈(BQ d).indices,size t≤1000)∧∀k∈(BQ d).ctors,Vs k∧ib k:=by
 obtain⟨g,g1,g2,g3⟩:=XY h ht fun c hc'=>(hc c hc').1;obtain⟨n1,n2⟩:=eA h hn fun c hc'=>(hc c hc').2;have hl:=aA h;have hp:=g.pl;have hi:=g.il;have ind:∀t∈(BQ d).indices,Vp t∧size t≤1000:=fun t ht=>by
  obtain⟨i,hx⟩:=KU ht;have:=(List.getElem?_eq_some_iff.1 hx).1;have q:=g.ind i t hx;exact⟨q.vp An,q.2.2⟩
 refine⟨g,g2,g3,g1,n1,Fv fun t ht=>(ind t ht).1,fun t ht=>(ind t ht).2,fun k hk=>?_⟩;obtain⟨l1,l2⟩:=hl k hk;exact⟨eC g.pl (g.ctors k hk) (n2 k hk) An (fun r hr=>by rw[l2 r hr];exact hi),cr (g.ctors k hk) (n2 k hk) An (fun r hr=>by rw[l2 r hr];exact hi)⟩
def HN (n:Int) (p:Nat) (pl:List Int) (rc:Tm) (fl:List Int) (r:Rfl):Tm :=
 let q:=Aw n (pl.take (p+r.field.toNat)) r.args
 let m:=n+r.args.length
 Bw 5 q.1 (apply (apply (apply rc (Bt m fl)) (CW m q.2 r.results)) [apply (Ei m ((pl[p+r.field.toNat]?).getD 0)) (Bt m (q.2.drop (p+r.field.toNat)))])
theorem RV {tel:List Tm}{p F:Nat}{pl fl:List Int}{r:Rfl}{x:Int}{rc:Tm}(hF:((p:Nat)+r.field:Int).toNat=F) (hr:0≤r.field) (hx:pl[F]?=some x):HN (tel.length:Nat) p pl rc fl r=Bw 5 (Aw (tel.length:Nat) (pl.take F) r.args).1 (apply (apply (apply rc (Bt ((tel++(Aw (tel.length:Nat) (pl.take F) r.args).1).length:Nat) fl)) (CW ((tel++(Aw (tel.length:Nat) (pl.take F) r.args).1).length:Nat) (Aw (tel.length:Nat) (pl.take F) r.args).2 r.results)) [apply (Ei ((tel++(Aw (tel.length:Nat) (pl.take F) r.args).1).length:Nat) x) (Bt ((tel++(Aw (tel.length:Nat) (pl.take F) r.args).1).length:Nat) ((Aw (tel.length:Nat) (pl.take F) r.args).2.drop F))]):=by
 have e:(((tel++(Aw (tel.length:Nat) (pl.take F) r.args).1).length:Nat):Int)=(tel.length:Nat)+(r.args.length:Nat):=by rw[List.length_append,(Bd _).1];omega
 rw[e];unfold HN;simp only[show p+r.field.toNat=F by omega,hx,Option.getD_some]
def HE (f:Fam) (j:Int) (k:E6) (n:Int) (rc:Tm) (fl:List Int):Tm :=
 let q:=Aw n (BL 0 f.params.length) k.fields
 let m:=n+k.fields.length
 Bw 5 q.1 (apply (Ei m (f.params.length+1+j)) (Bt m (q.2.drop f.params.length)++k.recs.map (HN m f.params.length q.2 rc fl)))
end Go.Eu
namespace Go.Proofs.YtifphifongokcaaGreat
open Go.Abs Go.Eu
theorem Zw:∀(b:Nat) (o:Option Nat) (c:Nat) (tel:List Tm) (pl:List Int),(tel.length≤100000)→(∀p∈pl,-1000000≤p∧p≤1000000)→(pl.length≤1000000)→Br Tryz.prog 73 [.ptr b 0,.p (.lst (List.map CG pl))] [.box b [.vs o (Av tel).length c],.vec o 5 (Av tel) c] (fun w H'=>∃o2 c2,w= .val (.vs o2 (Av (Bt (tel.length:Nat) pl)).length c2)∧H'= .vec o2 5 (Av (Bt (tel.length:Nat) pl)) c2::[.box b [.vs o (Av tel).length c],.vec o 5 (Av tel) c]):=by
 intro b o c tel pl h1 h2 h3;refine A1 Tryz.func73 O fg (n:=22) O O (Au Az 1 [] O (Au Az 1 [] O (As (Ay (CA O (Ar O (BH DX O (List.length_map _)) (Aq Az 1 [] O (BA (BU (DZ (t:=5) (sz:=5) O) (Bh (α:=Nat×Option Nat×Nat) (fun(i,o1,cp)=>⟨22,mk [(0,.ptr b 0),(5,.vs o1 (Av (Bt (tel.length:Nat) (pl.take i))).length cp),(8,.p (.lst (List.map CG pl))),(9,.p (I (pl.length:Nat))),(10,.p (I (i:Int)))],[.vec o1 5 (Av (Bt (tel.length:Nat) (pl.take i))) cp,.box b [.vs o (Av tel).length c],.vec o 5 (Av tel) c],[]⟩) (fun(i,o1,cp)=>pl.length - i) (fun(i,o1,cp)=>i≤pl.length) ⟨0,none,0⟩ AO ?_ ?_))))))))))
 ·exact BZ ⟨we O,we (DM [] (by simp[Bt])),we O,we O,we O,Ap⟩ (leH (is:=[0,1,2]) O (wl (C5 [] (by simp[Bt])) (wl (oe O) (wl (oe O) (DF)))))
 rintro⟨i,o1,cp⟩ hC
 try simp only at hC
 have hi:=hC;refine Au Az 1 [] O (As (A2 O (fun c1=>?_) (fun c1=>?_)))
 ·(try simp only[sd,se] at c1);refine A5 (As (BA (Ay ?_)));obtain⟨x,hx⟩:=A9 (l:=pl) (i:=i) An;refine Ar O (BC DX O O An (Gb hx) (O)) (Aq Az 2 [] O (Ax (A0 Az 3 [] O (Ar O (Cg [1,2] O (.inl ⟨O,O,O⟩) (Jb b o c tel x h1 (h2 x (List.mem_of_getElem? hx))) ⟨_,_,O,O,⟨_,_,O,O,O⟩⟩ Am O (.inl O)) (Ar O (Ba (rows:=Av [(Ei (tel.length:Nat) x)]) BY Bq O O O O (By (Bn _)) (ED _)) (Dp O O (B3 (i:=0) (rows':=Av [(Ei (tel.length:Nat) x)]) BY BY Bq O O O O O O (Bn _) (by simp[BD,Bt];omega) (Fe (Bt (tel.length:Nat) (pl.take i)) [(Ei (tel.length:Nat) x)])) fun o2 cp1=>Aq Az 1 [] O (Ax (Aq Az 2 [] O ?_))))))));refine⟨⟨i+1,o2,cp1⟩,AQ,by omega,BZ ⟨we rfl,we (DM (Bt (tel.length:Nat) (pl.take i)++[(Ei (tel.length:Nat) x)]) (by rw[List.take_add_one,hx,Option.toList_some,JC];rfl)),we rfl,we rfl,we rfl,trivial⟩ (leH (is:=[0,1,2]) rfl (wl (C5 (Bt (tel.length:Nat) (pl.take i)++[(Ei (tel.length:Nat) x)]) (by rw[List.take_add_one,hx,Option.toList_some,JC];rfl)) (wl (oe rfl) (wl (oe rfl) (DF)))))⟩
 (try simp only[sd,se] at c1);refine Bk (Au Az 2 [] O (A4 (⟨O,_,_,⟨_,_,O,O,O⟩,(Dn (is:=[0,1,2]) O),?_⟩)));rw[show i=pl.length by omega,List.take_length];exact⟨_,_,O,O⟩
set_option maxHeartbeats 2000000 in
theorem Ze:∀(b:Nat) (o:Option Nat) (c:Nat) (tel:List Tm) (bc bp bf brc bfi bj:Nat) (k:E6) (f:Fam) (rc:Tm) (fl:List Int) (j:Int),(tel.length≤40000)→(0≤f.levels∧f.levels≤1000)→(f.params.length≤1000)→(Vs k)→(∀p∈fl,-1000000≤p∧p≤1000000)→(fl.length≤1000000)→(0≤j∧j≤1000)→Br Tryz.prog 115 [.ptr b 0,.ptr bc 0,.ptr bp 0,.ptr bf 0,.ptr brc 0,.ptr bfi 0,.ptr bj 0] [.box b [.vs o (Av tel).length c],.vec o 5 (Av tel) c,.box bc ((Ca k).map .p),.box bp [.p (I (f.params.length:Nat))],.box bf ((Bu f).map .p),.box brc ((Bc rc).map .p),.box bfi [.p (.lst (List.map CG fl))],.box bj [.p (I j)]] (fun w H'=>∃o2 c2,w= .val (TV (apply (Ei ((tel++(Aw (tel.length:Nat) (BL 0 f.params.length) k.fields).1).length:Nat) (f.params.length+1+j)) (Bt ((tel++(Aw (tel.length:Nat) (BL 0 f.params.length) k.fields).1).length:Nat) ((Aw (tel.length:Nat) (BL 0 f.params.length) k.fields).2.drop f.params.length)++k.recs.map (HN ((tel++(Aw (tel.length:Nat) (BL 0 f.params.length) k.fields).1).length:Nat) f.params.length (Aw (tel.length:Nat) (BL 0 f.params.length) k.fields).2 rc fl))))∧H'=[.box b [.vs o2 (Av (tel++(Aw (tel.length:Nat) (BL 0 f.params.length) k.fields).1)).length c2],.vec o2 5 (Av (tel++(Aw (tel.length:Nat) (BL 0 f.params.length) k.fields).1)) c2,.box bc ((Ca k).map .p),.box bp [.p (I (f.params.length:Nat))],.box bf ((Bu f).map .p),.box brc ((Bc rc).map .p),.box bfi [.p (.lst (fl.map CG))],.box bj [.p (I j)]]):=by
 intro b o c tel bc bp bf brc bfi bj k f rc fl j h1 h2 h3 h4 h5 h6 h7;have hlf:=h4.lf;have hlc:=h4.lc;have hlr:=h4.lr;have hpt:∀q∈(Aw (tel.length:Nat) (BL 0 f.params.length) k.fields).2,-1000000≤q∧q≤1000000:=E4 (B:=1000000) _ (fun q hq=>by have:=D0 hq;omega) An An;refine A1 Tryz.func115 O iU (n:=51) O O (Ay (BE O (A7 Bq O) fun b8=>Bo O (As ?_)));refine Rm (fun q=>[.box b8 [.p (I 0),.p (I 0),.p (.str ⟨#[]⟩),.p (.nils),.p (.nils)],.box b [.vs (Ih q.1) (Av (tel++(Aw (tel.length:Nat) (BL 0 f.params.length) k.fields).1)).length q.2],.vec (Ih q.1) 5 (Av (tel++(Aw (tel.length:Nat) (BL 0 f.params.length) k.fields).1)) q.2,.box bc ((Ca k).map .p),.box bp [.p (I (f.params.length:Nat))],.box bf ((Bu f).map .p),.box brc ((Bc rc).map .p),.box bfi [.p (.lst (List.map CG fl))],.box bj [.p (I j)]]) 7 [.val (.ptr b 0),.val (.ptr bc (0+1)),.val (.p (.lst (Av k.fields))),.val (.p (I (f.params.length:Nat))),.val (.p (.lst (List.map CG (BL 0 f.params.length)))),.val (.ptr b 0),.val (.fn (.func 67) [.ptr b 0] []),.val (.p (.lst (List.map CG ((Aw (tel.length:Nat) (BL 0 f.params.length) k.fields).2)))),.new [.p (.nils)]] Eb Ai Ai Ai Ai ?_;refine GS O Ai (fun _=>Bm O) fun _=>GS O Ai (fun _=>A3 Nq O O) fun _=>N2 O Ai (fun Bs=>A6 (i:=Bs.length+3) DD O (CL O) (DU _)) (fun g Bs=>A6 (i:=Bs.length+3) DD O (CL O) (DU _)) fun _=>N2 O Ai (fun Bs=>CJ (i:=Bs.length+4) Hd O (CL O) O) (fun g Bs=>CJ (i:=Bs.length+4) Hd O (CL O) O) fun _=>GS rfl Ai (fun _=>BB rfl rfl (IM f.params.length An) rfl) fun _=>GS O Ai (fun _=>Bm O) fun _=>GS O Ai (fun _=>Fs O O) fun _=>?_;refine Uc (fun q=>[.box b [.vs (Ih q.1) (Av (tel++(Aw (tel.length:Nat) (BL 0 f.params.length) k.fields).1)).length q.2],.vec (Ih q.1) 5 (Av (tel++(Aw (tel.length:Nat) (BL 0 f.params.length) k.fields).1)) q.2]) [1,2] rfl rfl (.inl ⟨rfl,rfl,rfl⟩) (L7 b o c tel k.fields (BL 0 f.params.length) An (fun p hp=>by have:=D0 hp;omega) (by rw[B4];omega) h4.nf h4.vf h4.sf) ⟨_,_,rfl,rfl,⟨_,_,rfl,rfl,rfl⟩⟩ Am (CQ _) (fun _=>rfl) (fun _=>rfl) (by rintro _ _ ⟨o2,c2,h,rfl⟩;cases h;obtain⟨z,rfl⟩:=Rr o2;exact⟨rfl,(z,c2),rfl⟩) (fun _ _ ⟨_,_,h,_⟩=>by cases h) fun q=>?_;obtain⟨on,cn⟩:=q;refine Ws O Ai (fun _=>A7 Xe O) fun B=>?_;obtain⟨b9,_⟩:=B;refine W2 ?_
 change AL _ _ _ 9 ⟨51,_,[.box b9 [.p (.nils)],.box b8 [.p (I 0),.p (I 0),.p (.str ⟨#[]⟩),.p (.nils),.p (.nils)],.box b [.vs (Ih on) (Av (tel++(Aw (tel.length:Nat) (BL 0 f.params.length) k.fields).1)).length cn],.vec (Ih on) 5 (Av (tel++(Aw (tel.length:Nat) (BL 0 f.params.length) k.fields).1)) cn,.box bc ((Ca k).map .p),.box bp [.p (I (f.params.length:Nat))],.box bf ((Bu f).map .p),.box brc ((Bc rc).map .p),.box bfi [.p (.lst (List.map CG fl))],.box bj [.p (I j)]],[]⟩ _
 refine Aq Az 1 [0,0] O (Ay (A0 Az 3 [0,5] O (Ar O (CX (lo:=f.params.length) DX O (By (Fb _)) ⟨_,O⟩ O (by rw[List.length_map,(Bd _).2,B4];omega) (Nat.le_refl _) (N5 (f:=CG) ((Aw (tel.length:Nat) (BL 0 f.params.length) k.fields).2) f.params.length)) ?_)));refine Np [2,3] O O O (.inl ⟨O,O,O⟩) (Zw b (Ih on) cn (tel++(Aw (tel.length:Nat) (BL 0 f.params.length) k.fields).1) (((Aw (tel.length:Nat) (BL 0 f.params.length) k.fields).2).drop f.params.length) (by rw[List.length_append,(Bd _).1];omega) (fun q hq=>hpt q (List.mem_of_mem_drop hq)) (by rw[List.length_drop,(Bd _).2,B4];omega)) ⟨_,_,O,O,⟨_,_,O,O,O⟩⟩ Am (CQ _) ?_ (fun _ _ ⟨_,_,h,_⟩=>by cases h);rintro _ _ ⟨on1,cn1,h,rfl⟩;cases h;refine Aq Az 1 [] O (As (Ay (Ar O (A3 Nq O O) (Ar O (A6 (i:=5) X4 O O (F8 _)) (Ar O (BH Ll O (List.length_map _)) (Aq Az 1 [] O (BA ?_)))))))
 refine Bh (α:=Nat×Option Nat×Nat) (fun(i,o1,cp)=>⟨51,mk [(0,.ptr b 0),(2,.ptr bp 0),(3,.ptr bf 0),(4,.ptr brc 0),(5,.ptr bfi 0),(6,.ptr bj 0),(8,.ptr b8 0),(9,.ptr b9 0),(10,.vs o1 (Av (Bt ((tel++(Aw (tel.length:Nat) (BL 0 f.params.length) k.fields).1).length:Nat) ((Aw (tel.length:Nat) (BL 0 f.params.length) k.fields).2.drop f.params.length)++(k.recs.take i).map (HN ((tel++(Aw (tel.length:Nat) (BL 0 f.params.length) k.fields).1).length:Nat) f.params.length (Aw (tel.length:Nat) (BL 0 f.params.length) k.fields).2 rc fl))).length cp),(27,.p (.lst (List.map Cu k.recs))),(28,.p (I (k.recs.length:Nat))),(29,.p (I (i:Int)))],[.vec o1 5 (Av (Bt ((tel++(Aw (tel.length:Nat) (BL 0 f.params.length) k.fields).1).length:Nat) ((Aw (tel.length:Nat) (BL 0 f.params.length) k.fields).2.drop f.params.length)++(k.recs.take i).map (HN ((tel++(Aw (tel.length:Nat) (BL 0 f.params.length) k.fields).1).length:Nat) f.params.length (Aw (tel.length:Nat) (BL 0 f.params.length) k.fields).2 rc fl))) cp,.box b [.vs (Ih on) (Av (tel++(Aw (tel.length:Nat) (BL 0 f.params.length) k.fields).1)).length cn],.vec (Ih on) 5 (Av (tel++(Aw (tel.length:Nat) (BL 0 f.params.length) k.fields).1)) cn,.box b9 [.p (.lst (List.map CG ((Aw (tel.length:Nat) (BL 0 f.params.length) k.fields).2)))],.box b8 [.p (I 0),.p (I 0),.p (.str ⟨#[]⟩),.p (.nils),.p (.nils)],.box bc ((Ca k).map .p),.box bp [.p (I (f.params.length:Nat))],.box bf ((Bu f).map .p),.box brc ((Bc rc).map .p),.box bfi [.p (.lst (List.map CG fl))],.box bj [.p (I j)]],[]⟩) (fun(i,o1,cp)=>k.recs.length - i) (fun(i,o1,cp)=>i≤k.recs.length) ⟨0,on1,cn1⟩ AO ?_ ?_
 ·exact BZ ⟨we O,we O,we O,we O,we O,we O,we O,we O,we (DM (Bt ((tel++(Aw (tel.length:Nat) (BL 0 f.params.length) k.fields).1).length:Nat) (((Aw (tel.length:Nat) (BL 0 f.params.length) k.fields).2).drop f.params.length)) Ao),we O,we O,we O,Ap⟩ (leH (is:=[0,1,2,3,4,5,6,7,8,9,10]) O (wl (C5 (Bt ((tel++(Aw (tel.length:Nat) (BL 0 f.params.length) k.fields).1).length:Nat) (((Aw (tel.length:Nat) (BL 0 f.params.length) k.fields).2).drop f.params.length)) Ao) (wl (oe O) (wl (oe O) (wl (oe O) (wl (oe O) (wl (oe O) (wl (oe O) (wl (oe O) (wl (oe O) (wl (oe O) (wl (oe O) (DF)))))))))))))
 rintro⟨i,o1,cp⟩ hC
 try simp only at hC
 have hi:=hC;refine Au Az 1 [] O (As (A2 O (fun c1=>?_) (fun c1=>?_)))
 ·(try simp only[sd,se] at c1);refine A5 (As (BA (Ay ?_)));obtain⟨x,hx⟩:=A9 (l:=k.recs) (i:=i) An;refine Ar O (BC Ll O O An (He hx) (Dw _)) (Ar O (Bg TY O (Dw _)) (BE O (A7 VV O) fun b12=>Ar O (CF (i:=0) TY O O O (by simp[Dw]) (by first | rfl | simp[Dw]) (Ts _)) (Bo O (Ax (A0 Az 3 [] O ?_)))));have hok:=h4.rs x (List.mem_of_getElem? hx);obtain⟨y,hy⟩:=A9 (l:=(Aw (tel.length:Nat) (BL 0 f.params.length) k.fields).2) (i:=f.params.length+x.field.toNat) (by have:=hok.1.lo;rw[(Bd _).2,B4];omega);have hFe:((f.params.length:Nat)+x.field:Int).toNat=f.params.length+x.field.toNat:=by have:=hok.1.lo;omega
  refine Ar O (Cg [2,3,8,0,4,9,10] O (.inl ⟨O,O,O⟩) (VE b (Ih on) cn (tel++(Aw (tel.length:Nat) (BL 0 f.params.length) k.fields).1) bf b12 b9 brc bfi f x ((Aw (tel.length:Nat) (BL 0 f.params.length) k.fields).2) rc fl (f.params.length+x.field.toNat) y (by rw[List.length_append,(Bd _).1];omega) h3 hok.1 hpt (by rw[(Bd _).2,B4];omega) hFe hy h5 h6) ⟨_,_,O,O,⟨_,_,O,O,⟨_,_,O,O,⟨_,_,O,O,⟨_,_,O,O,⟨_,_,O,O,⟨_,_,O,O,O⟩⟩⟩⟩⟩⟩⟩ Am O (.inl O)) (A0 Az 2 [] O ?_)
  refine Ar O (BB O O (Qz ((Aw ((tel++(Aw (tel.length:Nat) (BL 0 f.params.length) k.fields).1).length:Nat) (((Aw (tel.length:Nat) (BL 0 f.params.length) k.fields).2).take (f.params.length+x.field.toNat)) x.args).1) (apply (apply (apply rc (Bt (((tel++(Aw (tel.length:Nat) (BL 0 f.params.length) k.fields).1)++(Aw ((tel++(Aw (tel.length:Nat) (BL 0 f.params.length) k.fields).1).length:Nat) (((Aw (tel.length:Nat) (BL 0 f.params.length) k.fields).2).take (f.params.length+x.field.toNat)) x.args).1).length:Nat) fl)) (CW (((tel++(Aw (tel.length:Nat) (BL 0 f.params.length) k.fields).1)++(Aw ((tel++(Aw (tel.length:Nat) (BL 0 f.params.length) k.fields).1).length:Nat) (((Aw (tel.length:Nat) (BL 0 f.params.length) k.fields).2).take (f.params.length+x.field.toNat)) x.args).1).length:Nat) (Aw ((tel++(Aw (tel.length:Nat) (BL 0 f.params.length) k.fields).1).length:Nat) (((Aw (tel.length:Nat) (BL 0 f.params.length) k.fields).2).take (f.params.length+x.field.toNat)) x.args).2 x.results)) [(apply (Ei (((tel++(Aw (tel.length:Nat) (BL 0 f.params.length) k.fields).1)++(Aw ((tel++(Aw (tel.length:Nat) (BL 0 f.params.length) k.fields).1).length:Nat) (((Aw (tel.length:Nat) (BL 0 f.params.length) k.fields).2).take (f.params.length+x.field.toNat)) x.args).1).length:Nat) y) (Bt (((tel++(Aw (tel.length:Nat) (BL 0 f.params.length) k.fields).1)++(Aw ((tel++(Aw (tel.length:Nat) (BL 0 f.params.length) k.fields).1).length:Nat) (((Aw (tel.length:Nat) (BL 0 f.params.length) k.fields).2).take (f.params.length+x.field.toNat)) x.args).1).length:Nat) ((Aw ((tel++(Aw (tel.length:Nat) (BL 0 f.params.length) k.fields).1).length:Nat) (((Aw (tel.length:Nat) (BL 0 f.params.length) k.fields).2).take (f.params.length+x.field.toNat)) x.args).2.drop (f.params.length+x.field.toNat))))]) (Gw (by rw[List.length_take];have:=hok.1.la;simp only[Cb];omega) hok.1.na hok.1.va) (by rw[(Bd _).1];have:=hok.1.la;simp only[Cb];omega)) O) ?_
  refine Ar O (Ba (rows:=Av ([(Bw 5 ((Aw ((tel++(Aw (tel.length:Nat) (BL 0 f.params.length) k.fields).1).length:Nat) (((Aw (tel.length:Nat) (BL 0 f.params.length) k.fields).2).take (f.params.length+x.field.toNat)) x.args).1) (apply (apply (apply rc (Bt (((tel++(Aw (tel.length:Nat) (BL 0 f.params.length) k.fields).1)++(Aw ((tel++(Aw (tel.length:Nat) (BL 0 f.params.length) k.fields).1).length:Nat) (((Aw (tel.length:Nat) (BL 0 f.params.length) k.fields).2).take (f.params.length+x.field.toNat)) x.args).1).length:Nat) fl)) (CW (((tel++(Aw (tel.length:Nat) (BL 0 f.params.length) k.fields).1)++(Aw ((tel++(Aw (tel.length:Nat) (BL 0 f.params.length) k.fields).1).length:Nat) (((Aw (tel.length:Nat) (BL 0 f.params.length) k.fields).2).take (f.params.length+x.field.toNat)) x.args).1).length:Nat) (Aw ((tel++(Aw (tel.length:Nat) (BL 0 f.params.length) k.fields).1).length:Nat) (((Aw (tel.length:Nat) (BL 0 f.params.length) k.fields).2).take (f.params.length+x.field.toNat)) x.args).2 x.results)) [(apply (Ei (((tel++(Aw (tel.length:Nat) (BL 0 f.params.length) k.fields).1)++(Aw ((tel++(Aw (tel.length:Nat) (BL 0 f.params.length) k.fields).1).length:Nat) (((Aw (tel.length:Nat) (BL 0 f.params.length) k.fields).2).take (f.params.length+x.field.toNat)) x.args).1).length:Nat) y) (Bt (((tel++(Aw (tel.length:Nat) (BL 0 f.params.length) k.fields).1)++(Aw ((tel++(Aw (tel.length:Nat) (BL 0 f.params.length) k.fields).1).length:Nat) (((Aw (tel.length:Nat) (BL 0 f.params.length) k.fields).2).take (f.params.length+x.field.toNat)) x.args).1).length:Nat) ((Aw ((tel++(Aw (tel.length:Nat) (BL 0 f.params.length) k.fields).1).length:Nat) (((Aw (tel.length:Nat) (BL 0 f.params.length) k.fields).2).take (f.params.length+x.field.toNat)) x.args).2.drop (f.params.length+x.field.toNat))))]))])) BY Bq O O O O (By (Bn _)) (ED _)) ?_
  refine Dp O O (B3 (i:=1) (rows':=Av ([(Bw 5 ((Aw ((tel++(Aw (tel.length:Nat) (BL 0 f.params.length) k.fields).1).length:Nat) (((Aw (tel.length:Nat) (BL 0 f.params.length) k.fields).2).take (f.params.length+x.field.toNat)) x.args).1) (apply (apply (apply rc (Bt (((tel++(Aw (tel.length:Nat) (BL 0 f.params.length) k.fields).1)++(Aw ((tel++(Aw (tel.length:Nat) (BL 0 f.params.length) k.fields).1).length:Nat) (((Aw (tel.length:Nat) (BL 0 f.params.length) k.fields).2).take (f.params.length+x.field.toNat)) x.args).1).length:Nat) fl)) (CW (((tel++(Aw (tel.length:Nat) (BL 0 f.params.length) k.fields).1)++(Aw ((tel++(Aw (tel.length:Nat) (BL 0 f.params.length) k.fields).1).length:Nat) (((Aw (tel.length:Nat) (BL 0 f.params.length) k.fields).2).take (f.params.length+x.field.toNat)) x.args).1).length:Nat) (Aw ((tel++(Aw (tel.length:Nat) (BL 0 f.params.length) k.fields).1).length:Nat) (((Aw (tel.length:Nat) (BL 0 f.params.length) k.fields).2).take (f.params.length+x.field.toNat)) x.args).2 x.results)) [(apply (Ei (((tel++(Aw (tel.length:Nat) (BL 0 f.params.length) k.fields).1)++(Aw ((tel++(Aw (tel.length:Nat) (BL 0 f.params.length) k.fields).1).length:Nat) (((Aw (tel.length:Nat) (BL 0 f.params.length) k.fields).2).take (f.params.length+x.field.toNat)) x.args).1).length:Nat) y) (Bt (((tel++(Aw (tel.length:Nat) (BL 0 f.params.length) k.fields).1)++(Aw ((tel++(Aw (tel.length:Nat) (BL 0 f.params.length) k.fields).1).length:Nat) (((Aw (tel.length:Nat) (BL 0 f.params.length) k.fields).2).take (f.params.length+x.field.toNat)) x.args).1).length:Nat) ((Aw ((tel++(Aw (tel.length:Nat) (BL 0 f.params.length) k.fields).1).length:Nat) (((Aw (tel.length:Nat) (BL 0 f.params.length) k.fields).2).take (f.params.length+x.field.toNat)) x.args).2.drop (f.params.length+x.field.toNat))))]))])) BY BY Bq O O O O O O (Bn _) (by simp[BD,Bt,(Bd _).2,B4];omega) (Fe (Bt ((tel++(Aw (tel.length:Nat) (BL 0 f.params.length) k.fields).1).length:Nat) ((Aw (tel.length:Nat) (BL 0 f.params.length) k.fields).2.drop f.params.length)++(k.recs.take i).map (HN ((tel++(Aw (tel.length:Nat) (BL 0 f.params.length) k.fields).1).length:Nat) f.params.length (Aw (tel.length:Nat) (BL 0 f.params.length) k.fields).2 rc fl)) ([(Bw 5 ((Aw ((tel++(Aw (tel.length:Nat) (BL 0 f.params.length) k.fields).1).length:Nat) (((Aw (tel.length:Nat) (BL 0 f.params.length) k.fields).2).take (f.params.length+x.field.toNat)) x.args).1) (apply (apply (apply rc (Bt (((tel++(Aw (tel.length:Nat) (BL 0 f.params.length) k.fields).1)++(Aw ((tel++(Aw (tel.length:Nat) (BL 0 f.params.length) k.fields).1).length:Nat) (((Aw (tel.length:Nat) (BL 0 f.params.length) k.fields).2).take (f.params.length+x.field.toNat)) x.args).1).length:Nat) fl)) (CW (((tel++(Aw (tel.length:Nat) (BL 0 f.params.length) k.fields).1)++(Aw ((tel++(Aw (tel.length:Nat) (BL 0 f.params.length) k.fields).1).length:Nat) (((Aw (tel.length:Nat) (BL 0 f.params.length) k.fields).2).take (f.params.length+x.field.toNat)) x.args).1).length:Nat) (Aw ((tel++(Aw (tel.length:Nat) (BL 0 f.params.length) k.fields).1).length:Nat) (((Aw (tel.length:Nat) (BL 0 f.params.length) k.fields).2).take (f.params.length+x.field.toNat)) x.args).2 x.results)) [(apply (Ei (((tel++(Aw (tel.length:Nat) (BL 0 f.params.length) k.fields).1)++(Aw ((tel++(Aw (tel.length:Nat) (BL 0 f.params.length) k.fields).1).length:Nat) (((Aw (tel.length:Nat) (BL 0 f.params.length) k.fields).2).take (f.params.length+x.field.toNat)) x.args).1).length:Nat) y) (Bt (((tel++(Aw (tel.length:Nat) (BL 0 f.params.length) k.fields).1)++(Aw ((tel++(Aw (tel.length:Nat) (BL 0 f.params.length) k.fields).1).length:Nat) (((Aw (tel.length:Nat) (BL 0 f.params.length) k.fields).2).take (f.params.length+x.field.toNat)) x.args).1).length:Nat) ((Aw ((tel++(Aw (tel.length:Nat) (BL 0 f.params.length) k.fields).1).length:Nat) (((Aw (tel.length:Nat) (BL 0 f.params.length) k.fields).2).take (f.params.length+x.field.toNat)) x.args).2.drop (f.params.length+x.field.toNat))))]))]))) fun o2 cp1=>?_
  refine Aq Az 1 [] O (Ax (Aq Az 2 [] O ?_))
  refine⟨⟨i+1,o2,cp1⟩,AQ,by omega,BZ ⟨we rfl,we rfl,we rfl,we rfl,we rfl,we rfl,we rfl,we rfl,we (DM (Bt ((tel++(Aw (tel.length:Nat) (BL 0 f.params.length) k.fields).1).length:Nat) ((Aw (tel.length:Nat) (BL 0 f.params.length) k.fields).2.drop f.params.length)++(k.recs.take i).map (HN ((tel++(Aw (tel.length:Nat) (BL 0 f.params.length) k.fields).1).length:Nat) f.params.length (Aw (tel.length:Nat) (BL 0 f.params.length) k.fields).2 rc fl)++([(Bw 5 ((Aw ((tel++(Aw (tel.length:Nat) (BL 0 f.params.length) k.fields).1).length:Nat) (((Aw (tel.length:Nat) (BL 0 f.params.length) k.fields).2).take (f.params.length+x.field.toNat)) x.args).1) (apply (apply (apply rc (Bt (((tel++(Aw (tel.length:Nat) (BL 0 f.params.length) k.fields).1)++(Aw ((tel++(Aw (tel.length:Nat) (BL 0 f.params.length) k.fields).1).length:Nat) (((Aw (tel.length:Nat) (BL 0 f.params.length) k.fields).2).take (f.params.length+x.field.toNat)) x.args).1).length:Nat) fl)) (CW (((tel++(Aw (tel.length:Nat) (BL 0 f.params.length) k.fields).1)++(Aw ((tel++(Aw (tel.length:Nat) (BL 0 f.params.length) k.fields).1).length:Nat) (((Aw (tel.length:Nat) (BL 0 f.params.length) k.fields).2).take (f.params.length+x.field.toNat)) x.args).1).length:Nat) (Aw ((tel++(Aw (tel.length:Nat) (BL 0 f.params.length) k.fields).1).length:Nat) (((Aw (tel.length:Nat) (BL 0 f.params.length) k.fields).2).take (f.params.length+x.field.toNat)) x.args).2 x.results)) [(apply (Ei (((tel++(Aw (tel.length:Nat) (BL 0 f.params.length) k.fields).1)++(Aw ((tel++(Aw (tel.length:Nat) (BL 0 f.params.length) k.fields).1).length:Nat) (((Aw (tel.length:Nat) (BL 0 f.params.length) k.fields).2).take (f.params.length+x.field.toNat)) x.args).1).length:Nat) y) (Bt (((tel++(Aw (tel.length:Nat) (BL 0 f.params.length) k.fields).1)++(Aw ((tel++(Aw (tel.length:Nat) (BL 0 f.params.length) k.fields).1).length:Nat) (((Aw (tel.length:Nat) (BL 0 f.params.length) k.fields).2).take (f.params.length+x.field.toNat)) x.args).1).length:Nat) ((Aw ((tel++(Aw (tel.length:Nat) (BL 0 f.params.length) k.fields).1).length:Nat) (((Aw (tel.length:Nat) (BL 0 f.params.length) k.fields).2).take (f.params.length+x.field.toNat)) x.args).2.drop (f.params.length+x.field.toNat))))]))])) (by rw[List.take_add_one,hx,Option.toList_some,List.map_append,List.map_cons,List.map_nil,RV hFe hok.1.lo.1 hy,List.append_assoc])),we rfl,we rfl,we rfl,trivial⟩ (leH (is:=[1,2,3,4,5,6,7,8,9,10,11]) rfl (wl (C5 (Bt ((tel++(Aw (tel.length:Nat) (BL 0 f.params.length) k.fields).1).length:Nat) ((Aw (tel.length:Nat) (BL 0 f.params.length) k.fields).2.drop f.params.length)++(k.recs.take i).map (HN ((tel++(Aw (tel.length:Nat) (BL 0 f.params.length) k.fields).1).length:Nat) f.params.length (Aw (tel.length:Nat) (BL 0 f.params.length) k.fields).2 rc fl)++([(Bw 5 ((Aw ((tel++(Aw (tel.length:Nat) (BL 0 f.params.length) k.fields).1).length:Nat) (((Aw (tel.length:Nat) (BL 0 f.params.length) k.fields).2).take (f.params.length+x.field.toNat)) x.args).1) (apply (apply (apply rc (Bt (((tel++(Aw (tel.length:Nat) (BL 0 f.params.length) k.fields).1)++(Aw ((tel++(Aw (tel.length:Nat) (BL 0 f.params.length) k.fields).1).length:Nat) (((Aw (tel.length:Nat) (BL 0 f.params.length) k.fields).2).take (f.params.length+x.field.toNat)) x.args).1).length:Nat) fl)) (CW (((tel++(Aw (tel.length:Nat) (BL 0 f.params.length) k.fields).1)++(Aw ((tel++(Aw (tel.length:Nat) (BL 0 f.params.length) k.fields).1).length:Nat) (((Aw (tel.length:Nat) (BL 0 f.params.length) k.fields).2).take (f.params.length+x.field.toNat)) x.args).1).length:Nat) (Aw ((tel++(Aw (tel.length:Nat) (BL 0 f.params.length) k.fields).1).length:Nat) (((Aw (tel.length:Nat) (BL 0 f.params.length) k.fields).2).take (f.params.length+x.field.toNat)) x.args).2 x.results)) [(apply (Ei (((tel++(Aw (tel.length:Nat) (BL 0 f.params.length) k.fields).1)++(Aw ((tel++(Aw (tel.length:Nat) (BL 0 f.params.length) k.fields).1).length:Nat) (((Aw (tel.length:Nat) (BL 0 f.params.length) k.fields).2).take (f.params.length+x.field.toNat)) x.args).1).length:Nat) y) (Bt (((tel++(Aw (tel.length:Nat) (BL 0 f.params.length) k.fields).1)++(Aw ((tel++(Aw (tel.length:Nat) (BL 0 f.params.length) k.fields).1).length:Nat) (((Aw (tel.length:Nat) (BL 0 f.params.length) k.fields).2).take (f.params.length+x.field.toNat)) x.args).1).length:Nat) ((Aw ((tel++(Aw (tel.length:Nat) (BL 0 f.params.length) k.fields).1).length:Nat) (((Aw (tel.length:Nat) (BL 0 f.params.length) k.fields).2).take (f.params.length+x.field.toNat)) x.args).2.drop (f.params.length+x.field.toNat))))]))])) (by rw[List.take_add_one,hx,Option.toList_some,List.map_append,List.map_cons,List.map_nil,RV hFe hok.1.lo.1 hy,List.append_assoc])) (wl (oe rfl) (wl (oe rfl) (wl (oe rfl) (wl (oe rfl) (wl (oe rfl) (wl (oe rfl) (wl (oe rfl) (wl (oe rfl) (wl (oe rfl) (wl (oe rfl) (DF)))))))))))))⟩
 (try simp only[sd,se] at c1);refine Bk (Ay (A0 Az 5 [6,10] O (Ar O (Cg [1,2] O (.inl ⟨O,O,O⟩) (Jb b (Ih on) cn (tel++(Aw (tel.length:Nat) (BL 0 f.params.length) k.fields).1) ((((f.params.length:Nat):Int)+(1:Int):Int)+(j:Int)) (by rw[List.length_append,(Bd _).1];omega) An) ⟨_,_,O,O,⟨_,_,O,O,O⟩⟩ Am O (.inl O)) (CA O (B7 (CM (i:=0) [10,49] O (C6 ⟨O,O,Ap⟩)) ?_)))));refine Ar O (BB O O (Dz (Ei ((tel++(Aw (tel.length:Nat) (BL 0 f.params.length) k.fields).1).length:Nat) ((((f.params.length:Nat):Int)+(1:Int):Int)+(j:Int))) (Bt ((tel++(Aw (tel.length:Nat) (BL 0 f.params.length) k.fields).1).length:Nat) ((Aw (tel.length:Nat) (BL 0 f.params.length) k.fields).2.drop f.params.length)++(k.recs.take i).map (HN ((tel++(Aw (tel.length:Nat) (BL 0 f.params.length) k.fields).1).length:Nat) f.params.length (Aw (tel.length:Nat) (BL 0 f.params.length) k.fields).2 rc fl)) (by simp only[Cb,Bt,List.length_map,List.length_append,List.length_drop,List.length_take,(Bd _).2,B4];omega)) O) (Aq Az 1 [3,1] O (A4 (⟨O,_,_,⟨_,_,O,(BO (i:=3) Bx O O Ad),O⟩,(Dn (is:=[0,1,4,5,6,7,8,9]) O),?_⟩)));obtain rfl:i=k.recs.length:=by omega
 rw[List.take_length]
 all_goals exact⟨_,_,rfl,rfl⟩
end Go.Proofs.YtifphifongokcaaGreat
namespace Go.Eu
open Go.Abs
def vT (i:Int):Tm:= .mk 0 i ⟨#[]⟩ [] []
def T9 (nm:ByteArray):Tm:= .mk 3 0 nm [] []
def Ku:ByteArray:=⟨#[78,97,116]⟩
def bC:ByteArray:=⟨#[122,101,114,111]⟩
def X3:ByteArray:=⟨#[115,117,99,99]⟩
def a8:ByteArray:=⟨#[112,108,117,115]⟩
def nw (b:Tm):Tm:=if (CP 1 0 0 0 b).2≠0 then Bi else (CP 1 0 0 0 b).1
def eI (a b:Tm):Tm:= .mk 6 0 ⟨#[]⟩ [] [a,nw b]
def lI:Ck:=⟨3,Ku,0,.mk 2 0 ⟨#[]⟩ [⟨0,[]⟩] [],Bi,0,[⟨bC,T9 Ku⟩,⟨X3,eI (T9 Ku) (T9 Ku)⟩],⟨0,T9 Ku,[T9 Ku,T9 Ku]⟩,[]⟩
def eB:Ge:= .mk 1 Bi 0 [.mk bC false (.mk 0 (vT 0) 0 []),.mk X3 false (.mk 0 (apply (T9 X3) [apply (T9 a8) [vT 0,vT 1]]) 0 [])]
def gX:Ck:=⟨4,⟨#[]⟩,0,Bi,Bi,0,[],⟨0,Bi,[]⟩,[⟨a8,eI (T9 Ku) (eI (T9 Ku) (T9 Ku)),2,eB⟩]⟩
def lX:List Ck:=[lI,gX]
def cY (a b:Tm):Tm:= .mk 6 0 ⟨#[]⟩ [] [a,b]
def VN:ByteArray:=⟨#[78,97,116,46,122,101,114,111]⟩
def TQ:ByteArray:=⟨#[78,97,116,46,115,117,99,99]⟩
def Ct:Tm:=T9 Ku
def HG:Ck:=⟨3,Ku,0,.mk 2 0 ⟨#[]⟩ [⟨0,[]⟩] [],Bi,0,[⟨VN,Ct⟩,⟨TQ,cY Ct Ct⟩],⟨0,Bi,[]⟩,[]⟩
def Pj:E6:=⟨VN,[],[],[]⟩
def MD:E6:=⟨TQ,[Ct],[⟨0,[],[]⟩],[]⟩
def Ik:Fam:=⟨Ku,0,[],[],.mk 2 0 ⟨#[]⟩ [⟨0,[]⟩] [],[Pj,MD]⟩
theorem XL {last:Int}:Da Ct [] 0 Ct last=some []:=by
 unfold Da;rw[if_pos ⟨rfl,rfl,rfl⟩];rfl
theorem Yq:Dc Ct [] 0 ⟨VN,Ct⟩=some Pj:=by
 unfold Dc;rw[if_pos ⟨Nat.zero_le _,rfl⟩,show (BM (HZ.mk VN Ct).type).2=Ct from rfl,XL];rfl
theorem Ya:Dc Ct [] 0 ⟨TQ,cY Ct Ct⟩=some MD:=by
 unfold Dc;rw[if_pos ⟨Nat.zero_le _,rfl⟩,show (BM (HZ.mk TQ (cY Ct Ct)).type).2=Ct from rfl,XL];have e:FC Ct [] 0 0 [Ct]=[⟨0,[],[]⟩]:=by
  unfold FC;rw[show (BM Ct).2=Ct from rfl,XL];rfl
 show some (E6.mk TQ [Ct] (FC Ct [] 0 0 [Ct]) [])=some MD;rw[e];rfl
theorem P3:K3 HG= .ok Ik:=by
 have hz:C4 (Co HG.name HG.params) ((BM HG.type).1.take HG.fixed.toNat) ((BM HG.type).1.drop HG.fixed.toNat).length HG.ctors=some [Pj,MD]:=by
  show C4 Ct [] 0 [⟨VN,Ct⟩,⟨TQ,cY Ct Ct⟩]=_;simp only[C4,Yq,Ya,Option.map_some]
 exact Wl Am Am hz
theorem Z8:BQ HG=Ik:=by unfold BQ;rw[P3]
theorem Yr:HR HG=0:=by unfold HR;rw[P3]
def HM:List Tm:=[Es Ik true 0,I1 Ik Pj 1,I1 Ik MD 2]
def Ix:Tm:=Bw 6 HM (Bw 6 [Ct] (apply (apply (BP 3) []) [BP 0]))
def kH:ByteArray:=Ku++⟨#[46,114,101,99]⟩
def ZR:Tm:= .mk 3 0 kH (Ce 1) []
def mZ:List Tm:=[Bw 5 HM (HE Ik 0 Pj 3 ZR (BL 0 3)),Bw 5 HM (HE Ik 1 MD 3 ZR (BL 0 3))]
def om (i:Int):Tm:=BP i
def l8:List Tm:=[cY Ct (.mk 2 0 ⟨#[]⟩ [⟨0,[⟨0,0⟩]⟩] []),apply (BP 0) [T9 VN],cY Ct (cY (apply (BP 2) [BP 0]) (apply (BP 3) [apply (T9 TQ) [BP 1]]))]
theorem YE {f:Fam}{j:Int}{k:E6}{tel:List Tm}{rc:Tm}{fl:List Int} :
  Bw 5 (Aw (tel.length:Nat) (BL 0 f.params.length) k.fields).1 (apply (Ei ((tel++(Aw (tel.length:Nat) (BL 0 f.params.length) k.fields).1).length:Nat) (f.params.length+1+j)) (Bt ((tel++(Aw (tel.length:Nat) (BL 0 f.params.length) k.fields).1).length:Nat) ((Aw (tel.length:Nat) (BL 0 f.params.length) k.fields).2.drop f.params.length)++k.recs.map (HN ((tel++(Aw (tel.length:Nat) (BL 0 f.params.length) k.fields).1).length:Nat) f.params.length (Aw (tel.length:Nat) (BL 0 f.params.length) k.fields).2 rc fl)))=HE f j k (tel.length:Nat) rc fl:=by
 have e:(((tel++(Aw (tel.length:Nat) (BL 0 f.params.length) k.fields).1).length:Nat):Int)=(tel.length:Nat)+(k.fields.length:Nat):=by rw[List.length_append,(Bd _).1];omega
 rw[e];rfl
def Oz (f:Fam) (n:Int):Tm :=
 let q:=Aw n (BL 0 f.params.length) f.indices
 let m:=n+f.indices.length
 Bw 6 (q.1++[apply (apply (Co f.name f.levels) (Bt m (BL 0 f.params.length))) (Bt m (q.2.drop f.params.length))])
  (apply (apply (Ei (m+1) f.params.length) (Bt (m+1) (q.2.drop f.params.length))) [Ei (m+1) m])
theorem XM {f:Fam}{tel:List Tm}:Oz f (tel.length:Nat) =
  Bw 6 ((Aw (tel.length:Nat) (BL 0 f.params.length) f.indices).1++[apply (apply (Co f.name f.levels) (Bt ((tel++(Aw (tel.length:Nat) (BL 0 f.params.length) f.indices).1).length:Nat) (BL 0 f.params.length))) (Bt ((tel++(Aw (tel.length:Nat) (BL 0 f.params.length) f.indices).1).length:Nat) ((Aw (tel.length:Nat) (BL 0 f.params.length) f.indices).2.drop f.params.length))])
   (apply (apply (Ei ((tel++(Aw (tel.length:Nat) (BL 0 f.params.length) f.indices).1++[apply (apply (Co f.name f.levels) (Bt ((tel++(Aw (tel.length:Nat) (BL 0 f.params.length) f.indices).1).length:Nat) (BL 0 f.params.length))) (Bt ((tel++(Aw (tel.length:Nat) (BL 0 f.params.length) f.indices).1).length:Nat) ((Aw (tel.length:Nat) (BL 0 f.params.length) f.indices).2.drop f.params.length))]).length:Nat) (f.params.length:Nat)) (Bt ((tel++(Aw (tel.length:Nat) (BL 0 f.params.length) f.indices).1++[apply (apply (Co f.name f.levels) (Bt ((tel++(Aw (tel.length:Nat) (BL 0 f.params.length) f.indices).1).length:Nat) (BL 0 f.params.length))) (Bt ((tel++(Aw (tel.length:Nat) (BL 0 f.params.length) f.indices).1).length:Nat) ((Aw (tel.length:Nat) (BL 0 f.params.length) f.indices).2.drop f.params.length))]).length:Nat) ((Aw (tel.length:Nat) (BL 0 f.params.length) f.indices).2.drop f.params.length))) [Ei ((tel++(Aw (tel.length:Nat) (BL 0 f.params.length) f.indices).1++[apply (apply (Co f.name f.levels) (Bt ((tel++(Aw (tel.length:Nat) (BL 0 f.params.length) f.indices).1).length:Nat) (BL 0 f.params.length))) (Bt ((tel++(Aw (tel.length:Nat) (BL 0 f.params.length) f.indices).1).length:Nat) ((Aw (tel.length:Nat) (BL 0 f.params.length) f.indices).2.drop f.params.length))]).length:Nat) ((tel++(Aw (tel.length:Nat) (BL 0 f.params.length) f.indices).1).length:Nat)]):=by
 have e:(((tel++(Aw (tel.length:Nat) (BL 0 f.params.length) f.indices).1).length:Nat):Int)=(tel.length:Nat)+(f.indices.length:Nat):=by rw[List.length_append,(Bd _).1];omega
 have e2:∀X:Tm,(((tel++(Aw (tel.length:Nat) (BL 0 f.params.length) f.indices).1++[X]).length:Nat):Int)=(tel.length:Nat)+(f.indices.length:Nat)+1:=fun X=>by
  rw[List.length_append,List.length_append,(Bd _).1];simp only[List.length_cons,List.length_nil];omega
 simp only[e2];simp only[e];rfl
def Ef (f:Fam):Int→List E6→List Tm
 | _,[]=>[]
 | n,k::ks=>I1 f k n::Ef f (n+1) ks
theorem IN {f:Fam}:∀(l:List E6) (n:Int),(Ef f n l).length=l.length
 | [],_=>rfl
 | k::ks,n=>by simp only[Ef,List.length_cons];rw[IN ks]
theorem Nh {f:Fam}:∀{l:List E6}{i:Nat}{x:E6}{n:Int},l[i]?=some x→Ef f n (l.take (i+1))=Ef f n (l.take i)++[I1 f x (n+i)]
 | [],i,x,n,h=>by simp at h
 | k::ks,0,x,n,h=>by simp at h;subst h;simp[Ef]
 | k::ks,i+1,x,n,h=>by
  simp at h;simp only[List.take_succ_cons,Ef,List.cons_append,Nh h];rw[show n+1+(i:Int)=n+((i+1:Nat):Int) by omega]
def D1 (f:Fam):List Tm:=(Aw 0 [] f.params).1++[Es f true ((Aw 0 [] f.params).1.length:Nat)]++Ef f (((Aw 0 [] f.params).1++[Es f true ((Aw 0 [] f.params).1.length:Nat)]).length:Nat) f.ctors
def gg (f:Fam):Tm:=Bw 6 (D1 f) (Oz f ((D1 f).length:Nat))
def DB (f:Fam):Nat→List E6→List Tm
 | _,[]=>[]
 | j,k::ks=>Bw 5 (D1 f) (HE f j k ((D1 f).length:Nat) (.mk 3 0 (f.name++⟨#[46,114,101,99]⟩) (Ce (f.levels+1)) []) (BL 0 (D1 f).length))::DB f (j+1) ks
theorem IT {f:Fam}:∀(l:List E6) (n:Nat),(DB f n l).length=l.length
 | [],_=>rfl
 | k::ks,n=>by simp only[DB,List.length_cons];rw[IT ks]
theorem Pq {f:Fam}:∀{l:List E6}{i:Nat}{x:E6}{n:Nat},l[i]?=some x→DB f n (l.take (i+1))=DB f n (l.take i)++[Bw 5 (D1 f) (HE f ((n+i:Nat):Int) x ((D1 f).length:Nat) (.mk 3 0 (f.name++⟨#[46,114,101,99]⟩) (Ce (f.levels+1)) []) (BL 0 (D1 f).length))]
 | [],i,x,n,h=>by simp at h
 | k::ks,0,x,n,h=>by simp at h;subst h;simp[DB]
 | k::ks,i+1,x,n,h=>by
  simp at h;simp only[List.take_succ_cons,DB,List.cons_append,Pq h];rw[show n+1+i=n+(i+1) by omega]
theorem MH {f:Fam}{l:List E6}{i:Nat}{x:E6}(h:l[i]?=some x):DB f 0 (l.take (i+1))=DB f 0 (l.take i)++[Bw 5 (D1 f) (HE f (i:Int) x ((D1 f).length:Nat) (.mk 3 0 (f.name++⟨#[46,114,101,99]⟩) (Ce (f.levels+1)) []) (BL 0 (D1 f).length))]:=by
 rw[Pq h,Nat.zero_add]
theorem OS {f:Fam}{l:List E6}{i:Nat}{x:E6}{T:List Tm}(h:l[i]?=some x):T++Ef f (T.length:Nat) (l.take i)++[I1 f x ((T++Ef f (T.length:Nat) (l.take i)).length:Nat)]=T++Ef f (T.length:Nat) (l.take (i+1)):=by
 have hi:=(List.getElem?_eq_some_iff.1 h).1;rw[Nh h,List.append_assoc,show (((T++Ef f (T.length:Nat) (l.take i)).length:Nat):Int)=(T.length:Nat)+(i:Int) by rw[List.length_append,IN,List.length_take];omega]
theorem Rz {b1 b2 b3:Nat}{l:List (List PV)}{f:Fam}{k:IntKind}{n:Int}:[A8.box b1 [.p (.lst l)],.box b2 ((Bu f).map .p),.box b3 [.p (.int k n)]].Nodup:=by
 have e:∀b c:Nat,∀x:AV,A8.box b [x]≠A8.box c ((Bu f).map .p):=fun b c x h=>by
  injection h with _ h2;have:=congrArg List.length h2;rw[List.length_map,HU] at this;cases this
 refine List.nodup_cons.2 ⟨fun h=>?_,List.nodup_cons.2 ⟨fun h=>?_,List.nodup_cons.2 ⟨fun h=>(by cases h),List.nodup_nil⟩⟩⟩
 ·rcases List.mem_cons.1 h with h | h
  ·exact e _ _ _ h
  rcases List.mem_cons.1 h with h | h
  ·injection h with _ h2;injection h2 with h3 _;injection h3 with h4;cases h4
  cases h
 rcases List.mem_cons.1 h with h | h
 ·exact e _ _ _ h.symm
 cases h
end Go.Eu
namespace Go.Proofs.YtifphifongokcaaGreat
open Go.Abs Go.Eu
theorem ZK:∀(b:Nat) (o:Option Nat) (c:Nat) (tel:List Tm) (bf bp:Nat) (f:Fam),(tel.length≤50000)→(0≤f.levels∧f.levels≤1000)→(f.params.length≤1000)→(f.indices.length≤1000)→(D7 f.indices)→(I8 f.indices)→(∀t∈f.indices,size t<1099511627776)→Br Tryz.prog 70 [.ptr b 0,.ptr bf 0,.ptr bp 0] [.box b [.vs o (Av tel).length c],.vec o 5 (Av tel) c,.box bf ((Bu f).map .p),.box bp [.p (I (f.params.length:Nat))]] (fun r H'=>∃o2 c2,r= .val (TV (apply (apply (Ei ((tel++(Aw (tel.length:Nat) (BL 0 f.params.length) f.indices).1++[apply (apply (Co f.name f.levels) (Bt ((tel++(Aw (tel.length:Nat) (BL 0 f.params.length) f.indices).1).length:Nat) (BL 0 f.params.length))) (Bt ((tel++(Aw (tel.length:Nat) (BL 0 f.params.length) f.indices).1).length:Nat) ((Aw (tel.length:Nat) (BL 0 f.params.length) f.indices).2.drop f.params.length))]).length:Nat) (f.params.length:Nat)) (Bt ((tel++(Aw (tel.length:Nat) (BL 0 f.params.length) f.indices).1++[apply (apply (Co f.name f.levels) (Bt ((tel++(Aw (tel.length:Nat) (BL 0 f.params.length) f.indices).1).length:Nat) (BL 0 f.params.length))) (Bt ((tel++(Aw (tel.length:Nat) (BL 0 f.params.length) f.indices).1).length:Nat) ((Aw (tel.length:Nat) (BL 0 f.params.length) f.indices).2.drop f.params.length))]).length:Nat) ((Aw (tel.length:Nat) (BL 0 f.params.length) f.indices).2.drop f.params.length))) [Ei ((tel++(Aw (tel.length:Nat) (BL 0 f.params.length) f.indices).1++[apply (apply (Co f.name f.levels) (Bt ((tel++(Aw (tel.length:Nat) (BL 0 f.params.length) f.indices).1).length:Nat) (BL 0 f.params.length))) (Bt ((tel++(Aw (tel.length:Nat) (BL 0 f.params.length) f.indices).1).length:Nat) ((Aw (tel.length:Nat) (BL 0 f.params.length) f.indices).2.drop f.params.length))]).length:Nat) ((tel++(Aw (tel.length:Nat) (BL 0 f.params.length) f.indices).1).length:Nat)]))∧H'=[.box b [.vs o2 (Av (tel++((Aw (tel.length:Nat) (BL 0 f.params.length) f.indices).1++[apply (apply (Co f.name f.levels) (Bt ((tel++(Aw (tel.length:Nat) (BL 0 f.params.length) f.indices).1).length:Nat) (BL 0 f.params.length))) (Bt ((tel++(Aw (tel.length:Nat) (BL 0 f.params.length) f.indices).1).length:Nat) ((Aw (tel.length:Nat) (BL 0 f.params.length) f.indices).2.drop f.params.length))]))).length c2],.vec o2 5 (Av (tel++((Aw (tel.length:Nat) (BL 0 f.params.length) f.indices).1++[apply (apply (Co f.name f.levels) (Bt ((tel++(Aw (tel.length:Nat) (BL 0 f.params.length) f.indices).1).length:Nat) (BL 0 f.params.length))) (Bt ((tel++(Aw (tel.length:Nat) (BL 0 f.params.length) f.indices).1).length:Nat) ((Aw (tel.length:Nat) (BL 0 f.params.length) f.indices).2.drop f.params.length))]))) c2,.box bf ((Bu f).map .p),.box bp [.p (I (f.params.length:Nat))]]):=by
 intro b o c tel bf bp f h1 h2 h3 h4 h5 h6 h7;refine A1 Tryz.func70 O kZ (n:=39) O O (Ay (BE O (A7 Bq O) fun b4=>Bo O (As (CK (fun k=>Nat.beq k 7) Eb (Bf Az 2 [] O (Cj (j:=3) O O O (fun H i hi=>A6 (i:=i) DD O hi (Dv _)) AB Ap (Bf Az 1 [4] O (BG O (fun _=>BB O O (IM f.params.length An) O) Ap (Bf Az 2 [] O ?_)))))))));refine I5 [] [1,2] O O O (.inl ⟨O,O,O⟩) (L7 b o c tel f.indices (BL 0 f.params.length) An (fun p hp=>by have:=D0 hp;omega) (by rw[B4];omega) h5 h6 h7) ⟨_,_,rfl,rfl,⟨_,_,rfl,rfl,rfl⟩⟩ Am (CQ _) (fun _ _ ⟨_,_,_,h⟩=>by rw[h];rfl) (fun _ _ ⟨_,_,h,_⟩=>by cases h) ⟨_,_,none,0,rfl,rfl⟩ Ai ?_;rintro _ _ ⟨on,cn,h,rfl⟩;cases h;refine⟨AB,Ap,?_⟩;refine CE Az 1 [] O (Ay (A0 Az 2 [4] O (Ar O (CX (lo:=f.params.length) DX O (By (Fb _)) ⟨_,O⟩ O (by rw[List.length_map,(Bd _).2,B4];omega) (Nat.le_refl _) (N5 (f:=CG) ((Aw (tel.length:Nat) (BL 0 f.params.length) f.indices).2) f.params.length)) (Aq Az 1 [] O (As (CK (fun k=>Nat.beq k 7) Eb (BG O (fun _=>Bm O) Ap (Cj (j:=3) O O O (fun H i hi=>BR (i:=i) Gc O hi AZ) AB Ap (Bf Az 3 [] O ?_)))))))));refine FG [1,2] rfl rfl rfl (.inl ⟨rfl,rfl,rfl⟩) (IW b on cn (tel++(Aw (tel.length:Nat) (BL 0 f.params.length) f.indices).1) (((Aw (tel.length:Nat) (BL 0 f.params.length) f.indices).2).drop f.params.length) (by rw[List.length_append,(Bd _).1];omega) (fun p hp=>E4 (B:=1000000) _ (fun x hx=>by have:=D0 hx;omega) An An p (List.mem_of_mem_drop hp)) (by rw[List.length_drop,(Bd _).2,B4];omega)) ⟨_,_,rfl,rfl,⟨_,_,rfl,rfl,rfl⟩⟩ (JF (fun h=>nomatch h)) (aw (we rfl) (aw (we rfl) (FE))) AB trivial ?_;refine FG [1,2] rfl rfl rfl (.inl ⟨rfl,rfl,rfl⟩) (XE b on cn (tel++(Aw (tel.length:Nat) (BL 0 f.params.length) f.indices).1) f (Bt ((tel++(Aw (tel.length:Nat) (BL 0 f.params.length) f.indices).1).length:Nat) (((Aw (tel.length:Nat) (BL 0 f.params.length) f.indices).2).drop f.params.length)) (by rw[List.length_append,(Bd _).1];omega) h2 h3 AI) ⟨_,_,rfl,rfl,⟨_,_,rfl,rfl,rfl⟩⟩ (JF (fun h=>nomatch h)) (aw (we rfl) (aw (we rfl) (aw (we rfl) (FE)))) AB trivial ?_
 refine I5 [] [1,2] O O O (.inl ⟨O,O,O⟩) (Jw b on cn (tel++(Aw (tel.length:Nat) (BL 0 f.params.length) f.indices).1) (apply (apply (Co f.name f.levels) (Bt ((tel++(Aw (tel.length:Nat) (BL 0 f.params.length) f.indices).1).length:Nat) (BL 0 f.params.length))) (Bt ((tel++(Aw (tel.length:Nat) (BL 0 f.params.length) f.indices).1).length:Nat) (((Aw (tel.length:Nat) (BL 0 f.params.length) f.indices).2).drop f.params.length))) (by rw[List.length_append,(Bd _).1];omega)) ⟨_,_,O,O,⟨_,_,O,O,O⟩⟩ Am (CQ _) (fun _ _ ⟨_,_,_,h⟩=>by rw[h];rfl) (fun _ _ ⟨_,_,h,_⟩=>by cases h) ⟨_,_,none,0,rfl,rfl⟩ Ai ?_;rintro _ _ ⟨on1,cn1,h,rfl⟩;cases h;refine⟨AB,Ap,?_⟩;refine CE Az 1 [] O (Ay (A0 Az 2 [4] O (Ar O (Cg [1,2] O (.inl ⟨O,O,O⟩) (Jb b on1 cn1 ((tel++(Aw (tel.length:Nat) (BL 0 f.params.length) f.indices).1)++[(apply (apply (Co f.name f.levels) (Bt ((tel++(Aw (tel.length:Nat) (BL 0 f.params.length) f.indices).1).length:Nat) (BL 0 f.params.length))) (Bt ((tel++(Aw (tel.length:Nat) (BL 0 f.params.length) f.indices).1).length:Nat) (((Aw (tel.length:Nat) (BL 0 f.params.length) f.indices).2).drop f.params.length)))]) (f.params.length:Nat) (by rw[List.length_append,List.length_append,(Bd _).1];simp only[List.length_cons,List.length_nil];omega) (by first | omega | (rw[List.length_append,(Bd _).1];omega))) ⟨_,_,O,O,⟨_,_,O,O,O⟩⟩ Am O (.inl O)) (A0 Az 2 [] O ?_))));refine Ar O (Cg [1,2] O (.inl ⟨O,O,O⟩) (IW b on1 cn1 ((tel++(Aw (tel.length:Nat) (BL 0 f.params.length) f.indices).1)++[(apply (apply (Co f.name f.levels) (Bt ((tel++(Aw (tel.length:Nat) (BL 0 f.params.length) f.indices).1).length:Nat) (BL 0 f.params.length))) (Bt ((tel++(Aw (tel.length:Nat) (BL 0 f.params.length) f.indices).1).length:Nat) (((Aw (tel.length:Nat) (BL 0 f.params.length) f.indices).2).drop f.params.length)))]) (((Aw (tel.length:Nat) (BL 0 f.params.length) f.indices).2).drop f.params.length) (by rw[List.length_append,List.length_append,(Bd _).1];simp only[List.length_cons,List.length_nil];omega) (fun p hp=>E4 (B:=1000000) _ (fun x hx=>by have:=D0 hx;omega) An An p (List.mem_of_mem_drop hp)) (by rw[List.length_drop,(Bd _).2,B4];omega)) ⟨_,_,rfl,rfl,⟨_,_,rfl,rfl,rfl⟩⟩ Am rfl (.inl rfl)) ?_
 refine Ar O (BB O O (Dz (Ei (((tel++(Aw (tel.length:Nat) (BL 0 f.params.length) f.indices).1)++[(apply (apply (Co f.name f.levels) (Bt ((tel++(Aw (tel.length:Nat) (BL 0 f.params.length) f.indices).1).length:Nat) (BL 0 f.params.length))) (Bt ((tel++(Aw (tel.length:Nat) (BL 0 f.params.length) f.indices).1).length:Nat) (((Aw (tel.length:Nat) (BL 0 f.params.length) f.indices).2).drop f.params.length)))]).length:Nat) (f.params.length:Nat)) (Bt (((tel++(Aw (tel.length:Nat) (BL 0 f.params.length) f.indices).1)++[(apply (apply (Co f.name f.levels) (Bt ((tel++(Aw (tel.length:Nat) (BL 0 f.params.length) f.indices).1).length:Nat) (BL 0 f.params.length))) (Bt ((tel++(Aw (tel.length:Nat) (BL 0 f.params.length) f.indices).1).length:Nat) (((Aw (tel.length:Nat) (BL 0 f.params.length) f.indices).2).drop f.params.length)))]).length:Nat) (((Aw (tel.length:Nat) (BL 0 f.params.length) f.indices).2).drop f.params.length)) (by simp only[Cb,Bt,List.length_map,List.length_drop,(Bd _).2,B4];omega)) O) ?_;refine A0 Az 2 [] O (Ar O (Cg [1,2] O (.inl ⟨O,O,O⟩) (Jb b on1 cn1 ((tel++(Aw (tel.length:Nat) (BL 0 f.params.length) f.indices).1)++[(apply (apply (Co f.name f.levels) (Bt ((tel++(Aw (tel.length:Nat) (BL 0 f.params.length) f.indices).1).length:Nat) (BL 0 f.params.length))) (Bt ((tel++(Aw (tel.length:Nat) (BL 0 f.params.length) f.indices).1).length:Nat) (((Aw (tel.length:Nat) (BL 0 f.params.length) f.indices).2).drop f.params.length)))]) (((tel++(Aw (tel.length:Nat) (BL 0 f.params.length) f.indices).1).length:Nat):Int) (by rw[List.length_append,List.length_append,(Bd _).1];simp only[List.length_cons,List.length_nil];omega) (by first | omega | (rw[List.length_append,(Bd _).1];omega))) ⟨_,_,O,O,⟨_,_,O,O,O⟩⟩ Am O (.inl O)) ?_)
 refine Ar O (Ba (rows:=Av ([(Ei (((tel++(Aw (tel.length:Nat) (BL 0 f.params.length) f.indices).1)++[(apply (apply (Co f.name f.levels) (Bt ((tel++(Aw (tel.length:Nat) (BL 0 f.params.length) f.indices).1).length:Nat) (BL 0 f.params.length))) (Bt ((tel++(Aw (tel.length:Nat) (BL 0 f.params.length) f.indices).1).length:Nat) (((Aw (tel.length:Nat) (BL 0 f.params.length) f.indices).2).drop f.params.length)))]).length:Nat) (((tel++(Aw (tel.length:Nat) (BL 0 f.params.length) f.indices).1).length:Nat):Int))])) BY Bq O O O O (By (Bn _)) (ED _)) ?_;refine Ar O (BB O O (Dz (apply (Ei (((tel++(Aw (tel.length:Nat) (BL 0 f.params.length) f.indices).1)++[(apply (apply (Co f.name f.levels) (Bt ((tel++(Aw (tel.length:Nat) (BL 0 f.params.length) f.indices).1).length:Nat) (BL 0 f.params.length))) (Bt ((tel++(Aw (tel.length:Nat) (BL 0 f.params.length) f.indices).1).length:Nat) (((Aw (tel.length:Nat) (BL 0 f.params.length) f.indices).2).drop f.params.length)))]).length:Nat) (f.params.length:Nat)) (Bt (((tel++(Aw (tel.length:Nat) (BL 0 f.params.length) f.indices).1)++[(apply (apply (Co f.name f.levels) (Bt ((tel++(Aw (tel.length:Nat) (BL 0 f.params.length) f.indices).1).length:Nat) (BL 0 f.params.length))) (Bt ((tel++(Aw (tel.length:Nat) (BL 0 f.params.length) f.indices).1).length:Nat) (((Aw (tel.length:Nat) (BL 0 f.params.length) f.indices).2).drop f.params.length)))]).length:Nat) (((Aw (tel.length:Nat) (BL 0 f.params.length) f.indices).2).drop f.params.length))) ([(Ei (((tel++(Aw (tel.length:Nat) (BL 0 f.params.length) f.indices).1)++[(apply (apply (Co f.name f.levels) (Bt ((tel++(Aw (tel.length:Nat) (BL 0 f.params.length) f.indices).1).length:Nat) (BL 0 f.params.length))) (Bt ((tel++(Aw (tel.length:Nat) (BL 0 f.params.length) f.indices).1).length:Nat) (((Aw (tel.length:Nat) (BL 0 f.params.length) f.indices).2).drop f.params.length)))]).length:Nat) (((tel++(Aw (tel.length:Nat) (BL 0 f.params.length) f.indices).1).length:Nat):Int))]) (show (1:Nat)<Cb by decide)) rfl) ?_;refine Aq Az 1 [0,1] O (A4 (⟨O,_,_,⟨_,_,O,(BO (i:=0) Bx O O Ad),O⟩,(Dn (is:=[1,2,3,4]) O),?_⟩));rw[←List.append_assoc]
 all_goals exact⟨_,_,rfl,rfl⟩
theorem XX:∀(ds:List Ck) (d:Ck),(Vi d)→(d.name.size<Cb)→(HR d=0)→((BQ d).sort.kind=2)→D3 Tryz.prog 65 [.p (.lst (List.map D9 ds)),.agg ((D9 d).map .p)] (.tup [.p (.bool true),.p (I 0)]):=by
 intro ds d h1 h2 h3 h4;refine A1 Tryz.func65 O j0 (n:=32) O O (Ay (BE O (BT O) fun b3=>Aq Az 2 [] O (Ay (Ar O (BR (i:=0) Ru O O Ae) (Ar O (BB O O (N7 d h1 h2) O) (A0 Az 3 [] O (BE O (A7 Q7 O) fun b6=>BE O (A7 gW O) fun b7=>Ar O (CF (i:=1) Gc O O O AZ (by first | rfl | simp[HU]) (Q2 _)) (Aq Az 1 [0,0] O (As (Au Az 2 [0] O (A2 O (fun c=>?_) (fun c=>?_))))))))))))
 ·(try simp only[sd,se] at c);exfalso;omega
 (try simp only[sd,se] at c);refine A5 (As (Ay (A0 Az 2 [] O ?_)));generalize hz:BQ d=z;obtain⟨zn,zl,zp,zi,zs,zc⟩:=z;obtain⟨zsk,zsi,zsn,zsl,zss⟩:=zs;refine Aq Az 2 [1] O (A2 O (fun c1=>?_) (fun c1=>?_))
 ·(try simp only[sd,se] at c1);refine Au Az 2 [] O (A4 (⟨O,_,_,⟨_,_,O,O,⟨_,_,O,O,O⟩⟩,(List.nil_sublist _),?_⟩))
  all_goals exact⟨rfl,rfl⟩
 (try simp only[sd,se] at c1);exfalso;first | exact c1 h4 | (simp_all [Tm.kind];done)
theorem Ov:∀(fid:Nat) (caps:List AV) (b:Nat) (tel:List Tm) (new:List Tm) (t:Tm) (G:List A8) (h1:tel.length≤100000) (hf:∀b' o' c',Br Tryz.prog fid ([.ptr b' 0]++caps) (.box b' [.vs o' (Av tel).length c']:: .vec o' 5 (Av tel) c'::G) (fun r H'=>∃o2 c2,r= .val (TV t)∧H'= .box b' [.vs o2 (Av (tel++new)).length c2]:: .vec o2 5 (Av (tel++new)) c2::G)),Br Tryz.prog 114 [.ptr b 0,.fn (.func fid) [] caps] (.box b [.p (.lst (Av tel))]::G) (FV (.tup [iu new,TV t]) (.box b [.p (.lst (Av tel))]::G)):=by
 intro fid caps b tel new t G h1 hf;refine A1 Tryz.func114 O bO (n:=30) O O (Ay (Iw O (BE O (A7 Bq O) fun b5=>Bo O (Ay (JG O O (Gk BY) fun b8 cp=>A0 Az 4 [2] O (Dp O O (B3 (i:=0) (rows':=Av tel) BY BY Bq O O O O O O (Bn _) AU (Fe [] tel)) fun o cp1=>Ar O (CC Km Wf O) (BE O (BT O) fun b15=>Aq Az 1 [] O (Ay (A0 Az 2 [] O (JP (SD (a:=[_,_]) (b:=[_,_]) (c:=G)) ?_))))))))));refine Eo [_,_] O O O (.inr O) (hf b15 o cp1) (CQ _) ?_ (fun _ _ ⟨_,_,h,_⟩=>by cases h);rintro _ _ ⟨on,cn,h,rfl⟩;cases h;refine BE O (A7 Bq O) fun b7=>Aq Az 1 [0,1] O (As (BU (CR (i:=4) (j:=3) (q:=0) [] O O O (C6 Ap)) (CK (fun k=>false) Eb (Bf Az 8 [3,2] O (BG O (fun _=>BH BY O (BD _)) Ap (BG O (fun _=>CX (lo:=tel.length) BY O (By (Bn _)) ⟨_,O⟩ O Ac (Nat.le_refl _) (MK (tel++new) tel.length)) Ap (CE Az 3 [0,1,1] O (A4 (⟨O,_,_,⟨_,_,O,O,⟨_,_,O,(BO (i:=1) Bx O O Ad),O⟩⟩,(Fu [2] [_,_,_,_] O),?_⟩)))))))))
 all_goals exact⟨by show (.tup [.p (.lst (Av ((tel++new).drop tel.length))),.agg ((Bc t).map .p)]:AV)=_;simp,rfl⟩
theorem gy:∀(fid:Nat) (caps:List AV) (b:Nat) (tel:List Tm) (new:List Tm) (t:Tm) (G:List A8) (h1:tel.length≤100000) (h2:D7 new) (h3:new.length<Cb) (hf:∀b' o' c',Br Tryz.prog fid ([.ptr b' 0]++caps) (.box b' [.vs o' (Av tel).length c']:: .vec o' 5 (Av tel) c'::G) (fun r H'=>∃o2 c2,r= .val (TV t)∧H'= .box b' [.vs o2 (Av (tel++new)).length c2]:: .vec o2 5 (Av (tel++new)) c2::G)),Br Tryz.prog 69 [.ptr b 0,.fn (.func fid) [] caps] (.box b [.p (.lst (Av tel))]::G) (FV (TV (Bw 6 new t)) (.box b [.p (.lst (Av tel))]::G)):=by
 intro fid caps b tel new t G h1 h2 h3 hf;refine A1 Tryz.func69 O iN (n:=11) O O (Ay (BE O (A7 Bq O) fun b4=>Bo O (Ay (A0 Az 2 [] O (Eo [_] O O O (.inl ⟨O,O,O⟩) (Ov fid caps b tel new t G h1 hf) (CQ _) ?_ (fun _ _ h=>h.elim))))));rintro _ _ ⟨rfl,rfl⟩;refine A0 Az 2 [] O (Ar O (BB O O (Td new t h2 h3) O) (Aq Az 1 [0,1] O (A4 (⟨O,_,_,⟨_,_,O,(BO (i:=0) Bx O O Ad),O⟩,(Fu [1] [_,_] O),?_⟩))))
 all_goals exact⟨rfl,rfl⟩
theorem VM:∀(b:Nat) (tel:List Tm) (bc bp bf brc bfi bj:Nat) (k:E6) (f:Fam) (rc:Tm) (fl:List Int) (j:Int),(tel.length≤40000)→(0≤f.levels∧f.levels≤1000)→(f.params.length≤1000)→(Vs k)→(∀p∈fl,-1000000≤p∧p≤1000000)→(fl.length≤1000000)→(0≤j∧j≤1000)→Br Tryz.prog 114 [.ptr b 0,.fn (.func 115) [] [.ptr bc 0,.ptr bp 0,.ptr bf 0,.ptr brc 0,.ptr bfi 0,.ptr bj 0]] [.box b [.p (.lst (Av tel))],.box bc ((Ca k).map .p),.box bp [.p (I (f.params.length:Nat))],.box bf ((Bu f).map .p),.box brc ((Bc rc).map .p),.box bfi [.p (.lst (List.map CG fl))],.box bj [.p (I j)]] (FV (.tup [.p (.lst (Av ((Aw (tel.length:Nat) (BL 0 f.params.length) k.fields).1))),.agg ((Bc (apply (Ei ((tel++(Aw (tel.length:Nat) (BL 0 f.params.length) k.fields).1).length:Nat) (f.params.length+1+j)) (Bt ((tel++(Aw (tel.length:Nat) (BL 0 f.params.length) k.fields).1).length:Nat) ((Aw (tel.length:Nat) (BL 0 f.params.length) k.fields).2.drop f.params.length)++k.recs.map (HN ((tel++(Aw (tel.length:Nat) (BL 0 f.params.length) k.fields).1).length:Nat) f.params.length (Aw (tel.length:Nat) (BL 0 f.params.length) k.fields).2 rc fl)))).map .p)]) [.box b [.p (.lst (Av tel))],.box bc ((Ca k).map .p),.box bp [.p (I (f.params.length:Nat))],.box bf ((Bu f).map .p),.box brc ((Bc rc).map .p),.box bfi [.p (.lst (List.map CG fl))],.box bj [.p (I j)]]):=fun b tel bc bp bf brc bfi bj k f rc fl j h1 h2 h3 h4 h5 h6 h7=>Ov 115 [.ptr bc 0,.ptr bp 0,.ptr bf 0,.ptr brc 0,.ptr bfi 0,.ptr bj 0] b tel (Aw (tel.length:Nat) (BL 0 f.params.length) k.fields).1 (apply (Ei ((tel++(Aw (tel.length:Nat) (BL 0 f.params.length) k.fields).1).length:Nat) (f.params.length+1+j)) (Bt ((tel++(Aw (tel.length:Nat) (BL 0 f.params.length) k.fields).1).length:Nat) ((Aw (tel.length:Nat) (BL 0 f.params.length) k.fields).2.drop f.params.length)++k.recs.map (HN ((tel++(Aw (tel.length:Nat) (BL 0 f.params.length) k.fields).1).length:Nat) f.params.length (Aw (tel.length:Nat) (BL 0 f.params.length) k.fields).2 rc fl))) [.box bc ((Ca k).map .p),.box bp [.p (I (f.params.length:Nat))],.box bf ((Bu f).map .p),.box brc ((Bc rc).map .p),.box bfi [.p (.lst (fl.map CG))],.box bj [.p (I j)]] An (fun b' o' c'=>Ze b' o' c' tel bc bp bf brc bfi bj k f rc fl j h1 h2 h3 h4 h5 h6 h7)
set_option maxHeartbeats 2000000 in
theorem ZD:∀(b:Nat) (tel:List Tm) (f:Fam) (j lv:Int) (k:E6),(tel.length≤40000)→(0≤f.levels∧f.levels≤1000)→(f.params.length≤1000)→(Vs k)→(0≤j∧j≤1000)→(f.ctors[j.toNat]?=some k)→(0≤lv∧lv≤1000)→(f.name.size<Cb)→Br Tryz.prog 77 [.agg ((Bu f).map .p),.p (I j),.ptr b 0,.p (I lv)] [.box b [.p (.lst (Av tel))]] (FV (.agg ((Bc (HE f j k (tel.length:Nat) (.mk 3 0 (f.name++⟨#[46,114,101,99]⟩) (Ce lv) []) (BL 0 tel.length))).map .p)) [.box b [.p (.lst (Av tel))]]):=by
 intro b tel f j lv k h1 h2 h3 h4 h5 h6 h7 h8;have hlf:=h4.lf;have hlc:=h4.lc;refine A1 Tryz.func77 O kO (n:=39) O O (Ay (BE O (BT O) fun b4=>BE O (BT O) fun b5=>BE O (A7 Bq O) fun b8=>Bo O (Ay (Ar O (A3 E9 O O) (Ar O (A6 (i:=2) QI O O (DR _)) (Ar O (CJ (i:=1) Hd O O O) (Ar O (BC KQ O O An (He h6) (Fk _)) (Ar O (Bg I0 O (Fk _)) (BE O (A7 Ls O) fun b9=>Ar O (CF (i:=0) I0 O O O Ab AS (K1 _)) (Bo O (Ay (Ar O (A3 E9 O O) (Ar O (A6 (i:=3) DD O O (Cf _)) (Ar O (BH BY O (BD _)) (BE O (A7 XC O) fun b10=>Aq Az 1 [0,0] O (As ?_))))))))))))))));refine D8 [.val (.ptr b4 (0+0)),.val (.p (.str f.name)),.val (.p (.str (f.name++⟨#[46,114,101,99]⟩))),.val (.p (I lv)),.val (.p (.lst (List.map B6 (Ce lv)))),.val (.agg [.p (I 3),.p (I 0),.p (.str (f.name++⟨#[46,114,101,99]⟩)),.p (.lst (List.map B6 (Ce lv))),.p (.nils)]),.new [.p (I 0),.p (I 0),.p (.str ⟨#[]⟩),.p (.nils),.p (.nils)]] Eb O Ai Ai (BN O (fun Bs=>A3 E9 O O) (BN O (fun Bs=>A6 (i:=Bs.length+4) S3 O (CL O) (Ip _)) (BN O (fun Bs=>S4 O O (by have:(⟨#[46,114,101,99]⟩:ByteArray).size=4:=rfl;simp only[Cb] at h8;omega)) (BN O (fun Bs=>Bm O) (BN O (fun Bs=>BB O O (L5 lv h7) O) (BN O (fun Bs=>CC KO Bq O) (FB O (fun Bs=>A7 Bq O) fun b11=>FD ?_)))))))
 change AL _ _ _ 7 ⟨39,_,[.box b11 [.p (I 0),.p (I 0),.p (.str ⟨#[]⟩),.p (.nils),.p (.nils)],.box b10 [.p (I (f.params.length:Nat))],.box b9 ((Ca k).map .p),.box b8 [.p (I 0),.p (I 0),.p (.str ⟨#[]⟩),.p (.nils),.p (.nils)],.box b5 [.p (I j)],.box b4 ((Bu f).map .p),.box b [.p (.lst (Av tel))]],[]⟩ _
 refine Aq Az 1 [0,0] O (Ay (A0 Az 4 [6] O (Ar O (BH BY O (BD _)) (Ar O (BB O O (IM tel.length An) O) (BE O (A7 Xe O) fun b12=>Aq Az 1 [0,0] O (Ay (B7 (CB (i:=1) O) (A0 Az 2 [] O ?_))))))));refine Ar O (Cg [7,3,2,6,1,0,5] O (.inl ⟨O,O,O⟩) (VM b tel b9 b10 b4 b11 b12 b5 k f (.mk 3 0 (f.name++⟨#[46,114,101,99]⟩) (Ce lv) []) (BL 0 tel.length) j h1 h2 h3 h4 (fun p hp=>by have:=D0 hp;omega) (by rw[B4];omega) h5) ⟨_,_,rfl,rfl,⟨_,_,rfl,rfl,⟨_,_,rfl,rfl,⟨_,_,rfl,rfl,⟨_,_,rfl,rfl,⟨_,_,rfl,rfl,⟨_,_,rfl,rfl,rfl⟩⟩⟩⟩⟩⟩⟩ Am rfl (.inl rfl)) ?_;refine A0 Az 2 [] O (Ar O (BB O O (Qz ((Aw (tel.length:Nat) (BL 0 f.params.length) k.fields).1) (apply (Ei ((tel++(Aw (tel.length:Nat) (BL 0 f.params.length) k.fields).1).length:Nat) (f.params.length+1+j)) (Bt ((tel++(Aw (tel.length:Nat) (BL 0 f.params.length) k.fields).1).length:Nat) ((Aw (tel.length:Nat) (BL 0 f.params.length) k.fields).2.drop f.params.length)++k.recs.map (HN ((tel++(Aw (tel.length:Nat) (BL 0 f.params.length) k.fields).1).length:Nat) f.params.length (Aw (tel.length:Nat) (BL 0 f.params.length) k.fields).2 (.mk 3 0 (f.name++⟨#[46,114,101,99]⟩) (Ce lv) []) (BL 0 tel.length)))) (Gw (by rw[B4];simp only[Cb];omega) h4.nf h4.vf) (by rw[(Bd _).1];simp only[Cb];omega)) O) (Aq Az 1 [4,1] O (A4 ?_)));refine⟨O,_,_,⟨_,_,O,(BO (i:=4) Bx O O Ad),O⟩,(Dn (is:=[7]) O),?_⟩
 all_goals exact⟨by show (.agg ((Bc (Bw 5 ((Aw (tel.length:Nat) (BL 0 f.params.length) k.fields).1) (apply (Ei ((tel++(Aw (tel.length:Nat) (BL 0 f.params.length) k.fields).1).length:Nat) (f.params.length+1+j)) (Bt ((tel++(Aw (tel.length:Nat) (BL 0 f.params.length) k.fields).1).length:Nat) ((Aw (tel.length:Nat) (BL 0 f.params.length) k.fields).2.drop f.params.length)++k.recs.map (HN ((tel++(Aw (tel.length:Nat) (BL 0 f.params.length) k.fields).1).length:Nat) f.params.length (Aw (tel.length:Nat) (BL 0 f.params.length) k.fields).2 (.mk 3 0 (f.name++⟨#[46,114,101,99]⟩) (Ce lv) []) (BL 0 tel.length)))))).map .p):AV)=_;rw[YE],rfl⟩
theorem X2:∀(b:Nat) (tel:List Tm) (bf bp:Nat) (f:Fam),(tel.length≤50000)→(0≤f.levels∧f.levels≤1000)→(f.params.length≤1000)→(f.indices.length≤1000)→(D7 f.indices)→(I8 f.indices)→(∀t∈f.indices,size t<1099511627776)→(f.name.size<Cb)→Br Tryz.prog 69 [.ptr b 0,.fn (.func 70) [] [.ptr bf 0,.ptr bp 0]] [.box b [.p (.lst (Av tel))],.box bf ((Bu f).map .p),.box bp [.p (I (f.params.length:Nat))]] (FV (.agg ((Bc (Oz f (tel.length:Nat))).map .p)) [.box b [.p (.lst (Av tel))],.box bf ((Bu f).map .p),.box bp [.p (I (f.params.length:Nat))]]):=fun b tel bf bp f h1 h2 h3 h4 h5 h6 h7 h8=>by rw[XM];exact gy 70 [.ptr bf 0,.ptr bp 0] b tel ((Aw (tel.length:Nat) (BL 0 f.params.length) f.indices).1++[apply (apply (Co f.name f.levels) (Bt ((tel++(Aw (tel.length:Nat) (BL 0 f.params.length) f.indices).1).length:Nat) (BL 0 f.params.length))) (Bt ((tel++(Aw (tel.length:Nat) (BL 0 f.params.length) f.indices).1).length:Nat) ((Aw (tel.length:Nat) (BL 0 f.params.length) f.indices).2.drop f.params.length))]) (apply (apply (Ei ((tel++(Aw (tel.length:Nat) (BL 0 f.params.length) f.indices).1++[apply (apply (Co f.name f.levels) (Bt ((tel++(Aw (tel.length:Nat) (BL 0 f.params.length) f.indices).1).length:Nat) (BL 0 f.params.length))) (Bt ((tel++(Aw (tel.length:Nat) (BL 0 f.params.length) f.indices).1).length:Nat) ((Aw (tel.length:Nat) (BL 0 f.params.length) f.indices).2.drop f.params.length))]).length:Nat) (f.params.length:Nat)) (Bt ((tel++(Aw (tel.length:Nat) (BL 0 f.params.length) f.indices).1++[apply (apply (Co f.name f.levels) (Bt ((tel++(Aw (tel.length:Nat) (BL 0 f.params.length) f.indices).1).length:Nat) (BL 0 f.params.length))) (Bt ((tel++(Aw (tel.length:Nat) (BL 0 f.params.length) f.indices).1).length:Nat) ((Aw (tel.length:Nat) (BL 0 f.params.length) f.indices).2.drop f.params.length))]).length:Nat) ((Aw (tel.length:Nat) (BL 0 f.params.length) f.indices).2.drop f.params.length))) [Ei ((tel++(Aw (tel.length:Nat) (BL 0 f.params.length) f.indices).1++[apply (apply (Co f.name f.levels) (Bt ((tel++(Aw (tel.length:Nat) (BL 0 f.params.length) f.indices).1).length:Nat) (BL 0 f.params.length))) (Bt ((tel++(Aw (tel.length:Nat) (BL 0 f.params.length) f.indices).1).length:Nat) ((Aw (tel.length:Nat) (BL 0 f.params.length) f.indices).2.drop f.params.length))]).length:Nat) ((tel++(Aw (tel.length:Nat) (BL 0 f.params.length) f.indices).1).length:Nat)]) [.box bf ((Bu f).map .p),.box bp [.p (I (f.params.length:Nat))]] An (FZ.2 ⟨Gw (by rw[B4];simp only[Cb];omega) h5 h6,⟨ET (ET (Mk h8 h2) (Gy (by rw[List.length_append,(Bd _).1];omega) fun p hp=>by have:=D0 hp;omega)) (Gy (by rw[List.length_append,(Bd _).1];omega) (fun p hp=>E4 (B:=1000000) _ (fun x hx=>by have:=D0 hx;omega) An An p (List.mem_of_mem_drop hp))),trivial⟩⟩) (by rw[List.length_append,(Bd _).1];simp only[Cb,List.length_cons,List.length_nil];omega) (fun b' o' c'=>ZK b' o' c' tel bf bp f h1 h2 h3 h4 h5 h6 h7)
theorem _root_.Go.AD {α:Prop}(h:α:=by simp only[D1,Cb,List.length_append,(Bd _).1,IN,List.length_cons,List.length_nil,List.length_take];omega):α:=h
theorem _root_.Go.AE {α:Prop}(h:α:=by simp only[D1,List.length_append,(Bd _).1,IN,List.length_cons,List.length_nil,List.length_take];omega):α:=h
theorem _root_.Go.AG {α:Prop}(h:α:=by simp only[List.length_append,(Bd _).1,IN,List.length_cons,List.length_nil,List.length_take];omega):α:=h
set_option maxHeartbeats 8000000 in
theorem aH:∀(ds:List Ck) (d:Ck),(Vi d)→(d.name.size<Cb)→(HR d=0)→((BQ d).sort.kind=2)→(0≤(BQ d).levels∧(BQ d).levels≤7)→((BQ d).params.length≤1000)→((BQ d).indices.length≤1000)→(D7 (BQ d).indices)→(I8 (BQ d).indices)→(∀t∈(BQ d).indices,size t<1099511627776)→((BQ d).name.size<Cb)→(D7 (BQ d).params∧I8 (BQ d).params∧∀t∈(BQ d).params,size t<1099511627776)→((BQ d).ctors.length≤1000)→(∀k∈(BQ d).ctors,Vs k)→(D7 (D1 (BQ d)))→(∀t∈[gg (BQ d)]++DB (BQ d) 0 (BQ d).ctors,Nd t∧size t≤4096∧Dq t≤200)→D3 Tryz.prog 23 [.p (.lst (List.map D9 ds)),.agg ((D9 d).map .p)] (.tup [.agg ((Hv (Qu.mk ((BQ d).levels+1) (gg (BQ d)) (DB (BQ d) 0 (BQ d).ctors))).map .p),.p (I 0)]):=by
 intro ds d h1 h2 h3 h4 h5 h6 h7 h8 h9 h10 h11 h12 h13 h14 h15 h16;have h5b:0≤(BQ d).levels∧(BQ d).levels≤1000:=by omega
 refine A1 Tryz.func23 O jk (n:=130) O O (Ay (BE O (BT O) fun b3=>BE O (A7 aF O) fun b4=>Aq Az 1 [] O (Ay (Ar O (BR (i:=1) Ru O O Ae) (Ar O (BB O O (N7 d h1 h2) O) (A0 Az 3 [] O (BE O (A7 Q7 O) fun b6=>Ar O (CF (i:=0) Gc O O O AZ (by first | rfl | simp[HU]) (Q2 _)) (Aq Az 1 [] O (As (Au Az 2 [] O (A2 O (fun c=>?_) (fun c=>?_))))))))))))
 ·(try simp only[sd,se] at c);exfalso;omega
 (try simp only[sd,se] at c);refine A5 (Ay (A0 Az 2 [2] O (Ar O (BB O O (XX ds d h1 h2 h3 h4) O) (Aq Az 5 [] O (As (Au Az 2 [] O (A2 O (fun c1=>?_) (fun c1=>?_))))))))
 ·(try simp only[sd,se] at c1);exact absurd c1 Am
 (try simp only[sd,se] at c1);refine A5 (Ay (Ar O (A3 E9 O O) (Ar O (A6 (i:=0) Hd O O (DJ _)) (Ar O (CC Vz aF O) (BE O (A7 aF O) fun b9=>Aq Az 1 [0,0] O (As (Au Az 1 [] O ?_)))))));refine A2 O (fun c2=>?_) (fun c2=>by cases c2);refine Ax (Aq Az 5 [0,0,0] O (As (Au Az 3 [0] O (A2 O (fun c3=>?_) (fun c3=>?_)))))
 ·(try simp only[sd,se] at c3);exfalso;omega
 (try simp only[sd,se] at c3);refine A5 (Ay (Ar O (CC Km Wf O) (BE O (BT O) fun b48=>Aq Az 1 [] O (Ay (Ar O (A3 E9 O O) (Ar O (A6 (i:=2) DD O O (Cf _)) (Ar O (BH BY O (BD _)) (BE O (A7 XC O) fun b11=>Aq Az 1 [0,0] O (Ay (B7 (Ew (i:=1) O (Mx (aw (E3) (FE)))) (B7 (EM (sz:=5)) (A0 Az 2 [] O (Ar O (A6 (i:=4) DD O O (Cf _)) (A0 Az 2 [] O ?_))))))))))))));refine Gg [2,0] rfl rfl rfl (.inl ⟨rfl,rfl,rfl⟩) (L7 b48 none 0 ([]:List Tm) ((BQ d).params) [] Ah (fun p hp=>nomatch hp) Ao h12.1 h12.2.1 h12.2.2) ⟨_,_,rfl,rfl,⟨_,_,rfl,rfl,rfl⟩⟩ Am ((aw (we rfl) (aw (we rfl) (aw (Du rfl) (aw (we rfl) FE))))) ?_ (fun _ _ ⟨_,_,h,_⟩=>by cases h);rintro _ _ ⟨on,cn,h,rfl⟩;cases h;refine⟨O,?_⟩;refine Bo O (Ay (CA O (Ar O (BR (i:=4) Gc O O AZ) (A0 Az 2 [] O (Ar O (Cg [2,0] O (.inl ⟨O,O,O⟩) (P4 b48 on cn ((Aw 0 [] (BQ d).params).1) (BQ d) true (by rw[(Bd _).1];omega) h5b h6 h7 h8 h9 h10 h11) ⟨_,_,O,O,⟨_,_,O,O,O⟩⟩ Am O (.inl O)) ?_)))));refine Gg [2,0] O O O (.inl ⟨O,O,O⟩) (Jw b48 on cn ((Aw 0 [] (BQ d).params).1) (Es (BQ d) true (((Aw 0 [] (BQ d).params).1).length:Nat)) AG) ⟨_,_,O,O,⟨_,_,O,O,O⟩⟩ Am (CQ _) ?_ (fun _ _ ⟨_,_,h,_⟩=>by cases h);rintro _ _ ⟨on1,cn1,h,rfl⟩;cases h;refine⟨O,?_⟩;refine Bo O (As (Ay (Ar O (A3 E9 O O) (Ar O (A6 (i:=4) QI O O (DR _)) (Ar O (BH KQ O (List.length_map _)) (Aq Az 1 [] O (BA ?_)))))))
 refine Bh (α:=Nat×Option Nat×Nat) (fun(i,o,cp)=>⟨130,mk [(4,.ptr b4 0),(6,.ptr b6 0),(9,.ptr b9 0),(10,.ptr b48 0),(11,.ptr b11 0),(66,.p (I (((BQ d).ctors).length:Nat))),(67,.p (I (i:Int)))],[.vec o 5 (Av ((Aw 0 [] (BQ d).params).1++[Es (BQ d) true ((Aw 0 [] (BQ d).params).1.length:Nat)]++Ef (BQ d) (((Aw 0 [] (BQ d).params).1++[Es (BQ d) true ((Aw 0 [] (BQ d).params).1.length:Nat)]).length:Nat) ((BQ d).ctors.take i))) cp,.box b11 [.p (I (((BQ d).params).length:Nat))],.box b48 [.vs o (Av ((Aw 0 [] (BQ d).params).1++[Es (BQ d) true ((Aw 0 [] (BQ d).params).1.length:Nat)]++Ef (BQ d) (((Aw 0 [] (BQ d).params).1++[Es (BQ d) true ((Aw 0 [] (BQ d).params).1.length:Nat)]).length:Nat) ((BQ d).ctors.take i))).length cp],.box b9 [.p (I (((BQ d).levels:Int)+(1:Int))),.p (I 0),.p (I 0),.p (.str ⟨#[]⟩),.p (.nils),.p (.nils),.p (.nils)],.box b6 ((Bu (BQ d)).map .p),.box b4 [.p (I 0),.p (I 0),.p (I 0),.p (.str ⟨#[]⟩),.p (.nils),.p (.nils),.p (.nils)]],[]⟩) (fun(i,o,cp)=>(BQ d).ctors.length - i) (fun(i,o,cp)=>i≤(BQ d).ctors.length) ⟨0,on1,cn1⟩ AO ?_ ?_
 ·exact BZ ⟨we O,we O,we O,we O,we O,we O,we O,Ap⟩ (leH (is:=[0,1,2,3,4,5]) O (wl (C5 (((Aw 0 [] (BQ d).params).1)++[(Es (BQ d) true (((Aw 0 [] (BQ d).params).1).length:Nat))]) (by simp[Ef])) (wl (oe O) (wl (Mx (aw (we (DM (((Aw 0 [] (BQ d).params).1)++[(Es (BQ d) true (((Aw 0 [] (BQ d).params).1).length:Nat))]) (by simp[Ef]))) (FE))) (wl (oe O) (wl (oe O) (wl (oe O) (DF))))))))
 rintro⟨i,o,cp⟩ hC
 try simp only at hC
 have hi:=hC;refine Au Az 1 [] O (As (A2 O (fun c4=>?_) (fun c4=>?_)))
 ·(try simp only[sd,se] at c4);refine A5 (As (BA (Au Az 2 [] O (Ax (CA O (Ar O (BR (i:=4) Gc O O AZ) (A0 Az 2 [] O ?_)))))));obtain⟨x,hx⟩:=A9 (l:=(BQ d).ctors) (i:=i) An;refine Ar O (Cg [2,0] O (.inl ⟨O,O,O⟩) (Sf b48 o cp ((Aw 0 [] (BQ d).params).1++[Es (BQ d) true ((Aw 0 [] (BQ d).params).1.length:Nat)]++Ef (BQ d) (((Aw 0 [] (BQ d).params).1++[Es (BQ d) true ((Aw 0 [] (BQ d).params).1.length:Nat)]).length:Nat) ((BQ d).ctors.take i)) (BQ d) (i:Int) x AG h5b h6 (h14 x (List.mem_of_getElem? hx)) An (by rw[Int.toNat_natCast];exact hx)) ⟨_,_,O,O,⟨_,_,O,O,O⟩⟩ Am O (.inl O)) ?_;refine Gg [2,0] O O O (.inl ⟨O,O,O⟩) (Jw b48 o cp ((Aw 0 [] (BQ d).params).1++[Es (BQ d) true ((Aw 0 [] (BQ d).params).1.length:Nat)]++Ef (BQ d) (((Aw 0 [] (BQ d).params).1++[Es (BQ d) true ((Aw 0 [] (BQ d).params).1.length:Nat)]).length:Nat) ((BQ d).ctors.take i)) (I1 (BQ d) x (((Aw 0 [] (BQ d).params).1++[Es (BQ d) true ((Aw 0 [] (BQ d).params).1.length:Nat)]++Ef (BQ d) (((Aw 0 [] (BQ d).params).1++[Es (BQ d) true ((Aw 0 [] (BQ d).params).1.length:Nat)]).length:Nat) ((BQ d).ctors.take i)).length:Nat)) AG) ⟨_,_,O,O,⟨_,_,O,O,O⟩⟩ Am (CQ _) ?_ (fun _ _ ⟨_,_,h,_⟩=>by cases h);rintro _ _ ⟨on2,cn2,h,rfl⟩;cases h;refine⟨O,?_⟩;refine Bo O (Ax (Aq Az 2 [] O ?_))
  refine⟨⟨i+1,on2,cn2⟩,AQ,by omega,BZ ⟨we rfl,we rfl,we rfl,we rfl,we rfl,we rfl,we rfl,trivial⟩ (leH (is:=[0,1,2,3,4,5]) rfl (wl (C5 (((Aw 0 [] (BQ d).params).1++[Es (BQ d) true ((Aw 0 [] (BQ d).params).1.length:Nat)]++Ef (BQ d) (((Aw 0 [] (BQ d).params).1++[Es (BQ d) true ((Aw 0 [] (BQ d).params).1.length:Nat)]).length:Nat) ((BQ d).ctors.take i))++[(I1 (BQ d) x (((Aw 0 [] (BQ d).params).1++[Es (BQ d) true ((Aw 0 [] (BQ d).params).1.length:Nat)]++Ef (BQ d) (((Aw 0 [] (BQ d).params).1++[Es (BQ d) true ((Aw 0 [] (BQ d).params).1.length:Nat)]).length:Nat) ((BQ d).ctors.take i)).length:Nat))]) (by rw[OS hx])) (wl (oe rfl) (wl (Mx (aw (we (DM (((Aw 0 [] (BQ d).params).1++[Es (BQ d) true ((Aw 0 [] (BQ d).params).1.length:Nat)]++Ef (BQ d) (((Aw 0 [] (BQ d).params).1++[Es (BQ d) true ((Aw 0 [] (BQ d).params).1.length:Nat)]).length:Nat) ((BQ d).ctors.take i))++[(I1 (BQ d) x (((Aw 0 [] (BQ d).params).1++[Es (BQ d) true ((Aw 0 [] (BQ d).params).1.length:Nat)]++Ef (BQ d) (((Aw 0 [] (BQ d).params).1++[Es (BQ d) true ((Aw 0 [] (BQ d).params).1.length:Nat)]).length:Nat) ((BQ d).ctors.take i)).length:Nat))]) (by rw[OS hx]))) (FE))) (wl (oe rfl) (wl (oe rfl) (wl (oe rfl) (DF))))))))⟩
 (try simp only[sd,se] at c4);refine Bk (As ?_);generalize hK:(Aw 0 [] (BQ d).params).1++[Es (BQ d) true ((Aw 0 [] (BQ d).params).1.length:Nat)]++Ef (BQ d) (((Aw 0 [] (BQ d).params).1++[Es (BQ d) true ((Aw 0 [] (BQ d).params).1.length:Nat)]).length:Nat) ((BQ d).ctors.take i)=K;obtain rfl:K=D1 (BQ d):=by rw[←hK,show i=(BQ d).ctors.length by omega,List.take_length];rfl
 refine BU (CR (i:=0) (j:=2) (q:=0) [] O O O (C6 Ap)) (CK (fun k=>false) Eb (Bf Az 6 [1] O (FG [1,3,0] O O O (.inl ⟨O,O,O⟩) (X2 b48 (D1 (BQ d)) b6 b11 (BQ d) AE h5b h6 h7 h8 h9 h10 h11) ⟨_,_,O,O,⟨_,_,O,O,⟨_,_,O,O,O⟩⟩⟩ (by first | (simp;done) | exact Rz) (aw (we O) (aw (we O) (FE))) AB Ap (BG O (fun _=>BB O O (Td (D1 (BQ d)) (Oz (BQ d) ((D1 (BQ d)).length:Nat)) h15 AD) O) Ap (BG O (fun _=>A3 Vz O O) Ap ?_)))));generalize hz:Bw 6 (D1 (BQ d)) (Oz (BQ d) ((D1 (BQ d)).length:Nat))=z;obtain⟨zk,zi,zn,zl,zs⟩:=z;refine CE Az 1 [2,0] O (As (Ay (B7 (Ew (i:=2) O (Mx (aw (we O) (aw (we O) (aw (we O) (aw (we O) (aw (we O) (aw (we O) (aw (E3) (FE)))))))))) (B7 (EM (sz:=5)) (Ar O (A3 E9 O O) (Ar O (A6 (i:=4) QI O O (DR _)) (Ar O (BH KQ O (List.length_map _)) (Aq Az 1 [] O (BA ?_)))))))));refine Bh (α:=Nat×Option Nat×Nat) (fun(i2,o1,cp1)=>⟨130,mk [(4,.ptr b4 0),(6,.ptr b6 0),(9,.ptr b9 0),(10,.ptr b48 0),(88,.p (I (((BQ d).ctors).length:Nat))),(89,.p (I (i2:Int)))],[.vec o1 5 (Av (DB (BQ d) 0 ((BQ d).ctors.take i2))) cp1,.box b48 [.p (.lst (Av (D1 (BQ d))))],.box b9 [.p (I (((BQ d).levels:Int)+(1:Int))),.p (I zk),.p (I zi),.p (.str zn),.p (.lst (List.map B6 zl)),.p (.lst (Av zs)),.vs o1 (Av (DB (BQ d) 0 ((BQ d).ctors.take i2))).length cp1],.box b6 ((Bu (BQ d)).map .p),.box b4 [.p (I 0),.p (I 0),.p (I 0),.p (.str ⟨#[]⟩),.p (.nils),.p (.nils),.p (.nils)]],[]⟩) (fun(i2,o1,cp1)=>(BQ d).ctors.length - i2) (fun(i2,o1,cp1)=>i2≤(BQ d).ctors.length) ⟨0,none,0⟩ AO ?_ ?_
 ·exact BZ ⟨we O,we O,we O,we O,we O,we O,Ap⟩ (leH (is:=[0,2,3,4,5]) O (wl (C5 [] (by simp[DB])) (wl (oe O) (wl (Mx (aw (we O) (aw (we O) (aw (we O) (aw (we O) (aw (we O) (aw (we O) (aw (we (DM [] (by simp[DB]))) (FE))))))))) (wl (oe O) (wl (oe O) (DF)))))))
 rintro⟨i2,o1,cp1⟩ hC1
 try simp only at hC1
 have hi:=hC1;refine Au Az 1 [] O (As (A2 O (fun c5=>?_) (fun c5=>?_)))
 ·(try simp only[sd,se] at c5);refine A5 (As (BA (Au Az 2 [] O (CK (fun k=>Nat.beq k 14) Eb (Bf Az 6 [2,1] O (Cj (j:=3) O O O (fun H i hi=>BR (i:=i) Gc O hi AZ) AB Ap (Bf Az 4 [2] O ?_)))))));obtain⟨y,hy⟩:=A9 (l:=(BQ d).ctors) (i:=i2) An;refine FG [1] O O O (.inl ⟨O,O,O⟩) (ZD b48 (D1 (BQ d)) (BQ d) (i2:Int) (((BQ d).levels:Int)+(1:Int)) y AE h5b h6 (h14 y (List.mem_of_getElem? hy)) An (by rw[Int.toNat_natCast];exact hy) An h11) ⟨_,_,O,O,O⟩ (by first | (simp;done) | exact Rz) (aw (we O) (aw (we O) (aw (we O) (aw (we O) (FE))))) AB Ap (BG O (fun _=>BB O O (Qz (D1 (BQ d)) (HE (BQ d) (i2:Int) y ((D1 (BQ d)).length:Nat) (.mk 3 0 ((BQ d).name++⟨#[46,114,101,99]⟩) (Ce (((BQ d).levels:Int)+(1:Int))) []) (BL 0 (D1 (BQ d)).length)) h15 AD) O) Ap ?_);refine BG O (fun _=>Ba (rows:=Av ([(Bw 5 (D1 (BQ d)) (HE (BQ d) (i2:Int) y ((D1 (BQ d)).length:Nat) (.mk 3 0 ((BQ d).name++⟨#[46,114,101,99]⟩) (Ce (((BQ d).levels:Int)+(1:Int))) []) (BL 0 (D1 (BQ d)).length)))])) BY Bq O O O O (By (Bn _)) (ED _)) Ap ?_;refine Mm [] O O (B3 (i:=0) (rows':=Av ([(Bw 5 (D1 (BQ d)) (HE (BQ d) (i2:Int) y ((D1 (BQ d)).length:Nat) (.mk 3 0 ((BQ d).name++⟨#[46,114,101,99]⟩) (Ce (((BQ d).levels:Int)+(1:Int))) []) (BL 0 (D1 (BQ d)).length)))])) BY BY Bq O O O O O O (Bn _) (by simp[BD,IT];omega) (Fe (DB (BQ d) 0 ((BQ d).ctors.take i2)) ([(Bw 5 (D1 (BQ d)) (HE (BQ d) (i2:Int) y ((D1 (BQ d)).length:Nat) (.mk 3 0 ((BQ d).name++⟨#[46,114,101,99]⟩) (Ce (((BQ d).levels:Int)+(1:Int))) []) (BL 0 (D1 (BQ d)).length)))]))) (fun h=>absurd (congrArg List.length h) Ac) O Ai fun b106 cp2=>⟨AB,Ap,?_⟩;refine CE Az 2 [2,0] O (Ax (Aq Az 2 [] O ?_))
  refine⟨⟨i2+1,(some b106),cp2⟩,AQ,by omega,BZ ⟨we rfl,we rfl,we rfl,we rfl,we rfl,we rfl,trivial⟩ (leH (is:=[0,1,2,3,4]) rfl (wl (C5 (DB (BQ d) 0 ((BQ d).ctors.take i2)++([(Bw 5 (D1 (BQ d)) (HE (BQ d) (i2:Int) y ((D1 (BQ d)).length:Nat) (.mk 3 0 ((BQ d).name++⟨#[46,114,101,99]⟩) (Ce (((BQ d).levels:Int)+(1:Int))) []) (BL 0 (D1 (BQ d)).length)))])) (by rw[MH hy])) (wl (oe rfl) (wl (Mx (aw (we rfl) (aw (we rfl) (aw (we rfl) (aw (we rfl) (aw (we rfl) (aw (we rfl) (aw (we (DM (DB (BQ d) 0 ((BQ d).ctors.take i2)++([(Bw 5 (D1 (BQ d)) (HE (BQ d) (i2:Int) y ((D1 (BQ d)).length:Nat) (.mk 3 0 ((BQ d).name++⟨#[46,114,101,99]⟩) (Ce (((BQ d).levels:Int)+(1:Int))) []) (BL 0 (D1 (BQ d)).length)))])) (by rw[MH hy]))) (FE))))))))) (wl (oe rfl) (wl (oe rfl) (DF)))))))⟩
 (try simp only[sd,se] at c5);refine Bk (As (Ay ?_));generalize hK2:DB (BQ d) 0 ((BQ d).ctors.take i2)=K;obtain rfl:K=DB (BQ d) 0 (BQ d).ctors:=by rw[←hK2,show i2=(BQ d).ctors.length by omega,List.take_length]
 refine B7 (CR (i:=0) (j:=2) (q:=6) [] O O O (C6 Ap)) (Ar O (A3 Vz O O) (Ar O (FO (i:=1) Bx O O O O) (JG O O (L8 (rows:=Av [(.mk zk zi zn zl zs:Tm)]) BY Bq O O O O (By (Bn _)) (ED _)) fun b111 cp2=>A0 Az 2 [2] O (Dp O O (B3 (i:=0) (rows':=Av (DB (BQ d) 0 (BQ d).ctors)) BY BY Bq O O O O O O (Bn _) (by simp[BD,IT];omega) (Fe [(.mk zk zi zn zl zs:Tm)] (DB (BQ d) 0 (BQ d).ctors))) fun o2 cp3=>Ar O (EP BY O (BD _)) ?_))));have hL3:([(.mk zk zi zn zl zs:Tm)]++(DB (BQ d) 0 (BQ d).ctors)).length=(BQ d).ctors.length+1:=by simp[IT]
 refine B7 (CM (i:=0) [114] O (C6 ⟨O,Ap⟩)) (Aq Az 1 [] O (BA (Bh (α:=Nat) (fun i3=>⟨130,mk [(4,.ptr b4 0),(9,.ptr b9 0),(114,.p (.lst (Av ([(.mk zk zi zn zl zs:Tm)]++(DB (BQ d) 0 (BQ d).ctors))))),(115,.p (I (([(.mk zk zi zn zl zs:Tm)]++(DB (BQ d) 0 (BQ d).ctors)).length:Nat))),(116,.p (I (i3:Int)))],[.box b9 [.p (I (((BQ d).levels:Int)+(1:Int))),.p (I zk),.p (I zi),.p (.str zn),.p (.lst (List.map B6 zl)),.p (.lst (Av zs)),.p (.lst (Av (DB (BQ d) 0 (BQ d).ctors)))],.box b4 [.p (I 0),.p (I 0),.p (I 0),.p (.str ⟨#[]⟩),.p (.nils),.p (.nils),.p (.nils)]],[]⟩) (fun i3=>(BQ d).ctors.length+1 - i3) (fun i3=>i3≤(BQ d).ctors.length+1) 0 AO ?_ ?_)))
 ·exact BZ ⟨we O,we O,we O,we O,we O,Ap⟩ (leH (is:=[1,3]) O (wl (oe O) (wl (oe O) (DF))))
 rintro i3 hC2
 try simp only at hC2
 have hi:=hC2;refine Au Az 1 [] O (As (A2 O (fun c6=>?_) (fun c6=>?_)))
 ·(try simp only[sd,se] at c6);refine A5 (As (BA (Ay ?_)));obtain⟨x,hx⟩:=A9 (l:=[(.mk zk zi zn zl zs:Tm)]++(DB (BQ d) 0 (BQ d).ctors)) (i:=i3) An;refine Ar O (BC BY O O An (B0 hx) (BF _)) (Ar O (Bg Bx O (BF _)) (BE O (A7 Bq O) fun b15=>Aq Az 1 [0,1] O (As (Ay (Ar O (BR (i:=0) Bx O O Ad) ?_)))));have ht:=h16 x (by show x∈[Bw 6 (D1 (BQ d)) (Oz (BQ d) ((D1 (BQ d)).length:Nat))]++_;rw[hz];exact List.mem_of_getElem? hx);refine Ar O (BB O O (Y1 x ht.1 An) O) (Aq Az 1 [] O (A2 O (fun c7=>?_) (fun c7=>?_)))
  ·(try simp only[sd,se] at c7);exfalso;omega
  (try simp only[sd,se] at c7);refine A5 (Ay (Ar O (BR (i:=0) Bx O O Ad) (Ar O (BB O O (Wj (size x) x (Nat.le_refl _) ht.1) O) (Aq Az 1 [] O (A2 O (fun c8=>?_) (fun c8=>?_))))))
  ·(try simp only[sd,se] at c8);exfalso;omega
  (try simp only[sd,se] at c8);refine A5 (Ax (Aq Az 2 [] O ?_));refine⟨(i3+1),AQ,by omega,BZ ⟨we rfl,we rfl,we rfl,we rfl,we rfl,trivial⟩ (leH (is:=[1,2]) rfl (wl (oe rfl) (wl (oe rfl) (DF))))⟩
 (try simp only[sd,se] at c6);refine Bk (Au Az 3 [0,1,0] O (A4 (⟨O,_,_,⟨_,_,O,(BO (i:=1) ep O O O),⟨_,_,O,O,O⟩⟩,(List.nil_sublist _),?_⟩)))
 all_goals exact⟨by show (.tup [.agg [.p (I (((BQ d).levels:Int)+(1:Int))),.p (I zk),.p (I zi),.p (.str zn),.p (.lst (List.map B6 zl)),.p (.lst (Av zs)),.p (.lst (Av (DB (BQ d) 0 (BQ d).ctors)))],.p (I 0)]:AV)=_;rw[show gg (BQ d)= .mk zk zi zn zl zs from hz];rfl,rfl⟩
theorem dg (l:List HZ):∀r∈l.map Eg,∀c∈r,c≠ .nils:=by
 intro r hr;obtain⟨t,_,rfl⟩:=List.mem_map.1 hr;intro c hc;simp only[Eg,List.mem_cons] at hc;rcases hc with rfl | hc
 ·simp
 exact mW _ c hc
theorem QJ (l:List CN):∀r∈l.map B6,∀c∈r,c≠ .nils:=by
 intro r hr;obtain⟨t,_,rfl⟩:=List.mem_map.1 hr;simp[B6]
set_option maxHeartbeats 4000000 in
theorem Zd:D3 Tryz.prog 24 [] (.agg ((D9 HG).map .p)):=by
 refine A1 Tryz.func24 O jP (n:=14) O O (Ay (BE O (A7 hP O) fun b0=>Bo O (Ay (Ar O (EN O O (JW ⟨#[78,97,116]⟩ []) (aw (we O) (aw (Du O) (FE)))) (BE O (A7 Bq O) fun b1=>Aq Az 1 [0,1] O (As (CK (fun k=>false) Eb (BG O (fun _=>CC (cs:=[.p (I 0),.p (.nils)]) VC G0 Ai) Ap (BG O (fun _=>Bz (cs:=[.p (I 0),.p (.lst [])]) E1 G0 O O Ai O O) Ap (BG O (fun _=>CC (cs:=[.p (I 2),.p (I 0),.p (.str ⟨#[]⟩),.p (.lst (List.map B6 ([(CN.mk 0 [])]))),.p (.nils)]) KO Bq Ai) Ap (Bf Az 1 [0] O (BG O (fun _=>CC (cs:=[.p (.str ⟨#[78,97,116,46,122,101,114,111]⟩),.p (I 3),.p (I 0),.p (.str ⟨#[78,97,116]⟩),.p (.lst (List.map B6 [])),.p (.lst (Av []))]) QK ZZ Ai) Ap (Bf Az 2 [0,0] O ?_)))))))))))));refine BG O (fun _=>BB O O (LJ (.mk 3 0 ⟨#[78,97,116]⟩ [] []:Tm) (.mk 3 0 ⟨#[78,97,116]⟩ [] []:Tm)) O) Ap (BG O (fun _=>CC (cs:=[.p (.str ⟨#[78,97,116,46,115,117,99,99]⟩),.p (I 6),.p (I 0),.p (.str ⟨#[]⟩),.p (.lst (List.map B6 [])),.p (.lst (Av ([(.mk 3 0 ⟨#[78,97,116]⟩ [] []:Tm),(.mk 3 0 ⟨#[78,97,116]⟩ [] []:Tm)])))]) QK ZZ Ai) Ap (BG O (fun _=>Ba (rows:=List.map Eg ([(HZ.mk ⟨#[78,97,116,46,122,101,114,111]⟩ (.mk 3 0 ⟨#[78,97,116]⟩ [] []:Tm)),(HZ.mk ⟨#[78,97,116,46,115,117,99,99]⟩ (.mk 6 0 ⟨#[]⟩ [] ([(.mk 3 0 ⟨#[78,97,116]⟩ [] []:Tm),(.mk 3 0 ⟨#[78,97,116]⟩ [] []:Tm)]):Tm))])) Md ZZ O O O O (By (Vn _)) (dg _)) Ap ?_));refine BG O (fun _=>CC (cs:=[.p (I 3),.p (.str ⟨#[78,97,116]⟩),.p (I 0),.p (I 2),.p (I 0),.p (.str ⟨#[]⟩),.p (.lst (List.map B6 ([(CN.mk 0 [])]))),.p (.nils),.p (I 0),.p (I 0),.p (.str ⟨#[]⟩),.p (.nils),.p (.nils),.p (I 0),.p (.lst (List.map Eg ([(HZ.mk ⟨#[78,97,116,46,122,101,114,111]⟩ (.mk 3 0 ⟨#[78,97,116]⟩ [] []:Tm)),(HZ.mk ⟨#[78,97,116,46,115,117,99,99]⟩ (.mk 6 0 ⟨#[]⟩ [] ([(.mk 3 0 ⟨#[78,97,116]⟩ [] []:Tm),(.mk 3 0 ⟨#[78,97,116]⟩ [] []:Tm)]):Tm))]))),.p (I 0),.p (I 0),.p (I 0),.p (.str ⟨#[]⟩),.p (.nils),.p (.nils),.p (.nils),.p (.nils)]) EO hP Ai) Ap ?_
 refine Jc O O (CF (i:=1) (us:=[.p (I 3),.p (.str ⟨#[78,97,116]⟩),.p (I 0),.p (I 2),.p (I 0),.p (.str ⟨#[]⟩),.p (.lst (List.map B6 ([(CN.mk 0 [])]))),.p (.nils),.p (I 0),.p (I 0),.p (.str ⟨#[]⟩),.p (.nils),.p (.nils),.p (I 0),.p (.lst (List.map Eg ([(HZ.mk ⟨#[78,97,116,46,122,101,114,111]⟩ (.mk 3 0 ⟨#[78,97,116]⟩ [] []:Tm)),(HZ.mk ⟨#[78,97,116,46,115,117,99,99]⟩ (.mk 6 0 ⟨#[]⟩ [] ([(.mk 3 0 ⟨#[78,97,116]⟩ [] []:Tm),(.mk 3 0 ⟨#[78,97,116]⟩ [] []:Tm)]):Tm))]))),.p (I 0),.p (I 0),.p (I 0),.p (.str ⟨#[]⟩),.p (.nils),.p (.nils),.p (.nils),.p (.nils)]) Ru O O O O O O) AB Ap (KZ O Ai (BU (CB (i:=1) O) (A4 (⟨O,_,_,⟨_,_,O,(BO (i:=1) Ru O O O),O⟩,(List.nil_sublist _),?_⟩))))
 all_goals exact⟨rfl,rfl⟩
theorem VA:∀(xs:List Tm) (t:Tm),(xs.length<Cb)→D3 Tryz.prog 30 [.p (.lst (Av xs)),.agg ((Bc t).map .p)] (.agg ((Bc (Bw 5 xs t)).map .p)):=by
 intro xs t h1;refine A1 Tryz.func30 O jM (n:=8) O O (Ay (BE O (BT O) fun b3=>BE O (A7 Bq O) fun b4=>Bo O (Ay (A0 Az 2 [1] O (Ar O (BB O O (Ub 5 xs t h1) O) (Aq Az 1 [0,1] O (A4 (⟨O,_,_,⟨_,_,O,(BO (i:=0) Bx O O Ad),O⟩,(List.nil_sublist _),?_⟩))))))))
 all_goals exact⟨rfl,rfl⟩
end Go.Proofs.YtifphifongokcaaGreat
namespace Go.Eu
open Go.Abs
def Vv:Tm:=Bw 5 HM (HE Ik 0 Pj 3 ZR (BL 0 3))
def Vg:Tm:=Bw 5 HM (HE Ik 1 MD 3 ZR (BL 0 3))
theorem gK:Nd Ct:=(GR.1 Am).nd
theorem cu:Vi HG:=by
 refine⟨(GR.1 Am).nd,by decide,by decide,by decide,fun c hc=>?_⟩;simp only[HG,List.mem_cons,List.not_mem_nil,or_false] at hc;rcases hc with rfl | rfl
 ·exact⟨gK,by decide⟩
 exact⟨(GR.1 Am).nd,by decide⟩
theorem aO:D7 [Ct]:=⟨gK,trivial⟩
theorem gE:∀k∈Ik.ctors,Vs k:=by
 intro k hk;simp only[Ik,List.mem_cons,List.not_mem_nil,or_false] at hk;rcases hk with rfl | rfl
 ·exact⟨Ap,Fv (fun t h=>by cases h),fun t h=>(by cases h),by decide,by decide,fun r h=>(by cases h),trivial,Fv (fun t h=>by cases h),fun t h=>(by cases h),by decide,by decide⟩
 have h1:=GR.1 (show okB Ct=true by decide);have all:∀{p:Tm→Prop},p Ct→∀t∈[Ct],p t:=fun h t ht=>by
  simp only[List.mem_cons,List.not_mem_nil,or_false] at ht;subst ht;exact h
 refine⟨aO,Fv (all h1.vp),all Am,by decide,by decide,fun r h=>?_,trivial,Fv (fun t h=>by cases h),fun t h=>(by cases h),by decide,by decide⟩;simp only[MD,List.mem_cons,List.not_mem_nil,or_false] at h;subst h;exact⟨⟨by decide,trivial,Fv (fun t h=>by cases h),fun t h=>(by cases h),by decide,trivial,Fv (fun t h=>by cases h),fun t h=>(by cases h),by decide⟩,by decide⟩
theorem cZ:D1 Ik=HM:=by rfl
theorem bY:gg Ik=Ix:=by rfl
theorem Rk:DB Ik 0 Ik.ctors=[Vv,Vg]:=by rfl
theorem iC:∀t∈HM,okB t=true:=by
 intro t h;simp only[HM,List.mem_cons,List.not_mem_nil,or_false] at h;rcases h with rfl | rfl | rfl<;>rfl
theorem gh:D7 (D1 Ik):=by
 rw[cZ];have h:=fun t ht=>(GR.1 (iC t ht)).nd;exact⟨h _ (by simp[HM]),h _ (by simp[HM]),h _ (by simp[HM]),Ap⟩
theorem cH:okB Ix=true:=by rfl
theorem fI:okB Vv=true:=by rfl
theorem ax:okB Vg=true:=by rfl
theorem eW:∀t∈[gg Ik]++DB Ik 0 Ik.ctors,Nd t∧size t≤4096∧Dq t≤200:=by
 rw[bY,Rk];intro t h;simp only[List.cons_append,List.nil_append,List.mem_cons,List.not_mem_nil,or_false] at h;rcases h with rfl | rfl | rfl
 ·exact⟨(GR.1 cH).nd,by decide,by decide⟩
 ·exact⟨(GR.1 fI).nd,by decide,by decide⟩
 exact⟨(GR.1 ax).nd,by decide,by decide⟩
end Go.Eu
namespace Go.Abs
theorem U9 {F:Nat→Prop}{w:World}{sz:Nat}{rows:List (List PV)}{vs:List Value}{T:TypeId}(hbd:∀b,F b→b<w.heap.size) (hr:∀r∈rows,r.length=sz) (hl:Bl F w (rows.flatten.map .p) (vs.take (rows.flatten.length)))
  :B2 F (World.push w (.cells ⟨vs⟩ T (0,0))) (.p (.lstc rows)) (.slice (some ⟨w.heap.size,0,none⟩) rows.length rows.length):=by
 simp only[B2,CI];right;refine⟨w.heap.size,0,sz,O,?_,by simp[World.push],?_⟩
 ·intro h;have:=hbd _ h;omega
 refine GM (vs:=vs.take (rows.flatten.length)) hr ?_ (Bl.mono (Fl _ fun b h=> .inl h) _ _ hl);have:=Gi (JS (w:=w) (.cells ⟨vs⟩ T (0,0))) 0 rows.flatten.length;simpa using this
section
variable {P:Program}{dst:Option Tmp}{ty:TypeId}{pos:String}{aft:Array Edge}{g:Option (Nat×Bool)}{ρ:Operand→AV}{H:List A8}{x y:Operand}
set_option maxHeartbeats 1000000 in
theorem Mc {T e:TypeId}{len sz bytes:Nat}{parts:Array (Nat×Operand)}{z:Value}{cs:List AV}{ps:List PV}{rows:List (List PV)}(hT:Ds P T=some (e,sz,bytes)) (hz:zeroOf P e=some z) (hsz:z.cells.size=sz) (hpos:(Nat.blt 0 sz&&Nat.ble (len*sz) 16777216)=true)
  (hc:Ff (fun i=>some (i*sz,sz)) (List.replicate len (z.cells.toList.map EH)).flatten (parts.toList.map fun p=>(p.1,norm (ρ p.2)))=some cs) (hp:E8 cs=some ps) (hr:chunks sz len ps=rows) :
  DT P ⟨dst,.buildSlice T len parts,ty,pos,aft,g⟩ ρ H (.p (.lstc rows)) H :=
 FI fun F w E hH hE=>by
  obtain⟨hu,i,hi,hs,hby⟩:=DP hT;simp only[Bool.and_eq_true,Nat.blt_eq,Nat.ble_eq] at hpos;unfold zeroOf at hz;have hz':∃j,P.info? e=some j∧j.zero=some z:=by
   cases hq:P.info? e with
   | none=>simp[hq] at hz
   | some j=>exact⟨j,rfl,by simpa [hq] using hz⟩
  obtain⟨j,hj,hz'⟩:=hz';have hzv:(zeroValue e).run P w= .ok z w:=by simp[zeroValue,typeInfo,hj,hz',Sem.run_bind]
  have hzl:Bl F w (List.replicate len (z.cells.toList.map EH)).flatten (List.replicate len z.cells.toList).flatten:=Em (Et _) len;obtain⟨us,hf,hrep⟩:=GG (F:=F) (w:=w) (place:=fun i=>some (i*sz,sz)) _ (parts.toList.map fun p=>(p.1,E p.2)) _ _ _ Ao (by
   intro j p q h1 h2;simp only[List.getElem?_map] at h1 h2;cases hj:parts.toList[j]? with
   | none=>simp[hj] at h1
   | some t =>
    simp[hj] at h1 h2;subst h1;subst h2;exact⟨O,(hE _ (by
     have:=List.mem_of_getElem? hj;simp only[Op.operands];exact List.mem_map.2 ⟨t,this,O⟩)).norm⟩) hzl hc
  have hcs:=FR hp;have hlen:ps.length=len*sz:=by
   have h1:cs.length=((List.replicate len (z.cells.toList.map EH)).flatten).length:=by
    clear hrep hp hcs hzl hf;generalize (List.replicate len (z.cells.toList.map EH)).flatten=l at hc;generalize (parts.toList.map fun p=>(p.1,norm (ρ p.2)))=q at hc
    induction q generalizing l with
    | nil=>simp[Ff] at hc;rw[hc]
    | cons a q ih =>
     obtain⟨i,x⟩:=a;simp only[Ff] at hc;cases hx:EI x with
     | none=>simp[hx] at hc
     | some c2 =>
      simp only[hx] at hc;split at hc
      ·rw[ih _ hc,D5]
      cases hc
   rw[hcs] at h1;simp only[List.length_map,List.length_flatten,List.map_replicate,List.sum_replicate_nat,Array.length_toList,hsz] at h1;exact h1
  obtain⟨c1,c2,c3⟩:=Hi hlen;rw[hr] at c1 c2 c3;have hul:us.length=ps.length:=by rw[hrep.length,hcs];simp
  refine⟨_,_,.p (.lstc rows),H,F,?_,⟨O,O⟩,ML H (.cells ⟨us⟩ e (0,0)),N3 hH _,U9 hH.bd c2 (by rw[c1,←hul,List.take_length];rw[hcs] at hrep;exact hrep)⟩;have hszr:(sizeOf e).run P w= .ok sz w:=by simp[sizeOf,typeInfo,hi,hs]
  have hzc:z.cells=⟨z.cells.toList⟩:=rfl;have hrm:=Fm z.cells.toList len;have hsz2:z.cells.toList.length=sz:=by simpa using hsz
  rw[hsz2] at hrm;have harr:((Array.range (len*sz)).map fun i=>z.cells[i % z.cells.size]!)=⟨(List.replicate len z.cells.toList).flatten⟩:=by
   apply Array.ext';exact hrm
  simp only[execOp,Instr.buildSlice,Sem.run_bind,run_underlying hu,Result.andThen_ok,hszr];rw[if_neg An];simp only[Sem.run_pure,Result.andThen_ok,Sem.run_bind,pure_bind];have hf':Instr.fill (fun i=>some (i*sz,sz)) ⟨(List.replicate len z.cells.toList).flatten⟩ (parts.map fun p=>(p.1,E p.2)).toList=some ⟨us⟩:=by
   rw[←hf];simp
  by_cases h00:len*sz=0
  ·have hl0:len=0:=by
    rcases Nat.mul_eq_zero.1 h00 with h | h
    ·exact h
    omega
   subst hl0;simp only[Nat.zero_mul,if_true];simp only[List.replicate_zero,List.flatten_nil] at hf';have e0:(Array.map (fun x=>(#[]:Array Value)[x % (#[]:Array Value).size]!) (Array.range 0))=(⟨[]⟩:Array Value):=by simp
   rw[e0,hf'];simp only[newRow,newObj,Sem.run_bind,Sem.run,Result.andThen,Sem.run_pure];rw[c3];rfl
  rw[if_neg h00];simp only[Sem.run_bind,hzv,Result.andThen_ok];rw[harr,hf'];simp only[newRow,newObj,Sem.run_bind,Sem.run,Result.andThen,Sem.run_pure];rw[c3];rfl
theorem L0 {T e:TypeId}{len sz bytes:Nat}{parts:Array (Nat×Operand)}{z:Value}{rows:List (List PV)}(hT:Ds P T=some (e,sz,bytes)) (hz:zeroOf P e=some z) (hsz:z.cells.size=sz) (hpos:(Nat.blt 0 sz&&Nat.ble (len*sz) 16777216)=true)
  (hp:parts.toList.map (fun p=>(p.1,ρ p.2))=ER 0 rows) (hl:rows.length=len) (hr:∀r∈rows,r.length=sz) (hn:∀r∈rows,∀c∈r,c≠ .nils) :
  DT P ⟨dst,.buildSlice T len parts,ty,pos,aft,g⟩ ρ H (.p (.lstc rows)) H:=by
 subst hl;refine Mc (cs:=rows.flatten.map .p) (ps:=rows.flatten) hT hz hsz hpos ?_ (Ii _) (Hu hr);rw[KE hp hn,Kj rows 0 _ hr (by simp[hsz])];simp
theorem Ly {T T2 e e2:TypeId}{sz bytes n2 n3 d:Nat}{rows rows' all:List (List PV)}{zv:Value}(hT:Ds P T=some (e,sz,bytes)) (hT2:Ds P T2=some (e2,n2,n3)) (hz:zeroOf P e=some zv) (hzs:zv.cells.size=sz) (hb0:(Nat.blt 0 sz&&Nat.blt 0 bytes)=true)
  (hx:ρ x= .p (.lstc rows)) (hr:∀r∈rows,r.length=sz) (hy:norm (ρ y)= .p (.lst rows')) (hsol:∀r∈rows',DC sz r) (hne:0<rows'.length) (hroom:2*(rows.length+rows'.length)*bytes≤281474976710656) (hall:rows++rows'=all) :
  DT P ⟨some d,.call { callee:= .builtin .append,args:=#[x,y],argTypes:=#[T,T2] },ty,pos,aft,g⟩ ρ H (.p (.lst all)) H:=by
 subst hall;intro r F S a w hs hH hρ hd;subst hH;have h:=MX (P:=P) (dst:=some d) (ty:=ty) (pos:=pos) (aft:=aft) (g:=g) (ρ:=ρ) (H:=S.H) (rows:=rows) hT hT2 hz hzs hb0 hx hr hy hsol hne hroom r F S a w hs rfl hρ hd;refine H4 h ?_ ?_
 ·rintro a' w' ⟨v,H',F',⟨o',c',rfl,rfl⟩,hs',ht⟩;obtain⟨F'',hs'',ht''⟩:=CM (n:=S.n) (τ:=put S.τ (some d) (.vs (some o') (rows++rows').length c')) (H:= .vec (some o') sz (rows++rows') c'::S.H) (D:=S.D) (i:=0) [d] rfl (fun t ht=>by simp at ht;subst ht;simp[put]) F' a' w' hs';have e:JU [d] (.p (.lst (rows++rows'))) (put S.τ (some d) (.vs (some o') (rows++rows').length c'))=put S.τ (some d) (.p (.lst (rows++rows'))):=by
   funext t;simp only[JU,put,List.any_cons,List.any_nil,Bool.or_false];cases Nat.beq t d<;>rfl
  simp only[e,List.eraseIdx_cons_zero] at hs'' ht'';exact⟨_,S.H,F'',⟨O,O⟩,hs'',ht.trans hs.heap.bd ht''⟩
 rintro e a' w' ⟨v,H',F',u,h,_⟩;exact h.elim
end
end Go.Abs
namespace Go.Proofs.YtifphifongokcaaGreat
open Go.Abs Go.Eu
theorem aZ:D3 Tryz.prog 23 [.p (.lst (List.map D9 [])),.agg ((D9 HG).map .p)] (.tup [.agg ((Hv ⟨1,Ix,[Vv,Vg]⟩).map .p),.p (I 0)]):=by
 have h:=aH [] HG cu Am Yr;rw[Z8] at h;have h2:=h rfl Am Am Am trivial (Fv (fun t h=>by cases h)) (fun t h=>(by cases h)) Am ⟨trivial,Fv (fun t h=>by cases h),fun t h=>(by cases h)⟩ Am gE gh eW;rw[bY,Rk] at h2;exact h2
theorem dR (xs:List Tm) (t:Tm) (h:xs.length<Cb):D3 Tryz.prog 29 [.p (.lstc (Av xs)),TV t] (TV (Bw 6 xs t)) :=
 (Nf xs t h).args (aw (PM _) (aw (we rfl) FE))
theorem RQ (a b:Tm) (h1:okB a=true) (h2:a=b):D3 Tryz.prog 31 [TV a,TV b] (.p (.bool true)):=by
 have:=QC (size a) a b (Nat.le_refl _) (GR.1 h1).nd
 rwa [DH h2] at this
theorem _root_.Go.Ak {α:Prop}(h:α:=by simp[Cb]):α:=h
set_option maxHeartbeats 4000000 in
theorem Lf:D3 Tryz.prog 6 [] (.p (.bool true)):=by
 refine A1 Tryz.func6 O nU (n:=96) O O (As (Ea (M:=⟨96,mk [],[],[]⟩) (EU Ap (List.Sublist.refl _)) (Ax (Aq Az 1 [] O (As (Ea (M:=⟨96,mk [],[],[]⟩) (EU Ap (List.Sublist.refl _)) (Ax (Ar O (BB O O (Zd ) O) (Ar O (EN O O (aZ ) (aw (Du O) (aw (we O) (FE)))) (A0 Az 3 [] O (BE O (A7 aF O) fun b1=>Ar O (CF (i:=0) ep O O O (by simp[HY]) (by first | rfl | simp[HY]) (ZP _)) (Aq Az 1 [] O (As (Ea (M:=⟨96,mk [(1,.ptr b1 0),(2,.p (I 0))],[.box b1 ((Hv (Qu.mk 1 Ix [Vv,Vg])).map .p)],[]⟩) (EU ⟨O,O,Ap⟩ (List.Sublist.refl _)) (Ax (Ar O (EN O O (JW ⟨#[78,97,116]⟩ []) (aw (we O) (aw (Du O) (FE)))) (Ar O (CC (cs:=[.p (I 0),.p (I 0)]) iZ Qf Ai) ?_)))))))))))))))));refine Ar O (Ba (rows:=List.map FT [(Bv.mk 0 0)]) GY Qf O O O O (By (Ib _)) (QZ _)) (Ar O (CC (cs:=[.p (I 0),.p (.lst (List.map FT [(Bv.mk 0 0)]))]) VC G0 Ai) (BE O (A7 Bq O) fun b3=>BE O (A7 G0 O) fun b4=>Ar O (CF (i:=1) Bx O O O Ad (by first | rfl | simp[BF]) (FU _)) (Ar O (CF (i:=0) (us:=[.p (I 0),.p (.lst (List.map FT [(Bv.mk 0 0)]))]) Qn O O O O O O) (Bo O (As (Ea (M:=⟨96,mk [(1,.ptr b1 0),(2,.p (I 0)),(3,.ptr b3 0),(4,.ptr b4 0)],[.box b4 [.p (I 0),.p (.lst (List.map FT [(Bv.mk 0 0)]))],.box b3 ((Bc (.mk 3 0 ⟨#[78,97,116]⟩ [] [])).map .p),.box b1 ((Hv (Qu.mk 1 Ix [Vv,Vg])).map .p)],[]⟩) (EU ⟨O,O,O,O,Ap⟩ (List.Sublist.refl _)) (Ax ?_)))))));refine Ar O (BR (i:=0) Qn O O O) (Ar O (Ba (rows:=List.map B6 ([(CN.mk 0 [(Bv.mk 0 0)])])) E1 G0 O O O O (By (Fi _)) (QJ _)) (Ar O (CC (cs:=[.p (I 2),.p (I 0),.p (.str ⟨#[]⟩),.p (.lst (List.map B6 ([(CN.mk 0 [(Bv.mk 0 0)])]))),.p (.nils)]) KO Bq Ai) (BE O (A7 Bq O) fun b5=>Ar O (CF (i:=0) (us:=[.p (I 2),.p (I 0),.p (.str ⟨#[]⟩),.p (.lst (List.map B6 ([(CN.mk 0 [(Bv.mk 0 0)])]))),.p (.nils)]) Bx O O O O O O) (Bo O (As ?_)))))
 refine Ea (M:=⟨96,mk [(1,.ptr b1 0),(2,.p (I 0)),(3,.ptr b3 0),(4,.ptr b4 0),(5,.ptr b5 0)],[.box b5 [.p (I 2),.p (I 0),.p (.str ⟨#[]⟩),.p (.lst (List.map B6 ([(CN.mk 0 [(Bv.mk 0 0)])]))),.p (.nils)],.box b4 [.p (I 0),.p (.lst (List.map FT [(Bv.mk 0 0)]))],.box b3 ((Bc (.mk 3 0 ⟨#[78,97,116]⟩ [] [])).map .p),.box b1 ((Hv (Qu.mk 1 Ix [Vv,Vg])).map .p)],[]⟩) (EU ⟨O,O,O,O,O,Ap⟩ (List.Sublist.refl _)) (CK (fun k=>false) Eb (Bf Az 2 [2,0] O (BG O (fun _=>EN O O (LJ (.mk 3 0 ⟨#[78,97,116]⟩ [] []) (.mk 2 0 ⟨#[]⟩ ([(CN.mk 0 [(Bv.mk 0 0)])]) []:Tm)) (aw (we O) (aw (Du O) (FE)))) Ap (BG O (fun _=>BB O O (EB 0) O) Ap (BG O (fun _=>EN O O (JW ⟨#[78,97,116,46,122,101,114,111]⟩ []) (aw (we O) (aw (Du O) (FE)))) Ap ?_)))));refine BG O (fun _=>Ba (rows:=Av ([(.mk 3 0 ⟨#[78,97,116,46,122,101,114,111]⟩ [] [])])) BY Bq O O O O (By (Bn _)) (ED _)) Ap (BG O (fun _=>BB O O (HV (BP 0) ([(.mk 3 0 ⟨#[78,97,116,46,122,101,114,111]⟩ [] [])]) Ak) O) Ap (Bf Az 1 [2] O (BG O (fun _=>BB O O (EB 2) O) Ap (BG O (fun _=>BB O O (EB 0) O) Ap (BG O (fun _=>Ba (rows:=Av [(BP 0)]) BY Bq O O O O (By (Bn _)) (ED _)) Ap (BG O (fun _=>BB O O (HV (BP 2) [(BP 0)] Ak) O) Ap (BG O (fun _=>BB O O (EB 3) O) Ap (BG O (fun _=>EN O O (JW ⟨#[78,97,116,46,115,117,99,99]⟩ []) (aw (we O) (aw (Du O) (FE)))) Ap (BG O (fun _=>BB O O (EB 1) O) Ap ?_)))))))));refine BG O (fun _=>Ba (rows:=Av [(BP 1)]) BY Bq O O O O (By (Bn _)) (ED _)) Ap (BG O (fun _=>BB O O (HV (.mk 3 0 ⟨#[78,97,116,46,115,117,99,99]⟩ [] []) [(BP 1)] Ak) O) Ap (BG O (fun _=>Ba (rows:=Av ([(apply (.mk 3 0 ⟨#[78,97,116,46,115,117,99,99]⟩ [] []) [(BP 1)])])) BY Bq O O O O (By (Bn _)) (ED _)) Ap (BG O (fun _=>BB O O (HV (BP 3) ([(apply (.mk 3 0 ⟨#[78,97,116,46,115,117,99,99]⟩ [] []) [(BP 1)])]) Ak) O) Ap (BG O (fun _=>BB O O (LJ (apply (BP 2) [(BP 0)]) (apply (BP 3) ([(apply (.mk 3 0 ⟨#[78,97,116,46,115,117,99,99]⟩ [] []) [(BP 1)])]))) O) Ap ?_))))
 refine BG O (fun _=>BB O O (LJ (.mk 3 0 ⟨#[78,97,116]⟩ [] []) (.mk 6 0 ⟨#[]⟩ [] [(apply (BP 2) [(BP 0)]),(apply (BP 3) ([(apply (.mk 3 0 ⟨#[78,97,116,46,115,117,99,99]⟩ [] []) [(BP 1)])]))])) O) Ap (BG O (fun _=>L0 (rows:=Av ([(.mk 6 0 ⟨#[]⟩ [] [(.mk 3 0 ⟨#[78,97,116]⟩ [] []),(.mk 2 0 ⟨#[]⟩ ([(CN.mk 0 [(Bv.mk 0 0)])]) []:Tm)]),(apply (BP 0) ([(.mk 3 0 ⟨#[78,97,116,46,122,101,114,111]⟩ [] [])])),(.mk 6 0 ⟨#[]⟩ [] [(.mk 3 0 ⟨#[78,97,116]⟩ [] []),(.mk 6 0 ⟨#[]⟩ [] [(apply (BP 2) [(BP 0)]),(apply (BP 3) ([(apply (.mk 3 0 ⟨#[78,97,116,46,115,117,99,99]⟩ [] []) [(BP 1)])]))])])])) BY Bq O O O O (By (Bn _)) (ED _)) Ap (CE Az 1 [] O (As ?_)));refine Ea (M:=⟨96,mk [(1,.ptr b1 0),(2,.p (I 0)),(3,.ptr b3 0),(4,.ptr b4 0),(6,.p (.lstc (Av ([(.mk 6 0 ⟨#[]⟩ [] [(.mk 3 0 ⟨#[78,97,116]⟩ [] []),(.mk 2 0 ⟨#[]⟩ ([(CN.mk 0 [(Bv.mk 0 0)])]) []:Tm)]),(apply (BP 0) ([(.mk 3 0 ⟨#[78,97,116,46,122,101,114,111]⟩ [] [])])),(.mk 6 0 ⟨#[]⟩ [] [(.mk 3 0 ⟨#[78,97,116]⟩ [] []),(.mk 6 0 ⟨#[]⟩ [] [(apply (BP 2) [(BP 0)]),(apply (BP 3) ([(apply (.mk 3 0 ⟨#[78,97,116,46,115,117,99,99]⟩ [] []) [(BP 1)])]))])])]))))],[.box b5 [.p (I 2),.p (I 0),.p (.str ⟨#[]⟩),.p (.lst (List.map B6 ([(CN.mk 0 [(Bv.mk 0 0)])]))),.p (.nils)],.box b4 [.p (I 0),.p (.lst (List.map FT [(Bv.mk 0 0)]))],.box b3 ((Bc (.mk 3 0 ⟨#[78,97,116]⟩ [] [])).map .p),.box b1 ((Hv (Qu.mk 1 Ix [Vv,Vg])).map .p)],[]⟩) (EU ⟨O,O,O,O,O,Ap⟩ (List.Sublist.refl _)) ?_
 refine D8 [.val (.p (.lstc (Av ([(.mk 6 0 ⟨#[]⟩ [] [(.mk 3 0 ⟨#[78,97,116]⟩ [] []),(.mk 2 0 ⟨#[]⟩ ([(CN.mk 0 [(Bv.mk 0 0)])]) []:Tm)]),(apply (BP 0) ([(.mk 3 0 ⟨#[78,97,116,46,122,101,114,111]⟩ [] [])])),(.mk 6 0 ⟨#[]⟩ [] [(.mk 3 0 ⟨#[78,97,116]⟩ [] []),(.mk 6 0 ⟨#[]⟩ [] [(apply (BP 2) [(BP 0)]),(apply (BP 3) ([(apply (.mk 3 0 ⟨#[78,97,116,46,115,117,99,99]⟩ [] []) [(BP 1)])]))])])])))),.val (.agg ((Bc (.mk 3 0 ⟨#[78,97,116]⟩ [] [])).map .p)),.val (.agg ((Bc (BP 3)).map .p)),.val (.agg ((Bc (BP 0)).map .p)),.val (.p (.lst (Av [(BP 0)]))),.val (.agg ((Bc (apply (BP 3) [(BP 0)])).map .p)),.val (.agg ((Bc (.mk 6 0 ⟨#[]⟩ [] [(.mk 3 0 ⟨#[78,97,116]⟩ [] []),(apply (BP 3) [(BP 0)])])).map .p)),.val (.agg ((Bc (Bw 6 ([(.mk 6 0 ⟨#[]⟩ [] [(.mk 3 0 ⟨#[78,97,116]⟩ [] []),(.mk 2 0 ⟨#[]⟩ ([(CN.mk 0 [(Bv.mk 0 0)])]) []:Tm)]),(apply (BP 0) ([(.mk 3 0 ⟨#[78,97,116,46,122,101,114,111]⟩ [] [])])),(.mk 6 0 ⟨#[]⟩ [] [(.mk 3 0 ⟨#[78,97,116]⟩ [] []),(.mk 6 0 ⟨#[]⟩ [] [(apply (BP 2) [(BP 0)]),(apply (BP 3) ([(apply (.mk 3 0 ⟨#[78,97,116,46,115,117,99,99]⟩ [] []) [(BP 1)])]))])])]) (.mk 6 0 ⟨#[]⟩ [] [(.mk 3 0 ⟨#[78,97,116]⟩ [] []),(apply (BP 3) [(BP 0)])]))).map .p)),.new [.p (I 0),.p (I 0),.p (.str ⟨#[]⟩),.p (.nils),.p (.nils)]] Eb O Ai Ai ?_;refine BN O (fun Bs=>Bm O) (BN O (fun Bs=>BR (i:=Bs.length+2) Bx O (CL O) Ad) (BN O (fun Bs=>BB O O (EB 3) O) (BN O (fun Bs=>BB O O (EB 0) O) (BN O (fun Bs=>Ba (rows:=Av [(BP 0)]) BY Bq O O O O (By (Bn _)) (ED _)) (BN O (fun Bs=>BB O O (HV (BP 3) [(BP 0)] Ak) O) (BN O (fun Bs=>BB O O (LJ (.mk 3 0 ⟨#[78,97,116]⟩ [] []) (apply (BP 3) [(BP 0)])) O) ?_))))));refine BN O (fun Bs=>BB O O (dR ([(.mk 6 0 ⟨#[]⟩ [] [(.mk 3 0 ⟨#[78,97,116]⟩ [] []),(.mk 2 0 ⟨#[]⟩ ([(CN.mk 0 [(Bv.mk 0 0)])]) []:Tm)]),(apply (BP 0) ([(.mk 3 0 ⟨#[78,97,116,46,122,101,114,111]⟩ [] [])])),(.mk 6 0 ⟨#[]⟩ [] [(.mk 3 0 ⟨#[78,97,116]⟩ [] []),(.mk 6 0 ⟨#[]⟩ [] [(apply (BP 2) [(BP 0)]),(apply (BP 3) ([(apply (.mk 3 0 ⟨#[78,97,116,46,115,117,99,99]⟩ [] []) [(BP 1)])]))])])]) (.mk 6 0 ⟨#[]⟩ [] [(.mk 3 0 ⟨#[78,97,116]⟩ [] []),(apply (BP 3) [(BP 0)])]) Ak) O) (FB O (fun Bs=>A7 Bq O) fun b7=>FD ?_)
 change AL _ _ _ 9 ⟨96,_,[.box b7 [.p (I 0),.p (I 0),.p (.str ⟨#[]⟩),.p (.nils),.p (.nils)],.box b5 [.p (I 2),.p (I 0),.p (.str ⟨#[]⟩),.p (.lst (List.map B6 ([(CN.mk 0 [(Bv.mk 0 0)])]))),.p (.nils)],.box b4 [.p (I 0),.p (.lst (List.map FT [(Bv.mk 0 0)]))],.box b3 ((Bc (.mk 3 0 ⟨#[78,97,116]⟩ [] [])).map .p),.box b1 ((Hv (Qu.mk 1 Ix [Vv,Vg])).map .p)],[]⟩ _
 refine Aq Az 1 [0,1] O (As ?_);refine Ea (M:=⟨96,mk [(1,.ptr b1 0),(2,.p (I 0)),(3,.ptr b3 0),(4,.ptr b4 0),(6,.p (.lstc (Av ([(.mk 6 0 ⟨#[]⟩ [] [(.mk 3 0 ⟨#[78,97,116]⟩ [] []),(.mk 2 0 ⟨#[]⟩ ([(CN.mk 0 [(Bv.mk 0 0)])]) []:Tm)]),(apply (BP 0) ([(.mk 3 0 ⟨#[78,97,116,46,122,101,114,111]⟩ [] [])])),(.mk 6 0 ⟨#[]⟩ [] [(.mk 3 0 ⟨#[78,97,116]⟩ [] []),(.mk 6 0 ⟨#[]⟩ [] [(apply (BP 2) [(BP 0)]),(apply (BP 3) ([(apply (.mk 3 0 ⟨#[78,97,116,46,115,117,99,99]⟩ [] []) [(BP 1)])]))])])])))),(7,.ptr b7 0)],[.box b7 ((Bc (Bw 6 ([(.mk 6 0 ⟨#[]⟩ [] [(.mk 3 0 ⟨#[78,97,116]⟩ [] []),(.mk 2 0 ⟨#[]⟩ ([(CN.mk 0 [(Bv.mk 0 0)])]) []:Tm)]),(apply (BP 0) ([(.mk 3 0 ⟨#[78,97,116,46,122,101,114,111]⟩ [] [])])),(.mk 6 0 ⟨#[]⟩ [] [(.mk 3 0 ⟨#[78,97,116]⟩ [] []),(.mk 6 0 ⟨#[]⟩ [] [(apply (BP 2) [(BP 0)]),(apply (BP 3) ([(apply (.mk 3 0 ⟨#[78,97,116,46,115,117,99,99]⟩ [] []) [(BP 1)])]))])])]) (.mk 6 0 ⟨#[]⟩ [] [(.mk 3 0 ⟨#[78,97,116]⟩ [] []),(apply (BP 3) [(BP 0)])]))).map .p),.box b5 [.p (I 2),.p (I 0),.p (.str ⟨#[]⟩),.p (.lst (List.map B6 ([(CN.mk 0 [(Bv.mk 0 0)])]))),.p (.nils)],.box b4 [.p (I 0),.p (.lst (List.map FT [(Bv.mk 0 0)]))],.box b3 ((Bc (.mk 3 0 ⟨#[78,97,116]⟩ [] [])).map .p),.box b1 ((Hv (Qu.mk 1 Ix [Vv,Vg])).map .p)],[]⟩) (EU ⟨O,O,O,O,O,O,Ap⟩ (List.Sublist.refl _)) ?_
 refine D8 [.val (.p (.lstc (Av ([(.mk 6 0 ⟨#[]⟩ [] [(.mk 3 0 ⟨#[78,97,116]⟩ [] []),(.mk 2 0 ⟨#[]⟩ ([(CN.mk 0 [(Bv.mk 0 0)])]) []:Tm)]),(apply (BP 0) ([(.mk 3 0 ⟨#[78,97,116,46,122,101,114,111]⟩ [] [])])),(.mk 6 0 ⟨#[]⟩ [] [(.mk 3 0 ⟨#[78,97,116]⟩ [] []),(.mk 6 0 ⟨#[]⟩ [] [(apply (BP 2) [(BP 0)]),(apply (BP 3) ([(apply (.mk 3 0 ⟨#[78,97,116,46,115,117,99,99]⟩ [] []) [(BP 1)])]))])])])))),.val (.agg ((Bc (.mk 3 0 ⟨#[78,97,116]⟩ [] [])).map .p)),.val (.p (.lst (Av ([(.mk 3 0 ⟨#[78,97,116]⟩ [] [])])))),.val (.p (.lst (Av ([(.mk 6 0 ⟨#[]⟩ [] [(.mk 3 0 ⟨#[78,97,116]⟩ [] []),(.mk 2 0 ⟨#[]⟩ ([(CN.mk 0 [(Bv.mk 0 0)])]) []:Tm)]),(apply (BP 0) ([(.mk 3 0 ⟨#[78,97,116,46,122,101,114,111]⟩ [] [])])),(.mk 6 0 ⟨#[]⟩ [] [(.mk 3 0 ⟨#[78,97,116]⟩ [] []),(.mk 6 0 ⟨#[]⟩ [] [(apply (BP 2) [(BP 0)]),(apply (BP 3) ([(apply (.mk 3 0 ⟨#[78,97,116,46,115,117,99,99]⟩ [] []) [(BP 1)])]))])])]++([(.mk 3 0 ⟨#[78,97,116]⟩ [] [])]))))),.val (.agg ((Bc (BP 1)).map .p)),.val (.agg ((Bc (BP 0)).map .p)),.val (.agg [.p (I 0),.p (.lst (List.map FT [(Bv.mk 0 0)]))]),.val (.p (.lst (List.map B6 ([(CN.mk 0 [(Bv.mk 0 0)])])))),.val (.agg ((Bc (.mk 3 0 ⟨#[78,97,116,46,114,101,99]⟩ ([(CN.mk 0 [(Bv.mk 0 0)])]) [])).map .p)),.val (.agg ((Bc (BP 3)).map .p)),.val (.agg ((Bc (BP 2)).map .p)),.val (.agg ((Bc (BP 1)).map .p)),.val (.agg ((Bc (BP 0)).map .p)),.val (.p (.lst (Av [(BP 3),(BP 2),(BP 1),(BP 0)]))),.val (.agg ((Bc (apply (.mk 3 0 ⟨#[78,97,116,46,114,101,99]⟩ ([(CN.mk 0 [(Bv.mk 0 0)])]) []) [(BP 3),(BP 2),(BP 1),(BP 0)])).map .p)),.val (.p (.lst (Av ([(BP 0),(apply (.mk 3 0 ⟨#[78,97,116,46,114,101,99]⟩ ([(CN.mk 0 [(Bv.mk 0 0)])]) []) [(BP 3),(BP 2),(BP 1),(BP 0)])])))),.val (.agg ((Bc (apply (BP 1) ([(BP 0),(apply (.mk 3 0 ⟨#[78,97,116,46,114,101,99]⟩ ([(CN.mk 0 [(Bv.mk 0 0)])]) []) [(BP 3),(BP 2),(BP 1),(BP 0)])]))).map .p)),.val (.agg ((Bc (Bw 5 ([(.mk 6 0 ⟨#[]⟩ [] [(.mk 3 0 ⟨#[78,97,116]⟩ [] []),(.mk 2 0 ⟨#[]⟩ ([(CN.mk 0 [(Bv.mk 0 0)])]) []:Tm)]),(apply (BP 0) ([(.mk 3 0 ⟨#[78,97,116,46,122,101,114,111]⟩ [] [])])),(.mk 6 0 ⟨#[]⟩ [] [(.mk 3 0 ⟨#[78,97,116]⟩ [] []),(.mk 6 0 ⟨#[]⟩ [] [(apply (BP 2) [(BP 0)]),(apply (BP 3) ([(apply (.mk 3 0 ⟨#[78,97,116,46,115,117,99,99]⟩ [] []) [(BP 1)])]))])])]++([(.mk 3 0 ⟨#[78,97,116]⟩ [] [])])) (apply (BP 1) ([(BP 0),(apply (.mk 3 0 ⟨#[78,97,116,46,114,101,99]⟩ ([(CN.mk 0 [(Bv.mk 0 0)])]) []) [(BP 3),(BP 2),(BP 1),(BP 0)])])))).map .p)),.new [.p (I 0),.p (I 0),.p (.str ⟨#[]⟩),.p (.nils),.p (.nils)]] Eb O Ai Ai ?_
 refine BN O (fun Bs=>Bm O) (BN O (fun Bs=>BR (i:=Bs.length+3) Bx O (CL O) Ad) (BN O (fun Bs=>Ba (rows:=Av ([(.mk 3 0 ⟨#[78,97,116]⟩ [] [])])) BY Bq O O O O (By (Bn _)) (ED _)) ?_));refine BN O (fun Bs=>Ly (rows:=Av ([(.mk 6 0 ⟨#[]⟩ [] [(.mk 3 0 ⟨#[78,97,116]⟩ [] []),(.mk 2 0 ⟨#[]⟩ ([(CN.mk 0 [(Bv.mk 0 0)])]) []:Tm)]),(apply (BP 0) ([(.mk 3 0 ⟨#[78,97,116,46,122,101,114,111]⟩ [] [])])),(.mk 6 0 ⟨#[]⟩ [] [(.mk 3 0 ⟨#[78,97,116]⟩ [] []),(.mk 6 0 ⟨#[]⟩ [] [(apply (BP 2) [(BP 0)]),(apply (BP 3) ([(apply (.mk 3 0 ⟨#[78,97,116,46,115,117,99,99]⟩ [] []) [(BP 1)])]))])])])) (rows':=Av ([(.mk 3 0 ⟨#[78,97,116]⟩ [] [])])) BY BY Bq O O O (By (Bn _)) O (Bn _) Am Am (Fe ([(.mk 6 0 ⟨#[]⟩ [] [(.mk 3 0 ⟨#[78,97,116]⟩ [] []),(.mk 2 0 ⟨#[]⟩ ([(CN.mk 0 [(Bv.mk 0 0)])]) []:Tm)]),(apply (BP 0) ([(.mk 3 0 ⟨#[78,97,116,46,122,101,114,111]⟩ [] [])])),(.mk 6 0 ⟨#[]⟩ [] [(.mk 3 0 ⟨#[78,97,116]⟩ [] []),(.mk 6 0 ⟨#[]⟩ [] [(apply (BP 2) [(BP 0)]),(apply (BP 3) ([(apply (.mk 3 0 ⟨#[78,97,116,46,115,117,99,99]⟩ [] []) [(BP 1)])]))])])]) ([(.mk 3 0 ⟨#[78,97,116]⟩ [] [])]))) ?_;refine BN O (fun Bs=>BB O O (EB 1) O) (BN O (fun Bs=>BB O O (EB 0) O) (BN O (fun Bs=>BR (i:=Bs.length+2) Qn O (CL O) O) (BN O (fun Bs=>Ba (rows:=List.map B6 ([(CN.mk 0 [(Bv.mk 0 0)])])) E1 G0 O O O O (By (Fi _)) (QJ _)) (BN O (fun Bs=>BB O O (JW ⟨#[78,97,116,46,114,101,99]⟩ ([(CN.mk 0 [(Bv.mk 0 0)])])) O) (BN O (fun Bs=>BB O O (EB 3) O) (BN O (fun Bs=>BB O O (EB 2) O) (BN O (fun Bs=>BB O O (EB 1) O) (BN O (fun Bs=>BB O O (EB 0) O) (BN O (fun Bs=>Ba (rows:=Av [(BP 3),(BP 2),(BP 1),(BP 0)]) BY Bq O O O O (By (Bn _)) (ED _)) ?_)))))))));refine BN O (fun Bs=>BB O O (HV (.mk 3 0 ⟨#[78,97,116,46,114,101,99]⟩ ([(CN.mk 0 [(Bv.mk 0 0)])]) []) [(BP 3),(BP 2),(BP 1),(BP 0)] Ak) O) (BN O (fun Bs=>Ba (rows:=Av ([(BP 0),(apply (.mk 3 0 ⟨#[78,97,116,46,114,101,99]⟩ ([(CN.mk 0 [(Bv.mk 0 0)])]) []) [(BP 3),(BP 2),(BP 1),(BP 0)])])) BY Bq O O O O (By (Bn _)) (ED _)) (BN O (fun Bs=>BB O O (HV (BP 1) ([(BP 0),(apply (.mk 3 0 ⟨#[78,97,116,46,114,101,99]⟩ ([(CN.mk 0 [(Bv.mk 0 0)])]) []) [(BP 3),(BP 2),(BP 1),(BP 0)])]) Ak) O) ?_))
 refine BN O (fun Bs=>BB O O (VA ([(.mk 6 0 ⟨#[]⟩ [] [(.mk 3 0 ⟨#[78,97,116]⟩ [] []),(.mk 2 0 ⟨#[]⟩ ([(CN.mk 0 [(Bv.mk 0 0)])]) []:Tm)]),(apply (BP 0) ([(.mk 3 0 ⟨#[78,97,116,46,122,101,114,111]⟩ [] [])])),(.mk 6 0 ⟨#[]⟩ [] [(.mk 3 0 ⟨#[78,97,116]⟩ [] []),(.mk 6 0 ⟨#[]⟩ [] [(apply (BP 2) [(BP 0)]),(apply (BP 3) ([(apply (.mk 3 0 ⟨#[78,97,116,46,115,117,99,99]⟩ [] []) [(BP 1)])]))])])]++([(.mk 3 0 ⟨#[78,97,116]⟩ [] [])])) (apply (BP 1) ([(BP 0),(apply (.mk 3 0 ⟨#[78,97,116,46,114,101,99]⟩ ([(CN.mk 0 [(Bv.mk 0 0)])]) []) [(BP 3),(BP 2),(BP 1),(BP 0)])])) Ak) O) (FB O (fun Bs=>A7 Bq O) fun b8=>FD ?_)
 change AL _ _ _ 19 ⟨96,_,[.box b8 [.p (I 0),.p (I 0),.p (.str ⟨#[]⟩),.p (.nils),.p (.nils)],.box b7 ((Bc (Bw 6 ([(.mk 6 0 ⟨#[]⟩ [] [(.mk 3 0 ⟨#[78,97,116]⟩ [] []),(.mk 2 0 ⟨#[]⟩ ([(CN.mk 0 [(Bv.mk 0 0)])]) []:Tm)]),(apply (BP 0) ([(.mk 3 0 ⟨#[78,97,116,46,122,101,114,111]⟩ [] [])])),(.mk 6 0 ⟨#[]⟩ [] [(.mk 3 0 ⟨#[78,97,116]⟩ [] []),(.mk 6 0 ⟨#[]⟩ [] [(apply (BP 2) [(BP 0)]),(apply (BP 3) ([(apply (.mk 3 0 ⟨#[78,97,116,46,115,117,99,99]⟩ [] []) [(BP 1)])]))])])]) (.mk 6 0 ⟨#[]⟩ [] [(.mk 3 0 ⟨#[78,97,116]⟩ [] []),(apply (BP 3) [(BP 0)])]))).map .p),.box b5 [.p (I 2),.p (I 0),.p (.str ⟨#[]⟩),.p (.lst (List.map B6 ([(CN.mk 0 [(Bv.mk 0 0)])]))),.p (.nils)],.box b4 [.p (I 0),.p (.lst (List.map FT [(Bv.mk 0 0)]))],.box b3 ((Bc (.mk 3 0 ⟨#[78,97,116]⟩ [] [])).map .p),.box b1 ((Hv (Qu.mk 1 Ix [Vv,Vg])).map .p)],[]⟩ _
 refine Aq Az 1 [0,1] O (As ?_);refine Ea (M:=⟨96,mk [(1,.ptr b1 0),(2,.p (I 0)),(7,.ptr b7 0),(8,.ptr b8 0)],[.box b8 ((Bc (Bw 5 ([(.mk 6 0 ⟨#[]⟩ [] [(.mk 3 0 ⟨#[78,97,116]⟩ [] []),(.mk 2 0 ⟨#[]⟩ ([(CN.mk 0 [(Bv.mk 0 0)])]) []:Tm)]),(apply (BP 0) ([(.mk 3 0 ⟨#[78,97,116,46,122,101,114,111]⟩ [] [])])),(.mk 6 0 ⟨#[]⟩ [] [(.mk 3 0 ⟨#[78,97,116]⟩ [] []),(.mk 6 0 ⟨#[]⟩ [] [(apply (BP 2) [(BP 0)]),(apply (BP 3) ([(apply (.mk 3 0 ⟨#[78,97,116,46,115,117,99,99]⟩ [] []) [(BP 1)])]))])])]++([(.mk 3 0 ⟨#[78,97,116]⟩ [] [])])) (apply (BP 1) ([(BP 0),(apply (.mk 3 0 ⟨#[78,97,116,46,114,101,99]⟩ ([(CN.mk 0 [(Bv.mk 0 0)])]) []) [(BP 3),(BP 2),(BP 1),(BP 0)])])))).map .p),.box b7 ((Bc (Bw 6 ([(.mk 6 0 ⟨#[]⟩ [] [(.mk 3 0 ⟨#[78,97,116]⟩ [] []),(.mk 2 0 ⟨#[]⟩ ([(CN.mk 0 [(Bv.mk 0 0)])]) []:Tm)]),(apply (BP 0) ([(.mk 3 0 ⟨#[78,97,116,46,122,101,114,111]⟩ [] [])])),(.mk 6 0 ⟨#[]⟩ [] [(.mk 3 0 ⟨#[78,97,116]⟩ [] []),(.mk 6 0 ⟨#[]⟩ [] [(apply (BP 2) [(BP 0)]),(apply (BP 3) ([(apply (.mk 3 0 ⟨#[78,97,116,46,115,117,99,99]⟩ [] []) [(BP 1)])]))])])]) (.mk 6 0 ⟨#[]⟩ [] [(.mk 3 0 ⟨#[78,97,116]⟩ [] []),(apply (BP 3) [(BP 0)])]))).map .p),.box b5 [.p (I 2),.p (I 0),.p (.str ⟨#[]⟩),.p (.lst (List.map B6 ([(CN.mk 0 [(Bv.mk 0 0)])]))),.p (.nils)],.box b4 [.p (I 0),.p (.lst (List.map FT [(Bv.mk 0 0)]))],.box b3 ((Bc (.mk 3 0 ⟨#[78,97,116]⟩ [] [])).map .p),.box b1 ((Hv (Qu.mk 1 Ix [Vv,Vg])).map .p)],[]⟩) (EU ⟨O,O,O,O,Ap⟩ (List.Sublist.refl _)) ?_;refine CK (fun k=>false) Eb (Bf Az 4 [] O (HT (i:=5) O O O O O (fun H i hi=>A6 (i:=i) Hd O hi (Nn _)) AB Ap (Bf Az 3 [] O (Fo 76 O (fun g=>?_) (fun g=>?_)))))
 ·(try simp only[sd,se] at g);refine Cp O (fun _=>A3 Vz O O) Ap (HT (i:=5) O O O O O (fun H i hi=>DW (i:=i) Bx O hi (LL _) (BF _)) AB Ap (Bf Az 1 [1] O (Cp O (fun _=>BB O O (RQ ((Qu.mk 1 Ix [Vv,Vg]).type) (Bw 6 ([(.mk 6 0 ⟨#[]⟩ [] [(.mk 3 0 ⟨#[78,97,116]⟩ [] []),(.mk 2 0 ⟨#[]⟩ ([(CN.mk 0 [(Bv.mk 0 0)])]) []:Tm)]),(apply (BP 0) ([(.mk 3 0 ⟨#[78,97,116,46,122,101,114,111]⟩ [] [])])),(.mk 6 0 ⟨#[]⟩ [] [(.mk 3 0 ⟨#[78,97,116]⟩ [] []),(.mk 6 0 ⟨#[]⟩ [] [(apply (BP 2) [(BP 0)]),(apply (BP 3) ([(apply (.mk 3 0 ⟨#[78,97,116,46,115,117,99,99]⟩ [] []) [(BP 1)])]))])])]) (.mk 6 0 ⟨#[]⟩ [] [(.mk 3 0 ⟨#[78,97,116]⟩ [] []),(apply (BP 3) [(BP 0)])])) cH O) O) Ap (Bf Az 3 [] O (HT (i:=5) O O O O O (fun H i hi=>A6 (i:=i) DD O hi (Hz _)) AB Ap ?_)))));refine Cp O (fun _=>BH BY O (BD _)) Ap (Bf Az 3 [] O (Fo 88 O (fun g1=>?_) (fun g1=>?_)))
  ·(try simp only[sd,se] at g1);refine Cp O (fun _=>A3 Vz O O) Ap (HT (i:=5) O O O O O (fun H i hi=>A6 (i:=i) DD O hi (Hz _)) AB Ap (Cp O (fun _=>BC BY O O An (B0 O) (BF _)) Ap (Bf Az 2 [0] O ?_)));refine Cp O (fun _=>BB O O (RQ Vg (Bw 5 ([(.mk 6 0 ⟨#[]⟩ [] [(.mk 3 0 ⟨#[78,97,116]⟩ [] []),(.mk 2 0 ⟨#[]⟩ ([(CN.mk 0 [(Bv.mk 0 0)])]) []:Tm)]),(apply (BP 0) ([(.mk 3 0 ⟨#[78,97,116,46,122,101,114,111]⟩ [] [])])),(.mk 6 0 ⟨#[]⟩ [] [(.mk 3 0 ⟨#[78,97,116]⟩ [] []),(.mk 6 0 ⟨#[]⟩ [] [(apply (BP 2) [(BP 0)]),(apply (BP 3) ([(apply (.mk 3 0 ⟨#[78,97,116,46,115,117,99,99]⟩ [] []) [(BP 1)])]))])])]++([(.mk 3 0 ⟨#[78,97,116]⟩ [] [])])) (apply (BP 1) ([(BP 0),(apply (.mk 3 0 ⟨#[78,97,116,46,114,101,99]⟩ ([(CN.mk 0 [(Bv.mk 0 0)])]) []) [(BP 3),(BP 2),(BP 1),(BP 0)])]))) ax O) O) Ap (CE Az 2 [] O (A4 (⟨O,_,_,⟨_,_,O,O,O⟩,(List.nil_sublist _),?_⟩)))
   all_goals exact⟨rfl,rfl⟩
  (try simp only[sd,se] at g1);exact CE Az 8 [] O (A4 (absurd g1 Am))
 (try simp only[sd,se] at g);exact CE Az 20 [] O (A4 (absurd g Am))
end Go.Proofs.YtifphifongokcaaGreat
namespace Go.Eu
open Go.Abs
structure K9 (f:Fam):Prop where
 good:RT f
 lv:0≤f.levels∧f.levels≤8
 cl:f.ctors.length≤32
 nm:f.name.size<Cb
 ni:D7 f.indices
 vi:I8 f.indices
 si:∀t∈f.indices,size t≤1000
 ks:∀k∈f.ctors,Vs k∧ib k
theorem WM {t:Tm}(h:Re t) (hs:Dg t≤400) (hw:wf 0 0 0 t∧Cw t):I2 0 t:=⟨⟨0,hw.1⟩,hw.2,by have:=JA h hs;omega⟩
theorem Zm {d:Ck}(h:XR d) (hf:d.name.size≤200∧Dg d.type≤400∧∀c∈d.ctors,Dg c.type≤400)
  (hc:(0≤d.params∧d.params≤8)∧(wf 0 0 0 d.type∧Cw d.type)∧d.ctors.length≤32∧∀c∈d.ctors,wf 0 0 0 c.type∧Cw c.type) (he:HR d=0):K9 (BQ d):=by
 obtain⟨g,g1,g2,g3,g4,g5,g6,g7⟩:=Zo he (WM h.ty hf.2.1 hc.2.1) h.ty.nd fun c hm=>⟨WM (h.cs c hm).ty (hf.2.2 c hm) (hc.2.2.2 c hm),(h.cs c hm).ty.nd,by have:=(h.cs c hm).nm;simp only[Cb];omega⟩;exact⟨g,by rw[g1];exact hc.1,by rw[g3];exact hc.2.2.1,by rw[g2];have:=h.nm;simp only[Cb];omega,g4,g5,g6,g7⟩
theorem Yn {d:Ck}(h:XR d) (hf:d.name.size≤200∧Dg d.type≤400∧∀c∈d.ctors,Dg c.type≤400)
  (hc:(0≤d.params∧d.params≤8)∧(wf 0 0 0 d.type∧Cw d.type)∧d.ctors.length≤32∧∀c∈d.ctors,wf 0 0 0 c.type∧Cw c.type):Vi d :=
 ⟨h.ty.nd,by have:=JA h.ty hf.2.1;omega,by omega,by omega,fun c hm=>⟨(h.cs c hm).ty.nd,by have:=JA (h.cs c hm).ty (hf.2.2 c hm);omega⟩⟩
def Ol (f:Fam) (j:Int):Tm:=if j<0 then Bi else match f.ctors[j.toNat]? with | some k=>WV f k j | none=>Bi
def VY (f:Fam) (j:Int):Int:=if j<0 then 2 else match f.ctors[j.toNat]? with | some _=>0 | none=>2
section
variable {f:Fam}{j:Int}
theorem JN (h:j<0∨(f.ctors.length:Nat)≤j):Ol f j=Bi∧VY f j=2:=by
 unfold Ol VY;by_cases hj:j<0
 ·rw[if_pos hj,if_pos hj];exact⟨rfl,rfl⟩
 rw[if_neg hj,if_neg hj,List.getElem?_eq_none An];exact⟨rfl,rfl⟩
theorem Mt {k:E6}(h:0≤j) (hk:f.ctors[j.toNat]?=some k):Ol f j=WV f k j∧VY f j=0:=by
 unfold Ol VY;rw[if_neg An,if_neg An,hk];exact⟨rfl,rfl⟩
theorem K9.motEq (h:K9 f) (large:Bool):Es f large (f.params.length:Nat)=Ta f large:=eJ h.good large
theorem K9.minEq (h:K9 f) {k:E6}(hj:0≤j) (hk:f.ctors[j.toNat]?=some k):I1 f k ((f.params.length:Nat)+1+j)=Ol f j:=by
 have hl:=(List.getElem?_eq_some_iff.1 hk).1;have:=h.cl;rw[(Mt hj hk).1];exact min_eq h.good (h.good.ctors k (List.mem_of_getElem? hk)) ⟨hj,by omega⟩
theorem TH {n:Nat}(hn:n≤1000):∀p∈BL 0 n,-1000000≤p∧p≤1000000:=fun p hp=>by have:=D0 hp;omega
theorem K9.motNd (h:K9 f) (large:Bool):Nd (Es f large (f.params.length:Nat)):=by
 have hp:=h.good.pl;have hi:=h.good.il;have hl:=h.lv;unfold Es;refine Lm (FZ.2 ⟨Gw (by rw[B4];simp only[Cb];omega) h.ni h.vi,⟨ET (ET (Mk h.nm An) (Gy An (TH hp))) (Gy An fun p hq=>?_),Ap⟩⟩) (VZ An);exact E4 (B:=1000000) _ (TH hp) An An p (List.mem_of_mem_drop hq)
theorem K9.minNd (h:K9 f) {k:E6}(hj:0≤j) (hk:f.ctors[j.toNat]?=some k):Nd (I1 f k ((f.params.length:Nat)+1+j)):=by
 have hl:=(List.getElem?_eq_some_iff.1 hk).1;have hc:=h.cl;have hp:=h.good.pl;have hv:=h.lv;have hm:=(h.ks k (List.mem_of_getElem? hk)).1;have h1:=hm.lf;have h2:=hm.lc;have hb:∀q∈(Aw ((f.params.length:Nat)+1+j) (BL 0 f.params.length) k.fields).2,-1000000≤q∧q≤1000000:=E4 (B:=1000000) _ (TH hp) An An;have hq:(Aw ((f.params.length:Nat)+1+j) (BL 0 f.params.length) k.fields).2.length≤50000:=by rw[(Bd _).2,B4];omega
 unfold I1;refine Lm (FZ.2 ⟨Gw (by rw[B4];simp only[Cb];omega) hm.nf hm.vf,Ng hp hb hq An An fun r hr=>(hm.rs r hr).1⟩) (ET (ET (Q9 An An) (Ld AW hm.nr hm.vr)) ⟨ET (Mk hm.nm An) (Gy An hb),Ap⟩)
theorem K9.minQNd (h:K9 f):Nd (Ol f j):=by
 by_cases hj:j<0∨(f.ctors.length:Nat)≤j
 ·rw[(JN hj).1];exact Tw
 obtain⟨k,hk⟩:=A9 (l:=f.ctors) (i:=j.toNat) An;rw[←h.minEq An hk];exact h.minNd An hk
end
end Go.Eu
namespace Go.Proofs.YtifphifongokcaaGreat
open Go.Abs Go.Eu
theorem eE (f:Fam) (j:Int) (h:K9 f):D3 Tryz.prog 8 [.agg ((Bu f).map .p),.p (I j)] (.tup [TV (Ol f j),.p (I (VY f j))]):=by
 have hc:=h.cl;have hl:=h.lv;by_cases hj:j<0∨(f.ctors.length:Nat)≤j
 ·rw[(JN hj).1,(JN hj).2];exact XU f j hj
 obtain⟨k,hk⟩:=A9 (l:=f.ctors) (i:=j.toNat) An;rw[←h.minEq An hk,(Mt An hk).2];exact Xl f j k An h.good.pl (h.ks k (List.mem_of_getElem? hk)).1 An hk
theorem ck (f:Fam) (j:Int) (h:K9 f):D3 Tryz.prog 9 [.agg ((Bu f).map .p),.p (I j)] (.tup [TV (Ol f j),.p (I (VY f j))]):=by
 have hc:=h.cl;by_cases hj:j<0∨(f.ctors.length:Nat)≤j
 ·rw[(JN hj).1,(JN hj).2];exact Va f j hj
 obtain⟨k,hk⟩:=A9 (l:=f.ctors) (i:=j.toNat) An;rw[(Mt An hk).1,(Mt An hk).2];exact VR f j k h.lv h.good.pl (h.ks k (List.mem_of_getElem? hk)).2 An hk
theorem dN (f:Fam) (large:Bool) (h:K9 f):D3 Tryz.prog 11 [.agg ((Bu f).map .p),.p (.bool large)] (TV (Ta f large)):=by
 have hl:=h.lv;rw[←h.motEq large];exact Vo f large An h.good.pl h.good.il h.ni h.vi (fun t ht=>by have:=h.si t ht;omega) h.nm
theorem PL (a b:Tm) (h1:Nd a) (h2:a=b):D3 Tryz.prog 10 [TV a,TV b] (.p (.bool true)):=by
 have:=TR (size a) a b (Nat.le_refl _) h1
 rwa [DH h2] at this
set_option maxHeartbeats 4000000 in
theorem Vk:∀(d:Ck) (large:Bool) (ctor:Int),(XR d)→D3 Tryz.prog 3 [.agg ((D9 d).map .p),.p (.bool large),.p (I ctor)] (.p (.bool true)):=by
 intro d large ctor h1;refine A1 Tryz.func3 O nE (n:=65) O O (Ay (BE O (BT O) fun b3=>Aq Az 1 [] O (As (Ay (Ar O (BR (i:=0) Ru O O Ae) (I6 O O (Dl O O (ZS d h1) (.inl O)) ?_))))));rintro _ ⟨q,rfl,hq⟩;refine Aq Az 1 [] O (A2 O (fun c=>?_) (fun c=>?_))
 ·(try simp only[sd,se] at c);refine Ay (Ar O (BB O O (Lf ) O) (Aq Az 1 [] O (A4 (⟨O,_,_,⟨_,_,O,O,O⟩,(List.nil_sublist _),?_⟩))))
  all_goals exact⟨rfl,rfl⟩
 (try simp only[sd,se] at c);have hF:=hq (by simpa using c);refine A5 (Ay (Ar O (BR (i:=0) Ru O O Ae) (Ar O (BB O O (RR d (Yn h1 hF.1 hF.2) (by have:=h1.nm;simp only[Cb];omega) An) O) (A0 Az 3 [] O (BE O (A7 Q7 O) fun b7=>Ar O (CF (i:=0) Gc O O O AZ (by first | rfl | simp[HU]) (Q2 _)) (Aq Az 1 [] O (As (As (Bj [1,2,7] 31 (fun y=>y= .p (.bool (decide (HR d≠0)||(large&&decide (8≤(BQ d).levels))))) ?_ ?_)))))))))
 ·refine Ax (A0 Az 3 [] O (BS 24 O (fun g=>?_) (fun g=>?_)))
  ·(try simp only[sd,se] at g);refine Aq Az 7 [] O ?_;exact⟨rfl,rfl,AK,(by refine pB ?_;cases large<;>simp_all),⟨rfl,rfl,rfl,trivial⟩⟩
  (try simp only[sd,se] at g);refine A0 Az 2 [] O (BS 26 O (fun g1=>?_) (fun g1=>?_))
  ·(try simp only[sd,se] at g1);refine BK O (A3 E9 O O) (BK O (A6 (i:=0) Hd O O (DJ _)) (Aq Az 3 [] O ?_));exact⟨rfl,rfl,AK,(by refine pB ?_;cases large<;>simp_all),⟨rfl,rfl,rfl,trivial⟩⟩
  (try simp only[sd,se] at g1);refine Aq Az 5 [] O ?_;exact⟨rfl,rfl,AK,(by refine pB ?_;cases large<;>simp_all),⟨rfl,rfl,rfl,trivial⟩⟩
 rintro _ rfl;refine A2 O (fun c1=>?_) (fun c1=>?_)
 ·(try simp only[sd,se] at c1);refine Ay (Ar O (BB O O (Lf ) O) (Aq Az 1 [] O (A4 (⟨O,_,_,⟨_,_,O,O,O⟩,(List.nil_sublist _),?_⟩))))
  all_goals exact⟨rfl,rfl⟩
 (try simp only[sd,se] at c1);have hc1:=c1;simp only[Bool.or_eq_false_iff,Bool.and_eq_false_iff,decide_eq_false_iff_not,Decidable.not_not] at hc1;have hR:=Zm h1 hF.1 hF.2 hc1.1;have hlv:large=true→(BQ d).levels<8:=fun e=>by have:=hc1.2;rw[e] at this;simp at this;omega
 refine A5 (Ay (Ar O (BR (i:=0) Gc O O AZ) (CA O (Ar O (BB O O (eE (BQ d) ctor hR) O) (A0 Az 3 [] O (BE O (A7 Bq O) fun b9=>Aq Az 2 [0,1] O (Ay (Ar O (BR (i:=1) Gc O O AZ) (CA O (Ar O (BB O O (ck (BQ d) ctor hR) O) (A0 Az 3 [] O (BE O (A7 Bq O) fun b11=>Aq Az 2 [0,1] O (As (Bj [] 6 (fun y=>y= .p (.bool true)) ?_ ?_))))))))))))))
 ·exact CK (fun k=>false) Eb (BG O (fun _=>BB O O (Lf ) O) Ap (BG O (fun _=>Bm O) Ap (HT (i:=2) O O O O O (fun H i hi=>BR (i:=i) Gc O hi AZ) AB Ap (Cp O (fun _=>Bm O) Ap (Cp O (fun _=>BB O O (dN (BQ d) large hR) O) Ap (HT (i:=2) O O O O O (fun H i hi=>BR (i:=i) Gc O hi AZ) AB Ap (Cp O (fun _=>Bm O) Ap (Cp O (fun _=>BB O O (Tj (BQ d) large hR.lv hR.good.pl hR.good.il hlv) O) Ap (Cp O (fun _=>BB O O (PL (Ta (BQ d) large) (Ta (BQ d) large) (by rw[←hR.motEq large];exact hR.motNd large) O) O) Ap (Bf Az 4 [1,0] O (Cp O (fun _=>BB O O (PL (Ol (BQ d) ctor) (Ol (BQ d) ctor) hR.minQNd O) O) Ap (CE Az 7 [] O ⟨O,O,AK,(by first | rfl | (refine pB ?_;simp)),Ap⟩))))))))))))
 rintro _ rfl;refine A4 (⟨O,_,_,⟨_,_,O,O,O⟩,(List.nil_sublist _),?_⟩)
 all_goals exact⟨rfl,rfl⟩
end Go.Proofs.YtifphifongokcaaGreat
