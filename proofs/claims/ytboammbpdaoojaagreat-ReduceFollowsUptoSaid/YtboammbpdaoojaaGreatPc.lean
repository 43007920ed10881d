/- Part of the proofs: an abstract program logic, plain models and contracts of functions. -/
import Derived.Test.YtboammbpdaoojaaGreatPb
import Derived.ProofKit
import Derived.Deep.DeepHandedRow
import Derived.Lib.AppendStr
import Derived.Lib.Builder
import Derived.Laws.Externs
import Derived.Lib.UnsafeStr
import Derived.Below
import Derived.Test.YtboammbpdaoojaaGreatRows
import Derived.Deep.DeepWitnessRowRef
import Derived.Lib.LaidIn
import Derived.Test.YtboammbpdaoojaaGreatProg
set_option linter.unusedVariables false
set_option linter.unusedSimpArgs false
set_option maxRecDepth 1000000
namespace Go.Eu
open Go.Abs Go.RowKit Go.ChangeShapes Go.ChangeAt Go.WideShapes
theorem jH:∀{ts:List Tm},(∀t∈ts,Wd t)→kX ts
 | [],_=>trivial
 | t::ts,h=>⟨h t Ao,jH fun x hx=>h x (by simp[hx])⟩
abbrev F0:Nat→Prop:=fun _=>False
def CM (w:World):List PV→List Value→Prop
 | [],cs=>cs=[]
 | p::ps,cs=>∃c cs',cs=c::cs'∧CK F0 w p c∧CM w ps cs'
theorem CM.length {w:World}:∀{ps:List PV}{cs:List Value},CM w ps cs→ps.length=cs.length
 | [],cs,h=>by simp only[CM] at h;subst h;rfl
 | p::ps,cs,h=>by
  obtain⟨c,cs',rfl,_,h⟩:=h;simp[CM.length h]
theorem CM.append {w:World}:∀{a b:List PV}{x y:List Value},CM w a x→CM w b y→CM w (a++b) (x++y)
 | [],b,x,y,h,h'=>by simp only[CM] at h;subst h;exact h'
 | p::a,b,x,y,h,h'=>by
  obtain⟨c,cs',rfl,h1,h⟩:=h;exact⟨c,cs'++y,O,h1,CM.append h h'⟩
theorem CM.one {w:World}{p:PV}{c:Value}(h:CK F0 w p c):CM w [p] [c]:=⟨c,[],rfl,h,rfl⟩
theorem CM.repL {w:World}:∀{ps:List PV}{cs:List Value},CM w ps cs→Bz F0 w (ps.map .p) cs
 | [],cs,h=>by simp only[CM] at h;subst h;exact rfl
 | p::ps,cs,h=>by
  obtain⟨c,cs',rfl,h1,h⟩:=h;exact⟨c,cs',O,by simp only[CN];exact h1,CM.repL h⟩
theorem Pa {w:World}{b:Nat}:∀(r:List PV) (cs:List Value) (o:Nat),CM w r cs→(∀j,j<cs.length→w.cell? ⟨b,o+j,none⟩=cs[j]?)→CQ F0 w b o r
 | [],cs,o,h,hc=>by simp[CQ]
 | p::r,cs,o,h,hc=>by
  obtain⟨c,cs',rfl,h1,h⟩:=h;refine⟨⟨c,by have:=hc 0 Ao;simpa using this,h1⟩,Pa r cs' (o+1) h fun j hj=>?_⟩;have:=hc (j+1) Ai;rw[show o+1+j=o+(j+1) by omega];simpa using this
theorem NC {w:World}{base:Nat}{a:Addr}{n:Nat}{cs:List Value}(h:w.cells? base a n=some cs):cs.length=n∧∀j,j<n→w.cell? (a.add j)=cs[j]?:=by
 unfold World.cells? at h;split at h
 ·exact⟨by simpa using mapM_some_length h,fun j hj=>mapM_some_get h j j (by simp[hj])⟩
 cases h
section
variable {H:Type}{enc:TypeId×Value→H}{P:Program}{w:World}{base:Nat}{sp:Nat→Bool}{hd:Bool}{n:Nat}
theorem open_slice {α:Type}{e t C:Nat}(ut:P.underlying t=some (.slice e)) (hC:P.cellsOf e=C) (hC1:1≤C) (f:α→List PV) (Q:α→Prop)
  (he:∀m cs y,m<n→DataW.trod enc P w base sp hd m e cs=some y→∃a,CM w (f a) cs∧Q a) {cs:List Value} {y:DataW H×List MemPlace} (h:DataW.trod enc P w base sp hd n t cs=some y) :
  ∃l:List α,l.length<wide∧(∀a∈l,Q a)∧∃v,cs=[v]∧CK F0 w (.lst (l.map f)) v:=by
 rcases DataW.trod_slice ut h with ⟨rfl,_⟩ | ⟨a,len,cap,elems,rest,m,rfl,rfl,_,hb,hl,hc,hel,hget,_,_⟩
 ·exact⟨[],by simp[wide],fun a ha=>by simp at ha,_,rfl,by simp only[CK];exact .inl ⟨rfl,none,0,rfl⟩⟩
 rw[hC] at hget;have hml:maxLen<wide:=by decide
 rcases Nat.eq_zero_or_pos len with h0 | h0
 ·subst h0;exact⟨[],by simp[wide],fun a ha=>by simp at ha,_,rfl,by simp only[CK];exact .inl ⟨rfl,some a,cap,rfl⟩⟩
 have hone:∀i,i<len→∃ci y,w.cells? base (a.add (i*C)) C=some ci∧DataW.trod enc P w base sp hd m e ci=some y:=fun i hi=>by
  have:=hget i hi;rw[List.getElem?_eq_getElem An] at this;obtain⟨ci,h1,h2⟩:=Option.bind_eq_some_iff.1 this;exact⟨ci,_,h1,h2⟩
 obtain⟨c0,y0,hc0,_⟩:=hone 0 h0;obtain⟨hl0,hg0⟩:=NC hc0;have hcell:∃v,w.cell? a=some v:=by
  have:=hg0 0 An;rw[Nat.zero_mul,Addr.add,if_pos rfl,Addr.add,if_pos rfl] at this;rw[List.getElem?_eq_getElem An] at this;exact⟨_,this⟩
 obtain⟨v0,hv0⟩:=hcell;obtain⟨blk,off,spot⟩:=a;have hspot:spot=none:=by
  unfold World.cell? at hv0;simp only at hv0;split at hv0
  ·cases spot with
   | none=>rfl
   | some s=>simp at hv0
  cases hv0
 subst hspot;have hblk:blk<w.heap.size:=by
  unfold World.cell? at hv0;simp only at hv0;split at hv0
  ·rename_i hh;exact(Array.getElem?_eq_some_iff.1 hh).1
  cases hv0
 have hadd:∀k,(⟨blk,off,none⟩:Addr).add k=⟨blk,off+k,none⟩:=fun k=>by
  unfold Addr.add;split
  ·rename_i e;subst e;rfl
  rfl
 have hadd2:∀o k,(⟨blk,o,none⟩:Addr).add k=⟨blk,o+k,none⟩:=fun o k=>by
  unfold Addr.add;split
  ·rename_i e;subst e;rfl
  rfl
 have hrows:∀k,k≤len→∃l:List α,l.length=k∧(∀x∈l,Q x)∧B3 F0 w blk C (off+(len - k)*C) (l.map f):=by
  intro k
  induction k with
  | zero=>exact fun _=>⟨[],rfl,fun a ha=>by simp at ha,by simp[B3]⟩
  | succ k ih =>
   intro hk;obtain⟨l,h1,h2,h3⟩:=ih An;obtain⟨ci,y,hci,ht⟩:=hone (len - (k+1)) An;obtain⟨g1,g2⟩:=NC hci;obtain⟨x,hx,hq⟩:=he m ci y An ht;refine⟨x::l,by simp[h1],fun z hz=>?_,?_⟩
   ·rcases List.mem_cons.1 hz with rfl | hz
    ·exact hq
    exact h2 z hz
   refine⟨by rw[hx.length,g1],Pa _ ci _ hx fun j hj=>?_,?_⟩
   ·have:=g2 j An;rw[hadd,hadd2] at this;exact this
   rw[show off+(len - (k+1))*C+C=off+(len - k)*C by rw[Nat.add_assoc,←Nat.succ_mul];congr 2;omega];exact h3
 obtain⟨l,h1,h2,h3⟩:=hrows len (Nat.le_refl _);rw[Nat.sub_self,Nat.zero_mul,Nat.add_zero] at h3;refine⟨l,by omega,h2,_,rfl,?_⟩;simp only[CK];refine .inr ⟨blk,off,cap,C,by rw[List.length_map,h1],fun h=>h,hblk,by rw[List.length_map];omega,h3⟩
def Oe (P:Program) (t:TypeId):Option (List (Nat×Nat)) :=
 match P.underlying t with
 | some (.struct fs)=>some (fs.toList.map fun f=>(f.type,f.offset))
 | _=>none
theorem V9 {t:TypeId}{l:List (Nat×Nat)}(hf:Oe P t=some l) {cs:List Value}{y:DataW H×List MemPlace}(h:DataW.trod enc P w base sp hd n t cs=some y) :
  ∃m,n=m+1∧cs.length=P.cellsOf t∧∀(i:Nat) (p:Nat×Nat),l[i]?=some p→∃z,DataW.trod enc P w base sp hd m p.1 ((cs.drop p.2).take (P.cellsOf p.1))=some z:=by
 unfold Oe at hf;split at hf
 ·rename_i fs hu;injection hf with hf;subst hf;obtain⟨xs,m,h1,_,h2,h3,h4⟩:=DataW.trod_struct hu h;refine⟨m,h1,h2,fun i p hp=>?_⟩;rw[List.getElem?_map] at hp;obtain⟨fl,hfl,rfl⟩:=Option.map_eq_some_iff.1 hp;have hi:fs[i]?=some fl:=by simpa using hfl
  have:=h4 i fl hi;have hlt:i<xs.length:=by rw[h3];exact(Array.getElem?_eq_some_iff.1 hi).1
  rw[List.getElem?_eq_getElem hlt] at this;exact⟨_,this⟩
 cases hf
end
structure G8 (P:Program) (tI tS tV tVs tL tLs tT tTs:TypeId):Prop where
 uI:P.underlying tI=some (.int .i64)
 uS:P.underlying tS=some .string
 uVs:P.underlying tVs=some (.slice tV)
 uLs:P.underlying tLs=some (.slice tL)
 uTs:P.underlying tTs=some (.slice tT)
 fV:Oe P tV=some [(tI,0),(tI,1)]
 fL:Oe P tL=some [(tI,0),(tVs,1)]
 fT:Oe P tT=some [(tI,0),(tI,1),(tS,2),(tLs,3),(tTs,4)]
 cI:P.cellsOf tI=1
 cS:P.cellsOf tS=1
 cVs:P.cellsOf tVs=1
 cLs:P.cellsOf tLs=1
 cTs:P.cellsOf tTs=1
 cV:P.cellsOf tV=2
 cL:P.cellsOf tL=2
 cT:P.cellsOf tT=5
theorem Pm {n:Int}(h:(Lit.int .i64 n).wf=true):JE n:=by
 simp only[Lit.wf,Bool.and_eq_true,decide_eq_true_eq] at h;exact h
theorem _root_.Go.Am {α:Prop}(h:α:=by decide):α:=h
section
variable {H:Type}{enc:TypeId×Value→H}{P:Program}{w:World}{base:Nat}{sp:Nat→Bool}{hd:Bool}{tI tB tS tV tVs tL tLs tT tTs tM tMs:TypeId}
theorem fq (E:G8 P tI tS tV tVs tL tLs tT tTs) {n:Nat}{cs:List Value}{y:DataW H×List MemPlace}(h:DataW.trod enc P w base sp hd n tV cs=some y):∃v:CF,CM w (Dt v) cs∧(JE v.index∧JE v.plus):=by
 obtain⟨m,rfl,hl,hg⟩:=V9 E.fV h;rw[E.cV] at hl
 match cs,hl with
 | [c0,c1],_ =>
  obtain⟨z0,h0⟩:=hg 0 _ rfl;obtain⟨z1,h1⟩:=hg 1 _ rfl;simp only[E.cI,List.drop_zero,List.drop_succ_cons,List.take_succ_cons,List.take_zero] at h0 h1;obtain⟨a,ha,_,fa⟩:=DataW.trod_int E.uI h0;obtain⟨b,hb,_,fb⟩:=DataW.trod_int E.uI h1;injection ha with ha;injection hb with hb;subst ha hb;exact⟨⟨a,b⟩,⟨_,_,O,by simp[CK],_,_,rfl,by simp[CK],rfl⟩,Pm fa,Pm fb⟩
theorem pz (E:G8 P tI tS tV tVs tL tLs tT tTs) {n:Nat}{cs:List Value}{y:DataW H×List MemPlace}(h:DataW.trod enc P w base sp hd n tL cs=some y):∃v:CS,CM w (By v) cs∧p7 v:=by
 obtain⟨m,rfl,hl,hg⟩:=V9 E.fL h;rw[E.cL] at hl
 match cs,hl with
 | [c0,c1],_ =>
  obtain⟨z0,h0⟩:=hg 0 _ rfl;obtain⟨z1,h1⟩:=hg 1 _ rfl;simp only[E.cI,E.cVs,List.drop_zero,List.drop_succ_cons,List.take_succ_cons,List.take_zero] at h0 h1;obtain⟨a,ha,_,fa⟩:=DataW.trod_int E.uI h0;injection ha with ha;subst ha;obtain⟨l,g1,g2,v,hv,g3⟩:=open_slice E.uVs E.cV Am Dt (fun v=>JE v.index∧JE v.plus) (fun m cs y _ h=>fq E h) h1;injection hv with hv;subst hv;exact⟨⟨a,l⟩,⟨_,_,O,by simp[CK],_,_,rfl,g3,rfl⟩,⟨g1,Pm fa,g2⟩⟩
theorem pU (E:G8 P tI tS tV tVs tL tLs tT tTs):∀(n:Nat) (cs:List Value) (y:DataW H×List MemPlace),DataW.trod enc P w base sp hd n tT cs=some y→∃t:Tm,CM w (BP t) cs∧Wd t:=by
 intro n
 induction n using Nat.strongRecOn with
 | ind n ih =>
  intro cs y h;obtain⟨m,rfl,hl,hg⟩:=V9 E.fT h;rw[E.cT] at hl
  match cs,hl with
  | [c0,c1,c2,c3,c4],_ =>
   obtain⟨z0,h0⟩:=hg 0 _ rfl;obtain⟨z1,h1⟩:=hg 1 _ rfl;obtain⟨z2,h2⟩:=hg 2 _ rfl;obtain⟨z3,h3⟩:=hg 3 _ rfl;obtain⟨z4,h4⟩:=hg 4 _ rfl;simp only[E.cI,E.cS,E.cLs,E.cTs,List.drop_zero,List.drop_succ_cons,List.take_succ_cons,List.take_zero] at h0 h1 h2 h3 h4;obtain⟨a,ha,_,wa⟩:=DataW.trod_int E.uI h0;obtain⟨b,hb,_,wb⟩:=DataW.trod_int E.uI h1;obtain⟨s,hs,_,ws⟩:=DataW.trod_string E.uS h2;injection ha with ha;injection hb with hb;injection hs with hs;subst ha hb hs;obtain⟨l,g1,g2,v,hv,g3⟩:=open_slice E.uLs E.cL Am By p7 (fun m cs y _ h=>pz E h) h3;obtain⟨ks,k1,k2,u,hu,k3⟩:=open_slice E.uTs E.cT Am BP Wd (fun m' cs y hm h=>ih m' An cs y h) h4;injection hv with hv;injection hu with hu;subst hv hu;have hml:maxLen<wide:=by decide
   exact⟨.mk a b s l ks,⟨_,_,O,by simp[CK],_,_,rfl,by simp[CK],_,_,rfl,by simp[CK],_,_,rfl,g3,_,_,rfl,by rw[EL];exact k3,rfl⟩,
    ⟨by omega,g1,g2,k1,jH fun t ht=>k2 t ht,Pm wa,Pm wb⟩⟩
theorem dx {b2:Nat}{r:Reach}{t e:TypeId}(ut:P.underlying t=some (.slice e)) {v u:Value}(hk:Value.okWide P w r b2 t v) (h:v.cells.toList=[u]):v=u:=by
 unfold Value.okWide at hk;rw[ut] at hk;simp only at hk;unfold Cell.okWide at hk;rw[ut] at hk;cases v with
 | agg cs=>simp only at hk;unfold Cell.ok at hk;rw[ut] at hk;simp at hk
 | _=>simp[Value.cells] at h;exact h
theorem sP (E:G8 P tI tS tV tVs tL tLs tT tTs) {b2:Nat}{r:Reach}{v:Value}{d:DataW H}{ps:List MemPlace}(hk:Value.okWide P w r b2 tT v) (h:DataW.Trod enc P w base sp hd tT v d ps):∃t:Tm,Wd t∧CN F0 w (TV t) v:=by
 obtain⟨n,h⟩:=h;obtain⟨t,g1,g2⟩:=pU E _ _ _ h;have hf:=E.fT;unfold Oe at hf;unfold Value.okWide at hk;split at hk
 ·obtain⟨cs,rfl,_,_⟩:=hk;refine⟨t,g2,?_⟩;exact⟨cs.toList,by simp,CM.repL g1⟩
 ·rename_i hu;rw[hu] at hf;cases hf
 rename_i h1 h2;split at hf
 ·rename_i fs hu;exact absurd hu (h1 fs)
 cases hf
end
theorem dU (w:World):HRel F0 [] w:=⟨fun o ho=>by simp at ho,by simp,fun o ho=>by simp at ho,fun b hb=>hb.elim⟩
theorem ZQ {P:Program}{f:FuncId}{xs:List AV}(h:ET P f xs (.p (.bool true))) {w:World}{vs:List Value}(ha:Bz F0 w xs vs):Calls P f ⟨vs⟩ w fun e w'=>e= .returned (.bool true)∧Below w.heap.size w w':=by
 refine(h.2 F0 w vs (dU w) ha).mono ?_;rintro e w' ⟨r,H',F',hr,he,hH,ht⟩;cases r with
 | panic v=>exact hr.elim
 | val v =>
  obtain⟨rfl,rfl⟩:=hr;obtain⟨u,rfl,hu⟩:=he;simp only[CN,CK] at hu;subst hu;exact⟨O,ht.os,ht.tape,ht.out,ht.size,fun k hk=>ht.same k hk fun o ho=>by simp at ho⟩
theorem ZP {H:Type}{enc:TypeId×Value→H}{P:Program}{f:Func}{s:ChangeSpec}{tB:TypeId}(hl:laidOutB P=true) (hB:P.underlying tB=some .bool) (hrt:f.resultTypes=#[tB]) (hv0:s.vars=[]) {W W':World}{args:Array Value}{ds:List (DataW H)}{before:List MemPlace}
  (hpr:∀t∈f.params.toList,P.readableRec t=true∧t<P.types.size) (hW:DataW.Whole enc P f.params.toList s.vars false W args.toList ds [] before) (hres:(s.fn H ds).results=[.lit (.bool true)]) (hargs:(s.fn H ds).args=ds) (hvars:(s.fn H ds).vars=[]) (hb:Below W.heap.size W W') :
  s.post enc P f false true false false W args (.bool true) W':=by
 have hW':=hW;obtain⟨p,q,hA,hV,rfl,hfz,hnd⟩:=hW;have hq:q=[]:=by rw[hv0] at hV;exact hV
 subst hq;have hstay:∀{ts:List TypeId} {vs:List Value} {ds:List (DataW H)} {ps:List MemPlace},(∀t∈ts,P.readableRec t=true∧t<P.types.size)→(∀x∈ps,x.block<W.heap.size)→DataW.TrodAll enc P W 0 (fun _=>true) true ts vs ds ps→DataW.TrodAll enc P W' 0 (fun b=>decide (b<W.heap.size)) true ts vs ds ps:=by
  intro ts
  induction ts with
  | nil =>
   intro vs ds ps _ _ h;cases vs<;>cases ds<;>simp[DataW.TrodAll] at h ⊢;exact h
  | cons t ts ih =>
   intro vs ds ps h1 h2 h;obtain⟨v,vs',d,ds',a,b,rfl,rfl,rfl,h3,h4⟩:=trodAll_cons h;exact⟨a,b,Below.trod hl (h1 t Ao).1 (h1 t Ao).2 h3 hb (fun x hx=>h2 x (by simp[hx])),ih (fun t ht=>h1 t (by simp[ht])) (fun x hx=>h2 x (by simp[hx])) h4,O⟩
 refine⟨ds,[],p++[],[],p,[],hW',?_,?_,?_,hb.frame _,fun h=>by cases h⟩
 ·rw[List.append_nil,hres,hrt];refine⟨[],[],⟨1,?_⟩,O,O⟩;unfold DataW.trod;rw[hB];rfl
 ·rw[List.append_nil,hargs];exact hstay hpr (fun x hx=>hW'.lt x (by simpa using hx)) hA
 rw[List.append_nil,hvars,hv0];exact O
section
variable {H:Type}{enc:TypeId×Value→H}{P:Program}{w:World}{base:Nat}{sp:Nat→Bool}{hd:Bool}{tI tB tS tV tVs tL tLs tT tTs tM tMs:TypeId}
end
end Go.Eu
namespace Go.Eu
open Go.Abs
structure IS where
 name:ByteArray
 type:Tm
 deriving Inhabited
structure kF where
 params:Int
 type:Tm
 rules:List Tm
 deriving Inhabited
mutual
inductive ES where
 | mk (kind:Int) (body:Tm) (var:Int) (branches:List GC)
inductive GC where
 | mk (ctor:ByteArray) (absurd:Bool) (tree:ES)
end
instance:Inhabited ES:=⟨.mk 0 default 0 []⟩
instance:Inhabited GC:=⟨.mk default false default⟩
def ES.kind:ES→Int | .mk k _ _ _=>k
def ES.body:ES→Tm | .mk _ b _ _=>b
def ES.var:ES→Int | .mk _ _ v _=>v
def ES.branches:ES→List GC | .mk _ _ _ l=>l
def GC.ctor:GC→ByteArray | .mk c _ _=>c
def GC.absurd:GC→Bool | .mk _ a _=>a
def GC.tree:GC→ES | .mk _ _ t=>t
structure Hp where
 name:ByteArray
 type:Tm
 arity:Int
 tree:ES
 deriving Inhabited
structure B5 where
 kind:Int
 name:ByteArray
 params:Int
 type:Tm
 value:Tm
 fixed:Int
 ctors:List IS
 recs:kF
 funs:List Hp
 deriving Inhabited
structure Fq where
 kind:Int
 decl:Int
 item:Int
 params:Int
 type:Tm
 deriving Inhabited
def G1 (c:IS):List PV:= .str c.name::BP c.type
def SY (r:kF):List PV:=I r.params::(BP r.type++[.lst (BE r.rules)])
mutual
def Cz:ES→List PV
 | .mk k b v l=>I k::(BP b++[I v,.lst (Lr l)])
def Gy:GC→List PV
 | .mk c a t=> .str c:: .bool a::Cz t
def Lr:List GC→List (List PV)
 | []=>[]
 | b::l=>Gy b::Lr l
end
def FH (f:Hp):List PV:= .str f.name::(BP f.type++(I f.arity::Cz f.tree))
def Bi (d:B5):List PV:=I d.kind:: .str d.name::I d.params::(BP d.type++(BP d.value++(I d.fixed:: .lst (d.ctors.map G1)::(SY d.recs++[.lst (d.funs.map FH)]))))
def DS (e:Fq):List PV:=I e.kind::I e.decl::I e.item::I e.params::BP e.type
theorem Mq:∀l:List GC,Lr l=l.map Gy
 | []=>rfl
 | t::ts=>by simp[Lr,Mq ts]
theorem EE (c:IS):(G1 c).length=6:=by simp[G1,BD]
theorem Kw (r:kF):(SY r).length=7:=by simp[SY,BD]
theorem Co (t:ES):(Cz t).length=8:=by cases t;simp[Cz,BD]
theorem DL (b:GC):(Gy b).length=10:=by cases b;simp[Gy,Co]
theorem DZ (f:Hp):(FH f).length=15:=by simp[FH,BD,Co]
theorem Cp (d:B5):(Bi d).length=23:=by simp[Bi,BD,Kw]
theorem Yj (e:Fq):(DS e).length=9:=by simp[DS,BD]
theorem F6 (l:List GC):(Lr l).length=l.length:=by simp[Mq]
theorem FQ {ts:List GC}{i:Nat}{t:GC}(h:ts[i]?=some t):(Lr ts)[i]?=some (Gy t):=by simp[Mq,h]
theorem RM {α:Type}{f:α→List PV}{ts:List α}{i:Nat}{t:α}(h:ts[i]?=some t):(ts.map f)[i]?=some (f t):=by simp[h]
theorem Em {ts:List IS}{i:Nat}{t:IS}(h:ts[i]?=some t):(ts.map G1)[i]?=some (G1 t):=RM h
theorem EZ {ts:List Hp}{i:Nat}{t:Hp}(h:ts[i]?=some t):(ts.map FH)[i]?=some (FH t):=RM h
theorem D8 {ts:List B5}{i:Nat}{t:B5}(h:ts[i]?=some t):(ts.map Bi)[i]?=some (Bi t):=RM h
theorem Cv {n:Nat}{c:PV}{r:List PV}(hc:c≠ .any∧c≠ .unit) (h:EM n r):EM (n+1) (c::r) :=
 ⟨by simp[h.1],fun x hx=>by
  rcases List.mem_cons.1 hx with rfl | hx
  ·exact hc
  exact h.2 x hx⟩
theorem JF {n m:Nat}{a b:List PV}(ha:EM n a) (hb:EM m b):EM (n+m) (a++b) :=
 ⟨by simp[ha.1,hb.1],fun x hx=>by
  rcases List.mem_append.1 hx with hx | hx
  ·exact ha.2 x hx
  exact hb.2 x hx⟩
theorem Pq:EM 0 []:=⟨rfl,fun c h=>by simp at h⟩
theorem az (c:IS):EM 6 (G1 c):=Cv Ao (K0 _)
theorem pv (r:kF):EM 7 (SY r):=Cv Ao (JF (K0 _) (Cv Ao Pq))
theorem Rc (t:ES):EM 8 (Cz t):=by
 cases t with
 | mk k b v l=>unfold Cz;exact Cv Ao (JF (n:=5) (m:=2) (K0 _) (Cv Ao (Cv Ao Pq)))
theorem m5 (b:GC):EM 10 (Gy b):=by
 cases b with
 | mk c a t=>unfold Gy;exact Cv Ao (Cv Ao (Rc t))
theorem oS (f:Hp):EM 15 (FH f):=Cv Ao (JF (n:=5) (m:=9) (K0 _) (Cv Ao (Rc _)))
theorem ZR (d:B5):EM 23 (Bi d):=Cv Ao (Cv Ao (Cv Ao (JF (n:=5) (m:=15) (K0 _) (JF (n:=5) (m:=10) (K0 _) (Cv Ao (Cv Ao (JF (n:=7) (m:=1) (pv _) (Cv Ao Pq))))))))
theorem pT (e:Fq):EM 9 (DS e):=Cv Ao (Cv Ao (Cv Ao (Cv Ao (K0 _))))
theorem dT (l:List IS):∀r∈l.map G1,EM 6 r:=HO az l
theorem cj (l:List B5):∀r∈l.map Bi,EM 23 r:=HO ZR l
theorem ke (m:IS):((G1 m).map AV.p).all one=true:=HQ (az m)
theorem lV (m:ES):((Cz m).map AV.p).all one=true:=HQ (Rc m)
theorem WJ (m:GC):((Gy m).map AV.p).all one=true:=HQ (m5 m)
theorem mF (m:Hp):((FH m).map AV.p).all one=true:=HQ (oS m)
theorem kJ (m:B5):((Bi m).map AV.p).all one=true:=HQ (ZR m)
theorem mA (m:Fq):((DS m).map AV.p).all one=true:=HQ (pT m)
end Go.Eu
namespace Go.Eu
open Go.Abs Go.RowKit Go.ChangeShapes Go.ChangeAt Go.WideShapes
section
variable {H:Type}{enc:TypeId×Value→H}{P:Program}{w:World}{base:Nat}{sp:Nat→Bool}{hd:Bool}{tI tB tS tV tVs tL tLs tT tTs tM tMs tSs tTh:TypeId}
end
end Go.Eu
namespace Go.Eu
open Go.Abs
def V7 (n:ByteArray):ByteArray:=n++⟨#[46,114,101,99]⟩
def Ho (i p:Int):List IS→Int→List (ByteArray×Fq)
 | [],_=>[]
 | c::cs,k=>(c.name,⟨4,i,k,p,c.type⟩)::Ho i p cs (k+1)
def MF (i p:Int):List Hp→Int→List (ByteArray×Fq)
 | [],_=>[]
 | c::cs,k=>(c.name,⟨6,i,k,p,c.type⟩)::MF i p cs (k+1)
def Ew (d:B5) (i:Int):List (ByteArray×Fq) :=
 if d.kind=0∨d.kind=1∨d.kind=2 then [(d.name,⟨d.kind,i,0,d.params,d.type⟩)]
 else if d.kind=3 then (d.name,⟨3,i,0,d.params,d.type⟩)::(Ho i d.params d.ctors 0++[(V7 d.name,⟨5,i,0,d.recs.params,d.recs.type⟩)])
 else if d.kind=4 then MF i d.params d.funs 0
 else []
def Cm (nm:ByteArray):List (ByteArray×Fq)→Option Fq
 | []=>none
 | (s,e)::l=>if s=nm then some e else Cm nm l
def findF (nm:ByteArray):List B5→Int→Option Fq
 | [],_=>none
 | d::ds,i=>match Cm nm (Ew d i) with
  | some e=>some e
  | none=>findF nm ds (i+1)
def ie:Fq:=⟨0,0,0,0,Bh⟩
def Bb (ds:List B5) (nm:ByteArray):Fq×Int:=match findF nm ds 0 with
 | some e=>(e,0)
 | none=>(ie,9)
theorem K7 {nm:ByteArray}:∀{a b:List (ByteArray×Fq)},Cm nm (a++b)=match Cm nm a with
  | some e=>some e
  | none=>Cm nm b
 | [],b=>rfl
 | (s,e)::a,b=>by
  simp only[List.cons_append,Cm];split
  ·rfl
  exact K7
section
variable {i p:Int}{nm:ByteArray}
theorem Pw:∀{cs:List IS}{j:Nat}{c:IS}{k:Int},cs[j]?=some c→c.name=nm→(∀q,q<j→∀y,cs[q]?=some y→y.name≠nm)→Cm nm (Ho i p cs k)=some ⟨4,i,k+j,p,c.type⟩
 | [],j,c,k,h,_,_=>by simp at h
 | a::cs,0,c,k,h,hn,_=>by
  simp at h;subst h;simp[Ho,Cm,hn]
 | a::cs,j+1,c,k,h,hn,hb=>by
  have h0:a.name≠nm:=hb 0 An a rfl;rw[Ho,Cm,if_neg h0,Pw (by simpa using h) hn fun q hq y hy=>hb (q+1) An y (by simpa using hy)];congr 2;omega
theorem Nt:∀{cs:List IS}{k:Int},(∀q:Nat,q<cs.length→∀y,cs[q]?=some y→y.name≠nm)→Cm nm (Ho i p cs k)=none
 | [],k,_=>rfl
 | a::cs,k,hb=>by
  have h0:a.name≠nm:=hb 0 Ao a rfl;rw[Ho,Cm,if_neg h0];exact Nt fun q hq y hy=>hb (q+1) (by simpa using hq) y (by simpa using hy)
theorem U0:∀{cs:List IS}{j:Nat}{c:IS}{k:Int},cs[j]?=some c→(c.name,(⟨4,i,k+j,p,c.type⟩:Fq))∈Ho i p cs k
 | [],j,c,k,h=>by simp at h
 | a::cs,0,c,k,h=>by simp at h;subst h;simp[Ho]
 | a::cs,j+1,c,k,h=>by
  have:=U0 (k:=k+1) (show cs[j]?=some c by simpa using h);rw[Ho];refine List.mem_cons_of_mem _ ?_
  rwa [show k+1+(j:Int)=k+((j+1:Nat):Int) by omega] at this
theorem Sh:∀{cs:List Hp}{j:Nat}{c:Hp}{k:Int},cs[j]?=some c→c.name=nm→(∀q,q<j→∀y,cs[q]?=some y→y.name≠nm)→Cm nm (MF i p cs k)=some ⟨6,i,k+j,p,c.type⟩
 | [],j,c,k,h,_,_=>by simp at h
 | a::cs,0,c,k,h,hn,_=>by
  simp at h;subst h;simp[MF,Cm,hn]
 | a::cs,j+1,c,k,h,hn,hb=>by
  have h0:a.name≠nm:=hb 0 An a rfl;rw[MF,Cm,if_neg h0,Sh (by simpa using h) hn fun q hq y hy=>hb (q+1) An y (by simpa using hy)];congr 2;omega
theorem PU:∀{cs:List Hp}{k:Int},(∀q:Nat,q<cs.length→∀y,cs[q]?=some y→y.name≠nm)→Cm nm (MF i p cs k)=none
 | [],k,_=>rfl
 | a::cs,k,hb=>by
  have h0:a.name≠nm:=hb 0 Ao a rfl;rw[MF,Cm,if_neg h0];exact PU fun q hq y hy=>hb (q+1) (by simpa using hq) y (by simpa using hy)
theorem Wz:∀{cs:List Hp}{j:Nat}{c:Hp}{k:Int},cs[j]?=some c→(c.name,(⟨6,i,k+j,p,c.type⟩:Fq))∈MF i p cs k
 | [],j,c,k,h=>by simp at h
 | a::cs,0,c,k,h=>by simp at h;subst h;simp[MF]
 | a::cs,j+1,c,k,h=>by
  have:=Wz (k:=k+1) (show cs[j]?=some c by simpa using h);rw[MF];refine List.mem_cons_of_mem _ ?_
  rwa [show k+1+(j:Int)=k+((j+1:Nat):Int) by omega] at this
end
def C4 (d:B5):List ByteArray :=
 if d.kind=0∨d.kind=1∨d.kind=2 then [d.name]
 else if d.kind=3 then d.name::d.ctors.map IS.name++[V7 d.name]
 else if d.kind=4 then d.funs.map Hp.name
 else []
def HT (l:List ByteArray) (s:ByteArray):Bool:=l.any fun x=>decide (x=s)
theorem gG {l:List ByteArray}{s x:ByteArray}{i:Nat}(h:l[i]?=some x) (e:x=s):HT l s=true :=
 List.any_eq_true.2 ⟨x,List.mem_of_getElem? h,by simp[e]⟩
theorem cw {l:List ByteArray}{s:ByteArray}(h:∀j,j<l.length→∀x,l[j]?=some x→x≠s):HT l s=false:=by
 refine Bool.eq_false_iff.2 fun hb=>?_;obtain⟨x,hx,hq⟩:=List.any_eq_true.1 hb;obtain⟨j,hj⟩:=List.mem_iff_getElem?.1 hx;exact h j (List.getElem?_eq_some_iff.1 hj).1 x hj (by simpa using hq)
def OT (nm:ByteArray) (i p:Int) (o:Fq):List IS→Int→Fq
 | [],_=>o
 | c::cs,k=>if c.name=nm then ⟨4,i,k,p,c.type⟩ else OT nm i p o cs (k+1)
def ea (nm:ByteArray) (i p:Int) (o:Fq):List Hp→Int→Fq
 | [],_=>o
 | c::cs,k=>if c.name=nm then ⟨6,i,k,p,c.type⟩ else ea nm i p o cs (k+1)
def Fj (d:B5) (i:Int) (nm:ByteArray):Fq :=
 if d.kind=0∨d.kind=1∨d.kind=2 then ⟨d.kind,i,0,d.params,d.type⟩
 else if d.kind=3 then (if nm=d.name then ⟨3,i,0,d.params,d.type⟩ else OT nm i d.params ⟨5,i,0,d.recs.params,d.recs.type⟩ d.ctors 0)
 else ea nm i d.params ⟨0,i,0,d.params,d.type⟩ d.funs 0
theorem OF {nm:ByteArray}{i p:Int}{o:Fq}:∀{cs:List IS}{k:Int},OT nm i p o cs k=(Cm nm (Ho i p cs k)).getD o
 | [],k=>rfl
 | c::cs,k=>by
  rw[OT,Ho,Cm];split
  ·rfl
  exact OF
theorem RS {nm:ByteArray}{i p:Int}{o:Fq}:∀{cs:List Hp}{k:Int},ea nm i p o cs k=(Cm nm (MF i p cs k)).getD o
 | [],k=>rfl
 | c::cs,k=>by
  rw[ea,MF,Cm];split
  ·rfl
  exact RS
theorem QW {nm:ByteArray}{i p:Int}:∀{cs:List IS}{k:Int},(Cm nm (Ho i p cs k)).isSome=HT (cs.map IS.name) nm
 | [],k=>rfl
 | c::cs,k=>by
  rw[Ho,Cm];split
  ·rename_i h;simp[HT,h]
  rename_i h;rw[QW];simp[HT,h]
theorem Rt {nm:ByteArray}{i p:Int}:∀{cs:List Hp}{k:Int},(Cm nm (MF i p cs k)).isSome=HT (cs.map Hp.name) nm
 | [],k=>rfl
 | c::cs,k=>by
  rw[MF,Cm];split
  ·rename_i h;simp[HT,h]
  rename_i h;rw[Rt];simp[HT,h]
theorem jq {a b:List ByteArray}{s:ByteArray}:HT (a++b) s=(HT a s||HT b s):=List.any_append
theorem J8 (d:B5) (i:Int) (nm:ByteArray):Cm nm (Ew d i)=if HT (C4 d) nm=true then some (Fj d i nm) else none:=by
 unfold Ew C4 Fj;by_cases h:d.kind=0∨d.kind=1∨d.kind=2
 ·simp only[if_pos h,Cm];by_cases e:d.name=nm<;>simp[HT,e]
 simp only[if_neg h];by_cases h3:d.kind=3
 ·simp only[if_pos h3,Cm,K7,List.cons_append];by_cases e:d.name=nm
  ·simp[HT,e]
  have e':¬nm=d.name:=fun q=>e q.symm;rw[if_neg e,if_neg e',OF];have hn:=QW (nm:=nm) (i:=i) (p:=d.params) (cs:=d.ctors) (k:=0);have hh:HT (d.name::(d.ctors.map IS.name++[V7 d.name])) nm=(HT (d.ctors.map IS.name) nm||HT [V7 d.name] nm):=by
   rw[←jq];simp[HT,e]
  rw[hh,←hn];cases hf:Cm nm (Ho i d.params d.ctors 0) with
  | some x=>simp
  | none =>
   by_cases e2:V7 d.name=nm<;>simp[HT,e2]
 simp only[if_neg h3];by_cases h4:d.kind=4
 ·simp only[if_pos h4];rw[RS,←Rt (i:=i) (p:=d.params) (k:=0)];cases hf:Cm nm (MF i d.params d.funs 0)<;>simp
 simp[h4,Cm,HT]
structure QL where
 env:List B5
 own:List ByteArray
 d:B5
def GH (s:QL):List PV:= .lst (s.env.map Bi):: .lst (s.own.map Gr)::Bi s.d
theorem dY (s:QL):(GH s).length=25:=by simp[GH,Cp]
theorem mD (s:QL):EM 25 (GH s):=Cv Ao (Cv Ao (ZR _))
theorem mu (m:QL):((GH m).map AV.p).all one=true:=HQ (mD m)
structure We (t:Tm):Prop where
 nd:Nd t
 sz:size t<1000000
mutual
def Hu:ES→Prop
 | .mk k b v l=>We b∧l.length<2000000∧Nb l
def Rz:GC→Prop
 | .mk c a t=>c.size<2000000∧Hu t
def Nb:List GC→Prop
 | []=>True
 | b::l=>Rz b∧Nb l
end
mutual
def Ls:ES→Nat
 | .mk k b v l=>1+Xq l
def kC:GC→Nat
 | .mk c a t=>Ls t
def Xq:List GC→Nat
 | []=>0
 | b::l=>kC b+1+Xq l
end
theorem Jn:∀{l:List GC}{i:Nat}{b:GC},Nb l→l[i]?=some b→Rz b
 | [],i,b,_,h=>by simp at h
 | a::l,0,b,hn,h=>by simp at h;subst h;exact hn.1
 | a::l,i+1,b,hn,h=>by simp at h;exact Jn hn.2 h
theorem Un:∀{l:List GC}{i:Nat}{b:GC},l[i]?=some b→kC b<Xq l
 | [],i,b,h=>by simp at h
 | a::l,0,b,h=>by simp at h;subst h;simp only[Xq];omega
 | a::l,i+1,b,h=>by
  have:=Un (show l[i]?=some b by simpa using h);simp only[Xq];omega
structure iP (c:IS):Prop where
 nm:c.name.size<2000000
 ty:We c.type
structure gd (f:Hp):Prop where
 nm:f.name.size<2000000
 ty:We f.type
 tr:Hu f.tree
structure Ox (d:B5):Prop where
 nm:d.name.size<2000000
 ty:We d.type
 vl:We d.value
 cl:d.ctors.length<2000000
 cs:∀c∈d.ctors,iP c
 rt:We d.recs.type
 rl:d.recs.rules.length<2000000
 rs:∀t∈d.recs.rules,We t
 fl:d.funs.length<2000000
 fs:∀f∈d.funs,gd f
structure Hg (ds:List B5):Prop where
 len:ds.length<2000000
 all:∀d∈ds,Ox d
theorem Hg.take {ds:List B5}(h:Hg ds) (n:Nat):Hg (ds.take n) :=
 ⟨by have:=h.len;simp;omega,fun d hd=>h.all d (List.mem_of_mem_take hd)⟩
theorem aC {nm:ByteArray}:∀{ds:List B5}{i:Nat}{k:Int}{d:B5},ds[i]?=some d→(∀j,j<i→∀y,ds[j]?=some y→HT (C4 y) nm=false)→HT (C4 d) nm=true→findF nm ds k=some (Fj d (k+i) nm)
 | [],i,k,d,h,_,_=>by simp at h
 | a::ds,0,k,d,h,_,hn=>by
  simp at h;subst h;rw[findF,J8,if_pos hn];simp
 | a::ds,i+1,k,d,h,hb,hn=>by
  have h0:=hb 0 An a rfl;rw[findF,J8,if_neg (by rw[h0];decide)];simp only;rw[aC (by simpa using h) (fun j hj y hy=>hb (j+1) An y (by simpa using hy)) hn];congr 2;omega
theorem VE {nm:ByteArray}:∀{ds:List B5}{k:Int},(∀j,j<ds.length→∀y,ds[j]?=some y→HT (C4 y) nm=false)→findF nm ds k=none
 | [],k,_=>rfl
 | a::ds,k,hb=>by
  have h0:=hb 0 Ao a rfl;rw[findF,J8,if_neg (by rw[h0];decide)];simp only;exact VE fun j hj y hy=>hb (j+1) (by simpa using hj) y (by simpa using hy)
theorem eP (n:ByteArray):(V7 n).size=n.size+4:=by
 show (n++⟨#[46,114,101,99]⟩:ByteArray).size=_;rw[ByteArray.size_append];rfl
theorem Nr (d:B5):(C4 d).length≤d.ctors.length+d.funs.length+2:=by
 unfold C4;split
 ·simp
 split
 ·simp
 split<;>simp<;>omega
section
variable {d:B5}{i:Int}{nm:ByteArray}
theorem Ns (h:d.kind=0∨d.kind=1∨d.kind=2) {k:Int}(hk:d.kind=k):Fj d i nm=⟨k,i,0,d.params,d.type⟩:=by rw[Fj,if_pos h,hk]
theorem eZ (h:d.kind=3) (hn:nm=d.name):Fj d i nm=⟨3,i,0,d.params,d.type⟩:=by rw[Fj,if_neg An,if_pos h,if_pos hn]
theorem Zn (h:d.kind=3) (hn:¬nm=d.name) {j:Nat}{c:IS}(hc:d.ctors[j]?=some c) (he:c.name=nm) (hb:∀q,q<j→∀y,d.ctors[q]?=some y→y.name≠nm):Fj d i nm=⟨4,i,j,d.params,c.type⟩:=by
 rw[Fj,if_neg An,if_pos h,if_neg hn,OF,Pw hc he hb,Int.zero_add];rfl
theorem dP (h:d.kind=3) (hn:¬nm=d.name) (hb:∀q:Nat,q<d.ctors.length→∀y,d.ctors[q]?=some y→y.name≠nm):Fj d i nm=⟨5,i,0,d.recs.params,d.recs.type⟩:=by
 rw[Fj,if_neg An,if_pos h,if_neg hn,OF,Nt hb];rfl
theorem eN (h:¬(d.kind=0∨d.kind=1∨d.kind=2)) (h3:¬d.kind=3) {j:Nat}{c:Hp}(hc:d.funs[j]?=some c) (he:c.name=nm) (hb:∀q,q<j→∀y,d.funs[q]?=some y→y.name≠nm):Fj d i nm=⟨6,i,j,d.params,c.type⟩:=by
 rw[Fj,if_neg h,if_neg h3,RS,Sh hc he hb,Int.zero_add];rfl
theorem dw (h:¬(d.kind=0∨d.kind=1∨d.kind=2)) (h3:¬d.kind=3) (hb:∀q:Nat,q<d.funs.length→∀y,d.funs[q]?=some y→y.name≠nm):Fj d i nm=⟨0,i,0,d.params,d.type⟩:=by
 rw[Fj,if_neg h,if_neg h3,RS,PU hb];rfl
end
theorem dy {ds:List B5}{nm:ByteArray}{i:Nat}{d:B5}(hx:ds[i]?=some d) (hb:∀j,j<i→∀y,ds[j]?=some y→HT (C4 y) nm=false) (hn:HT (C4 d) nm=true):Bb ds nm=(Fj d i nm,0):=by
 rw[Bb,aC hx hb hn,Int.zero_add]
theorem ZD {ds:List B5}{nm:ByteArray}(hb:∀j,j<ds.length→∀y,ds[j]?=some y→HT (C4 y) nm=false):Bb ds nm=(ie,9):=by
 rw[Bb,VE hb]
theorem S5 {nm:ByteArray}{i p:Int}{o:Fq}(ho:o.kind≠4):∀{cs:List IS}{k:Int},(OT nm i p o cs k).kind=4→(OT nm i p o cs k).decl=i∧k≤(OT nm i p o cs k).item∧(OT nm i p o cs k).item<k+cs.length
 | [],k,h=>absurd h ho
 | c::cs,k,h=>by
  unfold OT at h ⊢;split at h
  ·rename_i hc;rw[if_pos hc];exact⟨O,Int.le_refl _,by simp only[List.length_cons];omega⟩
  rename_i hc;rw[if_neg hc];have:=S5 ho h;simp only[List.length_cons];exact⟨this.1,by have:=this.2.1;omega,by have:=this.2.2;omega⟩
theorem T8 {nm:ByteArray}{i p:Int}{o:Fq}(ho:o.kind≠4):∀{cs:List Hp}{k:Int},(ea nm i p o cs k).kind≠4
 | [],k=>ho
 | c::cs,k=>by
  unfold ea;split
  ·simp
  exact T8 ho
theorem Uh {nm:ByteArray}:∀{ds:List B5}{k:Int}{e:Fq},findF nm ds k=some e→e.kind=4→∃(j:Nat) (d:B5),e.decl=k+j∧ds[j]?=some d∧0≤e.item∧e.item<d.ctors.length
 | [],k,e,h,_=>by cases h
 | a::ds,k,e,h,hk=>by
  rw[findF,J8] at h;by_cases hn:HT (C4 a) nm=true
  ·rw[if_pos hn] at h;simp only[Option.some.injEq] at h;subst h;refine⟨0,a,?_⟩;unfold Fj at hk ⊢;split at hk
   ·rename_i q;exact absurd hk (by simp only;omega)
   rename_i q;rw[if_neg q];split at hk
   ·rename_i q3;rw[if_pos q3];split at hk
    ·cases hk
    rename_i qn;rw[if_neg qn];have:=S5 Ao hk;exact⟨by rw[this.1];omega,rfl,this.2.1,by have:=this.2.2;omega⟩
   exact absurd hk (T8 Ao)
  rw[if_neg hn] at h;simp only at h;obtain⟨j,d,h1,h2,h3⟩:=Uh h hk;exact⟨j+1,d,by omega,by simpa using h2,h3⟩
theorem Z7 {ds:List B5}{nm:ByteArray}(h0:(Bb ds nm).2=0) (hk:(Bb ds nm).1.kind=4):∃d,0≤(Bb ds nm).1.decl∧ds[(Bb ds nm).1.decl.toNat]?=some d∧0≤(Bb ds nm).1.item∧(Bb ds nm).1.item<d.ctors.length:=by
 unfold Bb at h0 hk ⊢;cases e:findF nm ds 0 with
 | none=>rw[e] at h0;simp at h0
 | some x =>
  rw[e] at hk;obtain⟨j,d,h1,h2,h3,h4⟩:=Uh e hk;simp only;exact⟨d,by omega,by rw[h1];simpa using h2,h3,h4⟩
end Go.Eu
namespace Go.Abs
section
variable {P:Program}{H:List BK}{dst:Option Tmp}{ty:TypeId}{pos:String}{aft:Array Edge}{x y:Operand}{ρ:Operand→AV}{g:Option (Nat×Bool)}
end
section
variable {P:Program}{dst:Option Tmp}{ty:TypeId}{pos:String}{aft:Array Edge}{g:Option (Nat×Bool)}{ρ:Operand→AV}{H:List BK}{x y z:Operand}{v:AV}
end
section
variable {P:Program}{dst:Option Tmp}{ty:TypeId}{pos:String}{aft:Array Edge}{g:Option (Nat×Bool)}{ρ:Operand→AV}{H:List BK}{x y z:Operand}{v:AV}
end
section
variable {P:Program}{dst:Option Tmp}{ty:TypeId}{pos:String}{aft:Array Edge}{g:Option (Nat×Bool)}{ρ:Operand→AV}{H:List BK}{x:Operand}
end
def At (cells:List PV) (o:Nat) (us:List PV):Prop:=∃rest,cells.drop o=us++rest
theorem At.front {us rest:List PV}:At (us++rest) 0 us:=⟨rest,rfl⟩
theorem At.all {us:List PV}:At us 0 us:=⟨[],by simp⟩
theorem At.one {c:PV}{rest:List PV}:At (c::rest) 0 [c]:=⟨rest,rfl⟩
theorem At.cons {c:PV}{cells us:List PV}{o:Nat}(h:At cells o us):At (c::cells) (o+1) us:=h
theorem At.app {a cells us:List PV}{o n:Nat}(hn:a.length=n) (h:At cells o us):At (a++cells) (n+o) us:=by
 obtain⟨rest,h⟩:=h;exact⟨rest,by rw[List.drop_append,←hn,List.drop_of_length_le An];simpa using h⟩
theorem At.sub {cells us vs:List PV}{o p:Nat}(h:At cells o us) (h':At us p vs) (hp:p≤us.length):At cells (o+p) vs:=by
 obtain⟨r,h⟩:=h;obtain⟨r',h'⟩:=h';exact⟨r'++r,by rw[←List.drop_drop,h,List.drop_append_of_le_length hp,h',List.append_assoc]⟩
theorem At.drop {cells us:List PV}{a b:Nat}(h:At cells (a+b) us):At (cells.drop a) b us:=by
 unfold At at h ⊢
 rwa [List.drop_drop]
section
variable {P:Program}{dst:Option Tmp}{ty:TypeId}{pos:String}{aft:Array Edge}{g:Option (Nat×Bool)}{ρ:Operand→AV}{H:List BK}{x:Operand}{T:TypeId}{b o i n:Nat}{cells us:List PV}{c:PV}
theorem Bw (hT:D9 P T=some (true,n)) (hx:ρ x= .ptr b o) (hi:H[i]?=some (.box b (cells.map .p))) (ha:At cells o us) (hn:us.length=n):Dv P ⟨dst,.load T x,ty,pos,aft,g⟩ ρ H (.agg (us.map .p)) H:=by
 have e:((cells.map AV.p).drop o).take n=us.map .p:=by
  obtain⟨rest,h⟩:=ha;rw[←List.map_drop,h,List.map_append,List.take_left' (by rw[List.length_map,hn])]
 exact Lx hT hx hi (by rw[e,List.length_map,hn]) (by rw[e])
theorem A0 (hT:D9 P T=some (false,n)) (hx:ρ x= .ptr b o) (hi:H[i]?=some (.box b (cells.map .p))) (ha:At cells o [c]):Dv P ⟨dst,.load T x,ty,pos,aft,g⟩ ρ H (.p c) H :=
 B7 hT hx hi (by
  obtain⟨rest,h⟩:=ha;have:=congrArg (fun l:List PV=>l[0]?) h;simp only[List.getElem?_drop,Nat.add_zero,List.singleton_append,List.getElem?_cons_zero] at this;simp[this])
theorem DP (hT:D9 P T=some (true,n)) (hx:ρ x= .ref (cells.drop o)) (ha:At cells o us) (hn:us.length=n):Dv P ⟨dst,.load T x,ty,pos,aft,g⟩ ρ H (.agg (us.map .p)) H :=
 Lq hT hx hn (by obtain⟨rest,h⟩:=ha;rw[h];exact List.take_left)
theorem DB (hT:D9 P T=some (false,n)) (hx:ρ x= .ref (cells.drop o)) (ha:At cells o [c]):Dv P ⟨dst,.load T x,ty,pos,aft,g⟩ ρ H (.p c) H:=by
 obtain⟨rest,h⟩:=ha;exact FB hT (hx.trans (congrArg AV.ref h))
variable {y:Operand}
theorem Zf {a b:Bool}{T U:TypeId}(hu:P.underlying T=some .bool) (hx:ρ x= .p (.bool a)) (hy:ρ y= .p (.bool b)):Dv P ⟨dst,.binOp .neq T x y U,ty,pos,aft,g⟩ ρ H (.p (.bool (a !=b))) H :=
 CP fun F w E hH hE=>by
  have e1:=hE x Ac;have e2:=hE y Ac;rw[hx] at e1;rw[hy] at e2;simp only[CN,CK] at e1 e2;refine⟨.bool (a !=b),?_,by simp[CN,CK]⟩;have hg:(eqGuard .neq T x y (.bool a) (.bool b)).run P w= .ok () w:=by unfold eqGuard;rfl
  have hq:(Op.equal T (.bool a) (.bool b)).run P w= .ok (a==b) w:=II hu rfl;simp[execOp,Sem.run_bind,hg,e1,e2,binOp,hq,bne]
theorem Dw {bl:Bool}{cs vs ds:List AV}(hT:D9 P T=some (bl,n+1)) (hx:ρ x= .ptr b o) (hi:H[i]?=some (.box b cs)) (hy:Ef (ρ y)=some vs) (hn:vs.length=n+1)
  (ho:Nat.ble (o+(n+1)) cs.length=true) (h1:vs.all one=true) (hd:splice cs o vs=ds):Dv P ⟨dst,.store T x y,ty,pos,aft,g⟩ ρ H (.p .any) (H.set i (.box b ds)):=by
 subst hd;exact KH hT hx hi hy hn ho h1
end
section
variable {F:Nat→Prop}{w:World}
end
section
variable {P:Program}{dst:Option Tmp}{ty:TypeId}{pos:String}{aft:Array Edge}{g:Option (Nat×Bool)}{ρ:Operand→AV}{H:List BK}{x y z:Operand}{v:AV}
end
section
variable {P:Program}{dst:Option Tmp}{ty:TypeId}{pos:String}{aft:Array Edge}{g:Option (Nat×Bool)}{ρ:Operand→AV}{H:List BK}{x y z:Operand}{v:AV}
theorem RZ {a b:ByteArray}{T U:TypeId}(hx:ρ x= .p (.str a)) (hy:ρ y= .p (.str b)) (hsz:a.size+b.size≤9223372036854775807):Dv P ⟨dst,.binOp .add T x y U,ty,pos,aft,g⟩ ρ H (.p (.str (a++b))) H :=
 CP fun F w E hH hE=>by
  have e1:=hE x Ac;have e2:=hE y Ac;rw[hx] at e1;rw[hy] at e2;simp only[CN,CK] at e1 e2;have hm:¬(((a.size+b.size:Nat):Int) > IntKind.i64.max):=by rw[show IntKind.i64.max=9223372036854775807 from rfl];omega
  have h1:(Op.stringOp .add a b).run P w= .ok (.string (a++b)) w:=by
   unfold Op.stringOp;simp only[if_neg hm];rfl
  exact⟨.string (a++b),by simp[execOp,Sem.run_bind,ML,e1,e2,binOp,h1],by simp[CN,CK]⟩
end
section
variable {P:Program}{r:Option Nat}{ops:Array Oper}{Q:Cs→Bq→Prop}{k:Nat}{n:Nat}{τ:Nat→AV}{H H':List BK}{D:List EG}{dst:Option Tmp}{op:Op}{ty:TypeId}{pos:String}{aft:Array Edge}{g:Option (Nat×Bool)}{v:AV}
end
section
variable {P:Program}{dst:Option Tmp}{ty:TypeId}{pos:String}{aft:Array Edge}{g:Option (Nat×Bool)}{ρ:Operand→AV}{H:List BK}{x f:Operand}
end
section
variable {P:Program}{ops:Array Oper}{n:Nat}{τ₀ τ:Nat→AV}{D:List EG}{Q:Cs→Bq→Prop}{opn:Nat→Bool}{k:Nat}{T:List BK}{dst:Option Tmp}{ty:TypeId}{pos:String}{aft:Array Edge}{c:Call}{f:Operand}{fid:FuncId}{first caps A:List AV}{v:AV}{C:List BK→Prop}
end
section
variable {P:Program}{dst:Option Tmp}{ty:TypeId}{pos:String}{aft:Array Edge}{g:Option (Nat×Bool)}{ρ:Operand→AV}{H:List BK}{x y z:Operand}
end
theorem PW {α:Type}:∀(xs l:List α) (o:Nat),o+xs.length≤l.length→splice l o xs=l.take o++xs++l.drop (o+xs.length)
 | [],l,o,h=>by simp[splice]
 | x::xs,l,o,h=>by
  simp only[List.length_cons] at h;rw[splice,PW xs _ _ (by rw[List.length_set];omega)];have h1:(l.set o x).take (o+1)=l.take o++[x]:=by
   rw[List.take_add_one,List.getElem?_set_self An,List.take_set_of_le (Nat.le_refl _)];rfl
  have h2:(l.set o x).drop (o+1+xs.length)=l.drop (o+(x::xs).length):=by
   rw[List.drop_set_of_lt An];congr 1;simp only[List.length_cons];omega
  rw[h1,h2];simp
def Gv:Nat→List (List PV)→List (Nat×AV)
 | _,[]=>[]
 | k,r::rs=>(k,.agg (r.map .p))::Gv (k+1) rs
theorem Wy {sz:Nat}:∀(rows:List (List PV)) (k:Nat) (base:List AV),(∀r∈rows,r.length=sz)→(k+rows.length)*sz=base.length→Fb (fun i=>some (i*sz,sz)) base (Gv k rows)=some (base.take (k*sz)++rows.flatten.map .p)
 | [],k,base,hr,hb=>by
  simp only[List.length_nil,Nat.add_zero] at hb;simp[Gv,Fb,hb]
 | r::rows,k,base,hr,hb=>by
  have hl:=hr r Ao;have hb2:k*sz+sz+rows.length*sz=base.length:=by
   rw[←hb,List.length_cons,Nat.add_mul,Nat.add_mul,Nat.one_mul];omega
  simp only[Gv,Fb,Ef];rw[if_pos ⟨by simp[hl],by simp[hl];omega⟩,PW _ _ _ (by simp[hl];omega)];rw[Wy rows (k+1) _ (fun x hx=>hr x (by simp[hx])) (by simp only[List.length_append,List.length_take,List.length_drop,List.length_map,hl];rw[Nat.add_mul,Nat.add_mul,Nat.one_mul];omega)];congr 1;have h1:((base.take (k*sz)++r.map AV.p)++base.drop (k*sz+(r.map AV.p).length)).take ((k+1)*sz)=base.take (k*sz)++r.map .p:=by
   have:(k+1)*sz=(base.take (k*sz)++r.map AV.p).length:=by
    simp only[List.length_append,List.length_take,List.length_map,hl];rw[Nat.add_mul,Nat.one_mul];omega
   rw[this,List.take_left'];rfl
  rw[h1];simp
theorem Qn {α:Type}{sz:Nat}:∀{rows:List (List α)},(∀r∈rows,r.length=sz)→chunks sz rows.length rows.flatten=rows
 | [],_=>rfl
 | r::rows,h=>by
  have hl:=h r Ao;simp only[List.length_cons,chunks,List.flatten_cons];rw[List.take_left' hl,List.drop_left' hl,Qn fun x hx=>h x (by simp[hx])]
theorem Sg:∀(rows:List (List PV)) (k:Nat),(∀r∈rows,∀c∈r,c≠ .nils)→(Gv k rows).map (fun p=>(p.1,norm p.2))=Gv k rows
 | [],k,h=>rfl
 | r::rows,k,h=>by
  simp only[Gv,List.map_cons];show (k,AV.agg ((r.map AV.p).map dn))::_=_;rw[Sg rows (k+1) fun x hx=>h x (by simp[hx])];congr 3;have:=h r Ao;clear h
  induction r with
  | nil=>rfl
  | cons c r ih =>
   simp only[List.map_cons];rw[ih fun d hd=>this d (by simp[hd])];have:=this c Ao;cases c<;>simp_all [dn]
section
variable {P:Program}{dst:Option Tmp}{ty:TypeId}{pos:String}{aft:Array Edge}{g:Option (Nat×Bool)}{ρ:Operand→AV}{H:List BK}
theorem SA:∀(r:List PV),Gg (r.map .p)=some r
 | []=>rfl
 | c::r=>by simp[Gg,SA r]
theorem aB {parts:Array (Nat×Operand)}{rows:List (List PV)}(hp:parts.toList.map (fun p=>(p.1,ρ p.2))=Gv 0 rows) (hn:∀r∈rows,∀c∈r,c≠ .nils):parts.toList.map (fun p=>(p.1,norm (ρ p.2)))=Gv 0 rows:=by
 have h2:=Sg rows 0 hn;rw[←hp,List.map_map] at h2;rw[←hp];exact h2
theorem Bu {T e:TypeId}{len sz bytes:Nat}{parts:Array (Nat×Operand)}{z:Value}{rows:List (List PV)}(hT:F5 P T=some (e,sz,bytes)) (hz:zeroOf P e=some z) (hsz:z.cells.size=sz) (hpos:(Nat.blt 0 sz&&Nat.ble (len*sz) 16777216)=true)
  (hp:parts.toList.map (fun p=>(p.1,ρ p.2))=Gv 0 rows) (hl:rows.length=len) (hr:∀r∈rows,r.length=sz) (hn:∀r∈rows,∀c∈r,c≠ .nils) :
  Dv P ⟨dst,.buildSlice T len parts,ty,pos,aft,g⟩ ρ H (.p (.lst rows)) H:=by
 subst hl;refine Bl (cs:=rows.flatten.map .p) (ps:=rows.flatten) hT hz hsz hpos ?_ (SA _) (Qn hr);rw[aB hp hn,Wy rows 0 _ hr (by simp[hsz])];simp
theorem Qo {T e:TypeId}{len sz bytes:Nat}{parts:Array (Nat×Operand)}{z:Value}{cs:List AV}{ps:List PV}{rows:List (List PV)}(hT:F5 P T=some (e,sz,bytes)) (hz:zeroOf P e=some z) (hsz:z.cells.size=sz) (hpos:(Nat.blt 0 sz&&Nat.ble (len*sz) 16777216)=true)
  (hc:Fb (fun i=>some (i*sz,sz)) (List.replicate len (z.cells.toList.map GR)).flatten (parts.toList.map fun p=>(p.1,norm (ρ p.2)))=some cs) (hp:Gg cs=some ps) (hr:chunks sz len ps=rows) :
  DT P ⟨dst,.buildSlice T len parts,ty,pos,aft,g⟩ ρ H (N7 sz rows H) :=
 Hj fun F w E hH hE=>by
  obtain⟨hu,i,hi,hs,hby⟩:=FL hT;simp only[Bool.and_eq_true,Nat.blt_eq,Nat.ble_eq] at hpos;unfold zeroOf at hz;have hz':∃j,P.info? e=some j∧j.zero=some z:=by
   cases hq:P.info? e with
   | none=>simp[hq] at hz
   | some j=>exact⟨j,rfl,by simpa [hq] using hz⟩
  obtain⟨j,hj,hz'⟩:=hz';have hzv:(zeroValue e).run P w= .ok z w:=by simp[zeroValue,typeInfo,hj,hz',Sem.run_bind]
  have hzl:Bz F w (List.replicate len (z.cells.toList.map GR)).flatten (List.replicate len z.cells.toList).flatten:=HZ (HH _) len;obtain⟨us,hf,hrep⟩:=Jm (F:=F) (w:=w) (place:=fun i=>some (i*sz,sz)) _ (parts.toList.map fun p=>(p.1,E p.2)) _ _ _ Ao (by
   intro j p q h1 h2;simp only[List.getElem?_map] at h1 h2;cases hj:parts.toList[j]? with
   | none=>simp[hj] at h1
   | some t =>
    simp[hj] at h1 h2;subst h1;subst h2;exact⟨O,(hE _ (by
     have:=List.mem_of_getElem? hj;simp only[Op.operands];exact List.mem_map.2 ⟨t,this,O⟩)).norm⟩) hzl hc
  have hcs:=H9 hp;have hlen:ps.length=len*sz:=by
   have h1:cs.length=((List.replicate len (z.cells.toList.map GR)).flatten).length:=by
    clear hrep hp hcs hzl hf;generalize (List.replicate len (z.cells.toList.map GR)).flatten=l at hc;generalize (parts.toList.map fun p=>(p.1,norm (ρ p.2)))=q at hc
    induction q generalizing l with
    | nil=>simp[Fb] at hc;rw[hc]
    | cons a q ih =>
     obtain⟨i,x⟩:=a;simp only[Fb] at hc;cases hx:Ef x with
     | none=>simp[hx] at hc
     | some c2 =>
      simp only[hx] at hc;split at hc
      ·rw[ih _ hc,Gx]
      cases hc
   rw[hcs] at h1;simp only[List.length_map,List.length_flatten,List.map_replicate,List.sum_replicate_nat,Array.length_toList,hsz] at h1;exact h1
  obtain⟨c1,c2,c3⟩:=MO hlen;rw[hr] at c1 c2 c3;have hul:us.length=ps.length:=by rw[hrep.length,hcs];simp
  obtain⟨v0,H0,F0,h10,h20,h30,h40⟩:=Ol (T:=e) (c:=len) (vs:=us) (H:=H) hH c2 (by rw[c1,←hul,List.take_length];rw[hcs] at hrep;exact hrep) An An;rw[c3] at h40;refine⟨_,_,v0,H0,F0,?_,h10,h20,h30,h40⟩;have hszr:(sizeOf e).run P w= .ok sz w:=by simp[sizeOf,typeInfo,hi,hs]
  have hzc:z.cells=⟨z.cells.toList⟩:=rfl;have hrm:=Jg z.cells.toList len;have hsz2:z.cells.toList.length=sz:=by simpa using hsz
  rw[hsz2] at hrm;have harr:((Array.range (len*sz)).map fun i=>z.cells[i % z.cells.size]!)=⟨(List.replicate len z.cells.toList).flatten⟩:=by
   apply Array.ext';exact hrm
  simp only[execOp,Instr.buildSlice,Sem.run_bind,run_underlying hu,Result.andThen_ok,hszr];rw[if_neg An];simp only[Sem.run_pure,Result.andThen_ok,Sem.run_bind,pure_bind];have hf':Instr.fill (fun i=>some (i*sz,sz)) ⟨(List.replicate len z.cells.toList).flatten⟩ (parts.map fun p=>(p.1,E p.2)).toList=some ⟨us⟩:=by
   rw[←hf];simp
  by_cases h00:len*sz=0
  ·have hl0:len=0:=by
    rcases Nat.mul_eq_zero.1 h00 with h | h
    ·exact h
    omega
   subst hl0;simp only[Nat.zero_mul,if_true];simp only[List.replicate_zero,List.flatten_nil] at hf';have e0:(Array.map (fun x=>(#[]:Array Value)[x % (#[]:Array Value).size]!) (Array.range 0))=(⟨[]⟩:Array Value):=by simp
   rw[e0,hf'];simp only[newRow,newObj,Sem.run_bind,Sem.run,Result.andThen,Sem.run_pure];rfl
  rw[if_neg h00];simp only[Sem.run_bind,hzv,Result.andThen_ok];rw[harr,hf'];simp only[newRow,newObj,Sem.run_bind,Sem.run,Result.andThen,Sem.run_pure];rfl
end
section
variable {P:Program}{ops:Array Oper}{n:Nat}{τ₀:Nat→AV}{D:List EG}{Q:Cs→Bq→Prop}{opn:Nat→Bool}{k:Nat}{τ:Nat→AV}{H:List BK}{rd:Yo}{ef:Yn}{effs:List Bool}{fx:List (Nat×Sp)}{dst:Option Tmp}{op:Op}{ty:TypeId}{pos:String}{aft:Array Edge}
end
section
variable {P:Program}{ty:TypeId}{pos:String}{aft:Array Edge}{g:Option (Nat×Bool)}{ρ:Operand→AV}{H:List BK}{x y:Operand}
theorem Xv {T T2 e e2:TypeId}{sz bytes n2 n3 d c i n:Nat}{o:Option Nat}{rows rows' all:List (List PV)}{zv:Value}(hT:F5 P T=some (e,sz,bytes)) (hT2:F5 P T2=some (e2,n2,n3)) (hz:zeroOf P e=some zv) (hzs:zv.cells.size=sz) (hb0:(Nat.blt 0 sz&&Nat.blt 0 bytes)=true)
  (hx:ρ x= .vs o n c) (hn:n=rows.length) (hi:H[i]?=some (.vec o sz rows c)) (hy:norm (ρ y)= .p (.lst rows')) (hsol:∀r∈rows',EM sz r) (hroom:2*(rows.length+rows'.length)*bytes≤281474976710656) (hall:rows++rows'=all) :
  Dv P ⟨some d,.call { callee:= .builtin .append,args:=#[x,y],argTypes:=#[T,T2] },ty,pos,aft,g⟩ ρ H (.p (.lst all)) (H.eraseIdx i):=by
 subst hall;intro r F S a w hs hH hρ hd;subst hH;have h:=Sy (P:=P) (dst:=some d) (ty:=ty) (pos:=pos) (aft:=aft) (g:=g) (ρ:=ρ) (H:=S.H) (i:=i) (o:=o) (rows:=rows) (n:=n) (c:=c) hT hT2 hz hzs hb0 hx hn hi hy hsol hroom r F S a w hs rfl hρ hd;refine H8 h ?_ ?_
 ·rintro a' w' ⟨v,H',F',⟨o',c',rfl,rfl⟩,hs',ht⟩;have hlt:=(List.getElem?_eq_some_iff.1 hi).1;obtain⟨F'',hs'',ht''⟩:=Ck (n:=S.n) (τ:=put S.τ (some d) (.vs o' (rows++rows').length c')) (H:=S.H.set i (.vec o' sz (rows++rows') c')) (D:=S.D) (i:=i) [d] (List.getElem?_set_self hlt) (fun t ht=>by simp at ht;subst ht;simp[put]) F' a' w' hs';have e:KQ [d] (.p (.lst (rows++rows'))) (put S.τ (some d) (.vs o' (rows++rows').length c'))=put S.τ (some d) (.p (.lst (rows++rows'))):=by
   funext t;simp only[KQ,put,List.any_cons,List.any_nil,Bool.or_false];cases Nat.beq t d<;>rfl
  have e2:(S.H.set i (.vec o' sz (rows++rows') c')).eraseIdx i=S.H.eraseIdx i:=List.eraseIdx_set_eq;simp only[e,e2] at hs'' ht'';exact⟨_,S.H.eraseIdx i,F'',⟨O,O⟩,hs'',ht.trans hs.heap.bd ht''⟩
 rintro e a' w' ⟨v,H',F',u,h,_⟩;exact h.elim
end
abbrev BV:=Nat×Nat×AV
inductive Ez where
 | val (v:AV)
 | skip
 | new (cs:List AV)
 | newv (sz:Nat) (rows:List (List PV))
 | rel (R:AV→Prop)
 | dep (j:Nat) (f:BV→AV)
 | newd (j:Nat) (f:BV→List AV)
def N4 (β:Nat→BV) (k:Nat) (b:BV):Nat→BV:=fun j=>if j=k then b else β j
def Ez.w (β:Nat→BV) (k:Nat):Ez→AV
 | .val v=>v
 | .skip=> .tup []
 | .new _ | .newd _ _=> .ptr (β k).1 0
 | .newv _ rows=> .vs (some (β k).1) rows.length (β k).2.1
 | .rel _=>(β k).2.2
 | .dep j f=>f (β j)
def Ez.bx (β:Nat→BV) (k:Nat):Ez→List BK
 | .new cs=>[.box (β k).1 cs]
 | .newv sz rows=>[.vec (some (β k).1) sz rows (β k).2.1]
 | .newd j f=>[.box (β k).1 (f (β j))]
 | _=>[]
def Ez.ok (b:BV):Ez→Prop
 | .rel R=>R b.2.2
 | _=>True
def Ez.dj:Ez→Option Nat
 | .dep j _ | .newd j _=>some j
 | _=>none
def aE:List Ez→Prop
 | []=>True
 | .rel R::r=>(∃v,R v)∧aE r
 | _::r=>aE r
def TX (ops:Array Oper) (o:Oper) (j:Nat):Prop:=j∈GS o∨∃m o',m∈GS o∧ops[m]?=some o'∧j∈GS o'
theorem TX.lt {ops:Array Oper}{i j:Nat}{o:Oper}(c0:∀i o j,ops[i]?=some o→j∈GS o→j<i) (ho:ops[i]?=some o):TX ops o j→j<i
 | .inl h=>c0 i o j ho h
 | .inr ⟨m,o',h1,h2,h3⟩=>by have:=c0 i o m ho h1;have:=c0 m o' j h2 h3;omega
theorem TX.down {ops:Array Oper}{l:Nat→Prop}{i j:Nat}{o:Oper}(hd:Down ops l) (ho:ops[i]?=some o) (hi:l i):TX ops o j→l j
 | .inl h=>hd i o j ho hi h
 | .inr ⟨m,o',h1,h2,h3⟩=>hd m o' j h2 (hd i o m ho hi h1) h3
def Qq (P:Program) (ops:Array Oper) (H₀:List BK) (β:Nat→BV) (o:Oper) (τ:Nat→AV):Ez→Prop
 | .val v=>EY ops ⟨0,τ,[],[]⟩ o∧∀Bs,Dv P o (ev τ) (Bs++H₀) v (Bs++H₀)
 | .skip=>∃j want d,o.guard=some (j,want)∧(ops[j]?).bind (·.dst)=some d∧p9 (τ d) want
 | .new cs=>o.guard=none∧∀Bs,DT P o (ev τ) (Bs++H₀) (JZ cs (Bs++H₀))
 | .newv sz rows=>o.guard=none∧∀Bs,DT P o (ev τ) (Bs++H₀) (N7 sz rows (Bs++H₀))
 | .rel R=>o.guard=none∧∀Bs,DT P o (ev τ) (Bs++H₀) (Qf R (Bs++H₀))
 | .dep j f=>TX ops o j∧EY ops ⟨0,τ,[],[]⟩ o∧∀Bs,Dv P o (ev τ) (Bs++H₀) (f (β j)) (Bs++H₀)
 | .newd j f=>TX ops o j∧o.guard=none∧∀Bs,DT P o (ev τ) (Bs++H₀) (JZ (f (β j)) (Bs++H₀))
def YG (Ok:(Nat→BV)→Nat→Oper→(Nat→AV)→Ez→Prop) (ops:Array Oper):(Nat→BV)→Nat→(Nat→AV)→List Ez→((Nat→BV)→(Nat→AV)→List BK→Prop)→Prop
 | β,_,τ,[],K=>K β τ []
 | β,k,τ,e::r,K=>∃o,ops[k]?=some o∧Ok β k o τ e∧∀b,e.ok b→YG Ok ops (N4 β k b) (k+1) (put τ o.dst (e.w (N4 β k b) k)) r (fun β' τ' Hs=>K β' τ' (e.bx (N4 β k b) k++Hs))
def Qv (β:Nat→BV):Nat→List Ez→List Sp
 | _,[]=>[]
 | k,e::r=> .free (e.w β k)::Qv β (k+1) r
def RX (β:Nat→BV) (l:Nat→Bool):Nat→List Ez→List BK
 | _,[]=>[]
 | k,e::r=>(if l k=true then e.bx β k else [])++RX β l (k+1) r
theorem iX (β:Nat→BV):∀(r:List Ez) (k j:Nat),((Qv β k r).getD j .skip).val=(r.getD j .skip).w β (k+j)
 | [],k,j=>by simp[Qv,Sp.val,Ez.w]
 | e::r,k,0=>rfl
 | e::r,k,j+1=>by
  simp only[Qv,List.getD_cons_succ];rw[iX β r (k+1) j,show k+1+j=k+(j+1) by omega]
theorem J7 (β:Nat→BV) (r:List Ez) (j:Nat):((Qv β 0 r).getD j .skip).val=(r.getD j .skip).w β j:=by rw[iX,Nat.zero_add]
theorem bH {β β':Nat→BV}{k:Nat}{e:Ez}(hk:β k=β' k) (hd:∀j,e.dj=some j→β j=β' j):e.w β k=e.w β' k:=by
 cases e with
 | dep j f=>simp only[Ez.w];rw[hd j rfl]
 | _=>simp only[Ez.w,hk]
theorem Sq {β β':Nat→BV}{k:Nat}{e:Ez}(hk:β k=β' k) (hd:∀j,e.dj=some j→β j=β' j):e.bx β k=e.bx β' k:=by
 cases e with
 | newd j f=>simp only[Ez.bx];rw[hk,hd j rfl]
 | _=>simp only[Ez.bx,hk]
theorem F4 {β:Nat→BV}{k:Nat}{b:BV}:N4 β k b k=b:=if_pos rfl
theorem KG {β:Nat→BV}{k j:Nat}{b:BV}(h:j≠k):N4 β k b j=β j:=if_neg h
structure uJ (ops:Array Oper) (Ok:(Nat→BV)→Nat→Oper→(Nat→AV)→Ez→Prop):Prop where
 cg:∀β β' k o τ e,(∀j,e.dj=some j→β j=β' j)→Ok β k o τ e→Ok β' k o τ e
 dp:∀β k o τ e j,ops[k]?=some o→Ok β k o τ e→e.dj=some j→TX ops o j
theorem eo {α:Type}{l r:List α}{k:Nat}{e d:α}(h:l.drop k=e::r):l.getD k d=e∧l.drop (k+1)=r:=by
 refine⟨?_,by rw[←List.drop_drop,h];rfl⟩;have:(l.drop k)[0]?=some e:=by rw[h];rfl
 rw[List.getElem?_drop] at this;rw[List.getD_eq_getElem?_getD,show k=k+0 by omega,this];rfl
theorem YG.facts {Ok:(Nat→BV)→Nat→Oper→(Nat→AV)→Ez→Prop}{ops:Array Oper}{τ:Nat→AV}{base:List Ez}(hc:uJ ops Ok) (c0:∀i o j,ops[i]?=some o→j∈GS o→j<i) (β:Nat→BV) (hβ:∀j,(base.getD j .skip).ok (β j)):∀(r:List Ez) (k:Nat) (βk:Nat→BV) (τk:Nat→AV) (K:(Nat→BV)→(Nat→AV)→List BK→Prop),(∀i,i<k→βk i=β i)→base.drop k=r→k+r.length=base.length→τk=τS ops (Qv β 0 base) τ k→YG Ok ops βk k τk r K →
  (∀j,k≤j→j<base.length→∃o,ops[j]?=some o∧Ok β j o (τS ops (Qv β 0 base) τ j) (base.getD j .skip))∧∃β',(∀i,i<base.length→β' i=β i)∧K β' (τS ops (Qv β 0 base) τ base.length) (RX β (fun _=>true) k r)
 | [],k,βk,τk,K,hb,hd,hk,ht,h=>by
  simp only[List.length_nil,Nat.add_zero] at hk;subst hk;exact⟨fun j h1 h2=>by omega,βk,hb,by rw[←ht];exact h⟩
 | e::r,k,βk,τk,K,hb,hd,hk,ht,h=>by
  obtain⟨o,ho,hok,hn⟩:=h;simp only[List.length_cons] at hk;obtain⟨hbe,hd2⟩:=eo (d:=Ez.skip) hd;have hu:∀i,i<k+1→N4 βk k (β k) i=β i:=by
   intro i hi;unfold N4;split
   ·rename_i e1;rw[e1]
   exact hb i An
  have hdj:∀j,e.dj=some j→j<k:=fun j e1=>(hc.dp βk k o τk e j ho hok e1).lt c0 ho;have hn:=hn (β k) (by have:=hβ k;rwa [hbe] at this);rw[Sq (hu k An) fun j e1=>hu j (by have:=hdj j e1;omega)] at hn;obtain⟨h1,β',h2,h3⟩:=YG.facts (τ:=τ) (base:=base) hc c0 β hβ r (k+1) _ _ _ hu hd2 An (by simp only[τS,ho,Option.bind_some];rw[J7 β,hbe,←ht,bH (hu k An) fun j e1=>hu j (by have:=hdj j e1;omega)]) hn;refine⟨fun j hj hl=>?_,β',h2,by simpa only[RX,if_true] using h3⟩;by_cases e2:j=k
  ·subst e2;exact⟨o,ho,by rw[hbe,←ht];exact hc.cg _ _ _ _ _ _ (fun i e1=>hb i (hdj i e1)) hok⟩
  exact h1 j An hl
theorem UE {β β':Nat→BV}{l l':Nat→Bool}:∀(r:List Ez) (k:Nat),(∀j,k≤j→j<k+r.length→l j=l' j∧(l j=true→β j=β' j))→(∀i j,(r.getD i .skip).dj=some j→l (k+i)=true→β j=β' j)→RX β l k r=RX β' l' k r
 | [],k,h,hd=>rfl
 | e::r,k,h,hd=>by
  simp only[List.length_cons] at h;simp only[RX];obtain⟨h1,h2⟩:=h k (Nat.le_refl _) An;rw[UE r (k+1) (fun j hj hl=>h j An An) (fun i j e1 e2=>hd (i+1) j e1 (by rw[←e2];congr 1;omega)),←h1];cases hl:l k
  ·rfl
  rw[Sq (e:=e) (h2 hl) fun j e1=>hd 0 j e1 hl]
theorem bB {β:Nat→BV}{l:Nat→Bool}{i:Nat}{b:BV}(hi:l i=false):∀(r:List Ez) (k:Nat),k≤i→i<k+r.length→(∀m j,(r.getD m .skip).dj=some j→l (k+m)=true→j≠i)→((r.getD (i - k) .skip).bx (N4 β i b) i++RX β l k r).Perm (RX (N4 β i b) (fun j=>l j||j==i) k r)
 | [],k,h1,h2,hd=>by simp at h2;omega
 | e::r,k,h1,h2,hd=>by
  simp only[RX];have hd':∀m j,(r.getD m .skip).dj=some j→l (k+1+m)=true→j≠i:=fun m j e1 e2=>hd (m+1) j e1 (by rw[←e2];congr 1;omega);by_cases hk:k=i
  ·subst hk;simp only[hi,Bool.false_eq_true,if_false,List.nil_append,Nat.sub_self,List.getD_cons_zero,beq_self_eq_true,Bool.or_true,if_true];rw[UE (β':=N4 β k b) (l':=fun j=>l j||j==k) r (k+1) (fun j hj _=>⟨by simp[show (j==k)=false by simp;omega],fun _=>by rw[KG An]⟩) (fun m j e1 e2=>by rw[KG (hd' m j e1 e2)])]
  have hp:=bB (β:=β) hi r (k+1) (b:=b) An (by simp only[List.length_cons] at h2;omega) hd';have e1:(e::r).getD (i - k) .skip=r.getD (i - (k+1)) .skip:=by
   rw[show i - k=(i - (k+1))+1 by omega];rfl
  have e2:(if (l k||k==i)=true then e.bx (N4 β i b) k else [])=(if l k=true then e.bx β k else []):=by
   rw[show (l k||k==i)=l k by simp[hk]];cases hl:l k
   ·rfl
   rw[if_pos rfl,if_pos rfl];exact Sq (KG hk) fun j e3=>KG (hd 0 j e3 hl)
  rw[e1,e2];refine List.Perm.trans ?_ (hp.append_left _);rw[←List.append_assoc,←List.append_assoc];exact List.perm_append_comm.append_right _
theorem Xn {β:Nat→BV}:∀(r:List Ez) (k:Nat),RX β (fun _=>false) k r=[]
 | [],k=>rfl
 | e::r,k=>by simp only[RX];rw[Xn r (k+1)];rfl
theorem aE.pick:∀(l:List Ez),aE l→∃β:Nat→BV,∀j,(l.getD j .skip).ok (β j)
 | [],_=>⟨fun _=>(0,0,.p .any),fun j=>by simp[Ez.ok]⟩
 | e::r,h=>by
  have h2:aE r∧∃b,e.ok b:=by
   cases e with
   | rel R=>exact⟨h.2,let ⟨v,hv⟩:=h.1;⟨(0,0,v),hv⟩⟩
   | _=>exact⟨h,(0,0,.p .any),trivial⟩
  obtain⟨β,hβ⟩:=aE.pick r h2.1;obtain⟨b,hb⟩:=h2.2;refine⟨fun j=>match j with | 0=>b | j+1=>β j,fun j=>?_⟩;cases j with
  | zero=>exact hb
  | succ j=>exact hβ j
def hY (ops:Array Oper) (e:Nat):Bool:=(List.range ops.size).all fun i=>Nat.blt i e||(List.range i).all fun j=>NR ops j i
theorem Zc {ops:Array Oper}{e:Nat}(h:hY ops e=true) {i j:Nat}(hi:e≤i) (hs:i<ops.size) (hj:j<i):Pred ops j i:=by
 have:=List.all_eq_true.1 h i (by simpa using hs);simp only[Bool.or_eq_true] at this;rcases this with h1 | h1
 ·rw[Nat.blt_eq] at h1;omega
 exact Er (List.all_eq_true.1 h1 j (by simpa using hj))
def hB (H:List BK) (H₁:BV→List BK) (i₀:Option Nat) (β:Nat→BV) (l:Nat→Bool):List BK:=match i₀ with
 | none=>H
 | some i=>if l i=true then H₁ (β i) else H
def Qu (P:Program) (ops:Array Oper) (H₀:List BK) (H₁:BV→List BK) (i₀:Option Nat) (fl:List Nat) (β:Nat→BV) (k:Nat) (o:Oper) (τ:Nat→AV) (e:Ez):Prop :=
 (some k=i₀→∃v,e= .val v∧o.guard=none∧∀Bs,DT P o (ev τ) (Bs++H₀) (fun r H'=>match r with | .val v'=>∃g,v'=v∧H'=Bs++H₁ g | .panic _=>False)) ∧
 (some k≠i₀→Qq P ops H₀ β o τ e∧∀g,Qq P ops (H₁ g) β o τ e)∧(fl.contains k=true→∀v,e= .val v→∀X,Dv P o (ev τ) X v X)
abbrev YX (P:Program) (ops:Array Oper) (H₀:List BK) (H₁:BV→List BK) (i₀:Option Nat) (fl:List Nat):=YG (Qu P ops H₀ H₁ i₀ fl) ops
theorem Qq.cg {P:Program}{ops:Array Oper}{H:List BK}{β β':Nat→BV}{o:Oper}{τ:Nat→AV}{e:Ez}(h:Qq P ops H β o τ e) (hd:∀j,e.dj=some j→β j=β' j):Qq P ops H β' o τ e:=by
 cases e with
 | dep j f=>exact⟨h.1,h.2.1,by rw[←hd j rfl];exact h.2.2⟩
 | newd j f=>exact⟨h.1,h.2.1,by rw[←hd j rfl];exact h.2.2⟩
 | _=>exact h
theorem Qq.dp {P:Program}{ops:Array Oper}{H:List BK}{β:Nat→BV}{o:Oper}{τ:Nat→AV}{e:Ez}{j:Nat}(h:Qq P ops H β o τ e) (hd:e.dj=some j):TX ops o j:=by
 cases e with
 | dep j f=>cases hd;exact h.1
 | newd j f=>cases hd;exact h.1
 | _=>cases hd
theorem Qu.cgr {P:Program}{ops:Array Oper}{H₀:List BK}{H₁:BV→List BK}{i₀:Option Nat}{fl:List Nat}:uJ ops (Qu P ops H₀ H₁ i₀ fl) where
 cg β β' k o τ e hd h:=⟨h.1,fun hk=>⟨(h.2.1 hk).1.cg hd,fun g=>((h.2.1 hk).2 g).cg hd⟩,h.2.2⟩
 dp β k o τ e j ho h hd:=by
  by_cases hk:some k=i₀
  ·obtain⟨v,rfl,_⟩:=h.1 hk;cases hd
  exact(h.2.1 hk).1.dp hd
theorem pS.mono {P:Program}{ops:Array Oper}{n:Nat}{D:List EG}{Q:Cs→Bq→Prop}{τ₀ τk:Nat→AV}{Hb:List BK}{o:Oper}{K K':AV→List BK→Prop}(h:pS P ops n D Q τ₀ τk Hb o K) (hk:∀v H',K v H'→K' v H'):pS P ops n D Q τ₀ τk Hb o K':=by
 rcases h with ⟨R,h1,h2,h3,h4⟩ | ⟨h1,h2⟩
 ·exact .inl ⟨R,h1,h2,fun v H' hR=>hk v H' (h3 v H' hR),h4⟩
 exact .inr ⟨h1,hk _ _ h2⟩
section
variable {P:Program}{r:Option Nat}{ops:Array Oper}{id n:Nat}{τ:Nat→AV}{H:List BK}{D:List EG}{Q:Cs→Bq→Prop}{base:List Ez}{H₁:BV→List BK}{i₀:Option Nat}
def BI (base:List Ez) (H:List BK) (H₁:BV→List BK) (i₀:Option Nat) (β:Nat→BV) (l:Nat→Bool) (H':List BK):Prop :=
 (∀j,(base.getD j .skip).ok (β j))∧∃Hb,H'=Hb++hB H H₁ i₀ β l∧Hb.Perm (RX β l 0 base)
theorem WK (hne:aE base):∃β,BI base H H₁ i₀ β (fun _=>false) H:=by
 obtain⟨β,hβ⟩:=aE.pick base hne;exact⟨β,hβ,[],by cases i₀<;>rfl,by rw[Xn]⟩
theorem iY {β:Nat→BV}{l:Nat→Bool}{i:Nat}{b:BV}{H' Hb:List BK}(hok:∀j,(base.getD j .skip).ok (β j)) (hb:(base.getD i .skip).ok b) (hib:i<base.length) (hnot:l i=false) (hdep:∀m j,(base.getD m .skip).dj=some j→l m=true→j≠i) (hself:(base.getD i .skip).dj≠some i) (hp:Hb.Perm (RX β l 0 base)) (hH:H'=(base.getD i .skip).bx (N4 β i b) i++(Hb++hB H H₁ i₀ (N4 β i b) (fun k=>l k||k==i))) :
  (∀k,l k=true→((Qv (N4 β i b) 0 base).getD k .skip).val=((Qv β 0 base).getD k .skip).val)∧((Qv (N4 β i b) 0 base).getD i .skip).val=(base.getD i .skip).w (N4 β i b) i∧BI base H H₁ i₀ (N4 β i b) (fun k=>l k||k==i) H':=by
 refine⟨fun k hk=>?_,by rw[J7],fun j=>?_,?_⟩
 ·have hki:k≠i:=fun e=>by subst e;rw[hnot] at hk;cases hk
  rw[J7,J7,bH (KG hki) fun j e=>KG (hdep k j e hk)]
 ·by_cases h:j=i
  ·subst h;rw[F4];exact hb
  rw[KG h];exact hok j
 have h1:=bB (β:=β) (l:=l) (i:=i) (b:=b) hnot base 0 (Nat.zero_le _) An (fun m j e1 e2=>hdep m j e1 (by rwa [Nat.zero_add] at e2));rw[Nat.sub_zero] at h1;exact⟨_,by rw[hH,List.append_assoc],(hp.append_left _).trans h1⟩
theorem QG {fl:List Nat}(c0:∀i o j,ops[i]?=some o→j∈GS o→j<i) {β:Nat→BV}(hE:∀m,m<base.length→∃o,ops[m]?=some o∧∀j,(base.getD m .skip).dj=some j→TX ops o j) {τ₀ τk:Nat→AV}{l:Nat→Bool}{H':List BK}{i:Nat}{o:Oper}(hyx:Qu P ops H H₁ i₀ fl β i o τk (base.getD i .skip)) (h:BI base H H₁ i₀ β l H') (hib:i<base.length) (ho:ops[i]?=some o) (hnot:l i=false) (hdown:Down ops fun k=>l k=true) :
  pS P ops n D Q τ₀ τk H' o fun v H''=>∃β',(∀k,l k=true→((Qv β' 0 base).getD k .skip).val=((Qv β 0 base).getD k .skip).val)∧((Qv β' 0 base).getD i .skip).val=v∧BI base H H₁ i₀ β' (fun k=>l k||k==i) H'':=by
 obtain⟨hok,Hb,rfl,hp⟩:=h;have hself:(base.getD i .skip).dj≠some i:=fun e=>absurd ((Qu.cgr.dp _ _ _ _ _ _ ho hyx e).lt c0 ho) An;have hdep:∀m j,(base.getD m .skip).dj=some j→l m=true→j≠i:=by
  intro m j e1 e2 e3;subst e3;have hm:m<base.length:=by
   rcases Nat.lt_or_ge m base.length with h | h
   ·exact h
   rw[List.getD_eq_getElem?_getD,List.getElem?_eq_none h] at e1;cases e1
  obtain⟨om,hom,hym⟩:=hE m hm;have:=(hym j e1).down hdown hom e2;rw[hnot] at this;cases this
 have close:=fun(b:BV) (hb:(base.getD i .skip).ok b) (H':List BK) (hH:H'=_)=>iY (H:=H) (H₁:=H₁) (i₀:=i₀) hok hb hib hnot hdep hself hp hH;by_cases hi0:some i=i₀
 ·subst hi0;obtain⟨v,hv,hg,hop⟩:=hyx.1 rfl;rw[hv] at close;have e0:hB H H₁ (some i) β l=H:=by simp only[hB];rw[if_neg (by rw[hnot];decide)]
  rw[e0];refine .inl ⟨_,by unfold EY;rw[hg];trivial,hop Hb,fun v' H'' hR=>?_,fun _ _ h=>h.elim⟩;obtain⟨g,rfl,rfl⟩:=hR;exact⟨N4 β i g,close g Ap _ (by simp only[hB,Ez.bx,List.nil_append,beq_self_eq_true,Bool.or_true,if_true,F4])⟩
 have hB':∀b,hB H H₁ i₀ (N4 β i b) (fun k=>l k||k==i)=hB H H₁ i₀ β l:=by
  intro b;unfold hB;cases i₀ with
  | none=>rfl
  | some q =>
   have hq:q≠i:=fun e=>hi0 (by rw[e]);simp only[show (q==i)=false by simp[hq],Bool.or_false,KG hq]
 have hez:Qq P ops (hB H H₁ i₀ β l) β o τk (base.getD i .skip):=by
  obtain⟨h1,h2⟩:=hyx.2.1 hi0;unfold hB;split
  ·exact h1
  split
  ·exact h2 _
  exact h1
 generalize base.getD i .skip=e at hez close hself;have close2:∀(b:BV) (v:AV) (H'':List BK),e.ok b→v=e.w (N4 β i b) i→H''=e.bx (N4 β i b) i++(Hb++hB H H₁ i₀ β l)→∃β',(∀k,l k=true→((Qv β' 0 base).getD k .skip).val=((Qv β 0 base).getD k .skip).val)∧((Qv β' 0 base).getD i .skip).val=v∧BI base H H₁ i₀ β' (fun k=>l k||k==i) H'':=fun b v H'' h1 h2 h3=>by
  obtain⟨a1,a2,a3⟩:=close b h1 H'' (by rw[h3,hB']);exact⟨_,a1,a2.trans h2.symm,a3⟩
 cases e with
 | val v=>exact .inl ⟨_,hez.1,hez.2 Hb,fun v' H'' ⟨a,b⟩=>close2 (0,0,.p .any) _ _ trivial a b,fun _ _ h=>h.elim⟩
 | skip=>exact .inr ⟨hez,close2 (0,0,.p .any) _ _ trivial rfl rfl⟩
 | new cs=>exact .inl ⟨_,by unfold EY;rw[hez.1];trivial,hez.2 Hb,fun v' H'' ⟨b,a,c⟩=>close2 (b,0,.p .any) _ _ trivial (by simp only[Ez.w,F4];exact a) (by simp only[Ez.bx,F4];exact c),fun _ _ h=>h.elim⟩
 | newv sz rows=>exact .inl ⟨_,by unfold EY;rw[hez.1];trivial,hez.2 Hb,fun v' H'' ⟨b,c,a,d⟩=>close2 (b,c,.p .any) _ _ trivial (by simp only[Ez.w,F4];exact a) (by simp only[Ez.bx,F4];exact d),fun _ _ h=>h.elim⟩
 | rel R=>exact .inl ⟨_,by unfold EY;rw[hez.1];trivial,hez.2 Hb,fun v' H'' ⟨a,b⟩=>close2 (0,0,v') _ _ a (by simp only[Ez.w,F4]) b,fun _ _ h=>h.elim⟩
 | dep j f=>exact .inl ⟨_,hez.2.1,hez.2.2 Hb,fun v' H'' ⟨a,b⟩=>close2 (0,0,.p .any) _ _ trivial (by simp only[Ez.w];rw[KG (fun e=>hself (by rw[e];rfl))];exact a) b,fun _ _ h=>h.elim⟩
 | newd j f=>exact .inl ⟨_,by unfold EY;rw[hez.2.1];trivial,hez.2.2 Hb,fun v' H'' ⟨b,a,c⟩=>close2 (b,0,.p .any) _ _ trivial (by simp only[Ez.w,F4];exact a) (by simp only[Ez.bx,F4];rw[KG (fun e=>hself (by rw[e];rfl))];exact c),fun _ _ h=>h.elim⟩
end
section
variable {P:Program}{r:Option Nat}{ops:Array Oper}{id n:Nat}{τ:Nat→AV}{H:List BK}{D:List EG}{Q:Cs→Bq→Prop}{H₁:BV→List BK}{i₀:Option Nat}{fl:List Nat}
theorem aQ {base:List Ez}{β β':Nat→BV}{l:Nat→Bool}{H':List BK}(h:BI base H H₁ i₀ β l H') (hall:∀k,k<base.length→l k=true) (hi0:∀i,i₀=some i→i<base.length) (hb:∀i,i<base.length→β' i=β i):H'.Perm (RX β (fun _=>true) 0 base++hB H H₁ i₀ β' (fun _=>true)):=by
 obtain⟨_,Hb,rfl,hp⟩:=h;have e1:RX β l 0 base=RX β (fun _=>true) 0 base:=by
  have:∀(r:List Ez) (k:Nat),(∀j,k≤j→j<k+r.length→l j=true)→RX β l k r=RX β (fun _=>true) k r:=by
   intro r
   induction r with
   | nil=>intro k h;rfl
   | cons e r ih =>
    intro k h;simp only[RX,h k (Nat.le_refl _) Ao,if_true];rw[ih (k+1) fun j h1 h2=>h j An (by simp only[List.length_cons];omega)]
  exact this base 0 fun j _ h=>hall j An
 have e2:hB H H₁ i₀ β l=hB H H₁ i₀ β' (fun _=>true):=by
  cases i₀ with
  | none=>rfl
  | some i=>simp only[hB,hall i (hi0 i rfl),hb i (hi0 i rfl),if_true]
 rw[e2,←e1];exact hp.append_right _
theorem Z8 {Ok:(Nat→BV)→Nat→Oper→(Nat→AV)→Ez→Prop}{base:List Ez}{β:Nat→BV}{τf:Nat→Nat→AV}(hE:∀j,j<base.length→∃o,ops[j]?=some o∧Ok β j o (τf j) (base.getD j .skip)) (hc:uJ ops Ok:=by exact Qu.cgr):∀m,m<base.length→∃o,ops[m]?=some o∧∀j,(base.getD m .skip).dj=some j→TX ops o j:=fun m hm=>by
 obtain⟨o,ho,h⟩:=hE m hm;exact⟨o,ho,fun j e=>hc.dp _ _ _ _ _ _ ho h e⟩
theorem l9 (base:List Ez) (hm:P.follows .mixedOrders=true) (hi0:∀i,i₀=some i→i<base.length)
  (he:Nat.ble base.length ops.size=true) (chk:MK ops n []=true) (late:hY ops base.length=true) (hne:aE base) (h:YX P ops H H₁ i₀ fl (fun _=>(0,0,.p .any)) 0 τ base (fun β τ' Hs=>AL P r ops base.length ⟨n,τ',Hs++hB H H₁ i₀ β (fun _=>true),D⟩ Q)):Ie P r (.region id ops true) ⟨n,τ,H,D⟩ Q:=by
 obtain⟨hdst,c0,c1,c2,_⟩:=ND chk;rw[Nat.ble_eq] at he;have hE:=fun β (hβ:∀j,(base.getD j .skip).ok (β j))=>YG.facts (base:=base) (τ:=τ) Qu.cgr c0 β hβ base 0 _ τ _ (fun i h=>absurd h An) rfl An rfl h;refine PG hm base.length he ⟨hdst,c0,c1,c2⟩ (fun i j h1 h2 h3=>Zc late h1 h2 h3) (fun β=>Qv β 0 base) (fun β l H'=>BI base H H₁ i₀ β l H'∧∀k,base.length≤k→l k=false) ?_ ?_ ?_
 ·obtain⟨β,hβ⟩:=WK (H:=H) (H₁:=H₁) (i₀:=i₀) hne;exact⟨β,hβ,fun _ _=>O⟩
 ·intro β l H' i o hI hib ho hnot hdown hpre;obtain⟨o',ho',hyx⟩:=(hE β hI.1.1).1 i (Nat.zero_le _) hib;rw[ho] at ho';injection ho' with ho';subst ho';refine(QG c0 (Z8 fun j hj=>(hE β hI.1.1).1 j (Nat.zero_le _) hj) hyx hI.1 hib ho hnot hdown).mono fun v H'' hK=>?_;obtain⟨β',h1,h2,h3⟩:=hK;exact⟨β',h1,h2,h3,fun k hk=>by show (l k||k==i)=false;rw[hI.2 k hk];simp;omega⟩
 intro β l H' hI hall hno;obtain⟨_,β',hb,hK⟩:=hE β hI.1.1;exact Jd (aQ hI.1 hall hi0 hb) hK
theorem V4 (base:List Ez) (hm:P.follows .mixedOrders=true) (he:Nat.ble base.length ops.size=true) (chk:MK ops n []=true) (late:hY ops base.length=true) (h:YX P ops H (fun _=>H) none [] (fun _=>(0,0,.p .any)) 0 τ base (fun β τ' Hs=>AL P r ops base.length ⟨n,τ',Hs++H,D⟩ Q)) (hne:aE base:=by exact trivial):Ie P r (.region id ops true) ⟨n,τ,H,D⟩ Q :=
 l9 base hm (fun _ h=>by cases h) he chk late hne h
end
section
variable {P:Program}{ops:Array Oper}{H₀:List BK}{H₁:BV→List BK}{i₀:Nat}{fl:List Nat}{β:Nat→BV}{k:Nat}{τ:Nat→AV}{r:List Ez}{K:(Nat→BV)→(Nat→AV)→List BK→Prop}{dst:Option Tmp}{op:Op}{ty:TypeId}{pos:String}{aft:Array Edge}{v:AV}
theorem ok_none {o:Oper}{e:Ez}(h:Qq P ops H₀ β o τ e):Qu P ops H₀ (fun _=>H₀) none [] β k o τ e:=⟨fun e=>(by cases e),fun _=>⟨h,fun _=>h⟩,fun e=>(by cases e)⟩
theorem V1 {o:Oper}{e:Ez}(hk:Nat.beq k i₀=false) (hf:fl.contains k=false∨∀v,e= .val v→∀X,Dv P o (ev τ) X v X) (h:Qq P ops H₀ β o τ e) (h':∀g,Qq P ops (H₁ g) β o τ e):Qu P ops H₀ H₁ (some i₀) fl β k o τ e :=
 ⟨fun e=>(by cases e;simp at hk),fun _=>⟨h,h'⟩,fun e=>hf.elim (fun h=>by rw[h] at e;cases e) fun h=>h⟩
theorem C6 (ho:ops[k]?=some ⟨dst,op,ty,pos,aft,none⟩) (h:∀Bs,Dv P ⟨dst,op,ty,pos,aft,none⟩ (ev τ) (Bs++H₀) v (Bs++H₀)) (next:∀{b},YX P ops H₀ (fun _=>H₀) none [] (N4 β k b) (k+1) (put τ dst v) r K):YX P ops H₀ (fun _=>H₀) none [] β k τ (.val v::r) K :=
 ⟨_,ho,ok_none ⟨trivial,h⟩,fun _ _=>next⟩
theorem TM {cs:List AV}(ho:ops[k]?=some ⟨dst,op,ty,pos,aft,none⟩) (h:∀Bs,DT P ⟨dst,op,ty,pos,aft,none⟩ (ev τ) (Bs++H₀) (JZ cs (Bs++H₀))) (next:∀(b:Nat) {c},YX P ops H₀ (fun _=>H₀) none [] (N4 β k (b,c)) (k+1) (put τ dst (.ptr b 0)) r (fun β' τ' Hs=>K β' τ' (.box b cs::Hs))):YX P ops H₀ (fun _=>H₀) none [] β k τ (.new cs::r) K :=
 ⟨_,ho,ok_none ⟨rfl,h⟩,fun b _=>by simp only[Ez.w,Ez.bx,F4];exact @next b.1 b.2⟩
theorem Hk {Ok:(Nat→BV)→Nat→Oper→(Nat→AV)→Ez→Prop}(h:K β τ []):YG Ok ops β k τ [] K:=h
theorem F7 (ho:ops[k]?=some ⟨dst,op,ty,pos,aft,none⟩) (hk:Nat.beq k i₀=false) (hf:fl.contains k=false) (h:∀Bs,Dv P ⟨dst,op,ty,pos,aft,none⟩ (ev τ) (Bs++H₀) v (Bs++H₀)) (h':∀g Bs,Dv P ⟨dst,op,ty,pos,aft,none⟩ (ev τ) (Bs++H₁ g) v (Bs++H₁ g)) (next:∀{b},YX P ops H₀ H₁ (some i₀) fl (N4 β k b) (k+1) (put τ dst v) r K):YX P ops H₀ H₁ (some i₀) fl β k τ (.val v::r) K :=
 ⟨_,ho,V1 hk (.inl hf) ⟨trivial,h⟩ (fun g=>⟨trivial,h' g⟩),fun _ _=>next⟩
theorem Bj (ho:ops[k]?=some ⟨dst,op,ty,pos,aft,none⟩) (hk:Nat.beq k i₀=false) (h:∀H,Dv P ⟨dst,op,ty,pos,aft,none⟩ (ev τ) H v H) (next:∀{b},YX P ops H₀ H₁ (some i₀) fl (N4 β k b) (k+1) (put τ dst v) r K):YX P ops H₀ H₁ (some i₀) fl β k τ (.val v::r) K :=
 ⟨_,ho,V1 hk (.inr fun v' e X=>by cases e;exact h X) ⟨trivial,fun _=>h _⟩ (fun g=>⟨trivial,fun _=>h _⟩),fun _ _=>next⟩
theorem QB {cs:List AV}(ho:ops[k]?=some ⟨dst,op,ty,pos,aft,none⟩) (hk:Nat.beq k i₀=false) (h:∀H,DT P ⟨dst,op,ty,pos,aft,none⟩ (ev τ) H (JZ cs H)) (next:∀(b:Nat) {c},YX P ops H₀ H₁ (some i₀) fl (N4 β k (b,c)) (k+1) (put τ dst (.ptr b 0)) r (fun β' τ' Hs=>K β' τ' (.box b cs::Hs))):YX P ops H₀ H₁ (some i₀) fl β k τ (.new cs::r) K :=
 ⟨_,ho,V1 hk (.inr fun v' e=>by cases e) ⟨rfl,fun _=>h _⟩ (fun g=>⟨rfl,fun _=>h _⟩),fun b _=>by simp only[Ez.w,Ez.bx,F4];exact @next b.1 b.2⟩
theorem KS {H₂:List BK}(ho:ops[i₀]?=some ⟨dst,op,ty,pos,aft,none⟩) (hf:fl.contains i₀=false) (h:∀Bs,Dv P ⟨dst,op,ty,pos,aft,none⟩ (ev τ) (Bs++H₀) v (Bs++H₂)) (next:∀{b},YX P ops H₀ (fun _=>H₂) (some i₀) fl (N4 β i₀ b) (i₀+1) (put τ dst v) r K):YX P ops H₀ (fun _=>H₂) (some i₀) fl β i₀ τ (.val v::r) K :=
 ⟨_,ho,⟨fun _=>⟨v,rfl,rfl,fun Bs=>(h Bs).mono (by
  intro r H' hR;cases r with
  | val v'=>obtain⟨rfl,rfl⟩:=hR;exact⟨(0,0,.p .any),rfl,rfl⟩
  | panic v'=>exact hR.elim)⟩,fun e=>absurd rfl e,fun e=>by rw[hf] at e;cases e⟩,fun _ _=>next⟩
theorem CX {α:Type}{Bs H:List α}{j:Nat}{x:α}(h:H[j]?=some x):(Bs++H)[Bs.length+j]?=some x:=by
 rw[List.getElem?_append_right An,Nat.add_sub_cancel_left];exact h
end
section
variable {P:Program}{ops:Array Oper}{n:Nat}{τ₀:Nat→AV}{D:List EG}{Q:Cs→Bq→Prop}{opn:Nat→Bool}{k:Nat}{τ:Nat→AV}{H Hs:List BK}{rd:Yo}{ef:Yn}{effs:List Bool}{fx:List (Nat×Sp)}{dst:Option Tmp}{ty:TypeId}{pos:String}{aft:Array Edge}{v:AV}{c:Call}{f:Operand}{fid:FuncId}{first caps A:List AV}
end
section
variable {P:Program}{dst:Option Tmp}{ty:TypeId}{pos:String}{aft:Array Edge}{g:Option (Nat×Bool)}{ρ:Operand→AV}{H:List BK}{x y z:Operand}{v:AV}
end
theorem Vj {α:Type}{base T xs:List α}{is:List Nat}(hn:is.Nodup) (h:FR base is xs):(base++T).Perm (xs++(C9 is 0 base++T)):=by
 rw[←List.append_assoc];exact(DO hn h).append_right T
theorem Te {α:Type}{base T xs rest:List α}{is:List Nat}(hn:is.Nodup) (h:FR base is xs) (hd:C9 is 0 base=rest):(base++T).Perm (xs++(rest++T)):=by
 subst hd;exact Vj hn h
theorem Lu {P:Program}{fn:Func}{R:Ek→List BK→Prop}{S:Bq}{Hs:List BK}(h:MT P fn S R [] .ret Hs):∀U:List Nat,MT P fn S R (U.map .mark) .ret (Hs++U.map .dfr)
 | []=>by simpa using h
 | d::U=>by
  refine⟨Hs.length,by simp,?_⟩;have:(Hs++(d::U).map BK.dfr).eraseIdx Hs.length=Hs++U.map BK.dfr:=by
   rw[List.eraseIdx_append_of_length_le (Nat.le_refl _)];simp
  rw[this];exact Lu h U
theorem QM {P:Program}{fn:Func}{R:Ek→List BK→Prop}{n:Nat}{τ:Nat→AV}(U:List Nat) {Hs:List BK}(h:MT P fn ⟨n,τ,Hs++U.map .dfr,U.map .mark⟩ R [] .ret Hs):jf P fn R .ret ⟨n,τ,Hs++U.map .dfr,U.map .mark⟩ :=
 Lu h U
theorem XX {P:Program}{l d i:Nat}{S:Bq}{Q:Cs→Bq→Prop}{v:AV}{H':List BK}{L:Ou}(H2:List BK) (h1:H'[i]?=some (.loop l L)) (hs:L.state≠ .busy) (hp:L.pending=none) (he:H'.eraseIdx i=H2) (h:Q .normal ⟨S.n,S.τ,H2,.mark d::S.D⟩):VJ P l d S Q (.val v) H':=by
 subst he;exact⟨i,L,h1,hs,by rw[hp];exact h⟩
theorem Zd {P:Program}{l d i:Nat}{S:Bq}{Q:Cs→Bq→Prop}{v:AV}{H':List BK}{L:Ou}(H2:List BK) (h1:H'[i]?=some (.loop l L)) (hs:L.state≠ .busy) (hp:L.pending=some .ret) (he:H'.eraseIdx i=H2) (h:Ie P none .ret ⟨S.n,S.τ,H2,.mark d::S.D⟩ Q):VJ P l d S Q (.val v) H':=by
 subst he;exact⟨i,L,h1,hs,by rw[hp];exact h⟩
theorem DT.permL {P:Program}{o:Oper}{ρ:Operand→AV}{X H:List BK}{R:Ek→List BK→Prop}(h:DT P o ρ X R) (hp:H.Perm X):DT P o ρ H R:=by
 intro r F S a w hs hH hρ hd;subst hH;have hs':FY F ⟨S.n,S.τ,X,S.D⟩ a w:=⟨hs.size,hs.tmp,hs.heap.perm hp,hs.defs⟩;have tr:∀{F' H' w'},Trans F X w F' H' w'→Trans F S.H w F' H' w':=fun t =>
  { t with same:=fun b hb hn=>t.same b hb fun o ho=>hn o (hp.mem_iff.2 ho),keep:=fun b hb hn=>t.keep b hb fun o ho=>hn o (hp.mem_iff.2 ho),keys:=fun o ho b hb=>(t.keys o ho b hb).imp (fun⟨q,h1,h2⟩=>⟨q,hp.mem_iff.2 h1,h2⟩) id }
 refine H8 (h r F ⟨S.n,S.τ,X,S.D⟩ a w hs' O hρ hd) ?_ ?_
 ·rintro a' w' ⟨v,H',F',h1,h2,h3⟩;exact⟨v,H',F',h1,h2,tr h3⟩
 rintro e a' w' ⟨v,H',F',u,h1,h2,h3,h4,h5⟩;exact⟨v,H',F',u,h1,h2,h3,h4,tr h5⟩
theorem DT.ev {P:Program}{o:Oper}{ρ ρ':Operand→AV}{H:List BK}{R:Ek→List BK→Prop}(h:DT P o ρ H R) (he:∀x∈o.op.operands.toList,ρ x=ρ' x):DT P o ρ' H R :=
 fun r F S a w hs hH hρ hd=>h r F S a w hs hH (fun x hx=>(hρ x hx).trans (he x hx).symm) hd
theorem UU {ops:Array Oper}{sp sp':List Sp}{τ:Nat→AV}:∀{k:Nat},(∀j,j<k→(sp.getD j .skip).val=(sp'.getD j .skip).val)→τS ops sp τ k=τS ops sp' τ k
 | 0,_=>rfl
 | k+1,h=>by simp only[τS];rw[UU fun j hj=>h j An,h k An]
theorem mV {β:Nat→BV}{base tl:List Ez}{j:Nat}(h:j<base.length):((Qv β 0 (base++tl)).getD j .skip).val=((Qv β 0 base).getD j .skip).val:=by
 rw[J7,J7,List.getD_eq_getElem?_getD,List.getElem?_append_left h,←List.getD_eq_getElem?_getD]
def TV (P:Program) (ops:Array Oper) (Xs:List BK→Prop):Nat→(Nat→AV)→List BK→List AV→((Nat→AV)→List BK→Prop)→Prop
 | _,τ,H,[],K=>K τ H
 | k,τ,H,v::r,K=>∃o H',ops[k]?=some o∧o.guard=none∧Dv P o (ev τ) H v H'∧Xs H'∧TV P ops Xs (k+1) (put τ o.dst v) H' r K
theorem TV.facts {P:Program}{ops:Array Oper}{Xs:List BK→Prop}{τ:Nat→AV}{sp:List Sp}:∀(r:List AV) (k:Nat) (H:List BK) (K:(Nat→AV)→List BK→Prop),(∀j v,r[j]?=some v→(sp.getD (k+j) .skip).val=v)→TV P ops Xs k (τS ops sp τ k) H r K →
  ∃Hm:Nat→List BK,Hm k=H∧(∀j,k≤j→j<k+r.length→∃o,ops[j]?=some o∧o.guard=none∧Dv P o (ev (τS ops sp τ j)) (Hm j) ((sp.getD j .skip).val) (Hm (j+1))∧Xs (Hm (j+1)))∧K (τS ops sp τ (k+r.length)) (Hm (k+r.length))
 | [],k,H,K,hv,h=>⟨fun _=>H,rfl,fun j h1 h2=>by simp at h2;omega,h⟩
 | v::r,k,H,K,hv,h=>by
  obtain⟨o,H',ho,hg,hop,hx,hn⟩:=h;have hk:(sp.getD k .skip).val=v:=hv 0 v rfl;obtain⟨Hm,h1,h2,h3⟩:=TV.facts (P:=P) (ops:=ops) (Xs:=Xs) (τ:=τ) (sp:=sp) r (k+1) H' K (fun j v' e=>by rw[show k+1+j=k+(j+1) by omega];exact hv (j+1) v' e) (by simp only[τS,ho,Option.bind_some,hk];exact hn);obtain⟨G,g1,g2⟩:∃G:Nat→List BK,G k=H∧∀j,k<j→G j=Hm j:=⟨fun j=>if j=k then H else Hm j,if_pos rfl,fun j h=>if_neg An⟩;refine⟨G,g1,fun j a1 a2=>?_,?_⟩
  ·rw[g2 (j+1) An];by_cases e:j=k
   ·subst e;rw[g1,h1,hk];exact⟨o,ho,hg,hop,hx⟩
   rw[g2 j An];simp only[List.length_cons] at a2;exact h2 j An An
  rw[show k+(v::r).length=k+1+r.length by simp only[List.length_cons];omega,g2 _ An];exact h3
def Y8 (fl:List Nat) (base:List Ez):Bool:=fl.all fun j=>match base.getD j .skip with | .val _=>true | _=>false
def cA (ops:Array Oper) (e:Nat) (fl:List Nat):Bool:=(List.range ops.size).all fun i=>Nat.blt i e||(List.range i).all fun j=>(Nat.blt j e&&fl.contains j)||NR ops j i
theorem SC {ops:Array Oper}{e:Nat}{fl:List Nat}(h:cA ops e fl=true) {i j:Nat}(hi:e≤i) (hs:i<ops.size) (hj:j<i) (hf:¬(j<e∧fl.contains j=true)):Pred ops j i:=by
 have:=List.all_eq_true.1 h i (by simpa using hs);simp only[Bool.or_eq_true] at this;rcases this with h1 | h1
 ·rw[Nat.blt_eq] at h1;omega
 have:=List.all_eq_true.1 h1 j (by simpa using hj);simp only[Bool.or_eq_true,Bool.and_eq_true,Nat.blt_eq] at this;exact this.elim (fun h=>absurd h hf) Er
section
variable {P:Program}{r:Option Nat}{ops:Array Oper}{id n:Nat}{τ:Nat→AV}{H:List BK}{D:List EG}{Q:Cs→Bq→Prop}{H₁:BV→List BK}{i₀:Option Nat}{flx:List Nat}
theorem fN {β:Nat→BV}{l:Nat→Bool}:∀(r:List Ez) (k:Nat),(∀j,j<r.length→l (k+j)=true∨∃v,r.getD j .skip= .val v)→RX β l k r=RX β (fun _=>true) k r
 | [],k,h=>rfl
 | e::r,k,h=>by
  simp only[RX,if_true];rw[fN r (k+1) fun j hj=>by have:=h (j+1) (by simpa using hj);rw[show k+(j+1)=k+1+j by omega] at this;simpa using this];rcases h 0 Ao with h1 | ⟨v,h1⟩
  ·rw[Nat.add_zero] at h1;rw[if_pos h1]
  simp only[List.getD_cons_zero] at h1;subst h1;split<;>rfl
theorem bJ (Xs:List BK→Prop) (base:List Ez) (tl:List AV) (fl:List Nat) (hm:P.follows .mixedOrders=true) (hi0:∀i,i₀=some i→i<base.length∧fl.contains i=false)
  (he:base.length+tl.length=ops.size) (chk:MK ops n []=true) (late:cA ops base.length fl=true) (hfl:Y8 fl base=true) (hne:aE base)
  (hF:∀β k o τ v,fl.contains k=true→Qu P ops H H₁ i₀ flx β k o τ (.val v)→EY ops ⟨0,τ,[],[]⟩ o∧∀X,Xs X→Dv P o (ev τ) X v X)
  (h:YX P ops H H₁ i₀ flx (fun _=>(0,0,.p .any)) 0 τ base (fun β τ' Hs=>TV P ops Xs base.length τ' (Hs++hB H H₁ i₀ β (fun _=>true)) tl (fun τ'' X=>Q .normal ⟨n,τ'',X,D⟩))):Ie P r (.region id ops true) ⟨n,τ,H,D⟩ Q:=by
 obtain⟨hdst,c0,c1,c2,_⟩:=ND chk;have hflv:∀j,fl.contains j=true→∃v,base.getD j .skip= .val v:=fun j hj=>by
  have:=List.all_eq_true.1 hfl j (by simpa using hj);cases hq:base.getD j .skip with
  | val v=>exact⟨v,rfl⟩
  | _=>simp only[hq] at this;cases this
 obtain⟨SP,hSP⟩:∃SP:(Nat→BV)→List Sp,SP=fun β=>Qv β 0 (base++tl.map .val):=⟨_,rfl⟩;have spv:∀β j,j<base.length→((SP β).getD j .skip).val=((Qv β 0 base).getD j .skip).val:=fun β j hj=>by rw[hSP];exact mV hj
 have spt:∀β j v,tl[j]?=some v→((SP β).getD (base.length+j) .skip).val=v:=fun β j v e=>by
  rw[hSP];show ((Qv β 0 (base++tl.map Ez.val)).getD (base.length+j) .skip).val=v;rw[J7,List.getD_eq_getElem?_getD,List.getElem?_append_right (Nat.le_add_right _ _),Nat.add_sub_cancel_left,List.getElem?_map,e];rfl
 have hE:∀β,(∀j,(base.getD j .skip).ok (β j))→(∀j,j<base.length→∃o,ops[j]?=some o∧Qu P ops H H₁ i₀ flx β j o (τS ops (SP β) τ j) (base.getD j .skip)) ∧
   ∃Hm:Nat→List BK,Hm base.length=RX β (fun _=>true) 0 base++hB H H₁ i₀ β (fun _=>true)∧(∀j,base.length≤j→j<ops.size→∃o,ops[j]?=some o∧o.guard=none∧Dv P o (ev (τS ops (SP β) τ j)) (Hm j) (((SP β).getD j .skip).val) (Hm (j+1))∧Xs (Hm (j+1)))∧Q .normal ⟨n,τS ops (SP β) τ ops.size,Hm ops.size,D⟩:=fun β hβ=>by
  obtain⟨h1,β',hb,hK⟩:=YG.facts (base:=base) (τ:=τ) Qu.cgr c0 β hβ base 0 _ τ _ (fun i h=>absurd h An) rfl An rfl h;have e:∀j,j≤base.length→τS ops (Qv β 0 base) τ j=τS ops (SP β) τ j:=fun j hj=>UU fun q hq=>(spv β q An).symm;have e2:hB H H₁ i₀ β' (fun _=>true)=hB H H₁ i₀ β (fun _=>true):=by
   cases i₀ with
   | none=>rfl
   | some i=>simp only[hB,hb i (hi0 i rfl).1]
  rw[e _ (Nat.le_refl _),e2] at hK;obtain⟨Hm,g1,g2,g3⟩:=TV.facts tl base.length _ _ (fun j v e=>spt β j v e) hK;rw[he] at g2 g3;exact⟨fun j hj=>by obtain⟨o,a,b⟩:=h1 j (Nat.zero_le _) hj;rw[e j An] at b;exact⟨o,a,b⟩,Hm,g1,g2,g3⟩
 -- which of the last operations have been carried out
 obtain⟨I,hI⟩:∃I:(Nat→BV)→(Nat→Bool)→List BK→Prop,I=fun β l H'=>(BI base H H₁ i₀ β l H'∧∀k,base.length≤k→l k=false) ∨
   ((∀j,(base.getD j .skip).ok (β j))∧∃m,base.length<m∧m≤ops.size∧(∀k,base.length≤k→k<ops.size→(l k=true↔k<m))∧(∀k,k<base.length→fl.contains k=false→l k=true) ∧
    ∃Hm:Nat→List BK,(∀j,base.length≤j→j<ops.size→∃o,ops[j]?=some o∧o.guard=none∧Dv P o (ev (τS ops (SP β) τ j)) (Hm j) (((SP β).getD j .skip).val) (Hm (j+1))∧Xs (Hm (j+1)))∧Q .normal ⟨n,τS ops (SP β) τ ops.size,Hm ops.size,D⟩∧H'=Hm m):=⟨_,rfl⟩
 refine PG hm ops.size (Nat.le_refl _) ⟨hdst,c0,c1,c2⟩ (fun i j h1 h2=>absurd h1 An) SP I ?_ ?_ ?_
 ·obtain⟨β,hβ⟩:=WK (H:=H) (H₁:=H₁) (i₀:=i₀) hne;rw[hI];exact⟨β,.inl ⟨hβ,fun _ _=>rfl⟩⟩
 ·intro β l H' i o h hlt ho hnot hdown hpre
  -- the operation i of the last ones comes
  have late':base.length≤i→(∀k,k<base.length→fl.contains k=false→l k=true)∧∀k,base.length≤k→k<i→l k=true:=fun hi =>
   ⟨fun k hk hf=>hpre k (SC late hi hlt An fun h=>by rw[hf] at h;cases h.2),fun k h1 h2=>hpre k (SC late hi hlt h2 fun h=>by omega)⟩
  have go:∀{Hm:Nat→List BK},base.length≤i→(∀j,(base.getD j .skip).ok (β j))→(∀k,base.length≤k→k<ops.size→l k=true→k<i)→(∀j,base.length≤j→j<ops.size→∃o,ops[j]?=some o∧o.guard=none∧Dv P o (ev (τS ops (SP β) τ j)) (Hm j) (((SP β).getD j .skip).val) (Hm (j+1))∧Xs (Hm (j+1)))→Q .normal ⟨n,τS ops (SP β) τ ops.size,Hm ops.size,D⟩→H'.Perm (Hm i) →
    pS P ops n D Q τ (τS ops (SP β) τ i) H' o fun v H''=>∃ix',(∀k,l k=true→((SP ix').getD k .skip).val=((SP β).getD k .skip).val)∧((SP ix').getD i .skip).val=v∧I ix' (fun k=>l k||k==i) H'':=by
   intro Hm hi hok hlast h2 h3 hp;obtain⟨o',ho',hg,hop,_⟩:=h2 i hi hlt;rw[ho] at ho';injection ho' with ho';subst ho';refine .inl ⟨_,by unfold EY;rw[hg];trivial,DT.permL hop hp,fun v' H'' ⟨a,b⟩=>⟨β,fun _ _=>rfl,a.symm,?_⟩,fun _ _ h=>h.elim⟩;rw[hI];refine .inr ⟨hok,i+1,by omega,by omega,fun k h1 h2=>?_,fun k h1 h2=>by show (l k||k==i)=true;rw[(late' hi).1 k h1 h2];rfl,Hm,h2,h3,b⟩;show (l k||k==i)=true↔_;by_cases hki:k=i
   ·subst hki;simp
   rw[show (k==i)=false by simp[hki],Bool.or_false];exact⟨fun h=>by have:=hlast k h1 h2 h;omega,fun h=>(late' hi).2 k h1 An⟩
  have hI0:=h;rw[hI] at h;rcases h with ⟨hbi,hno⟩ | ⟨hok,m,hm1,hm2,hst,hbs,Hm,g2,g3,rfl⟩
  ·rcases Nat.lt_or_ge i base.length with hib | hib
   ·obtain⟨o',ho',hyx⟩:=(hE β hbi.1).1 i hib;rw[ho] at ho';injection ho' with ho';subst ho';refine(QG c0 (Z8 (hE β hbi.1).1) hyx hbi hib ho hnot hdown).mono fun v H'' hK=>?_;obtain⟨β',a1,a2,a3⟩:=hK;refine⟨β',fun k hk=>?_,by rw[spv _ _ hib,a2],by rw[hI];exact .inl ⟨a3,fun k hk=>by show (l k||k==i)=false;rw[hno k hk];simp;omega⟩⟩;have hkb:k<base.length:=by
     rcases Nat.lt_or_ge k base.length with h | h
     ·exact h
     rw[hno k h] at hk;cases hk
    rw[spv _ _ hkb,spv _ _ hkb,a1 k hk]
   have hie:i=base.length:=by
    rcases Nat.lt_or_ge base.length i with h | h
    ·have:=(late' hib).2 base.length (Nat.le_refl _) h;rw[hno base.length (Nat.le_refl _)] at this;cases this
    omega
   subst hie;obtain⟨_,Hm,g1,g2,g3⟩:=hE β hbi.1;refine go hib hbi.1 (fun k h1 h2 h3=>by rw[hno k h1] at h3;cases h3) g2 g3 ?_;obtain⟨_,Hb,rfl,hp⟩:=hbi;rw[g1,←fN (l:=l) base 0 fun j hj=>by
    rw[Nat.zero_add];cases hf:fl.contains j with
    | true=>exact .inr (hflv j hf)
    | false=>exact .inl ((late' hib).1 j hj hf)]
   have e2:hB H H₁ i₀ β l=hB H H₁ i₀ β (fun _=>true):=by
    cases i₀ with
    | none=>rfl
    | some q=>simp only[hB,(late' hib).1 q (hi0 q rfl).1 (hi0 q rfl).2,if_true]
   rw[←e2];exact hp.append_right _
  rcases Nat.lt_or_ge i base.length with hib | hib
  ·-- a value floats past the last operations
   have hfi:fl.contains i=true:=by
    cases hf:fl.contains i with
    | true=>rfl
    | false=>have:=hbs i hib hf;rw[hnot] at this;cases this
   obtain⟨v,hv⟩:=hflv i hfi;obtain⟨o',ho',hyx⟩:=(hE β hok).1 i hib;rw[ho] at ho';injection ho' with ho';subst ho';rw[hv] at hyx;obtain⟨hw,hop⟩:=hF _ _ _ _ _ hfi hyx;have hxs:Xs (Hm m):=by
    obtain⟨_,_,_,_,hx⟩:=g2 (m - 1) An An
    rwa [show m - 1+1=m by omega] at hx
   refine .inl ⟨_,hw,hop _ hxs,fun v' H'' ⟨a,b⟩=>⟨β,fun _ _=>O,by rw[spv _ _ hib,J7,hv,a];rfl,?_⟩,fun _ _ h=>h.elim⟩;rw[hI];refine .inr ⟨hok,m,hm1,hm2,fun k h1 h2=>?_,fun k h1 h2=>by show (l k||k==i)=true;rw[hbs k h1 h2];rfl,Hm,g2,g3,b⟩;show (l k||k==i)=true↔_;rw[show (k==i)=false by simp;omega,Bool.or_false];exact hst k h1 h2
  have him:i=m:=by
   have h1:¬i<m:=fun h=>by have:=(hst i hib hlt).2 h;rw[hnot] at this;cases this
   rcases Nat.lt_or_ge m i with h | h
   ·have:=(hst m An An).1 ((late' hib).2 m An h);omega
   omega
  subst him;exact go hib hok (fun k h1 h2 h3=>(hst k h1 h2).1 h3) g2 g3 (List.Perm.refl _)
 intro β l H' h hall _;rw[hI] at h;rcases h with ⟨hbi,hno⟩ | ⟨hok,m,hm1,hm2,hst,hbs,Hm,g2,g3,rfl⟩
 ·have hbs:base.length=ops.size:=by
   rcases Nat.lt_or_ge base.length ops.size with h | h
   ·have:=hall base.length h;rw[hno base.length (Nat.le_refl _)] at this;cases this
   omega
  obtain⟨_,Hm,g1,g2,g3⟩:=hE β hbi.1;have hp:=aQ hbi (fun k hk=>hall k An) (fun i e=>(hi0 i e).1) (fun _ _=>rfl);rw[←g1,hbs] at hp;exact Jd hp (Bg (Nat.sub_self _) g3)
 have hms:m=ops.size:=by
  rcases Nat.lt_or_ge m ops.size with h | h
  ·have:=(hst m An h).1 (hall m h);omega
  omega
 subst hms;exact Bg (Nat.sub_self _) g3
theorem ld (base:List Ez) (tl:List AV) (fl:List Nat) (hm:P.follows .mixedOrders=true) (he:base.length+tl.length=ops.size) (chk:MK ops n []=true) (late:cA ops base.length fl=true) (hfl:Y8 fl base=true)
  (h:YX P ops H (fun _=>H) none [] (fun _=>(0,0,.p .any)) 0 τ base (fun β τ' Hs=>TV P ops (fun X=>∃Bs,X=Bs++H) base.length τ' (Hs++H) tl (fun τ'' X=>Q .normal ⟨n,τ'',X,D⟩))) (hne:aE base:=by exact trivial):Ie P r (.region id ops true) ⟨n,τ,H,D⟩ Q :=
 bJ _ base tl fl hm (fun i e=>by cases e) he chk late hfl hne (fun β k o τ v _ h=>⟨(h.2.1 Ao).1.1,fun X ⟨Bs,e⟩=>by rw[e];exact(h.2.1 Ao).1.2 Bs⟩) h
theorem IU (H₂:List BK) (i₀:Nat) (base:List Ez) (tl:List AV) (fl:List Nat) (hm:P.follows .mixedOrders=true) (he:base.length+tl.length=ops.size) (chk:MK ops n []=true) (late:cA ops base.length fl=true) (hfl:Y8 fl base=true) (hi0:(Nat.blt i₀ base.length&& !fl.contains i₀)=true)
  (h:YX P ops H (fun _=>H₂) (some i₀) fl (fun _=>(0,0,.p .any)) 0 τ base (fun β τ' Hs=>TV P ops (fun _=>True) base.length τ' (Hs++H₂) tl (fun τ'' X=>Q .normal ⟨n,τ'',X,D⟩))) (hne:aE base:=by exact trivial):Ie P r (.region id ops true) ⟨n,τ,H,D⟩ Q:=by
 simp only[Bool.and_eq_true,Nat.blt_eq,Bool.not_eq_true'] at hi0;refine bJ _ base tl fl hm (fun i e=>by cases e;exact hi0) he chk late hfl hne (fun β k o τ v hf h=>⟨?_,fun X _=>h.2.2 hf v rfl X⟩) h;by_cases hk:some k=some i₀
 ·obtain⟨_,_,hg,_⟩:=h.1 hk;unfold EY;rw[hg];trivial
 exact(h.2.1 hk).1.1
def fB (P:Program) (ops:Array Oper) (H:List BK) (u:AV) (i₀:Nat) (β:Nat→BV) (k:Nat) (o:Oper) (τ:Nat→AV) (e:Ez):Prop :=
 if k=i₀ then e.dj=none∧o.guard=none∧∀Bs,DT P o (ev τ) (Bs++H) (fun r _=>r= .panic u) else (NR ops i₀ k=true∧e.dj=none)∨Qq P ops H β o τ e
theorem fB.cgr {u:AV}{i₀:Nat}:uJ ops (fB P ops H u i₀) where
 cg β β' k o τ e hd h:=by
  unfold fB at *;split
  ·rename_i hk;rw[if_pos hk] at h;exact h
  rename_i hk;rw[if_neg hk] at h;exact h.imp (fun h=>h) fun h=>h.cg hd
 dp β k o τ e j ho h hd:=by
  unfold fB at h;split at h
  ·rw[h.1] at hd;cases hd
  rcases h with h | h
  ·rw[h.2] at hd;cases hd
  exact h.dp hd
abbrev E7 (P:Program) (ops:Array Oper) (H:List BK) (u:AV) (i₀:Nat) (β:Nat→BV) (k:Nat) (τ:Nat→AV) (l:List Ez):Prop:=YG (fB P ops H u i₀) ops β k τ l fun _ _ _=>True
theorem JD (u:AV) (i₀:Nat) (base:List Ez) (hm:P.follows .mixedOrders=true) (he:base.length=ops.size) (chk:MK ops n []=true) (hi0:Nat.blt i₀ base.length=true) (hne:aE base) (hQ:∀τ' H',Q (.panic u) ⟨n,τ',H',D⟩)
  (h:E7 P ops H u i₀ (fun _=>(0,0,.p .any)) 0 τ base):Ie P r (.region id ops true) ⟨n,τ,H,D⟩ Q:=by
 obtain⟨hdst,c0,c1,c2,_⟩:=ND chk;rw[Nat.blt_eq] at hi0;have hE:=fun β (hβ:∀j,(base.getD j .skip).ok (β j))=>(YG.facts (base:=base) (τ:=τ) fB.cgr c0 β hβ base 0 _ τ _ (fun i h=>absurd h An) rfl An rfl h).1;refine PG hm ops.size (Nat.le_refl _) ⟨hdst,c0,c1,c2⟩ (fun i j h1 h2=>absurd h1 An) (fun β=>Qv β 0 base) (fun β l H'=>BI base H (fun _=>H) none β l H'∧l i₀=false) ?_ ?_ ?_
 ·obtain⟨β,hβ⟩:=WK (H:=H) (H₁:=fun _=>H) (i₀:=none) hne;exact⟨β,hβ,O⟩
 ·intro β l H' i o hI hlt ho hnot hdown hpre;obtain⟨o',ho',hok⟩:=hE β hI.1.1 i (Nat.zero_le _) An;rw[ho] at ho';injection ho' with ho';subst ho';unfold fB at hok;split at hok
  ·obtain⟨_,Hb,rfl,_⟩:=hI.1;exact .inl ⟨_,by unfold EY;rw[hok.2.1];trivial,hok.2.2 Hb,fun _ _ h=>(by cases h),fun v H' h τ' _=>by cases h;exact hQ _ _⟩
  rename_i hk;rcases hok with h | h
  ·have:=hpre i₀ (Er h.1);rw[hI.2] at this;cases this
  refine(QG c0 (Z8 (fun j hj=>hE β hI.1.1 j (Nat.zero_le _) hj) fB.cgr) (fl:=[]) (i₀:=none) (H₁:=fun _=>H) ⟨fun e=>(by cases e),fun _=>⟨h,fun _=>h⟩,fun e=>(by cases e)⟩ hI.1 An ho hnot hdown).mono fun v H'' hK=>?_;obtain⟨β',h1,h2,h3⟩:=hK;exact⟨β',h1,h2,h3,by show (l i₀||i₀==i)=false;rw[hI.2];simpa using fun e=>hk e.symm⟩
 intro β l H' hI hall _;have:=hall i₀ An;rw[hI.2] at this;cases this
end
section
variable {P:Program}{ops:Array Oper}{H₀ H:List BK}{u:AV}{i₀:Nat}{β:Nat→BV}{k:Nat}{τ:Nat→AV}{r:List Ez}{dst:Option Tmp}{op:Op}{ty:TypeId}{pos:String}{aft:Array Edge}{v:AV}
theorem bN {X:List BK}{l:List AV}{C:(Nat→AV)→List BK→Prop}(H':List BK) (ho:ops[k]?=some ⟨dst,op,ty,pos,aft,none⟩) (h:Dv P ⟨dst,op,ty,pos,aft,none⟩ (ev τ) X v (H'++H₀)) (next:TV P ops (fun X=>∃Bs,X=Bs++H₀) (k+1) (put τ dst v) (H'++H₀) l C):TV P ops (fun X=>∃Bs,X=Bs++H₀) k τ X (v::l) C :=
 ⟨_,_,ho,rfl,h,⟨_,rfl⟩,next⟩
theorem Dq {X:List BK}{l:List AV}{C:(Nat→AV)→List BK→Prop}(H':List BK) (ho:ops[k]?=some ⟨dst,op,ty,pos,aft,none⟩) (h:Dv P ⟨dst,op,ty,pos,aft,none⟩ (ev τ) X v H') (next:TV P ops (fun _=>True) (k+1) (put τ dst v) H' l C):TV P ops (fun _=>True) k τ X (v::l) C :=
 ⟨_,_,ho,rfl,h,trivial,next⟩
theorem Jb {Xs:List BK→Prop}{X:List BK}{C:(Nat→AV)→List BK→Prop}(h:C τ X):TV P ops Xs k τ X [] C:=h
theorem CA (ho:ops[k]?=some ⟨dst,op,ty,pos,aft,none⟩) (hk:Nat.beq k i₀=false) (h:∀Bs,Dv P ⟨dst,op,ty,pos,aft,none⟩ (ev τ) (Bs++H) v (Bs++H)) (next:∀{b},E7 P ops H u i₀ (N4 β k b) (k+1) (put τ dst v) r):E7 P ops H u i₀ β k τ (.val v::r) :=
 ⟨_,ho,by rw[fB,if_neg (fun e=>by rw[e] at hk;simp at hk)];exact .inr ⟨trivial,h⟩,fun _ _=>next⟩
theorem WB {cs:List AV}(ho:ops[k]?=some ⟨dst,op,ty,pos,aft,none⟩) (hk:Nat.beq k i₀=false) (h:∀Bs,DT P ⟨dst,op,ty,pos,aft,none⟩ (ev τ) Bs (JZ cs Bs)) (next:∀(b:Nat) {c},E7 P ops H u i₀ (N4 β k (b,c)) (k+1) (put τ dst (.ptr b 0)) r):E7 P ops H u i₀ β k τ (.new cs::r) :=
 ⟨_,ho,by rw[fB,if_neg (fun e=>by rw[e] at hk;simp at hk)];exact .inr ⟨rfl,fun Bs=>h _⟩,fun b _=>by simp only[Ez.w,F4];exact @next b.1 b.2⟩
theorem DD {o:Oper}(ho:ops[k]?=some o) (hk:Nat.beq k i₀=false) (hp:NR ops i₀ k=true) (next:∀{b},E7 P ops H u i₀ (N4 β k b) (k+1) (put τ o.dst (.p .any)) r):E7 P ops H u i₀ β k τ (.val (.p .any)::r) :=
 ⟨_,ho,by rw[fB,if_neg (fun e=>by rw[e] at hk;simp at hk)];exact .inl ⟨hp,rfl⟩,fun _ _=>next⟩
theorem LF:E7 P ops H u i₀ β k τ []:=trivial
theorem LX {c:Call}{f:Operand}{fid:FuncId}{first caps A:List AV}{Hs:List BK}{α:Type}{mkv:α→AV}{mkp:Int→AV}{C:α→List BK→Prop}{x:Except Int α}{e:Int}(is:List Nat) (hx:x= .error e) (ho:ops[i₀]?=some ⟨dst,.call c,ty,pos,aft,none⟩) (hc:c.callee= .value f) (hf:(ev τ f= .p (.fn fid)∧first=[]∧caps=[])∨ev τ f= .fn (.func fid) first caps) (h:Bn P fid A Hs (Lm mkv mkp C x)) (hg:FR H is Hs) (hn:is.Nodup) (hA:GV (first++c.args.toList.map (ev τ)++caps) A)
  (next:∀{b},E7 P ops H (mkp e) i₀ (N4 β i₀ b) (i₀+1) (put τ dst (.p .any)) r):E7 P ops H (mkp e) i₀ β i₀ τ (.val (.p .any)::r):=by
 refine⟨_,ho,?_,fun _ _=>next⟩;rw[fB,if_pos rfl];refine⟨O,O,fun Bs=>?_⟩;have hp:(Bs++H).Perm (Hs++(Bs++C9 is 0 H)):=by
  refine((DO hn hg).append_left Bs).trans ?_;rw[←List.append_assoc,←List.append_assoc];exact List.perm_append_comm.append_right _
 refine DT.mono (GI (H:=Bs++H) hc hf hp (h.args hA) (.inl O)) ?_;rintro r H' ⟨Hs',h1,rfl⟩;cases r with
 | val v'=>obtain⟨a,h2,_⟩:=h1;rw[hx] at h2;cases h2
 | panic v'=>obtain⟨e',h2,h3⟩:=h1;rw[hx] at h2;cases h2;rw[h3]
theorem Fy {α:Type}(x:Except Int α):(∃e,x= .error e)∨∃a,x= .ok a:=by
 cases x with
 | error e=>exact .inl ⟨e,rfl⟩
 | ok a=>exact .inr ⟨a,rfl⟩
theorem Lj {fid:FuncId}{A:List AV}{Hs:List BK}{α:Type}{mkv:α→AV}{mkp:Int→AV}{G:α→List BK}{x:Except Int α}{a:α}(hx:x= .ok a) (h:Bn P fid A Hs (Lm mkv mkp (fun r H'=>H'=G r) x)):Bn P fid A Hs (Gk (mkv a) (G a)) :=
 h.mono (by
  intro r H' h1;cases r with
  | val v=>obtain⟨b,h2,h3,h4⟩:=h1;rw[hx] at h2;cases h2;exact⟨h3,h4⟩
  | panic v=>obtain⟨e,h2,_⟩:=h1;rw[hx] at h2;cases h2)
theorem G2 {c:Call}{f:Operand}{fid:FuncId}{first caps A:List AV}{ρ:Operand→AV}{H Hs Hs':List BK}{g:Option (Nat×Bool)}{Bs:List BK}(is:List Nat) (hc:c.callee= .value f) (hf:(ρ f= .p (.fn fid)∧first=[]∧caps=[])∨ρ f= .fn (.func fid) first caps) (h:Bn P fid A Hs (Gk v Hs')) (hg:FR H is Hs) (hn:is.Nodup) (hl:Hs'.length=Hs.length) (hA:GV (first++c.args.toList.map ρ++caps) A) :
  Dv P ⟨dst,.call c,ty,pos,aft,g⟩ ρ (Bs++H) v (Bs++Lz H is Hs'):=by
 have hp:(Bs++H).Perm (Hs++(Bs++C9 is 0 H)):=by
  refine((DO hn hg).append_left Bs).trans ?_;rw[←List.append_assoc,←List.append_assoc];exact List.perm_append_comm.append_right _
 refine DT.permR (GI (H:=Bs++H) hc hf hp (h.args hA) (.inl O)) ?_;rintro r H' ⟨Hs2,h1,rfl⟩;cases r with
 | val v' =>
  obtain⟨rfl,rfl⟩:=h1;refine⟨Bs++Lz H is Hs2,?_,O,O⟩;have hq:=(Mp hn hg hl).append_left Bs;refine List.Perm.trans ?_ hq.symm;rw[←List.append_assoc,←List.append_assoc];exact List.perm_append_comm.append_right _
 | panic v'=>exact h1.elim
def kM (P:Program) (T:TypeId):Bool:=match P.underlying T with
 | some (.interface _)=>false
 | some _=>true
 | none=>false
theorem T3 {P:Program}{T:TypeId}(h:kM P T=true):∃d,P.underlying T=some d∧(∀ms,d≠ .interface ms)∧(match d with | .interface _=>false | _=>true)=true:=by
 unfold kM at h;cases hd:P.underlying T with
 | none=>rw[hd] at h;cases h
 | some d =>
  rw[hd] at h;refine⟨d,O,fun ms e=>?_,?_⟩
  ·subst e;cases h
  cases d<;>first | rfl | exact h
theorem JW {T:TypeId}{x:Operand}{ρ:Operand→AV}{H:List BK}{g:Option (Nat×Bool)}(hc:kM P T=true) (hx:ρ x= .agg []):Dv P ⟨dst,.makeInterface T x,ty,pos,aft,g⟩ ρ H (.p (.iface T .unit)) H :=
 CP fun F w E hH hE=>by
  have h1:=hE x Ac;rw[hx] at h1;simp only[CN] at h1;obtain⟨vs,h2,h3⟩:=h1;simp only[Bz] at h3;subst h3;obtain⟨d,hu,hd,_⟩:=T3 hc;refine⟨.iface T (E x),?_,by simp only[CN,CK];exact⟨_,rfl,h2⟩⟩;cases d<;>simp_all [execOp,Instr.makeInterface,Sem.run_bind,run_underlying hu]
theorem Xu {T A:TypeId}{x:Operand}{ρ:Operand→AV}{H:List BK}{c:PV}{g:Option (Nat×Bool)}(hc:kM P A=true) (hx:ρ x= .p (.iface A c)):Dv P ⟨dst,.typeAssert x T A true,ty,pos,aft,g⟩ ρ H (.tup [.p c,.p (.bool true)]) H:=by
 obtain⟨d,hu,_,hd⟩:=T3 hc;exact TQ hu (by cases d<;>first | rfl | exact hd) hx
end
theorem FY.putW {F:Nat→Prop}{S:Bq}{d:Option Nat}{v v':AV}{H:List BK}{a:Act}{w:World}(h:FY F (S.put d v H) a w) (hv:Q0 v v'):FY F (S.put d v' H) a w :=
 ⟨h.size,fun t=>by
  have:=h.tmp t;cases d with
  | none=>exact this
  | some d =>
   have h3:CN F w (Abs.put S.τ (some d) v t) (a.tmps.getD t undef):=this;show CN F w (Abs.put S.τ (some d) v' t) (a.tmps.getD t undef);cases hb:Nat.beq t d
   ·have e (x:AV):Abs.put S.τ (some d) x t=S.τ t:=by simp only[Abs.put,hb,cond_false]
    rw[e] at h3 ⊢;exact h3
   have e (x:AV):Abs.put S.τ (some d) x t=x:=by simp only[Abs.put,hb,cond_true]
   rw[e] at h3 ⊢;exact hv _ _ _ h3,h.heap,h.defs⟩
theorem iI {P:Program}{o:Oper}{ρ:Operand→AV}{H H':List BK}{v v':AV}(h:Dv P o ρ H v H') (hv:Q0 v v'):Dv P o ρ H v' H':=by
 intro r F S a w hs hH hρ hd;refine H8 (h r F S a w hs hH hρ hd) ?_ ?_
 ·rintro a' w' ⟨v1,H1,F1,⟨e1,e2⟩,h2,h3⟩;subst e1;subst e2;exact⟨_,_,F1,⟨O,O⟩,h2.putW hv,h3⟩
 rintro e a' w' ⟨_,_,_,_,h,_⟩;exact h.elim
theorem fI {P:Program}{o:Oper}{ρ:Operand→AV}{H H':List BK}{v:AV}(h:Dv P o ρ H v H'):Dv P o ρ H (norm v) H':=iI h (E1 rfl)
end Go.Abs
namespace Go.Eu
open Go.Abs
theorem Dz (x:B5):At (Bi x) 0 [I x.kind]:=At.one
theorem DF (x:B5):At (Bi x) 1 [.str x.name]:=At.cons (At.one)
theorem Cn (x:B5):At (Bi x) 2 [I x.params]:=At.cons (At.cons (At.one))
theorem E3 (x:B5):At (Bi x) 3 (BP x.type):=At.cons (At.cons (At.cons (At.front)))
theorem FA (x:B5):At (Bi x) 8 (BP x.value):=At.cons (At.cons (At.cons (At.app (BD _) (At.front))))
theorem Cr (x:B5):At (Bi x) 13 [I x.fixed]:=At.cons (At.cons (At.cons (At.app (BD _) (At.app (BD _) (At.one)))))
theorem CC (x:B5):At (Bi x) 14 [.lst (x.ctors.map G1)]:=At.cons (At.cons (At.cons (At.app (BD _) (At.app (BD _) (At.cons (At.one))))))
theorem Lb (x:B5):At (Bi x) 15 (SY x.recs):=At.cons (At.cons (At.cons (At.app (BD _) (At.app (BD _) (At.cons (At.cons (At.front)))))))
theorem CJ (x:B5):At (Bi x) 22 [.lst (x.funs.map FH)]:=At.cons (At.cons (At.cons (At.app (BD _) (At.app (BD _) (At.cons (At.cons (At.app (Kw _) (At.one))))))))
theorem R8 (x:kF):At (SY x) 0 [I x.params]:=At.one
theorem Vu (x:kF):At (SY x) 1 (BP x.type):=At.cons (At.front)
theorem Tn (x:kF):At (SY x) 6 [.lst (BE x.rules)]:=At.cons (At.app (BD _) (At.one))
theorem Fg (x:IS):At (G1 x) 0 [.str x.name]:=At.one
theorem Fi (x:IS):At (G1 x) 1 (BP x.type):=At.cons (At.all)
theorem I7 (x:Hp):At (FH x) 0 [.str x.name]:=At.one
theorem JC (x:Hp):At (FH x) 1 (BP x.type):=At.cons (At.front)
theorem CU (x:Hp):At (FH x) 6 [I x.arity]:=At.cons (At.app (BD _) (At.one))
theorem D1 (x:Hp):At (FH x) 7 (Cz x.tree):=At.cons (At.app (BD _) (At.cons (At.all)))
theorem Gc (x:ES):At (Cz x) 0 [I x.kind]:=by
 cases x;exact At.one
theorem E2 (x:ES):At (Cz x) 1 (BP x.body):=by
 cases x;exact At.cons (At.front)
theorem DE (x:ES):At (Cz x) 6 [I x.var]:=by
 cases x;exact At.cons (At.app (BD _) (At.one))
theorem CH (x:ES):At (Cz x) 7 [.lst (Lr x.branches)]:=by
 cases x;exact At.cons (At.app (BD _) (At.cons (At.one)))
theorem Gd (x:GC):At (Gy x) 0 [.str x.ctor]:=by
 cases x;exact At.one
theorem GU (x:GC):At (Gy x) 1 [.bool x.absurd]:=by
 cases x;exact At.cons (At.one)
theorem Fp (x:GC):At (Gy x) 2 (Cz x.tree):=by
 cases x;exact At.cons (At.cons (At.all))
theorem DV (x:Fq):At (DS x) 0 [I x.kind]:=At.one
theorem DW (x:Fq):At (DS x) 1 [I x.decl]:=At.cons (At.one)
theorem Fm (x:Fq):At (DS x) 2 [I x.item]:=At.cons (At.cons (At.one))
theorem HX (x:Fq):At (DS x) 3 [I x.params]:=At.cons (At.cons (At.cons (At.one)))
theorem KF (x:QL):At (GH x) 0 [.lst (x.env.map Bi)]:=At.one
theorem YR (x:QL):At (GH x) 1 [.lst (x.own.map Gr)]:=At.cons (At.one)
theorem Ur (x:QL):At (GH x) 2 (Bi x.d):=At.cons (At.cons (At.all))
theorem Da (x:B5):At (Bi x) 15 [I x.recs.params]:=(Lb x).sub (R8 _) (by simp[Kw])
theorem E5 (x:B5):At (Bi x) 16 (BP x.recs.type):=(Lb x).sub (Vu _) (by simp[Kw])
theorem Cj (x:B5):At (Bi x) 21 [.lst (BE x.recs.rules)]:=(Lb x).sub (Tn _) (by simp[Kw])
theorem _root_.Go.Ad {α:Prop}(h:α:=by simp[Cp]):α:=h
theorem Py (x:QL):At (GH x) 4 [I x.d.params]:=(Ur x).sub (Cn _) Ad
theorem Hu.body:∀{t:ES},Hu t→We t.body
 | .mk _ _ _ _,h=>h.1
theorem Hu.bl:∀{t:ES},Hu t→t.branches.length<2000000
 | .mk _ _ _ _,h=>h.2.1
theorem Hu.bs:∀{t:ES},Hu t→Nb t.branches
 | .mk _ _ _ _,h=>h.2.2
theorem Rz.tr:∀{b:GC},Rz b→Hu b.tree
 | .mk _ _ _,h=>h.2
theorem TF:∀{t:ES}{i:Nat}{b:GC},t.branches[i]?=some b→Ls b.tree<Ls t
 | .mk _ _ _ l,i,.mk c a t',h=>by
  have:=Un (l:=l) h;simp only[kC] at this;simp only[Ls,GC.tree];omega
theorem QI:∀t:ES,1≤Ls t
 | .mk _ _ _ _=>by simp only[Ls];omega
section
variable {f:Nat→Option (Nat×Nat)}{k a i p:Int}{t:Tm}
theorem fj (h1:f 1=some (1,1)) (h3:f 3=some (3,1)) (h4:f 4=some (4,5)):Fb f [.p (I 0),.p (I 0),.p (I 0),.p (I 0),.p (I 0),.p (I 0),.p (.str ⟨#[]⟩),.p .nils,.p .nils] [(1,.p (I a)),(3,.p (I p)),(4,TV t)]=some ((DS ⟨0,a,0,p,t⟩).map .p):=by
 obtain⟨tk,ti,tn,tl,ts⟩:=t;simp[Fb,h1,h3,h4,Ef,splice,BP,DS]
theorem ax (h0:f 0=some (0,1)) (h1:f 1=some (1,1)) (h3:f 3=some (3,1)) (h4:f 4=some (4,5)):Fb f [.p (I 0),.p (I 0),.p (I 0),.p (I 0),.p (I 0),.p (I 0),.p (.str ⟨#[]⟩),.p .nils,.p .nils] [(0,.p (I k)),(1,.p (I a)),(3,.p (I p)),(4,TV t)]=some ((DS ⟨k,a,0,p,t⟩).map .p):=by
 obtain⟨tk,ti,tn,tl,ts⟩:=t;simp[Fb,h0,h1,h3,h4,Ef,splice,BP,DS]
theorem Ot (h0:f 0=some (0,1)) (h1:f 1=some (1,1)) (h2:f 2=some (2,1)) (h3:f 3=some (3,1)) (h4:f 4=some (4,5)):Fb f [.p (I 0),.p (I 0),.p (I 0),.p (I 0),.p (I 0),.p (I 0),.p (.str ⟨#[]⟩),.p .nils,.p .nils] [(0,.p (I k)),(1,.p (I a)),(2,.p (I i)),(3,.p (I p)),(4,TV t)]=some ((DS ⟨k,a,i,p,t⟩).map .p):=by
 obtain⟨tk,ti,tn,tl,ts⟩:=t;simp[Fb,h0,h1,h2,h3,h4,Ef,splice,BP,DS]
theorem tW {c0:AV}{r:List AV}{ds:List B5}{d:B5}(h0:f 0=some (0,1)) (h2:f 2=some (2,23)) (hr:r.length=23):Fb f (c0:: .p .nils::r) [(0,.p (.lst (ds.map Bi))),(2,.agg ((Bi d).map .p))]=some (.p (.lst (ds.map Bi)):: .p .nils::(Bi d).map .p):=by
 simp[Fb,h0,h2,Ef,Cp,hr,PW,splice]
end
theorem ia (ds:List B5) (d:B5):norm (.agg (.p (.lst (ds.map Bi)):: .p .nils::(Bi d).map .p))= .agg ((GH ⟨ds,[],d⟩).map .p):=by
 have h:((Bi d).map AV.p).map dn=(Bi d).map .p:=by
  refine jW ?_;obtain⟨k,n,p,⟨_,_,_,_,_⟩,⟨_,_,_,_,_⟩,f,c,⟨_,⟨_,_,_,_,_⟩,_⟩,u⟩:=d;simp[Bi,BP,SY]
 show AV.agg (dn _::dn _::((Bi d).map AV.p).map dn)=_;rw[h];rfl
theorem gW {P:Program}{dst:Option Tmp}{ty:TypeId}{pos:String}{aft:Array Edge}{g:Option (Nat×Bool)}{ρ:Operand→AV}{H:List BK}{T:TypeId}{parts:Array (Nat×Operand)}{lay:List (Nat×Nat)}{z:Value}{ds:List B5}{d:B5}(hT:fieldsOf P T=some lay) (hz:zeroOf P T=some z)
  (hc:Fb (lay[·]?) (z.cells.toList.map GR) (parts.toList.map fun p=>(p.1,ρ p.2))=some (.p (.lst (ds.map Bi)):: .p .nils::(Bi d).map .p)):Dv P ⟨dst,.build T parts,ty,pos,aft,g⟩ ρ H (.agg ((GH ⟨ds,[],d⟩).map .p)) H:=by
 rw[←ia];exact fI (CO hT hz hc)
theorem eK {d:B5}(h:Ox d) {i:Nat}{x:ByteArray}(hx:(C4 d)[i]?=some x):x.size<DY:=by
 have hm:=List.mem_of_getElem? hx;have hr:=eP d.name;have hn:=h.nm;unfold C4 at hm;simp only[DY];split at hm
 ·simp at hm;subst hm;omega
 split at hm
 ·simp only[List.mem_append,List.mem_cons,List.mem_map,List.not_mem_nil,or_false] at hm;rcases hm with (rfl | ⟨c,hc,rfl⟩) | rfl
  ·omega
  ·have:=(h.cs c hc).nm;omega
  omega
 split at hm
 ·obtain⟨f,hf,rfl⟩:=List.mem_map.1 hm;have:=(h.fs f hf).nm;omega
 simp at hm
theorem ck {d:B5}(h:d.kind=3):1≤(C4 d).length:=by
 unfold C4;rw[if_neg An,if_pos h];simp
end Go.Eu
namespace Go.Eu
open Go.Abs Go.RowKit Go.ChangeShapes Go.ChangeAt Go.WideShapes
structure da (H:Type) where
 b:DataW H→Nat
 a:List (DataW H)→Nat
 str:∀s,b (.lit (.string s))=s.length+1
 slice:∀e s,b (.slice e s)=a e+a s+1
 agg:∀p,b (.agg p)=a p+1
 nil:a []=0
 cons:∀d r,a (d::r)=b d+a r
 pos:∀d,1≤b d
namespace da
variable {H:Type}(K:da H)
theorem mem {l:List (DataW H)}{i:Nat}{d:DataW H}(h:l[i]?=some d):K.b d≤K.a l:=by
 induction l generalizing i with
 | nil=>simp at h
 | cons x r ih =>
  rw[K.cons];cases i with
  | zero=>simp at h;subst h;omega
  | succ i=>have:=ih (by simpa using h);omega
theorem mem2 {l:List (DataW H)}{i:Nat}{d:DataW H}(h:l[i]?=some d):K.b d+l.length≤K.a l+1:=by
 have len:∀l:List (DataW H),l.length≤K.a l:=by
  intro l
  induction l with
  | nil=>simp
  | cons x r ih=>rw[K.cons];have:=K.pos x;simp only[List.length_cons];omega
 induction l generalizing i with
 | nil=>simp at h
 | cons x r ih =>
  rw[K.cons];simp only[List.length_cons];cases i with
  | zero=>simp at h;subst h;have:=len r;omega
  | succ i=>have:=ih (by simpa using h);have:=K.pos x;omega
theorem drop1 {l:List (DataW H)}{i:Nat}{d:DataW H}(h:l[i]?=some d):K.a (l.drop i)=K.b d+K.a (l.drop (i+1)):=by
 induction l generalizing i with
 | nil=>simp at h
 | cons x r ih =>
  cases i with
  | zero=>simp at h;subst h;simp[K.cons]
  | succ i=>simpa using ih (by simpa using h)
end da
def WH {α:Type}(M:α→Nat):List α→Nat
 | []=>0
 | a::l=>M a+WH M l
section
variable {H:Type}{enc:TypeId×Value→H}{P:Program}{w:World}{base:Nat}{sp:Nat→Bool}{hd:Bool}{n:Nat}(K:da H)
theorem Ff {α:Type}{e t C:Nat}(ut:P.underlying t=some (.slice e)) (hC:P.cellsOf e=C) (hC1:1≤C) (f:α→List PV) (Q:α→Prop) (M:α→Nat) {B:Nat}
  (he:∀m cs y,m<n→DataW.trod enc P w base sp hd m e cs=some y→K.b y.1≤B→∃a,CM w (f a) cs∧Q a∧M a≤K.b y.1) {cs:List Value} {y:DataW H×List MemPlace} (h:DataW.trod enc P w base sp hd n t cs=some y) (hB:K.b y.1≤B) :
  ∃l:List α,l.length≤K.b y.1∧WH M l+1≤K.b y.1∧(∀a∈l,Q a)∧∃v,cs=[v]∧CK F0 w (.lst (l.map f)) v:=by
 rcases DataW.trod_slice ut h with ⟨rfl,rfl⟩ | ⟨a,len,cap,elems,rest,m,rfl,rfl,rfl,hb,hl,hc,hel,hget,_,_⟩
 ·exact⟨[],by simp,by have:=K.pos DataW.nil;simpa [WH] using this,fun a ha=>by simp at ha,_,rfl,by simp only[CK];exact .inl ⟨rfl,none,0,rfl⟩⟩
 rw[hC] at hget;simp only[K.slice] at hB ⊢;have hml:maxLen<wide:=by decide
 rcases Nat.eq_zero_or_pos len with h0 | h0
 ·subst h0;exact⟨[],by simp,by simp[WH],fun a ha=>by simp at ha,_,rfl,by simp only[CK];exact .inl ⟨rfl,some a,cap,rfl⟩⟩
 have hone:∀i,i<len→∃ci y,w.cells? base (a.add (i*C)) C=some ci∧DataW.trod enc P w base sp hd m e ci=some y∧(elems.map (·.1))[i]?=some y.1:=fun i hi=>by
  have:=hget i hi;rw[List.getElem?_eq_getElem An] at this;obtain⟨ci,h1,h2⟩:=Option.bind_eq_some_iff.1 this;exact⟨ci,_,h1,h2,by simp[List.getElem?_eq_getElem (show i<elems.length by omega)]⟩
 obtain⟨c0,y0,hc0,_⟩:=hone 0 h0;obtain⟨hl0,hg0⟩:=NC hc0;have hcell:∃v,w.cell? a=some v:=by
  have:=hg0 0 An;rw[Nat.zero_mul,Addr.add,if_pos rfl,Addr.add,if_pos rfl] at this;rw[List.getElem?_eq_getElem An] at this;exact⟨_,this⟩
 obtain⟨v0,hv0⟩:=hcell;obtain⟨blk,off,spot⟩:=a;have hspot:spot=none:=by
  unfold World.cell? at hv0;simp only at hv0;split at hv0
  ·cases spot with
   | none=>rfl
   | some s=>simp at hv0
  cases hv0
 subst hspot;have hblk:blk<w.heap.size:=by
  unfold World.cell? at hv0;simp only at hv0;split at hv0
  ·rename_i hh;exact(Array.getElem?_eq_some_iff.1 hh).1
  cases hv0
 have hadd:∀k,(⟨blk,off,none⟩:Addr).add k=⟨blk,off+k,none⟩:=fun k=>by
  unfold Addr.add;split
  ·rename_i e;subst e;rfl
  rfl
 have hadd2:∀o k,(⟨blk,o,none⟩:Addr).add k=⟨blk,o+k,none⟩:=fun o k=>by
  unfold Addr.add;split
  ·rename_i e;subst e;rfl
  rfl
 have hrows:∀k,k≤len→∃l:List α,l.length=k∧k≤K.a ((elems.map (·.1)).drop (len - k))∧WH M l≤K.a ((elems.map (·.1)).drop (len - k))∧(∀x∈l,Q x)∧B3 F0 w blk C (off+(len - k)*C) (l.map f):=by
  intro k
  induction k with
  | zero=>exact fun _=>⟨[],rfl,by omega,by simp[WH],fun a ha=>by simp at ha,by simp[B3]⟩
  | succ k ih =>
   intro hk;obtain⟨l,h1,h5,h6,h2,h3⟩:=ih An;obtain⟨ci,y,hci,ht,hy⟩:=hone (len - (k+1)) An;obtain⟨g1,g2⟩:=NC hci;have hd1:=K.drop1 hy;rw[show len - (k+1)+1=len - k by omega] at hd1;obtain⟨x,hx,hq,hM⟩:=he m ci y An ht (by have:=K.mem hy;omega);have hp:=K.pos y.1;refine⟨x::l,by simp[h1],by omega,by rw[WH];omega,fun z hz=>?_,?_⟩
   ·rcases List.mem_cons.1 hz with rfl | hz
    ·exact hq
    exact h2 z hz
   refine⟨by rw[hx.length,g1],Pa _ ci _ hx fun j hj=>?_,?_⟩
   ·have:=g2 j An;rw[hadd,hadd2] at this;exact this
   rw[show off+(len - (k+1))*C+C=off+(len - k)*C by rw[Nat.add_assoc,←Nat.succ_mul];congr 2;omega];exact h3
 obtain⟨l,h1,h5,h6,h2,h3⟩:=hrows len (Nat.le_refl _);rw[Nat.sub_self,List.drop_zero] at h5 h6;rw[Nat.sub_self,Nat.zero_mul,Nat.add_zero] at h3;refine⟨l,by omega,by omega,h2,_,rfl,?_⟩;simp only[CK];exact .inr ⟨blk,off,cap,C,by rw[List.length_map,h1],fun h=>h,hblk,by rw[List.length_map];omega,h3⟩
theorem Il {t:TypeId}{l:List (Nat×Nat)}(hf:Oe P t=some l) {cs:List Value}{y:DataW H×List MemPlace}(h:DataW.trod enc P w base sp hd n t cs=some y) :
  ∃m,n=m+1∧cs.length=P.cellsOf t∧∀(i:Nat) (p:Nat×Nat),l[i]?=some p→∃z,DataW.trod enc P w base sp hd m p.1 ((cs.drop p.2).take (P.cellsOf p.1))=some z∧K.b z.1+l.length≤K.b y.1:=by
 unfold Oe at hf;split at hf
 ·rename_i fs hu;injection hf with hf;subst hf;obtain⟨xs,m,h1,rfl,h2,h3,h4⟩:=DataW.trod_struct hu h;refine⟨m,h1,h2,fun i p hp=>?_⟩;rw[List.getElem?_map] at hp;obtain⟨fl,hfl,rfl⟩:=Option.map_eq_some_iff.1 hp;have hi:fs[i]?=some fl:=by simpa using hfl
  have:=h4 i fl hi;have hlt:i<xs.length:=by rw[h3];exact(Array.getElem?_eq_some_iff.1 hi).1
  rw[List.getElem?_eq_getElem hlt] at this;refine⟨_,this,?_⟩;rw[K.agg];have:=K.mem2 (l:=xs.map (·.1)) (i:=i) (d:=xs[i].1) (by simp[List.getElem?_eq_getElem hlt]);simp only[List.length_map,Array.length_toList] at this ⊢;omega
 cases hf
theorem CM.cut {a b:List PV}{cs:List Value}{o k:Nat}(h:CM w a ((cs.drop o).take k)) (h':CM w b (cs.drop (o+k))):CM w (a++b) (cs.drop o):=by
 rw[←List.take_append_drop k (cs.drop o),List.drop_drop];exact CM.append h h'
theorem CM.end {cs:List Value}{k:Nat}(h:cs.length=k):CM w [] (cs.drop k):=by
 rw[List.drop_eq_nil_of_le An];rfl
end
end Go.Eu
namespace Go.Eu
open Go.Abs Go.RowKit Go.ChangeShapes Go.ChangeAt Go.WideShapes
theorem Qc:∀l:List Tm,WH (fun t=>5*size t) l=5*BX l
 | []=>rfl
 | t::l=>by rw[WH,BX,Qc l];omega
structure V3 (P:Program) (tI tB tS tT tTs tC tCs tR tTr tBr tBrs tF tFs tD tDs:TypeId):Prop where
 uB:P.underlying tB=some .bool
 uCs:P.underlying tCs=some (.slice tC)
 uBrs:P.underlying tBrs=some (.slice tBr)
 uFs:P.underlying tFs=some (.slice tF)
 uDs:P.underlying tDs=some (.slice tD)
 fC:Oe P tC=some [(tS,0),(tT,1)]
 fR:Oe P tR=some [(tI,0),(tT,1),(tTs,6)]
 fTr:Oe P tTr=some [(tI,0),(tT,1),(tI,6),(tBrs,7)]
 fBr:Oe P tBr=some [(tS,0),(tB,1),(tTr,2)]
 fF:Oe P tF=some [(tS,0),(tT,1),(tI,6),(tTr,7)]
 fD:Oe P tD=some [(tI,0),(tS,1),(tI,2),(tT,3),(tT,8),(tI,13),(tCs,14),(tR,15),(tFs,22)]
 cB:P.cellsOf tB=1
 cCs:P.cellsOf tCs=1
 cBrs:P.cellsOf tBrs=1
 cFs:P.cellsOf tFs=1
 cDs:P.cellsOf tDs=1
 cC:P.cellsOf tC=6
 cR:P.cellsOf tR=7
 cTr:P.cellsOf tTr=8
 cBr:P.cellsOf tBr=10
 cF:P.cellsOf tF=15
 cD:P.cellsOf tD=23
section
variable {H:Type}{enc:TypeId×Value→H}{P:Program}{w:World}{base:Nat}{sp:Nat→Bool}{hd:Bool}{tI tB tS tV tVs tL tLs tT tTs tC tCs tR tTr tBr tBrs tF tFs tD tDs:TypeId}(K:da H)
theorem Gw (E:G8 P tI tS tV tVs tL tLs tT tTs) {n:Nat}{cs:List Value}{y:DataW H×List MemPlace}(h:DataW.trod enc P w base sp hd n tI cs=some y):∃a:Int,CM w [I a] cs∧JE a:=by
 obtain⟨a,rfl,_,fa⟩:=DataW.trod_int E.uI h;exact⟨a,CM.one (by simp[CK]),Pm fa⟩
theorem MM (E:G8 P tI tS tV tVs tL tLs tT tTs) {n:Nat}{cs:List Value}{y:DataW H×List MemPlace}(h:DataW.trod enc P w base sp hd n tS cs=some y):∃s:ByteArray,CM w [.str s] cs∧s.size+1≤K.b y.1:=by
 obtain⟨s,rfl,rfl,_⟩:=DataW.trod_string E.uS h;refine⟨s,CM.one (by simp[CK]),?_⟩;rw[K.str];exact Nat.le_refl _
theorem ei (D:V3 P tI tB tS tT tTs tC tCs tR tTr tBr tBrs tF tFs tD tDs) {n:Nat}{cs:List Value}{y:DataW H×List MemPlace}(h:DataW.trod enc P w base sp hd n tB cs=some y):∃b:Bool,CM w [.bool b] cs:=by
 obtain⟨b,rfl,_⟩:=DataW.trod_bool D.uB h;exact⟨b,CM.one (by simp[CK])⟩
theorem kZ (E:G8 P tI tS tV tVs tL tLs tT tTs) {n:Nat}{cs:List Value}{y:DataW H×List MemPlace}(h:DataW.trod enc P w base sp hd n tL cs=some y) (hB:K.b y.1≤1048576):∃v:CS,CM w (By v) cs∧Nj v:=by
 obtain⟨m,rfl,hl,hg⟩:=Il K E.fL h;rw[E.cL] at hl;obtain⟨z0,h0,b0⟩:=hg 0 _ rfl;obtain⟨z1,h1,b1⟩:=hg 1 _ rfl;simp only[E.cI,E.cVs] at h0 h1;obtain⟨a,ha,ra⟩:=Gw E h0;obtain⟨l,g1,_,g2,v,hv,g3⟩:=Ff K E.uVs E.cV Am Dt (fun v=>JE v.index∧JE v.plus) (fun _=>1) (B:=1048576) (fun m cs y _ h _=>by obtain⟨v,q1,q2⟩:=fq E h;exact⟨v,q1,q2,K.pos _⟩) h1 An;refine⟨⟨a,l⟩,?_,⟨by simp only[DY];omega,ra,g2⟩⟩;have:=CM.cut (o:=0) ha (CM.cut (o:=1) (a:=[.lst (l.map Dt)]) (k:=1) (by rw[hv];exact CM.one g3) (CM.end hl));simpa [By] using this
theorem kf (E:G8 P tI tS tV tVs tL tLs tT tTs):∀(n:Nat) (cs:List Value) (y:DataW H×List MemPlace),DataW.trod enc P w base sp hd n tT cs=some y→K.b y.1≤1048576→∃t:Tm,CM w (BP t) cs∧Nd t∧5*size t≤K.b y.1:=by
 intro n
 induction n using Nat.strongRecOn with
 | ind n ih =>
  intro cs y h hB;obtain⟨m,rfl,hl,hg⟩:=Il K E.fT h;rw[E.cT] at hl;obtain⟨z0,h0,b0⟩:=hg 0 _ rfl;obtain⟨z1,h1,b1⟩:=hg 1 _ rfl;obtain⟨z2,h2,b2⟩:=hg 2 _ rfl;obtain⟨z3,h3,b3⟩:=hg 3 _ rfl;obtain⟨z4,h4,b4⟩:=hg 4 _ rfl;simp only[E.cI,E.cS,E.cLs,E.cTs] at h0 h1 h2 h3 h4;obtain⟨a,ha,ra⟩:=Gw E h0;obtain⟨b,hb,rb⟩:=Gw E h1;obtain⟨s,hs,ws⟩:=MM K E h2;obtain⟨l,g1,_,g2,v,hv,g3⟩:=Ff K E.uLs E.cL Am By Nj (fun _=>1) (B:=1048576) (fun m cs y _ h hB=>by obtain⟨v,q1,q2⟩:=kZ K E h hB;exact⟨v,q1,q2,K.pos _⟩) h3 An;obtain⟨ks,k1,k4,k2,u,hu,k3⟩:=Ff K E.uTs E.cT Am BP Nd (fun t=>5*size t) (B:=1048576) (fun m' cs y hm h hB=>ih m' An cs y h hB) h4 An;refine⟨.mk a b s l ks,?_,⟨by simp only[DY];omega,by simp only[DY];omega,g2,by simp only[DY];omega,Zm k2,ra,rb⟩,by rw[Qc] at k4;simp only[List.length_cons,List.length_nil] at b4;simp only[size];omega⟩;have:=CM.cut (o:=0) ha (CM.cut (o:=1) hb (CM.cut (o:=2) hs (CM.cut (o:=3) (a:=[.lst (l.map By)]) (k:=1) (by rw[hv];exact CM.one g3) (CM.cut (o:=4) (a:=[.lst (BE ks)]) (k:=1) (by rw[hu,EL];exact CM.one k3) (CM.end hl)))));simpa [BP] using this
theorem JY (E:G8 P tI tS tV tVs tL tLs tT tTs) {n:Nat}{cs:List Value}{y:DataW H×List MemPlace}(h:DataW.trod enc P w base sp hd n tT cs=some y) (hB:K.b y.1≤1048576):∃t:Tm,CM w (BP t) cs∧We t:=by
 obtain⟨t,h1,h2,h3⟩:=kf K E n cs y h hB;exact⟨t,h1,h2,by omega⟩
theorem iy (E:G8 P tI tS tV tVs tL tLs tT tTs) {n:Nat}{cs:List Value}{y:DataW H×List MemPlace}(h:DataW.trod enc P w base sp hd n tTs cs=some y) (hB:K.b y.1≤1048576):∃l:List Tm,l.length<2000000∧(∀t∈l,We t)∧CM w [.lst (BE l)] cs:=by
 obtain⟨l,g1,_,g2,v,rfl,g3⟩:=Ff K E.uTs E.cT Am BP We (fun _=>1) (B:=1048576) (fun m cs y _ h hB=>by obtain⟨v,q1,q2⟩:=JY K E h hB;exact⟨v,q1,q2,K.pos _⟩) h hB;exact⟨l,by omega,g2,CM.one (by rw[EL];exact g3)⟩
variable (D:V3 P tI tB tS tT tTs tC tCs tR tTr tBr tBrs tF tFs tD tDs) (E:G8 P tI tS tV tVs tL tLs tT tTs)
include D E
theorem mw {n:Nat}{cs:List Value}{y:DataW H×List MemPlace}(h:DataW.trod enc P w base sp hd n tC cs=some y) (hB:K.b y.1≤1048576):∃c:IS,CM w (G1 c) cs∧iP c:=by
 obtain⟨m,rfl,hl,hg⟩:=Il K D.fC h;rw[D.cC] at hl;obtain⟨z0,h0,b0⟩:=hg 0 _ rfl;obtain⟨z1,h1,b1⟩:=hg 1 _ rfl;simp only[E.cS,E.cT] at h0 h1;obtain⟨s,hs,ws⟩:=MM K E h0;obtain⟨t,ht,wt⟩:=JY K E h1 An;refine⟨⟨s,t⟩,?_,⟨by simp only;omega,wt⟩⟩;have:=CM.cut (o:=0) hs (CM.cut (o:=1) ht (CM.end hl));simpa [G1] using this
theorem kS {n:Nat}{cs:List Value}{y:DataW H×List MemPlace}(h:DataW.trod enc P w base sp hd n tR cs=some y) (hB:K.b y.1≤1048576):∃r:kF,CM w (SY r) cs∧We r.type∧r.rules.length<2000000∧∀t∈r.rules,We t:=by
 obtain⟨m,rfl,hl,hg⟩:=Il K D.fR h;rw[D.cR] at hl;obtain⟨z0,h0,b0⟩:=hg 0 _ rfl;obtain⟨z1,h1,b1⟩:=hg 1 _ rfl;obtain⟨z2,h2,b2⟩:=hg 2 _ rfl;simp only[E.cI,E.cT,E.cTs] at h0 h1 h2;obtain⟨a,ha,_⟩:=Gw E h0;obtain⟨t,ht,wt⟩:=JY K E h1 An;obtain⟨l,l1,l2,l3⟩:=iy K E h2 An;refine⟨⟨a,t,l⟩,?_,wt,l1,l2⟩;have:=CM.cut (o:=0) ha (CM.cut (o:=1) ht (CM.cut (o:=6) l3 (CM.end hl)));simpa [SY] using this
theorem j4:∀(n:Nat) (cs:List Value) (y:DataW H×List MemPlace),DataW.trod enc P w base sp hd n tTr cs=some y→K.b y.1≤1048576→∃t:ES,CM w (Cz t) cs∧Hu t:=by
 intro n
 induction n using Nat.strongRecOn with
 | ind n ih =>
  intro cs y h hB;obtain⟨m,rfl,hl,hg⟩:=Il K D.fTr h;rw[D.cTr] at hl;obtain⟨z0,h0,b0⟩:=hg 0 _ rfl;obtain⟨z1,h1,b1⟩:=hg 1 _ rfl;obtain⟨z2,h2,b2⟩:=hg 2 _ rfl;obtain⟨z3,h3,b3⟩:=hg 3 _ rfl;simp only[E.cI,E.cT,D.cBrs] at h0 h1 h2 h3;obtain⟨a,ha,_⟩:=Gw E h0;obtain⟨t,ht,wt⟩:=JY K E h1 An;obtain⟨b,hb,_⟩:=Gw E h2;obtain⟨l,g1,_,g2,v,hv,g3⟩:=Ff K D.uBrs D.cBr Am Gy Rz (fun _=>1) (B:=1048576) (fun m' cs y hm h hB=>by
   obtain⟨m2,rfl,hl,hg⟩:=Il K D.fBr h;rw[D.cBr] at hl;obtain⟨z0,h0,b0⟩:=hg 0 _ rfl;obtain⟨z1,h1,b1⟩:=hg 1 _ rfl;obtain⟨z2,h2,b2⟩:=hg 2 _ rfl;simp only[E.cS,D.cB,D.cTr] at h0 h1 h2;obtain⟨s,hs,ws⟩:=MM K E h0;obtain⟨b,hb⟩:=ei D h1;obtain⟨r,hr,wr⟩:=ih m2 An _ _ h2 An;refine⟨.mk s b r,?_,⟨by omega,wr⟩,K.pos _⟩;have:=CM.cut (o:=0) hs (CM.cut (o:=1) hb (CM.cut (o:=2) hr (CM.end hl)));simpa [Gy] using this) h3 An
  have hbs:∀{l:List GC},(∀b∈l,Rz b)→Nb l:=by
   intro l
   induction l with
   | nil=>exact fun _=>trivial
   | cons b l ih2=>exact fun h=>⟨h b Ao,ih2 fun c hc=>h c (by simp[hc])⟩
  refine⟨.mk a t b l,?_,⟨wt,by omega,hbs g2⟩⟩;have:=CM.cut (o:=0) ha (CM.cut (o:=1) ht (CM.cut (o:=6) hb (CM.cut (o:=7) (a:=[.lst (Lr l)]) (k:=1) (by rw[hv,Mq];exact CM.one g3) (CM.end hl))));simpa [Cz] using this
theorem mK {n:Nat}{cs:List Value}{y:DataW H×List MemPlace}(h:DataW.trod enc P w base sp hd n tF cs=some y) (hB:K.b y.1≤1048576):∃f:Hp,CM w (FH f) cs∧gd f:=by
 obtain⟨m,rfl,hl,hg⟩:=Il K D.fF h;rw[D.cF] at hl;obtain⟨z0,h0,b0⟩:=hg 0 _ rfl;obtain⟨z1,h1,b1⟩:=hg 1 _ rfl;obtain⟨z2,h2,b2⟩:=hg 2 _ rfl;obtain⟨z3,h3,b3⟩:=hg 3 _ rfl;simp only[E.cS,E.cT,E.cI,D.cTr] at h0 h1 h2 h3;obtain⟨s,hs,ws⟩:=MM K E h0;obtain⟨t,ht,wt⟩:=JY K E h1 An;obtain⟨a,ha,_⟩:=Gw E h2;obtain⟨r,hr,wr⟩:=j4 K D E _ _ _ h3 An;refine⟨⟨s,t,a,r⟩,?_,⟨by simp only;omega,wt,wr⟩⟩;have:=CM.cut (o:=0) hs (CM.cut (o:=1) ht (CM.cut (o:=6) ha (CM.cut (o:=7) hr (CM.end hl))));simpa [FH] using this
theorem mP {n:Nat}{cs:List Value}{y:DataW H×List MemPlace}(h:DataW.trod enc P w base sp hd n tD cs=some y) (hB:K.b y.1≤1048576):∃d:B5,CM w (Bi d) cs∧Ox d:=by
 obtain⟨m,rfl,hl,hg⟩:=Il K D.fD h;rw[D.cD] at hl;obtain⟨z0,h0,b0⟩:=hg 0 _ rfl;obtain⟨z1,h1,b1⟩:=hg 1 _ rfl;obtain⟨z2,h2,b2⟩:=hg 2 _ rfl;obtain⟨z3,h3,b3⟩:=hg 3 _ rfl;obtain⟨z4,h4,b4⟩:=hg 4 _ rfl;obtain⟨z5,h5,b5⟩:=hg 5 _ rfl;obtain⟨z6,h6,b6⟩:=hg 6 _ rfl;obtain⟨z7,h7,b7⟩:=hg 7 _ rfl;obtain⟨z8,h8,b8⟩:=hg 8 _ rfl;simp only[E.cS,E.cT,E.cI,D.cCs,D.cR,D.cFs] at h0 h1 h2 h3 h4 h5 h6 h7 h8;obtain⟨a,ha,_⟩:=Gw E h0;obtain⟨s,hs,ws⟩:=MM K E h1;obtain⟨p,hp,_⟩:=Gw E h2;obtain⟨t,ht,wt⟩:=JY K E h3 An;obtain⟨u,hu,wu⟩:=JY K E h4 An;obtain⟨f,hf,_⟩:=Gw E h5;obtain⟨cl,c1,_,c2,cv,hcv,c3⟩:=Ff K D.uCs D.cC Am G1 iP (fun _=>1) (B:=1048576) (fun m cs y _ h hB=>by obtain⟨v,q1,q2⟩:=mw K D E h hB;exact⟨v,q1,q2,K.pos _⟩) h6 An;obtain⟨r,hr,r1,r2,r3⟩:=kS K D E h7 An;obtain⟨fl,f1,_,f2,fv,hfv,f3⟩:=Ff K D.uFs D.cF Am FH gd (fun _=>1) (B:=1048576) (fun m cs y _ h hB=>by obtain⟨v,q1,q2⟩:=mK K D E h hB;exact⟨v,q1,q2,K.pos _⟩) h8 An;refine⟨⟨a,s,p,t,u,f,cl,r,fl⟩,?_,⟨by simp only;omega,wt,wu,by simp only;omega,c2,r1,r2,r3,by simp only;omega,f2⟩⟩;have:=CM.cut (o:=0) ha (CM.cut (o:=1) hs (CM.cut (o:=2) hp (CM.cut (o:=3) ht (CM.cut (o:=8) hu (CM.cut (o:=13) hf (CM.cut (o:=14) (a:=[.lst (cl.map G1)]) (k:=1) (by rw[hcv];exact CM.one c3) (CM.cut (o:=15) hr (CM.cut (o:=22) (a:=[.lst (fl.map FH)]) (k:=1) (by rw[hfv];exact CM.one f3) (CM.end hl)))))))));simpa [Bi] using this
theorem pQ {b2:Nat}{r:Reach}{v:Value}{d:DataW H}{ps:List MemPlace}(hk:Value.okWide P w r b2 tDs v) (h:DataW.Trod enc P w base sp hd tDs v d ps) (hB:K.b d≤1048576):∃l:List B5,Hg l∧CN F0 w (.p (.lst (l.map Bi))) v:=by
 obtain⟨n,h⟩:=h;obtain⟨l,g1,_,g2,u,hu,g3⟩:=Ff K D.uDs D.cD Am Bi Ox (fun _=>1) (B:=1048576) (fun m cs y _ h hB=>by obtain⟨v,q1,q2⟩:=mP K D E h hB;exact⟨v,q1,q2,K.pos _⟩) h hB;have:=dx D.uDs hk hu;subst this;have g1':l.length≤K.b d:=g1;exact⟨l,⟨by omega,g2⟩,by simp only[CN];exact g3⟩
end
end Go.Eu
namespace Go.Proofs.YtboammbpdaoojaaGreat
open Go.Eu Go.Lib Go.ChangeShapes Go.WideShapes Go.ChangeAt Go.RowKit
theorem own:ownKnob Tryz.prog.godebug=none:=by kernel_rfl
theorem laidOut:laidOutB Tryz.prog=true:=by kernel_rfl
theorem wm:G8 Tryz.prog 3 9 162 113 115 23 26 24:=⟨by kernel_rfl,by kernel_rfl,by kernel_rfl,by kernel_rfl,by kernel_rfl,by kernel_rfl,by kernel_rfl,by kernel_rfl,by kernel_rfl,by kernel_rfl,by kernel_rfl,by kernel_rfl,by kernel_rfl,by kernel_rfl,by kernel_rfl,by kernel_rfl⟩
theorem xD:V3 Tryz.prog 3 4 9 26 24 117 62 64 69 120 67 71 61 66 22:=⟨by kernel_rfl,by kernel_rfl,by kernel_rfl,by kernel_rfl,by kernel_rfl,by kernel_rfl,by kernel_rfl,by kernel_rfl,by kernel_rfl,by kernel_rfl,by kernel_rfl,by kernel_rfl,by kernel_rfl,by kernel_rfl,by kernel_rfl,by kernel_rfl,by kernel_rfl,by kernel_rfl,by kernel_rfl,by kernel_rfl,by kernel_rfl,by kernel_rfl⟩
noncomputable def blk (H:Type):da H where
 b:=Rows.uptoBulk
 a:=Rows.uptoBulkAll
 str:=fun s=>by simp[Rows.uptoBulk]
 slice:=fun e s=>by simp[Rows.uptoBulk]
 agg:=fun p=>by simp[Rows.uptoBulk]
 nil:=by simp[Rows.uptoBulkAll]
 cons:=fun d r=>by simp[Rows.uptoBulkAll]
 pos:=fun d=>by
  cases d with
  | lit l=>cases l<;>simp[Rows.uptoBulk]
  | _=>simp[Rows.uptoBulk]
theorem lR {H:Type}{ds:List (DataW H)}(h:Rows.uptoSmall H ds=true) {i:Nat}{d:DataW H}(hd:ds[i]?=some d):(blk H).b d≤1048576:=by
 have h1:=(blk H).mem hd;have h2:(blk H).a ds≤1048576:=of_decide_eq_true h;omega
noncomputable def M6 (os:Os):World:=World.holding Tryz.prog os ⟨#[],#[],[]⟩
theorem _root_.Go.Aj {α:Prop}(h:α:=by kernel_rfl):α:=h
theorem gN (os:Os) (args:Array Value):laidMet Tryz.prog [] ((M6 os).forCall (fun _ _=>0) ⟨#[],args,[]⟩).memory :=
 (LaidIn.of_run [] 8 Aj Aj Aj Aj:LaidIn Tryz.prog ((M6 os).forCall (fun _ _=>0) ⟨#[],args,[]⟩).memory [] []).met
end Go.Proofs.YtboammbpdaoojaaGreat
namespace Go.Proofs.YtboammbpdaoojaaGreat
open Go.Abs
theorem IF:F5 Tryz.prog 22=some (66,23,360):=by kernel_rfl
theorem EV:F5 Tryz.prog 23=some (115,2,32):=by kernel_rfl
theorem Bf:F5 Tryz.prog 24=some (26,5,80):=by kernel_rfl
theorem HV:F5 Tryz.prog 61=some (71,15,224):=by kernel_rfl
theorem Hc:F5 Tryz.prog 62=some (117,6,96):=by kernel_rfl
theorem Jt:F5 Tryz.prog 67=some (120,10,144):=by kernel_rfl
theorem Gq:F5 Tryz.prog 104=some (9,1,16):=by kernel_rfl
theorem CY:F5 Tryz.prog 113=some (162,2,16):=by kernel_rfl
theorem Hr:F5 Tryz.prog 137=some (3,1,8):=by kernel_rfl
theorem Sf:F5 Tryz.prog 190=some (192,2,32):=by kernel_rfl
theorem xF:BL Tryz.prog 8=true:=by kernel_rfl
theorem wD:BL Tryz.prog 10=true:=by kernel_rfl
theorem vB:BL Tryz.prog 11=true:=by kernel_rfl
theorem uf:BL Tryz.prog 12=true:=by kernel_rfl
theorem wQ:BL Tryz.prog 13=true:=by kernel_rfl
theorem vn:BL Tryz.prog 14=true:=by kernel_rfl
theorem vo:BL Tryz.prog 15=true:=by kernel_rfl
theorem uq:BL Tryz.prog 16=true:=by kernel_rfl
theorem uk:BL Tryz.prog 18=true:=by kernel_rfl
theorem u4:BL Tryz.prog 20=true:=by kernel_rfl
theorem uv:BL Tryz.prog 21=true:=by kernel_rfl
theorem wB:BL Tryz.prog 22=true:=by kernel_rfl
theorem vt:BL Tryz.prog 23=true:=by kernel_rfl
theorem wH:BL Tryz.prog 24=true:=by kernel_rfl
theorem vA:BL Tryz.prog 26=true:=by kernel_rfl
theorem uT:BL Tryz.prog 29=true:=by kernel_rfl
theorem uW:BL Tryz.prog 30=true:=by kernel_rfl
theorem u0:BL Tryz.prog 31=true:=by kernel_rfl
theorem vZ:BL Tryz.prog 32=true:=by kernel_rfl
theorem vG:BL Tryz.prog 33=true:=by kernel_rfl
theorem vO:BL Tryz.prog 34=true:=by kernel_rfl
theorem wU:BL Tryz.prog 35=true:=by kernel_rfl
theorem wI:BL Tryz.prog 36=true:=by kernel_rfl
theorem s6:BL Tryz.prog 37=true:=by kernel_rfl
theorem uy:BL Tryz.prog 38=true:=by kernel_rfl
theorem vh:BL Tryz.prog 39=true:=by kernel_rfl
theorem vY:BL Tryz.prog 40=true:=by kernel_rfl
theorem vw:BL Tryz.prog 41=true:=by kernel_rfl
theorem vm:BL Tryz.prog 42=true:=by kernel_rfl
theorem vq:BL Tryz.prog 43=true:=by kernel_rfl
theorem wC:BL Tryz.prog 44=true:=by kernel_rfl
theorem uZ:BL Tryz.prog 45=true:=by kernel_rfl
theorem vg:BL Tryz.prog 46=true:=by kernel_rfl
theorem wJ:BL Tryz.prog 47=true:=by kernel_rfl
theorem vz:BL Tryz.prog 48=true:=by kernel_rfl
theorem vH:BL Tryz.prog 49=true:=by kernel_rfl
theorem vX:BL Tryz.prog 50=true:=by kernel_rfl
theorem wM:BL Tryz.prog 52=true:=by kernel_rfl
theorem vK:BL Tryz.prog 53=true:=by kernel_rfl
theorem wA:BL Tryz.prog 54=true:=by kernel_rfl
theorem vP:BL Tryz.prog 55=true:=by kernel_rfl
theorem wP:BL Tryz.prog 56=true:=by kernel_rfl
theorem vN:BL Tryz.prog 57=true:=by kernel_rfl
theorem ur:BL Tryz.prog 58=true:=by kernel_rfl
theorem vC:BL Tryz.prog 59=true:=by kernel_rfl
theorem vr:BL Tryz.prog 61=true:=by kernel_rfl
theorem um:BL Tryz.prog 62=true:=by kernel_rfl
theorem uc:BL Tryz.prog 63=true:=by kernel_rfl
theorem wR:BL Tryz.prog 64=true:=by kernel_rfl
theorem uu:BL Tryz.prog 65=true:=by kernel_rfl
theorem vE:BL Tryz.prog 66=true:=by kernel_rfl
theorem vk:BL Tryz.prog 67=true:=by kernel_rfl
theorem uY:BL Tryz.prog 68=true:=by kernel_rfl
theorem ve:BL Tryz.prog 69=true:=by kernel_rfl
theorem vi:BL Tryz.prog 70=true:=by kernel_rfl
theorem qZ:BL Tryz.prog 71=true:=by kernel_rfl
theorem vJ:BL Tryz.prog 72=true:=by kernel_rfl
theorem uX:BL Tryz.prog 73=true:=by kernel_rfl
theorem wK:BL Tryz.prog 74=true:=by kernel_rfl
theorem vM:BL Tryz.prog 75=true:=by kernel_rfl
theorem vf:BL Tryz.prog 76=true:=by kernel_rfl
theorem rQ:BL Tryz.prog 77=true:=by kernel_rfl
theorem vF:BL Tryz.prog 78=true:=by kernel_rfl
theorem ui:BL Tryz.prog 79=true:=by kernel_rfl
theorem u5:BL Tryz.prog 80=true:=by kernel_rfl
theorem uo:BL Tryz.prog 81=true:=by kernel_rfl
theorem v8:BL Tryz.prog 82=true:=by kernel_rfl
theorem vQ:BL Tryz.prog 83=true:=by kernel_rfl
theorem vU:BL Tryz.prog 84=true:=by kernel_rfl
theorem vc:BL Tryz.prog 85=true:=by kernel_rfl
theorem wE:BL Tryz.prog 87=true:=by kernel_rfl
theorem wG:BL Tryz.prog 89=true:=by kernel_rfl
theorem vL:BL Tryz.prog 90=true:=by kernel_rfl
theorem wN:BL Tryz.prog 91=true:=by kernel_rfl
theorem ue:BL Tryz.prog 92=true:=by kernel_rfl
theorem rE:BL Tryz.prog 93=true:=by kernel_rfl
theorem vb:BL Tryz.prog 94=true:=by kernel_rfl
theorem wL:BL Tryz.prog 95=true:=by kernel_rfl
theorem vV:BL Tryz.prog 96=true:=by kernel_rfl
theorem vD:BL Tryz.prog 97=true:=by kernel_rfl
theorem wO:BL Tryz.prog 98=true:=by kernel_rfl
theorem tz:BL Tryz.prog 99=true:=by kernel_rfl
theorem qp:BL Tryz.prog 100=true:=by kernel_rfl
theorem rM:BL Tryz.prog 101=true:=by kernel_rfl
theorem tm:BL Tryz.prog 102=true:=by kernel_rfl
theorem tN:BL Tryz.prog 103=true:=by kernel_rfl
theorem qI:BL Tryz.prog 104=true:=by kernel_rfl
theorem rD:BL Tryz.prog 105=true:=by kernel_rfl
theorem sJ:BL Tryz.prog 106=true:=by kernel_rfl
theorem sH:BL Tryz.prog 107=true:=by kernel_rfl
theorem qc:BL Tryz.prog 108=true:=by kernel_rfl
theorem sI:BL Tryz.prog 109=true:=by kernel_rfl
theorem tj:BL Tryz.prog 110=true:=by kernel_rfl
theorem qU:BL Tryz.prog 111=true:=by kernel_rfl
theorem qR:BL Tryz.prog 112=true:=by kernel_rfl
theorem sM:BL Tryz.prog 113=true:=by kernel_rfl
theorem sC:BL Tryz.prog 114=true:=by kernel_rfl
theorem rK:BL Tryz.prog 115=true:=by kernel_rfl
theorem tE:BL Tryz.prog 116=true:=by kernel_rfl
theorem r5:BL Tryz.prog 117=true:=by kernel_rfl
theorem rR:BL Tryz.prog 118=true:=by kernel_rfl
theorem tZ:BL Tryz.prog 120=true:=by kernel_rfl
theorem s8:BL Tryz.prog 121=true:=by kernel_rfl
theorem rU:BL Tryz.prog 122=true:=by kernel_rfl
theorem rO:BL Tryz.prog 123=true:=by kernel_rfl
theorem su:BL Tryz.prog 124=true:=by kernel_rfl
theorem sw:BL Tryz.prog 125=true:=by kernel_rfl
theorem sW:BL Tryz.prog 126=true:=by kernel_rfl
theorem rC:BL Tryz.prog 127=true:=by kernel_rfl
theorem tq:BL Tryz.prog 128=true:=by kernel_rfl
theorem qW:BL Tryz.prog 129=true:=by kernel_rfl
theorem nK:BL Tryz.prog 130=true:=by kernel_rfl
theorem tJ:BL Tryz.prog 131=true:=by kernel_rfl
theorem uE:BL Tryz.prog 132=true:=by kernel_rfl
theorem sG:BL Tryz.prog 133=true:=by kernel_rfl
theorem sN:BL Tryz.prog 134=true:=by kernel_rfl
theorem sV:BL Tryz.prog 135=true:=by kernel_rfl
theorem rY:BL Tryz.prog 136=true:=by kernel_rfl
theorem sU:BL Tryz.prog 137=true:=by kernel_rfl
theorem sj:BL Tryz.prog 138=true:=by kernel_rfl
theorem uG:BL Tryz.prog 139=true:=by kernel_rfl
theorem rI:BL Tryz.prog 141=true:=by kernel_rfl
theorem sY:BL Tryz.prog 142=true:=by kernel_rfl
theorem tU:BL Tryz.prog 143=true:=by kernel_rfl
theorem qi:BL Tryz.prog 144=true:=by kernel_rfl
theorem tY:BL Tryz.prog 146=true:=by kernel_rfl
theorem ry:BL Tryz.prog 147=true:=by kernel_rfl
theorem s4:BL Tryz.prog 148=true:=by kernel_rfl
theorem sv:BL Tryz.prog 149=true:=by kernel_rfl
theorem sQ:BL Tryz.prog 150=true:=by kernel_rfl
theorem rL:BL Tryz.prog 151=true:=by kernel_rfl
theorem sZ:BL Tryz.prog 152=true:=by kernel_rfl
theorem ni:BL Tryz.prog 153=true:=by kernel_rfl
theorem sX:BL Tryz.prog 154=true:=by kernel_rfl
theorem qm:BL Tryz.prog 155=true:=by kernel_rfl
theorem qt:BL Tryz.prog 156=true:=by kernel_rfl
theorem tu:BL Tryz.prog 157=true:=by kernel_rfl
theorem qj:BL Tryz.prog 158=true:=by kernel_rfl
theorem qu:BL Tryz.prog 159=true:=by kernel_rfl
theorem uC:BL Tryz.prog 160=true:=by kernel_rfl
theorem tG:BL Tryz.prog 161=true:=by kernel_rfl
theorem nE:BL Tryz.prog 162=true:=by kernel_rfl
theorem tQ:BL Tryz.prog 163=true:=by kernel_rfl
theorem qe:BL Tryz.prog 164=true:=by kernel_rfl
theorem uH:BL Tryz.prog 165=true:=by kernel_rfl
theorem qQ:BL Tryz.prog 166=true:=by kernel_rfl
theorem qh:BL Tryz.prog 167=true:=by kernel_rfl
theorem rB:BL Tryz.prog 168=true:=by kernel_rfl
theorem qM:BL Tryz.prog 169=true:=by kernel_rfl
theorem rj:BL Tryz.prog 170=true:=by kernel_rfl
theorem sD:BL Tryz.prog 171=true:=by kernel_rfl
theorem s9:BL Tryz.prog 172=true:=by kernel_rfl
theorem rW:BL Tryz.prog 173=true:=by kernel_rfl
theorem sx:BL Tryz.prog 174=true:=by kernel_rfl
theorem qP:BL Tryz.prog 175=true:=by kernel_rfl
theorem tH:BL Tryz.prog 176=true:=by kernel_rfl
theorem sB:BL Tryz.prog 177=true:=by kernel_rfl
theorem nh:BL Tryz.prog 178=true:=by kernel_rfl
theorem rk:BL Tryz.prog 179=true:=by kernel_rfl
theorem sm:BL Tryz.prog 180=true:=by kernel_rfl
theorem sK:BL Tryz.prog 181=true:=by kernel_rfl
theorem rN:BL Tryz.prog 182=true:=by kernel_rfl
theorem rJ:BL Tryz.prog 183=true:=by kernel_rfl
theorem sr:BL Tryz.prog 184=true:=by kernel_rfl
theorem re:BL Tryz.prog 185=true:=by kernel_rfl
theorem sA:BL Tryz.prog 186=true:=by kernel_rfl
theorem s5:BL Tryz.prog 187=true:=by kernel_rfl
theorem uF:BL Tryz.prog 188=true:=by kernel_rfl
theorem q9:BL Tryz.prog 189=true:=by kernel_rfl
theorem r7:BL Tryz.prog 190=true:=by kernel_rfl
theorem sL:BL Tryz.prog 191=true:=by kernel_rfl
theorem qL:BL Tryz.prog 193=true:=by kernel_rfl
theorem rF:BL Tryz.prog 194=true:=by kernel_rfl
theorem tp:BL Tryz.prog 195=true:=by kernel_rfl
theorem tx:BL Tryz.prog 196=true:=by kernel_rfl
theorem qX:BL Tryz.prog 200=true:=by kernel_rfl
theorem HJ:fieldsOf Tryz.prog 26=some [(0,1),(1,1),(2,1),(3,1),(4,1)]:=by kernel_rfl
theorem uj:fieldsOf Tryz.prog 36=some [(0,1),(1,1),(2,1),(3,1),(4,1)]:=by kernel_rfl
theorem GO:fieldsOf Tryz.prog 51=some [(0,1),(1,1),(2,1),(3,1),(4,5)]:=by kernel_rfl
theorem C5:fieldsOf Tryz.prog 66=some [(0,1),(1,1),(2,1),(3,5),(8,5),(13,1),(14,1),(15,7),(22,1)]:=by kernel_rfl
theorem FG:fieldsOf Tryz.prog 69=some [(0,1),(1,5),(6,1),(7,1)]:=by kernel_rfl
theorem HE:fieldsOf Tryz.prog 71=some [(0,1),(1,5),(6,1),(7,8)]:=by kernel_rfl
theorem Up:fieldsOf Tryz.prog 115=some [(0,1),(1,1)]:=by kernel_rfl
theorem Jh:fieldsOf Tryz.prog 117=some [(0,1),(1,5)]:=by kernel_rfl
theorem IZ:fieldsOf Tryz.prog 120=some [(0,1),(1,1),(2,8)]:=by kernel_rfl
theorem fM:fieldsOf Tryz.prog 122=some []:=by kernel_rfl
theorem qK:fieldsOf Tryz.prog 125=some [(0,1),(1,1)]:=by kernel_rfl
theorem fQ:fieldsOf Tryz.prog 148=some [(0,1),(1,1)]:=by kernel_rfl
theorem nD:fieldsOf Tryz.prog 162=some [(0,1),(1,1)]:=by kernel_rfl
theorem qb:fieldsOf Tryz.prog 167=some [(0,1),(1,1),(2,1),(3,1),(4,1)]:=by kernel_rfl
theorem OI:fieldsOf Tryz.prog 200=some [(0,1),(1,1),(2,23)]:=by kernel_rfl
theorem qk:fieldsOf Tryz.prog 207=some [(0,1)]:=by kernel_rfl
theorem sf:fieldsOf Tryz.prog 231=some [(0,1),(1,1)]:=by kernel_rfl
theorem gh:mapOf Tryz.prog 229=some 3:=by kernel_rfl
theorem Dn:Tryz.prog.follows .mixedOrders=true:=by kernel_rfl
theorem q8:O5 Tryz.prog 162=true:=by kernel_rfl
theorem ty2:D9 Tryz.prog 2=some (false,1):=by kernel_rfl
theorem DM:D9 Tryz.prog 3=some (false,1):=by kernel_rfl
theorem sE:D9 Tryz.prog 4=some (false,1):=by kernel_rfl
theorem MI:D9 Tryz.prog 9=some (false,1):=by kernel_rfl
theorem j9:D9 Tryz.prog 22=some (false,1):=by kernel_rfl
theorem Gn:D9 Tryz.prog 24=some (false,1):=by kernel_rfl
theorem BZ:D9 Tryz.prog 26=some (true,5):=by kernel_rfl
theorem Tu:D9 Tryz.prog 29=some (false,1):=by kernel_rfl
theorem L3:D9 Tryz.prog 51=some (true,9):=by kernel_rfl
theorem Hq:D9 Tryz.prog 61=some (false,1):=by kernel_rfl
theorem H4:D9 Tryz.prog 62=some (false,1):=by kernel_rfl
theorem FZ:D9 Tryz.prog 66=some (true,23):=by kernel_rfl
theorem Kh:D9 Tryz.prog 67=some (false,1):=by kernel_rfl
theorem Jl:D9 Tryz.prog 69=some (true,8):=by kernel_rfl
theorem jN:D9 Tryz.prog 71=some (true,15):=by kernel_rfl
theorem X3:D9 Tryz.prog 104=some (false,1):=by kernel_rfl
theorem DU:D9 Tryz.prog 115=some (true,2):=by kernel_rfl
theorem tK:D9 Tryz.prog 117=some (true,6):=by kernel_rfl
theorem UB:D9 Tryz.prog 120=some (true,10):=by kernel_rfl
theorem sF:D9 Tryz.prog 122=some (true,0):=by kernel_rfl
theorem KA:D9 Tryz.prog 158=some (false,1):=by kernel_rfl
theorem OL:D9 Tryz.prog 162=some (true,2):=by kernel_rfl
theorem nV:D9 Tryz.prog 167=some (true,5):=by kernel_rfl
theorem rT:D9 Tryz.prog 168=some (true,65):=by kernel_rfl
theorem tg:D9 Tryz.prog 192=some (true,2):=by kernel_rfl
theorem rG:D9 Tryz.prog 205=some (false,1):=by kernel_rfl
theorem qq:D9 Tryz.prog 210=some (true,1):=by kernel_rfl
theorem KD:Tryz.prog.underlying 159=some (.array 7 158):=by kernel_rfl
theorem nI:Tryz.prog.underlying 168=some (.array 13 167):=by kernel_rfl
theorem e6:Tryz.prog.underlying 20=some (.interface #[]):=by kernel_rfl
theorem nZ:Tryz.prog.underlying 223=some (.int .i64):=by kernel_rfl
theorem wW:Tryz.prog.underlying 4=some .bool:=by kernel_rfl
theorem nW:Tryz.prog.underlying 9=some .string:=by kernel_rfl
theorem ki:zeroOf Tryz.prog 3=some (.int .i64 0):=by kernel_rfl
theorem wh:zeroOf Tryz.prog 4=some (.bool false):=by kernel_rfl
theorem lN:zeroOf Tryz.prog 9=some (.string { data:={ toList:=[] } }):=by kernel_rfl
theorem Bx:zeroOf Tryz.prog 26=some (.agg { toList:=[.int .i64 0,.int .i64 0,.string { data:={ toList:=[] } },.slice none 0 0,.slice none 0 0] }):=by kernel_rfl
theorem j8:zeroOf Tryz.prog 29=some (.int .i64 0):=by kernel_rfl
theorem ua:zeroOf Tryz.prog 36=some (.agg { toList:=[.int .i64 0,.int .i64 0,.int .i64 0,.int .i64 0,.bool false] }):=by kernel_rfl
theorem IK:zeroOf Tryz.prog 51=some (.agg { toList:=[.int .i64 0,.int .i64 0,.int .i64 0,.int .i64 0,.int .i64 0,.int .i64 0,.string { data:={ toList:=[] } },.slice none 0 0,.slice none 0 0] }):=by kernel_rfl
theorem Jw:zeroOf Tryz.prog 66=some (.agg { toList:=[.int .i64 0,.string { data:={ toList:=[] } },.int .i64 0,.int .i64 0,.int .i64 0,.string { data:={ toList:=[] } },.slice none 0 0,.slice none 0 0,.int .i64 0,.int .i64 0,.string { data:={ toList:=[] } },.slice none 0 0,.slice none 0 0,.int .i64 0,.slice none 0 0,.int .i64 0,.int .i64 0,.int .i64 0,.string { data:={ toList:=[] } },.slice none 0 0,.slice none 0 0,.slice none 0 0,.slice none 0 0] }):=by kernel_rfl
theorem Wx:zeroOf Tryz.prog 69=some (.agg { toList:=[.int .i64 0,.int .i64 0,.int .i64 0,.string { data:={ toList:=[] } },.slice none 0 0,.slice none 0 0,.int .i64 0,.slice none 0 0] }):=by kernel_rfl
theorem dR:zeroOf Tryz.prog 71=some (.agg { toList:=[.string { data:={ toList:=[] } },.int .i64 0,.int .i64 0,.string { data:={ toList:=[] } },.slice none 0 0,.slice none 0 0,.int .i64 0,.int .i64 0,.int .i64 0,.int .i64 0,.string { data:={ toList:=[] } },.slice none 0 0,.slice none 0 0,.int .i64 0,.slice none 0 0] }):=by kernel_rfl
theorem EI:zeroOf Tryz.prog 115=some (.agg { toList:=[.int .i64 0,.slice none 0 0] }):=by kernel_rfl
theorem aj:zeroOf Tryz.prog 117=some (.agg { toList:=[.string { data:={ toList:=[] } },.int .i64 0,.int .i64 0,.string { data:={ toList:=[] } },.slice none 0 0,.slice none 0 0] }):=by kernel_rfl
theorem bE:zeroOf Tryz.prog 120=some (.agg { toList:=[.string { data:={ toList:=[] } },.bool false,.int .i64 0,.int .i64 0,.int .i64 0,.string { data:={ toList:=[] } },.slice none 0 0,.slice none 0 0,.int .i64 0,.slice none 0 0] }):=by kernel_rfl
theorem bK:zeroOf Tryz.prog 122=some (.agg { toList:=[] }):=by kernel_rfl
theorem sR:zeroOf Tryz.prog 137=some (.slice none 0 0):=by kernel_rfl
theorem jX:zeroOf Tryz.prog 148=some (.agg { toList:=[.int .i64 0,.int .i64 0] }):=by kernel_rfl
theorem S9:zeroOf Tryz.prog 159=some (.agg { toList:=[.nilFunc,.nilFunc,.nilFunc,.nilFunc,.nilFunc,.nilFunc,.nilFunc] }):=by kernel_rfl
theorem F8:zeroOf Tryz.prog 162=some (.agg { toList:=[.int .i64 0,.int .i64 0] }):=by kernel_rfl
theorem gE:zeroOf Tryz.prog 168=some (.agg { toList:=[.bool false,.bool false,.int .i64 0,.int .i64 0,.int .i64 0,.bool false,.bool false,.int .i64 0,.int .i64 0,.int .i64 0,.bool false,.bool false,.int .i64 0,.int .i64 0,.int .i64 0,.bool false,.bool false,.int .i64 0,.int .i64 0,.int .i64 0,.bool false,.bool false,.int .i64 0,.int .i64 0,.int .i64 0,.bool false,.bool false,.int .i64 0,.int .i64 0,.int .i64 0,.bool false,.bool false,.int .i64 0,.int .i64 0,.int .i64 0,.bool false,.bool false,.int .i64 0,.int .i64 0,.int .i64 0,.bool false,.bool false,.int .i64 0,.int .i64 0,.int .i64 0,.bool false,.bool false,.int .i64 0,.int .i64 0,.int .i64 0,.bool false,.bool false,.int .i64 0,.int .i64 0,.int .i64 0,.bool false,.bool false,.int .i64 0,.int .i64 0,.int .i64 0,.bool false,.bool false,.int .i64 0,.int .i64 0,.int .i64 0] }):=by kernel_rfl
theorem sa:zeroOf Tryz.prog 170=some .nilFunc:=by kernel_rfl
theorem XU:zeroOf Tryz.prog 192=some (.agg { toList:=[.int .i64 0,.slice none 0 0] }):=by kernel_rfl
theorem nq:zeroOf Tryz.prog 200=some (.agg { toList:=[.slice none 0 0,.slice none 0 0,.int .i64 0,.string { data:={ toList:=[] } },.int .i64 0,.int .i64 0,.int .i64 0,.string { data:={ toList:=[] } },.slice none 0 0,.slice none 0 0,.int .i64 0,.int .i64 0,.string { data:={ toList:=[] } },.slice none 0 0,.slice none 0 0,.int .i64 0,.slice none 0 0,.int .i64 0,.int .i64 0,.int .i64 0,.string { data:={ toList:=[] } },.slice none 0 0,.slice none 0 0,.slice none 0 0,.slice none 0 0] }):=by kernel_rfl
theorem rq:zeroOf Tryz.prog 204=some .nilFunc:=by kernel_rfl
theorem qH:zeroOf Tryz.prog 205=some (.pointer none):=by kernel_rfl
theorem tO:zeroOf Tryz.prog 207=some (.agg { toList:=[.int .i64 0] }):=by kernel_rfl
theorem sS:zeroOf Tryz.prog 210=some (.agg { toList:=[.nilFunc] }):=by kernel_rfl
theorem uD:zeroOf Tryz.prog 231=some (.agg { toList:=[.map none,.int .i64 0] }):=by kernel_rfl
end Go.Proofs.YtboammbpdaoojaaGreat
