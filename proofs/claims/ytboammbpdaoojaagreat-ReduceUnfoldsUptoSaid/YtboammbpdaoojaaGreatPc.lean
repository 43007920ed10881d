/- Part of the proofs: an abstract program logic, plain models and contracts of functions. -/
import Derived.Test.YtboammbpdaoojaaGreatPb
import Derived.ProofKit
import Derived.Deep.DeepHandedRow
import Derived.Lib.AppendStr
import Derived.Lib.Builder
import Derived.Laws.Externs
import Derived.Lib.UnsafeStr
import Derived.Below
import Derived.Test.YtboammbpdaoojaaGreatRows
import Derived.Deep.DeepWitnessRowRef
import Derived.Lib.LaidIn
import Derived.Test.YtboammbpdaoojaaGreatProg
set_option linter.unusedVariables false
set_option linter.unusedSimpArgs false
set_option maxRecDepth 1000000
namespace Go.Eu
open Go.Abs Go.RowKit Go.ChangeShapes Go.ChangeAt Go.WideShapes
theorem WS:∀{ts:List Tm},(∀t∈ts,Wd t)→Vm ts
 | [],_=>trivial
 | t::ts,h=>⟨h t Ao,WS fun x hx=>h x (by simp[hx])⟩
abbrev F0:Nat→Prop:=fun _=>False
def B8 (w:World):List PV→List Value→Prop
 | [],cs=>cs=[]
 | p::ps,cs=>∃c cs',cs=c::cs'∧CE F0 w p c∧B8 w ps cs'
theorem B8.length {w:World}:∀{ps:List PV}{cs:List Value},B8 w ps cs→ps.length=cs.length
 | [],cs,h=>by simp only[B8] at h;subst h;rfl
 | p::ps,cs,h=>by
  obtain⟨c,cs',rfl,_,h⟩:=h;simp[B8.length h]
theorem B8.append {w:World}:∀{a b:List PV}{x y:List Value},B8 w a x→B8 w b y→B8 w (a++b) (x++y)
 | [],b,x,y,h,h'=>by simp only[B8] at h;subst h;exact h'
 | p::a,b,x,y,h,h'=>by
  obtain⟨c,cs',rfl,h1,h⟩:=h;exact⟨c,cs'++y,O,h1,B8.append h h'⟩
theorem B8.one {w:World}{p:PV}{c:Value}(h:CE F0 w p c):B8 w [p] [c]:=⟨c,[],rfl,h,rfl⟩
theorem B8.repL {w:World}:∀{ps:List PV}{cs:List Value},B8 w ps cs→Bp F0 w (ps.map .p) cs
 | [],cs,h=>by simp only[B8] at h;subst h;exact rfl
 | p::ps,cs,h=>by
  obtain⟨c,cs',rfl,h1,h⟩:=h;exact⟨c,cs',O,by simp only[B9];exact h1,B8.repL h⟩
theorem OZ {w:World}{b:Nat}:∀(r:List PV) (cs:List Value) (o:Nat),B8 w r cs→(∀j,j<cs.length→w.cell? ⟨b,o+j,none⟩=cs[j]?)→B7 F0 w b o r
 | [],cs,o,h,hc=>by simp[B7]
 | p::r,cs,o,h,hc=>by
  obtain⟨c,cs',rfl,h1,h⟩:=h;refine⟨⟨c,by have:=hc 0 Ao;simpa using this,h1⟩,OZ r cs' (o+1) h fun j hj=>?_⟩;have:=hc (j+1) Ai;rw[show o+1+j=o+(j+1) by omega];simpa using this
theorem LU {w:World}{base:Nat}{a:Addr}{n:Nat}{cs:List Value}(h:w.cells? base a n=some cs):cs.length=n∧∀j,j<n→w.cell? (a.add j)=cs[j]?:=by
 unfold World.cells? at h;split at h
 ·exact⟨by simpa using mapM_some_length h,fun j hj=>mapM_some_get h j j (by simp[hj])⟩
 cases h
section
variable {H:Type}{enc:TypeId×Value→H}{P:Program}{w:World}{base:Nat}{sp:Nat→Bool}{hd:Bool}{n:Nat}
theorem open_slice {α:Type}{e t C:Nat}(ut:P.underlying t=some (.slice e)) (hC:P.cellsOf e=C) (hC1:1≤C) (f:α→List PV) (Q:α→Prop)
  (he:∀m cs y,m<n→DataW.trod enc P w base sp hd m e cs=some y→∃a,B8 w (f a) cs∧Q a) {cs:List Value} {y:DataW H×List MemPlace} (h:DataW.trod enc P w base sp hd n t cs=some y) :
  ∃l:List α,l.length<wide∧(∀a∈l,Q a)∧∃v,cs=[v]∧CE F0 w (.lst (l.map f)) v:=by
 rcases DataW.trod_slice ut h with ⟨rfl,_⟩ | ⟨a,len,cap,elems,rest,m,rfl,rfl,_,hb,hl,hc,hel,hget,_,_⟩
 ·exact⟨[],by simp[wide],fun a ha=>by simp at ha,_,rfl,by simp only[CE];exact .inl ⟨rfl,none,0,rfl⟩⟩
 rw[hC] at hget;have hml:maxLen<wide:=by decide
 rcases Nat.eq_zero_or_pos len with h0 | h0
 ·subst h0;exact⟨[],by simp[wide],fun a ha=>by simp at ha,_,rfl,by simp only[CE];exact .inl ⟨rfl,some a,cap,rfl⟩⟩
 have hone:∀i,i<len→∃ci y,w.cells? base (a.add (i*C)) C=some ci∧DataW.trod enc P w base sp hd m e ci=some y:=fun i hi=>by
  have:=hget i hi;rw[List.getElem?_eq_getElem An] at this;obtain⟨ci,h1,h2⟩:=Option.bind_eq_some_iff.1 this;exact⟨ci,_,h1,h2⟩
 obtain⟨c0,y0,hc0,_⟩:=hone 0 h0;obtain⟨hl0,hg0⟩:=LU hc0;have hcell:∃v,w.cell? a=some v:=by
  have:=hg0 0 An;rw[Nat.zero_mul,Addr.add,if_pos rfl,Addr.add,if_pos rfl] at this;rw[List.getElem?_eq_getElem An] at this;exact⟨_,this⟩
 obtain⟨v0,hv0⟩:=hcell;obtain⟨blk,off,spot⟩:=a;have hspot:spot=none:=by
  unfold World.cell? at hv0;simp only at hv0;split at hv0
  ·cases spot with
   | none=>rfl
   | some s=>simp at hv0
  cases hv0
 subst hspot;have hblk:blk<w.heap.size:=by
  unfold World.cell? at hv0;simp only at hv0;split at hv0
  ·rename_i hh;exact(Array.getElem?_eq_some_iff.1 hh).1
  cases hv0
 have hadd:∀k,(⟨blk,off,none⟩:Addr).add k=⟨blk,off+k,none⟩:=fun k=>by
  unfold Addr.add;split
  ·rename_i e;subst e;rfl
  rfl
 have hadd2:∀o k,(⟨blk,o,none⟩:Addr).add k=⟨blk,o+k,none⟩:=fun o k=>by
  unfold Addr.add;split
  ·rename_i e;subst e;rfl
  rfl
 have hrows:∀k,k≤len→∃l:List α,l.length=k∧(∀x∈l,Q x)∧Bt F0 w blk C (off+(len - k)*C) (l.map f):=by
  intro k
  induction k with
  | zero=>exact fun _=>⟨[],rfl,fun a ha=>by simp at ha,by simp[Bt]⟩
  | succ k ih =>
   intro hk;obtain⟨l,h1,h2,h3⟩:=ih An;obtain⟨ci,y,hci,ht⟩:=hone (len - (k+1)) An;obtain⟨g1,g2⟩:=LU hci;obtain⟨x,hx,hq⟩:=he m ci y An ht;refine⟨x::l,by simp[h1],fun z hz=>?_,?_⟩
   ·rcases List.mem_cons.1 hz with rfl | hz
    ·exact hq
    exact h2 z hz
   refine⟨by rw[hx.length,g1],OZ _ ci _ hx fun j hj=>?_,?_⟩
   ·have:=g2 j An;rw[hadd,hadd2] at this;exact this
   rw[show off+(len - (k+1))*C+C=off+(len - k)*C by rw[Nat.add_assoc,←Nat.succ_mul];congr 2;omega];exact h3
 obtain⟨l,h1,h2,h3⟩:=hrows len (Nat.le_refl _);rw[Nat.sub_self,Nat.zero_mul,Nat.add_zero] at h3;refine⟨l,by omega,h2,_,rfl,?_⟩;simp only[CE];refine .inr ⟨blk,off,cap,C,by rw[List.length_map,h1],fun h=>h,hblk,by rw[List.length_map];omega,h3⟩
def Mg (P:Program) (t:TypeId):Option (List (Nat×Nat)) :=
 match P.underlying t with
 | some (.struct fs)=>some (fs.toList.map fun f=>(f.type,f.offset))
 | _=>none
theorem Ta {t:TypeId}{l:List (Nat×Nat)}(hf:Mg P t=some l) {cs:List Value}{y:DataW H×List MemPlace}(h:DataW.trod enc P w base sp hd n t cs=some y) :
  ∃m,n=m+1∧cs.length=P.cellsOf t∧∀(i:Nat) (p:Nat×Nat),l[i]?=some p→∃z,DataW.trod enc P w base sp hd m p.1 ((cs.drop p.2).take (P.cellsOf p.1))=some z:=by
 unfold Mg at hf;split at hf
 ·rename_i fs hu;injection hf with hf;subst hf;obtain⟨xs,m,h1,_,h2,h3,h4⟩:=DataW.trod_struct hu h;refine⟨m,h1,h2,fun i p hp=>?_⟩;rw[List.getElem?_map] at hp;obtain⟨fl,hfl,rfl⟩:=Option.map_eq_some_iff.1 hp;have hi:fs[i]?=some fl:=by simpa using hfl
  have:=h4 i fl hi;have hlt:i<xs.length:=by rw[h3];exact(Array.getElem?_eq_some_iff.1 hi).1
  rw[List.getElem?_eq_getElem hlt] at this;exact⟨_,this⟩
 cases hf
end
structure FV (P:Program) (tI tS tV tVs tL tLs tT tTs:TypeId):Prop where
 uI:P.underlying tI=some (.int .i64)
 uS:P.underlying tS=some .string
 uVs:P.underlying tVs=some (.slice tV)
 uLs:P.underlying tLs=some (.slice tL)
 uTs:P.underlying tTs=some (.slice tT)
 fV:Mg P tV=some [(tI,0),(tI,1)]
 fL:Mg P tL=some [(tI,0),(tVs,1)]
 fT:Mg P tT=some [(tI,0),(tI,1),(tS,2),(tLs,3),(tTs,4)]
 cI:P.cellsOf tI=1
 cS:P.cellsOf tS=1
 cVs:P.cellsOf tVs=1
 cLs:P.cellsOf tLs=1
 cTs:P.cellsOf tTs=1
 cV:P.cellsOf tV=2
 cL:P.cellsOf tL=2
 cT:P.cellsOf tT=5
theorem N2 {n:Int}(h:(Lit.int .i64 n).wf=true):Ir n:=by
 simp only[Lit.wf,Bool.and_eq_true,decide_eq_true_eq] at h;exact h
theorem _root_.Go.Am {α:Prop}(h:α:=by decide):α:=h
section
variable {H:Type}{enc:TypeId×Value→H}{P:Program}{w:World}{base:Nat}{sp:Nat→Bool}{hd:Bool}{tI tB tS tV tVs tL tLs tT tTs tM tMs:TypeId}
theorem dg (E:FV P tI tS tV tVs tL tLs tT tTs) {n:Nat}{cs:List Value}{y:DataW H×List MemPlace}(h:DataW.trod enc P w base sp hd n tV cs=some y):∃v:CK,B8 w (Ge v) cs∧(Ir v.index∧Ir v.plus):=by
 obtain⟨m,rfl,hl,hg⟩:=Ta E.fV h;rw[E.cV] at hl
 match cs,hl with
 | [c0,c1],_ =>
  obtain⟨z0,h0⟩:=hg 0 _ rfl;obtain⟨z1,h1⟩:=hg 1 _ rfl;simp only[E.cI,List.drop_zero,List.drop_succ_cons,List.take_succ_cons,List.take_zero] at h0 h1;obtain⟨a,ha,_,fa⟩:=DataW.trod_int E.uI h0;obtain⟨b,hb,_,fb⟩:=DataW.trod_int E.uI h1;injection ha with ha;injection hb with hb;subst ha hb;exact⟨⟨a,b⟩,⟨_,_,O,by simp[CE],_,_,rfl,by simp[CE],rfl⟩,N2 fa,N2 fb⟩
theorem jH (E:FV P tI tS tV tVs tL tLs tT tTs) {n:Nat}{cs:List Value}{y:DataW H×List MemPlace}(h:DataW.trod enc P w base sp hd n tL cs=some y):∃v:CX,B8 w (B5 v) cs∧kZ v:=by
 obtain⟨m,rfl,hl,hg⟩:=Ta E.fL h;rw[E.cL] at hl
 match cs,hl with
 | [c0,c1],_ =>
  obtain⟨z0,h0⟩:=hg 0 _ rfl;obtain⟨z1,h1⟩:=hg 1 _ rfl;simp only[E.cI,E.cVs,List.drop_zero,List.drop_succ_cons,List.take_succ_cons,List.take_zero] at h0 h1;obtain⟨a,ha,_,fa⟩:=DataW.trod_int E.uI h0;injection ha with ha;subst ha;obtain⟨l,g1,g2,v,hv,g3⟩:=open_slice E.uVs E.cV Am Ge (fun v=>Ir v.index∧Ir v.plus) (fun m cs y _ h=>dg E h) h1;injection hv with hv;subst hv;exact⟨⟨a,l⟩,⟨_,_,O,by simp[CE],_,_,rfl,g3,rfl⟩,⟨g1,N2 fa,g2⟩⟩
theorem UH (E:FV P tI tS tV tVs tL tLs tT tTs):∀(n:Nat) (cs:List Value) (y:DataW H×List MemPlace),DataW.trod enc P w base sp hd n tT cs=some y→∃t:Tm,B8 w (BK t) cs∧Wd t:=by
 intro n
 induction n using Nat.strongRecOn with
 | ind n ih =>
  intro cs y h;obtain⟨m,rfl,hl,hg⟩:=Ta E.fT h;rw[E.cT] at hl
  match cs,hl with
  | [c0,c1,c2,c3,c4],_ =>
   obtain⟨z0,h0⟩:=hg 0 _ rfl;obtain⟨z1,h1⟩:=hg 1 _ rfl;obtain⟨z2,h2⟩:=hg 2 _ rfl;obtain⟨z3,h3⟩:=hg 3 _ rfl;obtain⟨z4,h4⟩:=hg 4 _ rfl;simp only[E.cI,E.cS,E.cLs,E.cTs,List.drop_zero,List.drop_succ_cons,List.take_succ_cons,List.take_zero] at h0 h1 h2 h3 h4;obtain⟨a,ha,_,wa⟩:=DataW.trod_int E.uI h0;obtain⟨b,hb,_,wb⟩:=DataW.trod_int E.uI h1;obtain⟨s,hs,_,ws⟩:=DataW.trod_string E.uS h2;injection ha with ha;injection hb with hb;injection hs with hs;subst ha hb hs;obtain⟨l,g1,g2,v,hv,g3⟩:=open_slice E.uLs E.cL Am B5 kZ (fun m cs y _ h=>jH E h) h3;obtain⟨ks,k1,k2,u,hu,k3⟩:=open_slice E.uTs E.cT Am BK Wd (fun m' cs y hm h=>ih m' An cs y h) h4;injection hv with hv;injection hu with hu;subst hv hu;have hml:maxLen<wide:=by decide
   exact⟨.mk a b s l ks,⟨_,_,O,by simp[CE],_,_,rfl,by simp[CE],_,_,rfl,by simp[CE],_,_,rfl,g3,_,_,rfl,by rw[D9];exact k3,rfl⟩,
    ⟨by omega,g1,g2,k1,WS fun t ht=>k2 t ht,N2 wa,N2 wb⟩⟩
theorem gN (E:FV P tI tS tV tVs tL tLs tT tTs) {n:Nat}{cs:List Value}{y:DataW H×List MemPlace}(h:DataW.trod enc P w base sp hd n tTs cs=some y):∃l:List Tm,l.length<wide∧Vm l∧∃v,cs=[v]∧CE F0 w (.lst (BC l)) v:=by
 obtain⟨l,g1,g2,v,hv,g3⟩:=open_slice E.uTs E.cT Am BK Wd (fun m cs y _ h=>UH E m cs y h) h;exact⟨l,g1,WS g2,v,hv,by rw[D9];exact g3⟩
structure oE (P:Program) (tB tT tM tMs:TypeId):Prop where
 uB:P.underlying tB=some .bool
 uMs:P.underlying tMs=some (.slice tM)
 fM:Mg P tM=some [(tT,0),(tB,5),(tT,6),(tB,11)]
 cB:P.cellsOf tB=1
 cM:P.cellsOf tM=12
theorem R8 {b2:Nat}{r:Reach}{t e:TypeId}(ut:P.underlying t=some (.slice e)) {v u:Value}(hk:Value.okWide P w r b2 t v) (h:v.cells.toList=[u]):v=u:=by
 unfold Value.okWide at hk;rw[ut] at hk;simp only at hk;unfold Cell.okWide at hk;rw[ut] at hk;cases v with
 | agg cs=>simp only at hk;unfold Cell.ok at hk;rw[ut] at hk;simp at hk
 | _=>simp[Value.cells] at h;exact h
theorem kV (E:FV P tI tS tV tVs tL tLs tT tTs) {b2:Nat}{r:Reach}{v:Value}{d:DataW H}{ps:List MemPlace}(hk:Value.okWide P w r b2 tTs v) (h:DataW.Trod enc P w base sp hd tTs v d ps):∃l:List Tm,l.length<wide∧Vm l∧B9 F0 w (kg l) v:=by
 obtain⟨n,h⟩:=h;obtain⟨l,g1,g2,u,hu,g3⟩:=gN E h;have:=R8 E.uTs hk hu;subst this;exact⟨l,g1,g2,by simp only[B9];exact g3⟩
end
theorem Zc (w:World):HRel F0 [] w:=⟨fun o ho=>by simp at ho,by simp,fun o ho=>by simp at ho,fun b hb=>hb.elim⟩
theorem Wu {P:Program}{f:FuncId}{xs:List AV}(h:E4 P f xs (.p (.bool true))) {w:World}{vs:List Value}(ha:Bp F0 w xs vs):Calls P f ⟨vs⟩ w fun e w'=>e= .returned (.bool true)∧Below w.heap.size w w':=by
 refine(h.2 F0 w vs (Zc w) ha).mono ?_;rintro e w' ⟨r,H',F',hr,he,hH,ht⟩;cases r with
 | panic v=>exact hr.elim
 | val v =>
  obtain⟨rfl,rfl⟩:=hr;obtain⟨u,rfl,hu⟩:=he;simp only[B9,CE] at hu;subst hu;exact⟨O,ht.os,ht.tape,ht.out,ht.size,fun k hk=>ht.same k hk fun o ho=>by simp at ho⟩
theorem XA {H:Type}{enc:TypeId×Value→H}{P:Program}{f:Func}{s:ChangeSpec}{tB:TypeId}(hl:laidOutB P=true) (hB:P.underlying tB=some .bool) (hrt:f.resultTypes=#[tB]) (hv0:s.vars=[]) {W W':World}{args:Array Value}{ds:List (DataW H)}{before:List MemPlace}
  (hpr:∀t∈f.params.toList,P.readableRec t=true∧t<P.types.size) (hW:DataW.Whole enc P f.params.toList s.vars false W args.toList ds [] before) (hres:(s.fn H ds).results=[.lit (.bool true)]) (hargs:(s.fn H ds).args=ds) (hvars:(s.fn H ds).vars=[]) (hb:Below W.heap.size W W') :
  s.post enc P f false true false false W args (.bool true) W':=by
 have hW':=hW;obtain⟨p,q,hA,hV,rfl,hfz,hnd⟩:=hW;have hq:q=[]:=by rw[hv0] at hV;exact hV
 subst hq;have hstay:∀{ts:List TypeId} {vs:List Value} {ds:List (DataW H)} {ps:List MemPlace},(∀t∈ts,P.readableRec t=true∧t<P.types.size)→(∀x∈ps,x.block<W.heap.size)→DataW.TrodAll enc P W 0 (fun _=>true) true ts vs ds ps→DataW.TrodAll enc P W' 0 (fun b=>decide (b<W.heap.size)) true ts vs ds ps:=by
  intro ts
  induction ts with
  | nil =>
   intro vs ds ps _ _ h;cases vs<;>cases ds<;>simp[DataW.TrodAll] at h ⊢;exact h
  | cons t ts ih =>
   intro vs ds ps h1 h2 h;obtain⟨v,vs',d,ds',a,b,rfl,rfl,rfl,h3,h4⟩:=trodAll_cons h;exact⟨a,b,Below.trod hl (h1 t Ao).1 (h1 t Ao).2 h3 hb (fun x hx=>h2 x (by simp[hx])),ih (fun t ht=>h1 t (by simp[ht])) (fun x hx=>h2 x (by simp[hx])) h4,O⟩
 refine⟨ds,[],p++[],[],p,[],hW',?_,?_,?_,hb.frame _,fun h=>by cases h⟩
 ·rw[List.append_nil,hres,hrt];refine⟨[],[],⟨1,?_⟩,O,O⟩;unfold DataW.trod;rw[hB];rfl
 ·rw[List.append_nil,hargs];exact hstay hpr (fun x hx=>hW'.lt x (by simpa using hx)) hA
 rw[List.append_nil,hvars,hv0];exact O
section
variable {H:Type}{enc:TypeId×Value→H}{P:Program}{w:World}{base:Nat}{sp:Nat→Bool}{hd:Bool}{tI tB tS tV tVs tL tLs tT tTs tM tMs:TypeId}
end
end Go.Eu
namespace Go.Eu
open Go.Abs
structure Hq where
 name:ByteArray
 type:Tm
 deriving Inhabited
structure eF where
 params:Int
 type:Tm
 rules:List Tm
 deriving Inhabited
mutual
inductive E3 where
 | mk (kind:Int) (body:Tm) (var:Int) (branches:List F7)
inductive F7 where
 | mk (ctor:ByteArray) (absurd:Bool) (tree:E3)
end
instance:Inhabited E3:=⟨.mk 0 default 0 []⟩
instance:Inhabited F7:=⟨.mk default false default⟩
def E3.kind:E3→Int | .mk k _ _ _=>k
def E3.body:E3→Tm | .mk _ b _ _=>b
def E3.var:E3→Int | .mk _ _ v _=>v
def E3.branches:E3→List F7 | .mk _ _ _ l=>l
def F7.ctor:F7→ByteArray | .mk c _ _=>c
def F7.absurd:F7→Bool | .mk _ a _=>a
def F7.tree:F7→E3 | .mk _ _ t=>t
structure Gh where
 name:ByteArray
 type:Tm
 arity:Int
 tree:E3
 deriving Inhabited
structure CC where
 kind:Int
 name:ByteArray
 params:Int
 type:Tm
 value:Tm
 fixed:Int
 ctors:List Hq
 recs:eF
 funs:List Gh
 deriving Inhabited
structure Fk where
 kind:Int
 decl:Int
 item:Int
 params:Int
 type:Tm
 deriving Inhabited
structure rV where
 carrier:ByteArray
 add:ByteArray
 zero:ByteArray
 neg:ByteArray
 one:ByteArray
 leq:ByteArray
 lemmas:List ByteArray
 deriving Inhabited
structure rT where
 place:Int
 minus:Bool
 deriving Inhabited,DecidableEq
def GL (c:Hq):List PV:= .str c.name::BK c.type
def RD (r:eF):List PV:=I r.params::(BK r.type++[.lst (BC r.rules)])
mutual
def C4:E3→List PV
 | .mk k b v l=>I k::(BK b++[I v,.lst (KZ l)])
def GM:F7→List PV
 | .mk c a t=> .str c:: .bool a::C4 t
def KZ:List F7→List (List PV)
 | []=>[]
 | b::l=>GM b::KZ l
end
def FR (f:Gh):List PV:= .str f.name::(BK f.type++(I f.arity::C4 f.tree))
def Bj (d:CC):List PV:=I d.kind:: .str d.name::I d.params::(BK d.type++(BK d.value++(I d.fixed:: .lst (d.ctors.map GL)::(RD d.recs++[.lst (d.funs.map FR)]))))
def Db (e:Fk):List PV:=I e.kind::I e.decl::I e.item::I e.params::BK e.type
def qb (t:rV):List PV:=[.str t.carrier,.str t.add,.str t.zero,.str t.neg,.str t.one,.str t.leq,.lst (t.lemmas.map F3)]
def qU (s:rT):List PV:=[I s.place,.bool s.minus]
theorem LS:∀l:List F7,KZ l=l.map GM
 | []=>rfl
 | t::ts=>by simp[KZ,LS ts]
theorem D7 (c:Hq):(GL c).length=6:=by simp[GL,BB]
theorem JY (r:eF):(RD r).length=7:=by simp[RD,BB]
theorem Cy (t:E3):(C4 t).length=8:=by cases t;simp[C4,BB]
theorem Dc (b:F7):(GM b).length=10:=by cases b;simp[GM,Cy]
theorem Da (f:Gh):(FR f).length=15:=by simp[FR,BB,Cy]
theorem Cr (d:CC):(Bj d).length=23:=by simp[Bj,BB,JY]
theorem Ul (e:Fk):(Db e).length=9:=by simp[Db,BB]
theorem Fq (l:List F7):(KZ l).length=l.length:=by simp[LS]
theorem Ga {ts:List F7}{i:Nat}{t:F7}(h:ts[i]?=some t):(KZ ts)[i]?=some (GM t):=by simp[LS,h]
theorem Pm {α:Type}{f:α→List PV}{ts:List α}{i:Nat}{t:α}(h:ts[i]?=some t):(ts.map f)[i]?=some (f t):=by simp[h]
theorem EZ {ts:List Hq}{i:Nat}{t:Hq}(h:ts[i]?=some t):(ts.map GL)[i]?=some (GL t):=Pm h
theorem ET {ts:List Gh}{i:Nat}{t:Gh}(h:ts[i]?=some t):(ts.map FR)[i]?=some (FR t):=Pm h
theorem Ed {ts:List CC}{i:Nat}{t:CC}(h:ts[i]?=some t):(ts.map Bj)[i]?=some (Bj t):=Pm h
theorem Ce {n:Nat}{c:PV}{r:List PV}(hc:c≠ .any∧c≠ .unit) (h:D2 n r):D2 (n+1) (c::r) :=
 ⟨by simp[h.1],fun x hx=>by
  rcases List.mem_cons.1 hx with rfl | hx
  ·exact hc
  exact h.2 x hx⟩
theorem IS {n m:Nat}{a b:List PV}(ha:D2 n a) (hb:D2 m b):D2 (n+m) (a++b) :=
 ⟨by simp[ha.1,hb.1],fun x hx=>by
  rcases List.mem_append.1 hx with hx | hx
  ·exact ha.2 x hx
  exact hb.2 x hx⟩
theorem OC:D2 0 []:=⟨rfl,fun c h=>by simp at h⟩
theorem Xc (c:Hq):D2 6 (GL c):=Ce Ao (KD _)
theorem j8 (r:eF):D2 7 (RD r):=Ce Ao (IS (KD _) (Ce Ao OC))
theorem Qt (t:E3):D2 8 (C4 t):=by
 cases t with
 | mk k b v l=>unfold C4;exact Ce Ao (IS (n:=5) (m:=2) (KD _) (Ce Ao (Ce Ao OC)))
theorem ej (b:F7):D2 10 (GM b):=by
 cases b with
 | mk c a t=>unfold GM;exact Ce Ao (Ce Ao (Qt t))
theorem jj (f:Gh):D2 15 (FR f):=Ce Ao (IS (n:=5) (m:=9) (KD _) (Ce Ao (Qt _)))
theorem XJ (d:CC):D2 23 (Bj d):=Ce Ao (Ce Ao (Ce Ao (IS (n:=5) (m:=15) (KD _) (IS (n:=5) (m:=10) (KD _) (Ce Ao (Ce Ao (IS (n:=7) (m:=1) (j8 _) (Ce Ao OC))))))))
theorem jm (e:Fk):D2 9 (Db e):=Ce Ao (Ce Ao (Ce Ao (Ce Ao (KD _))))
theorem Yi (l:List Hq):∀r∈l.map GL,D2 6 r:=Gc Xc l
theorem Zv (l:List CC):∀r∈l.map Bj,D2 23 r:=Gc XJ l
theorem eZ (m:Hq):((GL m).map AV.p).all one=true:=Gb (Xc m)
theorem gC (m:E3):((C4 m).map AV.p).all one=true:=Gb (Qt m)
theorem TY (m:F7):((GM m).map AV.p).all one=true:=Gb (ej m)
theorem fc (m:Gh):((FR m).map AV.p).all one=true:=Gb (jj m)
theorem ea (m:CC):((Bj m).map AV.p).all one=true:=Gb (XJ m)
theorem fG (m:Fk):((Db m).map AV.p).all one=true:=Gb (jm m)
end Go.Eu
namespace Go.Eu
open Go.Abs Go.RowKit Go.ChangeShapes Go.ChangeAt Go.WideShapes
structure kj (P:Program) (tS tSs tTh:TypeId):Prop where
 uSs:P.underlying tSs=some (.slice tS)
 cSs:P.cellsOf tSs=1
 fTh:Mg P tTh=some [(tS,0),(tS,1),(tS,2),(tS,3),(tS,4),(tS,5),(tSs,6)]
 cTh:P.cellsOf tTh=7
 bS:P.bytesOf tS=16
section
variable {H:Type}{enc:TypeId×Value→H}{P:Program}{w:World}{base:Nat}{sp:Nat→Bool}{hd:Bool}{tI tB tS tV tVs tL tLs tT tTs tM tMs tSs tTh:TypeId}
end
end Go.Eu
namespace Go.Eu
open Go.Abs
def T4 (n:ByteArray):ByteArray:=n++⟨#[46,114,101,99]⟩
def Hg (i p:Int):List Hq→Int→List (ByteArray×Fk)
 | [],_=>[]
 | c::cs,k=>(c.name,⟨4,i,k,p,c.type⟩)::Hg i p cs (k+1)
def Ku (i p:Int):List Gh→Int→List (ByteArray×Fk)
 | [],_=>[]
 | c::cs,k=>(c.name,⟨6,i,k,p,c.type⟩)::Ku i p cs (k+1)
def Ep (d:CC) (i:Int):List (ByteArray×Fk) :=
 if d.kind=0∨d.kind=1∨d.kind=2 then [(d.name,⟨d.kind,i,0,d.params,d.type⟩)]
 else if d.kind=3 then (d.name,⟨3,i,0,d.params,d.type⟩)::(Hg i d.params d.ctors 0++[(T4 d.name,⟨5,i,0,d.recs.params,d.recs.type⟩)])
 else if d.kind=4 then Ku i d.params d.funs 0
 else []
def Cd (nm:ByteArray):List (ByteArray×Fk)→Option Fk
 | []=>none
 | (s,e)::l=>if s=nm then some e else Cd nm l
def findF (nm:ByteArray):List CC→Int→Option Fk
 | [],_=>none
 | d::ds,i=>match Cd nm (Ep d i) with
  | some e=>some e
  | none=>findF nm ds (i+1)
def cZ:Fk:=⟨0,0,0,0,BZ⟩
def Bq (ds:List CC) (nm:ByteArray):Fk×Int:=match findF nm ds 0 with
 | some e=>(e,0)
 | none=>(cZ,9)
theorem J6 {nm:ByteArray}:∀{a b:List (ByteArray×Fk)},Cd nm (a++b)=match Cd nm a with
  | some e=>some e
  | none=>Cd nm b
 | [],b=>rfl
 | (s,e)::a,b=>by
  simp only[List.cons_append,Cd];split
  ·rfl
  exact J6
section
variable {i p:Int}{nm:ByteArray}
theorem OF:∀{cs:List Hq}{j:Nat}{c:Hq}{k:Int},cs[j]?=some c→c.name=nm→(∀q,q<j→∀y,cs[q]?=some y→y.name≠nm)→Cd nm (Hg i p cs k)=some ⟨4,i,k+j,p,c.type⟩
 | [],j,c,k,h,_,_=>by simp at h
 | a::cs,0,c,k,h,hn,_=>by
  simp at h;subst h;simp[Hg,Cd,hn]
 | a::cs,j+1,c,k,h,hn,hb=>by
  have h0:a.name≠nm:=hb 0 An a rfl;rw[Hg,Cd,if_neg h0,OF (by simpa using h) hn fun q hq y hy=>hb (q+1) An y (by simpa using hy)];congr 2;omega
theorem Mi:∀{cs:List Hq}{k:Int},(∀q:Nat,q<cs.length→∀y,cs[q]?=some y→y.name≠nm)→Cd nm (Hg i p cs k)=none
 | [],k,_=>rfl
 | a::cs,k,hb=>by
  have h0:a.name≠nm:=hb 0 Ao a rfl;rw[Hg,Cd,if_neg h0];exact Mi fun q hq y hy=>hb (q+1) (by simpa using hq) y (by simpa using hy)
theorem S0:∀{cs:List Hq}{j:Nat}{c:Hq}{k:Int},cs[j]?=some c→(c.name,(⟨4,i,k+j,p,c.type⟩:Fk))∈Hg i p cs k
 | [],j,c,k,h=>by simp at h
 | a::cs,0,c,k,h=>by simp at h;subst h;simp[Hg]
 | a::cs,j+1,c,k,h=>by
  have:=S0 (k:=k+1) (show cs[j]?=some c by simpa using h);rw[Hg];refine List.mem_cons_of_mem _ ?_
  rwa [show k+1+(j:Int)=k+((j+1:Nat):Int) by omega] at this
theorem RL:∀{cs:List Gh}{j:Nat}{c:Gh}{k:Int},cs[j]?=some c→c.name=nm→(∀q,q<j→∀y,cs[q]?=some y→y.name≠nm)→Cd nm (Ku i p cs k)=some ⟨6,i,k+j,p,c.type⟩
 | [],j,c,k,h,_,_=>by simp at h
 | a::cs,0,c,k,h,hn,_=>by
  simp at h;subst h;simp[Ku,Cd,hn]
 | a::cs,j+1,c,k,h,hn,hb=>by
  have h0:a.name≠nm:=hb 0 An a rfl;rw[Ku,Cd,if_neg h0,RL (by simpa using h) hn fun q hq y hy=>hb (q+1) An y (by simpa using hy)];congr 2;omega
theorem OR:∀{cs:List Gh}{k:Int},(∀q:Nat,q<cs.length→∀y,cs[q]?=some y→y.name≠nm)→Cd nm (Ku i p cs k)=none
 | [],k,_=>rfl
 | a::cs,k,hb=>by
  have h0:a.name≠nm:=hb 0 Ao a rfl;rw[Ku,Cd,if_neg h0];exact OR fun q hq y hy=>hb (q+1) (by simpa using hq) y (by simpa using hy)
theorem VT:∀{cs:List Gh}{j:Nat}{c:Gh}{k:Int},cs[j]?=some c→(c.name,(⟨6,i,k+j,p,c.type⟩:Fk))∈Ku i p cs k
 | [],j,c,k,h=>by simp at h
 | a::cs,0,c,k,h=>by simp at h;subst h;simp[Ku]
 | a::cs,j+1,c,k,h=>by
  have:=VT (k:=k+1) (show cs[j]?=some c by simpa using h);rw[Ku];refine List.mem_cons_of_mem _ ?_
  rwa [show k+1+(j:Int)=k+((j+1:Nat):Int) by omega] at this
end
def Ck (d:CC):List ByteArray :=
 if d.kind=0∨d.kind=1∨d.kind=2 then [d.name]
 else if d.kind=3 then d.name::d.ctors.map Hq.name++[T4 d.name]
 else if d.kind=4 then d.funs.map Gh.name
 else []
def Gf (l:List ByteArray) (s:ByteArray):Bool:=l.any fun x=>decide (x=s)
theorem br {l:List ByteArray}{s x:ByteArray}{i:Nat}(h:l[i]?=some x) (e:x=s):Gf l s=true :=
 List.any_eq_true.2 ⟨x,List.mem_of_getElem? h,by simp[e]⟩
theorem ZL {l:List ByteArray}{s:ByteArray}(h:∀j,j<l.length→∀x,l[j]?=some x→x≠s):Gf l s=false:=by
 refine Bool.eq_false_iff.2 fun hb=>?_;obtain⟨x,hx,hq⟩:=List.any_eq_true.1 hb;obtain⟨j,hj⟩:=List.mem_iff_getElem?.1 hx;exact h j (List.getElem?_eq_some_iff.1 hj).1 x hj (by simpa using hq)
def M1 (nm:ByteArray) (i p:Int) (o:Fk):List Hq→Int→Fk
 | [],_=>o
 | c::cs,k=>if c.name=nm then ⟨4,i,k,p,c.type⟩ else M1 nm i p o cs (k+1)
def ZV (nm:ByteArray) (i p:Int) (o:Fk):List Gh→Int→Fk
 | [],_=>o
 | c::cs,k=>if c.name=nm then ⟨6,i,k,p,c.type⟩ else ZV nm i p o cs (k+1)
def FD (d:CC) (i:Int) (nm:ByteArray):Fk :=
 if d.kind=0∨d.kind=1∨d.kind=2 then ⟨d.kind,i,0,d.params,d.type⟩
 else if d.kind=3 then (if nm=d.name then ⟨3,i,0,d.params,d.type⟩ else M1 nm i d.params ⟨5,i,0,d.recs.params,d.recs.type⟩ d.ctors 0)
 else ZV nm i d.params ⟨0,i,0,d.params,d.type⟩ d.funs 0
theorem NK {nm:ByteArray}{i p:Int}{o:Fk}:∀{cs:List Hq}{k:Int},M1 nm i p o cs k=(Cd nm (Hg i p cs k)).getD o
 | [],k=>rfl
 | c::cs,k=>by
  rw[M1,Hg,Cd];split
  ·rfl
  exact NK
theorem PM {nm:ByteArray}{i p:Int}{o:Fk}:∀{cs:List Gh}{k:Int},ZV nm i p o cs k=(Cd nm (Ku i p cs k)).getD o
 | [],k=>rfl
 | c::cs,k=>by
  rw[ZV,Ku,Cd];split
  ·rfl
  exact PM
theorem Oy {nm:ByteArray}{i p:Int}:∀{cs:List Hq}{k:Int},(Cd nm (Hg i p cs k)).isSome=Gf (cs.map Hq.name) nm
 | [],k=>rfl
 | c::cs,k=>by
  rw[Hg,Cd];split
  ·rename_i h;simp[Gf,h]
  rename_i h;rw[Oy];simp[Gf,h]
theorem RQ {nm:ByteArray}{i p:Int}:∀{cs:List Gh}{k:Int},(Cd nm (Ku i p cs k)).isSome=Gf (cs.map Gh.name) nm
 | [],k=>rfl
 | c::cs,k=>by
  rw[Ku,Cd];split
  ·rename_i h;simp[Gf,h]
  rename_i h;rw[RQ];simp[Gf,h]
theorem aM {a b:List ByteArray}{s:ByteArray}:Gf (a++b) s=(Gf a s||Gf b s):=List.any_append
theorem JA (d:CC) (i:Int) (nm:ByteArray):Cd nm (Ep d i)=if Gf (Ck d) nm=true then some (FD d i nm) else none:=by
 unfold Ep Ck FD;by_cases h:d.kind=0∨d.kind=1∨d.kind=2
 ·simp only[if_pos h,Cd];by_cases e:d.name=nm<;>simp[Gf,e]
 simp only[if_neg h];by_cases h3:d.kind=3
 ·simp only[if_pos h3,Cd,J6,List.cons_append];by_cases e:d.name=nm
  ·simp[Gf,e]
  have e':¬nm=d.name:=fun q=>e q.symm;rw[if_neg e,if_neg e',NK];have hn:=Oy (nm:=nm) (i:=i) (p:=d.params) (cs:=d.ctors) (k:=0);have hh:Gf (d.name::(d.ctors.map Hq.name++[T4 d.name])) nm=(Gf (d.ctors.map Hq.name) nm||Gf [T4 d.name] nm):=by
   rw[←aM];simp[Gf,e]
  rw[hh,←hn];cases hf:Cd nm (Hg i d.params d.ctors 0) with
  | some x=>simp
  | none =>
   by_cases e2:T4 d.name=nm<;>simp[Gf,e2]
 simp only[if_neg h3];by_cases h4:d.kind=4
 ·simp only[if_pos h4];rw[PM,←RQ (i:=i) (p:=d.params) (k:=0)];cases hf:Cd nm (Ku i d.params d.funs 0)<;>simp
 simp[h4,Cd,Gf]
structure Oq where
 env:List CC
 own:List ByteArray
 d:CC
def Fg (s:Oq):List PV:= .lst (s.env.map Bj):: .lst (s.own.map F3)::Bj s.d
theorem ZD (s:Oq):(Fg s).length=25:=by simp[Fg,Cr]
theorem hG (s:Oq):D2 25 (Fg s):=Ce Ao (Ce Ao (XJ _))
theorem gG (m:Oq):((Fg m).map AV.p).all one=true:=Gb (hG m)
structure TB (t:Tm):Prop where
 nd:Nd t
 sz:size t<1000000
mutual
def Gj:E3→Prop
 | .mk k b v l=>TB b∧l.length<2000000∧Me l
def Qe:F7→Prop
 | .mk c a t=>c.size<2000000∧Gj t
def Me:List F7→Prop
 | []=>True
 | b::l=>Qe b∧Me l
end
mutual
def KX:E3→Nat
 | .mk k b v l=>1+VG l
def bP:F7→Nat
 | .mk c a t=>KX t
def VG:List F7→Nat
 | []=>0
 | b::l=>bP b+1+VG l
end
theorem Im:∀{l:List F7}{i:Nat}{b:F7},Me l→l[i]?=some b→Qe b
 | [],i,b,_,h=>by simp at h
 | a::l,0,b,hn,h=>by simp at h;subst h;exact hn.1
 | a::l,i+1,b,hn,h=>by simp at h;exact Im hn.2 h
theorem Sz:∀{l:List F7}{i:Nat}{b:F7},l[i]?=some b→bP b<VG l
 | [],i,b,h=>by simp at h
 | a::l,0,b,h=>by simp at h;subst h;simp only[VG];omega
 | a::l,i+1,b,h=>by
  have:=Sz (show l[i]?=some b by simpa using h);simp only[VG];omega
structure dN (c:Hq):Prop where
 nm:c.name.size<2000000
 ty:TB c.type
structure bL (f:Gh):Prop where
 nm:f.name.size<2000000
 ty:TB f.type
 tr:Gj f.tree
structure OB (d:CC):Prop where
 nm:d.name.size<2000000
 ty:TB d.type
 vl:TB d.value
 cl:d.ctors.length<2000000
 cs:∀c∈d.ctors,dN c
 rt:TB d.recs.type
 rl:d.recs.rules.length<2000000
 rs:∀t∈d.recs.rules,TB t
 fl:d.funs.length<2000000
 fs:∀f∈d.funs,bL f
structure Hn (ds:List CC):Prop where
 len:ds.length<2000000
 all:∀d∈ds,OB d
theorem Hn.take {ds:List CC}(h:Hn ds) (n:Nat):Hn (ds.take n) :=
 ⟨by have:=h.len;simp;omega,fun d hd=>h.all d (List.mem_of_mem_take hd)⟩
theorem X8 {nm:ByteArray}:∀{ds:List CC}{i:Nat}{k:Int}{d:CC},ds[i]?=some d→(∀j,j<i→∀y,ds[j]?=some y→Gf (Ck y) nm=false)→Gf (Ck d) nm=true→findF nm ds k=some (FD d (k+i) nm)
 | [],i,k,d,h,_,_=>by simp at h
 | a::ds,0,k,d,h,_,hn=>by
  simp at h;subst h;rw[findF,JA,if_pos hn];simp
 | a::ds,i+1,k,d,h,hb,hn=>by
  have h0:=hb 0 An a rfl;rw[findF,JA,if_neg (by rw[h0];decide)];simp only;rw[X8 (by simpa using h) (fun j hj y hy=>hb (j+1) An y (by simpa using hy)) hn];congr 2;omega
theorem R3 {nm:ByteArray}:∀{ds:List CC}{k:Int},(∀j,j<ds.length→∀y,ds[j]?=some y→Gf (Ck y) nm=false)→findF nm ds k=none
 | [],k,_=>rfl
 | a::ds,k,hb=>by
  have h0:=hb 0 Ao a rfl;rw[findF,JA,if_neg (by rw[h0];decide)];simp only;exact R3 fun j hj y hy=>hb (j+1) (by simpa using hj) y (by simpa using hy)
theorem ZE (n:ByteArray):(T4 n).size=n.size+4:=by
 show (n++⟨#[46,114,101,99]⟩:ByteArray).size=_;rw[ByteArray.size_append];rfl
theorem MK (d:CC):(Ck d).length≤d.ctors.length+d.funs.length+2:=by
 unfold Ck;split
 ·simp
 split
 ·simp
 split<;>simp<;>omega
section
variable {d:CC}{i:Int}{nm:ByteArray}
theorem MO (h:d.kind=0∨d.kind=1∨d.kind=2) {k:Int}(hk:d.kind=k):FD d i nm=⟨k,i,0,d.params,d.type⟩:=by rw[FD,if_pos h,hk]
theorem Za (h:d.kind=3) (hn:nm=d.name):FD d i nm=⟨3,i,0,d.params,d.type⟩:=by rw[FD,if_neg An,if_pos h,if_pos hn]
theorem XI (h:d.kind=3) (hn:¬nm=d.name) {j:Nat}{c:Hq}(hc:d.ctors[j]?=some c) (he:c.name=nm) (hb:∀q,q<j→∀y,d.ctors[q]?=some y→y.name≠nm):FD d i nm=⟨4,i,j,d.params,c.type⟩:=by
 rw[FD,if_neg An,if_pos h,if_neg hn,NK,OF hc he hb,Int.zero_add];rfl
theorem Y4 (h:d.kind=3) (hn:¬nm=d.name) (hb:∀q:Nat,q<d.ctors.length→∀y,d.ctors[q]?=some y→y.name≠nm):FD d i nm=⟨5,i,0,d.recs.params,d.recs.type⟩:=by
 rw[FD,if_neg An,if_pos h,if_neg hn,NK,Mi hb];rfl
theorem Yg (h:¬(d.kind=0∨d.kind=1∨d.kind=2)) (h3:¬d.kind=3) {j:Nat}{c:Gh}(hc:d.funs[j]?=some c) (he:c.name=nm) (hb:∀q,q<j→∀y,d.funs[q]?=some y→y.name≠nm):FD d i nm=⟨6,i,j,d.params,c.type⟩:=by
 rw[FD,if_neg h,if_neg h3,PM,RL hc he hb,Int.zero_add];rfl
theorem YZ (h:¬(d.kind=0∨d.kind=1∨d.kind=2)) (h3:¬d.kind=3) (hb:∀q:Nat,q<d.funs.length→∀y,d.funs[q]?=some y→y.name≠nm):FD d i nm=⟨0,i,0,d.params,d.type⟩:=by
 rw[FD,if_neg h,if_neg h3,PM,OR hb];rfl
end
theorem Zf {ds:List CC}{nm:ByteArray}{i:Nat}{d:CC}(hx:ds[i]?=some d) (hb:∀j,j<i→∀y,ds[j]?=some y→Gf (Ck y) nm=false) (hn:Gf (Ck d) nm=true):Bq ds nm=(FD d i nm,0):=by
 rw[Bq,X8 hx hb hn,Int.zero_add]
theorem WL {ds:List CC}{nm:ByteArray}(hb:∀j,j<ds.length→∀y,ds[j]?=some y→Gf (Ck y) nm=false):Bq ds nm=(cZ,9):=by
 rw[Bq,R3 hb]
theorem Q7 {nm:ByteArray}{i p:Int}{o:Fk}(ho:o.kind≠4):∀{cs:List Hq}{k:Int},(M1 nm i p o cs k).kind=4→(M1 nm i p o cs k).decl=i∧k≤(M1 nm i p o cs k).item∧(M1 nm i p o cs k).item<k+cs.length
 | [],k,h=>absurd h ho
 | c::cs,k,h=>by
  unfold M1 at h ⊢;split at h
  ·rename_i hc;rw[if_pos hc];exact⟨O,Int.le_refl _,by simp only[List.length_cons];omega⟩
  rename_i hc;rw[if_neg hc];have:=Q7 ho h;simp only[List.length_cons];exact⟨this.1,by have:=this.2.1;omega,by have:=this.2.2;omega⟩
theorem SX {nm:ByteArray}{i p:Int}{o:Fk}(ho:o.kind≠4):∀{cs:List Gh}{k:Int},(ZV nm i p o cs k).kind≠4
 | [],k=>ho
 | c::cs,k=>by
  unfold ZV;split
  ·simp
  exact SX ho
theorem _root_.Go.Ab {α:Prop}(h:α:=by simp only;omega):α:=h
theorem Rr {nm:ByteArray}:∀{ds:List CC}{k:Int}{e:Fk},findF nm ds k=some e→e.kind=4→∃(j:Nat) (d:CC),e.decl=k+j∧ds[j]?=some d∧0≤e.item∧e.item<d.ctors.length
 | [],k,e,h,_=>by cases h
 | a::ds,k,e,h,hk=>by
  rw[findF,JA] at h;by_cases hn:Gf (Ck a) nm=true
  ·rw[if_pos hn] at h;simp only[Option.some.injEq] at h;subst h;refine⟨0,a,?_⟩;unfold FD at hk ⊢;split at hk
   ·rename_i q;exact absurd hk Ab
   rename_i q;rw[if_neg q];split at hk
   ·rename_i q3;rw[if_pos q3];split at hk
    ·cases hk
    rename_i qn;rw[if_neg qn];have:=Q7 Ao hk;exact⟨by rw[this.1];omega,rfl,this.2.1,by have:=this.2.2;omega⟩
   exact absurd hk (SX Ao)
  rw[if_neg hn] at h;simp only at h;obtain⟨j,d,h1,h2,h3⟩:=Rr h hk;exact⟨j+1,d,by omega,by simpa using h2,h3⟩
theorem WY {ds:List CC}{nm:ByteArray}(h0:(Bq ds nm).2=0) (hk:(Bq ds nm).1.kind=4):∃d,0≤(Bq ds nm).1.decl∧ds[(Bq ds nm).1.decl.toNat]?=some d∧0≤(Bq ds nm).1.item∧(Bq ds nm).1.item<d.ctors.length:=by
 unfold Bq at h0 hk ⊢;cases e:findF nm ds 0 with
 | none=>rw[e] at h0;simp at h0
 | some x =>
  rw[e] at hk;obtain⟨j,d,h1,h2,h3,h4⟩:=Rr e hk;simp only;exact⟨d,by omega,by rw[h1];simpa using h2,h3,h4⟩
end Go.Eu
namespace Go.Abs
section
variable {P:Program}{H:List BD}{dst:Option Tmp}{ty:TypeId}{pos:String}{aft:Array Edge}{x y:Operand}{ρ:Operand→AV}{g:Option (Nat×Bool)}
end
section
variable {P:Program}{dst:Option Tmp}{ty:TypeId}{pos:String}{aft:Array Edge}{g:Option (Nat×Bool)}{ρ:Operand→AV}{H:List BD}{x y z:Operand}{v:AV}
def oA (s:ByteArray):List (List PV):=s.data.toList.map fun b=>[PV.int .u8 b.toNat]
end
section
variable {P:Program}{dst:Option Tmp}{ty:TypeId}{pos:String}{aft:Array Edge}{g:Option (Nat×Bool)}{ρ:Operand→AV}{H:List BD}{x y z:Operand}{v:AV}
def oC (T:TypeId) (cs:List AV) (H:List BD):D6→List BD→Prop
 | .val v,H'=>∃b,v= .ptr b 0∧H'= .boxT b T cs::H
 | .panic _,_=>False
end
section
variable {P:Program}{dst:Option Tmp}{ty:TypeId}{pos:String}{aft:Array Edge}{g:Option (Nat×Bool)}{ρ:Operand→AV}{H:List BD}{x:Operand}
end
def At (cells:List PV) (o:Nat) (us:List PV):Prop:=∃rest,cells.drop o=us++rest
theorem At.front {us rest:List PV}:At (us++rest) 0 us:=⟨rest,rfl⟩
theorem At.all {us:List PV}:At us 0 us:=⟨[],by simp⟩
theorem At.one {c:PV}{rest:List PV}:At (c::rest) 0 [c]:=⟨rest,rfl⟩
theorem At.cons {c:PV}{cells us:List PV}{o:Nat}(h:At cells o us):At (c::cells) (o+1) us:=h
theorem At.app {a cells us:List PV}{o n:Nat}(hn:a.length=n) (h:At cells o us):At (a++cells) (n+o) us:=by
 obtain⟨rest,h⟩:=h;exact⟨rest,by rw[List.drop_append,←hn,List.drop_of_length_le An];simpa using h⟩
theorem At.sub {cells us vs:List PV}{o p:Nat}(h:At cells o us) (h':At us p vs) (hp:p≤us.length):At cells (o+p) vs:=by
 obtain⟨r,h⟩:=h;obtain⟨r',h'⟩:=h';exact⟨r'++r,by rw[←List.drop_drop,h,List.drop_append_of_le_length hp,h',List.append_assoc]⟩
theorem At.drop {cells us:List PV}{a b:Nat}(h:At cells (a+b) us):At (cells.drop a) b us:=by
 unfold At at h ⊢
 rwa [List.drop_drop]
section
variable {P:Program}{dst:Option Tmp}{ty:TypeId}{pos:String}{aft:Array Edge}{g:Option (Nat×Bool)}{ρ:Operand→AV}{H:List BD}{x:Operand}{T:TypeId}{b o i n:Nat}{cells us:List PV}{c:PV}
theorem Bv (hT:Dl P T=some (true,n)) (hx:ρ x= .ptr b o) (hi:H[i]?=some (.box b (cells.map .p))) (ha:At cells o us) (hn:us.length=n):DU P ⟨dst,.load T x,ty,pos,aft,g⟩ ρ H (.agg (us.map .p)) H:=by
 have e:((cells.map AV.p).drop o).take n=us.map .p:=by
  obtain⟨rest,h⟩:=ha;rw[←List.map_drop,h,List.map_append,List.take_left' (by rw[List.length_map,hn])]
 exact KV hT hx hi (by rw[e,List.length_map,hn]) (by rw[e])
theorem A2 (hT:Dl P T=some (false,n)) (hx:ρ x= .ptr b o) (hi:H[i]?=some (.box b (cells.map .p))) (ha:At cells o [c]):DU P ⟨dst,.load T x,ty,pos,aft,g⟩ ρ H (.p c) H :=
 B0 hT hx hi (by
  obtain⟨rest,h⟩:=ha;have:=congrArg (fun l:List PV=>l[0]?) h;simp only[List.getElem?_drop,Nat.add_zero,List.singleton_append,List.getElem?_cons_zero] at this;simp[this])
theorem DL (hT:Dl P T=some (true,n)) (hx:ρ x= .ref (cells.drop o)) (ha:At cells o us) (hn:us.length=n):DU P ⟨dst,.load T x,ty,pos,aft,g⟩ ρ H (.agg (us.map .p)) H :=
 KU hT hx hn (by obtain⟨rest,h⟩:=ha;rw[h];exact List.take_left)
theorem DH (hT:Dl P T=some (false,n)) (hx:ρ x= .ref (cells.drop o)) (ha:At cells o [c]):DU P ⟨dst,.load T x,ty,pos,aft,g⟩ ρ H (.p c) H:=by
 obtain⟨rest,h⟩:=ha;exact El hT (hx.trans (congrArg AV.ref h))
variable {y:Operand}
theorem W0 {a b:Bool}{T U:TypeId}(hu:P.underlying T=some .bool) (hx:ρ x= .p (.bool a)) (hy:ρ y= .p (.bool b)):DU P ⟨dst,.binOp .neq T x y U,ty,pos,aft,g⟩ ρ H (.p (.bool (a !=b))) H :=
 CG fun F w E hH hE=>by
  have e1:=hE x Aa;have e2:=hE y Aa;rw[hx] at e1;rw[hy] at e2;simp only[B9,CE] at e1 e2;refine⟨.bool (a !=b),?_,by simp[B9,CE]⟩;have hg:(eqGuard .neq T x y (.bool a) (.bool b)).run P w= .ok () w:=by unfold eqGuard;rfl
  have hq:(Op.equal T (.bool a) (.bool b)).run P w= .ok (a==b) w:=IQ hu rfl;simp[execOp,Sem.run_bind,hg,e1,e2,binOp,hq,bne]
theorem Dg {bl:Bool}{cs vs ds:List AV}(hT:Dl P T=some (bl,n+1)) (hx:ρ x= .ptr b o) (hi:H[i]?=some (.box b cs)) (hy:EK (ρ y)=some vs) (hn:vs.length=n+1)
  (ho:Nat.ble (o+(n+1)) cs.length=true) (h1:vs.all one=true) (hd:splice cs o vs=ds):DU P ⟨dst,.store T x y,ty,pos,aft,g⟩ ρ H (.p .any) (H.set i (.box b ds)):=by
 subst hd;exact JH hT hx hi hy hn ho h1
end
def pt (k:ByteArray):List (ByteArray×AV)→Option AV
 | []=>none
 | (j,x)::r=>if j=k then some x else pt k r
def sset (k:ByteArray) (v:AV):List (ByteArray×AV)→List (ByteArray×AV)
 | []=>[(k,v)]
 | (j,x)::r=>if j=k then (j,v)::r else (j,x)::sset k v r
def rM (l:List (ByteArray×AV)):List (PV×AV):=l.map fun p=>(.str p.1,p.2)
def py (P:Program) (T:TypeId):Option TypeId :=
 match P.underlying T with
 | some (.map k e)=>match P.underlying k with
  | some .string=>some e
  | _=>none
 | _=>none
section
variable {F:Nat→Prop}{w:World}
end
section
variable {P:Program}{dst:Option Tmp}{ty:TypeId}{pos:String}{aft:Array Edge}{g:Option (Nat×Bool)}{ρ:Operand→AV}{H:List BD}{x y z:Operand}{v:AV}
end
section
variable {P:Program}{dst:Option Tmp}{ty:TypeId}{pos:String}{aft:Array Edge}{g:Option (Nat×Bool)}{ρ:Operand→AV}{H:List BD}{x y z:Operand}{v:AV}
def appendTR (i:Nat) (e:TypeId) (rows:List (List PV)) (H:List BD):D6→List BD→Prop
 | .val v,H'=>∃o c,v= .vs o rows.length c∧H'=H.set i (.vecT o e false rows c)
 | .panic _,_=>False
theorem Qy {a b:ByteArray}{T U:TypeId}(hx:ρ x= .p (.str a)) (hy:ρ y= .p (.str b)) (hsz:a.size+b.size≤9223372036854775807):DU P ⟨dst,.binOp .add T x y U,ty,pos,aft,g⟩ ρ H (.p (.str (a++b))) H :=
 CG fun F w E hH hE=>by
  have e1:=hE x Aa;have e2:=hE y Aa;rw[hx] at e1;rw[hy] at e2;simp only[B9,CE] at e1 e2;have hm:¬(((a.size+b.size:Nat):Int) > IntKind.i64.max):=by rw[show IntKind.i64.max=9223372036854775807 from rfl];omega
  have h1:(Op.stringOp .add a b).run P w= .ok (.string (a++b)) w:=by
   unfold Op.stringOp;simp only[if_neg hm];rfl
  exact⟨.string (a++b),by simp[execOp,Sem.run_bind,LD,e1,e2,binOp,h1],by simp[B9,CE]⟩
end
section
variable {P:Program}{r:Option Nat}{ops:Array Oper}{Q:Cf→Bk→Prop}{k:Nat}{n:Nat}{τ:Nat→AV}{H H':List BD}{D:List Dw}{dst:Option Tmp}{op:Op}{ty:TypeId}{pos:String}{aft:Array Edge}{g:Option (Nat×Bool)}{v:AV}
end
section
variable {P:Program}{dst:Option Tmp}{ty:TypeId}{pos:String}{aft:Array Edge}{g:Option (Nat×Bool)}{ρ:Operand→AV}{H:List BD}{x f:Operand}
end
section
variable {P:Program}{ops:Array Oper}{n:Nat}{τ₀ τ:Nat→AV}{D:List Dw}{Q:Cf→Bk→Prop}{opn:Nat→Bool}{k:Nat}{T:List BD}{dst:Option Tmp}{ty:TypeId}{pos:String}{aft:Array Edge}{c:Call}{f:Operand}{fid:FuncId}{first caps A:List AV}{v:AV}{C:List BD→Prop}
end
def YQ (l:List UInt8):List (List PV):=l.map fun b=>[PV.int .u8 b.toNat]
def BW (U e:TypeId) (b:Nat) (l:List UInt8) (T:List BD):Prop :=
 ∃a o cp,(a= .nilp∨a= .ptr b 0)∧T=[.boxT b U [a,.vs o (YQ l).length cp],.vecT o e false (YQ l) cp]
def BX (U e:TypeId) (b:Nat) (l:List UInt8) (T:List BD):Prop :=
 ∃a o cp fr,T=[.boxT b U [a,.vs (some o) (YQ l).length cp],.vecT (some o) e fr (YQ l) cp]
def rm (l:List UInt8):ByteArray:=⟨l.toArray⟩
section
variable {P:Program}{dst:Option Tmp}{ty:TypeId}{pos:String}{aft:Array Edge}{g:Option (Nat×Bool)}{ρ:Operand→AV}{H:List BD}{x y z:Operand}
end
theorem OK {α:Type}:∀(xs l:List α) (o:Nat),o+xs.length≤l.length→splice l o xs=l.take o++xs++l.drop (o+xs.length)
 | [],l,o,h=>by simp[splice]
 | x::xs,l,o,h=>by
  simp only[List.length_cons] at h;rw[splice,OK xs _ _ (by rw[List.length_set];omega)];have h1:(l.set o x).take (o+1)=l.take o++[x]:=by
   rw[List.take_add_one,List.getElem?_set_self An,List.take_set_of_le (Nat.le_refl _)];rfl
  have h2:(l.set o x).drop (o+1+xs.length)=l.drop (o+(x::xs).length):=by
   rw[List.drop_set_of_lt An];congr 1;simp only[List.length_cons];omega
  rw[h1,h2];simp
def GK:Nat→List (List PV)→List (Nat×AV)
 | _,[]=>[]
 | k,r::rs=>(k,.agg (r.map .p))::GK (k+1) rs
theorem VV {sz:Nat}:∀(rows:List (List PV)) (k:Nat) (base:List AV),(∀r∈rows,r.length=sz)→(k+rows.length)*sz=base.length→FB (fun i=>some (i*sz,sz)) base (GK k rows)=some (base.take (k*sz)++rows.flatten.map .p)
 | [],k,base,hr,hb=>by
  simp only[List.length_nil,Nat.add_zero] at hb;simp[GK,FB,hb]
 | r::rows,k,base,hr,hb=>by
  have hl:=hr r Ao;have hb2:k*sz+sz+rows.length*sz=base.length:=by
   rw[←hb,List.length_cons,Nat.add_mul,Nat.add_mul,Nat.one_mul];omega
  simp only[GK,FB,EK];rw[if_pos ⟨by simp[hl],by simp[hl];omega⟩,OK _ _ _ (by simp[hl];omega)];rw[VV rows (k+1) _ (fun x hx=>hr x (by simp[hx])) (by simp only[List.length_append,List.length_take,List.length_drop,List.length_map,hl];rw[Nat.add_mul,Nat.add_mul,Nat.one_mul];omega)];congr 1;have h1:((base.take (k*sz)++r.map AV.p)++base.drop (k*sz+(r.map AV.p).length)).take ((k+1)*sz)=base.take (k*sz)++r.map .p:=by
   have:(k+1)*sz=(base.take (k*sz)++r.map AV.p).length:=by
    simp only[List.length_append,List.length_take,List.length_map,hl];rw[Nat.add_mul,Nat.one_mul];omega
   rw[this,List.take_left'];rfl
  rw[h1];simp
theorem Oo {α:Type}{sz:Nat}:∀{rows:List (List α)},(∀r∈rows,r.length=sz)→chunks sz rows.length rows.flatten=rows
 | [],_=>rfl
 | r::rows,h=>by
  have hl:=h r Ao;simp only[List.length_cons,chunks,List.flatten_cons];rw[List.take_left' hl,List.drop_left' hl,Oo fun x hx=>h x (by simp[hx])]
theorem Q5:∀(rows:List (List PV)) (k:Nat),(∀r∈rows,∀c∈r,c≠ .nils)→(GK k rows).map (fun p=>(p.1,norm p.2))=GK k rows
 | [],k,h=>rfl
 | r::rows,k,h=>by
  simp only[GK,List.map_cons];show (k,AV.agg ((r.map AV.p).map dn))::_=_;rw[Q5 rows (k+1) fun x hx=>h x (by simp[hx])];congr 3;have:=h r Ao;clear h
  induction r with
  | nil=>rfl
  | cons c r ih =>
   simp only[List.map_cons];rw[ih fun d hd=>this d (by simp[hd])];have:=this c Ao;cases c<;>simp_all [dn]
section
variable {P:Program}{dst:Option Tmp}{ty:TypeId}{pos:String}{aft:Array Edge}{g:Option (Nat×Bool)}{ρ:Operand→AV}{H:List BD}
theorem P8:∀(r:List PV),Fy (r.map .p)=some r
 | []=>rfl
 | c::r=>by simp[Fy,P8 r]
theorem W3 {parts:Array (Nat×Operand)}{rows:List (List PV)}(hp:parts.toList.map (fun p=>(p.1,ρ p.2))=GK 0 rows) (hn:∀r∈rows,∀c∈r,c≠ .nils):parts.toList.map (fun p=>(p.1,norm (ρ p.2)))=GK 0 rows:=by
 have h2:=Q5 rows 0 hn;rw[←hp,List.map_map] at h2;rw[←hp];exact h2
theorem Bi {T e:TypeId}{len sz bytes:Nat}{parts:Array (Nat×Operand)}{z:Value}{rows:List (List PV)}(hT:E6 P T=some (e,sz,bytes)) (hz:zeroOf P e=some z) (hsz:z.cells.size=sz) (hpos:(Nat.blt 0 sz&&Nat.ble (len*sz) 16777216)=true)
  (hp:parts.toList.map (fun p=>(p.1,ρ p.2))=GK 0 rows) (hl:rows.length=len) (hr:∀r∈rows,r.length=sz) (hn:∀r∈rows,∀c∈r,c≠ .nils) :
  DU P ⟨dst,.buildSlice T len parts,ty,pos,aft,g⟩ ρ H (.p (.lst rows)) H:=by
 subst hl;refine Bx (cs:=rows.flatten.map .p) (ps:=rows.flatten) hT hz hsz hpos ?_ (P8 _) (Oo hr);rw[W3 hp hn,VV rows 0 _ hr (by simp[hsz])];simp
theorem PC {T e:TypeId}{len sz bytes:Nat}{parts:Array (Nat×Operand)}{z:Value}{cs:List AV}{ps:List PV}{rows:List (List PV)}(hT:E6 P T=some (e,sz,bytes)) (hz:zeroOf P e=some z) (hsz:z.cells.size=sz) (hpos:(Nat.blt 0 sz&&Nat.ble (len*sz) 16777216)=true)
  (hc:FB (fun i=>some (i*sz,sz)) (List.replicate len (z.cells.toList.map GH)).flatten (parts.toList.map fun p=>(p.1,norm (ρ p.2)))=some cs) (hp:Fy cs=some ps) (hr:chunks sz len ps=rows) :
  C9 P ⟨dst,.buildSlice T len parts,ty,pos,aft,g⟩ ρ H (LL sz rows H) :=
 GF fun F w E hH hE=>by
  obtain⟨hu,i,hi,hs,hby⟩:=EN hT;simp only[Bool.and_eq_true,Nat.blt_eq,Nat.ble_eq] at hpos;unfold zeroOf at hz;have hz':∃j,P.info? e=some j∧j.zero=some z:=by
   cases hq:P.info? e with
   | none=>simp[hq] at hz
   | some j=>exact⟨j,rfl,by simpa [hq] using hz⟩
  obtain⟨j,hj,hz'⟩:=hz';have hzv:(zeroValue e).run P w= .ok z w:=by simp[zeroValue,typeInfo,hj,hz',Sem.run_bind]
  have hzl:Bp F w (List.replicate len (z.cells.toList.map GH)).flatten (List.replicate len z.cells.toList).flatten:=Gr (GS _) len;obtain⟨us,hf,hrep⟩:=Il (F:=F) (w:=w) (place:=fun i=>some (i*sz,sz)) _ (parts.toList.map fun p=>(p.1,E p.2)) _ _ _ Ao (by
   intro j p q h1 h2;simp only[List.getElem?_map] at h1 h2;cases hj:parts.toList[j]? with
   | none=>simp[hj] at h1
   | some t =>
    simp[hj] at h1 h2;subst h1;subst h2;exact⟨O,(hE _ (by
     have:=List.mem_of_getElem? hj;simp only[Op.operands];exact List.mem_map.2 ⟨t,this,O⟩)).norm⟩) hzl hc
  have hcs:=HD hp;have hlen:ps.length=len*sz:=by
   have h1:cs.length=((List.replicate len (z.cells.toList.map GH)).flatten).length:=by
    clear hrep hp hcs hzl hf;generalize (List.replicate len (z.cells.toList.map GH)).flatten=l at hc;generalize (parts.toList.map fun p=>(p.1,norm (ρ p.2)))=q at hc
    induction q generalizing l with
    | nil=>simp[FB] at hc;rw[hc]
    | cons a q ih =>
     obtain⟨i,x⟩:=a;simp only[FB] at hc;cases hx:EK x with
     | none=>simp[hx] at hc
     | some c2 =>
      simp only[hx] at hc;split at hc
      ·rw[ih _ hc,F9]
      cases hc
   rw[hcs] at h1;simp only[List.length_map,List.length_flatten,List.map_replicate,List.sum_replicate_nat,Array.length_toList,hsz] at h1;exact h1
  obtain⟨c1,c2,c3⟩:=Kt hlen;rw[hr] at c1 c2 c3;have hul:us.length=ps.length:=by rw[hrep.length,hcs];simp
  obtain⟨v0,H0,F0,h10,h20,h30,h40⟩:=Nr (T:=e) (c:=len) (vs:=us) (H:=H) hH c2 (by rw[c1,←hul,List.take_length];rw[hcs] at hrep;exact hrep) An An;rw[c3] at h40;refine⟨_,_,v0,H0,F0,?_,h10,h20,h30,h40⟩;have hszr:(sizeOf e).run P w= .ok sz w:=by simp[sizeOf,typeInfo,hi,hs]
  have hzc:z.cells=⟨z.cells.toList⟩:=rfl;have hrm:=Ii z.cells.toList len;have hsz2:z.cells.toList.length=sz:=by simpa using hsz
  rw[hsz2] at hrm;have harr:((Array.range (len*sz)).map fun i=>z.cells[i % z.cells.size]!)=⟨(List.replicate len z.cells.toList).flatten⟩:=by
   apply Array.ext';exact hrm
  simp only[execOp,Instr.buildSlice,Sem.run_bind,run_underlying hu,Result.andThen_ok,hszr];rw[if_neg An];simp only[Sem.run_pure,Result.andThen_ok,Sem.run_bind,pure_bind];have hf':Instr.fill (fun i=>some (i*sz,sz)) ⟨(List.replicate len z.cells.toList).flatten⟩ (parts.map fun p=>(p.1,E p.2)).toList=some ⟨us⟩:=by
   rw[←hf];simp
  by_cases h00:len*sz=0
  ·have hl0:len=0:=by
    rcases Nat.mul_eq_zero.1 h00 with h | h
    ·exact h
    omega
   subst hl0;simp only[Nat.zero_mul,if_true];simp only[List.replicate_zero,List.flatten_nil] at hf';have e0:(Array.map (fun x=>(#[]:Array Value)[x % (#[]:Array Value).size]!) (Array.range 0))=(⟨[]⟩:Array Value):=by simp
   rw[e0,hf'];simp only[newRow,newObj,Sem.run_bind,Sem.run,Result.andThen,Sem.run_pure];rfl
  rw[if_neg h00];simp only[Sem.run_bind,hzv,Result.andThen_ok];rw[harr,hf'];simp only[newRow,newObj,Sem.run_bind,Sem.run,Result.andThen,Sem.run_pure];rfl
end
section
variable {P:Program}{ops:Array Oper}{n:Nat}{τ₀:Nat→AV}{D:List Dw}{Q:Cf→Bk→Prop}{opn:Nat→Bool}{k:Nat}{τ:Nat→AV}{H:List BD}{rd:V2}{ef:Uu}{effs:List Bool}{fx:List (Nat×Sp)}{dst:Option Tmp}{op:Op}{ty:TypeId}{pos:String}{aft:Array Edge}
end
section
variable {P:Program}{ty:TypeId}{pos:String}{aft:Array Edge}{g:Option (Nat×Bool)}{ρ:Operand→AV}{H:List BD}{x y:Operand}
theorem VZ {T T2 e e2:TypeId}{sz bytes n2 n3 d c i n:Nat}{o:Option Nat}{rows rows' all:List (List PV)}{zv:Value}(hT:E6 P T=some (e,sz,bytes)) (hT2:E6 P T2=some (e2,n2,n3)) (hz:zeroOf P e=some zv) (hzs:zv.cells.size=sz) (hb0:(Nat.blt 0 sz&&Nat.blt 0 bytes)=true)
  (hx:ρ x= .vs o n c) (hn:n=rows.length) (hi:H[i]?=some (.vec o sz rows c)) (hy:norm (ρ y)= .p (.lst rows')) (hsol:∀r∈rows',D2 sz r) (hroom:2*(rows.length+rows'.length)*bytes≤281474976710656) (hall:rows++rows'=all) :
  DU P ⟨some d,.call { callee:= .builtin .append,args:=#[x,y],argTypes:=#[T,T2] },ty,pos,aft,g⟩ ρ H (.p (.lst all)) (H.eraseIdx i):=by
 subst hall;intro r F S a w hs hH hρ hd;subst hH;have h:=Qb (P:=P) (dst:=some d) (ty:=ty) (pos:=pos) (aft:=aft) (g:=g) (ρ:=ρ) (H:=S.H) (i:=i) (o:=o) (rows:=rows) (n:=n) (c:=c) hT hT2 hz hzs hb0 hx hn hi hy hsol hroom r F S a w hs rfl hρ hd;refine LQ h ?_ ?_
 ·rintro a' w' ⟨v,H',F',⟨o',c',rfl,rfl⟩,hs',ht⟩;have hlt:=(List.getElem?_eq_some_iff.1 hi).1;obtain⟨F'',hs'',ht''⟩:=Cw (n:=S.n) (τ:=put S.τ (some d) (.vs o' (rows++rows').length c')) (H:=S.H.set i (.vec o' sz (rows++rows') c')) (D:=S.D) (i:=i) [d] (List.getElem?_set_self hlt) (fun t ht=>by simp at ht;subst ht;simp[put]) F' a' w' hs';have e:JG [d] (.p (.lst (rows++rows'))) (put S.τ (some d) (.vs o' (rows++rows').length c'))=put S.τ (some d) (.p (.lst (rows++rows'))):=by
   funext t;simp only[JG,put,List.any_cons,List.any_nil,Bool.or_false];cases Nat.beq t d<;>rfl
  have e2:(S.H.set i (.vec o' sz (rows++rows') c')).eraseIdx i=S.H.eraseIdx i:=List.eraseIdx_set_eq;simp only[e,e2] at hs'' ht'';exact⟨_,S.H.eraseIdx i,F'',⟨O,O⟩,hs'',ht.trans hs.heap.bd ht''⟩
 rintro e a' w' ⟨v,H',F',u,h,_⟩;exact h.elim
end
inductive Ey where
 | val (v:AV)
 | skip
 | new (cs:List AV)
 | newv (sz:Nat) (rows:List (List PV))
def Ey.v (b:Nat×Nat):Ey→AV
 | .val v=>v
 | .skip=> .tup []
 | .new _=> .ptr b.1 0
 | .newv _ rows=> .vs (some b.1) rows.length b.2
def Ey.box (b:Nat×Nat):Ey→List BD
 | .new cs=>[.box b.1 cs]
 | .newv sz rows=>[.vec (some b.1) sz rows b.2]
 | _=>[]
def jI (P:Program) (ops:Array Oper) (H₀:List BD) (o:Oper) (τ:Nat→AV):Ey→Prop
 | .val v=>Cg ops ⟨0,τ,[],[]⟩ o∧∀Bs,DU P o (ev τ) (Bs++H₀) v (Bs++H₀)
 | .skip=>∃j want d,o.guard=some (j,want)∧(ops[j]?).bind (·.dst)=some d∧eH (τ d) want
 | .new cs=>o.guard=none∧∀Bs,C9 P o (ev τ) (Bs++H₀) (H6 cs (Bs++H₀))
 | .newv sz rows=>o.guard=none∧∀Bs,C9 P o (ev τ) (Bs++H₀) (LL sz rows (Bs++H₀))
def EW (P:Program) (ops:Array Oper) (H₀:List BD):Nat→(Nat→AV)→List Ey→((Nat→AV)→List BD→Prop)→Prop
 | _,τ,[],K=>K τ []
 | k,τ,e::r,K=>∃o,ops[k]?=some o∧jI P ops H₀ o τ e∧∀b,EW P ops H₀ (k+1) (put τ o.dst (e.v b)) r (fun τ' Hs=>K τ' (e.box b++Hs))
def Nw (β:Nat→Nat×Nat):Nat→List Ey→List Sp
 | _,[]=>[]
 | k,e::r=> .free (e.v (β k))::Nw β (k+1) r
def mF (β:Nat→Nat×Nat):Nat→List Ey→List BD
 | _,[]=>[]
 | k,e::r=>e.box (β k)++mF β (k+1) r
def V3 (β:Nat→Nat×Nat) (l:Nat→Bool):Nat→List Ey→List BD
 | _,[]=>[]
 | k,e::r=>(if l k=true then e.box (β k) else [])++V3 β l (k+1) r
theorem PY (β:Nat→Nat×Nat):∀(r:List Ey) (k j:Nat),j<r.length→(Nw β k r).getD j .skip= .free ((r.getD j .skip).v (β (k+j)))
 | [],k,j,h=>by simp at h
 | e::r,k,0,h=>by simp[Nw]
 | e::r,k,j+1,h=>by
  have:=PY β r (k+1) j (by simpa using h);simp only[Nw,List.getD_cons_succ];rw[this,show k+1+j=k+(j+1) by omega]
theorem X3 (β:Nat→Nat×Nat):∀(r:List Ey) (k:Nat),(Nw β k r).length=r.length
 | [],k=>rfl
 | e::r,k=>by simp[Nw,X3 β r (k+1)]
theorem XX (β:Nat→Nat×Nat) {r:List Ey}{k j:Nat}(h:r.length≤j):(Nw β k r).getD j .skip= .skip:=by
 rw[List.getD_eq_getElem?_getD,List.getElem?_eq_none (by rw[X3];exact h)];rfl
theorem fI (β:Nat→Nat×Nat) (r:List Ey) (k j:Nat):((Nw β k r).getD j .skip).isEff=false:=by
 rcases Nat.lt_or_ge j r.length with h | h
 ·rw[PY β r k j h];rfl
 rw[XX β h];rfl
theorem aC (β:Nat→Nat×Nat) (r:List Ey) (k j:Nat) (ob:List BD) (v:AV):(Nw β k r).getD j .skip≠ .read ob v:=by
 rcases Nat.lt_or_ge j r.length with h | h
 ·rw[PY β r k j h];simp
 rw[XX β h];simp
theorem Pa (β:Nat→Nat×Nat) {r:List Ey}{j:Nat}(h:j<r.length):((Nw β 0 r).getD j .skip).val=(r.getD j .skip).v (β j):=by
 rw[PY β r 0 j h,Nat.zero_add];rfl
theorem EW.facts {P:Program}{ops:Array Oper}{H₀:List BD}{τ:Nat→AV}{base:List Ey}(β:Nat→Nat×Nat):∀(r:List Ey) (k:Nat) (τk:Nat→AV) (K:(Nat→AV)→List BD→Prop),base.drop k=r→k+r.length=base.length→τk=τS ops (Nw β 0 base) τ k→EW P ops H₀ k τk r K →
  (∀j,k≤j→j<base.length→∃o,ops[j]?=some o∧jI P ops H₀ o (τS ops (Nw β 0 base) τ j) (base.getD j .skip))∧K (τS ops (Nw β 0 base) τ base.length) (mF β k r)
 | [],k,τk,K,hd,hk,ht,h=>by
  simp only[List.length_nil,Nat.add_zero] at hk;subst hk;exact⟨fun j h1 h2=>by omega,by rw[←ht];exact h⟩
 | e::r,k,τk,K,hd,hk,ht,h=>by
  obtain⟨o,ho,hok,hn⟩:=h;simp only[List.length_cons] at hk;have hb:base.getD k .skip=e:=by
   have:(base.drop k)[0]?=some e:=by rw[hd];rfl
   rw[List.getElem?_drop] at this;rw[List.getD_eq_getElem?_getD,show k=k+0 by omega,this];rfl
  have hd2:base.drop (k+1)=r:=by
   rw[←List.drop_drop,hd];rfl
  obtain⟨h1,h2⟩:=EW.facts (τ:=τ) (base:=base) β r (k+1) _ _ hd2 An (by simp only[τS,ho,Option.bind_some];rw[Pa β An,hb,←ht]) (hn (β k));refine⟨fun j hj hl=>?_,h2⟩;by_cases e2:j=k
  ·subst e2;exact⟨o,ho,by rw[hb,←ht];exact hok⟩
  exact h1 j An hl
theorem Of {β β':Nat→Nat×Nat}{l l':Nat→Bool}:∀(r:List Ey) (k:Nat),(∀j,k≤j→l j=l' j∧(l j=true→β j=β' j))→V3 β l k r=V3 β' l' k r
 | [],k,h=>rfl
 | e::r,k,h=>by
  simp only[V3];obtain⟨h1,h2⟩:=h k (Nat.le_refl _);rw[Of r (k+1) fun j hj=>h j An,←h1];cases hl:l k
  ·rfl
  rw[h2 hl]
theorem YR {β:Nat→Nat×Nat}{l:Nat→Bool}{i:Nat}{b:Nat×Nat}(hi:l i=false):∀(r:List Ey) (k:Nat),k≤i→i<k+r.length→((r.getD (i - k) .skip).box b++V3 β l k r).Perm (V3 (fun j=>if j=i then b else β j) (fun j=>l j||j==i) k r)
 | [],k,h1,h2=>by simp at h2;omega
 | e::r,k,h1,h2=>by
  simp only[V3];by_cases hk:k=i
  ·subst hk;simp only[hi,Bool.false_eq_true,if_false,List.nil_append,Nat.sub_self,List.getD_cons_zero,beq_self_eq_true,Bool.or_true,if_true];rw[Of (β':=fun j=>if j=k then b else β j) (l':=fun j=>l j||j==k) r (k+1) fun j hj=>⟨by simp[show (j==k)=false by simp;omega],fun _=>by rw[if_neg An]⟩]
  have hp:=YR (β:=β) hi r (k+1) (b:=b) An (by simp only[List.length_cons] at h2;omega);have e1:(e::r).getD (i - k) .skip=r.getD (i - (k+1)) .skip:=by
   rw[show i - k=(i - (k+1))+1 by omega];rfl
  have e2:(if (l k||k==i)=true then e.box (if k=i then b else β k) else [])=(if l k=true then e.box (β k) else []):=by
   rw[if_neg hk];simp[hk]
  rw[e1,e2];refine List.Perm.trans ?_ (hp.append_left _);rw[←List.append_assoc,←List.append_assoc];exact List.perm_append_comm.append_right _
theorem Xy {β:Nat→Nat×Nat}{l:Nat→Bool}:∀(r:List Ey) (k:Nat),(∀j,k≤j→j<k+r.length→l j=true)→V3 β l k r=mF β k r
 | [],k,h=>rfl
 | e::r,k,h=>by
  simp only[V3,mF];rw[if_pos (h k (Nat.le_refl _) Ao),Xy r (k+1) fun j h1 h2=>h j An (by simp only[List.length_cons];omega)]
theorem VU {β:Nat→Nat×Nat}{l:Nat→Bool}:∀(r:List Ey) (k:Nat),(∀j,l j=false)→V3 β l k r=[]
 | [],k,h=>rfl
 | e::r,k,h=>by simp only[V3];rw[VU r (k+1) h,h k];rfl
def ia (ops:Array Oper) (e:Nat):Bool:=(List.range ops.size).all fun i=>Nat.blt i e||(List.range i).all fun j=>L8 ops j i
theorem RR {ops:Array Oper}{e:Nat}(h:ia ops e=true) {i j:Nat}(hi:e≤i) (hs:i<ops.size) (hj:j<i):Pred ops j i:=by
 have:=List.all_eq_true.1 h i (by simpa using hs);simp only[Bool.or_eq_true] at this;rcases this with h1 | h1
 ·rw[Nat.blt_eq] at h1;omega
 exact ES (List.all_eq_true.1 h1 j (by simpa using hj))
theorem Ph {P:Program}{r:Option Nat}{ops:Array Oper}{id n:Nat}{τ:Nat→AV}{H:List BD}{D:List Dw}{Q:Cf→Bk→Prop}(base:List Ey) (hm:P.follows .mixedOrders=true)
  (he:Nat.ble base.length ops.size=true) (chk:ML ops n []=true) (late:ia ops base.length=true) (h:EW P ops H 0 τ base (fun τ' Hs=>AL P r ops base.length ⟨n,τ',Hs++H,D⟩ Q)):IP P r (.region id ops true) ⟨n,τ,H,D⟩ Q:=by
 intro F₀ a₀ w₀ hs₀;rw[Nat.ble_eq] at he;refine wpIn_region_any hm ?_;have same:DF F₀ w₀ F₀ { w₀ with drawn:=w₀.drawn+1 }:=⟨Nat.le_refl _,fun _ _ _=>rfl,fun _ h _=>h⟩;have t₀:Trans F₀ H w₀ F₀ H { w₀ with drawn:=w₀.drawn+1 } :=
  ⟨Nat.le_refl _,fun _ _ _=>rfl,fun _ h _=>h,fun _ h=> .inl h,fun o ho b hb=> .inl ⟨o,ho,hb⟩,rfl,rfl,rfl⟩
 have hs₁:DP F₀ ⟨n,τ,H,D⟩ a₀ { w₀ with drawn:=w₀.drawn+1 } :=
  ⟨hs₀.size,fun t=>B9.mono same _ _ (hs₀.tmp t),hs₀.heap.stable' same (fun _ h=>h) (fun _ _ _ _=>rfl) hs₀.heap.bd,Ei.mono same _ _ hs₀.defs⟩
 obtain⟨hdst,c0,c1,c2,_⟩:=Jm chk;have hd:∀β,M6 P ops n (fun _=>False) τ H (Nw β 0 base):=fun β =>
  ⟨hdst,fun _ _ _ h=>h.elim,c0,c1,c2,fun i k _ _ h _=>(by rw[fI] at h;cases h),fun i e ob v _ _ _ h _ _=>absurd h (aC β base 0 i ob v)⟩
 have hE:∀β,(∀j,j<base.length→∃o,ops[j]?=some o∧jI P ops H o (τS ops (Nw β 0 base) τ j) (base.getD j .skip))∧AL P r ops base.length ⟨n,τS ops (Nw β 0 base) τ base.length,mF β 0 base++H,D⟩ Q:=fun β=>by
  obtain⟨h1,h2⟩:=EW.facts (base:=base) β base 0 τ _ Ao Ao rfl h;exact⟨fun j hj=>h1 j (Nat.zero_le _) hj,h2⟩
 -- where all of the first part has been carried out,the rest goes in the order of the text
 have conv:∀{l:Array Bool} {a w β τ' F Hb},(∀j,j<base.length→l.getD j false=true)→(∀k,base.length≤k→l.getD k false=false)→Fx ops (Nw β 0 base) τ (fun i=>l.getD i false=true) τ'→Hb.Perm (V3 β (fun k=>l.getD k false) 0 base)→DP F ⟨n,τ',Hb++H,D⟩ a w→Trans F₀ H w₀ F (Hb++H) w →
   wpOpsIn (W r) 0 P ops (post F₀ H w₀ Q) (List.range' base.length (ops.size - base.length)) a w:=by
  intro l a w β τ' F Hb hall hno hτ hp hs ht;have hτe:τ'=τS ops (Nw β 0 base) τ base.length:=by
   funext t;have h2:=Ln (hd β) base.length he t;by_cases hw:∃(k:Nat) (o':Oper),ops[k]?=some o'∧o'.dst=some t∧k<base.length
   ·obtain⟨k,o',ho',hk,hlt⟩:=hw;rw[(hτ t).1 k o' ho' hk (hall k hlt),h2.1 k o' ho' hk hlt]
   have hw':∀(k:Nat) o',ops[k]?=some o'→o'.dst=some t→¬k<base.length:=fun k o' h1 h2 h3=>hw ⟨k,o',h1,h2,h3⟩;rw[(hτ t).2 fun k o' h1 h2 h3=>(by have h4:l.getD k false=true:=h3;have:=hno k (by have:=hw' k o' h1 h2;omega);rw[this] at h4;cases h4),h2.2 fun k o' h1 h2 h3=>hw' k o' h1 h2 h3]
  rw[Xy base 0 fun j _ hj=>hall j An] at hp;have hp2:=hp.append_right H;have:=(hE β).2 F a w (by rw[←hτe];exact⟨hs.size,hs.tmp,hs.heap.perm hp2,hs.defs⟩);refine ER (fun e a' w' hq=>?_) _ _ _ this;exact GW hs₀.heap.bd { ht with keys:=fun o ho=>ht.keys o (hp2.mem_iff.2 ho) } hq
 refine JT (I:=fun l a w=>l.size=ops.size∧((∃β τ' F Hb,Down ops (fun i=>l.getD i false=true)∧(∀k,base.length≤k→l.getD k false=false)∧Fx ops (Nw β 0 base) τ (fun i=>l.getD i false=true) τ'∧Hb.Perm (V3 β (fun k=>l.getD k false) 0 base)∧DP F ⟨n,τ',Hb++H,D⟩ a w∧Trans F₀ H w₀ F (Hb++H) w) ∨
  (∃m,base.length≤m∧m≤ops.size∧(∀k,k<ops.size→(l.getD k false=true↔k<m))∧wpOpsIn (W r) 0 P ops (post F₀ H w₀ Q) (List.range' m (ops.size - m)) a w))) (fun l a w h=>h.1) ?_ ?_ _ _ _ _ ?_ ?_
 ·rintro l a w ⟨hsz,hI⟩ i hi;obtain⟨hun,o,ho,hall⟩:=mem_ready.1 hi;have hlt:i<ops.size:=by
   rcases Nat.lt_or_ge i ops.size with h | h
   ·exact h
   simp[Array.getElem?_eq_none h] at ho
  have hil:i<l.size:=by omega
  have hnot:l.getD i false=false:=by
   have:l[i]=false:=by simpa [hil] using hun
   simp[hil,this]
  have hr:∀j∈Dt o,l.getD j false=true:=by
   intro j hj;simp only[Dt,List.mem_map,List.mem_filter] at hj;obtain⟨e,⟨he,hb⟩,rfl⟩:=hj;exact hall e (by simpa using he) hb
  have hset:∀k,(l.setIfInBounds i true).getD k false=true↔(l.getD k false=true∨k=i):=by
   intro k;by_cases hk:k=i
   ·subst hk;simp[hil]
   simp[Array.getElem?_setIfInBounds_ne (Ne.symm hk),hk]
  have hset2:∀k,(l.setIfInBounds i true).getD k false=(l.getD k false||k==i):=by
   intro k;by_cases hk:k=i
   ·subst hk;simp[hil]
   simp[Array.getElem?_setIfInBounds_ne (Ne.symm hk),hk]
  have hsz':(l.setIfInBounds i true).size=ops.size:=by simp[hsz]
  have goLate:∀m,i=m→base.length≤m→m≤ops.size→(∀k,k<ops.size→(l.getD k false=true↔k<m))→wpOpsIn (W r) 0 P ops (post F₀ H w₀ Q) (List.range' m (ops.size - m)) a w →
    wpOpIn (W r) 0 P ops (post F₀ H w₀ Q) i (fun a w=>(l.setIfInBounds i true).size=ops.size∧((∃β τ' F Hb,Down ops (fun k=>(l.setIfInBounds i true).getD k false=true)∧(∀k,base.length≤k→(l.setIfInBounds i true).getD k false=false)∧Fx ops (Nw β 0 base) τ (fun k=>(l.setIfInBounds i true).getD k false=true) τ'∧Hb.Perm (V3 β (fun k=>(l.setIfInBounds i true).getD k false) 0 base)∧DP F ⟨n,τ',Hb++H,D⟩ a w∧Trans F₀ H w₀ F (Hb++H) w) ∨
     (∃m,base.length≤m∧m≤ops.size∧(∀k,k<ops.size→((l.setIfInBounds i true).getD k false=true↔k<m))∧wpOpsIn (W r) 0 P ops (post F₀ H w₀ Q) (List.range' m (ops.size - m)) a w))) a w:=by
   intro m him h1 h2 h3 hw;subst him;rw[J9 hlt,wpOpsIn_cons] at hw;refine wpOpIn_mono (fun a' w' h'=>⟨hsz',.inr ⟨i+1,by omega,by omega,fun k hk=>?_,h'⟩⟩) hw;rw[hset k,h3 k hk];omega
  rcases hI with ⟨β,τ',F,Hb,hdown,hno,hτ,hp,hs,ht⟩ | ⟨m,hm1,hm2,hm3,hw⟩
  ·rcases Nat.lt_or_ge i base.length with hib | hib
   ·-- of the first part
    obtain⟨o',ho',hok⟩:=(hE β).1 i hib;rw[ho] at ho';injection ho' with ho';subst ho';have hlook:∀t∈looks ops o,τ' t=τS ops (Nw β 0 base) τ i t:=fun t ht=>Jn (hd β) hdown hτ ho (by rw[hnot];decide) hr ht;have hops:∀x∈o.op.operands.toList,ev τ' x=ev (τS ops (Nw β 0 base) τ i) x:=by
     intro x hx;cases x with
     | tmp t=>exact hlook t (List.mem_append_left _ (List.mem_filterMap.2 ⟨.tmp t,hx,rfl⟩))
     | _=>rfl
    have hguard:∀j want d,o.guard=some (j,want)→(ops[j]?).bind (·.dst)=some d→τ' d=τS ops (Nw β 0 base) τ i d:=by
     intro j want d hg hj;refine hlook d (List.mem_append_right _ ?_);simp[hg,hj]
    have hdown':Down ops (fun k=>(l.setIfInBounds i true).getD k false=true):=by
     intro k o' j ho' hk hj;rcases (hset k).1 hk with h | h
     ·exact(hset j).2 (.inl (hdown k o' j ho' h hj))
     subst h;rw[ho] at ho';injection ho' with ho';subst ho';exact(hset j).2 (.inl (hr j hj))
    have hno':∀k,base.length≤k→(l.setIfInBounds i true).getD k false=false:=by
     intro k hk;rw[hset2 k,hno k hk];simp;omega
    generalize hbe:base.getD i .skip=e at hok;have close:∀{a' w' F' b H'},H'=e.box b++(Hb++H)→DP F' ⟨n,put τ' o.dst (e.v b),H',D⟩ a' w'→Trans F (Hb++H) w F' H' w' →
      (l.setIfInBounds i true).size=ops.size∧((∃β τ' F Hb,Down ops (fun k=>(l.setIfInBounds i true).getD k false=true)∧(∀k,base.length≤k→(l.setIfInBounds i true).getD k false=false)∧Fx ops (Nw β 0 base) τ (fun k=>(l.setIfInBounds i true).getD k false=true) τ'∧Hb.Perm (V3 β (fun k=>(l.setIfInBounds i true).getD k false) 0 base)∧DP F ⟨n,τ',Hb++H,D⟩ a' w'∧Trans F₀ H w₀ F (Hb++H) w') ∨
       (∃m,base.length≤m∧m≤ops.size∧(∀k,k<ops.size→((l.setIfInBounds i true).getD k false=true↔k<m))∧wpOpsIn (W r) 0 P ops (post F₀ H w₀ Q) (List.range' m (ops.size - m)) a' w')):=by
     intro a' w' F' b H' hH h3 h4;subst hH;refine⟨hsz',.inl ⟨fun j=>if j=i then b else β j,put τ' o.dst (e.v b),F',e.box b++Hb,hdown',hno',?_,?_,by rw[List.append_assoc];exact h3,by rw[List.append_assoc];exact ht.trans hs₀.heap.bd h4⟩⟩
     ·have hτ2:Fx ops (Nw (fun j=>if j=i then b else β j) 0 base) τ (fun k=>l.getD k false=true) τ':=by
       intro t;refine⟨fun k o' a1 a2 a3=>?_,(hτ t).2⟩;have a4:l.getD k false=true:=a3;have hki:k≠i:=fun e=>by subst e;rw[hnot] at a4;cases a4
       rw[(hτ t).1 k o' a1 a2 a3];rcases Nat.lt_or_ge k base.length with hk | hk
       ·rw[Pa _ hk,Pa _ hk,if_neg hki]
       have:=hno k hk;rw[this] at a4;cases a4
      have hτ3:=hτ2.put (hd _) ho;rw[Pa _ hib,if_pos rfl,hbe] at hτ3;intro t;exact⟨fun k o' a1 a2 a3=>(hτ3 t).1 k o' a1 a2 ((hset k).1 a3),fun hn=>(hτ3 t).2 fun k o' a1 a2 a3=>hn k o' a1 a2 ((hset k).2 a3)⟩
     have h1:=YR (β:=β) (l:=fun k=>l.getD k false) (i:=i) (b:=b) hnot base 0 (Nat.zero_le _) An;rw[Nat.sub_zero,hbe] at h1;refine(hp.append_left _).trans (h1.trans (List.Perm.of_eq ?_));exact Of base 0 fun j _=>⟨(hset2 j).symm,fun _=>O⟩
    have wants:Cg ops ⟨0,τS ops (Nw β 0 base) τ i,[],[]⟩ o→Cg ops ⟨n,τ',Hb++H,D⟩ o:=by
     intro h;unfold Cg at *;cases hg:o.guard with
     | none=>simp[hg]
     | some jw =>
      obtain⟨j,want⟩:=jw;simp only[hg] at h ⊢;obtain⟨d,h1,h2⟩:=h;exact⟨d,h1,by rw[←h2];exact hguard j want d hg h1⟩
    have yields:Cg ops ⟨n,τ',Hb++H,D⟩ o→C9 P o (ev (τS ops (Nw β 0 base) τ i)) (Hb++H) (fun r H'=>match r with | .val v=>∃b,v=e.v b∧H'=e.box b++(Hb++H) | .panic _=>False)→wpOpIn (W r) 0 P ops (post F₀ H w₀ Q) i (fun a' w'=>(l.setIfInBounds i true).size=ops.size∧((∃β τ' F Hb,Down ops (fun k=>(l.setIfInBounds i true).getD k false=true)∧(∀k,base.length≤k→(l.setIfInBounds i true).getD k false=false)∧Fx ops (Nw β 0 base) τ (fun k=>(l.setIfInBounds i true).getD k false=true) τ'∧Hb.Perm (V3 β (fun k=>(l.setIfInBounds i true).getD k false) 0 base)∧DP F ⟨n,τ',Hb++H,D⟩ a' w'∧Trans F₀ H w₀ F (Hb++H) w') ∨
       (∃m,base.length≤m∧m≤ops.size∧(∀k,k<ops.size→((l.setIfInBounds i true).getD k false=true↔k<m))∧wpOpsIn (W r) 0 P ops (post F₀ H w₀ Q) (List.range' m (ops.size - m)) a' w'))) a w:=by
     intro hwant hop;unfold wpOpIn;simp only[ho,HL hs hwant,if_true];have hw:=hop r F _ a w hs rfl (fun x hx=>hops x hx) (fun t ht=>hdst i o t ho ht);unfold Oper.wpIn at *;refine⟨hw.1,?_⟩;replace hw:=hw.2;generalize (o.semAt (W r).round a.eval).run P w=rr at *;cases rr with
     | ok nx w' =>
      cases nx<;>simp only[Oper.uponIn] at hw ⊢
      case value u=>obtain⟨v',H'',F',⟨b,h1,h2⟩,h3,h4⟩:=hw;subst h1;exact close h2 h3 h4
      case skip=>obtain⟨v',H'',F',⟨b,h1,h2⟩,h3,h4⟩:=hw;subst h1;exact close h2 h3 h4
      case defer d=>obtain⟨v',H'',F',⟨b,h1,h2⟩,h3,h4⟩:=hw;subst h1;exact close h2 h3 h4
      case enter f args =>
       refine⟨hw.1,hw.2.mono fun e w'' he=>?_⟩;cases e with
       | returned u=>obtain⟨v',H'',F',⟨b,h1,h2⟩,h3,h4⟩:=he;subst h1;exact close h2 h3 h4
       | panicked c=>obtain⟨_,_,_,_,h,_⟩:=he;exact h.elim
       | outgrown=>obtain⟨_,_,_,_,_,_,h,_⟩:=he;exact h.elim
      case row row args=>exact⟨hw.1,hw.2.mono fun u w'' h=>by obtain⟨v',H'',F',⟨b,h1,h2⟩,h3,h4⟩:=h;subst h1;exact close h2 h3 h4⟩
      case round l' f tmps assign body =>
       refine⟨hw.1,hw.2.mono fun e w'' he=>?_⟩;cases e with
       | returned u=>obtain⟨v',H'',F',⟨b,h1,h2⟩,h3,h4⟩:=he;subst h1;exact close h2 h3 h4
       | panicked c=>obtain⟨_,_,_,_,h,_⟩:=he;exact h.elim
       | outgrown=>obtain⟨_,_,_,_,_,_,h,_⟩:=he;exact h.elim
     | halt x w' =>
      cases x<;>simp only[Oper.uponIn] at hw ⊢
      case panic u=>obtain⟨_,_,_,_,h,_⟩:=hw;exact h.elim
    cases e with
    | val v=>exact yields (wants hok.1) ((hok.2 Hb).mono (by
      intro r H' hR;cases r with
      | val v'=>obtain⟨rfl,rfl⟩:=hR;exact⟨(0,0),rfl,rfl⟩
      | panic v'=>exact hR.elim))
    | new cs =>
     refine yields (by unfold Cg;rw[hok.1];trivial) ((hok.2 _).mono ?_);intro r H' hR;cases r with
     | val v'=>obtain⟨b,rfl,rfl⟩:=hR;exact⟨(b,0),rfl,rfl⟩
     | panic v'=>exact hR.elim
    | newv sz rows =>
     refine yields (by unfold Cg;rw[hok.1];trivial) ((hok.2 _).mono ?_);intro r H' hR;cases r with
     | val v'=>obtain⟨b,c,rfl,rfl⟩:=hR;exact⟨(b,c),rfl,rfl⟩
     | panic v'=>exact hR.elim
    | skip =>
     obtain⟨j,want,d,hg,hj,hb⟩:=hok;have hw:Region.wanted o (yielded ops a.tmps)=false:=Jr (S:=⟨n,τ',Hb++H,D⟩) hs hg hj (by show eH (τ' d) want;rw[hguard j want d hg hj];exact hb);unfold wpOpIn;simp only[ho,hw,Bool.false_eq_true,if_false];refine⟨fun _ _=>Ap,close (b:=(0,0)) O ?_ .refl⟩;exact hs.put (fun t ht=>hdst i o t ho ht) ⟨Nat.le_refl _,fun _ _ _=>O,fun _ h _=>h⟩ hs.heap (by simp only[Ey.v,B9,Bp,undef];exact⟨[],rfl,rfl⟩)
   -- the first of the rest
   have hpre:∀j,j<i→l.getD j false=true:=by
    intro j hj;have hpi:=RR late hib hlt hj;have:∀{a b},Pred ops a b→b=i→l.getD a false=true:=by
     intro a b hab
     induction hab with
     | base ho' hj=>intro e;subst e;rw[ho] at ho';injection ho' with ho';subst ho';exact hr _ hj
     | trans p1 _ _ ih2=>intro e;exact hdown.pred p1 (ih2 e)
    exact this hpi O
   have hie:i=base.length:=by
    rcases Nat.lt_or_ge base.length i with h | h
    ·have h1:=hpre base.length h;rw[hno base.length (Nat.le_refl _)] at h1;cases h1
    omega
   refine goLate base.length hie (Nat.le_refl _) he (fun k hk=>⟨fun h=>?_,fun h=>hpre k An⟩) (conv (fun j hj=>hpre j An) hno hτ hp hs ht);rcases Nat.lt_or_ge k base.length with h' | h'
   ·exact h'
   rw[hno k h'] at h;cases h
  have hmi:m≤i:=by
   rcases Nat.lt_or_ge i m with h | h
   ·have:=(hm3 i hlt).2 h;rw[hnot] at this;cases this
   exact h
  have him:i=m:=by
   rcases Nat.lt_or_ge m i with h | h
   ·have hpi:=RR late (by omega:base.length≤i) hlt h;have hdown:∀{a b},Pred ops a b→b=i→l.getD a false=true:=by
     intro a b hab
     induction hab with
     | base ho' hj=>intro e;subst e;rw[ho] at ho';injection ho' with ho';subst ho';exact hr _ hj
     | @trans a k b p1 p2 _ ih2 =>
      intro e;have hk:=ih2 e;have hks:k<ops.size:=by
       rcases Nat.lt_or_ge k ops.size with h | h
       ·exact h
       have:l.getD k false=false:=by
        have:¬k<l.size:=by omega
        simp[this]
       rw[this] at hk;cases hk
      have hkm:=(hm3 k hks).1 hk;have hak:a<k:=Pred.lt (hd fun _=>(0,0)) p1;exact(hm3 a An).2 An
    have:=(hm3 m An).1 (hdown hpi rfl);omega
   omega
  exact goLate m him hm1 hm2 hm3 hw
 ·rintro l a w ⟨hsz,hI⟩ hr;have hall:∀i,i<ops.size→l.getD i false=true:=by
   intro i
   induction i using Nat.strongRecOn with
   | _ i ih =>
    intro hi;cases hq:l.getD i false with
    | true=>rfl
    | false =>
     have ho:ops[i]?=some ops[i]:=Array.getElem?_eq_getElem hi;have:i∈Region.ready .any ops l:=by
      refine mem_ready.2 ⟨?_,ops[i],ho,?_⟩
      ·have:i<l.size:=by omega
       simp[this] at hq ⊢;exact hq
      intro e he hb;have hj:e.on∈Dt ops[i]:=by
       simp only[Dt,List.mem_map,List.mem_filter];exact⟨e,⟨by simpa using he,hb⟩,rfl⟩
      have hlt:=c0 i _ _ ho hj;exact ih e.on hlt An
     rw[hr] at this;cases this
  rcases hI with ⟨β,τ',F,Hb,hdown,hno,hτ,hp,hs,ht⟩ | ⟨m,hm1,hm2,hm3,hw⟩
  ·have hbs:base.length=ops.size:=by
    rcases Nat.lt_or_ge base.length ops.size with h | h
    ·have:=hall base.length h;rw[hno base.length (Nat.le_refl _)] at this;cases this
    omega
   have:=conv (fun j hj=>hall j An) hno hτ hp hs ht;rw[hbs,Nat.sub_self] at this;exact this
  have hms:m=ops.size:=by
   rcases Nat.lt_or_ge m ops.size with h | h
   ·have:=(hm3 m h).1 (hall m h);omega
   omega
  rw[hms,Nat.sub_self] at hw;exact hw
 ·refine⟨by simp,.inl ⟨fun _=>(0,0),τ,F₀,[],?_,?_,?_,?_,hs₁,t₀⟩⟩
  ·intro i o j ho hi;by_cases h:i<ops.size<;>simp[h] at hi
  ·intro k _;by_cases h:k<ops.size<;>simp[h]
  ·intro t;refine⟨fun k o ho hk hl=>?_,fun _=>O⟩;by_cases h:k<ops.size<;>simp[h] at hl
  rw[VU base 0 fun j=>by by_cases h:j<ops.size<;>simp[h]]
 have:=List.length_filter_le (fun b:Bool=> !b) (Array.replicate ops.size false).toList;simp at this ⊢
section
variable {P:Program}{ops:Array Oper}{H₀:List BD}{k:Nat}{τ:Nat→AV}{r:List Ey}{K:(Nat→AV)→List BD→Prop}{dst:Option Tmp}{op:Op}{ty:TypeId}{pos:String}{aft:Array Edge}{v:AV}
theorem Cz (ho:ops[k]?=some ⟨dst,op,ty,pos,aft,none⟩) (h:∀Bs,DU P ⟨dst,op,ty,pos,aft,none⟩ (ev τ) (Bs++H₀) v (Bs++H₀)) (next:EW P ops H₀ (k+1) (put τ dst v) r K):EW P ops H₀ k τ (.val v::r) K :=
 ⟨_,ho,⟨trivial,h⟩,fun _=>next⟩
theorem Qh {cs:List AV}(ho:ops[k]?=some ⟨dst,op,ty,pos,aft,none⟩) (h:∀Bs,C9 P ⟨dst,op,ty,pos,aft,none⟩ (ev τ) (Bs++H₀) (H6 cs (Bs++H₀))) (next:∀b,EW P ops H₀ (k+1) (put τ dst (.ptr b 0)) r (fun τ' Hs=>K τ' (.box b cs::Hs))):EW P ops H₀ k τ (.new cs::r) K :=
 ⟨_,ho,⟨rfl,h⟩,fun b=>next b.1⟩
theorem TS (h:K τ []):EW P ops H₀ k τ [] K:=h
theorem CM {α:Type}{Bs H:List α}{j:Nat}{x:α}(h:H[j]?=some x):(Bs++H)[Bs.length+j]?=some x:=by
 rw[List.getElem?_append_right An,Nat.add_sub_cancel_left];exact h
end
def lW (ops:Array Oper) (k:Nat) (ef:Uu):List BD→Prop
 | []=>True
 | ob::r=>Wy ops k ob ef∧lW ops k ef r
section
variable {P:Program}{ops:Array Oper}{n:Nat}{τ₀:Nat→AV}{D:List Dw}{Q:Cf→Bk→Prop}{opn:Nat→Bool}{k:Nat}{τ:Nat→AV}{H Hs:List BD}{rd:V2}{ef:Uu}{effs:List Bool}{fx:List (Nat×Sp)}{dst:Option Tmp}{ty:TypeId}{pos:String}{aft:Array Edge}{v:AV}{c:Call}{f:Operand}{fid:FuncId}{first caps A:List AV}
end
def n4 (P:Program) (T:TypeId):Bool :=
 match P.underlying T with
 | some (.struct fs)=>match fs.toList with
  | [f,g]=>f.name != "_" &&g.name != "_" &&Nat.beq f.offset 0&&Nat.beq g.offset 1&&(match P.underlying f.type,P.underlying g.type with | some (.int .i64),some .bool=>true | _,_=>false)&& !P.stoodInHeld T&& !P.eqGuardType P.depth T
  | _=>false
 | _=>false
section
variable {P:Program}{dst:Option Tmp}{ty:TypeId}{pos:String}{aft:Array Edge}{g:Option (Nat×Bool)}{ρ:Operand→AV}{H:List BD}{x y z:Operand}{v:AV}
end
theorem TK {α:Type}{base T xs:List α}{is:List Nat}(hn:is.Nodup) (h:E0 base is xs):(base++T).Perm (xs++(Cp is 0 base++T)):=by
 rw[←List.append_assoc];exact(DA hn h).append_right T
theorem Rk {α:Type}{base T xs rest:List α}{is:List Nat}(hn:is.Nodup) (h:E0 base is xs) (hd:Cp is 0 base=rest):(base++T).Perm (xs++(rest++T)):=by
 subst hd;exact TK hn h
theorem KW {P:Program}{fn:Func}{R:D6→List BD→Prop}{S:Bk}{Hs:List BD}(h:Kj P fn S R [] .ret Hs):∀U:List Nat,Kj P fn S R (U.map .mark) .ret (Hs++U.map .dfr)
 | []=>by simpa using h
 | d::U=>by
  refine⟨Hs.length,by simp,?_⟩;have:(Hs++(d::U).map BD.dfr).eraseIdx Hs.length=Hs++U.map BD.dfr:=by
   rw[List.eraseIdx_append_of_length_le (Nat.le_refl _)];simp
  rw[this];exact KW h U
theorem Ov {P:Program}{fn:Func}{R:D6→List BD→Prop}{n:Nat}{τ:Nat→AV}(U:List Nat) {Hs:List BD}(h:Kj P fn ⟨n,τ,Hs++U.map .dfr,U.map .mark⟩ R [] .ret Hs):Z4 P fn R .ret ⟨n,τ,Hs++U.map .dfr,U.map .mark⟩ :=
 KW h U
theorem VE {P:Program}{l d i:Nat}{S:Bk}{Q:Cf→Bk→Prop}{v:AV}{H':List BD}{L:NV}(H2:List BD) (h1:H'[i]?=some (.loop l L)) (hs:L.state≠ .busy) (hp:L.pending=none) (he:H'.eraseIdx i=H2) (h:Q .normal ⟨S.n,S.τ,H2,.mark d::S.D⟩):T8 P l d S Q (.val v) H':=by
 subst he;exact⟨i,L,h1,hs,by rw[hp];exact h⟩
theorem WR {P:Program}{l d i:Nat}{S:Bk}{Q:Cf→Bk→Prop}{v:AV}{H':List BD}{L:NV}(H2:List BD) (h1:H'[i]?=some (.loop l L)) (hs:L.state≠ .busy) (hp:L.pending=some .ret) (he:H'.eraseIdx i=H2) (h:IP P none .ret ⟨S.n,S.τ,H2,.mark d::S.D⟩ Q):T8 P l d S Q (.val v) H':=by
 subst he;exact⟨i,L,h1,hs,by rw[hp];exact h⟩
abbrev BV:=Nat×Nat×AV
inductive Ez where
 | val (v:AV)
 | skip
 | new (cs:List AV)
 | newv (sz:Nat) (rows:List (List PV))
 | rel (R:AV→Prop)
def Ez.v (b:BV):Ez→AV
 | .val v=>v
 | .skip=> .tup []
 | .new _=> .ptr b.1 0
 | .newv _ rows=> .vs (some b.1) rows.length b.2.1
 | .rel _=>b.2.2
def Ez.box (b:BV):Ez→List BD
 | .new cs=>[.box b.1 cs]
 | .newv sz rows=>[.vec (some b.1) sz rows b.2.1]
 | _=>[]
def Ez.ok (b:BV):Ez→Prop
 | .rel R=>R b.2.2
 | _=>True
def Z1:List Ez→Prop
 | []=>True
 | .rel R::r=>(∃v,R v)∧Z1 r
 | _::r=>Z1 r
def Ui (P:Program) (ops:Array Oper) (H₀:List BD) (o:Oper) (τ:Nat→AV):Ez→Prop
 | .val v=>Cg ops ⟨0,τ,[],[]⟩ o∧∀Bs,DU P o (ev τ) (Bs++H₀) v (Bs++H₀)
 | .skip=>∃j want d,o.guard=some (j,want)∧(ops[j]?).bind (·.dst)=some d∧eH (τ d) want
 | .new cs=>o.guard=none∧∀Bs,C9 P o (ev τ) (Bs++H₀) (H6 cs (Bs++H₀))
 | .newv sz rows=>o.guard=none∧∀Bs,C9 P o (ev τ) (Bs++H₀) (LL sz rows (Bs++H₀))
 | .rel R=>o.guard=none∧∀Bs,C9 P o (ev τ) (Bs++H₀) (Oj R (Bs++H₀))
def EV (P:Program) (ops:Array Oper) (H₀:List BD):Nat→(Nat→AV)→List Ez→((Nat→AV)→List BD→Prop)→Prop
 | _,τ,[],K=>K τ []
 | k,τ,e::r,K=>∃o,ops[k]?=some o∧Ui P ops H₀ o τ e∧∀b,e.ok b→EV P ops H₀ (k+1) (put τ o.dst (e.v b)) r (fun τ' Hs=>K τ' (e.box b++Hs))
def FA (β:Nat→BV):Nat→List Ez→List Sp
 | _,[]=>[]
 | k,e::r=> .free (e.v (β k))::FA β (k+1) r
def eE (β:Nat→BV):Nat→List Ez→List BD
 | _,[]=>[]
 | k,e::r=>e.box (β k)++eE β (k+1) r
def V0 (β:Nat→BV) (l:Nat→Bool):Nat→List Ez→List BD
 | _,[]=>[]
 | k,e::r=>(if l k=true then e.box (β k) else [])++V0 β l (k+1) r
theorem PS (β:Nat→BV):∀(r:List Ez) (k j:Nat),j<r.length→(FA β k r).getD j .skip= .free ((r.getD j .skip).v (β (k+j)))
 | [],k,j,h=>by simp at h
 | e::r,k,0,h=>by simp[FA]
 | e::r,k,j+1,h=>by
  have:=PS β r (k+1) j (by simpa using h);simp only[FA,List.getD_cons_succ];rw[this,show k+1+j=k+(j+1) by omega]
theorem Xn (β:Nat→BV):∀(r:List Ez) (k:Nat),(FA β k r).length=r.length
 | [],k=>rfl
 | e::r,k=>by simp[FA,Xn β r (k+1)]
theorem I6 (β:Nat→BV) {r:List Ez}{k j:Nat}(h:r.length≤j):(FA β k r).getD j .skip= .skip:=by
 rw[List.getD_eq_getElem?_getD,List.getElem?_eq_none (by rw[Xn];exact h)];rfl
theorem Tj (β:Nat→BV) (r:List Ez) (k j:Nat):((FA β k r).getD j .skip).isEff=false:=by
 rcases Nat.lt_or_ge j r.length with h | h
 ·rw[PS β r k j h];rfl
 rw[I6 β h];rfl
theorem Pt (β:Nat→BV) (r:List Ez) (k j:Nat) (ob:List BD) (v:AV):(FA β k r).getD j .skip≠ .read ob v:=by
 rcases Nat.lt_or_ge j r.length with h | h
 ·rw[PS β r k j h];simp
 rw[I6 β h];simp
theorem Dv (β:Nat→BV) {r:List Ez}{j:Nat}(h:j<r.length):((FA β 0 r).getD j .skip).val=(r.getD j .skip).v (β j):=by
 rw[PS β r 0 j h,Nat.zero_add];rfl
theorem EV.facts {P:Program}{ops:Array Oper}{H₀:List BD}{τ:Nat→AV}{base:List Ez}(β:Nat→BV):∀(r:List Ez) (k:Nat) (τk:Nat→AV) (K:(Nat→AV)→List BD→Prop),base.drop k=r→k+r.length=base.length→τk=τS ops (FA β 0 base) τ k→EV P ops H₀ k τk r K→(∀j,k≤j→j<base.length→(base.getD j .skip).ok (β j)) →
  (∀j,k≤j→j<base.length→∃o,ops[j]?=some o∧Ui P ops H₀ o (τS ops (FA β 0 base) τ j) (base.getD j .skip))∧K (τS ops (FA β 0 base) τ base.length) (eE β k r)
 | [],k,τk,K,hd,hk,ht,h,hβ=>by
  simp only[List.length_nil,Nat.add_zero] at hk;subst hk;exact⟨fun j h1 h2=>by omega,by rw[←ht];exact h⟩
 | e::r,k,τk,K,hd,hk,ht,h,hβ=>by
  obtain⟨o,ho,hok,hn⟩:=h;simp only[List.length_cons] at hk;have hb:base.getD k .skip=e:=by
   have:(base.drop k)[0]?=some e:=by rw[hd];rfl
   rw[List.getElem?_drop] at this;rw[List.getD_eq_getElem?_getD,show k=k+0 by omega,this];rfl
  have hd2:base.drop (k+1)=r:=by
   rw[←List.drop_drop,hd];rfl
  obtain⟨h1,h2⟩:=EV.facts (τ:=τ) (base:=base) β r (k+1) _ _ hd2 An (by simp only[τS,ho,Option.bind_some];rw[Dv β An,hb,←ht]) (hn (β k) (by have:=hβ k (Nat.le_refl _) An;rwa [hb] at this)) (fun j h1 h2=>hβ j An h2);refine⟨fun j hj hl=>?_,h2⟩;by_cases e2:j=k
  ·subst e2;exact⟨o,ho,by rw[hb,←ht];exact hok⟩
  exact h1 j An hl
theorem JV {β β':Nat→BV}{l l':Nat→Bool}:∀(r:List Ez) (k:Nat),(∀j,k≤j→l j=l' j∧(l j=true→β j=β' j))→V0 β l k r=V0 β' l' k r
 | [],k,h=>rfl
 | e::r,k,h=>by
  simp only[V0];obtain⟨h1,h2⟩:=h k (Nat.le_refl _);rw[JV r (k+1) fun j hj=>h j An,←h1];cases hl:l k
  ·rfl
  rw[h2 hl]
theorem PU {β:Nat→BV}{l:Nat→Bool}{i:Nat}{b:BV}(hi:l i=false):∀(r:List Ez) (k:Nat),k≤i→i<k+r.length→((r.getD (i - k) .skip).box b++V0 β l k r).Perm (V0 (fun j=>if j=i then b else β j) (fun j=>l j||j==i) k r)
 | [],k,h1,h2=>by simp at h2;omega
 | e::r,k,h1,h2=>by
  simp only[V0];by_cases hk:k=i
  ·subst hk;simp only[hi,Bool.false_eq_true,if_false,List.nil_append,Nat.sub_self,List.getD_cons_zero,beq_self_eq_true,Bool.or_true,if_true];rw[JV (β':=fun j=>if j=k then b else β j) (l':=fun j=>l j||j==k) r (k+1) fun j hj=>⟨by simp[show (j==k)=false by simp;omega],fun _=>by rw[if_neg An]⟩]
  have hp:=PU (β:=β) hi r (k+1) (b:=b) An (by simp only[List.length_cons] at h2;omega);have e1:(e::r).getD (i - k) .skip=r.getD (i - (k+1)) .skip:=by
   rw[show i - k=(i - (k+1))+1 by omega];rfl
  have e2:(if (l k||k==i)=true then e.box (if k=i then b else β k) else [])=(if l k=true then e.box (β k) else []):=by
   rw[if_neg hk];simp[hk]
  rw[e1,e2];refine List.Perm.trans ?_ (hp.append_left _);rw[←List.append_assoc,←List.append_assoc];exact List.perm_append_comm.append_right _
theorem TJ {β:Nat→BV}{l:Nat→Bool}:∀(r:List Ez) (k:Nat),(∀j,k≤j→j<k+r.length→l j=true)→V0 β l k r=eE β k r
 | [],k,h=>rfl
 | e::r,k,h=>by
  simp only[V0,eE];rw[if_pos (h k (Nat.le_refl _) Ao),TJ r (k+1) fun j h1 h2=>h j An (by simp only[List.length_cons];omega)]
theorem NB {β:Nat→BV}{l:Nat→Bool}:∀(r:List Ez) (k:Nat),(∀j,l j=false)→V0 β l k r=[]
 | [],k,h=>rfl
 | e::r,k,h=>by simp only[V0];rw[NB r (k+1) h,h k];rfl
theorem Z1.pick:∀(l:List Ez),Z1 l→∃β:Nat→BV,∀j,j<l.length→(l.getD j .skip).ok (β j)
 | [],_=>⟨fun _=>(0,0,.p .any),fun j h=>by simp at h⟩
 | e::r,h=>by
  have h2:Z1 r∧∃b,e.ok b:=by
   cases e with
   | rel R=>exact⟨h.2,let ⟨v,hv⟩:=h.1;⟨(0,0,v),hv⟩⟩
   | _=>exact⟨h,(0,0,.p .any),trivial⟩
  obtain⟨β,hβ⟩:=Z1.pick r h2.1;obtain⟨b,hb⟩:=h2.2;refine⟨fun j=>match j with | 0=>b | j+1=>β j,fun j hj=>?_⟩;cases j with
  | zero=>exact hb
  | succ j=>exact hβ j (by simpa using hj)
section
variable {P:Program}{ops:Array Oper}{H₀:List BD}{k:Nat}{τ:Nat→AV}{r:List Ez}{K:(Nat→AV)→List BD→Prop}{dst:Option Tmp}{op:Op}{ty:TypeId}{pos:String}{aft:Array Edge}{v:AV}
theorem JF (ho:ops[k]?=some ⟨dst,op,ty,pos,aft,none⟩) (h:∀Bs,DU P ⟨dst,op,ty,pos,aft,none⟩ (ev τ) (Bs++H₀) v (Bs++H₀)) (next:EV P ops H₀ (k+1) (put τ dst v) r K):EV P ops H₀ k τ (.val v::r) K :=
 ⟨_,ho,⟨trivial,h⟩,fun _ _=>next⟩
theorem dc {cs:List AV}(ho:ops[k]?=some ⟨dst,op,ty,pos,aft,none⟩) (h:∀Bs,C9 P ⟨dst,op,ty,pos,aft,none⟩ (ev τ) (Bs++H₀) (H6 cs (Bs++H₀))) (next:∀b,EV P ops H₀ (k+1) (put τ dst (.ptr b 0)) r (fun τ' Hs=>K τ' (.box b cs::Hs))):EV P ops H₀ k τ (.new cs::r) K :=
 ⟨_,ho,⟨rfl,h⟩,fun b _=>next b.1⟩
theorem jk (h:K τ []):EV P ops H₀ k τ [] K:=h
end
theorem DP.putW {F:Nat→Prop}{S:Bk}{d:Option Nat}{v v':AV}{H:List BD}{a:Act}{w:World}(h:DP F (S.put d v H) a w) (hv:RN v v'):DP F (S.put d v' H) a w :=
 ⟨h.size,fun t=>by
  have:=h.tmp t;cases d with
  | none=>exact this
  | some d =>
   have h3:B9 F w (Abs.put S.τ (some d) v t) (a.tmps.getD t undef):=this;show B9 F w (Abs.put S.τ (some d) v' t) (a.tmps.getD t undef);cases hb:Nat.beq t d
   ·have e (x:AV):Abs.put S.τ (some d) x t=S.τ t:=by simp only[Abs.put,hb,cond_false]
    rw[e] at h3 ⊢;exact h3
   have e (x:AV):Abs.put S.τ (some d) x t=x:=by simp only[Abs.put,hb,cond_true]
   rw[e] at h3 ⊢;exact hv _ _ _ h3,h.heap,h.defs⟩
theorem aQ {P:Program}{o:Oper}{ρ:Operand→AV}{H H':List BD}{v:AV}(h:DU P o ρ H v H'):DU P o ρ H (norm v) H':=by
 intro r F S a w hs hH hρ hd;have:=h r F S a w hs hH hρ hd;unfold Oper.wpIn at *;refine⟨this.1,?_⟩;replace this:=this.2;generalize (o.semAt (W r).round a.eval).run P w=rr at *;cases rr with
 | ok n w' =>
  cases n<;>simp only[Oper.uponIn] at this ⊢
  case value u=>obtain⟨v1,H1,F1,⟨e1,e2⟩,h2,h3⟩:=this;subst e1;subst e2;exact⟨_,_,F1,⟨rfl,rfl⟩,h2.putW (C7 rfl),h3⟩
  case skip=>obtain⟨v1,H1,F1,⟨e1,e2⟩,h2,h3⟩:=this;subst e1;subst e2;exact⟨_,_,F1,⟨rfl,rfl⟩,h2.putW (C7 rfl),h3⟩
  case defer d=>obtain⟨v1,H1,F1,⟨e1,e2⟩,h2,h3⟩:=this;subst e1;subst e2;exact⟨_,_,F1,⟨rfl,rfl⟩,h2.putW (C7 rfl),h3⟩
  case enter f args =>
   refine⟨this.1,this.2.mono fun e w'' he=>?_⟩;cases e with
   | returned u=>obtain⟨v1,H1,F1,⟨e1,e2⟩,h2,h3⟩:=he;subst e1;subst e2;exact⟨_,_,F1,⟨rfl,rfl⟩,h2.putW (C7 rfl),h3⟩
   | panicked c=>obtain⟨_,_,_,_,h,_⟩:=he;exact h.elim
   | outgrown=>obtain⟨_,_,_,_,_,_,h,_⟩:=he;exact h.elim
  case row row args=>exact⟨this.1,this.2.mono fun u w'' he=>by obtain⟨v1,H1,F1,⟨e1,e2⟩,h2,h3⟩:=he;subst e1;subst e2;exact⟨_,_,F1,⟨rfl,rfl⟩,h2.putW (C7 rfl),h3⟩⟩
  case round l f tmps assign body =>
   refine⟨this.1,this.2.mono fun e w'' he=>?_⟩;cases e with
   | returned u=>obtain⟨v1,H1,F1,⟨e1,e2⟩,h2,h3⟩:=he;subst e1;subst e2;exact⟨_,_,F1,⟨rfl,rfl⟩,h2.putW (C7 rfl),h3⟩
   | panicked c=>obtain⟨_,_,_,_,h,_⟩:=he;exact h.elim
   | outgrown=>obtain⟨_,_,_,_,_,_,h,_⟩:=he;exact h.elim
 | halt x w' =>
  cases x<;>simp only[Oper.uponIn] at this ⊢
  case panic u=>obtain⟨_,_,_,_,h,_⟩:=this;exact h.elim
end Go.Abs
namespace Go.Eu
open Go.Abs
theorem Dh (x:CC):At (Bj x) 0 [I x.kind]:=At.one
theorem DV (x:CC):At (Bj x) 1 [.str x.name]:=At.cons (At.one)
theorem Ca (x:CC):At (Bj x) 2 [I x.params]:=At.cons (At.cons (At.one))
theorem FI (x:CC):At (Bj x) 3 (BK x.type):=At.cons (At.cons (At.cons (At.front)))
theorem FP (x:CC):At (Bj x) 8 (BK x.value):=At.cons (At.cons (At.cons (At.app (BB _) (At.front))))
theorem DR (x:CC):At (Bj x) 13 [I x.fixed]:=At.cons (At.cons (At.cons (At.app (BB _) (At.app (BB _) (At.one)))))
theorem CF (x:CC):At (Bj x) 14 [.lst (x.ctors.map GL)]:=At.cons (At.cons (At.cons (At.app (BB _) (At.app (BB _) (At.cons (At.one))))))
theorem KF (x:CC):At (Bj x) 15 (RD x.recs):=At.cons (At.cons (At.cons (At.app (BB _) (At.app (BB _) (At.cons (At.cons (At.front)))))))
theorem CA (x:CC):At (Bj x) 22 [.lst (x.funs.map FR)]:=At.cons (At.cons (At.cons (At.app (BB _) (At.app (BB _) (At.cons (At.cons (At.app (JY _) (At.one))))))))
theorem Qm (x:eF):At (RD x) 0 [I x.params]:=At.one
theorem TT (x:eF):At (RD x) 1 (BK x.type):=At.cons (At.front)
theorem Rn (x:eF):At (RD x) 6 [.lst (BC x.rules)]:=At.cons (At.app (BB _) (At.one))
theorem Fm (x:Hq):At (GL x) 0 [.str x.name]:=At.one
theorem FH (x:Hq):At (GL x) 1 (BK x.type):=At.cons (At.all)
theorem II (x:Gh):At (FR x) 0 [.str x.name]:=At.one
theorem IE (x:Gh):At (FR x) 1 (BK x.type):=At.cons (At.front)
theorem CT (x:Gh):At (FR x) 6 [I x.arity]:=At.cons (At.app (BB _) (At.one))
theorem EL (x:Gh):At (FR x) 7 (C4 x.tree):=At.cons (At.app (BB _) (At.cons (At.all)))
theorem Gq (x:E3):At (C4 x) 0 [I x.kind]:=by
 cases x;exact At.one
theorem FC (x:E3):At (C4 x) 1 (BK x.body):=by
 cases x;exact At.cons (At.front)
theorem DZ (x:E3):At (C4 x) 6 [I x.var]:=by
 cases x;exact At.cons (At.app (BB _) (At.one))
theorem CL (x:E3):At (C4 x) 7 [.lst (KZ x.branches)]:=by
 cases x;exact At.cons (At.app (BB _) (At.cons (At.one)))
theorem Gv (x:F7):At (GM x) 0 [.str x.ctor]:=by
 cases x;exact At.one
theorem G0 (x:F7):At (GM x) 1 [.bool x.absurd]:=by
 cases x;exact At.cons (At.one)
theorem Fp (x:F7):At (GM x) 2 (C4 x.tree):=by
 cases x;exact At.cons (At.cons (At.all))
theorem Dj (x:Fk):At (Db x) 0 [I x.kind]:=At.one
theorem EJ (x:Fk):At (Db x) 1 [I x.decl]:=At.cons (At.one)
theorem Gs (x:Fk):At (Db x) 2 [I x.item]:=At.cons (At.cons (At.one))
theorem IT (x:Fk):At (Db x) 3 [I x.params]:=At.cons (At.cons (At.cons (At.one)))
theorem I0 (x:Oq):At (Fg x) 0 [.lst (x.env.map Bj)]:=At.one
theorem Ur (x:Oq):At (Fg x) 1 [.lst (x.own.map F3)]:=At.cons (At.one)
theorem SC (x:Oq):At (Fg x) 2 (Bj x.d):=At.cons (At.cons (At.all))
theorem DE (x:CC):At (Bj x) 15 [I x.recs.params]:=(KF x).sub (Qm _) (by simp[JY])
theorem Ea (x:CC):At (Bj x) 16 (BK x.recs.type):=(KF x).sub (TT _) (by simp[JY])
theorem Ch (x:CC):At (Bj x) 21 [.lst (BC x.recs.rules)]:=(KF x).sub (Rn _) (by simp[JY])
theorem _root_.Go.Ad {α:Prop}(h:α:=by simp[Cr]):α:=h
theorem OQ (x:Oq):At (Fg x) 4 [I x.d.params]:=(SC x).sub (Ca _) Ad
theorem Gj.body:∀{t:E3},Gj t→TB t.body
 | .mk _ _ _ _,h=>h.1
theorem Gj.bl:∀{t:E3},Gj t→t.branches.length<2000000
 | .mk _ _ _ _,h=>h.2.1
theorem Gj.bs:∀{t:E3},Gj t→Me t.branches
 | .mk _ _ _ _,h=>h.2.2
theorem Qe.tr:∀{b:F7},Qe b→Gj b.tree
 | .mk _ _ _,h=>h.2
theorem Qp:∀{t:E3}{i:Nat}{b:F7},t.branches[i]?=some b→KX b.tree<KX t
 | .mk _ _ _ l,i,.mk c a t',h=>by
  have:=Sz (l:=l) h;simp only[bP] at this;simp only[KX,F7.tree];omega
theorem OY:∀t:E3,1≤KX t
 | .mk _ _ _ _=>by simp only[KX];omega
section
variable {f:Nat→Option (Nat×Nat)}{k a i p:Int}{t:Tm}
theorem ay (h1:f 1=some (1,1)) (h3:f 3=some (3,1)) (h4:f 4=some (4,5)):FB f [.p (I 0),.p (I 0),.p (I 0),.p (I 0),.p (I 0),.p (I 0),.p (.str ⟨#[]⟩),.p .nils,.p .nils] [(1,.p (I a)),(3,.p (I p)),(4,TV t)]=some ((Db ⟨0,a,0,p,t⟩).map .p):=by
 obtain⟨tk,ti,tn,tl,ts⟩:=t;simp[FB,h1,h3,h4,EK,splice,BK,Db]
theorem XS (h0:f 0=some (0,1)) (h1:f 1=some (1,1)) (h3:f 3=some (3,1)) (h4:f 4=some (4,5)):FB f [.p (I 0),.p (I 0),.p (I 0),.p (I 0),.p (I 0),.p (I 0),.p (.str ⟨#[]⟩),.p .nils,.p .nils] [(0,.p (I k)),(1,.p (I a)),(3,.p (I p)),(4,TV t)]=some ((Db ⟨k,a,0,p,t⟩).map .p):=by
 obtain⟨tk,ti,tn,tl,ts⟩:=t;simp[FB,h0,h1,h3,h4,EK,splice,BK,Db]
theorem NH (h0:f 0=some (0,1)) (h1:f 1=some (1,1)) (h2:f 2=some (2,1)) (h3:f 3=some (3,1)) (h4:f 4=some (4,5)):FB f [.p (I 0),.p (I 0),.p (I 0),.p (I 0),.p (I 0),.p (I 0),.p (.str ⟨#[]⟩),.p .nils,.p .nils] [(0,.p (I k)),(1,.p (I a)),(2,.p (I i)),(3,.p (I p)),(4,TV t)]=some ((Db ⟨k,a,i,p,t⟩).map .p):=by
 obtain⟨tk,ti,tn,tl,ts⟩:=t;simp[FB,h0,h1,h2,h3,h4,EK,splice,BK,Db]
theorem mQ {c0:AV}{r:List AV}{ds:List CC}{d:CC}(h0:f 0=some (0,1)) (h2:f 2=some (2,23)) (hr:r.length=23):FB f (c0:: .p .nils::r) [(0,.p (.lst (ds.map Bj))),(2,.agg ((Bj d).map .p))]=some (.p (.lst (ds.map Bj)):: .p .nils::(Bj d).map .p):=by
 simp[FB,h0,h2,EK,Cr,hr,OK,splice]
end
theorem aq (ds:List CC) (d:CC):norm (.agg (.p (.lst (ds.map Bj)):: .p .nils::(Bj d).map .p))= .agg ((Fg ⟨ds,[],d⟩).map .p):=by
 have h:((Bj d).map AV.p).map dn=(Bj d).map .p:=by
  refine Z3 ?_;obtain⟨k,n,p,⟨_,_,_,_,_⟩,⟨_,_,_,_,_⟩,f,c,⟨_,⟨_,_,_,_,_⟩,_⟩,u⟩:=d;simp[Bj,BK,RD]
 show AV.agg (dn _::dn _::((Bj d).map AV.p).map dn)=_;rw[h];rfl
theorem aa {P:Program}{dst:Option Tmp}{ty:TypeId}{pos:String}{aft:Array Edge}{g:Option (Nat×Bool)}{ρ:Operand→AV}{H:List BD}{T:TypeId}{parts:Array (Nat×Operand)}{lay:List (Nat×Nat)}{z:Value}{ds:List CC}{d:CC}(hT:fieldsOf P T=some lay) (hz:zeroOf P T=some z)
  (hc:FB (lay[·]?) (z.cells.toList.map GH) (parts.toList.map fun p=>(p.1,ρ p.2))=some (.p (.lst (ds.map Bj)):: .p .nils::(Bj d).map .p)):DU P ⟨dst,.build T parts,ty,pos,aft,g⟩ ρ H (.agg ((Fg ⟨ds,[],d⟩).map .p)) H:=by
 rw[←aq];exact aQ (CJ hT hz hc)
theorem Zb {d:CC}(h:OB d) {i:Nat}{x:ByteArray}(hx:(Ck d)[i]?=some x):x.size<De:=by
 have hm:=List.mem_of_getElem? hx;have hr:=ZE d.name;have hn:=h.nm;unfold Ck at hm;simp only[De];split at hm
 ·simp at hm;subst hm;omega
 split at hm
 ·simp only[List.mem_append,List.mem_cons,List.mem_map,List.not_mem_nil,or_false] at hm;rcases hm with (rfl | ⟨c,hc,rfl⟩) | rfl
  ·omega
  ·have:=(h.cs c hc).nm;omega
  omega
 split at hm
 ·obtain⟨f,hf,rfl⟩:=List.mem_map.1 hm;have:=(h.fs f hf).nm;omega
 simp at hm
theorem Zy {d:CC}(h:d.kind=3):1≤(Ck d).length:=by
 unfold Ck;rw[if_neg An,if_pos h];simp
end Go.Eu
namespace Go.Eu
open Go.Abs Go.RowKit Go.ChangeShapes Go.ChangeAt Go.WideShapes
structure Zk (H:Type) where
 b:DataW H→Nat
 a:List (DataW H)→Nat
 str:∀s,b (.lit (.string s))=s.length+1
 slice:∀e s,b (.slice e s)=a e+a s+1
 agg:∀p,b (.agg p)=a p+1
 nil:a []=0
 cons:∀d r,a (d::r)=b d+a r
 pos:∀d,1≤b d
namespace Zk
variable {H:Type}(K:Zk H)
theorem mem {l:List (DataW H)}{i:Nat}{d:DataW H}(h:l[i]?=some d):K.b d≤K.a l:=by
 induction l generalizing i with
 | nil=>simp at h
 | cons x r ih =>
  rw[K.cons];cases i with
  | zero=>simp at h;subst h;omega
  | succ i=>have:=ih (by simpa using h);omega
theorem mem2 {l:List (DataW H)}{i:Nat}{d:DataW H}(h:l[i]?=some d):K.b d+l.length≤K.a l+1:=by
 have len:∀l:List (DataW H),l.length≤K.a l:=by
  intro l
  induction l with
  | nil=>simp
  | cons x r ih=>rw[K.cons];have:=K.pos x;simp only[List.length_cons];omega
 induction l generalizing i with
 | nil=>simp at h
 | cons x r ih =>
  rw[K.cons];simp only[List.length_cons];cases i with
  | zero=>simp at h;subst h;have:=len r;omega
  | succ i=>have:=ih (by simpa using h);have:=K.pos x;omega
theorem drop1 {l:List (DataW H)}{i:Nat}{d:DataW H}(h:l[i]?=some d):K.a (l.drop i)=K.b d+K.a (l.drop (i+1)):=by
 induction l generalizing i with
 | nil=>simp at h
 | cons x r ih =>
  cases i with
  | zero=>simp at h;subst h;simp[K.cons]
  | succ i=>simpa using ih (by simpa using h)
end Zk
def UJ {α:Type}(M:α→Nat):List α→Nat
 | []=>0
 | a::l=>M a+UJ M l
section
variable {H:Type}{enc:TypeId×Value→H}{P:Program}{w:World}{base:Nat}{sp:Nat→Bool}{hd:Bool}{n:Nat}(K:Zk H)
theorem E9 {α:Type}{e t C:Nat}(ut:P.underlying t=some (.slice e)) (hC:P.cellsOf e=C) (hC1:1≤C) (f:α→List PV) (Q:α→Prop) (M:α→Nat) {B:Nat}
  (he:∀m cs y,m<n→DataW.trod enc P w base sp hd m e cs=some y→K.b y.1≤B→∃a,B8 w (f a) cs∧Q a∧M a≤K.b y.1) {cs:List Value} {y:DataW H×List MemPlace} (h:DataW.trod enc P w base sp hd n t cs=some y) (hB:K.b y.1≤B) :
  ∃l:List α,l.length≤K.b y.1∧UJ M l+1≤K.b y.1∧(∀a∈l,Q a)∧∃v,cs=[v]∧CE F0 w (.lst (l.map f)) v:=by
 rcases DataW.trod_slice ut h with ⟨rfl,rfl⟩ | ⟨a,len,cap,elems,rest,m,rfl,rfl,rfl,hb,hl,hc,hel,hget,_,_⟩
 ·exact⟨[],by simp,by have:=K.pos DataW.nil;simpa [UJ] using this,fun a ha=>by simp at ha,_,rfl,by simp only[CE];exact .inl ⟨rfl,none,0,rfl⟩⟩
 rw[hC] at hget;simp only[K.slice] at hB ⊢;have hml:maxLen<wide:=by decide
 rcases Nat.eq_zero_or_pos len with h0 | h0
 ·subst h0;exact⟨[],by simp,by simp[UJ],fun a ha=>by simp at ha,_,rfl,by simp only[CE];exact .inl ⟨rfl,some a,cap,rfl⟩⟩
 have hone:∀i,i<len→∃ci y,w.cells? base (a.add (i*C)) C=some ci∧DataW.trod enc P w base sp hd m e ci=some y∧(elems.map (·.1))[i]?=some y.1:=fun i hi=>by
  have:=hget i hi;rw[List.getElem?_eq_getElem An] at this;obtain⟨ci,h1,h2⟩:=Option.bind_eq_some_iff.1 this;exact⟨ci,_,h1,h2,by simp[List.getElem?_eq_getElem (show i<elems.length by omega)]⟩
 obtain⟨c0,y0,hc0,_⟩:=hone 0 h0;obtain⟨hl0,hg0⟩:=LU hc0;have hcell:∃v,w.cell? a=some v:=by
  have:=hg0 0 An;rw[Nat.zero_mul,Addr.add,if_pos rfl,Addr.add,if_pos rfl] at this;rw[List.getElem?_eq_getElem An] at this;exact⟨_,this⟩
 obtain⟨v0,hv0⟩:=hcell;obtain⟨blk,off,spot⟩:=a;have hspot:spot=none:=by
  unfold World.cell? at hv0;simp only at hv0;split at hv0
  ·cases spot with
   | none=>rfl
   | some s=>simp at hv0
  cases hv0
 subst hspot;have hblk:blk<w.heap.size:=by
  unfold World.cell? at hv0;simp only at hv0;split at hv0
  ·rename_i hh;exact(Array.getElem?_eq_some_iff.1 hh).1
  cases hv0
 have hadd:∀k,(⟨blk,off,none⟩:Addr).add k=⟨blk,off+k,none⟩:=fun k=>by
  unfold Addr.add;split
  ·rename_i e;subst e;rfl
  rfl
 have hadd2:∀o k,(⟨blk,o,none⟩:Addr).add k=⟨blk,o+k,none⟩:=fun o k=>by
  unfold Addr.add;split
  ·rename_i e;subst e;rfl
  rfl
 have hrows:∀k,k≤len→∃l:List α,l.length=k∧k≤K.a ((elems.map (·.1)).drop (len - k))∧UJ M l≤K.a ((elems.map (·.1)).drop (len - k))∧(∀x∈l,Q x)∧Bt F0 w blk C (off+(len - k)*C) (l.map f):=by
  intro k
  induction k with
  | zero=>exact fun _=>⟨[],rfl,by omega,by simp[UJ],fun a ha=>by simp at ha,by simp[Bt]⟩
  | succ k ih =>
   intro hk;obtain⟨l,h1,h5,h6,h2,h3⟩:=ih An;obtain⟨ci,y,hci,ht,hy⟩:=hone (len - (k+1)) An;obtain⟨g1,g2⟩:=LU hci;have hd1:=K.drop1 hy;rw[show len - (k+1)+1=len - k by omega] at hd1;obtain⟨x,hx,hq,hM⟩:=he m ci y An ht (by have:=K.mem hy;omega);have hp:=K.pos y.1;refine⟨x::l,by simp[h1],by omega,by rw[UJ];omega,fun z hz=>?_,?_⟩
   ·rcases List.mem_cons.1 hz with rfl | hz
    ·exact hq
    exact h2 z hz
   refine⟨by rw[hx.length,g1],OZ _ ci _ hx fun j hj=>?_,?_⟩
   ·have:=g2 j An;rw[hadd,hadd2] at this;exact this
   rw[show off+(len - (k+1))*C+C=off+(len - k)*C by rw[Nat.add_assoc,←Nat.succ_mul];congr 2;omega];exact h3
 obtain⟨l,h1,h5,h6,h2,h3⟩:=hrows len (Nat.le_refl _);rw[Nat.sub_self,List.drop_zero] at h5 h6;rw[Nat.sub_self,Nat.zero_mul,Nat.add_zero] at h3;refine⟨l,by omega,by omega,h2,_,rfl,?_⟩;simp only[CE];exact .inr ⟨blk,off,cap,C,by rw[List.length_map,h1],fun h=>h,hblk,by rw[List.length_map];omega,h3⟩
theorem Hl {t:TypeId}{l:List (Nat×Nat)}(hf:Mg P t=some l) {cs:List Value}{y:DataW H×List MemPlace}(h:DataW.trod enc P w base sp hd n t cs=some y) :
  ∃m,n=m+1∧cs.length=P.cellsOf t∧∀(i:Nat) (p:Nat×Nat),l[i]?=some p→∃z,DataW.trod enc P w base sp hd m p.1 ((cs.drop p.2).take (P.cellsOf p.1))=some z∧K.b z.1+l.length≤K.b y.1:=by
 unfold Mg at hf;split at hf
 ·rename_i fs hu;injection hf with hf;subst hf;obtain⟨xs,m,h1,rfl,h2,h3,h4⟩:=DataW.trod_struct hu h;refine⟨m,h1,h2,fun i p hp=>?_⟩;rw[List.getElem?_map] at hp;obtain⟨fl,hfl,rfl⟩:=Option.map_eq_some_iff.1 hp;have hi:fs[i]?=some fl:=by simpa using hfl
  have:=h4 i fl hi;have hlt:i<xs.length:=by rw[h3];exact(Array.getElem?_eq_some_iff.1 hi).1
  rw[List.getElem?_eq_getElem hlt] at this;refine⟨_,this,?_⟩;rw[K.agg];have:=K.mem2 (l:=xs.map (·.1)) (i:=i) (d:=xs[i].1) (by simp[List.getElem?_eq_getElem hlt]);simp only[List.length_map,Array.length_toList] at this ⊢;omega
 cases hf
theorem B8.cut {a b:List PV}{cs:List Value}{o k:Nat}(h:B8 w a ((cs.drop o).take k)) (h':B8 w b (cs.drop (o+k))):B8 w (a++b) (cs.drop o):=by
 rw[←List.take_append_drop k (cs.drop o),List.drop_drop];exact B8.append h h'
theorem B8.end {cs:List Value}{k:Nat}(h:cs.length=k):B8 w [] (cs.drop k):=by
 rw[List.drop_eq_nil_of_le An];rfl
end
end Go.Eu
namespace Go.Eu
open Go.Abs Go.RowKit Go.ChangeShapes Go.ChangeAt Go.WideShapes
theorem Og:∀l:List Tm,UJ (fun t=>5*size t) l=5*BS l
 | []=>rfl
 | t::l=>by rw[UJ,BS,Og l];omega
structure T7 (P:Program) (tI tB tS tT tTs tC tCs tR tTr tBr tBrs tF tFs tD tDs:TypeId):Prop where
 uB:P.underlying tB=some .bool
 uCs:P.underlying tCs=some (.slice tC)
 uBrs:P.underlying tBrs=some (.slice tBr)
 uFs:P.underlying tFs=some (.slice tF)
 uDs:P.underlying tDs=some (.slice tD)
 fC:Mg P tC=some [(tS,0),(tT,1)]
 fR:Mg P tR=some [(tI,0),(tT,1),(tTs,6)]
 fTr:Mg P tTr=some [(tI,0),(tT,1),(tI,6),(tBrs,7)]
 fBr:Mg P tBr=some [(tS,0),(tB,1),(tTr,2)]
 fF:Mg P tF=some [(tS,0),(tT,1),(tI,6),(tTr,7)]
 fD:Mg P tD=some [(tI,0),(tS,1),(tI,2),(tT,3),(tT,8),(tI,13),(tCs,14),(tR,15),(tFs,22)]
 cB:P.cellsOf tB=1
 cCs:P.cellsOf tCs=1
 cBrs:P.cellsOf tBrs=1
 cFs:P.cellsOf tFs=1
 cDs:P.cellsOf tDs=1
 cC:P.cellsOf tC=6
 cR:P.cellsOf tR=7
 cTr:P.cellsOf tTr=8
 cBr:P.cellsOf tBr=10
 cF:P.cellsOf tF=15
 cD:P.cellsOf tD=23
section
variable {H:Type}{enc:TypeId×Value→H}{P:Program}{w:World}{base:Nat}{sp:Nat→Bool}{hd:Bool}{tI tB tS tV tVs tL tLs tT tTs tC tCs tR tTr tBr tBrs tF tFs tD tDs:TypeId}(K:Zk H)
theorem GN (E:FV P tI tS tV tVs tL tLs tT tTs) {n:Nat}{cs:List Value}{y:DataW H×List MemPlace}(h:DataW.trod enc P w base sp hd n tI cs=some y):∃a:Int,B8 w [I a] cs∧Ir a:=by
 obtain⟨a,rfl,_,fa⟩:=DataW.trod_int E.uI h;exact⟨a,B8.one (by simp[CE]),N2 fa⟩
theorem Kw (E:FV P tI tS tV tVs tL tLs tT tTs) {n:Nat}{cs:List Value}{y:DataW H×List MemPlace}(h:DataW.trod enc P w base sp hd n tS cs=some y):∃s:ByteArray,B8 w [.str s] cs∧s.size+1≤K.b y.1:=by
 obtain⟨s,rfl,rfl,_⟩:=DataW.trod_string E.uS h;refine⟨s,B8.one (by simp[CE]),?_⟩;rw[K.str];exact Nat.le_refl _
theorem Y6 (D:T7 P tI tB tS tT tTs tC tCs tR tTr tBr tBrs tF tFs tD tDs) {n:Nat}{cs:List Value}{y:DataW H×List MemPlace}(h:DataW.trod enc P w base sp hd n tB cs=some y):∃b:Bool,B8 w [.bool b] cs:=by
 obtain⟨b,rfl,_⟩:=DataW.trod_bool D.uB h;exact⟨b,B8.one (by simp[CE])⟩
theorem fj (E:FV P tI tS tV tVs tL tLs tT tTs) {n:Nat}{cs:List Value}{y:DataW H×List MemPlace}(h:DataW.trod enc P w base sp hd n tL cs=some y) (hB:K.b y.1≤1048576):∃v:CX,B8 w (B5 v) cs∧RU v:=by
 obtain⟨m,rfl,hl,hg⟩:=Hl K E.fL h;rw[E.cL] at hl;obtain⟨z0,h0,b0⟩:=hg 0 _ rfl;obtain⟨z1,h1,b1⟩:=hg 1 _ rfl;simp only[E.cI,E.cVs] at h0 h1;obtain⟨a,ha,ra⟩:=GN E h0;obtain⟨l,g1,_,g2,v,hv,g3⟩:=E9 K E.uVs E.cV Am Ge (fun v=>Ir v.index∧Ir v.plus) (fun _=>1) (B:=1048576) (fun m cs y _ h _=>by obtain⟨v,q1,q2⟩:=dg E h;exact⟨v,q1,q2,K.pos _⟩) h1 An;refine⟨⟨a,l⟩,?_,⟨by simp only[De];omega,ra,g2⟩⟩;have:=B8.cut (o:=0) ha (B8.cut (o:=1) (a:=[.lst (l.map Ge)]) (k:=1) (by rw[hv];exact B8.one g3) (B8.end hl));simpa [B5] using this
theorem gL (E:FV P tI tS tV tVs tL tLs tT tTs):∀(n:Nat) (cs:List Value) (y:DataW H×List MemPlace),DataW.trod enc P w base sp hd n tT cs=some y→K.b y.1≤1048576→∃t:Tm,B8 w (BK t) cs∧Nd t∧5*size t≤K.b y.1:=by
 intro n
 induction n using Nat.strongRecOn with
 | ind n ih =>
  intro cs y h hB;obtain⟨m,rfl,hl,hg⟩:=Hl K E.fT h;rw[E.cT] at hl;obtain⟨z0,h0,b0⟩:=hg 0 _ rfl;obtain⟨z1,h1,b1⟩:=hg 1 _ rfl;obtain⟨z2,h2,b2⟩:=hg 2 _ rfl;obtain⟨z3,h3,b3⟩:=hg 3 _ rfl;obtain⟨z4,h4,b4⟩:=hg 4 _ rfl;simp only[E.cI,E.cS,E.cLs,E.cTs] at h0 h1 h2 h3 h4;obtain⟨a,ha,ra⟩:=GN E h0;obtain⟨b,hb,rb⟩:=GN E h1;obtain⟨s,hs,ws⟩:=Kw K E h2;obtain⟨l,g1,_,g2,v,hv,g3⟩:=E9 K E.uLs E.cL Am B5 RU (fun _=>1) (B:=1048576) (fun m cs y _ h hB=>by obtain⟨v,q1,q2⟩:=fj K E h hB;exact⟨v,q1,q2,K.pos _⟩) h3 An;obtain⟨ks,k1,k4,k2,u,hu,k3⟩:=E9 K E.uTs E.cT Am BK Nd (fun t=>5*size t) (B:=1048576) (fun m' cs y hm h hB=>ih m' An cs y h hB) h4 An;refine⟨.mk a b s l ks,?_,⟨by simp only[De];omega,by simp only[De];omega,g2,by simp only[De];omega,Wf k2,ra,rb⟩,by rw[Og] at k4;simp only[List.length_cons,List.length_nil] at b4;simp only[size];omega⟩;have:=B8.cut (o:=0) ha (B8.cut (o:=1) hb (B8.cut (o:=2) hs (B8.cut (o:=3) (a:=[.lst (l.map B5)]) (k:=1) (by rw[hv];exact B8.one g3) (B8.cut (o:=4) (a:=[.lst (BC ks)]) (k:=1) (by rw[hu,D9];exact B8.one k3) (B8.end hl)))));simpa [BK] using this
theorem Io (E:FV P tI tS tV tVs tL tLs tT tTs) {n:Nat}{cs:List Value}{y:DataW H×List MemPlace}(h:DataW.trod enc P w base sp hd n tT cs=some y) (hB:K.b y.1≤1048576):∃t:Tm,B8 w (BK t) cs∧TB t:=by
 obtain⟨t,h1,h2,h3⟩:=gL K E n cs y h hB;exact⟨t,h1,h2,by omega⟩
theorem aP (E:FV P tI tS tV tVs tL tLs tT tTs) {n:Nat}{cs:List Value}{y:DataW H×List MemPlace}(h:DataW.trod enc P w base sp hd n tTs cs=some y) (hB:K.b y.1≤1048576):∃l:List Tm,l.length<2000000∧(∀t∈l,TB t)∧B8 w [.lst (BC l)] cs:=by
 obtain⟨l,g1,_,g2,v,rfl,g3⟩:=E9 K E.uTs E.cT Am BK TB (fun _=>1) (B:=1048576) (fun m cs y _ h hB=>by obtain⟨v,q1,q2⟩:=Io K E h hB;exact⟨v,q1,q2,K.pos _⟩) h hB;exact⟨l,by omega,g2,B8.one (by rw[D9];exact g3)⟩
variable (D:T7 P tI tB tS tT tTs tC tCs tR tTr tBr tBrs tF tFs tD tDs) (E:FV P tI tS tV tVs tL tLs tT tTs)
include D E
theorem eK {n:Nat}{cs:List Value}{y:DataW H×List MemPlace}(h:DataW.trod enc P w base sp hd n tC cs=some y) (hB:K.b y.1≤1048576):∃c:Hq,B8 w (GL c) cs∧dN c:=by
 obtain⟨m,rfl,hl,hg⟩:=Hl K D.fC h;rw[D.cC] at hl;obtain⟨z0,h0,b0⟩:=hg 0 _ rfl;obtain⟨z1,h1,b1⟩:=hg 1 _ rfl;simp only[E.cS,E.cT] at h0 h1;obtain⟨s,hs,ws⟩:=Kw K E h0;obtain⟨t,ht,wt⟩:=Io K E h1 An;refine⟨⟨s,t⟩,?_,⟨by simp only;omega,wt⟩⟩;have:=B8.cut (o:=0) hs (B8.cut (o:=1) ht (B8.end hl));simpa [GL] using this
theorem gv {n:Nat}{cs:List Value}{y:DataW H×List MemPlace}(h:DataW.trod enc P w base sp hd n tR cs=some y) (hB:K.b y.1≤1048576):∃r:eF,B8 w (RD r) cs∧TB r.type∧r.rules.length<2000000∧∀t∈r.rules,TB t:=by
 obtain⟨m,rfl,hl,hg⟩:=Hl K D.fR h;rw[D.cR] at hl;obtain⟨z0,h0,b0⟩:=hg 0 _ rfl;obtain⟨z1,h1,b1⟩:=hg 1 _ rfl;obtain⟨z2,h2,b2⟩:=hg 2 _ rfl;simp only[E.cI,E.cT,E.cTs] at h0 h1 h2;obtain⟨a,ha,_⟩:=GN E h0;obtain⟨t,ht,wt⟩:=Io K E h1 An;obtain⟨l,l1,l2,l3⟩:=aP K E h2 An;refine⟨⟨a,t,l⟩,?_,wt,l1,l2⟩;have:=B8.cut (o:=0) ha (B8.cut (o:=1) ht (B8.cut (o:=6) l3 (B8.end hl)));simpa [RD] using this
theorem bW:∀(n:Nat) (cs:List Value) (y:DataW H×List MemPlace),DataW.trod enc P w base sp hd n tTr cs=some y→K.b y.1≤1048576→∃t:E3,B8 w (C4 t) cs∧Gj t:=by
 intro n
 induction n using Nat.strongRecOn with
 | ind n ih =>
  intro cs y h hB;obtain⟨m,rfl,hl,hg⟩:=Hl K D.fTr h;rw[D.cTr] at hl;obtain⟨z0,h0,b0⟩:=hg 0 _ rfl;obtain⟨z1,h1,b1⟩:=hg 1 _ rfl;obtain⟨z2,h2,b2⟩:=hg 2 _ rfl;obtain⟨z3,h3,b3⟩:=hg 3 _ rfl;simp only[E.cI,E.cT,D.cBrs] at h0 h1 h2 h3;obtain⟨a,ha,_⟩:=GN E h0;obtain⟨t,ht,wt⟩:=Io K E h1 An;obtain⟨b,hb,_⟩:=GN E h2;obtain⟨l,g1,_,g2,v,hv,g3⟩:=E9 K D.uBrs D.cBr Am GM Qe (fun _=>1) (B:=1048576) (fun m' cs y hm h hB=>by
   obtain⟨m2,rfl,hl,hg⟩:=Hl K D.fBr h;rw[D.cBr] at hl;obtain⟨z0,h0,b0⟩:=hg 0 _ rfl;obtain⟨z1,h1,b1⟩:=hg 1 _ rfl;obtain⟨z2,h2,b2⟩:=hg 2 _ rfl;simp only[E.cS,D.cB,D.cTr] at h0 h1 h2;obtain⟨s,hs,ws⟩:=Kw K E h0;obtain⟨b,hb⟩:=Y6 D h1;obtain⟨r,hr,wr⟩:=ih m2 An _ _ h2 An;refine⟨.mk s b r,?_,⟨by omega,wr⟩,K.pos _⟩;have:=B8.cut (o:=0) hs (B8.cut (o:=1) hb (B8.cut (o:=2) hr (B8.end hl)));simpa [GM] using this) h3 An
  have hbs:∀{l:List F7},(∀b∈l,Qe b)→Me l:=by
   intro l
   induction l with
   | nil=>exact fun _=>trivial
   | cons b l ih2=>exact fun h=>⟨h b Ao,ih2 fun c hc=>h c (by simp[hc])⟩
  refine⟨.mk a t b l,?_,⟨wt,by omega,hbs g2⟩⟩;have:=B8.cut (o:=0) ha (B8.cut (o:=1) ht (B8.cut (o:=6) hb (B8.cut (o:=7) (a:=[.lst (KZ l)]) (k:=1) (by rw[hv,LS];exact B8.one g3) (B8.end hl))));simpa [C4] using this
theorem hZ {n:Nat}{cs:List Value}{y:DataW H×List MemPlace}(h:DataW.trod enc P w base sp hd n tF cs=some y) (hB:K.b y.1≤1048576):∃f:Gh,B8 w (FR f) cs∧bL f:=by
 obtain⟨m,rfl,hl,hg⟩:=Hl K D.fF h;rw[D.cF] at hl;obtain⟨z0,h0,b0⟩:=hg 0 _ rfl;obtain⟨z1,h1,b1⟩:=hg 1 _ rfl;obtain⟨z2,h2,b2⟩:=hg 2 _ rfl;obtain⟨z3,h3,b3⟩:=hg 3 _ rfl;simp only[E.cS,E.cT,E.cI,D.cTr] at h0 h1 h2 h3;obtain⟨s,hs,ws⟩:=Kw K E h0;obtain⟨t,ht,wt⟩:=Io K E h1 An;obtain⟨a,ha,_⟩:=GN E h2;obtain⟨r,hr,wr⟩:=bW K D E _ _ _ h3 An;refine⟨⟨s,t,a,r⟩,?_,⟨by simp only;omega,wt,wr⟩⟩;have:=B8.cut (o:=0) hs (B8.cut (o:=1) ht (B8.cut (o:=6) ha (B8.cut (o:=7) hr (B8.end hl))));simpa [FR] using this
theorem gW {n:Nat}{cs:List Value}{y:DataW H×List MemPlace}(h:DataW.trod enc P w base sp hd n tD cs=some y) (hB:K.b y.1≤1048576):∃d:CC,B8 w (Bj d) cs∧OB d:=by
 obtain⟨m,rfl,hl,hg⟩:=Hl K D.fD h;rw[D.cD] at hl;obtain⟨z0,h0,b0⟩:=hg 0 _ rfl;obtain⟨z1,h1,b1⟩:=hg 1 _ rfl;obtain⟨z2,h2,b2⟩:=hg 2 _ rfl;obtain⟨z3,h3,b3⟩:=hg 3 _ rfl;obtain⟨z4,h4,b4⟩:=hg 4 _ rfl;obtain⟨z5,h5,b5⟩:=hg 5 _ rfl;obtain⟨z6,h6,b6⟩:=hg 6 _ rfl;obtain⟨z7,h7,b7⟩:=hg 7 _ rfl;obtain⟨z8,h8,b8⟩:=hg 8 _ rfl;simp only[E.cS,E.cT,E.cI,D.cCs,D.cR,D.cFs] at h0 h1 h2 h3 h4 h5 h6 h7 h8;obtain⟨a,ha,_⟩:=GN E h0;obtain⟨s,hs,ws⟩:=Kw K E h1;obtain⟨p,hp,_⟩:=GN E h2;obtain⟨t,ht,wt⟩:=Io K E h3 An;obtain⟨u,hu,wu⟩:=Io K E h4 An;obtain⟨f,hf,_⟩:=GN E h5;obtain⟨cl,c1,_,c2,cv,hcv,c3⟩:=E9 K D.uCs D.cC Am GL dN (fun _=>1) (B:=1048576) (fun m cs y _ h hB=>by obtain⟨v,q1,q2⟩:=eK K D E h hB;exact⟨v,q1,q2,K.pos _⟩) h6 An;obtain⟨r,hr,r1,r2,r3⟩:=gv K D E h7 An;obtain⟨fl,f1,_,f2,fv,hfv,f3⟩:=E9 K D.uFs D.cF Am FR bL (fun _=>1) (B:=1048576) (fun m cs y _ h hB=>by obtain⟨v,q1,q2⟩:=hZ K D E h hB;exact⟨v,q1,q2,K.pos _⟩) h8 An;refine⟨⟨a,s,p,t,u,f,cl,r,fl⟩,?_,⟨by simp only;omega,wt,wu,by simp only;omega,c2,r1,r2,r3,by simp only;omega,f2⟩⟩;have:=B8.cut (o:=0) ha (B8.cut (o:=1) hs (B8.cut (o:=2) hp (B8.cut (o:=3) ht (B8.cut (o:=8) hu (B8.cut (o:=13) hf (B8.cut (o:=14) (a:=[.lst (cl.map GL)]) (k:=1) (by rw[hcv];exact B8.one c3) (B8.cut (o:=15) hr (B8.cut (o:=22) (a:=[.lst (fl.map FR)]) (k:=1) (by rw[hfv];exact B8.one f3) (B8.end hl)))))))));simpa [Bj] using this
theorem jM {b2:Nat}{r:Reach}{v:Value}{d:DataW H}{ps:List MemPlace}(hk:Value.okWide P w r b2 tDs v) (h:DataW.Trod enc P w base sp hd tDs v d ps) (hB:K.b d≤1048576):∃l:List CC,Hn l∧B9 F0 w (.p (.lst (l.map Bj))) v:=by
 obtain⟨n,h⟩:=h;obtain⟨l,g1,_,g2,u,hu,g3⟩:=E9 K D.uDs D.cD Am Bj OB (fun _=>1) (B:=1048576) (fun m cs y _ h hB=>by obtain⟨v,q1,q2⟩:=gW K D E h hB;exact⟨v,q1,q2,K.pos _⟩) h hB;have:=R8 D.uDs hk hu;subst this;have g1':l.length≤K.b d:=g1;exact⟨l,⟨by omega,g2⟩,by simp only[B9];exact g3⟩
end
end Go.Eu
namespace Go.Proofs.YtboammbpdaoojaaGreat
open Go.Eu Go.Lib Go.ChangeShapes Go.WideShapes Go.ChangeAt Go.RowKit
theorem own:ownKnob Tryz.prog.godebug=none:=by kernel_rfl
theorem laidOut:laidOutB Tryz.prog=true:=by kernel_rfl
theorem og:FV Tryz.prog 3 9 162 113 115 23 26 24:=⟨by kernel_rfl,by kernel_rfl,by kernel_rfl,by kernel_rfl,by kernel_rfl,by kernel_rfl,by kernel_rfl,by kernel_rfl,by kernel_rfl,by kernel_rfl,by kernel_rfl,by kernel_rfl,by kernel_rfl,by kernel_rfl,by kernel_rfl,by kernel_rfl⟩
theorem rN:T7 Tryz.prog 3 4 9 26 24 117 62 64 69 120 67 71 61 66 22:=⟨by kernel_rfl,by kernel_rfl,by kernel_rfl,by kernel_rfl,by kernel_rfl,by kernel_rfl,by kernel_rfl,by kernel_rfl,by kernel_rfl,by kernel_rfl,by kernel_rfl,by kernel_rfl,by kernel_rfl,by kernel_rfl,by kernel_rfl,by kernel_rfl,by kernel_rfl,by kernel_rfl,by kernel_rfl,by kernel_rfl,by kernel_rfl,by kernel_rfl⟩
noncomputable def blk (H:Type):Zk H where
 b:=Rows.uptoBulk
 a:=Rows.uptoBulkAll
 str:=fun s=>by simp[Rows.uptoBulk]
 slice:=fun e s=>by simp[Rows.uptoBulk]
 agg:=fun p=>by simp[Rows.uptoBulk]
 nil:=by simp[Rows.uptoBulkAll]
 cons:=fun d r=>by simp[Rows.uptoBulkAll]
 pos:=fun d=>by
  cases d with
  | lit l=>cases l<;>simp[Rows.uptoBulk]
  | _=>simp[Rows.uptoBulk]
theorem iF {H:Type}{ds:List (DataW H)}(h:Rows.uptoSmall H ds=true) {i:Nat}{d:DataW H}(hd:ds[i]?=some d):(blk H).b d≤1048576:=by
 have h1:=(blk H).mem hd;have h2:(blk H).a ds≤1048576:=of_decide_eq_true h;omega
noncomputable def Li (os:Os):World:=World.holding Tryz.prog os ⟨#[],#[],[]⟩
theorem _root_.Go.Aj {α:Prop}(h:α:=by kernel_rfl):α:=h
theorem cz (os:Os) (args:Array Value):laidMet Tryz.prog [] ((Li os).forCall (fun _ _=>0) ⟨#[],args,[]⟩).memory :=
 (LaidIn.of_run [] 8 Aj Aj Aj Aj:LaidIn Tryz.prog ((Li os).forCall (fun _ _=>0) ⟨#[],args,[]⟩).memory [] []).met
end Go.Proofs.YtboammbpdaoojaaGreat
namespace Go.Proofs.YtboammbpdaoojaaGreat
open Go.Abs
theorem Ic:E6 Tryz.prog 22=some (66,23,360):=by kernel_rfl
theorem FQ:E6 Tryz.prog 23=some (115,2,32):=by kernel_rfl
theorem Bg:E6 Tryz.prog 24=some (26,5,80):=by kernel_rfl
theorem Gp:E6 Tryz.prog 61=some (71,15,224):=by kernel_rfl
theorem Hh:E6 Tryz.prog 62=some (117,6,96):=by kernel_rfl
theorem Kg:E6 Tryz.prog 67=some (120,10,144):=by kernel_rfl
theorem GB:E6 Tryz.prog 104=some (9,1,16):=by kernel_rfl
theorem D4:E6 Tryz.prog 113=some (162,2,16):=by kernel_rfl
theorem G8:E6 Tryz.prog 137=some (3,1,8):=by kernel_rfl
theorem Q2:E6 Tryz.prog 190=some (192,2,32):=by kernel_rfl
theorem rH:BH Tryz.prog 7=true:=by kernel_rfl
theorem pA:BH Tryz.prog 10=true:=by kernel_rfl
theorem oS:BH Tryz.prog 11=true:=by kernel_rfl
theorem pj:BH Tryz.prog 12=true:=by kernel_rfl
theorem pH:BH Tryz.prog 15=true:=by kernel_rfl
theorem po:BH Tryz.prog 16=true:=by kernel_rfl
theorem pX:BH Tryz.prog 18=true:=by kernel_rfl
theorem oG:BH Tryz.prog 20=true:=by kernel_rfl
theorem ox:BH Tryz.prog 22=true:=by kernel_rfl
theorem oR:BH Tryz.prog 23=true:=by kernel_rfl
theorem pw:BH Tryz.prog 24=true:=by kernel_rfl
theorem pO:BH Tryz.prog 25=true:=by kernel_rfl
theorem p5:BH Tryz.prog 29=true:=by kernel_rfl
theorem oN:BH Tryz.prog 30=true:=by kernel_rfl
theorem pU:BH Tryz.prog 31=true:=by kernel_rfl
theorem oP:BH Tryz.prog 32=true:=by kernel_rfl
theorem p4:BH Tryz.prog 33=true:=by kernel_rfl
theorem qB:BH Tryz.prog 34=true:=by kernel_rfl
theorem pT:BH Tryz.prog 35=true:=by kernel_rfl
theorem pF:BH Tryz.prog 36=true:=by kernel_rfl
theorem lD:BH Tryz.prog 37=true:=by kernel_rfl
theorem ow:BH Tryz.prog 38=true:=by kernel_rfl
theorem oJ:BH Tryz.prog 39=true:=by kernel_rfl
theorem qP:BH Tryz.prog 42=true:=by kernel_rfl
theorem oU:BH Tryz.prog 43=true:=by kernel_rfl
theorem px:BH Tryz.prog 44=true:=by kernel_rfl
theorem oZ:BH Tryz.prog 45=true:=by kernel_rfl
theorem pd:BH Tryz.prog 46=true:=by kernel_rfl
theorem oY:BH Tryz.prog 52=true:=by kernel_rfl
theorem pq:BH Tryz.prog 53=true:=by kernel_rfl
theorem oQ:BH Tryz.prog 55=true:=by kernel_rfl
theorem pK:BH Tryz.prog 56=true:=by kernel_rfl
theorem qG:BH Tryz.prog 57=true:=by kernel_rfl
theorem pS:BH Tryz.prog 58=true:=by kernel_rfl
theorem oW:BH Tryz.prog 59=true:=by kernel_rfl
theorem qM:BH Tryz.prog 61=true:=by kernel_rfl
theorem qO:BH Tryz.prog 62=true:=by kernel_rfl
theorem pN:BH Tryz.prog 64=true:=by kernel_rfl
theorem qA:BH Tryz.prog 65=true:=by kernel_rfl
theorem oT:BH Tryz.prog 66=true:=by kernel_rfl
theorem qH:BH Tryz.prog 67=true:=by kernel_rfl
theorem p6:BH Tryz.prog 68=true:=by kernel_rfl
theorem oI:BH Tryz.prog 69=true:=by kernel_rfl
theorem pM:BH Tryz.prog 70=true:=by kernel_rfl
theorem mV:BH Tryz.prog 71=true:=by kernel_rfl
theorem ot:BH Tryz.prog 72=true:=by kernel_rfl
theorem pc:BH Tryz.prog 73=true:=by kernel_rfl
theorem pE:BH Tryz.prog 74=true:=by kernel_rfl
theorem ou:BH Tryz.prog 75=true:=by kernel_rfl
theorem oH:BH Tryz.prog 76=true:=by kernel_rfl
theorem pR:BH Tryz.prog 77=true:=by kernel_rfl
theorem pz:BH Tryz.prog 80=true:=by kernel_rfl
theorem pW:BH Tryz.prog 81=true:=by kernel_rfl
theorem pV:BH Tryz.prog 82=true:=by kernel_rfl
theorem oo:BH Tryz.prog 85=true:=by kernel_rfl
theorem pv:BH Tryz.prog 89=true:=by kernel_rfl
theorem oX:BH Tryz.prog 90=true:=by kernel_rfl
theorem pZ:BH Tryz.prog 91=true:=by kernel_rfl
theorem oM:BH Tryz.prog 92=true:=by kernel_rfl
theorem qJ:BH Tryz.prog 93=true:=by kernel_rfl
theorem o9:BH Tryz.prog 94=true:=by kernel_rfl
theorem pe:BH Tryz.prog 95=true:=by kernel_rfl
theorem ph:BH Tryz.prog 96=true:=by kernel_rfl
theorem oq:BH Tryz.prog 97=true:=by kernel_rfl
theorem p9:BH Tryz.prog 98=true:=by kernel_rfl
theorem nU:BH Tryz.prog 99=true:=by kernel_rfl
theorem lL:BH Tryz.prog 100=true:=by kernel_rfl
theorem lN:BH Tryz.prog 101=true:=by kernel_rfl
theorem l9:BH Tryz.prog 102=true:=by kernel_rfl
theorem mj:BH Tryz.prog 103=true:=by kernel_rfl
theorem mi:BH Tryz.prog 104=true:=by kernel_rfl
theorem lq:BH Tryz.prog 105=true:=by kernel_rfl
theorem nY:BH Tryz.prog 106=true:=by kernel_rfl
theorem m8:BH Tryz.prog 107=true:=by kernel_rfl
theorem lF:BH Tryz.prog 108=true:=by kernel_rfl
theorem mr:BH Tryz.prog 110=true:=by kernel_rfl
theorem ke:BH Tryz.prog 111=true:=by kernel_rfl
theorem mP:BH Tryz.prog 112=true:=by kernel_rfl
theorem lu:BH Tryz.prog 113=true:=by kernel_rfl
theorem kz:BH Tryz.prog 114=true:=by kernel_rfl
theorem m7:BH Tryz.prog 115=true:=by kernel_rfl
theorem mO:BH Tryz.prog 116=true:=by kernel_rfl
theorem lO:BH Tryz.prog 117=true:=by kernel_rfl
theorem lM:BH Tryz.prog 118=true:=by kernel_rfl
theorem ld:BH Tryz.prog 120=true:=by kernel_rfl
theorem mT:BH Tryz.prog 121=true:=by kernel_rfl
theorem nw:BH Tryz.prog 122=true:=by kernel_rfl
theorem mc:BH Tryz.prog 123=true:=by kernel_rfl
theorem nG:BH Tryz.prog 124=true:=by kernel_rfl
theorem nL:BH Tryz.prog 125=true:=by kernel_rfl
theorem lx:BH Tryz.prog 126=true:=by kernel_rfl
theorem lp:BH Tryz.prog 127=true:=by kernel_rfl
theorem nM:BH Tryz.prog 128=true:=by kernel_rfl
theorem nF:BH Tryz.prog 129=true:=by kernel_rfl
theorem ik:BH Tryz.prog 130=true:=by kernel_rfl
theorem nu:BH Tryz.prog 131=true:=by kernel_rfl
theorem lr:BH Tryz.prog 132=true:=by kernel_rfl
theorem lZ:BH Tryz.prog 133=true:=by kernel_rfl
theorem lJ:BH Tryz.prog 134=true:=by kernel_rfl
theorem kr:BH Tryz.prog 135=true:=by kernel_rfl
theorem kh:BH Tryz.prog 136=true:=by kernel_rfl
theorem k0:BH Tryz.prog 137=true:=by kernel_rfl
theorem l4:BH Tryz.prog 138=true:=by kernel_rfl
theorem km:BH Tryz.prog 141=true:=by kernel_rfl
theorem mG:BH Tryz.prog 142=true:=by kernel_rfl
theorem lG:BH Tryz.prog 143=true:=by kernel_rfl
theorem ny:BH Tryz.prog 144=true:=by kernel_rfl
theorem lg:BH Tryz.prog 146=true:=by kernel_rfl
theorem lU:BH Tryz.prog 147=true:=by kernel_rfl
theorem nE:BH Tryz.prog 148=true:=by kernel_rfl
theorem ky:BH Tryz.prog 149=true:=by kernel_rfl
theorem lV:BH Tryz.prog 150=true:=by kernel_rfl
theorem mW:BH Tryz.prog 151=true:=by kernel_rfl
theorem ml:BH Tryz.prog 152=true:=by kernel_rfl
theorem iO:BH Tryz.prog 153=true:=by kernel_rfl
theorem nW:BH Tryz.prog 154=true:=by kernel_rfl
theorem m9:BH Tryz.prog 155=true:=by kernel_rfl
theorem ma:BH Tryz.prog 156=true:=by kernel_rfl
theorem m5:BH Tryz.prog 157=true:=by kernel_rfl
theorem mD:BH Tryz.prog 158=true:=by kernel_rfl
theorem l8:BH Tryz.prog 159=true:=by kernel_rfl
theorem mq:BH Tryz.prog 160=true:=by kernel_rfl
theorem ll:BH Tryz.prog 161=true:=by kernel_rfl
theorem iQ:BH Tryz.prog 162=true:=by kernel_rfl
theorem ki:BH Tryz.prog 163=true:=by kernel_rfl
theorem mu:BH Tryz.prog 164=true:=by kernel_rfl
theorem lj:BH Tryz.prog 165=true:=by kernel_rfl
theorem mZ:BH Tryz.prog 166=true:=by kernel_rfl
theorem np:BH Tryz.prog 170=true:=by kernel_rfl
theorem nz:BH Tryz.prog 171=true:=by kernel_rfl
theorem nQ:BH Tryz.prog 172=true:=by kernel_rfl
theorem mn:BH Tryz.prog 173=true:=by kernel_rfl
theorem ly:BH Tryz.prog 174=true:=by kernel_rfl
theorem m4:BH Tryz.prog 175=true:=by kernel_rfl
theorem lf:BH Tryz.prog 176=true:=by kernel_rfl
theorem nJ:BH Tryz.prog 177=true:=by kernel_rfl
theorem iU:BH Tryz.prog 178=true:=by kernel_rfl
theorem lh:BH Tryz.prog 179=true:=by kernel_rfl
theorem nZ:BH Tryz.prog 180=true:=by kernel_rfl
theorem mw:BH Tryz.prog 181=true:=by kernel_rfl
theorem kn:BH Tryz.prog 182=true:=by kernel_rfl
theorem mE:BH Tryz.prog 183=true:=by kernel_rfl
theorem lC:BH Tryz.prog 184=true:=by kernel_rfl
theorem nj:BH Tryz.prog 185=true:=by kernel_rfl
theorem lK:BH Tryz.prog 186=true:=by kernel_rfl
theorem my:BH Tryz.prog 190=true:=by kernel_rfl
theorem nR:BH Tryz.prog 191=true:=by kernel_rfl
theorem mR:BH Tryz.prog 193=true:=by kernel_rfl
theorem lT:BH Tryz.prog 194=true:=by kernel_rfl
theorem nX:BH Tryz.prog 195=true:=by kernel_rfl
theorem nh:BH Tryz.prog 196=true:=by kernel_rfl
theorem lB:BH Tryz.prog 200=true:=by kernel_rfl
theorem Gi:fieldsOf Tryz.prog 26=some [(0,1),(1,1),(2,1),(3,1),(4,1)]:=by kernel_rfl
theorem GU:fieldsOf Tryz.prog 51=some [(0,1),(1,1),(2,1),(3,1),(4,5)]:=by kernel_rfl
theorem C3:fieldsOf Tryz.prog 66=some [(0,1),(1,1),(2,1),(3,5),(8,5),(13,1),(14,1),(15,7),(22,1)]:=by kernel_rfl
theorem Fi:fieldsOf Tryz.prog 69=some [(0,1),(1,5),(6,1),(7,1)]:=by kernel_rfl
theorem G4:fieldsOf Tryz.prog 71=some [(0,1),(1,5),(6,1),(7,8)]:=by kernel_rfl
theorem cO:fieldsOf Tryz.prog 115=some [(0,1),(1,1)]:=by kernel_rfl
theorem I2:fieldsOf Tryz.prog 117=some [(0,1),(1,5)]:=by kernel_rfl
theorem JB:fieldsOf Tryz.prog 120=some [(0,1),(1,1),(2,8)]:=by kernel_rfl
theorem cU:fieldsOf Tryz.prog 122=some []:=by kernel_rfl
theorem lR:fieldsOf Tryz.prog 125=some [(0,1),(1,1)]:=by kernel_rfl
theorem im:fieldsOf Tryz.prog 148=some [(0,1),(1,1)]:=by kernel_rfl
theorem nK:fieldsOf Tryz.prog 162=some [(0,1),(1,1)]:=by kernel_rfl
theorem ko:fieldsOf Tryz.prog 167=some [(0,1),(1,1),(2,1),(3,1),(4,1)]:=by kernel_rfl
theorem M3:fieldsOf Tryz.prog 200=some [(0,1),(1,1),(2,23)]:=by kernel_rfl
theorem mB:fieldsOf Tryz.prog 207=some [(0,1)]:=by kernel_rfl
theorem nT:fieldsOf Tryz.prog 231=some [(0,1),(1,1)]:=by kernel_rfl
theorem dK:mapOf Tryz.prog 229=some 3:=by kernel_rfl
theorem EO:Tryz.prog.follows .mixedOrders=true:=by kernel_rfl
theorem mf:Nv Tryz.prog 162=true:=by kernel_rfl
theorem ty2:Dl Tryz.prog 2=some (false,1):=by kernel_rfl
theorem Df:Dl Tryz.prog 3=some (false,1):=by kernel_rfl
theorem oF:Dl Tryz.prog 4=some (false,1):=by kernel_rfl
theorem MR:Dl Tryz.prog 9=some (false,1):=by kernel_rfl
theorem ae:Dl Tryz.prog 22=some (false,1):=by kernel_rfl
theorem GY:Dl Tryz.prog 24=some (false,1):=by kernel_rfl
theorem BQ:Dl Tryz.prog 26=some (true,5):=by kernel_rfl
theorem Rh:Dl Tryz.prog 29=some (false,1):=by kernel_rfl
theorem Ls:Dl Tryz.prog 51=some (true,9):=by kernel_rfl
theorem HI:Dl Tryz.prog 61=some (false,1):=by kernel_rfl
theorem IH:Dl Tryz.prog 62=some (false,1):=by kernel_rfl
theorem Gg:Dl Tryz.prog 66=some (true,23):=by kernel_rfl
theorem Lx:Dl Tryz.prog 67=some (false,1):=by kernel_rfl
theorem Kf:Dl Tryz.prog 69=some (true,8):=by kernel_rfl
theorem gV:Dl Tryz.prog 71=some (true,15):=by kernel_rfl
theorem Un:Dl Tryz.prog 104=some (false,1):=by kernel_rfl
theorem FW:Dl Tryz.prog 115=some (true,2):=by kernel_rfl
theorem ng:Dl Tryz.prog 117=some (true,6):=by kernel_rfl
theorem SK:Dl Tryz.prog 120=some (true,10):=by kernel_rfl
theorem nS:Dl Tryz.prog 122=some (true,0):=by kernel_rfl
theorem JD:Dl Tryz.prog 158=some (false,1):=by kernel_rfl
theorem QU:Dl Tryz.prog 162=some (true,2):=by kernel_rfl
theorem ij:Dl Tryz.prog 167=some (true,5):=by kernel_rfl
theorem mM:Dl Tryz.prog 168=some (true,65):=by kernel_rfl
theorem mC:Dl Tryz.prog 192=some (true,2):=by kernel_rfl
theorem mN:Dl Tryz.prog 205=some (false,1):=by kernel_rfl
theorem l6:Dl Tryz.prog 210=some (true,1):=by kernel_rfl
theorem Ly:Tryz.prog.underlying 54=some (.array 3 26):=by kernel_rfl
theorem I8:Tryz.prog.underlying 159=some (.array 7 158):=by kernel_rfl
theorem iP:Tryz.prog.underlying 168=some (.array 13 167):=by kernel_rfl
theorem Ze:Tryz.prog.underlying 20=some (.interface #[]):=by kernel_rfl
theorem iW:Tryz.prog.underlying 223=some (.int .i64):=by kernel_rfl
theorem rJ:Tryz.prog.underlying 4=some .bool:=by kernel_rfl
theorem iR:Tryz.prog.underlying 9=some .string:=by kernel_rfl
theorem eM:zeroOf Tryz.prog 3=some (.int .i64 0):=by kernel_rfl
theorem qd:zeroOf Tryz.prog 4=some (.bool false):=by kernel_rfl
theorem ed:zeroOf Tryz.prog 9=some (.string { data:={ toList:=[] } }):=by kernel_rfl
theorem Bw:zeroOf Tryz.prog 26=some (.agg { toList:=[.int .i64 0,.int .i64 0,.string { data:={ toList:=[] } },.slice none 0 0,.slice none 0 0] }):=by kernel_rfl
theorem df:zeroOf Tryz.prog 29=some (.int .i64 0):=by kernel_rfl
theorem IZ:zeroOf Tryz.prog 51=some (.agg { toList:=[.int .i64 0,.int .i64 0,.int .i64 0,.int .i64 0,.int .i64 0,.int .i64 0,.string { data:={ toList:=[] } },.slice none 0 0,.slice none 0 0] }):=by kernel_rfl
theorem Ml:zeroOf Tryz.prog 66=some (.agg { toList:=[.int .i64 0,.string { data:={ toList:=[] } },.int .i64 0,.int .i64 0,.int .i64 0,.string { data:={ toList:=[] } },.slice none 0 0,.slice none 0 0,.int .i64 0,.int .i64 0,.string { data:={ toList:=[] } },.slice none 0 0,.slice none 0 0,.int .i64 0,.slice none 0 0,.int .i64 0,.int .i64 0,.int .i64 0,.string { data:={ toList:=[] } },.slice none 0 0,.slice none 0 0,.slice none 0 0,.slice none 0 0] }):=by kernel_rfl
theorem Yn:zeroOf Tryz.prog 69=some (.agg { toList:=[.int .i64 0,.int .i64 0,.int .i64 0,.string { data:={ toList:=[] } },.slice none 0 0,.slice none 0 0,.int .i64 0,.slice none 0 0] }):=by kernel_rfl
theorem ao:zeroOf Tryz.prog 71=some (.agg { toList:=[.string { data:={ toList:=[] } },.int .i64 0,.int .i64 0,.string { data:={ toList:=[] } },.slice none 0 0,.slice none 0 0,.int .i64 0,.int .i64 0,.int .i64 0,.int .i64 0,.string { data:={ toList:=[] } },.slice none 0 0,.slice none 0 0,.int .i64 0,.slice none 0 0] }):=by kernel_rfl
theorem Hi:zeroOf Tryz.prog 115=some (.agg { toList:=[.int .i64 0,.slice none 0 0] }):=by kernel_rfl
theorem YL:zeroOf Tryz.prog 117=some (.agg { toList:=[.string { data:={ toList:=[] } },.int .i64 0,.int .i64 0,.string { data:={ toList:=[] } },.slice none 0 0,.slice none 0 0] }):=by kernel_rfl
theorem YP:zeroOf Tryz.prog 120=some (.agg { toList:=[.string { data:={ toList:=[] } },.bool false,.int .i64 0,.int .i64 0,.int .i64 0,.string { data:={ toList:=[] } },.slice none 0 0,.slice none 0 0,.int .i64 0,.slice none 0 0] }):=by kernel_rfl
theorem Xx:zeroOf Tryz.prog 122=some (.agg { toList:=[] }):=by kernel_rfl
theorem nC:zeroOf Tryz.prog 137=some (.slice none 0 0):=by kernel_rfl
theorem ie:zeroOf Tryz.prog 148=some (.agg { toList:=[.int .i64 0,.int .i64 0] }):=by kernel_rfl
theorem QI:zeroOf Tryz.prog 159=some (.agg { toList:=[.nilFunc,.nilFunc,.nilFunc,.nilFunc,.nilFunc,.nilFunc,.nilFunc] }):=by kernel_rfl
theorem L5:zeroOf Tryz.prog 162=some (.agg { toList:=[.int .i64 0,.int .i64 0] }):=by kernel_rfl
theorem aV:zeroOf Tryz.prog 168=some (.agg { toList:=[.bool false,.bool false,.int .i64 0,.int .i64 0,.int .i64 0,.bool false,.bool false,.int .i64 0,.int .i64 0,.int .i64 0,.bool false,.bool false,.int .i64 0,.int .i64 0,.int .i64 0,.bool false,.bool false,.int .i64 0,.int .i64 0,.int .i64 0,.bool false,.bool false,.int .i64 0,.int .i64 0,.int .i64 0,.bool false,.bool false,.int .i64 0,.int .i64 0,.int .i64 0,.bool false,.bool false,.int .i64 0,.int .i64 0,.int .i64 0,.bool false,.bool false,.int .i64 0,.int .i64 0,.int .i64 0,.bool false,.bool false,.int .i64 0,.int .i64 0,.int .i64 0,.bool false,.bool false,.int .i64 0,.int .i64 0,.int .i64 0,.bool false,.bool false,.int .i64 0,.int .i64 0,.int .i64 0,.bool false,.bool false,.int .i64 0,.int .i64 0,.int .i64 0,.bool false,.bool false,.int .i64 0,.int .i64 0,.int .i64 0] }):=by kernel_rfl
theorem mz:zeroOf Tryz.prog 170=some .nilFunc:=by kernel_rfl
theorem VL:zeroOf Tryz.prog 192=some (.agg { toList:=[.int .i64 0,.slice none 0 0] }):=by kernel_rfl
theorem iM:zeroOf Tryz.prog 200=some (.agg { toList:=[.slice none 0 0,.slice none 0 0,.int .i64 0,.string { data:={ toList:=[] } },.int .i64 0,.int .i64 0,.int .i64 0,.string { data:={ toList:=[] } },.slice none 0 0,.slice none 0 0,.int .i64 0,.int .i64 0,.string { data:={ toList:=[] } },.slice none 0 0,.slice none 0 0,.int .i64 0,.slice none 0 0,.int .i64 0,.int .i64 0,.int .i64 0,.string { data:={ toList:=[] } },.slice none 0 0,.slice none 0 0,.slice none 0 0,.slice none 0 0] }):=by kernel_rfl
theorem lH:zeroOf Tryz.prog 204=some .nilFunc:=by kernel_rfl
theorem mX:zeroOf Tryz.prog 205=some (.pointer none):=by kernel_rfl
theorem mI:zeroOf Tryz.prog 207=some (.agg { toList:=[.int .i64 0] }):=by kernel_rfl
theorem mh:zeroOf Tryz.prog 210=some (.agg { toList:=[.nilFunc] }):=by kernel_rfl
theorem nD:zeroOf Tryz.prog 231=some (.agg { toList:=[.map none,.int .i64 0] }):=by kernel_rfl
end Go.Proofs.YtboammbpdaoojaaGreat
namespace Go.Abs
theorem Vk {F:Nat→Prop}{w:World}{b:Nat}{vs:List Value}{T:TypeId}(hb:w.heap[b]?=some (.cells ⟨vs⟩ T (0,0))):∀(cs:List PV) (o:Nat),Bp F w (cs.map .p) (vs.drop o)→B7 F w b o cs
 | [],_,_=>by simp[B7]
 | c::cs,o,h=>by
  simp only[List.map_cons,Bp,B9] at h;obtain⟨u,us,e,hu,hr⟩:=h;have ho:o<vs.length:=by
   by_cases q:o<vs.length
   ·exact q
   rw[List.drop_eq_nil_of_le An] at e;cases e
  rw[List.drop_eq_getElem_cons ho] at e;injection e with e1 e2;simp only[B7];refine⟨⟨u,?_,hu⟩,Vk hb cs (o+1) (by rw[e2];exact hr)⟩;unfold World.cell?;rw[hb];simp[ho,e1]
theorem Jb {n:Nat}{τ:Nat→AV}{H:List BD}{D:List Dw}{i b:Nat}{cs:List PV}(ts:List Nat) (hi:H[i]?=some (.box b (cs.map .p))) (ht:∀t∈ts,τ t= .ptr b 0) :
  G6 ⟨n,τ,H,D⟩ ⟨n,JG ts (.ref cs) τ,H.eraseIdx i,D⟩:=by
 intro F a w hs;have hmem:=List.mem_of_getElem? hi;have hFb:F b:=hs.heap.sub _ hmem b rfl;have hbd:b<w.heap.size:=hs.heap.bd b hFb;have st:DF F w (fun k=>F k∧k≠b) w:=⟨Nat.le_refl _,fun _ _ _=>rfl,fun _ h _ h'=>h h'.1⟩;have hne:∀x∈H.eraseIdx i,∀k,x.key=some k→k≠b:=by
  intro x hx k hk hkb;subst hkb;obtain⟨j,hj⟩:=List.mem_iff_getElem?.1 hx;rw[List.getElem?_eraseIdx] at hj;split at hj
  ·have:=Ft hs.heap.nodup hj hi hk rfl;omega
  have:=Ft hs.heap.nodup hj hi hk rfl;omega
 have hsub:(H.eraseIdx i).Sublist H:=List.eraseIdx_sublist H i;refine⟨fun k=>F k∧k≠b,⟨hs.size,?_,?_,Ei.mono st _ _ hs.defs⟩,?_⟩
 ·intro t;simp only[JG];cases hq:ts.any (Nat.beq t ·) with
  | false=>exact B9.mono st _ _ (hs.tmp t)
  | true =>
   obtain⟨t',ht',he⟩:=List.any_eq_true.1 hq;have e:=Nat.eq_of_beq_eq_true he;subst e;have hv:=hs.tmp t;simp only[ht t ht',B9] at hv;obtain⟨vs,T,hb,hr⟩:=hs.heap.obj _ hmem;show B9 (fun k=>F k∧k≠b) w (.ref cs) _;simp only[B9];exact⟨b,0,hv,fun h=>h.2 O,hbd,Vk hb cs 0 (by rw[List.drop_zero];exact Bp.mono st _ _ hr)⟩
 ·have:=hs.heap.sublist hsub;exact⟨fun x hx k hk=>⟨this.sub x hx k hk,hne x hx k hk⟩,this.nodup,fun x hx=>HV.mono st x (fun _ _=>O) (this.obj x hx),fun k hk=>this.bd k hk.1⟩
 exact⟨Nat.le_refl _,fun _ _ _=>O,fun k hk hn=>⟨hk,fun e=>hn _ hmem (by rw[e];rfl)⟩,fun k hk=> .inl hk.1,fun x hx k hk=> .inl ⟨x,hsub.subset hx,hk⟩,O,O,O⟩
end Go.Abs
