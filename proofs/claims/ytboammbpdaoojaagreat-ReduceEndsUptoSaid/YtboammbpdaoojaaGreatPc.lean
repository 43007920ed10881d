/- Part of the proofs: an abstract program logic, plain models and contracts of functions. -/
import Derived.Test.YtboammbpdaoojaaGreatPb
import Derived.ProofKit
import Derived.Deep.DeepHandedRow
import Derived.Lib.AppendStr
import Derived.Lib.Builder
import Derived.Laws.Externs
import Derived.Lib.UnsafeStr
import Derived.Below
import Derived.Test.YtboammbpdaoojaaGreatRows
import Derived.Deep.DeepWitnessRowRef
import Derived.Lib.LaidIn
import Derived.Test.YtboammbpdaoojaaGreatProg
set_option linter.unusedVariables false
set_option linter.unusedSimpArgs false
set_option maxRecDepth 1000000
namespace Go.Eu
open Go.Abs Go.RowKit Go.ChangeShapes Go.ChangeAt Go.WideShapes
theorem dS:∀{ts:List Tm},(∀t∈ts,Wd t)→gS ts
 | [],_=>trivial
 | t::ts,h=>⟨h t As,dS fun x hx=>h x (by simp[hx])⟩
abbrev F0:Nat→Prop:=fun _=>False
def CH (w:World):List PV→List Value→Prop
 | [],cs=>cs=[]
 | p::ps,cs=>∃c cs',cs=c::cs'∧CK F0 w p c∧CH w ps cs'
theorem CH.length {w:World}:∀{ps:List PV}{cs:List Value},CH w ps cs→ps.length=cs.length
 | [],cs,h=>by simp only[CH] at h;subst h;rfl
 | p::ps,cs,h=>by
  obtain⟨c,cs',rfl,_,h⟩:=h;simp[CH.length h]
theorem CH.append {w:World}:∀{a b:List PV}{x y:List Value},CH w a x→CH w b y→CH w (a++b) (x++y)
 | [],b,x,y,h,h'=>by simp only[CH] at h;subst h;exact h'
 | p::a,b,x,y,h,h'=>by
  obtain⟨c,cs',rfl,h1,h⟩:=h;exact⟨c,cs'++y,O,h1,CH.append h h'⟩
theorem CH.one {w:World}{p:PV}{c:Value}(h:CK F0 w p c):CH w [p] [c]:=⟨c,[],rfl,h,rfl⟩
theorem CH.repL {w:World}:∀{ps:List PV}{cs:List Value},CH w ps cs→Bz F0 w (ps.map .p) cs
 | [],cs,h=>by simp only[CH] at h;subst h;exact rfl
 | p::ps,cs,h=>by
  obtain⟨c,cs',rfl,h1,h⟩:=h;exact⟨c,cs',O,by simp only[CF];exact h1,CH.repL h⟩
theorem OL {w:World}{b:Nat}:∀(r:List PV) (cs:List Value) (o:Nat),CH w r cs→(∀j,j<cs.length→w.cell? ⟨b,o+j,none⟩=cs[j]?)→CL F0 w b o r
 | [],cs,o,h,hc=>by simp[CL]
 | p::r,cs,o,h,hc=>by
  obtain⟨c,cs',rfl,h1,h⟩:=h;refine⟨⟨c,by have:=hc 0 As;simpa using this,h1⟩,OL r cs' (o+1) h fun j hj=>?_⟩;have:=hc (j+1) Am;rw[show o+1+j=o+(j+1) by omega];simpa using this
theorem Lf {w:World}{base:Nat}{a:Addr}{n:Nat}{cs:List Value}(h:w.cells? base a n=some cs):cs.length=n∧∀j,j<n→w.cell? (a.add j)=cs[j]?:=by
 unfold World.cells? at h;split at h
 ·exact⟨by simpa using mapM_some_length h,fun j hj=>mapM_some_get h j j (by simp[hj])⟩
 cases h
section
variable {H:Type}{enc:TypeId×Value→H}{P:Program}{w:World}{base:Nat}{sp:Nat→Bool}{hd:Bool}{n:Nat}
theorem open_slice {α:Type}{e t C:Nat}(ut:P.underlying t=some (.slice e)) (hC:P.cellsOf e=C) (hC1:1≤C) (f:α→List PV) (Q:α→Prop)
  (he:∀m cs y,m<n→DataW.trod enc P w base sp hd m e cs=some y→∃a,CH w (f a) cs∧Q a) {cs:List Value} {y:DataW H×List MemPlace} (h:DataW.trod enc P w base sp hd n t cs=some y) :
  ∃l:List α,l.length<wide∧(∀a∈l,Q a)∧∃v,cs=[v]∧CK F0 w (.lst (l.map f)) v:=by
 rcases DataW.trod_slice ut h with ⟨rfl,_⟩ | ⟨a,len,cap,elems,rest,m,rfl,rfl,_,hb,hl,hc,hel,hget,_,_⟩
 ·exact⟨[],by simp[wide],fun a ha=>by simp at ha,_,rfl,by simp only[CK];exact .inl ⟨rfl,none,0,rfl⟩⟩
 rw[hC] at hget;have hml:maxLen<wide:=by decide
 rcases Nat.eq_zero_or_pos len with h0 | h0
 ·subst h0;exact⟨[],by simp[wide],fun a ha=>by simp at ha,_,rfl,by simp only[CK];exact .inl ⟨rfl,some a,cap,rfl⟩⟩
 have hone:∀i,i<len→∃ci y,w.cells? base (a.add (i*C)) C=some ci∧DataW.trod enc P w base sp hd m e ci=some y:=fun i hi=>by
  have:=hget i hi;rw[List.getElem?_eq_getElem Ar] at this;obtain⟨ci,h1,h2⟩:=Option.bind_eq_some_iff.1 this;exact⟨ci,_,h1,h2⟩
 obtain⟨c0,y0,hc0,_⟩:=hone 0 h0;obtain⟨hl0,hg0⟩:=Lf hc0;have hcell:∃v,w.cell? a=some v:=by
  have:=hg0 0 Ar;rw[Nat.zero_mul,Addr.add,if_pos rfl,Addr.add,if_pos rfl] at this;rw[List.getElem?_eq_getElem Ar] at this;exact⟨_,this⟩
 obtain⟨v0,hv0⟩:=hcell;obtain⟨blk,off,spot⟩:=a;have hspot:spot=none:=by
  unfold World.cell? at hv0;simp only at hv0;split at hv0
  ·cases spot with
   | none=>rfl
   | some s=>simp at hv0
  cases hv0
 subst hspot;have hblk:blk<w.heap.size:=by
  unfold World.cell? at hv0;simp only at hv0;split at hv0
  ·rename_i hh;exact(Array.getElem?_eq_some_iff.1 hh).1
  cases hv0
 have hadd:∀k,(⟨blk,off,none⟩:Addr).add k=⟨blk,off+k,none⟩:=fun k=>by
  unfold Addr.add;split
  ·rename_i e;subst e;rfl
  rfl
 have hadd2:∀o k,(⟨blk,o,none⟩:Addr).add k=⟨blk,o+k,none⟩:=fun o k=>by
  unfold Addr.add;split
  ·rename_i e;subst e;rfl
  rfl
 have hrows:∀k,k≤len→∃l:List α,l.length=k∧(∀x∈l,Q x)∧B2 F0 w blk C (off+(len - k)*C) (l.map f):=by
  intro k
  induction k with
  | zero=>exact fun _=>⟨[],rfl,fun a ha=>by simp at ha,by simp[B2]⟩
  | succ k ih =>
   intro hk;obtain⟨l,h1,h2,h3⟩:=ih Ar;obtain⟨ci,y,hci,ht⟩:=hone (len - (k+1)) Ar;obtain⟨g1,g2⟩:=Lf hci;obtain⟨x,hx,hq⟩:=he m ci y Ar ht;refine⟨x::l,by simp[h1],fun z hz=>?_,?_⟩
   ·rcases List.mem_cons.1 hz with rfl | hz
    ·exact hq
    exact h2 z hz
   refine⟨by rw[hx.length,g1],OL _ ci _ hx fun j hj=>?_,?_⟩
   ·have:=g2 j Ar;rw[hadd,hadd2] at this;exact this
   rw[show off+(len - (k+1))*C+C=off+(len - k)*C by rw[Nat.add_assoc,←Nat.succ_mul];congr 2;omega];exact h3
 obtain⟨l,h1,h2,h3⟩:=hrows len (Nat.le_refl _);rw[Nat.sub_self,Nat.zero_mul,Nat.add_zero] at h3;refine⟨l,by omega,h2,_,rfl,?_⟩;simp only[CK];refine .inr ⟨blk,off,cap,C,by rw[List.length_map,h1],fun h=>h,hblk,by rw[List.length_map];omega,h3⟩
def L2 (P:Program) (t:TypeId):Option (List (Nat×Nat)) :=
 match P.underlying t with
 | some (.struct fs)=>some (fs.toList.map fun f=>(f.type,f.offset))
 | _=>none
theorem UJ {t:TypeId}{l:List (Nat×Nat)}(hf:L2 P t=some l) {cs:List Value}{y:DataW H×List MemPlace}(h:DataW.trod enc P w base sp hd n t cs=some y) :
  ∃m,n=m+1∧cs.length=P.cellsOf t∧∀(i:Nat) (p:Nat×Nat),l[i]?=some p→∃z,DataW.trod enc P w base sp hd m p.1 ((cs.drop p.2).take (P.cellsOf p.1))=some z:=by
 unfold L2 at hf;split at hf
 ·rename_i fs hu;injection hf with hf;subst hf;obtain⟨xs,m,h1,_,h2,h3,h4⟩:=DataW.trod_struct hu h;refine⟨m,h1,h2,fun i p hp=>?_⟩;rw[List.getElem?_map] at hp;obtain⟨fl,hfl,rfl⟩:=Option.map_eq_some_iff.1 hp;have hi:fs[i]?=some fl:=by simpa using hfl
  have:=h4 i fl hi;have hlt:i<xs.length:=by rw[h3];exact(Array.getElem?_eq_some_iff.1 hi).1
  rw[List.getElem?_eq_getElem hlt] at this;exact⟨_,this⟩
 cases hf
end
structure GV (P:Program) (tI tS tV tVs tL tLs tT tTs:TypeId):Prop where
 uI:P.underlying tI=some (.int .i64)
 uS:P.underlying tS=some .string
 uVs:P.underlying tVs=some (.slice tV)
 uLs:P.underlying tLs=some (.slice tL)
 uTs:P.underlying tTs=some (.slice tT)
 fV:L2 P tV=some [(tI,0),(tI,1)]
 fL:L2 P tL=some [(tI,0),(tVs,1)]
 fT:L2 P tT=some [(tI,0),(tI,1),(tS,2),(tLs,3),(tTs,4)]
 cI:P.cellsOf tI=1
 cS:P.cellsOf tS=1
 cVs:P.cellsOf tVs=1
 cLs:P.cellsOf tLs=1
 cTs:P.cellsOf tTs=1
 cV:P.cellsOf tV=2
 cL:P.cellsOf tL=2
 cT:P.cellsOf tT=5
theorem OK {n:Int}(h:(Lit.int .i64 n).wf=true):JJ n:=by
 simp only[Lit.wf,Bool.and_eq_true,decide_eq_true_eq] at h;exact h
theorem _root_.Go.Aq {α:Prop}(h:α:=by decide):α:=h
section
variable {H:Type}{enc:TypeId×Value→H}{P:Program}{w:World}{base:Nat}{sp:Nat→Bool}{hd:Bool}{tI tB tS tV tVs tL tLs tT tTs tM tMs:TypeId}
theorem dI (E:GV P tI tS tV tVs tL tLs tT tTs) {n:Nat}{cs:List Value}{y:DataW H×List MemPlace}(h:DataW.trod enc P w base sp hd n tV cs=some y):∃v:CT,CH w (Gm v) cs∧(JJ v.index∧JJ v.plus):=by
 obtain⟨m,rfl,hl,hg⟩:=UJ E.fV h;rw[E.cV] at hl
 match cs,hl with
 | [c0,c1],_ =>
  obtain⟨z0,h0⟩:=hg 0 _ rfl;obtain⟨z1,h1⟩:=hg 1 _ rfl;simp only[E.cI,List.drop_zero,List.drop_succ_cons,List.take_succ_cons,List.take_zero] at h0 h1;obtain⟨a,ha,_,fa⟩:=DataW.trod_int E.uI h0;obtain⟨b,hb,_,fb⟩:=DataW.trod_int E.uI h1;injection ha with ha;injection hb with hb;subst ha hb;exact⟨⟨a,b⟩,⟨_,_,O,by simp[CK],_,_,rfl,by simp[CK],rfl⟩,OK fa,OK fb⟩
theorem jg (E:GV P tI tS tV tVs tL tLs tT tTs) {n:Nat}{cs:List Value}{y:DataW H×List MemPlace}(h:DataW.trod enc P w base sp hd n tL cs=some y):∃v:Cf,CH w (CD v) cs∧kE v:=by
 obtain⟨m,rfl,hl,hg⟩:=UJ E.fL h;rw[E.cL] at hl
 match cs,hl with
 | [c0,c1],_ =>
  obtain⟨z0,h0⟩:=hg 0 _ rfl;obtain⟨z1,h1⟩:=hg 1 _ rfl;simp only[E.cI,E.cVs,List.drop_zero,List.drop_succ_cons,List.take_succ_cons,List.take_zero] at h0 h1;obtain⟨a,ha,_,fa⟩:=DataW.trod_int E.uI h0;injection ha with ha;subst ha;obtain⟨l,g1,g2,v,hv,g3⟩:=open_slice E.uVs E.cV Aq Gm (fun v=>JJ v.index∧JJ v.plus) (fun m cs y _ h=>dI E h) h1;injection hv with hv;subst hv;exact⟨⟨a,l⟩,⟨_,_,O,by simp[CK],_,_,rfl,g3,rfl⟩,⟨g1,OK fa,g2⟩⟩
theorem ib (E:GV P tI tS tV tVs tL tLs tT tTs):∀(n:Nat) (cs:List Value) (y:DataW H×List MemPlace),DataW.trod enc P w base sp hd n tT cs=some y→∃t:Tm,CH w (BU t) cs∧Wd t:=by
 intro n
 induction n using Nat.strongRecOn with
 | ind n ih =>
  intro cs y h;obtain⟨m,rfl,hl,hg⟩:=UJ E.fT h;rw[E.cT] at hl
  match cs,hl with
  | [c0,c1,c2,c3,c4],_ =>
   obtain⟨z0,h0⟩:=hg 0 _ rfl;obtain⟨z1,h1⟩:=hg 1 _ rfl;obtain⟨z2,h2⟩:=hg 2 _ rfl;obtain⟨z3,h3⟩:=hg 3 _ rfl;obtain⟨z4,h4⟩:=hg 4 _ rfl;simp only[E.cI,E.cS,E.cLs,E.cTs,List.drop_zero,List.drop_succ_cons,List.take_succ_cons,List.take_zero] at h0 h1 h2 h3 h4;obtain⟨a,ha,_,wa⟩:=DataW.trod_int E.uI h0;obtain⟨b,hb,_,wb⟩:=DataW.trod_int E.uI h1;obtain⟨s,hs,_,ws⟩:=DataW.trod_string E.uS h2;injection ha with ha;injection hb with hb;injection hs with hs;subst ha hb hs;obtain⟨l,g1,g2,v,hv,g3⟩:=open_slice E.uLs E.cL Aq CD kE (fun m cs y _ h=>jg E h) h3;obtain⟨ks,k1,k2,u,hu,k3⟩:=open_slice E.uTs E.cT Aq BU Wd (fun m' cs y hm h=>ih m' Ar cs y h) h4;injection hv with hv;injection hu with hu;subst hv hu;have hml:maxLen<wide:=by decide
   exact⟨.mk a b s l ks,⟨_,_,O,by simp[CK],_,_,rfl,by simp[CK],_,_,rfl,by simp[CK],_,_,rfl,g3,_,_,rfl,by rw[Ea];exact k3,rfl⟩,
    ⟨by omega,g1,g2,k1,dS fun t ht=>k2 t ht,OK wa,OK wb⟩⟩
structure nZ (P:Program) (tB tT tM tMs:TypeId):Prop where
 uB:P.underlying tB=some .bool
 uMs:P.underlying tMs=some (.slice tM)
 fM:L2 P tM=some [(tT,0),(tB,5),(tT,6),(tB,11)]
 cB:P.cellsOf tB=1
 cM:P.cellsOf tM=12
theorem Yy {b2:Nat}{r:Reach}{t e:TypeId}(ut:P.underlying t=some (.slice e)) {v u:Value}(hk:Value.okWide P w r b2 t v) (h:v.cells.toList=[u]):v=u:=by
 unfold Value.okWide at hk;rw[ut] at hk;simp only at hk;unfold Cell.okWide at hk;rw[ut] at hk;cases v with
 | agg cs=>simp only at hk;unfold Cell.ok at hk;rw[ut] at hk;simp at hk
 | _=>simp[Value.cells] at h;exact h
theorem mh (E:GV P tI tS tV tVs tL tLs tT tTs) {b2:Nat}{r:Reach}{v:Value}{d:DataW H}{ps:List MemPlace}(hk:Value.okWide P w r b2 tT v) (h:DataW.Trod enc P w base sp hd tT v d ps):∃t:Tm,Wd t∧CF F0 w (TV t) v:=by
 obtain⟨n,h⟩:=h;obtain⟨t,g1,g2⟩:=ib E _ _ _ h;have hf:=E.fT;unfold L2 at hf;unfold Value.okWide at hk;split at hk
 ·obtain⟨cs,rfl,_,_⟩:=hk;refine⟨t,g2,?_⟩;exact⟨cs.toList,by simp,CH.repL g1⟩
 ·rename_i hu;rw[hu] at hf;cases hf
 rename_i h1 h2;split at hf
 ·rename_i fs hu;exact absurd hu (h1 fs)
 cases hf
end
theorem Yc (w:World):HRel F0 [] w:=⟨fun o ho=>by simp at ho,by simp,fun o ho=>by simp at ho,fun b hb=>hb.elim⟩
theorem Wo {P:Program}{f:FuncId}{xs:List AV}(h:FF P f xs (.p (.bool true))) {w:World}{vs:List Value}(ha:Bz F0 w xs vs):Calls P f ⟨vs⟩ w fun e w'=>e= .returned (.bool true)∧Below w.heap.size w w':=by
 refine(h.2 F0 w vs (Yc w) ha).mono ?_;rintro e w' ⟨r,H',F',hr,he,hH,ht⟩;cases r with
 | panic v=>exact hr.elim
 | val v =>
  obtain⟨rfl,rfl⟩:=hr;obtain⟨u,rfl,hu⟩:=he;simp only[CF,CK] at hu;subst hu;exact⟨O,ht.os,ht.tape,ht.out,ht.size,fun k hk=>ht.same k hk fun o ho=>by simp at ho⟩
theorem Wf {H:Type}{enc:TypeId×Value→H}{P:Program}{f:Func}{s:ChangeSpec}{tB:TypeId}(hl:laidOutB P=true) (hB:P.underlying tB=some .bool) (hrt:f.resultTypes=#[tB]) (hv0:s.vars=[]) {W W':World}{args:Array Value}{ds:List (DataW H)}{before:List MemPlace}
  (hpr:∀t∈f.params.toList,P.readableRec t=true∧t<P.types.size) (hW:DataW.Whole enc P f.params.toList s.vars false W args.toList ds [] before) (hres:(s.fn H ds).results=[.lit (.bool true)]) (hargs:(s.fn H ds).args=ds) (hvars:(s.fn H ds).vars=[]) (hb:Below W.heap.size W W') :
  s.post enc P f false true false false W args (.bool true) W':=by
 have hW':=hW;obtain⟨p,q,hA,hV,rfl,hfz,hnd⟩:=hW;have hq:q=[]:=by rw[hv0] at hV;exact hV
 subst hq;have hstay:∀{ts:List TypeId} {vs:List Value} {ds:List (DataW H)} {ps:List MemPlace},(∀t∈ts,P.readableRec t=true∧t<P.types.size)→(∀x∈ps,x.block<W.heap.size)→DataW.TrodAll enc P W 0 (fun _=>true) true ts vs ds ps→DataW.TrodAll enc P W' 0 (fun b=>decide (b<W.heap.size)) true ts vs ds ps:=by
  intro ts
  induction ts with
  | nil =>
   intro vs ds ps _ _ h;cases vs<;>cases ds<;>simp[DataW.TrodAll] at h ⊢;exact h
  | cons t ts ih =>
   intro vs ds ps h1 h2 h;obtain⟨v,vs',d,ds',a,b,rfl,rfl,rfl,h3,h4⟩:=trodAll_cons h;exact⟨a,b,Below.trod hl (h1 t As).1 (h1 t As).2 h3 hb (fun x hx=>h2 x (by simp[hx])),ih (fun t ht=>h1 t (by simp[ht])) (fun x hx=>h2 x (by simp[hx])) h4,O⟩
 refine⟨ds,[],p++[],[],p,[],hW',?_,?_,?_,hb.frame _,fun h=>by cases h⟩
 ·rw[List.append_nil,hres,hrt];refine⟨[],[],⟨1,?_⟩,O,O⟩;unfold DataW.trod;rw[hB];rfl
 ·rw[List.append_nil,hargs];exact hstay hpr (fun x hx=>hW'.lt x (by simpa using hx)) hA
 rw[List.append_nil,hvars,hv0];exact O
section
variable {H:Type}{enc:TypeId×Value→H}{P:Program}{w:World}{base:Nat}{sp:Nat→Bool}{hd:Bool}{tI tB tS tV tVs tL tLs tT tTs tM tMs:TypeId}
end
end Go.Eu
namespace Go.Eu
open Go.Abs
structure Hz where
 name:ByteArray
 type:Tm
 deriving Inhabited
structure dq where
 params:Int
 type:Tm
 rules:List Tm
 deriving Inhabited
mutual
inductive FE where
 | mk (kind:Int) (body:Tm) (var:Int) (branches:List GF)
inductive GF where
 | mk (ctor:ByteArray) (absurd:Bool) (tree:FE)
end
instance:Inhabited FE:=⟨.mk 0 default 0 []⟩
instance:Inhabited GF:=⟨.mk default false default⟩
def FE.kind:FE→Int | .mk k _ _ _=>k
def FE.body:FE→Tm | .mk _ b _ _=>b
def FE.var:FE→Int | .mk _ _ v _=>v
def FE.branches:FE→List GF | .mk _ _ _ l=>l
def GF.ctor:GF→ByteArray | .mk c _ _=>c
def GF.absurd:GF→Bool | .mk _ a _=>a
def GF.tree:GF→FE | .mk _ _ t=>t
structure HB where
 name:ByteArray
 type:Tm
 arity:Int
 tree:FE
 deriving Inhabited
structure CM where
 kind:Int
 name:ByteArray
 params:Int
 type:Tm
 value:Tm
 fixed:Int
 ctors:List Hz
 recs:dq
 funs:List HB
 deriving Inhabited
structure Fu where
 kind:Int
 decl:Int
 item:Int
 params:Int
 type:Tm
 deriving Inhabited
structure qV where
 carrier:ByteArray
 add:ByteArray
 zero:ByteArray
 neg:ByteArray
 one:ByteArray
 leq:ByteArray
 lemmas:List ByteArray
 deriving Inhabited
structure qq where
 place:Int
 minus:Bool
 deriving Inhabited,DecidableEq
def GK (c:Hz):List PV:= .str c.name::BU c.type
def RL (r:dq):List PV:=I r.params::(BU r.type++[.lst (BK r.rules)])
mutual
def DA:FE→List PV
 | .mk k b v l=>I k::(BU b++[I v,.lst (KY l)])
def GG:GF→List PV
 | .mk c a t=> .str c:: .bool a::DA t
def KY:List GF→List (List PV)
 | []=>[]
 | b::l=>GG b::KY l
end
def Fe (f:HB):List PV:= .str f.name::(BU f.type++(I f.arity::DA f.tree))
def Bo (d:CM):List PV:=I d.kind:: .str d.name::I d.params::(BU d.type++(BU d.value++(I d.fixed:: .lst (d.ctors.map GK)::(RL d.recs++[.lst (d.funs.map Fe)]))))
def Dj (e:Fu):List PV:=I e.kind::I e.decl::I e.item::I e.params::BU e.type
def p8 (t:qV):List PV:=[.str t.carrier,.str t.add,.str t.zero,.str t.neg,.str t.one,.str t.leq,.lst (t.lemmas.map GD)]
def qD (s:qq):List PV:=[I s.place,.bool s.minus]
theorem Ly:∀l:List GF,KY l=l.map GG
 | []=>rfl
 | t::ts=>by simp[KY,Ly ts]
theorem EI (c:Hz):(GK c).length=6:=by simp[GK,BJ]
theorem Jl (r:dq):(RL r).length=7:=by simp[RL,BJ]
theorem Cq (t:FE):(DA t).length=8:=by cases t;simp[DA,BJ]
theorem Di (b:GF):(GG b).length=10:=by cases b;simp[GG,Cq]
theorem DQ (f:HB):(Fe f).length=15:=by simp[Fe,BJ,Cq]
theorem Cp (d:CM):(Bo d).length=23:=by simp[Bo,BJ,Jl]
theorem QX (e:Fu):(Dj e).length=9:=by simp[Dj,BJ]
theorem F5 (l:List GF):(KY l).length=l.length:=by simp[Ly]
theorem Gj {ts:List GF}{i:Nat}{t:GF}(h:ts[i]?=some t):(KY ts)[i]?=some (GG t):=by simp[Ly,h]
theorem Pn {α:Type}{f:α→List PV}{ts:List α}{i:Nat}{t:α}(h:ts[i]?=some t):(ts.map f)[i]?=some (f t):=by simp[h]
theorem Eh {ts:List Hz}{i:Nat}{t:Hz}(h:ts[i]?=some t):(ts.map GK)[i]?=some (GK t):=Pn h
theorem Ec {ts:List HB}{i:Nat}{t:HB}(h:ts[i]?=some t):(ts.map Fe)[i]?=some (Fe t):=Pn h
theorem En {ts:List CM}{i:Nat}{t:CM}(h:ts[i]?=some t):(ts.map Bo)[i]?=some (Bo t):=Pn h
theorem Cn {n:Nat}{c:PV}{r:List PV}(hc:c≠ .any∧c≠ .unit) (h:EB n r):EB (n+1) (c::r) :=
 ⟨by simp[h.1],fun x hx=>by
  rcases List.mem_cons.1 hx with rfl | hx
  ·exact hc
  exact h.2 x hx⟩
theorem IZ {n m:Nat}{a b:List PV}(ha:EB n a) (hb:EB m b):EB (n+m) (a++b) :=
 ⟨by simp[ha.1,hb.1],fun x hx=>by
  rcases List.mem_append.1 hx with hx | hx
  ·exact ha.2 x hx
  exact hb.2 x hx⟩
theorem OC:EB 0 []:=⟨rfl,fun c h=>by simp at h⟩
theorem XH (c:Hz):EB 6 (GK c):=Cn As (KW _)
theorem jh (r:dq):EB 7 (RL r):=Cn As (IZ (KW _) (Cn As OC))
theorem QJ (t:FE):EB 8 (DA t):=by
 cases t with
 | mk k b v l=>unfold DA;exact Cn As (IZ (n:=5) (m:=2) (KW _) (Cn As (Cn As OC)))
theorem gg (b:GF):EB 10 (GG b):=by
 cases b with
 | mk c a t=>unfold GG;exact Cn As (Cn As (QJ t))
theorem jK (f:HB):EB 15 (Fe f):=Cn As (IZ (n:=5) (m:=9) (KW _) (Cn As (QJ _)))
theorem WM (d:CM):EB 23 (Bo d):=Cn As (Cn As (Cn As (IZ (n:=5) (m:=15) (KW _) (IZ (n:=5) (m:=10) (KW _) (Cn As (Cn As (IZ (n:=7) (m:=1) (jh _) (Cn As OC))))))))
theorem ir (e:Fu):EB 9 (Dj e):=Cn As (Cn As (Cn As (Cn As (KW _))))
theorem Zm (l:List Hz):∀r∈l.map GK,EB 6 r:=Gi XH l
theorem Yo (l:List CM):∀r∈l.map Bo,EB 23 r:=Gi WM l
theorem eL (m:Hz):((GK m).map AV.p).all one=true:=Gk (XH m)
theorem UI (m:FE):((DA m).map AV.p).all one=true:=Gk (QJ m)
theorem TB (m:GF):((GG m).map AV.p).all one=true:=Gk (gg m)
theorem XI (m:HB):((Fe m).map AV.p).all one=true:=Gk (jK m)
theorem Lc (m:CM):((Bo m).map AV.p).all one=true:=Gk (WM m)
theorem Lk (m:Fu):((Dj m).map AV.p).all one=true:=Gk (ir m)
end Go.Eu
namespace Go.Eu
open Go.Abs Go.RowKit Go.ChangeShapes Go.ChangeAt Go.WideShapes
structure mz (P:Program) (tS tSs tTh:TypeId):Prop where
 uSs:P.underlying tSs=some (.slice tS)
 cSs:P.cellsOf tSs=1
 fTh:L2 P tTh=some [(tS,0),(tS,1),(tS,2),(tS,3),(tS,4),(tS,5),(tSs,6)]
 cTh:P.cellsOf tTh=7
 bS:P.bytesOf tS=16
section
variable {H:Type}{enc:TypeId×Value→H}{P:Program}{w:World}{base:Nat}{sp:Nat→Bool}{hd:Bool}{tI tB tS tV tVs tL tLs tT tTs tM tMs tSs tTh:TypeId}
end
end Go.Eu
namespace Go.Eu
open Go.Abs
def S9 (n:ByteArray):ByteArray:=n++⟨#[46,114,101,99]⟩
def Hp (i p:Int):List Hz→Int→List (ByteArray×Fu)
 | [],_=>[]
 | c::cs,k=>(c.name,⟨4,i,k,p,c.type⟩)::Hp i p cs (k+1)
def K5 (i p:Int):List HB→Int→List (ByteArray×Fu)
 | [],_=>[]
 | c::cs,k=>(c.name,⟨6,i,k,p,c.type⟩)::K5 i p cs (k+1)
def E9 (d:CM) (i:Int):List (ByteArray×Fu) :=
 if d.kind=0∨d.kind=1∨d.kind=2 then [(d.name,⟨d.kind,i,0,d.params,d.type⟩)]
 else if d.kind=3 then (d.name,⟨3,i,0,d.params,d.type⟩)::(Hp i d.params d.ctors 0++[(S9 d.name,⟨5,i,0,d.recs.params,d.recs.type⟩)])
 else if d.kind=4 then K5 i d.params d.funs 0
 else []
def Ck (nm:ByteArray):List (ByteArray×Fu)→Option Fu
 | []=>none
 | (s,e)::l=>if s=nm then some e else Ck nm l
def findF (nm:ByteArray):List CM→Int→Option Fu
 | [],_=>none
 | d::ds,i=>match Ck nm (E9 d i) with
  | some e=>some e
  | none=>findF nm ds (i+1)
def cr:Fu:=⟨0,0,0,0,Be⟩
def Bw (ds:List CM) (nm:ByteArray):Fu×Int:=match findF nm ds 0 with
 | some e=>(e,0)
 | none=>(cr,9)
theorem KE {nm:ByteArray}:∀{a b:List (ByteArray×Fu)},Ck nm (a++b)=match Ck nm a with
  | some e=>some e
  | none=>Ck nm b
 | [],b=>rfl
 | (s,e)::a,b=>by
  simp only[List.cons_append,Ck];split
  ·rfl
  exact KE
section
variable {i p:Int}{nm:ByteArray}
theorem Og:∀{cs:List Hz}{j:Nat}{c:Hz}{k:Int},cs[j]?=some c→c.name=nm→(∀q,q<j→∀y,cs[q]?=some y→y.name≠nm)→Ck nm (Hp i p cs k)=some ⟨4,i,k+j,p,c.type⟩
 | [],j,c,k,h,_,_=>by simp at h
 | a::cs,0,c,k,h,hn,_=>by
  simp at h;subst h;simp[Hp,Ck,hn]
 | a::cs,j+1,c,k,h,hn,hb=>by
  have h0:a.name≠nm:=hb 0 Ar a rfl;rw[Hp,Ck,if_neg h0,Og (by simpa using h) hn fun q hq y hy=>hb (q+1) Ar y (by simpa using hy)];congr 2;omega
theorem MQ:∀{cs:List Hz}{k:Int},(∀q:Nat,q<cs.length→∀y,cs[q]?=some y→y.name≠nm)→Ck nm (Hp i p cs k)=none
 | [],k,_=>rfl
 | a::cs,k,hb=>by
  have h0:a.name≠nm:=hb 0 As a rfl;rw[Hp,Ck,if_neg h0];exact MQ fun q hq y hy=>hb (q+1) (by simpa using hq) y (by simpa using hy)
theorem Rx:∀{cs:List Hz}{j:Nat}{c:Hz}{k:Int},cs[j]?=some c→(c.name,(⟨4,i,k+j,p,c.type⟩:Fu))∈Hp i p cs k
 | [],j,c,k,h=>by simp at h
 | a::cs,0,c,k,h=>by simp at h;subst h;simp[Hp]
 | a::cs,j+1,c,k,h=>by
  have:=Rx (k:=k+1) (show cs[j]?=some c by simpa using h);rw[Hp];refine List.mem_cons_of_mem _ ?_
  rwa [show k+1+(j:Int)=k+((j+1:Nat):Int) by omega] at this
theorem Qn:∀{cs:List HB}{j:Nat}{c:HB}{k:Int},cs[j]?=some c→c.name=nm→(∀q,q<j→∀y,cs[q]?=some y→y.name≠nm)→Ck nm (K5 i p cs k)=some ⟨6,i,k+j,p,c.type⟩
 | [],j,c,k,h,_,_=>by simp at h
 | a::cs,0,c,k,h,hn,_=>by
  simp at h;subst h;simp[K5,Ck,hn]
 | a::cs,j+1,c,k,h,hn,hb=>by
  have h0:a.name≠nm:=hb 0 Ar a rfl;rw[K5,Ck,if_neg h0,Qn (by simpa using h) hn fun q hq y hy=>hb (q+1) Ar y (by simpa using hy)];congr 2;omega
theorem N3:∀{cs:List HB}{k:Int},(∀q:Nat,q<cs.length→∀y,cs[q]?=some y→y.name≠nm)→Ck nm (K5 i p cs k)=none
 | [],k,_=>rfl
 | a::cs,k,hb=>by
  have h0:a.name≠nm:=hb 0 As a rfl;rw[K5,Ck,if_neg h0];exact N3 fun q hq y hy=>hb (q+1) (by simpa using hq) y (by simpa using hy)
theorem Ve:∀{cs:List HB}{j:Nat}{c:HB}{k:Int},cs[j]?=some c→(c.name,(⟨6,i,k+j,p,c.type⟩:Fu))∈K5 i p cs k
 | [],j,c,k,h=>by simp at h
 | a::cs,0,c,k,h=>by simp at h;subst h;simp[K5]
 | a::cs,j+1,c,k,h=>by
  have:=Ve (k:=k+1) (show cs[j]?=some c by simpa using h);rw[K5];refine List.mem_cons_of_mem _ ?_
  rwa [show k+1+(j:Int)=k+((j+1:Nat):Int) by omega] at this
end
def Cw (d:CM):List ByteArray :=
 if d.kind=0∨d.kind=1∨d.kind=2 then [d.name]
 else if d.kind=3 then d.name::d.ctors.map Hz.name++[S9 d.name]
 else if d.kind=4 then d.funs.map HB.name
 else []
def Gn (l:List ByteArray) (s:ByteArray):Bool:=l.any fun x=>decide (x=s)
theorem cE {l:List ByteArray}{s x:ByteArray}{i:Nat}(h:l[i]?=some x) (e:x=s):Gn l s=true :=
 List.any_eq_true.2 ⟨x,List.mem_of_getElem? h,by simp[e]⟩
theorem ZZ {l:List ByteArray}{s:ByteArray}(h:∀j,j<l.length→∀x,l[j]?=some x→x≠s):Gn l s=false:=by
 refine Bool.eq_false_iff.2 fun hb=>?_;obtain⟨x,hx,hq⟩:=List.any_eq_true.1 hb;obtain⟨j,hj⟩:=List.mem_iff_getElem?.1 hx;exact h j (List.getElem?_eq_some_iff.1 hj).1 x hj (by simpa using hq)
def NU (nm:ByteArray) (i p:Int) (o:Fu):List Hz→Int→Fu
 | [],_=>o
 | c::cs,k=>if c.name=nm then ⟨4,i,k,p,c.type⟩ else NU nm i p o cs (k+1)
def Yx (nm:ByteArray) (i p:Int) (o:Fu):List HB→Int→Fu
 | [],_=>o
 | c::cs,k=>if c.name=nm then ⟨6,i,k,p,c.type⟩ else Yx nm i p o cs (k+1)
def FR (d:CM) (i:Int) (nm:ByteArray):Fu :=
 if d.kind=0∨d.kind=1∨d.kind=2 then ⟨d.kind,i,0,d.params,d.type⟩
 else if d.kind=3 then (if nm=d.name then ⟨3,i,0,d.params,d.type⟩ else NU nm i d.params ⟨5,i,0,d.recs.params,d.recs.type⟩ d.ctors 0)
 else Yx nm i d.params ⟨0,i,0,d.params,d.type⟩ d.funs 0
theorem My {nm:ByteArray}{i p:Int}{o:Fu}:∀{cs:List Hz}{k:Int},NU nm i p o cs k=(Ck nm (Hp i p cs k)).getD o
 | [],k=>rfl
 | c::cs,k=>by
  rw[NU,Hp,Ck];split
  ·rfl
  exact My
theorem Pa {nm:ByteArray}{i p:Int}{o:Fu}:∀{cs:List HB}{k:Int},Yx nm i p o cs k=(Ck nm (K5 i p cs k)).getD o
 | [],k=>rfl
 | c::cs,k=>by
  rw[Yx,K5,Ck];split
  ·rfl
  exact Pa
theorem Oj {nm:ByteArray}{i p:Int}:∀{cs:List Hz}{k:Int},(Ck nm (Hp i p cs k)).isSome=Gn (cs.map Hz.name) nm
 | [],k=>rfl
 | c::cs,k=>by
  rw[Hp,Ck];split
  ·rename_i h;simp[Gn,h]
  rename_i h;rw[Oj];simp[Gn,h]
theorem Qk {nm:ByteArray}{i p:Int}:∀{cs:List HB}{k:Int},(Ck nm (K5 i p cs k)).isSome=Gn (cs.map HB.name) nm
 | [],k=>rfl
 | c::cs,k=>by
  rw[K5,Ck];split
  ·rename_i h;simp[Gn,h]
  rename_i h;rw[Qk];simp[Gn,h]
theorem Zv {a b:List ByteArray}{s:ByteArray}:Gn (a++b) s=(Gn a s||Gn b s):=List.any_append
theorem JC (d:CM) (i:Int) (nm:ByteArray):Ck nm (E9 d i)=if Gn (Cw d) nm=true then some (FR d i nm) else none:=by
 unfold E9 Cw FR;by_cases h:d.kind=0∨d.kind=1∨d.kind=2
 ·simp only[if_pos h,Ck];by_cases e:d.name=nm<;>simp[Gn,e]
 simp only[if_neg h];by_cases h3:d.kind=3
 ·simp only[if_pos h3,Ck,KE,List.cons_append];by_cases e:d.name=nm
  ·simp[Gn,e]
  have e':¬nm=d.name:=fun q=>e q.symm;rw[if_neg e,if_neg e',My];have hn:=Oj (nm:=nm) (i:=i) (p:=d.params) (cs:=d.ctors) (k:=0);have hh:Gn (d.name::(d.ctors.map Hz.name++[S9 d.name])) nm=(Gn (d.ctors.map Hz.name) nm||Gn [S9 d.name] nm):=by
   rw[←Zv];simp[Gn,e]
  rw[hh,←hn];cases hf:Ck nm (Hp i d.params d.ctors 0) with
  | some x=>simp
  | none =>
   by_cases e2:S9 d.name=nm<;>simp[Gn,e2]
 simp only[if_neg h3];by_cases h4:d.kind=4
 ·simp only[if_pos h4];rw[Pa,←Qk (i:=i) (p:=d.params) (k:=0)];cases hf:Ck nm (K5 i d.params d.funs 0)<;>simp
 simp[h4,Ck,Gn]
structure PD where
 env:List CM
 own:List ByteArray
 d:CM
def Fq (s:PD):List PV:= .lst (s.env.map Bo):: .lst (s.own.map GD)::Bo s.d
theorem SM (s:PD):(Fq s).length=25:=by simp[Fq,Cp]
theorem gE (s:PD):EB 25 (Fq s):=Cn As (Cn As (WM _))
theorem gp (m:PD):((Fq m).map AV.p).all one=true:=Gk (gE m)
structure To (t:Tm):Prop where
 nd:Nd t
 sz:size t<1000000
mutual
def HF:FE→Prop
 | .mk k b v l=>To b∧l.length<2000000∧MG l
def Qf:GF→Prop
 | .mk c a t=>c.size<2000000∧HF t
def MG:List GF→Prop
 | []=>True
 | b::l=>Qf b∧MG l
end
mutual
def KX:FE→Nat
 | .mk k b v l=>1+VE l
def bh:GF→Nat
 | .mk c a t=>KX t
def VE:List GF→Nat
 | []=>0
 | b::l=>bh b+1+VE l
end
theorem Ii:∀{l:List GF}{i:Nat}{b:GF},MG l→l[i]?=some b→Qf b
 | [],i,b,_,h=>by simp at h
 | a::l,0,b,hn,h=>by simp at h;subst h;exact hn.1
 | a::l,i+1,b,hn,h=>by simp at h;exact Ii hn.2 h
theorem Sm:∀{l:List GF}{i:Nat}{b:GF},l[i]?=some b→bh b<VE l
 | [],i,b,h=>by simp at h
 | a::l,0,b,h=>by simp at h;subst h;simp only[VE];omega
 | a::l,i+1,b,h=>by
  have:=Sm (show l[i]?=some b by simpa using h);simp only[VE];omega
structure dJ (c:Hz):Prop where
 nm:c.name.size<2000000
 ty:To c.type
structure dF (f:HB):Prop where
 nm:f.name.size<2000000
 ty:To f.type
 tr:HF f.tree
structure OD (d:CM):Prop where
 nm:d.name.size<2000000
 ty:To d.type
 vl:To d.value
 cl:d.ctors.length<2000000
 cs:∀c∈d.ctors,dJ c
 rt:To d.recs.type
 rl:d.recs.rules.length<2000000
 rs:∀t∈d.recs.rules,To t
 fl:d.funs.length<2000000
 fs:∀f∈d.funs,dF f
structure Ho (ds:List CM):Prop where
 len:ds.length<2000000
 all:∀d∈ds,OD d
theorem Ho.take {ds:List CM}(h:Ho ds) (n:Nat):Ho (ds.take n) :=
 ⟨by have:=h.len;simp;omega,fun d hd=>h.all d (List.mem_of_mem_take hd)⟩
theorem XS {nm:ByteArray}:∀{ds:List CM}{i:Nat}{k:Int}{d:CM},ds[i]?=some d→(∀j,j<i→∀y,ds[j]?=some y→Gn (Cw y) nm=false)→Gn (Cw d) nm=true→findF nm ds k=some (FR d (k+i) nm)
 | [],i,k,d,h,_,_=>by simp at h
 | a::ds,0,k,d,h,_,hn=>by
  simp at h;subst h;rw[findF,JC,if_pos hn];simp
 | a::ds,i+1,k,d,h,hb,hn=>by
  have h0:=hb 0 Ar a rfl;rw[findF,JC,if_neg (by rw[h0];decide)];simp only;rw[XS (by simpa using h) (fun j hj y hy=>hb (j+1) Ar y (by simpa using hy)) hn];congr 2;omega
theorem Sh {nm:ByteArray}:∀{ds:List CM}{k:Int},(∀j,j<ds.length→∀y,ds[j]?=some y→Gn (Cw y) nm=false)→findF nm ds k=none
 | [],k,_=>rfl
 | a::ds,k,hb=>by
  have h0:=hb 0 As a rfl;rw[findF,JC,if_neg (by rw[h0];decide)];simp only;exact Sh fun j hj y hy=>hb (j+1) (by simpa using hj) y (by simpa using hy)
theorem Yp (n:ByteArray):(S9 n).size=n.size+4:=by
 show (n++⟨#[46,114,101,99]⟩:ByteArray).size=_;rw[ByteArray.size_append];rfl
theorem MN (d:CM):(Cw d).length≤d.ctors.length+d.funs.length+2:=by
 unfold Cw;split
 ·simp
 split
 ·simp
 split<;>simp<;>omega
section
variable {d:CM}{i:Int}{nm:ByteArray}
theorem MM (h:d.kind=0∨d.kind=1∨d.kind=2) {k:Int}(hk:d.kind=k):FR d i nm=⟨k,i,0,d.params,d.type⟩:=by rw[FR,if_pos h,hk]
theorem Yf (h:d.kind=3) (hn:nm=d.name):FR d i nm=⟨3,i,0,d.params,d.type⟩:=by rw[FR,if_neg Ar,if_pos h,if_pos hn]
theorem V0 (h:d.kind=3) (hn:¬nm=d.name) {j:Nat}{c:Hz}(hc:d.ctors[j]?=some c) (he:c.name=nm) (hb:∀q,q<j→∀y,d.ctors[q]?=some y→y.name≠nm):FR d i nm=⟨4,i,j,d.params,c.type⟩:=by
 rw[FR,if_neg Ar,if_pos h,if_neg hn,My,Og hc he hb,Int.zero_add];rfl
theorem ZO (h:d.kind=3) (hn:¬nm=d.name) (hb:∀q:Nat,q<d.ctors.length→∀y,d.ctors[q]?=some y→y.name≠nm):FR d i nm=⟨5,i,0,d.recs.params,d.recs.type⟩:=by
 rw[FR,if_neg Ar,if_pos h,if_neg hn,My,MQ hb];rfl
theorem ZM (h:¬(d.kind=0∨d.kind=1∨d.kind=2)) (h3:¬d.kind=3) {j:Nat}{c:HB}(hc:d.funs[j]?=some c) (he:c.name=nm) (hb:∀q,q<j→∀y,d.funs[q]?=some y→y.name≠nm):FR d i nm=⟨6,i,j,d.params,c.type⟩:=by
 rw[FR,if_neg h,if_neg h3,Pa,Qn hc he hb,Int.zero_add];rfl
theorem Zo (h:¬(d.kind=0∨d.kind=1∨d.kind=2)) (h3:¬d.kind=3) (hb:∀q:Nat,q<d.funs.length→∀y,d.funs[q]?=some y→y.name≠nm):FR d i nm=⟨0,i,0,d.params,d.type⟩:=by
 rw[FR,if_neg h,if_neg h3,Pa,N3 hb];rfl
end
theorem ZU {ds:List CM}{nm:ByteArray}{i:Nat}{d:CM}(hx:ds[i]?=some d) (hb:∀j,j<i→∀y,ds[j]?=some y→Gn (Cw y) nm=false) (hn:Gn (Cw d) nm=true):Bw ds nm=(FR d i nm,0):=by
 rw[Bw,XS hx hb hn,Int.zero_add]
theorem WD {ds:List CM}{nm:ByteArray}(hb:∀j,j<ds.length→∀y,ds[j]?=some y→Gn (Cw y) nm=false):Bw ds nm=(cr,9):=by
 rw[Bw,Sh hb]
theorem Ql {nm:ByteArray}{i p:Int}{o:Fu}(ho:o.kind≠4):∀{cs:List Hz}{k:Int},(NU nm i p o cs k).kind=4→(NU nm i p o cs k).decl=i∧k≤(NU nm i p o cs k).item∧(NU nm i p o cs k).item<k+cs.length
 | [],k,h=>absurd h ho
 | c::cs,k,h=>by
  unfold NU at h ⊢;split at h
  ·rename_i hc;rw[if_pos hc];exact⟨O,Int.le_refl _,by simp only[List.length_cons];omega⟩
  rename_i hc;rw[if_neg hc];have:=Ql ho h;simp only[List.length_cons];exact⟨this.1,by have:=this.2.1;omega,by have:=this.2.2;omega⟩
theorem SS {nm:ByteArray}{i p:Int}{o:Fu}(ho:o.kind≠4):∀{cs:List HB}{k:Int},(Yx nm i p o cs k).kind≠4
 | [],k=>ho
 | c::cs,k=>by
  unfold Yx;split
  ·simp
  exact SS ho
theorem _root_.Go.Ae {α:Prop}(h:α:=by simp only;omega):α:=h
theorem SJ {nm:ByteArray}:∀{ds:List CM}{k:Int}{e:Fu},findF nm ds k=some e→e.kind=4→∃(j:Nat) (d:CM),e.decl=k+j∧ds[j]?=some d∧0≤e.item∧e.item<d.ctors.length
 | [],k,e,h,_=>by cases h
 | a::ds,k,e,h,hk=>by
  rw[findF,JC] at h;by_cases hn:Gn (Cw a) nm=true
  ·rw[if_pos hn] at h;simp only[Option.some.injEq] at h;subst h;refine⟨0,a,?_⟩;unfold FR at hk ⊢;split at hk
   ·rename_i q;exact absurd hk Ae
   rename_i q;rw[if_neg q];split at hk
   ·rename_i q3;rw[if_pos q3];split at hk
    ·cases hk
    rename_i qn;rw[if_neg qn];have:=Ql As hk;exact⟨by rw[this.1];omega,rfl,this.2.1,by have:=this.2.2;omega⟩
   exact absurd hk (SS As)
  rw[if_neg hn] at h;simp only at h;obtain⟨j,d,h1,h2,h3⟩:=SJ h hk;exact⟨j+1,d,by omega,by simpa using h2,h3⟩
theorem Vv {ds:List CM}{nm:ByteArray}(h0:(Bw ds nm).2=0) (hk:(Bw ds nm).1.kind=4):∃d,0≤(Bw ds nm).1.decl∧ds[(Bw ds nm).1.decl.toNat]?=some d∧0≤(Bw ds nm).1.item∧(Bw ds nm).1.item<d.ctors.length:=by
 unfold Bw at h0 hk ⊢;cases e:findF nm ds 0 with
 | none=>rw[e] at h0;simp at h0
 | some x =>
  rw[e] at hk;obtain⟨j,d,h1,h2,h3,h4⟩:=SJ e hk;simp only;exact⟨d,by omega,by rw[h1];simpa using h2,h3,h4⟩
end Go.Eu
namespace Go.Abs
section
variable {P:Program}{H:List BL}{dst:Option Tmp}{ty:TypeId}{pos:String}{aft:Array Edge}{x y:Operand}{ρ:Operand→AV}{g:Option (Nat×Bool)}
end
section
variable {P:Program}{dst:Option Tmp}{ty:TypeId}{pos:String}{aft:Array Edge}{g:Option (Nat×Bool)}{ρ:Operand→AV}{H:List BL}{x y z:Operand}{v:AV}
def nY (s:ByteArray):List (List PV):=s.data.toList.map fun b=>[PV.int .u8 b.toNat]
end
section
variable {P:Program}{dst:Option Tmp}{ty:TypeId}{pos:String}{aft:Array Edge}{g:Option (Nat×Bool)}{ρ:Operand→AV}{H:List BL}{x y z:Operand}{v:AV}
def nh (T:TypeId) (cs:List AV) (H:List BL):EG→List BL→Prop
 | .val v,H'=>∃b,v= .ptr b 0∧H'= .boxT b T cs::H
 | .panic _,_=>False
end
section
variable {P:Program}{dst:Option Tmp}{ty:TypeId}{pos:String}{aft:Array Edge}{g:Option (Nat×Bool)}{ρ:Operand→AV}{H:List BL}{x:Operand}
end
def At (cells:List PV) (o:Nat) (us:List PV):Prop:=∃rest,cells.drop o=us++rest
theorem At.front {us rest:List PV}:At (us++rest) 0 us:=⟨rest,rfl⟩
theorem At.all {us:List PV}:At us 0 us:=⟨[],by simp⟩
theorem At.one {c:PV}{rest:List PV}:At (c::rest) 0 [c]:=⟨rest,rfl⟩
theorem At.cons {c:PV}{cells us:List PV}{o:Nat}(h:At cells o us):At (c::cells) (o+1) us:=h
theorem At.app {a cells us:List PV}{o n:Nat}(hn:a.length=n) (h:At cells o us):At (a++cells) (n+o) us:=by
 obtain⟨rest,h⟩:=h;exact⟨rest,by rw[List.drop_append,←hn,List.drop_of_length_le Ar];simpa using h⟩
theorem At.sub {cells us vs:List PV}{o p:Nat}(h:At cells o us) (h':At us p vs) (hp:p≤us.length):At cells (o+p) vs:=by
 obtain⟨r,h⟩:=h;obtain⟨r',h'⟩:=h';exact⟨r'++r,by rw[←List.drop_drop,h,List.drop_append_of_le_length hp,h',List.append_assoc]⟩
theorem At.drop {cells us:List PV}{a b:Nat}(h:At cells (a+b) us):At (cells.drop a) b us:=by
 unfold At at h ⊢
 rwa [List.drop_drop]
section
variable {P:Program}{dst:Option Tmp}{ty:TypeId}{pos:String}{aft:Array Edge}{g:Option (Nat×Bool)}{ρ:Operand→AV}{H:List BL}{x:Operand}{T:TypeId}{b o i n:Nat}{cells us:List PV}{c:PV}
theorem B4 (hT:Dp P T=some (true,n)) (hx:ρ x= .ptr b o) (hi:H[i]?=some (.box b (cells.map .p))) (ha:At cells o us) (hn:us.length=n):Dh P ⟨dst,.load T x,ty,pos,aft,g⟩ ρ H (.agg (us.map .p)) H:=by
 have e:((cells.map AV.p).drop o).take n=us.map .p:=by
  obtain⟨rest,h⟩:=ha;rw[←List.map_drop,h,List.map_append,List.take_left' (by rw[List.length_map,hn])]
 exact Ka hT hx hi (by rw[e,List.length_map,hn]) (by rw[e])
theorem A6 (hT:Dp P T=some (false,n)) (hx:ρ x= .ptr b o) (hi:H[i]?=some (.box b (cells.map .p))) (ha:At cells o [c]):Dh P ⟨dst,.load T x,ty,pos,aft,g⟩ ρ H (.p c) H :=
 BG hT hx hi (by
  obtain⟨rest,h⟩:=ha;have:=congrArg (fun l:List PV=>l[0]?) h;simp only[List.getElem?_drop,Nat.add_zero,List.singleton_append,List.getElem?_cons_zero] at this;simp[this])
theorem DV (hT:Dp P T=some (true,n)) (hx:ρ x= .ref (cells.drop o)) (ha:At cells o us) (hn:us.length=n):Dh P ⟨dst,.load T x,ty,pos,aft,g⟩ ρ H (.agg (us.map .p)) H :=
 Kf hT hx hn (by obtain⟨rest,h⟩:=ha;rw[h];exact List.take_left)
theorem DW (hT:Dp P T=some (false,n)) (hx:ρ x= .ref (cells.drop o)) (ha:At cells o [c]):Dh P ⟨dst,.load T x,ty,pos,aft,g⟩ ρ H (.p c) H:=by
 obtain⟨rest,h⟩:=ha;exact Dt hT (hx.trans (congrArg AV.ref h))
variable {y:Operand}
theorem V1 {a b:Bool}{T U:TypeId}(hu:P.underlying T=some .bool) (hx:ρ x= .p (.bool a)) (hy:ρ y= .p (.bool b)):Dh P ⟨dst,.binOp .neq T x y U,ty,pos,aft,g⟩ ρ H (.p (.bool (a !=b))) H :=
 CP fun F w E hH hE=>by
  have e1:=hE x Ac;have e2:=hE y Ac;rw[hx] at e1;rw[hy] at e2;simp only[CF,CK] at e1 e2;refine⟨.bool (a !=b),?_,by simp[CF,CK]⟩;have hg:(eqGuard .neq T x y (.bool a) (.bool b)).run P w= .ok () w:=by unfold eqGuard;rfl
  have hq:(Op.equal T (.bool a) (.bool b)).run P w= .ok (a==b) w:=IV hu rfl;simp[execOp,Sem.run_bind,hg,e1,e2,binOp,hq,bne]
theorem Ds {bl:Bool}{cs vs ds:List AV}(hT:Dp P T=some (bl,n+1)) (hx:ρ x= .ptr b o) (hi:H[i]?=some (.box b cs)) (hy:EP (ρ y)=some vs) (hn:vs.length=n+1)
  (ho:Nat.ble (o+(n+1)) cs.length=true) (h1:vs.all one=true) (hd:splice cs o vs=ds):Dh P ⟨dst,.store T x y,ty,pos,aft,g⟩ ρ H (.p .any) (H.set i (.box b ds)):=by
 subst hd;exact Cl hT hx hi hy hn ho h1
end
def o9 (k:ByteArray):List (ByteArray×AV)→Option AV
 | []=>none
 | (j,x)::r=>if j=k then some x else o9 k r
def sset (k:ByteArray) (v:AV):List (ByteArray×AV)→List (ByteArray×AV)
 | []=>[(k,v)]
 | (j,x)::r=>if j=k then (j,v)::r else (j,x)::sset k v r
def qh (l:List (ByteArray×AV)):List (PV×AV):=l.map fun p=>(.str p.1,p.2)
def oD (P:Program) (T:TypeId):Option TypeId :=
 match P.underlying T with
 | some (.map k e)=>match P.underlying k with
  | some .string=>some e
  | _=>none
 | _=>none
section
variable {F:Nat→Prop}{w:World}
end
section
variable {P:Program}{dst:Option Tmp}{ty:TypeId}{pos:String}{aft:Array Edge}{g:Option (Nat×Bool)}{ρ:Operand→AV}{H:List BL}{x y z:Operand}{v:AV}
end
section
variable {P:Program}{dst:Option Tmp}{ty:TypeId}{pos:String}{aft:Array Edge}{g:Option (Nat×Bool)}{ρ:Operand→AV}{H:List BL}{x y z:Operand}{v:AV}
def appendTR (i:Nat) (e:TypeId) (rows:List (List PV)) (H:List BL):EG→List BL→Prop
 | .val v,H'=>∃o c,v= .vs o rows.length c∧H'=H.set i (.vecT o e false rows c)
 | .panic _,_=>False
theorem QH {a b:ByteArray}{T U:TypeId}(hx:ρ x= .p (.str a)) (hy:ρ y= .p (.str b)) (hsz:a.size+b.size≤9223372036854775807):Dh P ⟨dst,.binOp .add T x y U,ty,pos,aft,g⟩ ρ H (.p (.str (a++b))) H :=
 CP fun F w E hH hE=>by
  have e1:=hE x Ac;have e2:=hE y Ac;rw[hx] at e1;rw[hy] at e2;simp only[CF,CK] at e1 e2;have hm:¬(((a.size+b.size:Nat):Int) > IntKind.i64.max):=by rw[show IntKind.i64.max=9223372036854775807 from rfl];omega
  have h1:(Op.stringOp .add a b).run P w= .ok (.string (a++b)) w:=by
   unfold Op.stringOp;simp only[if_neg hm];rfl
  exact⟨.string (a++b),by simp[execOp,Sem.run_bind,K8,e1,e2,binOp,h1],by simp[CF,CK]⟩
end
section
variable {P:Program}{r:Option Nat}{ops:Array Oper}{Q:Cu→Bt→Prop}{k:Nat}{n:Nat}{τ:Nat→AV}{H H':List BL}{D:List EF}{dst:Option Tmp}{op:Op}{ty:TypeId}{pos:String}{aft:Array Edge}{g:Option (Nat×Bool)}{v:AV}
end
section
variable {P:Program}{dst:Option Tmp}{ty:TypeId}{pos:String}{aft:Array Edge}{g:Option (Nat×Bool)}{ρ:Operand→AV}{H:List BL}{x f:Operand}
end
section
variable {P:Program}{ops:Array Oper}{n:Nat}{τ₀ τ:Nat→AV}{D:List EF}{Q:Cu→Bt→Prop}{opn:Nat→Bool}{k:Nat}{T:List BL}{dst:Option Tmp}{ty:TypeId}{pos:String}{aft:Array Edge}{c:Call}{f:Operand}{fid:FuncId}{first caps A:List AV}{v:AV}{C:List BL→Prop}
end
def Xj (l:List UInt8):List (List PV):=l.map fun b=>[PV.int .u8 b.toNat]
def BW (U e:TypeId) (b:Nat) (l:List UInt8) (T:List BL):Prop :=
 ∃a o cp,(a= .nilp∨a= .ptr b 0)∧T=[.boxT b U [a,.vs o (Xj l).length cp],.vecT o e false (Xj l) cp]
def BX (U e:TypeId) (b:Nat) (l:List UInt8) (T:List BL):Prop :=
 ∃a o cp fr,T=[.boxT b U [a,.vs (some o) (Xj l).length cp],.vecT (some o) e fr (Xj l) cp]
def qy (l:List UInt8):ByteArray:=⟨l.toArray⟩
section
variable {P:Program}{dst:Option Tmp}{ty:TypeId}{pos:String}{aft:Array Edge}{g:Option (Nat×Bool)}{ρ:Operand→AV}{H:List BL}{x y z:Operand}
end
theorem OA {α:Type}:∀(xs l:List α) (o:Nat),o+xs.length≤l.length→splice l o xs=l.take o++xs++l.drop (o+xs.length)
 | [],l,o,h=>by simp[splice]
 | x::xs,l,o,h=>by
  simp only[List.length_cons] at h;rw[splice,OA xs _ _ (by rw[List.length_set];omega)];have h1:(l.set o x).take (o+1)=l.take o++[x]:=by
   rw[List.take_add_one,List.getElem?_set_self Ar,List.take_set_of_le (Nat.le_refl _)];rfl
  have h2:(l.set o x).drop (o+1+xs.length)=l.drop (o+(x::xs).length):=by
   rw[List.drop_set_of_lt Ar];congr 1;simp only[List.length_cons];omega
  rw[h1,h2];simp
def GL:Nat→List (List PV)→List (Nat×AV)
 | _,[]=>[]
 | k,r::rs=>(k,.agg (r.map .p))::GL (k+1) rs
theorem Vc {sz:Nat}:∀(rows:List (List PV)) (k:Nat) (base:List AV),(∀r∈rows,r.length=sz)→(k+rows.length)*sz=base.length→FH (fun i=>some (i*sz,sz)) base (GL k rows)=some (base.take (k*sz)++rows.flatten.map .p)
 | [],k,base,hr,hb=>by
  simp only[List.length_nil,Nat.add_zero] at hb;simp[GL,FH,hb]
 | r::rows,k,base,hr,hb=>by
  have hl:=hr r As;have hb2:k*sz+sz+rows.length*sz=base.length:=by
   rw[←hb,List.length_cons,Nat.add_mul,Nat.add_mul,Nat.one_mul];omega
  simp only[GL,FH,EP];rw[if_pos ⟨by simp[hl],by simp[hl];omega⟩,OA _ _ _ (by simp[hl];omega)];rw[Vc rows (k+1) _ (fun x hx=>hr x (by simp[hx])) (by simp only[List.length_append,List.length_take,List.length_drop,List.length_map,hl];rw[Nat.add_mul,Nat.add_mul,Nat.one_mul];omega)];congr 1;have h1:((base.take (k*sz)++r.map AV.p)++base.drop (k*sz+(r.map AV.p).length)).take ((k+1)*sz)=base.take (k*sz)++r.map .p:=by
   have:(k+1)*sz=(base.take (k*sz)++r.map AV.p).length:=by
    simp only[List.length_append,List.length_take,List.length_map,hl];rw[Nat.add_mul,Nat.one_mul];omega
   rw[this,List.take_left'];rfl
  rw[h1];simp
theorem PA {α:Type}{sz:Nat}:∀{rows:List (List α)},(∀r∈rows,r.length=sz)→chunks sz rows.length rows.flatten=rows
 | [],_=>rfl
 | r::rows,h=>by
  have hl:=h r As;simp only[List.length_cons,chunks,List.flatten_cons];rw[List.take_left' hl,List.drop_left' hl,PA fun x hx=>h x (by simp[hx])]
theorem QV:∀(rows:List (List PV)) (k:Nat),(∀r∈rows,∀c∈r,c≠ .nils)→(GL k rows).map (fun p=>(p.1,norm p.2))=GL k rows
 | [],k,h=>rfl
 | r::rows,k,h=>by
  simp only[GL,List.map_cons];show (k,AV.agg ((r.map AV.p).map dn))::_=_;rw[QV rows (k+1) fun x hx=>h x (by simp[hx])];congr 3;have:=h r As;clear h
  induction r with
  | nil=>rfl
  | cons c r ih =>
   simp only[List.map_cons];rw[ih fun d hd=>this d (by simp[hd])];have:=this c As;cases c<;>simp_all [dn]
section
variable {P:Program}{dst:Option Tmp}{ty:TypeId}{pos:String}{aft:Array Edge}{g:Option (Nat×Bool)}{ρ:Operand→AV}{H:List BL}
theorem Qe:∀(r:List PV),F9 (r.map .p)=some r
 | []=>rfl
 | c::r=>by simp[F9,Qe r]
theorem W6 {parts:Array (Nat×Operand)}{rows:List (List PV)}(hp:parts.toList.map (fun p=>(p.1,ρ p.2))=GL 0 rows) (hn:∀r∈rows,∀c∈r,c≠ .nils):parts.toList.map (fun p=>(p.1,norm (ρ p.2)))=GL 0 rows:=by
 have h2:=QV rows 0 hn;rw[←hp,List.map_map] at h2;rw[←hp];exact h2
theorem Bx {T e:TypeId}{len sz bytes:Nat}{parts:Array (Nat×Operand)}{z:Value}{rows:List (List PV)}(hT:FV P T=some (e,sz,bytes)) (hz:zeroOf P e=some z) (hsz:z.cells.size=sz) (hpos:(Nat.blt 0 sz&&Nat.ble (len*sz) 16777216)=true)
  (hp:parts.toList.map (fun p=>(p.1,ρ p.2))=GL 0 rows) (hl:rows.length=len) (hr:∀r∈rows,r.length=sz) (hn:∀r∈rows,∀c∈r,c≠ .nils) :
  Dh P ⟨dst,.buildSlice T len parts,ty,pos,aft,g⟩ ρ H (.p (.lst rows)) H:=by
 subst hl;refine CC (cs:=rows.flatten.map .p) (ps:=rows.flatten) hT hz hsz hpos ?_ (Qe _) (PA hr);rw[W6 hp hn,Vc rows 0 _ hr (by simp[hsz])];simp
theorem PG {T e:TypeId}{len sz bytes:Nat}{parts:Array (Nat×Operand)}{z:Value}{cs:List AV}{ps:List PV}{rows:List (List PV)}(hT:FV P T=some (e,sz,bytes)) (hz:zeroOf P e=some z) (hsz:z.cells.size=sz) (hpos:(Nat.blt 0 sz&&Nat.ble (len*sz) 16777216)=true)
  (hc:FH (fun i=>some (i*sz,sz)) (List.replicate len (z.cells.toList.map GO)).flatten (parts.toList.map fun p=>(p.1,norm (ρ p.2)))=some cs) (hp:F9 cs=some ps) (hr:chunks sz len ps=rows) :
  DH P ⟨dst,.buildSlice T len parts,ty,pos,aft,g⟩ ρ H (K7 sz rows H) :=
 Gx fun F w E hH hE=>by
  obtain⟨hu,i,hi,hs,hby⟩:=E0 hT;simp only[Bool.and_eq_true,Nat.blt_eq,Nat.ble_eq] at hpos;unfold zeroOf at hz;have hz':∃j,P.info? e=some j∧j.zero=some z:=by
   cases hq:P.info? e with
   | none=>simp[hq] at hz
   | some j=>exact⟨j,rfl,by simpa [hq] using hz⟩
  obtain⟨j,hj,hz'⟩:=hz';have hzv:(zeroValue e).run P w= .ok z w:=by simp[zeroValue,typeInfo,hj,hz',Sem.run_bind]
  have hzl:Bz F w (List.replicate len (z.cells.toList.map GO)).flatten (List.replicate len z.cells.toList).flatten:=Gw (Ge _) len;obtain⟨us,hf,hrep⟩:=Ig (F:=F) (w:=w) (place:=fun i=>some (i*sz,sz)) _ (parts.toList.map fun p=>(p.1,E p.2)) _ _ _ As (by
   intro j p q h1 h2;simp only[List.getElem?_map] at h1 h2;cases hj:parts.toList[j]? with
   | none=>simp[hj] at h1
   | some t =>
    simp[hj] at h1 h2;subst h1;subst h2;exact⟨O,(hE _ (by
     have:=List.mem_of_getElem? hj;simp only[Op.operands];exact List.mem_map.2 ⟨t,this,O⟩)).norm⟩) hzl hc
  have hcs:=HQ hp;have hlen:ps.length=len*sz:=by
   have h1:cs.length=((List.replicate len (z.cells.toList.map GO)).flatten).length:=by
    clear hrep hp hcs hzl hf;generalize (List.replicate len (z.cells.toList.map GO)).flatten=l at hc;generalize (parts.toList.map fun p=>(p.1,norm (ρ p.2)))=q at hc
    induction q generalizing l with
    | nil=>simp[FH] at hc;rw[hc]
    | cons a q ih =>
     obtain⟨i,x⟩:=a;simp only[FH] at hc;cases hx:EP x with
     | none=>simp[hx] at hc
     | some c2 =>
      simp only[hx] at hc;split at hc
      ·rw[ih _ hc,GU]
      cases hc
   rw[hcs] at h1;simp only[List.length_map,List.length_flatten,List.map_replicate,List.sum_replicate_nat,Array.length_toList,hsz] at h1;exact h1
  obtain⟨c1,c2,c3⟩:=LH hlen;rw[hr] at c1 c2 c3;have hul:us.length=ps.length:=by rw[hrep.length,hcs];simp
  obtain⟨v0,H0,F0,h10,h20,h30,h40⟩:=NM (T:=e) (c:=len) (vs:=us) (H:=H) hH c2 (by rw[c1,←hul,List.take_length];rw[hcs] at hrep;exact hrep) Ar Ar;rw[c3] at h40;refine⟨_,_,v0,H0,F0,?_,h10,h20,h30,h40⟩;have hszr:(sizeOf e).run P w= .ok sz w:=by simp[sizeOf,typeInfo,hi,hs]
  have hzc:z.cells=⟨z.cells.toList⟩:=rfl;have hrm:=Iu z.cells.toList len;have hsz2:z.cells.toList.length=sz:=by simpa using hsz
  rw[hsz2] at hrm;have harr:((Array.range (len*sz)).map fun i=>z.cells[i % z.cells.size]!)=⟨(List.replicate len z.cells.toList).flatten⟩:=by
   apply Array.ext';exact hrm
  simp only[execOp,Instr.buildSlice,Sem.run_bind,run_underlying hu,Result.andThen_ok,hszr];rw[if_neg Ar];simp only[Sem.run_pure,Result.andThen_ok,Sem.run_bind,pure_bind];have hf':Instr.fill (fun i=>some (i*sz,sz)) ⟨(List.replicate len z.cells.toList).flatten⟩ (parts.map fun p=>(p.1,E p.2)).toList=some ⟨us⟩:=by
   rw[←hf];simp
  by_cases h00:len*sz=0
  ·have hl0:len=0:=by
    rcases Nat.mul_eq_zero.1 h00 with h | h
    ·exact h
    omega
   subst hl0;simp only[Nat.zero_mul,if_true];simp only[List.replicate_zero,List.flatten_nil] at hf';have e0:(Array.map (fun x=>(#[]:Array Value)[x % (#[]:Array Value).size]!) (Array.range 0))=(⟨[]⟩:Array Value):=by simp
   rw[e0,hf'];simp only[newRow,newObj,Sem.run_bind,Sem.run,Result.andThen,Sem.run_pure];rfl
  rw[if_neg h00];simp only[Sem.run_bind,hzv,Result.andThen_ok];rw[harr,hf'];simp only[newRow,newObj,Sem.run_bind,Sem.run,Result.andThen,Sem.run_pure];rfl
end
section
variable {P:Program}{ops:Array Oper}{n:Nat}{τ₀:Nat→AV}{D:List EF}{Q:Cu→Bt→Prop}{opn:Nat→Bool}{k:Nat}{τ:Nat→AV}{H:List BL}{rd:iM}{ef:eW}{effs:List Bool}{fx:List (Nat×Sp)}{dst:Option Tmp}{op:Op}{ty:TypeId}{pos:String}{aft:Array Edge}
end
section
variable {P:Program}{ty:TypeId}{pos:String}{aft:Array Edge}{g:Option (Nat×Bool)}{ρ:Operand→AV}{H:List BL}{x y:Operand}
theorem Uy {T T2 e e2:TypeId}{sz bytes n2 n3 d c i n:Nat}{o:Option Nat}{rows rows' all:List (List PV)}{zv:Value}(hT:FV P T=some (e,sz,bytes)) (hT2:FV P T2=some (e2,n2,n3)) (hz:zeroOf P e=some zv) (hzs:zv.cells.size=sz) (hb0:(Nat.blt 0 sz&&Nat.blt 0 bytes)=true)
  (hx:ρ x= .vs o n c) (hn:n=rows.length) (hi:H[i]?=some (.vec o sz rows c)) (hy:norm (ρ y)= .p (.lst rows')) (hsol:∀r∈rows',EB sz r) (hroom:2*(rows.length+rows'.length)*bytes≤281474976710656) (hall:rows++rows'=all) :
  Dh P ⟨some d,.call { callee:= .builtin .append,args:=#[x,y],argTypes:=#[T,T2] },ty,pos,aft,g⟩ ρ H (.p (.lst all)) (H.eraseIdx i):=by
 subst hall;intro r F S a w hs hH hρ hd;subst hH;have h:=QM (P:=P) (dst:=some d) (ty:=ty) (pos:=pos) (aft:=aft) (g:=g) (ρ:=ρ) (H:=S.H) (i:=i) (o:=o) (rows:=rows) (n:=n) (c:=c) hT hT2 hz hzs hb0 hx hn hi hy hsol hroom r F S a w hs rfl hρ hd;refine Ln h ?_ ?_
 ·rintro a' w' ⟨v,H',F',⟨o',c',rfl,rfl⟩,hs',ht⟩;have hlt:=(List.getElem?_eq_some_iff.1 hi).1;obtain⟨F'',hs'',ht''⟩:=DE (n:=S.n) (τ:=put S.τ (some d) (.vs o' (rows++rows').length c')) (H:=S.H.set i (.vec o' sz (rows++rows') c')) (D:=S.D) (i:=i) [d] (List.getElem?_set_self hlt) (fun t ht=>by simp at ht;subst ht;simp[put]) F' a' w' hs';have e:JT [d] (.p (.lst (rows++rows'))) (put S.τ (some d) (.vs o' (rows++rows').length c'))=put S.τ (some d) (.p (.lst (rows++rows'))):=by
   funext t;simp only[JT,put,List.any_cons,List.any_nil,Bool.or_false];cases Nat.beq t d<;>rfl
  have e2:(S.H.set i (.vec o' sz (rows++rows') c')).eraseIdx i=S.H.eraseIdx i:=List.eraseIdx_set_eq;simp only[e,e2] at hs'' ht'';exact⟨_,S.H.eraseIdx i,F'',⟨O,O⟩,hs'',ht.trans hs.heap.bd ht''⟩
 rintro e a' w' ⟨v,H',F',u,h,_⟩;exact h.elim
end
inductive Ey where
 | val (v:AV)
 | skip
 | new (cs:List AV)
 | newv (sz:Nat) (rows:List (List PV))
def Ey.v (b:Nat×Nat):Ey→AV
 | .val v=>v
 | .skip=> .tup []
 | .new _=> .ptr b.1 0
 | .newv _ rows=> .vs (some b.1) rows.length b.2
def Ey.box (b:Nat×Nat):Ey→List BL
 | .new cs=>[.box b.1 cs]
 | .newv sz rows=>[.vec (some b.1) sz rows b.2]
 | _=>[]
def jS (P:Program) (ops:Array Oper) (H₀:List BL) (o:Oper) (τ:Nat→AV):Ey→Prop
 | .val v=>Cy ops ⟨0,τ,[],[]⟩ o∧∀Bs,Dh P o (ev τ) (Bs++H₀) v (Bs++H₀)
 | .skip=>∃j want d,o.guard=some (j,want)∧(ops[j]?).bind (·.dst)=some d∧du (τ d) want
 | .new cs=>o.guard=none∧∀Bs,DH P o (ev τ) (Bs++H₀) (H5 cs (Bs++H₀))
 | .newv sz rows=>o.guard=none∧∀Bs,DH P o (ev τ) (Bs++H₀) (K7 sz rows (Bs++H₀))
def EW (P:Program) (ops:Array Oper) (H₀:List BL):Nat→(Nat→AV)→List Ey→((Nat→AV)→List BL→Prop)→Prop
 | _,τ,[],K=>K τ []
 | k,τ,e::r,K=>∃o,ops[k]?=some o∧jS P ops H₀ o τ e∧∀b,EW P ops H₀ (k+1) (put τ o.dst (e.v b)) r (fun τ' Hs=>K τ' (e.box b++Hs))
def Ns (β:Nat→Nat×Nat):Nat→List Ey→List Sp
 | _,[]=>[]
 | k,e::r=> .free (e.v (β k))::Ns β (k+1) r
def mP (β:Nat→Nat×Nat):Nat→List Ey→List BL
 | _,[]=>[]
 | k,e::r=>e.box (β k)++mP β (k+1) r
def Vq (β:Nat→Nat×Nat) (l:Nat→Bool):Nat→List Ey→List BL
 | _,[]=>[]
 | k,e::r=>(if l k=true then e.box (β k) else [])++Vq β l (k+1) r
theorem Pf (β:Nat→Nat×Nat):∀(r:List Ey) (k j:Nat),j<r.length→(Ns β k r).getD j .skip= .free ((r.getD j .skip).v (β (k+j)))
 | [],k,j,h=>by simp at h
 | e::r,k,0,h=>by simp[Ns]
 | e::r,k,j+1,h=>by
  have:=Pf β r (k+1) j (by simpa using h);simp only[Ns,List.getD_cons_succ];rw[this,show k+1+j=k+(j+1) by omega]
theorem YK (β:Nat→Nat×Nat):∀(r:List Ey) (k:Nat),(Ns β k r).length=r.length
 | [],k=>rfl
 | e::r,k=>by simp[Ns,YK β r (k+1)]
theorem XM (β:Nat→Nat×Nat) {r:List Ey}{k j:Nat}(h:r.length≤j):(Ns β k r).getD j .skip= .skip:=by
 rw[List.getD_eq_getElem?_getD,List.getElem?_eq_none (by rw[YK];exact h)];rfl
theorem eN (β:Nat→Nat×Nat) (r:List Ey) (k j:Nat):((Ns β k r).getD j .skip).isEff=false:=by
 rcases Nat.lt_or_ge j r.length with h | h
 ·rw[Pf β r k j h];rfl
 rw[XM β h];rfl
theorem Zx (β:Nat→Nat×Nat) (r:List Ey) (k j:Nat) (ob:List BL) (v:AV):(Ns β k r).getD j .skip≠ .read ob v:=by
 rcases Nat.lt_or_ge j r.length with h | h
 ·rw[Pf β r k j h];simp
 rw[XM β h];simp
theorem Pb (β:Nat→Nat×Nat) {r:List Ey}{j:Nat}(h:j<r.length):((Ns β 0 r).getD j .skip).val=(r.getD j .skip).v (β j):=by
 rw[Pf β r 0 j h,Nat.zero_add];rfl
theorem EW.facts {P:Program}{ops:Array Oper}{H₀:List BL}{τ:Nat→AV}{base:List Ey}(β:Nat→Nat×Nat):∀(r:List Ey) (k:Nat) (τk:Nat→AV) (K:(Nat→AV)→List BL→Prop),base.drop k=r→k+r.length=base.length→τk=τS ops (Ns β 0 base) τ k→EW P ops H₀ k τk r K →
  (∀j,k≤j→j<base.length→∃o,ops[j]?=some o∧jS P ops H₀ o (τS ops (Ns β 0 base) τ j) (base.getD j .skip))∧K (τS ops (Ns β 0 base) τ base.length) (mP β k r)
 | [],k,τk,K,hd,hk,ht,h=>by
  simp only[List.length_nil,Nat.add_zero] at hk;subst hk;exact⟨fun j h1 h2=>by omega,by rw[←ht];exact h⟩
 | e::r,k,τk,K,hd,hk,ht,h=>by
  obtain⟨o,ho,hok,hn⟩:=h;simp only[List.length_cons] at hk;have hb:base.getD k .skip=e:=by
   have:(base.drop k)[0]?=some e:=by rw[hd];rfl
   rw[List.getElem?_drop] at this;rw[List.getD_eq_getElem?_getD,show k=k+0 by omega,this];rfl
  have hd2:base.drop (k+1)=r:=by
   rw[←List.drop_drop,hd];rfl
  obtain⟨h1,h2⟩:=EW.facts (τ:=τ) (base:=base) β r (k+1) _ _ hd2 Ar (by simp only[τS,ho,Option.bind_some];rw[Pb β Ar,hb,←ht]) (hn (β k));refine⟨fun j hj hl=>?_,h2⟩;by_cases e2:j=k
  ·subst e2;exact⟨o,ho,by rw[hb,←ht];exact hok⟩
  exact h1 j Ar hl
theorem Od {β β':Nat→Nat×Nat}{l l':Nat→Bool}:∀(r:List Ey) (k:Nat),(∀j,k≤j→l j=l' j∧(l j=true→β j=β' j))→Vq β l k r=Vq β' l' k r
 | [],k,h=>rfl
 | e::r,k,h=>by
  simp only[Vq];obtain⟨h1,h2⟩:=h k (Nat.le_refl _);rw[Od r (k+1) fun j hj=>h j Ar,←h1];cases hl:l k
  ·rfl
  rw[h2 hl]
theorem XV {β:Nat→Nat×Nat}{l:Nat→Bool}{i:Nat}{b:Nat×Nat}(hi:l i=false):∀(r:List Ey) (k:Nat),k≤i→i<k+r.length→((r.getD (i - k) .skip).box b++Vq β l k r).Perm (Vq (fun j=>if j=i then b else β j) (fun j=>l j||j==i) k r)
 | [],k,h1,h2=>by simp at h2;omega
 | e::r,k,h1,h2=>by
  simp only[Vq];by_cases hk:k=i
  ·subst hk;simp only[hi,Bool.false_eq_true,if_false,List.nil_append,Nat.sub_self,List.getD_cons_zero,beq_self_eq_true,Bool.or_true,if_true];rw[Od (β':=fun j=>if j=k then b else β j) (l':=fun j=>l j||j==k) r (k+1) fun j hj=>⟨by simp[show (j==k)=false by simp;omega],fun _=>by rw[if_neg Ar]⟩]
  have hp:=XV (β:=β) hi r (k+1) (b:=b) Ar (by simp only[List.length_cons] at h2;omega);have e1:(e::r).getD (i - k) .skip=r.getD (i - (k+1)) .skip:=by
   rw[show i - k=(i - (k+1))+1 by omega];rfl
  have e2:(if (l k||k==i)=true then e.box (if k=i then b else β k) else [])=(if l k=true then e.box (β k) else []):=by
   rw[if_neg hk];simp[hk]
  rw[e1,e2];refine List.Perm.trans ?_ (hp.append_left _);rw[←List.append_assoc,←List.append_assoc];exact List.perm_append_comm.append_right _
theorem YP {β:Nat→Nat×Nat}{l:Nat→Bool}:∀(r:List Ey) (k:Nat),(∀j,k≤j→j<k+r.length→l j=true)→Vq β l k r=mP β k r
 | [],k,h=>rfl
 | e::r,k,h=>by
  simp only[Vq,mP];rw[if_pos (h k (Nat.le_refl _) As),YP r (k+1) fun j h1 h2=>h j Ar (by simp only[List.length_cons];omega)]
theorem VO {β:Nat→Nat×Nat}{l:Nat→Bool}:∀(r:List Ey) (k:Nat),(∀j,l j=false)→Vq β l k r=[]
 | [],k,h=>rfl
 | e::r,k,h=>by simp only[Vq];rw[VO r (k+1) h,h k];rfl
def gz (ops:Array Oper) (e:Nat):Bool:=(List.range ops.size).all fun i=>Nat.blt i e||(List.range i).all fun j=>L5 ops j i
theorem Px {ops:Array Oper}{e:Nat}(h:gz ops e=true) {i j:Nat}(hi:e≤i) (hs:i<ops.size) (hj:j<i):Pred ops j i:=by
 have:=List.all_eq_true.1 h i (by simpa using hs);simp only[Bool.or_eq_true] at this;rcases this with h1 | h1
 ·rw[Nat.blt_eq] at h1;omega
 exact Eb (List.all_eq_true.1 h1 j (by simpa using hj))
theorem Tp {P:Program}{r:Option Nat}{ops:Array Oper}{id n:Nat}{τ:Nat→AV}{H:List BL}{D:List EF}{Q:Cu→Bt→Prop}(base:List Ey) (hm:P.follows .mixedOrders=true)
  (he:Nat.ble base.length ops.size=true) (chk:NA ops n []=true) (late:gz ops base.length=true) (h:EW P ops H 0 τ base (fun τ' Hs=>AL P r ops base.length ⟨n,τ',Hs++H,D⟩ Q)):IT P r (.region id ops true) ⟨n,τ,H,D⟩ Q:=by
 intro F₀ a₀ w₀ hs₀;rw[Nat.ble_eq] at he;refine wpIn_region_any hm ?_;have same:DM F₀ w₀ F₀ { w₀ with drawn:=w₀.drawn+1 }:=⟨Nat.le_refl _,fun _ _ _=>rfl,fun _ h _=>h⟩;have t₀:Trans F₀ H w₀ F₀ H { w₀ with drawn:=w₀.drawn+1 } :=
  ⟨Nat.le_refl _,fun _ _ _=>rfl,fun _ h _=>h,fun _ h=> .inl h,fun o ho b hb=> .inl ⟨o,ho,hb⟩,rfl,rfl,rfl⟩
 have hs₁:DX F₀ ⟨n,τ,H,D⟩ a₀ { w₀ with drawn:=w₀.drawn+1 } :=
  ⟨hs₀.size,fun t=>CF.mono same _ _ (hs₀.tmp t),hs₀.heap.stable' same (fun _ h=>h) (fun _ _ _ _=>rfl) hs₀.heap.bd,Ev.mono same _ _ hs₀.defs⟩
 obtain⟨hdst,c0,c1,c2,_⟩:=Js chk;have hd:∀β,NY P ops n (fun _=>False) τ H (Ns β 0 base):=fun β =>
  ⟨hdst,fun _ _ _ h=>h.elim,c0,c1,c2,fun i k _ _ h _=>(by rw[eN] at h;cases h),fun i e ob v _ _ _ h _ _=>absurd h (Zx β base 0 i ob v)⟩
 have hE:∀β,(∀j,j<base.length→∃o,ops[j]?=some o∧jS P ops H o (τS ops (Ns β 0 base) τ j) (base.getD j .skip))∧AL P r ops base.length ⟨n,τS ops (Ns β 0 base) τ base.length,mP β 0 base++H,D⟩ Q:=fun β=>by
  obtain⟨h1,h2⟩:=EW.facts (base:=base) β base 0 τ _ As As rfl h;exact⟨fun j hj=>h1 j (Nat.zero_le _) hj,h2⟩
 -- where all of the first part has been carried out,the rest goes in the order of the text
 have conv:∀{l:Array Bool} {a w β τ' F Hb},(∀j,j<base.length→l.getD j false=true)→(∀k,base.length≤k→l.getD k false=false)→F7 ops (Ns β 0 base) τ (fun i=>l.getD i false=true) τ'→Hb.Perm (Vq β (fun k=>l.getD k false) 0 base)→DX F ⟨n,τ',Hb++H,D⟩ a w→Trans F₀ H w₀ F (Hb++H) w →
   wpOpsIn (W r) 0 P ops (post F₀ H w₀ Q) (List.range' base.length (ops.size - base.length)) a w:=by
  intro l a w β τ' F Hb hall hno hτ hp hs ht;have hτe:τ'=τS ops (Ns β 0 base) τ base.length:=by
   funext t;have h2:=LZ (hd β) base.length he t;by_cases hw:∃(k:Nat) (o':Oper),ops[k]?=some o'∧o'.dst=some t∧k<base.length
   ·obtain⟨k,o',ho',hk,hlt⟩:=hw;rw[(hτ t).1 k o' ho' hk (hall k hlt),h2.1 k o' ho' hk hlt]
   have hw':∀(k:Nat) o',ops[k]?=some o'→o'.dst=some t→¬k<base.length:=fun k o' h1 h2 h3=>hw ⟨k,o',h1,h2,h3⟩;rw[(hτ t).2 fun k o' h1 h2 h3=>(by have h4:l.getD k false=true:=h3;have:=hno k (by have:=hw' k o' h1 h2;omega);rw[this] at h4;cases h4),h2.2 fun k o' h1 h2 h3=>hw' k o' h1 h2 h3]
  rw[YP base 0 fun j _ hj=>hall j Ar] at hp;have hp2:=hp.append_right H;have:=(hE β).2 F a w (by rw[←hτe];exact⟨hs.size,hs.tmp,hs.heap.perm hp2,hs.defs⟩);refine Ef (fun e a' w' hq=>?_) _ _ _ this;exact Gf hs₀.heap.bd { ht with keys:=fun o ho=>ht.keys o (hp2.mem_iff.2 ho) } hq
 refine Jj (I:=fun l a w=>l.size=ops.size∧((∃β τ' F Hb,Down ops (fun i=>l.getD i false=true)∧(∀k,base.length≤k→l.getD k false=false)∧F7 ops (Ns β 0 base) τ (fun i=>l.getD i false=true) τ'∧Hb.Perm (Vq β (fun k=>l.getD k false) 0 base)∧DX F ⟨n,τ',Hb++H,D⟩ a w∧Trans F₀ H w₀ F (Hb++H) w) ∨
  (∃m,base.length≤m∧m≤ops.size∧(∀k,k<ops.size→(l.getD k false=true↔k<m))∧wpOpsIn (W r) 0 P ops (post F₀ H w₀ Q) (List.range' m (ops.size - m)) a w))) (fun l a w h=>h.1) ?_ ?_ _ _ _ _ ?_ ?_
 ·rintro l a w ⟨hsz,hI⟩ i hi;obtain⟨hun,o,ho,hall⟩:=mem_ready.1 hi;have hlt:i<ops.size:=by
   rcases Nat.lt_or_ge i ops.size with h | h
   ·exact h
   simp[Array.getElem?_eq_none h] at ho
  have hil:i<l.size:=by omega
  have hnot:l.getD i false=false:=by
   have:l[i]=false:=by simpa [hil] using hun
   simp[hil,this]
  have hr:∀j∈D6 o,l.getD j false=true:=by
   intro j hj;simp only[D6,List.mem_map,List.mem_filter] at hj;obtain⟨e,⟨he,hb⟩,rfl⟩:=hj;exact hall e (by simpa using he) hb
  have hset:∀k,(l.setIfInBounds i true).getD k false=true↔(l.getD k false=true∨k=i):=by
   intro k;by_cases hk:k=i
   ·subst hk;simp[hil]
   simp[Array.getElem?_setIfInBounds_ne (Ne.symm hk),hk]
  have hset2:∀k,(l.setIfInBounds i true).getD k false=(l.getD k false||k==i):=by
   intro k;by_cases hk:k=i
   ·subst hk;simp[hil]
   simp[Array.getElem?_setIfInBounds_ne (Ne.symm hk),hk]
  have hsz':(l.setIfInBounds i true).size=ops.size:=by simp[hsz]
  have goLate:∀m,i=m→base.length≤m→m≤ops.size→(∀k,k<ops.size→(l.getD k false=true↔k<m))→wpOpsIn (W r) 0 P ops (post F₀ H w₀ Q) (List.range' m (ops.size - m)) a w →
    wpOpIn (W r) 0 P ops (post F₀ H w₀ Q) i (fun a w=>(l.setIfInBounds i true).size=ops.size∧((∃β τ' F Hb,Down ops (fun k=>(l.setIfInBounds i true).getD k false=true)∧(∀k,base.length≤k→(l.setIfInBounds i true).getD k false=false)∧F7 ops (Ns β 0 base) τ (fun k=>(l.setIfInBounds i true).getD k false=true) τ'∧Hb.Perm (Vq β (fun k=>(l.setIfInBounds i true).getD k false) 0 base)∧DX F ⟨n,τ',Hb++H,D⟩ a w∧Trans F₀ H w₀ F (Hb++H) w) ∨
     (∃m,base.length≤m∧m≤ops.size∧(∀k,k<ops.size→((l.setIfInBounds i true).getD k false=true↔k<m))∧wpOpsIn (W r) 0 P ops (post F₀ H w₀ Q) (List.range' m (ops.size - m)) a w))) a w:=by
   intro m him h1 h2 h3 hw;subst him;rw[KG hlt,wpOpsIn_cons] at hw;refine wpOpIn_mono (fun a' w' h'=>⟨hsz',.inr ⟨i+1,by omega,by omega,fun k hk=>?_,h'⟩⟩) hw;rw[hset k,h3 k hk];omega
  rcases hI with ⟨β,τ',F,Hb,hdown,hno,hτ,hp,hs,ht⟩ | ⟨m,hm1,hm2,hm3,hw⟩
  ·rcases Nat.lt_or_ge i base.length with hib | hib
   ·-- of the first part
    obtain⟨o',ho',hok⟩:=(hE β).1 i hib;rw[ho] at ho';injection ho' with ho';subst ho';have hlook:∀t∈looks ops o,τ' t=τS ops (Ns β 0 base) τ i t:=fun t ht=>Jq (hd β) hdown hτ ho (by rw[hnot];decide) hr ht;have hops:∀x∈o.op.operands.toList,ev τ' x=ev (τS ops (Ns β 0 base) τ i) x:=by
     intro x hx;cases x with
     | tmp t=>exact hlook t (List.mem_append_left _ (List.mem_filterMap.2 ⟨.tmp t,hx,rfl⟩))
     | _=>rfl
    have hguard:∀j want d,o.guard=some (j,want)→(ops[j]?).bind (·.dst)=some d→τ' d=τS ops (Ns β 0 base) τ i d:=by
     intro j want d hg hj;refine hlook d (List.mem_append_right _ ?_);simp[hg,hj]
    have hdown':Down ops (fun k=>(l.setIfInBounds i true).getD k false=true):=by
     intro k o' j ho' hk hj;rcases (hset k).1 hk with h | h
     ·exact(hset j).2 (.inl (hdown k o' j ho' h hj))
     subst h;rw[ho] at ho';injection ho' with ho';subst ho';exact(hset j).2 (.inl (hr j hj))
    have hno':∀k,base.length≤k→(l.setIfInBounds i true).getD k false=false:=by
     intro k hk;rw[hset2 k,hno k hk];simp;omega
    generalize hbe:base.getD i .skip=e at hok;have close:∀{a' w' F' b H'},H'=e.box b++(Hb++H)→DX F' ⟨n,put τ' o.dst (e.v b),H',D⟩ a' w'→Trans F (Hb++H) w F' H' w' →
      (l.setIfInBounds i true).size=ops.size∧((∃β τ' F Hb,Down ops (fun k=>(l.setIfInBounds i true).getD k false=true)∧(∀k,base.length≤k→(l.setIfInBounds i true).getD k false=false)∧F7 ops (Ns β 0 base) τ (fun k=>(l.setIfInBounds i true).getD k false=true) τ'∧Hb.Perm (Vq β (fun k=>(l.setIfInBounds i true).getD k false) 0 base)∧DX F ⟨n,τ',Hb++H,D⟩ a' w'∧Trans F₀ H w₀ F (Hb++H) w') ∨
       (∃m,base.length≤m∧m≤ops.size∧(∀k,k<ops.size→((l.setIfInBounds i true).getD k false=true↔k<m))∧wpOpsIn (W r) 0 P ops (post F₀ H w₀ Q) (List.range' m (ops.size - m)) a' w')):=by
     intro a' w' F' b H' hH h3 h4;subst hH;refine⟨hsz',.inl ⟨fun j=>if j=i then b else β j,put τ' o.dst (e.v b),F',e.box b++Hb,hdown',hno',?_,?_,by rw[List.append_assoc];exact h3,by rw[List.append_assoc];exact ht.trans hs₀.heap.bd h4⟩⟩
     ·have hτ2:F7 ops (Ns (fun j=>if j=i then b else β j) 0 base) τ (fun k=>l.getD k false=true) τ':=by
       intro t;refine⟨fun k o' a1 a2 a3=>?_,(hτ t).2⟩;have a4:l.getD k false=true:=a3;have hki:k≠i:=fun e=>by subst e;rw[hnot] at a4;cases a4
       rw[(hτ t).1 k o' a1 a2 a3];rcases Nat.lt_or_ge k base.length with hk | hk
       ·rw[Pb _ hk,Pb _ hk,if_neg hki]
       have:=hno k hk;rw[this] at a4;cases a4
      have hτ3:=hτ2.put (hd _) ho;rw[Pb _ hib,if_pos rfl,hbe] at hτ3;intro t;exact⟨fun k o' a1 a2 a3=>(hτ3 t).1 k o' a1 a2 ((hset k).1 a3),fun hn=>(hτ3 t).2 fun k o' a1 a2 a3=>hn k o' a1 a2 ((hset k).2 a3)⟩
     have h1:=XV (β:=β) (l:=fun k=>l.getD k false) (i:=i) (b:=b) hnot base 0 (Nat.zero_le _) Ar;rw[Nat.sub_zero,hbe] at h1;refine(hp.append_left _).trans (h1.trans (List.Perm.of_eq ?_));exact Od base 0 fun j _=>⟨(hset2 j).symm,fun _=>O⟩
    have wants:Cy ops ⟨0,τS ops (Ns β 0 base) τ i,[],[]⟩ o→Cy ops ⟨n,τ',Hb++H,D⟩ o:=by
     intro h;unfold Cy at *;cases hg:o.guard with
     | none=>simp[hg]
     | some jw =>
      obtain⟨j,want⟩:=jw;simp only[hg] at h ⊢;obtain⟨d,h1,h2⟩:=h;exact⟨d,h1,by rw[←h2];exact hguard j want d hg h1⟩
    have yields:Cy ops ⟨n,τ',Hb++H,D⟩ o→DH P o (ev (τS ops (Ns β 0 base) τ i)) (Hb++H) (fun r H'=>match r with | .val v=>∃b,v=e.v b∧H'=e.box b++(Hb++H) | .panic _=>False)→wpOpIn (W r) 0 P ops (post F₀ H w₀ Q) i (fun a' w'=>(l.setIfInBounds i true).size=ops.size∧((∃β τ' F Hb,Down ops (fun k=>(l.setIfInBounds i true).getD k false=true)∧(∀k,base.length≤k→(l.setIfInBounds i true).getD k false=false)∧F7 ops (Ns β 0 base) τ (fun k=>(l.setIfInBounds i true).getD k false=true) τ'∧Hb.Perm (Vq β (fun k=>(l.setIfInBounds i true).getD k false) 0 base)∧DX F ⟨n,τ',Hb++H,D⟩ a' w'∧Trans F₀ H w₀ F (Hb++H) w') ∨
       (∃m,base.length≤m∧m≤ops.size∧(∀k,k<ops.size→((l.setIfInBounds i true).getD k false=true↔k<m))∧wpOpsIn (W r) 0 P ops (post F₀ H w₀ Q) (List.range' m (ops.size - m)) a' w'))) a w:=by
     intro hwant hop;unfold wpOpIn;simp only[ho,HW hs hwant,if_true];have hw:=hop r F _ a w hs rfl (fun x hx=>hops x hx) (fun t ht=>hdst i o t ho ht);unfold Oper.wpIn at *;refine⟨hw.1,?_⟩;replace hw:=hw.2;generalize (o.semAt (W r).round a.eval).run P w=rr at *;cases rr with
     | ok nx w' =>
      cases nx<;>simp only[Oper.uponIn] at hw ⊢
      case value u=>obtain⟨v',H'',F',⟨b,h1,h2⟩,h3,h4⟩:=hw;subst h1;exact close h2 h3 h4
      case skip=>obtain⟨v',H'',F',⟨b,h1,h2⟩,h3,h4⟩:=hw;subst h1;exact close h2 h3 h4
      case defer d=>obtain⟨v',H'',F',⟨b,h1,h2⟩,h3,h4⟩:=hw;subst h1;exact close h2 h3 h4
      case enter f args =>
       refine⟨hw.1,hw.2.mono fun e w'' he=>?_⟩;cases e with
       | returned u=>obtain⟨v',H'',F',⟨b,h1,h2⟩,h3,h4⟩:=he;subst h1;exact close h2 h3 h4
       | panicked c=>obtain⟨_,_,_,_,h,_⟩:=he;exact h.elim
       | outgrown=>obtain⟨_,_,_,_,_,_,h,_⟩:=he;exact h.elim
      case row row args=>exact⟨hw.1,hw.2.mono fun u w'' h=>by obtain⟨v',H'',F',⟨b,h1,h2⟩,h3,h4⟩:=h;subst h1;exact close h2 h3 h4⟩
      case round l' f tmps assign body =>
       refine⟨hw.1,hw.2.mono fun e w'' he=>?_⟩;cases e with
       | returned u=>obtain⟨v',H'',F',⟨b,h1,h2⟩,h3,h4⟩:=he;subst h1;exact close h2 h3 h4
       | panicked c=>obtain⟨_,_,_,_,h,_⟩:=he;exact h.elim
       | outgrown=>obtain⟨_,_,_,_,_,_,h,_⟩:=he;exact h.elim
     | halt x w' =>
      cases x<;>simp only[Oper.uponIn] at hw ⊢
      case panic u=>obtain⟨_,_,_,_,h,_⟩:=hw;exact h.elim
    cases e with
    | val v=>exact yields (wants hok.1) ((hok.2 Hb).mono (by
      intro r H' hR;cases r with
      | val v'=>obtain⟨rfl,rfl⟩:=hR;exact⟨(0,0),rfl,rfl⟩
      | panic v'=>exact hR.elim))
    | new cs =>
     refine yields (by unfold Cy;rw[hok.1];trivial) ((hok.2 _).mono ?_);intro r H' hR;cases r with
     | val v'=>obtain⟨b,rfl,rfl⟩:=hR;exact⟨(b,0),rfl,rfl⟩
     | panic v'=>exact hR.elim
    | newv sz rows =>
     refine yields (by unfold Cy;rw[hok.1];trivial) ((hok.2 _).mono ?_);intro r H' hR;cases r with
     | val v'=>obtain⟨b,c,rfl,rfl⟩:=hR;exact⟨(b,c),rfl,rfl⟩
     | panic v'=>exact hR.elim
    | skip =>
     obtain⟨j,want,d,hg,hj,hb⟩:=hok;have hw:Region.wanted o (yielded ops a.tmps)=false:=JV (S:=⟨n,τ',Hb++H,D⟩) hs hg hj (by show du (τ' d) want;rw[hguard j want d hg hj];exact hb);unfold wpOpIn;simp only[ho,hw,Bool.false_eq_true,if_false];refine⟨fun _ _=>Au,close (b:=(0,0)) O ?_ .refl⟩;exact hs.put (fun t ht=>hdst i o t ho ht) ⟨Nat.le_refl _,fun _ _ _=>O,fun _ h _=>h⟩ hs.heap (by simp only[Ey.v,CF,Bz,undef];exact⟨[],rfl,rfl⟩)
   -- the first of the rest
   have hpre:∀j,j<i→l.getD j false=true:=by
    intro j hj;have hpi:=Px late hib hlt hj;have:∀{a b},Pred ops a b→b=i→l.getD a false=true:=by
     intro a b hab
     induction hab with
     | base ho' hj=>intro e;subst e;rw[ho] at ho';injection ho' with ho';subst ho';exact hr _ hj
     | trans p1 _ _ ih2=>intro e;exact hdown.pred p1 (ih2 e)
    exact this hpi O
   have hie:i=base.length:=by
    rcases Nat.lt_or_ge base.length i with h | h
    ·have h1:=hpre base.length h;rw[hno base.length (Nat.le_refl _)] at h1;cases h1
    omega
   refine goLate base.length hie (Nat.le_refl _) he (fun k hk=>⟨fun h=>?_,fun h=>hpre k Ar⟩) (conv (fun j hj=>hpre j Ar) hno hτ hp hs ht);rcases Nat.lt_or_ge k base.length with h' | h'
   ·exact h'
   rw[hno k h'] at h;cases h
  have hmi:m≤i:=by
   rcases Nat.lt_or_ge i m with h | h
   ·have:=(hm3 i hlt).2 h;rw[hnot] at this;cases this
   exact h
  have him:i=m:=by
   rcases Nat.lt_or_ge m i with h | h
   ·have hpi:=Px late (by omega:base.length≤i) hlt h;have hdown:∀{a b},Pred ops a b→b=i→l.getD a false=true:=by
     intro a b hab
     induction hab with
     | base ho' hj=>intro e;subst e;rw[ho] at ho';injection ho' with ho';subst ho';exact hr _ hj
     | @trans a k b p1 p2 _ ih2 =>
      intro e;have hk:=ih2 e;have hks:k<ops.size:=by
       rcases Nat.lt_or_ge k ops.size with h | h
       ·exact h
       have:l.getD k false=false:=by
        have:¬k<l.size:=by omega
        simp[this]
       rw[this] at hk;cases hk
      have hkm:=(hm3 k hks).1 hk;have hak:a<k:=Pred.lt (hd fun _=>(0,0)) p1;exact(hm3 a Ar).2 Ar
    have:=(hm3 m Ar).1 (hdown hpi rfl);omega
   omega
  exact goLate m him hm1 hm2 hm3 hw
 ·rintro l a w ⟨hsz,hI⟩ hr;have hall:∀i,i<ops.size→l.getD i false=true:=by
   intro i
   induction i using Nat.strongRecOn with
   | _ i ih =>
    intro hi;cases hq:l.getD i false with
    | true=>rfl
    | false =>
     have ho:ops[i]?=some ops[i]:=Array.getElem?_eq_getElem hi;have:i∈Region.ready .any ops l:=by
      refine mem_ready.2 ⟨?_,ops[i],ho,?_⟩
      ·have:i<l.size:=by omega
       simp[this] at hq ⊢;exact hq
      intro e he hb;have hj:e.on∈D6 ops[i]:=by
       simp only[D6,List.mem_map,List.mem_filter];exact⟨e,⟨by simpa using he,hb⟩,rfl⟩
      have hlt:=c0 i _ _ ho hj;exact ih e.on hlt Ar
     rw[hr] at this;cases this
  rcases hI with ⟨β,τ',F,Hb,hdown,hno,hτ,hp,hs,ht⟩ | ⟨m,hm1,hm2,hm3,hw⟩
  ·have hbs:base.length=ops.size:=by
    rcases Nat.lt_or_ge base.length ops.size with h | h
    ·have:=hall base.length h;rw[hno base.length (Nat.le_refl _)] at this;cases this
    omega
   have:=conv (fun j hj=>hall j Ar) hno hτ hp hs ht;rw[hbs,Nat.sub_self] at this;exact this
  have hms:m=ops.size:=by
   rcases Nat.lt_or_ge m ops.size with h | h
   ·have:=(hm3 m h).1 (hall m h);omega
   omega
  rw[hms,Nat.sub_self] at hw;exact hw
 ·refine⟨by simp,.inl ⟨fun _=>(0,0),τ,F₀,[],?_,?_,?_,?_,hs₁,t₀⟩⟩
  ·intro i o j ho hi;by_cases h:i<ops.size<;>simp[h] at hi
  ·intro k _;by_cases h:k<ops.size<;>simp[h]
  ·intro t;refine⟨fun k o ho hk hl=>?_,fun _=>O⟩;by_cases h:k<ops.size<;>simp[h] at hl
  rw[VO base 0 fun j=>by by_cases h:j<ops.size<;>simp[h]]
 have:=List.length_filter_le (fun b:Bool=> !b) (Array.replicate ops.size false).toList;simp at this ⊢
section
variable {P:Program}{ops:Array Oper}{H₀:List BL}{k:Nat}{τ:Nat→AV}{r:List Ey}{K:(Nat→AV)→List BL→Prop}{dst:Option Tmp}{op:Op}{ty:TypeId}{pos:String}{aft:Array Edge}{v:AV}
theorem Df (ho:ops[k]?=some ⟨dst,op,ty,pos,aft,none⟩) (h:∀Bs,Dh P ⟨dst,op,ty,pos,aft,none⟩ (ev τ) (Bs++H₀) v (Bs++H₀)) (next:EW P ops H₀ (k+1) (put τ dst v) r K):EW P ops H₀ k τ (.val v::r) K :=
 ⟨_,ho,⟨trivial,h⟩,fun _=>next⟩
theorem Vt {cs:List AV}(ho:ops[k]?=some ⟨dst,op,ty,pos,aft,none⟩) (h:∀Bs,DH P ⟨dst,op,ty,pos,aft,none⟩ (ev τ) (Bs++H₀) (H5 cs (Bs++H₀))) (next:∀b,EW P ops H₀ (k+1) (put τ dst (.ptr b 0)) r (fun τ' Hs=>K τ' (.box b cs::Hs))):EW P ops H₀ k τ (.new cs::r) K :=
 ⟨_,ho,⟨rfl,h⟩,fun b=>next b.1⟩
theorem XE (h:K τ []):EW P ops H₀ k τ [] K:=h
theorem CX {α:Type}{Bs H:List α}{j:Nat}{x:α}(h:H[j]?=some x):(Bs++H)[Bs.length+j]?=some x:=by
 rw[List.getElem?_append_right Ar,Nat.add_sub_cancel_left];exact h
end
def kM (ops:Array Oper) (k:Nat) (ef:eW):List BL→Prop
 | []=>True
 | ob::r=>YS ops k ob ef∧kM ops k ef r
section
variable {P:Program}{ops:Array Oper}{n:Nat}{τ₀:Nat→AV}{D:List EF}{Q:Cu→Bt→Prop}{opn:Nat→Bool}{k:Nat}{τ:Nat→AV}{H Hs:List BL}{rd:iM}{ef:eW}{effs:List Bool}{fx:List (Nat×Sp)}{dst:Option Tmp}{ty:TypeId}{pos:String}{aft:Array Edge}{v:AV}{c:Call}{f:Operand}{fid:FuncId}{first caps A:List AV}
end
def ng (P:Program) (T:TypeId):Bool :=
 match P.underlying T with
 | some (.struct fs)=>match fs.toList with
  | [f,g]=>f.name != "_" &&g.name != "_" &&Nat.beq f.offset 0&&Nat.beq g.offset 1&&(match P.underlying f.type,P.underlying g.type with | some (.int .i64),some .bool=>true | _,_=>false)&& !P.stoodInHeld T&& !P.eqGuardType P.depth T
  | _=>false
 | _=>false
section
variable {P:Program}{dst:Option Tmp}{ty:TypeId}{pos:String}{aft:Array Edge}{g:Option (Nat×Bool)}{ρ:Operand→AV}{H:List BL}{x y z:Operand}{v:AV}
end
theorem TN {α:Type}{base T xs:List α}{is:List Nat}(hn:is.Nodup) (h:FD base is xs):(base++T).Perm (xs++(C0 is 0 base++T)):=by
 rw[←List.append_assoc];exact(DK hn h).append_right T
theorem RU {α:Type}{base T xs rest:List α}{is:List Nat}(hn:is.Nodup) (h:FD base is xs) (hd:C0 is 0 base=rest):(base++T).Perm (xs++(rest++T)):=by
 subst hd;exact TN hn h
theorem KZ {P:Program}{fn:Func}{R:EG→List BL→Prop}{S:Bt}{Hs:List BL}(h:Kp P fn S R [] .ret Hs):∀U:List Nat,Kp P fn S R (U.map .mark) .ret (Hs++U.map .dfr)
 | []=>by simpa using h
 | d::U=>by
  refine⟨Hs.length,by simp,?_⟩;have:(Hs++(d::U).map BL.dfr).eraseIdx Hs.length=Hs++U.map BL.dfr:=by
   rw[List.eraseIdx_append_of_length_le (Nat.le_refl _)];simp
  rw[this];exact KZ h U
theorem Oy {P:Program}{fn:Func}{R:EG→List BL→Prop}{n:Nat}{τ:Nat→AV}(U:List Nat) {Hs:List BL}(h:Kp P fn ⟨n,τ,Hs++U.map .dfr,U.map .mark⟩ R [] .ret Hs):cm P fn R .ret ⟨n,τ,Hs++U.map .dfr,U.map .mark⟩ :=
 KZ h U
theorem VU {P:Program}{l d i:Nat}{S:Bt}{Q:Cu→Bt→Prop}{v:AV}{H':List BL}{L:NI}(H2:List BL) (h1:H'[i]?=some (.loop l L)) (hs:L.state≠ .busy) (hp:L.pending=none) (he:H'.eraseIdx i=H2) (h:Q .normal ⟨S.n,S.τ,H2,.mark d::S.D⟩):Tn P l d S Q (.val v) H':=by
 subst he;exact⟨i,L,h1,hs,by rw[hp];exact h⟩
theorem WI {P:Program}{l d i:Nat}{S:Bt}{Q:Cu→Bt→Prop}{v:AV}{H':List BL}{L:NI}(H2:List BL) (h1:H'[i]?=some (.loop l L)) (hs:L.state≠ .busy) (hp:L.pending=some .ret) (he:H'.eraseIdx i=H2) (h:IT P none .ret ⟨S.n,S.τ,H2,.mark d::S.D⟩ Q):Tn P l d S Q (.val v) H':=by
 subst he;exact⟨i,L,h1,hs,by rw[hp];exact h⟩
abbrev BV:=Nat×Nat×AV
inductive Ez where
 | val (v:AV)
 | skip
 | new (cs:List AV)
 | newv (sz:Nat) (rows:List (List PV))
 | rel (R:AV→Prop)
def Ez.v (b:BV):Ez→AV
 | .val v=>v
 | .skip=> .tup []
 | .new _=> .ptr b.1 0
 | .newv _ rows=> .vs (some b.1) rows.length b.2.1
 | .rel _=>b.2.2
def Ez.box (b:BV):Ez→List BL
 | .new cs=>[.box b.1 cs]
 | .newv sz rows=>[.vec (some b.1) sz rows b.2.1]
 | _=>[]
def Ez.ok (b:BV):Ez→Prop
 | .rel R=>R b.2.2
 | _=>True
def Zt:List Ez→Prop
 | []=>True
 | .rel R::r=>(∃v,R v)∧Zt r
 | _::r=>Zt r
def VT (P:Program) (ops:Array Oper) (H₀:List BL) (o:Oper) (τ:Nat→AV):Ez→Prop
 | .val v=>Cy ops ⟨0,τ,[],[]⟩ o∧∀Bs,Dh P o (ev τ) (Bs++H₀) v (Bs++H₀)
 | .skip=>∃j want d,o.guard=some (j,want)∧(ops[j]?).bind (·.dst)=some d∧du (τ d) want
 | .new cs=>o.guard=none∧∀Bs,DH P o (ev τ) (Bs++H₀) (H5 cs (Bs++H₀))
 | .newv sz rows=>o.guard=none∧∀Bs,DH P o (ev τ) (Bs++H₀) (K7 sz rows (Bs++H₀))
 | .rel R=>o.guard=none∧∀Bs,DH P o (ev τ) (Bs++H₀) (Ow R (Bs++H₀))
def EV (P:Program) (ops:Array Oper) (H₀:List BL):Nat→(Nat→AV)→List Ez→((Nat→AV)→List BL→Prop)→Prop
 | _,τ,[],K=>K τ []
 | k,τ,e::r,K=>∃o,ops[k]?=some o∧VT P ops H₀ o τ e∧∀b,e.ok b→EV P ops H₀ (k+1) (put τ o.dst (e.v b)) r (fun τ' Hs=>K τ' (e.box b++Hs))
def FI (β:Nat→BV):Nat→List Ez→List Sp
 | _,[]=>[]
 | k,e::r=> .free (e.v (β k))::FI β (k+1) r
def dr (β:Nat→BV):Nat→List Ez→List BL
 | _,[]=>[]
 | k,e::r=>e.box (β k)++dr β (k+1) r
def Vr (β:Nat→BV) (l:Nat→Bool):Nat→List Ez→List BL
 | _,[]=>[]
 | k,e::r=>(if l k=true then e.box (β k) else [])++Vr β l (k+1) r
theorem PQ (β:Nat→BV):∀(r:List Ez) (k j:Nat),j<r.length→(FI β k r).getD j .skip= .free ((r.getD j .skip).v (β (k+j)))
 | [],k,j,h=>by simp at h
 | e::r,k,0,h=>by simp[FI]
 | e::r,k,j+1,h=>by
  have:=PQ β r (k+1) j (by simpa using h);simp only[FI,List.getD_cons_succ];rw[this,show k+1+j=k+(j+1) by omega]
theorem Xc (β:Nat→BV):∀(r:List Ez) (k:Nat),(FI β k r).length=r.length
 | [],k=>rfl
 | e::r,k=>by simp[FI,Xc β r (k+1)]
theorem I7 (β:Nat→BV) {r:List Ez}{k j:Nat}(h:r.length≤j):(FI β k r).getD j .skip= .skip:=by
 rw[List.getD_eq_getElem?_getD,List.getElem?_eq_none (by rw[Xc];exact h)];rfl
theorem UB (β:Nat→BV) (r:List Ez) (k j:Nat):((FI β k r).getD j .skip).isEff=false:=by
 rcases Nat.lt_or_ge j r.length with h | h
 ·rw[PQ β r k j h];rfl
 rw[I7 β h];rfl
theorem Qq (β:Nat→BV) (r:List Ez) (k j:Nat) (ob:List BL) (v:AV):(FI β k r).getD j .skip≠ .read ob v:=by
 rcases Nat.lt_or_ge j r.length with h | h
 ·rw[PQ β r k j h];simp
 rw[I7 β h];simp
theorem D9 (β:Nat→BV) {r:List Ez}{j:Nat}(h:j<r.length):((FI β 0 r).getD j .skip).val=(r.getD j .skip).v (β j):=by
 rw[PQ β r 0 j h,Nat.zero_add];rfl
theorem EV.facts {P:Program}{ops:Array Oper}{H₀:List BL}{τ:Nat→AV}{base:List Ez}(β:Nat→BV):∀(r:List Ez) (k:Nat) (τk:Nat→AV) (K:(Nat→AV)→List BL→Prop),base.drop k=r→k+r.length=base.length→τk=τS ops (FI β 0 base) τ k→EV P ops H₀ k τk r K→(∀j,k≤j→j<base.length→(base.getD j .skip).ok (β j)) →
  (∀j,k≤j→j<base.length→∃o,ops[j]?=some o∧VT P ops H₀ o (τS ops (FI β 0 base) τ j) (base.getD j .skip))∧K (τS ops (FI β 0 base) τ base.length) (dr β k r)
 | [],k,τk,K,hd,hk,ht,h,hβ=>by
  simp only[List.length_nil,Nat.add_zero] at hk;subst hk;exact⟨fun j h1 h2=>by omega,by rw[←ht];exact h⟩
 | e::r,k,τk,K,hd,hk,ht,h,hβ=>by
  obtain⟨o,ho,hok,hn⟩:=h;simp only[List.length_cons] at hk;have hb:base.getD k .skip=e:=by
   have:(base.drop k)[0]?=some e:=by rw[hd];rfl
   rw[List.getElem?_drop] at this;rw[List.getD_eq_getElem?_getD,show k=k+0 by omega,this];rfl
  have hd2:base.drop (k+1)=r:=by
   rw[←List.drop_drop,hd];rfl
  obtain⟨h1,h2⟩:=EV.facts (τ:=τ) (base:=base) β r (k+1) _ _ hd2 Ar (by simp only[τS,ho,Option.bind_some];rw[D9 β Ar,hb,←ht]) (hn (β k) (by have:=hβ k (Nat.le_refl _) Ar;rwa [hb] at this)) (fun j h1 h2=>hβ j Ar h2);refine⟨fun j hj hl=>?_,h2⟩;by_cases e2:j=k
  ·subst e2;exact⟨o,ho,by rw[hb,←ht];exact hok⟩
  exact h1 j Ar hl
theorem Jm {β β':Nat→BV}{l l':Nat→Bool}:∀(r:List Ez) (k:Nat),(∀j,k≤j→l j=l' j∧(l j=true→β j=β' j))→Vr β l k r=Vr β' l' k r
 | [],k,h=>rfl
 | e::r,k,h=>by
  simp only[Vr];obtain⟨h1,h2⟩:=h k (Nat.le_refl _);rw[Jm r (k+1) fun j hj=>h j Ar,←h1];cases hl:l k
  ·rfl
  rw[h2 hl]
theorem Pm {β:Nat→BV}{l:Nat→Bool}{i:Nat}{b:BV}(hi:l i=false):∀(r:List Ez) (k:Nat),k≤i→i<k+r.length→((r.getD (i - k) .skip).box b++Vr β l k r).Perm (Vr (fun j=>if j=i then b else β j) (fun j=>l j||j==i) k r)
 | [],k,h1,h2=>by simp at h2;omega
 | e::r,k,h1,h2=>by
  simp only[Vr];by_cases hk:k=i
  ·subst hk;simp only[hi,Bool.false_eq_true,if_false,List.nil_append,Nat.sub_self,List.getD_cons_zero,beq_self_eq_true,Bool.or_true,if_true];rw[Jm (β':=fun j=>if j=k then b else β j) (l':=fun j=>l j||j==k) r (k+1) fun j hj=>⟨by simp[show (j==k)=false by simp;omega],fun _=>by rw[if_neg Ar]⟩]
  have hp:=Pm (β:=β) hi r (k+1) (b:=b) Ar (by simp only[List.length_cons] at h2;omega);have e1:(e::r).getD (i - k) .skip=r.getD (i - (k+1)) .skip:=by
   rw[show i - k=(i - (k+1))+1 by omega];rfl
  have e2:(if (l k||k==i)=true then e.box (if k=i then b else β k) else [])=(if l k=true then e.box (β k) else []):=by
   rw[if_neg hk];simp[hk]
  rw[e1,e2];refine List.Perm.trans ?_ (hp.append_left _);rw[←List.append_assoc,←List.append_assoc];exact List.perm_append_comm.append_right _
theorem T5 {β:Nat→BV}{l:Nat→Bool}:∀(r:List Ez) (k:Nat),(∀j,k≤j→j<k+r.length→l j=true)→Vr β l k r=dr β k r
 | [],k,h=>rfl
 | e::r,k,h=>by
  simp only[Vr,dr];rw[if_pos (h k (Nat.le_refl _) As),T5 r (k+1) fun j h1 h2=>h j Ar (by simp only[List.length_cons];omega)]
theorem Ni {β:Nat→BV}{l:Nat→Bool}:∀(r:List Ez) (k:Nat),(∀j,l j=false)→Vr β l k r=[]
 | [],k,h=>rfl
 | e::r,k,h=>by simp only[Vr];rw[Ni r (k+1) h,h k];rfl
theorem Zt.pick:∀(l:List Ez),Zt l→∃β:Nat→BV,∀j,j<l.length→(l.getD j .skip).ok (β j)
 | [],_=>⟨fun _=>(0,0,.p .any),fun j h=>by simp at h⟩
 | e::r,h=>by
  have h2:Zt r∧∃b,e.ok b:=by
   cases e with
   | rel R=>exact⟨h.2,let ⟨v,hv⟩:=h.1;⟨(0,0,v),hv⟩⟩
   | _=>exact⟨h,(0,0,.p .any),trivial⟩
  obtain⟨β,hβ⟩:=Zt.pick r h2.1;obtain⟨b,hb⟩:=h2.2;refine⟨fun j=>match j with | 0=>b | j+1=>β j,fun j hj=>?_⟩;cases j with
  | zero=>exact hb
  | succ j=>exact hβ j (by simpa using hj)
section
variable {P:Program}{ops:Array Oper}{H₀:List BL}{k:Nat}{τ:Nat→AV}{r:List Ez}{K:(Nat→AV)→List BL→Prop}{dst:Option Tmp}{op:Op}{ty:TypeId}{pos:String}{aft:Array Edge}{v:AV}
theorem JR (ho:ops[k]?=some ⟨dst,op,ty,pos,aft,none⟩) (h:∀Bs,Dh P ⟨dst,op,ty,pos,aft,none⟩ (ev τ) (Bs++H₀) v (Bs++H₀)) (next:EV P ops H₀ (k+1) (put τ dst v) r K):EV P ops H₀ k τ (.val v::r) K :=
 ⟨_,ho,⟨trivial,h⟩,fun _ _=>next⟩
theorem Z2 {cs:List AV}(ho:ops[k]?=some ⟨dst,op,ty,pos,aft,none⟩) (h:∀Bs,DH P ⟨dst,op,ty,pos,aft,none⟩ (ev τ) (Bs++H₀) (H5 cs (Bs++H₀))) (next:∀b,EV P ops H₀ (k+1) (put τ dst (.ptr b 0)) r (fun τ' Hs=>K τ' (.box b cs::Hs))):EV P ops H₀ k τ (.new cs::r) K :=
 ⟨_,ho,⟨rfl,h⟩,fun b _=>next b.1⟩
theorem jU (h:K τ []):EV P ops H₀ k τ [] K:=h
end
theorem DX.putW {F:Nat→Prop}{S:Bt}{d:Option Nat}{v v':AV}{H:List BL}{a:Act}{w:World}(h:DX F (S.put d v H) a w) (hv:Qs v v'):DX F (S.put d v' H) a w :=
 ⟨h.size,fun t=>by
  have:=h.tmp t;cases d with
  | none=>exact this
  | some d =>
   have h3:CF F w (Abs.put S.τ (some d) v t) (a.tmps.getD t undef):=this;show CF F w (Abs.put S.τ (some d) v' t) (a.tmps.getD t undef);cases hb:Nat.beq t d
   ·have e (x:AV):Abs.put S.τ (some d) x t=S.τ t:=by simp only[Abs.put,hb,cond_false]
    rw[e] at h3 ⊢;exact h3
   have e (x:AV):Abs.put S.τ (some d) x t=x:=by simp only[Abs.put,hb,cond_true]
   rw[e] at h3 ⊢;exact hv _ _ _ h3,h.heap,h.defs⟩
theorem ax {P:Program}{o:Oper}{ρ:Operand→AV}{H H':List BL}{v:AV}(h:Dh P o ρ H v H'):Dh P o ρ H (norm v) H':=by
 intro r F S a w hs hH hρ hd;have:=h r F S a w hs hH hρ hd;unfold Oper.wpIn at *;refine⟨this.1,?_⟩;replace this:=this.2;generalize (o.semAt (W r).round a.eval).run P w=rr at *;cases rr with
 | ok n w' =>
  cases n<;>simp only[Oper.uponIn] at this ⊢
  case value u=>obtain⟨v1,H1,F1,⟨e1,e2⟩,h2,h3⟩:=this;subst e1;subst e2;exact⟨_,_,F1,⟨rfl,rfl⟩,h2.putW (Dz rfl),h3⟩
  case skip=>obtain⟨v1,H1,F1,⟨e1,e2⟩,h2,h3⟩:=this;subst e1;subst e2;exact⟨_,_,F1,⟨rfl,rfl⟩,h2.putW (Dz rfl),h3⟩
  case defer d=>obtain⟨v1,H1,F1,⟨e1,e2⟩,h2,h3⟩:=this;subst e1;subst e2;exact⟨_,_,F1,⟨rfl,rfl⟩,h2.putW (Dz rfl),h3⟩
  case enter f args =>
   refine⟨this.1,this.2.mono fun e w'' he=>?_⟩;cases e with
   | returned u=>obtain⟨v1,H1,F1,⟨e1,e2⟩,h2,h3⟩:=he;subst e1;subst e2;exact⟨_,_,F1,⟨rfl,rfl⟩,h2.putW (Dz rfl),h3⟩
   | panicked c=>obtain⟨_,_,_,_,h,_⟩:=he;exact h.elim
   | outgrown=>obtain⟨_,_,_,_,_,_,h,_⟩:=he;exact h.elim
  case row row args=>exact⟨this.1,this.2.mono fun u w'' he=>by obtain⟨v1,H1,F1,⟨e1,e2⟩,h2,h3⟩:=he;subst e1;subst e2;exact⟨_,_,F1,⟨rfl,rfl⟩,h2.putW (Dz rfl),h3⟩⟩
  case round l f tmps assign body =>
   refine⟨this.1,this.2.mono fun e w'' he=>?_⟩;cases e with
   | returned u=>obtain⟨v1,H1,F1,⟨e1,e2⟩,h2,h3⟩:=he;subst e1;subst e2;exact⟨_,_,F1,⟨rfl,rfl⟩,h2.putW (Dz rfl),h3⟩
   | panicked c=>obtain⟨_,_,_,_,h,_⟩:=he;exact h.elim
   | outgrown=>obtain⟨_,_,_,_,_,_,h,_⟩:=he;exact h.elim
 | halt x w' =>
  cases x<;>simp only[Oper.uponIn] at this ⊢
  case panic u=>obtain⟨_,_,_,_,h,_⟩:=this;exact h.elim
end Go.Abs
namespace Go.Eu
open Go.Abs
theorem Du (x:CM):At (Bo x) 0 [I x.kind]:=At.one
theorem De (x:CM):At (Bo x) 1 [.str x.name]:=At.cons (At.one)
theorem Ci (x:CM):At (Bo x) 2 [I x.params]:=At.cons (At.cons (At.one))
theorem FO (x:CM):At (Bo x) 3 (BU x.type):=At.cons (At.cons (At.cons (At.front)))
theorem Fa (x:CM):At (Bo x) 8 (BU x.value):=At.cons (At.cons (At.cons (At.app (BJ _) (At.front))))
theorem DY (x:CM):At (Bo x) 13 [I x.fixed]:=At.cons (At.cons (At.cons (At.app (BJ _) (At.app (BJ _) (At.one)))))
theorem CJ (x:CM):At (Bo x) 14 [.lst (x.ctors.map GK)]:=At.cons (At.cons (At.cons (At.app (BJ _) (At.app (BJ _) (At.cons (At.one))))))
theorem J7 (x:CM):At (Bo x) 15 (RL x.recs):=At.cons (At.cons (At.cons (At.app (BJ _) (At.app (BJ _) (At.cons (At.cons (At.front)))))))
theorem CI (x:CM):At (Bo x) 22 [.lst (x.funs.map Fe)]:=At.cons (At.cons (At.cons (At.app (BJ _) (At.app (BJ _) (At.cons (At.cons (At.app (Jl _) (At.one))))))))
theorem Qz (x:dq):At (RL x) 0 [I x.params]:=At.one
theorem TL (x:dq):At (RL x) 1 (BU x.type):=At.cons (At.front)
theorem Ra (x:dq):At (RL x) 6 [.lst (BK x.rules)]:=At.cons (At.app (BJ _) (At.one))
theorem Fy (x:Hz):At (GK x) 0 [.str x.name]:=At.one
theorem FP (x:Hz):At (GK x) 1 (BU x.type):=At.cons (At.all)
theorem IP (x:HB):At (Fe x) 0 [.str x.name]:=At.one
theorem IQ (x:HB):At (Fe x) 1 (BU x.type):=At.cons (At.front)
theorem Cb (x:HB):At (Fe x) 6 [I x.arity]:=At.cons (At.app (BJ _) (At.one))
theorem ET (x:HB):At (Fe x) 7 (DA x.tree):=At.cons (At.app (BJ _) (At.cons (At.all)))
theorem Gs (x:FE):At (DA x) 0 [I x.kind]:=by
 cases x;exact At.one
theorem FT (x:FE):At (DA x) 1 (BU x.body):=by
 cases x;exact At.cons (At.front)
theorem Dk (x:FE):At (DA x) 6 [I x.var]:=by
 cases x;exact At.cons (At.app (BJ _) (At.one))
theorem CU (x:FE):At (DA x) 7 [.lst (KY x.branches)]:=by
 cases x;exact At.cons (At.app (BJ _) (At.cons (At.one)))
theorem Gv (x:GF):At (GG x) 0 [.str x.ctor]:=by
 cases x;exact At.one
theorem Gu (x:GF):At (GG x) 1 [.bool x.absurd]:=by
 cases x;exact At.cons (At.one)
theorem Fz (x:GF):At (GG x) 2 (DA x.tree):=by
 cases x;exact At.cons (At.cons (At.all))
theorem DP (x:Fu):At (Dj x) 0 [I x.kind]:=At.one
theorem ER (x:Fu):At (Dj x) 1 [I x.decl]:=At.cons (At.one)
theorem Gt (x:Fu):At (Dj x) 2 [I x.item]:=At.cons (At.cons (At.one))
theorem Ip (x:Fu):At (Dj x) 3 [I x.params]:=At.cons (At.cons (At.cons (At.one)))
theorem JK (x:PD):At (Fq x) 0 [.lst (x.env.map Bo)]:=At.one
theorem U1 (x:PD):At (Fq x) 1 [.lst (x.own.map GD)]:=At.cons (At.one)
theorem Sv (x:PD):At (Fq x) 2 (Bo x.d):=At.cons (At.cons (At.all))
theorem DU (x:CM):At (Bo x) 15 [I x.recs.params]:=(J7 x).sub (Qz _) (by simp[Jl])
theorem Em (x:CM):At (Bo x) 16 (BU x.recs.type):=(J7 x).sub (TL _) (by simp[Jl])
theorem Cr (x:CM):At (Bo x) 21 [.lst (BK x.recs.rules)]:=(J7 x).sub (Ra _) (by simp[Jl])
theorem _root_.Go.Ah {α:Prop}(h:α:=by simp[Cp]):α:=h
theorem OF (x:PD):At (Fq x) 4 [I x.d.params]:=(Sv x).sub (Ci _) Ah
theorem HF.body:∀{t:FE},HF t→To t.body
 | .mk _ _ _ _,h=>h.1
theorem HF.bl:∀{t:FE},HF t→t.branches.length<2000000
 | .mk _ _ _ _,h=>h.2.1
theorem HF.bs:∀{t:FE},HF t→MG t.branches
 | .mk _ _ _ _,h=>h.2.2
theorem Qf.tr:∀{b:GF},Qf b→HF b.tree
 | .mk _ _ _,h=>h.2
theorem Qv:∀{t:FE}{i:Nat}{b:GF},t.branches[i]?=some b→KX b.tree<KX t
 | .mk _ _ _ l,i,.mk c a t',h=>by
  have:=Sm (l:=l) h;simp only[bh] at this;simp only[KX,GF.tree];omega
theorem N4:∀t:FE,1≤KX t
 | .mk _ _ _ _=>by simp only[KX];omega
section
variable {f:Nat→Option (Nat×Nat)}{k a i p:Int}{t:Tm}
theorem aS (h1:f 1=some (1,1)) (h3:f 3=some (3,1)) (h4:f 4=some (4,5)):FH f [.p (I 0),.p (I 0),.p (I 0),.p (I 0),.p (I 0),.p (I 0),.p (.str ⟨#[]⟩),.p .nils,.p .nils] [(1,.p (I a)),(3,.p (I p)),(4,TV t)]=some ((Dj ⟨0,a,0,p,t⟩).map .p):=by
 obtain⟨tk,ti,tn,tl,ts⟩:=t;simp[FH,h1,h3,h4,EP,splice,BU,Dj]
theorem X7 (h0:f 0=some (0,1)) (h1:f 1=some (1,1)) (h3:f 3=some (3,1)) (h4:f 4=some (4,5)):FH f [.p (I 0),.p (I 0),.p (I 0),.p (I 0),.p (I 0),.p (I 0),.p (.str ⟨#[]⟩),.p .nils,.p .nils] [(0,.p (I k)),(1,.p (I a)),(3,.p (I p)),(4,TV t)]=some ((Dj ⟨k,a,0,p,t⟩).map .p):=by
 obtain⟨tk,ti,tn,tl,ts⟩:=t;simp[FH,h0,h1,h3,h4,EP,splice,BU,Dj]
theorem M9 (h0:f 0=some (0,1)) (h1:f 1=some (1,1)) (h2:f 2=some (2,1)) (h3:f 3=some (3,1)) (h4:f 4=some (4,5)):FH f [.p (I 0),.p (I 0),.p (I 0),.p (I 0),.p (I 0),.p (I 0),.p (.str ⟨#[]⟩),.p .nils,.p .nils] [(0,.p (I k)),(1,.p (I a)),(2,.p (I i)),(3,.p (I p)),(4,TV t)]=some ((Dj ⟨k,a,i,p,t⟩).map .p):=by
 obtain⟨tk,ti,tn,tl,ts⟩:=t;simp[FH,h0,h1,h2,h3,h4,EP,splice,BU,Dj]
theorem mR {c0:AV}{r:List AV}{ds:List CM}{d:CM}(h0:f 0=some (0,1)) (h2:f 2=some (2,23)) (hr:r.length=23):FH f (c0:: .p .nils::r) [(0,.p (.lst (ds.map Bo))),(2,.agg ((Bo d).map .p))]=some (.p (.lst (ds.map Bo)):: .p .nils::(Bo d).map .p):=by
 simp[FH,h0,h2,EP,Cp,hr,OA,splice]
end
theorem bH (ds:List CM) (d:CM):norm (.agg (.p (.lst (ds.map Bo)):: .p .nils::(Bo d).map .p))= .agg ((Fq ⟨ds,[],d⟩).map .p):=by
 have h:((Bo d).map AV.p).map dn=(Bo d).map .p:=by
  refine cH ?_;obtain⟨k,n,p,⟨_,_,_,_,_⟩,⟨_,_,_,_,_⟩,f,c,⟨_,⟨_,_,_,_,_⟩,_⟩,u⟩:=d;simp[Bo,BU,RL]
 show AV.agg (dn _::dn _::((Bo d).map AV.p).map dn)=_;rw[h];rfl
theorem dc {P:Program}{dst:Option Tmp}{ty:TypeId}{pos:String}{aft:Array Edge}{g:Option (Nat×Bool)}{ρ:Operand→AV}{H:List BL}{T:TypeId}{parts:Array (Nat×Operand)}{lay:List (Nat×Nat)}{z:Value}{ds:List CM}{d:CM}(hT:fieldsOf P T=some lay) (hz:zeroOf P T=some z)
  (hc:FH (lay[·]?) (z.cells.toList.map GO) (parts.toList.map fun p=>(p.1,ρ p.2))=some (.p (.lst (ds.map Bo)):: .p .nils::(Bo d).map .p)):Dh P ⟨dst,.build T parts,ty,pos,aft,g⟩ ρ H (.agg ((Fq ⟨ds,[],d⟩).map .p)) H:=by
 rw[←bH];exact ax (CE hT hz hc)
theorem ZS {d:CM}(h:OD d) {i:Nat}{x:ByteArray}(hx:(Cw d)[i]?=some x):x.size<Dv:=by
 have hm:=List.mem_of_getElem? hx;have hr:=Yp d.name;have hn:=h.nm;unfold Cw at hm;simp only[Dv];split at hm
 ·simp at hm;subst hm;omega
 split at hm
 ·simp only[List.mem_append,List.mem_cons,List.mem_map,List.not_mem_nil,or_false] at hm;rcases hm with (rfl | ⟨c,hc,rfl⟩) | rfl
  ·omega
  ·have:=(h.cs c hc).nm;omega
  omega
 split at hm
 ·obtain⟨f,hf,rfl⟩:=List.mem_map.1 hm;have:=(h.fs f hf).nm;omega
 simp at hm
theorem ZH {d:CM}(h:d.kind=3):1≤(Cw d).length:=by
 unfold Cw;rw[if_neg Ar,if_pos h];simp
end Go.Eu
namespace Go.Eu
open Go.Abs Go.RowKit Go.ChangeShapes Go.ChangeAt Go.WideShapes
structure Zc (H:Type) where
 b:DataW H→Nat
 a:List (DataW H)→Nat
 str:∀s,b (.lit (.string s))=s.length+1
 slice:∀e s,b (.slice e s)=a e+a s+1
 agg:∀p,b (.agg p)=a p+1
 nil:a []=0
 cons:∀d r,a (d::r)=b d+a r
 pos:∀d,1≤b d
namespace Zc
variable {H:Type}(K:Zc H)
theorem mem {l:List (DataW H)}{i:Nat}{d:DataW H}(h:l[i]?=some d):K.b d≤K.a l:=by
 induction l generalizing i with
 | nil=>simp at h
 | cons x r ih =>
  rw[K.cons];cases i with
  | zero=>simp at h;subst h;omega
  | succ i=>have:=ih (by simpa using h);omega
theorem mem2 {l:List (DataW H)}{i:Nat}{d:DataW H}(h:l[i]?=some d):K.b d+l.length≤K.a l+1:=by
 have len:∀l:List (DataW H),l.length≤K.a l:=by
  intro l
  induction l with
  | nil=>simp
  | cons x r ih=>rw[K.cons];have:=K.pos x;simp only[List.length_cons];omega
 induction l generalizing i with
 | nil=>simp at h
 | cons x r ih =>
  rw[K.cons];simp only[List.length_cons];cases i with
  | zero=>simp at h;subst h;have:=len r;omega
  | succ i=>have:=ih (by simpa using h);have:=K.pos x;omega
theorem drop1 {l:List (DataW H)}{i:Nat}{d:DataW H}(h:l[i]?=some d):K.a (l.drop i)=K.b d+K.a (l.drop (i+1)):=by
 induction l generalizing i with
 | nil=>simp at h
 | cons x r ih =>
  cases i with
  | zero=>simp at h;subst h;simp[K.cons]
  | succ i=>simpa using ih (by simpa using h)
end Zc
def Tq {α:Type}(M:α→Nat):List α→Nat
 | []=>0
 | a::l=>M a+Tq M l
section
variable {H:Type}{enc:TypeId×Value→H}{P:Program}{w:World}{base:Nat}{sp:Nat→Bool}{hd:Bool}{n:Nat}(K:Zc H)
theorem FG {α:Type}{e t C:Nat}(ut:P.underlying t=some (.slice e)) (hC:P.cellsOf e=C) (hC1:1≤C) (f:α→List PV) (Q:α→Prop) (M:α→Nat) {B:Nat}
  (he:∀m cs y,m<n→DataW.trod enc P w base sp hd m e cs=some y→K.b y.1≤B→∃a,CH w (f a) cs∧Q a∧M a≤K.b y.1) {cs:List Value} {y:DataW H×List MemPlace} (h:DataW.trod enc P w base sp hd n t cs=some y) (hB:K.b y.1≤B) :
  ∃l:List α,l.length≤K.b y.1∧Tq M l+1≤K.b y.1∧(∀a∈l,Q a)∧∃v,cs=[v]∧CK F0 w (.lst (l.map f)) v:=by
 rcases DataW.trod_slice ut h with ⟨rfl,rfl⟩ | ⟨a,len,cap,elems,rest,m,rfl,rfl,rfl,hb,hl,hc,hel,hget,_,_⟩
 ·exact⟨[],by simp,by have:=K.pos DataW.nil;simpa [Tq] using this,fun a ha=>by simp at ha,_,rfl,by simp only[CK];exact .inl ⟨rfl,none,0,rfl⟩⟩
 rw[hC] at hget;simp only[K.slice] at hB ⊢;have hml:maxLen<wide:=by decide
 rcases Nat.eq_zero_or_pos len with h0 | h0
 ·subst h0;exact⟨[],by simp,by simp[Tq],fun a ha=>by simp at ha,_,rfl,by simp only[CK];exact .inl ⟨rfl,some a,cap,rfl⟩⟩
 have hone:∀i,i<len→∃ci y,w.cells? base (a.add (i*C)) C=some ci∧DataW.trod enc P w base sp hd m e ci=some y∧(elems.map (·.1))[i]?=some y.1:=fun i hi=>by
  have:=hget i hi;rw[List.getElem?_eq_getElem Ar] at this;obtain⟨ci,h1,h2⟩:=Option.bind_eq_some_iff.1 this;exact⟨ci,_,h1,h2,by simp[List.getElem?_eq_getElem (show i<elems.length by omega)]⟩
 obtain⟨c0,y0,hc0,_⟩:=hone 0 h0;obtain⟨hl0,hg0⟩:=Lf hc0;have hcell:∃v,w.cell? a=some v:=by
  have:=hg0 0 Ar;rw[Nat.zero_mul,Addr.add,if_pos rfl,Addr.add,if_pos rfl] at this;rw[List.getElem?_eq_getElem Ar] at this;exact⟨_,this⟩
 obtain⟨v0,hv0⟩:=hcell;obtain⟨blk,off,spot⟩:=a;have hspot:spot=none:=by
  unfold World.cell? at hv0;simp only at hv0;split at hv0
  ·cases spot with
   | none=>rfl
   | some s=>simp at hv0
  cases hv0
 subst hspot;have hblk:blk<w.heap.size:=by
  unfold World.cell? at hv0;simp only at hv0;split at hv0
  ·rename_i hh;exact(Array.getElem?_eq_some_iff.1 hh).1
  cases hv0
 have hadd:∀k,(⟨blk,off,none⟩:Addr).add k=⟨blk,off+k,none⟩:=fun k=>by
  unfold Addr.add;split
  ·rename_i e;subst e;rfl
  rfl
 have hadd2:∀o k,(⟨blk,o,none⟩:Addr).add k=⟨blk,o+k,none⟩:=fun o k=>by
  unfold Addr.add;split
  ·rename_i e;subst e;rfl
  rfl
 have hrows:∀k,k≤len→∃l:List α,l.length=k∧k≤K.a ((elems.map (·.1)).drop (len - k))∧Tq M l≤K.a ((elems.map (·.1)).drop (len - k))∧(∀x∈l,Q x)∧B2 F0 w blk C (off+(len - k)*C) (l.map f):=by
  intro k
  induction k with
  | zero=>exact fun _=>⟨[],rfl,by omega,by simp[Tq],fun a ha=>by simp at ha,by simp[B2]⟩
  | succ k ih =>
   intro hk;obtain⟨l,h1,h5,h6,h2,h3⟩:=ih Ar;obtain⟨ci,y,hci,ht,hy⟩:=hone (len - (k+1)) Ar;obtain⟨g1,g2⟩:=Lf hci;have hd1:=K.drop1 hy;rw[show len - (k+1)+1=len - k by omega] at hd1;obtain⟨x,hx,hq,hM⟩:=he m ci y Ar ht (by have:=K.mem hy;omega);have hp:=K.pos y.1;refine⟨x::l,by simp[h1],by omega,by rw[Tq];omega,fun z hz=>?_,?_⟩
   ·rcases List.mem_cons.1 hz with rfl | hz
    ·exact hq
    exact h2 z hz
   refine⟨by rw[hx.length,g1],OL _ ci _ hx fun j hj=>?_,?_⟩
   ·have:=g2 j Ar;rw[hadd,hadd2] at this;exact this
   rw[show off+(len - (k+1))*C+C=off+(len - k)*C by rw[Nat.add_assoc,←Nat.succ_mul];congr 2;omega];exact h3
 obtain⟨l,h1,h5,h6,h2,h3⟩:=hrows len (Nat.le_refl _);rw[Nat.sub_self,List.drop_zero] at h5 h6;rw[Nat.sub_self,Nat.zero_mul,Nat.add_zero] at h3;refine⟨l,by omega,by omega,h2,_,rfl,?_⟩;simp only[CK];exact .inr ⟨blk,off,cap,C,by rw[List.length_map,h1],fun h=>h,hblk,by rw[List.length_map];omega,h3⟩
theorem Hi {t:TypeId}{l:List (Nat×Nat)}(hf:L2 P t=some l) {cs:List Value}{y:DataW H×List MemPlace}(h:DataW.trod enc P w base sp hd n t cs=some y) :
  ∃m,n=m+1∧cs.length=P.cellsOf t∧∀(i:Nat) (p:Nat×Nat),l[i]?=some p→∃z,DataW.trod enc P w base sp hd m p.1 ((cs.drop p.2).take (P.cellsOf p.1))=some z∧K.b z.1+l.length≤K.b y.1:=by
 unfold L2 at hf;split at hf
 ·rename_i fs hu;injection hf with hf;subst hf;obtain⟨xs,m,h1,rfl,h2,h3,h4⟩:=DataW.trod_struct hu h;refine⟨m,h1,h2,fun i p hp=>?_⟩;rw[List.getElem?_map] at hp;obtain⟨fl,hfl,rfl⟩:=Option.map_eq_some_iff.1 hp;have hi:fs[i]?=some fl:=by simpa using hfl
  have:=h4 i fl hi;have hlt:i<xs.length:=by rw[h3];exact(Array.getElem?_eq_some_iff.1 hi).1
  rw[List.getElem?_eq_getElem hlt] at this;refine⟨_,this,?_⟩;rw[K.agg];have:=K.mem2 (l:=xs.map (·.1)) (i:=i) (d:=xs[i].1) (by simp[List.getElem?_eq_getElem hlt]);simp only[List.length_map,Array.length_toList] at this ⊢;omega
 cases hf
theorem CH.cut {a b:List PV}{cs:List Value}{o k:Nat}(h:CH w a ((cs.drop o).take k)) (h':CH w b (cs.drop (o+k))):CH w (a++b) (cs.drop o):=by
 rw[←List.take_append_drop k (cs.drop o),List.drop_drop];exact CH.append h h'
theorem CH.end {cs:List Value}{k:Nat}(h:cs.length=k):CH w [] (cs.drop k):=by
 rw[List.drop_eq_nil_of_le Ar];rfl
end
end Go.Eu
namespace Go.Eu
open Go.Abs Go.RowKit Go.ChangeShapes Go.ChangeAt Go.WideShapes
theorem O8:∀l:List Tm,Tq (fun t=>5*size t) l=5*Bg l
 | []=>rfl
 | t::l=>by rw[Tq,Bg,O8 l];omega
structure Tz (P:Program) (tI tB tS tT tTs tC tCs tR tTr tBr tBrs tF tFs tD tDs:TypeId):Prop where
 uB:P.underlying tB=some .bool
 uCs:P.underlying tCs=some (.slice tC)
 uBrs:P.underlying tBrs=some (.slice tBr)
 uFs:P.underlying tFs=some (.slice tF)
 uDs:P.underlying tDs=some (.slice tD)
 fC:L2 P tC=some [(tS,0),(tT,1)]
 fR:L2 P tR=some [(tI,0),(tT,1),(tTs,6)]
 fTr:L2 P tTr=some [(tI,0),(tT,1),(tI,6),(tBrs,7)]
 fBr:L2 P tBr=some [(tS,0),(tB,1),(tTr,2)]
 fF:L2 P tF=some [(tS,0),(tT,1),(tI,6),(tTr,7)]
 fD:L2 P tD=some [(tI,0),(tS,1),(tI,2),(tT,3),(tT,8),(tI,13),(tCs,14),(tR,15),(tFs,22)]
 cB:P.cellsOf tB=1
 cCs:P.cellsOf tCs=1
 cBrs:P.cellsOf tBrs=1
 cFs:P.cellsOf tFs=1
 cDs:P.cellsOf tDs=1
 cC:P.cellsOf tC=6
 cR:P.cellsOf tR=7
 cTr:P.cellsOf tTr=8
 cBr:P.cellsOf tBr=10
 cF:P.cellsOf tF=15
 cD:P.cellsOf tD=23
section
variable {H:Type}{enc:TypeId×Value→H}{P:Program}{w:World}{base:Nat}{sp:Nat→Bool}{hd:Bool}{tI tB tS tV tVs tL tLs tT tTs tC tCs tR tTr tBr tBrs tF tFs tD tDs:TypeId}(K:Zc H)
theorem GJ (E:GV P tI tS tV tVs tL tLs tT tTs) {n:Nat}{cs:List Value}{y:DataW H×List MemPlace}(h:DataW.trod enc P w base sp hd n tI cs=some y):∃a:Int,CH w [I a] cs∧JJ a:=by
 obtain⟨a,rfl,_,fa⟩:=DataW.trod_int E.uI h;exact⟨a,CH.one (by simp[CK]),OK fa⟩
theorem Kz (E:GV P tI tS tV tVs tL tLs tT tTs) {n:Nat}{cs:List Value}{y:DataW H×List MemPlace}(h:DataW.trod enc P w base sp hd n tS cs=some y):∃s:ByteArray,CH w [.str s] cs∧s.size+1≤K.b y.1:=by
 obtain⟨s,rfl,rfl,_⟩:=DataW.trod_string E.uS h;refine⟨s,CH.one (by simp[CK]),?_⟩;rw[K.str];exact Nat.le_refl _
theorem ZB (D:Tz P tI tB tS tT tTs tC tCs tR tTr tBr tBrs tF tFs tD tDs) {n:Nat}{cs:List Value}{y:DataW H×List MemPlace}(h:DataW.trod enc P w base sp hd n tB cs=some y):∃b:Bool,CH w [.bool b] cs:=by
 obtain⟨b,rfl,_⟩:=DataW.trod_bool D.uB h;exact⟨b,CH.one (by simp[CK])⟩
theorem eS (E:GV P tI tS tV tVs tL tLs tT tTs) {n:Nat}{cs:List Value}{y:DataW H×List MemPlace}(h:DataW.trod enc P w base sp hd n tL cs=some y) (hB:K.b y.1≤1048576):∃v:Cf,CH w (CD v) cs∧RQ v:=by
 obtain⟨m,rfl,hl,hg⟩:=Hi K E.fL h;rw[E.cL] at hl;obtain⟨z0,h0,b0⟩:=hg 0 _ rfl;obtain⟨z1,h1,b1⟩:=hg 1 _ rfl;simp only[E.cI,E.cVs] at h0 h1;obtain⟨a,ha,ra⟩:=GJ E h0;obtain⟨l,g1,_,g2,v,hv,g3⟩:=FG K E.uVs E.cV Aq Gm (fun v=>JJ v.index∧JJ v.plus) (fun _=>1) (B:=1048576) (fun m cs y _ h _=>by obtain⟨v,q1,q2⟩:=dI E h;exact⟨v,q1,q2,K.pos _⟩) h1 Ar;refine⟨⟨a,l⟩,?_,⟨by simp only[Dv];omega,ra,g2⟩⟩;have:=CH.cut (o:=0) ha (CH.cut (o:=1) (a:=[.lst (l.map Gm)]) (k:=1) (by rw[hv];exact CH.one g3) (CH.end hl));simpa [CD] using this
theorem gh (E:GV P tI tS tV tVs tL tLs tT tTs):∀(n:Nat) (cs:List Value) (y:DataW H×List MemPlace),DataW.trod enc P w base sp hd n tT cs=some y→K.b y.1≤1048576→∃t:Tm,CH w (BU t) cs∧Nd t∧5*size t≤K.b y.1:=by
 intro n
 induction n using Nat.strongRecOn with
 | ind n ih =>
  intro cs y h hB;obtain⟨m,rfl,hl,hg⟩:=Hi K E.fT h;rw[E.cT] at hl;obtain⟨z0,h0,b0⟩:=hg 0 _ rfl;obtain⟨z1,h1,b1⟩:=hg 1 _ rfl;obtain⟨z2,h2,b2⟩:=hg 2 _ rfl;obtain⟨z3,h3,b3⟩:=hg 3 _ rfl;obtain⟨z4,h4,b4⟩:=hg 4 _ rfl;simp only[E.cI,E.cS,E.cLs,E.cTs] at h0 h1 h2 h3 h4;obtain⟨a,ha,ra⟩:=GJ E h0;obtain⟨b,hb,rb⟩:=GJ E h1;obtain⟨s,hs,ws⟩:=Kz K E h2;obtain⟨l,g1,_,g2,v,hv,g3⟩:=FG K E.uLs E.cL Aq CD RQ (fun _=>1) (B:=1048576) (fun m cs y _ h hB=>by obtain⟨v,q1,q2⟩:=eS K E h hB;exact⟨v,q1,q2,K.pos _⟩) h3 Ar;obtain⟨ks,k1,k4,k2,u,hu,k3⟩:=FG K E.uTs E.cT Aq BU Nd (fun t=>5*size t) (B:=1048576) (fun m' cs y hm h hB=>ih m' Ar cs y h hB) h4 Ar;refine⟨.mk a b s l ks,?_,⟨by simp only[Dv];omega,by simp only[Dv];omega,g2,by simp only[Dv];omega,Wr k2,ra,rb⟩,by rw[O8] at k4;simp only[List.length_cons,List.length_nil] at b4;simp only[size];omega⟩;have:=CH.cut (o:=0) ha (CH.cut (o:=1) hb (CH.cut (o:=2) hs (CH.cut (o:=3) (a:=[.lst (l.map CD)]) (k:=1) (by rw[hv];exact CH.one g3) (CH.cut (o:=4) (a:=[.lst (BK ks)]) (k:=1) (by rw[hu,Ea];exact CH.one k3) (CH.end hl)))));simpa [BU] using this
theorem Ie (E:GV P tI tS tV tVs tL tLs tT tTs) {n:Nat}{cs:List Value}{y:DataW H×List MemPlace}(h:DataW.trod enc P w base sp hd n tT cs=some y) (hB:K.b y.1≤1048576):∃t:Tm,CH w (BU t) cs∧To t:=by
 obtain⟨t,h1,h2,h3⟩:=gh K E n cs y h hB;exact⟨t,h1,h2,by omega⟩
theorem ck (E:GV P tI tS tV tVs tL tLs tT tTs) {n:Nat}{cs:List Value}{y:DataW H×List MemPlace}(h:DataW.trod enc P w base sp hd n tTs cs=some y) (hB:K.b y.1≤1048576):∃l:List Tm,l.length<2000000∧(∀t∈l,To t)∧CH w [.lst (BK l)] cs:=by
 obtain⟨l,g1,_,g2,v,rfl,g3⟩:=FG K E.uTs E.cT Aq BU To (fun _=>1) (B:=1048576) (fun m cs y _ h hB=>by obtain⟨v,q1,q2⟩:=Ie K E h hB;exact⟨v,q1,q2,K.pos _⟩) h hB;exact⟨l,by omega,g2,CH.one (by rw[Ea];exact g3)⟩
variable (D:Tz P tI tB tS tT tTs tC tCs tR tTr tBr tBrs tF tFs tD tDs) (E:GV P tI tS tV tVs tL tLs tT tTs)
include D E
theorem dv {n:Nat}{cs:List Value}{y:DataW H×List MemPlace}(h:DataW.trod enc P w base sp hd n tC cs=some y) (hB:K.b y.1≤1048576):∃c:Hz,CH w (GK c) cs∧dJ c:=by
 obtain⟨m,rfl,hl,hg⟩:=Hi K D.fC h;rw[D.cC] at hl;obtain⟨z0,h0,b0⟩:=hg 0 _ rfl;obtain⟨z1,h1,b1⟩:=hg 1 _ rfl;simp only[E.cS,E.cT] at h0 h1;obtain⟨s,hs,ws⟩:=Kz K E h0;obtain⟨t,ht,wt⟩:=Ie K E h1 Ar;refine⟨⟨s,t⟩,?_,⟨by simp only;omega,wt⟩⟩;have:=CH.cut (o:=0) hs (CH.cut (o:=1) ht (CH.end hl));simpa [GK] using this
theorem fp {n:Nat}{cs:List Value}{y:DataW H×List MemPlace}(h:DataW.trod enc P w base sp hd n tR cs=some y) (hB:K.b y.1≤1048576):∃r:dq,CH w (RL r) cs∧To r.type∧r.rules.length<2000000∧∀t∈r.rules,To t:=by
 obtain⟨m,rfl,hl,hg⟩:=Hi K D.fR h;rw[D.cR] at hl;obtain⟨z0,h0,b0⟩:=hg 0 _ rfl;obtain⟨z1,h1,b1⟩:=hg 1 _ rfl;obtain⟨z2,h2,b2⟩:=hg 2 _ rfl;simp only[E.cI,E.cT,E.cTs] at h0 h1 h2;obtain⟨a,ha,_⟩:=GJ E h0;obtain⟨t,ht,wt⟩:=Ie K E h1 Ar;obtain⟨l,l1,l2,l3⟩:=ck K E h2 Ar;refine⟨⟨a,t,l⟩,?_,wt,l1,l2⟩;have:=CH.cut (o:=0) ha (CH.cut (o:=1) ht (CH.cut (o:=6) l3 (CH.end hl)));simpa [RL] using this
theorem cg:∀(n:Nat) (cs:List Value) (y:DataW H×List MemPlace),DataW.trod enc P w base sp hd n tTr cs=some y→K.b y.1≤1048576→∃t:FE,CH w (DA t) cs∧HF t:=by
 intro n
 induction n using Nat.strongRecOn with
 | ind n ih =>
  intro cs y h hB;obtain⟨m,rfl,hl,hg⟩:=Hi K D.fTr h;rw[D.cTr] at hl;obtain⟨z0,h0,b0⟩:=hg 0 _ rfl;obtain⟨z1,h1,b1⟩:=hg 1 _ rfl;obtain⟨z2,h2,b2⟩:=hg 2 _ rfl;obtain⟨z3,h3,b3⟩:=hg 3 _ rfl;simp only[E.cI,E.cT,D.cBrs] at h0 h1 h2 h3;obtain⟨a,ha,_⟩:=GJ E h0;obtain⟨t,ht,wt⟩:=Ie K E h1 Ar;obtain⟨b,hb,_⟩:=GJ E h2;obtain⟨l,g1,_,g2,v,hv,g3⟩:=FG K D.uBrs D.cBr Aq GG Qf (fun _=>1) (B:=1048576) (fun m' cs y hm h hB=>by
   obtain⟨m2,rfl,hl,hg⟩:=Hi K D.fBr h;rw[D.cBr] at hl;obtain⟨z0,h0,b0⟩:=hg 0 _ rfl;obtain⟨z1,h1,b1⟩:=hg 1 _ rfl;obtain⟨z2,h2,b2⟩:=hg 2 _ rfl;simp only[E.cS,D.cB,D.cTr] at h0 h1 h2;obtain⟨s,hs,ws⟩:=Kz K E h0;obtain⟨b,hb⟩:=ZB D h1;obtain⟨r,hr,wr⟩:=ih m2 Ar _ _ h2 Ar;refine⟨.mk s b r,?_,⟨by omega,wr⟩,K.pos _⟩;have:=CH.cut (o:=0) hs (CH.cut (o:=1) hb (CH.cut (o:=2) hr (CH.end hl)));simpa [GG] using this) h3 Ar
  have hbs:∀{l:List GF},(∀b∈l,Qf b)→MG l:=by
   intro l
   induction l with
   | nil=>exact fun _=>trivial
   | cons b l ih2=>exact fun h=>⟨h b As,ih2 fun c hc=>h c (by simp[hc])⟩
  refine⟨.mk a t b l,?_,⟨wt,by omega,hbs g2⟩⟩;have:=CH.cut (o:=0) ha (CH.cut (o:=1) ht (CH.cut (o:=6) hb (CH.cut (o:=7) (a:=[.lst (KY l)]) (k:=1) (by rw[hv,Ly];exact CH.one g3) (CH.end hl))));simpa [DA] using this
theorem gM {n:Nat}{cs:List Value}{y:DataW H×List MemPlace}(h:DataW.trod enc P w base sp hd n tF cs=some y) (hB:K.b y.1≤1048576):∃f:HB,CH w (Fe f) cs∧dF f:=by
 obtain⟨m,rfl,hl,hg⟩:=Hi K D.fF h;rw[D.cF] at hl;obtain⟨z0,h0,b0⟩:=hg 0 _ rfl;obtain⟨z1,h1,b1⟩:=hg 1 _ rfl;obtain⟨z2,h2,b2⟩:=hg 2 _ rfl;obtain⟨z3,h3,b3⟩:=hg 3 _ rfl;simp only[E.cS,E.cT,E.cI,D.cTr] at h0 h1 h2 h3;obtain⟨s,hs,ws⟩:=Kz K E h0;obtain⟨t,ht,wt⟩:=Ie K E h1 Ar;obtain⟨a,ha,_⟩:=GJ E h2;obtain⟨r,hr,wr⟩:=cg K D E _ _ _ h3 Ar;refine⟨⟨s,t,a,r⟩,?_,⟨by simp only;omega,wt,wr⟩⟩;have:=CH.cut (o:=0) hs (CH.cut (o:=1) ht (CH.cut (o:=6) ha (CH.cut (o:=7) hr (CH.end hl))));simpa [Fe] using this
theorem fH {n:Nat}{cs:List Value}{y:DataW H×List MemPlace}(h:DataW.trod enc P w base sp hd n tD cs=some y) (hB:K.b y.1≤1048576):∃d:CM,CH w (Bo d) cs∧OD d:=by
 obtain⟨m,rfl,hl,hg⟩:=Hi K D.fD h;rw[D.cD] at hl;obtain⟨z0,h0,b0⟩:=hg 0 _ rfl;obtain⟨z1,h1,b1⟩:=hg 1 _ rfl;obtain⟨z2,h2,b2⟩:=hg 2 _ rfl;obtain⟨z3,h3,b3⟩:=hg 3 _ rfl;obtain⟨z4,h4,b4⟩:=hg 4 _ rfl;obtain⟨z5,h5,b5⟩:=hg 5 _ rfl;obtain⟨z6,h6,b6⟩:=hg 6 _ rfl;obtain⟨z7,h7,b7⟩:=hg 7 _ rfl;obtain⟨z8,h8,b8⟩:=hg 8 _ rfl;simp only[E.cS,E.cT,E.cI,D.cCs,D.cR,D.cFs] at h0 h1 h2 h3 h4 h5 h6 h7 h8;obtain⟨a,ha,_⟩:=GJ E h0;obtain⟨s,hs,ws⟩:=Kz K E h1;obtain⟨p,hp,_⟩:=GJ E h2;obtain⟨t,ht,wt⟩:=Ie K E h3 Ar;obtain⟨u,hu,wu⟩:=Ie K E h4 Ar;obtain⟨f,hf,_⟩:=GJ E h5;obtain⟨cl,c1,_,c2,cv,hcv,c3⟩:=FG K D.uCs D.cC Aq GK dJ (fun _=>1) (B:=1048576) (fun m cs y _ h hB=>by obtain⟨v,q1,q2⟩:=dv K D E h hB;exact⟨v,q1,q2,K.pos _⟩) h6 Ar;obtain⟨r,hr,r1,r2,r3⟩:=fp K D E h7 Ar;obtain⟨fl,f1,_,f2,fv,hfv,f3⟩:=FG K D.uFs D.cF Aq Fe dF (fun _=>1) (B:=1048576) (fun m cs y _ h hB=>by obtain⟨v,q1,q2⟩:=gM K D E h hB;exact⟨v,q1,q2,K.pos _⟩) h8 Ar;refine⟨⟨a,s,p,t,u,f,cl,r,fl⟩,?_,⟨by simp only;omega,wt,wu,by simp only;omega,c2,r1,r2,r3,by simp only;omega,f2⟩⟩;have:=CH.cut (o:=0) ha (CH.cut (o:=1) hs (CH.cut (o:=2) hp (CH.cut (o:=3) ht (CH.cut (o:=8) hu (CH.cut (o:=13) hf (CH.cut (o:=14) (a:=[.lst (cl.map GK)]) (k:=1) (by rw[hcv];exact CH.one c3) (CH.cut (o:=15) hr (CH.cut (o:=22) (a:=[.lst (fl.map Fe)]) (k:=1) (by rw[hfv];exact CH.one f3) (CH.end hl)))))))));simpa [Bo] using this
theorem jD {b2:Nat}{r:Reach}{v:Value}{d:DataW H}{ps:List MemPlace}(hk:Value.okWide P w r b2 tDs v) (h:DataW.Trod enc P w base sp hd tDs v d ps) (hB:K.b d≤1048576):∃l:List CM,Ho l∧CF F0 w (.p (.lst (l.map Bo))) v:=by
 obtain⟨n,h⟩:=h;obtain⟨l,g1,_,g2,u,hu,g3⟩:=FG K D.uDs D.cD Aq Bo OD (fun _=>1) (B:=1048576) (fun m cs y _ h hB=>by obtain⟨v,q1,q2⟩:=fH K D E h hB;exact⟨v,q1,q2,K.pos _⟩) h hB;have:=Yy D.uDs hk hu;subst this;have g1':l.length≤K.b d:=g1;exact⟨l,⟨by omega,g2⟩,by simp only[CF];exact g3⟩
end
end Go.Eu
namespace Go.Proofs.YtboammbpdaoojaaGreat
open Go.Eu Go.Lib Go.ChangeShapes Go.WideShapes Go.ChangeAt Go.RowKit
theorem own:ownKnob Tryz.prog.godebug=none:=by kernel_rfl
theorem laidOut:laidOutB Tryz.prog=true:=by kernel_rfl
theorem qF:GV Tryz.prog 3 9 162 113 115 23 26 24:=⟨by kernel_rfl,by kernel_rfl,by kernel_rfl,by kernel_rfl,by kernel_rfl,by kernel_rfl,by kernel_rfl,by kernel_rfl,by kernel_rfl,by kernel_rfl,by kernel_rfl,by kernel_rfl,by kernel_rfl,by kernel_rfl,by kernel_rfl,by kernel_rfl⟩
theorem qL:Tz Tryz.prog 3 4 9 26 24 117 62 64 69 120 67 71 61 66 22:=⟨by kernel_rfl,by kernel_rfl,by kernel_rfl,by kernel_rfl,by kernel_rfl,by kernel_rfl,by kernel_rfl,by kernel_rfl,by kernel_rfl,by kernel_rfl,by kernel_rfl,by kernel_rfl,by kernel_rfl,by kernel_rfl,by kernel_rfl,by kernel_rfl,by kernel_rfl,by kernel_rfl,by kernel_rfl,by kernel_rfl,by kernel_rfl,by kernel_rfl⟩
noncomputable def blk (H:Type):Zc H where
 b:=Rows.uptoBulk
 a:=Rows.uptoBulkAll
 str:=fun s=>by simp[Rows.uptoBulk]
 slice:=fun e s=>by simp[Rows.uptoBulk]
 agg:=fun p=>by simp[Rows.uptoBulk]
 nil:=by simp[Rows.uptoBulkAll]
 cons:=fun d r=>by simp[Rows.uptoBulkAll]
 pos:=fun d=>by
  cases d with
  | lit l=>cases l<;>simp[Rows.uptoBulk]
  | _=>simp[Rows.uptoBulk]
theorem gO {H:Type}{ds:List (DataW H)}(h:Rows.uptoSmall H ds=true) {i:Nat}{d:DataW H}(hd:ds[i]?=some d):(blk H).b d≤1048576:=by
 have h1:=(blk H).mem hd;have h2:(blk H).a ds≤1048576:=of_decide_eq_true h;omega
noncomputable def Lm (os:Os):World:=World.holding Tryz.prog os ⟨#[],#[],[]⟩
theorem _root_.Go.An {α:Prop}(h:α:=by kernel_rfl):α:=h
theorem au (os:Os) (args:Array Value):laidMet Tryz.prog [] ((Lm os).forCall (fun _ _=>0) ⟨#[],args,[]⟩).memory :=
 (LaidIn.of_run [] 8 An An An An:LaidIn Tryz.prog ((Lm os).forCall (fun _ _=>0) ⟨#[],args,[]⟩).memory [] []).met
end Go.Proofs.YtboammbpdaoojaaGreat
namespace Go.Proofs.YtboammbpdaoojaaGreat
open Go.Abs
theorem Iv:FV Tryz.prog 22=some (66,23,360):=by kernel_rfl
theorem Fb:FV Tryz.prog 23=some (115,2,32):=by kernel_rfl
theorem Br:FV Tryz.prog 24=some (26,5,80):=by kernel_rfl
theorem G9:FV Tryz.prog 61=some (71,15,224):=by kernel_rfl
theorem Hu:FV Tryz.prog 62=some (117,6,96):=by kernel_rfl
theorem Kg:FV Tryz.prog 67=some (120,10,144):=by kernel_rfl
theorem GS:FV Tryz.prog 104=some (9,1,16):=by kernel_rfl
theorem EA:FV Tryz.prog 113=some (162,2,16):=by kernel_rfl
theorem HE:FV Tryz.prog 137=some (3,1,8):=by kernel_rfl
theorem Q8:FV Tryz.prog 190=some (192,2,32):=by kernel_rfl
theorem qd:BR Tryz.prog 6=true:=by kernel_rfl
theorem oO:BR Tryz.prog 10=true:=by kernel_rfl
theorem oH:BR Tryz.prog 11=true:=by kernel_rfl
theorem oC:BR Tryz.prog 12=true:=by kernel_rfl
theorem oL:BR Tryz.prog 15=true:=by kernel_rfl
theorem oA:BR Tryz.prog 16=true:=by kernel_rfl
theorem oZ:BR Tryz.prog 18=true:=by kernel_rfl
theorem lW:BR Tryz.prog 20=true:=by kernel_rfl
theorem nt:BR Tryz.prog 21=true:=by kernel_rfl
theorem oI:BR Tryz.prog 22=true:=by kernel_rfl
theorem oV:BR Tryz.prog 24=true:=by kernel_rfl
theorem pE:BR Tryz.prog 29=true:=by kernel_rfl
theorem pZ:BR Tryz.prog 30=true:=by kernel_rfl
theorem oR:BR Tryz.prog 31=true:=by kernel_rfl
theorem ou:BR Tryz.prog 32=true:=by kernel_rfl
theorem oN:BR Tryz.prog 33=true:=by kernel_rfl
theorem pq:BR Tryz.prog 34=true:=by kernel_rfl
theorem oK:BR Tryz.prog 35=true:=by kernel_rfl
theorem ox:BR Tryz.prog 36=true:=by kernel_rfl
theorem ly:BR Tryz.prog 37=true:=by kernel_rfl
theorem pT:BR Tryz.prog 38=true:=by kernel_rfl
theorem ny:BR Tryz.prog 39=true:=by kernel_rfl
theorem oS:BR Tryz.prog 42=true:=by kernel_rfl
theorem oB:BR Tryz.prog 43=true:=by kernel_rfl
theorem oP:BR Tryz.prog 44=true:=by kernel_rfl
theorem nk:BR Tryz.prog 45=true:=by kernel_rfl
theorem oE:BR Tryz.prog 46=true:=by kernel_rfl
theorem pc:BR Tryz.prog 52=true:=by kernel_rfl
theorem oQ:BR Tryz.prog 53=true:=by kernel_rfl
theorem mL:BR Tryz.prog 55=true:=by kernel_rfl
theorem nq:BR Tryz.prog 56=true:=by kernel_rfl
theorem pj:BR Tryz.prog 57=true:=by kernel_rfl
theorem pV:BR Tryz.prog 58=true:=by kernel_rfl
theorem pX:BR Tryz.prog 61=true:=by kernel_rfl
theorem nz:BR Tryz.prog 62=true:=by kernel_rfl
theorem pA:BR Tryz.prog 64=true:=by kernel_rfl
theorem pt:BR Tryz.prog 65=true:=by kernel_rfl
theorem oT:BR Tryz.prog 66=true:=by kernel_rfl
theorem pH:BR Tryz.prog 67=true:=by kernel_rfl
theorem ow:BR Tryz.prog 68=true:=by kernel_rfl
theorem oY:BR Tryz.prog 69=true:=by kernel_rfl
theorem oJ:BR Tryz.prog 70=true:=by kernel_rfl
theorem kp:BR Tryz.prog 71=true:=by kernel_rfl
theorem od:BR Tryz.prog 72=true:=by kernel_rfl
theorem pN:BR Tryz.prog 73=true:=by kernel_rfl
theorem pd:BR Tryz.prog 74=true:=by kernel_rfl
theorem nj:BR Tryz.prog 75=true:=by kernel_rfl
theorem nv:BR Tryz.prog 76=true:=by kernel_rfl
theorem ph:BR Tryz.prog 77=true:=by kernel_rfl
theorem nu:BR Tryz.prog 80=true:=by kernel_rfl
theorem pv:BR Tryz.prog 81=true:=by kernel_rfl
theorem pF:BR Tryz.prog 82=true:=by kernel_rfl
theorem ni:BR Tryz.prog 85=true:=by kernel_rfl
theorem np:BR Tryz.prog 89=true:=by kernel_rfl
theorem pY:BR Tryz.prog 90=true:=by kernel_rfl
theorem oF:BR Tryz.prog 91=true:=by kernel_rfl
theorem n4:BR Tryz.prog 92=true:=by kernel_rfl
theorem pU:BR Tryz.prog 93=true:=by kernel_rfl
theorem pe:BR Tryz.prog 95=true:=by kernel_rfl
theorem nr:BR Tryz.prog 96=true:=by kernel_rfl
theorem oq:BR Tryz.prog 97=true:=by kernel_rfl
theorem pG:BR Tryz.prog 98=true:=by kernel_rfl
theorem kl:BR Tryz.prog 99=true:=by kernel_rfl
theorem kc:BR Tryz.prog 100=true:=by kernel_rfl
theorem ku:BR Tryz.prog 101=true:=by kernel_rfl
theorem lf:BR Tryz.prog 102=true:=by kernel_rfl
theorem ka:BR Tryz.prog 103=true:=by kernel_rfl
theorem kJ:BR Tryz.prog 104=true:=by kernel_rfl
theorem kY:BR Tryz.prog 105=true:=by kernel_rfl
theorem nP:BR Tryz.prog 106=true:=by kernel_rfl
theorem kI:BR Tryz.prog 107=true:=by kernel_rfl
theorem lQ:BR Tryz.prog 108=true:=by kernel_rfl
theorem lV:BR Tryz.prog 110=true:=by kernel_rfl
theorem mv:BR Tryz.prog 111=true:=by kernel_rfl
theorem mM:BR Tryz.prog 112=true:=by kernel_rfl
theorem lD:BR Tryz.prog 113=true:=by kernel_rfl
theorem nE:BR Tryz.prog 114=true:=by kernel_rfl
theorem mu:BR Tryz.prog 115=true:=by kernel_rfl
theorem me:BR Tryz.prog 116=true:=by kernel_rfl
theorem mB:BR Tryz.prog 117=true:=by kernel_rfl
theorem lE:BR Tryz.prog 118=true:=by kernel_rfl
theorem mT:BR Tryz.prog 120=true:=by kernel_rfl
theorem mb:BR Tryz.prog 121=true:=by kernel_rfl
theorem lH:BR Tryz.prog 122=true:=by kernel_rfl
theorem lN:BR Tryz.prog 123=true:=by kernel_rfl
theorem lx:BR Tryz.prog 124=true:=by kernel_rfl
theorem kQ:BR Tryz.prog 125=true:=by kernel_rfl
theorem km:BR Tryz.prog 126=true:=by kernel_rfl
theorem ld:BR Tryz.prog 127=true:=by kernel_rfl
theorem l6:BR Tryz.prog 128=true:=by kernel_rfl
theorem kN:BR Tryz.prog 129=true:=by kernel_rfl
theorem iH:BR Tryz.prog 130=true:=by kernel_rfl
theorem kh:BR Tryz.prog 131=true:=by kernel_rfl
theorem mG:BR Tryz.prog 132=true:=by kernel_rfl
theorem kZ:BR Tryz.prog 133=true:=by kernel_rfl
theorem ml:BR Tryz.prog 134=true:=by kernel_rfl
theorem kq:BR Tryz.prog 135=true:=by kernel_rfl
theorem mC:BR Tryz.prog 136=true:=by kernel_rfl
theorem lJ:BR Tryz.prog 137=true:=by kernel_rfl
theorem nO:BR Tryz.prog 138=true:=by kernel_rfl
theorem m0:BR Tryz.prog 141=true:=by kernel_rfl
theorem nG:BR Tryz.prog 142=true:=by kernel_rfl
theorem lO:BR Tryz.prog 143=true:=by kernel_rfl
theorem ke:BR Tryz.prog 144=true:=by kernel_rfl
theorem lp:BR Tryz.prog 146=true:=by kernel_rfl
theorem nQ:BR Tryz.prog 147=true:=by kernel_rfl
theorem nJ:BR Tryz.prog 148=true:=by kernel_rfl
theorem lG:BR Tryz.prog 149=true:=by kernel_rfl
theorem m5:BR Tryz.prog 150=true:=by kernel_rfl
theorem lA:BR Tryz.prog 151=true:=by kernel_rfl
theorem lh:BR Tryz.prog 152=true:=by kernel_rfl
theorem iN:BR Tryz.prog 153=true:=by kernel_rfl
theorem kj:BR Tryz.prog 154=true:=by kernel_rfl
theorem kU:BR Tryz.prog 155=true:=by kernel_rfl
theorem kO:BR Tryz.prog 156=true:=by kernel_rfl
theorem mQ:BR Tryz.prog 157=true:=by kernel_rfl
theorem ll:BR Tryz.prog 158=true:=by kernel_rfl
theorem nK:BR Tryz.prog 159=true:=by kernel_rfl
theorem mN:BR Tryz.prog 160=true:=by kernel_rfl
theorem mK:BR Tryz.prog 161=true:=by kernel_rfl
theorem iF:BR Tryz.prog 162=true:=by kernel_rfl
theorem kL:BR Tryz.prog 163=true:=by kernel_rfl
theorem mW:BR Tryz.prog 164=true:=by kernel_rfl
theorem kV:BR Tryz.prog 165=true:=by kernel_rfl
theorem mV:BR Tryz.prog 166=true:=by kernel_rfl
theorem m6:BR Tryz.prog 170=true:=by kernel_rfl
theorem kx:BR Tryz.prog 171=true:=by kernel_rfl
theorem l5:BR Tryz.prog 172=true:=by kernel_rfl
theorem nN:BR Tryz.prog 173=true:=by kernel_rfl
theorem mf:BR Tryz.prog 174=true:=by kernel_rfl
theorem mI:BR Tryz.prog 175=true:=by kernel_rfl
theorem ki:BR Tryz.prog 176=true:=by kernel_rfl
theorem nU:BR Tryz.prog 177=true:=by kernel_rfl
theorem iJ:BR Tryz.prog 178=true:=by kernel_rfl
theorem mx:BR Tryz.prog 179=true:=by kernel_rfl
theorem kv:BR Tryz.prog 180=true:=by kernel_rfl
theorem nT:BR Tryz.prog 181=true:=by kernel_rfl
theorem lu:BR Tryz.prog 182=true:=by kernel_rfl
theorem lK:BR Tryz.prog 183=true:=by kernel_rfl
theorem mr:BR Tryz.prog 184=true:=by kernel_rfl
theorem kP:BR Tryz.prog 185=true:=by kernel_rfl
theorem kW:BR Tryz.prog 186=true:=by kernel_rfl
theorem lZ:BR Tryz.prog 190=true:=by kernel_rfl
theorem nH:BR Tryz.prog 191=true:=by kernel_rfl
theorem l7:BR Tryz.prog 193=true:=by kernel_rfl
theorem k0:BR Tryz.prog 194=true:=by kernel_rfl
theorem lR:BR Tryz.prog 195=true:=by kernel_rfl
theorem mZ:BR Tryz.prog 196=true:=by kernel_rfl
theorem mY:BR Tryz.prog 200=true:=by kernel_rfl
theorem Dq:fieldsOf Tryz.prog 26=some [(0,1),(1,1),(2,1),(3,1),(4,1)]:=by kernel_rfl
theorem E8:fieldsOf Tryz.prog 51=some [(0,1),(1,1),(2,1),(3,1),(4,5)]:=by kernel_rfl
theorem il:fieldsOf Tryz.prog 64=some [(0,1),(1,5),(6,1)]:=by kernel_rfl
theorem Cm:fieldsOf Tryz.prog 66=some [(0,1),(1,1),(2,1),(3,5),(8,5),(13,1),(14,1),(15,7),(22,1)]:=by kernel_rfl
theorem Fs:fieldsOf Tryz.prog 69=some [(0,1),(1,5),(6,1),(7,1)]:=by kernel_rfl
theorem G2:fieldsOf Tryz.prog 71=some [(0,1),(1,5),(6,1),(7,8)]:=by kernel_rfl
theorem JB:fieldsOf Tryz.prog 115=some [(0,1),(1,1)]:=by kernel_rfl
theorem I8:fieldsOf Tryz.prog 117=some [(0,1),(1,5)]:=by kernel_rfl
theorem Im:fieldsOf Tryz.prog 120=some [(0,1),(1,1),(2,8)]:=by kernel_rfl
theorem dG:fieldsOf Tryz.prog 122=some []:=by kernel_rfl
theorem Q4:fieldsOf Tryz.prog 125=some [(0,1),(1,1)]:=by kernel_rfl
theorem hO:fieldsOf Tryz.prog 148=some [(0,1),(1,1)]:=by kernel_rfl
theorem Ia:fieldsOf Tryz.prog 162=some [(0,1),(1,1)]:=by kernel_rfl
theorem lF:fieldsOf Tryz.prog 167=some [(0,1),(1,1),(2,1),(3,1),(4,1)]:=by kernel_rfl
theorem SQ:fieldsOf Tryz.prog 192=some [(0,1),(1,1)]:=by kernel_rfl
theorem ME:fieldsOf Tryz.prog 200=some [(0,1),(1,1),(2,23)]:=by kernel_rfl
theorem lq:fieldsOf Tryz.prog 207=some [(0,1)]:=by kernel_rfl
theorem Sj:fieldsOf Tryz.prog 231=some [(0,1),(1,1)]:=by kernel_rfl
theorem Z0:mapOf Tryz.prog 229=some 3:=by kernel_rfl
theorem Eg:Tryz.prog.follows .mixedOrders=true:=by kernel_rfl
theorem ko:NV Tryz.prog 162=true:=by kernel_rfl
theorem ty2:Dp Tryz.prog 2=some (false,1):=by kernel_rfl
theorem C7:Dp Tryz.prog 3=some (false,1):=by kernel_rfl
theorem iY:Dp Tryz.prog 4=some (false,1):=by kernel_rfl
theorem Lz:Dp Tryz.prog 9=some (false,1):=by kernel_rfl
theorem Qu:Dp Tryz.prog 22=some (false,1):=by kernel_rfl
theorem WK:Dp Tryz.prog 23=some (false,1):=by kernel_rfl
theorem E3:Dp Tryz.prog 24=some (false,1):=by kernel_rfl
theorem Ba:Dp Tryz.prog 26=some (true,5):=by kernel_rfl
theorem Rc:Dp Tryz.prog 29=some (false,1):=by kernel_rfl
theorem I1:Dp Tryz.prog 51=some (true,9):=by kernel_rfl
theorem HS:Dp Tryz.prog 61=some (false,1):=by kernel_rfl
theorem IM:Dp Tryz.prog 62=some (false,1):=by kernel_rfl
theorem Ew:Dp Tryz.prog 66=some (true,23):=by kernel_rfl
theorem L0:Dp Tryz.prog 67=some (false,1):=by kernel_rfl
theorem It:Dp Tryz.prog 69=some (true,8):=by kernel_rfl
theorem Z6:Dp Tryz.prog 71=some (true,15):=by kernel_rfl
theorem Ur:Dp Tryz.prog 104=some (false,1):=by kernel_rfl
theorem PB:Dp Tryz.prog 113=some (false,1):=by kernel_rfl
theorem FK:Dp Tryz.prog 115=some (true,2):=by kernel_rfl
theorem nV:Dp Tryz.prog 117=some (true,6):=by kernel_rfl
theorem Se:Dp Tryz.prog 120=some (true,10):=by kernel_rfl
theorem kn:Dp Tryz.prog 122=some (true,0):=by kernel_rfl
theorem Xs:Dp Tryz.prog 137=some (false,1):=by kernel_rfl
theorem JH:Dp Tryz.prog 158=some (false,1):=by kernel_rfl
theorem O1:Dp Tryz.prog 162=some (true,2):=by kernel_rfl
theorem iR:Dp Tryz.prog 167=some (true,5):=by kernel_rfl
theorem mX:Dp Tryz.prog 168=some (true,65):=by kernel_rfl
theorem lr:Dp Tryz.prog 192=some (true,2):=by kernel_rfl
theorem Rv:Dp Tryz.prog 200=some (true,25):=by kernel_rfl
theorem hP:Dp Tryz.prog 205=some (false,1):=by kernel_rfl
theorem iQ:Dp Tryz.prog 210=some (true,1):=by kernel_rfl
theorem dE:Dp Tryz.prog 229=some (false,1):=by kernel_rfl
theorem JF:Tryz.prog.underlying 159=some (.array 7 158):=by kernel_rfl
theorem iB:Tryz.prog.underlying 168=some (.array 13 167):=by kernel_rfl
theorem Y3:Tryz.prog.underlying 20=some (.interface #[]):=by kernel_rfl
theorem iA:Tryz.prog.underlying 223=some (.int .i64):=by kernel_rfl
theorem qm:Tryz.prog.underlying 4=some .bool:=by kernel_rfl
theorem iD:Tryz.prog.underlying 9=some .string:=by kernel_rfl
theorem fj:zeroOf Tryz.prog 3=some (.int .i64 0):=by kernel_rfl
theorem qC:zeroOf Tryz.prog 4=some (.bool false):=by kernel_rfl
theorem gb:zeroOf Tryz.prog 9=some (.string { data:={ toList:=[] } }):=by kernel_rfl
theorem B8:zeroOf Tryz.prog 26=some (.agg { toList:=[.int .i64 0,.int .i64 0,.string { data:={ toList:=[] } },.slice none 0 0,.slice none 0 0] }):=by kernel_rfl
theorem aK:zeroOf Tryz.prog 29=some (.int .i64 0):=by kernel_rfl
theorem IK:zeroOf Tryz.prog 51=some (.agg { toList:=[.int .i64 0,.int .i64 0,.int .i64 0,.int .i64 0,.int .i64 0,.int .i64 0,.string { data:={ toList:=[] } },.slice none 0 0,.slice none 0 0] }):=by kernel_rfl
theorem MY:zeroOf Tryz.prog 66=some (.agg { toList:=[.int .i64 0,.string { data:={ toList:=[] } },.int .i64 0,.int .i64 0,.int .i64 0,.string { data:={ toList:=[] } },.slice none 0 0,.slice none 0 0,.int .i64 0,.int .i64 0,.string { data:={ toList:=[] } },.slice none 0 0,.slice none 0 0,.int .i64 0,.slice none 0 0,.int .i64 0,.int .i64 0,.int .i64 0,.string { data:={ toList:=[] } },.slice none 0 0,.slice none 0 0,.slice none 0 0,.slice none 0 0] }):=by kernel_rfl
theorem Ye:zeroOf Tryz.prog 69=some (.agg { toList:=[.int .i64 0,.int .i64 0,.int .i64 0,.string { data:={ toList:=[] } },.slice none 0 0,.slice none 0 0,.int .i64 0,.slice none 0 0] }):=by kernel_rfl
theorem Zl:zeroOf Tryz.prog 71=some (.agg { toList:=[.string { data:={ toList:=[] } },.int .i64 0,.int .i64 0,.string { data:={ toList:=[] } },.slice none 0 0,.slice none 0 0,.int .i64 0,.int .i64 0,.int .i64 0,.int .i64 0,.string { data:={ toList:=[] } },.slice none 0 0,.slice none 0 0,.int .i64 0,.slice none 0 0] }):=by kernel_rfl
theorem He:zeroOf Tryz.prog 115=some (.agg { toList:=[.int .i64 0,.slice none 0 0] }):=by kernel_rfl
theorem XN:zeroOf Tryz.prog 117=some (.agg { toList:=[.string { data:={ toList:=[] } },.int .i64 0,.int .i64 0,.string { data:={ toList:=[] } },.slice none 0 0,.slice none 0 0] }):=by kernel_rfl
theorem Xk:zeroOf Tryz.prog 120=some (.agg { toList:=[.string { data:={ toList:=[] } },.bool false,.int .i64 0,.int .i64 0,.int .i64 0,.string { data:={ toList:=[] } },.slice none 0 0,.slice none 0 0,.int .i64 0,.slice none 0 0] }):=by kernel_rfl
theorem YF:zeroOf Tryz.prog 122=some (.agg { toList:=[] }):=by kernel_rfl
theorem mO:zeroOf Tryz.prog 137=some (.slice none 0 0):=by kernel_rfl
theorem mH:zeroOf Tryz.prog 148=some (.agg { toList:=[.int .i64 0,.int .i64 0] }):=by kernel_rfl
theorem Qm:zeroOf Tryz.prog 159=some (.agg { toList:=[.nilFunc,.nilFunc,.nilFunc,.nilFunc,.nilFunc,.nilFunc,.nilFunc] }):=by kernel_rfl
theorem L4:zeroOf Tryz.prog 162=some (.agg { toList:=[.int .i64 0,.int .i64 0] }):=by kernel_rfl
theorem bY:zeroOf Tryz.prog 168=some (.agg { toList:=[.bool false,.bool false,.int .i64 0,.int .i64 0,.int .i64 0,.bool false,.bool false,.int .i64 0,.int .i64 0,.int .i64 0,.bool false,.bool false,.int .i64 0,.int .i64 0,.int .i64 0,.bool false,.bool false,.int .i64 0,.int .i64 0,.int .i64 0,.bool false,.bool false,.int .i64 0,.int .i64 0,.int .i64 0,.bool false,.bool false,.int .i64 0,.int .i64 0,.int .i64 0,.bool false,.bool false,.int .i64 0,.int .i64 0,.int .i64 0,.bool false,.bool false,.int .i64 0,.int .i64 0,.int .i64 0,.bool false,.bool false,.int .i64 0,.int .i64 0,.int .i64 0,.bool false,.bool false,.int .i64 0,.int .i64 0,.int .i64 0,.bool false,.bool false,.int .i64 0,.int .i64 0,.int .i64 0,.bool false,.bool false,.int .i64 0,.int .i64 0,.int .i64 0,.bool false,.bool false,.int .i64 0,.int .i64 0,.int .i64 0] }):=by kernel_rfl
theorem mq:zeroOf Tryz.prog 170=some .nilFunc:=by kernel_rfl
theorem SD:zeroOf Tryz.prog 192=some (.agg { toList:=[.int .i64 0,.slice none 0 0] }):=by kernel_rfl
theorem iE:zeroOf Tryz.prog 200=some (.agg { toList:=[.slice none 0 0,.slice none 0 0,.int .i64 0,.string { data:={ toList:=[] } },.int .i64 0,.int .i64 0,.int .i64 0,.string { data:={ toList:=[] } },.slice none 0 0,.slice none 0 0,.int .i64 0,.int .i64 0,.string { data:={ toList:=[] } },.slice none 0 0,.slice none 0 0,.int .i64 0,.slice none 0 0,.int .i64 0,.int .i64 0,.int .i64 0,.string { data:={ toList:=[] } },.slice none 0 0,.slice none 0 0,.slice none 0 0,.slice none 0 0] }):=by kernel_rfl
theorem kb:zeroOf Tryz.prog 204=some .nilFunc:=by kernel_rfl
theorem lB:zeroOf Tryz.prog 205=some (.pointer none):=by kernel_rfl
theorem nL:zeroOf Tryz.prog 207=some (.agg { toList:=[.int .i64 0] }):=by kernel_rfl
theorem mc:zeroOf Tryz.prog 210=some (.agg { toList:=[.nilFunc] }):=by kernel_rfl
theorem mJ:zeroOf Tryz.prog 231=some (.agg { toList:=[.map none,.int .i64 0] }):=by kernel_rfl
end Go.Proofs.YtboammbpdaoojaaGreat
namespace Go.Abs
theorem Vk {F:Nat→Prop}{w:World}{b:Nat}{vs:List Value}{T:TypeId}(hb:w.heap[b]?=some (.cells ⟨vs⟩ T (0,0))):∀(cs:List PV) (o:Nat),Bz F w (cs.map .p) (vs.drop o)→CL F w b o cs
 | [],_,_=>by simp[CL]
 | c::cs,o,h=>by
  simp only[List.map_cons,Bz,CF] at h;obtain⟨u,us,e,hu,hr⟩:=h;have ho:o<vs.length:=by
   by_cases q:o<vs.length
   ·exact q
   rw[List.drop_eq_nil_of_le Ar] at e;cases e
  rw[List.drop_eq_getElem_cons ho] at e;injection e with e1 e2;simp only[CL];refine⟨⟨u,?_,hu⟩,Vk hb cs (o+1) (by rw[e2];exact hr)⟩;unfold World.cell?;rw[hb];simp[ho,e1]
theorem N7 {n:Nat}{τ:Nat→AV}{H:List BL}{D:List EF}{i b:Nat}{cs:List PV}(ts:List Nat) (hi:H[i]?=some (.box b (cs.map .p))) (ht:∀t∈ts,τ t= .ptr b 0) :
  Hv ⟨n,τ,H,D⟩ ⟨n,JT ts (.ref cs) τ,H.eraseIdx i,D⟩:=by
 intro F a w hs;have hmem:=List.mem_of_getElem? hi;have hFb:F b:=hs.heap.sub _ hmem b rfl;have hbd:b<w.heap.size:=hs.heap.bd b hFb;have st:DM F w (fun k=>F k∧k≠b) w:=⟨Nat.le_refl _,fun _ _ _=>rfl,fun _ h _ h'=>h h'.1⟩;have hne:∀x∈H.eraseIdx i,∀k,x.key=some k→k≠b:=by
  intro x hx k hk hkb;subst hkb;obtain⟨j,hj⟩:=List.mem_iff_getElem?.1 hx;rw[List.getElem?_eraseIdx] at hj;split at hj
  ·have:=HO hs.heap.nodup hj hi hk rfl;omega
  have:=HO hs.heap.nodup hj hi hk rfl;omega
 have hsub:(H.eraseIdx i).Sublist H:=List.eraseIdx_sublist H i;refine⟨fun k=>F k∧k≠b,⟨hs.size,?_,?_,Ev.mono st _ _ hs.defs⟩,?_⟩
 ·intro t;simp only[JT];cases hq:ts.any (Nat.beq t ·) with
  | false=>exact CF.mono st _ _ (hs.tmp t)
  | true =>
   obtain⟨t',ht',he⟩:=List.any_eq_true.1 hq;have e:=Nat.eq_of_beq_eq_true he;subst e;have hv:=hs.tmp t;simp only[ht t ht',CF] at hv;obtain⟨vs,T,hb,hr⟩:=hs.heap.obj _ hmem;show CF (fun k=>F k∧k≠b) w (.ref cs) _;simp only[CF];exact⟨b,0,hv,fun h=>h.2 O,hbd,Vk hb cs 0 (by rw[List.drop_zero];exact Bz.mono st _ _ hr)⟩
 ·have:=hs.heap.sublist hsub;exact⟨fun x hx k hk=>⟨this.sub x hx k hk,hne x hx k hk⟩,this.nodup,fun x hx=>H9.mono st x (fun _ _=>O) (this.obj x hx),fun k hk=>this.bd k hk.1⟩
 exact⟨Nat.le_refl _,fun _ _ _=>O,fun k hk hn=>⟨hk,fun e=>hn _ hmem (by rw[e];rfl)⟩,fun k hk=> .inl hk.1,fun x hx k hk=> .inl ⟨x,hsub.subset hx,hk⟩,O,O,O⟩
end Go.Abs
