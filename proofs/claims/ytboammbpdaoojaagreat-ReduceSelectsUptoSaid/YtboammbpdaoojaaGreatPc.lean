/- Part of the proofs: an abstract program logic, plain models and contracts of functions. -/
import Derived.Test.YtboammbpdaoojaaGreatPb
import Derived.ProofKit
import Derived.Deep.DeepHandedRow
import Derived.Lib.AppendStr
import Derived.Lib.Builder
import Derived.Laws.Externs
import Derived.Lib.UnsafeStr
import Derived.Below
import Derived.Test.YtboammbpdaoojaaGreatRows
import Derived.Deep.DeepWitnessRowRef
import Derived.Lib.LaidIn
import Derived.Test.YtboammbpdaoojaaGreatProg
set_option linter.unusedVariables false
set_option linter.unusedSimpArgs false
set_option maxRecDepth 1000000
namespace Go.Eu
open Go.Abs Go.RowKit Go.ChangeShapes Go.ChangeAt Go.WideShapes
theorem Xr:∀{ts:List Tm},(∀t∈ts,Wd t)→bU ts
 | [],_=>trivial
 | t::ts,h=>⟨h t Ao,Xr fun x hx=>h x (by simp[hx])⟩
abbrev F0:Nat→Prop:=fun _=>False
def CR (w:World):List PV→List Value→Prop
 | [],cs=>cs=[]
 | p::ps,cs=>∃c cs',cs=c::cs'∧CI F0 w p c∧CR w ps cs'
theorem CR.length {w:World}:∀{ps:List PV}{cs:List Value},CR w ps cs→ps.length=cs.length
 | [],cs,h=>by simp only[CR] at h;subst h;rfl
 | p::ps,cs,h=>by
  obtain⟨c,cs',rfl,_,h⟩:=h;simp[CR.length h]
theorem CR.append {w:World}:∀{a b:List PV}{x y:List Value},CR w a x→CR w b y→CR w (a++b) (x++y)
 | [],b,x,y,h,h'=>by simp only[CR] at h;subst h;exact h'
 | p::a,b,x,y,h,h'=>by
  obtain⟨c,cs',rfl,h1,h⟩:=h;exact⟨c,cs'++y,O,h1,CR.append h h'⟩
theorem CR.one {w:World}{p:PV}{c:Value}(h:CI F0 w p c):CR w [p] [c]:=⟨c,[],rfl,h,rfl⟩
theorem PM {w:World}{b:Nat}:∀(r:List PV) (cs:List Value) (o:Nat),CR w r cs→(∀j,j<cs.length→w.cell? ⟨b,o+j,none⟩=cs[j]?)→CQ F0 w b o r
 | [],cs,o,h,hc=>by simp[CQ]
 | p::r,cs,o,h,hc=>by
  obtain⟨c,cs',rfl,h1,h⟩:=h;refine⟨⟨c,by have:=hc 0 Ao;simpa using this,h1⟩,PM r cs' (o+1) h fun j hj=>?_⟩;have:=hc (j+1) Ai;rw[show o+1+j=o+(j+1) by omega];simpa using this
theorem Mq {w:World}{base:Nat}{a:Addr}{n:Nat}{cs:List Value}(h:w.cells? base a n=some cs):cs.length=n∧∀j,j<n→w.cell? (a.add j)=cs[j]?:=by
 unfold World.cells? at h;split at h
 ·exact⟨by simpa using mapM_some_length h,fun j hj=>mapM_some_get h j j (by simp[hj])⟩
 cases h
section
variable {H:Type}{enc:TypeId×Value→H}{P:Program}{w:World}{base:Nat}{sp:Nat→Bool}{hd:Bool}{n:Nat}
theorem open_slice {α:Type}{e t C:Nat}(ut:P.underlying t=some (.slice e)) (hC:P.cellsOf e=C) (hC1:1≤C) (f:α→List PV) (Q:α→Prop)
  (he:∀m cs y,m<n→DataW.trod enc P w base sp hd m e cs=some y→∃a,CR w (f a) cs∧Q a) {cs:List Value} {y:DataW H×List MemPlace} (h:DataW.trod enc P w base sp hd n t cs=some y) :
  ∃l:List α,l.length<wide∧(∀a∈l,Q a)∧∃v,cs=[v]∧CI F0 w (.lst (l.map f)) v:=by
 rcases DataW.trod_slice ut h with ⟨rfl,_⟩ | ⟨a,len,cap,elems,rest,m,rfl,rfl,_,hb,hl,hc,hel,hget,_,_⟩
 ·exact⟨[],by simp[wide],fun a ha=>by simp at ha,_,rfl,by simp only[CI];exact .inl ⟨rfl,none,0,rfl⟩⟩
 rw[hC] at hget;have hml:maxLen<wide:=by decide
 rcases Nat.eq_zero_or_pos len with h0 | h0
 ·subst h0;exact⟨[],by simp[wide],fun a ha=>by simp at ha,_,rfl,by simp only[CI];exact .inl ⟨rfl,some a,cap,rfl⟩⟩
 have hone:∀i,i<len→∃ci y,w.cells? base (a.add (i*C)) C=some ci∧DataW.trod enc P w base sp hd m e ci=some y:=fun i hi=>by
  have:=hget i hi;rw[List.getElem?_eq_getElem An] at this;obtain⟨ci,h1,h2⟩:=Option.bind_eq_some_iff.1 this;exact⟨ci,_,h1,h2⟩
 obtain⟨c0,y0,hc0,_⟩:=hone 0 h0;obtain⟨hl0,hg0⟩:=Mq hc0;have hcell:∃v,w.cell? a=some v:=by
  have:=hg0 0 An;rw[Nat.zero_mul,Addr.add,if_pos rfl,Addr.add,if_pos rfl] at this;rw[List.getElem?_eq_getElem An] at this;exact⟨_,this⟩
 obtain⟨v0,hv0⟩:=hcell;obtain⟨blk,off,spot⟩:=a;have hspot:spot=none:=by
  unfold World.cell? at hv0;simp only at hv0;split at hv0
  ·cases spot with
   | none=>rfl
   | some s=>simp at hv0
  cases hv0
 subst hspot;have hblk:blk<w.heap.size:=by
  unfold World.cell? at hv0;simp only at hv0;split at hv0
  ·rename_i hh;exact(Array.getElem?_eq_some_iff.1 hh).1
  cases hv0
 have hadd:∀k,(⟨blk,off,none⟩:Addr).add k=⟨blk,off+k,none⟩:=fun k=>by
  unfold Addr.add;split
  ·rename_i e;subst e;rfl
  rfl
 have hadd2:∀o k,(⟨blk,o,none⟩:Addr).add k=⟨blk,o+k,none⟩:=fun o k=>by
  unfold Addr.add;split
  ·rename_i e;subst e;rfl
  rfl
 have hrows:∀k,k≤len→∃l:List α,l.length=k∧(∀x∈l,Q x)∧B3 F0 w blk C (off+(len - k)*C) (l.map f):=by
  intro k
  induction k with
  | zero=>exact fun _=>⟨[],rfl,fun a ha=>by simp at ha,by simp[B3]⟩
  | succ k ih =>
   intro hk;obtain⟨l,h1,h2,h3⟩:=ih An;obtain⟨ci,y,hci,ht⟩:=hone (len - (k+1)) An;obtain⟨g1,g2⟩:=Mq hci;obtain⟨x,hx,hq⟩:=he m ci y An ht;refine⟨x::l,by simp[h1],fun z hz=>?_,?_⟩
   ·rcases List.mem_cons.1 hz with rfl | hz
    ·exact hq
    exact h2 z hz
   refine⟨by rw[hx.length,g1],PM _ ci _ hx fun j hj=>?_,?_⟩
   ·have:=g2 j An;rw[hadd,hadd2] at this;exact this
   rw[show off+(len - (k+1))*C+C=off+(len - k)*C by rw[Nat.add_assoc,←Nat.succ_mul];congr 2;omega];exact h3
 obtain⟨l,h1,h2,h3⟩:=hrows len (Nat.le_refl _);rw[Nat.sub_self,Nat.zero_mul,Nat.add_zero] at h3;refine⟨l,by omega,h2,_,rfl,?_⟩;simp only[CI];refine .inr ⟨blk,off,cap,C,by rw[List.length_map,h1],fun h=>h,hblk,by rw[List.length_map];omega,h3⟩
def NW (P:Program) (t:TypeId):Option (List (Nat×Nat)) :=
 match P.underlying t with
 | some (.struct fs)=>some (fs.toList.map fun f=>(f.type,f.offset))
 | _=>none
theorem Us {t:TypeId}{l:List (Nat×Nat)}(hf:NW P t=some l) {cs:List Value}{y:DataW H×List MemPlace}(h:DataW.trod enc P w base sp hd n t cs=some y) :
  ∃m,n=m+1∧cs.length=P.cellsOf t∧∀(i:Nat) (p:Nat×Nat),l[i]?=some p→∃z,DataW.trod enc P w base sp hd m p.1 ((cs.drop p.2).take (P.cellsOf p.1))=some z:=by
 unfold NW at hf;split at hf
 ·rename_i fs hu;injection hf with hf;subst hf;obtain⟨xs,m,h1,_,h2,h3,h4⟩:=DataW.trod_struct hu h;refine⟨m,h1,h2,fun i p hp=>?_⟩;rw[List.getElem?_map] at hp;obtain⟨fl,hfl,rfl⟩:=Option.map_eq_some_iff.1 hp;have hi:fs[i]?=some fl:=by simpa using hfl
  have:=h4 i fl hi;have hlt:i<xs.length:=by rw[h3];exact(Array.getElem?_eq_some_iff.1 hi).1
  rw[List.getElem?_eq_getElem hlt] at this;exact⟨_,this⟩
 cases hf
end
structure GX (P:Program) (tI tS tV tVs tL tLs tT tTs:TypeId):Prop where
 uI:P.underlying tI=some (.int .i64)
 uS:P.underlying tS=some .string
 uVs:P.underlying tVs=some (.slice tV)
 uLs:P.underlying tLs=some (.slice tL)
 uTs:P.underlying tTs=some (.slice tT)
 fV:NW P tV=some [(tI,0),(tI,1)]
 fL:NW P tL=some [(tI,0),(tVs,1)]
 fT:NW P tT=some [(tI,0),(tI,1),(tS,2),(tLs,3),(tTs,4)]
 cI:P.cellsOf tI=1
 cS:P.cellsOf tS=1
 cVs:P.cellsOf tVs=1
 cLs:P.cellsOf tLs=1
 cTs:P.cellsOf tTs=1
 cV:P.cellsOf tV=2
 cL:P.cellsOf tL=2
 cT:P.cellsOf tT=5
theorem Pg {n:Int}(h:(Lit.int .i64 n).wf=true):Iz n:=by
 simp only[Lit.wf,Bool.and_eq_true,decide_eq_true_eq] at h;exact h
theorem _root_.Go.Am {α:Prop}(h:α:=by decide):α:=h
section
variable {H:Type}{enc:TypeId×Value→H}{P:Program}{w:World}{base:Nat}{sp:Nat→Bool}{hd:Bool}{tI tB tS tV tVs tL tLs tT tTs tM tMs:TypeId}
theorem bX (E:GX P tI tS tV tVs tL tLs tT tTs) {n:Nat}{cs:List Value}{y:DataW H×List MemPlace}(h:DataW.trod enc P w base sp hd n tV cs=some y):∃v:CC,CR w (Dy v) cs∧(Iz v.index∧Iz v.plus):=by
 obtain⟨m,rfl,hl,hg⟩:=Us E.fV h;rw[E.cV] at hl
 match cs,hl with
 | [c0,c1],_ =>
  obtain⟨z0,h0⟩:=hg 0 _ rfl;obtain⟨z1,h1⟩:=hg 1 _ rfl;simp only[E.cI,List.drop_zero,List.drop_succ_cons,List.take_succ_cons,List.take_zero] at h0 h1;obtain⟨a,ha,_,fa⟩:=DataW.trod_int E.uI h0;obtain⟨b,hb,_,fb⟩:=DataW.trod_int E.uI h1;injection ha with ha;injection hb with hb;subst ha hb;exact⟨⟨a,b⟩,⟨_,_,O,by simp[CI],_,_,rfl,by simp[CI],rfl⟩,Pg fa,Pg fb⟩
theorem lJ (E:GX P tI tS tV tVs tL tLs tT tTs) {n:Nat}{cs:List Value}{y:DataW H×List MemPlace}(h:DataW.trod enc P w base sp hd n tL cs=some y):∃v:CV,CR w (Bz v) cs∧mV v:=by
 obtain⟨m,rfl,hl,hg⟩:=Us E.fL h;rw[E.cL] at hl
 match cs,hl with
 | [c0,c1],_ =>
  obtain⟨z0,h0⟩:=hg 0 _ rfl;obtain⟨z1,h1⟩:=hg 1 _ rfl;simp only[E.cI,E.cVs,List.drop_zero,List.drop_succ_cons,List.take_succ_cons,List.take_zero] at h0 h1;obtain⟨a,ha,_,fa⟩:=DataW.trod_int E.uI h0;injection ha with ha;subst ha;obtain⟨l,g1,g2,v,hv,g3⟩:=open_slice E.uVs E.cV Am Dy (fun v=>Iz v.index∧Iz v.plus) (fun m cs y _ h=>bX E h) h1;injection hv with hv;subst hv;exact⟨⟨a,l⟩,⟨_,_,O,by simp[CI],_,_,rfl,g3,rfl⟩,⟨g1,Pg fa,g2⟩⟩
theorem kr (E:GX P tI tS tV tVs tL tLs tT tTs):∀(n:Nat) (cs:List Value) (y:DataW H×List MemPlace),DataW.trod enc P w base sp hd n tT cs=some y→∃t:Tm,CR w (BO t) cs∧Wd t:=by
 intro n
 induction n using Nat.strongRecOn with
 | ind n ih =>
  intro cs y h;obtain⟨m,rfl,hl,hg⟩:=Us E.fT h;rw[E.cT] at hl
  match cs,hl with
  | [c0,c1,c2,c3,c4],_ =>
   obtain⟨z0,h0⟩:=hg 0 _ rfl;obtain⟨z1,h1⟩:=hg 1 _ rfl;obtain⟨z2,h2⟩:=hg 2 _ rfl;obtain⟨z3,h3⟩:=hg 3 _ rfl;obtain⟨z4,h4⟩:=hg 4 _ rfl;simp only[E.cI,E.cS,E.cLs,E.cTs,List.drop_zero,List.drop_succ_cons,List.take_succ_cons,List.take_zero] at h0 h1 h2 h3 h4;obtain⟨a,ha,_,wa⟩:=DataW.trod_int E.uI h0;obtain⟨b,hb,_,wb⟩:=DataW.trod_int E.uI h1;obtain⟨s,hs,_,ws⟩:=DataW.trod_string E.uS h2;injection ha with ha;injection hb with hb;injection hs with hs;subst ha hb hs;obtain⟨l,g1,g2,v,hv,g3⟩:=open_slice E.uLs E.cL Am Bz mV (fun m cs y _ h=>lJ E h) h3;obtain⟨ks,k1,k2,u,hu,k3⟩:=open_slice E.uTs E.cT Am BO Wd (fun m' cs y hm h=>ih m' An cs y h) h4;injection hv with hv;injection hu with hu;subst hv hu;have hml:maxLen<wide:=by decide
   exact⟨.mk a b s l ks,⟨_,_,O,by simp[CI],_,_,rfl,by simp[CI],_,_,rfl,by simp[CI],_,_,rfl,g3,_,_,rfl,by rw[EE];exact k3,rfl⟩,
    ⟨by omega,g1,g2,k1,Xr fun t ht=>k2 t ht,Pg wa,Pg wb⟩⟩
theorem iR (E:GX P tI tS tV tVs tL tLs tT tTs) {n:Nat}{cs:List Value}{y:DataW H×List MemPlace}(h:DataW.trod enc P w base sp hd n tTs cs=some y):∃l:List Tm,l.length<wide∧bU l∧∃v,cs=[v]∧CI F0 w (.lst (BE l)) v:=by
 obtain⟨l,g1,g2,v,hv,g3⟩:=open_slice E.uTs E.cT Am BO Wd (fun m cs y _ h=>kr E m cs y h) h;exact⟨l,g1,Xr g2,v,hv,by rw[EE];exact g3⟩
structure qP (P:Program) (tB tT tM tMs:TypeId):Prop where
 uB:P.underlying tB=some .bool
 uMs:P.underlying tMs=some (.slice tM)
 fM:NW P tM=some [(tT,0),(tB,5),(tT,6),(tB,11)]
 cB:P.cellsOf tB=1
 cM:P.cellsOf tM=12
theorem S8 {b2:Nat}{r:Reach}{t e:TypeId}(ut:P.underlying t=some (.slice e)) {v u:Value}(hk:Value.okWide P w r b2 t v) (h:v.cells.toList=[u]):v=u:=by
 unfold Value.okWide at hk;rw[ut] at hk;simp only at hk;unfold Cell.okWide at hk;rw[ut] at hk;cases v with
 | agg cs=>simp only at hk;unfold Cell.ok at hk;rw[ut] at hk;simp at hk
 | _=>simp[Value.cells] at h;exact h
theorem ka (E:GX P tI tS tV tVs tL tLs tT tTs) {b2:Nat}{r:Reach}{v:Value}{d:DataW H}{ps:List MemPlace}(hk:Value.okWide P w r b2 tTs v) (h:DataW.Trod enc P w base sp hd tTs v d ps):∃l:List Tm,l.length<wide∧bU l∧CE F0 w (mU l) v:=by
 obtain⟨n,h⟩:=h;obtain⟨l,g1,g2,u,hu,g3⟩:=iR E h;have:=S8 E.uTs hk hu;subst this;exact⟨l,g1,g2,by simp only[CE];exact g3⟩
end
theorem Z7 (w:World):HRel F0 [] w:=⟨fun o ho=>by simp at ho,by simp,fun o ho=>by simp at ho,fun b hb=>hb.elim⟩
theorem W8 {P:Program}{f:FuncId}{xs:List AV}(h:EZ P f xs (.p (.bool true))) {w:World}{vs:List Value}(ha:B0 F0 w xs vs):Calls P f ⟨vs⟩ w fun e w'=>e= .returned (.bool true)∧Below w.heap.size w w':=by
 refine(h.2 F0 w vs (Z7 w) ha).mono ?_;rintro e w' ⟨r,H',F',hr,he,hH,ht⟩;cases r with
 | panic v=>exact hr.elim
 | val v =>
  obtain⟨rfl,rfl⟩:=hr;obtain⟨u,rfl,hu⟩:=he;simp only[CE,CI] at hu;subst hu;exact⟨O,ht.os,ht.tape,ht.out,ht.size,fun k hk=>ht.same k hk fun o ho=>by simp at ho⟩
theorem XW {H:Type}{enc:TypeId×Value→H}{P:Program}{f:Func}{s:ChangeSpec}{tB:TypeId}(hl:laidOutB P=true) (hB:P.underlying tB=some .bool) (hrt:f.resultTypes=#[tB]) (hv0:s.vars=[]) {W W':World}{args:Array Value}{ds:List (DataW H)}{before:List MemPlace}
  (hpr:∀t∈f.params.toList,P.readableRec t=true∧t<P.types.size) (hW:DataW.Whole enc P f.params.toList s.vars false W args.toList ds [] before) (hres:(s.fn H ds).results=[.lit (.bool true)]) (hargs:(s.fn H ds).args=ds) (hvars:(s.fn H ds).vars=[]) (hb:Below W.heap.size W W') :
  s.post enc P f false true false false W args (.bool true) W':=by
 have hW':=hW;obtain⟨p,q,hA,hV,rfl,hfz,hnd⟩:=hW;have hq:q=[]:=by rw[hv0] at hV;exact hV
 subst hq;have hstay:∀{ts:List TypeId} {vs:List Value} {ds:List (DataW H)} {ps:List MemPlace},(∀t∈ts,P.readableRec t=true∧t<P.types.size)→(∀x∈ps,x.block<W.heap.size)→DataW.TrodAll enc P W 0 (fun _=>true) true ts vs ds ps→DataW.TrodAll enc P W' 0 (fun b=>decide (b<W.heap.size)) true ts vs ds ps:=by
  intro ts
  induction ts with
  | nil =>
   intro vs ds ps _ _ h;cases vs<;>cases ds<;>simp[DataW.TrodAll] at h ⊢;exact h
  | cons t ts ih =>
   intro vs ds ps h1 h2 h;obtain⟨v,vs',d,ds',a,b,rfl,rfl,rfl,h3,h4⟩:=trodAll_cons h;exact⟨a,b,Below.trod hl (h1 t Ao).1 (h1 t Ao).2 h3 hb (fun x hx=>h2 x (by simp[hx])),ih (fun t ht=>h1 t (by simp[ht])) (fun x hx=>h2 x (by simp[hx])) h4,O⟩
 refine⟨ds,[],p++[],[],p,[],hW',?_,?_,?_,hb.frame _,fun h=>by cases h⟩
 ·rw[List.append_nil,hres,hrt];refine⟨[],[],⟨1,?_⟩,O,O⟩;unfold DataW.trod;rw[hB];rfl
 ·rw[List.append_nil,hargs];exact hstay hpr (fun x hx=>hW'.lt x (by simpa using hx)) hA
 rw[List.append_nil,hvars,hv0];exact O
section
variable {H:Type}{enc:TypeId×Value→H}{P:Program}{w:World}{base:Nat}{sp:Nat→Bool}{hd:Bool}{tI tB tS tV tVs tL tLs tT tTs tM tMs:TypeId}
theorem jn {b2:Nat}{r:Reach}{t:TypeId}{k:IntKind}(ut:P.underlying t=some (.int k)) {v u:Value}(hk:Value.okWide P w r b2 t v) (h:v.cells.toList=[u]):v=u:=by
 unfold Value.okWide at hk;rw[ut] at hk;simp only at hk;unfold Cell.okWide at hk;rw[ut] at hk;cases v with
 | agg cs=>simp only at hk;unfold Cell.ok at hk;rw[ut] at hk;simp at hk
 | _=>simp[Value.cells] at h;exact h
end
end Go.Eu
namespace Go.Eu
open Go.Abs
structure IX where
 name:ByteArray
 type:Tm
 deriving Inhabited
structure gJ where
 params:Int
 type:Tm
 rules:List Tm
 deriving Inhabited
mutual
inductive Es where
 | mk (kind:Int) (body:Tm) (var:Int) (branches:List GQ)
inductive GQ where
 | mk (ctor:ByteArray) (absurd:Bool) (tree:Es)
end
instance:Inhabited Es:=⟨.mk 0 default 0 []⟩
instance:Inhabited GQ:=⟨.mk default false default⟩
def Es.kind:Es→Int | .mk k _ _ _=>k
def Es.body:Es→Tm | .mk _ b _ _=>b
def Es.var:Es→Int | .mk _ _ v _=>v
def Es.branches:Es→List GQ | .mk _ _ _ l=>l
def GQ.ctor:GQ→ByteArray | .mk c _ _=>c
def GQ.absurd:GQ→Bool | .mk _ a _=>a
def GQ.tree:GQ→Es | .mk _ _ t=>t
structure G7 where
 name:ByteArray
 type:Tm
 arity:Int
 tree:Es
 deriving Inhabited
structure CH where
 kind:Int
 name:ByteArray
 params:Int
 type:Tm
 value:Tm
 fixed:Int
 ctors:List IX
 recs:gJ
 funs:List G7
 deriving Inhabited
structure GR where
 kind:Int
 decl:Int
 item:Int
 params:Int
 type:Tm
 deriving Inhabited
structure uJ where
 carrier:ByteArray
 add:ByteArray
 zero:ByteArray
 neg:ByteArray
 one:ByteArray
 leq:ByteArray
 lemmas:List ByteArray
 deriving Inhabited
structure uA where
 place:Int
 minus:Bool
 deriving Inhabited,DecidableEq
def Gp (c:IX):List PV:= .str c.name::BO c.type
def Rg (r:gJ):List PV:=I r.params::(BO r.type++[.lst (BE r.rules)])
mutual
def Ch:Es→List PV
 | .mk k b v l=>I k::(BO b++[I v,.lst (LQ l)])
def G2:GQ→List PV
 | .mk c a t=> .str c:: .bool a::Ch t
def LQ:List GQ→List (List PV)
 | []=>[]
 | b::l=>G2 b::LQ l
end
def Ec (f:G7):List PV:= .str f.name::(BO f.type++(I f.arity::Ch f.tree))
def Bh (d:CH):List PV:=I d.kind:: .str d.name::I d.params::(BO d.type++(BO d.value++(I d.fixed:: .lst (d.ctors.map Gp)::(Rg d.recs++[.lst (d.funs.map Ec)]))))
def DX (e:GR):List PV:=I e.kind::I e.decl::I e.item::I e.params::BO e.type
def sx (t:uJ):List PV:=[.str t.carrier,.str t.add,.str t.zero,.str t.neg,.str t.one,.str t.leq,.lst (t.lemmas.map Gk)]
def su (s:uA):List PV:=[I s.place,.bool s.minus]
theorem MU:∀l:List GQ,LQ l=l.map G2
 | []=>rfl
 | t::ts=>by simp[LQ,MU ts]
theorem D5 (c:IX):(Gp c).length=6:=by simp[Gp,BD]
theorem KY (r:gJ):(Rg r).length=7:=by simp[Rg,BD]
theorem Cl (t:Es):(Ch t).length=8:=by cases t;simp[Ch,BD]
theorem DO (b:GQ):(G2 b).length=10:=by cases b;simp[G2,Cl]
theorem DJ (f:G7):(Ec f).length=15:=by simp[Ec,BD,Cl]
theorem Cm (d:CH):(Bh d).length=23:=by simp[Bh,BD,KY]
theorem V8 (e:GR):(DX e).length=9:=by simp[DX,BD]
theorem Fv (l:List GQ):(LQ l).length=l.length:=by simp[MU]
theorem FX {ts:List GQ}{i:Nat}{t:GQ}(h:ts[i]?=some t):(LQ ts)[i]?=some (G2 t):=by simp[MU,h]
theorem QS {α:Type}{f:α→List PV}{ts:List α}{i:Nat}{t:α}(h:ts[i]?=some t):(ts.map f)[i]?=some (f t):=by simp[h]
theorem ES {ts:List IX}{i:Nat}{t:IX}(h:ts[i]?=some t):(ts.map Gp)[i]?=some (Gp t):=QS h
theorem EO {ts:List G7}{i:Nat}{t:G7}(h:ts[i]?=some t):(ts.map Ec)[i]?=some (Ec t):=QS h
theorem D3 {ts:List CH}{i:Nat}{t:CH}(h:ts[i]?=some t):(ts.map Bh)[i]?=some (Bh t):=QS h
theorem Cs {n:Nat}{c:PV}{r:List PV}(hc:c≠ .any∧c≠ .unit) (h:EG n r):EG (n+1) (c::r) :=
 ⟨by simp[h.1],fun x hx=>by
  rcases List.mem_cons.1 hx with rfl | hx
  ·exact hc
  exact h.2 x hx⟩
theorem I6 {n m:Nat}{a b:List PV}(ha:EG n a) (hb:EG m b):EG (n+m) (a++b) :=
 ⟨by simp[ha.1,hb.1],fun x hx=>by
  rcases List.mem_append.1 hx with hx | hx
  ·exact ha.2 x hx
  exact hb.2 x hx⟩
theorem PN:EG 0 []:=⟨rfl,fun c h=>by simp at h⟩
theorem ZP (c:IX):EG 6 (Gp c):=Cs Ao (LP _)
theorem lM (r:gJ):EG 7 (Rg r):=Cs Ao (I6 (LP _) (Cs Ao PN))
theorem Qx (t:Es):EG 8 (Ch t):=by
 cases t with
 | mk k b v l=>unfold Ch;exact Cs Ao (I6 (n:=5) (m:=2) (LP _) (Cs Ao (Cs Ao PN)))
theorem j1 (b:GQ):EG 10 (G2 b):=by
 cases b with
 | mk c a t=>unfold G2;exact Cs Ao (Cs Ao (Qx t))
theorem ei (f:G7):EG 15 (Ec f):=Cs Ao (I6 (n:=5) (m:=9) (LP _) (Cs Ao (Qx _)))
theorem Xp (d:CH):EG 23 (Bh d):=Cs Ao (Cs Ao (Cs Ao (I6 (n:=5) (m:=15) (LP _) (I6 (n:=5) (m:=10) (LP _) (Cs Ao (Cs Ao (I6 (n:=7) (m:=1) (lM _) (Cs Ao PN))))))))
theorem mA (e:GR):EG 9 (DX e):=Cs Ao (Cs Ao (Cs Ao (Cs Ao (LP _))))
theorem a8 (l:List IX):∀r∈l.map Gp,EG 6 r:=GV ZP l
theorem aN (l:List G7):∀r∈l.map Ec,EG 15 r:=GV ei l
theorem ay (l:List CH):∀r∈l.map Bh,EG 23 r:=GV Xp l
theorem jd (m:IX):((Gp m).map AV.p).all one=true:=HK (ZP m)
theorem jC (m:Es):((Ch m).map AV.p).all one=true:=HK (Qx m)
theorem UA (m:GQ):((G2 m).map AV.p).all one=true:=HK (j1 m)
theorem iq (m:G7):((Ec m).map AV.p).all one=true:=HK (ei m)
theorem iQ (m:CH):((Bh m).map AV.p).all one=true:=HK (Xp m)
theorem iT (m:GR):((DX m).map AV.p).all one=true:=HK (mA m)
end Go.Eu
namespace Go.Eu
open Go.Abs Go.RowKit Go.ChangeShapes Go.ChangeAt Go.WideShapes
structure nr (P:Program) (tS tSs tTh:TypeId):Prop where
 uSs:P.underlying tSs=some (.slice tS)
 cSs:P.cellsOf tSs=1
 fTh:NW P tTh=some [(tS,0),(tS,1),(tS,2),(tS,3),(tS,4),(tS,5),(tSs,6)]
 cTh:P.cellsOf tTh=7
 bS:P.bytesOf tS=16
section
variable {H:Type}{enc:TypeId×Value→H}{P:Program}{w:World}{base:Nat}{sp:Nat→Bool}{hd:Bool}{tI tB tS tV tVs tL tLs tT tTs tM tMs tSs tTh:TypeId}
end
end Go.Eu
namespace Go.Eu
open Go.Abs
def Ug (n:ByteArray):ByteArray:=n++⟨#[46,114,101,99]⟩
def IQ (i p:Int):List IX→Int→List (ByteArray×GR)
 | [],_=>[]
 | c::cs,k=>(c.name,⟨4,i,k,p,c.type⟩)::IQ i p cs (k+1)
def MB (i p:Int):List G7→Int→List (ByteArray×GR)
 | [],_=>[]
 | c::cs,k=>(c.name,⟨6,i,k,p,c.type⟩)::MB i p cs (k+1)
def FU (d:CH) (i:Int):List (ByteArray×GR) :=
 if d.kind=0∨d.kind=1∨d.kind=2 then [(d.name,⟨d.kind,i,0,d.params,d.type⟩)]
 else if d.kind=3 then (d.name,⟨3,i,0,d.params,d.type⟩)::(IQ i d.params d.ctors 0++[(Ug d.name,⟨5,i,0,d.recs.params,d.recs.type⟩)])
 else if d.kind=4 then MB i d.params d.funs 0
 else []
def Cr (nm:ByteArray):List (ByteArray×GR)→Option GR
 | []=>none
 | (s,e)::l=>if s=nm then some e else Cr nm l
def findF (nm:ByteArray):List CH→Int→Option GR
 | [],_=>none
 | d::ds,i=>match Cr nm (FU d i) with
  | some e=>some e
  | none=>findF nm ds (i+1)
def bY:GR:=⟨0,0,0,0,Bc⟩
def Bp (ds:List CH) (nm:ByteArray):GR×Int:=match findF nm ds 0 with
 | some e=>(e,0)
 | none=>(bY,9)
theorem LN {nm:ByteArray}:∀{a b:List (ByteArray×GR)},Cr nm (a++b)=match Cr nm a with
  | some e=>some e
  | none=>Cr nm b
 | [],b=>rfl
 | (s,e)::a,b=>by
  simp only[List.cons_append,Cr];split
  ·rfl
  exact LN
section
variable {i p:Int}{nm:ByteArray}
theorem PG:∀{cs:List IX}{j:Nat}{c:IX}{k:Int},cs[j]?=some c→c.name=nm→(∀q,q<j→∀y,cs[q]?=some y→y.name≠nm)→Cr nm (IQ i p cs k)=some ⟨4,i,k+j,p,c.type⟩
 | [],j,c,k,h,_,_=>by simp at h
 | a::cs,0,c,k,h,hn,_=>by
  simp at h;subst h;simp[IQ,Cr,hn]
 | a::cs,j+1,c,k,h,hn,hb=>by
  have h0:a.name≠nm:=hb 0 An a rfl;rw[IQ,Cr,if_neg h0,PG (by simpa using h) hn fun q hq y hy=>hb (q+1) An y (by simpa using hy)];congr 2;omega
theorem Ng:∀{cs:List IX}{k:Int},(∀q:Nat,q<cs.length→∀y,cs[q]?=some y→y.name≠nm)→Cr nm (IQ i p cs k)=none
 | [],k,_=>rfl
 | a::cs,k,hb=>by
  have h0:a.name≠nm:=hb 0 Ao a rfl;rw[IQ,Cr,if_neg h0];exact Ng fun q hq y hy=>hb (q+1) (by simpa using hq) y (by simpa using hy)
theorem S5:∀{cs:List IX}{j:Nat}{c:IX}{k:Int},cs[j]?=some c→(c.name,(⟨4,i,k+j,p,c.type⟩:GR))∈IQ i p cs k
 | [],j,c,k,h=>by simp at h
 | a::cs,0,c,k,h=>by simp at h;subst h;simp[IQ]
 | a::cs,j+1,c,k,h=>by
  have:=S5 (k:=k+1) (show cs[j]?=some c by simpa using h);rw[IQ];refine List.mem_cons_of_mem _ ?_
  rwa [show k+1+(j:Int)=k+((j+1:Nat):Int) by omega] at this
theorem RK:∀{cs:List G7}{j:Nat}{c:G7}{k:Int},cs[j]?=some c→c.name=nm→(∀q,q<j→∀y,cs[q]?=some y→y.name≠nm)→Cr nm (MB i p cs k)=some ⟨6,i,k+j,p,c.type⟩
 | [],j,c,k,h,_,_=>by simp at h
 | a::cs,0,c,k,h,hn,_=>by
  simp at h;subst h;simp[MB,Cr,hn]
 | a::cs,j+1,c,k,h,hn,hb=>by
  have h0:a.name≠nm:=hb 0 An a rfl;rw[MB,Cr,if_neg h0,RK (by simpa using h) hn fun q hq y hy=>hb (q+1) An y (by simpa using hy)];congr 2;omega
theorem PW:∀{cs:List G7}{k:Int},(∀q:Nat,q<cs.length→∀y,cs[q]?=some y→y.name≠nm)→Cr nm (MB i p cs k)=none
 | [],k,_=>rfl
 | a::cs,k,hb=>by
  have h0:a.name≠nm:=hb 0 Ao a rfl;rw[MB,Cr,if_neg h0];exact PW fun q hq y hy=>hb (q+1) (by simpa using hq) y (by simpa using hy)
theorem VT:∀{cs:List G7}{j:Nat}{c:G7}{k:Int},cs[j]?=some c→(c.name,(⟨6,i,k+j,p,c.type⟩:GR))∈MB i p cs k
 | [],j,c,k,h=>by simp at h
 | a::cs,0,c,k,h=>by simp at h;subst h;simp[MB]
 | a::cs,j+1,c,k,h=>by
  have:=VT (k:=k+1) (show cs[j]?=some c by simpa using h);rw[MB];refine List.mem_cons_of_mem _ ?_
  rwa [show k+1+(j:Int)=k+((j+1:Nat):Int) by omega] at this
end
def C2 (d:CH):List ByteArray :=
 if d.kind=0∨d.kind=1∨d.kind=2 then [d.name]
 else if d.kind=3 then d.name::d.ctors.map IX.name++[Ug d.name]
 else if d.kind=4 then d.funs.map G7.name
 else []
def HQ (l:List ByteArray) (s:ByteArray):Bool:=l.any fun x=>decide (x=s)
theorem dm {l:List ByteArray}{s x:ByteArray}{i:Nat}(h:l[i]?=some x) (e:x=s):HQ l s=true :=
 List.any_eq_true.2 ⟨x,List.mem_of_getElem? h,by simp[e]⟩
theorem Z4 {l:List ByteArray}{s:ByteArray}(h:∀j,j<l.length→∀x,l[j]?=some x→x≠s):HQ l s=false:=by
 refine Bool.eq_false_iff.2 fun hb=>?_;obtain⟨x,hx,hq⟩:=List.any_eq_true.1 hb;obtain⟨j,hj⟩:=List.mem_iff_getElem?.1 hx;exact h j (List.getElem?_eq_some_iff.1 hj).1 x hj (by simpa using hq)
def N4 (nm:ByteArray) (i p:Int) (o:GR):List IX→Int→GR
 | [],_=>o
 | c::cs,k=>if c.name=nm then ⟨4,i,k,p,c.type⟩ else N4 nm i p o cs (k+1)
def bH (nm:ByteArray) (i p:Int) (o:GR):List G7→Int→GR
 | [],_=>o
 | c::cs,k=>if c.name=nm then ⟨6,i,k,p,c.type⟩ else bH nm i p o cs (k+1)
def Fl (d:CH) (i:Int) (nm:ByteArray):GR :=
 if d.kind=0∨d.kind=1∨d.kind=2 then ⟨d.kind,i,0,d.params,d.type⟩
 else if d.kind=3 then (if nm=d.name then ⟨3,i,0,d.params,d.type⟩ else N4 nm i d.params ⟨5,i,0,d.recs.params,d.recs.type⟩ d.ctors 0)
 else bH nm i d.params ⟨0,i,0,d.params,d.type⟩ d.funs 0
theorem OH {nm:ByteArray}{i p:Int}{o:GR}:∀{cs:List IX}{k:Int},N4 nm i p o cs k=(Cr nm (IQ i p cs k)).getD o
 | [],k=>rfl
 | c::cs,k=>by
  rw[N4,IQ,Cr];split
  ·rfl
  exact OH
theorem QR {nm:ByteArray}{i p:Int}{o:GR}:∀{cs:List G7}{k:Int},bH nm i p o cs k=(Cr nm (MB i p cs k)).getD o
 | [],k=>rfl
 | c::cs,k=>by
  rw[bH,MB,Cr];split
  ·rfl
  exact QR
theorem Ps {nm:ByteArray}{i p:Int}:∀{cs:List IX}{k:Int},(Cr nm (IQ i p cs k)).isSome=HQ (cs.map IX.name) nm
 | [],k=>rfl
 | c::cs,k=>by
  rw[IQ,Cr];split
  ·rename_i h;simp[HQ,h]
  rename_i h;rw[Ps];simp[HQ,h]
theorem SN {nm:ByteArray}{i p:Int}:∀{cs:List G7}{k:Int},(Cr nm (MB i p cs k)).isSome=HQ (cs.map G7.name) nm
 | [],k=>rfl
 | c::cs,k=>by
  rw[MB,Cr];split
  ·rename_i h;simp[HQ,h]
  rename_i h;rw[SN];simp[HQ,h]
theorem da {a b:List ByteArray}{s:ByteArray}:HQ (a++b) s=(HQ a s||HQ b s):=List.any_append
theorem Ji (d:CH) (i:Int) (nm:ByteArray):Cr nm (FU d i)=if HQ (C2 d) nm=true then some (Fl d i nm) else none:=by
 unfold FU C2 Fl;by_cases h:d.kind=0∨d.kind=1∨d.kind=2
 ·simp only[if_pos h,Cr];by_cases e:d.name=nm<;>simp[HQ,e]
 simp only[if_neg h];by_cases h3:d.kind=3
 ·simp only[if_pos h3,Cr,LN,List.cons_append];by_cases e:d.name=nm
  ·simp[HQ,e]
  have e':¬nm=d.name:=fun q=>e q.symm;rw[if_neg e,if_neg e',OH];have hn:=Ps (nm:=nm) (i:=i) (p:=d.params) (cs:=d.ctors) (k:=0);have hh:HQ (d.name::(d.ctors.map IX.name++[Ug d.name])) nm=(HQ (d.ctors.map IX.name) nm||HQ [Ug d.name] nm):=by
   rw[←da];simp[HQ,e]
  rw[hh,←hn];cases hf:Cr nm (IQ i d.params d.ctors 0) with
  | some x=>simp
  | none =>
   by_cases e2:Ug d.name=nm<;>simp[HQ,e2]
 simp only[if_neg h3];by_cases h4:d.kind=4
 ·simp only[if_pos h4];rw[QR,←SN (i:=i) (p:=d.params) (k:=0)];cases hf:Cr nm (MB i d.params d.funs 0)<;>simp
 simp[h4,Cr,HQ]
structure Pr where
 env:List CH
 own:List ByteArray
 d:CH
def GI (s:Pr):List PV:= .lst (s.env.map Bh):: .lst (s.own.map Gk)::Bh s.d
theorem aJ (s:Pr):(GI s).length=25:=by simp[GI,Cm]
theorem iX (s:Pr):EG 25 (GI s):=Cs Ao (Cs Ao (Xp _))
theorem gq (m:Pr):((GI m).map AV.p).all one=true:=HK (iX m)
structure UW (t:Tm):Prop where
 nd:Nd t
 sz:size t<1000000
mutual
def HS:Es→Prop
 | .mk k b v l=>UW b∧l.length<2000000∧NM l
def Q0:GQ→Prop
 | .mk c a t=>c.size<2000000∧HS t
def NM:List GQ→Prop
 | []=>True
 | b::l=>Q0 b∧NM l
end
mutual
def La:Es→Nat
 | .mk k b v l=>1+WH l
def dM:GQ→Nat
 | .mk c a t=>La t
def WH:List GQ→Nat
 | []=>0
 | b::l=>dM b+1+WH l
end
theorem JX:∀{l:List GQ}{i:Nat}{b:GQ},NM l→l[i]?=some b→Q0 b
 | [],i,b,_,h=>by simp at h
 | a::l,0,b,hn,h=>by simp at h;subst h;exact hn.1
 | a::l,i+1,b,hn,h=>by simp at h;exact JX hn.2 h
theorem S9:∀{l:List GQ}{i:Nat}{b:GQ},l[i]?=some b→dM b<WH l
 | [],i,b,h=>by simp at h
 | a::l,0,b,h=>by simp at h;subst h;simp only[WH];omega
 | a::l,i+1,b,h=>by
  have:=S9 (show l[i]?=some b by simpa using h);simp only[WH];omega
structure dk (c:IX):Prop where
 nm:c.name.size<2000000
 ty:UW c.type
structure dH (f:G7):Prop where
 nm:f.name.size<2000000
 ty:UW f.type
 tr:HS f.tree
structure Ns (d:CH):Prop where
 nm:d.name.size<2000000
 ty:UW d.type
 vl:UW d.value
 cl:d.ctors.length<2000000
 cs:∀c∈d.ctors,dk c
 rt:UW d.recs.type
 rl:d.recs.rules.length<2000000
 rs:∀t∈d.recs.rules,UW t
 fl:d.funs.length<2000000
 fs:∀f∈d.funs,dH f
structure G1 (ds:List CH):Prop where
 len:ds.length<2000000
 all:∀d∈ds,Ns d
theorem G1.take {ds:List CH}(h:G1 ds) (n:Nat):G1 (ds.take n) :=
 ⟨by have:=h.len;simp;omega,fun d hd=>h.all d (List.mem_of_mem_take hd)⟩
theorem ZM {nm:ByteArray}:∀{ds:List CH}{i:Nat}{k:Int}{d:CH},ds[i]?=some d→(∀j,j<i→∀y,ds[j]?=some y→HQ (C2 y) nm=false)→HQ (C2 d) nm=true→findF nm ds k=some (Fl d (k+i) nm)
 | [],i,k,d,h,_,_=>by simp at h
 | a::ds,0,k,d,h,_,hn=>by
  simp at h;subst h;rw[findF,Ji,if_pos hn];simp
 | a::ds,i+1,k,d,h,hb,hn=>by
  have h0:=hb 0 An a rfl;rw[findF,Ji,if_neg (by rw[h0];decide)];simp only;rw[ZM (by simpa using h) (fun j hj y hy=>hb (j+1) An y (by simpa using hy)) hn];congr 2;omega
theorem S4 {nm:ByteArray}:∀{ds:List CH}{k:Int},(∀j,j<ds.length→∀y,ds[j]?=some y→HQ (C2 y) nm=false)→findF nm ds k=none
 | [],k,_=>rfl
 | a::ds,k,hb=>by
  have h0:=hb 0 Ao a rfl;rw[findF,Ji,if_neg (by rw[h0];decide)];simp only;exact S4 fun j hj y hy=>hb (j+1) (by simpa using hj) y (by simpa using hy)
theorem aQ (n:ByteArray):(Ug n).size=n.size+4:=by
 show (n++⟨#[46,114,101,99]⟩:ByteArray).size=_;rw[ByteArray.size_append];rfl
theorem NL (d:CH):(C2 d).length≤d.ctors.length+d.funs.length+2:=by
 unfold C2;split
 ·simp
 split
 ·simp
 split<;>simp<;>omega
section
variable {d:CH}{i:Int}{nm:ByteArray}
theorem Na (h:d.kind=0∨d.kind=1∨d.kind=2) {k:Int}(hk:d.kind=k):Fl d i nm=⟨k,i,0,d.params,d.type⟩:=by rw[Fl,if_pos h,hk]
theorem aD (h:d.kind=3) (hn:nm=d.name):Fl d i nm=⟨3,i,0,d.params,d.type⟩:=by rw[Fl,if_neg An,if_pos h,if_pos hn]
theorem Xi (h:d.kind=3) (hn:¬nm=d.name) {j:Nat}{c:IX}(hc:d.ctors[j]?=some c) (he:c.name=nm) (hb:∀q,q<j→∀y,d.ctors[q]?=some y→y.name≠nm):Fl d i nm=⟨4,i,j,d.params,c.type⟩:=by
 rw[Fl,if_neg An,if_pos h,if_neg hn,OH,PG hc he hb,Int.zero_add];rfl
theorem ax (h:d.kind=3) (hn:¬nm=d.name) (hb:∀q:Nat,q<d.ctors.length→∀y,d.ctors[q]?=some y→y.name≠nm):Fl d i nm=⟨5,i,0,d.recs.params,d.recs.type⟩:=by
 rw[Fl,if_neg An,if_pos h,if_neg hn,OH,Ng hb];rfl
theorem bQ (h:¬(d.kind=0∨d.kind=1∨d.kind=2)) (h3:¬d.kind=3) {j:Nat}{c:G7}(hc:d.funs[j]?=some c) (he:c.name=nm) (hb:∀q,q<j→∀y,d.funs[q]?=some y→y.name≠nm):Fl d i nm=⟨6,i,j,d.params,c.type⟩:=by
 rw[Fl,if_neg h,if_neg h3,QR,RK hc he hb,Int.zero_add];rfl
theorem aV (h:¬(d.kind=0∨d.kind=1∨d.kind=2)) (h3:¬d.kind=3) (hb:∀q:Nat,q<d.funs.length→∀y,d.funs[q]?=some y→y.name≠nm):Fl d i nm=⟨0,i,0,d.params,d.type⟩:=by
 rw[Fl,if_neg h,if_neg h3,QR,PW hb];rfl
end
theorem aX {ds:List CH}{nm:ByteArray}{i:Nat}{d:CH}(hx:ds[i]?=some d) (hb:∀j,j<i→∀y,ds[j]?=some y→HQ (C2 y) nm=false) (hn:HQ (C2 d) nm=true):Bp ds nm=(Fl d i nm,0):=by
 rw[Bp,ZM hx hb hn,Int.zero_add]
theorem XJ {ds:List CH}{nm:ByteArray}(hb:∀j,j<ds.length→∀y,ds[j]?=some y→HQ (C2 y) nm=false):Bp ds nm=(bY,9):=by
 rw[Bp,S4 hb]
theorem Rq {nm:ByteArray}{i p:Int}{o:GR}(ho:o.kind≠4):∀{cs:List IX}{k:Int},(N4 nm i p o cs k).kind=4→(N4 nm i p o cs k).decl=i∧k≤(N4 nm i p o cs k).item∧(N4 nm i p o cs k).item<k+cs.length
 | [],k,h=>absurd h ho
 | c::cs,k,h=>by
  unfold N4 at h ⊢;split at h
  ·rename_i hc;rw[if_pos hc];exact⟨O,Int.le_refl _,by simp only[List.length_cons];omega⟩
  rename_i hc;rw[if_neg hc];have:=Rq ho h;simp only[List.length_cons];exact⟨this.1,by have:=this.2.1;omega,by have:=this.2.2;omega⟩
theorem Tt {nm:ByteArray}{i p:Int}{o:GR}(ho:o.kind≠4):∀{cs:List G7}{k:Int},(bH nm i p o cs k).kind≠4
 | [],k=>ho
 | c::cs,k=>by
  unfold bH;split
  ·simp
  exact Tt ho
theorem _root_.Go.Ab {α:Prop}(h:α:=by simp only;omega):α:=h
theorem Tu {nm:ByteArray}:∀{ds:List CH}{k:Int}{e:GR},findF nm ds k=some e→e.kind=4→∃(j:Nat) (d:CH),e.decl=k+j∧ds[j]?=some d∧0≤e.item∧e.item<d.ctors.length
 | [],k,e,h,_=>by cases h
 | a::ds,k,e,h,hk=>by
  rw[findF,Ji] at h;by_cases hn:HQ (C2 a) nm=true
  ·rw[if_pos hn] at h;simp only[Option.some.injEq] at h;subst h;refine⟨0,a,?_⟩;unfold Fl at hk ⊢;split at hk
   ·rename_i q;exact absurd hk Ab
   rename_i q;rw[if_neg q];split at hk
   ·rename_i q3;rw[if_pos q3];split at hk
    ·cases hk
    rename_i qn;rw[if_neg qn];have:=Rq Ao hk;exact⟨by rw[this.1];omega,rfl,this.2.1,by have:=this.2.2;omega⟩
   exact absurd hk (Tt Ao)
  rw[if_neg hn] at h;simp only at h;obtain⟨j,d,h1,h2,h3⟩:=Tu h hk;exact⟨j+1,d,by omega,by simpa using h2,h3⟩
theorem XY {ds:List CH}{nm:ByteArray}(h0:(Bp ds nm).2=0) (hk:(Bp ds nm).1.kind=4):∃d,0≤(Bp ds nm).1.decl∧ds[(Bp ds nm).1.decl.toNat]?=some d∧0≤(Bp ds nm).1.item∧(Bp ds nm).1.item<d.ctors.length:=by
 unfold Bp at h0 hk ⊢;cases e:findF nm ds 0 with
 | none=>rw[e] at h0;simp at h0
 | some x =>
  rw[e] at hk;obtain⟨j,d,h1,h2,h3,h4⟩:=Tu e hk;simp only;exact⟨d,by omega,by rw[h1];simpa using h2,h3,h4⟩
end Go.Eu
namespace Go.Abs
section
variable {P:Program}{H:List BI}{dst:Option Tmp}{ty:TypeId}{pos:String}{aft:Array Edge}{x y:Operand}{ρ:Operand→AV}{g:Option (Nat×Bool)}
end
section
variable {P:Program}{dst:Option Tmp}{ty:TypeId}{pos:String}{aft:Array Edge}{g:Option (Nat×Bool)}{ρ:Operand→AV}{H:List BI}{x y z:Operand}{v:AV}
def qL (s:ByteArray):List (List PV):=s.data.toList.map fun b=>[PV.int .u8 b.toNat]
end
section
variable {P:Program}{dst:Option Tmp}{ty:TypeId}{pos:String}{aft:Array Edge}{g:Option (Nat×Bool)}{ρ:Operand→AV}{H:List BI}{x y z:Operand}{v:AV}
def qO (T:TypeId) (cs:List AV) (H:List BI):ER→List BI→Prop
 | .val v,H'=>∃b,v= .ptr b 0∧H'= .boxT b T cs::H
 | .panic _,_=>False
end
section
variable {P:Program}{dst:Option Tmp}{ty:TypeId}{pos:String}{aft:Array Edge}{g:Option (Nat×Bool)}{ρ:Operand→AV}{H:List BI}{x:Operand}
end
def At (cells:List PV) (o:Nat) (us:List PV):Prop:=∃rest,cells.drop o=us++rest
theorem At.front {us rest:List PV}:At (us++rest) 0 us:=⟨rest,rfl⟩
theorem At.all {us:List PV}:At us 0 us:=⟨[],by simp⟩
theorem At.one {c:PV}{rest:List PV}:At (c::rest) 0 [c]:=⟨rest,rfl⟩
theorem At.cons {c:PV}{cells us:List PV}{o:Nat}(h:At cells o us):At (c::cells) (o+1) us:=h
theorem At.app {a cells us:List PV}{o n:Nat}(hn:a.length=n) (h:At cells o us):At (a++cells) (n+o) us:=by
 obtain⟨rest,h⟩:=h;exact⟨rest,by rw[List.drop_append,←hn,List.drop_of_length_le An];simpa using h⟩
theorem At.sub {cells us vs:List PV}{o p:Nat}(h:At cells o us) (h':At us p vs) (hp:p≤us.length):At cells (o+p) vs:=by
 obtain⟨r,h⟩:=h;obtain⟨r',h'⟩:=h';exact⟨r'++r,by rw[←List.drop_drop,h,List.drop_append_of_le_length hp,h',List.append_assoc]⟩
theorem At.drop {cells us:List PV}{a b:Nat}(h:At cells (a+b) us):At (cells.drop a) b us:=by
 unfold At at h ⊢
 rwa [List.drop_drop]
section
variable {P:Program}{dst:Option Tmp}{ty:TypeId}{pos:String}{aft:Array Edge}{g:Option (Nat×Bool)}{ρ:Operand→AV}{H:List BI}{x:Operand}{T:TypeId}{b o i n:Nat}{cells us:List PV}{c:PV}
theorem Bu (hT:EB P T=some (true,n)) (hx:ρ x= .ptr b o) (hi:H[i]?=some (.box b (cells.map .p))) (ha:At cells o us) (hn:us.length=n):Dh P ⟨dst,.load T x,ty,pos,aft,g⟩ ρ H (.agg (us.map .p)) H:=by
 have e:((cells.map AV.p).drop o).take n=us.map .p:=by
  obtain⟨rest,h⟩:=ha;rw[←List.map_drop,h,List.map_append,List.take_left' (by rw[List.length_map,hn])]
 exact LY hT hx hi (by rw[e,List.length_map,hn]) (by rw[e])
theorem A3 (hT:EB P T=some (false,n)) (hx:ρ x= .ptr b o) (hi:H[i]?=some (.box b (cells.map .p))) (ha:At cells o [c]):Dh P ⟨dst,.load T x,ty,pos,aft,g⟩ ρ H (.p c) H :=
 B5 hT hx hi (by
  obtain⟨rest,h⟩:=ha;have:=congrArg (fun l:List PV=>l[0]?) h;simp only[List.getElem?_drop,Nat.add_zero,List.singleton_append,List.getElem?_cons_zero] at this;simp[this])
theorem DC (hT:EB P T=some (true,n)) (hx:ρ x= .ref (cells.drop o)) (ha:At cells o us) (hn:us.length=n):Dh P ⟨dst,.load T x,ty,pos,aft,g⟩ ρ H (.agg (us.map .p)) H :=
 LR hT hx hn (by obtain⟨rest,h⟩:=ha;rw[h];exact List.take_left)
theorem C6 (hT:EB P T=some (false,n)) (hx:ρ x= .ref (cells.drop o)) (ha:At cells o [c]):Dh P ⟨dst,.load T x,ty,pos,aft,g⟩ ρ H (.p c) H:=by
 obtain⟨rest,h⟩:=ha;exact E8 hT (hx.trans (congrArg AV.ref h))
variable {y:Operand}
theorem W2 {a b:Bool}{T U:TypeId}(hu:P.underlying T=some .bool) (hx:ρ x= .p (.bool a)) (hy:ρ y= .p (.bool b)):Dh P ⟨dst,.binOp .neq T x y U,ty,pos,aft,g⟩ ρ H (.p (.bool (a !=b))) H :=
 CN fun F w E hH hE=>by
  have e1:=hE x Aa;have e2:=hE y Aa;rw[hx] at e1;rw[hy] at e2;simp only[CE,CI] at e1 e2;refine⟨.bool (a !=b),?_,by simp[CE,CI]⟩;have hg:(eqGuard .neq T x y (.bool a) (.bool b)).run P w= .ok () w:=by unfold eqGuard;rfl
  have hq:(Op.equal T (.bool a) (.bool b)).run P w= .ok (a==b) w:=Ht hu rfl;simp[execOp,Sem.run_bind,hg,e1,e2,binOp,hq,bne]
theorem Dz {bl:Bool}{cs vs ds:List AV}(hT:EB P T=some (bl,n+1)) (hx:ρ x= .ptr b o) (hi:H[i]?=some (.box b cs)) (hy:Ee (ρ y)=some vs) (hn:vs.length=n+1)
  (ho:Nat.ble (o+(n+1)) cs.length=true) (h1:vs.all one=true) (hd:splice cs o vs=ds):Dh P ⟨dst,.store T x y,ty,pos,aft,g⟩ ρ H (.p .any) (H.set i (.box b ds)):=by
 subst hd;exact J1 hT hx hi hy hn ho h1
end
def rP (k:ByteArray):List (ByteArray×AV)→Option AV
 | []=>none
 | (j,x)::r=>if j=k then some x else rP k r
def sset (k:ByteArray) (v:AV):List (ByteArray×AV)→List (ByteArray×AV)
 | []=>[(k,v)]
 | (j,x)::r=>if j=k then (j,v)::r else (j,x)::sset k v r
def uD (l:List (ByteArray×AV)):List (PV×AV):=l.map fun p=>(.str p.1,p.2)
def sj (P:Program) (T:TypeId):Option TypeId :=
 match P.underlying T with
 | some (.map k e)=>match P.underlying k with
  | some .string=>some e
  | _=>none
 | _=>none
section
variable {F:Nat→Prop}{w:World}
end
section
variable {P:Program}{dst:Option Tmp}{ty:TypeId}{pos:String}{aft:Array Edge}{g:Option (Nat×Bool)}{ρ:Operand→AV}{H:List BI}{x y z:Operand}{v:AV}
end
section
variable {P:Program}{dst:Option Tmp}{ty:TypeId}{pos:String}{aft:Array Edge}{g:Option (Nat×Bool)}{ρ:Operand→AV}{H:List BI}{x y z:Operand}{v:AV}
def appendTR (i:Nat) (e:TypeId) (rows:List (List PV)) (H:List BI):ER→List BI→Prop
 | .val v,H'=>∃o c,v= .vs o rows.length c∧H'=H.set i (.vecT o e false rows c)
 | .panic _,_=>False
theorem SF {a b:ByteArray}{T U:TypeId}(hx:ρ x= .p (.str a)) (hy:ρ y= .p (.str b)) (hsz:a.size+b.size≤9223372036854775807):Dh P ⟨dst,.binOp .add T x y U,ty,pos,aft,g⟩ ρ H (.p (.str (a++b))) H :=
 CN fun F w E hH hE=>by
  have e1:=hE x Aa;have e2:=hE y Aa;rw[hx] at e1;rw[hy] at e2;simp only[CE,CI] at e1 e2;have hm:¬(((a.size+b.size:Nat):Int) > IntKind.i64.max):=by rw[show IntKind.i64.max=9223372036854775807 from rfl];omega
  have h1:(Op.stringOp .add a b).run P w= .ok (.string (a++b)) w:=by
   unfold Op.stringOp;simp only[if_neg hm];rfl
  exact⟨.string (a++b),by simp[execOp,Sem.run_bind,L0,e1,e2,binOp,h1],by simp[CE,CI]⟩
end
section
variable {P:Program}{r:Option Nat}{ops:Array Oper}{Q:Cx→Br→Prop}{k:Nat}{n:Nat}{τ:Nat→AV}{H H':List BI}{D:List EN}{dst:Option Tmp}{op:Op}{ty:TypeId}{pos:String}{aft:Array Edge}{g:Option (Nat×Bool)}{v:AV}
end
section
variable {P:Program}{dst:Option Tmp}{ty:TypeId}{pos:String}{aft:Array Edge}{g:Option (Nat×Bool)}{ρ:Operand→AV}{H:List BI}{x f:Operand}
end
section
variable {P:Program}{ops:Array Oper}{n:Nat}{τ₀ τ:Nat→AV}{D:List EN}{Q:Cx→Br→Prop}{opn:Nat→Bool}{k:Nat}{T:List BI}{dst:Option Tmp}{ty:TypeId}{pos:String}{aft:Array Edge}{c:Call}{f:Operand}{fid:FuncId}{first caps A:List AV}{v:AV}{C:List BI→Prop}
end
def Yz (l:List UInt8):List (List PV):=l.map fun b=>[PV.int .u8 b.toNat]
def BW (U e:TypeId) (b:Nat) (l:List UInt8) (T:List BI):Prop :=
 ∃a o cp,(a= .nilp∨a= .ptr b 0)∧T=[.boxT b U [a,.vs o (Yz l).length cp],.vecT o e false (Yz l) cp]
def BX (U e:TypeId) (b:Nat) (l:List UInt8) (T:List BI):Prop :=
 ∃a o cp fr,T=[.boxT b U [a,.vs (some o) (Yz l).length cp],.vecT (some o) e fr (Yz l) cp]
def uQ (l:List UInt8):ByteArray:=⟨l.toArray⟩
section
variable {P:Program}{dst:Option Tmp}{ty:TypeId}{pos:String}{aft:Array Edge}{g:Option (Nat×Bool)}{ρ:Operand→AV}{H:List BI}{x y z:Operand}
end
theorem PF {α:Type}:∀(xs l:List α) (o:Nat),o+xs.length≤l.length→splice l o xs=l.take o++xs++l.drop (o+xs.length)
 | [],l,o,h=>by simp[splice]
 | x::xs,l,o,h=>by
  simp only[List.length_cons] at h;rw[splice,PF xs _ _ (by rw[List.length_set];omega)];have h1:(l.set o x).take (o+1)=l.take o++[x]:=by
   rw[List.take_add_one,List.getElem?_set_self An,List.take_set_of_le (Nat.le_refl _)];rfl
  have h2:(l.set o x).drop (o+1+xs.length)=l.drop (o+(x::xs).length):=by
   rw[List.drop_set_of_lt An];congr 1;simp only[List.length_cons];omega
  rw[h1,h2];simp
def Gz:Nat→List (List PV)→List (Nat×AV)
 | _,[]=>[]
 | k,r::rs=>(k,.agg (r.map .p))::Gz (k+1) rs
theorem VW {sz:Nat}:∀(rows:List (List PV)) (k:Nat) (base:List AV),(∀r∈rows,r.length=sz)→(k+rows.length)*sz=base.length→FY (fun i=>some (i*sz,sz)) base (Gz k rows)=some (base.take (k*sz)++rows.flatten.map .p)
 | [],k,base,hr,hb=>by
  simp only[List.length_nil,Nat.add_zero] at hb;simp[Gz,FY,hb]
 | r::rows,k,base,hr,hb=>by
  have hl:=hr r Ao;have hb2:k*sz+sz+rows.length*sz=base.length:=by
   rw[←hb,List.length_cons,Nat.add_mul,Nat.add_mul,Nat.one_mul];omega
  simp only[Gz,FY,Ee];rw[if_pos ⟨by simp[hl],by simp[hl];omega⟩,PF _ _ _ (by simp[hl];omega)];rw[VW rows (k+1) _ (fun x hx=>hr x (by simp[hx])) (by simp only[List.length_append,List.length_take,List.length_drop,List.length_map,hl];rw[Nat.add_mul,Nat.add_mul,Nat.one_mul];omega)];congr 1;have h1:((base.take (k*sz)++r.map AV.p)++base.drop (k*sz+(r.map AV.p).length)).take ((k+1)*sz)=base.take (k*sz)++r.map .p:=by
   have:(k+1)*sz=(base.take (k*sz)++r.map AV.p).length:=by
    simp only[List.length_append,List.length_take,List.length_map,hl];rw[Nat.add_mul,Nat.one_mul];omega
   rw[this,List.take_left'];rfl
  rw[h1];simp
theorem QB {α:Type}{sz:Nat}:∀{rows:List (List α)},(∀r∈rows,r.length=sz)→chunks sz rows.length rows.flatten=rows
 | [],_=>rfl
 | r::rows,h=>by
  have hl:=h r Ao;simp only[List.length_cons,chunks,List.flatten_cons];rw[List.take_left' hl,List.drop_left' hl,QB fun x hx=>h x (by simp[hx])]
theorem R8:∀(rows:List (List PV)) (k:Nat),(∀r∈rows,∀c∈r,c≠ .nils)→(Gz k rows).map (fun p=>(p.1,norm p.2))=Gz k rows
 | [],k,h=>rfl
 | r::rows,k,h=>by
  simp only[Gz,List.map_cons];show (k,AV.agg ((r.map AV.p).map dn))::_=_;rw[R8 rows (k+1) fun x hx=>h x (by simp[hx])];congr 3;have:=h r Ao;clear h
  induction r with
  | nil=>rfl
  | cons c r ih =>
   simp only[List.map_cons];rw[ih fun d hd=>this d (by simp[hd])];have:=this c Ao;cases c<;>simp_all [dn]
section
variable {P:Program}{dst:Option Tmp}{ty:TypeId}{pos:String}{aft:Array Edge}{g:Option (Nat×Bool)}{ρ:Operand→AV}{H:List BI}
theorem Rv:∀(r:List PV),Gb (r.map .p)=some r
 | []=>rfl
 | c::r=>by simp[Gb,Rv r]
theorem YC {parts:Array (Nat×Operand)}{rows:List (List PV)}(hp:parts.toList.map (fun p=>(p.1,ρ p.2))=Gz 0 rows) (hn:∀r∈rows,∀c∈r,c≠ .nils):parts.toList.map (fun p=>(p.1,norm (ρ p.2)))=Gz 0 rows:=by
 have h2:=R8 rows 0 hn;rw[←hp,List.map_map] at h2;rw[←hp];exact h2
theorem Bx {T e:TypeId}{len sz bytes:Nat}{parts:Array (Nat×Operand)}{z:Value}{rows:List (List PV)}(hT:Fq P T=some (e,sz,bytes)) (hz:zeroOf P e=some z) (hsz:z.cells.size=sz) (hpos:(Nat.blt 0 sz&&Nat.ble (len*sz) 16777216)=true)
  (hp:parts.toList.map (fun p=>(p.1,ρ p.2))=Gz 0 rows) (hl:rows.length=len) (hr:∀r∈rows,r.length=sz) (hn:∀r∈rows,∀c∈r,c≠ .nils) :
  Dh P ⟨dst,.buildSlice T len parts,ty,pos,aft,g⟩ ρ H (.p (.lst rows)) H:=by
 subst hl;refine Bl (cs:=rows.flatten.map .p) (ps:=rows.flatten) hT hz hsz hpos ?_ (Rv _) (QB hr);rw[YC hp hn,VW rows 0 _ hr (by simp[hsz])];simp
theorem QM {T e:TypeId}{len sz bytes:Nat}{parts:Array (Nat×Operand)}{z:Value}{cs:List AV}{ps:List PV}{rows:List (List PV)}(hT:Fq P T=some (e,sz,bytes)) (hz:zeroOf P e=some z) (hsz:z.cells.size=sz) (hpos:(Nat.blt 0 sz&&Nat.ble (len*sz) 16777216)=true)
  (hc:FY (fun i=>some (i*sz,sz)) (List.replicate len (z.cells.toList.map Gt)).flatten (parts.toList.map fun p=>(p.1,norm (ρ p.2)))=some cs) (hp:Gb cs=some ps) (hr:chunks sz len ps=rows) :
  DP P ⟨dst,.buildSlice T len parts,ty,pos,aft,g⟩ ρ H (Lm sz rows H) :=
 HX fun F w E hH hE=>by
  obtain⟨hu,i,hi,hs,hby⟩:=FQ hT;simp only[Bool.and_eq_true,Nat.blt_eq,Nat.ble_eq] at hpos;unfold zeroOf at hz;have hz':∃j,P.info? e=some j∧j.zero=some z:=by
   cases hq:P.info? e with
   | none=>simp[hq] at hz
   | some j=>exact⟨j,rfl,by simpa [hq] using hz⟩
  obtain⟨j,hj,hz'⟩:=hz';have hzv:(zeroValue e).run P w= .ok z w:=by simp[zeroValue,typeInfo,hj,hz',Sem.run_bind]
  have hzl:B0 F w (List.replicate len (z.cells.toList.map Gt)).flatten (List.replicate len z.cells.toList).flatten:=HW (G9 _) len;obtain⟨us,hf,hrep⟩:=JC (F:=F) (w:=w) (place:=fun i=>some (i*sz,sz)) _ (parts.toList.map fun p=>(p.1,E p.2)) _ _ _ Ao (by
   intro j p q h1 h2;simp only[List.getElem?_map] at h1 h2;cases hj:parts.toList[j]? with
   | none=>simp[hj] at h1
   | some t =>
    simp[hj] at h1 h2;subst h1;subst h2;exact⟨O,(hE _ (by
     have:=List.mem_of_getElem? hj;simp only[Op.operands];exact List.mem_map.2 ⟨t,this,O⟩)).norm⟩) hzl hc
  have hcs:=H7 hp;have hlen:ps.length=len*sz:=by
   have h1:cs.length=((List.replicate len (z.cells.toList.map Gt)).flatten).length:=by
    clear hrep hp hcs hzl hf;generalize (List.replicate len (z.cells.toList.map Gt)).flatten=l at hc;generalize (parts.toList.map fun p=>(p.1,norm (ρ p.2)))=q at hc
    induction q generalizing l with
    | nil=>simp[FY] at hc;rw[hc]
    | cons a q ih =>
     obtain⟨i,x⟩:=a;simp only[FY] at hc;cases hx:Ee x with
     | none=>simp[hx] at hc
     | some c2 =>
      simp only[hx] at hc;split at hc
      ·rw[ih _ hc,G3]
      cases hc
   rw[hcs] at h1;simp only[List.length_map,List.length_flatten,List.map_replicate,List.sum_replicate_nat,Array.length_toList,hsz] at h1;exact h1
  obtain⟨c1,c2,c3⟩:=Lh hlen;rw[hr] at c1 c2 c3;have hul:us.length=ps.length:=by rw[hrep.length,hcs];simp
  obtain⟨v0,H0,F0,h10,h20,h30,h40⟩:=OR (T:=e) (c:=len) (vs:=us) (H:=H) hH c2 (by rw[c1,←hul,List.take_length];rw[hcs] at hrep;exact hrep) An An;rw[c3] at h40;refine⟨_,_,v0,H0,F0,?_,h10,h20,h30,h40⟩;have hszr:(sizeOf e).run P w= .ok sz w:=by simp[sizeOf,typeInfo,hi,hs]
  have hzc:z.cells=⟨z.cells.toList⟩:=rfl;have hrm:=JH z.cells.toList len;have hsz2:z.cells.toList.length=sz:=by simpa using hsz
  rw[hsz2] at hrm;have harr:((Array.range (len*sz)).map fun i=>z.cells[i % z.cells.size]!)=⟨(List.replicate len z.cells.toList).flatten⟩:=by
   apply Array.ext';exact hrm
  simp only[execOp,Instr.buildSlice,Sem.run_bind,run_underlying hu,Result.andThen_ok,hszr];rw[if_neg An];simp only[Sem.run_pure,Result.andThen_ok,Sem.run_bind,pure_bind];have hf':Instr.fill (fun i=>some (i*sz,sz)) ⟨(List.replicate len z.cells.toList).flatten⟩ (parts.map fun p=>(p.1,E p.2)).toList=some ⟨us⟩:=by
   rw[←hf];simp
  by_cases h00:len*sz=0
  ·have hl0:len=0:=by
    rcases Nat.mul_eq_zero.1 h00 with h | h
    ·exact h
    omega
   subst hl0;simp only[Nat.zero_mul,if_true];simp only[List.replicate_zero,List.flatten_nil] at hf';have e0:(Array.map (fun x=>(#[]:Array Value)[x % (#[]:Array Value).size]!) (Array.range 0))=(⟨[]⟩:Array Value):=by simp
   rw[e0,hf'];simp only[newRow,newObj,Sem.run_bind,Sem.run,Result.andThen,Sem.run_pure];rfl
  rw[if_neg h00];simp only[Sem.run_bind,hzv,Result.andThen_ok];rw[harr,hf'];simp only[newRow,newObj,Sem.run_bind,Sem.run,Result.andThen,Sem.run_pure];rfl
end
section
variable {P:Program}{ops:Array Oper}{n:Nat}{τ₀:Nat→AV}{D:List EN}{Q:Cx→Br→Prop}{opn:Nat→Bool}{k:Nat}{τ:Nat→AV}{H:List BI}{rd:Wv}{ef:Wa}{effs:List Bool}{fx:List (Nat×Sp)}{dst:Option Tmp}{op:Op}{ty:TypeId}{pos:String}{aft:Array Edge}
end
section
variable {P:Program}{ty:TypeId}{pos:String}{aft:Array Edge}{g:Option (Nat×Bool)}{ρ:Operand→AV}{H:List BI}{x y:Operand}
theorem VX {T T2 e e2:TypeId}{sz bytes n2 n3 d c i n:Nat}{o:Option Nat}{rows rows' all:List (List PV)}{zv:Value}(hT:Fq P T=some (e,sz,bytes)) (hT2:Fq P T2=some (e2,n2,n3)) (hz:zeroOf P e=some zv) (hzs:zv.cells.size=sz) (hb0:(Nat.blt 0 sz&&Nat.blt 0 bytes)=true)
  (hx:ρ x= .vs o n c) (hn:n=rows.length) (hi:H[i]?=some (.vec o sz rows c)) (hy:norm (ρ y)= .p (.lst rows')) (hsol:∀r∈rows',EG sz r) (hroom:2*(rows.length+rows'.length)*bytes≤281474976710656) (hall:rows++rows'=all) :
  Dh P ⟨some d,.call { callee:= .builtin .append,args:=#[x,y],argTypes:=#[T,T2] },ty,pos,aft,g⟩ ρ H (.p (.lst all)) (H.eraseIdx i):=by
 subst hall;intro r F S a w hs hH hρ hd;subst hH;have h:=RQ (P:=P) (dst:=some d) (ty:=ty) (pos:=pos) (aft:=aft) (g:=g) (ρ:=ρ) (H:=S.H) (i:=i) (o:=o) (rows:=rows) (n:=n) (c:=c) hT hT2 hz hzs hb0 hx hn hi hy hsol hroom r F S a w hs rfl hρ hd;refine Mc h ?_ ?_
 ·rintro a' w' ⟨v,H',F',⟨o',c',rfl,rfl⟩,hs',ht⟩;have hlt:=(List.getElem?_eq_some_iff.1 hi).1;obtain⟨F'',hs'',ht''⟩:=Ce (n:=S.n) (τ:=put S.τ (some d) (.vs o' (rows++rows').length c')) (H:=S.H.set i (.vec o' sz (rows++rows') c')) (D:=S.D) (i:=i) [d] (List.getElem?_set_self hlt) (fun t ht=>by simp at ht;subst ht;simp[put]) F' a' w' hs';have e:J3 [d] (.p (.lst (rows++rows'))) (put S.τ (some d) (.vs o' (rows++rows').length c'))=put S.τ (some d) (.p (.lst (rows++rows'))):=by
   funext t;simp only[J3,put,List.any_cons,List.any_nil,Bool.or_false];cases Nat.beq t d<;>rfl
  have e2:(S.H.set i (.vec o' sz (rows++rows') c')).eraseIdx i=S.H.eraseIdx i:=List.eraseIdx_set_eq;simp only[e,e2] at hs'' ht'';exact⟨_,S.H.eraseIdx i,F'',⟨O,O⟩,hs'',ht.trans hs.heap.bd ht''⟩
 rintro e a' w' ⟨v,H',F',u,h,_⟩;exact h.elim
end
inductive Ey where
 | val (v:AV)
 | skip
 | new (cs:List AV)
 | newv (sz:Nat) (rows:List (List PV))
def Ey.v (b:Nat×Nat):Ey→AV
 | .val v=>v
 | .skip=> .tup []
 | .new _=> .ptr b.1 0
 | .newv _ rows=> .vs (some b.1) rows.length b.2
def Ey.box (b:Nat×Nat):Ey→List BI
 | .new cs=>[.box b.1 cs]
 | .newv sz rows=>[.vec (some b.1) sz rows b.2]
 | _=>[]
def ku (P:Program) (ops:Array Oper) (H₀:List BI) (o:Oper) (τ:Nat→AV):Ey→Prop
 | .val v=>Cw ops ⟨0,τ,[],[]⟩ o∧∀Bs,Dh P o (ev τ) (Bs++H₀) v (Bs++H₀)
 | .skip=>∃j want d,o.guard=some (j,want)∧(ops[j]?).bind (·.dst)=some d∧gL (τ d) want
 | .new cs=>o.guard=none∧∀Bs,DP P o (ev τ) (Bs++H₀) (Ic cs (Bs++H₀))
 | .newv sz rows=>o.guard=none∧∀Bs,DP P o (ev τ) (Bs++H₀) (Lm sz rows (Bs++H₀))
def EW (P:Program) (ops:Array Oper) (H₀:List BI):Nat→(Nat→AV)→List Ey→((Nat→AV)→List BI→Prop)→Prop
 | _,τ,[],K=>K τ []
 | k,τ,e::r,K=>∃o,ops[k]?=some o∧ku P ops H₀ o τ e∧∀b,EW P ops H₀ (k+1) (put τ o.dst (e.v b)) r (fun τ' Hs=>K τ' (e.box b++Hs))
def O2 (β:Nat→Nat×Nat):Nat→List Ey→List Sp
 | _,[]=>[]
 | k,e::r=> .free (e.v (β k))::O2 β (k+1) r
def oB (β:Nat→Nat×Nat):Nat→List Ey→List BI
 | _,[]=>[]
 | k,e::r=>e.box (β k)++oB β (k+1) r
def Wx (β:Nat→Nat×Nat) (l:Nat→Bool):Nat→List Ey→List BI
 | _,[]=>[]
 | k,e::r=>(if l k=true then e.box (β k) else [])++Wx β l (k+1) r
theorem Qf (β:Nat→Nat×Nat):∀(r:List Ey) (k j:Nat),j<r.length→(O2 β k r).getD j .skip= .free ((r.getD j .skip).v (β (k+j)))
 | [],k,j,h=>by simp at h
 | e::r,k,0,h=>by simp[O2]
 | e::r,k,j+1,h=>by
  have:=Qf β r (k+1) j (by simpa using h);simp only[O2,List.getD_cons_succ];rw[this,show k+1+j=k+(j+1) by omega]
theorem Yv (β:Nat→Nat×Nat):∀(r:List Ey) (k:Nat),(O2 β k r).length=r.length
 | [],k=>rfl
 | e::r,k=>by simp[O2,Yv β r (k+1)]
theorem Yd (β:Nat→Nat×Nat) {r:List Ey}{k j:Nat}(h:r.length≤j):(O2 β k r).getD j .skip= .skip:=by
 rw[List.getD_eq_getElem?_getD,List.getElem?_eq_none (by rw[Yv];exact h)];rfl
theorem ji (β:Nat→Nat×Nat) (r:List Ey) (k j:Nat):((O2 β k r).getD j .skip).isEff=false:=by
 rcases Nat.lt_or_ge j r.length with h | h
 ·rw[Qf β r k j h];rfl
 rw[Yd β h];rfl
theorem eH (β:Nat→Nat×Nat) (r:List Ey) (k j:Nat) (ob:List BI) (v:AV):(O2 β k r).getD j .skip≠ .read ob v:=by
 rcases Nat.lt_or_ge j r.length with h | h
 ·rw[Qf β r k j h];simp
 rw[Yd β h];simp
theorem QQ (β:Nat→Nat×Nat) {r:List Ey}{j:Nat}(h:j<r.length):((O2 β 0 r).getD j .skip).val=(r.getD j .skip).v (β j):=by
 rw[Qf β r 0 j h,Nat.zero_add];rfl
theorem EW.facts {P:Program}{ops:Array Oper}{H₀:List BI}{τ:Nat→AV}{base:List Ey}(β:Nat→Nat×Nat):∀(r:List Ey) (k:Nat) (τk:Nat→AV) (K:(Nat→AV)→List BI→Prop),base.drop k=r→k+r.length=base.length→τk=τS ops (O2 β 0 base) τ k→EW P ops H₀ k τk r K →
  (∀j,k≤j→j<base.length→∃o,ops[j]?=some o∧ku P ops H₀ o (τS ops (O2 β 0 base) τ j) (base.getD j .skip))∧K (τS ops (O2 β 0 base) τ base.length) (oB β k r)
 | [],k,τk,K,hd,hk,ht,h=>by
  simp only[List.length_nil,Nat.add_zero] at hk;subst hk;exact⟨fun j h1 h2=>by omega,by rw[←ht];exact h⟩
 | e::r,k,τk,K,hd,hk,ht,h=>by
  obtain⟨o,ho,hok,hn⟩:=h;simp only[List.length_cons] at hk;have hb:base.getD k .skip=e:=by
   have:(base.drop k)[0]?=some e:=by rw[hd];rfl
   rw[List.getElem?_drop] at this;rw[List.getD_eq_getElem?_getD,show k=k+0 by omega,this];rfl
  have hd2:base.drop (k+1)=r:=by
   rw[←List.drop_drop,hd];rfl
  obtain⟨h1,h2⟩:=EW.facts (τ:=τ) (base:=base) β r (k+1) _ _ hd2 An (by simp only[τS,ho,Option.bind_some];rw[QQ β An,hb,←ht]) (hn (β k));refine⟨fun j hj hl=>?_,h2⟩;by_cases e2:j=k
  ·subst e2;exact⟨o,ho,by rw[hb,←ht];exact hok⟩
  exact h1 j An hl
theorem PZ {β β':Nat→Nat×Nat}{l l':Nat→Bool}:∀(r:List Ey) (k:Nat),(∀j,k≤j→l j=l' j∧(l j=true→β j=β' j))→Wx β l k r=Wx β' l' k r
 | [],k,h=>rfl
 | e::r,k,h=>by
  simp only[Wx];obtain⟨h1,h2⟩:=h k (Nat.le_refl _);rw[PZ r (k+1) fun j hj=>h j An,←h1];cases hl:l k
  ·rfl
  rw[h2 hl]
theorem ZF {β:Nat→Nat×Nat}{l:Nat→Bool}{i:Nat}{b:Nat×Nat}(hi:l i=false):∀(r:List Ey) (k:Nat),k≤i→i<k+r.length→((r.getD (i - k) .skip).box b++Wx β l k r).Perm (Wx (fun j=>if j=i then b else β j) (fun j=>l j||j==i) k r)
 | [],k,h1,h2=>by simp at h2;omega
 | e::r,k,h1,h2=>by
  simp only[Wx];by_cases hk:k=i
  ·subst hk;simp only[hi,Bool.false_eq_true,if_false,List.nil_append,Nat.sub_self,List.getD_cons_zero,beq_self_eq_true,Bool.or_true,if_true];rw[PZ (β':=fun j=>if j=k then b else β j) (l':=fun j=>l j||j==k) r (k+1) fun j hj=>⟨by simp[show (j==k)=false by simp;omega],fun _=>by rw[if_neg An]⟩]
  have hp:=ZF (β:=β) hi r (k+1) (b:=b) An (by simp only[List.length_cons] at h2;omega);have e1:(e::r).getD (i - k) .skip=r.getD (i - (k+1)) .skip:=by
   rw[show i - k=(i - (k+1))+1 by omega];rfl
  have e2:(if (l k||k==i)=true then e.box (if k=i then b else β k) else [])=(if l k=true then e.box (β k) else []):=by
   rw[if_neg hk];simp[hk]
  rw[e1,e2];refine List.Perm.trans ?_ (hp.append_left _);rw[←List.append_assoc,←List.append_assoc];exact List.perm_append_comm.append_right _
theorem Y9 {β:Nat→Nat×Nat}{l:Nat→Bool}:∀(r:List Ey) (k:Nat),(∀j,k≤j→j<k+r.length→l j=true)→Wx β l k r=oB β k r
 | [],k,h=>rfl
 | e::r,k,h=>by
  simp only[Wx,oB];rw[if_pos (h k (Nat.le_refl _) Ao),Y9 r (k+1) fun j h1 h2=>h j An (by simp only[List.length_cons];omega)]
theorem V7 {β:Nat→Nat×Nat}{l:Nat→Bool}:∀(r:List Ey) (k:Nat),(∀j,l j=false)→Wx β l k r=[]
 | [],k,h=>rfl
 | e::r,k,h=>by simp only[Wx];rw[V7 r (k+1) h,h k];rfl
def kE (ops:Array Oper) (e:Nat):Bool:=(List.range ops.size).all fun i=>Nat.blt i e||(List.range i).all fun j=>M8 ops j i
theorem SH {ops:Array Oper}{e:Nat}(h:kE ops e=true) {i j:Nat}(hi:e≤i) (hs:i<ops.size) (hj:j<i):Pred ops j i:=by
 have:=List.all_eq_true.1 h i (by simpa using hs);simp only[Bool.or_eq_true] at this;rcases this with h1 | h1
 ·rw[Nat.blt_eq] at h1;omega
 exact Em (List.all_eq_true.1 h1 j (by simpa using hj))
theorem UF {P:Program}{r:Option Nat}{ops:Array Oper}{id n:Nat}{τ:Nat→AV}{H:List BI}{D:List EN}{Q:Cx→Br→Prop}(base:List Ey) (hm:P.follows .mixedOrders=true)
  (he:Nat.ble base.length ops.size=true) (chk:ND ops n []=true) (late:kE ops base.length=true) (h:EW P ops H 0 τ base (fun τ' Hs=>AL P r ops base.length ⟨n,τ',Hs++H,D⟩ Q)):I3 P r (.region id ops true) ⟨n,τ,H,D⟩ Q:=by
 intro F₀ a₀ w₀ hs₀;rw[Nat.ble_eq] at he;refine wpIn_region_any hm ?_;have same:DV F₀ w₀ F₀ { w₀ with drawn:=w₀.drawn+1 }:=⟨Nat.le_refl _,fun _ _ _=>rfl,fun _ h _=>h⟩;have t₀:Trans F₀ H w₀ F₀ H { w₀ with drawn:=w₀.drawn+1 } :=
  ⟨Nat.le_refl _,fun _ _ _=>rfl,fun _ h _=>h,fun _ h=> .inl h,fun o ho b hb=> .inl ⟨o,ho,hb⟩,rfl,rfl,rfl⟩
 have hs₁:Di F₀ ⟨n,τ,H,D⟩ a₀ { w₀ with drawn:=w₀.drawn+1 } :=
  ⟨hs₀.size,fun t=>CE.mono same _ _ (hs₀.tmp t),hs₀.heap.stable' same (fun _ h=>h) (fun _ _ _ _=>rfl) hs₀.heap.bd,FG.mono same _ _ hs₀.defs⟩
 obtain⟨hdst,c0,c1,c2,_⟩:=KN chk;have hd:∀β,O1 P ops n (fun _=>False) τ H (O2 β 0 base):=fun β =>
  ⟨hdst,fun _ _ _ h=>h.elim,c0,c1,c2,fun i k _ _ h _=>(by rw[ji] at h;cases h),fun i e ob v _ _ _ h _ _=>absurd h (eH β base 0 i ob v)⟩
 have hE:∀β,(∀j,j<base.length→∃o,ops[j]?=some o∧ku P ops H o (τS ops (O2 β 0 base) τ j) (base.getD j .skip))∧AL P r ops base.length ⟨n,τS ops (O2 β 0 base) τ base.length,oB β 0 base++H,D⟩ Q:=fun β=>by
  obtain⟨h1,h2⟩:=EW.facts (base:=base) β base 0 τ _ Ao Ao rfl h;exact⟨fun j hj=>h1 j (Nat.zero_le _) hj,h2⟩
 -- where all of the first part has been carried out,the rest goes in the order of the text
 have conv:∀{l:Array Bool} {a w β τ' F Hb},(∀j,j<base.length→l.getD j false=true)→(∀k,base.length≤k→l.getD k false=false)→Ga ops (O2 β 0 base) τ (fun i=>l.getD i false=true) τ'→Hb.Perm (Wx β (fun k=>l.getD k false) 0 base)→Di F ⟨n,τ',Hb++H,D⟩ a w→Trans F₀ H w₀ F (Hb++H) w →
   wpOpsIn (W r) 0 P ops (post F₀ H w₀ Q) (List.range' base.length (ops.size - base.length)) a w:=by
  intro l a w β τ' F Hb hall hno hτ hp hs ht;have hτe:τ'=τS ops (O2 β 0 base) τ base.length:=by
   funext t;have h2:=Mm (hd β) base.length he t;by_cases hw:∃(k:Nat) (o':Oper),ops[k]?=some o'∧o'.dst=some t∧k<base.length
   ·obtain⟨k,o',ho',hk,hlt⟩:=hw;rw[(hτ t).1 k o' ho' hk (hall k hlt),h2.1 k o' ho' hk hlt]
   have hw':∀(k:Nat) o',ops[k]?=some o'→o'.dst=some t→¬k<base.length:=fun k o' h1 h2 h3=>hw ⟨k,o',h1,h2,h3⟩;rw[(hτ t).2 fun k o' h1 h2 h3=>(by have h4:l.getD k false=true:=h3;have:=hno k (by have:=hw' k o' h1 h2;omega);rw[this] at h4;cases h4),h2.2 fun k o' h1 h2 h3=>hw' k o' h1 h2 h3]
  rw[Y9 base 0 fun j _ hj=>hall j An] at hp;have hp2:=hp.append_right H;have:=(hE β).2 F a w (by rw[←hτe];exact⟨hs.size,hs.tmp,hs.heap.perm hp2,hs.defs⟩);refine El (fun e a' w' hq=>?_) _ _ _ this;exact HC hs₀.heap.bd { ht with keys:=fun o ho=>ht.keys o (hp2.mem_iff.2 ho) } hq
 refine KS (I:=fun l a w=>l.size=ops.size∧((∃β τ' F Hb,Down ops (fun i=>l.getD i false=true)∧(∀k,base.length≤k→l.getD k false=false)∧Ga ops (O2 β 0 base) τ (fun i=>l.getD i false=true) τ'∧Hb.Perm (Wx β (fun k=>l.getD k false) 0 base)∧Di F ⟨n,τ',Hb++H,D⟩ a w∧Trans F₀ H w₀ F (Hb++H) w) ∨
  (∃m,base.length≤m∧m≤ops.size∧(∀k,k<ops.size→(l.getD k false=true↔k<m))∧wpOpsIn (W r) 0 P ops (post F₀ H w₀ Q) (List.range' m (ops.size - m)) a w))) (fun l a w h=>h.1) ?_ ?_ _ _ _ _ ?_ ?_
 ·rintro l a w ⟨hsz,hI⟩ i hi;obtain⟨hun,o,ho,hall⟩:=mem_ready.1 hi;have hlt:i<ops.size:=by
   rcases Nat.lt_or_ge i ops.size with h | h
   ·exact h
   simp[Array.getElem?_eq_none h] at ho
  have hil:i<l.size:=by omega
  have hnot:l.getD i false=false:=by
   have:l[i]=false:=by simpa [hil] using hun
   simp[hil,this]
  have hr:∀j∈EF o,l.getD j false=true:=by
   intro j hj;simp only[EF,List.mem_map,List.mem_filter] at hj;obtain⟨e,⟨he,hb⟩,rfl⟩:=hj;exact hall e (by simpa using he) hb
  have hset:∀k,(l.setIfInBounds i true).getD k false=true↔(l.getD k false=true∨k=i):=by
   intro k;by_cases hk:k=i
   ·subst hk;simp[hil]
   simp[Array.getElem?_setIfInBounds_ne (Ne.symm hk),hk]
  have hset2:∀k,(l.setIfInBounds i true).getD k false=(l.getD k false||k==i):=by
   intro k;by_cases hk:k=i
   ·subst hk;simp[hil]
   simp[Array.getElem?_setIfInBounds_ne (Ne.symm hk),hk]
  have hsz':(l.setIfInBounds i true).size=ops.size:=by simp[hsz]
  have goLate:∀m,i=m→base.length≤m→m≤ops.size→(∀k,k<ops.size→(l.getD k false=true↔k<m))→wpOpsIn (W r) 0 P ops (post F₀ H w₀ Q) (List.range' m (ops.size - m)) a w →
    wpOpIn (W r) 0 P ops (post F₀ H w₀ Q) i (fun a w=>(l.setIfInBounds i true).size=ops.size∧((∃β τ' F Hb,Down ops (fun k=>(l.setIfInBounds i true).getD k false=true)∧(∀k,base.length≤k→(l.setIfInBounds i true).getD k false=false)∧Ga ops (O2 β 0 base) τ (fun k=>(l.setIfInBounds i true).getD k false=true) τ'∧Hb.Perm (Wx β (fun k=>(l.setIfInBounds i true).getD k false) 0 base)∧Di F ⟨n,τ',Hb++H,D⟩ a w∧Trans F₀ H w₀ F (Hb++H) w) ∨
     (∃m,base.length≤m∧m≤ops.size∧(∀k,k<ops.size→((l.setIfInBounds i true).getD k false=true↔k<m))∧wpOpsIn (W r) 0 P ops (post F₀ H w₀ Q) (List.range' m (ops.size - m)) a w))) a w:=by
   intro m him h1 h2 h3 hw;subst him;rw[Kq hlt,wpOpsIn_cons] at hw;refine wpOpIn_mono (fun a' w' h'=>⟨hsz',.inr ⟨i+1,by omega,by omega,fun k hk=>?_,h'⟩⟩) hw;rw[hset k,h3 k hk];omega
  rcases hI with ⟨β,τ',F,Hb,hdown,hno,hτ,hp,hs,ht⟩ | ⟨m,hm1,hm2,hm3,hw⟩
  ·rcases Nat.lt_or_ge i base.length with hib | hib
   ·-- of the first part
    obtain⟨o',ho',hok⟩:=(hE β).1 i hib;rw[ho] at ho';injection ho' with ho';subst ho';have hlook:∀t∈looks ops o,τ' t=τS ops (O2 β 0 base) τ i t:=fun t ht=>KO (hd β) hdown hτ ho (by rw[hnot];decide) hr ht;have hops:∀x∈o.op.operands.toList,ev τ' x=ev (τS ops (O2 β 0 base) τ i) x:=by
     intro x hx;cases x with
     | tmp t=>exact hlook t (List.mem_append_left _ (List.mem_filterMap.2 ⟨.tmp t,hx,rfl⟩))
     | _=>rfl
    have hguard:∀j want d,o.guard=some (j,want)→(ops[j]?).bind (·.dst)=some d→τ' d=τS ops (O2 β 0 base) τ i d:=by
     intro j want d hg hj;refine hlook d (List.mem_append_right _ ?_);simp[hg,hj]
    have hdown':Down ops (fun k=>(l.setIfInBounds i true).getD k false=true):=by
     intro k o' j ho' hk hj;rcases (hset k).1 hk with h | h
     ·exact(hset j).2 (.inl (hdown k o' j ho' h hj))
     subst h;rw[ho] at ho';injection ho' with ho';subst ho';exact(hset j).2 (.inl (hr j hj))
    have hno':∀k,base.length≤k→(l.setIfInBounds i true).getD k false=false:=by
     intro k hk;rw[hset2 k,hno k hk];simp;omega
    generalize hbe:base.getD i .skip=e at hok;have close:∀{a' w' F' b H'},H'=e.box b++(Hb++H)→Di F' ⟨n,put τ' o.dst (e.v b),H',D⟩ a' w'→Trans F (Hb++H) w F' H' w' →
      (l.setIfInBounds i true).size=ops.size∧((∃β τ' F Hb,Down ops (fun k=>(l.setIfInBounds i true).getD k false=true)∧(∀k,base.length≤k→(l.setIfInBounds i true).getD k false=false)∧Ga ops (O2 β 0 base) τ (fun k=>(l.setIfInBounds i true).getD k false=true) τ'∧Hb.Perm (Wx β (fun k=>(l.setIfInBounds i true).getD k false) 0 base)∧Di F ⟨n,τ',Hb++H,D⟩ a' w'∧Trans F₀ H w₀ F (Hb++H) w') ∨
       (∃m,base.length≤m∧m≤ops.size∧(∀k,k<ops.size→((l.setIfInBounds i true).getD k false=true↔k<m))∧wpOpsIn (W r) 0 P ops (post F₀ H w₀ Q) (List.range' m (ops.size - m)) a' w')):=by
     intro a' w' F' b H' hH h3 h4;subst hH;refine⟨hsz',.inl ⟨fun j=>if j=i then b else β j,put τ' o.dst (e.v b),F',e.box b++Hb,hdown',hno',?_,?_,by rw[List.append_assoc];exact h3,by rw[List.append_assoc];exact ht.trans hs₀.heap.bd h4⟩⟩
     ·have hτ2:Ga ops (O2 (fun j=>if j=i then b else β j) 0 base) τ (fun k=>l.getD k false=true) τ':=by
       intro t;refine⟨fun k o' a1 a2 a3=>?_,(hτ t).2⟩;have a4:l.getD k false=true:=a3;have hki:k≠i:=fun e=>by subst e;rw[hnot] at a4;cases a4
       rw[(hτ t).1 k o' a1 a2 a3];rcases Nat.lt_or_ge k base.length with hk | hk
       ·rw[QQ _ hk,QQ _ hk,if_neg hki]
       have:=hno k hk;rw[this] at a4;cases a4
      have hτ3:=hτ2.put (hd _) ho;rw[QQ _ hib,if_pos rfl,hbe] at hτ3;intro t;exact⟨fun k o' a1 a2 a3=>(hτ3 t).1 k o' a1 a2 ((hset k).1 a3),fun hn=>(hτ3 t).2 fun k o' a1 a2 a3=>hn k o' a1 a2 ((hset k).2 a3)⟩
     have h1:=ZF (β:=β) (l:=fun k=>l.getD k false) (i:=i) (b:=b) hnot base 0 (Nat.zero_le _) An;rw[Nat.sub_zero,hbe] at h1;refine(hp.append_left _).trans (h1.trans (List.Perm.of_eq ?_));exact PZ base 0 fun j _=>⟨(hset2 j).symm,fun _=>O⟩
    have wants:Cw ops ⟨0,τS ops (O2 β 0 base) τ i,[],[]⟩ o→Cw ops ⟨n,τ',Hb++H,D⟩ o:=by
     intro h;unfold Cw at *;cases hg:o.guard with
     | none=>simp[hg]
     | some jw =>
      obtain⟨j,want⟩:=jw;simp only[hg] at h ⊢;obtain⟨d,h1,h2⟩:=h;exact⟨d,h1,by rw[←h2];exact hguard j want d hg h1⟩
    have yields:Cw ops ⟨n,τ',Hb++H,D⟩ o→DP P o (ev (τS ops (O2 β 0 base) τ i)) (Hb++H) (fun r H'=>match r with | .val v=>∃b,v=e.v b∧H'=e.box b++(Hb++H) | .panic _=>False)→wpOpIn (W r) 0 P ops (post F₀ H w₀ Q) i (fun a' w'=>(l.setIfInBounds i true).size=ops.size∧((∃β τ' F Hb,Down ops (fun k=>(l.setIfInBounds i true).getD k false=true)∧(∀k,base.length≤k→(l.setIfInBounds i true).getD k false=false)∧Ga ops (O2 β 0 base) τ (fun k=>(l.setIfInBounds i true).getD k false=true) τ'∧Hb.Perm (Wx β (fun k=>(l.setIfInBounds i true).getD k false) 0 base)∧Di F ⟨n,τ',Hb++H,D⟩ a' w'∧Trans F₀ H w₀ F (Hb++H) w') ∨
       (∃m,base.length≤m∧m≤ops.size∧(∀k,k<ops.size→((l.setIfInBounds i true).getD k false=true↔k<m))∧wpOpsIn (W r) 0 P ops (post F₀ H w₀ Q) (List.range' m (ops.size - m)) a' w'))) a w:=by
     intro hwant hop;unfold wpOpIn;simp only[ho,H8 hs hwant,if_true];have hw:=hop r F _ a w hs rfl (fun x hx=>hops x hx) (fun t ht=>hdst i o t ho ht);unfold Oper.wpIn at *;refine⟨hw.1,?_⟩;replace hw:=hw.2;generalize (o.semAt (W r).round a.eval).run P w=rr at *;cases rr with
     | ok nx w' =>
      cases nx<;>simp only[Oper.uponIn] at hw ⊢
      case value u=>obtain⟨v',H'',F',⟨b,h1,h2⟩,h3,h4⟩:=hw;subst h1;exact close h2 h3 h4
      case skip=>obtain⟨v',H'',F',⟨b,h1,h2⟩,h3,h4⟩:=hw;subst h1;exact close h2 h3 h4
      case defer d=>obtain⟨v',H'',F',⟨b,h1,h2⟩,h3,h4⟩:=hw;subst h1;exact close h2 h3 h4
      case enter f args =>
       refine⟨hw.1,hw.2.mono fun e w'' he=>?_⟩;cases e with
       | returned u=>obtain⟨v',H'',F',⟨b,h1,h2⟩,h3,h4⟩:=he;subst h1;exact close h2 h3 h4
       | panicked c=>obtain⟨_,_,_,_,h,_⟩:=he;exact h.elim
       | outgrown=>obtain⟨_,_,_,_,_,_,h,_⟩:=he;exact h.elim
      case row row args=>exact⟨hw.1,hw.2.mono fun u w'' h=>by obtain⟨v',H'',F',⟨b,h1,h2⟩,h3,h4⟩:=h;subst h1;exact close h2 h3 h4⟩
      case round l' f tmps assign body =>
       refine⟨hw.1,hw.2.mono fun e w'' he=>?_⟩;cases e with
       | returned u=>obtain⟨v',H'',F',⟨b,h1,h2⟩,h3,h4⟩:=he;subst h1;exact close h2 h3 h4
       | panicked c=>obtain⟨_,_,_,_,h,_⟩:=he;exact h.elim
       | outgrown=>obtain⟨_,_,_,_,_,_,h,_⟩:=he;exact h.elim
     | halt x w' =>
      cases x<;>simp only[Oper.uponIn] at hw ⊢
      case panic u=>obtain⟨_,_,_,_,h,_⟩:=hw;exact h.elim
    cases e with
    | val v=>exact yields (wants hok.1) ((hok.2 Hb).mono (by
      intro r H' hR;cases r with
      | val v'=>obtain⟨rfl,rfl⟩:=hR;exact⟨(0,0),rfl,rfl⟩
      | panic v'=>exact hR.elim))
    | new cs =>
     refine yields (by unfold Cw;rw[hok.1];trivial) ((hok.2 _).mono ?_);intro r H' hR;cases r with
     | val v'=>obtain⟨b,rfl,rfl⟩:=hR;exact⟨(b,0),rfl,rfl⟩
     | panic v'=>exact hR.elim
    | newv sz rows =>
     refine yields (by unfold Cw;rw[hok.1];trivial) ((hok.2 _).mono ?_);intro r H' hR;cases r with
     | val v'=>obtain⟨b,c,rfl,rfl⟩:=hR;exact⟨(b,c),rfl,rfl⟩
     | panic v'=>exact hR.elim
    | skip =>
     obtain⟨j,want,d,hg,hj,hb⟩:=hok;have hw:Region.wanted o (yielded ops a.tmps)=false:=Ka (S:=⟨n,τ',Hb++H,D⟩) hs hg hj (by show gL (τ' d) want;rw[hguard j want d hg hj];exact hb);unfold wpOpIn;simp only[ho,hw,Bool.false_eq_true,if_false];refine⟨fun _ _=>Ap,close (b:=(0,0)) O ?_ .refl⟩;exact hs.put (fun t ht=>hdst i o t ho ht) ⟨Nat.le_refl _,fun _ _ _=>O,fun _ h _=>h⟩ hs.heap (by simp only[Ey.v,CE,B0,undef];exact⟨[],rfl,rfl⟩)
   -- the first of the rest
   have hpre:∀j,j<i→l.getD j false=true:=by
    intro j hj;have hpi:=SH late hib hlt hj;have:∀{a b},Pred ops a b→b=i→l.getD a false=true:=by
     intro a b hab
     induction hab with
     | base ho' hj=>intro e;subst e;rw[ho] at ho';injection ho' with ho';subst ho';exact hr _ hj
     | trans p1 _ _ ih2=>intro e;exact hdown.pred p1 (ih2 e)
    exact this hpi O
   have hie:i=base.length:=by
    rcases Nat.lt_or_ge base.length i with h | h
    ·have h1:=hpre base.length h;rw[hno base.length (Nat.le_refl _)] at h1;cases h1
    omega
   refine goLate base.length hie (Nat.le_refl _) he (fun k hk=>⟨fun h=>?_,fun h=>hpre k An⟩) (conv (fun j hj=>hpre j An) hno hτ hp hs ht);rcases Nat.lt_or_ge k base.length with h' | h'
   ·exact h'
   rw[hno k h'] at h;cases h
  have hmi:m≤i:=by
   rcases Nat.lt_or_ge i m with h | h
   ·have:=(hm3 i hlt).2 h;rw[hnot] at this;cases this
   exact h
  have him:i=m:=by
   rcases Nat.lt_or_ge m i with h | h
   ·have hpi:=SH late (by omega:base.length≤i) hlt h;have hdown:∀{a b},Pred ops a b→b=i→l.getD a false=true:=by
     intro a b hab
     induction hab with
     | base ho' hj=>intro e;subst e;rw[ho] at ho';injection ho' with ho';subst ho';exact hr _ hj
     | @trans a k b p1 p2 _ ih2 =>
      intro e;have hk:=ih2 e;have hks:k<ops.size:=by
       rcases Nat.lt_or_ge k ops.size with h | h
       ·exact h
       have:l.getD k false=false:=by
        have:¬k<l.size:=by omega
        simp[this]
       rw[this] at hk;cases hk
      have hkm:=(hm3 k hks).1 hk;have hak:a<k:=Pred.lt (hd fun _=>(0,0)) p1;exact(hm3 a An).2 An
    have:=(hm3 m An).1 (hdown hpi rfl);omega
   omega
  exact goLate m him hm1 hm2 hm3 hw
 ·rintro l a w ⟨hsz,hI⟩ hr;have hall:∀i,i<ops.size→l.getD i false=true:=by
   intro i
   induction i using Nat.strongRecOn with
   | _ i ih =>
    intro hi;cases hq:l.getD i false with
    | true=>rfl
    | false =>
     have ho:ops[i]?=some ops[i]:=Array.getElem?_eq_getElem hi;have:i∈Region.ready .any ops l:=by
      refine mem_ready.2 ⟨?_,ops[i],ho,?_⟩
      ·have:i<l.size:=by omega
       simp[this] at hq ⊢;exact hq
      intro e he hb;have hj:e.on∈EF ops[i]:=by
       simp only[EF,List.mem_map,List.mem_filter];exact⟨e,⟨by simpa using he,hb⟩,rfl⟩
      have hlt:=c0 i _ _ ho hj;exact ih e.on hlt An
     rw[hr] at this;cases this
  rcases hI with ⟨β,τ',F,Hb,hdown,hno,hτ,hp,hs,ht⟩ | ⟨m,hm1,hm2,hm3,hw⟩
  ·have hbs:base.length=ops.size:=by
    rcases Nat.lt_or_ge base.length ops.size with h | h
    ·have:=hall base.length h;rw[hno base.length (Nat.le_refl _)] at this;cases this
    omega
   have:=conv (fun j hj=>hall j An) hno hτ hp hs ht;rw[hbs,Nat.sub_self] at this;exact this
  have hms:m=ops.size:=by
   rcases Nat.lt_or_ge m ops.size with h | h
   ·have:=(hm3 m h).1 (hall m h);omega
   omega
  rw[hms,Nat.sub_self] at hw;exact hw
 ·refine⟨by simp,.inl ⟨fun _=>(0,0),τ,F₀,[],?_,?_,?_,?_,hs₁,t₀⟩⟩
  ·intro i o j ho hi;by_cases h:i<ops.size<;>simp[h] at hi
  ·intro k _;by_cases h:k<ops.size<;>simp[h]
  ·intro t;refine⟨fun k o ho hk hl=>?_,fun _=>O⟩;by_cases h:k<ops.size<;>simp[h] at hl
  rw[V7 base 0 fun j=>by by_cases h:j<ops.size<;>simp[h]]
 have:=List.length_filter_le (fun b:Bool=> !b) (Array.replicate ops.size false).toList;simp at this ⊢
section
variable {P:Program}{ops:Array Oper}{H₀:List BI}{k:Nat}{τ:Nat→AV}{r:List Ey}{K:(Nat→AV)→List BI→Prop}{dst:Option Tmp}{op:Op}{ty:TypeId}{pos:String}{aft:Array Edge}{v:AV}
theorem Dq (ho:ops[k]?=some ⟨dst,op,ty,pos,aft,none⟩) (h:∀Bs,Dh P ⟨dst,op,ty,pos,aft,none⟩ (ev τ) (Bs++H₀) v (Bs++H₀)) (next:EW P ops H₀ (k+1) (put τ dst v) r K):EW P ops H₀ k τ (.val v::r) K :=
 ⟨_,ho,⟨trivial,h⟩,fun _=>next⟩
theorem X4 {cs:List AV}(ho:ops[k]?=some ⟨dst,op,ty,pos,aft,none⟩) (h:∀Bs,DP P ⟨dst,op,ty,pos,aft,none⟩ (ev τ) (Bs++H₀) (Ic cs (Bs++H₀))) (next:∀b,EW P ops H₀ (k+1) (put τ dst (.ptr b 0)) r (fun τ' Hs=>K τ' (.box b cs::Hs))):EW P ops H₀ k τ (.new cs::r) K :=
 ⟨_,ho,⟨rfl,h⟩,fun b=>next b.1⟩
theorem YK (h:K τ []):EW P ops H₀ k τ [] K:=h
theorem CX {α:Type}{Bs H:List α}{j:Nat}{x:α}(h:H[j]?=some x):(Bs++H)[Bs.length+j]?=some x:=by
 rw[List.getElem?_append_right An,Nat.add_sub_cancel_left];exact h
end
def pZ (ops:Array Oper) (k:Nat) (ef:Wa):List BI→Prop
 | []=>True
 | ob::r=>XT ops k ob ef∧pZ ops k ef r
section
variable {P:Program}{ops:Array Oper}{n:Nat}{τ₀:Nat→AV}{D:List EN}{Q:Cx→Br→Prop}{opn:Nat→Bool}{k:Nat}{τ:Nat→AV}{H Hs:List BI}{rd:Wv}{ef:Wa}{effs:List Bool}{fx:List (Nat×Sp)}{dst:Option Tmp}{ty:TypeId}{pos:String}{aft:Array Edge}{v:AV}{c:Call}{f:Operand}{fid:FuncId}{first caps A:List AV}
end
def qQ (P:Program) (T:TypeId):Bool :=
 match P.underlying T with
 | some (.struct fs)=>match fs.toList with
  | [f,g]=>f.name != "_" &&g.name != "_" &&Nat.beq f.offset 0&&Nat.beq g.offset 1&&(match P.underlying f.type,P.underlying g.type with | some (.int .i64),some .bool=>true | _,_=>false)&& !P.stoodInHeld T&& !P.eqGuardType P.depth T
  | _=>false
 | _=>false
section
variable {P:Program}{dst:Option Tmp}{ty:TypeId}{pos:String}{aft:Array Edge}{g:Option (Nat×Bool)}{ρ:Operand→AV}{H:List BI}{x y z:Operand}{v:AV}
end
theorem UJ {α:Type}{base T xs:List α}{is:List Nat}(hn:is.Nodup) (h:FO base is xs):(base++T).Perm (xs++(C4 is 0 base++T)):=by
 rw[←List.append_assoc];exact(DT hn h).append_right T
theorem Sg {α:Type}{base T xs rest:List α}{is:List Nat}(hn:is.Nodup) (h:FO base is xs) (hd:C4 is 0 base=rest):(base++T).Perm (xs++(rest++T)):=by
 subst hd;exact UJ hn h
theorem LS {P:Program}{fn:Func}{R:ER→List BI→Prop}{S:Br}{Hs:List BI}(h:MK P fn S R [] .ret Hs):∀U:List Nat,MK P fn S R (U.map .mark) .ret (Hs++U.map .dfr)
 | []=>by simpa using h
 | d::U=>by
  refine⟨Hs.length,by simp,?_⟩;have:(Hs++(d::U).map BI.dfr).eraseIdx Hs.length=Hs++U.map BI.dfr:=by
   rw[List.eraseIdx_append_of_length_le (Nat.le_refl _)];simp
  rw[this];exact LS h U
theorem P8 {P:Program}{fn:Func}{R:ER→List BI→Prop}{n:Nat}{τ:Nat→AV}(U:List Nat) {Hs:List BI}(h:MK P fn ⟨n,τ,Hs++U.map .dfr,U.map .mark⟩ R [] .ret Hs):bw P fn R .ret ⟨n,τ,Hs++U.map .dfr,U.map .mark⟩ :=
 LS h U
theorem Vi {P:Program}{l d i:Nat}{S:Br}{Q:Cx→Br→Prop}{v:AV}{H':List BI}{L:Nw}(H2:List BI) (h1:H'[i]?=some (.loop l L)) (hs:L.state≠ .busy) (hp:L.pending=none) (he:H'.eraseIdx i=H2) (h:Q .normal ⟨S.n,S.τ,H2,.mark d::S.D⟩):Ud P l d S Q (.val v) H':=by
 subst he;exact⟨i,L,h1,hs,by rw[hp];exact h⟩
theorem Wz {P:Program}{l d i:Nat}{S:Br}{Q:Cx→Br→Prop}{v:AV}{H':List BI}{L:Nw}(H2:List BI) (h1:H'[i]?=some (.loop l L)) (hs:L.state≠ .busy) (hp:L.pending=some .ret) (he:H'.eraseIdx i=H2) (h:I3 P none .ret ⟨S.n,S.τ,H2,.mark d::S.D⟩ Q):Ud P l d S Q (.val v) H':=by
 subst he;exact⟨i,L,h1,hs,by rw[hp];exact h⟩
abbrev BV:=Nat×Nat×AV
inductive Ez where
 | val (v:AV)
 | skip
 | new (cs:List AV)
 | newv (sz:Nat) (rows:List (List PV))
 | rel (R:AV→Prop)
def Ez.v (b:BV):Ez→AV
 | .val v=>v
 | .skip=> .tup []
 | .new _=> .ptr b.1 0
 | .newv _ rows=> .vs (some b.1) rows.length b.2.1
 | .rel _=>b.2.2
def Ez.box (b:BV):Ez→List BI
 | .new cs=>[.box b.1 cs]
 | .newv sz rows=>[.vec (some b.1) sz rows b.2.1]
 | _=>[]
def Ez.ok (b:BV):Ez→Prop
 | .rel R=>R b.2.2
 | _=>True
def bV:List Ez→Prop
 | []=>True
 | .rel R::r=>(∃v,R v)∧bV r
 | _::r=>bV r
def Vs (P:Program) (ops:Array Oper) (H₀:List BI) (o:Oper) (τ:Nat→AV):Ez→Prop
 | .val v=>Cw ops ⟨0,τ,[],[]⟩ o∧∀Bs,Dh P o (ev τ) (Bs++H₀) v (Bs++H₀)
 | .skip=>∃j want d,o.guard=some (j,want)∧(ops[j]?).bind (·.dst)=some d∧gL (τ d) want
 | .new cs=>o.guard=none∧∀Bs,DP P o (ev τ) (Bs++H₀) (Ic cs (Bs++H₀))
 | .newv sz rows=>o.guard=none∧∀Bs,DP P o (ev τ) (Bs++H₀) (Lm sz rows (Bs++H₀))
 | .rel R=>o.guard=none∧∀Bs,DP P o (ev τ) (Bs++H₀) (Pz R (Bs++H₀))
def EV (P:Program) (ops:Array Oper) (H₀:List BI):Nat→(Nat→AV)→List Ez→((Nat→AV)→List BI→Prop)→Prop
 | _,τ,[],K=>K τ []
 | k,τ,e::r,K=>∃o,ops[k]?=some o∧Vs P ops H₀ o τ e∧∀b,e.ok b→EV P ops H₀ (k+1) (put τ o.dst (e.v b)) r (fun τ' Hs=>K τ' (e.box b++Hs))
def FZ (β:Nat→BV):Nat→List Ez→List Sp
 | _,[]=>[]
 | k,e::r=> .free (e.v (β k))::FZ β (k+1) r
def gI (β:Nat→BV):Nat→List Ez→List BI
 | _,[]=>[]
 | k,e::r=>e.box (β k)++gI β (k+1) r
def Ww (β:Nat→BV) (l:Nat→Bool):Nat→List Ez→List BI
 | _,[]=>[]
 | k,e::r=>(if l k=true then e.box (β k) else [])++Ww β l (k+1) r
theorem Qa (β:Nat→BV):∀(r:List Ez) (k j:Nat),j<r.length→(FZ β k r).getD j .skip= .free ((r.getD j .skip).v (β (k+j)))
 | [],k,j,h=>by simp at h
 | e::r,k,0,h=>by simp[FZ]
 | e::r,k,j+1,h=>by
  have:=Qa β r (k+1) j (by simpa using h);simp only[FZ,List.getD_cons_succ];rw[this,show k+1+j=k+(j+1) by omega]
theorem Yf (β:Nat→BV):∀(r:List Ez) (k:Nat),(FZ β k r).length=r.length
 | [],k=>rfl
 | e::r,k=>by simp[FZ,Yf β r (k+1)]
theorem Jp (β:Nat→BV) {r:List Ez}{k j:Nat}(h:r.length≤j):(FZ β k r).getD j .skip= .skip:=by
 rw[List.getD_eq_getElem?_getD,List.getElem?_eq_none (by rw[Yf];exact h)];rfl
theorem Ux (β:Nat→BV) (r:List Ez) (k j:Nat):((FZ β k r).getD j .skip).isEff=false:=by
 rcases Nat.lt_or_ge j r.length with h | h
 ·rw[Qa β r k j h];rfl
 rw[Jp β h];rfl
theorem Rs (β:Nat→BV) (r:List Ez) (k j:Nat) (ob:List BI) (v:AV):(FZ β k r).getD j .skip≠ .read ob v:=by
 rcases Nat.lt_or_ge j r.length with h | h
 ·rw[Qa β r k j h];simp
 rw[Jp β h];simp
theorem EH (β:Nat→BV) {r:List Ez}{j:Nat}(h:j<r.length):((FZ β 0 r).getD j .skip).val=(r.getD j .skip).v (β j):=by
 rw[Qa β r 0 j h,Nat.zero_add];rfl
theorem EV.facts {P:Program}{ops:Array Oper}{H₀:List BI}{τ:Nat→AV}{base:List Ez}(β:Nat→BV):∀(r:List Ez) (k:Nat) (τk:Nat→AV) (K:(Nat→AV)→List BI→Prop),base.drop k=r→k+r.length=base.length→τk=τS ops (FZ β 0 base) τ k→EV P ops H₀ k τk r K→(∀j,k≤j→j<base.length→(base.getD j .skip).ok (β j)) →
  (∀j,k≤j→j<base.length→∃o,ops[j]?=some o∧Vs P ops H₀ o (τS ops (FZ β 0 base) τ j) (base.getD j .skip))∧K (τS ops (FZ β 0 base) τ base.length) (gI β k r)
 | [],k,τk,K,hd,hk,ht,h,hβ=>by
  simp only[List.length_nil,Nat.add_zero] at hk;subst hk;exact⟨fun j h1 h2=>by omega,by rw[←ht];exact h⟩
 | e::r,k,τk,K,hd,hk,ht,h,hβ=>by
  obtain⟨o,ho,hok,hn⟩:=h;simp only[List.length_cons] at hk;have hb:base.getD k .skip=e:=by
   have:(base.drop k)[0]?=some e:=by rw[hd];rfl
   rw[List.getElem?_drop] at this;rw[List.getD_eq_getElem?_getD,show k=k+0 by omega,this];rfl
  have hd2:base.drop (k+1)=r:=by
   rw[←List.drop_drop,hd];rfl
  obtain⟨h1,h2⟩:=EV.facts (τ:=τ) (base:=base) β r (k+1) _ _ hd2 An (by simp only[τS,ho,Option.bind_some];rw[EH β An,hb,←ht]) (hn (β k) (by have:=hβ k (Nat.le_refl _) An;rwa [hb] at this)) (fun j h1 h2=>hβ j An h2);refine⟨fun j hj hl=>?_,h2⟩;by_cases e2:j=k
  ·subst e2;exact⟨o,ho,by rw[hb,←ht];exact hok⟩
  exact h1 j An hl
theorem KW {β β':Nat→BV}{l l':Nat→Bool}:∀(r:List Ez) (k:Nat),(∀j,k≤j→l j=l' j∧(l j=true→β j=β' j))→Ww β l k r=Ww β' l' k r
 | [],k,h=>rfl
 | e::r,k,h=>by
  simp only[Ww];obtain⟨h1,h2⟩:=h k (Nat.le_refl _);rw[KW r (k+1) fun j hj=>h j An,←h1];cases hl:l k
  ·rfl
  rw[h2 hl]
theorem Qn {β:Nat→BV}{l:Nat→Bool}{i:Nat}{b:BV}(hi:l i=false):∀(r:List Ez) (k:Nat),k≤i→i<k+r.length→((r.getD (i - k) .skip).box b++Ww β l k r).Perm (Ww (fun j=>if j=i then b else β j) (fun j=>l j||j==i) k r)
 | [],k,h1,h2=>by simp at h2;omega
 | e::r,k,h1,h2=>by
  simp only[Ww];by_cases hk:k=i
  ·subst hk;simp only[hi,Bool.false_eq_true,if_false,List.nil_append,Nat.sub_self,List.getD_cons_zero,beq_self_eq_true,Bool.or_true,if_true];rw[KW (β':=fun j=>if j=k then b else β j) (l':=fun j=>l j||j==k) r (k+1) fun j hj=>⟨by simp[show (j==k)=false by simp;omega],fun _=>by rw[if_neg An]⟩]
  have hp:=Qn (β:=β) hi r (k+1) (b:=b) An (by simp only[List.length_cons] at h2;omega);have e1:(e::r).getD (i - k) .skip=r.getD (i - (k+1)) .skip:=by
   rw[show i - k=(i - (k+1))+1 by omega];rfl
  have e2:(if (l k||k==i)=true then e.box (if k=i then b else β k) else [])=(if l k=true then e.box (β k) else []):=by
   rw[if_neg hk];simp[hk]
  rw[e1,e2];refine List.Perm.trans ?_ (hp.append_left _);rw[←List.append_assoc,←List.append_assoc];exact List.perm_append_comm.append_right _
theorem U1 {β:Nat→BV}{l:Nat→Bool}:∀(r:List Ez) (k:Nat),(∀j,k≤j→j<k+r.length→l j=true)→Ww β l k r=gI β k r
 | [],k,h=>rfl
 | e::r,k,h=>by
  simp only[Ww,gI];rw[if_pos (h k (Nat.le_refl _) Ao),U1 r (k+1) fun j h1 h2=>h j An (by simp only[List.length_cons];omega)]
theorem Oh {β:Nat→BV}{l:Nat→Bool}:∀(r:List Ez) (k:Nat),(∀j,l j=false)→Ww β l k r=[]
 | [],k,h=>rfl
 | e::r,k,h=>by simp only[Ww];rw[Oh r (k+1) h,h k];rfl
theorem bV.pick:∀(l:List Ez),bV l→∃β:Nat→BV,∀j,j<l.length→(l.getD j .skip).ok (β j)
 | [],_=>⟨fun _=>(0,0,.p .any),fun j h=>by simp at h⟩
 | e::r,h=>by
  have h2:bV r∧∃b,e.ok b:=by
   cases e with
   | rel R=>exact⟨h.2,let ⟨v,hv⟩:=h.1;⟨(0,0,v),hv⟩⟩
   | _=>exact⟨h,(0,0,.p .any),trivial⟩
  obtain⟨β,hβ⟩:=bV.pick r h2.1;obtain⟨b,hb⟩:=h2.2;refine⟨fun j=>match j with | 0=>b | j+1=>β j,fun j hj=>?_⟩;cases j with
  | zero=>exact hb
  | succ j=>exact hβ j (by simpa using hj)
section
variable {P:Program}{ops:Array Oper}{H₀:List BI}{k:Nat}{τ:Nat→AV}{r:List Ez}{K:(Nat→AV)→List BI→Prop}{dst:Option Tmp}{op:Op}{ty:TypeId}{pos:String}{aft:Array Edge}{v:AV}
theorem J5 (ho:ops[k]?=some ⟨dst,op,ty,pos,aft,none⟩) (h:∀Bs,Dh P ⟨dst,op,ty,pos,aft,none⟩ (ev τ) (Bs++H₀) v (Bs++H₀)) (next:EV P ops H₀ (k+1) (put τ dst v) r K):EV P ops H₀ k τ (.val v::r) K :=
 ⟨_,ho,⟨trivial,h⟩,fun _ _=>next⟩
theorem cQ {cs:List AV}(ho:ops[k]?=some ⟨dst,op,ty,pos,aft,none⟩) (h:∀Bs,DP P ⟨dst,op,ty,pos,aft,none⟩ (ev τ) (Bs++H₀) (Ic cs (Bs++H₀))) (next:∀b,EV P ops H₀ (k+1) (put τ dst (.ptr b 0)) r (fun τ' Hs=>K τ' (.box b cs::Hs))):EV P ops H₀ k τ (.new cs::r) K :=
 ⟨_,ho,⟨rfl,h⟩,fun b _=>next b.1⟩
theorem lj (h:K τ []):EV P ops H₀ k τ [] K:=h
end
theorem Di.putW {F:Nat→Prop}{S:Br}{d:Option Nat}{v v':AV}{H:List BI}{a:Act}{w:World}(h:Di F (S.put d v H) a w) (hv:Qv v v'):Di F (S.put d v' H) a w :=
 ⟨h.size,fun t=>by
  have:=h.tmp t;cases d with
  | none=>exact this
  | some d =>
   have h3:CE F w (Abs.put S.τ (some d) v t) (a.tmps.getD t undef):=this;show CE F w (Abs.put S.τ (some d) v' t) (a.tmps.getD t undef);cases hb:Nat.beq t d
   ·have e (x:AV):Abs.put S.τ (some d) x t=S.τ t:=by simp only[Abs.put,hb,cond_false]
    rw[e] at h3 ⊢;exact h3
   have e (x:AV):Abs.put S.τ (some d) x t=x:=by simp only[Abs.put,hb,cond_true]
   rw[e] at h3 ⊢;exact hv _ _ _ h3,h.heap,h.defs⟩
theorem dZ {P:Program}{o:Oper}{ρ:Operand→AV}{H H':List BI}{v:AV}(h:Dh P o ρ H v H'):Dh P o ρ H (norm v) H':=by
 intro r F S a w hs hH hρ hd;have:=h r F S a w hs hH hρ hd;unfold Oper.wpIn at *;refine⟨this.1,?_⟩;replace this:=this.2;generalize (o.semAt (W r).round a.eval).run P w=rr at *;cases rr with
 | ok n w' =>
  cases n<;>simp only[Oper.uponIn] at this ⊢
  case value u=>obtain⟨v1,H1,F1,⟨e1,e2⟩,h2,h3⟩:=this;subst e1;subst e2;exact⟨_,_,F1,⟨rfl,rfl⟩,h2.putW (Dt rfl),h3⟩
  case skip=>obtain⟨v1,H1,F1,⟨e1,e2⟩,h2,h3⟩:=this;subst e1;subst e2;exact⟨_,_,F1,⟨rfl,rfl⟩,h2.putW (Dt rfl),h3⟩
  case defer d=>obtain⟨v1,H1,F1,⟨e1,e2⟩,h2,h3⟩:=this;subst e1;subst e2;exact⟨_,_,F1,⟨rfl,rfl⟩,h2.putW (Dt rfl),h3⟩
  case enter f args =>
   refine⟨this.1,this.2.mono fun e w'' he=>?_⟩;cases e with
   | returned u=>obtain⟨v1,H1,F1,⟨e1,e2⟩,h2,h3⟩:=he;subst e1;subst e2;exact⟨_,_,F1,⟨rfl,rfl⟩,h2.putW (Dt rfl),h3⟩
   | panicked c=>obtain⟨_,_,_,_,h,_⟩:=he;exact h.elim
   | outgrown=>obtain⟨_,_,_,_,_,_,h,_⟩:=he;exact h.elim
  case row row args=>exact⟨this.1,this.2.mono fun u w'' he=>by obtain⟨v1,H1,F1,⟨e1,e2⟩,h2,h3⟩:=he;subst e1;subst e2;exact⟨_,_,F1,⟨rfl,rfl⟩,h2.putW (Dt rfl),h3⟩⟩
  case round l f tmps assign body =>
   refine⟨this.1,this.2.mono fun e w'' he=>?_⟩;cases e with
   | returned u=>obtain⟨v1,H1,F1,⟨e1,e2⟩,h2,h3⟩:=he;subst e1;subst e2;exact⟨_,_,F1,⟨rfl,rfl⟩,h2.putW (Dt rfl),h3⟩
   | panicked c=>obtain⟨_,_,_,_,h,_⟩:=he;exact h.elim
   | outgrown=>obtain⟨_,_,_,_,_,_,h,_⟩:=he;exact h.elim
 | halt x w' =>
  cases x<;>simp only[Oper.uponIn] at this ⊢
  case panic u=>obtain⟨_,_,_,_,h,_⟩:=this;exact h.elim
end Go.Abs
namespace Go.Eu
open Go.Abs
theorem D2 (x:CH):At (Bh x) 0 [I x.kind]:=At.one
theorem DH (x:CH):At (Bh x) 1 [.str x.name]:=At.cons (At.one)
theorem Co (x:CH):At (Bh x) 2 [I x.params]:=At.cons (At.cons (At.one))
theorem E2 (x:CH):At (Bh x) 3 (BO x.type):=At.cons (At.cons (At.cons (At.front)))
theorem FA (x:CH):At (Bh x) 8 (BO x.value):=At.cons (At.cons (At.cons (At.app (BD _) (At.front))))
theorem Cn (x:CH):At (Bh x) 13 [I x.fixed]:=At.cons (At.cons (At.cons (At.app (BD _) (At.app (BD _) (At.one)))))
theorem B8 (x:CH):At (Bh x) 14 [.lst (x.ctors.map Gp)]:=At.cons (At.cons (At.cons (At.app (BD _) (At.app (BD _) (At.cons (At.one))))))
theorem LM (x:CH):At (Bh x) 15 (Rg x.recs):=At.cons (At.cons (At.cons (At.app (BD _) (At.app (BD _) (At.cons (At.cons (At.front)))))))
theorem CD (x:CH):At (Bh x) 22 [.lst (x.funs.map Ec)]:=At.cons (At.cons (At.cons (At.app (BD _) (At.app (BD _) (At.cons (At.cons (At.app (KY _) (At.one))))))))
theorem Rm (x:gJ):At (Rg x) 0 [I x.params]:=At.one
theorem UX (x:gJ):At (Rg x) 1 (BO x.type):=At.cons (At.front)
theorem SR (x:gJ):At (Rg x) 6 [.lst (BE x.rules)]:=At.cons (At.app (BD _) (At.one))
theorem Fb (x:IX):At (Gp x) 0 [.str x.name]:=At.one
theorem E4 (x:IX):At (Gp x) 1 (BO x.type):=At.cons (At.all)
theorem Ix (x:G7):At (Ec x) 0 [.str x.name]:=At.one
theorem Ir (x:G7):At (Ec x) 1 (BO x.type):=At.cons (At.front)
theorem CL (x:G7):At (Ec x) 6 [I x.arity]:=At.cons (At.app (BD _) (At.one))
theorem Db (x:G7):At (Ec x) 7 (Ch x.tree):=At.cons (At.app (BD _) (At.cons (At.all)))
theorem GZ (x:Es):At (Ch x) 0 [I x.kind]:=by
 cases x;exact At.one
theorem E1 (x:Es):At (Ch x) 1 (BO x.body):=by
 cases x;exact At.cons (At.front)
theorem DE (x:Es):At (Ch x) 6 [I x.var]:=by
 cases x;exact At.cons (At.app (BD _) (At.one))
theorem CG (x:Es):At (Ch x) 7 [.lst (LQ x.branches)]:=by
 cases x;exact At.cons (At.app (BD _) (At.cons (At.one)))
theorem GW (x:GQ):At (G2 x) 0 [.str x.ctor]:=by
 cases x;exact At.one
theorem GM (x:GQ):At (G2 x) 1 [.bool x.absurd]:=by
 cases x;exact At.cons (At.one)
theorem Fj (x:GQ):At (G2 x) 2 (Ch x.tree):=by
 cases x;exact At.cons (At.cons (At.all))
theorem Da (x:GR):At (DX x) 0 [I x.kind]:=At.one
theorem DZ (x:GR):At (DX x) 1 [I x.decl]:=At.cons (At.one)
theorem Fh (x:GR):At (DX x) 2 [I x.item]:=At.cons (At.cons (At.one))
theorem HV (x:GR):At (DX x) 3 [I x.params]:=At.cons (At.cons (At.cons (At.one)))
theorem Jv (x:Pr):At (GI x) 0 [.lst (x.env.map Bh)]:=At.one
theorem VL (x:Pr):At (GI x) 1 [.lst (x.own.map Gk)]:=At.cons (At.one)
theorem To (x:Pr):At (GI x) 2 (Bh x.d):=At.cons (At.cons (At.all))
theorem Dd (x:CH):At (Bh x) 15 [I x.recs.params]:=(LM x).sub (Rm _) (by simp[KY])
theorem Ev (x:CH):At (Bh x) 16 (BO x.recs.type):=(LM x).sub (UX _) (by simp[KY])
theorem Ck (x:CH):At (Bh x) 21 [.lst (BE x.recs.rules)]:=(LM x).sub (SR _) (by simp[KY])
theorem _root_.Go.Ad {α:Prop}(h:α:=by simp[Cm]):α:=h
theorem PE (x:Pr):At (GI x) 4 [I x.d.params]:=(To x).sub (Co _) Ad
theorem HS.body:∀{t:Es},HS t→UW t.body
 | .mk _ _ _ _,h=>h.1
theorem HS.bl:∀{t:Es},HS t→t.branches.length<2000000
 | .mk _ _ _ _,h=>h.2.1
theorem HS.bs:∀{t:Es},HS t→NM t.branches
 | .mk _ _ _ _,h=>h.2.2
theorem Q0.tr:∀{b:GQ},Q0 b→HS b.tree
 | .mk _ _ _,h=>h.2
theorem RL:∀{t:Es}{i:Nat}{b:GQ},t.branches[i]?=some b→La b.tree<La t
 | .mk _ _ _ l,i,.mk c a t',h=>by
  have:=S9 (l:=l) h;simp only[dM] at this;simp only[La,GQ.tree];omega
theorem O7:∀t:Es,1≤La t
 | .mk _ _ _ _=>by simp only[La];omega
section
variable {f:Nat→Option (Nat×Nat)}{k a i p:Int}{t:Tm}
theorem fj (h1:f 1=some (1,1)) (h3:f 3=some (3,1)) (h4:f 4=some (4,5)):FY f [.p (I 0),.p (I 0),.p (I 0),.p (I 0),.p (I 0),.p (I 0),.p (.str ⟨#[]⟩),.p .nils,.p .nils] [(1,.p (I a)),(3,.p (I p)),(4,TV t)]=some ((DX ⟨0,a,0,p,t⟩).map .p):=by
 obtain⟨tk,ti,tn,tl,ts⟩:=t;simp[FY,h1,h3,h4,Ee,splice,BO,DX]
theorem ZN (h0:f 0=some (0,1)) (h1:f 1=some (1,1)) (h3:f 3=some (3,1)) (h4:f 4=some (4,5)):FY f [.p (I 0),.p (I 0),.p (I 0),.p (I 0),.p (I 0),.p (I 0),.p (.str ⟨#[]⟩),.p .nils,.p .nils] [(0,.p (I k)),(1,.p (I a)),(3,.p (I p)),(4,TV t)]=some ((DX ⟨k,a,0,p,t⟩).map .p):=by
 obtain⟨tk,ti,tn,tl,ts⟩:=t;simp[FY,h0,h1,h3,h4,Ee,splice,BO,DX]
theorem OX (h0:f 0=some (0,1)) (h1:f 1=some (1,1)) (h2:f 2=some (2,1)) (h3:f 3=some (3,1)) (h4:f 4=some (4,5)):FY f [.p (I 0),.p (I 0),.p (I 0),.p (I 0),.p (I 0),.p (I 0),.p (.str ⟨#[]⟩),.p .nils,.p .nils] [(0,.p (I k)),(1,.p (I a)),(2,.p (I i)),(3,.p (I p)),(4,TV t)]=some ((DX ⟨k,a,i,p,t⟩).map .p):=by
 obtain⟨tk,ti,tn,tl,ts⟩:=t;simp[FY,h0,h1,h2,h3,h4,Ee,splice,BO,DX]
theorem pe {c0:AV}{r:List AV}{ds:List CH}{d:CH}(h0:f 0=some (0,1)) (h2:f 2=some (2,23)) (hr:r.length=23):FY f (c0:: .p .nils::r) [(0,.p (.lst (ds.map Bh))),(2,.agg ((Bh d).map .p))]=some (.p (.lst (ds.map Bh)):: .p .nils::(Bh d).map .p):=by
 simp[FY,h0,h2,Ee,Cm,hr,PF,splice]
end
theorem dB (ds:List CH) (d:CH):norm (.agg (.p (.lst (ds.map Bh)):: .p .nils::(Bh d).map .p))= .agg ((GI ⟨ds,[],d⟩).map .p):=by
 have h:((Bh d).map AV.p).map dn=(Bh d).map .p:=by
  refine dU ?_;obtain⟨k,n,p,⟨_,_,_,_,_⟩,⟨_,_,_,_,_⟩,f,c,⟨_,⟨_,_,_,_,_⟩,_⟩,u⟩:=d;simp[Bh,BO,Rg]
 show AV.agg (dn _::dn _::((Bh d).map AV.p).map dn)=_;rw[h];rfl
theorem fe {P:Program}{dst:Option Tmp}{ty:TypeId}{pos:String}{aft:Array Edge}{g:Option (Nat×Bool)}{ρ:Operand→AV}{H:List BI}{T:TypeId}{parts:Array (Nat×Operand)}{lay:List (Nat×Nat)}{z:Value}{ds:List CH}{d:CH}(hT:fieldsOf P T=some lay) (hz:zeroOf P T=some z)
  (hc:FY (lay[·]?) (z.cells.toList.map Gt) (parts.toList.map fun p=>(p.1,ρ p.2))=some (.p (.lst (ds.map Bh)):: .p .nils::(Bh d).map .p)):Dh P ⟨dst,.build T parts,ty,pos,aft,g⟩ ρ H (.agg ((GI ⟨ds,[],d⟩).map .p)) H:=by
 rw[←dB];exact dZ (CP hT hz hc)
theorem bE {d:CH}(h:Ns d) {i:Nat}{x:ByteArray}(hx:(C2 d)[i]?=some x):x.size<Dc:=by
 have hm:=List.mem_of_getElem? hx;have hr:=aQ d.name;have hn:=h.nm;unfold C2 at hm;simp only[Dc];split at hm
 ·simp at hm;subst hm;omega
 split at hm
 ·simp only[List.mem_append,List.mem_cons,List.mem_map,List.not_mem_nil,or_false] at hm;rcases hm with (rfl | ⟨c,hc,rfl⟩) | rfl
  ·omega
  ·have:=(h.cs c hc).nm;omega
  omega
 split at hm
 ·obtain⟨f,hf,rfl⟩:=List.mem_map.1 hm;have:=(h.fs f hf).nm;omega
 simp at hm
theorem bB {d:CH}(h:d.kind=3):1≤(C2 d).length:=by
 unfold C2;rw[if_neg An,if_pos h];simp
end Go.Eu
namespace Go.Eu
open Go.Abs Go.RowKit Go.ChangeShapes Go.ChangeAt Go.WideShapes
structure az (H:Type) where
 b:DataW H→Nat
 a:List (DataW H)→Nat
 str:∀s,b (.lit (.string s))=s.length+1
 slice:∀e s,b (.slice e s)=a e+a s+1
 agg:∀p,b (.agg p)=a p+1
 nil:a []=0
 cons:∀d r,a (d::r)=b d+a r
 pos:∀d,1≤b d
namespace az
variable {H:Type}(K:az H)
theorem mem {l:List (DataW H)}{i:Nat}{d:DataW H}(h:l[i]?=some d):K.b d≤K.a l:=by
 induction l generalizing i with
 | nil=>simp at h
 | cons x r ih =>
  rw[K.cons];cases i with
  | zero=>simp at h;subst h;omega
  | succ i=>have:=ih (by simpa using h);omega
theorem mem2 {l:List (DataW H)}{i:Nat}{d:DataW H}(h:l[i]?=some d):K.b d+l.length≤K.a l+1:=by
 have len:∀l:List (DataW H),l.length≤K.a l:=by
  intro l
  induction l with
  | nil=>simp
  | cons x r ih=>rw[K.cons];have:=K.pos x;simp only[List.length_cons];omega
 induction l generalizing i with
 | nil=>simp at h
 | cons x r ih =>
  rw[K.cons];simp only[List.length_cons];cases i with
  | zero=>simp at h;subst h;have:=len r;omega
  | succ i=>have:=ih (by simpa using h);have:=K.pos x;omega
theorem drop1 {l:List (DataW H)}{i:Nat}{d:DataW H}(h:l[i]?=some d):K.a (l.drop i)=K.b d+K.a (l.drop (i+1)):=by
 induction l generalizing i with
 | nil=>simp at h
 | cons x r ih =>
  cases i with
  | zero=>simp at h;subst h;simp[K.cons]
  | succ i=>simpa using ih (by simpa using h)
end az
def U7 {α:Type}(M:α→Nat):List α→Nat
 | []=>0
 | a::l=>M a+U7 M l
section
variable {H:Type}{enc:TypeId×Value→H}{P:Program}{w:World}{base:Nat}{sp:Nat→Bool}{hd:Bool}{n:Nat}(K:az H)
theorem Fa {α:Type}{e t C:Nat}(ut:P.underlying t=some (.slice e)) (hC:P.cellsOf e=C) (hC1:1≤C) (f:α→List PV) (Q:α→Prop) (M:α→Nat) {B:Nat}
  (he:∀m cs y,m<n→DataW.trod enc P w base sp hd m e cs=some y→K.b y.1≤B→∃a,CR w (f a) cs∧Q a∧M a≤K.b y.1) {cs:List Value} {y:DataW H×List MemPlace} (h:DataW.trod enc P w base sp hd n t cs=some y) (hB:K.b y.1≤B) :
  ∃l:List α,l.length≤K.b y.1∧U7 M l+1≤K.b y.1∧(∀a∈l,Q a)∧∃v,cs=[v]∧CI F0 w (.lst (l.map f)) v:=by
 rcases DataW.trod_slice ut h with ⟨rfl,rfl⟩ | ⟨a,len,cap,elems,rest,m,rfl,rfl,rfl,hb,hl,hc,hel,hget,_,_⟩
 ·exact⟨[],by simp,by have:=K.pos DataW.nil;simpa [U7] using this,fun a ha=>by simp at ha,_,rfl,by simp only[CI];exact .inl ⟨rfl,none,0,rfl⟩⟩
 rw[hC] at hget;simp only[K.slice] at hB ⊢;have hml:maxLen<wide:=by decide
 rcases Nat.eq_zero_or_pos len with h0 | h0
 ·subst h0;exact⟨[],by simp,by simp[U7],fun a ha=>by simp at ha,_,rfl,by simp only[CI];exact .inl ⟨rfl,some a,cap,rfl⟩⟩
 have hone:∀i,i<len→∃ci y,w.cells? base (a.add (i*C)) C=some ci∧DataW.trod enc P w base sp hd m e ci=some y∧(elems.map (·.1))[i]?=some y.1:=fun i hi=>by
  have:=hget i hi;rw[List.getElem?_eq_getElem An] at this;obtain⟨ci,h1,h2⟩:=Option.bind_eq_some_iff.1 this;exact⟨ci,_,h1,h2,by simp[List.getElem?_eq_getElem (show i<elems.length by omega)]⟩
 obtain⟨c0,y0,hc0,_⟩:=hone 0 h0;obtain⟨hl0,hg0⟩:=Mq hc0;have hcell:∃v,w.cell? a=some v:=by
  have:=hg0 0 An;rw[Nat.zero_mul,Addr.add,if_pos rfl,Addr.add,if_pos rfl] at this;rw[List.getElem?_eq_getElem An] at this;exact⟨_,this⟩
 obtain⟨v0,hv0⟩:=hcell;obtain⟨blk,off,spot⟩:=a;have hspot:spot=none:=by
  unfold World.cell? at hv0;simp only at hv0;split at hv0
  ·cases spot with
   | none=>rfl
   | some s=>simp at hv0
  cases hv0
 subst hspot;have hblk:blk<w.heap.size:=by
  unfold World.cell? at hv0;simp only at hv0;split at hv0
  ·rename_i hh;exact(Array.getElem?_eq_some_iff.1 hh).1
  cases hv0
 have hadd:∀k,(⟨blk,off,none⟩:Addr).add k=⟨blk,off+k,none⟩:=fun k=>by
  unfold Addr.add;split
  ·rename_i e;subst e;rfl
  rfl
 have hadd2:∀o k,(⟨blk,o,none⟩:Addr).add k=⟨blk,o+k,none⟩:=fun o k=>by
  unfold Addr.add;split
  ·rename_i e;subst e;rfl
  rfl
 have hrows:∀k,k≤len→∃l:List α,l.length=k∧k≤K.a ((elems.map (·.1)).drop (len - k))∧U7 M l≤K.a ((elems.map (·.1)).drop (len - k))∧(∀x∈l,Q x)∧B3 F0 w blk C (off+(len - k)*C) (l.map f):=by
  intro k
  induction k with
  | zero=>exact fun _=>⟨[],rfl,by omega,by simp[U7],fun a ha=>by simp at ha,by simp[B3]⟩
  | succ k ih =>
   intro hk;obtain⟨l,h1,h5,h6,h2,h3⟩:=ih An;obtain⟨ci,y,hci,ht,hy⟩:=hone (len - (k+1)) An;obtain⟨g1,g2⟩:=Mq hci;have hd1:=K.drop1 hy;rw[show len - (k+1)+1=len - k by omega] at hd1;obtain⟨x,hx,hq,hM⟩:=he m ci y An ht (by have:=K.mem hy;omega);have hp:=K.pos y.1;refine⟨x::l,by simp[h1],by omega,by rw[U7];omega,fun z hz=>?_,?_⟩
   ·rcases List.mem_cons.1 hz with rfl | hz
    ·exact hq
    exact h2 z hz
   refine⟨by rw[hx.length,g1],PM _ ci _ hx fun j hj=>?_,?_⟩
   ·have:=g2 j An;rw[hadd,hadd2] at this;exact this
   rw[show off+(len - (k+1))*C+C=off+(len - k)*C by rw[Nat.add_assoc,←Nat.succ_mul];congr 2;omega];exact h3
 obtain⟨l,h1,h5,h6,h2,h3⟩:=hrows len (Nat.le_refl _);rw[Nat.sub_self,List.drop_zero] at h5 h6;rw[Nat.sub_self,Nat.zero_mul,Nat.add_zero] at h3;refine⟨l,by omega,by omega,h2,_,rfl,?_⟩;simp only[CI];exact .inr ⟨blk,off,cap,C,by rw[List.length_map,h1],fun h=>h,hblk,by rw[List.length_map];omega,h3⟩
theorem IN {t:TypeId}{l:List (Nat×Nat)}(hf:NW P t=some l) {cs:List Value}{y:DataW H×List MemPlace}(h:DataW.trod enc P w base sp hd n t cs=some y) :
  ∃m,n=m+1∧cs.length=P.cellsOf t∧∀(i:Nat) (p:Nat×Nat),l[i]?=some p→∃z,DataW.trod enc P w base sp hd m p.1 ((cs.drop p.2).take (P.cellsOf p.1))=some z∧K.b z.1+l.length≤K.b y.1:=by
 unfold NW at hf;split at hf
 ·rename_i fs hu;injection hf with hf;subst hf;obtain⟨xs,m,h1,rfl,h2,h3,h4⟩:=DataW.trod_struct hu h;refine⟨m,h1,h2,fun i p hp=>?_⟩;rw[List.getElem?_map] at hp;obtain⟨fl,hfl,rfl⟩:=Option.map_eq_some_iff.1 hp;have hi:fs[i]?=some fl:=by simpa using hfl
  have:=h4 i fl hi;have hlt:i<xs.length:=by rw[h3];exact(Array.getElem?_eq_some_iff.1 hi).1
  rw[List.getElem?_eq_getElem hlt] at this;refine⟨_,this,?_⟩;rw[K.agg];have:=K.mem2 (l:=xs.map (·.1)) (i:=i) (d:=xs[i].1) (by simp[List.getElem?_eq_getElem hlt]);simp only[List.length_map,Array.length_toList] at this ⊢;omega
 cases hf
theorem CR.cut {a b:List PV}{cs:List Value}{o k:Nat}(h:CR w a ((cs.drop o).take k)) (h':CR w b (cs.drop (o+k))):CR w (a++b) (cs.drop o):=by
 rw[←List.take_append_drop k (cs.drop o),List.drop_drop];exact CR.append h h'
theorem CR.end {cs:List Value}{k:Nat}(h:cs.length=k):CR w [] (cs.drop k):=by
 rw[List.drop_eq_nil_of_le An];rfl
end
end Go.Eu
namespace Go.Eu
open Go.Abs Go.RowKit Go.ChangeShapes Go.ChangeAt Go.WideShapes
theorem P7:∀l:List Tm,U7 (fun t=>5*size t) l=5*Ba l
 | []=>rfl
 | t::l=>by rw[U7,Ba,P7 l];omega
structure Ul (P:Program) (tI tB tS tT tTs tC tCs tR tTr tBr tBrs tF tFs tD tDs:TypeId):Prop where
 uB:P.underlying tB=some .bool
 uCs:P.underlying tCs=some (.slice tC)
 uBrs:P.underlying tBrs=some (.slice tBr)
 uFs:P.underlying tFs=some (.slice tF)
 uDs:P.underlying tDs=some (.slice tD)
 fC:NW P tC=some [(tS,0),(tT,1)]
 fR:NW P tR=some [(tI,0),(tT,1),(tTs,6)]
 fTr:NW P tTr=some [(tI,0),(tT,1),(tI,6),(tBrs,7)]
 fBr:NW P tBr=some [(tS,0),(tB,1),(tTr,2)]
 fF:NW P tF=some [(tS,0),(tT,1),(tI,6),(tTr,7)]
 fD:NW P tD=some [(tI,0),(tS,1),(tI,2),(tT,3),(tT,8),(tI,13),(tCs,14),(tR,15),(tFs,22)]
 cB:P.cellsOf tB=1
 cCs:P.cellsOf tCs=1
 cBrs:P.cellsOf tBrs=1
 cFs:P.cellsOf tFs=1
 cDs:P.cellsOf tDs=1
 cC:P.cellsOf tC=6
 cR:P.cellsOf tR=7
 cTr:P.cellsOf tTr=8
 cBr:P.cellsOf tBr=10
 cF:P.cellsOf tF=15
 cD:P.cellsOf tD=23
section
variable {H:Type}{enc:TypeId×Value→H}{P:Program}{w:World}{base:Nat}{sp:Nat→Bool}{hd:Bool}{tI tB tS tV tVs tL tLs tT tTs tC tCs tR tTr tBr tBrs tF tFs tD tDs:TypeId}(K:az H)
theorem Gs (E:GX P tI tS tV tVs tL tLs tT tTs) {n:Nat}{cs:List Value}{y:DataW H×List MemPlace}(h:DataW.trod enc P w base sp hd n tI cs=some y):∃a:Int,CR w [I a] cs∧Iz a:=by
 obtain⟨a,rfl,_,fa⟩:=DataW.trod_int E.uI h;exact⟨a,CR.one (by simp[CI]),Pg fa⟩
theorem Ll (E:GX P tI tS tV tVs tL tLs tT tTs) {n:Nat}{cs:List Value}{y:DataW H×List MemPlace}(h:DataW.trod enc P w base sp hd n tS cs=some y):∃s:ByteArray,CR w [.str s] cs∧s.size+1≤K.b y.1:=by
 obtain⟨s,rfl,rfl,_⟩:=DataW.trod_string E.uS h;refine⟨s,CR.one (by simp[CI]),?_⟩;rw[K.str];exact Nat.le_refl _
theorem Zt (D:Ul P tI tB tS tT tTs tC tCs tR tTr tBr tBrs tF tFs tD tDs) {n:Nat}{cs:List Value}{y:DataW H×List MemPlace}(h:DataW.trod enc P w base sp hd n tB cs=some y):∃b:Bool,CR w [.bool b] cs:=by
 obtain⟨b,rfl,_⟩:=DataW.trod_bool D.uB h;exact⟨b,CR.one (by simp[CI])⟩
theorem gO (E:GX P tI tS tV tVs tL tLs tT tTs) {n:Nat}{cs:List Value}{y:DataW H×List MemPlace}(h:DataW.trod enc P w base sp hd n tL cs=some y) (hB:K.b y.1≤1048576):∃v:CV,CR w (Bz v) cs∧Mw v:=by
 obtain⟨m,rfl,hl,hg⟩:=IN K E.fL h;rw[E.cL] at hl;obtain⟨z0,h0,b0⟩:=hg 0 _ rfl;obtain⟨z1,h1,b1⟩:=hg 1 _ rfl;simp only[E.cI,E.cVs] at h0 h1;obtain⟨a,ha,ra⟩:=Gs E h0;obtain⟨l,g1,_,g2,v,hv,g3⟩:=Fa K E.uVs E.cV Am Dy (fun v=>Iz v.index∧Iz v.plus) (fun _=>1) (B:=1048576) (fun m cs y _ h _=>by obtain⟨v,q1,q2⟩:=bX E h;exact⟨v,q1,q2,K.pos _⟩) h1 An;refine⟨⟨a,l⟩,?_,⟨by simp only[Dc];omega,ra,g2⟩⟩;have:=CR.cut (o:=0) ha (CR.cut (o:=1) (a:=[.lst (l.map Dy)]) (k:=1) (by rw[hv];exact CR.one g3) (CR.end hl));simpa [Bz] using this
theorem jx (E:GX P tI tS tV tVs tL tLs tT tTs):∀(n:Nat) (cs:List Value) (y:DataW H×List MemPlace),DataW.trod enc P w base sp hd n tT cs=some y→K.b y.1≤1048576→∃t:Tm,CR w (BO t) cs∧Nd t∧5*size t≤K.b y.1:=by
 intro n
 induction n using Nat.strongRecOn with
 | ind n ih =>
  intro cs y h hB;obtain⟨m,rfl,hl,hg⟩:=IN K E.fT h;rw[E.cT] at hl;obtain⟨z0,h0,b0⟩:=hg 0 _ rfl;obtain⟨z1,h1,b1⟩:=hg 1 _ rfl;obtain⟨z2,h2,b2⟩:=hg 2 _ rfl;obtain⟨z3,h3,b3⟩:=hg 3 _ rfl;obtain⟨z4,h4,b4⟩:=hg 4 _ rfl;simp only[E.cI,E.cS,E.cLs,E.cTs] at h0 h1 h2 h3 h4;obtain⟨a,ha,ra⟩:=Gs E h0;obtain⟨b,hb,rb⟩:=Gs E h1;obtain⟨s,hs,ws⟩:=Ll K E h2;obtain⟨l,g1,_,g2,v,hv,g3⟩:=Fa K E.uLs E.cL Am Bz Mw (fun _=>1) (B:=1048576) (fun m cs y _ h hB=>by obtain⟨v,q1,q2⟩:=gO K E h hB;exact⟨v,q1,q2,K.pos _⟩) h3 An;obtain⟨ks,k1,k4,k2,u,hu,k3⟩:=Fa K E.uTs E.cT Am BO Nd (fun t=>5*size t) (B:=1048576) (fun m' cs y hm h hB=>ih m' An cs y h hB) h4 An;refine⟨.mk a b s l ks,?_,⟨by simp only[Dc];omega,by simp only[Dc];omega,g2,by simp only[Dc];omega,Xj k2,ra,rb⟩,by rw[P7] at k4;simp only[List.length_cons,List.length_nil] at b4;simp only[size];omega⟩;have:=CR.cut (o:=0) ha (CR.cut (o:=1) hb (CR.cut (o:=2) hs (CR.cut (o:=3) (a:=[.lst (l.map Bz)]) (k:=1) (by rw[hv];exact CR.one g3) (CR.cut (o:=4) (a:=[.lst (BE ks)]) (k:=1) (by rw[hu,EE];exact CR.one k3) (CR.end hl)))));simpa [BO] using this
theorem JE (E:GX P tI tS tV tVs tL tLs tT tTs) {n:Nat}{cs:List Value}{y:DataW H×List MemPlace}(h:DataW.trod enc P w base sp hd n tT cs=some y) (hB:K.b y.1≤1048576):∃t:Tm,CR w (BO t) cs∧UW t:=by
 obtain⟨t,h1,h2,h3⟩:=jx K E n cs y h hB;exact⟨t,h1,h2,by omega⟩
theorem bW (E:GX P tI tS tV tVs tL tLs tT tTs) {n:Nat}{cs:List Value}{y:DataW H×List MemPlace}(h:DataW.trod enc P w base sp hd n tTs cs=some y) (hB:K.b y.1≤1048576):∃l:List Tm,l.length<2000000∧(∀t∈l,UW t)∧CR w [.lst (BE l)] cs:=by
 obtain⟨l,g1,_,g2,v,rfl,g3⟩:=Fa K E.uTs E.cT Am BO UW (fun _=>1) (B:=1048576) (fun m cs y _ h hB=>by obtain⟨v,q1,q2⟩:=JE K E h hB;exact⟨v,q1,q2,K.pos _⟩) h hB;exact⟨l,by omega,g2,CR.one (by rw[EE];exact g3)⟩
variable (D:Ul P tI tB tS tT tTs tC tCs tR tTr tBr tBrs tF tFs tD tDs) (E:GX P tI tS tV tVs tL tLs tT tTs)
include D E
theorem jk {n:Nat}{cs:List Value}{y:DataW H×List MemPlace}(h:DataW.trod enc P w base sp hd n tC cs=some y) (hB:K.b y.1≤1048576):∃c:IX,CR w (Gp c) cs∧dk c:=by
 obtain⟨m,rfl,hl,hg⟩:=IN K D.fC h;rw[D.cC] at hl;obtain⟨z0,h0,b0⟩:=hg 0 _ rfl;obtain⟨z1,h1,b1⟩:=hg 1 _ rfl;simp only[E.cS,E.cT] at h0 h1;obtain⟨s,hs,ws⟩:=Ll K E h0;obtain⟨t,ht,wt⟩:=JE K E h1 An;refine⟨⟨s,t⟩,?_,⟨by simp only;omega,wt⟩⟩;have:=CR.cut (o:=0) hs (CR.cut (o:=1) ht (CR.end hl));simpa [Gp] using this
theorem gN {n:Nat}{cs:List Value}{y:DataW H×List MemPlace}(h:DataW.trod enc P w base sp hd n tR cs=some y) (hB:K.b y.1≤1048576):∃r:gJ,CR w (Rg r) cs∧UW r.type∧r.rules.length<2000000∧∀t∈r.rules,UW t:=by
 obtain⟨m,rfl,hl,hg⟩:=IN K D.fR h;rw[D.cR] at hl;obtain⟨z0,h0,b0⟩:=hg 0 _ rfl;obtain⟨z1,h1,b1⟩:=hg 1 _ rfl;obtain⟨z2,h2,b2⟩:=hg 2 _ rfl;simp only[E.cI,E.cT,E.cTs] at h0 h1 h2;obtain⟨a,ha,_⟩:=Gs E h0;obtain⟨t,ht,wt⟩:=JE K E h1 An;obtain⟨l,l1,l2,l3⟩:=bW K E h2 An;refine⟨⟨a,t,l⟩,?_,wt,l1,l2⟩;have:=CR.cut (o:=0) ha (CR.cut (o:=1) ht (CR.cut (o:=6) l3 (CR.end hl)));simpa [Rg] using this
theorem cW:∀(n:Nat) (cs:List Value) (y:DataW H×List MemPlace),DataW.trod enc P w base sp hd n tTr cs=some y→K.b y.1≤1048576→∃t:Es,CR w (Ch t) cs∧HS t:=by
 intro n
 induction n using Nat.strongRecOn with
 | ind n ih =>
  intro cs y h hB;obtain⟨m,rfl,hl,hg⟩:=IN K D.fTr h;rw[D.cTr] at hl;obtain⟨z0,h0,b0⟩:=hg 0 _ rfl;obtain⟨z1,h1,b1⟩:=hg 1 _ rfl;obtain⟨z2,h2,b2⟩:=hg 2 _ rfl;obtain⟨z3,h3,b3⟩:=hg 3 _ rfl;simp only[E.cI,E.cT,D.cBrs] at h0 h1 h2 h3;obtain⟨a,ha,_⟩:=Gs E h0;obtain⟨t,ht,wt⟩:=JE K E h1 An;obtain⟨b,hb,_⟩:=Gs E h2;obtain⟨l,g1,_,g2,v,hv,g3⟩:=Fa K D.uBrs D.cBr Am G2 Q0 (fun _=>1) (B:=1048576) (fun m' cs y hm h hB=>by
   obtain⟨m2,rfl,hl,hg⟩:=IN K D.fBr h;rw[D.cBr] at hl;obtain⟨z0,h0,b0⟩:=hg 0 _ rfl;obtain⟨z1,h1,b1⟩:=hg 1 _ rfl;obtain⟨z2,h2,b2⟩:=hg 2 _ rfl;simp only[E.cS,D.cB,D.cTr] at h0 h1 h2;obtain⟨s,hs,ws⟩:=Ll K E h0;obtain⟨b,hb⟩:=Zt D h1;obtain⟨r,hr,wr⟩:=ih m2 An _ _ h2 An;refine⟨.mk s b r,?_,⟨by omega,wr⟩,K.pos _⟩;have:=CR.cut (o:=0) hs (CR.cut (o:=1) hb (CR.cut (o:=2) hr (CR.end hl)));simpa [G2] using this) h3 An
  have hbs:∀{l:List GQ},(∀b∈l,Q0 b)→NM l:=by
   intro l
   induction l with
   | nil=>exact fun _=>trivial
   | cons b l ih2=>exact fun h=>⟨h b Ao,ih2 fun c hc=>h c (by simp[hc])⟩
  refine⟨.mk a t b l,?_,⟨wt,by omega,hbs g2⟩⟩;have:=CR.cut (o:=0) ha (CR.cut (o:=1) ht (CR.cut (o:=6) hb (CR.cut (o:=7) (a:=[.lst (LQ l)]) (k:=1) (by rw[hv,MU];exact CR.one g3) (CR.end hl))));simpa [Ch] using this
theorem iz {n:Nat}{cs:List Value}{y:DataW H×List MemPlace}(h:DataW.trod enc P w base sp hd n tF cs=some y) (hB:K.b y.1≤1048576):∃f:G7,CR w (Ec f) cs∧dH f:=by
 obtain⟨m,rfl,hl,hg⟩:=IN K D.fF h;rw[D.cF] at hl;obtain⟨z0,h0,b0⟩:=hg 0 _ rfl;obtain⟨z1,h1,b1⟩:=hg 1 _ rfl;obtain⟨z2,h2,b2⟩:=hg 2 _ rfl;obtain⟨z3,h3,b3⟩:=hg 3 _ rfl;simp only[E.cS,E.cT,E.cI,D.cTr] at h0 h1 h2 h3;obtain⟨s,hs,ws⟩:=Ll K E h0;obtain⟨t,ht,wt⟩:=JE K E h1 An;obtain⟨a,ha,_⟩:=Gs E h2;obtain⟨r,hr,wr⟩:=cW K D E _ _ _ h3 An;refine⟨⟨s,t,a,r⟩,?_,⟨by simp only;omega,wt,wr⟩⟩;have:=CR.cut (o:=0) hs (CR.cut (o:=1) ht (CR.cut (o:=6) ha (CR.cut (o:=7) hr (CR.end hl))));simpa [Ec] using this
theorem gS {n:Nat}{cs:List Value}{y:DataW H×List MemPlace}(h:DataW.trod enc P w base sp hd n tD cs=some y) (hB:K.b y.1≤1048576):∃d:CH,CR w (Bh d) cs∧Ns d:=by
 obtain⟨m,rfl,hl,hg⟩:=IN K D.fD h;rw[D.cD] at hl;obtain⟨z0,h0,b0⟩:=hg 0 _ rfl;obtain⟨z1,h1,b1⟩:=hg 1 _ rfl;obtain⟨z2,h2,b2⟩:=hg 2 _ rfl;obtain⟨z3,h3,b3⟩:=hg 3 _ rfl;obtain⟨z4,h4,b4⟩:=hg 4 _ rfl;obtain⟨z5,h5,b5⟩:=hg 5 _ rfl;obtain⟨z6,h6,b6⟩:=hg 6 _ rfl;obtain⟨z7,h7,b7⟩:=hg 7 _ rfl;obtain⟨z8,h8,b8⟩:=hg 8 _ rfl;simp only[E.cS,E.cT,E.cI,D.cCs,D.cR,D.cFs] at h0 h1 h2 h3 h4 h5 h6 h7 h8;obtain⟨a,ha,_⟩:=Gs E h0;obtain⟨s,hs,ws⟩:=Ll K E h1;obtain⟨p,hp,_⟩:=Gs E h2;obtain⟨t,ht,wt⟩:=JE K E h3 An;obtain⟨u,hu,wu⟩:=JE K E h4 An;obtain⟨f,hf,_⟩:=Gs E h5;obtain⟨cl,c1,_,c2,cv,hcv,c3⟩:=Fa K D.uCs D.cC Am Gp dk (fun _=>1) (B:=1048576) (fun m cs y _ h hB=>by obtain⟨v,q1,q2⟩:=jk K D E h hB;exact⟨v,q1,q2,K.pos _⟩) h6 An;obtain⟨r,hr,r1,r2,r3⟩:=gN K D E h7 An;obtain⟨fl,f1,_,f2,fv,hfv,f3⟩:=Fa K D.uFs D.cF Am Ec dH (fun _=>1) (B:=1048576) (fun m cs y _ h hB=>by obtain⟨v,q1,q2⟩:=iz K D E h hB;exact⟨v,q1,q2,K.pos _⟩) h8 An;refine⟨⟨a,s,p,t,u,f,cl,r,fl⟩,?_,⟨by simp only;omega,wt,wu,by simp only;omega,c2,r1,r2,r3,by simp only;omega,f2⟩⟩;have:=CR.cut (o:=0) ha (CR.cut (o:=1) hs (CR.cut (o:=2) hp (CR.cut (o:=3) ht (CR.cut (o:=8) hu (CR.cut (o:=13) hf (CR.cut (o:=14) (a:=[.lst (cl.map Gp)]) (k:=1) (by rw[hcv];exact CR.one c3) (CR.cut (o:=15) hr (CR.cut (o:=22) (a:=[.lst (fl.map Ec)]) (k:=1) (by rw[hfv];exact CR.one f3) (CR.end hl)))))))));simpa [Bh] using this
theorem lx {b2:Nat}{r:Reach}{v:Value}{d:DataW H}{ps:List MemPlace}(hk:Value.okWide P w r b2 tDs v) (h:DataW.Trod enc P w base sp hd tDs v d ps) (hB:K.b d≤1048576):∃l:List CH,G1 l∧CE F0 w (.p (.lst (l.map Bh))) v:=by
 obtain⟨n,h⟩:=h;obtain⟨l,g1,_,g2,u,hu,g3⟩:=Fa K D.uDs D.cD Am Bh Ns (fun _=>1) (B:=1048576) (fun m cs y _ h hB=>by obtain⟨v,q1,q2⟩:=gS K D E h hB;exact⟨v,q1,q2,K.pos _⟩) h hB;have:=S8 D.uDs hk hu;subst this;have g1':l.length≤K.b d:=g1;exact⟨l,⟨by omega,g2⟩,by simp only[CE];exact g3⟩
end
theorem ke {H:Type}{enc:TypeId×Value→H}{P:Program}{w:World}{base:Nat}{sp:Nat→Bool}{hd:Bool}{t:TypeId}(ut:P.underlying t=some (.int .u8)) {b2:Nat}{r:Reach}{v:Value}{d:DataW H}{ps:List MemPlace}(hk:Value.okWide P w r b2 t v) (h:DataW.Trod enc P w base sp hd t v d ps):∃i:Int,(0≤i∧i<256)∧CE F0 w (.p (.int .u8 i)) v:=by
 obtain⟨n,h⟩:=h;obtain⟨a,ha,_,wa⟩:=DataW.trod_int ut h;have:=jn ut hk ha;subst this;refine⟨a,?_,by simp[CE,CI]⟩;simp only[Lit.wf,Bool.and_eq_true,decide_eq_true_eq] at wa;have e1:IntKind.min .u8=0:=by decide
 have e2:IntKind.max .u8=255:=by decide
 omega
end Go.Eu
namespace Go.Proofs.YtboammbpdaoojaaGreat
open Go.Eu Go.Lib Go.ChangeShapes Go.WideShapes Go.ChangeAt Go.RowKit
theorem own:ownKnob Tryz.prog.godebug=none:=by kernel_rfl
theorem laidOut:laidOutB Tryz.prog=true:=by kernel_rfl
theorem tA:GX Tryz.prog 3 9 162 113 115 23 26 24:=⟨by kernel_rfl,by kernel_rfl,by kernel_rfl,by kernel_rfl,by kernel_rfl,by kernel_rfl,by kernel_rfl,by kernel_rfl,by kernel_rfl,by kernel_rfl,by kernel_rfl,by kernel_rfl,by kernel_rfl,by kernel_rfl,by kernel_rfl,by kernel_rfl⟩
theorem uN:Ul Tryz.prog 3 4 9 26 24 117 62 64 69 120 67 71 61 66 22:=⟨by kernel_rfl,by kernel_rfl,by kernel_rfl,by kernel_rfl,by kernel_rfl,by kernel_rfl,by kernel_rfl,by kernel_rfl,by kernel_rfl,by kernel_rfl,by kernel_rfl,by kernel_rfl,by kernel_rfl,by kernel_rfl,by kernel_rfl,by kernel_rfl,by kernel_rfl,by kernel_rfl,by kernel_rfl,by kernel_rfl,by kernel_rfl,by kernel_rfl⟩
theorem uF:Tryz.prog.underlying 5=some (.int .u8):=by kernel_rfl
noncomputable def blk (H:Type):az H where
 b:=Rows.uptoBulk
 a:=Rows.uptoBulkAll
 str:=fun s=>by simp[Rows.uptoBulk]
 slice:=fun e s=>by simp[Rows.uptoBulk]
 agg:=fun p=>by simp[Rows.uptoBulk]
 nil:=by simp[Rows.uptoBulkAll]
 cons:=fun d r=>by simp[Rows.uptoBulkAll]
 pos:=fun d=>by
  cases d with
  | lit l=>cases l<;>simp[Rows.uptoBulk]
  | _=>simp[Rows.uptoBulk]
theorem je {H:Type}{ds:List (DataW H)}(h:Rows.uptoSmall H ds=true) {i:Nat}{d:DataW H}(hd:ds[i]?=some d):(blk H).b d≤1048576:=by
 have h1:=(blk H).mem hd;have h2:(blk H).a ds≤1048576:=of_decide_eq_true h;omega
noncomputable def Ma (os:Os):World:=World.holding Tryz.prog os ⟨#[],#[],[]⟩
theorem _root_.Go.Aj {α:Prop}(h:α:=by kernel_rfl):α:=h
theorem ep (os:Os) (args:Array Value):laidMet Tryz.prog [] ((Ma os).forCall (fun _ _=>0) ⟨#[],args,[]⟩).memory :=
 (LaidIn.of_run [] 8 Aj Aj Aj Aj:LaidIn Tryz.prog ((Ma os).forCall (fun _ _=>0) ⟨#[],args,[]⟩).memory [] []).met
end Go.Proofs.YtboammbpdaoojaaGreat
namespace Go.Proofs.YtboammbpdaoojaaGreat
open Go.Abs
theorem HT:Fq Tryz.prog 22=some (66,23,360):=by kernel_rfl
theorem EX:Fq Tryz.prog 23=some (115,2,32):=by kernel_rfl
theorem Be:Fq Tryz.prog 24=some (26,5,80):=by kernel_rfl
theorem GB:Fq Tryz.prog 61=some (71,15,224):=by kernel_rfl
theorem HN:Fq Tryz.prog 62=some (117,6,96):=by kernel_rfl
theorem Jd:Fq Tryz.prog 67=some (120,10,144):=by kernel_rfl
theorem Gq:Fq Tryz.prog 104=some (9,1,16):=by kernel_rfl
theorem CS:Fq Tryz.prog 113=some (162,2,16):=by kernel_rfl
theorem Hh:Fq Tryz.prog 137=some (3,1,8):=by kernel_rfl
theorem SM:Fq Tryz.prog 190=some (192,2,32):=by kernel_rfl
theorem tz:BJ Tryz.prog 9=true:=by kernel_rfl
theorem rU:BJ Tryz.prog 10=true:=by kernel_rfl
theorem rI:BJ Tryz.prog 11=true:=by kernel_rfl
theorem sc:BJ Tryz.prog 12=true:=by kernel_rfl
theorem re:BJ Tryz.prog 13=true:=by kernel_rfl
theorem sF:BJ Tryz.prog 14=true:=by kernel_rfl
theorem sZ:BJ Tryz.prog 15=true:=by kernel_rfl
theorem sJ:BJ Tryz.prog 16=true:=by kernel_rfl
theorem sg:BJ Tryz.prog 18=true:=by kernel_rfl
theorem sf:BJ Tryz.prog 20=true:=by kernel_rfl
theorem sG:BJ Tryz.prog 21=true:=by kernel_rfl
theorem sB:BJ Tryz.prog 22=true:=by kernel_rfl
theorem rT:BJ Tryz.prog 23=true:=by kernel_rfl
theorem rO:BJ Tryz.prog 24=true:=by kernel_rfl
theorem sT:BJ Tryz.prog 27=true:=by kernel_rfl
theorem rW:BJ Tryz.prog 28=true:=by kernel_rfl
theorem sP:BJ Tryz.prog 29=true:=by kernel_rfl
theorem qZ:BJ Tryz.prog 30=true:=by kernel_rfl
theorem sC:BJ Tryz.prog 31=true:=by kernel_rfl
theorem qv:BJ Tryz.prog 32=true:=by kernel_rfl
theorem sS:BJ Tryz.prog 33=true:=by kernel_rfl
theorem rC:BJ Tryz.prog 34=true:=by kernel_rfl
theorem qd:BJ Tryz.prog 35=true:=by kernel_rfl
theorem sq:BJ Tryz.prog 36=true:=by kernel_rfl
theorem m6:BJ Tryz.prog 37=true:=by kernel_rfl
theorem qk:BJ Tryz.prog 38=true:=by kernel_rfl
theorem sa:BJ Tryz.prog 39=true:=by kernel_rfl
theorem sI:BJ Tryz.prog 40=true:=by kernel_rfl
theorem sV:BJ Tryz.prog 41=true:=by kernel_rfl
theorem qS:BJ Tryz.prog 42=true:=by kernel_rfl
theorem rp:BJ Tryz.prog 43=true:=by kernel_rfl
theorem q8:BJ Tryz.prog 44=true:=by kernel_rfl
theorem qt:BJ Tryz.prog 45=true:=by kernel_rfl
theorem sY:BJ Tryz.prog 46=true:=by kernel_rfl
theorem qe:BJ Tryz.prog 47=true:=by kernel_rfl
theorem ri:BJ Tryz.prog 48=true:=by kernel_rfl
theorem sm:BJ Tryz.prog 49=true:=by kernel_rfl
theorem ry:BJ Tryz.prog 50=true:=by kernel_rfl
theorem sN:BJ Tryz.prog 52=true:=by kernel_rfl
theorem rH:BJ Tryz.prog 53=true:=by kernel_rfl
theorem rQ:BJ Tryz.prog 54=true:=by kernel_rfl
theorem qW:BJ Tryz.prog 55=true:=by kernel_rfl
theorem qa:BJ Tryz.prog 56=true:=by kernel_rfl
theorem rj:BJ Tryz.prog 57=true:=by kernel_rfl
theorem sX:BJ Tryz.prog 58=true:=by kernel_rfl
theorem rB:BJ Tryz.prog 59=true:=by kernel_rfl
theorem qq:BJ Tryz.prog 60=true:=by kernel_rfl
theorem rq:BJ Tryz.prog 61=true:=by kernel_rfl
theorem qo:BJ Tryz.prog 62=true:=by kernel_rfl
theorem qz:BJ Tryz.prog 63=true:=by kernel_rfl
theorem sr:BJ Tryz.prog 64=true:=by kernel_rfl
theorem qw:BJ Tryz.prog 65=true:=by kernel_rfl
theorem qT:BJ Tryz.prog 66=true:=by kernel_rfl
theorem qU:BJ Tryz.prog 67=true:=by kernel_rfl
theorem sH:BJ Tryz.prog 68=true:=by kernel_rfl
theorem rv:BJ Tryz.prog 69=true:=by kernel_rfl
theorem si:BJ Tryz.prog 70=true:=by kernel_rfl
theorem oK:BJ Tryz.prog 71=true:=by kernel_rfl
theorem qx:BJ Tryz.prog 72=true:=by kernel_rfl
theorem r7:BJ Tryz.prog 73=true:=by kernel_rfl
theorem rA:BJ Tryz.prog 74=true:=by kernel_rfl
theorem rn:BJ Tryz.prog 75=true:=by kernel_rfl
theorem rz:BJ Tryz.prog 76=true:=by kernel_rfl
theorem sl:BJ Tryz.prog 77=true:=by kernel_rfl
theorem sh:BJ Tryz.prog 78=true:=by kernel_rfl
theorem qV:BJ Tryz.prog 79=true:=by kernel_rfl
theorem qb:BJ Tryz.prog 80=true:=by kernel_rfl
theorem r8:BJ Tryz.prog 81=true:=by kernel_rfl
theorem sR:BJ Tryz.prog 82=true:=by kernel_rfl
theorem qy:BJ Tryz.prog 83=true:=by kernel_rfl
theorem ql:BJ Tryz.prog 84=true:=by kernel_rfl
theorem oc:BJ Tryz.prog 85=true:=by kernel_rfl
theorem rD:BJ Tryz.prog 87=true:=by kernel_rfl
theorem sQ:BJ Tryz.prog 89=true:=by kernel_rfl
theorem r6:BJ Tryz.prog 90=true:=by kernel_rfl
theorem rE:BJ Tryz.prog 91=true:=by kernel_rfl
theorem sO:BJ Tryz.prog 92=true:=by kernel_rfl
theorem qu:BJ Tryz.prog 93=true:=by kernel_rfl
theorem rV:BJ Tryz.prog 94=true:=by kernel_rfl
theorem sU:BJ Tryz.prog 95=true:=by kernel_rfl
theorem rZ:BJ Tryz.prog 96=true:=by kernel_rfl
theorem r5:BJ Tryz.prog 97=true:=by kernel_rfl
theorem sK:BJ Tryz.prog 98=true:=by kernel_rfl
theorem pW:BJ Tryz.prog 99=true:=by kernel_rfl
theorem px:BJ Tryz.prog 100=true:=by kernel_rfl
theorem oF:BJ Tryz.prog 101=true:=by kernel_rfl
theorem oD:BJ Tryz.prog 102=true:=by kernel_rfl
theorem nY:BJ Tryz.prog 103=true:=by kernel_rfl
theorem oI:BJ Tryz.prog 104=true:=by kernel_rfl
theorem oA:BJ Tryz.prog 105=true:=by kernel_rfl
theorem pP:BJ Tryz.prog 106=true:=by kernel_rfl
theorem nw:BJ Tryz.prog 107=true:=by kernel_rfl
theorem nH:BJ Tryz.prog 108=true:=by kernel_rfl
theorem nj:BJ Tryz.prog 109=true:=by kernel_rfl
theorem oP:BJ Tryz.prog 110=true:=by kernel_rfl
theorem pM:BJ Tryz.prog 111=true:=by kernel_rfl
theorem m0:BJ Tryz.prog 112=true:=by kernel_rfl
theorem p7:BJ Tryz.prog 113=true:=by kernel_rfl
theorem nU:BJ Tryz.prog 114=true:=by kernel_rfl
theorem kD:BJ Tryz.prog 115=true:=by kernel_rfl
theorem oH:BJ Tryz.prog 116=true:=by kernel_rfl
theorem ou:BJ Tryz.prog 117=true:=by kernel_rfl
theorem p5:BJ Tryz.prog 118=true:=by kernel_rfl
theorem oE:BJ Tryz.prog 120=true:=by kernel_rfl
theorem pw:BJ Tryz.prog 121=true:=by kernel_rfl
theorem mh:BJ Tryz.prog 122=true:=by kernel_rfl
theorem pz:BJ Tryz.prog 123=true:=by kernel_rfl
theorem qK:BJ Tryz.prog 124=true:=by kernel_rfl
theorem oU:BJ Tryz.prog 125=true:=by kernel_rfl
theorem nJ:BJ Tryz.prog 126=true:=by kernel_rfl
theorem p6:BJ Tryz.prog 127=true:=by kernel_rfl
theorem oo:BJ Tryz.prog 128=true:=by kernel_rfl
theorem nq:BJ Tryz.prog 129=true:=by kernel_rfl
theorem j3:BJ Tryz.prog 130=true:=by kernel_rfl
theorem pv:BJ Tryz.prog 131=true:=by kernel_rfl
theorem nN:BJ Tryz.prog 132=true:=by kernel_rfl
theorem nM:BJ Tryz.prog 133=true:=by kernel_rfl
theorem pA:BJ Tryz.prog 134=true:=by kernel_rfl
theorem oV:BJ Tryz.prog 135=true:=by kernel_rfl
theorem nF:BJ Tryz.prog 136=true:=by kernel_rfl
theorem oL:BJ Tryz.prog 137=true:=by kernel_rfl
theorem p8:BJ Tryz.prog 138=true:=by kernel_rfl
theorem qC:BJ Tryz.prog 139=true:=by kernel_rfl
theorem nB:BJ Tryz.prog 141=true:=by kernel_rfl
theorem ni:BJ Tryz.prog 142=true:=by kernel_rfl
theorem nR:BJ Tryz.prog 143=true:=by kernel_rfl
theorem nX:BJ Tryz.prog 144=true:=by kernel_rfl
theorem nW:BJ Tryz.prog 146=true:=by kernel_rfl
theorem qE:BJ Tryz.prog 147=true:=by kernel_rfl
theorem kL:BJ Tryz.prog 148=true:=by kernel_rfl
theorem qD:BJ Tryz.prog 149=true:=by kernel_rfl
theorem qH:BJ Tryz.prog 150=true:=by kernel_rfl
theorem nh:BJ Tryz.prog 151=true:=by kernel_rfl
theorem qI:BJ Tryz.prog 152=true:=by kernel_rfl
theorem kC:BJ Tryz.prog 153=true:=by kernel_rfl
theorem oM:BJ Tryz.prog 154=true:=by kernel_rfl
theorem ng:BJ Tryz.prog 155=true:=by kernel_rfl
theorem m9:BJ Tryz.prog 156=true:=by kernel_rfl
theorem pL:BJ Tryz.prog 157=true:=by kernel_rfl
theorem qG:BJ Tryz.prog 158=true:=by kernel_rfl
theorem oY:BJ Tryz.prog 159=true:=by kernel_rfl
theorem pR:BJ Tryz.prog 160=true:=by kernel_rfl
theorem nO:BJ Tryz.prog 161=true:=by kernel_rfl
theorem kJ:BJ Tryz.prog 162=true:=by kernel_rfl
theorem oJ:BJ Tryz.prog 163=true:=by kernel_rfl
theorem nI:BJ Tryz.prog 164=true:=by kernel_rfl
theorem oQ:BJ Tryz.prog 165=true:=by kernel_rfl
theorem pG:BJ Tryz.prog 166=true:=by kernel_rfl
theorem qA:BJ Tryz.prog 167=true:=by kernel_rfl
theorem nK:BJ Tryz.prog 168=true:=by kernel_rfl
theorem pT:BJ Tryz.prog 169=true:=by kernel_rfl
theorem oG:BJ Tryz.prog 170=true:=by kernel_rfl
theorem od:BJ Tryz.prog 171=true:=by kernel_rfl
theorem qB:BJ Tryz.prog 172=true:=by kernel_rfl
theorem po:BJ Tryz.prog 173=true:=by kernel_rfl
theorem oN:BJ Tryz.prog 174=true:=by kernel_rfl
theorem pN:BJ Tryz.prog 175=true:=by kernel_rfl
theorem pQ:BJ Tryz.prog 176=true:=by kernel_rfl
theorem pt:BJ Tryz.prog 177=true:=by kernel_rfl
theorem kH:BJ Tryz.prog 178=true:=by kernel_rfl
theorem nG:BJ Tryz.prog 179=true:=by kernel_rfl
theorem ox:BJ Tryz.prog 180=true:=by kernel_rfl
theorem pX:BJ Tryz.prog 181=true:=by kernel_rfl
theorem mb:BJ Tryz.prog 182=true:=by kernel_rfl
theorem ma:BJ Tryz.prog 183=true:=by kernel_rfl
theorem mx:BJ Tryz.prog 184=true:=by kernel_rfl
theorem oT:BJ Tryz.prog 185=true:=by kernel_rfl
theorem og:BJ Tryz.prog 186=true:=by kernel_rfl
theorem nP:BJ Tryz.prog 187=true:=by kernel_rfl
theorem mi:BJ Tryz.prog 188=true:=by kernel_rfl
theorem ot:BJ Tryz.prog 189=true:=by kernel_rfl
theorem nv:BJ Tryz.prog 190=true:=by kernel_rfl
theorem nz:BJ Tryz.prog 191=true:=by kernel_rfl
theorem mr:BJ Tryz.prog 193=true:=by kernel_rfl
theorem qF:BJ Tryz.prog 194=true:=by kernel_rfl
theorem mW:BJ Tryz.prog 195=true:=by kernel_rfl
theorem oX:BJ Tryz.prog 196=true:=by kernel_rfl
theorem oS:BJ Tryz.prog 200=true:=by kernel_rfl
theorem HO:fieldsOf Tryz.prog 26=some [(0,1),(1,1),(2,1),(3,1),(4,1)]:=by kernel_rfl
theorem qj:fieldsOf Tryz.prog 36=some [(0,1),(1,1),(2,1),(3,1),(4,1)]:=by kernel_rfl
theorem GH:fieldsOf Tryz.prog 51=some [(0,1),(1,1),(2,1),(3,1),(4,5)]:=by kernel_rfl
theorem Cz:fieldsOf Tryz.prog 66=some [(0,1),(1,1),(2,1),(3,5),(8,5),(13,1),(14,1),(15,7),(22,1)]:=by kernel_rfl
theorem FF:fieldsOf Tryz.prog 69=some [(0,1),(1,5),(6,1),(7,1)]:=by kernel_rfl
theorem Gv:fieldsOf Tryz.prog 71=some [(0,1),(1,5),(6,1),(7,8)]:=by kernel_rfl
theorem TO:fieldsOf Tryz.prog 115=some [(0,1),(1,1)]:=by kernel_rfl
theorem Ik:fieldsOf Tryz.prog 117=some [(0,1),(1,5)]:=by kernel_rfl
theorem IJ:fieldsOf Tryz.prog 120=some [(0,1),(1,1),(2,8)]:=by kernel_rfl
theorem eG:fieldsOf Tryz.prog 122=some []:=by kernel_rfl
theorem pV:fieldsOf Tryz.prog 125=some [(0,1),(1,1)]:=by kernel_rfl
theorem gE:fieldsOf Tryz.prog 148=some [(0,1),(1,1)]:=by kernel_rfl
theorem j4:fieldsOf Tryz.prog 162=some [(0,1),(1,1)]:=by kernel_rfl
theorem ny:fieldsOf Tryz.prog 167=some [(0,1),(1,1),(2,1),(3,1),(4,1)]:=by kernel_rfl
theorem Oc:fieldsOf Tryz.prog 200=some [(0,1),(1,1),(2,23)]:=by kernel_rfl
theorem pF:fieldsOf Tryz.prog 207=some [(0,1)]:=by kernel_rfl
theorem oO:fieldsOf Tryz.prog 231=some [(0,1),(1,1)]:=by kernel_rfl
theorem eI:mapOf Tryz.prog 229=some 3:=by kernel_rfl
theorem Dn:Tryz.prog.follows .mixedOrders=true:=by kernel_rfl
theorem nQ:N9 Tryz.prog 162=true:=by kernel_rfl
theorem ty2:EB Tryz.prog 2=some (false,1):=by kernel_rfl
theorem DN:EB Tryz.prog 3=some (false,1):=by kernel_rfl
theorem oW:EB Tryz.prog 4=some (false,1):=by kernel_rfl
theorem Ln:EB Tryz.prog 9=some (false,1):=by kernel_rfl
theorem dt:EB Tryz.prog 22=some (false,1):=by kernel_rfl
theorem Gj:EB Tryz.prog 24=some (false,1):=by kernel_rfl
theorem BY:EB Tryz.prog 26=some (true,5):=by kernel_rfl
theorem Sf:EB Tryz.prog 29=some (false,1):=by kernel_rfl
theorem Ld:EB Tryz.prog 51=some (true,9):=by kernel_rfl
theorem HY:EB Tryz.prog 61=some (false,1):=by kernel_rfl
theorem Hg:EB Tryz.prog 62=some (false,1):=by kernel_rfl
theorem FW:EB Tryz.prog 66=some (true,23):=by kernel_rfl
theorem Kf:EB Tryz.prog 67=some (false,1):=by kernel_rfl
theorem IY:EB Tryz.prog 69=some (true,8):=by kernel_rfl
theorem Zn:EB Tryz.prog 71=some (true,15):=by kernel_rfl
theorem V6:EB Tryz.prog 104=some (false,1):=by kernel_rfl
theorem DY:EB Tryz.prog 115=some (true,2):=by kernel_rfl
theorem pq:EB Tryz.prog 117=some (true,6):=by kernel_rfl
theorem TZ:EB Tryz.prog 120=some (true,10):=by kernel_rfl
theorem ow:EB Tryz.prog 122=some (true,0):=by kernel_rfl
theorem Jg:EB Tryz.prog 158=some (false,1):=by kernel_rfl
theorem NA:EB Tryz.prog 162=some (true,2):=by kernel_rfl
theorem kN:EB Tryz.prog 167=some (true,5):=by kernel_rfl
theorem nk:EB Tryz.prog 168=some (true,65):=by kernel_rfl
theorem mY:EB Tryz.prog 192=some (true,2):=by kernel_rfl
theorem nT:EB Tryz.prog 205=some (false,1):=by kernel_rfl
theorem mw:EB Tryz.prog 210=some (true,1):=by kernel_rfl
theorem Jh:Tryz.prog.underlying 159=some (.array 7 158):=by kernel_rfl
theorem kV:Tryz.prog.underlying 168=some (.array 13 167):=by kernel_rfl
theorem ah:Tryz.prog.underlying 20=some (.interface #[]):=by kernel_rfl
theorem kQ:Tryz.prog.underlying 223=some (.int .i64):=by kernel_rfl
theorem sL:Tryz.prog.underlying 4=some .bool:=by kernel_rfl
theorem kK:Tryz.prog.underlying 9=some .string:=by kernel_rfl
theorem jJ:zeroOf Tryz.prog 3=some (.int .i64 0):=by kernel_rfl
theorem qY:zeroOf Tryz.prog 4=some (.bool false):=by kernel_rfl
theorem iE:zeroOf Tryz.prog 9=some (.string { data:={ toList:=[] } }):=by kernel_rfl
theorem Bw:zeroOf Tryz.prog 26=some (.agg { toList:=[.int .i64 0,.int .i64 0,.string { data:={ toList:=[] } },.slice none 0 0,.slice none 0 0] }):=by kernel_rfl
theorem cP:zeroOf Tryz.prog 29=some (.int .i64 0):=by kernel_rfl
theorem sA:zeroOf Tryz.prog 36=some (.agg { toList:=[.int .i64 0,.int .i64 0,.int .i64 0,.int .i64 0,.bool false] }):=by kernel_rfl
theorem Hw:zeroOf Tryz.prog 51=some (.agg { toList:=[.int .i64 0,.int .i64 0,.int .i64 0,.int .i64 0,.int .i64 0,.int .i64 0,.string { data:={ toList:=[] } },.slice none 0 0,.slice none 0 0] }):=by kernel_rfl
theorem JP:zeroOf Tryz.prog 66=some (.agg { toList:=[.int .i64 0,.string { data:={ toList:=[] } },.int .i64 0,.int .i64 0,.int .i64 0,.string { data:={ toList:=[] } },.slice none 0 0,.slice none 0 0,.int .i64 0,.int .i64 0,.string { data:={ toList:=[] } },.slice none 0 0,.slice none 0 0,.int .i64 0,.slice none 0 0,.int .i64 0,.int .i64 0,.int .i64 0,.string { data:={ toList:=[] } },.slice none 0 0,.slice none 0 0,.slice none 0 0,.slice none 0 0] }):=by kernel_rfl
theorem Wk:zeroOf Tryz.prog 69=some (.agg { toList:=[.int .i64 0,.int .i64 0,.int .i64 0,.string { data:={ toList:=[] } },.slice none 0 0,.slice none 0 0,.int .i64 0,.slice none 0 0] }):=by kernel_rfl
theorem Vx:zeroOf Tryz.prog 71=some (.agg { toList:=[.string { data:={ toList:=[] } },.int .i64 0,.int .i64 0,.string { data:={ toList:=[] } },.slice none 0 0,.slice none 0 0,.int .i64 0,.int .i64 0,.int .i64 0,.int .i64 0,.string { data:={ toList:=[] } },.slice none 0 0,.slice none 0 0,.int .i64 0,.slice none 0 0] }):=by kernel_rfl
theorem EK:zeroOf Tryz.prog 115=some (.agg { toList:=[.int .i64 0,.slice none 0 0] }):=by kernel_rfl
theorem Ye:zeroOf Tryz.prog 117=some (.agg { toList:=[.string { data:={ toList:=[] } },.int .i64 0,.int .i64 0,.string { data:={ toList:=[] } },.slice none 0 0,.slice none 0 0] }):=by kernel_rfl
theorem ZS:zeroOf Tryz.prog 120=some (.agg { toList:=[.string { data:={ toList:=[] } },.bool false,.int .i64 0,.int .i64 0,.int .i64 0,.string { data:={ toList:=[] } },.slice none 0 0,.slice none 0 0,.int .i64 0,.slice none 0 0] }):=by kernel_rfl
theorem Yy:zeroOf Tryz.prog 122=some (.agg { toList:=[] }):=by kernel_rfl
theorem pd:zeroOf Tryz.prog 137=some (.slice none 0 0):=by kernel_rfl
theorem eK:zeroOf Tryz.prog 148=some (.agg { toList:=[.int .i64 0,.int .i64 0] }):=by kernel_rfl
theorem Qu:zeroOf Tryz.prog 159=some (.agg { toList:=[.nilFunc,.nilFunc,.nilFunc,.nilFunc,.nilFunc,.nilFunc,.nilFunc] }):=by kernel_rfl
theorem Fp:zeroOf Tryz.prog 162=some (.agg { toList:=[.int .i64 0,.int .i64 0] }):=by kernel_rfl
theorem dL:zeroOf Tryz.prog 168=some (.agg { toList:=[.bool false,.bool false,.int .i64 0,.int .i64 0,.int .i64 0,.bool false,.bool false,.int .i64 0,.int .i64 0,.int .i64 0,.bool false,.bool false,.int .i64 0,.int .i64 0,.int .i64 0,.bool false,.bool false,.int .i64 0,.int .i64 0,.int .i64 0,.bool false,.bool false,.int .i64 0,.int .i64 0,.int .i64 0,.bool false,.bool false,.int .i64 0,.int .i64 0,.int .i64 0,.bool false,.bool false,.int .i64 0,.int .i64 0,.int .i64 0,.bool false,.bool false,.int .i64 0,.int .i64 0,.int .i64 0,.bool false,.bool false,.int .i64 0,.int .i64 0,.int .i64 0,.bool false,.bool false,.int .i64 0,.int .i64 0,.int .i64 0,.bool false,.bool false,.int .i64 0,.int .i64 0,.int .i64 0,.bool false,.bool false,.int .i64 0,.int .i64 0,.int .i64 0,.bool false,.bool false,.int .i64 0,.int .i64 0,.int .i64 0] }):=by kernel_rfl
theorem o9:zeroOf Tryz.prog 170=some .nilFunc:=by kernel_rfl
theorem WI:zeroOf Tryz.prog 192=some (.agg { toList:=[.int .i64 0,.slice none 0 0] }):=by kernel_rfl
theorem kU:zeroOf Tryz.prog 200=some (.agg { toList:=[.slice none 0 0,.slice none 0 0,.int .i64 0,.string { data:={ toList:=[] } },.int .i64 0,.int .i64 0,.int .i64 0,.string { data:={ toList:=[] } },.slice none 0 0,.slice none 0 0,.int .i64 0,.int .i64 0,.string { data:={ toList:=[] } },.slice none 0 0,.slice none 0 0,.int .i64 0,.slice none 0 0,.int .i64 0,.int .i64 0,.int .i64 0,.string { data:={ toList:=[] } },.slice none 0 0,.slice none 0 0,.slice none 0 0,.slice none 0 0] }):=by kernel_rfl
theorem p9:zeroOf Tryz.prog 204=some .nilFunc:=by kernel_rfl
theorem pE:zeroOf Tryz.prog 205=some (.pointer none):=by kernel_rfl
theorem nu:zeroOf Tryz.prog 207=some (.agg { toList:=[.int .i64 0] }):=by kernel_rfl
theorem mf:zeroOf Tryz.prog 210=some (.agg { toList:=[.nilFunc] }):=by kernel_rfl
theorem nA:zeroOf Tryz.prog 231=some (.agg { toList:=[.map none,.int .i64 0] }):=by kernel_rfl
end Go.Proofs.YtboammbpdaoojaaGreat
namespace Go.Abs
theorem V5 {F:Nat→Prop}{w:World}{b:Nat}{vs:List Value}{T:TypeId}(hb:w.heap[b]?=some (.cells ⟨vs⟩ T (0,0))):∀(cs:List PV) (o:Nat),B0 F w (cs.map .p) (vs.drop o)→CQ F w b o cs
 | [],_,_=>by simp[CQ]
 | c::cs,o,h=>by
  simp only[List.map_cons,B0,CE] at h;obtain⟨u,us,e,hu,hr⟩:=h;have ho:o<vs.length:=by
   by_cases q:o<vs.length
   ·exact q
   rw[List.drop_eq_nil_of_le An] at e;cases e
  rw[List.drop_eq_getElem_cons ho] at e;injection e with e1 e2;simp only[CQ];refine⟨⟨u,?_,hu⟩,V5 hb cs (o+1) (by rw[e2];exact hr)⟩;unfold World.cell?;rw[hb];simp[ho,e1]
theorem Pf {n:Nat}{τ:Nat→AV}{H:List BI}{D:List EN}{i b:Nat}{cs:List PV}(ts:List Nat) (hi:H[i]?=some (.box b (cs.map .p))) (ht:∀t∈ts,τ t= .ptr b 0) :
  IG ⟨n,τ,H,D⟩ ⟨n,J3 ts (.ref cs) τ,H.eraseIdx i,D⟩:=by
 intro F a w hs;have hmem:=List.mem_of_getElem? hi;have hFb:F b:=hs.heap.sub _ hmem b rfl;have hbd:b<w.heap.size:=hs.heap.bd b hFb;have st:DV F w (fun k=>F k∧k≠b) w:=⟨Nat.le_refl _,fun _ _ _=>rfl,fun _ h _ h'=>h h'.1⟩;have hne:∀x∈H.eraseIdx i,∀k,x.key=some k→k≠b:=by
  intro x hx k hk hkb;subst hkb;obtain⟨j,hj⟩:=List.mem_iff_getElem?.1 hx;rw[List.getElem?_eraseIdx] at hj;split at hj
  ·have:=Ho hs.heap.nodup hj hi hk rfl;omega
  have:=Ho hs.heap.nodup hj hi hk rfl;omega
 have hsub:(H.eraseIdx i).Sublist H:=List.eraseIdx_sublist H i;refine⟨fun k=>F k∧k≠b,⟨hs.size,?_,?_,FG.mono st _ _ hs.defs⟩,?_⟩
 ·intro t;simp only[J3];cases hq:ts.any (Nat.beq t ·) with
  | false=>exact CE.mono st _ _ (hs.tmp t)
  | true =>
   obtain⟨t',ht',he⟩:=List.any_eq_true.1 hq;have e:=Nat.eq_of_beq_eq_true he;subst e;have hv:=hs.tmp t;simp only[ht t ht',CE] at hv;obtain⟨vs,T,hb,hr⟩:=hs.heap.obj _ hmem;show CE (fun k=>F k∧k≠b) w (.ref cs) _;simp only[CE];exact⟨b,0,hv,fun h=>h.2 O,hbd,V5 hb cs 0 (by rw[List.drop_zero];exact B0.mono st _ _ hr)⟩
 ·have:=hs.heap.sublist hsub;exact⟨fun x hx k hk=>⟨this.sub x hx k hk,hne x hx k hk⟩,this.nodup,fun x hx=>Ig.mono st x (fun _ _=>O) (this.obj x hx),fun k hk=>this.bd k hk.1⟩
 exact⟨Nat.le_refl _,fun _ _ _=>O,fun k hk hn=>⟨hk,fun e=>hn _ hmem (by rw[e];rfl)⟩,fun k hk=> .inl hk.1,fun x hx k hk=> .inl ⟨x,hsub.subset hx,hk⟩,O,O,O⟩
end Go.Abs
