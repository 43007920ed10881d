/- Part of the proofs: an abstract program logic, plain models and contracts of functions. -/
import Derived.Test.YtboammbpdaoojaaGreatPb
import Derived.ProofKit
import Derived.Deep.DeepHandedRow
import Derived.Lib.AppendStr
import Derived.Lib.Builder
import Derived.Laws.Externs
import Derived.Lib.UnsafeStr
import Derived.Below
import Derived.Test.YtboammbpdaoojaaGreatRows
import Derived.Deep.DeepWitnessRowRef
import Derived.Lib.LaidIn
import Derived.Test.YtboammbpdaoojaaGreatProg
set_option linter.unusedVariables false
set_option linter.unusedSimpArgs false
set_option maxRecDepth 1000000
namespace Go.Eu
open Go.Abs Go.RowKit Go.ChangeShapes Go.ChangeAt Go.WideShapes
theorem dD:∀{ts:List Tm},(∀t∈ts,Wd t)→iL ts
 | [],_=>trivial
 | t::ts,h=>⟨h t Ap,dD fun x hx=>h x (by simp[hx])⟩
abbrev F0:Nat→Prop:=fun _=>False
def CM (w:World):List PV→List Value→Prop
 | [],cs=>cs=[]
 | p::ps,cs=>∃c cs',cs=c::cs'∧CN F0 w p c∧CM w ps cs'
theorem CM.length {w:World}:∀{ps:List PV}{cs:List Value},CM w ps cs→ps.length=cs.length
 | [],cs,h=>by simp only[CM] at h;subst h;rfl
 | p::ps,cs,h=>by
  obtain⟨c,cs',rfl,_,h⟩:=h;simp[CM.length h]
theorem CM.append {w:World}:∀{a b:List PV}{x y:List Value},CM w a x→CM w b y→CM w (a++b) (x++y)
 | [],b,x,y,h,h'=>by simp only[CM] at h;subst h;exact h'
 | p::a,b,x,y,h,h'=>by
  obtain⟨c,cs',rfl,h1,h⟩:=h;exact⟨c,cs'++y,O,h1,CM.append h h'⟩
theorem CM.one {w:World}{p:PV}{c:Value}(h:CN F0 w p c):CM w [p] [c]:=⟨c,[],rfl,h,rfl⟩
theorem CM.repL {w:World}:∀{ps:List PV}{cs:List Value},CM w ps cs→B1 F0 w (ps.map .p) cs
 | [],cs,h=>by simp only[CM] at h;subst h;exact rfl
 | p::ps,cs,h=>by
  obtain⟨c,cs',rfl,h1,h⟩:=h;exact⟨c,cs',O,by simp only[CH];exact h1,CM.repL h⟩
theorem PX {w:World}{b:Nat}:∀(r:List PV) (cs:List Value) (o:Nat),CM w r cs→(∀j,j<cs.length→w.cell? ⟨b,o+j,none⟩=cs[j]?)→CU F0 w b o r
 | [],cs,o,h,hc=>by simp[CU]
 | p::r,cs,o,h,hc=>by
  obtain⟨c,cs',rfl,h1,h⟩:=h;refine⟨⟨c,by have:=hc 0 Ap;simpa using this,h1⟩,PX r cs' (o+1) h fun j hj=>?_⟩;have:=hc (j+1) Aj;rw[show o+1+j=o+(j+1) by omega];simpa using this
theorem MP {w:World}{base:Nat}{a:Addr}{n:Nat}{cs:List Value}(h:w.cells? base a n=some cs):cs.length=n∧∀j,j<n→w.cell? (a.add j)=cs[j]?:=by
 unfold World.cells? at h;split at h
 ·exact⟨by simpa using mapM_some_length h,fun j hj=>mapM_some_get h j j (by simp[hj])⟩
 cases h
section
variable {H:Type}{enc:TypeId×Value→H}{P:Program}{w:World}{base:Nat}{sp:Nat→Bool}{hd:Bool}{n:Nat}
theorem open_slice {α:Type}{e t C:Nat}(ut:P.underlying t=some (.slice e)) (hC:P.cellsOf e=C) (hC1:1≤C) (f:α→List PV) (Q:α→Prop)
  (he:∀m cs y,m<n→DataW.trod enc P w base sp hd m e cs=some y→∃a,CM w (f a) cs∧Q a) {cs:List Value} {y:DataW H×List MemPlace} (h:DataW.trod enc P w base sp hd n t cs=some y) :
  ∃l:List α,l.length<wide∧(∀a∈l,Q a)∧∃v,cs=[v]∧CN F0 w (.lst (l.map f)) v:=by
 rcases DataW.trod_slice ut h with ⟨rfl,_⟩ | ⟨a,len,cap,elems,rest,m,rfl,rfl,_,hb,hl,hc,hel,hget,_,_⟩
 ·exact⟨[],by simp[wide],fun a ha=>by simp at ha,_,rfl,by simp only[CN];exact .inl ⟨rfl,none,0,rfl⟩⟩
 rw[hC] at hget;have hml:maxLen<wide:=by decide
 rcases Nat.eq_zero_or_pos len with h0 | h0
 ·subst h0;exact⟨[],by simp[wide],fun a ha=>by simp at ha,_,rfl,by simp only[CN];exact .inl ⟨rfl,some a,cap,rfl⟩⟩
 have hone:∀i,i<len→∃ci y,w.cells? base (a.add (i*C)) C=some ci∧DataW.trod enc P w base sp hd m e ci=some y:=fun i hi=>by
  have:=hget i hi;rw[List.getElem?_eq_getElem Ao] at this;obtain⟨ci,h1,h2⟩:=Option.bind_eq_some_iff.1 this;exact⟨ci,_,h1,h2⟩
 obtain⟨c0,y0,hc0,_⟩:=hone 0 h0;obtain⟨hl0,hg0⟩:=MP hc0;have hcell:∃v,w.cell? a=some v:=by
  have:=hg0 0 Ao;rw[Nat.zero_mul,Addr.add,if_pos rfl,Addr.add,if_pos rfl] at this;rw[List.getElem?_eq_getElem Ao] at this;exact⟨_,this⟩
 obtain⟨v0,hv0⟩:=hcell;obtain⟨blk,off,spot⟩:=a;have hspot:spot=none:=by
  unfold World.cell? at hv0;simp only at hv0;split at hv0
  ·cases spot with
   | none=>rfl
   | some s=>simp at hv0
  cases hv0
 subst hspot;have hblk:blk<w.heap.size:=by
  unfold World.cell? at hv0;simp only at hv0;split at hv0
  ·rename_i hh;exact(Array.getElem?_eq_some_iff.1 hh).1
  cases hv0
 have hadd:∀k,(⟨blk,off,none⟩:Addr).add k=⟨blk,off+k,none⟩:=fun k=>by
  unfold Addr.add;split
  ·rename_i e;subst e;rfl
  rfl
 have hadd2:∀o k,(⟨blk,o,none⟩:Addr).add k=⟨blk,o+k,none⟩:=fun o k=>by
  unfold Addr.add;split
  ·rename_i e;subst e;rfl
  rfl
 have hrows:∀k,k≤len→∃l:List α,l.length=k∧(∀x∈l,Q x)∧B2 F0 w blk C (off+(len - k)*C) (l.map f):=by
  intro k
  induction k with
  | zero=>exact fun _=>⟨[],rfl,fun a ha=>by simp at ha,by simp[B2]⟩
  | succ k ih =>
   intro hk;obtain⟨l,h1,h2,h3⟩:=ih Ao;obtain⟨ci,y,hci,ht⟩:=hone (len - (k+1)) Ao;obtain⟨g1,g2⟩:=MP hci;obtain⟨x,hx,hq⟩:=he m ci y Ao ht;refine⟨x::l,by simp[h1],fun z hz=>?_,?_⟩
   ·rcases List.mem_cons.1 hz with rfl | hz
    ·exact hq
    exact h2 z hz
   refine⟨by rw[hx.length,g1],PX _ ci _ hx fun j hj=>?_,?_⟩
   ·have:=g2 j Ao;rw[hadd,hadd2] at this;exact this
   rw[show off+(len - (k+1))*C+C=off+(len - k)*C by rw[Nat.add_assoc,←Nat.succ_mul];congr 2;omega];exact h3
 obtain⟨l,h1,h2,h3⟩:=hrows len (Nat.le_refl _);rw[Nat.sub_self,Nat.zero_mul,Nat.add_zero] at h3;refine⟨l,by omega,h2,_,rfl,?_⟩;simp only[CN];refine .inr ⟨blk,off,cap,C,by rw[List.length_map,h1],fun h=>h,hblk,by rw[List.length_map];omega,h3⟩
def Mn (P:Program) (t:TypeId):Option (List (Nat×Nat)) :=
 match P.underlying t with
 | some (.struct fs)=>some (fs.toList.map fun f=>(f.type,f.offset))
 | _=>none
theorem Ue {t:TypeId}{l:List (Nat×Nat)}(hf:Mn P t=some l) {cs:List Value}{y:DataW H×List MemPlace}(h:DataW.trod enc P w base sp hd n t cs=some y) :
  ∃m,n=m+1∧cs.length=P.cellsOf t∧∀(i:Nat) (p:Nat×Nat),l[i]?=some p→∃z,DataW.trod enc P w base sp hd m p.1 ((cs.drop p.2).take (P.cellsOf p.1))=some z:=by
 unfold Mn at hf;split at hf
 ·rename_i fs hu;injection hf with hf;subst hf;obtain⟨xs,m,h1,_,h2,h3,h4⟩:=DataW.trod_struct hu h;refine⟨m,h1,h2,fun i p hp=>?_⟩;rw[List.getElem?_map] at hp;obtain⟨fl,hfl,rfl⟩:=Option.map_eq_some_iff.1 hp;have hi:fs[i]?=some fl:=by simpa using hfl
  have:=h4 i fl hi;have hlt:i<xs.length:=by rw[h3];exact(Array.getElem?_eq_some_iff.1 hi).1
  rw[List.getElem?_eq_getElem hlt] at this;exact⟨_,this⟩
 cases hf
end
structure G3 (P:Program) (tI tS tV tVs tL tLs tT tTs:TypeId):Prop where
 uI:P.underlying tI=some (.int .i64)
 uS:P.underlying tS=some .string
 uVs:P.underlying tVs=some (.slice tV)
 uLs:P.underlying tLs=some (.slice tL)
 uTs:P.underlying tTs=some (.slice tT)
 fV:Mn P tV=some [(tI,0),(tI,1)]
 fL:Mn P tL=some [(tI,0),(tVs,1)]
 fT:Mn P tT=some [(tI,0),(tI,1),(tS,2),(tLs,3),(tTs,4)]
 cI:P.cellsOf tI=1
 cS:P.cellsOf tS=1
 cVs:P.cellsOf tVs=1
 cLs:P.cellsOf tLs=1
 cTs:P.cellsOf tTs=1
 cV:P.cellsOf tV=2
 cL:P.cellsOf tL=2
 cT:P.cellsOf tT=5
theorem PR {n:Int}(h:(Lit.int .i64 n).wf=true):I2 n:=by
 simp only[Lit.wf,Bool.and_eq_true,decide_eq_true_eq] at h;exact h
theorem _root_.Go.An {α:Prop}(h:α:=by decide):α:=h
section
variable {H:Type}{enc:TypeId×Value→H}{P:Program}{w:World}{base:Nat}{sp:Nat→Bool}{hd:Bool}{tI tB tS tV tVs tL tLs tT tTs tM tMs:TypeId}
theorem bg (E:G3 P tI tS tV tVs tL tLs tT tTs) {n:Nat}{cs:List Value}{y:DataW H×List MemPlace}(h:DataW.trod enc P w base sp hd n tV cs=some y):∃v:CE,CM w (D1 v) cs∧(I2 v.index∧I2 v.plus):=by
 obtain⟨m,rfl,hl,hg⟩:=Ue E.fV h;rw[E.cV] at hl
 match cs,hl with
 | [c0,c1],_ =>
  obtain⟨z0,h0⟩:=hg 0 _ rfl;obtain⟨z1,h1⟩:=hg 1 _ rfl;simp only[E.cI,List.drop_zero,List.drop_succ_cons,List.take_succ_cons,List.take_zero] at h0 h1;obtain⟨a,ha,_,fa⟩:=DataW.trod_int E.uI h0;obtain⟨b,hb,_,fb⟩:=DataW.trod_int E.uI h1;injection ha with ha;injection hb with hb;subst ha hb;exact⟨⟨a,b⟩,⟨_,_,O,by simp[CN],_,_,rfl,by simp[CN],rfl⟩,PR fa,PR fb⟩
theorem kH (E:G3 P tI tS tV tVs tL tLs tT tTs) {n:Nat}{cs:List Value}{y:DataW H×List MemPlace}(h:DataW.trod enc P w base sp hd n tL cs=some y):∃v:CZ,CM w (B0 v) cs∧l7 v:=by
 obtain⟨m,rfl,hl,hg⟩:=Ue E.fL h;rw[E.cL] at hl
 match cs,hl with
 | [c0,c1],_ =>
  obtain⟨z0,h0⟩:=hg 0 _ rfl;obtain⟨z1,h1⟩:=hg 1 _ rfl;simp only[E.cI,E.cVs,List.drop_zero,List.drop_succ_cons,List.take_succ_cons,List.take_zero] at h0 h1;obtain⟨a,ha,_,fa⟩:=DataW.trod_int E.uI h0;injection ha with ha;subst ha;obtain⟨l,g1,g2,v,hv,g3⟩:=open_slice E.uVs E.cV An D1 (fun v=>I2 v.index∧I2 v.plus) (fun m cs y _ h=>bg E h) h1;injection hv with hv;subst hv;exact⟨⟨a,l⟩,⟨_,_,O,by simp[CN],_,_,rfl,g3,rfl⟩,⟨g1,PR fa,g2⟩⟩
theorem lF (E:G3 P tI tS tV tVs tL tLs tT tTs):∀(n:Nat) (cs:List Value) (y:DataW H×List MemPlace),DataW.trod enc P w base sp hd n tT cs=some y→∃t:Tm,CM w (BO t) cs∧Wd t:=by
 intro n
 induction n using Nat.strongRecOn with
 | ind n ih =>
  intro cs y h;obtain⟨m,rfl,hl,hg⟩:=Ue E.fT h;rw[E.cT] at hl
  match cs,hl with
  | [c0,c1,c2,c3,c4],_ =>
   obtain⟨z0,h0⟩:=hg 0 _ rfl;obtain⟨z1,h1⟩:=hg 1 _ rfl;obtain⟨z2,h2⟩:=hg 2 _ rfl;obtain⟨z3,h3⟩:=hg 3 _ rfl;obtain⟨z4,h4⟩:=hg 4 _ rfl;simp only[E.cI,E.cS,E.cLs,E.cTs,List.drop_zero,List.drop_succ_cons,List.take_succ_cons,List.take_zero] at h0 h1 h2 h3 h4;obtain⟨a,ha,_,wa⟩:=DataW.trod_int E.uI h0;obtain⟨b,hb,_,wb⟩:=DataW.trod_int E.uI h1;obtain⟨s,hs,_,ws⟩:=DataW.trod_string E.uS h2;injection ha with ha;injection hb with hb;injection hs with hs;subst ha hb hs;obtain⟨l,g1,g2,v,hv,g3⟩:=open_slice E.uLs E.cL An B0 l7 (fun m cs y _ h=>kH E h) h3;obtain⟨ks,k1,k2,u,hu,k3⟩:=open_slice E.uTs E.cT An BO Wd (fun m' cs y hm h=>ih m' Ao cs y h) h4;injection hv with hv;injection hu with hu;subst hv hu;have hml:maxLen<wide:=by decide
   exact⟨.mk a b s l ks,⟨_,_,O,by simp[CN],_,_,rfl,by simp[CN],_,_,rfl,by simp[CN],_,_,rfl,g3,_,_,rfl,by rw[EU];exact k3,rfl⟩,
    ⟨by omega,g1,g2,k1,dD fun t ht=>k2 t ht,PR wa,PR wb⟩⟩
structure p7 (P:Program) (tB tT tM tMs:TypeId):Prop where
 uB:P.underlying tB=some .bool
 uMs:P.underlying tMs=some (.slice tM)
 fM:Mn P tM=some [(tT,0),(tB,5),(tT,6),(tB,11)]
 cB:P.cellsOf tB=1
 cM:P.cellsOf tM=12
theorem bD {b2:Nat}{r:Reach}{t e:TypeId}(ut:P.underlying t=some (.slice e)) {v u:Value}(hk:Value.okWide P w r b2 t v) (h:v.cells.toList=[u]):v=u:=by
 unfold Value.okWide at hk;rw[ut] at hk;simp only at hk;unfold Cell.okWide at hk;rw[ut] at hk;cases v with
 | agg cs=>simp only at hk;unfold Cell.ok at hk;rw[ut] at hk;simp at hk
 | _=>simp[Value.cells] at h;exact h
theorem pw (E:G3 P tI tS tV tVs tL tLs tT tTs) {b2:Nat}{r:Reach}{v:Value}{d:DataW H}{ps:List MemPlace}(hk:Value.okWide P w r b2 tT v) (h:DataW.Trod enc P w base sp hd tT v d ps):∃t:Tm,Wd t∧CH F0 w (TV t) v:=by
 obtain⟨n,h⟩:=h;obtain⟨t,g1,g2⟩:=lF E _ _ _ h;have hf:=E.fT;unfold Mn at hf;unfold Value.okWide at hk;split at hk
 ·obtain⟨cs,rfl,_,_⟩:=hk;refine⟨t,g2,?_⟩;exact⟨cs.toList,by simp,CM.repL g1⟩
 ·rename_i hu;rw[hu] at hf;cases hf
 rename_i h1 h2;split at hf
 ·rename_i fs hu;exact absurd hu (h1 fs)
 cases hf
end
theorem Z3 (w:World):HRel F0 [] w:=⟨fun o ho=>by simp at ho,by simp,fun o ho=>by simp at ho,fun b hb=>hb.elim⟩
theorem XH {P:Program}{f:FuncId}{xs:List AV}(h:Ec P f xs (.p (.bool true))) {w:World}{vs:List Value}(ha:B1 F0 w xs vs):Calls P f ⟨vs⟩ w fun e w'=>e= .returned (.bool true)∧Below w.heap.size w w':=by
 refine(h.2 F0 w vs (Z3 w) ha).mono ?_;rintro e w' ⟨r,H',F',hr,he,hH,ht⟩;cases r with
 | panic v=>exact hr.elim
 | val v =>
  obtain⟨rfl,rfl⟩:=hr;obtain⟨u,rfl,hu⟩:=he;simp only[CH,CN] at hu;subst hu;exact⟨O,ht.os,ht.tape,ht.out,ht.size,fun k hk=>ht.same k hk fun o ho=>by simp at ho⟩
theorem Xz {H:Type}{enc:TypeId×Value→H}{P:Program}{f:Func}{s:ChangeSpec}{tB:TypeId}(hl:laidOutB P=true) (hB:P.underlying tB=some .bool) (hrt:f.resultTypes=#[tB]) (hv0:s.vars=[]) {W W':World}{args:Array Value}{ds:List (DataW H)}{before:List MemPlace}
  (hpr:∀t∈f.params.toList,P.readableRec t=true∧t<P.types.size) (hW:DataW.Whole enc P f.params.toList s.vars false W args.toList ds [] before) (hres:(s.fn H ds).results=[.lit (.bool true)]) (hargs:(s.fn H ds).args=ds) (hvars:(s.fn H ds).vars=[]) (hb:Below W.heap.size W W') :
  s.post enc P f false true false false W args (.bool true) W':=by
 have hW':=hW;obtain⟨p,q,hA,hV,rfl,hfz,hnd⟩:=hW;have hq:q=[]:=by rw[hv0] at hV;exact hV
 subst hq;have hstay:∀{ts:List TypeId} {vs:List Value} {ds:List (DataW H)} {ps:List MemPlace},(∀t∈ts,P.readableRec t=true∧t<P.types.size)→(∀x∈ps,x.block<W.heap.size)→DataW.TrodAll enc P W 0 (fun _=>true) true ts vs ds ps→DataW.TrodAll enc P W' 0 (fun b=>decide (b<W.heap.size)) true ts vs ds ps:=by
  intro ts
  induction ts with
  | nil =>
   intro vs ds ps _ _ h;cases vs<;>cases ds<;>simp[DataW.TrodAll] at h ⊢;exact h
  | cons t ts ih =>
   intro vs ds ps h1 h2 h;obtain⟨v,vs',d,ds',a,b,rfl,rfl,rfl,h3,h4⟩:=trodAll_cons h;exact⟨a,b,Below.trod hl (h1 t Ap).1 (h1 t Ap).2 h3 hb (fun x hx=>h2 x (by simp[hx])),ih (fun t ht=>h1 t (by simp[ht])) (fun x hx=>h2 x (by simp[hx])) h4,O⟩
 refine⟨ds,[],p++[],[],p,[],hW',?_,?_,?_,hb.frame _,fun h=>by cases h⟩
 ·rw[List.append_nil,hres,hrt];refine⟨[],[],⟨1,?_⟩,O,O⟩;unfold DataW.trod;rw[hB];rfl
 ·rw[List.append_nil,hargs];exact hstay hpr (fun x hx=>hW'.lt x (by simpa using hx)) hA
 rw[List.append_nil,hvars,hv0];exact O
section
variable {H:Type}{enc:TypeId×Value→H}{P:Program}{w:World}{base:Nat}{sp:Nat→Bool}{hd:Bool}{tI tB tS tV tVs tL tLs tT tTs tM tMs:TypeId}
end
end Go.Eu
namespace Go.Eu
open Go.Abs
structure Ib where
 name:ByteArray
 type:Tm
 deriving Inhabited
structure fo where
 params:Int
 type:Tm
 rules:List Tm
 deriving Inhabited
mutual
inductive FJ where
 | mk (kind:Int) (body:Tm) (var:Int) (branches:List GD)
inductive GD where
 | mk (ctor:ByteArray) (absurd:Bool) (tree:FJ)
end
instance:Inhabited FJ:=⟨.mk 0 default 0 []⟩
instance:Inhabited GD:=⟨.mk default false default⟩
def FJ.kind:FJ→Int | .mk k _ _ _=>k
def FJ.body:FJ→Tm | .mk _ b _ _=>b
def FJ.var:FJ→Int | .mk _ _ v _=>v
def FJ.branches:FJ→List GD | .mk _ _ _ l=>l
def GD.ctor:GD→ByteArray | .mk c _ _=>c
def GD.absurd:GD→Bool | .mk _ a _=>a
def GD.tree:GD→FJ | .mk _ _ t=>t
structure Hi where
 name:ByteArray
 type:Tm
 arity:Int
 tree:FJ
 deriving Inhabited
structure CK where
 kind:Int
 name:ByteArray
 params:Int
 type:Tm
 value:Tm
 fixed:Int
 ctors:List Ib
 recs:fo
 funs:List Hi
 deriving Inhabited
structure GV where
 kind:Int
 decl:Int
 item:Int
 params:Int
 type:Tm
 deriving Inhabited
structure tg where
 carrier:ByteArray
 add:ByteArray
 zero:ByteArray
 neg:ByteArray
 one:ByteArray
 leq:ByteArray
 lemmas:List ByteArray
 deriving Inhabited
structure sl where
 place:Int
 minus:Bool
 deriving Inhabited,DecidableEq
def G1 (c:Ib):List PV:= .str c.name::BO c.type
def Qw (r:fo):List PV:=I r.params::(BO r.type++[.lst (BE r.rules)])
mutual
def Ct:FJ→List PV
 | .mk k b v l=>I k::(BO b++[I v,.lst (LJ l)])
def Gw:GD→List PV
 | .mk c a t=> .str c:: .bool a::Ct t
def LJ:List GD→List (List PV)
 | []=>[]
 | b::l=>Gw b::LJ l
end
def Em (f:Hi):List PV:= .str f.name::(BO f.type++(I f.arity::Ct f.tree))
def Bk (d:CK):List PV:=I d.kind:: .str d.name::I d.params::(BO d.type++(BO d.value++(I d.fixed:: .lst (d.ctors.map G1)::(Qw d.recs++[.lst (d.funs.map Em)]))))
def DN (e:GV):List PV:=I e.kind::I e.decl::I e.item::I e.params::BO e.type
def sP (t:tg):List PV:=[.str t.carrier,.str t.add,.str t.zero,.str t.neg,.str t.one,.str t.leq,.lst (t.lemmas.map Gi)]
def sa (s:sl):List PV:=[I s.place,.bool s.minus]
theorem MR:∀l:List GD,LJ l=l.map Gw
 | []=>rfl
 | t::ts=>by simp[LJ,MR ts]
theorem D8 (c:Ib):(G1 c).length=6:=by simp[G1,BD]
theorem KK (r:fo):(Qw r).length=7:=by simp[Qw,BD]
theorem Cn (t:FJ):(Ct t).length=8:=by cases t;simp[Ct,BD]
theorem DT (b:GD):(Gw b).length=10:=by cases b;simp[Gw,Cn]
theorem DF (f:Hi):(Em f).length=15:=by simp[Em,BD,Cn]
theorem Cl (d:CK):(Bk d).length=23:=by simp[Bk,BD,KK]
theorem Wg (e:GV):(DN e).length=9:=by simp[DN,BD]
theorem F6 (l:List GD):(LJ l).length=l.length:=by simp[MR]
theorem FZ {ts:List GD}{i:Nat}{t:GD}(h:ts[i]?=some t):(LJ ts)[i]?=some (Gw t):=by simp[MR,h]
theorem QN {α:Type}{f:α→List PV}{ts:List α}{i:Nat}{t:α}(h:ts[i]?=some t):(ts.map f)[i]?=some (f t):=by simp[h]
theorem EX {ts:List Ib}{i:Nat}{t:Ib}(h:ts[i]?=some t):(ts.map G1)[i]?=some (G1 t):=QN h
theorem D7 {ts:List Hi}{i:Nat}{t:Hi}(h:ts[i]?=some t):(ts.map Em)[i]?=some (Em t):=QN h
theorem D4 {ts:List CK}{i:Nat}{t:CK}(h:ts[i]?=some t):(ts.map Bk)[i]?=some (Bk t):=QN h
theorem Cu {n:Nat}{c:PV}{r:List PV}(hc:c≠ .any∧c≠ .unit) (h:EM n r):EM (n+1) (c::r) :=
 ⟨by simp[h.1],fun x hx=>by
  rcases List.mem_cons.1 hx with rfl | hx
  ·exact hc
  exact h.2 x hx⟩
theorem JC {n m:Nat}{a b:List PV}(ha:EM n a) (hb:EM m b):EM (n+m) (a++b) :=
 ⟨by simp[ha.1,hb.1],fun x hx=>by
  rcases List.mem_append.1 hx with hx | hx
  ·exact ha.2 x hx
  exact hb.2 x hx⟩
theorem O9:EM 0 []:=⟨rfl,fun c h=>by simp at h⟩
theorem YT (c:Ib):EM 6 (G1 c):=Cu Ap (Km _)
theorem kl (r:fo):EM 7 (Qw r):=Cu Ap (JC (Km _) (Cu Ap O9))
theorem Rt (t:FJ):EM 8 (Ct t):=by
 cases t with
 | mk k b v l=>unfold Ct;exact Cu Ap (JC (n:=5) (m:=2) (Km _) (Cu Ap (Cu Ap O9)))
theorem gR (b:GD):EM 10 (Gw b):=by
 cases b with
 | mk c a t=>unfold Gw;exact Cu Ap (Cu Ap (Rt t))
theorem kV (f:Hi):EM 15 (Em f):=Cu Ap (JC (n:=5) (m:=9) (Km _) (Cu Ap (Rt _)))
theorem Xa (d:CK):EM 23 (Bk d):=Cu Ap (Cu Ap (Cu Ap (JC (n:=5) (m:=15) (Km _) (JC (n:=5) (m:=10) (Km _) (Cu Ap (Cu Ap (JC (n:=7) (m:=1) (kl _) (Cu Ap O9))))))))
theorem lL (e:GV):EM 9 (DN e):=Cu Ap (Cu Ap (Cu Ap (Cu Ap (Km _))))
theorem aQ (l:List Ib):∀r∈l.map G1,EM 6 r:=HH YT l
theorem Zy (l:List CK):∀r∈l.map Bk,EM 23 r:=HH Xa l
theorem hY (m:Ib):((G1 m).map AV.p).all one=true:=HJ (YT m)
theorem jB (m:FJ):((Ct m).map AV.p).all one=true:=HJ (Rt m)
theorem Ug (m:GD):((Gw m).map AV.p).all one=true:=HJ (gR m)
theorem iP (m:Hi):((Em m).map AV.p).all one=true:=HJ (kV m)
theorem jh (m:CK):((Bk m).map AV.p).all one=true:=HJ (Xa m)
theorem fq (m:GV):((DN m).map AV.p).all one=true:=HJ (lL m)
end Go.Eu
namespace Go.Eu
open Go.Abs Go.RowKit Go.ChangeShapes Go.ChangeAt Go.WideShapes
structure me (P:Program) (tS tSs tTh:TypeId):Prop where
 uSs:P.underlying tSs=some (.slice tS)
 cSs:P.cellsOf tSs=1
 fTh:Mn P tTh=some [(tS,0),(tS,1),(tS,2),(tS,3),(tS,4),(tS,5),(tSs,6)]
 cTh:P.cellsOf tTh=7
 bS:P.bytesOf tS=16
section
variable {H:Type}{enc:TypeId×Value→H}{P:Program}{w:World}{base:Nat}{sp:Nat→Bool}{hd:Bool}{tI tB tS tV tVs tL tLs tT tTs tM tMs tSs tTh:TypeId}
end
end Go.Eu
namespace Go.Eu
open Go.Abs
def Uw (n:ByteArray):ByteArray:=n++⟨#[46,114,101,99]⟩
def IP (i p:Int):List Ib→Int→List (ByteArray×GV)
 | [],_=>[]
 | c::cs,k=>(c.name,⟨4,i,k,p,c.type⟩)::IP i p cs (k+1)
def L1 (i p:Int):List Hi→Int→List (ByteArray×GV)
 | [],_=>[]
 | c::cs,k=>(c.name,⟨6,i,k,p,c.type⟩)::L1 i p cs (k+1)
def FX (d:CK) (i:Int):List (ByteArray×GV) :=
 if d.kind=0∨d.kind=1∨d.kind=2 then [(d.name,⟨d.kind,i,0,d.params,d.type⟩)]
 else if d.kind=3 then (d.name,⟨3,i,0,d.params,d.type⟩)::(IP i d.params d.ctors 0++[(Uw d.name,⟨5,i,0,d.recs.params,d.recs.type⟩)])
 else if d.kind=4 then L1 i d.params d.funs 0
 else []
def Cs (nm:ByteArray):List (ByteArray×GV)→Option GV
 | []=>none
 | (s,e)::l=>if s=nm then some e else Cs nm l
def findF (nm:ByteArray):List CK→Int→Option GV
 | [],_=>none
 | d::ds,i=>match Cs nm (FX d i) with
  | some e=>some e
  | none=>findF nm ds (i+1)
def bh:GV:=⟨0,0,0,0,Bi⟩
def Bh (ds:List CK) (nm:ByteArray):GV×Int:=match findF nm ds 0 with
 | some e=>(e,0)
 | none=>(bh,9)
theorem Kt {nm:ByteArray}:∀{a b:List (ByteArray×GV)},Cs nm (a++b)=match Cs nm a with
  | some e=>some e
  | none=>Cs nm b
 | [],b=>rfl
 | (s,e)::a,b=>by
  simp only[List.cons_append,Cs];split
  ·rfl
  exact Kt
section
variable {i p:Int}{nm:ByteArray}
theorem PQ:∀{cs:List Ib}{j:Nat}{c:Ib}{k:Int},cs[j]?=some c→c.name=nm→(∀q,q<j→∀y,cs[q]?=some y→y.name≠nm)→Cs nm (IP i p cs k)=some ⟨4,i,k+j,p,c.type⟩
 | [],j,c,k,h,_,_=>by simp at h
 | a::cs,0,c,k,h,hn,_=>by
  simp at h;subst h;simp[IP,Cs,hn]
 | a::cs,j+1,c,k,h,hn,hb=>by
  have h0:a.name≠nm:=hb 0 Ao a rfl;rw[IP,Cs,if_neg h0,PQ (by simpa using h) hn fun q hq y hy=>hb (q+1) Ao y (by simpa using hy)];congr 2;omega
theorem NQ:∀{cs:List Ib}{k:Int},(∀q:Nat,q<cs.length→∀y,cs[q]?=some y→y.name≠nm)→Cs nm (IP i p cs k)=none
 | [],k,_=>rfl
 | a::cs,k,hb=>by
  have h0:a.name≠nm:=hb 0 Ap a rfl;rw[IP,Cs,if_neg h0];exact NQ fun q hq y hy=>hb (q+1) (by simpa using hq) y (by simpa using hy)
theorem TX:∀{cs:List Ib}{j:Nat}{c:Ib}{k:Int},cs[j]?=some c→(c.name,(⟨4,i,k+j,p,c.type⟩:GV))∈IP i p cs k
 | [],j,c,k,h=>by simp at h
 | a::cs,0,c,k,h=>by simp at h;subst h;simp[IP]
 | a::cs,j+1,c,k,h=>by
  have:=TX (k:=k+1) (show cs[j]?=some c by simpa using h);rw[IP];refine List.mem_cons_of_mem _ ?_
  rwa [show k+1+(j:Int)=k+((j+1:Nat):Int) by omega] at this
theorem Re:∀{cs:List Hi}{j:Nat}{c:Hi}{k:Int},cs[j]?=some c→c.name=nm→(∀q,q<j→∀y,cs[q]?=some y→y.name≠nm)→Cs nm (L1 i p cs k)=some ⟨6,i,k+j,p,c.type⟩
 | [],j,c,k,h,_,_=>by simp at h
 | a::cs,0,c,k,h,hn,_=>by
  simp at h;subst h;simp[L1,Cs,hn]
 | a::cs,j+1,c,k,h,hn,hb=>by
  have h0:a.name≠nm:=hb 0 Ao a rfl;rw[L1,Cs,if_neg h0,Re (by simpa using h) hn fun q hq y hy=>hb (q+1) Ao y (by simpa using hy)];congr 2;omega
theorem PG:∀{cs:List Hi}{k:Int},(∀q:Nat,q<cs.length→∀y,cs[q]?=some y→y.name≠nm)→Cs nm (L1 i p cs k)=none
 | [],k,_=>rfl
 | a::cs,k,hb=>by
  have h0:a.name≠nm:=hb 0 Ap a rfl;rw[L1,Cs,if_neg h0];exact PG fun q hq y hy=>hb (q+1) (by simpa using hq) y (by simpa using hy)
theorem Vm:∀{cs:List Hi}{j:Nat}{c:Hi}{k:Int},cs[j]?=some c→(c.name,(⟨6,i,k+j,p,c.type⟩:GV))∈L1 i p cs k
 | [],j,c,k,h=>by simp at h
 | a::cs,0,c,k,h=>by simp at h;subst h;simp[L1]
 | a::cs,j+1,c,k,h=>by
  have:=Vm (k:=k+1) (show cs[j]?=some c by simpa using h);rw[L1];refine List.mem_cons_of_mem _ ?_
  rwa [show k+1+(j:Int)=k+((j+1:Nat):Int) by omega] at this
end
def C6 (d:CK):List ByteArray :=
 if d.kind=0∨d.kind=1∨d.kind=2 then [d.name]
 else if d.kind=3 then d.name::d.ctors.map Ib.name++[Uw d.name]
 else if d.kind=4 then d.funs.map Hi.name
 else []
def HO (l:List ByteArray) (s:ByteArray):Bool:=l.any fun x=>decide (x=s)
theorem cG {l:List ByteArray}{s x:ByteArray}{i:Nat}(h:l[i]?=some x) (e:x=s):HO l s=true :=
 List.any_eq_true.2 ⟨x,List.mem_of_getElem? h,by simp[e]⟩
theorem aZ {l:List ByteArray}{s:ByteArray}(h:∀j,j<l.length→∀x,l[j]?=some x→x≠s):HO l s=false:=by
 refine Bool.eq_false_iff.2 fun hb=>?_;obtain⟨x,hx,hq⟩:=List.any_eq_true.1 hb;obtain⟨j,hj⟩:=List.mem_iff_getElem?.1 hx;exact h j (List.getElem?_eq_some_iff.1 hj).1 x hj (by simpa using hq)
def Oj (nm:ByteArray) (i p:Int) (o:GV):List Ib→Int→GV
 | [],_=>o
 | c::cs,k=>if c.name=nm then ⟨4,i,k,p,c.type⟩ else Oj nm i p o cs (k+1)
def bB (nm:ByteArray) (i p:Int) (o:GV):List Hi→Int→GV
 | [],_=>o
 | c::cs,k=>if c.name=nm then ⟨6,i,k,p,c.type⟩ else bB nm i p o cs (k+1)
def Fv (d:CK) (i:Int) (nm:ByteArray):GV :=
 if d.kind=0∨d.kind=1∨d.kind=2 then ⟨d.kind,i,0,d.params,d.type⟩
 else if d.kind=3 then (if nm=d.name then ⟨3,i,0,d.params,d.type⟩ else Oj nm i d.params ⟨5,i,0,d.recs.params,d.recs.type⟩ d.ctors 0)
 else bB nm i d.params ⟨0,i,0,d.params,d.type⟩ d.funs 0
theorem OT {nm:ByteArray}{i p:Int}{o:GV}:∀{cs:List Ib}{k:Int},Oj nm i p o cs k=(Cs nm (IP i p cs k)).getD o
 | [],k=>rfl
 | c::cs,k=>by
  rw[Oj,IP,Cs];split
  ·rfl
  exact OT
theorem Qb {nm:ByteArray}{i p:Int}{o:GV}:∀{cs:List Hi}{k:Int},bB nm i p o cs k=(Cs nm (L1 i p cs k)).getD o
 | [],k=>rfl
 | c::cs,k=>by
  rw[bB,L1,Cs];split
  ·rfl
  exact Qb
theorem Pz {nm:ByteArray}{i p:Int}:∀{cs:List Ib}{k:Int},(Cs nm (IP i p cs k)).isSome=HO (cs.map Ib.name) nm
 | [],k=>rfl
 | c::cs,k=>by
  rw[IP,Cs];split
  ·rename_i h;simp[HO,h]
  rename_i h;rw[Pz];simp[HO,h]
theorem RI {nm:ByteArray}{i p:Int}:∀{cs:List Hi}{k:Int},(Cs nm (L1 i p cs k)).isSome=HO (cs.map Hi.name) nm
 | [],k=>rfl
 | c::cs,k=>by
  rw[L1,Cs];split
  ·rename_i h;simp[HO,h]
  rename_i h;rw[RI];simp[HO,h]
theorem fJ {a b:List ByteArray}{s:ByteArray}:HO (a++b) s=(HO a s||HO b s):=List.any_append
theorem Jj (d:CK) (i:Int) (nm:ByteArray):Cs nm (FX d i)=if HO (C6 d) nm=true then some (Fv d i nm) else none:=by
 unfold FX C6 Fv;by_cases h:d.kind=0∨d.kind=1∨d.kind=2
 ·simp only[if_pos h,Cs];by_cases e:d.name=nm<;>simp[HO,e]
 simp only[if_neg h];by_cases h3:d.kind=3
 ·simp only[if_pos h3,Cs,Kt,List.cons_append];by_cases e:d.name=nm
  ·simp[HO,e]
  have e':¬nm=d.name:=fun q=>e q.symm;rw[if_neg e,if_neg e',OT];have hn:=Pz (nm:=nm) (i:=i) (p:=d.params) (cs:=d.ctors) (k:=0);have hh:HO (d.name::(d.ctors.map Ib.name++[Uw d.name])) nm=(HO (d.ctors.map Ib.name) nm||HO [Uw d.name] nm):=by
   rw[←fJ];simp[HO,e]
  rw[hh,←hn];cases hf:Cs nm (IP i d.params d.ctors 0) with
  | some x=>simp
  | none =>
   by_cases e2:Uw d.name=nm<;>simp[HO,e2]
 simp only[if_neg h3];by_cases h4:d.kind=4
 ·simp only[if_pos h4];rw[Qb,←RI (i:=i) (p:=d.params) (k:=0)];cases hf:Cs nm (L1 i d.params d.funs 0)<;>simp
 simp[h4,Cs,HO]
structure Pg where
 env:List CK
 own:List ByteArray
 d:CK
def GL (s:Pg):List PV:= .lst (s.env.map Bk):: .lst (s.own.map Gi)::Bk s.d
theorem ZW (s:Pg):(GL s).length=25:=by simp[GL,Cl]
theorem ie (s:Pg):EM 25 (GL s):=Cu Ap (Cu Ap (Xa _))
theorem jd (m:Pg):((GL m).map AV.p).all one=true:=HJ (ie m)
structure US (t:Tm):Prop where
 nd:Nd t
 sz:size t<1000000
mutual
def Hq:FJ→Prop
 | .mk k b v l=>US b∧l.length<2000000∧M8 l
def R6:GD→Prop
 | .mk c a t=>c.size<2000000∧Hq t
def M8:List GD→Prop
 | []=>True
 | b::l=>R6 b∧M8 l
end
mutual
def LO:FJ→Nat
 | .mk k b v l=>1+WN l
def fc:GD→Nat
 | .mk c a t=>LO t
def WN:List GD→Nat
 | []=>0
 | b::l=>fc b+1+WN l
end
theorem JX:∀{l:List GD}{i:Nat}{b:GD},M8 l→l[i]?=some b→R6 b
 | [],i,b,_,h=>by simp at h
 | a::l,0,b,hn,h=>by simp at h;subst h;exact hn.1
 | a::l,i+1,b,hn,h=>by simp at h;exact JX hn.2 h
theorem To:∀{l:List GD}{i:Nat}{b:GD},l[i]?=some b→fc b<WN l
 | [],i,b,h=>by simp at h
 | a::l,0,b,h=>by simp at h;subst h;simp only[WN];omega
 | a::l,i+1,b,h=>by
  have:=To (show l[i]?=some b by simpa using h);simp only[WN];omega
structure bV (c:Ib):Prop where
 nm:c.name.size<2000000
 ty:US c.type
structure bu (f:Hi):Prop where
 nm:f.name.size<2000000
 ty:US f.type
 tr:Hq f.tree
structure Nn (d:CK):Prop where
 nm:d.name.size<2000000
 ty:US d.type
 vl:US d.value
 cl:d.ctors.length<2000000
 cs:∀c∈d.ctors,bV c
 rt:US d.recs.type
 rl:d.recs.rules.length<2000000
 rs:∀t∈d.recs.rules,US t
 fl:d.funs.length<2000000
 fs:∀f∈d.funs,bu f
structure HT (ds:List CK):Prop where
 len:ds.length<2000000
 all:∀d∈ds,Nn d
theorem HT.take {ds:List CK}(h:HT ds) (n:Nat):HT (ds.take n) :=
 ⟨by have:=h.len;simp;omega,fun d hd=>h.all d (List.mem_of_mem_take hd)⟩
theorem ZK {nm:ByteArray}:∀{ds:List CK}{i:Nat}{k:Int}{d:CK},ds[i]?=some d→(∀j,j<i→∀y,ds[j]?=some y→HO (C6 y) nm=false)→HO (C6 d) nm=true→findF nm ds k=some (Fv d (k+i) nm)
 | [],i,k,d,h,_,_=>by simp at h
 | a::ds,0,k,d,h,_,hn=>by
  simp at h;subst h;rw[findF,Jj,if_pos hn];simp
 | a::ds,i+1,k,d,h,hb,hn=>by
  have h0:=hb 0 Ao a rfl;rw[findF,Jj,if_neg (by rw[h0];decide)];simp only;rw[ZK (by simpa using h) (fun j hj y hy=>hb (j+1) Ao y (by simpa using hy)) hn];congr 2;omega
theorem TI {nm:ByteArray}:∀{ds:List CK}{k:Int},(∀j,j<ds.length→∀y,ds[j]?=some y→HO (C6 y) nm=false)→findF nm ds k=none
 | [],k,_=>rfl
 | a::ds,k,hb=>by
  have h0:=hb 0 Ap a rfl;rw[findF,Jj,if_neg (by rw[h0];decide)];simp only;exact TI fun j hj y hy=>hb (j+1) (by simpa using hj) y (by simpa using hy)
theorem bE (n:ByteArray):(Uw n).size=n.size+4:=by
 show (n++⟨#[46,114,101,99]⟩:ByteArray).size=_;rw[ByteArray.size_append];rfl
theorem M6 (d:CK):(C6 d).length≤d.ctors.length+d.funs.length+2:=by
 unfold C6;split
 ·simp
 split
 ·simp
 split<;>simp<;>omega
section
variable {d:CK}{i:Int}{nm:ByteArray}
theorem NV (h:d.kind=0∨d.kind=1∨d.kind=2) {k:Int}(hk:d.kind=k):Fv d i nm=⟨k,i,0,d.params,d.type⟩:=by rw[Fv,if_pos h,hk]
theorem Zh (h:d.kind=3) (hn:nm=d.name):Fv d i nm=⟨3,i,0,d.params,d.type⟩:=by rw[Fv,if_neg Ao,if_pos h,if_pos hn]
theorem Xx (h:d.kind=3) (hn:¬nm=d.name) {j:Nat}{c:Ib}(hc:d.ctors[j]?=some c) (he:c.name=nm) (hb:∀q,q<j→∀y,d.ctors[q]?=some y→y.name≠nm):Fv d i nm=⟨4,i,j,d.params,c.type⟩:=by
 rw[Fv,if_neg Ao,if_pos h,if_neg hn,OT,PQ hc he hb,Int.zero_add];rfl
theorem ae (h:d.kind=3) (hn:¬nm=d.name) (hb:∀q:Nat,q<d.ctors.length→∀y,d.ctors[q]?=some y→y.name≠nm):Fv d i nm=⟨5,i,0,d.recs.params,d.recs.type⟩:=by
 rw[Fv,if_neg Ao,if_pos h,if_neg hn,OT,NQ hb];rfl
theorem bG (h:¬(d.kind=0∨d.kind=1∨d.kind=2)) (h3:¬d.kind=3) {j:Nat}{c:Hi}(hc:d.funs[j]?=some c) (he:c.name=nm) (hb:∀q,q<j→∀y,d.funs[q]?=some y→y.name≠nm):Fv d i nm=⟨6,i,j,d.params,c.type⟩:=by
 rw[Fv,if_neg h,if_neg h3,Qb,Re hc he hb,Int.zero_add];rfl
theorem ax (h:¬(d.kind=0∨d.kind=1∨d.kind=2)) (h3:¬d.kind=3) (hb:∀q:Nat,q<d.funs.length→∀y,d.funs[q]?=some y→y.name≠nm):Fv d i nm=⟨0,i,0,d.params,d.type⟩:=by
 rw[Fv,if_neg h,if_neg h3,Qb,PG hb];rfl
end
theorem Zj {ds:List CK}{nm:ByteArray}{i:Nat}{d:CK}(hx:ds[i]?=some d) (hb:∀j,j<i→∀y,ds[j]?=some y→HO (C6 y) nm=false) (hn:HO (C6 d) nm=true):Bh ds nm=(Fv d i nm,0):=by
 rw[Bh,ZK hx hb hn,Int.zero_add]
theorem XX {ds:List CK}{nm:ByteArray}(hb:∀j,j<ds.length→∀y,ds[j]?=some y→HO (C6 y) nm=false):Bh ds nm=(bh,9):=by
 rw[Bh,TI hb]
theorem Rz {nm:ByteArray}{i p:Int}{o:GV}(ho:o.kind≠4):∀{cs:List Ib}{k:Int},(Oj nm i p o cs k).kind=4→(Oj nm i p o cs k).decl=i∧k≤(Oj nm i p o cs k).item∧(Oj nm i p o cs k).item<k+cs.length
 | [],k,h=>absurd h ho
 | c::cs,k,h=>by
  unfold Oj at h ⊢;split at h
  ·rename_i hc;rw[if_pos hc];exact⟨O,Int.le_refl _,by simp only[List.length_cons];omega⟩
  rename_i hc;rw[if_neg hc];have:=Rz ho h;simp only[List.length_cons];exact⟨this.1,by have:=this.2.1;omega,by have:=this.2.2;omega⟩
theorem Sq {nm:ByteArray}{i p:Int}{o:GV}(ho:o.kind≠4):∀{cs:List Hi}{k:Int},(bB nm i p o cs k).kind≠4
 | [],k=>ho
 | c::cs,k=>by
  unfold bB;split
  ·simp
  exact Sq ho
theorem _root_.Go.Ac {α:Prop}(h:α:=by simp only;omega):α:=h
theorem S0 {nm:ByteArray}:∀{ds:List CK}{k:Int}{e:GV},findF nm ds k=some e→e.kind=4→∃(j:Nat) (d:CK),e.decl=k+j∧ds[j]?=some d∧0≤e.item∧e.item<d.ctors.length
 | [],k,e,h,_=>by cases h
 | a::ds,k,e,h,hk=>by
  rw[findF,Jj] at h;by_cases hn:HO (C6 a) nm=true
  ·rw[if_pos hn] at h;simp only[Option.some.injEq] at h;subst h;refine⟨0,a,?_⟩;unfold Fv at hk ⊢;split at hk
   ·rename_i q;exact absurd hk Ac
   rename_i q;rw[if_neg q];split at hk
   ·rename_i q3;rw[if_pos q3];split at hk
    ·cases hk
    rename_i qn;rw[if_neg qn];have:=Rz Ap hk;exact⟨by rw[this.1];omega,rfl,this.2.1,by have:=this.2.2;omega⟩
   exact absurd hk (Sq Ap)
  rw[if_neg hn] at h;simp only at h;obtain⟨j,d,h1,h2,h3⟩:=S0 h hk;exact⟨j+1,d,by omega,by simpa using h2,h3⟩
theorem Xi {ds:List CK}{nm:ByteArray}(h0:(Bh ds nm).2=0) (hk:(Bh ds nm).1.kind=4):∃d,0≤(Bh ds nm).1.decl∧ds[(Bh ds nm).1.decl.toNat]?=some d∧0≤(Bh ds nm).1.item∧(Bh ds nm).1.item<d.ctors.length:=by
 unfold Bh at h0 hk ⊢;cases e:findF nm ds 0 with
 | none=>rw[e] at h0;simp at h0
 | some x =>
  rw[e] at hk;obtain⟨j,d,h1,h2,h3,h4⟩:=S0 e hk;simp only;exact⟨d,by omega,by rw[h1];simpa using h2,h3,h4⟩
end Go.Eu
namespace Go.Abs
section
variable {P:Program}{H:List BJ}{dst:Option Tmp}{ty:TypeId}{pos:String}{aft:Array Edge}{x y:Operand}{ρ:Operand→AV}{g:Option (Nat×Bool)}
end
section
variable {P:Program}{dst:Option Tmp}{ty:TypeId}{pos:String}{aft:Array Edge}{g:Option (Nat×Bool)}{ρ:Operand→AV}{H:List BJ}{x y z:Operand}{v:AV}
def py (s:ByteArray):List (List PV):=s.data.toList.map fun b=>[PV.int .u8 b.toNat]
end
section
variable {P:Program}{dst:Option Tmp}{ty:TypeId}{pos:String}{aft:Array Edge}{g:Option (Nat×Bool)}{ρ:Operand→AV}{H:List BJ}{x y z:Operand}{v:AV}
def pz (T:TypeId) (cs:List AV) (H:List BJ):ET→List BJ→Prop
 | .val v,H'=>∃b,v= .ptr b 0∧H'= .boxT b T cs::H
 | .panic _,_=>False
end
section
variable {P:Program}{dst:Option Tmp}{ty:TypeId}{pos:String}{aft:Array Edge}{g:Option (Nat×Bool)}{ρ:Operand→AV}{H:List BJ}{x:Operand}
end
def At (cells:List PV) (o:Nat) (us:List PV):Prop:=∃rest,cells.drop o=us++rest
theorem At.front {us rest:List PV}:At (us++rest) 0 us:=⟨rest,rfl⟩
theorem At.all {us:List PV}:At us 0 us:=⟨[],by simp⟩
theorem At.one {c:PV}{rest:List PV}:At (c::rest) 0 [c]:=⟨rest,rfl⟩
theorem At.cons {c:PV}{cells us:List PV}{o:Nat}(h:At cells o us):At (c::cells) (o+1) us:=h
theorem At.app {a cells us:List PV}{o n:Nat}(hn:a.length=n) (h:At cells o us):At (a++cells) (n+o) us:=by
 obtain⟨rest,h⟩:=h;exact⟨rest,by rw[List.drop_append,←hn,List.drop_of_length_le Ao];simpa using h⟩
theorem At.sub {cells us vs:List PV}{o p:Nat}(h:At cells o us) (h':At us p vs) (hp:p≤us.length):At cells (o+p) vs:=by
 obtain⟨r,h⟩:=h;obtain⟨r',h'⟩:=h';exact⟨r'++r,by rw[←List.drop_drop,h,List.drop_append_of_le_length hp,h',List.append_assoc]⟩
theorem At.drop {cells us:List PV}{a b:Nat}(h:At cells (a+b) us):At (cells.drop a) b us:=by
 unfold At at h ⊢
 rwa [List.drop_drop]
section
variable {P:Program}{dst:Option Tmp}{ty:TypeId}{pos:String}{aft:Array Edge}{g:Option (Nat×Bool)}{ρ:Operand→AV}{H:List BJ}{x:Operand}{T:TypeId}{b o i n:Nat}{cells us:List PV}{c:PV}
theorem By (hT:EE P T=some (true,n)) (hx:ρ x= .ptr b o) (hi:H[i]?=some (.box b (cells.map .p))) (ha:At cells o us) (hn:us.length=n):Dp P ⟨dst,.load T x,ty,pos,aft,g⟩ ρ H (.agg (us.map .p)) H:=by
 have e:((cells.map AV.p).drop o).take n=us.map .p:=by
  obtain⟨rest,h⟩:=ha;rw[←List.map_drop,h,List.map_append,List.take_left' (by rw[List.length_map,hn])]
 exact LK hT hx hi (by rw[e,List.length_map,hn]) (by rw[e])
theorem A3 (hT:EE P T=some (false,n)) (hx:ρ x= .ptr b o) (hi:H[i]?=some (.box b (cells.map .p))) (ha:At cells o [c]):Dp P ⟨dst,.load T x,ty,pos,aft,g⟩ ρ H (.p c) H :=
 B7 hT hx hi (by
  obtain⟨rest,h⟩:=ha;have:=congrArg (fun l:List PV=>l[0]?) h;simp only[List.getElem?_drop,Nat.add_zero,List.singleton_append,List.getElem?_cons_zero] at this;simp[this])
theorem DA (hT:EE P T=some (true,n)) (hx:ρ x= .ref (cells.drop o)) (ha:At cells o us) (hn:us.length=n):Dp P ⟨dst,.load T x,ty,pos,aft,g⟩ ρ H (.agg (us.map .p)) H :=
 LL hT hx hn (by obtain⟨rest,h⟩:=ha;rw[h];exact List.take_left)
theorem C0 (hT:EE P T=some (false,n)) (hx:ρ x= .ref (cells.drop o)) (ha:At cells o [c]):Dp P ⟨dst,.load T x,ty,pos,aft,g⟩ ρ H (.p c) H:=by
 obtain⟨rest,h⟩:=ha;exact FE hT (hx.trans (congrArg AV.ref h))
variable {y:Operand}
theorem W5 {a b:Bool}{T U:TypeId}(hu:P.underlying T=some .bool) (hx:ρ x= .p (.bool a)) (hy:ρ y= .p (.bool b)):Dp P ⟨dst,.binOp .neq T x y U,ty,pos,aft,g⟩ ρ H (.p (.bool (a !=b))) H :=
 CV fun F w E hH hE=>by
  have e1:=hE x Ab;have e2:=hE y Ab;rw[hx] at e1;rw[hy] at e2;simp only[CH,CN] at e1 e2;refine⟨.bool (a !=b),?_,by simp[CH,CN]⟩;have hg:(eqGuard .neq T x y (.bool a) (.bool b)).run P w= .ok () w:=by unfold eqGuard;rfl
  have hq:(Op.equal T (.bool a) (.bool b)).run P w= .ok (a==b) w:=IB hu rfl;simp[execOp,Sem.run_bind,hg,e1,e2,binOp,hq,bne]
theorem D2 {bl:Bool}{cs vs ds:List AV}(hT:EE P T=some (bl,n+1)) (hx:ρ x= .ptr b o) (hi:H[i]?=some (.box b cs)) (hy:Ej (ρ y)=some vs) (hn:vs.length=n+1)
  (ho:Nat.ble (o+(n+1)) cs.length=true) (h1:vs.all one=true) (hd:splice cs o vs=ds):Dp P ⟨dst,.store T x y,ty,pos,aft,g⟩ ρ H (.p .any) (H.set i (.box b ds)):=by
 subst hd;exact J2 hT hx hi hy hn ho h1
end
def qO (k:ByteArray):List (ByteArray×AV)→Option AV
 | []=>none
 | (j,x)::r=>if j=k then some x else qO k r
def sset (k:ByteArray) (v:AV):List (ByteArray×AV)→List (ByteArray×AV)
 | []=>[(k,v)]
 | (j,x)::r=>if j=k then (j,v)::r else (j,x)::sset k v r
def tm (l:List (ByteArray×AV)):List (PV×AV):=l.map fun p=>(.str p.1,p.2)
def sH (P:Program) (T:TypeId):Option TypeId :=
 match P.underlying T with
 | some (.map k e)=>match P.underlying k with
  | some .string=>some e
  | _=>none
 | _=>none
section
variable {F:Nat→Prop}{w:World}
end
section
variable {P:Program}{dst:Option Tmp}{ty:TypeId}{pos:String}{aft:Array Edge}{g:Option (Nat×Bool)}{ρ:Operand→AV}{H:List BJ}{x y z:Operand}{v:AV}
end
section
variable {P:Program}{dst:Option Tmp}{ty:TypeId}{pos:String}{aft:Array Edge}{g:Option (Nat×Bool)}{ρ:Operand→AV}{H:List BJ}{x y z:Operand}{v:AV}
def appendTR (i:Nat) (e:TypeId) (rows:List (List PV)) (H:List BJ):ET→List BJ→Prop
 | .val v,H'=>∃o c,v= .vs o rows.length c∧H'=H.set i (.vecT o e false rows c)
 | .panic _,_=>False
theorem RP {a b:ByteArray}{T U:TypeId}(hx:ρ x= .p (.str a)) (hy:ρ y= .p (.str b)) (hsz:a.size+b.size≤9223372036854775807):Dp P ⟨dst,.binOp .add T x y U,ty,pos,aft,g⟩ ρ H (.p (.str (a++b))) H :=
 CV fun F w E hH hE=>by
  have e1:=hE x Ab;have e2:=hE y Ab;rw[hx] at e1;rw[hy] at e2;simp only[CH,CN] at e1 e2;have hm:¬(((a.size+b.size:Nat):Int) > IntKind.i64.max):=by rw[show IntKind.i64.max=9223372036854775807 from rfl];omega
  have h1:(Op.stringOp .add a b).run P w= .ok (.string (a++b)) w:=by
   unfold Op.stringOp;simp only[if_neg hm];rfl
  exact⟨.string (a++b),by simp[execOp,Sem.run_bind,L3,e1,e2,binOp,h1],by simp[CH,CN]⟩
end
section
variable {P:Program}{r:Option Nat}{ops:Array Oper}{Q:C2→Br→Prop}{k:Nat}{n:Nat}{τ:Nat→AV}{H H':List BJ}{D:List ES}{dst:Option Tmp}{op:Op}{ty:TypeId}{pos:String}{aft:Array Edge}{g:Option (Nat×Bool)}{v:AV}
end
section
variable {P:Program}{dst:Option Tmp}{ty:TypeId}{pos:String}{aft:Array Edge}{g:Option (Nat×Bool)}{ρ:Operand→AV}{H:List BJ}{x f:Operand}
end
section
variable {P:Program}{ops:Array Oper}{n:Nat}{τ₀ τ:Nat→AV}{D:List ES}{Q:C2→Br→Prop}{opn:Nat→Bool}{k:Nat}{T:List BJ}{dst:Option Tmp}{ty:TypeId}{pos:String}{aft:Array Edge}{c:Call}{f:Operand}{fid:FuncId}{first caps A:List AV}{v:AV}{C:List BJ→Prop}
end
def Yh (l:List UInt8):List (List PV):=l.map fun b=>[PV.int .u8 b.toNat]
def BW (U e:TypeId) (b:Nat) (l:List UInt8) (T:List BJ):Prop :=
 ∃a o cp,(a= .nilp∨a= .ptr b 0)∧T=[.boxT b U [a,.vs o (Yh l).length cp],.vecT o e false (Yh l) cp]
def BX (U e:TypeId) (b:Nat) (l:List UInt8) (T:List BJ):Prop :=
 ∃a o cp fr,T=[.boxT b U [a,.vs (some o) (Yh l).length cp],.vecT (some o) e fr (Yh l) cp]
def uD (l:List UInt8):ByteArray:=⟨l.toArray⟩
section
variable {P:Program}{dst:Option Tmp}{ty:TypeId}{pos:String}{aft:Array Edge}{g:Option (Nat×Bool)}{ρ:Operand→AV}{H:List BJ}{x y z:Operand}
end
theorem Pd {α:Type}:∀(xs l:List α) (o:Nat),o+xs.length≤l.length→splice l o xs=l.take o++xs++l.drop (o+xs.length)
 | [],l,o,h=>by simp[splice]
 | x::xs,l,o,h=>by
  simp only[List.length_cons] at h;rw[splice,Pd xs _ _ (by rw[List.length_set];omega)];have h1:(l.set o x).take (o+1)=l.take o++[x]:=by
   rw[List.take_add_one,List.getElem?_set_self Ao,List.take_set_of_le (Nat.le_refl _)];rfl
  have h2:(l.set o x).drop (o+1+xs.length)=l.drop (o+(x::xs).length):=by
   rw[List.drop_set_of_lt Ao];congr 1;simp only[List.length_cons];omega
  rw[h1,h2];simp
def Gy:Nat→List (List PV)→List (Nat×AV)
 | _,[]=>[]
 | k,r::rs=>(k,.agg (r.map .p))::Gy (k+1) rs
theorem VY {sz:Nat}:∀(rows:List (List PV)) (k:Nat) (base:List AV),(∀r∈rows,r.length=sz)→(k+rows.length)*sz=base.length→Fh (fun i=>some (i*sz,sz)) base (Gy k rows)=some (base.take (k*sz)++rows.flatten.map .p)
 | [],k,base,hr,hb=>by
  simp only[List.length_nil,Nat.add_zero] at hb;simp[Gy,Fh,hb]
 | r::rows,k,base,hr,hb=>by
  have hl:=hr r Ap;have hb2:k*sz+sz+rows.length*sz=base.length:=by
   rw[←hb,List.length_cons,Nat.add_mul,Nat.add_mul,Nat.one_mul];omega
  simp only[Gy,Fh,Ej];rw[if_pos ⟨by simp[hl],by simp[hl];omega⟩,Pd _ _ _ (by simp[hl];omega)];rw[VY rows (k+1) _ (fun x hx=>hr x (by simp[hx])) (by simp only[List.length_append,List.length_take,List.length_drop,List.length_map,hl];rw[Nat.add_mul,Nat.add_mul,Nat.one_mul];omega)];congr 1;have h1:((base.take (k*sz)++r.map AV.p)++base.drop (k*sz+(r.map AV.p).length)).take ((k+1)*sz)=base.take (k*sz)++r.map .p:=by
   have:(k+1)*sz=(base.take (k*sz)++r.map AV.p).length:=by
    simp only[List.length_append,List.length_take,List.length_map,hl];rw[Nat.add_mul,Nat.one_mul];omega
   rw[this,List.take_left'];rfl
  rw[h1];simp
theorem Pv {α:Type}{sz:Nat}:∀{rows:List (List α)},(∀r∈rows,r.length=sz)→chunks sz rows.length rows.flatten=rows
 | [],_=>rfl
 | r::rows,h=>by
  have hl:=h r Ap;simp only[List.length_cons,chunks,List.flatten_cons];rw[List.take_left' hl,List.drop_left' hl,Pv fun x hx=>h x (by simp[hx])]
theorem Ra:∀(rows:List (List PV)) (k:Nat),(∀r∈rows,∀c∈r,c≠ .nils)→(Gy k rows).map (fun p=>(p.1,norm p.2))=Gy k rows
 | [],k,h=>rfl
 | r::rows,k,h=>by
  simp only[Gy,List.map_cons];show (k,AV.agg ((r.map AV.p).map dn))::_=_;rw[Ra rows (k+1) fun x hx=>h x (by simp[hx])];congr 3;have:=h r Ap;clear h
  induction r with
  | nil=>rfl
  | cons c r ih =>
   simp only[List.map_cons];rw[ih fun d hd=>this d (by simp[hd])];have:=this c Ap;cases c<;>simp_all [dn]
section
variable {P:Program}{dst:Option Tmp}{ty:TypeId}{pos:String}{aft:Array Edge}{g:Option (Nat×Bool)}{ρ:Operand→AV}{H:List BJ}
theorem Qu:∀(r:List PV),Gf (r.map .p)=some r
 | []=>rfl
 | c::r=>by simp[Gf,Qu r]
theorem XC {parts:Array (Nat×Operand)}{rows:List (List PV)}(hp:parts.toList.map (fun p=>(p.1,ρ p.2))=Gy 0 rows) (hn:∀r∈rows,∀c∈r,c≠ .nils):parts.toList.map (fun p=>(p.1,norm (ρ p.2)))=Gy 0 rows:=by
 have h2:=Ra rows 0 hn;rw[←hp,List.map_map] at h2;rw[←hp];exact h2
theorem Bx {T e:TypeId}{len sz bytes:Nat}{parts:Array (Nat×Operand)}{z:Value}{rows:List (List PV)}(hT:F3 P T=some (e,sz,bytes)) (hz:zeroOf P e=some z) (hsz:z.cells.size=sz) (hpos:(Nat.blt 0 sz&&Nat.ble (len*sz) 16777216)=true)
  (hp:parts.toList.map (fun p=>(p.1,ρ p.2))=Gy 0 rows) (hl:rows.length=len) (hr:∀r∈rows,r.length=sz) (hn:∀r∈rows,∀c∈r,c≠ .nils) :
  Dp P ⟨dst,.buildSlice T len parts,ty,pos,aft,g⟩ ρ H (.p (.lst rows)) H:=by
 subst hl;refine Bo (cs:=rows.flatten.map .p) (ps:=rows.flatten) hT hz hsz hpos ?_ (Qu _) (Pv hr);rw[XC hp hn,VY rows 0 _ hr (by simp[hsz])];simp
theorem QE {T e:TypeId}{len sz bytes:Nat}{parts:Array (Nat×Operand)}{z:Value}{cs:List AV}{ps:List PV}{rows:List (List PV)}(hT:F3 P T=some (e,sz,bytes)) (hz:zeroOf P e=some z) (hsz:z.cells.size=sz) (hpos:(Nat.blt 0 sz&&Nat.ble (len*sz) 16777216)=true)
  (hc:Fh (fun i=>some (i*sz,sz)) (List.replicate len (z.cells.toList.map Gv)).flatten (parts.toList.map fun p=>(p.1,norm (ρ p.2)))=some cs) (hp:Gf cs=some ps) (hr:chunks sz len ps=rows) :
  DU P ⟨dst,.buildSlice T len parts,ty,pos,aft,g⟩ ρ H (MG sz rows H) :=
 Hg fun F w E hH hE=>by
  obtain⟨hu,i,hi,hs,hby⟩:=FV hT;simp only[Bool.and_eq_true,Nat.blt_eq,Nat.ble_eq] at hpos;unfold zeroOf at hz;have hz':∃j,P.info? e=some j∧j.zero=some z:=by
   cases hq:P.info? e with
   | none=>simp[hq] at hz
   | some j=>exact⟨j,rfl,by simpa [hq] using hz⟩
  obtain⟨j,hj,hz'⟩:=hz';have hzv:(zeroValue e).run P w= .ok z w:=by simp[zeroValue,typeInfo,hj,hz',Sem.run_bind]
  have hzl:B1 F w (List.replicate len (z.cells.toList.map Gv)).flatten (List.replicate len z.cells.toList).flatten:=HY (HD _) len;obtain⟨us,hf,hrep⟩:=JH (F:=F) (w:=w) (place:=fun i=>some (i*sz,sz)) _ (parts.toList.map fun p=>(p.1,E p.2)) _ _ _ Ap (by
   intro j p q h1 h2;simp only[List.getElem?_map] at h1 h2;cases hj:parts.toList[j]? with
   | none=>simp[hj] at h1
   | some t =>
    simp[hj] at h1 h2;subst h1;subst h2;exact⟨O,(hE _ (by
     have:=List.mem_of_getElem? hj;simp only[Op.operands];exact List.mem_map.2 ⟨t,this,O⟩)).norm⟩) hzl hc
  have hcs:=H7 hp;have hlen:ps.length=len*sz:=by
   have h1:cs.length=((List.replicate len (z.cells.toList.map Gv)).flatten).length:=by
    clear hrep hp hcs hzl hf;generalize (List.replicate len (z.cells.toList.map Gv)).flatten=l at hc;generalize (parts.toList.map fun p=>(p.1,norm (ρ p.2)))=q at hc
    induction q generalizing l with
    | nil=>simp[Fh] at hc;rw[hc]
    | cons a q ih =>
     obtain⟨i,x⟩:=a;simp only[Fh] at hc;cases hx:Ej x with
     | none=>simp[hx] at hc
     | some c2 =>
      simp only[hx] at hc;split at hc
      ·rw[ih _ hc,Gu]
      cases hc
   rw[hcs] at h1;simp only[List.length_map,List.length_flatten,List.map_replicate,List.sum_replicate_nat,Array.length_toList,hsz] at h1;exact h1
  obtain⟨c1,c2,c3⟩:=Lx hlen;rw[hr] at c1 c2 c3;have hul:us.length=ps.length:=by rw[hrep.length,hcs];simp
  obtain⟨v0,H0,F0,h10,h20,h30,h40⟩:=Om (T:=e) (c:=len) (vs:=us) (H:=H) hH c2 (by rw[c1,←hul,List.take_length];rw[hcs] at hrep;exact hrep) Ao Ao;rw[c3] at h40;refine⟨_,_,v0,H0,F0,?_,h10,h20,h30,h40⟩;have hszr:(sizeOf e).run P w= .ok sz w:=by simp[sizeOf,typeInfo,hi,hs]
  have hzc:z.cells=⟨z.cells.toList⟩:=rfl;have hrm:=JL z.cells.toList len;have hsz2:z.cells.toList.length=sz:=by simpa using hsz
  rw[hsz2] at hrm;have harr:((Array.range (len*sz)).map fun i=>z.cells[i % z.cells.size]!)=⟨(List.replicate len z.cells.toList).flatten⟩:=by
   apply Array.ext';exact hrm
  simp only[execOp,Instr.buildSlice,Sem.run_bind,run_underlying hu,Result.andThen_ok,hszr];rw[if_neg Ao];simp only[Sem.run_pure,Result.andThen_ok,Sem.run_bind,pure_bind];have hf':Instr.fill (fun i=>some (i*sz,sz)) ⟨(List.replicate len z.cells.toList).flatten⟩ (parts.map fun p=>(p.1,E p.2)).toList=some ⟨us⟩:=by
   rw[←hf];simp
  by_cases h00:len*sz=0
  ·have hl0:len=0:=by
    rcases Nat.mul_eq_zero.1 h00 with h | h
    ·exact h
    omega
   subst hl0;simp only[Nat.zero_mul,if_true];simp only[List.replicate_zero,List.flatten_nil] at hf';have e0:(Array.map (fun x=>(#[]:Array Value)[x % (#[]:Array Value).size]!) (Array.range 0))=(⟨[]⟩:Array Value):=by simp
   rw[e0,hf'];simp only[newRow,newObj,Sem.run_bind,Sem.run,Result.andThen,Sem.run_pure];rfl
  rw[if_neg h00];simp only[Sem.run_bind,hzv,Result.andThen_ok];rw[harr,hf'];simp only[newRow,newObj,Sem.run_bind,Sem.run,Result.andThen,Sem.run_pure];rfl
end
section
variable {P:Program}{ops:Array Oper}{n:Nat}{τ₀:Nat→AV}{D:List ES}{Q:C2→Br→Prop}{opn:Nat→Bool}{k:Nat}{τ:Nat→AV}{H:List BJ}{rd:W2}{ef:WR}{effs:List Bool}{fx:List (Nat×Sp)}{dst:Option Tmp}{op:Op}{ty:TypeId}{pos:String}{aft:Array Edge}
end
section
variable {P:Program}{ty:TypeId}{pos:String}{aft:Array Edge}{g:Option (Nat×Bool)}{ρ:Operand→AV}{H:List BJ}{x y:Operand}
theorem WX {T T2 e e2:TypeId}{sz bytes n2 n3 d c i n:Nat}{o:Option Nat}{rows rows' all:List (List PV)}{zv:Value}(hT:F3 P T=some (e,sz,bytes)) (hT2:F3 P T2=some (e2,n2,n3)) (hz:zeroOf P e=some zv) (hzs:zv.cells.size=sz) (hb0:(Nat.blt 0 sz&&Nat.blt 0 bytes)=true)
  (hx:ρ x= .vs o n c) (hn:n=rows.length) (hi:H[i]?=some (.vec o sz rows c)) (hy:norm (ρ y)= .p (.lst rows')) (hsol:∀r∈rows',EM sz r) (hroom:2*(rows.length+rows'.length)*bytes≤281474976710656) (hall:rows++rows'=all) :
  Dp P ⟨some d,.call { callee:= .builtin .append,args:=#[x,y],argTypes:=#[T,T2] },ty,pos,aft,g⟩ ρ H (.p (.lst all)) (H.eraseIdx i):=by
 subst hall;intro r F S a w hs hH hρ hd;subst hH;have h:=Rk (P:=P) (dst:=some d) (ty:=ty) (pos:=pos) (aft:=aft) (g:=g) (ρ:=ρ) (H:=S.H) (i:=i) (o:=o) (rows:=rows) (n:=n) (c:=c) hT hT2 hz hzs hb0 hx hn hi hy hsol hroom r F S a w hs rfl hρ hd;refine MJ h ?_ ?_
 ·rintro a' w' ⟨v,H',F',⟨o',c',rfl,rfl⟩,hs',ht⟩;have hlt:=(List.getElem?_eq_some_iff.1 hi).1;obtain⟨F'',hs'',ht''⟩:=Cj (n:=S.n) (τ:=put S.τ (some d) (.vs o' (rows++rows').length c')) (H:=S.H.set i (.vec o' sz (rows++rows') c')) (D:=S.D) (i:=i) [d] (List.getElem?_set_self hlt) (fun t ht=>by simp at ht;subst ht;simp[put]) F' a' w' hs';have e:J4 [d] (.p (.lst (rows++rows'))) (put S.τ (some d) (.vs o' (rows++rows').length c'))=put S.τ (some d) (.p (.lst (rows++rows'))):=by
   funext t;simp only[J4,put,List.any_cons,List.any_nil,Bool.or_false];cases Nat.beq t d<;>rfl
  have e2:(S.H.set i (.vec o' sz (rows++rows') c')).eraseIdx i=S.H.eraseIdx i:=List.eraseIdx_set_eq;simp only[e,e2] at hs'' ht'';exact⟨_,S.H.eraseIdx i,F'',⟨O,O⟩,hs'',ht.trans hs.heap.bd ht''⟩
 rintro e a' w' ⟨v,H',F',u,h,_⟩;exact h.elim
end
inductive Ey where
 | val (v:AV)
 | skip
 | new (cs:List AV)
 | newv (sz:Nat) (rows:List (List PV))
def Ey.v (b:Nat×Nat):Ey→AV
 | .val v=>v
 | .skip=> .tup []
 | .new _=> .ptr b.1 0
 | .newv _ rows=> .vs (some b.1) rows.length b.2
def Ey.box (b:Nat×Nat):Ey→List BJ
 | .new cs=>[.box b.1 cs]
 | .newv sz rows=>[.vec (some b.1) sz rows b.2]
 | _=>[]
def kO (P:Program) (ops:Array Oper) (H₀:List BJ) (o:Oper) (τ:Nat→AV):Ey→Prop
 | .val v=>C3 ops ⟨0,τ,[],[]⟩ o∧∀Bs,Dp P o (ev τ) (Bs++H₀) v (Bs++H₀)
 | .skip=>∃j want d,o.guard=some (j,want)∧(ops[j]?).bind (·.dst)=some d∧fj (τ d) want
 | .new cs=>o.guard=none∧∀Bs,DU P o (ev τ) (Bs++H₀) (Ie cs (Bs++H₀))
 | .newv sz rows=>o.guard=none∧∀Bs,DU P o (ev τ) (Bs++H₀) (MG sz rows (Bs++H₀))
def EW (P:Program) (ops:Array Oper) (H₀:List BJ):Nat→(Nat→AV)→List Ey→((Nat→AV)→List BJ→Prop)→Prop
 | _,τ,[],K=>K τ []
 | k,τ,e::r,K=>∃o,ops[k]?=some o∧kO P ops H₀ o τ e∧∀b,EW P ops H₀ (k+1) (put τ o.dst (e.v b)) r (fun τ' Hs=>K τ' (e.box b++Hs))
def Oq (β:Nat→Nat×Nat):Nat→List Ey→List Sp
 | _,[]=>[]
 | k,e::r=> .free (e.v (β k))::Oq β (k+1) r
def mB (β:Nat→Nat×Nat):Nat→List Ey→List BJ
 | _,[]=>[]
 | k,e::r=>e.box (β k)++mB β (k+1) r
def Wz (β:Nat→Nat×Nat) (l:Nat→Bool):Nat→List Ey→List BJ
 | _,[]=>[]
 | k,e::r=>(if l k=true then e.box (β k) else [])++Wz β l (k+1) r
theorem QJ (β:Nat→Nat×Nat):∀(r:List Ey) (k j:Nat),j<r.length→(Oq β k r).getD j .skip= .free ((r.getD j .skip).v (β (k+j)))
 | [],k,j,h=>by simp at h
 | e::r,k,0,h=>by simp[Oq]
 | e::r,k,j+1,h=>by
  have:=QJ β r (k+1) j (by simpa using h);simp only[Oq,List.getD_cons_succ];rw[this,show k+1+j=k+(j+1) by omega]
theorem YQ (β:Nat→Nat×Nat):∀(r:List Ey) (k:Nat),(Oq β k r).length=r.length
 | [],k=>rfl
 | e::r,k=>by simp[Oq,YQ β r (k+1)]
theorem Yq (β:Nat→Nat×Nat) {r:List Ey}{k j:Nat}(h:r.length≤j):(Oq β k r).getD j .skip= .skip:=by
 rw[List.getD_eq_getElem?_getD,List.getElem?_eq_none (by rw[YQ];exact h)];rfl
theorem gz (β:Nat→Nat×Nat) (r:List Ey) (k j:Nat):((Oq β k r).getD j .skip).isEff=false:=by
 rcases Nat.lt_or_ge j r.length with h | h
 ·rw[QJ β r k j h];rfl
 rw[Yq β h];rfl
theorem eN (β:Nat→Nat×Nat) (r:List Ey) (k j:Nat) (ob:List BJ) (v:AV):(Oq β k r).getD j .skip≠ .read ob v:=by
 rcases Nat.lt_or_ge j r.length with h | h
 ·rw[QJ β r k j h];simp
 rw[Yq β h];simp
theorem Qg (β:Nat→Nat×Nat) {r:List Ey}{j:Nat}(h:j<r.length):((Oq β 0 r).getD j .skip).val=(r.getD j .skip).v (β j):=by
 rw[QJ β r 0 j h,Nat.zero_add];rfl
theorem EW.facts {P:Program}{ops:Array Oper}{H₀:List BJ}{τ:Nat→AV}{base:List Ey}(β:Nat→Nat×Nat):∀(r:List Ey) (k:Nat) (τk:Nat→AV) (K:(Nat→AV)→List BJ→Prop),base.drop k=r→k+r.length=base.length→τk=τS ops (Oq β 0 base) τ k→EW P ops H₀ k τk r K →
  (∀j,k≤j→j<base.length→∃o,ops[j]?=some o∧kO P ops H₀ o (τS ops (Oq β 0 base) τ j) (base.getD j .skip))∧K (τS ops (Oq β 0 base) τ base.length) (mB β k r)
 | [],k,τk,K,hd,hk,ht,h=>by
  simp only[List.length_nil,Nat.add_zero] at hk;subst hk;exact⟨fun j h1 h2=>by omega,by rw[←ht];exact h⟩
 | e::r,k,τk,K,hd,hk,ht,h=>by
  obtain⟨o,ho,hok,hn⟩:=h;simp only[List.length_cons] at hk;have hb:base.getD k .skip=e:=by
   have:(base.drop k)[0]?=some e:=by rw[hd];rfl
   rw[List.getElem?_drop] at this;rw[List.getD_eq_getElem?_getD,show k=k+0 by omega,this];rfl
  have hd2:base.drop (k+1)=r:=by
   rw[←List.drop_drop,hd];rfl
  obtain⟨h1,h2⟩:=EW.facts (τ:=τ) (base:=base) β r (k+1) _ _ hd2 Ao (by simp only[τS,ho,Option.bind_some];rw[Qg β Ao,hb,←ht]) (hn (β k));refine⟨fun j hj hl=>?_,h2⟩;by_cases e2:j=k
  ·subst e2;exact⟨o,ho,by rw[hb,←ht];exact hok⟩
  exact h1 j Ao hl
theorem O2 {β β':Nat→Nat×Nat}{l l':Nat→Bool}:∀(r:List Ey) (k:Nat),(∀j,k≤j→l j=l' j∧(l j=true→β j=β' j))→Wz β l k r=Wz β' l' k r
 | [],k,h=>rfl
 | e::r,k,h=>by
  simp only[Wz];obtain⟨h1,h2⟩:=h k (Nat.le_refl _);rw[O2 r (k+1) fun j hj=>h j Ao,←h1];cases hl:l k
  ·rfl
  rw[h2 hl]
theorem ZL {β:Nat→Nat×Nat}{l:Nat→Bool}{i:Nat}{b:Nat×Nat}(hi:l i=false):∀(r:List Ey) (k:Nat),k≤i→i<k+r.length→((r.getD (i - k) .skip).box b++Wz β l k r).Perm (Wz (fun j=>if j=i then b else β j) (fun j=>l j||j==i) k r)
 | [],k,h1,h2=>by simp at h2;omega
 | e::r,k,h1,h2=>by
  simp only[Wz];by_cases hk:k=i
  ·subst hk;simp only[hi,Bool.false_eq_true,if_false,List.nil_append,Nat.sub_self,List.getD_cons_zero,beq_self_eq_true,Bool.or_true,if_true];rw[O2 (β':=fun j=>if j=k then b else β j) (l':=fun j=>l j||j==k) r (k+1) fun j hj=>⟨by simp[show (j==k)=false by simp;omega],fun _=>by rw[if_neg Ao]⟩]
  have hp:=ZL (β:=β) hi r (k+1) (b:=b) Ao (by simp only[List.length_cons] at h2;omega);have e1:(e::r).getD (i - k) .skip=r.getD (i - (k+1)) .skip:=by
   rw[show i - k=(i - (k+1))+1 by omega];rfl
  have e2:(if (l k||k==i)=true then e.box (if k=i then b else β k) else [])=(if l k=true then e.box (β k) else []):=by
   rw[if_neg hk];simp[hk]
  rw[e1,e2];refine List.Perm.trans ?_ (hp.append_left _);rw[←List.append_assoc,←List.append_assoc];exact List.perm_append_comm.append_right _
theorem Yu {β:Nat→Nat×Nat}{l:Nat→Bool}:∀(r:List Ey) (k:Nat),(∀j,k≤j→j<k+r.length→l j=true)→Wz β l k r=mB β k r
 | [],k,h=>rfl
 | e::r,k,h=>by
  simp only[Wz,mB];rw[if_pos (h k (Nat.le_refl _) Ap),Yu r (k+1) fun j h1 h2=>h j Ao (by simp only[List.length_cons];omega)]
theorem VQ {β:Nat→Nat×Nat}{l:Nat→Bool}:∀(r:List Ey) (k:Nat),(∀j,l j=false)→Wz β l k r=[]
 | [],k,h=>rfl
 | e::r,k,h=>by simp only[Wz];rw[VQ r (k+1) h,h k];rfl
def js (ops:Array Oper) (e:Nat):Bool:=(List.range ops.size).all fun i=>Nat.blt i e||(List.range i).all fun j=>Mr ops j i
theorem SD {ops:Array Oper}{e:Nat}(h:js ops e=true) {i j:Nat}(hi:e≤i) (hs:i<ops.size) (hj:j<i):Pred ops j i:=by
 have:=List.all_eq_true.1 h i (by simpa using hs);simp only[Bool.or_eq_true] at this;rcases this with h1 | h1
 ·rw[Nat.blt_eq] at h1;omega
 exact Er (List.all_eq_true.1 h1 j (by simpa using hj))
theorem UO {P:Program}{r:Option Nat}{ops:Array Oper}{id n:Nat}{τ:Nat→AV}{H:List BJ}{D:List ES}{Q:C2→Br→Prop}(base:List Ey) (hm:P.follows .mixedOrders=true)
  (he:Nat.ble base.length ops.size=true) (chk:ND ops n []=true) (late:js ops base.length=true) (h:EW P ops H 0 τ base (fun τ' Hs=>AL P r ops base.length ⟨n,τ',Hs++H,D⟩ Q)):JD P r (.region id ops true) ⟨n,τ,H,D⟩ Q:=by
 intro F₀ a₀ w₀ hs₀;rw[Nat.ble_eq] at he;refine wpIn_region_any hm ?_;have same:DY F₀ w₀ F₀ { w₀ with drawn:=w₀.drawn+1 }:=⟨Nat.le_refl _,fun _ _ _=>rfl,fun _ h _=>h⟩;have t₀:Trans F₀ H w₀ F₀ H { w₀ with drawn:=w₀.drawn+1 } :=
  ⟨Nat.le_refl _,fun _ _ _=>rfl,fun _ h _=>h,fun _ h=> .inl h,fun o ho b hb=> .inl ⟨o,ho,hb⟩,rfl,rfl,rfl⟩
 have hs₁:Dl F₀ ⟨n,τ,H,D⟩ a₀ { w₀ with drawn:=w₀.drawn+1 } :=
  ⟨hs₀.size,fun t=>CH.mono same _ _ (hs₀.tmp t),hs₀.heap.stable' same (fun _ h=>h) (fun _ _ _ _=>rfl) hs₀.heap.bd,FO.mono same _ _ hs₀.defs⟩
 obtain⟨hdst,c0,c1,c2,_⟩:=J8 chk;have hd:∀β,N8 P ops n (fun _=>False) τ H (Oq β 0 base):=fun β =>
  ⟨hdst,fun _ _ _ h=>h.elim,c0,c1,c2,fun i k _ _ h _=>(by rw[gz] at h;cases h),fun i e ob v _ _ _ h _ _=>absurd h (eN β base 0 i ob v)⟩
 have hE:∀β,(∀j,j<base.length→∃o,ops[j]?=some o∧kO P ops H o (τS ops (Oq β 0 base) τ j) (base.getD j .skip))∧AL P r ops base.length ⟨n,τS ops (Oq β 0 base) τ base.length,mB β 0 base++H,D⟩ Q:=fun β=>by
  obtain⟨h1,h2⟩:=EW.facts (base:=base) β base 0 τ _ Ap Ap rfl h;exact⟨fun j hj=>h1 j (Nat.zero_le _) hj,h2⟩
 -- where all of the first part has been carried out,the rest goes in the order of the text
 have conv:∀{l:Array Bool} {a w β τ' F Hb},(∀j,j<base.length→l.getD j false=true)→(∀k,base.length≤k→l.getD k false=false)→Gh ops (Oq β 0 base) τ (fun i=>l.getD i false=true) τ'→Hb.Perm (Wz β (fun k=>l.getD k false) 0 base)→Dl F ⟨n,τ',Hb++H,D⟩ a w→Trans F₀ H w₀ F (Hb++H) w →
   wpOpsIn (W r) 0 P ops (post F₀ H w₀ Q) (List.range' base.length (ops.size - base.length)) a w:=by
  intro l a w β τ' F Hb hall hno hτ hp hs ht;have hτe:τ'=τS ops (Oq β 0 base) τ base.length:=by
   funext t;have h2:=Md (hd β) base.length he t;by_cases hw:∃(k:Nat) (o':Oper),ops[k]?=some o'∧o'.dst=some t∧k<base.length
   ·obtain⟨k,o',ho',hk,hlt⟩:=hw;rw[(hτ t).1 k o' ho' hk (hall k hlt),h2.1 k o' ho' hk hlt]
   have hw':∀(k:Nat) o',ops[k]?=some o'→o'.dst=some t→¬k<base.length:=fun k o' h1 h2 h3=>hw ⟨k,o',h1,h2,h3⟩;rw[(hτ t).2 fun k o' h1 h2 h3=>(by have h4:l.getD k false=true:=h3;have:=hno k (by have:=hw' k o' h1 h2;omega);rw[this] at h4;cases h4),h2.2 fun k o' h1 h2 h3=>hw' k o' h1 h2 h3]
  rw[Yu base 0 fun j _ hj=>hall j Ao] at hp;have hp2:=hp.append_right H;have:=(hE β).2 F a w (by rw[←hτe];exact⟨hs.size,hs.tmp,hs.heap.perm hp2,hs.defs⟩);refine Ep (fun e a' w' hq=>?_) _ _ _ this;exact HC hs₀.heap.bd { ht with keys:=fun o ho=>ht.keys o (hp2.mem_iff.2 ho) } hq
 refine KV (I:=fun l a w=>l.size=ops.size∧((∃β τ' F Hb,Down ops (fun i=>l.getD i false=true)∧(∀k,base.length≤k→l.getD k false=false)∧Gh ops (Oq β 0 base) τ (fun i=>l.getD i false=true) τ'∧Hb.Perm (Wz β (fun k=>l.getD k false) 0 base)∧Dl F ⟨n,τ',Hb++H,D⟩ a w∧Trans F₀ H w₀ F (Hb++H) w) ∨
  (∃m,base.length≤m∧m≤ops.size∧(∀k,k<ops.size→(l.getD k false=true↔k<m))∧wpOpsIn (W r) 0 P ops (post F₀ H w₀ Q) (List.range' m (ops.size - m)) a w))) (fun l a w h=>h.1) ?_ ?_ _ _ _ _ ?_ ?_
 ·rintro l a w ⟨hsz,hI⟩ i hi;obtain⟨hun,o,ho,hall⟩:=mem_ready.1 hi;have hlt:i<ops.size:=by
   rcases Nat.lt_or_ge i ops.size with h | h
   ·exact h
   simp[Array.getElem?_eq_none h] at ho
  have hil:i<l.size:=by omega
  have hnot:l.getD i false=false:=by
   have:l[i]=false:=by simpa [hil] using hun
   simp[hil,this]
  have hr:∀j∈EH o,l.getD j false=true:=by
   intro j hj;simp only[EH,List.mem_map,List.mem_filter] at hj;obtain⟨e,⟨he,hb⟩,rfl⟩:=hj;exact hall e (by simpa using he) hb
  have hset:∀k,(l.setIfInBounds i true).getD k false=true↔(l.getD k false=true∨k=i):=by
   intro k;by_cases hk:k=i
   ·subst hk;simp[hil]
   simp[Array.getElem?_setIfInBounds_ne (Ne.symm hk),hk]
  have hset2:∀k,(l.setIfInBounds i true).getD k false=(l.getD k false||k==i):=by
   intro k;by_cases hk:k=i
   ·subst hk;simp[hil]
   simp[Array.getElem?_setIfInBounds_ne (Ne.symm hk),hk]
  have hsz':(l.setIfInBounds i true).size=ops.size:=by simp[hsz]
  have goLate:∀m,i=m→base.length≤m→m≤ops.size→(∀k,k<ops.size→(l.getD k false=true↔k<m))→wpOpsIn (W r) 0 P ops (post F₀ H w₀ Q) (List.range' m (ops.size - m)) a w →
    wpOpIn (W r) 0 P ops (post F₀ H w₀ Q) i (fun a w=>(l.setIfInBounds i true).size=ops.size∧((∃β τ' F Hb,Down ops (fun k=>(l.setIfInBounds i true).getD k false=true)∧(∀k,base.length≤k→(l.setIfInBounds i true).getD k false=false)∧Gh ops (Oq β 0 base) τ (fun k=>(l.setIfInBounds i true).getD k false=true) τ'∧Hb.Perm (Wz β (fun k=>(l.setIfInBounds i true).getD k false) 0 base)∧Dl F ⟨n,τ',Hb++H,D⟩ a w∧Trans F₀ H w₀ F (Hb++H) w) ∨
     (∃m,base.length≤m∧m≤ops.size∧(∀k,k<ops.size→((l.setIfInBounds i true).getD k false=true↔k<m))∧wpOpsIn (W r) 0 P ops (post F₀ H w₀ Q) (List.range' m (ops.size - m)) a w))) a w:=by
   intro m him h1 h2 h3 hw;subst him;rw[Kj hlt,wpOpsIn_cons] at hw;refine wpOpIn_mono (fun a' w' h'=>⟨hsz',.inr ⟨i+1,by omega,by omega,fun k hk=>?_,h'⟩⟩) hw;rw[hset k,h3 k hk];omega
  rcases hI with ⟨β,τ',F,Hb,hdown,hno,hτ,hp,hs,ht⟩ | ⟨m,hm1,hm2,hm3,hw⟩
  ·rcases Nat.lt_or_ge i base.length with hib | hib
   ·-- of the first part
    obtain⟨o',ho',hok⟩:=(hE β).1 i hib;rw[ho] at ho';injection ho' with ho';subst ho';have hlook:∀t∈looks ops o,τ' t=τS ops (Oq β 0 base) τ i t:=fun t ht=>KZ (hd β) hdown hτ ho (by rw[hnot];decide) hr ht;have hops:∀x∈o.op.operands.toList,ev τ' x=ev (τS ops (Oq β 0 base) τ i) x:=by
     intro x hx;cases x with
     | tmp t=>exact hlook t (List.mem_append_left _ (List.mem_filterMap.2 ⟨.tmp t,hx,rfl⟩))
     | _=>rfl
    have hguard:∀j want d,o.guard=some (j,want)→(ops[j]?).bind (·.dst)=some d→τ' d=τS ops (Oq β 0 base) τ i d:=by
     intro j want d hg hj;refine hlook d (List.mem_append_right _ ?_);simp[hg,hj]
    have hdown':Down ops (fun k=>(l.setIfInBounds i true).getD k false=true):=by
     intro k o' j ho' hk hj;rcases (hset k).1 hk with h | h
     ·exact(hset j).2 (.inl (hdown k o' j ho' h hj))
     subst h;rw[ho] at ho';injection ho' with ho';subst ho';exact(hset j).2 (.inl (hr j hj))
    have hno':∀k,base.length≤k→(l.setIfInBounds i true).getD k false=false:=by
     intro k hk;rw[hset2 k,hno k hk];simp;omega
    generalize hbe:base.getD i .skip=e at hok;have close:∀{a' w' F' b H'},H'=e.box b++(Hb++H)→Dl F' ⟨n,put τ' o.dst (e.v b),H',D⟩ a' w'→Trans F (Hb++H) w F' H' w' →
      (l.setIfInBounds i true).size=ops.size∧((∃β τ' F Hb,Down ops (fun k=>(l.setIfInBounds i true).getD k false=true)∧(∀k,base.length≤k→(l.setIfInBounds i true).getD k false=false)∧Gh ops (Oq β 0 base) τ (fun k=>(l.setIfInBounds i true).getD k false=true) τ'∧Hb.Perm (Wz β (fun k=>(l.setIfInBounds i true).getD k false) 0 base)∧Dl F ⟨n,τ',Hb++H,D⟩ a' w'∧Trans F₀ H w₀ F (Hb++H) w') ∨
       (∃m,base.length≤m∧m≤ops.size∧(∀k,k<ops.size→((l.setIfInBounds i true).getD k false=true↔k<m))∧wpOpsIn (W r) 0 P ops (post F₀ H w₀ Q) (List.range' m (ops.size - m)) a' w')):=by
     intro a' w' F' b H' hH h3 h4;subst hH;refine⟨hsz',.inl ⟨fun j=>if j=i then b else β j,put τ' o.dst (e.v b),F',e.box b++Hb,hdown',hno',?_,?_,by rw[List.append_assoc];exact h3,by rw[List.append_assoc];exact ht.trans hs₀.heap.bd h4⟩⟩
     ·have hτ2:Gh ops (Oq (fun j=>if j=i then b else β j) 0 base) τ (fun k=>l.getD k false=true) τ':=by
       intro t;refine⟨fun k o' a1 a2 a3=>?_,(hτ t).2⟩;have a4:l.getD k false=true:=a3;have hki:k≠i:=fun e=>by subst e;rw[hnot] at a4;cases a4
       rw[(hτ t).1 k o' a1 a2 a3];rcases Nat.lt_or_ge k base.length with hk | hk
       ·rw[Qg _ hk,Qg _ hk,if_neg hki]
       have:=hno k hk;rw[this] at a4;cases a4
      have hτ3:=hτ2.put (hd _) ho;rw[Qg _ hib,if_pos rfl,hbe] at hτ3;intro t;exact⟨fun k o' a1 a2 a3=>(hτ3 t).1 k o' a1 a2 ((hset k).1 a3),fun hn=>(hτ3 t).2 fun k o' a1 a2 a3=>hn k o' a1 a2 ((hset k).2 a3)⟩
     have h1:=ZL (β:=β) (l:=fun k=>l.getD k false) (i:=i) (b:=b) hnot base 0 (Nat.zero_le _) Ao;rw[Nat.sub_zero,hbe] at h1;refine(hp.append_left _).trans (h1.trans (List.Perm.of_eq ?_));exact O2 base 0 fun j _=>⟨(hset2 j).symm,fun _=>O⟩
    have wants:C3 ops ⟨0,τS ops (Oq β 0 base) τ i,[],[]⟩ o→C3 ops ⟨n,τ',Hb++H,D⟩ o:=by
     intro h;unfold C3 at *;cases hg:o.guard with
     | none=>simp[hg]
     | some jw =>
      obtain⟨j,want⟩:=jw;simp only[hg] at h ⊢;obtain⟨d,h1,h2⟩:=h;exact⟨d,h1,by rw[←h2];exact hguard j want d hg h1⟩
    have yields:C3 ops ⟨n,τ',Hb++H,D⟩ o→DU P o (ev (τS ops (Oq β 0 base) τ i)) (Hb++H) (fun r H'=>match r with | .val v=>∃b,v=e.v b∧H'=e.box b++(Hb++H) | .panic _=>False)→wpOpIn (W r) 0 P ops (post F₀ H w₀ Q) i (fun a' w'=>(l.setIfInBounds i true).size=ops.size∧((∃β τ' F Hb,Down ops (fun k=>(l.setIfInBounds i true).getD k false=true)∧(∀k,base.length≤k→(l.setIfInBounds i true).getD k false=false)∧Gh ops (Oq β 0 base) τ (fun k=>(l.setIfInBounds i true).getD k false=true) τ'∧Hb.Perm (Wz β (fun k=>(l.setIfInBounds i true).getD k false) 0 base)∧Dl F ⟨n,τ',Hb++H,D⟩ a' w'∧Trans F₀ H w₀ F (Hb++H) w') ∨
       (∃m,base.length≤m∧m≤ops.size∧(∀k,k<ops.size→((l.setIfInBounds i true).getD k false=true↔k<m))∧wpOpsIn (W r) 0 P ops (post F₀ H w₀ Q) (List.range' m (ops.size - m)) a' w'))) a w:=by
     intro hwant hop;unfold wpOpIn;simp only[ho,H6 hs hwant,if_true];have hw:=hop r F _ a w hs rfl (fun x hx=>hops x hx) (fun t ht=>hdst i o t ho ht);unfold Oper.wpIn at *;refine⟨hw.1,?_⟩;replace hw:=hw.2;generalize (o.semAt (W r).round a.eval).run P w=rr at *;cases rr with
     | ok nx w' =>
      cases nx<;>simp only[Oper.uponIn] at hw ⊢
      case value u=>obtain⟨v',H'',F',⟨b,h1,h2⟩,h3,h4⟩:=hw;subst h1;exact close h2 h3 h4
      case skip=>obtain⟨v',H'',F',⟨b,h1,h2⟩,h3,h4⟩:=hw;subst h1;exact close h2 h3 h4
      case defer d=>obtain⟨v',H'',F',⟨b,h1,h2⟩,h3,h4⟩:=hw;subst h1;exact close h2 h3 h4
      case enter f args =>
       refine⟨hw.1,hw.2.mono fun e w'' he=>?_⟩;cases e with
       | returned u=>obtain⟨v',H'',F',⟨b,h1,h2⟩,h3,h4⟩:=he;subst h1;exact close h2 h3 h4
       | panicked c=>obtain⟨_,_,_,_,h,_⟩:=he;exact h.elim
       | outgrown=>obtain⟨_,_,_,_,_,_,h,_⟩:=he;exact h.elim
      case row row args=>exact⟨hw.1,hw.2.mono fun u w'' h=>by obtain⟨v',H'',F',⟨b,h1,h2⟩,h3,h4⟩:=h;subst h1;exact close h2 h3 h4⟩
      case round l' f tmps assign body =>
       refine⟨hw.1,hw.2.mono fun e w'' he=>?_⟩;cases e with
       | returned u=>obtain⟨v',H'',F',⟨b,h1,h2⟩,h3,h4⟩:=he;subst h1;exact close h2 h3 h4
       | panicked c=>obtain⟨_,_,_,_,h,_⟩:=he;exact h.elim
       | outgrown=>obtain⟨_,_,_,_,_,_,h,_⟩:=he;exact h.elim
     | halt x w' =>
      cases x<;>simp only[Oper.uponIn] at hw ⊢
      case panic u=>obtain⟨_,_,_,_,h,_⟩:=hw;exact h.elim
    cases e with
    | val v=>exact yields (wants hok.1) ((hok.2 Hb).mono (by
      intro r H' hR;cases r with
      | val v'=>obtain⟨rfl,rfl⟩:=hR;exact⟨(0,0),rfl,rfl⟩
      | panic v'=>exact hR.elim))
    | new cs =>
     refine yields (by unfold C3;rw[hok.1];trivial) ((hok.2 _).mono ?_);intro r H' hR;cases r with
     | val v'=>obtain⟨b,rfl,rfl⟩:=hR;exact⟨(b,0),rfl,rfl⟩
     | panic v'=>exact hR.elim
    | newv sz rows =>
     refine yields (by unfold C3;rw[hok.1];trivial) ((hok.2 _).mono ?_);intro r H' hR;cases r with
     | val v'=>obtain⟨b,c,rfl,rfl⟩:=hR;exact⟨(b,c),rfl,rfl⟩
     | panic v'=>exact hR.elim
    | skip =>
     obtain⟨j,want,d,hg,hj,hb⟩:=hok;have hw:Region.wanted o (yielded ops a.tmps)=false:=KX (S:=⟨n,τ',Hb++H,D⟩) hs hg hj (by show fj (τ' d) want;rw[hguard j want d hg hj];exact hb);unfold wpOpIn;simp only[ho,hw,Bool.false_eq_true,if_false];refine⟨fun _ _=>Aq,close (b:=(0,0)) O ?_ .refl⟩;exact hs.put (fun t ht=>hdst i o t ho ht) ⟨Nat.le_refl _,fun _ _ _=>O,fun _ h _=>h⟩ hs.heap (by simp only[Ey.v,CH,B1,undef];exact⟨[],rfl,rfl⟩)
   -- the first of the rest
   have hpre:∀j,j<i→l.getD j false=true:=by
    intro j hj;have hpi:=SD late hib hlt hj;have:∀{a b},Pred ops a b→b=i→l.getD a false=true:=by
     intro a b hab
     induction hab with
     | base ho' hj=>intro e;subst e;rw[ho] at ho';injection ho' with ho';subst ho';exact hr _ hj
     | trans p1 _ _ ih2=>intro e;exact hdown.pred p1 (ih2 e)
    exact this hpi O
   have hie:i=base.length:=by
    rcases Nat.lt_or_ge base.length i with h | h
    ·have h1:=hpre base.length h;rw[hno base.length (Nat.le_refl _)] at h1;cases h1
    omega
   refine goLate base.length hie (Nat.le_refl _) he (fun k hk=>⟨fun h=>?_,fun h=>hpre k Ao⟩) (conv (fun j hj=>hpre j Ao) hno hτ hp hs ht);rcases Nat.lt_or_ge k base.length with h' | h'
   ·exact h'
   rw[hno k h'] at h;cases h
  have hmi:m≤i:=by
   rcases Nat.lt_or_ge i m with h | h
   ·have:=(hm3 i hlt).2 h;rw[hnot] at this;cases this
   exact h
  have him:i=m:=by
   rcases Nat.lt_or_ge m i with h | h
   ·have hpi:=SD late (by omega:base.length≤i) hlt h;have hdown:∀{a b},Pred ops a b→b=i→l.getD a false=true:=by
     intro a b hab
     induction hab with
     | base ho' hj=>intro e;subst e;rw[ho] at ho';injection ho' with ho';subst ho';exact hr _ hj
     | @trans a k b p1 p2 _ ih2 =>
      intro e;have hk:=ih2 e;have hks:k<ops.size:=by
       rcases Nat.lt_or_ge k ops.size with h | h
       ·exact h
       have:l.getD k false=false:=by
        have:¬k<l.size:=by omega
        simp[this]
       rw[this] at hk;cases hk
      have hkm:=(hm3 k hks).1 hk;have hak:a<k:=Pred.lt (hd fun _=>(0,0)) p1;exact(hm3 a Ao).2 Ao
    have:=(hm3 m Ao).1 (hdown hpi rfl);omega
   omega
  exact goLate m him hm1 hm2 hm3 hw
 ·rintro l a w ⟨hsz,hI⟩ hr;have hall:∀i,i<ops.size→l.getD i false=true:=by
   intro i
   induction i using Nat.strongRecOn with
   | _ i ih =>
    intro hi;cases hq:l.getD i false with
    | true=>rfl
    | false =>
     have ho:ops[i]?=some ops[i]:=Array.getElem?_eq_getElem hi;have:i∈Region.ready .any ops l:=by
      refine mem_ready.2 ⟨?_,ops[i],ho,?_⟩
      ·have:i<l.size:=by omega
       simp[this] at hq ⊢;exact hq
      intro e he hb;have hj:e.on∈EH ops[i]:=by
       simp only[EH,List.mem_map,List.mem_filter];exact⟨e,⟨by simpa using he,hb⟩,rfl⟩
      have hlt:=c0 i _ _ ho hj;exact ih e.on hlt Ao
     rw[hr] at this;cases this
  rcases hI with ⟨β,τ',F,Hb,hdown,hno,hτ,hp,hs,ht⟩ | ⟨m,hm1,hm2,hm3,hw⟩
  ·have hbs:base.length=ops.size:=by
    rcases Nat.lt_or_ge base.length ops.size with h | h
    ·have:=hall base.length h;rw[hno base.length (Nat.le_refl _)] at this;cases this
    omega
   have:=conv (fun j hj=>hall j Ao) hno hτ hp hs ht;rw[hbs,Nat.sub_self] at this;exact this
  have hms:m=ops.size:=by
   rcases Nat.lt_or_ge m ops.size with h | h
   ·have:=(hm3 m h).1 (hall m h);omega
   omega
  rw[hms,Nat.sub_self] at hw;exact hw
 ·refine⟨by simp,.inl ⟨fun _=>(0,0),τ,F₀,[],?_,?_,?_,?_,hs₁,t₀⟩⟩
  ·intro i o j ho hi;by_cases h:i<ops.size<;>simp[h] at hi
  ·intro k _;by_cases h:k<ops.size<;>simp[h]
  ·intro t;refine⟨fun k o ho hk hl=>?_,fun _=>O⟩;by_cases h:k<ops.size<;>simp[h] at hl
  rw[VQ base 0 fun j=>by by_cases h:j<ops.size<;>simp[h]]
 have:=List.length_filter_le (fun b:Bool=> !b) (Array.replicate ops.size false).toList;simp at this ⊢
section
variable {P:Program}{ops:Array Oper}{H₀:List BJ}{k:Nat}{τ:Nat→AV}{r:List Ey}{K:(Nat→AV)→List BJ→Prop}{dst:Option Tmp}{op:Op}{ty:TypeId}{pos:String}{aft:Array Edge}{v:AV}
theorem Dw (ho:ops[k]?=some ⟨dst,op,ty,pos,aft,none⟩) (h:∀Bs,Dp P ⟨dst,op,ty,pos,aft,none⟩ (ev τ) (Bs++H₀) v (Bs++H₀)) (next:EW P ops H₀ (k+1) (put τ dst v) r K):EW P ops H₀ k τ (.val v::r) K :=
 ⟨_,ho,⟨trivial,h⟩,fun _=>next⟩
theorem Xj {cs:List AV}(ho:ops[k]?=some ⟨dst,op,ty,pos,aft,none⟩) (h:∀Bs,DU P ⟨dst,op,ty,pos,aft,none⟩ (ev τ) (Bs++H₀) (Ie cs (Bs++H₀))) (next:∀b,EW P ops H₀ (k+1) (put τ dst (.ptr b 0)) r (fun τ' Hs=>K τ' (.box b cs::Hs))):EW P ops H₀ k τ (.new cs::r) K :=
 ⟨_,ho,⟨rfl,h⟩,fun b=>next b.1⟩
theorem XQ (h:K τ []):EW P ops H₀ k τ [] K:=h
theorem CS {α:Type}{Bs H:List α}{j:Nat}{x:α}(h:H[j]?=some x):(Bs++H)[Bs.length+j]?=some x:=by
 rw[List.getElem?_append_right Ao,Nat.add_sub_cancel_left];exact h
end
def mV (ops:Array Oper) (k:Nat) (ef:WR):List BJ→Prop
 | []=>True
 | ob::r=>YJ ops k ob ef∧mV ops k ef r
section
variable {P:Program}{ops:Array Oper}{n:Nat}{τ₀:Nat→AV}{D:List ES}{Q:C2→Br→Prop}{opn:Nat→Bool}{k:Nat}{τ:Nat→AV}{H Hs:List BJ}{rd:W2}{ef:WR}{effs:List Bool}{fx:List (Nat×Sp)}{dst:Option Tmp}{ty:TypeId}{pos:String}{aft:Array Edge}{v:AV}{c:Call}{f:Operand}{fid:FuncId}{first caps A:List AV}
end
def px (P:Program) (T:TypeId):Bool :=
 match P.underlying T with
 | some (.struct fs)=>match fs.toList with
  | [f,g]=>f.name != "_" &&g.name != "_" &&Nat.beq f.offset 0&&Nat.beq g.offset 1&&(match P.underlying f.type,P.underlying g.type with | some (.int .i64),some .bool=>true | _,_=>false)&& !P.stoodInHeld T&& !P.eqGuardType P.depth T
  | _=>false
 | _=>false
section
variable {P:Program}{dst:Option Tmp}{ty:TypeId}{pos:String}{aft:Array Edge}{g:Option (Nat×Bool)}{ρ:Operand→AV}{H:List BJ}{x y z:Operand}{v:AV}
end
theorem Uj {α:Type}{base T xs:List α}{is:List Nat}(hn:is.Nodup) (h:FY base is xs):(base++T).Perm (xs++(C8 is 0 base++T)):=by
 rw[←List.append_assoc];exact(Da hn h).append_right T
theorem SL {α:Type}{base T xs rest:List α}{is:List Nat}(hn:is.Nodup) (h:FY base is xs) (hd:C8 is 0 base=rest):(base++T).Perm (xs++(rest++T)):=by
 subst hd;exact Uj hn h
theorem LN {P:Program}{fn:Func}{R:ET→List BJ→Prop}{S:Br}{Hs:List BJ}(h:Lb P fn S R [] .ret Hs):∀U:List Nat,Lb P fn S R (U.map .mark) .ret (Hs++U.map .dfr)
 | []=>by simpa using h
 | d::U=>by
  refine⟨Hs.length,by simp,?_⟩;have:(Hs++(d::U).map BJ.dfr).eraseIdx Hs.length=Hs++U.map BJ.dfr:=by
   rw[List.eraseIdx_append_of_length_le (Nat.le_refl _)];simp
  rw[this];exact LN h U
theorem P5 {P:Program}{fn:Func}{R:ET→List BJ→Prop}{n:Nat}{τ:Nat→AV}(U:List Nat) {Hs:List BJ}(h:Lb P fn ⟨n,τ,Hs++U.map .dfr,U.map .mark⟩ R [] .ret Hs):dw P fn R .ret ⟨n,τ,Hs++U.map .dfr,U.map .mark⟩ :=
 LN h U
theorem VG {P:Program}{l d i:Nat}{S:Br}{Q:C2→Br→Prop}{v:AV}{H':List BJ}{L:OV}(H2:List BJ) (h1:H'[i]?=some (.loop l L)) (hs:L.state≠ .busy) (hp:L.pending=none) (he:H'.eraseIdx i=H2) (h:Q .normal ⟨S.n,S.τ,H2,.mark d::S.D⟩):Us P l d S Q (.val v) H':=by
 subst he;exact⟨i,L,h1,hs,by rw[hp];exact h⟩
theorem XV {P:Program}{l d i:Nat}{S:Br}{Q:C2→Br→Prop}{v:AV}{H':List BJ}{L:OV}(H2:List BJ) (h1:H'[i]?=some (.loop l L)) (hs:L.state≠ .busy) (hp:L.pending=some .ret) (he:H'.eraseIdx i=H2) (h:JD P none .ret ⟨S.n,S.τ,H2,.mark d::S.D⟩ Q):Us P l d S Q (.val v) H':=by
 subst he;exact⟨i,L,h1,hs,by rw[hp];exact h⟩
abbrev BV:=Nat×Nat×AV
inductive Ez where
 | val (v:AV)
 | skip
 | new (cs:List AV)
 | newv (sz:Nat) (rows:List (List PV))
 | rel (R:AV→Prop)
def Ez.v (b:BV):Ez→AV
 | .val v=>v
 | .skip=> .tup []
 | .new _=> .ptr b.1 0
 | .newv _ rows=> .vs (some b.1) rows.length b.2.1
 | .rel _=>b.2.2
def Ez.box (b:BV):Ez→List BJ
 | .new cs=>[.box b.1 cs]
 | .newv sz rows=>[.vec (some b.1) sz rows b.2.1]
 | _=>[]
def Ez.ok (b:BV):Ez→Prop
 | .rel R=>R b.2.2
 | _=>True
def bL:List Ez→Prop
 | []=>True
 | .rel R::r=>(∃v,R v)∧bL r
 | _::r=>bL r
def WG (P:Program) (ops:Array Oper) (H₀:List BJ) (o:Oper) (τ:Nat→AV):Ez→Prop
 | .val v=>C3 ops ⟨0,τ,[],[]⟩ o∧∀Bs,Dp P o (ev τ) (Bs++H₀) v (Bs++H₀)
 | .skip=>∃j want d,o.guard=some (j,want)∧(ops[j]?).bind (·.dst)=some d∧fj (τ d) want
 | .new cs=>o.guard=none∧∀Bs,DU P o (ev τ) (Bs++H₀) (Ie cs (Bs++H₀))
 | .newv sz rows=>o.guard=none∧∀Bs,DU P o (ev τ) (Bs++H₀) (MG sz rows (Bs++H₀))
 | .rel R=>o.guard=none∧∀Bs,DU P o (ev τ) (Bs++H₀) (P6 R (Bs++H₀))
def EV (P:Program) (ops:Array Oper) (H₀:List BJ):Nat→(Nat→AV)→List Ez→((Nat→AV)→List BJ→Prop)→Prop
 | _,τ,[],K=>K τ []
 | k,τ,e::r,K=>∃o,ops[k]?=some o∧WG P ops H₀ o τ e∧∀b,e.ok b→EV P ops H₀ (k+1) (put τ o.dst (e.v b)) r (fun τ' Hs=>K τ' (e.box b++Hs))
def Ff (β:Nat→BV):Nat→List Ez→List Sp
 | _,[]=>[]
 | k,e::r=> .free (e.v (β k))::Ff β (k+1) r
def fm (β:Nat→BV):Nat→List Ez→List BJ
 | _,[]=>[]
 | k,e::r=>e.box (β k)++fm β (k+1) r
def W0 (β:Nat→BV) (l:Nat→Bool):Nat→List Ez→List BJ
 | _,[]=>[]
 | k,e::r=>(if l k=true then e.box (β k) else [])++W0 β l (k+1) r
theorem QY (β:Nat→BV):∀(r:List Ez) (k j:Nat),j<r.length→(Ff β k r).getD j .skip= .free ((r.getD j .skip).v (β (k+j)))
 | [],k,j,h=>by simp at h
 | e::r,k,0,h=>by simp[Ff]
 | e::r,k,j+1,h=>by
  have:=QY β r (k+1) j (by simpa using h);simp only[Ff,List.getD_cons_succ];rw[this,show k+1+j=k+(j+1) by omega]
theorem Ys (β:Nat→BV):∀(r:List Ez) (k:Nat),(Ff β k r).length=r.length
 | [],k=>rfl
 | e::r,k=>by simp[Ff,Ys β r (k+1)]
theorem Jk (β:Nat→BV) {r:List Ez}{k j:Nat}(h:r.length≤j):(Ff β k r).getD j .skip= .skip:=by
 rw[List.getD_eq_getElem?_getD,List.getElem?_eq_none (by rw[Ys];exact h)];rfl
theorem T5 (β:Nat→BV) (r:List Ez) (k j:Nat):((Ff β k r).getD j .skip).isEff=false:=by
 rcases Nat.lt_or_ge j r.length with h | h
 ·rw[QY β r k j h];rfl
 rw[Jk β h];rfl
theorem RC (β:Nat→BV) (r:List Ez) (k j:Nat) (ob:List BJ) (v:AV):(Ff β k r).getD j .skip≠ .read ob v:=by
 rcases Nat.lt_or_ge j r.length with h | h
 ·rw[QY β r k j h];simp
 rw[Jk β h];simp
theorem EK (β:Nat→BV) {r:List Ez}{j:Nat}(h:j<r.length):((Ff β 0 r).getD j .skip).val=(r.getD j .skip).v (β j):=by
 rw[QY β r 0 j h,Nat.zero_add];rfl
theorem EV.facts {P:Program}{ops:Array Oper}{H₀:List BJ}{τ:Nat→AV}{base:List Ez}(β:Nat→BV):∀(r:List Ez) (k:Nat) (τk:Nat→AV) (K:(Nat→AV)→List BJ→Prop),base.drop k=r→k+r.length=base.length→τk=τS ops (Ff β 0 base) τ k→EV P ops H₀ k τk r K→(∀j,k≤j→j<base.length→(base.getD j .skip).ok (β j)) →
  (∀j,k≤j→j<base.length→∃o,ops[j]?=some o∧WG P ops H₀ o (τS ops (Ff β 0 base) τ j) (base.getD j .skip))∧K (τS ops (Ff β 0 base) τ base.length) (fm β k r)
 | [],k,τk,K,hd,hk,ht,h,hβ=>by
  simp only[List.length_nil,Nat.add_zero] at hk;subst hk;exact⟨fun j h1 h2=>by omega,by rw[←ht];exact h⟩
 | e::r,k,τk,K,hd,hk,ht,h,hβ=>by
  obtain⟨o,ho,hok,hn⟩:=h;simp only[List.length_cons] at hk;have hb:base.getD k .skip=e:=by
   have:(base.drop k)[0]?=some e:=by rw[hd];rfl
   rw[List.getElem?_drop] at this;rw[List.getD_eq_getElem?_getD,show k=k+0 by omega,this];rfl
  have hd2:base.drop (k+1)=r:=by
   rw[←List.drop_drop,hd];rfl
  obtain⟨h1,h2⟩:=EV.facts (τ:=τ) (base:=base) β r (k+1) _ _ hd2 Ao (by simp only[τS,ho,Option.bind_some];rw[EK β Ao,hb,←ht]) (hn (β k) (by have:=hβ k (Nat.le_refl _) Ao;rwa [hb] at this)) (fun j h1 h2=>hβ j Ao h2);refine⟨fun j hj hl=>?_,h2⟩;by_cases e2:j=k
  ·subst e2;exact⟨o,ho,by rw[hb,←ht];exact hok⟩
  exact h1 j Ao hl
theorem KC {β β':Nat→BV}{l l':Nat→Bool}:∀(r:List Ez) (k:Nat),(∀j,k≤j→l j=l' j∧(l j=true→β j=β' j))→W0 β l k r=W0 β' l' k r
 | [],k,h=>rfl
 | e::r,k,h=>by
  simp only[W0];obtain⟨h1,h2⟩:=h k (Nat.le_refl _);rw[KC r (k+1) fun j hj=>h j Ao,←h1];cases hl:l k
  ·rfl
  rw[h2 hl]
theorem QL {β:Nat→BV}{l:Nat→Bool}{i:Nat}{b:BV}(hi:l i=false):∀(r:List Ez) (k:Nat),k≤i→i<k+r.length→((r.getD (i - k) .skip).box b++W0 β l k r).Perm (W0 (fun j=>if j=i then b else β j) (fun j=>l j||j==i) k r)
 | [],k,h1,h2=>by simp at h2;omega
 | e::r,k,h1,h2=>by
  simp only[W0];by_cases hk:k=i
  ·subst hk;simp only[hi,Bool.false_eq_true,if_false,List.nil_append,Nat.sub_self,List.getD_cons_zero,beq_self_eq_true,Bool.or_true,if_true];rw[KC (β':=fun j=>if j=k then b else β j) (l':=fun j=>l j||j==k) r (k+1) fun j hj=>⟨by simp[show (j==k)=false by simp;omega],fun _=>by rw[if_neg Ao]⟩]
  have hp:=QL (β:=β) hi r (k+1) (b:=b) Ao (by simp only[List.length_cons] at h2;omega);have e1:(e::r).getD (i - k) .skip=r.getD (i - (k+1)) .skip:=by
   rw[show i - k=(i - (k+1))+1 by omega];rfl
  have e2:(if (l k||k==i)=true then e.box (if k=i then b else β k) else [])=(if l k=true then e.box (β k) else []):=by
   rw[if_neg hk];simp[hk]
  rw[e1,e2];refine List.Perm.trans ?_ (hp.append_left _);rw[←List.append_assoc,←List.append_assoc];exact List.perm_append_comm.append_right _
theorem VB {β:Nat→BV}{l:Nat→Bool}:∀(r:List Ez) (k:Nat),(∀j,k≤j→j<k+r.length→l j=true)→W0 β l k r=fm β k r
 | [],k,h=>rfl
 | e::r,k,h=>by
  simp only[W0,fm];rw[if_pos (h k (Nat.le_refl _) Ap),VB r (k+1) fun j h1 h2=>h j Ao (by simp only[List.length_cons];omega)]
theorem OH {β:Nat→BV}{l:Nat→Bool}:∀(r:List Ez) (k:Nat),(∀j,l j=false)→W0 β l k r=[]
 | [],k,h=>rfl
 | e::r,k,h=>by simp only[W0];rw[OH r (k+1) h,h k];rfl
theorem bL.pick:∀(l:List Ez),bL l→∃β:Nat→BV,∀j,j<l.length→(l.getD j .skip).ok (β j)
 | [],_=>⟨fun _=>(0,0,.p .any),fun j h=>by simp at h⟩
 | e::r,h=>by
  have h2:bL r∧∃b,e.ok b:=by
   cases e with
   | rel R=>exact⟨h.2,let ⟨v,hv⟩:=h.1;⟨(0,0,v),hv⟩⟩
   | _=>exact⟨h,(0,0,.p .any),trivial⟩
  obtain⟨β,hβ⟩:=bL.pick r h2.1;obtain⟨b,hb⟩:=h2.2;refine⟨fun j=>match j with | 0=>b | j+1=>β j,fun j hj=>?_⟩;cases j with
  | zero=>exact hb
  | succ j=>exact hβ j (by simpa using hj)
section
variable {P:Program}{ops:Array Oper}{H₀:List BJ}{k:Nat}{τ:Nat→AV}{r:List Ez}{K:(Nat→AV)→List BJ→Prop}{dst:Option Tmp}{op:Op}{ty:TypeId}{pos:String}{aft:Array Edge}{v:AV}
theorem Jz (ho:ops[k]?=some ⟨dst,op,ty,pos,aft,none⟩) (h:∀Bs,Dp P ⟨dst,op,ty,pos,aft,none⟩ (ev τ) (Bs++H₀) v (Bs++H₀)) (next:EV P ops H₀ (k+1) (put τ dst v) r K):EV P ops H₀ k τ (.val v::r) K :=
 ⟨_,ho,⟨trivial,h⟩,fun _ _=>next⟩
theorem eZ {cs:List AV}(ho:ops[k]?=some ⟨dst,op,ty,pos,aft,none⟩) (h:∀Bs,DU P ⟨dst,op,ty,pos,aft,none⟩ (ev τ) (Bs++H₀) (Ie cs (Bs++H₀))) (next:∀b,EV P ops H₀ (k+1) (put τ dst (.ptr b 0)) r (fun τ' Hs=>K τ' (.box b cs::Hs))):EV P ops H₀ k τ (.new cs::r) K :=
 ⟨_,ho,⟨rfl,h⟩,fun b _=>next b.1⟩
theorem kj (h:K τ []):EV P ops H₀ k τ [] K:=h
end
theorem Dl.putW {F:Nat→Prop}{S:Br}{d:Option Nat}{v v':AV}{H:List BJ}{a:Act}{w:World}(h:Dl F (S.put d v H) a w) (hv:Rh v v'):Dl F (S.put d v' H) a w :=
 ⟨h.size,fun t=>by
  have:=h.tmp t;cases d with
  | none=>exact this
  | some d =>
   have h3:CH F w (Abs.put S.τ (some d) v t) (a.tmps.getD t undef):=this;show CH F w (Abs.put S.τ (some d) v' t) (a.tmps.getD t undef);cases hb:Nat.beq t d
   ·have e (x:AV):Abs.put S.τ (some d) x t=S.τ t:=by simp only[Abs.put,hb,cond_false]
    rw[e] at h3 ⊢;exact h3
   have e (x:AV):Abs.put S.τ (some d) x t=x:=by simp only[Abs.put,hb,cond_true]
   rw[e] at h3 ⊢;exact hv _ _ _ h3,h.heap,h.defs⟩
theorem eF {P:Program}{o:Oper}{ρ:Operand→AV}{H H':List BJ}{v:AV}(h:Dp P o ρ H v H'):Dp P o ρ H (norm v) H':=by
 intro r F S a w hs hH hρ hd;have:=h r F S a w hs hH hρ hd;unfold Oper.wpIn at *;refine⟨this.1,?_⟩;replace this:=this.2;generalize (o.semAt (W r).round a.eval).run P w=rr at *;cases rr with
 | ok n w' =>
  cases n<;>simp only[Oper.uponIn] at this ⊢
  case value u=>obtain⟨v1,H1,F1,⟨e1,e2⟩,h2,h3⟩:=this;subst e1;subst e2;exact⟨_,_,F1,⟨rfl,rfl⟩,h2.putW (Df rfl),h3⟩
  case skip=>obtain⟨v1,H1,F1,⟨e1,e2⟩,h2,h3⟩:=this;subst e1;subst e2;exact⟨_,_,F1,⟨rfl,rfl⟩,h2.putW (Df rfl),h3⟩
  case defer d=>obtain⟨v1,H1,F1,⟨e1,e2⟩,h2,h3⟩:=this;subst e1;subst e2;exact⟨_,_,F1,⟨rfl,rfl⟩,h2.putW (Df rfl),h3⟩
  case enter f args =>
   refine⟨this.1,this.2.mono fun e w'' he=>?_⟩;cases e with
   | returned u=>obtain⟨v1,H1,F1,⟨e1,e2⟩,h2,h3⟩:=he;subst e1;subst e2;exact⟨_,_,F1,⟨rfl,rfl⟩,h2.putW (Df rfl),h3⟩
   | panicked c=>obtain⟨_,_,_,_,h,_⟩:=he;exact h.elim
   | outgrown=>obtain⟨_,_,_,_,_,_,h,_⟩:=he;exact h.elim
  case row row args=>exact⟨this.1,this.2.mono fun u w'' he=>by obtain⟨v1,H1,F1,⟨e1,e2⟩,h2,h3⟩:=he;subst e1;subst e2;exact⟨_,_,F1,⟨rfl,rfl⟩,h2.putW (Df rfl),h3⟩⟩
  case round l f tmps assign body =>
   refine⟨this.1,this.2.mono fun e w'' he=>?_⟩;cases e with
   | returned u=>obtain⟨v1,H1,F1,⟨e1,e2⟩,h2,h3⟩:=he;subst e1;subst e2;exact⟨_,_,F1,⟨rfl,rfl⟩,h2.putW (Df rfl),h3⟩
   | panicked c=>obtain⟨_,_,_,_,h,_⟩:=he;exact h.elim
   | outgrown=>obtain⟨_,_,_,_,_,_,h,_⟩:=he;exact h.elim
 | halt x w' =>
  cases x<;>simp only[Oper.uponIn] at this ⊢
  case panic u=>obtain⟨_,_,_,_,h,_⟩:=this;exact h.elim
end Go.Abs
namespace Go.Eu
open Go.Abs
theorem D3 (x:CK):At (Bk x) 0 [I x.kind]:=At.one
theorem DP (x:CK):At (Bk x) 1 [.str x.name]:=At.cons (At.one)
theorem Cq (x:CK):At (Bk x) 2 [I x.params]:=At.cons (At.cons (At.one))
theorem E6 (x:CK):At (Bk x) 3 (BO x.type):=At.cons (At.cons (At.cons (At.front)))
theorem FD (x:CK):At (Bk x) 8 (BO x.value):=At.cons (At.cons (At.cons (At.app (BD _) (At.front))))
theorem Co (x:CK):At (Bk x) 13 [I x.fixed]:=At.cons (At.cons (At.cons (At.app (BD _) (At.app (BD _) (At.one)))))
theorem CB (x:CK):At (Bk x) 14 [.lst (x.ctors.map G1)]:=At.cons (At.cons (At.cons (At.app (BD _) (At.app (BD _) (At.cons (At.one))))))
theorem K6 (x:CK):At (Bk x) 15 (Qw x.recs):=At.cons (At.cons (At.cons (At.app (BD _) (At.app (BD _) (At.cons (At.cons (At.front)))))))
theorem B6 (x:CK):At (Bk x) 22 [.lst (x.funs.map Em)]:=At.cons (At.cons (At.cons (At.app (BD _) (At.app (BD _) (At.cons (At.cons (At.app (KK _) (At.one))))))))
theorem R4 (x:fo):At (Qw x) 0 [I x.params]:=At.one
theorem UB (x:fo):At (Qw x) 1 (BO x.type):=At.cons (At.front)
theorem SY (x:fo):At (Qw x) 6 [.lst (BE x.rules)]:=At.cons (At.app (BD _) (At.one))
theorem Fl (x:Ib):At (G1 x) 0 [.str x.name]:=At.one
theorem FA (x:Ib):At (G1 x) 1 (BO x.type):=At.cons (At.all)
theorem Iy (x:Hi):At (Em x) 0 [.str x.name]:=At.one
theorem I1 (x:Hi):At (Em x) 1 (BO x.type):=At.cons (At.front)
theorem CI (x:Hi):At (Em x) 6 [I x.arity]:=At.cons (At.app (BD _) (At.one))
theorem Dn (x:Hi):At (Em x) 7 (Ct x.tree):=At.cons (At.app (BD _) (At.cons (At.all)))
theorem Gc (x:FJ):At (Ct x) 0 [I x.kind]:=by
 cases x;exact At.one
theorem E9 (x:FJ):At (Ct x) 1 (BO x.body):=by
 cases x;exact At.cons (At.front)
theorem DK (x:FJ):At (Ct x) 6 [I x.var]:=by
 cases x;exact At.cons (At.app (BD _) (At.one))
theorem CG (x:FJ):At (Ct x) 7 [.lst (LJ x.branches)]:=by
 cases x;exact At.cons (At.app (BD _) (At.cons (At.one)))
theorem GZ (x:GD):At (Gw x) 0 [.str x.ctor]:=by
 cases x;exact At.one
theorem GM (x:GD):At (Gw x) 1 [.bool x.absurd]:=by
 cases x;exact At.cons (At.one)
theorem Ft (x:GD):At (Gw x) 2 (Ct x.tree):=by
 cases x;exact At.cons (At.cons (At.all))
theorem DB (x:GV):At (DN x) 0 [I x.kind]:=At.one
theorem DR (x:GV):At (DN x) 1 [I x.decl]:=At.cons (At.one)
theorem Dq (x:GV):At (DN x) 2 [I x.item]:=At.cons (At.cons (At.one))
theorem Hd (x:GV):At (DN x) 3 [I x.params]:=At.cons (At.cons (At.cons (At.one)))
theorem Jq (x:Pg):At (GL x) 0 [.lst (x.env.map Bk)]:=At.one
theorem Wk (x:Pg):At (GL x) 1 [.lst (x.own.map Gi)]:=At.cons (At.one)
theorem Tp (x:Pg):At (GL x) 2 (Bk x.d):=At.cons (At.cons (At.all))
theorem De (x:CK):At (Bk x) 15 [I x.recs.params]:=(K6 x).sub (R4 _) (by simp[KK])
theorem FC (x:CK):At (Bk x) 16 (BO x.recs.type):=(K6 x).sub (UB _) (by simp[KK])
theorem Ck (x:CK):At (Bk x) 21 [.lst (BE x.recs.rules)]:=(K6 x).sub (SY _) (by simp[KK])
theorem _root_.Go.Ae {α:Prop}(h:α:=by simp[Cl]):α:=h
theorem Pa (x:Pg):At (GL x) 4 [I x.d.params]:=(Tp x).sub (Cq _) Ae
theorem Hq.body:∀{t:FJ},Hq t→US t.body
 | .mk _ _ _ _,h=>h.1
theorem Hq.bl:∀{t:FJ},Hq t→t.branches.length<2000000
 | .mk _ _ _ _,h=>h.2.1
theorem Hq.bs:∀{t:FJ},Hq t→M8 t.branches
 | .mk _ _ _ _,h=>h.2.2
theorem R6.tr:∀{b:GD},R6 b→Hq b.tree
 | .mk _ _ _,h=>h.2
theorem Rj:∀{t:FJ}{i:Nat}{b:GD},t.branches[i]?=some b→LO b.tree<LO t
 | .mk _ _ _ l,i,.mk c a t',h=>by
  have:=To (l:=l) h;simp only[fc] at this;simp only[LO,GD.tree];omega
theorem PE:∀t:FJ,1≤LO t
 | .mk _ _ _ _=>by simp only[LO];omega
section
variable {f:Nat→Option (Nat×Nat)}{k a i p:Int}{t:Tm}
theorem dv (h1:f 1=some (1,1)) (h3:f 3=some (3,1)) (h4:f 4=some (4,5)):Fh f [.p (I 0),.p (I 0),.p (I 0),.p (I 0),.p (I 0),.p (I 0),.p (.str ⟨#[]⟩),.p .nils,.p .nils] [(1,.p (I a)),(3,.p (I p)),(4,TV t)]=some ((DN ⟨0,a,0,p,t⟩).map .p):=by
 obtain⟨tk,ti,tn,tl,ts⟩:=t;simp[Fh,h1,h3,h4,Ej,splice,BO,DN]
theorem ZH (h0:f 0=some (0,1)) (h1:f 1=some (1,1)) (h3:f 3=some (3,1)) (h4:f 4=some (4,5)):Fh f [.p (I 0),.p (I 0),.p (I 0),.p (I 0),.p (I 0),.p (I 0),.p (.str ⟨#[]⟩),.p .nils,.p .nils] [(0,.p (I k)),(1,.p (I a)),(3,.p (I p)),(4,TV t)]=some ((DN ⟨k,a,0,p,t⟩).map .p):=by
 obtain⟨tk,ti,tn,tl,ts⟩:=t;simp[Fh,h0,h1,h3,h4,Ej,splice,BO,DN]
theorem OK (h0:f 0=some (0,1)) (h1:f 1=some (1,1)) (h2:f 2=some (2,1)) (h3:f 3=some (3,1)) (h4:f 4=some (4,5)):Fh f [.p (I 0),.p (I 0),.p (I 0),.p (I 0),.p (I 0),.p (I 0),.p (.str ⟨#[]⟩),.p .nils,.p .nils] [(0,.p (I k)),(1,.p (I a)),(2,.p (I i)),(3,.p (I p)),(4,TV t)]=some ((DN ⟨k,a,i,p,t⟩).map .p):=by
 obtain⟨tk,ti,tn,tl,ts⟩:=t;simp[Fh,h0,h1,h2,h3,h4,Ej,splice,BO,DN]
theorem mw {c0:AV}{r:List AV}{ds:List CK}{d:CK}(h0:f 0=some (0,1)) (h2:f 2=some (2,23)) (hr:r.length=23):Fh f (c0:: .p .nils::r) [(0,.p (.lst (ds.map Bk))),(2,.agg ((Bk d).map .p))]=some (.p (.lst (ds.map Bk)):: .p .nils::(Bk d).map .p):=by
 simp[Fh,h0,h2,Ej,Cl,hr,Pd,splice]
end
theorem dG (ds:List CK) (d:CK):norm (.agg (.p (.lst (ds.map Bk)):: .p .nils::(Bk d).map .p))= .agg ((GL ⟨ds,[],d⟩).map .p):=by
 have h:((Bk d).map AV.p).map dn=(Bk d).map .p:=by
  refine eE ?_;obtain⟨k,n,p,⟨_,_,_,_,_⟩,⟨_,_,_,_,_⟩,f,c,⟨_,⟨_,_,_,_,_⟩,_⟩,u⟩:=d;simp[Bk,BO,Qw]
 show AV.agg (dn _::dn _::((Bk d).map AV.p).map dn)=_;rw[h];rfl
theorem eA {P:Program}{dst:Option Tmp}{ty:TypeId}{pos:String}{aft:Array Edge}{g:Option (Nat×Bool)}{ρ:Operand→AV}{H:List BJ}{T:TypeId}{parts:Array (Nat×Operand)}{lay:List (Nat×Nat)}{z:Value}{ds:List CK}{d:CK}(hT:fieldsOf P T=some lay) (hz:zeroOf P T=some z)
  (hc:Fh (lay[·]?) (z.cells.toList.map Gv) (parts.toList.map fun p=>(p.1,ρ p.2))=some (.p (.lst (ds.map Bk)):: .p .nils::(Bk d).map .p)):Dp P ⟨dst,.build T parts,ty,pos,aft,g⟩ ρ H (.agg ((GL ⟨ds,[],d⟩).map .p)) H:=by
 rw[←dG];exact eF (CO hT hz hc)
theorem Z5 {d:CK}(h:Nn d) {i:Nat}{x:ByteArray}(hx:(C6 d)[i]?=some x):x.size<Dd:=by
 have hm:=List.mem_of_getElem? hx;have hr:=bE d.name;have hn:=h.nm;unfold C6 at hm;simp only[Dd];split at hm
 ·simp at hm;subst hm;omega
 split at hm
 ·simp only[List.mem_append,List.mem_cons,List.mem_map,List.not_mem_nil,or_false] at hm;rcases hm with (rfl | ⟨c,hc,rfl⟩) | rfl
  ·omega
  ·have:=(h.cs c hc).nm;omega
  omega
 split at hm
 ·obtain⟨f,hf,rfl⟩:=List.mem_map.1 hm;have:=(h.fs f hf).nm;omega
 simp at hm
theorem Zr {d:CK}(h:d.kind=3):1≤(C6 d).length:=by
 unfold C6;rw[if_neg Ao,if_pos h];simp
end Go.Eu
namespace Go.Eu
open Go.Abs Go.RowKit Go.ChangeShapes Go.ChangeAt Go.WideShapes
structure aS (H:Type) where
 b:DataW H→Nat
 a:List (DataW H)→Nat
 str:∀s,b (.lit (.string s))=s.length+1
 slice:∀e s,b (.slice e s)=a e+a s+1
 agg:∀p,b (.agg p)=a p+1
 nil:a []=0
 cons:∀d r,a (d::r)=b d+a r
 pos:∀d,1≤b d
namespace aS
variable {H:Type}(K:aS H)
theorem mem {l:List (DataW H)}{i:Nat}{d:DataW H}(h:l[i]?=some d):K.b d≤K.a l:=by
 induction l generalizing i with
 | nil=>simp at h
 | cons x r ih =>
  rw[K.cons];cases i with
  | zero=>simp at h;subst h;omega
  | succ i=>have:=ih (by simpa using h);omega
theorem mem2 {l:List (DataW H)}{i:Nat}{d:DataW H}(h:l[i]?=some d):K.b d+l.length≤K.a l+1:=by
 have len:∀l:List (DataW H),l.length≤K.a l:=by
  intro l
  induction l with
  | nil=>simp
  | cons x r ih=>rw[K.cons];have:=K.pos x;simp only[List.length_cons];omega
 induction l generalizing i with
 | nil=>simp at h
 | cons x r ih =>
  rw[K.cons];simp only[List.length_cons];cases i with
  | zero=>simp at h;subst h;have:=len r;omega
  | succ i=>have:=ih (by simpa using h);have:=K.pos x;omega
theorem drop1 {l:List (DataW H)}{i:Nat}{d:DataW H}(h:l[i]?=some d):K.a (l.drop i)=K.b d+K.a (l.drop (i+1)):=by
 induction l generalizing i with
 | nil=>simp at h
 | cons x r ih =>
  cases i with
  | zero=>simp at h;subst h;simp[K.cons]
  | succ i=>simpa using ih (by simpa using h)
end aS
def Uq {α:Type}(M:α→Nat):List α→Nat
 | []=>0
 | a::l=>M a+Uq M l
section
variable {H:Type}{enc:TypeId×Value→H}{P:Program}{w:World}{base:Nat}{sp:Nat→Bool}{hd:Bool}{n:Nat}(K:aS H)
theorem Fi {α:Type}{e t C:Nat}(ut:P.underlying t=some (.slice e)) (hC:P.cellsOf e=C) (hC1:1≤C) (f:α→List PV) (Q:α→Prop) (M:α→Nat) {B:Nat}
  (he:∀m cs y,m<n→DataW.trod enc P w base sp hd m e cs=some y→K.b y.1≤B→∃a,CM w (f a) cs∧Q a∧M a≤K.b y.1) {cs:List Value} {y:DataW H×List MemPlace} (h:DataW.trod enc P w base sp hd n t cs=some y) (hB:K.b y.1≤B) :
  ∃l:List α,l.length≤K.b y.1∧Uq M l+1≤K.b y.1∧(∀a∈l,Q a)∧∃v,cs=[v]∧CN F0 w (.lst (l.map f)) v:=by
 rcases DataW.trod_slice ut h with ⟨rfl,rfl⟩ | ⟨a,len,cap,elems,rest,m,rfl,rfl,rfl,hb,hl,hc,hel,hget,_,_⟩
 ·exact⟨[],by simp,by have:=K.pos DataW.nil;simpa [Uq] using this,fun a ha=>by simp at ha,_,rfl,by simp only[CN];exact .inl ⟨rfl,none,0,rfl⟩⟩
 rw[hC] at hget;simp only[K.slice] at hB ⊢;have hml:maxLen<wide:=by decide
 rcases Nat.eq_zero_or_pos len with h0 | h0
 ·subst h0;exact⟨[],by simp,by simp[Uq],fun a ha=>by simp at ha,_,rfl,by simp only[CN];exact .inl ⟨rfl,some a,cap,rfl⟩⟩
 have hone:∀i,i<len→∃ci y,w.cells? base (a.add (i*C)) C=some ci∧DataW.trod enc P w base sp hd m e ci=some y∧(elems.map (·.1))[i]?=some y.1:=fun i hi=>by
  have:=hget i hi;rw[List.getElem?_eq_getElem Ao] at this;obtain⟨ci,h1,h2⟩:=Option.bind_eq_some_iff.1 this;exact⟨ci,_,h1,h2,by simp[List.getElem?_eq_getElem (show i<elems.length by omega)]⟩
 obtain⟨c0,y0,hc0,_⟩:=hone 0 h0;obtain⟨hl0,hg0⟩:=MP hc0;have hcell:∃v,w.cell? a=some v:=by
  have:=hg0 0 Ao;rw[Nat.zero_mul,Addr.add,if_pos rfl,Addr.add,if_pos rfl] at this;rw[List.getElem?_eq_getElem Ao] at this;exact⟨_,this⟩
 obtain⟨v0,hv0⟩:=hcell;obtain⟨blk,off,spot⟩:=a;have hspot:spot=none:=by
  unfold World.cell? at hv0;simp only at hv0;split at hv0
  ·cases spot with
   | none=>rfl
   | some s=>simp at hv0
  cases hv0
 subst hspot;have hblk:blk<w.heap.size:=by
  unfold World.cell? at hv0;simp only at hv0;split at hv0
  ·rename_i hh;exact(Array.getElem?_eq_some_iff.1 hh).1
  cases hv0
 have hadd:∀k,(⟨blk,off,none⟩:Addr).add k=⟨blk,off+k,none⟩:=fun k=>by
  unfold Addr.add;split
  ·rename_i e;subst e;rfl
  rfl
 have hadd2:∀o k,(⟨blk,o,none⟩:Addr).add k=⟨blk,o+k,none⟩:=fun o k=>by
  unfold Addr.add;split
  ·rename_i e;subst e;rfl
  rfl
 have hrows:∀k,k≤len→∃l:List α,l.length=k∧k≤K.a ((elems.map (·.1)).drop (len - k))∧Uq M l≤K.a ((elems.map (·.1)).drop (len - k))∧(∀x∈l,Q x)∧B2 F0 w blk C (off+(len - k)*C) (l.map f):=by
  intro k
  induction k with
  | zero=>exact fun _=>⟨[],rfl,by omega,by simp[Uq],fun a ha=>by simp at ha,by simp[B2]⟩
  | succ k ih =>
   intro hk;obtain⟨l,h1,h5,h6,h2,h3⟩:=ih Ao;obtain⟨ci,y,hci,ht,hy⟩:=hone (len - (k+1)) Ao;obtain⟨g1,g2⟩:=MP hci;have hd1:=K.drop1 hy;rw[show len - (k+1)+1=len - k by omega] at hd1;obtain⟨x,hx,hq,hM⟩:=he m ci y Ao ht (by have:=K.mem hy;omega);have hp:=K.pos y.1;refine⟨x::l,by simp[h1],by omega,by rw[Uq];omega,fun z hz=>?_,?_⟩
   ·rcases List.mem_cons.1 hz with rfl | hz
    ·exact hq
    exact h2 z hz
   refine⟨by rw[hx.length,g1],PX _ ci _ hx fun j hj=>?_,?_⟩
   ·have:=g2 j Ao;rw[hadd,hadd2] at this;exact this
   rw[show off+(len - (k+1))*C+C=off+(len - k)*C by rw[Nat.add_assoc,←Nat.succ_mul];congr 2;omega];exact h3
 obtain⟨l,h1,h5,h6,h2,h3⟩:=hrows len (Nat.le_refl _);rw[Nat.sub_self,List.drop_zero] at h5 h6;rw[Nat.sub_self,Nat.zero_mul,Nat.add_zero] at h3;refine⟨l,by omega,by omega,h2,_,rfl,?_⟩;simp only[CN];exact .inr ⟨blk,off,cap,C,by rw[List.length_map,h1],fun h=>h,hblk,by rw[List.length_map];omega,h3⟩
theorem IM {t:TypeId}{l:List (Nat×Nat)}(hf:Mn P t=some l) {cs:List Value}{y:DataW H×List MemPlace}(h:DataW.trod enc P w base sp hd n t cs=some y) :
  ∃m,n=m+1∧cs.length=P.cellsOf t∧∀(i:Nat) (p:Nat×Nat),l[i]?=some p→∃z,DataW.trod enc P w base sp hd m p.1 ((cs.drop p.2).take (P.cellsOf p.1))=some z∧K.b z.1+l.length≤K.b y.1:=by
 unfold Mn at hf;split at hf
 ·rename_i fs hu;injection hf with hf;subst hf;obtain⟨xs,m,h1,rfl,h2,h3,h4⟩:=DataW.trod_struct hu h;refine⟨m,h1,h2,fun i p hp=>?_⟩;rw[List.getElem?_map] at hp;obtain⟨fl,hfl,rfl⟩:=Option.map_eq_some_iff.1 hp;have hi:fs[i]?=some fl:=by simpa using hfl
  have:=h4 i fl hi;have hlt:i<xs.length:=by rw[h3];exact(Array.getElem?_eq_some_iff.1 hi).1
  rw[List.getElem?_eq_getElem hlt] at this;refine⟨_,this,?_⟩;rw[K.agg];have:=K.mem2 (l:=xs.map (·.1)) (i:=i) (d:=xs[i].1) (by simp[List.getElem?_eq_getElem hlt]);simp only[List.length_map,Array.length_toList] at this ⊢;omega
 cases hf
theorem CM.cut {a b:List PV}{cs:List Value}{o k:Nat}(h:CM w a ((cs.drop o).take k)) (h':CM w b (cs.drop (o+k))):CM w (a++b) (cs.drop o):=by
 rw[←List.take_append_drop k (cs.drop o),List.drop_drop];exact CM.append h h'
theorem CM.end {cs:List Value}{k:Nat}(h:cs.length=k):CM w [] (cs.drop k):=by
 rw[List.drop_eq_nil_of_le Ao];rfl
end
end Go.Eu
namespace Go.Eu
open Go.Abs Go.RowKit Go.ChangeShapes Go.ChangeAt Go.WideShapes
theorem Pt:∀l:List Tm,Uq (fun t=>5*size t) l=5*Bb l
 | []=>rfl
 | t::l=>by rw[Uq,Bb,Pt l];omega
structure Um (P:Program) (tI tB tS tT tTs tC tCs tR tTr tBr tBrs tF tFs tD tDs:TypeId):Prop where
 uB:P.underlying tB=some .bool
 uCs:P.underlying tCs=some (.slice tC)
 uBrs:P.underlying tBrs=some (.slice tBr)
 uFs:P.underlying tFs=some (.slice tF)
 uDs:P.underlying tDs=some (.slice tD)
 fC:Mn P tC=some [(tS,0),(tT,1)]
 fR:Mn P tR=some [(tI,0),(tT,1),(tTs,6)]
 fTr:Mn P tTr=some [(tI,0),(tT,1),(tI,6),(tBrs,7)]
 fBr:Mn P tBr=some [(tS,0),(tB,1),(tTr,2)]
 fF:Mn P tF=some [(tS,0),(tT,1),(tI,6),(tTr,7)]
 fD:Mn P tD=some [(tI,0),(tS,1),(tI,2),(tT,3),(tT,8),(tI,13),(tCs,14),(tR,15),(tFs,22)]
 cB:P.cellsOf tB=1
 cCs:P.cellsOf tCs=1
 cBrs:P.cellsOf tBrs=1
 cFs:P.cellsOf tFs=1
 cDs:P.cellsOf tDs=1
 cC:P.cellsOf tC=6
 cR:P.cellsOf tR=7
 cTr:P.cellsOf tTr=8
 cBr:P.cellsOf tBr=10
 cF:P.cellsOf tF=15
 cD:P.cellsOf tD=23
section
variable {H:Type}{enc:TypeId×Value→H}{P:Program}{w:World}{base:Nat}{sp:Nat→Bool}{hd:Bool}{tI tB tS tV tVs tL tLs tT tTs tC tCs tR tTr tBr tBrs tF tFs tD tDs:TypeId}(K:aS H)
theorem Gr (E:G3 P tI tS tV tVs tL tLs tT tTs) {n:Nat}{cs:List Value}{y:DataW H×List MemPlace}(h:DataW.trod enc P w base sp hd n tI cs=some y):∃a:Int,CM w [I a] cs∧I2 a:=by
 obtain⟨a,rfl,_,fa⟩:=DataW.trod_int E.uI h;exact⟨a,CM.one (by simp[CN]),PR fa⟩
theorem L7 (E:G3 P tI tS tV tVs tL tLs tT tTs) {n:Nat}{cs:List Value}{y:DataW H×List MemPlace}(h:DataW.trod enc P w base sp hd n tS cs=some y):∃s:ByteArray,CM w [.str s] cs∧s.size+1≤K.b y.1:=by
 obtain⟨s,rfl,rfl,_⟩:=DataW.trod_string E.uS h;refine⟨s,CM.one (by simp[CN]),?_⟩;rw[K.str];exact Nat.le_refl _
theorem ah (D:Um P tI tB tS tT tTs tC tCs tR tTr tBr tBrs tF tFs tD tDs) {n:Nat}{cs:List Value}{y:DataW H×List MemPlace}(h:DataW.trod enc P w base sp hd n tB cs=some y):∃b:Bool,CM w [.bool b] cs:=by
 obtain⟨b,rfl,_⟩:=DataW.trod_bool D.uB h;exact⟨b,CM.one (by simp[CN])⟩
theorem iX (E:G3 P tI tS tV tVs tL tLs tT tTs) {n:Nat}{cs:List Value}{y:DataW H×List MemPlace}(h:DataW.trod enc P w base sp hd n tL cs=some y) (hB:K.b y.1≤1048576):∃v:CZ,CM w (B0 v) cs∧M4 v:=by
 obtain⟨m,rfl,hl,hg⟩:=IM K E.fL h;rw[E.cL] at hl;obtain⟨z0,h0,b0⟩:=hg 0 _ rfl;obtain⟨z1,h1,b1⟩:=hg 1 _ rfl;simp only[E.cI,E.cVs] at h0 h1;obtain⟨a,ha,ra⟩:=Gr E h0;obtain⟨l,g1,_,g2,v,hv,g3⟩:=Fi K E.uVs E.cV An D1 (fun v=>I2 v.index∧I2 v.plus) (fun _=>1) (B:=1048576) (fun m cs y _ h _=>by obtain⟨v,q1,q2⟩:=bg E h;exact⟨v,q1,q2,K.pos _⟩) h1 Ao;refine⟨⟨a,l⟩,?_,⟨by simp only[Dd];omega,ra,g2⟩⟩;have:=CM.cut (o:=0) ha (CM.cut (o:=1) (a:=[.lst (l.map D1)]) (k:=1) (by rw[hv];exact CM.one g3) (CM.end hl));simpa [B0] using this
theorem gC (E:G3 P tI tS tV tVs tL tLs tT tTs):∀(n:Nat) (cs:List Value) (y:DataW H×List MemPlace),DataW.trod enc P w base sp hd n tT cs=some y→K.b y.1≤1048576→∃t:Tm,CM w (BO t) cs∧Nd t∧5*size t≤K.b y.1:=by
 intro n
 induction n using Nat.strongRecOn with
 | ind n ih =>
  intro cs y h hB;obtain⟨m,rfl,hl,hg⟩:=IM K E.fT h;rw[E.cT] at hl;obtain⟨z0,h0,b0⟩:=hg 0 _ rfl;obtain⟨z1,h1,b1⟩:=hg 1 _ rfl;obtain⟨z2,h2,b2⟩:=hg 2 _ rfl;obtain⟨z3,h3,b3⟩:=hg 3 _ rfl;obtain⟨z4,h4,b4⟩:=hg 4 _ rfl;simp only[E.cI,E.cS,E.cLs,E.cTs] at h0 h1 h2 h3 h4;obtain⟨a,ha,ra⟩:=Gr E h0;obtain⟨b,hb,rb⟩:=Gr E h1;obtain⟨s,hs,ws⟩:=L7 K E h2;obtain⟨l,g1,_,g2,v,hv,g3⟩:=Fi K E.uLs E.cL An B0 M4 (fun _=>1) (B:=1048576) (fun m cs y _ h hB=>by obtain⟨v,q1,q2⟩:=iX K E h hB;exact⟨v,q1,q2,K.pos _⟩) h3 Ao;obtain⟨ks,k1,k4,k2,u,hu,k3⟩:=Fi K E.uTs E.cT An BO Nd (fun t=>5*size t) (B:=1048576) (fun m' cs y hm h hB=>ih m' Ao cs y h hB) h4 Ao;refine⟨.mk a b s l ks,?_,⟨by simp only[Dd];omega,by simp only[Dd];omega,g2,by simp only[Dd];omega,X8 k2,ra,rb⟩,by rw[Pt] at k4;simp only[List.length_cons,List.length_nil] at b4;simp only[size];omega⟩;have:=CM.cut (o:=0) ha (CM.cut (o:=1) hb (CM.cut (o:=2) hs (CM.cut (o:=3) (a:=[.lst (l.map B0)]) (k:=1) (by rw[hv];exact CM.one g3) (CM.cut (o:=4) (a:=[.lst (BE ks)]) (k:=1) (by rw[hu,EU];exact CM.one k3) (CM.end hl)))));simpa [BO] using this
theorem JE (E:G3 P tI tS tV tVs tL tLs tT tTs) {n:Nat}{cs:List Value}{y:DataW H×List MemPlace}(h:DataW.trod enc P w base sp hd n tT cs=some y) (hB:K.b y.1≤1048576):∃t:Tm,CM w (BO t) cs∧US t:=by
 obtain⟨t,h1,h2,h3⟩:=gC K E n cs y h hB;exact⟨t,h1,h2,by omega⟩
theorem eR (E:G3 P tI tS tV tVs tL tLs tT tTs) {n:Nat}{cs:List Value}{y:DataW H×List MemPlace}(h:DataW.trod enc P w base sp hd n tTs cs=some y) (hB:K.b y.1≤1048576):∃l:List Tm,l.length<2000000∧(∀t∈l,US t)∧CM w [.lst (BE l)] cs:=by
 obtain⟨l,g1,_,g2,v,rfl,g3⟩:=Fi K E.uTs E.cT An BO US (fun _=>1) (B:=1048576) (fun m cs y _ h hB=>by obtain⟨v,q1,q2⟩:=JE K E h hB;exact⟨v,q1,q2,K.pos _⟩) h hB;exact⟨l,by omega,g2,CM.one (by rw[EU];exact g3)⟩
variable (D:Um P tI tB tS tT tTs tC tCs tR tTr tBr tBrs tF tFs tD tDs) (E:G3 P tI tS tV tVs tL tLs tT tTs)
include D E
theorem il {n:Nat}{cs:List Value}{y:DataW H×List MemPlace}(h:DataW.trod enc P w base sp hd n tC cs=some y) (hB:K.b y.1≤1048576):∃c:Ib,CM w (G1 c) cs∧bV c:=by
 obtain⟨m,rfl,hl,hg⟩:=IM K D.fC h;rw[D.cC] at hl;obtain⟨z0,h0,b0⟩:=hg 0 _ rfl;obtain⟨z1,h1,b1⟩:=hg 1 _ rfl;simp only[E.cS,E.cT] at h0 h1;obtain⟨s,hs,ws⟩:=L7 K E h0;obtain⟨t,ht,wt⟩:=JE K E h1 Ao;refine⟨⟨s,t⟩,?_,⟨by simp only;omega,wt⟩⟩;have:=CM.cut (o:=0) hs (CM.cut (o:=1) ht (CM.end hl));simpa [G1] using this
theorem gj {n:Nat}{cs:List Value}{y:DataW H×List MemPlace}(h:DataW.trod enc P w base sp hd n tR cs=some y) (hB:K.b y.1≤1048576):∃r:fo,CM w (Qw r) cs∧US r.type∧r.rules.length<2000000∧∀t∈r.rules,US t:=by
 obtain⟨m,rfl,hl,hg⟩:=IM K D.fR h;rw[D.cR] at hl;obtain⟨z0,h0,b0⟩:=hg 0 _ rfl;obtain⟨z1,h1,b1⟩:=hg 1 _ rfl;obtain⟨z2,h2,b2⟩:=hg 2 _ rfl;simp only[E.cI,E.cT,E.cTs] at h0 h1 h2;obtain⟨a,ha,_⟩:=Gr E h0;obtain⟨t,ht,wt⟩:=JE K E h1 Ao;obtain⟨l,l1,l2,l3⟩:=eR K E h2 Ao;refine⟨⟨a,t,l⟩,?_,wt,l1,l2⟩;have:=CM.cut (o:=0) ha (CM.cut (o:=1) ht (CM.cut (o:=6) l3 (CM.end hl)));simpa [Qw] using this
theorem dC:∀(n:Nat) (cs:List Value) (y:DataW H×List MemPlace),DataW.trod enc P w base sp hd n tTr cs=some y→K.b y.1≤1048576→∃t:FJ,CM w (Ct t) cs∧Hq t:=by
 intro n
 induction n using Nat.strongRecOn with
 | ind n ih =>
  intro cs y h hB;obtain⟨m,rfl,hl,hg⟩:=IM K D.fTr h;rw[D.cTr] at hl;obtain⟨z0,h0,b0⟩:=hg 0 _ rfl;obtain⟨z1,h1,b1⟩:=hg 1 _ rfl;obtain⟨z2,h2,b2⟩:=hg 2 _ rfl;obtain⟨z3,h3,b3⟩:=hg 3 _ rfl;simp only[E.cI,E.cT,D.cBrs] at h0 h1 h2 h3;obtain⟨a,ha,_⟩:=Gr E h0;obtain⟨t,ht,wt⟩:=JE K E h1 Ao;obtain⟨b,hb,_⟩:=Gr E h2;obtain⟨l,g1,_,g2,v,hv,g3⟩:=Fi K D.uBrs D.cBr An Gw R6 (fun _=>1) (B:=1048576) (fun m' cs y hm h hB=>by
   obtain⟨m2,rfl,hl,hg⟩:=IM K D.fBr h;rw[D.cBr] at hl;obtain⟨z0,h0,b0⟩:=hg 0 _ rfl;obtain⟨z1,h1,b1⟩:=hg 1 _ rfl;obtain⟨z2,h2,b2⟩:=hg 2 _ rfl;simp only[E.cS,D.cB,D.cTr] at h0 h1 h2;obtain⟨s,hs,ws⟩:=L7 K E h0;obtain⟨b,hb⟩:=ah D h1;obtain⟨r,hr,wr⟩:=ih m2 Ao _ _ h2 Ao;refine⟨.mk s b r,?_,⟨by omega,wr⟩,K.pos _⟩;have:=CM.cut (o:=0) hs (CM.cut (o:=1) hb (CM.cut (o:=2) hr (CM.end hl)));simpa [Gw] using this) h3 Ao
  have hbs:∀{l:List GD},(∀b∈l,R6 b)→M8 l:=by
   intro l
   induction l with
   | nil=>exact fun _=>trivial
   | cons b l ih2=>exact fun h=>⟨h b Ap,ih2 fun c hc=>h c (by simp[hc])⟩
  refine⟨.mk a t b l,?_,⟨wt,by omega,hbs g2⟩⟩;have:=CM.cut (o:=0) ha (CM.cut (o:=1) ht (CM.cut (o:=6) hb (CM.cut (o:=7) (a:=[.lst (LJ l)]) (k:=1) (by rw[hv,MR];exact CM.one g3) (CM.end hl))));simpa [Ct] using this
theorem jU {n:Nat}{cs:List Value}{y:DataW H×List MemPlace}(h:DataW.trod enc P w base sp hd n tF cs=some y) (hB:K.b y.1≤1048576):∃f:Hi,CM w (Em f) cs∧bu f:=by
 obtain⟨m,rfl,hl,hg⟩:=IM K D.fF h;rw[D.cF] at hl;obtain⟨z0,h0,b0⟩:=hg 0 _ rfl;obtain⟨z1,h1,b1⟩:=hg 1 _ rfl;obtain⟨z2,h2,b2⟩:=hg 2 _ rfl;obtain⟨z3,h3,b3⟩:=hg 3 _ rfl;simp only[E.cS,E.cT,E.cI,D.cTr] at h0 h1 h2 h3;obtain⟨s,hs,ws⟩:=L7 K E h0;obtain⟨t,ht,wt⟩:=JE K E h1 Ao;obtain⟨a,ha,_⟩:=Gr E h2;obtain⟨r,hr,wr⟩:=dC K D E _ _ _ h3 Ao;refine⟨⟨s,t,a,r⟩,?_,⟨by simp only;omega,wt,wr⟩⟩;have:=CM.cut (o:=0) hs (CM.cut (o:=1) ht (CM.cut (o:=6) ha (CM.cut (o:=7) hr (CM.end hl))));simpa [Em] using this
theorem iB {n:Nat}{cs:List Value}{y:DataW H×List MemPlace}(h:DataW.trod enc P w base sp hd n tD cs=some y) (hB:K.b y.1≤1048576):∃d:CK,CM w (Bk d) cs∧Nn d:=by
 obtain⟨m,rfl,hl,hg⟩:=IM K D.fD h;rw[D.cD] at hl;obtain⟨z0,h0,b0⟩:=hg 0 _ rfl;obtain⟨z1,h1,b1⟩:=hg 1 _ rfl;obtain⟨z2,h2,b2⟩:=hg 2 _ rfl;obtain⟨z3,h3,b3⟩:=hg 3 _ rfl;obtain⟨z4,h4,b4⟩:=hg 4 _ rfl;obtain⟨z5,h5,b5⟩:=hg 5 _ rfl;obtain⟨z6,h6,b6⟩:=hg 6 _ rfl;obtain⟨z7,h7,b7⟩:=hg 7 _ rfl;obtain⟨z8,h8,b8⟩:=hg 8 _ rfl;simp only[E.cS,E.cT,E.cI,D.cCs,D.cR,D.cFs] at h0 h1 h2 h3 h4 h5 h6 h7 h8;obtain⟨a,ha,_⟩:=Gr E h0;obtain⟨s,hs,ws⟩:=L7 K E h1;obtain⟨p,hp,_⟩:=Gr E h2;obtain⟨t,ht,wt⟩:=JE K E h3 Ao;obtain⟨u,hu,wu⟩:=JE K E h4 Ao;obtain⟨f,hf,_⟩:=Gr E h5;obtain⟨cl,c1,_,c2,cv,hcv,c3⟩:=Fi K D.uCs D.cC An G1 bV (fun _=>1) (B:=1048576) (fun m cs y _ h hB=>by obtain⟨v,q1,q2⟩:=il K D E h hB;exact⟨v,q1,q2,K.pos _⟩) h6 Ao;obtain⟨r,hr,r1,r2,r3⟩:=gj K D E h7 Ao;obtain⟨fl,f1,_,f2,fv,hfv,f3⟩:=Fi K D.uFs D.cF An Em bu (fun _=>1) (B:=1048576) (fun m cs y _ h hB=>by obtain⟨v,q1,q2⟩:=jU K D E h hB;exact⟨v,q1,q2,K.pos _⟩) h8 Ao;refine⟨⟨a,s,p,t,u,f,cl,r,fl⟩,?_,⟨by simp only;omega,wt,wu,by simp only;omega,c2,r1,r2,r3,by simp only;omega,f2⟩⟩;have:=CM.cut (o:=0) ha (CM.cut (o:=1) hs (CM.cut (o:=2) hp (CM.cut (o:=3) ht (CM.cut (o:=8) hu (CM.cut (o:=13) hf (CM.cut (o:=14) (a:=[.lst (cl.map G1)]) (k:=1) (by rw[hcv];exact CM.one c3) (CM.cut (o:=15) hr (CM.cut (o:=22) (a:=[.lst (fl.map Em)]) (k:=1) (by rw[hfv];exact CM.one f3) (CM.end hl)))))))));simpa [Bk] using this
theorem lk {b2:Nat}{r:Reach}{v:Value}{d:DataW H}{ps:List MemPlace}(hk:Value.okWide P w r b2 tDs v) (h:DataW.Trod enc P w base sp hd tDs v d ps) (hB:K.b d≤1048576):∃l:List CK,HT l∧CH F0 w (.p (.lst (l.map Bk))) v:=by
 obtain⟨n,h⟩:=h;obtain⟨l,g1,_,g2,u,hu,g3⟩:=Fi K D.uDs D.cD An Bk Nn (fun _=>1) (B:=1048576) (fun m cs y _ h hB=>by obtain⟨v,q1,q2⟩:=iB K D E h hB;exact⟨v,q1,q2,K.pos _⟩) h hB;have:=bD D.uDs hk hu;subst this;have g1':l.length≤K.b d:=g1;exact⟨l,⟨by omega,g2⟩,by simp only[CH];exact g3⟩
end
end Go.Eu
namespace Go.Proofs.YtboammbpdaoojaaGreat
open Go.Eu Go.Lib Go.ChangeShapes Go.WideShapes Go.ChangeAt Go.RowKit
theorem own:ownKnob Tryz.prog.godebug=none:=by kernel_rfl
theorem laidOut:laidOutB Tryz.prog=true:=by kernel_rfl
theorem sb:G3 Tryz.prog 3 9 162 113 115 23 26 24:=⟨by kernel_rfl,by kernel_rfl,by kernel_rfl,by kernel_rfl,by kernel_rfl,by kernel_rfl,by kernel_rfl,by kernel_rfl,by kernel_rfl,by kernel_rfl,by kernel_rfl,by kernel_rfl,by kernel_rfl,by kernel_rfl,by kernel_rfl,by kernel_rfl⟩
theorem tZ:Um Tryz.prog 3 4 9 26 24 117 62 64 69 120 67 71 61 66 22:=⟨by kernel_rfl,by kernel_rfl,by kernel_rfl,by kernel_rfl,by kernel_rfl,by kernel_rfl,by kernel_rfl,by kernel_rfl,by kernel_rfl,by kernel_rfl,by kernel_rfl,by kernel_rfl,by kernel_rfl,by kernel_rfl,by kernel_rfl,by kernel_rfl,by kernel_rfl,by kernel_rfl,by kernel_rfl,by kernel_rfl,by kernel_rfl,by kernel_rfl⟩
noncomputable def blk (H:Type):aS H where
 b:=Rows.uptoBulk
 a:=Rows.uptoBulkAll
 str:=fun s=>by simp[Rows.uptoBulk]
 slice:=fun e s=>by simp[Rows.uptoBulk]
 agg:=fun p=>by simp[Rows.uptoBulk]
 nil:=by simp[Rows.uptoBulkAll]
 cons:=fun d r=>by simp[Rows.uptoBulkAll]
 pos:=fun d=>by
  cases d with
  | lit l=>cases l<;>simp[Rows.uptoBulk]
  | _=>simp[Rows.uptoBulk]
theorem gV {H:Type}{ds:List (DataW H)}(h:Rows.uptoSmall H ds=true) {i:Nat}{d:DataW H}(hd:ds[i]?=some d):(blk H).b d≤1048576:=by
 have h1:=(blk H).mem hd;have h2:(blk H).a ds≤1048576:=of_decide_eq_true h;omega
noncomputable def Mi (os:Os):World:=World.holding Tryz.prog os ⟨#[],#[],[]⟩
theorem _root_.Go.Ak {α:Prop}(h:α:=by kernel_rfl):α:=h
theorem eC (os:Os) (args:Array Value):laidMet Tryz.prog [] ((Mi os).forCall (fun _ _=>0) ⟨#[],args,[]⟩).memory :=
 (LaidIn.of_run [] 8 Ak Ak Ak Ak:LaidIn Tryz.prog ((Mi os).forCall (fun _ _=>0) ⟨#[],args,[]⟩).memory [] []).met
end Go.Proofs.YtboammbpdaoojaaGreat
namespace Go.Proofs.YtboammbpdaoojaaGreat
open Go.Abs
theorem Hj:F3 Tryz.prog 22=some (66,23,360):=by kernel_rfl
theorem EZ:F3 Tryz.prog 23=some (115,2,32):=by kernel_rfl
theorem Bf:F3 Tryz.prog 24=some (26,5,80):=by kernel_rfl
theorem Gn:F3 Tryz.prog 61=some (71,15,224):=by kernel_rfl
theorem HN:F3 Tryz.prog 62=some (117,6,96):=by kernel_rfl
theorem Jb:F3 Tryz.prog 67=some (120,10,144):=by kernel_rfl
theorem G0:F3 Tryz.prog 104=some (9,1,16):=by kernel_rfl
theorem CW:F3 Tryz.prog 113=some (162,2,16):=by kernel_rfl
theorem Hp:F3 Tryz.prog 137=some (3,1,8):=by kernel_rfl
theorem Qq:F3 Tryz.prog 190=some (192,2,32):=by kernel_rfl
theorem tE:BK Tryz.prog 5=true:=by kernel_rfl
theorem ry:BK Tryz.prog 10=true:=by kernel_rfl
theorem rU:BK Tryz.prog 11=true:=by kernel_rfl
theorem rQ:BK Tryz.prog 12=true:=by kernel_rfl
theorem r7:BK Tryz.prog 13=true:=by kernel_rfl
theorem qT:BK Tryz.prog 14=true:=by kernel_rfl
theorem rR:BK Tryz.prog 15=true:=by kernel_rfl
theorem rO:BK Tryz.prog 16=true:=by kernel_rfl
theorem rS:BK Tryz.prog 18=true:=by kernel_rfl
theorem rM:BK Tryz.prog 19=true:=by kernel_rfl
theorem qk:BK Tryz.prog 20=true:=by kernel_rfl
theorem rD:BK Tryz.prog 21=true:=by kernel_rfl
theorem rn:BK Tryz.prog 22=true:=by kernel_rfl
theorem sD:BK Tryz.prog 23=true:=by kernel_rfl
theorem rG:BK Tryz.prog 24=true:=by kernel_rfl
theorem qi:BK Tryz.prog 29=true:=by kernel_rfl
theorem qU:BK Tryz.prog 30=true:=by kernel_rfl
theorem rP:BK Tryz.prog 31=true:=by kernel_rfl
theorem qx:BK Tryz.prog 32=true:=by kernel_rfl
theorem r9:BK Tryz.prog 33=true:=by kernel_rfl
theorem re:BK Tryz.prog 34=true:=by kernel_rfl
theorem qZ:BK Tryz.prog 35=true:=by kernel_rfl
theorem qe:BK Tryz.prog 36=true:=by kernel_rfl
theorem pZ:BK Tryz.prog 37=true:=by kernel_rfl
theorem rV:BK Tryz.prog 38=true:=by kernel_rfl
theorem sI:BK Tryz.prog 39=true:=by kernel_rfl
theorem q8:BK Tryz.prog 40=true:=by kernel_rfl
theorem rF:BK Tryz.prog 41=true:=by kernel_rfl
theorem qG:BK Tryz.prog 42=true:=by kernel_rfl
theorem qy:BK Tryz.prog 43=true:=by kernel_rfl
theorem qA:BK Tryz.prog 44=true:=by kernel_rfl
theorem sF:BK Tryz.prog 45=true:=by kernel_rfl
theorem qM:BK Tryz.prog 46=true:=by kernel_rfl
theorem sG:BK Tryz.prog 47=true:=by kernel_rfl
theorem qj:BK Tryz.prog 48=true:=by kernel_rfl
theorem rk:BK Tryz.prog 49=true:=by kernel_rfl
theorem rE:BK Tryz.prog 50=true:=by kernel_rfl
theorem rW:BK Tryz.prog 52=true:=by kernel_rfl
theorem rC:BK Tryz.prog 53=true:=by kernel_rfl
theorem p9:BK Tryz.prog 54=true:=by kernel_rfl
theorem qF:BK Tryz.prog 55=true:=by kernel_rfl
theorem sA:BK Tryz.prog 56=true:=by kernel_rfl
theorem sC:BK Tryz.prog 57=true:=by kernel_rfl
theorem qp:BK Tryz.prog 58=true:=by kernel_rfl
theorem qJ:BK Tryz.prog 59=true:=by kernel_rfl
theorem qC:BK Tryz.prog 61=true:=by kernel_rfl
theorem r8:BK Tryz.prog 62=true:=by kernel_rfl
theorem sN:BK Tryz.prog 63=true:=by kernel_rfl
theorem qY:BK Tryz.prog 64=true:=by kernel_rfl
theorem rv:BK Tryz.prog 65=true:=by kernel_rfl
theorem qt:BK Tryz.prog 66=true:=by kernel_rfl
theorem qa:BK Tryz.prog 67=true:=by kernel_rfl
theorem sJ:BK Tryz.prog 68=true:=by kernel_rfl
theorem qm:BK Tryz.prog 69=true:=by kernel_rfl
theorem qh:BK Tryz.prog 70=true:=by kernel_rfl
theorem pC:BK Tryz.prog 71=true:=by kernel_rfl
theorem qN:BK Tryz.prog 72=true:=by kernel_rfl
theorem qz:BK Tryz.prog 73=true:=by kernel_rfl
theorem ql:BK Tryz.prog 74=true:=by kernel_rfl
theorem rj:BK Tryz.prog 75=true:=by kernel_rfl
theorem qV:BK Tryz.prog 76=true:=by kernel_rfl
theorem rX:BK Tryz.prog 77=true:=by kernel_rfl
theorem qu:BK Tryz.prog 78=true:=by kernel_rfl
theorem sO:BK Tryz.prog 79=true:=by kernel_rfl
theorem rT:BK Tryz.prog 80=true:=by kernel_rfl
theorem qw:BK Tryz.prog 81=true:=by kernel_rfl
theorem rB:BK Tryz.prog 82=true:=by kernel_rfl
theorem qP:BK Tryz.prog 83=true:=by kernel_rfl
theorem rm:BK Tryz.prog 84=true:=by kernel_rfl
theorem ny:BK Tryz.prog 85=true:=by kernel_rfl
theorem sL:BK Tryz.prog 87=true:=by kernel_rfl
theorem rH:BK Tryz.prog 89=true:=by kernel_rfl
theorem rh:BK Tryz.prog 90=true:=by kernel_rfl
theorem qI:BK Tryz.prog 91=true:=by kernel_rfl
theorem rL:BK Tryz.prog 92=true:=by kernel_rfl
theorem rA:BK Tryz.prog 93=true:=by kernel_rfl
theorem qR:BK Tryz.prog 94=true:=by kernel_rfl
theorem qH:BK Tryz.prog 95=true:=by kernel_rfl
theorem qb:BK Tryz.prog 96=true:=by kernel_rfl
theorem qv:BK Tryz.prog 97=true:=by kernel_rfl
theorem rK:BK Tryz.prog 98=true:=by kernel_rfl
theorem mF:BK Tryz.prog 99=true:=by kernel_rfl
theorem n4:BK Tryz.prog 100=true:=by kernel_rfl
theorem mj:BK Tryz.prog 101=true:=by kernel_rfl
theorem nF:BK Tryz.prog 102=true:=by kernel_rfl
theorem mZ:BK Tryz.prog 103=true:=by kernel_rfl
theorem mz:BK Tryz.prog 104=true:=by kernel_rfl
theorem nH:BK Tryz.prog 105=true:=by kernel_rfl
theorem m6:BK Tryz.prog 106=true:=by kernel_rfl
theorem ot:BK Tryz.prog 107=true:=by kernel_rfl
theorem nh:BK Tryz.prog 108=true:=by kernel_rfl
theorem oY:BK Tryz.prog 109=true:=by kernel_rfl
theorem nR:BK Tryz.prog 110=true:=by kernel_rfl
theorem oU:BK Tryz.prog 111=true:=by kernel_rfl
theorem mS:BK Tryz.prog 112=true:=by kernel_rfl
theorem m4:BK Tryz.prog 113=true:=by kernel_rfl
theorem pq:BK Tryz.prog 114=true:=by kernel_rfl
theorem j3:BK Tryz.prog 115=true:=by kernel_rfl
theorem ow:BK Tryz.prog 116=true:=by kernel_rfl
theorem mQ:BK Tryz.prog 117=true:=by kernel_rfl
theorem mK:BK Tryz.prog 118=true:=by kernel_rfl
theorem pj:BK Tryz.prog 120=true:=by kernel_rfl
theorem mr:BK Tryz.prog 121=true:=by kernel_rfl
theorem oq:BK Tryz.prog 122=true:=by kernel_rfl
theorem mx:BK Tryz.prog 123=true:=by kernel_rfl
theorem oB:BK Tryz.prog 124=true:=by kernel_rfl
theorem pQ:BK Tryz.prog 125=true:=by kernel_rfl
theorem nZ:BK Tryz.prog 126=true:=by kernel_rfl
theorem m9:BK Tryz.prog 127=true:=by kernel_rfl
theorem nr:BK Tryz.prog 128=true:=by kernel_rfl
theorem pA:BK Tryz.prog 129=true:=by kernel_rfl
theorem jr:BK Tryz.prog 130=true:=by kernel_rfl
theorem mH:BK Tryz.prog 131=true:=by kernel_rfl
theorem oR:BK Tryz.prog 132=true:=by kernel_rfl
theorem mT:BK Tryz.prog 133=true:=by kernel_rfl
theorem ni:BK Tryz.prog 134=true:=by kernel_rfl
theorem od:BK Tryz.prog 135=true:=by kernel_rfl
theorem pe:BK Tryz.prog 136=true:=by kernel_rfl
theorem oL:BK Tryz.prog 137=true:=by kernel_rfl
theorem oS:BK Tryz.prog 138=true:=by kernel_rfl
theorem mI:BK Tryz.prog 139=true:=by kernel_rfl
theorem nW:BK Tryz.prog 141=true:=by kernel_rfl
theorem mi:BK Tryz.prog 142=true:=by kernel_rfl
theorem oC:BK Tryz.prog 143=true:=by kernel_rfl
theorem pO:BK Tryz.prog 144=true:=by kernel_rfl
theorem oI:BK Tryz.prog 146=true:=by kernel_rfl
theorem mh:BK Tryz.prog 147=true:=by kernel_rfl
theorem j9:BK Tryz.prog 148=true:=by kernel_rfl
theorem pY:BK Tryz.prog 149=true:=by kernel_rfl
theorem nG:BK Tryz.prog 150=true:=by kernel_rfl
theorem ou:BK Tryz.prog 151=true:=by kernel_rfl
theorem og:BK Tryz.prog 152=true:=by kernel_rfl
theorem jx:BK Tryz.prog 153=true:=by kernel_rfl
theorem nj:BK Tryz.prog 154=true:=by kernel_rfl
theorem mR:BK Tryz.prog 155=true:=by kernel_rfl
theorem nC:BK Tryz.prog 156=true:=by kernel_rfl
theorem pM:BK Tryz.prog 157=true:=by kernel_rfl
theorem pL:BK Tryz.prog 158=true:=by kernel_rfl
theorem oA:BK Tryz.prog 159=true:=by kernel_rfl
theorem ph:BK Tryz.prog 160=true:=by kernel_rfl
theorem nw:BK Tryz.prog 161=true:=by kernel_rfl
theorem j7:BK Tryz.prog 162=true:=by kernel_rfl
theorem pt:BK Tryz.prog 163=true:=by kernel_rfl
theorem pS:BK Tryz.prog 164=true:=by kernel_rfl
theorem pv:BK Tryz.prog 165=true:=by kernel_rfl
theorem nc:BK Tryz.prog 166=true:=by kernel_rfl
theorem mG:BK Tryz.prog 167=true:=by kernel_rfl
theorem nX:BK Tryz.prog 168=true:=by kernel_rfl
theorem mO:BK Tryz.prog 169=true:=by kernel_rfl
theorem nN:BK Tryz.prog 170=true:=by kernel_rfl
theorem oX:BK Tryz.prog 171=true:=by kernel_rfl
theorem oD:BK Tryz.prog 172=true:=by kernel_rfl
theorem mL:BK Tryz.prog 173=true:=by kernel_rfl
theorem pd:BK Tryz.prog 174=true:=by kernel_rfl
theorem m7:BK Tryz.prog 175=true:=by kernel_rfl
theorem oJ:BK Tryz.prog 176=true:=by kernel_rfl
theorem pU:BK Tryz.prog 177=true:=by kernel_rfl
theorem jz:BK Tryz.prog 178=true:=by kernel_rfl
theorem mA:BK Tryz.prog 179=true:=by kernel_rfl
theorem nT:BK Tryz.prog 180=true:=by kernel_rfl
theorem po:BK Tryz.prog 181=true:=by kernel_rfl
theorem nV:BK Tryz.prog 182=true:=by kernel_rfl
theorem oG:BK Tryz.prog 183=true:=by kernel_rfl
theorem mP:BK Tryz.prog 184=true:=by kernel_rfl
theorem pE:BK Tryz.prog 185=true:=by kernel_rfl
theorem mJ:BK Tryz.prog 186=true:=by kernel_rfl
theorem mU:BK Tryz.prog 187=true:=by kernel_rfl
theorem nu:BK Tryz.prog 188=true:=by kernel_rfl
theorem nk:BK Tryz.prog 189=true:=by kernel_rfl
theorem ng:BK Tryz.prog 190=true:=by kernel_rfl
theorem oE:BK Tryz.prog 191=true:=by kernel_rfl
theorem nE:BK Tryz.prog 193=true:=by kernel_rfl
theorem nU:BK Tryz.prog 194=true:=by kernel_rfl
theorem nJ:BK Tryz.prog 195=true:=by kernel_rfl
theorem oz:BK Tryz.prog 196=true:=by kernel_rfl
theorem mN:BK Tryz.prog 200=true:=by kernel_rfl
theorem G8:fieldsOf Tryz.prog 26=some [(0,1),(1,1),(2,1),(3,1),(4,1)]:=by kernel_rfl
theorem rq:fieldsOf Tryz.prog 36=some [(0,1),(1,1),(2,1),(3,1),(4,1)]:=by kernel_rfl
theorem Fe:fieldsOf Tryz.prog 51=some [(0,1),(1,1),(2,1),(3,1),(4,5)]:=by kernel_rfl
theorem Cy:fieldsOf Tryz.prog 66=some [(0,1),(1,1),(2,1),(3,5),(8,5),(13,1),(14,1),(15,7),(22,1)]:=by kernel_rfl
theorem FP:fieldsOf Tryz.prog 69=some [(0,1),(1,5),(6,1),(7,1)]:=by kernel_rfl
theorem GX:fieldsOf Tryz.prog 71=some [(0,1),(1,5),(6,1),(7,8)]:=by kernel_rfl
theorem Tz:fieldsOf Tryz.prog 115=some [(0,1),(1,1)]:=by kernel_rfl
theorem Ir:fieldsOf Tryz.prog 117=some [(0,1),(1,5)]:=by kernel_rfl
theorem IU:fieldsOf Tryz.prog 120=some [(0,1),(1,1),(2,8)]:=by kernel_rfl
theorem eI:fieldsOf Tryz.prog 122=some []:=by kernel_rfl
theorem mb:fieldsOf Tryz.prog 125=some [(0,1),(1,1)]:=by kernel_rfl
theorem eW:fieldsOf Tryz.prog 148=some [(0,1),(1,1)]:=by kernel_rfl
theorem jo:fieldsOf Tryz.prog 162=some [(0,1),(1,1)]:=by kernel_rfl
theorem pV:fieldsOf Tryz.prog 167=some [(0,1),(1,1),(2,1),(3,1),(4,1)]:=by kernel_rfl
theorem Nr:fieldsOf Tryz.prog 200=some [(0,1),(1,1),(2,23)]:=by kernel_rfl
theorem pJ:fieldsOf Tryz.prog 207=some [(0,1)]:=by kernel_rfl
theorem nI:fieldsOf Tryz.prog 231=some [(0,1),(1,1)]:=by kernel_rfl
theorem bO:mapOf Tryz.prog 229=some 3:=by kernel_rfl
theorem Dt:Tryz.prog.follows .mixedOrders=true:=by kernel_rfl
theorem nO:OG Tryz.prog 162=true:=by kernel_rfl
theorem ty2:EE Tryz.prog 2=some (false,1):=by kernel_rfl
theorem DH:EE Tryz.prog 3=some (false,1):=by kernel_rfl
theorem ml:EE Tryz.prog 4=some (false,1):=by kernel_rfl
theorem Lu:EE Tryz.prog 9=some (false,1):=by kernel_rfl
theorem eJ:EE Tryz.prog 22=some (false,1):=by kernel_rfl
theorem Gk:EE Tryz.prog 24=some (false,1):=by kernel_rfl
theorem Ba:EE Tryz.prog 26=some (true,5):=by kernel_rfl
theorem SN:EE Tryz.prog 29=some (false,1):=by kernel_rfl
theorem LS:EE Tryz.prog 51=some (true,9):=by kernel_rfl
theorem Gj:EE Tryz.prog 61=some (false,1):=by kernel_rfl
theorem Hl:EE Tryz.prog 62=some (false,1):=by kernel_rfl
theorem FM:EE Tryz.prog 66=some (true,23):=by kernel_rfl
theorem KE:EE Tryz.prog 67=some (false,1):=by kernel_rfl
theorem Iv:EE Tryz.prog 69=some (true,8):=by kernel_rfl
theorem fW:EE Tryz.prog 71=some (true,15):=by kernel_rfl
theorem Wr:EE Tryz.prog 104=some (false,1):=by kernel_rfl
theorem Dc:EE Tryz.prog 115=some (true,2):=by kernel_rfl
theorem pH:EE Tryz.prog 117=some (true,6):=by kernel_rfl
theorem Sw:EE Tryz.prog 120=some (true,10):=by kernel_rfl
theorem pc:EE Tryz.prog 122=some (true,0):=by kernel_rfl
theorem Jv:EE Tryz.prog 158=some (false,1):=by kernel_rfl
theorem Mw:EE Tryz.prog 162=some (true,2):=by kernel_rfl
theorem j4:EE Tryz.prog 167=some (true,5):=by kernel_rfl
theorem mE:EE Tryz.prog 168=some (true,65):=by kernel_rfl
theorem pP:EE Tryz.prog 192=some (true,2):=by kernel_rfl
theorem m8:EE Tryz.prog 205=some (false,1):=by kernel_rfl
theorem mu:EE Tryz.prog 210=some (true,1):=by kernel_rfl
theorem Jw:Tryz.prog.underlying 159=some (.array 7 158):=by kernel_rfl
theorem j2:Tryz.prog.underlying 168=some (.array 13 167):=by kernel_rfl
theorem bC:Tryz.prog.underlying 20=some (.interface #[]):=by kernel_rfl
theorem ju:Tryz.prog.underlying 223=some (.int .i64):=by kernel_rfl
theorem sB:Tryz.prog.underlying 4=some .bool:=by kernel_rfl
theorem kD:Tryz.prog.underlying 9=some .string:=by kernel_rfl
theorem hG:zeroOf Tryz.prog 3=some (.int .i64 0):=by kernel_rfl
theorem sh:zeroOf Tryz.prog 4=some (.bool false):=by kernel_rfl
theorem fy:zeroOf Tryz.prog 9=some (.string { data:={ toList:=[] } }):=by kernel_rfl
theorem Bz:zeroOf Tryz.prog 26=some (.agg { toList:=[.int .i64 0,.int .i64 0,.string { data:={ toList:=[] } },.slice none 0 0,.slice none 0 0] }):=by kernel_rfl
theorem dM:zeroOf Tryz.prog 29=some (.int .i64 0):=by kernel_rfl
theorem rJ:zeroOf Tryz.prog 36=some (.agg { toList:=[.int .i64 0,.int .i64 0,.int .i64 0,.int .i64 0,.bool false] }):=by kernel_rfl
theorem Hk:zeroOf Tryz.prog 51=some (.agg { toList:=[.int .i64 0,.int .i64 0,.int .i64 0,.int .i64 0,.int .i64 0,.int .i64 0,.string { data:={ toList:=[] } },.slice none 0 0,.slice none 0 0] }):=by kernel_rfl
theorem JK:zeroOf Tryz.prog 66=some (.agg { toList:=[.int .i64 0,.string { data:={ toList:=[] } },.int .i64 0,.int .i64 0,.int .i64 0,.string { data:={ toList:=[] } },.slice none 0 0,.slice none 0 0,.int .i64 0,.int .i64 0,.string { data:={ toList:=[] } },.slice none 0 0,.slice none 0 0,.int .i64 0,.slice none 0 0,.int .i64 0,.int .i64 0,.int .i64 0,.string { data:={ toList:=[] } },.slice none 0 0,.slice none 0 0,.slice none 0 0,.slice none 0 0] }):=by kernel_rfl
theorem Vc:zeroOf Tryz.prog 69=some (.agg { toList:=[.int .i64 0,.int .i64 0,.int .i64 0,.string { data:={ toList:=[] } },.slice none 0 0,.slice none 0 0,.int .i64 0,.slice none 0 0] }):=by kernel_rfl
theorem aq:zeroOf Tryz.prog 71=some (.agg { toList:=[.string { data:={ toList:=[] } },.int .i64 0,.int .i64 0,.string { data:={ toList:=[] } },.slice none 0 0,.slice none 0 0,.int .i64 0,.int .i64 0,.int .i64 0,.int .i64 0,.string { data:={ toList:=[] } },.slice none 0 0,.slice none 0 0,.int .i64 0,.slice none 0 0] }):=by kernel_rfl
theorem ER:zeroOf Tryz.prog 115=some (.agg { toList:=[.int .i64 0,.slice none 0 0] }):=by kernel_rfl
theorem Yy:zeroOf Tryz.prog 117=some (.agg { toList:=[.string { data:={ toList:=[] } },.int .i64 0,.int .i64 0,.string { data:={ toList:=[] } },.slice none 0 0,.slice none 0 0] }):=by kernel_rfl
theorem YV:zeroOf Tryz.prog 120=some (.agg { toList:=[.string { data:={ toList:=[] } },.bool false,.int .i64 0,.int .i64 0,.int .i64 0,.string { data:={ toList:=[] } },.slice none 0 0,.slice none 0 0,.int .i64 0,.slice none 0 0] }):=by kernel_rfl
theorem ZG:zeroOf Tryz.prog 122=some (.agg { toList:=[] }):=by kernel_rfl
theorem oP:zeroOf Tryz.prog 137=some (.slice none 0 0):=by kernel_rfl
theorem eU:zeroOf Tryz.prog 148=some (.agg { toList:=[.int .i64 0,.int .i64 0] }):=by kernel_rfl
theorem Q8:zeroOf Tryz.prog 159=some (.agg { toList:=[.nilFunc,.nilFunc,.nilFunc,.nilFunc,.nilFunc,.nilFunc,.nilFunc] }):=by kernel_rfl
theorem Fy:zeroOf Tryz.prog 162=some (.agg { toList:=[.int .i64 0,.int .i64 0] }):=by kernel_rfl
theorem dF:zeroOf Tryz.prog 168=some (.agg { toList:=[.bool false,.bool false,.int .i64 0,.int .i64 0,.int .i64 0,.bool false,.bool false,.int .i64 0,.int .i64 0,.int .i64 0,.bool false,.bool false,.int .i64 0,.int .i64 0,.int .i64 0,.bool false,.bool false,.int .i64 0,.int .i64 0,.int .i64 0,.bool false,.bool false,.int .i64 0,.int .i64 0,.int .i64 0,.bool false,.bool false,.int .i64 0,.int .i64 0,.int .i64 0,.bool false,.bool false,.int .i64 0,.int .i64 0,.int .i64 0,.bool false,.bool false,.int .i64 0,.int .i64 0,.int .i64 0,.bool false,.bool false,.int .i64 0,.int .i64 0,.int .i64 0,.bool false,.bool false,.int .i64 0,.int .i64 0,.int .i64 0,.bool false,.bool false,.int .i64 0,.int .i64 0,.int .i64 0,.bool false,.bool false,.int .i64 0,.int .i64 0,.int .i64 0,.bool false,.bool false,.int .i64 0,.int .i64 0,.int .i64 0] }):=by kernel_rfl
theorem pK:zeroOf Tryz.prog 170=some .nilFunc:=by kernel_rfl
theorem V8:zeroOf Tryz.prog 192=some (.agg { toList:=[.int .i64 0,.slice none 0 0] }):=by kernel_rfl
theorem kE:zeroOf Tryz.prog 200=some (.agg { toList:=[.slice none 0 0,.slice none 0 0,.int .i64 0,.string { data:={ toList:=[] } },.int .i64 0,.int .i64 0,.int .i64 0,.string { data:={ toList:=[] } },.slice none 0 0,.slice none 0 0,.int .i64 0,.int .i64 0,.string { data:={ toList:=[] } },.slice none 0 0,.slice none 0 0,.int .i64 0,.slice none 0 0,.int .i64 0,.int .i64 0,.int .i64 0,.string { data:={ toList:=[] } },.slice none 0 0,.slice none 0 0,.slice none 0 0,.slice none 0 0] }):=by kernel_rfl
theorem np:zeroOf Tryz.prog 204=some .nilFunc:=by kernel_rfl
theorem nL:zeroOf Tryz.prog 205=some (.pointer none):=by kernel_rfl
theorem oW:zeroOf Tryz.prog 207=some (.agg { toList:=[.int .i64 0] }):=by kernel_rfl
theorem nA:zeroOf Tryz.prog 210=some (.agg { toList:=[.nilFunc] }):=by kernel_rfl
theorem nP:zeroOf Tryz.prog 231=some (.agg { toList:=[.map none,.int .i64 0] }):=by kernel_rfl
end Go.Proofs.YtboammbpdaoojaaGreat
namespace Go.Abs
theorem V4 {F:Nat→Prop}{w:World}{b:Nat}{vs:List Value}{T:TypeId}(hb:w.heap[b]?=some (.cells ⟨vs⟩ T (0,0))):∀(cs:List PV) (o:Nat),B1 F w (cs.map .p) (vs.drop o)→CU F w b o cs
 | [],_,_=>by simp[CU]
 | c::cs,o,h=>by
  simp only[List.map_cons,B1,CH] at h;obtain⟨u,us,e,hu,hr⟩:=h;have ho:o<vs.length:=by
   by_cases q:o<vs.length
   ·exact q
   rw[List.drop_eq_nil_of_le Ao] at e;cases e
  rw[List.drop_eq_getElem_cons ho] at e;injection e with e1 e2;simp only[CU];refine⟨⟨u,?_,hu⟩,V4 hb cs (o+1) (by rw[e2];exact hr)⟩;unfold World.cell?;rw[hb];simp[ho,e1]
theorem PH {n:Nat}{τ:Nat→AV}{H:List BJ}{D:List ES}{i b:Nat}{cs:List PV}(ts:List Nat) (hi:H[i]?=some (.box b (cs.map .p))) (ht:∀t∈ts,τ t= .ptr b 0) :
  Ia ⟨n,τ,H,D⟩ ⟨n,J4 ts (.ref cs) τ,H.eraseIdx i,D⟩:=by
 intro F a w hs;have hmem:=List.mem_of_getElem? hi;have hFb:F b:=hs.heap.sub _ hmem b rfl;have hbd:b<w.heap.size:=hs.heap.bd b hFb;have st:DY F w (fun k=>F k∧k≠b) w:=⟨Nat.le_refl _,fun _ _ _=>rfl,fun _ h _ h'=>h h'.1⟩;have hne:∀x∈H.eraseIdx i,∀k,x.key=some k→k≠b:=by
  intro x hx k hk hkb;subst hkb;obtain⟨j,hj⟩:=List.mem_iff_getElem?.1 hx;rw[List.getElem?_eraseIdx] at hj;split at hj
  ·have:=Hz hs.heap.nodup hj hi hk rfl;omega
  have:=Hz hs.heap.nodup hj hi hk rfl;omega
 have hsub:(H.eraseIdx i).Sublist H:=List.eraseIdx_sublist H i;refine⟨fun k=>F k∧k≠b,⟨hs.size,?_,?_,FO.mono st _ _ hs.defs⟩,?_⟩
 ·intro t;simp only[J4];cases hq:ts.any (Nat.beq t ·) with
  | false=>exact CH.mono st _ _ (hs.tmp t)
  | true =>
   obtain⟨t',ht',he⟩:=List.any_eq_true.1 hq;have e:=Nat.eq_of_beq_eq_true he;subst e;have hv:=hs.tmp t;simp only[ht t ht',CH] at hv;obtain⟨vs,T,hb,hr⟩:=hs.heap.obj _ hmem;show CH (fun k=>F k∧k≠b) w (.ref cs) _;simp only[CH];exact⟨b,0,hv,fun h=>h.2 O,hbd,V4 hb cs 0 (by rw[List.drop_zero];exact B1.mono st _ _ hr)⟩
 ·have:=hs.heap.sublist hsub;exact⟨fun x hx k hk=>⟨this.sub x hx k hk,hne x hx k hk⟩,this.nodup,fun x hx=>Ih.mono st x (fun _ _=>O) (this.obj x hx),fun k hk=>this.bd k hk.1⟩
 exact⟨Nat.le_refl _,fun _ _ _=>O,fun k hk hn=>⟨hk,fun e=>hn _ hmem (by rw[e];rfl)⟩,fun k hk=> .inl hk.1,fun x hx k hk=> .inl ⟨x,hsub.subset hx,hk⟩,O,O,O⟩
end Go.Abs
