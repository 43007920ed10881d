/- Part of the proofs: an abstract program logic, plain models and contracts of functions. -/
import Derived.Test.YtboammbpdaoojaaGreatPb
import Derived.ProofKit
import Derived.Deep.DeepHandedRow
import Derived.Lib.AppendStr
import Derived.Lib.Builder
import Derived.Laws.Externs
import Derived.Lib.UnsafeStr
import Derived.Below
import Derived.Test.YtboammbpdaoojaaGreatRows
import Derived.Deep.DeepWitnessRowRef
import Derived.Lib.LaidIn
import Derived.Test.YtboammbpdaoojaaGreatProg
set_option linter.unusedVariables false
set_option linter.unusedSimpArgs false
set_option maxRecDepth 1000000
namespace Go.Eu
open Go.Abs Go.RowKit Go.ChangeShapes Go.ChangeAt Go.WideShapes
theorem dV:∀{ts:List Tm},(∀t∈ts,Wd t)→jR ts
 | [],_=>trivial
 | t::ts,h=>⟨h t Ay,dV fun x hx=>h x (by simp[hx])⟩
abbrev F0:Nat→Prop:=fun _=>False
def CZ (w:World):List PV→List Value→Prop
 | [],cs=>cs=[]
 | p::ps,cs=>∃c cs',cs=c::cs'∧Cb F0 w p c∧CZ w ps cs'
theorem CZ.length {w:World}:∀{ps:List PV}{cs:List Value},CZ w ps cs→ps.length=cs.length
 | [],cs,h=>by simp only[CZ] at h;subst h;rfl
 | p::ps,cs,h=>by
  obtain⟨c,cs',rfl,_,h⟩:=h;simp[CZ.length h]
theorem CZ.append {w:World}:∀{a b:List PV}{x y:List Value},CZ w a x→CZ w b y→CZ w (a++b) (x++y)
 | [],b,x,y,h,h'=>by simp only[CZ] at h;subst h;exact h'
 | p::a,b,x,y,h,h'=>by
  obtain⟨c,cs',rfl,h1,h⟩:=h;exact⟨c,cs'++y,O,h1,CZ.append h h'⟩
theorem CZ.one {w:World}{p:PV}{c:Value}(h:Cb F0 w p c):CZ w [p] [c]:=⟨c,[],rfl,h,rfl⟩
theorem CZ.repL {w:World}:∀{ps:List PV}{cs:List Value},CZ w ps cs→CB F0 w (ps.map .p) cs
 | [],cs,h=>by simp only[CZ] at h;subst h;exact rfl
 | p::ps,cs,h=>by
  obtain⟨c,cs',rfl,h1,h⟩:=h;exact⟨c,cs',O,by simp only[CW];exact h1,CZ.repL h⟩
theorem PM {w:World}{b:Nat}:∀(r:List PV) (cs:List Value) (o:Nat),CZ w r cs→(∀j,j<cs.length→w.cell? ⟨b,o+j,none⟩=cs[j]?)→Cd F0 w b o r
 | [],cs,o,h,hc=>by simp[Cd]
 | p::r,cs,o,h,hc=>by
  obtain⟨c,cs',rfl,h1,h⟩:=h;refine⟨⟨c,by have:=hc 0 Ay;simpa using this,h1⟩,PM r cs' (o+1) h fun j hj=>?_⟩;have:=hc (j+1) Ar;rw[show o+1+j=o+(j+1) by omega];simpa using this
theorem Mm {w:World}{base:Nat}{a:Addr}{n:Nat}{cs:List Value}(h:w.cells? base a n=some cs):cs.length=n∧∀j,j<n→w.cell? (a.add j)=cs[j]?:=by
 unfold World.cells? at h;split at h
 ·exact⟨by simpa using mapM_some_length h,fun j hj=>mapM_some_get h j j (by simp[hj])⟩
 cases h
section
variable {H:Type}{enc:TypeId×Value→H}{P:Program}{w:World}{base:Nat}{sp:Nat→Bool}{hd:Bool}{n:Nat}
theorem open_slice {α:Type}{e t C:Nat}(ut:P.underlying t=some (.slice e)) (hC:P.cellsOf e=C) (hC1:1≤C) (f:α→List PV) (Q:α→Prop)
  (he:∀m cs y,m<n→DataW.trod enc P w base sp hd m e cs=some y→∃a,CZ w (f a) cs∧Q a) {cs:List Value} {y:DataW H×List MemPlace} (h:DataW.trod enc P w base sp hd n t cs=some y) :
  ∃l:List α,l.length<wide∧(∀a∈l,Q a)∧∃v,cs=[v]∧Cb F0 w (.lst (l.map f)) v:=by
 rcases DataW.trod_slice ut h with ⟨rfl,_⟩ | ⟨a,len,cap,elems,rest,m,rfl,rfl,_,hb,hl,hc,hel,hget,_,_⟩
 ·exact⟨[],by simp[wide],fun a ha=>by simp at ha,_,rfl,by simp only[Cb];exact .inl ⟨rfl,none,0,rfl⟩⟩
 rw[hC] at hget;have hml:maxLen<wide:=by decide
 rcases Nat.eq_zero_or_pos len with h0 | h0
 ·subst h0;exact⟨[],by simp[wide],fun a ha=>by simp at ha,_,rfl,by simp only[Cb];exact .inl ⟨rfl,some a,cap,rfl⟩⟩
 have hone:∀i,i<len→∃ci y,w.cells? base (a.add (i*C)) C=some ci∧DataW.trod enc P w base sp hd m e ci=some y:=fun i hi=>by
  have:=hget i hi;rw[List.getElem?_eq_getElem Ax] at this;obtain⟨ci,h1,h2⟩:=Option.bind_eq_some_iff.1 this;exact⟨ci,_,h1,h2⟩
 obtain⟨c0,y0,hc0,_⟩:=hone 0 h0;obtain⟨hl0,hg0⟩:=Mm hc0;have hcell:∃v,w.cell? a=some v:=by
  have:=hg0 0 Ax;rw[Nat.zero_mul,Addr.add,if_pos rfl,Addr.add,if_pos rfl] at this;rw[List.getElem?_eq_getElem Ax] at this;exact⟨_,this⟩
 obtain⟨v0,hv0⟩:=hcell;obtain⟨blk,off,spot⟩:=a;have hspot:spot=none:=by
  unfold World.cell? at hv0;simp only at hv0;split at hv0
  ·cases spot with
   | none=>rfl
   | some s=>simp at hv0
  cases hv0
 subst hspot;have hblk:blk<w.heap.size:=by
  unfold World.cell? at hv0;simp only at hv0;split at hv0
  ·rename_i hh;exact(Array.getElem?_eq_some_iff.1 hh).1
  cases hv0
 have hadd:∀k,(⟨blk,off,none⟩:Addr).add k=⟨blk,off+k,none⟩:=fun k=>by
  unfold Addr.add;split
  ·rename_i e;subst e;rfl
  rfl
 have hadd2:∀o k,(⟨blk,o,none⟩:Addr).add k=⟨blk,o+k,none⟩:=fun o k=>by
  unfold Addr.add;split
  ·rename_i e;subst e;rfl
  rfl
 have hrows:∀k,k≤len→∃l:List α,l.length=k∧(∀x∈l,Q x)∧CD F0 w blk C (off+(len - k)*C) (l.map f):=by
  intro k
  induction k with
  | zero=>exact fun _=>⟨[],rfl,fun a ha=>by simp at ha,by simp[CD]⟩
  | succ k ih =>
   intro hk;obtain⟨l,h1,h2,h3⟩:=ih Ax;obtain⟨ci,y,hci,ht⟩:=hone (len - (k+1)) Ax;obtain⟨g1,g2⟩:=Mm hci;obtain⟨x,hx,hq⟩:=he m ci y Ax ht;refine⟨x::l,by simp[h1],fun z hz=>?_,?_⟩
   ·rcases List.mem_cons.1 hz with rfl | hz
    ·exact hq
    exact h2 z hz
   refine⟨by rw[hx.length,g1],PM _ ci _ hx fun j hj=>?_,?_⟩
   ·have:=g2 j Ax;rw[hadd,hadd2] at this;exact this
   rw[show off+(len - (k+1))*C+C=off+(len - k)*C by rw[Nat.add_assoc,←Nat.succ_mul];congr 2;omega];exact h3
 obtain⟨l,h1,h2,h3⟩:=hrows len (Nat.le_refl _);rw[Nat.sub_self,Nat.zero_mul,Nat.add_zero] at h3;refine⟨l,by omega,h2,_,rfl,?_⟩;simp only[Cb];refine .inr ⟨blk,off,cap,C,by rw[List.length_map,h1],fun h=>h,hblk,by rw[List.length_map];omega,h3⟩
def Mw (P:Program) (t:TypeId):Option (List (Nat×Nat)) :=
 match P.underlying t with
 | some (.struct fs)=>some (fs.toList.map fun f=>(f.type,f.offset))
 | _=>none
theorem Uy {t:TypeId}{l:List (Nat×Nat)}(hf:Mw P t=some l) {cs:List Value}{y:DataW H×List MemPlace}(h:DataW.trod enc P w base sp hd n t cs=some y) :
  ∃m,n=m+1∧cs.length=P.cellsOf t∧∀(i:Nat) (p:Nat×Nat),l[i]?=some p→∃z,DataW.trod enc P w base sp hd m p.1 ((cs.drop p.2).take (P.cellsOf p.1))=some z:=by
 unfold Mw at hf;split at hf
 ·rename_i fs hu;injection hf with hf;subst hf;obtain⟨xs,m,h1,_,h2,h3,h4⟩:=DataW.trod_struct hu h;refine⟨m,h1,h2,fun i p hp=>?_⟩;rw[List.getElem?_map] at hp;obtain⟨fl,hfl,rfl⟩:=Option.map_eq_some_iff.1 hp;have hi:fs[i]?=some fl:=by simpa using hfl
  have:=h4 i fl hi;have hlt:i<xs.length:=by rw[h3];exact(Array.getElem?_eq_some_iff.1 hi).1
  rw[List.getElem?_eq_getElem hlt] at this;exact⟨_,this⟩
 cases hf
end
structure HF (P:Program) (tI tS tV tVs tL tLs tT tTs:TypeId):Prop where
 uI:P.underlying tI=some (.int .i64)
 uS:P.underlying tS=some .string
 uVs:P.underlying tVs=some (.slice tV)
 uLs:P.underlying tLs=some (.slice tL)
 uTs:P.underlying tTs=some (.slice tT)
 fV:Mw P tV=some [(tI,0),(tI,1)]
 fL:Mw P tL=some [(tI,0),(tVs,1)]
 fT:Mw P tT=some [(tI,0),(tI,1),(tS,2),(tLs,3),(tTs,4)]
 cI:P.cellsOf tI=1
 cS:P.cellsOf tS=1
 cVs:P.cellsOf tVs=1
 cLs:P.cellsOf tLs=1
 cTs:P.cellsOf tTs=1
 cV:P.cellsOf tV=2
 cL:P.cellsOf tL=2
 cT:P.cellsOf tT=5
theorem Pl {n:Int}(h:(Lit.int .i64 n).wf=true):JB n:=by
 simp only[Lit.wf,Bool.and_eq_true,decide_eq_true_eq] at h;exact h
theorem _root_.Go.Aw {α:Prop}(h:α:=by decide):α:=h
section
variable {H:Type}{enc:TypeId×Value→H}{P:Program}{w:World}{base:Nat}{sp:Nat→Bool}{hd:Bool}{tI tB tS tV tVs tL tLs tT tTs tM tMs:TypeId}
theorem dt (E:HF P tI tS tV tVs tL tLs tT tTs) {n:Nat}{cs:List Value}{y:DataW H×List MemPlace}(h:DataW.trod enc P w base sp hd n tV cs=some y):∃v:CS,CZ w (ED v) cs∧(JB v.index∧JB v.plus):=by
 obtain⟨m,rfl,hl,hg⟩:=Uy E.fV h;rw[E.cV] at hl
 match cs,hl with
 | [c0,c1],_ =>
  obtain⟨z0,h0⟩:=hg 0 _ rfl;obtain⟨z1,h1⟩:=hg 1 _ rfl;simp only[E.cI,List.drop_zero,List.drop_succ_cons,List.take_succ_cons,List.take_zero] at h0 h1;obtain⟨a,ha,_,fa⟩:=DataW.trod_int E.uI h0;obtain⟨b,hb,_,fb⟩:=DataW.trod_int E.uI h1;injection ha with ha;injection hb with hb;subst ha hb;exact⟨⟨a,b⟩,⟨_,_,O,by simp[Cb],_,_,rfl,by simp[Cb],rfl⟩,Pl fa,Pl fb⟩
theorem lF (E:HF P tI tS tV tVs tL tLs tT tTs) {n:Nat}{cs:List Value}{y:DataW H×List MemPlace}(h:DataW.trod enc P w base sp hd n tL cs=some y):∃v:Ci,CZ w (B9 v) cs∧mW v:=by
 obtain⟨m,rfl,hl,hg⟩:=Uy E.fL h;rw[E.cL] at hl
 match cs,hl with
 | [c0,c1],_ =>
  obtain⟨z0,h0⟩:=hg 0 _ rfl;obtain⟨z1,h1⟩:=hg 1 _ rfl;simp only[E.cI,E.cVs,List.drop_zero,List.drop_succ_cons,List.take_succ_cons,List.take_zero] at h0 h1;obtain⟨a,ha,_,fa⟩:=DataW.trod_int E.uI h0;injection ha with ha;subst ha;obtain⟨l,g1,g2,v,hv,g3⟩:=open_slice E.uVs E.cV Aw ED (fun v=>JB v.index∧JB v.plus) (fun m cs y _ h=>dt E h) h1;injection hv with hv;subst hv;exact⟨⟨a,l⟩,⟨_,_,O,by simp[Cb],_,_,rfl,g3,rfl⟩,⟨g1,Pl fa,g2⟩⟩
theorem lb (E:HF P tI tS tV tVs tL tLs tT tTs):∀(n:Nat) (cs:List Value) (y:DataW H×List MemPlace),DataW.trod enc P w base sp hd n tT cs=some y→∃t:Tm,CZ w (Bb t) cs∧Wd t:=by
 intro n
 induction n using Nat.strongRecOn with
 | ind n ih =>
  intro cs y h;obtain⟨m,rfl,hl,hg⟩:=Uy E.fT h;rw[E.cT] at hl
  match cs,hl with
  | [c0,c1,c2,c3,c4],_ =>
   obtain⟨z0,h0⟩:=hg 0 _ rfl;obtain⟨z1,h1⟩:=hg 1 _ rfl;obtain⟨z2,h2⟩:=hg 2 _ rfl;obtain⟨z3,h3⟩:=hg 3 _ rfl;obtain⟨z4,h4⟩:=hg 4 _ rfl;simp only[E.cI,E.cS,E.cLs,E.cTs,List.drop_zero,List.drop_succ_cons,List.take_succ_cons,List.take_zero] at h0 h1 h2 h3 h4;obtain⟨a,ha,_,wa⟩:=DataW.trod_int E.uI h0;obtain⟨b,hb,_,wb⟩:=DataW.trod_int E.uI h1;obtain⟨s,hs,_,ws⟩:=DataW.trod_string E.uS h2;injection ha with ha;injection hb with hb;injection hs with hs;subst ha hb hs;obtain⟨l,g1,g2,v,hv,g3⟩:=open_slice E.uLs E.cL Aw B9 mW (fun m cs y _ h=>lF E h) h3;obtain⟨ks,k1,k2,u,hu,k3⟩:=open_slice E.uTs E.cT Aw Bb Wd (fun m' cs y hm h=>ih m' Ax cs y h) h4;injection hv with hv;injection hu with hu;subst hv hu;have hml:maxLen<wide:=by decide
   exact⟨.mk a b s l ks,⟨_,_,O,by simp[Cb],_,_,rfl,by simp[Cb],_,_,rfl,by simp[Cb],_,_,rfl,g3,_,_,rfl,by rw[Eh];exact k3,rfl⟩,
    ⟨by omega,g1,g2,k1,dV fun t ht=>k2 t ht,Pl wa,Pl wb⟩⟩
structure qR (P:Program) (tB tT tM tMs:TypeId):Prop where
 uB:P.underlying tB=some .bool
 uMs:P.underlying tMs=some (.slice tM)
 fM:Mw P tM=some [(tT,0),(tB,5),(tT,6),(tB,11)]
 cB:P.cellsOf tB=1
 cM:P.cellsOf tM=12
theorem bD {b2:Nat}{r:Reach}{t e:TypeId}(ut:P.underlying t=some (.slice e)) {v u:Value}(hk:Value.okWide P w r b2 t v) (h:v.cells.toList=[u]):v=u:=by
 unfold Value.okWide at hk;rw[ut] at hk;simp only at hk;unfold Cell.okWide at hk;rw[ut] at hk;cases v with
 | agg cs=>simp only at hk;unfold Cell.ok at hk;rw[ut] at hk;simp at hk
 | _=>simp[Value.cells] at h;exact h
theorem pH (E:HF P tI tS tV tVs tL tLs tT tTs) {b2:Nat}{r:Reach}{v:Value}{d:DataW H}{ps:List MemPlace}(hk:Value.okWide P w r b2 tT v) (h:DataW.Trod enc P w base sp hd tT v d ps):∃t:Tm,Wd t∧CW F0 w (TV t) v:=by
 obtain⟨n,h⟩:=h;obtain⟨t,g1,g2⟩:=lb E _ _ _ h;have hf:=E.fT;unfold Mw at hf;unfold Value.okWide at hk;split at hk
 ·obtain⟨cs,rfl,_,_⟩:=hk;refine⟨t,g2,?_⟩;exact⟨cs.toList,by simp,CZ.repL g1⟩
 ·rename_i hu;rw[hu] at hf;cases hf
 rename_i h1 h2;split at hf
 ·rename_i fs hu;exact absurd hu (h1 fs)
 cases hf
end
theorem aI (w:World):HRel F0 [] w:=⟨fun o ho=>by simp at ho,by simp,fun o ho=>by simp at ho,fun b hb=>hb.elim⟩
theorem Xc {P:Program}{f:FuncId}{xs:List AV}(h:Ep P f xs (.p (.bool true))) {w:World}{vs:List Value}(ha:CB F0 w xs vs):Calls P f ⟨vs⟩ w fun e w'=>e= .returned (.bool true)∧Below w.heap.size w w':=by
 refine(h.2 F0 w vs (aI w) ha).mono ?_;rintro e w' ⟨r,H',F',hr,he,hH,ht⟩;cases r with
 | panic v=>exact hr.elim
 | val v =>
  obtain⟨rfl,rfl⟩:=hr;obtain⟨u,rfl,hu⟩:=he;simp only[CW,Cb] at hu;subst hu;exact⟨O,ht.os,ht.tape,ht.out,ht.size,fun k hk=>ht.same k hk fun o ho=>by simp at ho⟩
theorem Yj {H:Type}{enc:TypeId×Value→H}{P:Program}{f:Func}{s:ChangeSpec}{tB:TypeId}(hl:laidOutB P=true) (hB:P.underlying tB=some .bool) (hrt:f.resultTypes=#[tB]) (hv0:s.vars=[]) {W W':World}{args:Array Value}{ds:List (DataW H)}{before:List MemPlace}
  (hpr:∀t∈f.params.toList,P.readableRec t=true∧t<P.types.size) (hW:DataW.Whole enc P f.params.toList s.vars false W args.toList ds [] before) (hres:(s.fn H ds).results=[.lit (.bool true)]) (hargs:(s.fn H ds).args=ds) (hvars:(s.fn H ds).vars=[]) (hb:Below W.heap.size W W') :
  s.post enc P f false true false false W args (.bool true) W':=by
 have hW':=hW;obtain⟨p,q,hA,hV,rfl,hfz,hnd⟩:=hW;have hq:q=[]:=by rw[hv0] at hV;exact hV
 subst hq;have hstay:∀{ts:List TypeId} {vs:List Value} {ds:List (DataW H)} {ps:List MemPlace},(∀t∈ts,P.readableRec t=true∧t<P.types.size)→(∀x∈ps,x.block<W.heap.size)→DataW.TrodAll enc P W 0 (fun _=>true) true ts vs ds ps→DataW.TrodAll enc P W' 0 (fun b=>decide (b<W.heap.size)) true ts vs ds ps:=by
  intro ts
  induction ts with
  | nil =>
   intro vs ds ps _ _ h;cases vs<;>cases ds<;>simp[DataW.TrodAll] at h ⊢;exact h
  | cons t ts ih =>
   intro vs ds ps h1 h2 h;obtain⟨v,vs',d,ds',a,b,rfl,rfl,rfl,h3,h4⟩:=trodAll_cons h;exact⟨a,b,Below.trod hl (h1 t Ay).1 (h1 t Ay).2 h3 hb (fun x hx=>h2 x (by simp[hx])),ih (fun t ht=>h1 t (by simp[ht])) (fun x hx=>h2 x (by simp[hx])) h4,O⟩
 refine⟨ds,[],p++[],[],p,[],hW',?_,?_,?_,hb.frame _,fun h=>by cases h⟩
 ·rw[List.append_nil,hres,hrt];refine⟨[],[],⟨1,?_⟩,O,O⟩;unfold DataW.trod;rw[hB];rfl
 ·rw[List.append_nil,hargs];exact hstay hpr (fun x hx=>hW'.lt x (by simpa using hx)) hA
 rw[List.append_nil,hvars,hv0];exact O
section
variable {H:Type}{enc:TypeId×Value→H}{P:Program}{w:World}{base:Nat}{sp:Nat→Bool}{hd:Bool}{tI tB tS tV tVs tL tLs tT tTs tM tMs:TypeId}
end
end Go.Eu
namespace Go.Eu
open Go.Abs
structure It where
 name:ByteArray
 type:Tm
 deriving Inhabited
structure gp where
 params:Int
 type:Tm
 rules:List Tm
 deriving Inhabited
mutual
inductive FY where
 | mk (kind:Int) (body:Tm) (var:Int) (branches:List GU)
inductive GU where
 | mk (ctor:ByteArray) (absurd:Bool) (tree:FY)
end
instance:Inhabited FY:=⟨.mk 0 default 0 []⟩
instance:Inhabited GU:=⟨.mk default false default⟩
def FY.kind:FY→Int | .mk k _ _ _=>k
def FY.body:FY→Tm | .mk _ b _ _=>b
def FY.var:FY→Int | .mk _ _ v _=>v
def FY.branches:FY→List GU | .mk _ _ _ l=>l
def GU.ctor:GU→ByteArray | .mk c _ _=>c
def GU.absurd:GU→Bool | .mk _ a _=>a
def GU.tree:GU→FY | .mk _ _ t=>t
structure Hi where
 name:ByteArray
 type:Tm
 arity:Int
 tree:FY
 deriving Inhabited
structure CX where
 kind:Int
 name:ByteArray
 params:Int
 type:Tm
 value:Tm
 fixed:Int
 ctors:List It
 recs:gp
 funs:List Hi
 deriving Inhabited
structure Gg where
 kind:Int
 decl:Int
 item:Int
 params:Int
 type:Tm
 deriving Inhabited
structure uO where
 carrier:ByteArray
 add:ByteArray
 zero:ByteArray
 neg:ByteArray
 one:ByteArray
 leq:ByteArray
 lemmas:List ByteArray
 deriving Inhabited
structure tu where
 place:Int
 minus:Bool
 deriving Inhabited,DecidableEq
def G8 (c:It):List PV:= .str c.name::Bb c.type
def RO (r:gp):List PV:=I r.params::(Bb r.type++[.lst (BN r.rules)])
mutual
def C5:FY→List PV
 | .mk k b v l=>I k::(Bb b++[I v,.lst (LO l)])
def HD:GU→List PV
 | .mk c a t=> .str c:: .bool a::C5 t
def LO:List GU→List (List PV)
 | []=>[]
 | b::l=>HD b::LO l
end
def FJ (f:Hi):List PV:= .str f.name::(Bb f.type++(I f.arity::C5 f.tree))
def Bu (d:CX):List PV:=I d.kind:: .str d.name::I d.params::(Bb d.type++(Bb d.value++(I d.fixed:: .lst (d.ctors.map G8)::(RO d.recs++[.lst (d.funs.map FJ)]))))
def Dn (e:Gg):List PV:=I e.kind::I e.decl::I e.item::I e.params::Bb e.type
def tE (t:uO):List PV:=[.str t.carrier,.str t.add,.str t.zero,.str t.neg,.str t.one,.str t.leq,.lst (t.lemmas.map Gx)]
def tN (s:tu):List PV:=[I s.place,.bool s.minus]
theorem Mn:∀l:List GU,LO l=l.map HD
 | []=>rfl
 | t::ts=>by simp[LO,Mn ts]
theorem D8 (c:It):(G8 c).length=6:=by simp[G8,BM]
theorem Kh (r:gp):(RO r).length=7:=by simp[RO,BM]
theorem Cy (t:FY):(C5 t).length=8:=by cases t;simp[C5,BM]
theorem Dc (b:GU):(HD b).length=10:=by cases b;simp[HD,Cy]
theorem DV (f:Hi):(FJ f).length=15:=by simp[FJ,BM,Cy]
theorem Cx (d:CX):(Bu d).length=23:=by simp[Bu,BM,Kh]
theorem XP (e:Gg):(Dn e).length=9:=by simp[Dn,BM]
theorem GI (l:List GU):(LO l).length=l.length:=by simp[Mn]
theorem Fm {ts:List GU}{i:Nat}{t:GU}(h:ts[i]?=some t):(LO ts)[i]?=some (HD t):=by simp[Mn,h]
theorem N9 {α:Type}{f:α→List PV}{ts:List α}{i:Nat}{t:α}(h:ts[i]?=some t):(ts.map f)[i]?=some (f t):=by simp[h]
theorem EU {ts:List It}{i:Nat}{t:It}(h:ts[i]?=some t):(ts.map G8)[i]?=some (G8 t):=N9 h
theorem ET {ts:List Hi}{i:Nat}{t:Hi}(h:ts[i]?=some t):(ts.map FJ)[i]?=some (FJ t):=N9 h
theorem EG {ts:List CX}{i:Nat}{t:CX}(h:ts[i]?=some t):(ts.map Bu)[i]?=some (Bu t):=N9 h
theorem C8 {n:Nat}{c:PV}{r:List PV}(hc:c≠ .any∧c≠ .unit) (h:EZ n r):EZ (n+1) (c::r) :=
 ⟨by simp[h.1],fun x hx=>by
  rcases List.mem_cons.1 hx with rfl | hx
  ·exact hc
  exact h.2 x hx⟩
theorem JT {n m:Nat}{a b:List PV}(ha:EZ n a) (hb:EZ m b):EZ (n+m) (a++b) :=
 ⟨by simp[ha.1,hb.1],fun x hx=>by
  rcases List.mem_append.1 hx with hx | hx
  ·exact ha.2 x hx
  exact hb.2 x hx⟩
theorem PL:EZ 0 []:=⟨rfl,fun c h=>by simp at h⟩
theorem Y4 (c:It):EZ 6 (G8 c):=C8 Ay (K1 _)
theorem kz (r:gp):EZ 7 (RO r):=C8 Ay (JT (K1 _) (C8 Ay PL))
theorem Ry (t:FY):EZ 8 (C5 t):=by
 cases t with
 | mk k b v l=>unfold C5;exact C8 Ay (JT (n:=5) (m:=2) (K1 _) (C8 Ay (C8 Ay PL)))
theorem iK (b:GU):EZ 10 (HD b):=by
 cases b with
 | mk c a t=>unfold HD;exact C8 Ay (C8 Ay (Ry t))
theorem l8 (f:Hi):EZ 15 (FJ f):=C8 Ay (JT (n:=5) (m:=9) (K1 _) (C8 Ay (Ry _)))
theorem X7 (d:CX):EZ 23 (Bu d):=C8 Ay (C8 Ay (C8 Ay (JT (n:=5) (m:=15) (K1 _) (JT (n:=5) (m:=10) (K1 _) (C8 Ay (C8 Ay (JT (n:=7) (m:=1) (kz _) (C8 Ay PL))))))))
theorem lC (e:Gg):EZ 9 (Dn e):=C8 Ay (C8 Ay (C8 Ay (C8 Ay (K1 _))))
theorem aM (l:List It):∀r∈l.map G8,EZ 6 r:=Gh Y4 l
theorem aH (l:List CX):∀r∈l.map Bu,EZ 23 r:=Gh X7 l
theorem iG (m:It):((G8 m).map AV.p).all one=true:=HU (Y4 m)
theorem ik (m:FY):((C5 m).map AV.p).all one=true:=HU (Ry m)
theorem UY (m:GU):((HD m).map AV.p).all one=true:=HU (iK m)
theorem jZ (m:Hi):((FJ m).map AV.p).all one=true:=HU (l8 m)
theorem iM (m:CX):((Bu m).map AV.p).all one=true:=HU (X7 m)
theorem jx (m:Gg):((Dn m).map AV.p).all one=true:=HU (lC m)
end Go.Eu
namespace Go.Eu
open Go.Abs Go.RowKit Go.ChangeShapes Go.ChangeAt Go.WideShapes
structure m9 (P:Program) (tS tSs tTh:TypeId):Prop where
 uSs:P.underlying tSs=some (.slice tS)
 cSs:P.cellsOf tSs=1
 fTh:Mw P tTh=some [(tS,0),(tS,1),(tS,2),(tS,3),(tS,4),(tS,5),(tSs,6)]
 cTh:P.cellsOf tTh=7
 bS:P.bytesOf tS=16
section
variable {H:Type}{enc:TypeId×Value→H}{P:Program}{w:World}{base:Nat}{sp:Nat→Bool}{hd:Bool}{tI tB tS tV tVs tL tLs tT tTs tM tMs tSs tTh:TypeId}
end
end Go.Eu
namespace Go.Eu
open Go.Abs
def Un (n:ByteArray):ByteArray:=n++⟨#[46,114,101,99]⟩
def Ik (i p:Int):List It→Int→List (ByteArray×Gg)
 | [],_=>[]
 | c::cs,k=>(c.name,⟨4,i,k,p,c.type⟩)::Ik i p cs (k+1)
def Ln (i p:Int):List Hi→Int→List (ByteArray×Gg)
 | [],_=>[]
 | c::cs,k=>(c.name,⟨6,i,k,p,c.type⟩)::Ln i p cs (k+1)
def Fs (d:CX) (i:Int):List (ByteArray×Gg) :=
 if d.kind=0∨d.kind=1∨d.kind=2 then [(d.name,⟨d.kind,i,0,d.params,d.type⟩)]
 else if d.kind=3 then (d.name,⟨3,i,0,d.params,d.type⟩)::(Ik i d.params d.ctors 0++[(Un d.name,⟨5,i,0,d.recs.params,d.recs.type⟩)])
 else if d.kind=4 then Ln i d.params d.funs 0
 else []
def C6 (nm:ByteArray):List (ByteArray×Gg)→Option Gg
 | []=>none
 | (s,e)::l=>if s=nm then some e else C6 nm l
def findF (nm:ByteArray):List CX→Int→Option Gg
 | [],_=>none
 | d::ds,i=>match C6 nm (Fs d i) with
  | some e=>some e
  | none=>findF nm ds (i+1)
def fg:Gg:=⟨0,0,0,0,Bp⟩
def Bw (ds:List CX) (nm:ByteArray):Gg×Int:=match findF nm ds 0 with
 | some e=>(e,0)
 | none=>(fg,9)
theorem Kk {nm:ByteArray}:∀{a b:List (ByteArray×Gg)},C6 nm (a++b)=match C6 nm a with
  | some e=>some e
  | none=>C6 nm b
 | [],b=>rfl
 | (s,e)::a,b=>by
  simp only[List.cons_append,C6];split
  ·rfl
  exact Kk
section
variable {i p:Int}{nm:ByteArray}
theorem Pg:∀{cs:List It}{j:Nat}{c:It}{k:Int},cs[j]?=some c→c.name=nm→(∀q,q<j→∀y,cs[q]?=some y→y.name≠nm)→C6 nm (Ik i p cs k)=some ⟨4,i,k+j,p,c.type⟩
 | [],j,c,k,h,_,_=>by simp at h
 | a::cs,0,c,k,h,hn,_=>by
  simp at h;subst h;simp[Ik,C6,hn]
 | a::cs,j+1,c,k,h,hn,hb=>by
  have h0:a.name≠nm:=hb 0 Ax a rfl;rw[Ik,C6,if_neg h0,Pg (by simpa using h) hn fun q hq y hy=>hb (q+1) Ax y (by simpa using hy)];congr 2;omega
theorem Nj:∀{cs:List It}{k:Int},(∀q:Nat,q<cs.length→∀y,cs[q]?=some y→y.name≠nm)→C6 nm (Ik i p cs k)=none
 | [],k,_=>rfl
 | a::cs,k,hb=>by
  have h0:a.name≠nm:=hb 0 Ay a rfl;rw[Ik,C6,if_neg h0];exact Nj fun q hq y hy=>hb (q+1) (by simpa using hq) y (by simpa using hy)
theorem Tv:∀{cs:List It}{j:Nat}{c:It}{k:Int},cs[j]?=some c→(c.name,(⟨4,i,k+j,p,c.type⟩:Gg))∈Ik i p cs k
 | [],j,c,k,h=>by simp at h
 | a::cs,0,c,k,h=>by simp at h;subst h;simp[Ik]
 | a::cs,j+1,c,k,h=>by
  have:=Tv (k:=k+1) (show cs[j]?=some c by simpa using h);rw[Ik];refine List.mem_cons_of_mem _ ?_
  rwa [show k+1+(j:Int)=k+((j+1:Nat):Int) by omega] at this
theorem Rb:∀{cs:List Hi}{j:Nat}{c:Hi}{k:Int},cs[j]?=some c→c.name=nm→(∀q,q<j→∀y,cs[q]?=some y→y.name≠nm)→C6 nm (Ln i p cs k)=some ⟨6,i,k+j,p,c.type⟩
 | [],j,c,k,h,_,_=>by simp at h
 | a::cs,0,c,k,h,hn,_=>by
  simp at h;subst h;simp[Ln,C6,hn]
 | a::cs,j+1,c,k,h,hn,hb=>by
  have h0:a.name≠nm:=hb 0 Ax a rfl;rw[Ln,C6,if_neg h0,Rb (by simpa using h) hn fun q hq y hy=>hb (q+1) Ax y (by simpa using hy)];congr 2;omega
theorem Pm:∀{cs:List Hi}{k:Int},(∀q:Nat,q<cs.length→∀y,cs[q]?=some y→y.name≠nm)→C6 nm (Ln i p cs k)=none
 | [],k,_=>rfl
 | a::cs,k,hb=>by
  have h0:a.name≠nm:=hb 0 Ay a rfl;rw[Ln,C6,if_neg h0];exact Pm fun q hq y hy=>hb (q+1) (by simpa using hq) y (by simpa using hy)
theorem Vb:∀{cs:List Hi}{j:Nat}{c:Hi}{k:Int},cs[j]?=some c→(c.name,(⟨6,i,k+j,p,c.type⟩:Gg))∈Ln i p cs k
 | [],j,c,k,h=>by simp at h
 | a::cs,0,c,k,h=>by simp at h;subst h;simp[Ln]
 | a::cs,j+1,c,k,h=>by
  have:=Vb (k:=k+1) (show cs[j]?=some c by simpa using h);rw[Ln];refine List.mem_cons_of_mem _ ?_
  rwa [show k+1+(j:Int)=k+((j+1:Nat):Int) by omega] at this
end
def DH (d:CX):List ByteArray :=
 if d.kind=0∨d.kind=1∨d.kind=2 then [d.name]
 else if d.kind=3 then d.name::d.ctors.map It.name++[Un d.name]
 else if d.kind=4 then d.funs.map Hi.name
 else []
def HX (l:List ByteArray) (s:ByteArray):Bool:=l.any fun x=>decide (x=s)
theorem eE {l:List ByteArray}{s x:ByteArray}{i:Nat}(h:l[i]?=some x) (e:x=s):HX l s=true :=
 List.any_eq_true.2 ⟨x,List.mem_of_getElem? h,by simp[e]⟩
theorem bM {l:List ByteArray}{s:ByteArray}(h:∀j,j<l.length→∀x,l[j]?=some x→x≠s):HX l s=false:=by
 refine Bool.eq_false_iff.2 fun hb=>?_;obtain⟨x,hx,hq⟩:=List.any_eq_true.1 hb;obtain⟨j,hj⟩:=List.mem_iff_getElem?.1 hx;exact h j (List.getElem?_eq_some_iff.1 hj).1 x hj (by simpa using hq)
def OC (nm:ByteArray) (i p:Int) (o:Gg):List It→Int→Gg
 | [],_=>o
 | c::cs,k=>if c.name=nm then ⟨4,i,k,p,c.type⟩ else OC nm i p o cs (k+1)
def ax (nm:ByteArray) (i p:Int) (o:Gg):List Hi→Int→Gg
 | [],_=>o
 | c::cs,k=>if c.name=nm then ⟨6,i,k,p,c.type⟩ else ax nm i p o cs (k+1)
def GB (d:CX) (i:Int) (nm:ByteArray):Gg :=
 if d.kind=0∨d.kind=1∨d.kind=2 then ⟨d.kind,i,0,d.params,d.type⟩
 else if d.kind=3 then (if nm=d.name then ⟨3,i,0,d.params,d.type⟩ else OC nm i d.params ⟨5,i,0,d.recs.params,d.recs.type⟩ d.ctors 0)
 else ax nm i d.params ⟨0,i,0,d.params,d.type⟩ d.funs 0
theorem OJ {nm:ByteArray}{i p:Int}{o:Gg}:∀{cs:List It}{k:Int},OC nm i p o cs k=(C6 nm (Ik i p cs k)).getD o
 | [],k=>rfl
 | c::cs,k=>by
  rw[OC,Ik,C6];split
  ·rfl
  exact OJ
theorem Qi {nm:ByteArray}{i p:Int}{o:Gg}:∀{cs:List Hi}{k:Int},ax nm i p o cs k=(C6 nm (Ln i p cs k)).getD o
 | [],k=>rfl
 | c::cs,k=>by
  rw[ax,Ln,C6];split
  ·rfl
  exact Qi
theorem QH {nm:ByteArray}{i p:Int}:∀{cs:List It}{k:Int},(C6 nm (Ik i p cs k)).isSome=HX (cs.map It.name) nm
 | [],k=>rfl
 | c::cs,k=>by
  rw[Ik,C6];split
  ·rename_i h;simp[HX,h]
  rename_i h;rw[QH];simp[HX,h]
theorem Q4 {nm:ByteArray}{i p:Int}:∀{cs:List Hi}{k:Int},(C6 nm (Ln i p cs k)).isSome=HX (cs.map Hi.name) nm
 | [],k=>rfl
 | c::cs,k=>by
  rw[Ln,C6];split
  ·rename_i h;simp[HX,h]
  rename_i h;rw[Q4];simp[HX,h]
theorem dg {a b:List ByteArray}{s:ByteArray}:HX (a++b) s=(HX a s||HX b s):=List.any_append
theorem Jt (d:CX) (i:Int) (nm:ByteArray):C6 nm (Fs d i)=if HX (DH d) nm=true then some (GB d i nm) else none:=by
 unfold Fs DH GB;by_cases h:d.kind=0∨d.kind=1∨d.kind=2
 ·simp only[if_pos h,C6];by_cases e:d.name=nm<;>simp[HX,e]
 simp only[if_neg h];by_cases h3:d.kind=3
 ·simp only[if_pos h3,C6,Kk,List.cons_append];by_cases e:d.name=nm
  ·simp[HX,e]
  have e':¬nm=d.name:=fun q=>e q.symm;rw[if_neg e,if_neg e',OJ];have hn:=QH (nm:=nm) (i:=i) (p:=d.params) (cs:=d.ctors) (k:=0);have hh:HX (d.name::(d.ctors.map It.name++[Un d.name])) nm=(HX (d.ctors.map It.name) nm||HX [Un d.name] nm):=by
   rw[←dg];simp[HX,e]
  rw[hh,←hn];cases hf:C6 nm (Ik i d.params d.ctors 0) with
  | some x=>simp
  | none =>
   by_cases e2:Un d.name=nm<;>simp[HX,e2]
 simp only[if_neg h3];by_cases h4:d.kind=4
 ·simp only[if_pos h4];rw[Qi,←Q4 (i:=i) (p:=d.params) (k:=0)];cases hf:C6 nm (Ln i d.params d.funs 0)<;>simp
 simp[h4,C6,HX]
structure P0 where
 env:List CX
 own:List ByteArray
 d:CX
def Ge (s:P0):List PV:= .lst (s.env.map Bu):: .lst (s.own.map Gx)::Bu s.d
theorem bZ (s:P0):(Ge s).length=25:=by simp[Ge,Cx]
theorem hZ (s:P0):EZ 25 (Ge s):=C8 Ay (C8 Ay (X7 _))
theorem jg (m:P0):((Ge m).map AV.p).all one=true:=HU (hZ m)
structure VF (t:Tm):Prop where
 nd:Nd t
 sz:size t<1000000
mutual
def H4:FY→Prop
 | .mk k b v l=>VF b∧l.length<2000000∧NN l
def SE:GU→Prop
 | .mk c a t=>c.size<2000000∧H4 t
def NN:List GU→Prop
 | []=>True
 | b::l=>SE b∧NN l
end
mutual
def LS:FY→Nat
 | .mk k b v l=>1+WK l
def gb:GU→Nat
 | .mk c a t=>LS t
def WK:List GU→Nat
 | []=>0
 | b::l=>gb b+1+WK l
end
theorem Jc:∀{l:List GU}{i:Nat}{b:GU},NN l→l[i]?=some b→SE b
 | [],i,b,_,h=>by simp at h
 | a::l,0,b,hn,h=>by simp at h;subst h;exact hn.1
 | a::l,i+1,b,hn,h=>by simp at h;exact Jc hn.2 h
theorem T5:∀{l:List GU}{i:Nat}{b:GU},l[i]?=some b→gb b<WK l
 | [],i,b,h=>by simp at h
 | a::l,0,b,h=>by simp at h;subst h;simp only[WK];omega
 | a::l,i+1,b,h=>by
  have:=T5 (show l[i]?=some b by simpa using h);simp only[WK];omega
structure ey (c:It):Prop where
 nm:c.name.size<2000000
 ty:VF c.type
structure gV (f:Hi):Prop where
 nm:f.name.size<2000000
 ty:VF f.type
 tr:H4 f.tree
structure Ns (d:CX):Prop where
 nm:d.name.size<2000000
 ty:VF d.type
 vl:VF d.value
 cl:d.ctors.length<2000000
 cs:∀c∈d.ctors,ey c
 rt:VF d.recs.type
 rl:d.recs.rules.length<2000000
 rs:∀t∈d.recs.rules,VF t
 fl:d.funs.length<2000000
 fs:∀f∈d.funs,gV f
structure Hj (ds:List CX):Prop where
 len:ds.length<2000000
 all:∀d∈ds,Ns d
theorem Hj.take {ds:List CX}(h:Hj ds) (n:Nat):Hj (ds.take n) :=
 ⟨by have:=h.len;simp;omega,fun d hd=>h.all d (List.mem_of_mem_take hd)⟩
theorem ZT {nm:ByteArray}:∀{ds:List CX}{i:Nat}{k:Int}{d:CX},ds[i]?=some d→(∀j,j<i→∀y,ds[j]?=some y→HX (DH y) nm=false)→HX (DH d) nm=true→findF nm ds k=some (GB d (k+i) nm)
 | [],i,k,d,h,_,_=>by simp at h
 | a::ds,0,k,d,h,_,hn=>by
  simp at h;subst h;rw[findF,Jt,if_pos hn];simp
 | a::ds,i+1,k,d,h,hb,hn=>by
  have h0:=hb 0 Ax a rfl;rw[findF,Jt,if_neg (by rw[h0];decide)];simp only;rw[ZT (by simpa using h) (fun j hj y hy=>hb (j+1) Ax y (by simpa using hy)) hn];congr 2;omega
theorem UE {nm:ByteArray}:∀{ds:List CX}{k:Int},(∀j,j<ds.length→∀y,ds[j]?=some y→HX (DH y) nm=false)→findF nm ds k=none
 | [],k,_=>rfl
 | a::ds,k,hb=>by
  have h0:=hb 0 Ay a rfl;rw[findF,Jt,if_neg (by rw[h0];decide)];simp only;exact UE fun j hj y hy=>hb (j+1) (by simpa using hj) y (by simpa using hy)
theorem aO (n:ByteArray):(Un n).size=n.size+4:=by
 show (n++⟨#[46,114,101,99]⟩:ByteArray).size=_;rw[ByteArray.size_append];rfl
theorem NH (d:CX):(DH d).length≤d.ctors.length+d.funs.length+2:=by
 unfold DH;split
 ·simp
 split
 ·simp
 split<;>simp<;>omega
section
variable {d:CX}{i:Int}{nm:ByteArray}
theorem NM (h:d.kind=0∨d.kind=1∨d.kind=2) {k:Int}(hk:d.kind=k):GB d i nm=⟨k,i,0,d.params,d.type⟩:=by rw[GB,if_pos h,hk]
theorem aV (h:d.kind=3) (hn:nm=d.name):GB d i nm=⟨3,i,0,d.params,d.type⟩:=by rw[GB,if_neg Ax,if_pos h,if_pos hn]
theorem Xl (h:d.kind=3) (hn:¬nm=d.name) {j:Nat}{c:It}(hc:d.ctors[j]?=some c) (he:c.name=nm) (hb:∀q,q<j→∀y,d.ctors[q]?=some y→y.name≠nm):GB d i nm=⟨4,i,j,d.params,c.type⟩:=by
 rw[GB,if_neg Ax,if_pos h,if_neg hn,OJ,Pg hc he hb,Int.zero_add];rfl
theorem aZ (h:d.kind=3) (hn:¬nm=d.name) (hb:∀q:Nat,q<d.ctors.length→∀y,d.ctors[q]?=some y→y.name≠nm):GB d i nm=⟨5,i,0,d.recs.params,d.recs.type⟩:=by
 rw[GB,if_neg Ax,if_pos h,if_neg hn,OJ,Nj hb];rfl
theorem Z9 (h:¬(d.kind=0∨d.kind=1∨d.kind=2)) (h3:¬d.kind=3) {j:Nat}{c:Hi}(hc:d.funs[j]?=some c) (he:c.name=nm) (hb:∀q,q<j→∀y,d.funs[q]?=some y→y.name≠nm):GB d i nm=⟨6,i,j,d.params,c.type⟩:=by
 rw[GB,if_neg h,if_neg h3,Qi,Rb hc he hb,Int.zero_add];rfl
theorem aG (h:¬(d.kind=0∨d.kind=1∨d.kind=2)) (h3:¬d.kind=3) (hb:∀q:Nat,q<d.funs.length→∀y,d.funs[q]?=some y→y.name≠nm):GB d i nm=⟨0,i,0,d.params,d.type⟩:=by
 rw[GB,if_neg h,if_neg h3,Qi,Pm hb];rfl
end
theorem bP {ds:List CX}{nm:ByteArray}{i:Nat}{d:CX}(hx:ds[i]?=some d) (hb:∀j,j<i→∀y,ds[j]?=some y→HX (DH y) nm=false) (hn:HX (DH d) nm=true):Bw ds nm=(GB d i nm,0):=by
 rw[Bw,ZT hx hb hn,Int.zero_add]
theorem YD {ds:List CX}{nm:ByteArray}(hb:∀j,j<ds.length→∀y,ds[j]?=some y→HX (DH y) nm=false):Bw ds nm=(fg,9):=by
 rw[Bw,UE hb]
theorem SF {nm:ByteArray}{i p:Int}{o:Gg}(ho:o.kind≠4):∀{cs:List It}{k:Int},(OC nm i p o cs k).kind=4→(OC nm i p o cs k).decl=i∧k≤(OC nm i p o cs k).item∧(OC nm i p o cs k).item<k+cs.length
 | [],k,h=>absurd h ho
 | c::cs,k,h=>by
  unfold OC at h ⊢;split at h
  ·rename_i hc;rw[if_pos hc];exact⟨O,Int.le_refl _,by simp only[List.length_cons];omega⟩
  rename_i hc;rw[if_neg hc];have:=SF ho h;simp only[List.length_cons];exact⟨this.1,by have:=this.2.1;omega,by have:=this.2.2;omega⟩
theorem TQ {nm:ByteArray}{i p:Int}{o:Gg}(ho:o.kind≠4):∀{cs:List Hi}{k:Int},(ax nm i p o cs k).kind≠4
 | [],k=>ho
 | c::cs,k=>by
  unfold ax;split
  ·simp
  exact TQ ho
theorem _root_.Go.Ak {α:Prop}(h:α:=by simp only;omega):α:=h
theorem UC {nm:ByteArray}:∀{ds:List CX}{k:Int}{e:Gg},findF nm ds k=some e→e.kind=4→∃(j:Nat) (d:CX),e.decl=k+j∧ds[j]?=some d∧0≤e.item∧e.item<d.ctors.length
 | [],k,e,h,_=>by cases h
 | a::ds,k,e,h,hk=>by
  rw[findF,Jt] at h;by_cases hn:HX (DH a) nm=true
  ·rw[if_pos hn] at h;simp only[Option.some.injEq] at h;subst h;refine⟨0,a,?_⟩;unfold GB at hk ⊢;split at hk
   ·rename_i q;exact absurd hk Ak
   rename_i q;rw[if_neg q];split at hk
   ·rename_i q3;rw[if_pos q3];split at hk
    ·cases hk
    rename_i qn;rw[if_neg qn];have:=SF Ay hk;exact⟨by rw[this.1];omega,rfl,this.2.1,by have:=this.2.2;omega⟩
   exact absurd hk (TQ Ay)
  rw[if_neg hn] at h;simp only at h;obtain⟨j,d,h1,h2,h3⟩:=UC h hk;exact⟨j+1,d,by omega,by simpa using h2,h3⟩
theorem Xy {ds:List CX}{nm:ByteArray}(h0:(Bw ds nm).2=0) (hk:(Bw ds nm).1.kind=4):∃d,0≤(Bw ds nm).1.decl∧ds[(Bw ds nm).1.decl.toNat]?=some d∧0≤(Bw ds nm).1.item∧(Bw ds nm).1.item<d.ctors.length:=by
 unfold Bw at h0 hk ⊢;cases e:findF nm ds 0 with
 | none=>rw[e] at h0;simp at h0
 | some x =>
  rw[e] at hk;obtain⟨j,d,h1,h2,h3,h4⟩:=UC e hk;simp only;exact⟨d,by omega,by rw[h1];simpa using h2,h3,h4⟩
end Go.Eu
namespace Go.Abs
section
variable {P:Program}{H:List BR}{dst:Option Tmp}{ty:TypeId}{pos:String}{aft:Array Edge}{x y:Operand}{ρ:Operand→AV}{g:Option (Nat×Bool)}
end
section
variable {P:Program}{dst:Option Tmp}{ty:TypeId}{pos:String}{aft:Array Edge}{g:Option (Nat×Bool)}{ρ:Operand→AV}{H:List BR}{x y z:Operand}{v:AV}
def qV (s:ByteArray):List (List PV):=s.data.toList.map fun b=>[PV.int .u8 b.toNat]
end
section
variable {P:Program}{dst:Option Tmp}{ty:TypeId}{pos:String}{aft:Array Edge}{g:Option (Nat×Bool)}{ρ:Operand→AV}{H:List BR}{x y z:Operand}{v:AV}
def qT (T:TypeId) (cs:List AV) (H:List BR):Eg→List BR→Prop
 | .val v,H'=>∃b,v= .ptr b 0∧H'= .boxT b T cs::H
 | .panic _,_=>False
end
section
variable {P:Program}{dst:Option Tmp}{ty:TypeId}{pos:String}{aft:Array Edge}{g:Option (Nat×Bool)}{ρ:Operand→AV}{H:List BR}{x:Operand}
end
def At (cells:List PV) (o:Nat) (us:List PV):Prop:=∃rest,cells.drop o=us++rest
theorem At.front {us rest:List PV}:At (us++rest) 0 us:=⟨rest,rfl⟩
theorem At.all {us:List PV}:At us 0 us:=⟨[],by simp⟩
theorem At.one {c:PV}{rest:List PV}:At (c::rest) 0 [c]:=⟨rest,rfl⟩
theorem At.cons {c:PV}{cells us:List PV}{o:Nat}(h:At cells o us):At (c::cells) (o+1) us:=h
theorem At.app {a cells us:List PV}{o n:Nat}(hn:a.length=n) (h:At cells o us):At (a++cells) (n+o) us:=by
 obtain⟨rest,h⟩:=h;exact⟨rest,by rw[List.drop_append,←hn,List.drop_of_length_le Ax];simpa using h⟩
theorem At.sub {cells us vs:List PV}{o p:Nat}(h:At cells o us) (h':At us p vs) (hp:p≤us.length):At cells (o+p) vs:=by
 obtain⟨r,h⟩:=h;obtain⟨r',h'⟩:=h';exact⟨r'++r,by rw[←List.drop_drop,h,List.drop_append_of_le_length hp,h',List.append_assoc]⟩
theorem At.drop {cells us:List PV}{a b:Nat}(h:At cells (a+b) us):At (cells.drop a) b us:=by
 unfold At at h ⊢
 rwa [List.drop_drop]
section
variable {P:Program}{dst:Option Tmp}{ty:TypeId}{pos:String}{aft:Array Edge}{g:Option (Nat×Bool)}{ρ:Operand→AV}{H:List BR}{x:Operand}{T:TypeId}{b o i n:Nat}{cells us:List PV}{c:PV}
theorem B6 (hT:EP P T=some (true,n)) (hx:ρ x= .ptr b o) (hi:H[i]?=some (.box b (cells.map .p))) (ha:At cells o us) (hn:us.length=n):D4 P ⟨dst,.load T x,ty,pos,aft,g⟩ ρ H (.agg (us.map .p)) H:=by
 have e:((cells.map AV.p).drop o).take n=us.map .p:=by
  obtain⟨rest,h⟩:=ha;rw[←List.map_drop,h,List.map_append,List.take_left' (by rw[List.length_map,hn])]
 exact LY hT hx hi (by rw[e,List.length_map,hn]) (by rw[e])
theorem BB (hT:EP P T=some (false,n)) (hx:ρ x= .ptr b o) (hi:H[i]?=some (.box b (cells.map .p))) (ha:At cells o [c]):D4 P ⟨dst,.load T x,ty,pos,aft,g⟩ ρ H (.p c) H :=
 CG hT hx hi (by
  obtain⟨rest,h⟩:=ha;have:=congrArg (fun l:List PV=>l[0]?) h;simp only[List.getElem?_drop,Nat.add_zero,List.singleton_append,List.getElem?_cons_zero] at this;simp[this])
theorem DU (hT:EP P T=some (true,n)) (hx:ρ x= .ref (cells.drop o)) (ha:At cells o us) (hn:us.length=n):D4 P ⟨dst,.load T x,ty,pos,aft,g⟩ ρ H (.agg (us.map .p)) H :=
 LU hT hx hn (by obtain⟨rest,h⟩:=ha;rw[h];exact List.take_left)
theorem DA (hT:EP P T=some (false,n)) (hx:ρ x= .ref (cells.drop o)) (ha:At cells o [c]):D4 P ⟨dst,.load T x,ty,pos,aft,g⟩ ρ H (.p c) H:=by
 obtain⟨rest,h⟩:=ha;exact E9 hT (hx.trans (congrArg AV.ref h))
variable {y:Operand}
theorem Xq {a b:Bool}{T U:TypeId}(hu:P.underlying T=some .bool) (hx:ρ x= .p (.bool a)) (hy:ρ y= .p (.bool b)):D4 P ⟨dst,.binOp .neq T x y U,ty,pos,aft,g⟩ ρ H (.p (.bool (a !=b))) H :=
 Ce fun F w E hH hE=>by
  have e1:=hE x Aj;have e2:=hE y Aj;rw[hx] at e1;rw[hy] at e2;simp only[CW,Cb] at e1 e2;refine⟨.bool (a !=b),?_,by simp[CW,Cb]⟩;have hg:(eqGuard .neq T x y (.bool a) (.bool b)).run P w= .ok () w:=by unfold eqGuard;rfl
  have hq:(Op.equal T (.bool a) (.bool b)).run P w= .ok (a==b) w:=II hu rfl;simp[execOp,Sem.run_bind,hg,e1,e2,binOp,hq,bne]
theorem EE {bl:Bool}{cs vs ds:List AV}(hT:EP P T=some (bl,n+1)) (hx:ρ x= .ptr b o) (hi:H[i]?=some (.box b cs)) (hy:Er (ρ y)=some vs) (hn:vs.length=n+1)
  (ho:Nat.ble (o+(n+1)) cs.length=true) (h1:vs.all one=true) (hd:splice cs o vs=ds):D4 P ⟨dst,.store T x y,ty,pos,aft,g⟩ ρ H (.p .any) (H.set i (.box b ds)):=by
 subst hd;exact J9 hT hx hi hy hn ho h1
end
def sN (k:ByteArray):List (ByteArray×AV)→Option AV
 | []=>none
 | (j,x)::r=>if j=k then some x else sN k r
def sset (k:ByteArray) (v:AV):List (ByteArray×AV)→List (ByteArray×AV)
 | []=>[(k,v)]
 | (j,x)::r=>if j=k then (j,v)::r else (j,x)::sset k v r
def tf (l:List (ByteArray×AV)):List (PV×AV):=l.map fun p=>(.str p.1,p.2)
def rz (P:Program) (T:TypeId):Option TypeId :=
 match P.underlying T with
 | some (.map k e)=>match P.underlying k with
  | some .string=>some e
  | _=>none
 | _=>none
section
variable {F:Nat→Prop}{w:World}
end
section
variable {P:Program}{dst:Option Tmp}{ty:TypeId}{pos:String}{aft:Array Edge}{g:Option (Nat×Bool)}{ρ:Operand→AV}{H:List BR}{x y z:Operand}{v:AV}
end
section
variable {P:Program}{dst:Option Tmp}{ty:TypeId}{pos:String}{aft:Array Edge}{g:Option (Nat×Bool)}{ρ:Operand→AV}{H:List BR}{x y z:Operand}{v:AV}
def appendTR (i:Nat) (e:TypeId) (rows:List (List PV)) (H:List BR):Eg→List BR→Prop
 | .val v,H'=>∃o c,v= .vs o rows.length c∧H'=H.set i (.vecT o e false rows c)
 | .panic _,_=>False
theorem RA {a b:ByteArray}{T U:TypeId}(hx:ρ x= .p (.str a)) (hy:ρ y= .p (.str b)) (hsz:a.size+b.size≤9223372036854775807):D4 P ⟨dst,.binOp .add T x y U,ty,pos,aft,g⟩ ρ H (.p (.str (a++b))) H :=
 Ce fun F w E hH hE=>by
  have e1:=hE x Aj;have e2:=hE y Aj;rw[hx] at e1;rw[hy] at e2;simp only[CW,Cb] at e1 e2;have hm:¬(((a.size+b.size:Nat):Int) > IntKind.i64.max):=by rw[show IntKind.i64.max=9223372036854775807 from rfl];omega
  have h1:(Op.stringOp .add a b).run P w= .ok (.string (a++b)) w:=by
   unfold Op.stringOp;simp only[if_neg hm];rfl
  exact⟨.string (a++b),by simp[execOp,Sem.run_bind,MD,e1,e2,binOp,h1],by simp[CW,Cb]⟩
end
section
variable {P:Program}{r:Option Nat}{ops:Array Oper}{Q:DC→B5→Prop}{k:Nat}{n:Nat}{τ:Nat→AV}{H H':List BR}{D:List Ee}{dst:Option Tmp}{op:Op}{ty:TypeId}{pos:String}{aft:Array Edge}{g:Option (Nat×Bool)}{v:AV}
end
section
variable {P:Program}{dst:Option Tmp}{ty:TypeId}{pos:String}{aft:Array Edge}{g:Option (Nat×Bool)}{ρ:Operand→AV}{H:List BR}{x f:Operand}
end
section
variable {P:Program}{ops:Array Oper}{n:Nat}{τ₀ τ:Nat→AV}{D:List Ee}{Q:DC→B5→Prop}{opn:Nat→Bool}{k:Nat}{T:List BR}{dst:Option Tmp}{ty:TypeId}{pos:String}{aft:Array Edge}{c:Call}{f:Operand}{fid:FuncId}{first caps A:List AV}{v:AV}{C:List BR→Prop}
end
def Yy (l:List UInt8):List (List PV):=l.map fun b=>[PV.int .u8 b.toNat]
def BW (U e:TypeId) (b:Nat) (l:List UInt8) (T:List BR):Prop :=
 ∃a o cp,(a= .nilp∨a= .ptr b 0)∧T=[.boxT b U [a,.vs o (Yy l).length cp],.vecT o e false (Yy l) cp]
def BX (U e:TypeId) (b:Nat) (l:List UInt8) (T:List BR):Prop :=
 ∃a o cp fr,T=[.boxT b U [a,.vs (some o) (Yy l).length cp],.vecT (some o) e fr (Yy l) cp]
def ud (l:List UInt8):ByteArray:=⟨l.toArray⟩
section
variable {P:Program}{dst:Option Tmp}{ty:TypeId}{pos:String}{aft:Array Edge}{g:Option (Nat×Bool)}{ρ:Operand→AV}{H:List BR}{x y z:Operand}
end
theorem Pk {α:Type}:∀(xs l:List α) (o:Nat),o+xs.length≤l.length→splice l o xs=l.take o++xs++l.drop (o+xs.length)
 | [],l,o,h=>by simp[splice]
 | x::xs,l,o,h=>by
  simp only[List.length_cons] at h;rw[splice,Pk xs _ _ (by rw[List.length_set];omega)];have h1:(l.set o x).take (o+1)=l.take o++[x]:=by
   rw[List.take_add_one,List.getElem?_set_self Ax,List.take_set_of_le (Nat.le_refl _)];rfl
  have h2:(l.set o x).drop (o+1+xs.length)=l.drop (o+(x::xs).length):=by
   rw[List.drop_set_of_lt Ax];congr 1;simp only[List.length_cons];omega
  rw[h1,h2];simp
def G9:Nat→List (List PV)→List (Nat×AV)
 | _,[]=>[]
 | k,r::rs=>(k,.agg (r.map .p))::G9 (k+1) rs
theorem WI {sz:Nat}:∀(rows:List (List PV)) (k:Nat) (base:List AV),(∀r∈rows,r.length=sz)→(k+rows.length)*sz=base.length→F3 (fun i=>some (i*sz,sz)) base (G9 k rows)=some (base.take (k*sz)++rows.flatten.map .p)
 | [],k,base,hr,hb=>by
  simp only[List.length_nil,Nat.add_zero] at hb;simp[G9,F3,hb]
 | r::rows,k,base,hr,hb=>by
  have hl:=hr r Ay;have hb2:k*sz+sz+rows.length*sz=base.length:=by
   rw[←hb,List.length_cons,Nat.add_mul,Nat.add_mul,Nat.one_mul];omega
  simp only[G9,F3,Er];rw[if_pos ⟨by simp[hl],by simp[hl];omega⟩,Pk _ _ _ (by simp[hl];omega)];rw[WI rows (k+1) _ (fun x hx=>hr x (by simp[hx])) (by simp only[List.length_append,List.length_take,List.length_drop,List.length_map,hl];rw[Nat.add_mul,Nat.add_mul,Nat.one_mul];omega)];congr 1;have h1:((base.take (k*sz)++r.map AV.p)++base.drop (k*sz+(r.map AV.p).length)).take ((k+1)*sz)=base.take (k*sz)++r.map .p:=by
   have:(k+1)*sz=(base.take (k*sz)++r.map AV.p).length:=by
    simp only[List.length_append,List.length_take,List.length_map,hl];rw[Nat.add_mul,Nat.one_mul];omega
   rw[this,List.take_left'];rfl
  rw[h1];simp
theorem Py {α:Type}{sz:Nat}:∀{rows:List (List α)},(∀r∈rows,r.length=sz)→chunks sz rows.length rows.flatten=rows
 | [],_=>rfl
 | r::rows,h=>by
  have hl:=h r Ay;simp only[List.length_cons,chunks,List.flatten_cons];rw[List.take_left' hl,List.drop_left' hl,Py fun x hx=>h x (by simp[hx])]
theorem SK:∀(rows:List (List PV)) (k:Nat),(∀r∈rows,∀c∈r,c≠ .nils)→(G9 k rows).map (fun p=>(p.1,norm p.2))=G9 k rows
 | [],k,h=>rfl
 | r::rows,k,h=>by
  simp only[G9,List.map_cons];show (k,AV.agg ((r.map AV.p).map dn))::_=_;rw[SK rows (k+1) fun x hx=>h x (by simp[hx])];congr 3;have:=h r Ay;clear h
  induction r with
  | nil=>rfl
  | cons c r ih =>
   simp only[List.map_cons];rw[ih fun d hd=>this d (by simp[hd])];have:=this c Ay;cases c<;>simp_all [dn]
section
variable {P:Program}{dst:Option Tmp}{ty:TypeId}{pos:String}{aft:Array Edge}{g:Option (Nat×Bool)}{ρ:Operand→AV}{H:List BR}
theorem Q3:∀(r:List PV),Gp (r.map .p)=some r
 | []=>rfl
 | c::r=>by simp[Gp,Q3 r]
theorem Xe {parts:Array (Nat×Operand)}{rows:List (List PV)}(hp:parts.toList.map (fun p=>(p.1,ρ p.2))=G9 0 rows) (hn:∀r∈rows,∀c∈r,c≠ .nils):parts.toList.map (fun p=>(p.1,norm (ρ p.2)))=G9 0 rows:=by
 have h2:=SK rows 0 hn;rw[←hp,List.map_map] at h2;rw[←hp];exact h2
theorem B8 {T e:TypeId}{len sz bytes:Nat}{parts:Array (Nat×Operand)}{z:Value}{rows:List (List PV)}(hT:F9 P T=some (e,sz,bytes)) (hz:zeroOf P e=some z) (hsz:z.cells.size=sz) (hpos:(Nat.blt 0 sz&&Nat.ble (len*sz) 16777216)=true)
  (hp:parts.toList.map (fun p=>(p.1,ρ p.2))=G9 0 rows) (hl:rows.length=len) (hr:∀r∈rows,r.length=sz) (hn:∀r∈rows,∀c∈r,c≠ .nils) :
  D4 P ⟨dst,.buildSlice T len parts,ty,pos,aft,g⟩ ρ H (.p (.lst rows)) H:=by
 subst hl;refine Br (cs:=rows.flatten.map .p) (ps:=rows.flatten) hT hz hsz hpos ?_ (Q3 _) (Py hr);rw[Xe hp hn,WI rows 0 _ hr (by simp[hsz])];simp
theorem QN {T e:TypeId}{len sz bytes:Nat}{parts:Array (Nat×Operand)}{z:Value}{cs:List AV}{ps:List PV}{rows:List (List PV)}(hT:F9 P T=some (e,sz,bytes)) (hz:zeroOf P e=some z) (hsz:z.cells.size=sz) (hpos:(Nat.blt 0 sz&&Nat.ble (len*sz) 16777216)=true)
  (hc:F3 (fun i=>some (i*sz,sz)) (List.replicate len (z.cells.toList.map G4)).flatten (parts.toList.map fun p=>(p.1,norm (ρ p.2)))=some cs) (hp:Gp cs=some ps) (hr:chunks sz len ps=rows) :
  Dd P ⟨dst,.buildSlice T len parts,ty,pos,aft,g⟩ ρ H (MM sz rows H) :=
 Hc fun F w E hH hE=>by
  obtain⟨hu,i,hi,hs,hby⟩:=Fu hT;simp only[Bool.and_eq_true,Nat.blt_eq,Nat.ble_eq] at hpos;unfold zeroOf at hz;have hz':∃j,P.info? e=some j∧j.zero=some z:=by
   cases hq:P.info? e with
   | none=>simp[hq] at hz
   | some j=>exact⟨j,rfl,by simpa [hq] using hz⟩
  obtain⟨j,hj,hz'⟩:=hz';have hzv:(zeroValue e).run P w= .ok z w:=by simp[zeroValue,typeInfo,hj,hz',Sem.run_bind]
  have hzl:CB F w (List.replicate len (z.cells.toList.map G4)).flatten (List.replicate len z.cells.toList).flatten:=Ha (HS _) len;obtain⟨us,hf,hrep⟩:=Ji (F:=F) (w:=w) (place:=fun i=>some (i*sz,sz)) _ (parts.toList.map fun p=>(p.1,E p.2)) _ _ _ Ay (by
   intro j p q h1 h2;simp only[List.getElem?_map] at h1 h2;cases hj:parts.toList[j]? with
   | none=>simp[hj] at h1
   | some t =>
    simp[hj] at h1 h2;subst h1;subst h2;exact⟨O,(hE _ (by
     have:=List.mem_of_getElem? hj;simp only[Op.operands];exact List.mem_map.2 ⟨t,this,O⟩)).norm⟩) hzl hc
  have hcs:=IM hp;have hlen:ps.length=len*sz:=by
   have h1:cs.length=((List.replicate len (z.cells.toList.map G4)).flatten).length:=by
    clear hrep hp hcs hzl hf;generalize (List.replicate len (z.cells.toList.map G4)).flatten=l at hc;generalize (parts.toList.map fun p=>(p.1,norm (ρ p.2)))=q at hc
    induction q generalizing l with
    | nil=>simp[F3] at hc;rw[hc]
    | cons a q ih =>
     obtain⟨i,x⟩:=a;simp only[F3] at hc;cases hx:Er x with
     | none=>simp[hx] at hc
     | some c2 =>
      simp only[hx] at hc;split at hc
      ·rw[ih _ hc,HE]
      cases hc
   rw[hcs] at h1;simp only[List.length_map,List.length_flatten,List.map_replicate,List.sum_replicate_nat,Array.length_toList,hsz] at h1;exact h1
  obtain⟨c1,c2,c3⟩:=Ll hlen;rw[hr] at c1 c2 c3;have hul:us.length=ps.length:=by rw[hrep.length,hcs];simp
  obtain⟨v0,H0,F0,h10,h20,h30,h40⟩:=N8 (T:=e) (c:=len) (vs:=us) (H:=H) hH c2 (by rw[c1,←hul,List.take_length];rw[hcs] at hrep;exact hrep) Ax Ax;rw[c3] at h40;refine⟨_,_,v0,H0,F0,?_,h10,h20,h30,h40⟩;have hszr:(sizeOf e).run P w= .ok sz w:=by simp[sizeOf,typeInfo,hi,hs]
  have hzc:z.cells=⟨z.cells.toList⟩:=rfl;have hrm:=Jk z.cells.toList len;have hsz2:z.cells.toList.length=sz:=by simpa using hsz
  rw[hsz2] at hrm;have harr:((Array.range (len*sz)).map fun i=>z.cells[i % z.cells.size]!)=⟨(List.replicate len z.cells.toList).flatten⟩:=by
   apply Array.ext';exact hrm
  simp only[execOp,Instr.buildSlice,Sem.run_bind,run_underlying hu,Result.andThen_ok,hszr];rw[if_neg Ax];simp only[Sem.run_pure,Result.andThen_ok,Sem.run_bind,pure_bind];have hf':Instr.fill (fun i=>some (i*sz,sz)) ⟨(List.replicate len z.cells.toList).flatten⟩ (parts.map fun p=>(p.1,E p.2)).toList=some ⟨us⟩:=by
   rw[←hf];simp
  by_cases h00:len*sz=0
  ·have hl0:len=0:=by
    rcases Nat.mul_eq_zero.1 h00 with h | h
    ·exact h
    omega
   subst hl0;simp only[Nat.zero_mul,if_true];simp only[List.replicate_zero,List.flatten_nil] at hf';have e0:(Array.map (fun x=>(#[]:Array Value)[x % (#[]:Array Value).size]!) (Array.range 0))=(⟨[]⟩:Array Value):=by simp
   rw[e0,hf'];simp only[newRow,newObj,Sem.run_bind,Sem.run,Result.andThen,Sem.run_pure];rfl
  rw[if_neg h00];simp only[Sem.run_bind,hzv,Result.andThen_ok];rw[harr,hf'];simp only[newRow,newObj,Sem.run_bind,Sem.run,Result.andThen,Sem.run_pure];rfl
end
section
variable {P:Program}{ops:Array Oper}{n:Nat}{τ₀:Nat→AV}{D:List Ee}{Q:DC→B5→Prop}{opn:Nat→Bool}{k:Nat}{τ:Nat→AV}{H:List BR}{rd:XW}{ef:Va}{effs:List Bool}{fx:List (Nat×Sp)}{dst:Option Tmp}{op:Op}{ty:TypeId}{pos:String}{aft:Array Edge}
end
section
variable {P:Program}{ty:TypeId}{pos:String}{aft:Array Edge}{g:Option (Nat×Bool)}{ρ:Operand→AV}{H:List BR}{x y:Operand}
theorem WA {T T2 e e2:TypeId}{sz bytes n2 n3 d c i n:Nat}{o:Option Nat}{rows rows' all:List (List PV)}{zv:Value}(hT:F9 P T=some (e,sz,bytes)) (hT2:F9 P T2=some (e2,n2,n3)) (hz:zeroOf P e=some zv) (hzs:zv.cells.size=sz) (hb0:(Nat.blt 0 sz&&Nat.blt 0 bytes)=true)
  (hx:ρ x= .vs o n c) (hn:n=rows.length) (hi:H[i]?=some (.vec o sz rows c)) (hy:norm (ρ y)= .p (.lst rows')) (hsol:∀r∈rows',EZ sz r) (hroom:2*(rows.length+rows'.length)*bytes≤281474976710656) (hall:rows++rows'=all) :
  D4 P ⟨some d,.call { callee:= .builtin .append,args:=#[x,y],argTypes:=#[T,T2] },ty,pos,aft,g⟩ ρ H (.p (.lst all)) (H.eraseIdx i):=by
 subst hall;intro r F S a w hs hH hρ hd;subst hH;have h:=Q6 (P:=P) (dst:=some d) (ty:=ty) (pos:=pos) (aft:=aft) (g:=g) (ρ:=ρ) (H:=S.H) (i:=i) (o:=o) (rows:=rows) (n:=n) (c:=c) hT hT2 hz hzs hb0 hx hn hi hy hsol hroom r F S a w hs rfl hρ hd;refine MQ h ?_ ?_
 ·rintro a' w' ⟨v,H',F',⟨o',c',rfl,rfl⟩,hs',ht⟩;have hlt:=(List.getElem?_eq_some_iff.1 hi).1;obtain⟨F'',hs'',ht''⟩:=Cf (n:=S.n) (τ:=put S.τ (some d) (.vs o' (rows++rows').length c')) (H:=S.H.set i (.vec o' sz (rows++rows') c')) (D:=S.D) (i:=i) [d] (List.getElem?_set_self hlt) (fun t ht=>by simp at ht;subst ht;simp[put]) F' a' w' hs';have e:KA [d] (.p (.lst (rows++rows'))) (put S.τ (some d) (.vs o' (rows++rows').length c'))=put S.τ (some d) (.p (.lst (rows++rows'))):=by
   funext t;simp only[KA,put,List.any_cons,List.any_nil,Bool.or_false];cases Nat.beq t d<;>rfl
  have e2:(S.H.set i (.vec o' sz (rows++rows') c')).eraseIdx i=S.H.eraseIdx i:=List.eraseIdx_set_eq;simp only[e,e2] at hs'' ht'';exact⟨_,S.H.eraseIdx i,F'',⟨O,O⟩,hs'',ht.trans hs.heap.bd ht''⟩
 rintro e a' w' ⟨v,H',F',u,h,_⟩;exact h.elim
end
inductive Ey where
 | val (v:AV)
 | skip
 | new (cs:List AV)
 | newv (sz:Nat) (rows:List (List PV))
def Ey.v (b:Nat×Nat):Ey→AV
 | .val v=>v
 | .skip=> .tup []
 | .new _=> .ptr b.1 0
 | .newv _ rows=> .vs (some b.1) rows.length b.2
def Ey.box (b:Nat×Nat):Ey→List BR
 | .new cs=>[.box b.1 cs]
 | .newv sz rows=>[.vec (some b.1) sz rows b.2]
 | _=>[]
def la (P:Program) (ops:Array Oper) (H₀:List BR) (o:Oper) (τ:Nat→AV):Ey→Prop
 | .val v=>DB ops ⟨0,τ,[],[]⟩ o∧∀Bs,D4 P o (ev τ) (Bs++H₀) v (Bs++H₀)
 | .skip=>∃j want d,o.guard=some (j,want)∧(ops[j]?).bind (·.dst)=some d∧gm (τ d) want
 | .new cs=>o.guard=none∧∀Bs,Dd P o (ev τ) (Bs++H₀) (Iw cs (Bs++H₀))
 | .newv sz rows=>o.guard=none∧∀Bs,Dd P o (ev τ) (Bs++H₀) (MM sz rows (Bs++H₀))
def EW (P:Program) (ops:Array Oper) (H₀:List BR):Nat→(Nat→AV)→List Ey→((Nat→AV)→List BR→Prop)→Prop
 | _,τ,[],K=>K τ []
 | k,τ,e::r,K=>∃o,ops[k]?=some o∧la P ops H₀ o τ e∧∀b,EW P ops H₀ (k+1) (put τ o.dst (e.v b)) r (fun τ' Hs=>K τ' (e.box b++Hs))
def O3 (β:Nat→Nat×Nat):Nat→List Ey→List Sp
 | _,[]=>[]
 | k,e::r=> .free (e.v (β k))::O3 β (k+1) r
def oY (β:Nat→Nat×Nat):Nat→List Ey→List BR
 | _,[]=>[]
 | k,e::r=>e.box (β k)++oY β (k+1) r
def XY (β:Nat→Nat×Nat) (l:Nat→Bool):Nat→List Ey→List BR
 | _,[]=>[]
 | k,e::r=>(if l k=true then e.box (β k) else [])++XY β l (k+1) r
theorem QX (β:Nat→Nat×Nat):∀(r:List Ey) (k j:Nat),j<r.length→(O3 β k r).getD j .skip= .free ((r.getD j .skip).v (β (k+j)))
 | [],k,j,h=>by simp at h
 | e::r,k,0,h=>by simp[O3]
 | e::r,k,j+1,h=>by
  have:=QX β r (k+1) j (by simpa using h);simp only[O3,List.getD_cons_succ];rw[this,show k+1+j=k+(j+1) by omega]
theorem ZP (β:Nat→Nat×Nat):∀(r:List Ey) (k:Nat),(O3 β k r).length=r.length
 | [],k=>rfl
 | e::r,k=>by simp[O3,ZP β r (k+1)]
theorem Zn (β:Nat→Nat×Nat) {r:List Ey}{k j:Nat}(h:r.length≤j):(O3 β k r).getD j .skip= .skip:=by
 rw[List.getD_eq_getElem?_getD,List.getElem?_eq_none (by rw[ZP];exact h)];rfl
theorem iw (β:Nat→Nat×Nat) (r:List Ey) (k j:Nat):((O3 β k r).getD j .skip).isEff=false:=by
 rcases Nat.lt_or_ge j r.length with h | h
 ·rw[QX β r k j h];rfl
 rw[Zn β h];rfl
theorem eI (β:Nat→Nat×Nat) (r:List Ey) (k j:Nat) (ob:List BR) (v:AV):(O3 β k r).getD j .skip≠ .read ob v:=by
 rcases Nat.lt_or_ge j r.length with h | h
 ·rw[QX β r k j h];simp
 rw[Zn β h];simp
theorem Ql (β:Nat→Nat×Nat) {r:List Ey}{j:Nat}(h:j<r.length):((O3 β 0 r).getD j .skip).val=(r.getD j .skip).v (β j):=by
 rw[QX β r 0 j h,Nat.zero_add];rfl
theorem EW.facts {P:Program}{ops:Array Oper}{H₀:List BR}{τ:Nat→AV}{base:List Ey}(β:Nat→Nat×Nat):∀(r:List Ey) (k:Nat) (τk:Nat→AV) (K:(Nat→AV)→List BR→Prop),base.drop k=r→k+r.length=base.length→τk=τS ops (O3 β 0 base) τ k→EW P ops H₀ k τk r K →
  (∀j,k≤j→j<base.length→∃o,ops[j]?=some o∧la P ops H₀ o (τS ops (O3 β 0 base) τ j) (base.getD j .skip))∧K (τS ops (O3 β 0 base) τ base.length) (oY β k r)
 | [],k,τk,K,hd,hk,ht,h=>by
  simp only[List.length_nil,Nat.add_zero] at hk;subst hk;exact⟨fun j h1 h2=>by omega,by rw[←ht];exact h⟩
 | e::r,k,τk,K,hd,hk,ht,h=>by
  obtain⟨o,ho,hok,hn⟩:=h;simp only[List.length_cons] at hk;have hb:base.getD k .skip=e:=by
   have:(base.drop k)[0]?=some e:=by rw[hd];rfl
   rw[List.getElem?_drop] at this;rw[List.getD_eq_getElem?_getD,show k=k+0 by omega,this];rfl
  have hd2:base.drop (k+1)=r:=by
   rw[←List.drop_drop,hd];rfl
  obtain⟨h1,h2⟩:=EW.facts (τ:=τ) (base:=base) β r (k+1) _ _ hd2 Ax (by simp only[τS,ho,Option.bind_some];rw[Ql β Ax,hb,←ht]) (hn (β k));refine⟨fun j hj hl=>?_,h2⟩;by_cases e2:j=k
  ·subst e2;exact⟨o,ho,by rw[hb,←ht];exact hok⟩
  exact h1 j Ax hl
theorem Pj {β β':Nat→Nat×Nat}{l l':Nat→Bool}:∀(r:List Ey) (k:Nat),(∀j,k≤j→l j=l' j∧(l j=true→β j=β' j))→XY β l k r=XY β' l' k r
 | [],k,h=>rfl
 | e::r,k,h=>by
  simp only[XY];obtain⟨h1,h2⟩:=h k (Nat.le_refl _);rw[Pj r (k+1) fun j hj=>h j Ax,←h1];cases hl:l k
  ·rfl
  rw[h2 hl]
theorem Zy {β:Nat→Nat×Nat}{l:Nat→Bool}{i:Nat}{b:Nat×Nat}(hi:l i=false):∀(r:List Ey) (k:Nat),k≤i→i<k+r.length→((r.getD (i - k) .skip).box b++XY β l k r).Perm (XY (fun j=>if j=i then b else β j) (fun j=>l j||j==i) k r)
 | [],k,h1,h2=>by simp at h2;omega
 | e::r,k,h1,h2=>by
  simp only[XY];by_cases hk:k=i
  ·subst hk;simp only[hi,Bool.false_eq_true,if_false,List.nil_append,Nat.sub_self,List.getD_cons_zero,beq_self_eq_true,Bool.or_true,if_true];rw[Pj (β':=fun j=>if j=k then b else β j) (l':=fun j=>l j||j==k) r (k+1) fun j hj=>⟨by simp[show (j==k)=false by simp;omega],fun _=>by rw[if_neg Ax]⟩]
  have hp:=Zy (β:=β) hi r (k+1) (b:=b) Ax (by simp only[List.length_cons] at h2;omega);have e1:(e::r).getD (i - k) .skip=r.getD (i - (k+1)) .skip:=by
   rw[show i - k=(i - (k+1))+1 by omega];rfl
  have e2:(if (l k||k==i)=true then e.box (if k=i then b else β k) else [])=(if l k=true then e.box (β k) else []):=by
   rw[if_neg hk];simp[hk]
  rw[e1,e2];refine List.Perm.trans ?_ (hp.append_left _);rw[←List.append_assoc,←List.append_assoc];exact List.perm_append_comm.append_right _
theorem ZA {β:Nat→Nat×Nat}{l:Nat→Bool}:∀(r:List Ey) (k:Nat),(∀j,k≤j→j<k+r.length→l j=true)→XY β l k r=oY β k r
 | [],k,h=>rfl
 | e::r,k,h=>by
  simp only[XY,oY];rw[if_pos (h k (Nat.le_refl _) Ay),ZA r (k+1) fun j h1 h2=>h j Ax (by simp only[List.length_cons];omega)]
theorem XI {β:Nat→Nat×Nat}{l:Nat→Bool}:∀(r:List Ey) (k:Nat),(∀j,l j=false)→XY β l k r=[]
 | [],k,h=>rfl
 | e::r,k,h=>by simp only[XY];rw[XI r (k+1) h,h k];rfl
def ko (ops:Array Oper) (e:Nat):Bool:=(List.range ops.size).all fun i=>Nat.blt i e||(List.range i).all fun j=>M7 ops j i
theorem Q1 {ops:Array Oper}{e:Nat}(h:ko ops e=true) {i j:Nat}(hi:e≤i) (hs:i<ops.size) (hj:j<i):Pred ops j i:=by
 have:=List.all_eq_true.1 h i (by simpa using hs);simp only[Bool.or_eq_true] at this;rcases this with h1 | h1
 ·rw[Nat.blt_eq] at h1;omega
 exact FC (List.all_eq_true.1 h1 j (by simpa using hj))
theorem UO {P:Program}{r:Option Nat}{ops:Array Oper}{id n:Nat}{τ:Nat→AV}{H:List BR}{D:List Ee}{Q:DC→B5→Prop}(base:List Ey) (hm:P.follows .mixedOrders=true)
  (he:Nat.ble base.length ops.size=true) (chk:Ng ops n []=true) (late:ko ops base.length=true) (h:EW P ops H 0 τ base (fun τ' Hs=>AL P r ops base.length ⟨n,τ',Hs++H,D⟩ Q)):JR P r (.region id ops true) ⟨n,τ,H,D⟩ Q:=by
 intro F₀ a₀ w₀ hs₀;rw[Nat.ble_eq] at he;refine wpIn_region_any hm ?_;have same:Dl F₀ w₀ F₀ { w₀ with drawn:=w₀.drawn+1 }:=⟨Nat.le_refl _,fun _ _ _=>rfl,fun _ h _=>h⟩;have t₀:Trans F₀ H w₀ F₀ H { w₀ with drawn:=w₀.drawn+1 } :=
  ⟨Nat.le_refl _,fun _ _ _=>rfl,fun _ h _=>h,fun _ h=> .inl h,fun o ho b hb=> .inl ⟨o,ho,hb⟩,rfl,rfl,rfl⟩
 have hs₁:Dy F₀ ⟨n,τ,H,D⟩ a₀ { w₀ with drawn:=w₀.drawn+1 } :=
  ⟨hs₀.size,fun t=>CW.mono same _ _ (hs₀.tmp t),hs₀.heap.stable' same (fun _ h=>h) (fun _ _ _ _=>rfl) hs₀.heap.bd,Ff.mono same _ _ hs₀.defs⟩
 obtain⟨hdst,c0,c1,c2,_⟩:=KP chk;have hd:∀β,Nx P ops n (fun _=>False) τ H (O3 β 0 base):=fun β =>
  ⟨hdst,fun _ _ _ h=>h.elim,c0,c1,c2,fun i k _ _ h _=>(by rw[iw] at h;cases h),fun i e ob v _ _ _ h _ _=>absurd h (eI β base 0 i ob v)⟩
 have hE:∀β,(∀j,j<base.length→∃o,ops[j]?=some o∧la P ops H o (τS ops (O3 β 0 base) τ j) (base.getD j .skip))∧AL P r ops base.length ⟨n,τS ops (O3 β 0 base) τ base.length,oY β 0 base++H,D⟩ Q:=fun β=>by
  obtain⟨h1,h2⟩:=EW.facts (base:=base) β base 0 τ _ Ay Ay rfl h;exact⟨fun j hj=>h1 j (Nat.zero_le _) hj,h2⟩
 -- where all of the first part has been carried out,the rest goes in the order of the text
 have conv:∀{l:Array Bool} {a w β τ' F Hb},(∀j,j<base.length→l.getD j false=true)→(∀k,base.length≤k→l.getD k false=false)→Gs ops (O3 β 0 base) τ (fun i=>l.getD i false=true) τ'→Hb.Perm (XY β (fun k=>l.getD k false) 0 base)→Dy F ⟨n,τ',Hb++H,D⟩ a w→Trans F₀ H w₀ F (Hb++H) w →
   wpOpsIn (W r) 0 P ops (post F₀ H w₀ Q) (List.range' base.length (ops.size - base.length)) a w:=by
  intro l a w β τ' F Hb hall hno hτ hp hs ht;have hτe:τ'=τS ops (O3 β 0 base) τ base.length:=by
   funext t;have h2:=MY (hd β) base.length he t;by_cases hw:∃(k:Nat) (o':Oper),ops[k]?=some o'∧o'.dst=some t∧k<base.length
   ·obtain⟨k,o',ho',hk,hlt⟩:=hw;rw[(hτ t).1 k o' ho' hk (hall k hlt),h2.1 k o' ho' hk hlt]
   have hw':∀(k:Nat) o',ops[k]?=some o'→o'.dst=some t→¬k<base.length:=fun k o' h1 h2 h3=>hw ⟨k,o',h1,h2,h3⟩;rw[(hτ t).2 fun k o' h1 h2 h3=>(by have h4:l.getD k false=true:=h3;have:=hno k (by have:=hw' k o' h1 h2;omega);rw[this] at h4;cases h4),h2.2 fun k o' h1 h2 h3=>hw' k o' h1 h2 h3]
  rw[ZA base 0 fun j _ hj=>hall j Ax] at hp;have hp2:=hp.append_right H;have:=(hE β).2 F a w (by rw[←hτe];exact⟨hs.size,hs.tmp,hs.heap.perm hp2,hs.defs⟩);refine FE (fun e a' w' hq=>?_) _ _ _ this;exact HQ hs₀.heap.bd { ht with keys:=fun o ho=>ht.keys o (hp2.mem_iff.2 ho) } hq
 refine KJ (I:=fun l a w=>l.size=ops.size∧((∃β τ' F Hb,Down ops (fun i=>l.getD i false=true)∧(∀k,base.length≤k→l.getD k false=false)∧Gs ops (O3 β 0 base) τ (fun i=>l.getD i false=true) τ'∧Hb.Perm (XY β (fun k=>l.getD k false) 0 base)∧Dy F ⟨n,τ',Hb++H,D⟩ a w∧Trans F₀ H w₀ F (Hb++H) w) ∨
  (∃m,base.length≤m∧m≤ops.size∧(∀k,k<ops.size→(l.getD k false=true↔k<m))∧wpOpsIn (W r) 0 P ops (post F₀ H w₀ Q) (List.range' m (ops.size - m)) a w))) (fun l a w h=>h.1) ?_ ?_ _ _ _ _ ?_ ?_
 ·rintro l a w ⟨hsz,hI⟩ i hi;obtain⟨hun,o,ho,hall⟩:=mem_ready.1 hi;have hlt:i<ops.size:=by
   rcases Nat.lt_or_ge i ops.size with h | h
   ·exact h
   simp[Array.getElem?_eq_none h] at ho
  have hil:i<l.size:=by omega
  have hnot:l.getD i false=false:=by
   have:l[i]=false:=by simpa [hil] using hun
   simp[hil,this]
  have hr:∀j∈EX o,l.getD j false=true:=by
   intro j hj;simp only[EX,List.mem_map,List.mem_filter] at hj;obtain⟨e,⟨he,hb⟩,rfl⟩:=hj;exact hall e (by simpa using he) hb
  have hset:∀k,(l.setIfInBounds i true).getD k false=true↔(l.getD k false=true∨k=i):=by
   intro k;by_cases hk:k=i
   ·subst hk;simp[hil]
   simp[Array.getElem?_setIfInBounds_ne (Ne.symm hk),hk]
  have hset2:∀k,(l.setIfInBounds i true).getD k false=(l.getD k false||k==i):=by
   intro k;by_cases hk:k=i
   ·subst hk;simp[hil]
   simp[Array.getElem?_setIfInBounds_ne (Ne.symm hk),hk]
  have hsz':(l.setIfInBounds i true).size=ops.size:=by simp[hsz]
  have goLate:∀m,i=m→base.length≤m→m≤ops.size→(∀k,k<ops.size→(l.getD k false=true↔k<m))→wpOpsIn (W r) 0 P ops (post F₀ H w₀ Q) (List.range' m (ops.size - m)) a w →
    wpOpIn (W r) 0 P ops (post F₀ H w₀ Q) i (fun a w=>(l.setIfInBounds i true).size=ops.size∧((∃β τ' F Hb,Down ops (fun k=>(l.setIfInBounds i true).getD k false=true)∧(∀k,base.length≤k→(l.setIfInBounds i true).getD k false=false)∧Gs ops (O3 β 0 base) τ (fun k=>(l.setIfInBounds i true).getD k false=true) τ'∧Hb.Perm (XY β (fun k=>(l.setIfInBounds i true).getD k false) 0 base)∧Dy F ⟨n,τ',Hb++H,D⟩ a w∧Trans F₀ H w₀ F (Hb++H) w) ∨
     (∃m,base.length≤m∧m≤ops.size∧(∀k,k<ops.size→((l.setIfInBounds i true).getD k false=true↔k<m))∧wpOpsIn (W r) 0 P ops (post F₀ H w₀ Q) (List.range' m (ops.size - m)) a w))) a w:=by
   intro m him h1 h2 h3 hw;subst him;rw[LF hlt,wpOpsIn_cons] at hw;refine wpOpIn_mono (fun a' w' h'=>⟨hsz',.inr ⟨i+1,by omega,by omega,fun k hk=>?_,h'⟩⟩) hw;rw[hset k,h3 k hk];omega
  rcases hI with ⟨β,τ',F,Hb,hdown,hno,hτ,hp,hs,ht⟩ | ⟨m,hm1,hm2,hm3,hw⟩
  ·rcases Nat.lt_or_ge i base.length with hib | hib
   ·-- of the first part
    obtain⟨o',ho',hok⟩:=(hE β).1 i hib;rw[ho] at ho';injection ho' with ho';subst ho';have hlook:∀t∈looks ops o,τ' t=τS ops (O3 β 0 base) τ i t:=fun t ht=>KI (hd β) hdown hτ ho (by rw[hnot];decide) hr ht;have hops:∀x∈o.op.operands.toList,ev τ' x=ev (τS ops (O3 β 0 base) τ i) x:=by
     intro x hx;cases x with
     | tmp t=>exact hlook t (List.mem_append_left _ (List.mem_filterMap.2 ⟨.tmp t,hx,rfl⟩))
     | _=>rfl
    have hguard:∀j want d,o.guard=some (j,want)→(ops[j]?).bind (·.dst)=some d→τ' d=τS ops (O3 β 0 base) τ i d:=by
     intro j want d hg hj;refine hlook d (List.mem_append_right _ ?_);simp[hg,hj]
    have hdown':Down ops (fun k=>(l.setIfInBounds i true).getD k false=true):=by
     intro k o' j ho' hk hj;rcases (hset k).1 hk with h | h
     ·exact(hset j).2 (.inl (hdown k o' j ho' h hj))
     subst h;rw[ho] at ho';injection ho' with ho';subst ho';exact(hset j).2 (.inl (hr j hj))
    have hno':∀k,base.length≤k→(l.setIfInBounds i true).getD k false=false:=by
     intro k hk;rw[hset2 k,hno k hk];simp;omega
    generalize hbe:base.getD i .skip=e at hok;have close:∀{a' w' F' b H'},H'=e.box b++(Hb++H)→Dy F' ⟨n,put τ' o.dst (e.v b),H',D⟩ a' w'→Trans F (Hb++H) w F' H' w' →
      (l.setIfInBounds i true).size=ops.size∧((∃β τ' F Hb,Down ops (fun k=>(l.setIfInBounds i true).getD k false=true)∧(∀k,base.length≤k→(l.setIfInBounds i true).getD k false=false)∧Gs ops (O3 β 0 base) τ (fun k=>(l.setIfInBounds i true).getD k false=true) τ'∧Hb.Perm (XY β (fun k=>(l.setIfInBounds i true).getD k false) 0 base)∧Dy F ⟨n,τ',Hb++H,D⟩ a' w'∧Trans F₀ H w₀ F (Hb++H) w') ∨
       (∃m,base.length≤m∧m≤ops.size∧(∀k,k<ops.size→((l.setIfInBounds i true).getD k false=true↔k<m))∧wpOpsIn (W r) 0 P ops (post F₀ H w₀ Q) (List.range' m (ops.size - m)) a' w')):=by
     intro a' w' F' b H' hH h3 h4;subst hH;refine⟨hsz',.inl ⟨fun j=>if j=i then b else β j,put τ' o.dst (e.v b),F',e.box b++Hb,hdown',hno',?_,?_,by rw[List.append_assoc];exact h3,by rw[List.append_assoc];exact ht.trans hs₀.heap.bd h4⟩⟩
     ·have hτ2:Gs ops (O3 (fun j=>if j=i then b else β j) 0 base) τ (fun k=>l.getD k false=true) τ':=by
       intro t;refine⟨fun k o' a1 a2 a3=>?_,(hτ t).2⟩;have a4:l.getD k false=true:=a3;have hki:k≠i:=fun e=>by subst e;rw[hnot] at a4;cases a4
       rw[(hτ t).1 k o' a1 a2 a3];rcases Nat.lt_or_ge k base.length with hk | hk
       ·rw[Ql _ hk,Ql _ hk,if_neg hki]
       have:=hno k hk;rw[this] at a4;cases a4
      have hτ3:=hτ2.put (hd _) ho;rw[Ql _ hib,if_pos rfl,hbe] at hτ3;intro t;exact⟨fun k o' a1 a2 a3=>(hτ3 t).1 k o' a1 a2 ((hset k).1 a3),fun hn=>(hτ3 t).2 fun k o' a1 a2 a3=>hn k o' a1 a2 ((hset k).2 a3)⟩
     have h1:=Zy (β:=β) (l:=fun k=>l.getD k false) (i:=i) (b:=b) hnot base 0 (Nat.zero_le _) Ax;rw[Nat.sub_zero,hbe] at h1;refine(hp.append_left _).trans (h1.trans (List.Perm.of_eq ?_));exact Pj base 0 fun j _=>⟨(hset2 j).symm,fun _=>O⟩
    have wants:DB ops ⟨0,τS ops (O3 β 0 base) τ i,[],[]⟩ o→DB ops ⟨n,τ',Hb++H,D⟩ o:=by
     intro h;unfold DB at *;cases hg:o.guard with
     | none=>simp[hg]
     | some jw =>
      obtain⟨j,want⟩:=jw;simp only[hg] at h ⊢;obtain⟨d,h1,h2⟩:=h;exact⟨d,h1,by rw[←h2];exact hguard j want d hg h1⟩
    have yields:DB ops ⟨n,τ',Hb++H,D⟩ o→Dd P o (ev (τS ops (O3 β 0 base) τ i)) (Hb++H) (fun r H'=>match r with | .val v=>∃b,v=e.v b∧H'=e.box b++(Hb++H) | .panic _=>False)→wpOpIn (W r) 0 P ops (post F₀ H w₀ Q) i (fun a' w'=>(l.setIfInBounds i true).size=ops.size∧((∃β τ' F Hb,Down ops (fun k=>(l.setIfInBounds i true).getD k false=true)∧(∀k,base.length≤k→(l.setIfInBounds i true).getD k false=false)∧Gs ops (O3 β 0 base) τ (fun k=>(l.setIfInBounds i true).getD k false=true) τ'∧Hb.Perm (XY β (fun k=>(l.setIfInBounds i true).getD k false) 0 base)∧Dy F ⟨n,τ',Hb++H,D⟩ a' w'∧Trans F₀ H w₀ F (Hb++H) w') ∨
       (∃m,base.length≤m∧m≤ops.size∧(∀k,k<ops.size→((l.setIfInBounds i true).getD k false=true↔k<m))∧wpOpsIn (W r) 0 P ops (post F₀ H w₀ Q) (List.range' m (ops.size - m)) a' w'))) a w:=by
     intro hwant hop;unfold wpOpIn;simp only[ho,IP hs hwant,if_true];have hw:=hop r F _ a w hs rfl (fun x hx=>hops x hx) (fun t ht=>hdst i o t ho ht);unfold Oper.wpIn at *;refine⟨hw.1,?_⟩;replace hw:=hw.2;generalize (o.semAt (W r).round a.eval).run P w=rr at *;cases rr with
     | ok nx w' =>
      cases nx<;>simp only[Oper.uponIn] at hw ⊢
      case value u=>obtain⟨v',H'',F',⟨b,h1,h2⟩,h3,h4⟩:=hw;subst h1;exact close h2 h3 h4
      case skip=>obtain⟨v',H'',F',⟨b,h1,h2⟩,h3,h4⟩:=hw;subst h1;exact close h2 h3 h4
      case defer d=>obtain⟨v',H'',F',⟨b,h1,h2⟩,h3,h4⟩:=hw;subst h1;exact close h2 h3 h4
      case enter f args =>
       refine⟨hw.1,hw.2.mono fun e w'' he=>?_⟩;cases e with
       | returned u=>obtain⟨v',H'',F',⟨b,h1,h2⟩,h3,h4⟩:=he;subst h1;exact close h2 h3 h4
       | panicked c=>obtain⟨_,_,_,_,h,_⟩:=he;exact h.elim
       | outgrown=>obtain⟨_,_,_,_,_,_,h,_⟩:=he;exact h.elim
      case row row args=>exact⟨hw.1,hw.2.mono fun u w'' h=>by obtain⟨v',H'',F',⟨b,h1,h2⟩,h3,h4⟩:=h;subst h1;exact close h2 h3 h4⟩
      case round l' f tmps assign body =>
       refine⟨hw.1,hw.2.mono fun e w'' he=>?_⟩;cases e with
       | returned u=>obtain⟨v',H'',F',⟨b,h1,h2⟩,h3,h4⟩:=he;subst h1;exact close h2 h3 h4
       | panicked c=>obtain⟨_,_,_,_,h,_⟩:=he;exact h.elim
       | outgrown=>obtain⟨_,_,_,_,_,_,h,_⟩:=he;exact h.elim
     | halt x w' =>
      cases x<;>simp only[Oper.uponIn] at hw ⊢
      case panic u=>obtain⟨_,_,_,_,h,_⟩:=hw;exact h.elim
    cases e with
    | val v=>exact yields (wants hok.1) ((hok.2 Hb).mono (by
      intro r H' hR;cases r with
      | val v'=>obtain⟨rfl,rfl⟩:=hR;exact⟨(0,0),rfl,rfl⟩
      | panic v'=>exact hR.elim))
    | new cs =>
     refine yields (by unfold DB;rw[hok.1];trivial) ((hok.2 _).mono ?_);intro r H' hR;cases r with
     | val v'=>obtain⟨b,rfl,rfl⟩:=hR;exact⟨(b,0),rfl,rfl⟩
     | panic v'=>exact hR.elim
    | newv sz rows =>
     refine yields (by unfold DB;rw[hok.1];trivial) ((hok.2 _).mono ?_);intro r H' hR;cases r with
     | val v'=>obtain⟨b,c,rfl,rfl⟩:=hR;exact⟨(b,c),rfl,rfl⟩
     | panic v'=>exact hR.elim
    | skip =>
     obtain⟨j,want,d,hg,hj,hb⟩:=hok;have hw:Region.wanted o (yielded ops a.tmps)=false:=KZ (S:=⟨n,τ',Hb++H,D⟩) hs hg hj (by show gm (τ' d) want;rw[hguard j want d hg hj];exact hb);unfold wpOpIn;simp only[ho,hw,Bool.false_eq_true,if_false];refine⟨fun _ _=>Az,close (b:=(0,0)) O ?_ .refl⟩;exact hs.put (fun t ht=>hdst i o t ho ht) ⟨Nat.le_refl _,fun _ _ _=>O,fun _ h _=>h⟩ hs.heap (by simp only[Ey.v,CW,CB,undef];exact⟨[],rfl,rfl⟩)
   -- the first of the rest
   have hpre:∀j,j<i→l.getD j false=true:=by
    intro j hj;have hpi:=Q1 late hib hlt hj;have:∀{a b},Pred ops a b→b=i→l.getD a false=true:=by
     intro a b hab
     induction hab with
     | base ho' hj=>intro e;subst e;rw[ho] at ho';injection ho' with ho';subst ho';exact hr _ hj
     | trans p1 _ _ ih2=>intro e;exact hdown.pred p1 (ih2 e)
    exact this hpi O
   have hie:i=base.length:=by
    rcases Nat.lt_or_ge base.length i with h | h
    ·have h1:=hpre base.length h;rw[hno base.length (Nat.le_refl _)] at h1;cases h1
    omega
   refine goLate base.length hie (Nat.le_refl _) he (fun k hk=>⟨fun h=>?_,fun h=>hpre k Ax⟩) (conv (fun j hj=>hpre j Ax) hno hτ hp hs ht);rcases Nat.lt_or_ge k base.length with h' | h'
   ·exact h'
   rw[hno k h'] at h;cases h
  have hmi:m≤i:=by
   rcases Nat.lt_or_ge i m with h | h
   ·have:=(hm3 i hlt).2 h;rw[hnot] at this;cases this
   exact h
  have him:i=m:=by
   rcases Nat.lt_or_ge m i with h | h
   ·have hpi:=Q1 late (by omega:base.length≤i) hlt h;have hdown:∀{a b},Pred ops a b→b=i→l.getD a false=true:=by
     intro a b hab
     induction hab with
     | base ho' hj=>intro e;subst e;rw[ho] at ho';injection ho' with ho';subst ho';exact hr _ hj
     | @trans a k b p1 p2 _ ih2 =>
      intro e;have hk:=ih2 e;have hks:k<ops.size:=by
       rcases Nat.lt_or_ge k ops.size with h | h
       ·exact h
       have:l.getD k false=false:=by
        have:¬k<l.size:=by omega
        simp[this]
       rw[this] at hk;cases hk
      have hkm:=(hm3 k hks).1 hk;have hak:a<k:=Pred.lt (hd fun _=>(0,0)) p1;exact(hm3 a Ax).2 Ax
    have:=(hm3 m Ax).1 (hdown hpi rfl);omega
   omega
  exact goLate m him hm1 hm2 hm3 hw
 ·rintro l a w ⟨hsz,hI⟩ hr;have hall:∀i,i<ops.size→l.getD i false=true:=by
   intro i
   induction i using Nat.strongRecOn with
   | _ i ih =>
    intro hi;cases hq:l.getD i false with
    | true=>rfl
    | false =>
     have ho:ops[i]?=some ops[i]:=Array.getElem?_eq_getElem hi;have:i∈Region.ready .any ops l:=by
      refine mem_ready.2 ⟨?_,ops[i],ho,?_⟩
      ·have:i<l.size:=by omega
       simp[this] at hq ⊢;exact hq
      intro e he hb;have hj:e.on∈EX ops[i]:=by
       simp only[EX,List.mem_map,List.mem_filter];exact⟨e,⟨by simpa using he,hb⟩,rfl⟩
      have hlt:=c0 i _ _ ho hj;exact ih e.on hlt Ax
     rw[hr] at this;cases this
  rcases hI with ⟨β,τ',F,Hb,hdown,hno,hτ,hp,hs,ht⟩ | ⟨m,hm1,hm2,hm3,hw⟩
  ·have hbs:base.length=ops.size:=by
    rcases Nat.lt_or_ge base.length ops.size with h | h
    ·have:=hall base.length h;rw[hno base.length (Nat.le_refl _)] at this;cases this
    omega
   have:=conv (fun j hj=>hall j Ax) hno hτ hp hs ht;rw[hbs,Nat.sub_self] at this;exact this
  have hms:m=ops.size:=by
   rcases Nat.lt_or_ge m ops.size with h | h
   ·have:=(hm3 m h).1 (hall m h);omega
   omega
  rw[hms,Nat.sub_self] at hw;exact hw
 ·refine⟨by simp,.inl ⟨fun _=>(0,0),τ,F₀,[],?_,?_,?_,?_,hs₁,t₀⟩⟩
  ·intro i o j ho hi;by_cases h:i<ops.size<;>simp[h] at hi
  ·intro k _;by_cases h:k<ops.size<;>simp[h]
  ·intro t;refine⟨fun k o ho hk hl=>?_,fun _=>O⟩;by_cases h:k<ops.size<;>simp[h] at hl
  rw[XI base 0 fun j=>by by_cases h:j<ops.size<;>simp[h]]
 have:=List.length_filter_le (fun b:Bool=> !b) (Array.replicate ops.size false).toList;simp at this ⊢
section
variable {P:Program}{ops:Array Oper}{H₀:List BR}{k:Nat}{τ:Nat→AV}{r:List Ey}{K:(Nat→AV)→List BR→Prop}{dst:Option Tmp}{op:Op}{ty:TypeId}{pos:String}{aft:Array Edge}{v:AV}
theorem D7 (ho:ops[k]?=some ⟨dst,op,ty,pos,aft,none⟩) (h:∀Bs,D4 P ⟨dst,op,ty,pos,aft,none⟩ (ev τ) (Bs++H₀) v (Bs++H₀)) (next:EW P ops H₀ (k+1) (put τ dst v) r K):EW P ops H₀ k τ (.val v::r) K :=
 ⟨_,ho,⟨trivial,h⟩,fun _=>next⟩
theorem YA {cs:List AV}(ho:ops[k]?=some ⟨dst,op,ty,pos,aft,none⟩) (h:∀Bs,Dd P ⟨dst,op,ty,pos,aft,none⟩ (ev τ) (Bs++H₀) (Iw cs (Bs++H₀))) (next:∀b,EW P ops H₀ (k+1) (put τ dst (.ptr b 0)) r (fun τ' Hs=>K τ' (.box b cs::Hs))):EW P ops H₀ k τ (.new cs::r) K :=
 ⟨_,ho,⟨rfl,h⟩,fun b=>next b.1⟩
theorem YV (h:K τ []):EW P ops H₀ k τ [] K:=h
theorem Ck {α:Type}{Bs H:List α}{j:Nat}{x:α}(h:H[j]?=some x):(Bs++H)[Bs.length+j]?=some x:=by
 rw[List.getElem?_append_right Ax,Nat.add_sub_cancel_left];exact h
end
def ow (ops:Array Oper) (k:Nat) (ef:Va):List BR→Prop
 | []=>True
 | ob::r=>YQ ops k ob ef∧ow ops k ef r
section
variable {P:Program}{ops:Array Oper}{n:Nat}{τ₀:Nat→AV}{D:List Ee}{Q:DC→B5→Prop}{opn:Nat→Bool}{k:Nat}{τ:Nat→AV}{H Hs:List BR}{rd:XW}{ef:Va}{effs:List Bool}{fx:List (Nat×Sp)}{dst:Option Tmp}{ty:TypeId}{pos:String}{aft:Array Edge}{v:AV}{c:Call}{f:Operand}{fid:FuncId}{first caps A:List AV}
end
def qU (P:Program) (T:TypeId):Bool :=
 match P.underlying T with
 | some (.struct fs)=>match fs.toList with
  | [f,g]=>f.name != "_" &&g.name != "_" &&Nat.beq f.offset 0&&Nat.beq g.offset 1&&(match P.underlying f.type,P.underlying g.type with | some (.int .i64),some .bool=>true | _,_=>false)&& !P.stoodInHeld T&& !P.eqGuardType P.depth T
  | _=>false
 | _=>false
section
variable {P:Program}{dst:Option Tmp}{ty:TypeId}{pos:String}{aft:Array Edge}{g:Option (Nat×Bool)}{ρ:Operand→AV}{H:List BR}{x y z:Operand}{v:AV}
end
theorem Ut {α:Type}{base T xs:List α}{is:List Nat}(hn:is.Nodup) (h:Fj base is xs):(base++T).Perm (xs++(DN is 0 base++T)):=by
 rw[←List.append_assoc];exact(Di hn h).append_right T
theorem Sl {α:Type}{base T xs rest:List α}{is:List Nat}(hn:is.Nodup) (h:Fj base is xs) (hd:DN is 0 base=rest):(base++T).Perm (xs++(rest++T)):=by
 subst hd;exact Ut hn h
theorem LR {P:Program}{fn:Func}{R:Eg→List BR→Prop}{S:B5}{Hs:List BR}(h:L6 P fn S R [] .ret Hs):∀U:List Nat,L6 P fn S R (U.map .mark) .ret (Hs++U.map .dfr)
 | []=>by simpa using h
 | d::U=>by
  refine⟨Hs.length,by simp,?_⟩;have:(Hs++(d::U).map BR.dfr).eraseIdx Hs.length=Hs++U.map BR.dfr:=by
   rw[List.eraseIdx_append_of_length_le (Nat.le_refl _)];simp
  rw[this];exact LR h U
theorem P8 {P:Program}{fn:Func}{R:Eg→List BR→Prop}{n:Nat}{τ:Nat→AV}(U:List Nat) {Hs:List BR}(h:L6 P fn ⟨n,τ,Hs++U.map .dfr,U.map .mark⟩ R [] .ret Hs):fY P fn R .ret ⟨n,τ,Hs++U.map .dfr,U.map .mark⟩ :=
 LR h U
theorem W5 {P:Program}{l d i:Nat}{S:B5}{Q:DC→B5→Prop}{v:AV}{H':List BR}{L:OK}(H2:List BR) (h1:H'[i]?=some (.loop l L)) (hs:L.state≠ .busy) (hp:L.pending=none) (he:H'.eraseIdx i=H2) (h:Q .normal ⟨S.n,S.τ,H2,.mark d::S.D⟩):Uc P l d S Q (.val v) H':=by
 subst he;exact⟨i,L,h1,hs,by rw[hp];exact h⟩
theorem YW {P:Program}{l d i:Nat}{S:B5}{Q:DC→B5→Prop}{v:AV}{H':List BR}{L:OK}(H2:List BR) (h1:H'[i]?=some (.loop l L)) (hs:L.state≠ .busy) (hp:L.pending=some .ret) (he:H'.eraseIdx i=H2) (h:JR P none .ret ⟨S.n,S.τ,H2,.mark d::S.D⟩ Q):Uc P l d S Q (.val v) H':=by
 subst he;exact⟨i,L,h1,hs,by rw[hp];exact h⟩
abbrev BV:=Nat×Nat×AV
inductive Ez where
 | val (v:AV)
 | skip
 | new (cs:List AV)
 | newv (sz:Nat) (rows:List (List PV))
 | rel (R:AV→Prop)
def Ez.v (b:BV):Ez→AV
 | .val v=>v
 | .skip=> .tup []
 | .new _=> .ptr b.1 0
 | .newv _ rows=> .vs (some b.1) rows.length b.2.1
 | .rel _=>b.2.2
def Ez.box (b:BV):Ez→List BR
 | .new cs=>[.box b.1 cs]
 | .newv sz rows=>[.vec (some b.1) sz rows b.2.1]
 | _=>[]
def Ez.ok (b:BV):Ez→Prop
 | .rel R=>R b.2.2
 | _=>True
def cJ:List Ez→Prop
 | []=>True
 | .rel R::r=>(∃v,R v)∧cJ r
 | _::r=>cJ r
def W9 (P:Program) (ops:Array Oper) (H₀:List BR) (o:Oper) (τ:Nat→AV):Ez→Prop
 | .val v=>DB ops ⟨0,τ,[],[]⟩ o∧∀Bs,D4 P o (ev τ) (Bs++H₀) v (Bs++H₀)
 | .skip=>∃j want d,o.guard=some (j,want)∧(ops[j]?).bind (·.dst)=some d∧gm (τ d) want
 | .new cs=>o.guard=none∧∀Bs,Dd P o (ev τ) (Bs++H₀) (Iw cs (Bs++H₀))
 | .newv sz rows=>o.guard=none∧∀Bs,Dd P o (ev τ) (Bs++H₀) (MM sz rows (Bs++H₀))
 | .rel R=>o.guard=none∧∀Bs,Dd P o (ev τ) (Bs++H₀) (Pz R (Bs++H₀))
def EV (P:Program) (ops:Array Oper) (H₀:List BR):Nat→(Nat→AV)→List Ez→((Nat→AV)→List BR→Prop)→Prop
 | _,τ,[],K=>K τ []
 | k,τ,e::r,K=>∃o,ops[k]?=some o∧W9 P ops H₀ o τ e∧∀b,e.ok b→EV P ops H₀ (k+1) (put τ o.dst (e.v b)) r (fun τ' Hs=>K τ' (e.box b++Hs))
def Fy (β:Nat→BV):Nat→List Ez→List Sp
 | _,[]=>[]
 | k,e::r=> .free (e.v (β k))::Fy β (k+1) r
def gu (β:Nat→BV):Nat→List Ez→List BR
 | _,[]=>[]
 | k,e::r=>e.box (β k)++gu β (k+1) r
def XX (β:Nat→BV) (l:Nat→Bool):Nat→List Ez→List BR
 | _,[]=>[]
 | k,e::r=>(if l k=true then e.box (β k) else [])++XX β l (k+1) r
theorem Qn (β:Nat→BV):∀(r:List Ez) (k j:Nat),j<r.length→(Fy β k r).getD j .skip= .free ((r.getD j .skip).v (β (k+j)))
 | [],k,j,h=>by simp at h
 | e::r,k,0,h=>by simp[Fy]
 | e::r,k,j+1,h=>by
  have:=Qn β r (k+1) j (by simpa using h);simp only[Fy,List.getD_cons_succ];rw[this,show k+1+j=k+(j+1) by omega]
theorem Z3 (β:Nat→BV):∀(r:List Ez) (k:Nat),(Fy β k r).length=r.length
 | [],k=>rfl
 | e::r,k=>by simp[Fy,Z3 β r (k+1)]
theorem Jw (β:Nat→BV) {r:List Ez}{k j:Nat}(h:r.length≤j):(Fy β k r).getD j .skip= .skip:=by
 rw[List.getD_eq_getElem?_getD,List.getElem?_eq_none (by rw[Z3];exact h)];rfl
theorem Uw (β:Nat→BV) (r:List Ez) (k j:Nat):((Fy β k r).getD j .skip).isEff=false:=by
 rcases Nat.lt_or_ge j r.length with h | h
 ·rw[Qn β r k j h];rfl
 rw[Jw β h];rfl
theorem Rz (β:Nat→BV) (r:List Ez) (k j:Nat) (ob:List BR) (v:AV):(Fy β k r).getD j .skip≠ .read ob v:=by
 rcases Nat.lt_or_ge j r.length with h | h
 ·rw[Qn β r k j h];simp
 rw[Jw β h];simp
theorem Eb (β:Nat→BV) {r:List Ez}{j:Nat}(h:j<r.length):((Fy β 0 r).getD j .skip).val=(r.getD j .skip).v (β j):=by
 rw[Qn β r 0 j h,Nat.zero_add];rfl
theorem EV.facts {P:Program}{ops:Array Oper}{H₀:List BR}{τ:Nat→AV}{base:List Ez}(β:Nat→BV):∀(r:List Ez) (k:Nat) (τk:Nat→AV) (K:(Nat→AV)→List BR→Prop),base.drop k=r→k+r.length=base.length→τk=τS ops (Fy β 0 base) τ k→EV P ops H₀ k τk r K→(∀j,k≤j→j<base.length→(base.getD j .skip).ok (β j)) →
  (∀j,k≤j→j<base.length→∃o,ops[j]?=some o∧W9 P ops H₀ o (τS ops (Fy β 0 base) τ j) (base.getD j .skip))∧K (τS ops (Fy β 0 base) τ base.length) (gu β k r)
 | [],k,τk,K,hd,hk,ht,h,hβ=>by
  simp only[List.length_nil,Nat.add_zero] at hk;subst hk;exact⟨fun j h1 h2=>by omega,by rw[←ht];exact h⟩
 | e::r,k,τk,K,hd,hk,ht,h,hβ=>by
  obtain⟨o,ho,hok,hn⟩:=h;simp only[List.length_cons] at hk;have hb:base.getD k .skip=e:=by
   have:(base.drop k)[0]?=some e:=by rw[hd];rfl
   rw[List.getElem?_drop] at this;rw[List.getD_eq_getElem?_getD,show k=k+0 by omega,this];rfl
  have hd2:base.drop (k+1)=r:=by
   rw[←List.drop_drop,hd];rfl
  obtain⟨h1,h2⟩:=EV.facts (τ:=τ) (base:=base) β r (k+1) _ _ hd2 Ax (by simp only[τS,ho,Option.bind_some];rw[Eb β Ax,hb,←ht]) (hn (β k) (by have:=hβ k (Nat.le_refl _) Ax;rwa [hb] at this)) (fun j h1 h2=>hβ j Ax h2);refine⟨fun j hj hl=>?_,h2⟩;by_cases e2:j=k
  ·subst e2;exact⟨o,ho,by rw[hb,←ht];exact hok⟩
  exact h1 j Ax hl
theorem KY {β β':Nat→BV}{l l':Nat→Bool}:∀(r:List Ez) (k:Nat),(∀j,k≤j→l j=l' j∧(l j=true→β j=β' j))→XX β l k r=XX β' l' k r
 | [],k,h=>rfl
 | e::r,k,h=>by
  simp only[XX];obtain⟨h1,h2⟩:=h k (Nat.le_refl _);rw[KY r (k+1) fun j hj=>h j Ax,←h1];cases hl:l k
  ·rfl
  rw[h2 hl]
theorem Qo {β:Nat→BV}{l:Nat→Bool}{i:Nat}{b:BV}(hi:l i=false):∀(r:List Ez) (k:Nat),k≤i→i<k+r.length→((r.getD (i - k) .skip).box b++XX β l k r).Perm (XX (fun j=>if j=i then b else β j) (fun j=>l j||j==i) k r)
 | [],k,h1,h2=>by simp at h2;omega
 | e::r,k,h1,h2=>by
  simp only[XX];by_cases hk:k=i
  ·subst hk;simp only[hi,Bool.false_eq_true,if_false,List.nil_append,Nat.sub_self,List.getD_cons_zero,beq_self_eq_true,Bool.or_true,if_true];rw[KY (β':=fun j=>if j=k then b else β j) (l':=fun j=>l j||j==k) r (k+1) fun j hj=>⟨by simp[show (j==k)=false by simp;omega],fun _=>by rw[if_neg Ax]⟩]
  have hp:=Qo (β:=β) hi r (k+1) (b:=b) Ax (by simp only[List.length_cons] at h2;omega);have e1:(e::r).getD (i - k) .skip=r.getD (i - (k+1)) .skip:=by
   rw[show i - k=(i - (k+1))+1 by omega];rfl
  have e2:(if (l k||k==i)=true then e.box (if k=i then b else β k) else [])=(if l k=true then e.box (β k) else []):=by
   rw[if_neg hk];simp[hk]
  rw[e1,e2];refine List.Perm.trans ?_ (hp.append_left _);rw[←List.append_assoc,←List.append_assoc];exact List.perm_append_comm.append_right _
theorem U9 {β:Nat→BV}{l:Nat→Bool}:∀(r:List Ez) (k:Nat),(∀j,k≤j→j<k+r.length→l j=true)→XX β l k r=gu β k r
 | [],k,h=>rfl
 | e::r,k,h=>by
  simp only[XX,gu];rw[if_pos (h k (Nat.le_refl _) Ay),U9 r (k+1) fun j h1 h2=>h j Ax (by simp only[List.length_cons];omega)]
theorem Oa {β:Nat→BV}{l:Nat→Bool}:∀(r:List Ez) (k:Nat),(∀j,l j=false)→XX β l k r=[]
 | [],k,h=>rfl
 | e::r,k,h=>by simp only[XX];rw[Oa r (k+1) h,h k];rfl
theorem cJ.pick:∀(l:List Ez),cJ l→∃β:Nat→BV,∀j,j<l.length→(l.getD j .skip).ok (β j)
 | [],_=>⟨fun _=>(0,0,.p .any),fun j h=>by simp at h⟩
 | e::r,h=>by
  have h2:cJ r∧∃b,e.ok b:=by
   cases e with
   | rel R=>exact⟨h.2,let ⟨v,hv⟩:=h.1;⟨(0,0,v),hv⟩⟩
   | _=>exact⟨h,(0,0,.p .any),trivial⟩
  obtain⟨β,hβ⟩:=cJ.pick r h2.1;obtain⟨b,hb⟩:=h2.2;refine⟨fun j=>match j with | 0=>b | j+1=>β j,fun j hj=>?_⟩;cases j with
  | zero=>exact hb
  | succ j=>exact hβ j (by simpa using hj)
section
variable {P:Program}{ops:Array Oper}{H₀:List BR}{k:Nat}{τ:Nat→AV}{r:List Ez}{K:(Nat→AV)→List BR→Prop}{dst:Option Tmp}{op:Op}{ty:TypeId}{pos:String}{aft:Array Edge}{v:AV}
theorem KG (ho:ops[k]?=some ⟨dst,op,ty,pos,aft,none⟩) (h:∀Bs,D4 P ⟨dst,op,ty,pos,aft,none⟩ (ev τ) (Bs++H₀) v (Bs++H₀)) (next:EV P ops H₀ (k+1) (put τ dst v) r K):EV P ops H₀ k τ (.val v::r) K :=
 ⟨_,ho,⟨trivial,h⟩,fun _ _=>next⟩
theorem fW {cs:List AV}(ho:ops[k]?=some ⟨dst,op,ty,pos,aft,none⟩) (h:∀Bs,Dd P ⟨dst,op,ty,pos,aft,none⟩ (ev τ) (Bs++H₀) (Iw cs (Bs++H₀))) (next:∀b,EV P ops H₀ (k+1) (put τ dst (.ptr b 0)) r (fun τ' Hs=>K τ' (.box b cs::Hs))):EV P ops H₀ k τ (.new cs::r) K :=
 ⟨_,ho,⟨rfl,h⟩,fun b _=>next b.1⟩
theorem mK (h:K τ []):EV P ops H₀ k τ [] K:=h
end
theorem Dy.putW {F:Nat→Prop}{S:B5}{d:Option Nat}{v v':AV}{H:List BR}{a:Act}{w:World}(h:Dy F (S.put d v H) a w) (hv:R1 v v'):Dy F (S.put d v' H) a w :=
 ⟨h.size,fun t=>by
  have:=h.tmp t;cases d with
  | none=>exact this
  | some d =>
   have h3:CW F w (Abs.put S.τ (some d) v t) (a.tmps.getD t undef):=this;show CW F w (Abs.put S.τ (some d) v' t) (a.tmps.getD t undef);cases hb:Nat.beq t d
   ·have e (x:AV):Abs.put S.τ (some d) x t=S.τ t:=by simp only[Abs.put,hb,cond_false]
    rw[e] at h3 ⊢;exact h3
   have e (x:AV):Abs.put S.τ (some d) x t=x:=by simp only[Abs.put,hb,cond_true]
   rw[e] at h3 ⊢;exact hv _ _ _ h3,h.heap,h.defs⟩
theorem dA {P:Program}{o:Oper}{ρ:Operand→AV}{H H':List BR}{v:AV}(h:D4 P o ρ H v H'):D4 P o ρ H (norm v) H':=by
 intro r F S a w hs hH hρ hd;have:=h r F S a w hs hH hρ hd;unfold Oper.wpIn at *;refine⟨this.1,?_⟩;replace this:=this.2;generalize (o.semAt (W r).round a.eval).run P w=rr at *;cases rr with
 | ok n w' =>
  cases n<;>simp only[Oper.uponIn] at this ⊢
  case value u=>obtain⟨v1,H1,F1,⟨e1,e2⟩,h2,h3⟩:=this;subst e1;subst e2;exact⟨_,_,F1,⟨rfl,rfl⟩,h2.putW (Dv rfl),h3⟩
  case skip=>obtain⟨v1,H1,F1,⟨e1,e2⟩,h2,h3⟩:=this;subst e1;subst e2;exact⟨_,_,F1,⟨rfl,rfl⟩,h2.putW (Dv rfl),h3⟩
  case defer d=>obtain⟨v1,H1,F1,⟨e1,e2⟩,h2,h3⟩:=this;subst e1;subst e2;exact⟨_,_,F1,⟨rfl,rfl⟩,h2.putW (Dv rfl),h3⟩
  case enter f args =>
   refine⟨this.1,this.2.mono fun e w'' he=>?_⟩;cases e with
   | returned u=>obtain⟨v1,H1,F1,⟨e1,e2⟩,h2,h3⟩:=he;subst e1;subst e2;exact⟨_,_,F1,⟨rfl,rfl⟩,h2.putW (Dv rfl),h3⟩
   | panicked c=>obtain⟨_,_,_,_,h,_⟩:=he;exact h.elim
   | outgrown=>obtain⟨_,_,_,_,_,_,h,_⟩:=he;exact h.elim
  case row row args=>exact⟨this.1,this.2.mono fun u w'' he=>by obtain⟨v1,H1,F1,⟨e1,e2⟩,h2,h3⟩:=he;subst e1;subst e2;exact⟨_,_,F1,⟨rfl,rfl⟩,h2.putW (Dv rfl),h3⟩⟩
  case round l f tmps assign body =>
   refine⟨this.1,this.2.mono fun e w'' he=>?_⟩;cases e with
   | returned u=>obtain⟨v1,H1,F1,⟨e1,e2⟩,h2,h3⟩:=he;subst e1;subst e2;exact⟨_,_,F1,⟨rfl,rfl⟩,h2.putW (Dv rfl),h3⟩
   | panicked c=>obtain⟨_,_,_,_,h,_⟩:=he;exact h.elim
   | outgrown=>obtain⟨_,_,_,_,_,_,h,_⟩:=he;exact h.elim
 | halt x w' =>
  cases x<;>simp only[Oper.uponIn] at this ⊢
  case panic u=>obtain⟨_,_,_,_,h,_⟩:=this;exact h.elim
end Go.Abs
namespace Go.Eu
open Go.Abs
theorem EF (x:CX):At (Bu x) 0 [I x.kind]:=At.one
theorem DW (x:CX):At (Bu x) 1 [.str x.name]:=At.cons (At.one)
theorem C2 (x:CX):At (Bu x) 2 [I x.params]:=At.cons (At.cons (At.one))
theorem FP (x:CX):At (Bu x) 3 (Bb x.type):=At.cons (At.cons (At.cons (At.front)))
theorem FZ (x:CX):At (Bu x) 8 (Bb x.value):=At.cons (At.cons (At.cons (At.app (BM _) (At.front))))
theorem Cv (x:CX):At (Bu x) 13 [I x.fixed]:=At.cons (At.cons (At.cons (At.app (BM _) (At.app (BM _) (At.one)))))
theorem CH (x:CX):At (Bu x) 14 [.lst (x.ctors.map G8)]:=At.cons (At.cons (At.cons (At.app (BM _) (At.app (BM _) (At.cons (At.one))))))
theorem LG (x:CX):At (Bu x) 15 (RO x.recs):=At.cons (At.cons (At.cons (At.app (BM _) (At.app (BM _) (At.cons (At.cons (At.front)))))))
theorem CP (x:CX):At (Bu x) 22 [.lst (x.funs.map FJ)]:=At.cons (At.cons (At.cons (At.app (BM _) (At.app (BM _) (At.cons (At.cons (At.app (Kh _) (At.one))))))))
theorem RH (x:gp):At (RO x) 0 [I x.params]:=At.one
theorem Um (x:gp):At (RO x) 1 (Bb x.type):=At.cons (At.front)
theorem Sg (x:gp):At (RO x) 6 [.lst (BN x.rules)]:=At.cons (At.app (BM _) (At.one))
theorem FQ (x:It):At (G8 x) 0 [.str x.name]:=At.one
theorem FU (x:It):At (G8 x) 1 (Bb x.type):=At.cons (At.all)
theorem JA (x:Hi):At (FJ x) 0 [.str x.name]:=At.one
theorem JC (x:Hi):At (FJ x) 1 (Bb x.type):=At.cons (At.front)
theorem CU (x:Hi):At (FJ x) 6 [I x.arity]:=At.cons (At.app (BM _) (At.one))
theorem D5 (x:Hi):At (FJ x) 7 (C5 x.tree):=At.cons (At.app (BM _) (At.cons (At.all)))
theorem F6 (x:FY):At (C5 x) 0 [I x.kind]:=by
 cases x;exact At.one
theorem Ew (x:FY):At (C5 x) 1 (Bb x.body):=by
 cases x;exact At.cons (At.front)
theorem C0 (x:FY):At (C5 x) 6 [I x.var]:=by
 cases x;exact At.cons (At.app (BM _) (At.one))
theorem CV (x:FY):At (C5 x) 7 [.lst (LO x.branches)]:=by
 cases x;exact At.cons (At.app (BM _) (At.cons (At.one)))
theorem Gl (x:GU):At (HD x) 0 [.str x.ctor]:=by
 cases x;exact At.one
theorem GW (x:GU):At (HD x) 1 [.bool x.absurd]:=by
 cases x;exact At.cons (At.one)
theorem F5 (x:GU):At (HD x) 2 (C5 x.tree):=by
 cases x;exact At.cons (At.cons (At.all))
theorem DK (x:Gg):At (Dn x) 0 [I x.kind]:=At.one
theorem DZ (x:Gg):At (Dn x) 1 [I x.decl]:=At.cons (At.one)
theorem E2 (x:Gg):At (Dn x) 2 [I x.item]:=At.cons (At.cons (At.one))
theorem Hq (x:Gg):At (Dn x) 3 [I x.params]:=At.cons (At.cons (At.cons (At.one)))
theorem J2 (x:P0):At (Ge x) 0 [.lst (x.env.map Bu)]:=At.one
theorem WT (x:P0):At (Ge x) 1 [.lst (x.own.map Gx)]:=At.cons (At.one)
theorem S9 (x:P0):At (Ge x) 2 (Bu x.d):=At.cons (At.cons (At.all))
theorem Du (x:CX):At (Bu x) 15 [I x.recs.params]:=(LG x).sub (RH _) (by simp[Kh])
theorem FO (x:CX):At (Bu x) 16 (Bb x.recs.type):=(LG x).sub (Um _) (by simp[Kh])
theorem Cw (x:CX):At (Bu x) 21 [.lst (BN x.recs.rules)]:=(LG x).sub (Sg _) (by simp[Kh])
theorem _root_.Go.Am {α:Prop}(h:α:=by simp[Cx]):α:=h
theorem Ps (x:P0):At (Ge x) 4 [I x.d.params]:=(S9 x).sub (C2 _) Am
theorem H4.body:∀{t:FY},H4 t→VF t.body
 | .mk _ _ _ _,h=>h.1
theorem H4.bl:∀{t:FY},H4 t→t.branches.length<2000000
 | .mk _ _ _ _,h=>h.2.1
theorem H4.bs:∀{t:FY},H4 t→NN t.branches
 | .mk _ _ _ _,h=>h.2.2
theorem SE.tr:∀{b:GU},SE b→H4 b.tree
 | .mk _ _ _,h=>h.2
theorem Rh:∀{t:FY}{i:Nat}{b:GU},t.branches[i]?=some b→LS b.tree<LS t
 | .mk _ _ _ l,i,.mk c a t',h=>by
  have:=T5 (l:=l) h;simp only[gb] at this;simp only[LS,GU.tree];omega
theorem PG:∀t:FY,1≤LS t
 | .mk _ _ _ _=>by simp only[LS];omega
section
variable {f:Nat→Option (Nat×Nat)}{k a i p:Int}{t:Tm}
theorem gX (h1:f 1=some (1,1)) (h3:f 3=some (3,1)) (h4:f 4=some (4,5)):F3 f [.p (I 0),.p (I 0),.p (I 0),.p (I 0),.p (I 0),.p (I 0),.p (.str ⟨#[]⟩),.p .nils,.p .nils] [(1,.p (I a)),(3,.p (I p)),(4,TV t)]=some ((Dn ⟨0,a,0,p,t⟩).map .p):=by
 obtain⟨tk,ti,tn,tl,ts⟩:=t;simp[F3,h1,h3,h4,Er,splice,Bb,Dn]
theorem Ze (h0:f 0=some (0,1)) (h1:f 1=some (1,1)) (h3:f 3=some (3,1)) (h4:f 4=some (4,5)):F3 f [.p (I 0),.p (I 0),.p (I 0),.p (I 0),.p (I 0),.p (I 0),.p (.str ⟨#[]⟩),.p .nils,.p .nils] [(0,.p (I k)),(1,.p (I a)),(3,.p (I p)),(4,TV t)]=some ((Dn ⟨k,a,0,p,t⟩).map .p):=by
 obtain⟨tk,ti,tn,tl,ts⟩:=t;simp[F3,h0,h1,h3,h4,Er,splice,Bb,Dn]
theorem OH (h0:f 0=some (0,1)) (h1:f 1=some (1,1)) (h2:f 2=some (2,1)) (h3:f 3=some (3,1)) (h4:f 4=some (4,5)):F3 f [.p (I 0),.p (I 0),.p (I 0),.p (I 0),.p (I 0),.p (I 0),.p (.str ⟨#[]⟩),.p .nils,.p .nils] [(0,.p (I k)),(1,.p (I a)),(2,.p (I i)),(3,.p (I p)),(4,TV t)]=some ((Dn ⟨k,a,i,p,t⟩).map .p):=by
 obtain⟨tk,ti,tn,tl,ts⟩:=t;simp[F3,h0,h1,h2,h3,h4,Er,splice,Bb,Dn]
theorem oS {c0:AV}{r:List AV}{ds:List CX}{d:CX}(h0:f 0=some (0,1)) (h2:f 2=some (2,23)) (hr:r.length=23):F3 f (c0:: .p .nils::r) [(0,.p (.lst (ds.map Bu))),(2,.agg ((Bu d).map .p))]=some (.p (.lst (ds.map Bu)):: .p .nils::(Bu d).map .p):=by
 simp[F3,h0,h2,Er,Cx,hr,Pk,splice]
end
theorem gM (ds:List CX) (d:CX):norm (.agg (.p (.lst (ds.map Bu)):: .p .nils::(Bu d).map .p))= .agg ((Ge ⟨ds,[],d⟩).map .p):=by
 have h:((Bu d).map AV.p).map dn=(Bu d).map .p:=by
  refine gj ?_;obtain⟨k,n,p,⟨_,_,_,_,_⟩,⟨_,_,_,_,_⟩,f,c,⟨_,⟨_,_,_,_,_⟩,_⟩,u⟩:=d;simp[Bu,Bb,RO]
 show AV.agg (dn _::dn _::((Bu d).map AV.p).map dn)=_;rw[h];rfl
theorem cr {P:Program}{dst:Option Tmp}{ty:TypeId}{pos:String}{aft:Array Edge}{g:Option (Nat×Bool)}{ρ:Operand→AV}{H:List BR}{T:TypeId}{parts:Array (Nat×Operand)}{lay:List (Nat×Nat)}{z:Value}{ds:List CX}{d:CX}(hT:fieldsOf P T=some lay) (hz:zeroOf P T=some z)
  (hc:F3 (lay[·]?) (z.cells.toList.map G4) (parts.toList.map fun p=>(p.1,ρ p.2))=some (.p (.lst (ds.map Bu)):: .p .nils::(Bu d).map .p)):D4 P ⟨dst,.build T parts,ty,pos,aft,g⟩ ρ H (.agg ((Ge ⟨ds,[],d⟩).map .p)) H:=by
 rw[←gM];exact dA (Ca hT hz hc)
theorem ay {d:CX}(h:Ns d) {i:Nat}{x:ByteArray}(hx:(DH d)[i]?=some x):x.size<Dq:=by
 have hm:=List.mem_of_getElem? hx;have hr:=aO d.name;have hn:=h.nm;unfold DH at hm;simp only[Dq];split at hm
 ·simp at hm;subst hm;omega
 split at hm
 ·simp only[List.mem_append,List.mem_cons,List.mem_map,List.not_mem_nil,or_false] at hm;rcases hm with (rfl | ⟨c,hc,rfl⟩) | rfl
  ·omega
  ·have:=(h.cs c hc).nm;omega
  omega
 split at hm
 ·obtain⟨f,hf,rfl⟩:=List.mem_map.1 hm;have:=(h.fs f hf).nm;omega
 simp at hm
theorem ad {d:CX}(h:d.kind=3):1≤(DH d).length:=by
 unfold DH;rw[if_neg Ax,if_pos h];simp
end Go.Eu
namespace Go.Eu
open Go.Abs Go.RowKit Go.ChangeShapes Go.ChangeAt Go.WideShapes
structure bH (H:Type) where
 b:DataW H→Nat
 a:List (DataW H)→Nat
 str:∀s,b (.lit (.string s))=s.length+1
 slice:∀e s,b (.slice e s)=a e+a s+1
 agg:∀p,b (.agg p)=a p+1
 nil:a []=0
 cons:∀d r,a (d::r)=b d+a r
 pos:∀d,1≤b d
namespace bH
variable {H:Type}(K:bH H)
theorem mem {l:List (DataW H)}{i:Nat}{d:DataW H}(h:l[i]?=some d):K.b d≤K.a l:=by
 induction l generalizing i with
 | nil=>simp at h
 | cons x r ih =>
  rw[K.cons];cases i with
  | zero=>simp at h;subst h;omega
  | succ i=>have:=ih (by simpa using h);omega
theorem mem2 {l:List (DataW H)}{i:Nat}{d:DataW H}(h:l[i]?=some d):K.b d+l.length≤K.a l+1:=by
 have len:∀l:List (DataW H),l.length≤K.a l:=by
  intro l
  induction l with
  | nil=>simp
  | cons x r ih=>rw[K.cons];have:=K.pos x;simp only[List.length_cons];omega
 induction l generalizing i with
 | nil=>simp at h
 | cons x r ih =>
  rw[K.cons];simp only[List.length_cons];cases i with
  | zero=>simp at h;subst h;have:=len r;omega
  | succ i=>have:=ih (by simpa using h);have:=K.pos x;omega
theorem drop1 {l:List (DataW H)}{i:Nat}{d:DataW H}(h:l[i]?=some d):K.a (l.drop i)=K.b d+K.a (l.drop (i+1)):=by
 induction l generalizing i with
 | nil=>simp at h
 | cons x r ih =>
  cases i with
  | zero=>simp at h;subst h;simp[K.cons]
  | succ i=>simpa using ih (by simpa using h)
end bH
def Uo {α:Type}(M:α→Nat):List α→Nat
 | []=>0
 | a::l=>M a+Uo M l
section
variable {H:Type}{enc:TypeId×Value→H}{P:Program}{w:World}{base:Nat}{sp:Nat→Bool}{hd:Bool}{n:Nat}(K:bH H)
theorem Fx {α:Type}{e t C:Nat}(ut:P.underlying t=some (.slice e)) (hC:P.cellsOf e=C) (hC1:1≤C) (f:α→List PV) (Q:α→Prop) (M:α→Nat) {B:Nat}
  (he:∀m cs y,m<n→DataW.trod enc P w base sp hd m e cs=some y→K.b y.1≤B→∃a,CZ w (f a) cs∧Q a∧M a≤K.b y.1) {cs:List Value} {y:DataW H×List MemPlace} (h:DataW.trod enc P w base sp hd n t cs=some y) (hB:K.b y.1≤B) :
  ∃l:List α,l.length≤K.b y.1∧Uo M l+1≤K.b y.1∧(∀a∈l,Q a)∧∃v,cs=[v]∧Cb F0 w (.lst (l.map f)) v:=by
 rcases DataW.trod_slice ut h with ⟨rfl,rfl⟩ | ⟨a,len,cap,elems,rest,m,rfl,rfl,rfl,hb,hl,hc,hel,hget,_,_⟩
 ·exact⟨[],by simp,by have:=K.pos DataW.nil;simpa [Uo] using this,fun a ha=>by simp at ha,_,rfl,by simp only[Cb];exact .inl ⟨rfl,none,0,rfl⟩⟩
 rw[hC] at hget;simp only[K.slice] at hB ⊢;have hml:maxLen<wide:=by decide
 rcases Nat.eq_zero_or_pos len with h0 | h0
 ·subst h0;exact⟨[],by simp,by simp[Uo],fun a ha=>by simp at ha,_,rfl,by simp only[Cb];exact .inl ⟨rfl,some a,cap,rfl⟩⟩
 have hone:∀i,i<len→∃ci y,w.cells? base (a.add (i*C)) C=some ci∧DataW.trod enc P w base sp hd m e ci=some y∧(elems.map (·.1))[i]?=some y.1:=fun i hi=>by
  have:=hget i hi;rw[List.getElem?_eq_getElem Ax] at this;obtain⟨ci,h1,h2⟩:=Option.bind_eq_some_iff.1 this;exact⟨ci,_,h1,h2,by simp[List.getElem?_eq_getElem (show i<elems.length by omega)]⟩
 obtain⟨c0,y0,hc0,_⟩:=hone 0 h0;obtain⟨hl0,hg0⟩:=Mm hc0;have hcell:∃v,w.cell? a=some v:=by
  have:=hg0 0 Ax;rw[Nat.zero_mul,Addr.add,if_pos rfl,Addr.add,if_pos rfl] at this;rw[List.getElem?_eq_getElem Ax] at this;exact⟨_,this⟩
 obtain⟨v0,hv0⟩:=hcell;obtain⟨blk,off,spot⟩:=a;have hspot:spot=none:=by
  unfold World.cell? at hv0;simp only at hv0;split at hv0
  ·cases spot with
   | none=>rfl
   | some s=>simp at hv0
  cases hv0
 subst hspot;have hblk:blk<w.heap.size:=by
  unfold World.cell? at hv0;simp only at hv0;split at hv0
  ·rename_i hh;exact(Array.getElem?_eq_some_iff.1 hh).1
  cases hv0
 have hadd:∀k,(⟨blk,off,none⟩:Addr).add k=⟨blk,off+k,none⟩:=fun k=>by
  unfold Addr.add;split
  ·rename_i e;subst e;rfl
  rfl
 have hadd2:∀o k,(⟨blk,o,none⟩:Addr).add k=⟨blk,o+k,none⟩:=fun o k=>by
  unfold Addr.add;split
  ·rename_i e;subst e;rfl
  rfl
 have hrows:∀k,k≤len→∃l:List α,l.length=k∧k≤K.a ((elems.map (·.1)).drop (len - k))∧Uo M l≤K.a ((elems.map (·.1)).drop (len - k))∧(∀x∈l,Q x)∧CD F0 w blk C (off+(len - k)*C) (l.map f):=by
  intro k
  induction k with
  | zero=>exact fun _=>⟨[],rfl,by omega,by simp[Uo],fun a ha=>by simp at ha,by simp[CD]⟩
  | succ k ih =>
   intro hk;obtain⟨l,h1,h5,h6,h2,h3⟩:=ih Ax;obtain⟨ci,y,hci,ht,hy⟩:=hone (len - (k+1)) Ax;obtain⟨g1,g2⟩:=Mm hci;have hd1:=K.drop1 hy;rw[show len - (k+1)+1=len - k by omega] at hd1;obtain⟨x,hx,hq,hM⟩:=he m ci y Ax ht (by have:=K.mem hy;omega);have hp:=K.pos y.1;refine⟨x::l,by simp[h1],by omega,by rw[Uo];omega,fun z hz=>?_,?_⟩
   ·rcases List.mem_cons.1 hz with rfl | hz
    ·exact hq
    exact h2 z hz
   refine⟨by rw[hx.length,g1],PM _ ci _ hx fun j hj=>?_,?_⟩
   ·have:=g2 j Ax;rw[hadd,hadd2] at this;exact this
   rw[show off+(len - (k+1))*C+C=off+(len - k)*C by rw[Nat.add_assoc,←Nat.succ_mul];congr 2;omega];exact h3
 obtain⟨l,h1,h5,h6,h2,h3⟩:=hrows len (Nat.le_refl _);rw[Nat.sub_self,List.drop_zero] at h5 h6;rw[Nat.sub_self,Nat.zero_mul,Nat.add_zero] at h3;refine⟨l,by omega,by omega,h2,_,rfl,?_⟩;simp only[Cb];exact .inr ⟨blk,off,cap,C,by rw[List.length_map,h1],fun h=>h,hblk,by rw[List.length_map];omega,h3⟩
theorem Ip {t:TypeId}{l:List (Nat×Nat)}(hf:Mw P t=some l) {cs:List Value}{y:DataW H×List MemPlace}(h:DataW.trod enc P w base sp hd n t cs=some y) :
  ∃m,n=m+1∧cs.length=P.cellsOf t∧∀(i:Nat) (p:Nat×Nat),l[i]?=some p→∃z,DataW.trod enc P w base sp hd m p.1 ((cs.drop p.2).take (P.cellsOf p.1))=some z∧K.b z.1+l.length≤K.b y.1:=by
 unfold Mw at hf;split at hf
 ·rename_i fs hu;injection hf with hf;subst hf;obtain⟨xs,m,h1,rfl,h2,h3,h4⟩:=DataW.trod_struct hu h;refine⟨m,h1,h2,fun i p hp=>?_⟩;rw[List.getElem?_map] at hp;obtain⟨fl,hfl,rfl⟩:=Option.map_eq_some_iff.1 hp;have hi:fs[i]?=some fl:=by simpa using hfl
  have:=h4 i fl hi;have hlt:i<xs.length:=by rw[h3];exact(Array.getElem?_eq_some_iff.1 hi).1
  rw[List.getElem?_eq_getElem hlt] at this;refine⟨_,this,?_⟩;rw[K.agg];have:=K.mem2 (l:=xs.map (·.1)) (i:=i) (d:=xs[i].1) (by simp[List.getElem?_eq_getElem hlt]);simp only[List.length_map,Array.length_toList] at this ⊢;omega
 cases hf
theorem CZ.cut {a b:List PV}{cs:List Value}{o k:Nat}(h:CZ w a ((cs.drop o).take k)) (h':CZ w b (cs.drop (o+k))):CZ w (a++b) (cs.drop o):=by
 rw[←List.take_append_drop k (cs.drop o),List.drop_drop];exact CZ.append h h'
theorem CZ.end {cs:List Value}{k:Nat}(h:cs.length=k):CZ w [] (cs.drop k):=by
 rw[List.drop_eq_nil_of_le Ax];rfl
end
end Go.Eu
namespace Go.Eu
open Go.Abs Go.RowKit Go.ChangeShapes Go.ChangeAt Go.WideShapes
theorem QA:∀l:List Tm,Uo (fun t=>5*size t) l=5*Bl l
 | []=>rfl
 | t::l=>by rw[Uo,Bl,QA l];omega
structure Up (P:Program) (tI tB tS tT tTs tC tCs tR tTr tBr tBrs tF tFs tD tDs:TypeId):Prop where
 uB:P.underlying tB=some .bool
 uCs:P.underlying tCs=some (.slice tC)
 uBrs:P.underlying tBrs=some (.slice tBr)
 uFs:P.underlying tFs=some (.slice tF)
 uDs:P.underlying tDs=some (.slice tD)
 fC:Mw P tC=some [(tS,0),(tT,1)]
 fR:Mw P tR=some [(tI,0),(tT,1),(tTs,6)]
 fTr:Mw P tTr=some [(tI,0),(tT,1),(tI,6),(tBrs,7)]
 fBr:Mw P tBr=some [(tS,0),(tB,1),(tTr,2)]
 fF:Mw P tF=some [(tS,0),(tT,1),(tI,6),(tTr,7)]
 fD:Mw P tD=some [(tI,0),(tS,1),(tI,2),(tT,3),(tT,8),(tI,13),(tCs,14),(tR,15),(tFs,22)]
 cB:P.cellsOf tB=1
 cCs:P.cellsOf tCs=1
 cBrs:P.cellsOf tBrs=1
 cFs:P.cellsOf tFs=1
 cDs:P.cellsOf tDs=1
 cC:P.cellsOf tC=6
 cR:P.cellsOf tR=7
 cTr:P.cellsOf tTr=8
 cBr:P.cellsOf tBr=10
 cF:P.cellsOf tF=15
 cD:P.cellsOf tD=23
section
variable {H:Type}{enc:TypeId×Value→H}{P:Program}{w:World}{base:Nat}{sp:Nat→Bool}{hd:Bool}{tI tB tS tV tVs tL tLs tT tTs tC tCs tR tTr tBr tBrs tF tFs tD tDs:TypeId}(K:bH H)
theorem G6 (E:HF P tI tS tV tVs tL tLs tT tTs) {n:Nat}{cs:List Value}{y:DataW H×List MemPlace}(h:DataW.trod enc P w base sp hd n tI cs=some y):∃a:Int,CZ w [I a] cs∧JB a:=by
 obtain⟨a,rfl,_,fa⟩:=DataW.trod_int E.uI h;exact⟨a,CZ.one (by simp[Cb]),Pl fa⟩
theorem MH (E:HF P tI tS tV tVs tL tLs tT tTs) {n:Nat}{cs:List Value}{y:DataW H×List MemPlace}(h:DataW.trod enc P w base sp hd n tS cs=some y):∃s:ByteArray,CZ w [.str s] cs∧s.size+1≤K.b y.1:=by
 obtain⟨s,rfl,rfl,_⟩:=DataW.trod_string E.uS h;refine⟨s,CZ.one (by simp[Cb]),?_⟩;rw[K.str];exact Nat.le_refl _
theorem bT (D:Up P tI tB tS tT tTs tC tCs tR tTr tBr tBrs tF tFs tD tDs) {n:Nat}{cs:List Value}{y:DataW H×List MemPlace}(h:DataW.trod enc P w base sp hd n tB cs=some y):∃b:Bool,CZ w [.bool b] cs:=by
 obtain⟨b,rfl,_⟩:=DataW.trod_bool D.uB h;exact⟨b,CZ.one (by simp[Cb])⟩
theorem im (E:HF P tI tS tV tVs tL tLs tT tTs) {n:Nat}{cs:List Value}{y:DataW H×List MemPlace}(h:DataW.trod enc P w base sp hd n tL cs=some y) (hB:K.b y.1≤1048576):∃v:Ci,CZ w (B9 v) cs∧M6 v:=by
 obtain⟨m,rfl,hl,hg⟩:=Ip K E.fL h;rw[E.cL] at hl;obtain⟨z0,h0,b0⟩:=hg 0 _ rfl;obtain⟨z1,h1,b1⟩:=hg 1 _ rfl;simp only[E.cI,E.cVs] at h0 h1;obtain⟨a,ha,ra⟩:=G6 E h0;obtain⟨l,g1,_,g2,v,hv,g3⟩:=Fx K E.uVs E.cV Aw ED (fun v=>JB v.index∧JB v.plus) (fun _=>1) (B:=1048576) (fun m cs y _ h _=>by obtain⟨v,q1,q2⟩:=dt E h;exact⟨v,q1,q2,K.pos _⟩) h1 Ax;refine⟨⟨a,l⟩,?_,⟨by simp only[Dq];omega,ra,g2⟩⟩;have:=CZ.cut (o:=0) ha (CZ.cut (o:=1) (a:=[.lst (l.map ED)]) (k:=1) (by rw[hv];exact CZ.one g3) (CZ.end hl));simpa [B9] using this
theorem iO (E:HF P tI tS tV tVs tL tLs tT tTs):∀(n:Nat) (cs:List Value) (y:DataW H×List MemPlace),DataW.trod enc P w base sp hd n tT cs=some y→K.b y.1≤1048576→∃t:Tm,CZ w (Bb t) cs∧Nd t∧5*size t≤K.b y.1:=by
 intro n
 induction n using Nat.strongRecOn with
 | ind n ih =>
  intro cs y h hB;obtain⟨m,rfl,hl,hg⟩:=Ip K E.fT h;rw[E.cT] at hl;obtain⟨z0,h0,b0⟩:=hg 0 _ rfl;obtain⟨z1,h1,b1⟩:=hg 1 _ rfl;obtain⟨z2,h2,b2⟩:=hg 2 _ rfl;obtain⟨z3,h3,b3⟩:=hg 3 _ rfl;obtain⟨z4,h4,b4⟩:=hg 4 _ rfl;simp only[E.cI,E.cS,E.cLs,E.cTs] at h0 h1 h2 h3 h4;obtain⟨a,ha,ra⟩:=G6 E h0;obtain⟨b,hb,rb⟩:=G6 E h1;obtain⟨s,hs,ws⟩:=MH K E h2;obtain⟨l,g1,_,g2,v,hv,g3⟩:=Fx K E.uLs E.cL Aw B9 M6 (fun _=>1) (B:=1048576) (fun m cs y _ h hB=>by obtain⟨v,q1,q2⟩:=im K E h hB;exact⟨v,q1,q2,K.pos _⟩) h3 Ax;obtain⟨ks,k1,k4,k2,u,hu,k3⟩:=Fx K E.uTs E.cT Aw Bb Nd (fun t=>5*size t) (B:=1048576) (fun m' cs y hm h hB=>ih m' Ax cs y h hB) h4 Ax;refine⟨.mk a b s l ks,?_,⟨by simp only[Dq];omega,by simp only[Dq];omega,g2,by simp only[Dq];omega,Xa k2,ra,rb⟩,by rw[QA] at k4;simp only[List.length_cons,List.length_nil] at b4;simp only[size];omega⟩;have:=CZ.cut (o:=0) ha (CZ.cut (o:=1) hb (CZ.cut (o:=2) hs (CZ.cut (o:=3) (a:=[.lst (l.map B9)]) (k:=1) (by rw[hv];exact CZ.one g3) (CZ.cut (o:=4) (a:=[.lst (BN ks)]) (k:=1) (by rw[hu,Eh];exact CZ.one k3) (CZ.end hl)))));simpa [Bb] using this
theorem JY (E:HF P tI tS tV tVs tL tLs tT tTs) {n:Nat}{cs:List Value}{y:DataW H×List MemPlace}(h:DataW.trod enc P w base sp hd n tT cs=some y) (hB:K.b y.1≤1048576):∃t:Tm,CZ w (Bb t) cs∧VF t:=by
 obtain⟨t,h1,h2,h3⟩:=iO K E n cs y h hB;exact⟨t,h1,h2,by omega⟩
theorem eR (E:HF P tI tS tV tVs tL tLs tT tTs) {n:Nat}{cs:List Value}{y:DataW H×List MemPlace}(h:DataW.trod enc P w base sp hd n tTs cs=some y) (hB:K.b y.1≤1048576):∃l:List Tm,l.length<2000000∧(∀t∈l,VF t)∧CZ w [.lst (BN l)] cs:=by
 obtain⟨l,g1,_,g2,v,rfl,g3⟩:=Fx K E.uTs E.cT Aw Bb VF (fun _=>1) (B:=1048576) (fun m cs y _ h hB=>by obtain⟨v,q1,q2⟩:=JY K E h hB;exact⟨v,q1,q2,K.pos _⟩) h hB;exact⟨l,by omega,g2,CZ.one (by rw[Eh];exact g3)⟩
variable (D:Up P tI tB tS tT tTs tC tCs tR tTr tBr tBrs tF tFs tD tDs) (E:HF P tI tS tV tVs tL tLs tT tTs)
include D E
theorem iX {n:Nat}{cs:List Value}{y:DataW H×List MemPlace}(h:DataW.trod enc P w base sp hd n tC cs=some y) (hB:K.b y.1≤1048576):∃c:It,CZ w (G8 c) cs∧ey c:=by
 obtain⟨m,rfl,hl,hg⟩:=Ip K D.fC h;rw[D.cC] at hl;obtain⟨z0,h0,b0⟩:=hg 0 _ rfl;obtain⟨z1,h1,b1⟩:=hg 1 _ rfl;simp only[E.cS,E.cT] at h0 h1;obtain⟨s,hs,ws⟩:=MH K E h0;obtain⟨t,ht,wt⟩:=JY K E h1 Ax;refine⟨⟨s,t⟩,?_,⟨by simp only;omega,wt⟩⟩;have:=CZ.cut (o:=0) hs (CZ.cut (o:=1) ht (CZ.end hl));simpa [G8] using this
theorem jQ {n:Nat}{cs:List Value}{y:DataW H×List MemPlace}(h:DataW.trod enc P w base sp hd n tR cs=some y) (hB:K.b y.1≤1048576):∃r:gp,CZ w (RO r) cs∧VF r.type∧r.rules.length<2000000∧∀t∈r.rules,VF t:=by
 obtain⟨m,rfl,hl,hg⟩:=Ip K D.fR h;rw[D.cR] at hl;obtain⟨z0,h0,b0⟩:=hg 0 _ rfl;obtain⟨z1,h1,b1⟩:=hg 1 _ rfl;obtain⟨z2,h2,b2⟩:=hg 2 _ rfl;simp only[E.cI,E.cT,E.cTs] at h0 h1 h2;obtain⟨a,ha,_⟩:=G6 E h0;obtain⟨t,ht,wt⟩:=JY K E h1 Ax;obtain⟨l,l1,l2,l3⟩:=eR K E h2 Ax;refine⟨⟨a,t,l⟩,?_,wt,l1,l2⟩;have:=CZ.cut (o:=0) ha (CZ.cut (o:=1) ht (CZ.cut (o:=6) l3 (CZ.end hl)));simpa [RO] using this
theorem dD:∀(n:Nat) (cs:List Value) (y:DataW H×List MemPlace),DataW.trod enc P w base sp hd n tTr cs=some y→K.b y.1≤1048576→∃t:FY,CZ w (C5 t) cs∧H4 t:=by
 intro n
 induction n using Nat.strongRecOn with
 | ind n ih =>
  intro cs y h hB;obtain⟨m,rfl,hl,hg⟩:=Ip K D.fTr h;rw[D.cTr] at hl;obtain⟨z0,h0,b0⟩:=hg 0 _ rfl;obtain⟨z1,h1,b1⟩:=hg 1 _ rfl;obtain⟨z2,h2,b2⟩:=hg 2 _ rfl;obtain⟨z3,h3,b3⟩:=hg 3 _ rfl;simp only[E.cI,E.cT,D.cBrs] at h0 h1 h2 h3;obtain⟨a,ha,_⟩:=G6 E h0;obtain⟨t,ht,wt⟩:=JY K E h1 Ax;obtain⟨b,hb,_⟩:=G6 E h2;obtain⟨l,g1,_,g2,v,hv,g3⟩:=Fx K D.uBrs D.cBr Aw HD SE (fun _=>1) (B:=1048576) (fun m' cs y hm h hB=>by
   obtain⟨m2,rfl,hl,hg⟩:=Ip K D.fBr h;rw[D.cBr] at hl;obtain⟨z0,h0,b0⟩:=hg 0 _ rfl;obtain⟨z1,h1,b1⟩:=hg 1 _ rfl;obtain⟨z2,h2,b2⟩:=hg 2 _ rfl;simp only[E.cS,D.cB,D.cTr] at h0 h1 h2;obtain⟨s,hs,ws⟩:=MH K E h0;obtain⟨b,hb⟩:=bT D h1;obtain⟨r,hr,wr⟩:=ih m2 Ax _ _ h2 Ax;refine⟨.mk s b r,?_,⟨by omega,wr⟩,K.pos _⟩;have:=CZ.cut (o:=0) hs (CZ.cut (o:=1) hb (CZ.cut (o:=2) hr (CZ.end hl)));simpa [HD] using this) h3 Ax
  have hbs:∀{l:List GU},(∀b∈l,SE b)→NN l:=by
   intro l
   induction l with
   | nil=>exact fun _=>trivial
   | cons b l ih2=>exact fun h=>⟨h b Ay,ih2 fun c hc=>h c (by simp[hc])⟩
  refine⟨.mk a t b l,?_,⟨wt,by omega,hbs g2⟩⟩;have:=CZ.cut (o:=0) ha (CZ.cut (o:=1) ht (CZ.cut (o:=6) hb (CZ.cut (o:=7) (a:=[.lst (LO l)]) (k:=1) (by rw[hv,Mn];exact CZ.one g3) (CZ.end hl))));simpa [C5] using this
theorem kI {n:Nat}{cs:List Value}{y:DataW H×List MemPlace}(h:DataW.trod enc P w base sp hd n tF cs=some y) (hB:K.b y.1≤1048576):∃f:Hi,CZ w (FJ f) cs∧gV f:=by
 obtain⟨m,rfl,hl,hg⟩:=Ip K D.fF h;rw[D.cF] at hl;obtain⟨z0,h0,b0⟩:=hg 0 _ rfl;obtain⟨z1,h1,b1⟩:=hg 1 _ rfl;obtain⟨z2,h2,b2⟩:=hg 2 _ rfl;obtain⟨z3,h3,b3⟩:=hg 3 _ rfl;simp only[E.cS,E.cT,E.cI,D.cTr] at h0 h1 h2 h3;obtain⟨s,hs,ws⟩:=MH K E h0;obtain⟨t,ht,wt⟩:=JY K E h1 Ax;obtain⟨a,ha,_⟩:=G6 E h2;obtain⟨r,hr,wr⟩:=dD K D E _ _ _ h3 Ax;refine⟨⟨s,t,a,r⟩,?_,⟨by simp only;omega,wt,wr⟩⟩;have:=CZ.cut (o:=0) hs (CZ.cut (o:=1) ht (CZ.cut (o:=6) ha (CZ.cut (o:=7) hr (CZ.end hl))));simpa [FJ] using this
theorem jD {n:Nat}{cs:List Value}{y:DataW H×List MemPlace}(h:DataW.trod enc P w base sp hd n tD cs=some y) (hB:K.b y.1≤1048576):∃d:CX,CZ w (Bu d) cs∧Ns d:=by
 obtain⟨m,rfl,hl,hg⟩:=Ip K D.fD h;rw[D.cD] at hl;obtain⟨z0,h0,b0⟩:=hg 0 _ rfl;obtain⟨z1,h1,b1⟩:=hg 1 _ rfl;obtain⟨z2,h2,b2⟩:=hg 2 _ rfl;obtain⟨z3,h3,b3⟩:=hg 3 _ rfl;obtain⟨z4,h4,b4⟩:=hg 4 _ rfl;obtain⟨z5,h5,b5⟩:=hg 5 _ rfl;obtain⟨z6,h6,b6⟩:=hg 6 _ rfl;obtain⟨z7,h7,b7⟩:=hg 7 _ rfl;obtain⟨z8,h8,b8⟩:=hg 8 _ rfl;simp only[E.cS,E.cT,E.cI,D.cCs,D.cR,D.cFs] at h0 h1 h2 h3 h4 h5 h6 h7 h8;obtain⟨a,ha,_⟩:=G6 E h0;obtain⟨s,hs,ws⟩:=MH K E h1;obtain⟨p,hp,_⟩:=G6 E h2;obtain⟨t,ht,wt⟩:=JY K E h3 Ax;obtain⟨u,hu,wu⟩:=JY K E h4 Ax;obtain⟨f,hf,_⟩:=G6 E h5;obtain⟨cl,c1,_,c2,cv,hcv,c3⟩:=Fx K D.uCs D.cC Aw G8 ey (fun _=>1) (B:=1048576) (fun m cs y _ h hB=>by obtain⟨v,q1,q2⟩:=iX K D E h hB;exact⟨v,q1,q2,K.pos _⟩) h6 Ax;obtain⟨r,hr,r1,r2,r3⟩:=jQ K D E h7 Ax;obtain⟨fl,f1,_,f2,fv,hfv,f3⟩:=Fx K D.uFs D.cF Aw FJ gV (fun _=>1) (B:=1048576) (fun m cs y _ h hB=>by obtain⟨v,q1,q2⟩:=kI K D E h hB;exact⟨v,q1,q2,K.pos _⟩) h8 Ax;refine⟨⟨a,s,p,t,u,f,cl,r,fl⟩,?_,⟨by simp only;omega,wt,wu,by simp only;omega,c2,r1,r2,r3,by simp only;omega,f2⟩⟩;have:=CZ.cut (o:=0) ha (CZ.cut (o:=1) hs (CZ.cut (o:=2) hp (CZ.cut (o:=3) ht (CZ.cut (o:=8) hu (CZ.cut (o:=13) hf (CZ.cut (o:=14) (a:=[.lst (cl.map G8)]) (k:=1) (by rw[hcv];exact CZ.one c3) (CZ.cut (o:=15) hr (CZ.cut (o:=22) (a:=[.lst (fl.map FJ)]) (k:=1) (by rw[hfv];exact CZ.one f3) (CZ.end hl)))))))));simpa [Bu] using this
theorem mM {b2:Nat}{r:Reach}{v:Value}{d:DataW H}{ps:List MemPlace}(hk:Value.okWide P w r b2 tDs v) (h:DataW.Trod enc P w base sp hd tDs v d ps) (hB:K.b d≤1048576):∃l:List CX,Hj l∧CW F0 w (.p (.lst (l.map Bu))) v:=by
 obtain⟨n,h⟩:=h;obtain⟨l,g1,_,g2,u,hu,g3⟩:=Fx K D.uDs D.cD Aw Bu Ns (fun _=>1) (B:=1048576) (fun m cs y _ h hB=>by obtain⟨v,q1,q2⟩:=jD K D E h hB;exact⟨v,q1,q2,K.pos _⟩) h hB;have:=bD D.uDs hk hu;subst this;have g1':l.length≤K.b d:=g1;exact⟨l,⟨by omega,g2⟩,by simp only[CW];exact g3⟩
end
end Go.Eu
namespace Go.Proofs.YtboammbpdaoojaaGreat
open Go.Eu Go.Lib Go.ChangeShapes Go.WideShapes Go.ChangeAt Go.RowKit
theorem own:ownKnob Tryz.prog.godebug=none:=by kernel_rfl
theorem laidOut:laidOutB Tryz.prog=true:=by kernel_rfl
theorem s8:HF Tryz.prog 3 9 162 113 115 23 26 24:=⟨by kernel_rfl,by kernel_rfl,by kernel_rfl,by kernel_rfl,by kernel_rfl,by kernel_rfl,by kernel_rfl,by kernel_rfl,by kernel_rfl,by kernel_rfl,by kernel_rfl,by kernel_rfl,by kernel_rfl,by kernel_rfl,by kernel_rfl,by kernel_rfl⟩
theorem td:Up Tryz.prog 3 4 9 26 24 117 62 64 69 120 67 71 61 66 22:=⟨by kernel_rfl,by kernel_rfl,by kernel_rfl,by kernel_rfl,by kernel_rfl,by kernel_rfl,by kernel_rfl,by kernel_rfl,by kernel_rfl,by kernel_rfl,by kernel_rfl,by kernel_rfl,by kernel_rfl,by kernel_rfl,by kernel_rfl,by kernel_rfl,by kernel_rfl,by kernel_rfl,by kernel_rfl,by kernel_rfl,by kernel_rfl,by kernel_rfl⟩
noncomputable def blk (H:Type):bH H where
 b:=Rows.uptoBulk
 a:=Rows.uptoBulkAll
 str:=fun s=>by simp[Rows.uptoBulk]
 slice:=fun e s=>by simp[Rows.uptoBulk]
 agg:=fun p=>by simp[Rows.uptoBulk]
 nil:=by simp[Rows.uptoBulkAll]
 cons:=fun d r=>by simp[Rows.uptoBulkAll]
 pos:=fun d=>by
  cases d with
  | lit l=>cases l<;>simp[Rows.uptoBulk]
  | _=>simp[Rows.uptoBulk]
theorem jq {H:Type}{ds:List (DataW H)}(h:Rows.uptoSmall H ds=true) {i:Nat}{d:DataW H}(hd:ds[i]?=some d):(blk H).b d≤1048576:=by
 have h1:=(blk H).mem hd;have h2:(blk H).a ds≤1048576:=of_decide_eq_true h;omega
noncomputable def Mt (os:Os):World:=World.holding Tryz.prog os ⟨#[],#[],[]⟩
theorem _root_.Go.As {α:Prop}(h:α:=by kernel_rfl):α:=h
theorem dX (os:Os) (args:Array Value):laidMet Tryz.prog [] ((Mt os).forCall (fun _ _=>0) ⟨#[],args,[]⟩).memory :=
 (LaidIn.of_run [] 8 As As As As:LaidIn Tryz.prog ((Mt os).forCall (fun _ _=>0) ⟨#[],args,[]⟩).memory [] []).met
end Go.Proofs.YtboammbpdaoojaaGreat
namespace Go.Proofs.YtboammbpdaoojaaGreat
open Go.Abs
theorem Hz:F9 Tryz.prog 22=some (66,23,360):=by kernel_rfl
theorem Em:F9 Tryz.prog 23=some (115,2,32):=by kernel_rfl
theorem Bk:F9 Tryz.prog 24=some (26,5,80):=by kernel_rfl
theorem Gy:F9 Tryz.prog 61=some (71,15,224):=by kernel_rfl
theorem HN:F9 Tryz.prog 62=some (117,6,96):=by kernel_rfl
theorem Jm:F9 Tryz.prog 67=some (120,10,144):=by kernel_rfl
theorem HC:F9 Tryz.prog 104=some (9,1,16):=by kernel_rfl
theorem Ch:F9 Tryz.prog 113=some (162,2,16):=by kernel_rfl
theorem RX:F9 Tryz.prog 136=some (139,2,32):=by kernel_rfl
theorem Fp:F9 Tryz.prog 137=some (3,1,8):=by kernel_rfl
theorem RG:F9 Tryz.prog 190=some (192,2,32):=by kernel_rfl
theorem uH:BS Tryz.prog 4=true:=by kernel_rfl
theorem sJ:BS Tryz.prog 10=true:=by kernel_rfl
theorem rA:BS Tryz.prog 11=true:=by kernel_rfl
theorem rN:BS Tryz.prog 12=true:=by kernel_rfl
theorem qd:BS Tryz.prog 13=true:=by kernel_rfl
theorem sv:BS Tryz.prog 14=true:=by kernel_rfl
theorem sA:BS Tryz.prog 15=true:=by kernel_rfl
theorem qi:BS Tryz.prog 16=true:=by kernel_rfl
theorem sR:BS Tryz.prog 17=true:=by kernel_rfl
theorem rv:BS Tryz.prog 18=true:=by kernel_rfl
theorem rY:BS Tryz.prog 20=true:=by kernel_rfl
theorem qZ:BS Tryz.prog 21=true:=by kernel_rfl
theorem sP:BS Tryz.prog 22=true:=by kernel_rfl
theorem rV:BS Tryz.prog 23=true:=by kernel_rfl
theorem qz:BS Tryz.prog 24=true:=by kernel_rfl
theorem rK:BS Tryz.prog 29=true:=by kernel_rfl
theorem q8:BS Tryz.prog 30=true:=by kernel_rfl
theorem sl:BS Tryz.prog 31=true:=by kernel_rfl
theorem sE:BS Tryz.prog 32=true:=by kernel_rfl
theorem sO:BS Tryz.prog 33=true:=by kernel_rfl
theorem sx:BS Tryz.prog 34=true:=by kernel_rfl
theorem re:BS Tryz.prog 35=true:=by kernel_rfl
theorem sC:BS Tryz.prog 36=true:=by kernel_rfl
theorem mv:BS Tryz.prog 37=true:=by kernel_rfl
theorem sr:BS Tryz.prog 38=true:=by kernel_rfl
theorem sB:BS Tryz.prog 39=true:=by kernel_rfl
theorem r6:BS Tryz.prog 40=true:=by kernel_rfl
theorem rS:BS Tryz.prog 41=true:=by kernel_rfl
theorem rO:BS Tryz.prog 42=true:=by kernel_rfl
theorem r5:BS Tryz.prog 43=true:=by kernel_rfl
theorem qw:BS Tryz.prog 44=true:=by kernel_rfl
theorem qp:BS Tryz.prog 45=true:=by kernel_rfl
theorem sL:BS Tryz.prog 46=true:=by kernel_rfl
theorem sm:BS Tryz.prog 47=true:=by kernel_rfl
theorem r9:BS Tryz.prog 48=true:=by kernel_rfl
theorem sc:BS Tryz.prog 49=true:=by kernel_rfl
theorem sy:BS Tryz.prog 50=true:=by kernel_rfl
theorem rH:BS Tryz.prog 51=true:=by kernel_rfl
theorem qu:BS Tryz.prog 52=true:=by kernel_rfl
theorem sK:BS Tryz.prog 53=true:=by kernel_rfl
theorem rQ:BS Tryz.prog 54=true:=by kernel_rfl
theorem rM:BS Tryz.prog 55=true:=by kernel_rfl
theorem sj:BS Tryz.prog 56=true:=by kernel_rfl
theorem sG:BS Tryz.prog 57=true:=by kernel_rfl
theorem rG:BS Tryz.prog 58=true:=by kernel_rfl
theorem sH:BS Tryz.prog 59=true:=by kernel_rfl
theorem rJ:BS Tryz.prog 61=true:=by kernel_rfl
theorem qe:BS Tryz.prog 62=true:=by kernel_rfl
theorem ry:BS Tryz.prog 63=true:=by kernel_rfl
theorem sg:BS Tryz.prog 64=true:=by kernel_rfl
theorem r7:BS Tryz.prog 65=true:=by kernel_rfl
theorem rR:BS Tryz.prog 66=true:=by kernel_rfl
theorem sQ:BS Tryz.prog 67=true:=by kernel_rfl
theorem qy:BS Tryz.prog 68=true:=by kernel_rfl
theorem rE:BS Tryz.prog 69=true:=by kernel_rfl
theorem sa:BS Tryz.prog 70=true:=by kernel_rfl
theorem nP:BS Tryz.prog 71=true:=by kernel_rfl
theorem rm:BS Tryz.prog 72=true:=by kernel_rfl
theorem sw:BS Tryz.prog 73=true:=by kernel_rfl
theorem rX:BS Tryz.prog 74=true:=by kernel_rfl
theorem rj:BS Tryz.prog 75=true:=by kernel_rfl
theorem qc:BS Tryz.prog 76=true:=by kernel_rfl
theorem rh:BS Tryz.prog 77=true:=by kernel_rfl
theorem s3:BS Tryz.prog 78=true:=by kernel_rfl
theorem rP:BS Tryz.prog 79=true:=by kernel_rfl
theorem qt:BS Tryz.prog 80=true:=by kernel_rfl
theorem qo:BS Tryz.prog 81=true:=by kernel_rfl
theorem qb:BS Tryz.prog 82=true:=by kernel_rfl
theorem rq:BS Tryz.prog 83=true:=by kernel_rfl
theorem rZ:BS Tryz.prog 84=true:=by kernel_rfl
theorem my:BS Tryz.prog 85=true:=by kernel_rfl
theorem sF:BS Tryz.prog 86=true:=by kernel_rfl
theorem rB:BS Tryz.prog 87=true:=by kernel_rfl
theorem qk:BS Tryz.prog 88=true:=by kernel_rfl
theorem rp:BS Tryz.prog 89=true:=by kernel_rfl
theorem rW:BS Tryz.prog 90=true:=by kernel_rfl
theorem rI:BS Tryz.prog 91=true:=by kernel_rfl
theorem sh:BS Tryz.prog 92=true:=by kernel_rfl
theorem su:BS Tryz.prog 93=true:=by kernel_rfl
theorem qY:BS Tryz.prog 94=true:=by kernel_rfl
theorem rC:BS Tryz.prog 95=true:=by kernel_rfl
theorem rT:BS Tryz.prog 96=true:=by kernel_rfl
theorem sT:BS Tryz.prog 97=true:=by kernel_rfl
theorem r8:BS Tryz.prog 98=true:=by kernel_rfl
theorem oG:BS Tryz.prog 99=true:=by kernel_rfl
theorem nq:BS Tryz.prog 100=true:=by kernel_rfl
theorem qK:BS Tryz.prog 101=true:=by kernel_rfl
theorem nS:BS Tryz.prog 102=true:=by kernel_rfl
theorem pN:BS Tryz.prog 103=true:=by kernel_rfl
theorem ml:BS Tryz.prog 104=true:=by kernel_rfl
theorem nW:BS Tryz.prog 105=true:=by kernel_rfl
theorem pD:BS Tryz.prog 106=true:=by kernel_rfl
theorem mZ:BS Tryz.prog 107=true:=by kernel_rfl
theorem me:BS Tryz.prog 108=true:=by kernel_rfl
theorem pE:BS Tryz.prog 109=true:=by kernel_rfl
theorem nt:BS Tryz.prog 110=true:=by kernel_rfl
theorem p5:BS Tryz.prog 111=true:=by kernel_rfl
theorem og:BS Tryz.prog 112=true:=by kernel_rfl
theorem ox:BS Tryz.prog 113=true:=by kernel_rfl
theorem oM:BS Tryz.prog 114=true:=by kernel_rfl
theorem ku:BS Tryz.prog 115=true:=by kernel_rfl
theorem oU:BS Tryz.prog 116=true:=by kernel_rfl
theorem mw:BS Tryz.prog 117=true:=by kernel_rfl
theorem ni:BS Tryz.prog 118=true:=by kernel_rfl
theorem po:BS Tryz.prog 120=true:=by kernel_rfl
theorem pV:BS Tryz.prog 121=true:=by kernel_rfl
theorem qO:BS Tryz.prog 122=true:=by kernel_rfl
theorem oW:BS Tryz.prog 123=true:=by kernel_rfl
theorem nU:BS Tryz.prog 124=true:=by kernel_rfl
theorem m7:BS Tryz.prog 125=true:=by kernel_rfl
theorem nw:BS Tryz.prog 126=true:=by kernel_rfl
theorem oq:BS Tryz.prog 127=true:=by kernel_rfl
theorem nD:BS Tryz.prog 128=true:=by kernel_rfl
theorem pF:BS Tryz.prog 129=true:=by kernel_rfl
theorem kL:BS Tryz.prog 130=true:=by kernel_rfl
theorem pL:BS Tryz.prog 131=true:=by kernel_rfl
theorem pP:BS Tryz.prog 132=true:=by kernel_rfl
theorem pw:BS Tryz.prog 133=true:=by kernel_rfl
theorem pM:BS Tryz.prog 134=true:=by kernel_rfl
theorem nI:BS Tryz.prog 135=true:=by kernel_rfl
theorem ng:BS Tryz.prog 136=true:=by kernel_rfl
theorem nj:BS Tryz.prog 137=true:=by kernel_rfl
theorem oQ:BS Tryz.prog 138=true:=by kernel_rfl
theorem oI:BS Tryz.prog 139=true:=by kernel_rfl
theorem ma:BS Tryz.prog 141=true:=by kernel_rfl
theorem pz:BS Tryz.prog 142=true:=by kernel_rfl
theorem nB:BS Tryz.prog 143=true:=by kernel_rfl
theorem oF:BS Tryz.prog 144=true:=by kernel_rfl
theorem nC:BS Tryz.prog 146=true:=by kernel_rfl
theorem qC:BS Tryz.prog 147=true:=by kernel_rfl
theorem km:BS Tryz.prog 148=true:=by kernel_rfl
theorem qE:BS Tryz.prog 149=true:=by kernel_rfl
theorem n4:BS Tryz.prog 150=true:=by kernel_rfl
theorem pG:BS Tryz.prog 151=true:=by kernel_rfl
theorem p6:BS Tryz.prog 152=true:=by kernel_rfl
theorem kZ:BS Tryz.prog 153=true:=by kernel_rfl
theorem qP:BS Tryz.prog 154=true:=by kernel_rfl
theorem oc:BS Tryz.prog 155=true:=by kernel_rfl
theorem nJ:BS Tryz.prog 156=true:=by kernel_rfl
theorem pK:BS Tryz.prog 157=true:=by kernel_rfl
theorem ny:BS Tryz.prog 158=true:=by kernel_rfl
theorem pq:BS Tryz.prog 159=true:=by kernel_rfl
theorem pd:BS Tryz.prog 160=true:=by kernel_rfl
theorem mx:BS Tryz.prog 161=true:=by kernel_rfl
theorem kn:BS Tryz.prog 162=true:=by kernel_rfl
theorem oN:BS Tryz.prog 163=true:=by kernel_rfl
theorem nF:BS Tryz.prog 164=true:=by kernel_rfl
theorem nG:BS Tryz.prog 165=true:=by kernel_rfl
theorem qJ:BS Tryz.prog 166=true:=by kernel_rfl
theorem oD:BS Tryz.prog 167=true:=by kernel_rfl
theorem oA:BS Tryz.prog 168=true:=by kernel_rfl
theorem nr:BS Tryz.prog 169=true:=by kernel_rfl
theorem oB:BS Tryz.prog 170=true:=by kernel_rfl
theorem nO:BS Tryz.prog 171=true:=by kernel_rfl
theorem oV:BS Tryz.prog 172=true:=by kernel_rfl
theorem qM:BS Tryz.prog 173=true:=by kernel_rfl
theorem pQ:BS Tryz.prog 174=true:=by kernel_rfl
theorem mi:BS Tryz.prog 175=true:=by kernel_rfl
theorem nz:BS Tryz.prog 176=true:=by kernel_rfl
theorem nT:BS Tryz.prog 177=true:=by kernel_rfl
theorem kq:BS Tryz.prog 178=true:=by kernel_rfl
theorem nQ:BS Tryz.prog 179=true:=by kernel_rfl
theorem qF:BS Tryz.prog 180=true:=by kernel_rfl
theorem pO:BS Tryz.prog 181=true:=by kernel_rfl
theorem oz:BS Tryz.prog 182=true:=by kernel_rfl
theorem od:BS Tryz.prog 183=true:=by kernel_rfl
theorem mf:BS Tryz.prog 184=true:=by kernel_rfl
theorem qI:BS Tryz.prog 185=true:=by kernel_rfl
theorem nV:BS Tryz.prog 186=true:=by kernel_rfl
theorem m6:BS Tryz.prog 187=true:=by kernel_rfl
theorem m8:BS Tryz.prog 188=true:=by kernel_rfl
theorem oR:BS Tryz.prog 189=true:=by kernel_rfl
theorem oH:BS Tryz.prog 190=true:=by kernel_rfl
theorem m0:BS Tryz.prog 191=true:=by kernel_rfl
theorem p9:BS Tryz.prog 193=true:=by kernel_rfl
theorem pX:BS Tryz.prog 194=true:=by kernel_rfl
theorem oT:BS Tryz.prog 195=true:=by kernel_rfl
theorem oP:BS Tryz.prog 196=true:=by kernel_rfl
theorem nu:BS Tryz.prog 200=true:=by kernel_rfl
theorem HA:fieldsOf Tryz.prog 26=some [(0,1),(1,1),(2,1),(3,1),(4,1)]:=by kernel_rfl
theorem qa:fieldsOf Tryz.prog 36=some [(0,1),(1,1),(2,1),(3,1),(4,1)]:=by kernel_rfl
theorem Fv:fieldsOf Tryz.prog 51=some [(0,1),(1,1),(2,1),(3,1),(4,5)]:=by kernel_rfl
theorem DD:fieldsOf Tryz.prog 66=some [(0,1),(1,1),(2,1),(3,5),(8,5),(13,1),(14,1),(15,7),(22,1)]:=by kernel_rfl
theorem FK:fieldsOf Tryz.prog 69=some [(0,1),(1,5),(6,1),(7,1)]:=by kernel_rfl
theorem Gw:fieldsOf Tryz.prog 71=some [(0,1),(1,5),(6,1),(7,8)]:=by kernel_rfl
theorem S1:fieldsOf Tryz.prog 115=some [(0,1),(1,1)]:=by kernel_rfl
theorem Iq:fieldsOf Tryz.prog 117=some [(0,1),(1,5)]:=by kernel_rfl
theorem Ig:fieldsOf Tryz.prog 120=some [(0,1),(1,1),(2,8)]:=by kernel_rfl
theorem dM:fieldsOf Tryz.prog 122=some []:=by kernel_rfl
theorem qA:fieldsOf Tryz.prog 125=some [(0,1),(1,1)]:=by kernel_rfl
theorem gN:fieldsOf Tryz.prog 148=some [(0,1),(1,1)]:=by kernel_rfl
theorem kQ:fieldsOf Tryz.prog 162=some [(0,1),(1,1)]:=by kernel_rfl
theorem mn:fieldsOf Tryz.prog 167=some [(0,1),(1,1),(2,1),(3,1),(4,1)]:=by kernel_rfl
theorem O0:fieldsOf Tryz.prog 200=some [(0,1),(1,1),(2,23)]:=by kernel_rfl
theorem oK:fieldsOf Tryz.prog 207=some [(0,1)]:=by kernel_rfl
theorem oE:fieldsOf Tryz.prog 231=some [(0,1),(1,1)]:=by kernel_rfl
theorem cY:mapOf Tryz.prog 229=some 3:=by kernel_rfl
theorem Dt:Tryz.prog.follows .mixedOrders=true:=by kernel_rfl
theorem mr:OF Tryz.prog 162=true:=by kernel_rfl
theorem ty2:EP Tryz.prog 2=some (false,1):=by kernel_rfl
theorem DO:EP Tryz.prog 3=some (false,1):=by kernel_rfl
theorem nR:EP Tryz.prog 4=some (false,1):=by kernel_rfl
theorem Lg:EP Tryz.prog 9=some (false,1):=by kernel_rfl
theorem dz:EP Tryz.prog 22=some (false,1):=by kernel_rfl
theorem Gu:EP Tryz.prog 24=some (false,1):=by kernel_rfl
theorem Bg:EP Tryz.prog 26=some (true,5):=by kernel_rfl
theorem Sd:EP Tryz.prog 29=some (false,1):=by kernel_rfl
theorem Ld:EP Tryz.prog 51=some (true,9):=by kernel_rfl
theorem HW:EP Tryz.prog 61=some (false,1):=by kernel_rfl
theorem HY:EP Tryz.prog 62=some (false,1):=by kernel_rfl
theorem Fg:EP Tryz.prog 66=some (true,23):=by kernel_rfl
theorem Kd:EP Tryz.prog 67=some (false,1):=by kernel_rfl
theorem JJ:EP Tryz.prog 69=some (true,8):=by kernel_rfl
theorem e7:EP Tryz.prog 71=some (true,15):=by kernel_rfl
theorem W6:EP Tryz.prog 104=some (false,1):=by kernel_rfl
theorem Dp:EP Tryz.prog 115=some (true,2):=by kernel_rfl
theorem p7:EP Tryz.prog 117=some (true,6):=by kernel_rfl
theorem TB:EP Tryz.prog 120=some (true,10):=by kernel_rfl
theorem oX:EP Tryz.prog 122=some (true,0):=by kernel_rfl
theorem pU:EP Tryz.prog 139=some (true,2):=by kernel_rfl
theorem Jx:EP Tryz.prog 158=some (false,1):=by kernel_rfl
theorem My:EP Tryz.prog 162=some (true,2):=by kernel_rfl
theorem kV:EP Tryz.prog 167=some (true,5):=by kernel_rfl
theorem nM:EP Tryz.prog 168=some (true,65):=by kernel_rfl
theorem pR:EP Tryz.prog 192=some (true,2):=by kernel_rfl
theorem pW:EP Tryz.prog 205=some (false,1):=by kernel_rfl
theorem mu:EP Tryz.prog 210=some (true,1):=by kernel_rfl
theorem J5:Tryz.prog.underlying 159=some (.array 7 158):=by kernel_rfl
theorem kP:Tryz.prog.underlying 168=some (.array 13 167):=by kernel_rfl
theorem bI:Tryz.prog.underlying 20=some (.interface #[]):=by kernel_rfl
theorem ka:Tryz.prog.underlying 223=some (.int .i64):=by kernel_rfl
theorem qm:Tryz.prog.underlying 4=some .bool:=by kernel_rfl
theorem kM:Tryz.prog.underlying 9=some .string:=by kernel_rfl
theorem cH:zeroOf Tryz.prog 3=some (.int .i64 0):=by kernel_rfl
theorem tK:zeroOf Tryz.prog 4=some (.bool false):=by kernel_rfl
theorem kF:zeroOf Tryz.prog 9=some (.string { data:={ toList:=[] } }):=by kernel_rfl
theorem B4:zeroOf Tryz.prog 26=some (.agg { toList:=[.int .i64 0,.int .i64 0,.string { data:={ toList:=[] } },.slice none 0 0,.slice none 0 0] }):=by kernel_rfl
theorem eG:zeroOf Tryz.prog 29=some (.int .i64 0):=by kernel_rfl
theorem sU:zeroOf Tryz.prog 36=some (.agg { toList:=[.int .i64 0,.int .i64 0,.int .i64 0,.int .i64 0,.bool false] }):=by kernel_rfl
theorem Hw:zeroOf Tryz.prog 51=some (.agg { toList:=[.int .i64 0,.int .i64 0,.int .i64 0,.int .i64 0,.int .i64 0,.int .i64 0,.string { data:={ toList:=[] } },.slice none 0 0,.slice none 0 0] }):=by kernel_rfl
theorem Iz:zeroOf Tryz.prog 66=some (.agg { toList:=[.int .i64 0,.string { data:={ toList:=[] } },.int .i64 0,.int .i64 0,.int .i64 0,.string { data:={ toList:=[] } },.slice none 0 0,.slice none 0 0,.int .i64 0,.int .i64 0,.string { data:={ toList:=[] } },.slice none 0 0,.slice none 0 0,.int .i64 0,.slice none 0 0,.int .i64 0,.int .i64 0,.int .i64 0,.string { data:={ toList:=[] } },.slice none 0 0,.slice none 0 0,.slice none 0 0,.slice none 0 0] }):=by kernel_rfl
theorem Sk:zeroOf Tryz.prog 69=some (.agg { toList:=[.int .i64 0,.int .i64 0,.int .i64 0,.string { data:={ toList:=[] } },.slice none 0 0,.slice none 0 0,.int .i64 0,.slice none 0 0] }):=by kernel_rfl
theorem bW:zeroOf Tryz.prog 71=some (.agg { toList:=[.string { data:={ toList:=[] } },.int .i64 0,.int .i64 0,.string { data:={ toList:=[] } },.slice none 0 0,.slice none 0 0,.int .i64 0,.int .i64 0,.int .i64 0,.int .i64 0,.string { data:={ toList:=[] } },.slice none 0 0,.slice none 0 0,.int .i64 0,.slice none 0 0] }):=by kernel_rfl
theorem Ed:zeroOf Tryz.prog 115=some (.agg { toList:=[.int .i64 0,.slice none 0 0] }):=by kernel_rfl
theorem Zt:zeroOf Tryz.prog 117=some (.agg { toList:=[.string { data:={ toList:=[] } },.int .i64 0,.int .i64 0,.string { data:={ toList:=[] } },.slice none 0 0,.slice none 0 0] }):=by kernel_rfl
theorem Zf:zeroOf Tryz.prog 120=some (.agg { toList:=[.string { data:={ toList:=[] } },.bool false,.int .i64 0,.int .i64 0,.int .i64 0,.string { data:={ toList:=[] } },.slice none 0 0,.slice none 0 0,.int .i64 0,.slice none 0 0] }):=by kernel_rfl
theorem Zu:zeroOf Tryz.prog 122=some (.agg { toList:=[] }):=by kernel_rfl
theorem nH:zeroOf Tryz.prog 137=some (.slice none 0 0):=by kernel_rfl
theorem XS:zeroOf Tryz.prog 139=some (.agg { toList:=[.int .i64 0,.slice none 0 0] }):=by kernel_rfl
theorem eO:zeroOf Tryz.prog 148=some (.agg { toList:=[.int .i64 0,.int .i64 0] }):=by kernel_rfl
theorem Q8:zeroOf Tryz.prog 159=some (.agg { toList:=[.nilFunc,.nilFunc,.nilFunc,.nilFunc,.nilFunc,.nilFunc,.nilFunc] }):=by kernel_rfl
theorem GF:zeroOf Tryz.prog 162=some (.agg { toList:=[.int .i64 0,.int .i64 0] }):=by kernel_rfl
theorem fP:zeroOf Tryz.prog 168=some (.agg { toList:=[.bool false,.bool false,.int .i64 0,.int .i64 0,.int .i64 0,.bool false,.bool false,.int .i64 0,.int .i64 0,.int .i64 0,.bool false,.bool false,.int .i64 0,.int .i64 0,.int .i64 0,.bool false,.bool false,.int .i64 0,.int .i64 0,.int .i64 0,.bool false,.bool false,.int .i64 0,.int .i64 0,.int .i64 0,.bool false,.bool false,.int .i64 0,.int .i64 0,.int .i64 0,.bool false,.bool false,.int .i64 0,.int .i64 0,.int .i64 0,.bool false,.bool false,.int .i64 0,.int .i64 0,.int .i64 0,.bool false,.bool false,.int .i64 0,.int .i64 0,.int .i64 0,.bool false,.bool false,.int .i64 0,.int .i64 0,.int .i64 0,.bool false,.bool false,.int .i64 0,.int .i64 0,.int .i64 0,.bool false,.bool false,.int .i64 0,.int .i64 0,.int .i64 0,.bool false,.bool false,.int .i64 0,.int .i64 0,.int .i64 0] }):=by kernel_rfl
theorem p4:zeroOf Tryz.prog 170=some .nilFunc:=by kernel_rfl
theorem VZ:zeroOf Tryz.prog 192=some (.agg { toList:=[.int .i64 0,.slice none 0 0] }):=by kernel_rfl
theorem kc:zeroOf Tryz.prog 200=some (.agg { toList:=[.slice none 0 0,.slice none 0 0,.int .i64 0,.string { data:={ toList:=[] } },.int .i64 0,.int .i64 0,.int .i64 0,.string { data:={ toList:=[] } },.slice none 0 0,.slice none 0 0,.int .i64 0,.int .i64 0,.string { data:={ toList:=[] } },.slice none 0 0,.slice none 0 0,.int .i64 0,.slice none 0 0,.int .i64 0,.int .i64 0,.int .i64 0,.string { data:={ toList:=[] } },.slice none 0 0,.slice none 0 0,.slice none 0 0,.slice none 0 0] }):=by kernel_rfl
theorem mq:zeroOf Tryz.prog 204=some .nilFunc:=by kernel_rfl
theorem qN:zeroOf Tryz.prog 205=some (.pointer none):=by kernel_rfl
theorem py:zeroOf Tryz.prog 207=some (.agg { toList:=[.int .i64 0] }):=by kernel_rfl
theorem mY:zeroOf Tryz.prog 210=some (.agg { toList:=[.nilFunc] }):=by kernel_rfl
theorem pZ:zeroOf Tryz.prog 231=some (.agg { toList:=[.map none,.int .i64 0] }):=by kernel_rfl
end Go.Proofs.YtboammbpdaoojaaGreat
namespace Go.Abs
theorem WC {F:Nat→Prop}{w:World}{b:Nat}{vs:List Value}{T:TypeId}(hb:w.heap[b]?=some (.cells ⟨vs⟩ T (0,0))):∀(cs:List PV) (o:Nat),CB F w (cs.map .p) (vs.drop o)→Cd F w b o cs
 | [],_,_=>by simp[Cd]
 | c::cs,o,h=>by
  simp only[List.map_cons,CB,CW] at h;obtain⟨u,us,e,hu,hr⟩:=h;have ho:o<vs.length:=by
   by_cases q:o<vs.length
   ·exact q
   rw[List.drop_eq_nil_of_le Ax] at e;cases e
  rw[List.drop_eq_getElem_cons ho] at e;injection e with e1 e2;simp only[Cd];refine⟨⟨u,?_,hu⟩,WC hb cs (o+1) (by rw[e2];exact hr)⟩;unfold World.cell?;rw[hb];simp[ho,e1]
theorem Pw {n:Nat}{τ:Nat→AV}{H:List BR}{D:List Ee}{i b:Nat}{cs:List PV}(ts:List Nat) (hi:H[i]?=some (.box b (cs.map .p))) (ht:∀t∈ts,τ t= .ptr b 0) :
  Io ⟨n,τ,H,D⟩ ⟨n,KA ts (.ref cs) τ,H.eraseIdx i,D⟩:=by
 intro F a w hs;have hmem:=List.mem_of_getElem? hi;have hFb:F b:=hs.heap.sub _ hmem b rfl;have hbd:b<w.heap.size:=hs.heap.bd b hFb;have st:Dl F w (fun k=>F k∧k≠b) w:=⟨Nat.le_refl _,fun _ _ _=>rfl,fun _ h _ h'=>h h'.1⟩;have hne:∀x∈H.eraseIdx i,∀k,x.key=some k→k≠b:=by
  intro x hx k hk hkb;subst hkb;obtain⟨j,hj⟩:=List.mem_iff_getElem?.1 hx;rw[List.getElem?_eraseIdx] at hj;split at hj
  ·have:=IN hs.heap.nodup hj hi hk rfl;omega
  have:=IN hs.heap.nodup hj hi hk rfl;omega
 have hsub:(H.eraseIdx i).Sublist H:=List.eraseIdx_sublist H i;refine⟨fun k=>F k∧k≠b,⟨hs.size,?_,?_,Ff.mono st _ _ hs.defs⟩,?_⟩
 ·intro t;simp only[KA];cases hq:ts.any (Nat.beq t ·) with
  | false=>exact CW.mono st _ _ (hs.tmp t)
  | true =>
   obtain⟨t',ht',he⟩:=List.any_eq_true.1 hq;have e:=Nat.eq_of_beq_eq_true he;subst e;have hv:=hs.tmp t;simp only[ht t ht',CW] at hv;obtain⟨vs,T,hb,hr⟩:=hs.heap.obj _ hmem;show CW (fun k=>F k∧k≠b) w (.ref cs) _;simp only[CW];exact⟨b,0,hv,fun h=>h.2 O,hbd,WC hb cs 0 (by rw[List.drop_zero];exact CB.mono st _ _ hr)⟩
 ·have:=hs.heap.sublist hsub;exact⟨fun x hx k hk=>⟨this.sub x hx k hk,hne x hx k hk⟩,this.nodup,fun x hx=>Ix.mono st x (fun _ _=>O) (this.obj x hx),fun k hk=>this.bd k hk.1⟩
 exact⟨Nat.le_refl _,fun _ _ _=>O,fun k hk hn=>⟨hk,fun e=>hn _ hmem (by rw[e];rfl)⟩,fun k hk=> .inl hk.1,fun x hx k hk=> .inl ⟨x,hsub.subset hx,hk⟩,O,O,O⟩
end Go.Abs
