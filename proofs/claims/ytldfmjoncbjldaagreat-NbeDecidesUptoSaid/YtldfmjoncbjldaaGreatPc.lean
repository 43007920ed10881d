/- Part of the proofs: an abstract program logic, plain models and contracts of functions. -/
import Derived.Test.YtldfmjoncbjldaaGreatPb
import Derived.ProofKit
import Derived.Deep.DeepHandedRow
import Derived.Lib.AppendStr
import Derived.Lib.Builder
import Derived.Laws.Externs
import Derived.Lib.UnsafeStr
import Derived.Below
import Derived.Test.YtldfmjoncbjldaaGreatRows
import Derived.Deep.DeepWitnessRowRef
import Derived.Lib.LaidIn
import Derived.Test.YtldfmjoncbjldaaGreatProg
set_option linter.unusedVariables false
set_option linter.unusedSimpArgs false
set_option maxRecDepth 1000000
namespace Go.Eu
open Go.Abs Go.RowKit Go.ChangeShapes Go.ChangeAt Go.WideShapes
theorem lA:∀{ts:List Tm},(∀t∈ts,Wd t)→nc ts
 | [],_=>trivial
 | t::ts,h=>⟨h t Av,lA fun x hx=>h x (by simp[hx])⟩
abbrev F0:Nat→Prop:=fun _=>False
def CH (w:World):List PV→List Value→Prop
 | [],cs=>cs=[]
 | p::ps,cs=>∃c cs',cs=c::cs'∧Br F0 w p c∧CH w ps cs'
theorem CH.length {w:World}:∀{ps:List PV}{cs:List Value},CH w ps cs→ps.length=cs.length
 | [],cs,h=>by simp only[CH] at h;subst h;rfl
 | p::ps,cs,h=>by
  obtain⟨c,cs',rfl,_,h⟩:=h;simp[CH.length h]
theorem CH.append {w:World}:∀{a b:List PV}{x y:List Value},CH w a x→CH w b y→CH w (a++b) (x++y)
 | [],b,x,y,h,h'=>by simp only[CH] at h;subst h;exact h'
 | p::a,b,x,y,h,h'=>by
  obtain⟨c,cs',rfl,h1,h⟩:=h;exact⟨c,cs'++y,O,h1,CH.append h h'⟩
theorem CH.one {w:World}{p:PV}{c:Value}(h:Br F0 w p c):CH w [p] [c]:=⟨c,[],rfl,h,rfl⟩
theorem CH.repL {w:World}:∀{ps:List PV}{cs:List Value},CH w ps cs→Bf F0 w (ps.map .p) cs
 | [],cs,h=>by simp only[CH] at h;subst h;exact rfl
 | p::ps,cs,h=>by
  obtain⟨c,cs',rfl,h1,h⟩:=h;exact⟨c,cs',O,by simp only[Bz];exact h1,CH.repL h⟩
theorem QW {w:World}{b:Nat}:∀(r:List PV) (cs:List Value) (o:Nat),CH w r cs→(∀j,j<cs.length→w.cell? ⟨b,o+j,none⟩=cs[j]?)→CM F0 w b o r
 | [],cs,o,h,hc=>by simp[CM]
 | p::r,cs,o,h,hc=>by
  obtain⟨c,cs',rfl,h1,h⟩:=h;refine⟨⟨c,by have:=hc 0 Av;simpa using this,h1⟩,QW r cs' (o+1) h fun j hj=>?_⟩;have:=hc (j+1) Ao;rw[show o+1+j=o+(j+1) by omega];simpa using this
theorem Ny {w:World}{base:Nat}{a:Addr}{n:Nat}{cs:List Value}(h:w.cells? base a n=some cs):cs.length=n∧∀j,j<n→w.cell? (a.add j)=cs[j]?:=by
 unfold World.cells? at h;split at h
 ·exact⟨by simpa using mapM_some_length h,fun j hj=>mapM_some_get h j j (by simp[hj])⟩
 cases h
section
variable {H:Type}{enc:TypeId×Value→H}{P:Program}{w:World}{base:Nat}{sp:Nat→Bool}{hd:Bool}{n:Nat}
theorem open_slice {α:Type}{e t C:Nat}(ut:P.underlying t=some (.slice e)) (hC:P.cellsOf e=C) (hC1:1≤C) (f:α→List PV) (Q:α→Prop)
  (he:∀m cs y,m<n→DataW.trod enc P w base sp hd m e cs=some y→∃a,CH w (f a) cs∧Q a) {cs:List Value} {y:DataW H×List MemPlace} (h:DataW.trod enc P w base sp hd n t cs=some y) :
  ∃l:List α,l.length<wide∧(∀a∈l,Q a)∧∃v,cs=[v]∧Br F0 w (.lst (l.map f)) v:=by
 rcases DataW.trod_slice ut h with ⟨rfl,_⟩ | ⟨a,len,cap,elems,rest,m,rfl,rfl,_,hb,hl,hc,hel,hget,_,_⟩
 ·exact⟨[],by simp[wide],fun a ha=>by simp at ha,_,rfl,by simp only[Br];exact .inl ⟨rfl,none,0,rfl⟩⟩
 rw[hC] at hget;have hml:maxLen<wide:=by decide
 rcases Nat.eq_zero_or_pos len with h0 | h0
 ·subst h0;exact⟨[],by simp[wide],fun a ha=>by simp at ha,_,rfl,by simp only[Br];exact .inl ⟨rfl,some a,cap,rfl⟩⟩
 have hone:∀i,i<len→∃ci y,w.cells? base (a.add (i*C)) C=some ci∧DataW.trod enc P w base sp hd m e ci=some y:=fun i hi=>by
  have:=hget i hi;rw[List.getElem?_eq_getElem Au] at this;obtain⟨ci,h1,h2⟩:=Option.bind_eq_some_iff.1 this;exact⟨ci,_,h1,h2⟩
 obtain⟨c0,y0,hc0,_⟩:=hone 0 h0;obtain⟨hl0,hg0⟩:=Ny hc0;have hcell:∃v,w.cell? a=some v:=by
  have:=hg0 0 Au;rw[Nat.zero_mul,Addr.add,if_pos rfl,Addr.add,if_pos rfl] at this;rw[List.getElem?_eq_getElem Au] at this;exact⟨_,this⟩
 obtain⟨v0,hv0⟩:=hcell;obtain⟨blk,off,spot⟩:=a;have hspot:spot=none:=by
  unfold World.cell? at hv0;simp only at hv0;split at hv0
  ·cases spot with
   | none=>rfl
   | some s=>simp at hv0
  cases hv0
 subst hspot;have hblk:blk<w.heap.size:=by
  unfold World.cell? at hv0;simp only at hv0;split at hv0
  ·rename_i hh;exact(Array.getElem?_eq_some_iff.1 hh).1
  cases hv0
 have hadd:∀k,(⟨blk,off,none⟩:Addr).add k=⟨blk,off+k,none⟩:=fun k=>by
  unfold Addr.add;split
  ·rename_i e;subst e;rfl
  rfl
 have hadd2:∀o k,(⟨blk,o,none⟩:Addr).add k=⟨blk,o+k,none⟩:=fun o k=>by
  unfold Addr.add;split
  ·rename_i e;subst e;rfl
  rfl
 have hrows:∀k,k≤len→∃l:List α,l.length=k∧(∀x∈l,Q x)∧Bl F0 w blk C (off+(len - k)*C) (l.map f):=by
  intro k
  induction k with
  | zero=>exact fun _=>⟨[],rfl,fun a ha=>by simp at ha,by simp[Bl]⟩
  | succ k ih =>
   intro hk;obtain⟨l,h1,h2,h3⟩:=ih Au;obtain⟨ci,y,hci,ht⟩:=hone (len - (k+1)) Au;obtain⟨g1,g2⟩:=Ny hci;obtain⟨x,hx,hq⟩:=he m ci y Au ht;refine⟨x::l,by simp[h1],fun z hz=>?_,?_⟩
   ·rcases List.mem_cons.1 hz with rfl | hz
    ·exact hq
    exact h2 z hz
   refine⟨by rw[hx.length,g1],QW _ ci _ hx fun j hj=>?_,?_⟩
   ·have:=g2 j Au;rw[hadd,hadd2] at this;exact this
   rw[show off+(len - (k+1))*C+C=off+(len - k)*C by rw[Nat.add_assoc,←Nat.succ_mul];congr 2;omega];exact h3
 obtain⟨l,h1,h2,h3⟩:=hrows len (Nat.le_refl _);rw[Nat.sub_self,Nat.zero_mul,Nat.add_zero] at h3;refine⟨l,by omega,h2,_,rfl,?_⟩;simp only[Br];refine .inr ⟨blk,off,cap,C,by rw[List.length_map,h1],fun h=>h,hblk,by rw[List.length_map];omega,h3⟩
def PA (P:Program) (t:TypeId):Option (List (Nat×Nat)) :=
 match P.underlying t with
 | some (.struct fs)=>some (fs.toList.map fun f=>(f.type,f.offset))
 | _=>none
theorem XJ {t:TypeId}{l:List (Nat×Nat)}(hf:PA P t=some l) {cs:List Value}{y:DataW H×List MemPlace}(h:DataW.trod enc P w base sp hd n t cs=some y) :
  ∃m,n=m+1∧cs.length=P.cellsOf t∧∀(i:Nat) (p:Nat×Nat),l[i]?=some p→∃z,DataW.trod enc P w base sp hd m p.1 ((cs.drop p.2).take (P.cellsOf p.1))=some z:=by
 unfold PA at hf;split at hf
 ·rename_i fs hu;injection hf with hf;subst hf;obtain⟨xs,m,h1,_,h2,h3,h4⟩:=DataW.trod_struct hu h;refine⟨m,h1,h2,fun i p hp=>?_⟩;rw[List.getElem?_map] at hp;obtain⟨fl,hfl,rfl⟩:=Option.map_eq_some_iff.1 hp;have hi:fs[i]?=some fl:=by simpa using hfl
  have:=h4 i fl hi;have hlt:i<xs.length:=by rw[h3];exact(Array.getElem?_eq_some_iff.1 hi).1
  rw[List.getElem?_eq_getElem hlt] at this;exact⟨_,this⟩
 cases hf
end
structure Ht (P:Program) (tI tS tV tVs tL tLs tT tTs:TypeId):Prop where
 uI:P.underlying tI=some (.int .i64)
 uS:P.underlying tS=some .string
 uVs:P.underlying tVs=some (.slice tV)
 uLs:P.underlying tLs=some (.slice tL)
 uTs:P.underlying tTs=some (.slice tT)
 fV:PA P tV=some [(tI,0),(tI,1)]
 fL:PA P tL=some [(tI,0),(tVs,1)]
 fT:PA P tT=some [(tI,0),(tI,1),(tS,2),(tLs,3),(tTs,4)]
 cI:P.cellsOf tI=1
 cS:P.cellsOf tS=1
 cVs:P.cellsOf tVs=1
 cLs:P.cellsOf tLs=1
 cTs:P.cellsOf tTs=1
 cV:P.cellsOf tV=2
 cL:P.cellsOf tL=2
 cT:P.cellsOf tT=5
theorem P8 {n:Int}(h:(Lit.int .i64 n).wf=true):JY n:=by
 simp only[Lit.wf,Bool.and_eq_true,decide_eq_true_eq] at h;exact h
theorem _root_.Go.As {α:Prop}(h:α:=by decide):α:=h
section
variable {H:Type}{enc:TypeId×Value→H}{P:Program}{w:World}{base:Nat}{sp:Nat→Bool}{hd:Bool}{tI tB tS tV tVs tL tLs tT tTs tM tMs:TypeId}
theorem mi (E:Ht P tI tS tV tVs tL tLs tT tTs) {n:Nat}{cs:List Value}{y:DataW H×List MemPlace}(h:DataW.trod enc P w base sp hd n tV cs=some y):∃v:B6,CH w (Ey v) cs∧(JY v.index∧JY v.plus):=by
 obtain⟨m,rfl,hl,hg⟩:=XJ E.fV h;rw[E.cV] at hl
 match cs,hl with
 | [c0,c1],_ =>
  obtain⟨z0,h0⟩:=hg 0 _ rfl;obtain⟨z1,h1⟩:=hg 1 _ rfl;simp only[E.cI,List.drop_zero,List.drop_succ_cons,List.take_succ_cons,List.take_zero] at h0 h1;obtain⟨a,ha,_,fa⟩:=DataW.trod_int E.uI h0;obtain⟨b,hb,_,fb⟩:=DataW.trod_int E.uI h1;injection ha with ha;injection hb with hb;subst ha hb;exact⟨⟨a,b⟩,⟨_,_,O,by simp[Br],_,_,rfl,by simp[Br],rfl⟩,P8 fa,P8 fb⟩
theorem sV (E:Ht P tI tS tV tVs tL tLs tT tTs) {n:Nat}{cs:List Value}{y:DataW H×List MemPlace}(h:DataW.trod enc P w base sp hd n tL cs=some y):∃v:CX,CH w (B4 v) cs∧ud v:=by
 obtain⟨m,rfl,hl,hg⟩:=XJ E.fL h;rw[E.cL] at hl
 match cs,hl with
 | [c0,c1],_ =>
  obtain⟨z0,h0⟩:=hg 0 _ rfl;obtain⟨z1,h1⟩:=hg 1 _ rfl;simp only[E.cI,E.cVs,List.drop_zero,List.drop_succ_cons,List.take_succ_cons,List.take_zero] at h0 h1;obtain⟨a,ha,_,fa⟩:=DataW.trod_int E.uI h0;injection ha with ha;subst ha;obtain⟨l,g1,g2,v,hv,g3⟩:=open_slice E.uVs E.cV As Ey (fun v=>JY v.index∧JY v.plus) (fun m cs y _ h=>mi E h) h1;injection hv with hv;subst hv;exact⟨⟨a,l⟩,⟨_,_,O,by simp[Br],_,_,rfl,g3,rfl⟩,⟨g1,P8 fa,g2⟩⟩
theorem s9 (E:Ht P tI tS tV tVs tL tLs tT tTs):∀(n:Nat) (cs:List Value) (y:DataW H×List MemPlace),DataW.trod enc P w base sp hd n tT cs=some y→∃t:Tm,CH w (BD t) cs∧Wd t:=by
 intro n
 induction n using Nat.strongRecOn with
 | ind n ih =>
  intro cs y h;obtain⟨m,rfl,hl,hg⟩:=XJ E.fT h;rw[E.cT] at hl
  match cs,hl with
  | [c0,c1,c2,c3,c4],_ =>
   obtain⟨z0,h0⟩:=hg 0 _ rfl;obtain⟨z1,h1⟩:=hg 1 _ rfl;obtain⟨z2,h2⟩:=hg 2 _ rfl;obtain⟨z3,h3⟩:=hg 3 _ rfl;obtain⟨z4,h4⟩:=hg 4 _ rfl;simp only[E.cI,E.cS,E.cLs,E.cTs,List.drop_zero,List.drop_succ_cons,List.take_succ_cons,List.take_zero] at h0 h1 h2 h3 h4;obtain⟨a,ha,_,wa⟩:=DataW.trod_int E.uI h0;obtain⟨b,hb,_,wb⟩:=DataW.trod_int E.uI h1;obtain⟨s,hs,_,ws⟩:=DataW.trod_string E.uS h2;injection ha with ha;injection hb with hb;injection hs with hs;subst ha hb hs;obtain⟨l,g1,g2,v,hv,g3⟩:=open_slice E.uLs E.cL As B4 ud (fun m cs y _ h=>sV E h) h3;obtain⟨ks,k1,k2,u,hu,k3⟩:=open_slice E.uTs E.cT As BD Wd (fun m' cs y hm h=>ih m' Au cs y h) h4;injection hv with hv;injection hu with hu;subst hv hu;have hml:maxLen<wide:=by decide
   exact⟨.mk a b s l ks,⟨_,_,O,by simp[Br],_,_,rfl,by simp[Br],_,_,rfl,by simp[Br],_,_,rfl,g3,_,_,rfl,by rw[EY];exact k3,rfl⟩,
    ⟨by omega,g1,g2,k1,lA fun t ht=>k2 t ht,P8 wa,P8 wb⟩⟩
theorem hY {b2:Nat}{r:Reach}{t e:TypeId}(ut:P.underlying t=some (.slice e)) {v u:Value}(hk:Value.okWide P w r b2 t v) (h:v.cells.toList=[u]):v=u:=by
 unfold Value.okWide at hk;rw[ut] at hk;simp only at hk;unfold Cell.okWide at hk;rw[ut] at hk;cases v with
 | agg cs=>simp only at hk;unfold Cell.ok at hk;rw[ut] at hk;simp at hk
 | _=>simp[Value.cells] at h;exact h
theorem wT (E:Ht P tI tS tV tVs tL tLs tT tTs) {b2:Nat}{r:Reach}{v:Value}{d:DataW H}{ps:List MemPlace}(hk:Value.okWide P w r b2 tT v) (h:DataW.Trod enc P w base sp hd tT v d ps):∃t:Tm,Wd t∧Bz F0 w (TV t) v:=by
 obtain⟨n,h⟩:=h;obtain⟨t,g1,g2⟩:=s9 E _ _ _ h;have hf:=E.fT;unfold PA at hf;unfold Value.okWide at hk;split at hk
 ·obtain⟨cs,rfl,_,_⟩:=hk;refine⟨t,g2,?_⟩;exact⟨cs.toList,by simp,CH.repL g1⟩
 ·rename_i hu;rw[hu] at hf;cases hf
 rename_i h1 h2;split at hf
 ·rename_i fs hu;exact absurd hu (h1 fs)
 cases hf
end
theorem iF (w:World):HRel F0 [] w:=⟨fun o ho=>by simp at ho,by simp,fun o ho=>by simp at ho,fun b hb=>hb.elim⟩
theorem cw {P:Program}{f:FuncId}{xs:List AV}(h:En P f xs (.p (.bool true))) {w:World}{vs:List Value}(ha:Bf F0 w xs vs):Calls P f ⟨vs⟩ w fun e w'=>e= .returned (.bool true)∧Below w.heap.size w w':=by
 refine(h.2 F0 w vs (iF w) ha).mono ?_;rintro e w' ⟨r,H',F',hr,he,hH,ht⟩;cases r with
 | panic v=>exact hr.elim
 | val v =>
  obtain⟨rfl,rfl⟩:=hr;obtain⟨u,rfl,hu⟩:=he;simp only[Bz,Br] at hu;subst hu;exact⟨O,ht.os,ht.tape,ht.out,ht.size,fun k hk=>ht.same k hk fun o ho=>by simp at ho⟩
theorem bZ {H:Type}{enc:TypeId×Value→H}{P:Program}{f:Func}{s:ChangeSpec}{tB:TypeId}(hl:laidOutB P=true) (hB:P.underlying tB=some .bool) (hrt:f.resultTypes=#[tB]) (hv0:s.vars=[]) {W W':World}{args:Array Value}{ds:List (DataW H)}{before:List MemPlace}
  (hpr:∀t∈f.params.toList,P.readableRec t=true∧t<P.types.size) (hW:DataW.Whole enc P f.params.toList s.vars false W args.toList ds [] before) (hres:(s.fn H ds).results=[.lit (.bool true)]) (hargs:(s.fn H ds).args=ds) (hvars:(s.fn H ds).vars=[]) (hb:Below W.heap.size W W') :
  s.post enc P f false true false false W args (.bool true) W':=by
 have hW':=hW;obtain⟨p,q,hA,hV,rfl,hfz,hnd⟩:=hW;have hq:q=[]:=by rw[hv0] at hV;exact hV
 subst hq;have hstay:∀{ts:List TypeId} {vs:List Value} {ds:List (DataW H)} {ps:List MemPlace},(∀t∈ts,P.readableRec t=true∧t<P.types.size)→(∀x∈ps,x.block<W.heap.size)→DataW.TrodAll enc P W 0 (fun _=>true) true ts vs ds ps→DataW.TrodAll enc P W' 0 (fun b=>decide (b<W.heap.size)) true ts vs ds ps:=by
  intro ts
  induction ts with
  | nil =>
   intro vs ds ps _ _ h;cases vs<;>cases ds<;>simp[DataW.TrodAll] at h ⊢;exact h
  | cons t ts ih =>
   intro vs ds ps h1 h2 h;obtain⟨v,vs',d,ds',a,b,rfl,rfl,rfl,h3,h4⟩:=trodAll_cons h;exact⟨a,b,Below.trod hl (h1 t Av).1 (h1 t Av).2 h3 hb (fun x hx=>h2 x (by simp[hx])),ih (fun t ht=>h1 t (by simp[ht])) (fun x hx=>h2 x (by simp[hx])) h4,O⟩
 refine⟨ds,[],p++[],[],p,[],hW',?_,?_,?_,hb.frame _,fun h=>by cases h⟩
 ·rw[List.append_nil,hres,hrt];refine⟨[],[],⟨1,?_⟩,O,O⟩;unfold DataW.trod;rw[hB];rfl
 ·rw[List.append_nil,hargs];exact hstay hpr (fun x hx=>hW'.lt x (by simpa using hx)) hA
 rw[List.append_nil,hvars,hv0];exact O
section
variable {H:Type}{enc:TypeId×Value→H}{P:Program}{w:World}{base:Nat}{sp:Nat→Bool}{hd:Bool}{tI tB tS tV tVs tL tLs tT tTs tM tMs:TypeId}
end
end Go.Eu
namespace Go.Eu
open Go.Abs
structure LQ where
 name:ByteArray
 type:Tm
 deriving Inhabited
structure ri where
 params:Int
 type:Tm
 rules:List Tm
 deriving Inhabited
mutual
inductive FY where
 | mk (kind:Int) (body:Tm) (var:Int) (branches:List G3)
inductive G3 where
 | mk (ctor:ByteArray) (absurd:Bool) (tree:FY)
end
instance:Inhabited FY:=⟨.mk 0 default 0 []⟩
instance:Inhabited G3:=⟨.mk default false default⟩
def FY.kind:FY→Int | .mk k _ _ _=>k
def FY.body:FY→Tm | .mk _ b _ _=>b
def FY.var:FY→Int | .mk _ _ v _=>v
def FY.branches:FY→List G3 | .mk _ _ _ l=>l
def G3.ctor:G3→ByteArray | .mk c _ _=>c
def G3.absurd:G3→Bool | .mk _ a _=>a
def G3.tree:G3→FY | .mk _ _ t=>t
structure I9 where
 name:ByteArray
 type:Tm
 arity:Int
 tree:FY
 deriving Inhabited
structure B8 where
 kind:Int
 name:ByteArray
 params:Int
 type:Tm
 value:Tm
 fixed:Int
 ctors:List LQ
 recs:ri
 funs:List I9
 deriving Inhabited
structure IJ where
 kind:Int
 decl:Int
 item:Int
 params:Int
 type:Tm
 deriving Inhabited
def KB (c:LQ):List PV:= .str c.name::BD c.type
def Sf (r:ri):List PV:=I r.params::(BD r.type++[.lst (A6 r.rules)])
mutual
def EC:FY→List PV
 | .mk k b v l=>I k::(BD b++[I v,.lst (MU l)])
def HY:G3→List PV
 | .mk c a t=> .str c:: .bool a::EC t
def MU:List G3→List (List PV)
 | []=>[]
 | b::l=>HY b::MU l
end
def Ix (f:I9):List PV:= .str f.name::(BD f.type++(I f.arity::EC f.tree))
def B1 (d:B8):List PV:=I d.kind:: .str d.name::I d.params::(BD d.type++(BD d.value++(I d.fixed:: .lst (d.ctors.map KB)::(Sf d.recs++[.lst (d.funs.map Ix)]))))
def GH (e:IJ):List PV:=I e.kind::I e.decl::I e.item::I e.params::BD e.type
theorem K7:∀l:List G3,MU l=l.map HY
 | []=>rfl
 | t::ts=>by simp[MU,K7 ts]
theorem Ei (c:LQ):(KB c).length=6:=by simp[KB,A7]
theorem LL (r:ri):(Sf r).length=7:=by simp[Sf,A7]
theorem Ds (t:FY):(EC t).length=8:=by cases t;simp[EC,A7]
theorem EX (b:G3):(HY b).length=10:=by cases b;simp[HY,Ds]
theorem Eh (f:I9):(Ix f).length=15:=by simp[Ix,A7,Ds]
theorem DJ (d:B8):(B1 d).length=23:=by simp[B1,A7,LL]
theorem O7 (e:IJ):(GH e).length=9:=by simp[GH,A7]
theorem Gt (l:List G3):(MU l).length=l.length:=by simp[K7]
theorem IE {ts:List G3}{i:Nat}{t:G3}(h:ts[i]?=some t):(MU ts)[i]?=some (HY t):=by simp[K7,h]
theorem Px {α:Type}{f:α→List PV}{ts:List α}{i:Nat}{t:α}(h:ts[i]?=some t):(ts.map f)[i]?=some (f t):=by simp[h]
theorem Gr {ts:List LQ}{i:Nat}{t:LQ}(h:ts[i]?=some t):(ts.map KB)[i]?=some (KB t):=Px h
theorem Fe {ts:List I9}{i:Nat}{t:I9}(h:ts[i]?=some t):(ts.map Ix)[i]?=some (Ix t):=Px h
theorem G4 {ts:List B8}{i:Nat}{t:B8}(h:ts[i]?=some t):(ts.map B1)[i]?=some (B1 t):=Px h
theorem C5 {n:Nat}{c:PV}{r:List PV}(hc:c≠ .any∧c≠ .unit) (h:Ej n r):Ej (n+1) (c::r) :=
 ⟨by simp[h.1],fun x hx=>by
  rcases List.mem_cons.1 hx with rfl | hx
  ·exact hc
  exact h.2 x hx⟩
theorem Jp {n m:Nat}{a b:List PV}(ha:Ej n a) (hb:Ej m b):Ej (n+m) (a++b) :=
 ⟨by simp[ha.1,hb.1],fun x hx=>by
  rcases List.mem_append.1 hx with hx | hx
  ·exact ha.2 x hx
  exact hb.2 x hx⟩
theorem Qi:Ej 0 []:=⟨rfl,fun c h=>by simp at h⟩
theorem oB (c:LQ):Ej 6 (KB c):=C5 Av (MH _)
theorem tg (r:ri):Ej 7 (Sf r):=C5 Av (Jp (MH _) (C5 Av Qi))
theorem UX (t:FY):Ej 8 (EC t):=by
 cases t with
 | mk k b v l=>unfold EC;exact C5 Av (Jp (n:=5) (m:=2) (MH _) (C5 Av (C5 Av Qi)))
theorem n4 (b:G3):Ej 10 (HY b):=by
 cases b with
 | mk c a t=>unfold HY;exact C5 Av (C5 Av (UX t))
theorem sc (f:I9):Ej 15 (Ix f):=C5 Av (Jp (n:=5) (m:=9) (MH _) (C5 Av (UX _)))
theorem cE (d:B8):Ej 23 (B1 d):=C5 Av (C5 Av (C5 Av (Jp (n:=5) (m:=15) (MH _) (Jp (n:=5) (m:=10) (MH _) (C5 Av (C5 Av (Jp (n:=7) (m:=1) (tg _) (C5 Av Qi))))))))
theorem sf (e:IJ):Ej 9 (GH e):=C5 Av (C5 Av (C5 Av (C5 Av (MH _))))
theorem gD (l:List B8):∀r∈l.map B1,Ej 23 r:=IG cE l
theorem qY (m:LQ):((KB m).map AV.p).all one=true:=IF (oB m)
theorem np (m:FY):((EC m).map AV.p).all one=true:=IF (UX m)
theorem Xl (m:G3):((HY m).map AV.p).all one=true:=IF (n4 m)
theorem oJ (m:I9):((Ix m).map AV.p).all one=true:=IF (sc m)
theorem qp (m:B8):((B1 m).map AV.p).all one=true:=IF (cE m)
theorem qu (m:IJ):((GH m).map AV.p).all one=true:=IF (sf m)
end Go.Eu
namespace Go.Eu
open Go.Abs Go.RowKit Go.ChangeShapes Go.ChangeAt Go.WideShapes
section
variable {H:Type}{enc:TypeId×Value→H}{P:Program}{w:World}{base:Nat}{sp:Nat→Bool}{hd:Bool}{tI tB tS tV tVs tL tLs tT tTs tM tMs tSs tTh:TypeId}
end
end Go.Eu
namespace Go.Eu
open Go.Abs
def Xq (n:ByteArray):ByteArray:=n++⟨#[46,114,101,99]⟩
def JN (i p:Int):List LQ→Int→List (ByteArray×IJ)
 | [],_=>[]
 | c::cs,k=>(c.name,⟨4,i,k,p,c.type⟩)::JN i p cs (k+1)
def Mk (i p:Int):List I9→Int→List (ByteArray×IJ)
 | [],_=>[]
 | c::cs,k=>(c.name,⟨6,i,k,p,c.type⟩)::Mk i p cs (k+1)
def GD (d:B8) (i:Int):List (ByteArray×IJ) :=
 if d.kind=0∨d.kind=1∨d.kind=2 then [(d.name,⟨d.kind,i,0,d.params,d.type⟩)]
 else if d.kind=3 then (d.name,⟨3,i,0,d.params,d.type⟩)::(JN i d.params d.ctors 0++[(Xq d.name,⟨5,i,0,d.recs.params,d.recs.type⟩)])
 else if d.kind=4 then Mk i d.params d.funs 0
 else []
def C2 (nm:ByteArray):List (ByteArray×IJ)→Option IJ
 | []=>none
 | (s,e)::l=>if s=nm then some e else C2 nm l
def findF (nm:ByteArray):List B8→Int→Option IJ
 | [],_=>none
 | d::ds,i=>match C2 nm (GD d i) with
  | some e=>some e
  | none=>findF nm ds (i+1)
def jN:IJ:=⟨0,0,0,0,BN⟩
def BY (ds:List B8) (nm:ByteArray):IJ×Int:=match findF nm ds 0 with
 | some e=>(e,0)
 | none=>(jN,9)
theorem MG {nm:ByteArray}:∀{a b:List (ByteArray×IJ)},C2 nm (a++b)=match C2 nm a with
  | some e=>some e
  | none=>C2 nm b
 | [],b=>rfl
 | (s,e)::a,b=>by
  simp only[List.cons_append,C2];split
  ·rfl
  exact MG
section
variable {i p:Int}{nm:ByteArray}
theorem Qu:∀{cs:List LQ}{j:Nat}{c:LQ}{k:Int},cs[j]?=some c→c.name=nm→(∀q,q<j→∀y,cs[q]?=some y→y.name≠nm)→C2 nm (JN i p cs k)=some ⟨4,i,k+j,p,c.type⟩
 | [],j,c,k,h,_,_=>by simp at h
 | a::cs,0,c,k,h,hn,_=>by
  simp at h;subst h;simp[JN,C2,hn]
 | a::cs,j+1,c,k,h,hn,hb=>by
  have h0:a.name≠nm:=hb 0 Au a rfl;rw[JN,C2,if_neg h0,Qu (by simpa using h) hn fun q hq y hy=>hb (q+1) Au y (by simpa using hy)];congr 2;omega
theorem Oa:∀{cs:List LQ}{k:Int},(∀q:Nat,q<cs.length→∀y,cs[q]?=some y→y.name≠nm)→C2 nm (JN i p cs k)=none
 | [],k,_=>rfl
 | a::cs,k,hb=>by
  have h0:a.name≠nm:=hb 0 Av a rfl;rw[JN,C2,if_neg h0];exact Oa fun q hq y hy=>hb (q+1) (by simpa using hq) y (by simpa using hy)
theorem VW:∀{cs:List LQ}{j:Nat}{c:LQ}{k:Int},cs[j]?=some c→(c.name,(⟨4,i,k+j,p,c.type⟩:IJ))∈JN i p cs k
 | [],j,c,k,h=>by simp at h
 | a::cs,0,c,k,h=>by simp at h;subst h;simp[JN]
 | a::cs,j+1,c,k,h=>by
  have:=VW (k:=k+1) (show cs[j]?=some c by simpa using h);rw[JN];refine List.mem_cons_of_mem _ ?_
  rwa [show k+1+(j:Int)=k+((j+1:Nat):Int) by omega] at this
theorem Sn:∀{cs:List I9}{j:Nat}{c:I9}{k:Int},cs[j]?=some c→c.name=nm→(∀q,q<j→∀y,cs[q]?=some y→y.name≠nm)→C2 nm (Mk i p cs k)=some ⟨6,i,k+j,p,c.type⟩
 | [],j,c,k,h,_,_=>by simp at h
 | a::cs,0,c,k,h,hn,_=>by
  simp at h;subst h;simp[Mk,C2,hn]
 | a::cs,j+1,c,k,h,hn,hb=>by
  have h0:a.name≠nm:=hb 0 Au a rfl;rw[Mk,C2,if_neg h0,Sn (by simpa using h) hn fun q hq y hy=>hb (q+1) Au y (by simpa using hy)];congr 2;omega
theorem QQ:∀{cs:List I9}{k:Int},(∀q:Nat,q<cs.length→∀y,cs[q]?=some y→y.name≠nm)→C2 nm (Mk i p cs k)=none
 | [],k,_=>rfl
 | a::cs,k,hb=>by
  have h0:a.name≠nm:=hb 0 Av a rfl;rw[Mk,C2,if_neg h0];exact QQ fun q hq y hy=>hb (q+1) (by simpa using hq) y (by simpa using hy)
theorem Zw:∀{cs:List I9}{j:Nat}{c:I9}{k:Int},cs[j]?=some c→(c.name,(⟨6,i,k+j,p,c.type⟩:IJ))∈Mk i p cs k
 | [],j,c,k,h=>by simp at h
 | a::cs,0,c,k,h=>by simp at h;subst h;simp[Mk]
 | a::cs,j+1,c,k,h=>by
  have:=Zw (k:=k+1) (show cs[j]?=some c by simpa using h);rw[Mk];refine List.mem_cons_of_mem _ ?_
  rwa [show k+1+(j:Int)=k+((j+1:Nat):Int) by omega] at this
end
def DU (d:B8):List ByteArray :=
 if d.kind=0∨d.kind=1∨d.kind=2 then [d.name]
 else if d.kind=3 then d.name::d.ctors.map LQ.name++[Xq d.name]
 else if d.kind=4 then d.funs.map I9.name
 else []
def II (l:List ByteArray) (s:ByteArray):Bool:=l.any fun x=>decide (x=s)
theorem jh {l:List ByteArray}{s x:ByteArray}{i:Nat}(h:l[i]?=some x) (e:x=s):II l s=true :=
 List.any_eq_true.2 ⟨x,List.mem_of_getElem? h,by simp[e]⟩
theorem iA {l:List ByteArray}{s:ByteArray}(h:∀j,j<l.length→∀x,l[j]?=some x→x≠s):II l s=false:=by
 refine Bool.eq_false_iff.2 fun hb=>?_;obtain⟨x,hx,hq⟩:=List.any_eq_true.1 hb;obtain⟨j,hj⟩:=List.mem_iff_getElem?.1 hx;exact h j (List.getElem?_eq_some_iff.1 hj).1 x hj (by simpa using hq)
def Ou (nm:ByteArray) (i p:Int) (o:IJ):List LQ→Int→IJ
 | [],_=>o
 | c::cs,k=>if c.name=nm then ⟨4,i,k,p,c.type⟩ else Ou nm i p o cs (k+1)
def gY (nm:ByteArray) (i p:Int) (o:IJ):List I9→Int→IJ
 | [],_=>o
 | c::cs,k=>if c.name=nm then ⟨6,i,k,p,c.type⟩ else gY nm i p o cs (k+1)
def Gv (d:B8) (i:Int) (nm:ByteArray):IJ :=
 if d.kind=0∨d.kind=1∨d.kind=2 then ⟨d.kind,i,0,d.params,d.type⟩
 else if d.kind=3 then (if nm=d.name then ⟨3,i,0,d.params,d.type⟩ else Ou nm i d.params ⟨5,i,0,d.recs.params,d.recs.type⟩ d.ctors 0)
 else gY nm i d.params ⟨0,i,0,d.params,d.type⟩ d.funs 0
theorem Ph {nm:ByteArray}{i p:Int}{o:IJ}:∀{cs:List LQ}{k:Int},Ou nm i p o cs k=(C2 nm (JN i p cs k)).getD o
 | [],k=>rfl
 | c::cs,k=>by
  rw[Ou,JN,C2];split
  ·rfl
  exact Ph
theorem R2 {nm:ByteArray}{i p:Int}{o:IJ}:∀{cs:List I9}{k:Int},gY nm i p o cs k=(C2 nm (Mk i p cs k)).getD o
 | [],k=>rfl
 | c::cs,k=>by
  rw[gY,Mk,C2];split
  ·rfl
  exact R2
theorem Q9 {nm:ByteArray}{i p:Int}:∀{cs:List LQ}{k:Int},(C2 nm (JN i p cs k)).isSome=II (cs.map LQ.name) nm
 | [],k=>rfl
 | c::cs,k=>by
  rw[JN,C2];split
  ·rename_i h;simp[II,h]
  rename_i h;rw[Q9];simp[II,h]
theorem UL {nm:ByteArray}{i p:Int}:∀{cs:List I9}{k:Int},(C2 nm (Mk i p cs k)).isSome=II (cs.map I9.name) nm
 | [],k=>rfl
 | c::cs,k=>by
  rw[Mk,C2];split
  ·rename_i h;simp[II,h]
  rename_i h;rw[UL];simp[II,h]
theorem lS {a b:List ByteArray}{s:ByteArray}:II (a++b) s=(II a s||II b s):=List.any_append
theorem Ko (d:B8) (i:Int) (nm:ByteArray):C2 nm (GD d i)=if II (DU d) nm=true then some (Gv d i nm) else none:=by
 unfold GD DU Gv;by_cases h:d.kind=0∨d.kind=1∨d.kind=2
 ·simp only[if_pos h,C2];by_cases e:d.name=nm<;>simp[II,e]
 simp only[if_neg h];by_cases h3:d.kind=3
 ·simp only[if_pos h3,C2,MG,List.cons_append];by_cases e:d.name=nm
  ·simp[II,e]
  have e':¬nm=d.name:=fun q=>e q.symm;rw[if_neg e,if_neg e',Ph];have hn:=Q9 (nm:=nm) (i:=i) (p:=d.params) (cs:=d.ctors) (k:=0);have hh:II (d.name::(d.ctors.map LQ.name++[Xq d.name])) nm=(II (d.ctors.map LQ.name) nm||II [Xq d.name] nm):=by
   rw[←lS];simp[II,e]
  rw[hh,←hn];cases hf:C2 nm (JN i d.params d.ctors 0) with
  | some x=>simp
  | none =>
   by_cases e2:Xq d.name=nm<;>simp[II,e2]
 simp only[if_neg h3];by_cases h4:d.kind=4
 ·simp only[if_pos h4];rw[R2,←UL (i:=i) (p:=d.params) (k:=0)];cases hf:C2 nm (Mk i d.params d.funs 0)<;>simp
 simp[h4,C2,II]
structure Ui where
 env:List B8
 own:List ByteArray
 d:B8
def JF (s:Ui):List PV:= .lst (s.env.map B1):: .lst (s.own.map Ib)::B1 s.d
theorem gp (s:Ui):(JF s).length=25:=by simp[JF,DJ]
theorem qe (s:Ui):Ej 25 (JF s):=C5 Av (C5 Av (cE _))
theorem pN (m:Ui):((JF m).map AV.p).all one=true:=IF (qe m)
structure YC (t:Tm):Prop where
 nd:Nd t
 sz:size t<1000000
mutual
def JL:FY→Prop
 | .mk k b v l=>YC b∧l.length<2000000∧On l
def UE:G3→Prop
 | .mk c a t=>c.size<2000000∧JL t
def On:List G3→Prop
 | []=>True
 | b::l=>UE b∧On l
end
mutual
def MS:FY→Nat
 | .mk k b v l=>1+ZN l
def kh:G3→Nat
 | .mk c a t=>MS t
def ZN:List G3→Nat
 | []=>0
 | b::l=>kh b+1+ZN l
end
theorem J8:∀{l:List G3}{i:Nat}{b:G3},On l→l[i]?=some b→UE b
 | [],i,b,_,h=>by simp at h
 | a::l,0,b,hn,h=>by simp at h;subst h;exact hn.1
 | a::l,i+1,b,hn,h=>by simp at h;exact J8 hn.2 h
theorem Vx:∀{l:List G3}{i:Nat}{b:G3},l[i]?=some b→kh b<ZN l
 | [],i,b,h=>by simp at h
 | a::l,0,b,h=>by simp at h;subst h;simp only[ZN];omega
 | a::l,i+1,b,h=>by
  have:=Vx (show l[i]?=some b by simpa using h);simp only[ZN];omega
structure kc (c:LQ):Prop where
 nm:c.name.size<2000000
 ty:YC c.type
structure l5 (f:I9):Prop where
 nm:f.name.size<2000000
 ty:YC f.type
 tr:JL f.tree
structure Q0 (d:B8):Prop where
 nm:d.name.size<2000000
 ty:YC d.type
 vl:YC d.value
 cl:d.ctors.length<2000000
 cs:∀c∈d.ctors,kc c
 rt:YC d.recs.type
 rl:d.recs.rules.length<2000000
 rs:∀t∈d.recs.rules,YC t
 fl:d.funs.length<2000000
 fs:∀f∈d.funs,l5 f
structure IT (ds:List B8):Prop where
 len:ds.length<2000000
 all:∀d∈ds,Q0 d
theorem IT.take {ds:List B8}(h:IT ds) (n:Nat):IT (ds.take n) :=
 ⟨by have:=h.len;simp;omega,fun d hd=>h.all d (List.mem_of_mem_take hd)⟩
theorem eV {nm:ByteArray}:∀{ds:List B8}{i:Nat}{k:Int}{d:B8},ds[i]?=some d→(∀j,j<i→∀y,ds[j]?=some y→II (DU y) nm=false)→II (DU d) nm=true→findF nm ds k=some (Gv d (k+i) nm)
 | [],i,k,d,h,_,_=>by simp at h
 | a::ds,0,k,d,h,_,hn=>by
  simp at h;subst h;rw[findF,Ko,if_pos hn];simp
 | a::ds,i+1,k,d,h,hb,hn=>by
  have h0:=hb 0 Au a rfl;rw[findF,Ko,if_neg (by rw[h0];decide)];simp only;rw[eV (by simpa using h) (fun j hj y hy=>hb (j+1) Au y (by simpa using hy)) hn];congr 2;omega
theorem Ve {nm:ByteArray}:∀{ds:List B8}{k:Int},(∀j,j<ds.length→∀y,ds[j]?=some y→II (DU y) nm=false)→findF nm ds k=none
 | [],k,_=>rfl
 | a::ds,k,hb=>by
  have h0:=hb 0 Av a rfl;rw[findF,Ko,if_neg (by rw[h0];decide)];simp only;exact Ve fun j hj y hy=>hb (j+1) (by simpa using hj) y (by simpa using hy)
theorem gP (n:ByteArray):(Xq n).size=n.size+4:=by
 show (n++⟨#[46,114,101,99]⟩:ByteArray).size=_;rw[ByteArray.size_append];rfl
theorem Og (d:B8):(DU d).length≤d.ctors.length+d.funs.length+2:=by
 unfold DU;split
 ·simp
 split
 ·simp
 split<;>simp<;>omega
section
variable {d:B8}{i:Int}{nm:ByteArray}
theorem OX (h:d.kind=0∨d.kind=1∨d.kind=2) {k:Int}(hk:d.kind=k):Gv d i nm=⟨k,i,0,d.params,d.type⟩:=by rw[Gv,if_pos h,hk]
theorem ij (h:d.kind=3) (hn:nm=d.name):Gv d i nm=⟨3,i,0,d.params,d.type⟩:=by rw[Gv,if_neg Au,if_pos h,if_pos hn]
theorem bX (h:d.kind=3) (hn:¬nm=d.name) {j:Nat}{c:LQ}(hc:d.ctors[j]?=some c) (he:c.name=nm) (hb:∀q,q<j→∀y,d.ctors[q]?=some y→y.name≠nm):Gv d i nm=⟨4,i,j,d.params,c.type⟩:=by
 rw[Gv,if_neg Au,if_pos h,if_neg hn,Ph,Qu hc he hb,Int.zero_add];rfl
theorem fp (h:d.kind=3) (hn:¬nm=d.name) (hb:∀q:Nat,q<d.ctors.length→∀y,d.ctors[q]?=some y→y.name≠nm):Gv d i nm=⟨5,i,0,d.recs.params,d.recs.type⟩:=by
 rw[Gv,if_neg Au,if_pos h,if_neg hn,Ph,Oa hb];rfl
theorem gK (h:¬(d.kind=0∨d.kind=1∨d.kind=2)) (h3:¬d.kind=3) {j:Nat}{c:I9}(hc:d.funs[j]?=some c) (he:c.name=nm) (hb:∀q,q<j→∀y,d.funs[q]?=some y→y.name≠nm):Gv d i nm=⟨6,i,j,d.params,c.type⟩:=by
 rw[Gv,if_neg h,if_neg h3,R2,Sn hc he hb,Int.zero_add];rfl
theorem iw (h:¬(d.kind=0∨d.kind=1∨d.kind=2)) (h3:¬d.kind=3) (hb:∀q:Nat,q<d.funs.length→∀y,d.funs[q]?=some y→y.name≠nm):Gv d i nm=⟨0,i,0,d.params,d.type⟩:=by
 rw[Gv,if_neg h,if_neg h3,R2,QQ hb];rfl
end
theorem ga {ds:List B8}{nm:ByteArray}{i:Nat}{d:B8}(hx:ds[i]?=some d) (hb:∀j,j<i→∀y,ds[j]?=some y→II (DU y) nm=false) (hn:II (DU d) nm=true):BY ds nm=(Gv d i nm,0):=by
 rw[BY,eV hx hb hn,Int.zero_add]
theorem dE {ds:List B8}{nm:ByteArray}(hb:∀j,j<ds.length→∀y,ds[j]?=some y→II (DU y) nm=false):BY ds nm=(jN,9):=by
 rw[BY,Ve hb]
theorem UB {nm:ByteArray}{i p:Int}{o:IJ}(ho:o.kind≠4):∀{cs:List LQ}{k:Int},(Ou nm i p o cs k).kind=4→(Ou nm i p o cs k).decl=i∧k≤(Ou nm i p o cs k).item∧(Ou nm i p o cs k).item<k+cs.length
 | [],k,h=>absurd h ho
 | c::cs,k,h=>by
  unfold Ou at h ⊢;split at h
  ·rename_i hc;rw[if_pos hc];exact⟨O,Int.le_refl _,by simp only[List.length_cons];omega⟩
  rename_i hc;rw[if_neg hc];have:=UB ho h;simp only[List.length_cons];exact⟨this.1,by have:=this.2.1;omega,by have:=this.2.2;omega⟩
theorem Vh {nm:ByteArray}{i p:Int}{o:IJ}(ho:o.kind≠4):∀{cs:List I9}{k:Int},(gY nm i p o cs k).kind≠4
 | [],k=>ho
 | c::cs,k=>by
  unfold gY;split
  ·simp
  exact Vh ho
theorem Vf {nm:ByteArray}:∀{ds:List B8}{k:Int}{e:IJ},findF nm ds k=some e→e.kind=4→∃(j:Nat) (d:B8),e.decl=k+j∧ds[j]?=some d∧0≤e.item∧e.item<d.ctors.length
 | [],k,e,h,_=>by cases h
 | a::ds,k,e,h,hk=>by
  rw[findF,Ko] at h;by_cases hn:II (DU a) nm=true
  ·rw[if_pos hn] at h;simp only[Option.some.injEq] at h;subst h;refine⟨0,a,?_⟩;unfold Gv at hk ⊢;split at hk
   ·rename_i q;exact absurd hk (by simp only;omega)
   rename_i q;rw[if_neg q];split at hk
   ·rename_i q3;rw[if_pos q3];split at hk
    ·cases hk
    rename_i qn;rw[if_neg qn];have:=UB Av hk;exact⟨by rw[this.1];omega,rfl,this.2.1,by have:=this.2.2;omega⟩
   exact absurd hk (Vh Av)
  rw[if_neg hn] at h;simp only at h;obtain⟨j,d,h1,h2,h3⟩:=Vf h hk;exact⟨j+1,d,by omega,by simpa using h2,h3⟩
theorem bE {ds:List B8}{nm:ByteArray}(h0:(BY ds nm).2=0) (hk:(BY ds nm).1.kind=4):∃d,0≤(BY ds nm).1.decl∧ds[(BY ds nm).1.decl.toNat]?=some d∧0≤(BY ds nm).1.item∧(BY ds nm).1.item<d.ctors.length:=by
 unfold BY at h0 hk ⊢;cases e:findF nm ds 0 with
 | none=>rw[e] at h0;simp at h0
 | some x =>
  rw[e] at hk;obtain⟨j,d,h1,h2,h3,h4⟩:=Vf e hk;simp only;exact⟨d,by omega,by rw[h1];simpa using h2,h3,h4⟩
end Go.Eu
namespace Go.Abs
section
variable {P:Program}{H:List A4}{dst:Option Tmp}{ty:TypeId}{pos:String}{aft:Array Edge}{x y:Operand}{ρ:Operand→AV}{g:Option (Nat×Bool)}
end
section
variable {P:Program}{dst:Option Tmp}{ty:TypeId}{pos:String}{aft:Array Edge}{g:Option (Nat×Bool)}{ρ:Operand→AV}{H:List A4}{x y z:Operand}{v:AV}
end
section
variable {P:Program}{dst:Option Tmp}{ty:TypeId}{pos:String}{aft:Array Edge}{g:Option (Nat×Bool)}{ρ:Operand→AV}{H:List A4}{x y z:Operand}{v:AV}
end
section
variable {P:Program}{dst:Option Tmp}{ty:TypeId}{pos:String}{aft:Array Edge}{g:Option (Nat×Bool)}{ρ:Operand→AV}{H:List A4}{x:Operand}
end
def At (cells:List PV) (o:Nat) (us:List PV):Prop:=∃rest,cells.drop o=us++rest
theorem At.front {us rest:List PV}:At (us++rest) 0 us:=⟨rest,rfl⟩
theorem At.all {us:List PV}:At us 0 us:=⟨[],by simp⟩
theorem At.one {c:PV}{rest:List PV}:At (c::rest) 0 [c]:=⟨rest,rfl⟩
theorem At.cons {c:PV}{cells us:List PV}{o:Nat}(h:At cells o us):At (c::cells) (o+1) us:=h
theorem At.app {a cells us:List PV}{o n:Nat}(hn:a.length=n) (h:At cells o us):At (a++cells) (n+o) us:=by
 obtain⟨rest,h⟩:=h;exact⟨rest,by rw[List.drop_append,←hn,List.drop_of_length_le Au];simpa using h⟩
theorem At.sub {cells us vs:List PV}{o p:Nat}(h:At cells o us) (h':At us p vs) (hp:p≤us.length):At cells (o+p) vs:=by
 obtain⟨r,h⟩:=h;obtain⟨r',h'⟩:=h';exact⟨r'++r,by rw[←List.drop_drop,h,List.drop_append_of_le_length hp,h',List.append_assoc]⟩
theorem At.drop {cells us:List PV}{a b:Nat}(h:At cells (a+b) us):At (cells.drop a) b us:=by
 unfold At at h ⊢
 rwa [List.drop_drop]
section
variable {P:Program}{dst:Option Tmp}{ty:TypeId}{pos:String}{aft:Array Edge}{g:Option (Nat×Bool)}{ρ:Operand→AV}{H:List A4}{x:Operand}{T:TypeId}{b o i n:Nat}{cells us:List PV}{c:PV}
theorem Bq (hT:EH P T=some (true,n)) (hx:ρ x= .ptr b o) (hi:H[i]?=some (.box b (cells.map .p))) (ha:At cells o us) (hn:us.length=n):Dm P ⟨dst,.load T x,ty,pos,aft,g⟩ ρ H (.agg (us.map .p)) H:=by
 have e:((cells.map AV.p).drop o).take n=us.map .p:=by
  obtain⟨rest,h⟩:=ha;rw[←List.map_drop,h,List.map_append,List.take_left' (by rw[List.length_map,hn])]
 exact FX hT hx hi (by rw[e,List.length_map,hn]) (by rw[e])
theorem Ax (hT:EH P T=some (false,n)) (hx:ρ x= .ptr b o) (hi:H[i]?=some (.box b (cells.map .p))) (ha:At cells o [c]):Dm P ⟨dst,.load T x,ty,pos,aft,g⟩ ρ H (.p c) H :=
 Bt hT hx hi (by
  obtain⟨rest,h⟩:=ha;have:=congrArg (fun l:List PV=>l[0]?) h;simp only[List.getElem?_drop,Nat.add_zero,List.singleton_append,List.getElem?_cons_zero] at this;simp[this])
theorem Dh (hT:EH P T=some (true,n)) (hx:ρ x= .ref (cells.drop o)) (ha:At cells o us) (hn:us.length=n):Dm P ⟨dst,.load T x,ty,pos,aft,g⟩ ρ H (.agg (us.map .p)) H :=
 MN hT hx hn (by obtain⟨rest,h⟩:=ha;rw[h];exact List.take_left)
theorem DQ (hT:EH P T=some (false,n)) (hx:ρ x= .ref (cells.drop o)) (ha:At cells o [c]):Dm P ⟨dst,.load T x,ty,pos,aft,g⟩ ρ H (.p c) H:=by
 obtain⟨rest,h⟩:=ha;exact Gp hT (hx.trans (congrArg AV.ref h))
variable {y:Operand}
theorem Tq {a b:Bool}{T U:TypeId}(hu:P.underlying T=some .bool) (hx:ρ x= .p (.bool a)) (hy:ρ y= .p (.bool b)):Dm P ⟨dst,.binOp .neq T x y U,ty,pos,aft,g⟩ ρ H (.p (.bool (a !=b))) H :=
 Bw fun F w E hH hE=>by
  have e1:=hE x Al;have e2:=hE y Al;rw[hx] at e1;rw[hy] at e2;simp only[Bz,Br] at e1 e2;refine⟨.bool (a !=b),?_,by simp[Bz,Br]⟩;have hg:(eqGuard .neq T x y (.bool a) (.bool b)).run P w= .ok () w:=by unfold eqGuard;rfl
  have hq:(Op.equal T (.bool a) (.bool b)).run P w= .ok (a==b) w:=HO hu rfl;simp[execOp,Sem.run_bind,hg,e1,e2,binOp,hq,bne]
theorem EI {bl:Bool}{cs vs ds:List AV}(hT:EH P T=some (bl,n+1)) (hx:ρ x= .ptr b o) (hi:H[i]?=some (.box b cs)) (hy:E0 (ρ y)=some vs) (hn:vs.length=n+1)
  (ho:Nat.ble (o+(n+1)) cs.length=true) (h1:vs.all one=true) (hd:splice cs o vs=ds):Dm P ⟨dst,.store T x y,ty,pos,aft,g⟩ ρ H (.p .any) (H.set i (.box b ds)):=by
 subst hd;exact Hq hT hx hi hy hn ho h1
end
section
variable {F:Nat→Prop}{w:World}
end
section
variable {P:Program}{dst:Option Tmp}{ty:TypeId}{pos:String}{aft:Array Edge}{g:Option (Nat×Bool)}{ρ:Operand→AV}{H:List A4}{x y z:Operand}{v:AV}
end
section
variable {P:Program}{dst:Option Tmp}{ty:TypeId}{pos:String}{aft:Array Edge}{g:Option (Nat×Bool)}{ρ:Operand→AV}{H:List A4}{x y z:Operand}{v:AV}
theorem Tw {a b:ByteArray}{T U:TypeId}(hx:ρ x= .p (.str a)) (hy:ρ y= .p (.str b)) (hsz:a.size+b.size≤9223372036854775807):Dm P ⟨dst,.binOp .add T x y U,ty,pos,aft,g⟩ ρ H (.p (.str (a++b))) H :=
 Bw fun F w E hH hE=>by
  have e1:=hE x Al;have e2:=hE y Al;rw[hx] at e1;rw[hy] at e2;simp only[Bz,Br] at e1 e2;have hm:¬(((a.size+b.size:Nat):Int) > IntKind.i64.max):=by rw[show IntKind.i64.max=9223372036854775807 from rfl];omega
  have h1:(Op.stringOp .add a b).run P w= .ok (.string (a++b)) w:=by
   unfold Op.stringOp;simp only[if_neg hm];rfl
  exact⟨.string (a++b),by simp[execOp,Sem.run_bind,Mu,e1,e2,binOp,h1],by simp[Bz,Br]⟩
end
section
variable {P:Program}{r:Option Nat}{ops:Array Oper}{Q:Cj→BM→Prop}{k:Nat}{n:Nat}{τ:Nat→AV}{H H':List A4}{D:List D4}{dst:Option Tmp}{op:Op}{ty:TypeId}{pos:String}{aft:Array Edge}{g:Option (Nat×Bool)}{v:AV}
end
section
variable {P:Program}{dst:Option Tmp}{ty:TypeId}{pos:String}{aft:Array Edge}{g:Option (Nat×Bool)}{ρ:Operand→AV}{H:List A4}{x f:Operand}
end
section
variable {P:Program}{ops:Array Oper}{n:Nat}{τ₀ τ:Nat→AV}{D:List D4}{Q:Cj→BM→Prop}{opn:Nat→Bool}{k:Nat}{T:List A4}{dst:Option Tmp}{ty:TypeId}{pos:String}{aft:Array Edge}{c:Call}{f:Operand}{fid:FuncId}{first caps A:List AV}{v:AV}{C:List A4→Prop}
end
section
variable {P:Program}{dst:Option Tmp}{ty:TypeId}{pos:String}{aft:Array Edge}{g:Option (Nat×Bool)}{ρ:Operand→AV}{H:List A4}{x y z:Operand}
end
theorem Q3 {α:Type}:∀(xs l:List α) (o:Nat),o+xs.length≤l.length→splice l o xs=l.take o++xs++l.drop (o+xs.length)
 | [],l,o,h=>by simp[splice]
 | x::xs,l,o,h=>by
  simp only[List.length_cons] at h;rw[splice,Q3 xs _ _ (by rw[List.length_set];omega)];have h1:(l.set o x).take (o+1)=l.take o++[x]:=by
   rw[List.take_add_one,List.getElem?_set_self Au,List.take_set_of_le (Nat.le_refl _)];rfl
  have h2:(l.set o x).drop (o+1+xs.length)=l.drop (o+(x::xs).length):=by
   rw[List.drop_set_of_lt Au];congr 1;simp only[List.length_cons];omega
  rw[h1,h2];simp
def Hn:Nat→List (List PV)→List (Nat×AV)
 | _,[]=>[]
 | k,r::rs=>(k,.agg (r.map .p))::Hn (k+1) rs
theorem YR {sz:Nat}:∀(rows:List (List PV)) (k:Nat) (base:List AV),(∀r∈rows,r.length=sz)→(k+rows.length)*sz=base.length→GP (fun i=>some (i*sz,sz)) base (Hn k rows)=some (base.take (k*sz)++rows.flatten.map .p)
 | [],k,base,hr,hb=>by
  simp only[List.length_nil,Nat.add_zero] at hb;simp[Hn,GP,hb]
 | r::rows,k,base,hr,hb=>by
  have hl:=hr r Av;have hb2:k*sz+sz+rows.length*sz=base.length:=by
   rw[←hb,List.length_cons,Nat.add_mul,Nat.add_mul,Nat.one_mul];omega
  simp only[Hn,GP,E0];rw[if_pos ⟨by simp[hl],by simp[hl];omega⟩,Q3 _ _ _ (by simp[hl];omega)];rw[YR rows (k+1) _ (fun x hx=>hr x (by simp[hx])) (by simp only[List.length_append,List.length_take,List.length_drop,List.length_map,hl];rw[Nat.add_mul,Nat.add_mul,Nat.one_mul];omega)];congr 1;have h1:((base.take (k*sz)++r.map AV.p)++base.drop (k*sz+(r.map AV.p).length)).take ((k+1)*sz)=base.take (k*sz)++r.map .p:=by
   have:(k+1)*sz=(base.take (k*sz)++r.map AV.p).length:=by
    simp only[List.length_append,List.length_take,List.length_map,hl];rw[Nat.add_mul,Nat.one_mul];omega
   rw[this,List.take_left'];rfl
  rw[h1];simp
theorem RM {α:Type}{sz:Nat}:∀{rows:List (List α)},(∀r∈rows,r.length=sz)→chunks sz rows.length rows.flatten=rows
 | [],_=>rfl
 | r::rows,h=>by
  have hl:=h r Av;simp only[List.length_cons,chunks,List.flatten_cons];rw[List.take_left' hl,List.drop_left' hl,RM fun x hx=>h x (by simp[hx])]
theorem UR:∀(rows:List (List PV)) (k:Nat),(∀r∈rows,∀c∈r,c≠ .nils)→(Hn k rows).map (fun p=>(p.1,norm p.2))=Hn k rows
 | [],k,h=>rfl
 | r::rows,k,h=>by
  simp only[Hn,List.map_cons];show (k,AV.agg ((r.map AV.p).map dn))::_=_;rw[UR rows (k+1) fun x hx=>h x (by simp[hx])];congr 3;have:=h r Av;clear h
  induction r with
  | nil=>rfl
  | cons c r ih =>
   simp only[List.map_cons];rw[ih fun d hd=>this d (by simp[hd])];have:=this c Av;cases c<;>simp_all [dn]
section
variable {P:Program}{dst:Option Tmp}{ty:TypeId}{pos:String}{aft:Array Edge}{g:Option (Nat×Bool)}{ρ:Operand→AV}{H:List A4}
theorem Se:∀(r:List PV),Hc (r.map .p)=some r
 | []=>rfl
 | c::r=>by simp[Hc,Se r]
theorem bA {parts:Array (Nat×Operand)}{rows:List (List PV)}(hp:parts.toList.map (fun p=>(p.1,ρ p.2))=Hn 0 rows) (hn:∀r∈rows,∀c∈r,c≠ .nils):parts.toList.map (fun p=>(p.1,norm (ρ p.2)))=Hn 0 rows:=by
 have h2:=UR rows 0 hn;rw[←hp,List.map_map] at h2;rw[←hp];exact h2
theorem By {T e:TypeId}{len sz bytes:Nat}{parts:Array (Nat×Operand)}{z:Value}{rows:List (List PV)}(hT:E1 P T=some (e,sz,bytes)) (hz:zeroOf P e=some z) (hsz:z.cells.size=sz) (hpos:(Nat.blt 0 sz&&Nat.ble (len*sz) 16777216)=true)
  (hp:parts.toList.map (fun p=>(p.1,ρ p.2))=Hn 0 rows) (hl:rows.length=len) (hr:∀r∈rows,r.length=sz) (hn:∀r∈rows,∀c∈r,c≠ .nils) :
  Dm P ⟨dst,.buildSlice T len parts,ty,pos,aft,g⟩ ρ H (.p (.lst rows)) H:=by
 subst hl;refine BJ (cs:=rows.flatten.map .p) (ps:=rows.flatten) hT hz hsz hpos ?_ (Se _) (RM hr);rw[bA hp hn,YR rows 0 _ hr (by simp[hsz])];simp
theorem Rk {T e:TypeId}{len sz bytes:Nat}{parts:Array (Nat×Operand)}{z:Value}{cs:List AV}{ps:List PV}{rows:List (List PV)}(hT:E1 P T=some (e,sz,bytes)) (hz:zeroOf P e=some z) (hsz:z.cells.size=sz) (hpos:(Nat.blt 0 sz&&Nat.ble (len*sz) 16777216)=true)
  (hc:GP (fun i=>some (i*sz,sz)) (List.replicate len (z.cells.toList.map HG)).flatten (parts.toList.map fun p=>(p.1,norm (ρ p.2)))=some cs) (hp:Hc cs=some ps) (hr:chunks sz len ps=rows) :
  DL P ⟨dst,.buildSlice T len parts,ty,pos,aft,g⟩ ρ H (Lc sz rows H) :=
 G9 fun F w E hH hE=>by
  obtain⟨hu,i,hi,hs,hby⟩:=Dy hT;simp only[Bool.and_eq_true,Nat.blt_eq,Nat.ble_eq] at hpos;unfold zeroOf at hz;have hz':∃j,P.info? e=some j∧j.zero=some z:=by
   cases hq:P.info? e with
   | none=>simp[hq] at hz
   | some j=>exact⟨j,rfl,by simpa [hq] using hz⟩
  obtain⟨j,hj,hz'⟩:=hz';have hzv:(zeroValue e).run P w= .ok z w:=by simp[zeroValue,typeInfo,hj,hz',Sem.run_bind]
  have hzl:Bf F w (List.replicate len (z.cells.toList.map HG)).flatten (List.replicate len z.cells.toList).flatten:=IU (H8 _) len;obtain⟨us,hf,hrep⟩:=Jz (F:=F) (w:=w) (place:=fun i=>some (i*sz,sz)) _ (parts.toList.map fun p=>(p.1,E p.2)) _ _ _ Av (by
   intro j p q h1 h2;simp only[List.getElem?_map] at h1 h2;cases hj:parts.toList[j]? with
   | none=>simp[hj] at h1
   | some t =>
    simp[hj] at h1 h2;subst h1;subst h2;exact⟨O,(hE _ (by
     have:=List.mem_of_getElem? hj;simp only[Op.operands];exact List.mem_map.2 ⟨t,this,O⟩)).norm⟩) hzl hc
  have hcs:=I0 hp;have hlen:ps.length=len*sz:=by
   have h1:cs.length=((List.replicate len (z.cells.toList.map HG)).flatten).length:=by
    clear hrep hp hcs hzl hf;generalize (List.replicate len (z.cells.toList.map HG)).flatten=l at hc;generalize (parts.toList.map fun p=>(p.1,norm (ρ p.2)))=q at hc
    induction q generalizing l with
    | nil=>simp[GP] at hc;rw[hc]
    | cons a q ih =>
     obtain⟨i,x⟩:=a;simp only[GP] at hc;cases hx:E0 x with
     | none=>simp[hx] at hc
     | some c2 =>
      simp only[hx] at hc;split at hc
      ·rw[ih _ hc,Hl]
      cases hc
   rw[hcs] at h1;simp only[List.length_map,List.length_flatten,List.map_replicate,List.sum_replicate_nat,Array.length_toList,hsz] at h1;exact h1
  obtain⟨c1,c2,c3⟩:=Mi hlen;rw[hr] at c1 c2 c3;have hul:us.length=ps.length:=by rw[hrep.length,hcs];simp
  obtain⟨v0,H0,F0,h10,h20,h30,h40⟩:=LA (T:=e) (c:=len) (vs:=us) (H:=H) hH c2 (by rw[c1,←hul,List.take_length];rw[hcs] at hrep;exact hrep) Au Au;rw[c3] at h40;refine⟨_,_,v0,H0,F0,?_,h10,h20,h30,h40⟩;have hszr:(sizeOf e).run P w= .ok sz w:=by simp[sizeOf,typeInfo,hi,hs]
  have hzc:z.cells=⟨z.cells.toList⟩:=rfl;have hrm:=KP z.cells.toList len;have hsz2:z.cells.toList.length=sz:=by simpa using hsz
  rw[hsz2] at hrm;have harr:((Array.range (len*sz)).map fun i=>z.cells[i % z.cells.size]!)=⟨(List.replicate len z.cells.toList).flatten⟩:=by
   apply Array.ext';exact hrm
  simp only[execOp,Instr.buildSlice,Sem.run_bind,run_underlying hu,Result.andThen_ok,hszr];rw[if_neg Au];simp only[Sem.run_pure,Result.andThen_ok,Sem.run_bind,pure_bind];have hf':Instr.fill (fun i=>some (i*sz,sz)) ⟨(List.replicate len z.cells.toList).flatten⟩ (parts.map fun p=>(p.1,E p.2)).toList=some ⟨us⟩:=by
   rw[←hf];simp
  by_cases h00:len*sz=0
  ·have hl0:len=0:=by
    rcases Nat.mul_eq_zero.1 h00 with h | h
    ·exact h
    omega
   subst hl0;simp only[Nat.zero_mul,if_true];simp only[List.replicate_zero,List.flatten_nil] at hf';have e0:(Array.map (fun x=>(#[]:Array Value)[x % (#[]:Array Value).size]!) (Array.range 0))=(⟨[]⟩:Array Value):=by simp
   rw[e0,hf'];simp only[newRow,newObj,Sem.run_bind,Sem.run,Result.andThen,Sem.run_pure];rfl
  rw[if_neg h00];simp only[Sem.run_bind,hzv,Result.andThen_ok];rw[harr,hf'];simp only[newRow,newObj,Sem.run_bind,Sem.run,Result.andThen,Sem.run_pure];rfl
end
section
variable {P:Program}{ops:Array Oper}{n:Nat}{τ₀:Nat→AV}{D:List D4}{Q:Cj→BM→Prop}{opn:Nat→Bool}{k:Nat}{τ:Nat→AV}{H:List A4}{rd:ZW}{ef:Yy}{effs:List Bool}{fx:List (Nat×Sp)}{dst:Option Tmp}{op:Op}{ty:TypeId}{pos:String}{aft:Array Edge}
theorem tP {sz:Nat}{rows:List (List PV)}(fx':List (Nat×Sp)) (ho:ops[k]?=some ⟨dst,op,ty,pos,aft,none⟩) (hn:opn k=true) (h:DL P ⟨dst,op,ty,pos,aft,none⟩ (ev τ) H (Lc sz rows H)) (haft:E5 ops k (fx'.map (·.1))=true)
  (next:∀b c,KJ ops k H (.vec (some b) sz rows c::H) rd∧Hp k (.eff (.vs (some b) rows.length c) (.vec (some b) sz rows c::H)) fx∧Dr P ops n τ₀ D Q opn (k+1) (put τ dst (.vs (some b) rows.length c)) (.vec (some b) sz rows c::H) rd ((k,H,.vec (some b) sz rows c::H)::ef) (true::effs) (fx'++fx)):Dr P ops n τ₀ D Q opn k τ H rd ef effs fx :=
 Lu fx' ho hn h haft ⟨_,_,0,0,rfl,rfl⟩ (fun _ _ h=>h.elim) (fun v H' ⟨b,c,h1,h2⟩=>by subst h1;subst h2;exact next b c)
end
section
variable {P:Program}{ty:TypeId}{pos:String}{aft:Array Edge}{g:Option (Nat×Bool)}{ρ:Operand→AV}{H:List A4}{x y:Operand}
theorem YQ {T T2 e e2:TypeId}{sz bytes n2 n3 d c i n:Nat}{o:Option Nat}{rows rows' all:List (List PV)}{zv:Value}(hT:E1 P T=some (e,sz,bytes)) (hT2:E1 P T2=some (e2,n2,n3)) (hz:zeroOf P e=some zv) (hzs:zv.cells.size=sz) (hb0:(Nat.blt 0 sz&&Nat.blt 0 bytes)=true)
  (hx:ρ x= .vs o n c) (hn:n=rows.length) (hi:H[i]?=some (.vec o sz rows c)) (hy:norm (ρ y)= .p (.lst rows')) (hsol:∀r∈rows',Ej sz r) (hroom:2*(rows.length+rows'.length)*bytes≤281474976710656) (hall:rows++rows'=all) :
  Dm P ⟨some d,.call { callee:= .builtin .append,args:=#[x,y],argTypes:=#[T,T2] },ty,pos,aft,g⟩ ρ H (.p (.lst all)) (H.eraseIdx i):=by
 subst hall;intro r F S a w hs hH hρ hd;subst hH;have h:=Tz (P:=P) (dst:=some d) (ty:=ty) (pos:=pos) (aft:=aft) (g:=g) (ρ:=ρ) (H:=S.H) (i:=i) (o:=o) (rows:=rows) (n:=n) (c:=c) hT hT2 hz hzs hb0 hx hn hi hy hsol hroom r F S a w hs rfl hρ hd;refine I1 h ?_ ?_
 ·rintro a' w' ⟨v,H',F',⟨o',c',rfl,rfl⟩,hs',ht⟩;have hlt:=(List.getElem?_eq_some_iff.1 hi).1;obtain⟨F'',hs'',ht''⟩:=CL (n:=S.n) (τ:=put S.τ (some d) (.vs o' (rows++rows').length c')) (H:=S.H.set i (.vec o' sz (rows++rows') c')) (D:=S.D) (i:=i) [d] (List.getElem?_set_self hlt) (fun t ht=>by simp at ht;subst ht;simp[put]) F' a' w' hs';have e:Ky [d] (.p (.lst (rows++rows'))) (put S.τ (some d) (.vs o' (rows++rows').length c'))=put S.τ (some d) (.p (.lst (rows++rows'))):=by
   funext t;simp only[Ky,put,List.any_cons,List.any_nil,Bool.or_false];cases Nat.beq t d<;>rfl
  have e2:(S.H.set i (.vec o' sz (rows++rows') c')).eraseIdx i=S.H.eraseIdx i:=List.eraseIdx_set_eq;simp only[e,e2] at hs'' ht'';exact⟨_,S.H.eraseIdx i,F'',⟨O,O⟩,hs'',ht.trans hs.heap.bd ht''⟩
 rintro e a' w' ⟨v,H',F',u,h,_⟩;exact h.elim
end
abbrev BV:=Nat×Nat×AV
inductive Ez where
 | val (v:AV)
 | skip
 | new (cs:List AV)
 | newv (sz:Nat) (rows:List (List PV))
 | rel (R:AV→Prop)
 | dep (j:Nat) (f:BV→AV)
 | newd (j:Nat) (f:BV→List AV)
def Oq (β:Nat→BV) (k:Nat) (b:BV):Nat→BV:=fun j=>if j=k then b else β j
def Ez.w (β:Nat→BV) (k:Nat):Ez→AV
 | .val v=>v
 | .skip=> .tup []
 | .new _ | .newd _ _=> .ptr (β k).1 0
 | .newv _ rows=> .vs (some (β k).1) rows.length (β k).2.1
 | .rel _=>(β k).2.2
 | .dep j f=>f (β j)
def Ez.bx (β:Nat→BV) (k:Nat):Ez→List A4
 | .new cs=>[.box (β k).1 cs]
 | .newv sz rows=>[.vec (some (β k).1) sz rows (β k).2.1]
 | .newd j f=>[.box (β k).1 (f (β j))]
 | _=>[]
def Ez.ok (b:BV):Ez→Prop
 | .rel R=>R b.2.2
 | _=>True
def Ez.dj:Ez→Option Nat
 | .dep j _ | .newd j _=>some j
 | _=>none
def fJ:List Ez→Prop
 | []=>True
 | .rel R::r=>(∃v,R v)∧fJ r
 | _::r=>fJ r
def VB (ops:Array Oper) (o:Oper) (j:Nat):Prop:=j∈HK o∨∃m o',m∈HK o∧ops[m]?=some o'∧j∈HK o'
theorem VB.lt {ops:Array Oper}{i j:Nat}{o:Oper}(c0:∀i o j,ops[i]?=some o→j∈HK o→j<i) (ho:ops[i]?=some o):VB ops o j→j<i
 | .inl h=>c0 i o j ho h
 | .inr ⟨m,o',h1,h2,h3⟩=>by have:=c0 i o m ho h1;have:=c0 m o' j h2 h3;omega
theorem VB.down {ops:Array Oper}{l:Nat→Prop}{i j:Nat}{o:Oper}(hd:Down ops l) (ho:ops[i]?=some o) (hi:l i):VB ops o j→l j
 | .inl h=>hd i o j ho hi h
 | .inr ⟨m,o',h1,h2,h3⟩=>hd m o' j h2 (hd i o m ho hi h1) h3
def Ri (P:Program) (ops:Array Oper) (H₀:List A4) (β:Nat→BV) (o:Oper) (τ:Nat→AV):Ez→Prop
 | .val v=>Ep ops ⟨0,τ,[],[]⟩ o∧∀Bs,Dm P o (ev τ) (Bs++H₀) v (Bs++H₀)
 | .skip=>∃j want d,o.guard=some (j,want)∧(ops[j]?).bind (·.dst)=some d∧ue (τ d) want
 | .new cs=>o.guard=none∧∀Bs,DL P o (ev τ) (Bs++H₀) (J0 cs (Bs++H₀))
 | .newv sz rows=>o.guard=none∧∀Bs,DL P o (ev τ) (Bs++H₀) (Lc sz rows (Bs++H₀))
 | .rel R=>o.guard=none∧∀Bs,DL P o (ev τ) (Bs++H₀) (RA R (Bs++H₀))
 | .dep j f=>VB ops o j∧Ep ops ⟨0,τ,[],[]⟩ o∧∀Bs,Dm P o (ev τ) (Bs++H₀) (f (β j)) (Bs++H₀)
 | .newd j f=>VB ops o j∧o.guard=none∧∀Bs,DL P o (ev τ) (Bs++H₀) (J0 (f (β j)) (Bs++H₀))
def YG (Ok:(Nat→BV)→Nat→Oper→(Nat→AV)→Ez→Prop) (ops:Array Oper):(Nat→BV)→Nat→(Nat→AV)→List Ez→((Nat→BV)→(Nat→AV)→List A4→Prop)→Prop
 | β,_,τ,[],K=>K β τ []
 | β,k,τ,e::r,K=>∃o,ops[k]?=some o∧Ok β k o τ e∧∀b,e.ok b→YG Ok ops (Oq β k b) (k+1) (put τ o.dst (e.w (Oq β k b) k)) r (fun β' τ' Hs=>K β' τ' (e.bx (Oq β k b) k++Hs))
def Rc (β:Nat→BV):Nat→List Ez→List Sp
 | _,[]=>[]
 | k,e::r=> .free (e.w β k)::Rc β (k+1) r
def UU (β:Nat→BV) (l:Nat→Bool):Nat→List Ez→List A4
 | _,[]=>[]
 | k,e::r=>(if l k=true then e.bx β k else [])++UU β l (k+1) r
theorem kb (β:Nat→BV):∀(r:List Ez) (k j:Nat),((Rc β k r).getD j .skip).val=(r.getD j .skip).w β (k+j)
 | [],k,j=>by simp[Rc,Sp.val,Ez.w]
 | e::r,k,0=>rfl
 | e::r,k,j+1=>by
  simp only[Rc,List.getD_cons_succ];rw[kb β r (k+1) j,show k+1+j=k+(j+1) by omega]
theorem Kf (β:Nat→BV) (r:List Ez) (j:Nat):((Rc β 0 r).getD j .skip).val=(r.getD j .skip).w β j:=by rw[kb,Nat.zero_add]
theorem dS {β β':Nat→BV}{k:Nat}{e:Ez}(hk:β k=β' k) (hd:∀j,e.dj=some j→β j=β' j):e.w β k=e.w β' k:=by
 cases e with
 | dep j f=>simp only[Ez.w];rw[hd j rfl]
 | _=>simp only[Ez.w,hk]
theorem Tg {β β':Nat→BV}{k:Nat}{e:Ez}(hk:β k=β' k) (hd:∀j,e.dj=some j→β j=β' j):e.bx β k=e.bx β' k:=by
 cases e with
 | newd j f=>simp only[Ez.bx];rw[hk,hd j rfl]
 | _=>simp only[Ez.bx,hk]
theorem HJ {β:Nat→BV}{k:Nat}{b:BV}:Oq β k b k=b:=if_pos rfl
theorem Kt {β:Nat→BV}{k j:Nat}{b:BV}(h:j≠k):Oq β k b j=β j:=if_neg h
structure wx (ops:Array Oper) (Ok:(Nat→BV)→Nat→Oper→(Nat→AV)→Ez→Prop):Prop where
 cg:∀β β' k o τ e,(∀j,e.dj=some j→β j=β' j)→Ok β k o τ e→Ok β' k o τ e
 dp:∀β k o τ e j,ops[k]?=some o→Ok β k o τ e→e.dj=some j→VB ops o j
theorem iP {α:Type}{l r:List α}{k:Nat}{e d:α}(h:l.drop k=e::r):l.getD k d=e∧l.drop (k+1)=r:=by
 refine⟨?_,by rw[←List.drop_drop,h];rfl⟩;have:(l.drop k)[0]?=some e:=by rw[h];rfl
 rw[List.getElem?_drop] at this;rw[List.getD_eq_getElem?_getD,show k=k+0 by omega,this];rfl
theorem YG.facts {Ok:(Nat→BV)→Nat→Oper→(Nat→AV)→Ez→Prop}{ops:Array Oper}{τ:Nat→AV}{base:List Ez}(hc:wx ops Ok) (c0:∀i o j,ops[i]?=some o→j∈HK o→j<i) (β:Nat→BV) (hβ:∀j,(base.getD j .skip).ok (β j)):∀(r:List Ez) (k:Nat) (βk:Nat→BV) (τk:Nat→AV) (K:(Nat→BV)→(Nat→AV)→List A4→Prop),(∀i,i<k→βk i=β i)→base.drop k=r→k+r.length=base.length→τk=τS ops (Rc β 0 base) τ k→YG Ok ops βk k τk r K →
  (∀j,k≤j→j<base.length→∃o,ops[j]?=some o∧Ok β j o (τS ops (Rc β 0 base) τ j) (base.getD j .skip))∧∃β',(∀i,i<base.length→β' i=β i)∧K β' (τS ops (Rc β 0 base) τ base.length) (UU β (fun _=>true) k r)
 | [],k,βk,τk,K,hb,hd,hk,ht,h=>by
  simp only[List.length_nil,Nat.add_zero] at hk;subst hk;exact⟨fun j h1 h2=>by omega,βk,hb,by rw[←ht];exact h⟩
 | e::r,k,βk,τk,K,hb,hd,hk,ht,h=>by
  obtain⟨o,ho,hok,hn⟩:=h;simp only[List.length_cons] at hk;obtain⟨hbe,hd2⟩:=iP (d:=Ez.skip) hd;have hu:∀i,i<k+1→Oq βk k (β k) i=β i:=by
   intro i hi;unfold Oq;split
   ·rename_i e1;rw[e1]
   exact hb i Au
  have hdj:∀j,e.dj=some j→j<k:=fun j e1=>(hc.dp βk k o τk e j ho hok e1).lt c0 ho;have hn:=hn (β k) (by have:=hβ k;rwa [hbe] at this);rw[Tg (hu k Au) fun j e1=>hu j (by have:=hdj j e1;omega)] at hn;obtain⟨h1,β',h2,h3⟩:=YG.facts (τ:=τ) (base:=base) hc c0 β hβ r (k+1) _ _ _ hu hd2 Au (by simp only[τS,ho,Option.bind_some];rw[Kf β,hbe,←ht,dS (hu k Au) fun j e1=>hu j (by have:=hdj j e1;omega)]) hn;refine⟨fun j hj hl=>?_,β',h2,by simpa only[UU,if_true] using h3⟩;by_cases e2:j=k
  ·subst e2;exact⟨o,ho,by rw[hbe,←ht];exact hc.cg _ _ _ _ _ _ (fun i e1=>hb i (hdj i e1)) hok⟩
  exact h1 j Au hl
theorem V0 {β β':Nat→BV}{l l':Nat→Bool}:∀(r:List Ez) (k:Nat),(∀j,k≤j→j<k+r.length→l j=l' j∧(l j=true→β j=β' j))→(∀i j,(r.getD i .skip).dj=some j→l (k+i)=true→β j=β' j)→UU β l k r=UU β' l' k r
 | [],k,h,hd=>rfl
 | e::r,k,h,hd=>by
  simp only[List.length_cons] at h;simp only[UU];obtain⟨h1,h2⟩:=h k (Nat.le_refl _) Au;rw[V0 r (k+1) (fun j hj hl=>h j Au Au) (fun i j e1 e2=>hd (i+1) j e1 (by rw[←e2];congr 1;omega)),←h1];cases hl:l k
  ·rfl
  rw[Tg (e:=e) (h2 hl) fun j e1=>hd 0 j e1 hl]
theorem eL {β:Nat→BV}{l:Nat→Bool}{i:Nat}{b:BV}(hi:l i=false):∀(r:List Ez) (k:Nat),k≤i→i<k+r.length→(∀m j,(r.getD m .skip).dj=some j→l (k+m)=true→j≠i)→((r.getD (i - k) .skip).bx (Oq β i b) i++UU β l k r).Perm (UU (Oq β i b) (fun j=>l j||j==i) k r)
 | [],k,h1,h2,hd=>by simp at h2;omega
 | e::r,k,h1,h2,hd=>by
  simp only[UU];have hd':∀m j,(r.getD m .skip).dj=some j→l (k+1+m)=true→j≠i:=fun m j e1 e2=>hd (m+1) j e1 (by rw[←e2];congr 1;omega);by_cases hk:k=i
  ·subst hk;simp only[hi,Bool.false_eq_true,if_false,List.nil_append,Nat.sub_self,List.getD_cons_zero,beq_self_eq_true,Bool.or_true,if_true];rw[V0 (β':=Oq β k b) (l':=fun j=>l j||j==k) r (k+1) (fun j hj _=>⟨by simp[show (j==k)=false by simp;omega],fun _=>by rw[Kt Au]⟩) (fun m j e1 e2=>by rw[Kt (hd' m j e1 e2)])]
  have hp:=eL (β:=β) hi r (k+1) (b:=b) Au (by simp only[List.length_cons] at h2;omega) hd';have e1:(e::r).getD (i - k) .skip=r.getD (i - (k+1)) .skip:=by
   rw[show i - k=(i - (k+1))+1 by omega];rfl
  have e2:(if (l k||k==i)=true then e.bx (Oq β i b) k else [])=(if l k=true then e.bx β k else []):=by
   rw[show (l k||k==i)=l k by simp[hk]];cases hl:l k
   ·rfl
   rw[if_pos rfl,if_pos rfl];exact Tg (Kt hk) fun j e3=>Kt (hd 0 j e3 hl)
  rw[e1,e2];refine List.Perm.trans ?_ (hp.append_left _);rw[←List.append_assoc,←List.append_assoc];exact List.perm_append_comm.append_right _
theorem aI {β:Nat→BV}:∀(r:List Ez) (k:Nat),UU β (fun _=>false) k r=[]
 | [],k=>rfl
 | e::r,k=>by simp only[UU];rw[aI r (k+1)];rfl
theorem fJ.pick:∀(l:List Ez),fJ l→∃β:Nat→BV,∀j,(l.getD j .skip).ok (β j)
 | [],_=>⟨fun _=>(0,0,.p .any),fun j=>by simp[Ez.ok]⟩
 | e::r,h=>by
  have h2:fJ r∧∃b,e.ok b:=by
   cases e with
   | rel R=>exact⟨h.2,let ⟨v,hv⟩:=h.1;⟨(0,0,v),hv⟩⟩
   | _=>exact⟨h,(0,0,.p .any),trivial⟩
  obtain⟨β,hβ⟩:=fJ.pick r h2.1;obtain⟨b,hb⟩:=h2.2;refine⟨fun j=>match j with | 0=>b | j+1=>β j,fun j=>?_⟩;cases j with
  | zero=>exact hb
  | succ j=>exact hβ j
def kg (ops:Array Oper) (e:Nat):Bool:=(List.range ops.size).all fun i=>Nat.blt i e||(List.range i).all fun j=>OC ops j i
theorem az {ops:Array Oper}{e:Nat}(h:kg ops e=true) {i j:Nat}(hi:e≤i) (hs:i<ops.size) (hj:j<i):Pred ops j i:=by
 have:=List.all_eq_true.1 h i (by simpa using hs);simp only[Bool.or_eq_true] at this;rcases this with h1 | h1
 ·rw[Nat.blt_eq] at h1;omega
 exact FO (List.all_eq_true.1 h1 j (by simpa using hj))
def hB (H:List A4) (H₁:BV→List A4) (i₀:Option Nat) (β:Nat→BV) (l:Nat→Bool):List A4:=match i₀ with
 | none=>H
 | some i=>if l i=true then H₁ (β i) else H
def Rj (P:Program) (ops:Array Oper) (H₀:List A4) (H₁:BV→List A4) (i₀:Option Nat) (fl:List Nat) (β:Nat→BV) (k:Nat) (o:Oper) (τ:Nat→AV) (e:Ez):Prop :=
 (some k=i₀→∃v,e= .val v∧o.guard=none∧∀Bs,DL P o (ev τ) (Bs++H₀) (fun r H'=>match r with | .val v'=>∃g,v'=v∧H'=Bs++H₁ g | .panic _=>False)) ∧
 (some k≠i₀→Ri P ops H₀ β o τ e∧∀g,Ri P ops (H₁ g) β o τ e)∧(fl.contains k=true→∀v,e= .val v→∀X,Dm P o (ev τ) X v X)
abbrev YX (P:Program) (ops:Array Oper) (H₀:List A4) (H₁:BV→List A4) (i₀:Option Nat) (fl:List Nat):=YG (Rj P ops H₀ H₁ i₀ fl) ops
theorem Ri.cg {P:Program}{ops:Array Oper}{H:List A4}{β β':Nat→BV}{o:Oper}{τ:Nat→AV}{e:Ez}(h:Ri P ops H β o τ e) (hd:∀j,e.dj=some j→β j=β' j):Ri P ops H β' o τ e:=by
 cases e with
 | dep j f=>exact⟨h.1,h.2.1,by rw[←hd j rfl];exact h.2.2⟩
 | newd j f=>exact⟨h.1,h.2.1,by rw[←hd j rfl];exact h.2.2⟩
 | _=>exact h
theorem Ri.dp {P:Program}{ops:Array Oper}{H:List A4}{β:Nat→BV}{o:Oper}{τ:Nat→AV}{e:Ez}{j:Nat}(h:Ri P ops H β o τ e) (hd:e.dj=some j):VB ops o j:=by
 cases e with
 | dep j f=>cases hd;exact h.1
 | newd j f=>cases hd;exact h.1
 | _=>cases hd
theorem Rj.cgr {P:Program}{ops:Array Oper}{H₀:List A4}{H₁:BV→List A4}{i₀:Option Nat}{fl:List Nat}:wx ops (Rj P ops H₀ H₁ i₀ fl) where
 cg β β' k o τ e hd h:=⟨h.1,fun hk=>⟨(h.2.1 hk).1.cg hd,fun g=>((h.2.1 hk).2 g).cg hd⟩,h.2.2⟩
 dp β k o τ e j ho h hd:=by
  by_cases hk:some k=i₀
  ·obtain⟨v,rfl,_⟩:=h.1 hk;cases hd
  exact(h.2.1 hk).1.dp hd
theorem uW.mono {P:Program}{ops:Array Oper}{n:Nat}{D:List D4}{Q:Cj→BM→Prop}{τ₀ τk:Nat→AV}{Hb:List A4}{o:Oper}{K K':AV→List A4→Prop}(h:uW P ops n D Q τ₀ τk Hb o K) (hk:∀v H',K v H'→K' v H'):uW P ops n D Q τ₀ τk Hb o K':=by
 rcases h with ⟨R,h1,h2,h3,h4⟩ | ⟨h1,h2⟩
 ·exact .inl ⟨R,h1,h2,fun v H' hR=>hk v H' (h3 v H' hR),h4⟩
 exact .inr ⟨h1,hk _ _ h2⟩
section
variable {P:Program}{r:Option Nat}{ops:Array Oper}{id n:Nat}{τ:Nat→AV}{H:List A4}{D:List D4}{Q:Cj→BM→Prop}{base:List Ez}{H₁:BV→List A4}{i₀:Option Nat}
def BI (base:List Ez) (H:List A4) (H₁:BV→List A4) (i₀:Option Nat) (β:Nat→BV) (l:Nat→Bool) (H':List A4):Prop :=
 (∀j,(base.getD j .skip).ok (β j))∧∃Hb,H'=Hb++hB H H₁ i₀ β l∧Hb.Perm (UU β l 0 base)
theorem XZ (hne:fJ base):∃β,BI base H H₁ i₀ β (fun _=>false) H:=by
 obtain⟨β,hβ⟩:=fJ.pick base hne;exact⟨β,hβ,[],by cases i₀<;>rfl,by rw[aI]⟩
theorem kG {β:Nat→BV}{l:Nat→Bool}{i:Nat}{b:BV}{H' Hb:List A4}(hok:∀j,(base.getD j .skip).ok (β j)) (hb:(base.getD i .skip).ok b) (hib:i<base.length) (hnot:l i=false) (hdep:∀m j,(base.getD m .skip).dj=some j→l m=true→j≠i) (hself:(base.getD i .skip).dj≠some i) (hp:Hb.Perm (UU β l 0 base)) (hH:H'=(base.getD i .skip).bx (Oq β i b) i++(Hb++hB H H₁ i₀ (Oq β i b) (fun k=>l k||k==i))) :
  (∀k,l k=true→((Rc (Oq β i b) 0 base).getD k .skip).val=((Rc β 0 base).getD k .skip).val)∧((Rc (Oq β i b) 0 base).getD i .skip).val=(base.getD i .skip).w (Oq β i b) i∧BI base H H₁ i₀ (Oq β i b) (fun k=>l k||k==i) H':=by
 refine⟨fun k hk=>?_,by rw[Kf],fun j=>?_,?_⟩
 ·have hki:k≠i:=fun e=>by subst e;rw[hnot] at hk;cases hk
  rw[Kf,Kf,dS (Kt hki) fun j e=>Kt (hdep k j e hk)]
 ·by_cases h:j=i
  ·subst h;rw[HJ];exact hb
  rw[Kt h];exact hok j
 have h1:=eL (β:=β) (l:=l) (i:=i) (b:=b) hnot base 0 (Nat.zero_le _) Au (fun m j e1 e2=>hdep m j e1 (by rwa [Nat.zero_add] at e2));rw[Nat.sub_zero] at h1;exact⟨_,by rw[hH,List.append_assoc],(hp.append_left _).trans h1⟩
theorem QA {fl:List Nat}(c0:∀i o j,ops[i]?=some o→j∈HK o→j<i) {β:Nat→BV}(hE:∀m,m<base.length→∃o,ops[m]?=some o∧∀j,(base.getD m .skip).dj=some j→VB ops o j) {τ₀ τk:Nat→AV}{l:Nat→Bool}{H':List A4}{i:Nat}{o:Oper}(hyx:Rj P ops H H₁ i₀ fl β i o τk (base.getD i .skip)) (h:BI base H H₁ i₀ β l H') (hib:i<base.length) (ho:ops[i]?=some o) (hnot:l i=false) (hdown:Down ops fun k=>l k=true) :
  uW P ops n D Q τ₀ τk H' o fun v H''=>∃β',(∀k,l k=true→((Rc β' 0 base).getD k .skip).val=((Rc β 0 base).getD k .skip).val)∧((Rc β' 0 base).getD i .skip).val=v∧BI base H H₁ i₀ β' (fun k=>l k||k==i) H'':=by
 obtain⟨hok,Hb,rfl,hp⟩:=h;have hself:(base.getD i .skip).dj≠some i:=fun e=>absurd ((Rj.cgr.dp _ _ _ _ _ _ ho hyx e).lt c0 ho) Au;have hdep:∀m j,(base.getD m .skip).dj=some j→l m=true→j≠i:=by
  intro m j e1 e2 e3;subst e3;have hm:m<base.length:=by
   rcases Nat.lt_or_ge m base.length with h | h
   ·exact h
   rw[List.getD_eq_getElem?_getD,List.getElem?_eq_none h] at e1;cases e1
  obtain⟨om,hom,hym⟩:=hE m hm;have:=(hym j e1).down hdown hom e2;rw[hnot] at this;cases this
 have close:=fun(b:BV) (hb:(base.getD i .skip).ok b) (H':List A4) (hH:H'=_)=>kG (H:=H) (H₁:=H₁) (i₀:=i₀) hok hb hib hnot hdep hself hp hH;by_cases hi0:some i=i₀
 ·subst hi0;obtain⟨v,hv,hg,hop⟩:=hyx.1 rfl;rw[hv] at close;have e0:hB H H₁ (some i) β l=H:=by simp only[hB];rw[if_neg (by rw[hnot];decide)]
  rw[e0];refine .inl ⟨_,by unfold Ep;rw[hg];trivial,hop Hb,fun v' H'' hR=>?_,fun _ _ h=>h.elim⟩;obtain⟨g,rfl,rfl⟩:=hR;exact⟨Oq β i g,close g Aw _ (by simp only[hB,Ez.bx,List.nil_append,beq_self_eq_true,Bool.or_true,if_true,HJ])⟩
 have hB':∀b,hB H H₁ i₀ (Oq β i b) (fun k=>l k||k==i)=hB H H₁ i₀ β l:=by
  intro b;unfold hB;cases i₀ with
  | none=>rfl
  | some q =>
   have hq:q≠i:=fun e=>hi0 (by rw[e]);simp only[show (q==i)=false by simp[hq],Bool.or_false,Kt hq]
 have hez:Ri P ops (hB H H₁ i₀ β l) β o τk (base.getD i .skip):=by
  obtain⟨h1,h2⟩:=hyx.2.1 hi0;unfold hB;split
  ·exact h1
  split
  ·exact h2 _
  exact h1
 generalize base.getD i .skip=e at hez close hself;have close2:∀(b:BV) (v:AV) (H'':List A4),e.ok b→v=e.w (Oq β i b) i→H''=e.bx (Oq β i b) i++(Hb++hB H H₁ i₀ β l)→∃β',(∀k,l k=true→((Rc β' 0 base).getD k .skip).val=((Rc β 0 base).getD k .skip).val)∧((Rc β' 0 base).getD i .skip).val=v∧BI base H H₁ i₀ β' (fun k=>l k||k==i) H'':=fun b v H'' h1 h2 h3=>by
  obtain⟨a1,a2,a3⟩:=close b h1 H'' (by rw[h3,hB']);exact⟨_,a1,a2.trans h2.symm,a3⟩
 cases e with
 | val v=>exact .inl ⟨_,hez.1,hez.2 Hb,fun v' H'' ⟨a,b⟩=>close2 (0,0,.p .any) _ _ trivial a b,fun _ _ h=>h.elim⟩
 | skip=>exact .inr ⟨hez,close2 (0,0,.p .any) _ _ trivial rfl rfl⟩
 | new cs=>exact .inl ⟨_,by unfold Ep;rw[hez.1];trivial,hez.2 Hb,fun v' H'' ⟨b,a,c⟩=>close2 (b,0,.p .any) _ _ trivial (by simp only[Ez.w,HJ];exact a) (by simp only[Ez.bx,HJ];exact c),fun _ _ h=>h.elim⟩
 | newv sz rows=>exact .inl ⟨_,by unfold Ep;rw[hez.1];trivial,hez.2 Hb,fun v' H'' ⟨b,c,a,d⟩=>close2 (b,c,.p .any) _ _ trivial (by simp only[Ez.w,HJ];exact a) (by simp only[Ez.bx,HJ];exact d),fun _ _ h=>h.elim⟩
 | rel R=>exact .inl ⟨_,by unfold Ep;rw[hez.1];trivial,hez.2 Hb,fun v' H'' ⟨a,b⟩=>close2 (0,0,v') _ _ a (by simp only[Ez.w,HJ]) b,fun _ _ h=>h.elim⟩
 | dep j f=>exact .inl ⟨_,hez.2.1,hez.2.2 Hb,fun v' H'' ⟨a,b⟩=>close2 (0,0,.p .any) _ _ trivial (by simp only[Ez.w];rw[Kt (fun e=>hself (by rw[e];rfl))];exact a) b,fun _ _ h=>h.elim⟩
 | newd j f=>exact .inl ⟨_,by unfold Ep;rw[hez.2.1];trivial,hez.2.2 Hb,fun v' H'' ⟨b,a,c⟩=>close2 (b,0,.p .any) _ _ trivial (by simp only[Ez.w,HJ];exact a) (by simp only[Ez.bx,HJ];rw[Kt (fun e=>hself (by rw[e];rfl))];exact c),fun _ _ h=>h.elim⟩
end
section
variable {P:Program}{r:Option Nat}{ops:Array Oper}{id n:Nat}{τ:Nat→AV}{H:List A4}{D:List D4}{Q:Cj→BM→Prop}{H₁:BV→List A4}{i₀:Option Nat}{fl:List Nat}
theorem eQ {base:List Ez}{β β':Nat→BV}{l:Nat→Bool}{H':List A4}(h:BI base H H₁ i₀ β l H') (hall:∀k,k<base.length→l k=true) (hi0:∀i,i₀=some i→i<base.length) (hb:∀i,i<base.length→β' i=β i):H'.Perm (UU β (fun _=>true) 0 base++hB H H₁ i₀ β' (fun _=>true)):=by
 obtain⟨_,Hb,rfl,hp⟩:=h;have e1:UU β l 0 base=UU β (fun _=>true) 0 base:=by
  have:∀(r:List Ez) (k:Nat),(∀j,k≤j→j<k+r.length→l j=true)→UU β l k r=UU β (fun _=>true) k r:=by
   intro r
   induction r with
   | nil=>intro k h;rfl
   | cons e r ih =>
    intro k h;simp only[UU,h k (Nat.le_refl _) Av,if_true];rw[ih (k+1) fun j h1 h2=>h j Au (by simp only[List.length_cons];omega)]
  exact this base 0 fun j _ h=>hall j Au
 have e2:hB H H₁ i₀ β l=hB H H₁ i₀ β' (fun _=>true):=by
  cases i₀ with
  | none=>rfl
  | some i=>simp only[hB,hall i (hi0 i rfl),hb i (hi0 i rfl),if_true]
 rw[e2,←e1];exact hp.append_right _
theorem bJ {Ok:(Nat→BV)→Nat→Oper→(Nat→AV)→Ez→Prop}{base:List Ez}{β:Nat→BV}{τf:Nat→Nat→AV}(hE:∀j,j<base.length→∃o,ops[j]?=some o∧Ok β j o (τf j) (base.getD j .skip)) (hc:wx ops Ok:=by exact Rj.cgr):∀m,m<base.length→∃o,ops[m]?=some o∧∀j,(base.getD m .skip).dj=some j→VB ops o j:=fun m hm=>by
 obtain⟨o,ho,h⟩:=hE m hm;exact⟨o,ho,fun j e=>hc.dp _ _ _ _ _ _ ho h e⟩
theorem nk (base:List Ez) (hm:P.follows .mixedOrders=true) (hi0:∀i,i₀=some i→i<base.length)
  (he:Nat.ble base.length ops.size=true) (chk:Me ops n []=true) (late:kg ops base.length=true) (hne:fJ base) (h:YX P ops H H₁ i₀ fl (fun _=>(0,0,.p .any)) 0 τ base (fun β τ' Hs=>AL P r ops base.length ⟨n,τ',Hs++hB H H₁ i₀ β (fun _=>true),D⟩ Q)):IK P r (.region id ops true) ⟨n,τ,H,D⟩ Q:=by
 obtain⟨hdst,c0,c1,c2,_⟩:=Nk chk;rw[Nat.ble_eq] at he;have hE:=fun β (hβ:∀j,(base.getD j .skip).ok (β j))=>YG.facts (base:=base) (τ:=τ) Rj.cgr c0 β hβ base 0 _ τ _ (fun i h=>absurd h Au) rfl Au rfl h;refine Pg hm base.length he ⟨hdst,c0,c1,c2⟩ (fun i j h1 h2 h3=>az late h1 h2 h3) (fun β=>Rc β 0 base) (fun β l H'=>BI base H H₁ i₀ β l H'∧∀k,base.length≤k→l k=false) ?_ ?_ ?_
 ·obtain⟨β,hβ⟩:=XZ (H:=H) (H₁:=H₁) (i₀:=i₀) hne;exact⟨β,hβ,fun _ _=>O⟩
 ·intro β l H' i o hI hib ho hnot hdown hpre;obtain⟨o',ho',hyx⟩:=(hE β hI.1.1).1 i (Nat.zero_le _) hib;rw[ho] at ho';injection ho' with ho';subst ho';refine(QA c0 (bJ fun j hj=>(hE β hI.1.1).1 j (Nat.zero_le _) hj) hyx hI.1 hib ho hnot hdown).mono fun v H'' hK=>?_;obtain⟨β',h1,h2,h3⟩:=hK;exact⟨β',h1,h2,h3,fun k hk=>by show (l k||k==i)=false;rw[hI.2 k hk];simp;omega⟩
 intro β l H' hI hall hno;obtain⟨_,β',hb,hK⟩:=hE β hI.1.1;exact IZ (eQ hI.1 hall hi0 hb) hK
theorem Rz (base:List Ez) (hm:P.follows .mixedOrders=true) (he:Nat.ble base.length ops.size=true) (chk:Me ops n []=true) (late:kg ops base.length=true) (h:YX P ops H (fun _=>H) none [] (fun _=>(0,0,.p .any)) 0 τ base (fun β τ' Hs=>AL P r ops base.length ⟨n,τ',Hs++H,D⟩ Q)) (hne:fJ base:=by exact trivial):IK P r (.region id ops true) ⟨n,τ,H,D⟩ Q :=
 nk base hm (fun _ h=>by cases h) he chk late hne h
end
section
variable {P:Program}{ops:Array Oper}{H₀:List A4}{H₁:BV→List A4}{i₀:Nat}{fl:List Nat}{β:Nat→BV}{k:Nat}{τ:Nat→AV}{r:List Ez}{K:(Nat→BV)→(Nat→AV)→List A4→Prop}{dst:Option Tmp}{op:Op}{ty:TypeId}{pos:String}{aft:Array Edge}{v:AV}
theorem ok_none {o:Oper}{e:Ez}(h:Ri P ops H₀ β o τ e):Rj P ops H₀ (fun _=>H₀) none [] β k o τ e:=⟨fun e=>(by cases e),fun _=>⟨h,fun _=>h⟩,fun e=>(by cases e)⟩
theorem Wz {o:Oper}{e:Ez}(hk:Nat.beq k i₀=false) (hf:fl.contains k=false∨∀v,e= .val v→∀X,Dm P o (ev τ) X v X) (h:Ri P ops H₀ β o τ e) (h':∀g,Ri P ops (H₁ g) β o τ e):Rj P ops H₀ H₁ (some i₀) fl β k o τ e :=
 ⟨fun e=>(by cases e;simp at hk),fun _=>⟨h,h'⟩,fun e=>hf.elim (fun h=>by rw[h] at e;cases e) fun h=>h⟩
theorem C3 (ho:ops[k]?=some ⟨dst,op,ty,pos,aft,none⟩) (h:∀Bs,Dm P ⟨dst,op,ty,pos,aft,none⟩ (ev τ) (Bs++H₀) v (Bs++H₀)) (next:∀{b},YX P ops H₀ (fun _=>H₀) none [] (Oq β k b) (k+1) (put τ dst v) r K):YX P ops H₀ (fun _=>H₀) none [] β k τ (.val v::r) K :=
 ⟨_,ho,ok_none ⟨trivial,h⟩,fun _ _=>next⟩
theorem M4 {cs:List AV}(ho:ops[k]?=some ⟨dst,op,ty,pos,aft,none⟩) (h:∀Bs,DL P ⟨dst,op,ty,pos,aft,none⟩ (ev τ) (Bs++H₀) (J0 cs (Bs++H₀))) (next:∀(b:Nat) {c},YX P ops H₀ (fun _=>H₀) none [] (Oq β k (b,c)) (k+1) (put τ dst (.ptr b 0)) r (fun β' τ' Hs=>K β' τ' (.box b cs::Hs))):YX P ops H₀ (fun _=>H₀) none [] β k τ (.new cs::r) K :=
 ⟨_,ho,ok_none ⟨rfl,h⟩,fun b _=>by simp only[Ez.w,Ez.bx,HJ];exact @next b.1 b.2⟩
theorem KL {Ok:(Nat→BV)→Nat→Oper→(Nat→AV)→Ez→Prop}(h:K β τ []):YG Ok ops β k τ [] K:=h
theorem MB (ho:ops[k]?=some ⟨dst,op,ty,pos,aft,none⟩) (hk:Nat.beq k i₀=false) (hf:fl.contains k=false) (h:∀Bs,Dm P ⟨dst,op,ty,pos,aft,none⟩ (ev τ) (Bs++H₀) v (Bs++H₀)) (h':∀g Bs,Dm P ⟨dst,op,ty,pos,aft,none⟩ (ev τ) (Bs++H₁ g) v (Bs++H₁ g)) (next:∀{b},YX P ops H₀ H₁ (some i₀) fl (Oq β k b) (k+1) (put τ dst v) r K):YX P ops H₀ H₁ (some i₀) fl β k τ (.val v::r) K :=
 ⟨_,ho,Wz hk (.inl hf) ⟨trivial,h⟩ (fun g=>⟨trivial,h' g⟩),fun _ _=>next⟩
theorem Ca (ho:ops[k]?=some ⟨dst,op,ty,pos,aft,none⟩) (hk:Nat.beq k i₀=false) (h:∀H,Dm P ⟨dst,op,ty,pos,aft,none⟩ (ev τ) H v H) (next:∀{b},YX P ops H₀ H₁ (some i₀) fl (Oq β k b) (k+1) (put τ dst v) r K):YX P ops H₀ H₁ (some i₀) fl β k τ (.val v::r) K :=
 ⟨_,ho,Wz hk (.inr fun v' e X=>by cases e;exact h X) ⟨trivial,fun _=>h _⟩ (fun g=>⟨trivial,fun _=>h _⟩),fun _ _=>next⟩
theorem kC {cs:List AV}(ho:ops[k]?=some ⟨dst,op,ty,pos,aft,none⟩) (hk:Nat.beq k i₀=false) (h:∀H,DL P ⟨dst,op,ty,pos,aft,none⟩ (ev τ) H (J0 cs H)) (next:∀(b:Nat) {c},YX P ops H₀ H₁ (some i₀) fl (Oq β k (b,c)) (k+1) (put τ dst (.ptr b 0)) r (fun β' τ' Hs=>K β' τ' (.box b cs::Hs))):YX P ops H₀ H₁ (some i₀) fl β k τ (.new cs::r) K :=
 ⟨_,ho,Wz hk (.inr fun v' e=>by cases e) ⟨rfl,fun _=>h _⟩ (fun g=>⟨rfl,fun _=>h _⟩),fun b _=>by simp only[Ez.w,Ez.bx,HJ];exact @next b.1 b.2⟩
theorem To {H₂:List A4}(ho:ops[i₀]?=some ⟨dst,op,ty,pos,aft,none⟩) (hf:fl.contains i₀=false) (h:∀Bs,Dm P ⟨dst,op,ty,pos,aft,none⟩ (ev τ) (Bs++H₀) v (Bs++H₂)) (next:∀{b},YX P ops H₀ (fun _=>H₂) (some i₀) fl (Oq β i₀ b) (i₀+1) (put τ dst v) r K):YX P ops H₀ (fun _=>H₂) (some i₀) fl β i₀ τ (.val v::r) K :=
 ⟨_,ho,⟨fun _=>⟨v,rfl,rfl,fun Bs=>(h Bs).mono (by
  intro r H' hR;cases r with
  | val v'=>obtain⟨rfl,rfl⟩:=hR;exact⟨(0,0,.p .any),rfl,rfl⟩
  | panic v'=>exact hR.elim)⟩,fun e=>absurd rfl e,fun e=>by rw[hf] at e;cases e⟩,fun _ _=>next⟩
theorem EB {α:Type}{Bs H:List α}{j:Nat}{x:α}(h:H[j]?=some x):(Bs++H)[Bs.length+j]?=some x:=by
 rw[List.getElem?_append_right Au,Nat.add_sub_cancel_left];exact h
end
section
variable {P:Program}{ops:Array Oper}{n:Nat}{τ₀:Nat→AV}{D:List D4}{Q:Cj→BM→Prop}{opn:Nat→Bool}{k:Nat}{τ:Nat→AV}{H Hs:List A4}{rd:ZW}{ef:Yy}{effs:List Bool}{fx:List (Nat×Sp)}{dst:Option Tmp}{ty:TypeId}{pos:String}{aft:Array Edge}{v:AV}{c:Call}{f:Operand}{fid:FuncId}{first caps A:List AV}
end
section
variable {P:Program}{dst:Option Tmp}{ty:TypeId}{pos:String}{aft:Array Edge}{g:Option (Nat×Bool)}{ρ:Operand→AV}{H:List A4}{x y z:Operand}{v:AV}
end
theorem Xg {α:Type}{base T xs:List α}{is:List Nat}(hn:is.Nodup) (h:GF base is xs):(base++T).Perm (xs++(DM is 0 base++T)):=by
 rw[←List.append_assoc];exact(DP hn h).append_right T
theorem Un {α:Type}{base T xs rest:List α}{is:List Nat}(hn:is.Nodup) (h:GF base is xs) (hd:DM is 0 base=rest):(base++T).Perm (xs++(rest++T)):=by
 subst hd;exact Xg hn h
theorem MK {P:Program}{fn:Func}{R:EG→List A4→Prop}{S:BM}{Hs:List A4}(h:Ml P fn S R [] .ret Hs):∀U:List Nat,Ml P fn S R (U.map .mark) .ret (Hs++U.map .dfr)
 | []=>by simpa using h
 | d::U=>by
  refine⟨Hs.length,by simp,?_⟩;have:(Hs++(d::U).map A4.dfr).eraseIdx Hs.length=Hs++U.map A4.dfr:=by
   rw[List.eraseIdx_append_of_length_le (Nat.le_refl _)];simp
  rw[this];exact MK h U
theorem Q5 {P:Program}{fn:Func}{R:EG→List A4→Prop}{n:Nat}{τ:Nat→AV}(U:List Nat) {Hs:List A4}(h:Ml P fn ⟨n,τ,Hs++U.map .dfr,U.map .mark⟩ R [] .ret Hs):mO P fn R .ret ⟨n,τ,Hs++U.map .dfr,U.map .mark⟩ :=
 MK h U
theorem Z2 {P:Program}{l d i:Nat}{S:BM}{Q:Cj→BM→Prop}{v:AV}{H':List A4}{L:Po}(H2:List A4) (h1:H'[i]?=some (.loop l L)) (hs:L.state≠ .busy) (hp:L.pending=none) (he:H'.eraseIdx i=H2) (h:Q .normal ⟨S.n,S.τ,H2,.mark d::S.D⟩):Ws P l d S Q (.val v) H':=by
 subst he;exact⟨i,L,h1,hs,by rw[hp];exact h⟩
theorem bQ {P:Program}{l d i:Nat}{S:BM}{Q:Cj→BM→Prop}{v:AV}{H':List A4}{L:Po}(H2:List A4) (h1:H'[i]?=some (.loop l L)) (hs:L.state≠ .busy) (hp:L.pending=some .ret) (he:H'.eraseIdx i=H2) (h:IK P none .ret ⟨S.n,S.τ,H2,.mark d::S.D⟩ Q):Ws P l d S Q (.val v) H':=by
 subst he;exact⟨i,L,h1,hs,by rw[hp];exact h⟩
theorem DL.permL {P:Program}{o:Oper}{ρ:Operand→AV}{X H:List A4}{R:EG→List A4→Prop}(h:DL P o ρ X R) (hp:H.Perm X):DL P o ρ H R:=by
 intro r F S a w hs hH hρ hd;subst hH;have hs':GI F ⟨S.n,S.τ,X,S.D⟩ a w:=⟨hs.size,hs.tmp,hs.heap.perm hp,hs.defs⟩;have tr:∀{F' H' w'},Trans F X w F' H' w'→Trans F S.H w F' H' w':=fun t =>
  { t with same:=fun b hb hn=>t.same b hb fun o ho=>hn o (hp.mem_iff.2 ho),keep:=fun b hb hn=>t.keep b hb fun o ho=>hn o (hp.mem_iff.2 ho),keys:=fun o ho b hb=>(t.keys o ho b hb).imp (fun⟨q,h1,h2⟩=>⟨q,hp.mem_iff.2 h1,h2⟩) id }
 refine I1 (h r F ⟨S.n,S.τ,X,S.D⟩ a w hs' O hρ hd) ?_ ?_
 ·rintro a' w' ⟨v,H',F',h1,h2,h3⟩;exact⟨v,H',F',h1,h2,tr h3⟩
 rintro e a' w' ⟨v,H',F',u,h1,h2,h3,h4,h5⟩;exact⟨v,H',F',u,h1,h2,h3,h4,tr h5⟩
theorem DL.ev {P:Program}{o:Oper}{ρ ρ':Operand→AV}{H:List A4}{R:EG→List A4→Prop}(h:DL P o ρ H R) (he:∀x∈o.op.operands.toList,ρ x=ρ' x):DL P o ρ' H R :=
 fun r F S a w hs hH hρ hd=>h r F S a w hs hH (fun x hx=>(hρ x hx).trans (he x hx).symm) hd
theorem Vw {ops:Array Oper}{sp sp':List Sp}{τ:Nat→AV}:∀{k:Nat},(∀j,j<k→(sp.getD j .skip).val=(sp'.getD j .skip).val)→τS ops sp τ k=τS ops sp' τ k
 | 0,_=>rfl
 | k+1,h=>by simp only[τS];rw[Vw fun j hj=>h j Au,h k Au]
theorem qU {β:Nat→BV}{base tl:List Ez}{j:Nat}(h:j<base.length):((Rc β 0 (base++tl)).getD j .skip).val=((Rc β 0 base).getD j .skip).val:=by
 rw[Kf,Kf,List.getD_eq_getElem?_getD,List.getElem?_append_left h,←List.getD_eq_getElem?_getD]
def TV (P:Program) (ops:Array Oper) (Xs:List A4→Prop):Nat→(Nat→AV)→List A4→List AV→((Nat→AV)→List A4→Prop)→Prop
 | _,τ,H,[],K=>K τ H
 | k,τ,H,v::r,K=>∃o H',ops[k]?=some o∧o.guard=none∧Dm P o (ev τ) H v H'∧Xs H'∧TV P ops Xs (k+1) (put τ o.dst v) H' r K
theorem TV.facts {P:Program}{ops:Array Oper}{Xs:List A4→Prop}{τ:Nat→AV}{sp:List Sp}:∀(r:List AV) (k:Nat) (H:List A4) (K:(Nat→AV)→List A4→Prop),(∀j v,r[j]?=some v→(sp.getD (k+j) .skip).val=v)→TV P ops Xs k (τS ops sp τ k) H r K →
  ∃Hm:Nat→List A4,Hm k=H∧(∀j,k≤j→j<k+r.length→∃o,ops[j]?=some o∧o.guard=none∧Dm P o (ev (τS ops sp τ j)) (Hm j) ((sp.getD j .skip).val) (Hm (j+1))∧Xs (Hm (j+1)))∧K (τS ops sp τ (k+r.length)) (Hm (k+r.length))
 | [],k,H,K,hv,h=>⟨fun _=>H,rfl,fun j h1 h2=>by simp at h2;omega,h⟩
 | v::r,k,H,K,hv,h=>by
  obtain⟨o,H',ho,hg,hop,hx,hn⟩:=h;have hk:(sp.getD k .skip).val=v:=hv 0 v rfl;obtain⟨Hm,h1,h2,h3⟩:=TV.facts (P:=P) (ops:=ops) (Xs:=Xs) (τ:=τ) (sp:=sp) r (k+1) H' K (fun j v' e=>by rw[show k+1+j=k+(j+1) by omega];exact hv (j+1) v' e) (by simp only[τS,ho,Option.bind_some,hk];exact hn);obtain⟨G,g1,g2⟩:∃G:Nat→List A4,G k=H∧∀j,k<j→G j=Hm j:=⟨fun j=>if j=k then H else Hm j,if_pos rfl,fun j h=>if_neg Au⟩;refine⟨G,g1,fun j a1 a2=>?_,?_⟩
  ·rw[g2 (j+1) Au];by_cases e:j=k
   ·subst e;rw[g1,h1,hk];exact⟨o,ho,hg,hop,hx⟩
   rw[g2 j Au];simp only[List.length_cons] at a2;exact h2 j Au Au
  rw[show k+(v::r).length=k+1+r.length by simp only[List.length_cons];omega,g2 _ Au];exact h3
def aY (fl:List Nat) (base:List Ez):Bool:=fl.all fun j=>match base.getD j .skip with | .val _=>true | _=>false
def eA (ops:Array Oper) (e:Nat) (fl:List Nat):Bool:=(List.range ops.size).all fun i=>Nat.blt i e||(List.range i).all fun j=>(Nat.blt j e&&fl.contains j)||OC ops j i
theorem UZ {ops:Array Oper}{e:Nat}{fl:List Nat}(h:eA ops e fl=true) {i j:Nat}(hi:e≤i) (hs:i<ops.size) (hj:j<i) (hf:¬(j<e∧fl.contains j=true)):Pred ops j i:=by
 have:=List.all_eq_true.1 h i (by simpa using hs);simp only[Bool.or_eq_true] at this;rcases this with h1 | h1
 ·rw[Nat.blt_eq] at h1;omega
 have:=List.all_eq_true.1 h1 j (by simpa using hj);simp only[Bool.or_eq_true,Bool.and_eq_true,Nat.blt_eq] at this;exact this.elim (fun h=>absurd h hf) FO
section
variable {P:Program}{r:Option Nat}{ops:Array Oper}{id n:Nat}{τ:Nat→AV}{H:List A4}{D:List D4}{Q:Cj→BM→Prop}{H₁:BV→List A4}{i₀:Option Nat}{flx:List Nat}
theorem jU {β:Nat→BV}{l:Nat→Bool}:∀(r:List Ez) (k:Nat),(∀j,j<r.length→l (k+j)=true∨∃v,r.getD j .skip= .val v)→UU β l k r=UU β (fun _=>true) k r
 | [],k,h=>rfl
 | e::r,k,h=>by
  simp only[UU,if_true];rw[jU r (k+1) fun j hj=>by have:=h (j+1) (by simpa using hj);rw[show k+(j+1)=k+1+j by omega] at this;simpa using this];rcases h 0 Av with h1 | ⟨v,h1⟩
  ·rw[Nat.add_zero] at h1;rw[if_pos h1]
  simp only[List.getD_cons_zero] at h1;subst h1;split<;>rfl
theorem de (Xs:List A4→Prop) (base:List Ez) (tl:List AV) (fl:List Nat) (hm:P.follows .mixedOrders=true) (hi0:∀i,i₀=some i→i<base.length∧fl.contains i=false)
  (he:base.length+tl.length=ops.size) (chk:Me ops n []=true) (late:eA ops base.length fl=true) (hfl:aY fl base=true) (hne:fJ base)
  (hF:∀β k o τ v,fl.contains k=true→Rj P ops H H₁ i₀ flx β k o τ (.val v)→Ep ops ⟨0,τ,[],[]⟩ o∧∀X,Xs X→Dm P o (ev τ) X v X)
  (h:YX P ops H H₁ i₀ flx (fun _=>(0,0,.p .any)) 0 τ base (fun β τ' Hs=>TV P ops Xs base.length τ' (Hs++hB H H₁ i₀ β (fun _=>true)) tl (fun τ'' X=>Q .normal ⟨n,τ'',X,D⟩))):IK P r (.region id ops true) ⟨n,τ,H,D⟩ Q:=by
 obtain⟨hdst,c0,c1,c2,_⟩:=Nk chk;have hflv:∀j,fl.contains j=true→∃v,base.getD j .skip= .val v:=fun j hj=>by
  have:=List.all_eq_true.1 hfl j (by simpa using hj);cases hq:base.getD j .skip with
  | val v=>exact⟨v,rfl⟩
  | _=>simp only[hq] at this;cases this
 obtain⟨SP,hSP⟩:∃SP:(Nat→BV)→List Sp,SP=fun β=>Rc β 0 (base++tl.map .val):=⟨_,rfl⟩;have spv:∀β j,j<base.length→((SP β).getD j .skip).val=((Rc β 0 base).getD j .skip).val:=fun β j hj=>by rw[hSP];exact qU hj
 have spt:∀β j v,tl[j]?=some v→((SP β).getD (base.length+j) .skip).val=v:=fun β j v e=>by
  rw[hSP];show ((Rc β 0 (base++tl.map Ez.val)).getD (base.length+j) .skip).val=v;rw[Kf,List.getD_eq_getElem?_getD,List.getElem?_append_right (Nat.le_add_right _ _),Nat.add_sub_cancel_left,List.getElem?_map,e];rfl
 have hE:∀β,(∀j,(base.getD j .skip).ok (β j))→(∀j,j<base.length→∃o,ops[j]?=some o∧Rj P ops H H₁ i₀ flx β j o (τS ops (SP β) τ j) (base.getD j .skip)) ∧
   ∃Hm:Nat→List A4,Hm base.length=UU β (fun _=>true) 0 base++hB H H₁ i₀ β (fun _=>true)∧(∀j,base.length≤j→j<ops.size→∃o,ops[j]?=some o∧o.guard=none∧Dm P o (ev (τS ops (SP β) τ j)) (Hm j) (((SP β).getD j .skip).val) (Hm (j+1))∧Xs (Hm (j+1)))∧Q .normal ⟨n,τS ops (SP β) τ ops.size,Hm ops.size,D⟩:=fun β hβ=>by
  obtain⟨h1,β',hb,hK⟩:=YG.facts (base:=base) (τ:=τ) Rj.cgr c0 β hβ base 0 _ τ _ (fun i h=>absurd h Au) rfl Au rfl h;have e:∀j,j≤base.length→τS ops (Rc β 0 base) τ j=τS ops (SP β) τ j:=fun j hj=>Vw fun q hq=>(spv β q Au).symm;have e2:hB H H₁ i₀ β' (fun _=>true)=hB H H₁ i₀ β (fun _=>true):=by
   cases i₀ with
   | none=>rfl
   | some i=>simp only[hB,hb i (hi0 i rfl).1]
  rw[e _ (Nat.le_refl _),e2] at hK;obtain⟨Hm,g1,g2,g3⟩:=TV.facts tl base.length _ _ (fun j v e=>spt β j v e) hK;rw[he] at g2 g3;exact⟨fun j hj=>by obtain⟨o,a,b⟩:=h1 j (Nat.zero_le _) hj;rw[e j Au] at b;exact⟨o,a,b⟩,Hm,g1,g2,g3⟩
 -- which of the last operations have been carried out
 obtain⟨I,hI⟩:∃I:(Nat→BV)→(Nat→Bool)→List A4→Prop,I=fun β l H'=>(BI base H H₁ i₀ β l H'∧∀k,base.length≤k→l k=false) ∨
   ((∀j,(base.getD j .skip).ok (β j))∧∃m,base.length<m∧m≤ops.size∧(∀k,base.length≤k→k<ops.size→(l k=true↔k<m))∧(∀k,k<base.length→fl.contains k=false→l k=true) ∧
    ∃Hm:Nat→List A4,(∀j,base.length≤j→j<ops.size→∃o,ops[j]?=some o∧o.guard=none∧Dm P o (ev (τS ops (SP β) τ j)) (Hm j) (((SP β).getD j .skip).val) (Hm (j+1))∧Xs (Hm (j+1)))∧Q .normal ⟨n,τS ops (SP β) τ ops.size,Hm ops.size,D⟩∧H'=Hm m):=⟨_,rfl⟩
 refine Pg hm ops.size (Nat.le_refl _) ⟨hdst,c0,c1,c2⟩ (fun i j h1 h2=>absurd h1 Au) SP I ?_ ?_ ?_
 ·obtain⟨β,hβ⟩:=XZ (H:=H) (H₁:=H₁) (i₀:=i₀) hne;rw[hI];exact⟨β,.inl ⟨hβ,fun _ _=>rfl⟩⟩
 ·intro β l H' i o h hlt ho hnot hdown hpre
  -- the operation i of the last ones comes
  have late':base.length≤i→(∀k,k<base.length→fl.contains k=false→l k=true)∧∀k,base.length≤k→k<i→l k=true:=fun hi =>
   ⟨fun k hk hf=>hpre k (UZ late hi hlt Au fun h=>by rw[hf] at h;cases h.2),fun k h1 h2=>hpre k (UZ late hi hlt h2 fun h=>by omega)⟩
  have go:∀{Hm:Nat→List A4},base.length≤i→(∀j,(base.getD j .skip).ok (β j))→(∀k,base.length≤k→k<ops.size→l k=true→k<i)→(∀j,base.length≤j→j<ops.size→∃o,ops[j]?=some o∧o.guard=none∧Dm P o (ev (τS ops (SP β) τ j)) (Hm j) (((SP β).getD j .skip).val) (Hm (j+1))∧Xs (Hm (j+1)))→Q .normal ⟨n,τS ops (SP β) τ ops.size,Hm ops.size,D⟩→H'.Perm (Hm i) →
    uW P ops n D Q τ (τS ops (SP β) τ i) H' o fun v H''=>∃ix',(∀k,l k=true→((SP ix').getD k .skip).val=((SP β).getD k .skip).val)∧((SP ix').getD i .skip).val=v∧I ix' (fun k=>l k||k==i) H'':=by
   intro Hm hi hok hlast h2 h3 hp;obtain⟨o',ho',hg,hop,_⟩:=h2 i hi hlt;rw[ho] at ho';injection ho' with ho';subst ho';refine .inl ⟨_,by unfold Ep;rw[hg];trivial,DL.permL hop hp,fun v' H'' ⟨a,b⟩=>⟨β,fun _ _=>rfl,a.symm,?_⟩,fun _ _ h=>h.elim⟩;rw[hI];refine .inr ⟨hok,i+1,by omega,by omega,fun k h1 h2=>?_,fun k h1 h2=>by show (l k||k==i)=true;rw[(late' hi).1 k h1 h2];rfl,Hm,h2,h3,b⟩;show (l k||k==i)=true↔_;by_cases hki:k=i
   ·subst hki;simp
   rw[show (k==i)=false by simp[hki],Bool.or_false];exact⟨fun h=>by have:=hlast k h1 h2 h;omega,fun h=>(late' hi).2 k h1 Au⟩
  have hI0:=h;rw[hI] at h;rcases h with ⟨hbi,hno⟩ | ⟨hok,m,hm1,hm2,hst,hbs,Hm,g2,g3,rfl⟩
  ·rcases Nat.lt_or_ge i base.length with hib | hib
   ·obtain⟨o',ho',hyx⟩:=(hE β hbi.1).1 i hib;rw[ho] at ho';injection ho' with ho';subst ho';refine(QA c0 (bJ (hE β hbi.1).1) hyx hbi hib ho hnot hdown).mono fun v H'' hK=>?_;obtain⟨β',a1,a2,a3⟩:=hK;refine⟨β',fun k hk=>?_,by rw[spv _ _ hib,a2],by rw[hI];exact .inl ⟨a3,fun k hk=>by show (l k||k==i)=false;rw[hno k hk];simp;omega⟩⟩;have hkb:k<base.length:=by
     rcases Nat.lt_or_ge k base.length with h | h
     ·exact h
     rw[hno k h] at hk;cases hk
    rw[spv _ _ hkb,spv _ _ hkb,a1 k hk]
   have hie:i=base.length:=by
    rcases Nat.lt_or_ge base.length i with h | h
    ·have:=(late' hib).2 base.length (Nat.le_refl _) h;rw[hno base.length (Nat.le_refl _)] at this;cases this
    omega
   subst hie;obtain⟨_,Hm,g1,g2,g3⟩:=hE β hbi.1;refine go hib hbi.1 (fun k h1 h2 h3=>by rw[hno k h1] at h3;cases h3) g2 g3 ?_;obtain⟨_,Hb,rfl,hp⟩:=hbi;rw[g1,←jU (l:=l) base 0 fun j hj=>by
    rw[Nat.zero_add];cases hf:fl.contains j with
    | true=>exact .inr (hflv j hf)
    | false=>exact .inl ((late' hib).1 j hj hf)]
   have e2:hB H H₁ i₀ β l=hB H H₁ i₀ β (fun _=>true):=by
    cases i₀ with
    | none=>rfl
    | some q=>simp only[hB,(late' hib).1 q (hi0 q rfl).1 (hi0 q rfl).2,if_true]
   rw[←e2];exact hp.append_right _
  rcases Nat.lt_or_ge i base.length with hib | hib
  ·-- a value floats past the last operations
   have hfi:fl.contains i=true:=by
    cases hf:fl.contains i with
    | true=>rfl
    | false=>have:=hbs i hib hf;rw[hnot] at this;cases this
   obtain⟨v,hv⟩:=hflv i hfi;obtain⟨o',ho',hyx⟩:=(hE β hok).1 i hib;rw[ho] at ho';injection ho' with ho';subst ho';rw[hv] at hyx;obtain⟨hw,hop⟩:=hF _ _ _ _ _ hfi hyx;have hxs:Xs (Hm m):=by
    obtain⟨_,_,_,_,hx⟩:=g2 (m - 1) Au Au
    rwa [show m - 1+1=m by omega] at hx
   refine .inl ⟨_,hw,hop _ hxs,fun v' H'' ⟨a,b⟩=>⟨β,fun _ _=>O,by rw[spv _ _ hib,Kf,hv,a];rfl,?_⟩,fun _ _ h=>h.elim⟩;rw[hI];refine .inr ⟨hok,m,hm1,hm2,fun k h1 h2=>?_,fun k h1 h2=>by show (l k||k==i)=true;rw[hbs k h1 h2];rfl,Hm,g2,g3,b⟩;show (l k||k==i)=true↔_;rw[show (k==i)=false by simp;omega,Bool.or_false];exact hst k h1 h2
  have him:i=m:=by
   have h1:¬i<m:=fun h=>by have:=(hst i hib hlt).2 h;rw[hnot] at this;cases this
   rcases Nat.lt_or_ge m i with h | h
   ·have:=(hst m Au Au).1 ((late' hib).2 m Au h);omega
   omega
  subst him;exact go hib hok (fun k h1 h2 h3=>(hst k h1 h2).1 h3) g2 g3 (List.Perm.refl _)
 intro β l H' h hall _;rw[hI] at h;rcases h with ⟨hbi,hno⟩ | ⟨hok,m,hm1,hm2,hst,hbs,Hm,g2,g3,rfl⟩
 ·have hbs:base.length=ops.size:=by
   rcases Nat.lt_or_ge base.length ops.size with h | h
   ·have:=hall base.length h;rw[hno base.length (Nat.le_refl _)] at this;cases this
   omega
  obtain⟨_,Hm,g1,g2,g3⟩:=hE β hbi.1;have hp:=eQ hbi (fun k hk=>hall k Au) (fun i e=>(hi0 i e).1) (fun _ _=>rfl);rw[←g1,hbs] at hp;exact IZ hp (Ch (Nat.sub_self _) g3)
 have hms:m=ops.size:=by
  rcases Nat.lt_or_ge m ops.size with h | h
  ·have:=(hst m Au h).1 (hall m h);omega
  omega
 subst hms;exact Ch (Nat.sub_self _) g3
theorem eg (base:List Ez) (tl:List AV) (fl:List Nat) (hm:P.follows .mixedOrders=true) (he:base.length+tl.length=ops.size) (chk:Me ops n []=true) (late:eA ops base.length fl=true) (hfl:aY fl base=true)
  (h:YX P ops H (fun _=>H) none [] (fun _=>(0,0,.p .any)) 0 τ base (fun β τ' Hs=>TV P ops (fun X=>∃Bs,X=Bs++H) base.length τ' (Hs++H) tl (fun τ'' X=>Q .normal ⟨n,τ'',X,D⟩))) (hne:fJ base:=by exact trivial):IK P r (.region id ops true) ⟨n,τ,H,D⟩ Q :=
 de _ base tl fl hm (fun i e=>by cases e) he chk late hfl hne (fun β k o τ v _ h=>⟨(h.2.1 Av).1.1,fun X ⟨Bs,e⟩=>by rw[e];exact(h.2.1 Av).1.2 Bs⟩) h
theorem O9 (H₂:List A4) (i₀:Nat) (base:List Ez) (tl:List AV) (fl:List Nat) (hm:P.follows .mixedOrders=true) (he:base.length+tl.length=ops.size) (chk:Me ops n []=true) (late:eA ops base.length fl=true) (hfl:aY fl base=true) (hi0:(Nat.blt i₀ base.length&& !fl.contains i₀)=true)
  (h:YX P ops H (fun _=>H₂) (some i₀) fl (fun _=>(0,0,.p .any)) 0 τ base (fun β τ' Hs=>TV P ops (fun _=>True) base.length τ' (Hs++H₂) tl (fun τ'' X=>Q .normal ⟨n,τ'',X,D⟩))) (hne:fJ base:=by exact trivial):IK P r (.region id ops true) ⟨n,τ,H,D⟩ Q:=by
 simp only[Bool.and_eq_true,Nat.blt_eq,Bool.not_eq_true'] at hi0;refine de _ base tl fl hm (fun i e=>by cases e;exact hi0) he chk late hfl hne (fun β k o τ v hf h=>⟨?_,fun X _=>h.2.2 hf v rfl X⟩) h;by_cases hk:some k=some i₀
 ·obtain⟨_,_,hg,_⟩:=h.1 hk;unfold Ep;rw[hg];trivial
 exact(h.2.1 hk).1.1
def mP (P:Program) (ops:Array Oper) (H:List A4) (u:AV) (i₀:Nat) (β:Nat→BV) (k:Nat) (o:Oper) (τ:Nat→AV) (e:Ez):Prop :=
 if k=i₀ then e.dj=none∧o.guard=none∧∀Bs,DL P o (ev τ) (Bs++H) (fun r _=>r= .panic u) else (OC ops i₀ k=true∧e.dj=none)∨Ri P ops H β o τ e
theorem mP.cgr {u:AV}{i₀:Nat}:wx ops (mP P ops H u i₀) where
 cg β β' k o τ e hd h:=by
  unfold mP at *;split
  ·rename_i hk;rw[if_pos hk] at h;exact h
  rename_i hk;rw[if_neg hk] at h;exact h.imp (fun h=>h) fun h=>h.cg hd
 dp β k o τ e j ho h hd:=by
  unfold mP at h;split at h
  ·rw[h.1] at hd;cases hd
  rcases h with h | h
  ·rw[h.2] at hd;cases hd
  exact h.dp hd
abbrev E7 (P:Program) (ops:Array Oper) (H:List A4) (u:AV) (i₀:Nat) (β:Nat→BV) (k:Nat) (τ:Nat→AV) (l:List Ez):Prop:=YG (mP P ops H u i₀) ops β k τ l fun _ _ _=>True
theorem R5 (u:AV) (i₀:Nat) (base:List Ez) (hm:P.follows .mixedOrders=true) (he:base.length=ops.size) (chk:Me ops n []=true) (hi0:Nat.blt i₀ base.length=true) (hne:fJ base) (hQ:∀τ' H',Q (.panic u) ⟨n,τ',H',D⟩)
  (h:E7 P ops H u i₀ (fun _=>(0,0,.p .any)) 0 τ base):IK P r (.region id ops true) ⟨n,τ,H,D⟩ Q:=by
 obtain⟨hdst,c0,c1,c2,_⟩:=Nk chk;rw[Nat.blt_eq] at hi0;have hE:=fun β (hβ:∀j,(base.getD j .skip).ok (β j))=>(YG.facts (base:=base) (τ:=τ) mP.cgr c0 β hβ base 0 _ τ _ (fun i h=>absurd h Au) rfl Au rfl h).1;refine Pg hm ops.size (Nat.le_refl _) ⟨hdst,c0,c1,c2⟩ (fun i j h1 h2=>absurd h1 Au) (fun β=>Rc β 0 base) (fun β l H'=>BI base H (fun _=>H) none β l H'∧l i₀=false) ?_ ?_ ?_
 ·obtain⟨β,hβ⟩:=XZ (H:=H) (H₁:=fun _=>H) (i₀:=none) hne;exact⟨β,hβ,O⟩
 ·intro β l H' i o hI hlt ho hnot hdown hpre;obtain⟨o',ho',hok⟩:=hE β hI.1.1 i (Nat.zero_le _) Au;rw[ho] at ho';injection ho' with ho';subst ho';unfold mP at hok;split at hok
  ·obtain⟨_,Hb,rfl,_⟩:=hI.1;exact .inl ⟨_,by unfold Ep;rw[hok.2.1];trivial,hok.2.2 Hb,fun _ _ h=>(by cases h),fun v H' h τ' _=>by cases h;exact hQ _ _⟩
  rename_i hk;rcases hok with h | h
  ·have:=hpre i₀ (FO h.1);rw[hI.2] at this;cases this
  refine(QA c0 (bJ (fun j hj=>hE β hI.1.1 j (Nat.zero_le _) hj) mP.cgr) (fl:=[]) (i₀:=none) (H₁:=fun _=>H) ⟨fun e=>(by cases e),fun _=>⟨h,fun _=>h⟩,fun e=>(by cases e)⟩ hI.1 Au ho hnot hdown).mono fun v H'' hK=>?_;obtain⟨β',h1,h2,h3⟩:=hK;exact⟨β',h1,h2,h3,by show (l i₀||i₀==i)=false;rw[hI.2];simpa using fun e=>hk e.symm⟩
 intro β l H' hI hall _;have:=hall i₀ Au;rw[hI.2] at this;cases this
end
section
variable {P:Program}{ops:Array Oper}{H₀ H:List A4}{u:AV}{i₀:Nat}{β:Nat→BV}{k:Nat}{τ:Nat→AV}{r:List Ez}{dst:Option Tmp}{op:Op}{ty:TypeId}{pos:String}{aft:Array Edge}{v:AV}
theorem Ry {X:List A4}{l:List AV}{C:(Nat→AV)→List A4→Prop}(H':List A4) (ho:ops[k]?=some ⟨dst,op,ty,pos,aft,none⟩) (h:Dm P ⟨dst,op,ty,pos,aft,none⟩ (ev τ) X v (H'++H₀)) (next:TV P ops (fun X=>∃Bs,X=Bs++H₀) (k+1) (put τ dst v) (H'++H₀) l C):TV P ops (fun X=>∃Bs,X=Bs++H₀) k τ X (v::l) C :=
 ⟨_,_,ho,rfl,h,⟨_,rfl⟩,next⟩
theorem Hv {X:List A4}{l:List AV}{C:(Nat→AV)→List A4→Prop}(H':List A4) (ho:ops[k]?=some ⟨dst,op,ty,pos,aft,none⟩) (h:Dm P ⟨dst,op,ty,pos,aft,none⟩ (ev τ) X v H') (next:TV P ops (fun _=>True) (k+1) (put τ dst v) H' l C):TV P ops (fun _=>True) k τ X (v::l) C :=
 ⟨_,_,ho,rfl,h,trivial,next⟩
theorem Oi {Xs:List A4→Prop}{X:List A4}{C:(Nat→AV)→List A4→Prop}(h:C τ X):TV P ops Xs k τ X [] C:=h
theorem DY (ho:ops[k]?=some ⟨dst,op,ty,pos,aft,none⟩) (hk:Nat.beq k i₀=false) (h:∀Bs,Dm P ⟨dst,op,ty,pos,aft,none⟩ (ev τ) (Bs++H) v (Bs++H)) (next:∀{b},E7 P ops H u i₀ (Oq β k b) (k+1) (put τ dst v) r):E7 P ops H u i₀ β k τ (.val v::r) :=
 ⟨_,ho,by rw[mP,if_neg (fun e=>by rw[e] at hk;simp at hk)];exact .inr ⟨trivial,h⟩,fun _ _=>next⟩
theorem Ik {o:Oper}(ho:ops[k]?=some o) (hk:Nat.beq k i₀=false) (hp:OC ops i₀ k=true) (next:∀{b},E7 P ops H u i₀ (Oq β k b) (k+1) (put τ o.dst (.p .any)) r):E7 P ops H u i₀ β k τ (.val (.p .any)::r) :=
 ⟨_,ho,by rw[mP,if_neg (fun e=>by rw[e] at hk;simp at hk)];exact .inl ⟨hp,rfl⟩,fun _ _=>next⟩
theorem X4:E7 P ops H u i₀ β k τ []:=trivial
theorem X2 {c:Call}{f:Operand}{fid:FuncId}{first caps A:List AV}{Hs:List A4}{α:Type}{mkv:α→AV}{mkp:Int→AV}{C:α→List A4→Prop}{x:Except Int α}{e:Int}(is:List Nat) (hx:x= .error e) (ho:ops[i₀]?=some ⟨dst,.call c,ty,pos,aft,none⟩) (hc:c.callee= .value f) (hf:(ev τ f= .p (.fn fid)∧first=[]∧caps=[])∨ev τ f= .fn (.func fid) first caps) (h:BL P fid A Hs (OP mkv mkp C x)) (hg:GF H is Hs) (hn:is.Nodup) (hA:Fc (first++c.args.toList.map (ev τ)++caps) A)
  (next:∀{b},E7 P ops H (mkp e) i₀ (Oq β i₀ b) (i₀+1) (put τ dst (.p .any)) r):E7 P ops H (mkp e) i₀ β i₀ τ (.val (.p .any)::r):=by
 refine⟨_,ho,?_,fun _ _=>next⟩;rw[mP,if_pos rfl];refine⟨O,O,fun Bs=>?_⟩;have hp:(Bs++H).Perm (Hs++(Bs++DM is 0 H)):=by
  refine((DP hn hg).append_left Bs).trans ?_;rw[←List.append_assoc,←List.append_assoc];exact List.perm_append_comm.append_right _
 refine DL.mono (GA (H:=Bs++H) hc hf hp (h.args hA) (.inl O)) ?_;rintro r H' ⟨Hs',h1,rfl⟩;cases r with
 | val v'=>obtain⟨a,h2,_⟩:=h1;rw[hx] at h2;cases h2
 | panic v'=>obtain⟨e',h2,h3⟩:=h1;rw[hx] at h2;cases h2;rw[h3]
theorem Mt {α:Type}(x:Except Int α):(∃e,x= .error e)∨∃a,x= .ok a:=by
 cases x with
 | error e=>exact .inl ⟨e,rfl⟩
 | ok a=>exact .inr ⟨a,rfl⟩
theorem XN {fid:FuncId}{A:List AV}{Hs:List A4}{α:Type}{mkv:α→AV}{mkp:Int→AV}{G:α→List A4}{x:Except Int α}{a:α}(hx:x= .ok a) (h:BL P fid A Hs (OP mkv mkp (fun r H'=>H'=G r) x)):BL P fid A Hs (Gm (mkv a) (G a)) :=
 h.mono (by
  intro r H' h1;cases r with
  | val v=>obtain⟨b,h2,h3,h4⟩:=h1;rw[hx] at h2;cases h2;exact⟨h3,h4⟩
  | panic v=>obtain⟨e,h2,_⟩:=h1;rw[hx] at h2;cases h2)
theorem Mx {c:Call}{f:Operand}{fid:FuncId}{first caps A:List AV}{ρ:Operand→AV}{H Hs Hs':List A4}{g:Option (Nat×Bool)}{Bs:List A4}(is:List Nat) (hc:c.callee= .value f) (hf:(ρ f= .p (.fn fid)∧first=[]∧caps=[])∨ρ f= .fn (.func fid) first caps) (h:BL P fid A Hs (Gm v Hs')) (hg:GF H is Hs) (hn:is.Nodup) (hl:Hs'.length=Hs.length) (hA:Fc (first++c.args.toList.map ρ++caps) A) :
  Dm P ⟨dst,.call c,ty,pos,aft,g⟩ ρ (Bs++H) v (Bs++Md H is Hs'):=by
 have hp:(Bs++H).Perm (Hs++(Bs++DM is 0 H)):=by
  refine((DP hn hg).append_left Bs).trans ?_;rw[←List.append_assoc,←List.append_assoc];exact List.perm_append_comm.append_right _
 refine DL.permR (GA (H:=Bs++H) hc hf hp (h.args hA) (.inl O)) ?_;rintro r H' ⟨Hs2,h1,rfl⟩;cases r with
 | val v' =>
  obtain⟨rfl,rfl⟩:=h1;refine⟨Bs++Md H is Hs2,?_,O,O⟩;have hq:=(Nw hn hg hl).append_left Bs;refine List.Perm.trans ?_ hq.symm;rw[←List.append_assoc,←List.append_assoc];exact List.perm_append_comm.append_right _
 | panic v'=>exact h1.elim
def lX (P:Program) (T:TypeId):Bool:=match P.underlying T with
 | some (.interface _)=>false
 | some _=>true
 | none=>false
theorem QV {P:Program}{T:TypeId}(h:lX P T=true):∃d,P.underlying T=some d∧(∀ms,d≠ .interface ms)∧(match d with | .interface _=>false | _=>true)=true:=by
 unfold lX at h;cases hd:P.underlying T with
 | none=>rw[hd] at h;cases h
 | some d =>
  rw[hd] at h;refine⟨d,O,fun ms e=>?_,?_⟩
  ·subst e;cases h
  cases d<;>first | rfl | exact h
theorem My {T:TypeId}{x:Operand}{ρ:Operand→AV}{H:List A4}{g:Option (Nat×Bool)}(hc:lX P T=true) (hx:ρ x= .agg []):Dm P ⟨dst,.makeInterface T x,ty,pos,aft,g⟩ ρ H (.p (.iface T .unit)) H :=
 Bw fun F w E hH hE=>by
  have h1:=hE x Al;rw[hx] at h1;simp only[Bz] at h1;obtain⟨vs,h2,h3⟩:=h1;simp only[Bf] at h3;subst h3;obtain⟨d,hu,hd,_⟩:=QV hc;refine⟨.iface T (E x),?_,by simp only[Bz,Br];exact⟨_,rfl,h2⟩⟩;cases d<;>simp_all [execOp,Instr.makeInterface,Sem.run_bind,run_underlying hu]
theorem Z3 {T A:TypeId}{x:Operand}{ρ:Operand→AV}{H:List A4}{c:PV}{g:Option (Nat×Bool)}(hc:lX P A=true) (hx:ρ x= .p (.iface A c)):Dm P ⟨dst,.typeAssert x T A true,ty,pos,aft,g⟩ ρ H (.tup [.p c,.p (.bool true)]) H:=by
 obtain⟨d,hu,_,hd⟩:=QV hc;exact TK hu (by cases d<;>first | rfl | exact hd) hx
end
theorem GI.putW {F:Nat→Prop}{S:BM}{d:Option Nat}{v v':AV}{H:List A4}{a:Act}{w:World}(h:GI F (S.put d v H) a w) (hv:LU v v'):GI F (S.put d v' H) a w :=
 ⟨h.size,fun t=>by
  have:=h.tmp t;cases d with
  | none=>exact this
  | some d =>
   have h3:Bz F w (Abs.put S.τ (some d) v t) (a.tmps.getD t undef):=this;show Bz F w (Abs.put S.τ (some d) v' t) (a.tmps.getD t undef);cases hb:Nat.beq t d
   ·have e (x:AV):Abs.put S.τ (some d) x t=S.τ t:=by simp only[Abs.put,hb,cond_false]
    rw[e] at h3 ⊢;exact h3
   have e (x:AV):Abs.put S.τ (some d) x t=x:=by simp only[Abs.put,hb,cond_true]
   rw[e] at h3 ⊢;exact hv _ _ _ h3,h.heap,h.defs⟩
theorem nN {P:Program}{o:Oper}{ρ:Operand→AV}{H H':List A4}{v v':AV}(h:Dm P o ρ H v H') (hv:LU v v'):Dm P o ρ H v' H':=by
 intro r F S a w hs hH hρ hd;refine I1 (h r F S a w hs hH hρ hd) ?_ ?_
 ·rintro a' w' ⟨v1,H1,F1,⟨e1,e2⟩,h2,h3⟩;subst e1;subst e2;exact⟨_,_,F1,⟨O,O⟩,h2.putW hv,h3⟩
 rintro e a' w' ⟨_,_,_,_,h,_⟩;exact h.elim
theorem mK {P:Program}{o:Oper}{ρ:Operand→AV}{H H':List A4}{v:AV}(h:Dm P o ρ H v H'):Dm P o ρ H (norm v) H':=nN h (FW rfl)
end Go.Abs
namespace Go.Eu
open Go.Abs
theorem EU (x:B8):At (B1 x) 0 [I x.kind]:=At.one
theorem DZ (x:B8):At (B1 x) 1 [.str x.name]:=At.cons (At.one)
theorem Cv (x:B8):At (B1 x) 2 [I x.params]:=At.cons (At.cons (At.one))
theorem Fk (x:B8):At (B1 x) 3 (BD x.type):=At.cons (At.cons (At.cons (At.front)))
theorem Fu (x:B8):At (B1 x) 8 (BD x.value):=At.cons (At.cons (At.cons (At.app (A7 _) (At.front))))
theorem Cr (x:B8):At (B1 x) 13 [I x.fixed]:=At.cons (At.cons (At.cons (At.app (A7 _) (At.app (A7 _) (At.one)))))
theorem B5 (x:B8):At (B1 x) 14 [.lst (x.ctors.map KB)]:=At.cons (At.cons (At.cons (At.app (A7 _) (At.app (A7 _) (At.cons (At.one))))))
theorem Ll (x:B8):At (B1 x) 15 (Sf x.recs):=At.cons (At.cons (At.cons (At.app (A7 _) (At.app (A7 _) (At.cons (At.cons (At.front)))))))
theorem CD (x:B8):At (B1 x) 22 [.lst (x.funs.map Ix)]:=At.cons (At.cons (At.cons (At.app (A7 _) (At.app (A7 _) (At.cons (At.cons (At.app (LL _) (At.one))))))))
theorem Tf (x:ri):At (Sf x) 0 [I x.params]:=At.one
theorem XF (x:ri):At (Sf x) 1 (BD x.type):=At.cons (At.front)
theorem U1 (x:ri):At (Sf x) 6 [.lst (A6 x.rules)]:=At.cons (At.app (A7 _) (At.one))
theorem GR (x:LQ):At (KB x) 0 [.str x.name]:=At.one
theorem GW (x:LQ):At (KB x) 1 (BD x.type):=At.cons (At.all)
theorem Jk (x:I9):At (Ix x) 0 [.str x.name]:=At.one
theorem Ji (x:I9):At (Ix x) 1 (BD x.type):=At.cons (At.front)
theorem C9 (x:I9):At (Ix x) 6 [I x.arity]:=At.cons (At.app (A7 _) (At.one))
theorem HU (x:I9):At (Ix x) 7 (EC x.tree):=At.cons (At.app (A7 _) (At.cons (At.all)))
theorem HW (x:FY):At (EC x) 0 [I x.kind]:=by
 cases x;exact At.one
theorem Ff (x:FY):At (EC x) 1 (BD x.body):=by
 cases x;exact At.cons (At.front)
theorem DD (x:FY):At (EC x) 6 [I x.var]:=by
 cases x;exact At.cons (At.app (A7 _) (At.one))
theorem CC (x:FY):At (EC x) 7 [.lst (MU x.branches)]:=by
 cases x;exact At.cons (At.app (A7 _) (At.cons (At.one)))
theorem HQ (x:G3):At (HY x) 0 [.str x.ctor]:=by
 cases x;exact At.one
theorem HF (x:G3):At (HY x) 1 [.bool x.absurd]:=by
 cases x;exact At.cons (At.one)
theorem Gf (x:G3):At (HY x) 2 (EC x.tree):=by
 cases x;exact At.cons (At.cons (At.all))
theorem FZ (x:IJ):At (GH x) 0 [I x.kind]:=At.one
theorem EJ (x:IJ):At (GH x) 1 [I x.decl]:=At.cons (At.one)
theorem GS (x:IJ):At (GH x) 2 [I x.item]:=At.cons (At.cons (At.one))
theorem IN (x:IJ):At (GH x) 3 [I x.params]:=At.cons (At.cons (At.cons (At.one)))
theorem Kp (x:Ui):At (JF x) 0 [.lst (x.env.map B1)]:=At.one
theorem Yu (x:Ui):At (JF x) 1 [.lst (x.own.map Ib)]:=At.cons (At.one)
theorem Vr (x:Ui):At (JF x) 2 (B1 x.d):=At.cons (At.cons (At.all))
theorem Du (x:B8):At (B1 x) 15 [I x.recs.params]:=(Ll x).sub (Tf _) (by simp[LL])
theorem Fa (x:B8):At (B1 x) 16 (BD x.recs.type):=(Ll x).sub (XF _) (by simp[LL])
theorem Cp (x:B8):At (B1 x) 21 [.lst (A6 x.recs.rules)]:=(Ll x).sub (U1 _) (by simp[LL])
theorem Qc (x:Ui):At (JF x) 4 [I x.d.params]:=(Vr x).sub (Cv _) (by simp[DJ])
theorem JL.body:∀{t:FY},JL t→YC t.body
 | .mk _ _ _ _,h=>h.1
theorem JL.bl:∀{t:FY},JL t→t.branches.length<2000000
 | .mk _ _ _ _,h=>h.2.1
theorem JL.bs:∀{t:FY},JL t→On t.branches
 | .mk _ _ _ _,h=>h.2.2
theorem UE.tr:∀{b:G3},UE b→JL b.tree
 | .mk _ _ _,h=>h.2
theorem SY:∀{t:FY}{i:Nat}{b:G3},t.branches[i]?=some b→MS b.tree<MS t
 | .mk _ _ _ l,i,.mk c a t',h=>by
  have:=Vx (l:=l) h;simp only[kh] at this;simp only[MS,G3.tree];omega
theorem QU:∀t:FY,1≤MS t
 | .mk _ _ _ _=>by simp only[MS];omega
section
variable {f:Nat→Option (Nat×Nat)}{k a i p:Int}{t:Tm}
theorem lg (h1:f 1=some (1,1)) (h3:f 3=some (3,1)) (h4:f 4=some (4,5)):GP f [.p (I 0),.p (I 0),.p (I 0),.p (I 0),.p (I 0),.p (I 0),.p (.str ⟨#[]⟩),.p .nils,.p .nils] [(1,.p (I a)),(3,.p (I p)),(4,TV t)]=some ((GH ⟨0,a,0,p,t⟩).map .p):=by
 obtain⟨tk,ti,tn,tl,ts⟩:=t;simp[GP,h1,h3,h4,E0,splice,BD,GH]
theorem eK (h0:f 0=some (0,1)) (h1:f 1=some (1,1)) (h3:f 3=some (3,1)) (h4:f 4=some (4,5)):GP f [.p (I 0),.p (I 0),.p (I 0),.p (I 0),.p (I 0),.p (I 0),.p (.str ⟨#[]⟩),.p .nils,.p .nils] [(0,.p (I k)),(1,.p (I a)),(3,.p (I p)),(4,TV t)]=some ((GH ⟨k,a,0,p,t⟩).map .p):=by
 obtain⟨tk,ti,tn,tl,ts⟩:=t;simp[GP,h0,h1,h3,h4,E0,splice,BD,GH]
theorem PC (h0:f 0=some (0,1)) (h1:f 1=some (1,1)) (h2:f 2=some (2,1)) (h3:f 3=some (3,1)) (h4:f 4=some (4,5)):GP f [.p (I 0),.p (I 0),.p (I 0),.p (I 0),.p (I 0),.p (I 0),.p (.str ⟨#[]⟩),.p .nils,.p .nils] [(0,.p (I k)),(1,.p (I a)),(2,.p (I i)),(3,.p (I p)),(4,TV t)]=some ((GH ⟨k,a,i,p,t⟩).map .p):=by
 obtain⟨tk,ti,tn,tl,ts⟩:=t;simp[GP,h0,h1,h2,h3,h4,E0,splice,BD,GH]
theorem vq {c0:AV}{r:List AV}{ds:List B8}{d:B8}(h0:f 0=some (0,1)) (h2:f 2=some (2,23)) (hr:r.length=23):GP f (c0:: .p .nils::r) [(0,.p (.lst (ds.map B1))),(2,.agg ((B1 d).map .p))]=some (.p (.lst (ds.map B1)):: .p .nils::(B1 d).map .p):=by
 simp[GP,h0,h2,E0,DJ,hr,Q3,splice]
end
theorem mz (ds:List B8) (d:B8):norm (.agg (.p (.lst (ds.map B1)):: .p .nils::(B1 d).map .p))= .agg ((JF ⟨ds,[],d⟩).map .p):=by
 have h:((B1 d).map AV.p).map dn=(B1 d).map .p:=by
  refine kS ?_;obtain⟨k,n,p,⟨_,_,_,_,_⟩,⟨_,_,_,_,_⟩,f,c,⟨_,⟨_,_,_,_,_⟩,_⟩,u⟩:=d;simp[B1,BD,Sf]
 show AV.agg (dn _::dn _::((B1 d).map AV.p).map dn)=_;rw[h];rfl
theorem mq {P:Program}{dst:Option Tmp}{ty:TypeId}{pos:String}{aft:Array Edge}{g:Option (Nat×Bool)}{ρ:Operand→AV}{H:List A4}{T:TypeId}{parts:Array (Nat×Operand)}{lay:List (Nat×Nat)}{z:Value}{ds:List B8}{d:B8}(hT:fieldsOf P T=some lay) (hz:zeroOf P T=some z)
  (hc:GP (lay[·]?) (z.cells.toList.map HG) (parts.toList.map fun p=>(p.1,ρ p.2))=some (.p (.lst (ds.map B1)):: .p .nils::(B1 d).map .p)):Dm P ⟨dst,.build T parts,ty,pos,aft,g⟩ ρ H (.agg ((JF ⟨ds,[],d⟩).map .p)) H:=by
 rw[←mz];exact mK (EW hT hz hc)
theorem gT {d:B8}(h:Q0 d) {i:Nat}{x:ByteArray}(hx:(DU d)[i]?=some x):x.size<Db:=by
 have hm:=List.mem_of_getElem? hx;have hr:=gP d.name;have hn:=h.nm;unfold DU at hm;simp only[Db];split at hm
 ·simp at hm;subst hm;omega
 split at hm
 ·simp only[List.mem_append,List.mem_cons,List.mem_map,List.not_mem_nil,or_false] at hm;rcases hm with (rfl | ⟨c,hc,rfl⟩) | rfl
  ·omega
  ·have:=(h.cs c hc).nm;omega
  omega
 split at hm
 ·obtain⟨f,hf,rfl⟩:=List.mem_map.1 hm;have:=(h.fs f hf).nm;omega
 simp at hm
theorem gL {d:B8}(h:d.kind=3):1≤(DU d).length:=by
 unfold DU;rw[if_neg Au,if_pos h];simp
end Go.Eu
namespace Go.Eu
open Go.Abs Go.RowKit Go.ChangeShapes Go.ChangeAt Go.WideShapes
structure iz (H:Type) where
 b:DataW H→Nat
 a:List (DataW H)→Nat
 str:∀s,b (.lit (.string s))=s.length+1
 slice:∀e s,b (.slice e s)=a e+a s+1
 agg:∀p,b (.agg p)=a p+1
 nil:a []=0
 cons:∀d r,a (d::r)=b d+a r
 pos:∀d,1≤b d
namespace iz
variable {H:Type}(K:iz H)
theorem mem {l:List (DataW H)}{i:Nat}{d:DataW H}(h:l[i]?=some d):K.b d≤K.a l:=by
 induction l generalizing i with
 | nil=>simp at h
 | cons x r ih =>
  rw[K.cons];cases i with
  | zero=>simp at h;subst h;omega
  | succ i=>have:=ih (by simpa using h);omega
theorem mem2 {l:List (DataW H)}{i:Nat}{d:DataW H}(h:l[i]?=some d):K.b d+l.length≤K.a l+1:=by
 have len:∀l:List (DataW H),l.length≤K.a l:=by
  intro l
  induction l with
  | nil=>simp
  | cons x r ih=>rw[K.cons];have:=K.pos x;simp only[List.length_cons];omega
 induction l generalizing i with
 | nil=>simp at h
 | cons x r ih =>
  rw[K.cons];simp only[List.length_cons];cases i with
  | zero=>simp at h;subst h;have:=len r;omega
  | succ i=>have:=ih (by simpa using h);have:=K.pos x;omega
theorem drop1 {l:List (DataW H)}{i:Nat}{d:DataW H}(h:l[i]?=some d):K.a (l.drop i)=K.b d+K.a (l.drop (i+1)):=by
 induction l generalizing i with
 | nil=>simp at h
 | cons x r ih =>
  cases i with
  | zero=>simp at h;subst h;simp[K.cons]
  | succ i=>simpa using ih (by simpa using h)
end iz
def W5 {α:Type}(M:α→Nat):List α→Nat
 | []=>0
 | a::l=>M a+W5 M l
section
variable {H:Type}{enc:TypeId×Value→H}{P:Program}{w:World}{base:Nat}{sp:Nat→Bool}{hd:Bool}{n:Nat}(K:iz H)
theorem GK {α:Type}{e t C:Nat}(ut:P.underlying t=some (.slice e)) (hC:P.cellsOf e=C) (hC1:1≤C) (f:α→List PV) (Q:α→Prop) (M:α→Nat) {B:Nat}
  (he:∀m cs y,m<n→DataW.trod enc P w base sp hd m e cs=some y→K.b y.1≤B→∃a,CH w (f a) cs∧Q a∧M a≤K.b y.1) {cs:List Value} {y:DataW H×List MemPlace} (h:DataW.trod enc P w base sp hd n t cs=some y) (hB:K.b y.1≤B) :
  ∃l:List α,l.length≤K.b y.1∧W5 M l+1≤K.b y.1∧(∀a∈l,Q a)∧∃v,cs=[v]∧Br F0 w (.lst (l.map f)) v:=by
 rcases DataW.trod_slice ut h with ⟨rfl,rfl⟩ | ⟨a,len,cap,elems,rest,m,rfl,rfl,rfl,hb,hl,hc,hel,hget,_,_⟩
 ·exact⟨[],by simp,by have:=K.pos DataW.nil;simpa [W5] using this,fun a ha=>by simp at ha,_,rfl,by simp only[Br];exact .inl ⟨rfl,none,0,rfl⟩⟩
 rw[hC] at hget;simp only[K.slice] at hB ⊢;have hml:maxLen<wide:=by decide
 rcases Nat.eq_zero_or_pos len with h0 | h0
 ·subst h0;exact⟨[],by simp,by simp[W5],fun a ha=>by simp at ha,_,rfl,by simp only[Br];exact .inl ⟨rfl,some a,cap,rfl⟩⟩
 have hone:∀i,i<len→∃ci y,w.cells? base (a.add (i*C)) C=some ci∧DataW.trod enc P w base sp hd m e ci=some y∧(elems.map (·.1))[i]?=some y.1:=fun i hi=>by
  have:=hget i hi;rw[List.getElem?_eq_getElem Au] at this;obtain⟨ci,h1,h2⟩:=Option.bind_eq_some_iff.1 this;exact⟨ci,_,h1,h2,by simp[List.getElem?_eq_getElem (show i<elems.length by omega)]⟩
 obtain⟨c0,y0,hc0,_⟩:=hone 0 h0;obtain⟨hl0,hg0⟩:=Ny hc0;have hcell:∃v,w.cell? a=some v:=by
  have:=hg0 0 Au;rw[Nat.zero_mul,Addr.add,if_pos rfl,Addr.add,if_pos rfl] at this;rw[List.getElem?_eq_getElem Au] at this;exact⟨_,this⟩
 obtain⟨v0,hv0⟩:=hcell;obtain⟨blk,off,spot⟩:=a;have hspot:spot=none:=by
  unfold World.cell? at hv0;simp only at hv0;split at hv0
  ·cases spot with
   | none=>rfl
   | some s=>simp at hv0
  cases hv0
 subst hspot;have hblk:blk<w.heap.size:=by
  unfold World.cell? at hv0;simp only at hv0;split at hv0
  ·rename_i hh;exact(Array.getElem?_eq_some_iff.1 hh).1
  cases hv0
 have hadd:∀k,(⟨blk,off,none⟩:Addr).add k=⟨blk,off+k,none⟩:=fun k=>by
  unfold Addr.add;split
  ·rename_i e;subst e;rfl
  rfl
 have hadd2:∀o k,(⟨blk,o,none⟩:Addr).add k=⟨blk,o+k,none⟩:=fun o k=>by
  unfold Addr.add;split
  ·rename_i e;subst e;rfl
  rfl
 have hrows:∀k,k≤len→∃l:List α,l.length=k∧k≤K.a ((elems.map (·.1)).drop (len - k))∧W5 M l≤K.a ((elems.map (·.1)).drop (len - k))∧(∀x∈l,Q x)∧Bl F0 w blk C (off+(len - k)*C) (l.map f):=by
  intro k
  induction k with
  | zero=>exact fun _=>⟨[],rfl,by omega,by simp[W5],fun a ha=>by simp at ha,by simp[Bl]⟩
  | succ k ih =>
   intro hk;obtain⟨l,h1,h5,h6,h2,h3⟩:=ih Au;obtain⟨ci,y,hci,ht,hy⟩:=hone (len - (k+1)) Au;obtain⟨g1,g2⟩:=Ny hci;have hd1:=K.drop1 hy;rw[show len - (k+1)+1=len - k by omega] at hd1;obtain⟨x,hx,hq,hM⟩:=he m ci y Au ht (by have:=K.mem hy;omega);have hp:=K.pos y.1;refine⟨x::l,by simp[h1],by omega,by rw[W5];omega,fun z hz=>?_,?_⟩
   ·rcases List.mem_cons.1 hz with rfl | hz
    ·exact hq
    exact h2 z hz
   refine⟨by rw[hx.length,g1],QW _ ci _ hx fun j hj=>?_,?_⟩
   ·have:=g2 j Au;rw[hadd,hadd2] at this;exact this
   rw[show off+(len - (k+1))*C+C=off+(len - k)*C by rw[Nat.add_assoc,←Nat.succ_mul];congr 2;omega];exact h3
 obtain⟨l,h1,h5,h6,h2,h3⟩:=hrows len (Nat.le_refl _);rw[Nat.sub_self,List.drop_zero] at h5 h6;rw[Nat.sub_self,Nat.zero_mul,Nat.add_zero] at h3;refine⟨l,by omega,by omega,h2,_,rfl,?_⟩;simp only[Br];exact .inr ⟨blk,off,cap,C,by rw[List.length_map,h1],fun h=>h,hblk,by rw[List.length_map];omega,h3⟩
theorem JH {t:TypeId}{l:List (Nat×Nat)}(hf:PA P t=some l) {cs:List Value}{y:DataW H×List MemPlace}(h:DataW.trod enc P w base sp hd n t cs=some y) :
  ∃m,n=m+1∧cs.length=P.cellsOf t∧∀(i:Nat) (p:Nat×Nat),l[i]?=some p→∃z,DataW.trod enc P w base sp hd m p.1 ((cs.drop p.2).take (P.cellsOf p.1))=some z∧K.b z.1+l.length≤K.b y.1:=by
 unfold PA at hf;split at hf
 ·rename_i fs hu;injection hf with hf;subst hf;obtain⟨xs,m,h1,rfl,h2,h3,h4⟩:=DataW.trod_struct hu h;refine⟨m,h1,h2,fun i p hp=>?_⟩;rw[List.getElem?_map] at hp;obtain⟨fl,hfl,rfl⟩:=Option.map_eq_some_iff.1 hp;have hi:fs[i]?=some fl:=by simpa using hfl
  have:=h4 i fl hi;have hlt:i<xs.length:=by rw[h3];exact(Array.getElem?_eq_some_iff.1 hi).1
  rw[List.getElem?_eq_getElem hlt] at this;refine⟨_,this,?_⟩;rw[K.agg];have:=K.mem2 (l:=xs.map (·.1)) (i:=i) (d:=xs[i].1) (by simp[List.getElem?_eq_getElem hlt]);simp only[List.length_map,Array.length_toList] at this ⊢;omega
 cases hf
theorem CH.cut {a b:List PV}{cs:List Value}{o k:Nat}(h:CH w a ((cs.drop o).take k)) (h':CH w b (cs.drop (o+k))):CH w (a++b) (cs.drop o):=by
 rw[←List.take_append_drop k (cs.drop o),List.drop_drop];exact CH.append h h'
theorem CH.end {cs:List Value}{k:Nat}(h:cs.length=k):CH w [] (cs.drop k):=by
 rw[List.drop_eq_nil_of_le Au];rfl
end
end Go.Eu
namespace Go.Eu
open Go.Abs Go.RowKit Go.ChangeShapes Go.ChangeAt Go.WideShapes
theorem RJ:∀l:List Tm,W5 (fun t=>5*size t) l=5*BB l
 | []=>rfl
 | t::l=>by rw[W5,BB,RJ l];omega
structure XG (P:Program) (tI tB tS tT tTs tC tCs tR tTr tBr tBrs tF tFs tD tDs:TypeId):Prop where
 uB:P.underlying tB=some .bool
 uCs:P.underlying tCs=some (.slice tC)
 uBrs:P.underlying tBrs=some (.slice tBr)
 uFs:P.underlying tFs=some (.slice tF)
 uDs:P.underlying tDs=some (.slice tD)
 fC:PA P tC=some [(tS,0),(tT,1)]
 fR:PA P tR=some [(tI,0),(tT,1),(tTs,6)]
 fTr:PA P tTr=some [(tI,0),(tT,1),(tI,6),(tBrs,7)]
 fBr:PA P tBr=some [(tS,0),(tB,1),(tTr,2)]
 fF:PA P tF=some [(tS,0),(tT,1),(tI,6),(tTr,7)]
 fD:PA P tD=some [(tI,0),(tS,1),(tI,2),(tT,3),(tT,8),(tI,13),(tCs,14),(tR,15),(tFs,22)]
 cB:P.cellsOf tB=1
 cCs:P.cellsOf tCs=1
 cBrs:P.cellsOf tBrs=1
 cFs:P.cellsOf tFs=1
 cDs:P.cellsOf tDs=1
 cC:P.cellsOf tC=6
 cR:P.cellsOf tR=7
 cTr:P.cellsOf tTr=8
 cBr:P.cellsOf tBr=10
 cF:P.cellsOf tF=15
 cD:P.cellsOf tD=23
section
variable {H:Type}{enc:TypeId×Value→H}{P:Program}{w:World}{base:Nat}{sp:Nat→Bool}{hd:Bool}{tI tB tS tV tVs tL tLs tT tTs tC tCs tR tTr tBr tBrs tF tFs tD tDs:TypeId}(K:iz H)
theorem Hi (E:Ht P tI tS tV tVs tL tLs tT tTs) {n:Nat}{cs:List Value}{y:DataW H×List MemPlace}(h:DataW.trod enc P w base sp hd n tI cs=some y):∃a:Int,CH w [I a] cs∧JY a:=by
 obtain⟨a,rfl,_,fa⟩:=DataW.trod_int E.uI h;exact⟨a,CH.one (by simp[Br]),P8 fa⟩
theorem Mq (E:Ht P tI tS tV tVs tL tLs tT tTs) {n:Nat}{cs:List Value}{y:DataW H×List MemPlace}(h:DataW.trod enc P w base sp hd n tS cs=some y):∃s:ByteArray,CH w [.str s] cs∧s.size+1≤K.b y.1:=by
 obtain⟨s,rfl,rfl,_⟩:=DataW.trod_string E.uS h;refine⟨s,CH.one (by simp[Br]),?_⟩;rw[K.str];exact Nat.le_refl _
theorem ia (D:XG P tI tB tS tT tTs tC tCs tR tTr tBr tBrs tF tFs tD tDs) {n:Nat}{cs:List Value}{y:DataW H×List MemPlace}(h:DataW.trod enc P w base sp hd n tB cs=some y):∃b:Bool,CH w [.bool b] cs:=by
 obtain⟨b,rfl,_⟩:=DataW.trod_bool D.uB h;exact⟨b,CH.one (by simp[Br])⟩
theorem pz (E:Ht P tI tS tV tVs tL tLs tT tTs) {n:Nat}{cs:List Value}{y:DataW H×List MemPlace}(h:DataW.trod enc P w base sp hd n tL cs=some y) (hB:K.b y.1≤1048576):∃v:CX,CH w (B4 v) cs∧OA v:=by
 obtain⟨m,rfl,hl,hg⟩:=JH K E.fL h;rw[E.cL] at hl;obtain⟨z0,h0,b0⟩:=hg 0 _ rfl;obtain⟨z1,h1,b1⟩:=hg 1 _ rfl;simp only[E.cI,E.cVs] at h0 h1;obtain⟨a,ha,ra⟩:=Hi E h0;obtain⟨l,g1,_,g2,v,hv,g3⟩:=GK K E.uVs E.cV As Ey (fun v=>JY v.index∧JY v.plus) (fun _=>1) (B:=1048576) (fun m cs y _ h _=>by obtain⟨v,q1,q2⟩:=mi E h;exact⟨v,q1,q2,K.pos _⟩) h1 Au;refine⟨⟨a,l⟩,?_,⟨by simp only[Db];omega,ra,g2⟩⟩;have:=CH.cut (o:=0) ha (CH.cut (o:=1) (a:=[.lst (l.map Ey)]) (k:=1) (by rw[hv];exact CH.one g3) (CH.end hl));simpa [B4] using this
theorem rD (E:Ht P tI tS tV tVs tL tLs tT tTs):∀(n:Nat) (cs:List Value) (y:DataW H×List MemPlace),DataW.trod enc P w base sp hd n tT cs=some y→K.b y.1≤1048576→∃t:Tm,CH w (BD t) cs∧Nd t∧5*size t≤K.b y.1:=by
 intro n
 induction n using Nat.strongRecOn with
 | ind n ih =>
  intro cs y h hB;obtain⟨m,rfl,hl,hg⟩:=JH K E.fT h;rw[E.cT] at hl;obtain⟨z0,h0,b0⟩:=hg 0 _ rfl;obtain⟨z1,h1,b1⟩:=hg 1 _ rfl;obtain⟨z2,h2,b2⟩:=hg 2 _ rfl;obtain⟨z3,h3,b3⟩:=hg 3 _ rfl;obtain⟨z4,h4,b4⟩:=hg 4 _ rfl;simp only[E.cI,E.cS,E.cLs,E.cTs] at h0 h1 h2 h3 h4;obtain⟨a,ha,ra⟩:=Hi E h0;obtain⟨b,hb,rb⟩:=Hi E h1;obtain⟨s,hs,ws⟩:=Mq K E h2;obtain⟨l,g1,_,g2,v,hv,g3⟩:=GK K E.uLs E.cL As B4 OA (fun _=>1) (B:=1048576) (fun m cs y _ h hB=>by obtain⟨v,q1,q2⟩:=pz K E h hB;exact⟨v,q1,q2,K.pos _⟩) h3 Au;obtain⟨ks,k1,k4,k2,u,hu,k3⟩:=GK K E.uTs E.cT As BD Nd (fun t=>5*size t) (B:=1048576) (fun m' cs y hm h hB=>ih m' Au cs y h hB) h4 Au;refine⟨.mk a b s l ks,?_,⟨by simp only[Db];omega,by simp only[Db];omega,g2,by simp only[Db];omega,cU k2,ra,rb⟩,by rw[RJ] at k4;simp only[List.length_cons,List.length_nil] at b4;simp only[size];omega⟩;have:=CH.cut (o:=0) ha (CH.cut (o:=1) hb (CH.cut (o:=2) hs (CH.cut (o:=3) (a:=[.lst (l.map B4)]) (k:=1) (by rw[hv];exact CH.one g3) (CH.cut (o:=4) (a:=[.lst (A6 ks)]) (k:=1) (by rw[hu,EY];exact CH.one k3) (CH.end hl)))));simpa [BD] using this
theorem KO (E:Ht P tI tS tV tVs tL tLs tT tTs) {n:Nat}{cs:List Value}{y:DataW H×List MemPlace}(h:DataW.trod enc P w base sp hd n tT cs=some y) (hB:K.b y.1≤1048576):∃t:Tm,CH w (BD t) cs∧YC t:=by
 obtain⟨t,h1,h2,h3⟩:=rD K E n cs y h hB;exact⟨t,h1,h2,by omega⟩
theorem jP (E:Ht P tI tS tV tVs tL tLs tT tTs) {n:Nat}{cs:List Value}{y:DataW H×List MemPlace}(h:DataW.trod enc P w base sp hd n tTs cs=some y) (hB:K.b y.1≤1048576):∃l:List Tm,l.length<2000000∧(∀t∈l,YC t)∧CH w [.lst (A6 l)] cs:=by
 obtain⟨l,g1,_,g2,v,rfl,g3⟩:=GK K E.uTs E.cT As BD YC (fun _=>1) (B:=1048576) (fun m cs y _ h hB=>by obtain⟨v,q1,q2⟩:=KO K E h hB;exact⟨v,q1,q2,K.pos _⟩) h hB;exact⟨l,by omega,g2,CH.one (by rw[EY];exact g3)⟩
variable (D:XG P tI tB tS tT tTs tC tCs tR tTr tBr tBrs tF tFs tD tDs) (E:Ht P tI tS tV tVs tL tLs tT tTs)
include D E
theorem oP {n:Nat}{cs:List Value}{y:DataW H×List MemPlace}(h:DataW.trod enc P w base sp hd n tC cs=some y) (hB:K.b y.1≤1048576):∃c:LQ,CH w (KB c) cs∧kc c:=by
 obtain⟨m,rfl,hl,hg⟩:=JH K D.fC h;rw[D.cC] at hl;obtain⟨z0,h0,b0⟩:=hg 0 _ rfl;obtain⟨z1,h1,b1⟩:=hg 1 _ rfl;simp only[E.cS,E.cT] at h0 h1;obtain⟨s,hs,ws⟩:=Mq K E h0;obtain⟨t,ht,wt⟩:=KO K E h1 Au;refine⟨⟨s,t⟩,?_,⟨by simp only;omega,wt⟩⟩;have:=CH.cut (o:=0) hs (CH.cut (o:=1) ht (CH.end hl));simpa [KB] using this
theorem pX {n:Nat}{cs:List Value}{y:DataW H×List MemPlace}(h:DataW.trod enc P w base sp hd n tR cs=some y) (hB:K.b y.1≤1048576):∃r:ri,CH w (Sf r) cs∧YC r.type∧r.rules.length<2000000∧∀t∈r.rules,YC t:=by
 obtain⟨m,rfl,hl,hg⟩:=JH K D.fR h;rw[D.cR] at hl;obtain⟨z0,h0,b0⟩:=hg 0 _ rfl;obtain⟨z1,h1,b1⟩:=hg 1 _ rfl;obtain⟨z2,h2,b2⟩:=hg 2 _ rfl;simp only[E.cI,E.cT,E.cTs] at h0 h1 h2;obtain⟨a,ha,_⟩:=Hi E h0;obtain⟨t,ht,wt⟩:=KO K E h1 Au;obtain⟨l,l1,l2,l3⟩:=jP K E h2 Au;refine⟨⟨a,t,l⟩,?_,wt,l1,l2⟩;have:=CH.cut (o:=0) ha (CH.cut (o:=1) ht (CH.cut (o:=6) l3 (CH.end hl)));simpa [Sf] using this
theorem jc:∀(n:Nat) (cs:List Value) (y:DataW H×List MemPlace),DataW.trod enc P w base sp hd n tTr cs=some y→K.b y.1≤1048576→∃t:FY,CH w (EC t) cs∧JL t:=by
 intro n
 induction n using Nat.strongRecOn with
 | ind n ih =>
  intro cs y h hB;obtain⟨m,rfl,hl,hg⟩:=JH K D.fTr h;rw[D.cTr] at hl;obtain⟨z0,h0,b0⟩:=hg 0 _ rfl;obtain⟨z1,h1,b1⟩:=hg 1 _ rfl;obtain⟨z2,h2,b2⟩:=hg 2 _ rfl;obtain⟨z3,h3,b3⟩:=hg 3 _ rfl;simp only[E.cI,E.cT,D.cBrs] at h0 h1 h2 h3;obtain⟨a,ha,_⟩:=Hi E h0;obtain⟨t,ht,wt⟩:=KO K E h1 Au;obtain⟨b,hb,_⟩:=Hi E h2;obtain⟨l,g1,_,g2,v,hv,g3⟩:=GK K D.uBrs D.cBr As HY UE (fun _=>1) (B:=1048576) (fun m' cs y hm h hB=>by
   obtain⟨m2,rfl,hl,hg⟩:=JH K D.fBr h;rw[D.cBr] at hl;obtain⟨z0,h0,b0⟩:=hg 0 _ rfl;obtain⟨z1,h1,b1⟩:=hg 1 _ rfl;obtain⟨z2,h2,b2⟩:=hg 2 _ rfl;simp only[E.cS,D.cB,D.cTr] at h0 h1 h2;obtain⟨s,hs,ws⟩:=Mq K E h0;obtain⟨b,hb⟩:=ia D h1;obtain⟨r,hr,wr⟩:=ih m2 Au _ _ h2 Au;refine⟨.mk s b r,?_,⟨by omega,wr⟩,K.pos _⟩;have:=CH.cut (o:=0) hs (CH.cut (o:=1) hb (CH.cut (o:=2) hr (CH.end hl)));simpa [HY] using this) h3 Au
  have hbs:∀{l:List G3},(∀b∈l,UE b)→On l:=by
   intro l
   induction l with
   | nil=>exact fun _=>trivial
   | cons b l ih2=>exact fun h=>⟨h b Av,ih2 fun c hc=>h c (by simp[hc])⟩
  refine⟨.mk a t b l,?_,⟨wt,by omega,hbs g2⟩⟩;have:=CH.cut (o:=0) ha (CH.cut (o:=1) ht (CH.cut (o:=6) hb (CH.cut (o:=7) (a:=[.lst (MU l)]) (k:=1) (by rw[hv,K7];exact CH.one g3) (CH.end hl))));simpa [EC] using this
theorem ox {n:Nat}{cs:List Value}{y:DataW H×List MemPlace}(h:DataW.trod enc P w base sp hd n tF cs=some y) (hB:K.b y.1≤1048576):∃f:I9,CH w (Ix f) cs∧l5 f:=by
 obtain⟨m,rfl,hl,hg⟩:=JH K D.fF h;rw[D.cF] at hl;obtain⟨z0,h0,b0⟩:=hg 0 _ rfl;obtain⟨z1,h1,b1⟩:=hg 1 _ rfl;obtain⟨z2,h2,b2⟩:=hg 2 _ rfl;obtain⟨z3,h3,b3⟩:=hg 3 _ rfl;simp only[E.cS,E.cT,E.cI,D.cTr] at h0 h1 h2 h3;obtain⟨s,hs,ws⟩:=Mq K E h0;obtain⟨t,ht,wt⟩:=KO K E h1 Au;obtain⟨a,ha,_⟩:=Hi E h2;obtain⟨r,hr,wr⟩:=jc K D E _ _ _ h3 Au;refine⟨⟨s,t,a,r⟩,?_,⟨by simp only;omega,wt,wr⟩⟩;have:=CH.cut (o:=0) hs (CH.cut (o:=1) ht (CH.cut (o:=6) ha (CH.cut (o:=7) hr (CH.end hl))));simpa [Ix] using this
theorem pW {n:Nat}{cs:List Value}{y:DataW H×List MemPlace}(h:DataW.trod enc P w base sp hd n tD cs=some y) (hB:K.b y.1≤1048576):∃d:B8,CH w (B1 d) cs∧Q0 d:=by
 obtain⟨m,rfl,hl,hg⟩:=JH K D.fD h;rw[D.cD] at hl;obtain⟨z0,h0,b0⟩:=hg 0 _ rfl;obtain⟨z1,h1,b1⟩:=hg 1 _ rfl;obtain⟨z2,h2,b2⟩:=hg 2 _ rfl;obtain⟨z3,h3,b3⟩:=hg 3 _ rfl;obtain⟨z4,h4,b4⟩:=hg 4 _ rfl;obtain⟨z5,h5,b5⟩:=hg 5 _ rfl;obtain⟨z6,h6,b6⟩:=hg 6 _ rfl;obtain⟨z7,h7,b7⟩:=hg 7 _ rfl;obtain⟨z8,h8,b8⟩:=hg 8 _ rfl;simp only[E.cS,E.cT,E.cI,D.cCs,D.cR,D.cFs] at h0 h1 h2 h3 h4 h5 h6 h7 h8;obtain⟨a,ha,_⟩:=Hi E h0;obtain⟨s,hs,ws⟩:=Mq K E h1;obtain⟨p,hp,_⟩:=Hi E h2;obtain⟨t,ht,wt⟩:=KO K E h3 Au;obtain⟨u,hu,wu⟩:=KO K E h4 Au;obtain⟨f,hf,_⟩:=Hi E h5;obtain⟨cl,c1,_,c2,cv,hcv,c3⟩:=GK K D.uCs D.cC As KB kc (fun _=>1) (B:=1048576) (fun m cs y _ h hB=>by obtain⟨v,q1,q2⟩:=oP K D E h hB;exact⟨v,q1,q2,K.pos _⟩) h6 Au;obtain⟨r,hr,r1,r2,r3⟩:=pX K D E h7 Au;obtain⟨fl,f1,_,f2,fv,hfv,f3⟩:=GK K D.uFs D.cF As Ix l5 (fun _=>1) (B:=1048576) (fun m cs y _ h hB=>by obtain⟨v,q1,q2⟩:=ox K D E h hB;exact⟨v,q1,q2,K.pos _⟩) h8 Au;refine⟨⟨a,s,p,t,u,f,cl,r,fl⟩,?_,⟨by simp only;omega,wt,wu,by simp only;omega,c2,r1,r2,r3,by simp only;omega,f2⟩⟩;have:=CH.cut (o:=0) ha (CH.cut (o:=1) hs (CH.cut (o:=2) hp (CH.cut (o:=3) ht (CH.cut (o:=8) hu (CH.cut (o:=13) hf (CH.cut (o:=14) (a:=[.lst (cl.map KB)]) (k:=1) (by rw[hcv];exact CH.one c3) (CH.cut (o:=15) hr (CH.cut (o:=22) (a:=[.lst (fl.map Ix)]) (k:=1) (by rw[hfv];exact CH.one f3) (CH.end hl)))))))));simpa [B1] using this
theorem sU {b2:Nat}{r:Reach}{v:Value}{d:DataW H}{ps:List MemPlace}(hk:Value.okWide P w r b2 tDs v) (h:DataW.Trod enc P w base sp hd tDs v d ps) (hB:K.b d≤1048576):∃l:List B8,IT l∧Bz F0 w (.p (.lst (l.map B1))) v:=by
 obtain⟨n,h⟩:=h;obtain⟨l,g1,_,g2,u,hu,g3⟩:=GK K D.uDs D.cD As B1 Q0 (fun _=>1) (B:=1048576) (fun m cs y _ h hB=>by obtain⟨v,q1,q2⟩:=pW K D E h hB;exact⟨v,q1,q2,K.pos _⟩) h hB;have:=hY D.uDs hk hu;subst this;have g1':l.length≤K.b d:=g1;exact⟨l,⟨by omega,g2⟩,by simp only[Bz];exact g3⟩
end
end Go.Eu
namespace Go.Proofs.YtldfmjoncbjldaaGreat
open Go.Eu Go.Lib Go.ChangeShapes Go.WideShapes Go.ChangeAt Go.RowKit
theorem own:ownKnob Tryz.prog.godebug=none:=by kernel_rfl
theorem laidOut:laidOutB Tryz.prog=true:=by kernel_rfl
theorem yD:Ht Tryz.prog 3 9 177 114 116 23 26 24:=⟨by kernel_rfl,by kernel_rfl,by kernel_rfl,by kernel_rfl,by kernel_rfl,by kernel_rfl,by kernel_rfl,by kernel_rfl,by kernel_rfl,by kernel_rfl,by kernel_rfl,by kernel_rfl,by kernel_rfl,by kernel_rfl,by kernel_rfl,by kernel_rfl⟩
theorem yM:XG Tryz.prog 3 4 9 26 24 205 129 131 142 240 140 144 132 134 22:=⟨by kernel_rfl,by kernel_rfl,by kernel_rfl,by kernel_rfl,by kernel_rfl,by kernel_rfl,by kernel_rfl,by kernel_rfl,by kernel_rfl,by kernel_rfl,by kernel_rfl,by kernel_rfl,by kernel_rfl,by kernel_rfl,by kernel_rfl,by kernel_rfl,by kernel_rfl,by kernel_rfl,by kernel_rfl,by kernel_rfl,by kernel_rfl,by kernel_rfl⟩
noncomputable def blk (H:Type):iz H where
 b:=Rows.uptoBulk
 a:=Rows.uptoBulkAll
 str:=fun s=>by simp[Rows.uptoBulk]
 slice:=fun e s=>by simp[Rows.uptoBulk]
 agg:=fun p=>by simp[Rows.uptoBulk]
 nil:=by simp[Rows.uptoBulkAll]
 cons:=fun d r=>by simp[Rows.uptoBulkAll]
 pos:=fun d=>by
  cases d with
  | lit l=>cases l<;>simp[Rows.uptoBulk]
  | _=>simp[Rows.uptoBulk]
theorem qA {H:Type}{ds:List (DataW H)}(h:Rows.uptoSmall H ds=true) {i:Nat}{d:DataW H}(hd:ds[i]?=some d):(blk H).b d≤1048576:=by
 have h1:=(blk H).mem hd;have h2:(blk H).a ds≤1048576:=of_decide_eq_true h;omega
noncomputable def NZ (os:Os):World:=World.holding Tryz.prog os ⟨#[],#[],[]⟩
theorem _root_.Go.Ap {α:Prop}(h:α:=by kernel_rfl):α:=h
theorem jY (os:Os) (args:Array Value):laidMet Tryz.prog [] ((NZ os).forCall (fun _ _=>0) ⟨#[],args,[]⟩).memory :=
 (LaidIn.of_run [] 8 Ap Ap Ap Ap:LaidIn Tryz.prog ((NZ os).forCall (fun _ _=>0) ⟨#[],args,[]⟩).memory [] []).met
end Go.Proofs.YtldfmjoncbjldaaGreat
namespace Go.Proofs.YtldfmjoncbjldaaGreat
open Go.Abs
theorem Qb:E1 Tryz.prog 22=some (134,23,360):=by kernel_rfl
theorem KX:E1 Tryz.prog 23=some (116,2,32):=by kernel_rfl
theorem BS:E1 Tryz.prog 24=some (26,5,80):=by kernel_rfl
theorem J7:E1 Tryz.prog 105=some (91,1,8):=by kernel_rfl
theorem DC:E1 Tryz.prog 114=some (177,2,16):=by kernel_rfl
theorem l9:E1 Tryz.prog 122=some (24,1,24):=by kernel_rfl
theorem Km:E1 Tryz.prog 129=some (205,6,96):=by kernel_rfl
theorem J2:E1 Tryz.prog 132=some (144,15,224):=by kernel_rfl
theorem RH:E1 Tryz.prog 140=some (240,10,144):=by kernel_rfl
theorem HL:E1 Tryz.prog 150=some (3,1,8):=by kernel_rfl
theorem Tl:E1 Tryz.prog 198=some (200,2,32):=by kernel_rfl
theorem Je:E1 Tryz.prog 233=some (9,1,16):=by kernel_rfl
theorem Ss:E1 Tryz.prog 259=some (261,2,32):=by kernel_rfl
theorem xQ:Ck Tryz.prog 12=true:=by kernel_rfl
theorem xx:Ck Tryz.prog 14=true:=by kernel_rfl
theorem xX:Ck Tryz.prog 18=true:=by kernel_rfl
theorem xV:Ck Tryz.prog 26=true:=by kernel_rfl
theorem xM:Ck Tryz.prog 27=true:=by kernel_rfl
theorem xh:Ck Tryz.prog 32=true:=by kernel_rfl
theorem x7:Ck Tryz.prog 33=true:=by kernel_rfl
theorem xY:Ck Tryz.prog 36=true:=by kernel_rfl
theorem x3:Ck Tryz.prog 43=true:=by kernel_rfl
theorem w9:Ck Tryz.prog 48=true:=by kernel_rfl
theorem xv:Ck Tryz.prog 55=true:=by kernel_rfl
theorem xj:Ck Tryz.prog 59=true:=by kernel_rfl
theorem xJ:Ck Tryz.prog 64=true:=by kernel_rfl
theorem uo:Ck Tryz.prog 65=true:=by kernel_rfl
theorem xL:Ck Tryz.prog 68=true:=by kernel_rfl
theorem vI:Ck Tryz.prog 79=true:=by kernel_rfl
theorem xU:Ck Tryz.prog 87=true:=by kernel_rfl
theorem ve:Ck Tryz.prog 88=true:=by kernel_rfl
theorem vJ:Ck Tryz.prog 105=true:=by kernel_rfl
theorem vM:Ck Tryz.prog 107=true:=by kernel_rfl
theorem wi:Ck Tryz.prog 109=true:=by kernel_rfl
theorem rN:Ck Tryz.prog 111=true:=by kernel_rfl
theorem vb:Ck Tryz.prog 145=true:=by kernel_rfl
theorem vu:Ck Tryz.prog 158=true:=by kernel_rfl
theorem wL:Ck Tryz.prog 172=true:=by kernel_rfl
theorem rJ:Ck Tryz.prog 173=true:=by kernel_rfl
theorem wB:Ck Tryz.prog 248=true:=by kernel_rfl
theorem vE:Ck Tryz.prog 249=true:=by kernel_rfl
theorem vg:Ck Tryz.prog 255=true:=by kernel_rfl
theorem u0:Ck Tryz.prog 256=true:=by kernel_rfl
theorem vm:Ck Tryz.prog 257=true:=by kernel_rfl
theorem S1:fieldsOf Tryz.prog 26=some [(0,1),(1,1),(2,1),(3,1),(4,1)]:=by kernel_rfl
theorem xT:fieldsOf Tryz.prog 97=some [(0,1),(1,1)]:=by kernel_rfl
theorem wD:fieldsOf Tryz.prog 99=some [(0,1),(1,1)]:=by kernel_rfl
theorem S9:fieldsOf Tryz.prog 109=some [(0,9),(9,1)]:=by kernel_rfl
theorem ry:fieldsOf Tryz.prog 116=some [(0,1),(1,1)]:=by kernel_rfl
theorem MT:fieldsOf Tryz.prog 126=some [(0,1),(1,1),(2,1),(3,1),(4,5)]:=by kernel_rfl
theorem Kc:fieldsOf Tryz.prog 134=some [(0,1),(1,1),(2,1),(3,5),(8,5),(13,1),(14,1),(15,7),(22,1)]:=by kernel_rfl
theorem df:fieldsOf Tryz.prog 142=some [(0,1),(1,5),(6,1),(7,1)]:=by kernel_rfl
theorem O2:fieldsOf Tryz.prog 144=some [(0,1),(1,5),(6,1),(7,8)]:=by kernel_rfl
theorem wJ:fieldsOf Tryz.prog 156=some [(0,1)]:=by kernel_rfl
theorem RC:fieldsOf Tryz.prog 171=some [(0,5),(5,1),(6,1)]:=by kernel_rfl
theorem vc:fieldsOf Tryz.prog 177=some [(0,1),(1,1)]:=by kernel_rfl
theorem UG:fieldsOf Tryz.prog 205=some [(0,1),(1,5)]:=by kernel_rfl
theorem ur:fieldsOf Tryz.prog 229=some [(0,1),(1,1),(2,1),(3,1),(4,1)]:=by kernel_rfl
theorem r7:fieldsOf Tryz.prog 240=some [(0,1),(1,1),(2,8)]:=by kernel_rfl
theorem wX:fieldsOf Tryz.prog 244=some [(0,1),(1,1),(2,23)]:=by kernel_rfl
theorem mb:mapOf Tryz.prog 253=some 3:=by kernel_rfl
theorem Ot:Tryz.prog.follows .mixedOrders=true:=by kernel_rfl
theorem r9:PF Tryz.prog 177=true:=by kernel_rfl
theorem ty2:EH Tryz.prog 2=some (false,1):=by kernel_rfl
theorem Dz:EH Tryz.prog 3=some (false,1):=by kernel_rfl
theorem u7:EH Tryz.prog 4=some (false,1):=by kernel_rfl
theorem N7:EH Tryz.prog 9=some (false,1):=by kernel_rfl
theorem oD:EH Tryz.prog 22=some (false,1):=by kernel_rfl
theorem JW:EH Tryz.prog 24=some (false,1):=by kernel_rfl
theorem CN:EH Tryz.prog 26=some (true,5):=by kernel_rfl
theorem QN:EH Tryz.prog 29=some (false,1):=by kernel_rfl
theorem lJ:EH Tryz.prog 60=some (false,1):=by kernel_rfl
theorem sY:EH Tryz.prog 88=some (false,1):=by kernel_rfl
theorem xC:EH Tryz.prog 91=some (false,1):=by kernel_rfl
theorem xc:EH Tryz.prog 94=some (false,1):=by kernel_rfl
theorem ek:EH Tryz.prog 105=some (false,1):=by kernel_rfl
theorem r5:EH Tryz.prog 107=some (true,9):=by kernel_rfl
theorem re:EH Tryz.prog 116=some (true,2):=by kernel_rfl
theorem dt:EH Tryz.prog 126=some (true,9):=by kernel_rfl
theorem GC:EH Tryz.prog 129=some (false,1):=by kernel_rfl
theorem F6:EH Tryz.prog 132=some (false,1):=by kernel_rfl
theorem TE:EH Tryz.prog 134=some (true,23):=by kernel_rfl
theorem IB:EH Tryz.prog 140=some (false,1):=by kernel_rfl
theorem LM:EH Tryz.prog 142=some (true,8):=by kernel_rfl
theorem uy:EH Tryz.prog 144=some (true,15):=by kernel_rfl
theorem rS:EH Tryz.prog 177=some (true,2):=by kernel_rfl
theorem um:EH Tryz.prog 178=some (true,0):=by kernel_rfl
theorem vL:EH Tryz.prog 200=some (true,2):=by kernel_rfl
theorem uw:EH Tryz.prog 205=some (true,6):=by kernel_rfl
theorem rV:EH Tryz.prog 229=some (true,5):=by kernel_rfl
theorem Zn:EH Tryz.prog 233=some (false,1):=by kernel_rfl
theorem et:EH Tryz.prog 240=some (true,10):=by kernel_rfl
theorem vK:EH Tryz.prog 261=some (true,2):=by kernel_rfl
theorem rY:Tryz.prog.underlying 230=some (.array 13 229):=by kernel_rfl
theorem Wu:Tryz.prog.underlying 20=some (.interface #[]):=by kernel_rfl
theorem yQ:Tryz.prog.underlying 3=some (.int .i64):=by kernel_rfl
theorem r6:Tryz.prog.underlying 207=some (.int .i64):=by kernel_rfl
theorem wz:Tryz.prog.underlying 4=some .bool:=by kernel_rfl
theorem rj:Tryz.prog.underlying 9=some .string:=by kernel_rfl
theorem mT:zeroOf Tryz.prog 3=some (.int .i64 0):=by kernel_rfl
theorem yj:zeroOf Tryz.prog 4=some (.bool false):=by kernel_rfl
theorem qQ:zeroOf Tryz.prog 9=some (.string { data:={ toList:=[] } }):=by kernel_rfl
theorem xe:zeroOf Tryz.prog 24=some (.slice none 0 0):=by kernel_rfl
theorem Ba:zeroOf Tryz.prog 26=some (.agg { toList:=[.int .i64 0,.int .i64 0,.string { data:={ toList:=[] } },.slice none 0 0,.slice none 0 0] }):=by kernel_rfl
theorem a8:zeroOf Tryz.prog 29=some (.int .i64 0):=by kernel_rfl
theorem xa:zeroOf Tryz.prog 77=some .nilFunc:=by kernel_rfl
theorem td:zeroOf Tryz.prog 91=some (.pointer none):=by kernel_rfl
theorem vY:zeroOf Tryz.prog 107=some (.agg { toList:=[.int .i64 0,.int .i64 0,.int .i64 0,.int .i64 0,.string { data:={ toList:=[] } },.slice none 0 0,.slice none 0 0,.slice none 0 0,.nilFunc] }):=by kernel_rfl
theorem vS:zeroOf Tryz.prog 109=some (.agg { toList:=[.int .i64 0,.int .i64 0,.int .i64 0,.int .i64 0,.string { data:={ toList:=[] } },.slice none 0 0,.slice none 0 0,.slice none 0 0,.nilFunc,.slice none 0 0] }):=by kernel_rfl
theorem FC:zeroOf Tryz.prog 116=some (.agg { toList:=[.int .i64 0,.slice none 0 0] }):=by kernel_rfl
theorem GL:zeroOf Tryz.prog 126=some (.agg { toList:=[.int .i64 0,.int .i64 0,.int .i64 0,.int .i64 0,.int .i64 0,.int .i64 0,.string { data:={ toList:=[] } },.slice none 0 0,.slice none 0 0] }):=by kernel_rfl
theorem Ie:zeroOf Tryz.prog 134=some (.agg { toList:=[.int .i64 0,.string { data:={ toList:=[] } },.int .i64 0,.int .i64 0,.int .i64 0,.string { data:={ toList:=[] } },.slice none 0 0,.slice none 0 0,.int .i64 0,.int .i64 0,.string { data:={ toList:=[] } },.slice none 0 0,.slice none 0 0,.int .i64 0,.slice none 0 0,.int .i64 0,.int .i64 0,.int .i64 0,.string { data:={ toList:=[] } },.slice none 0 0,.slice none 0 0,.slice none 0 0,.slice none 0 0] }):=by kernel_rfl
theorem VP:zeroOf Tryz.prog 142=some (.agg { toList:=[.int .i64 0,.int .i64 0,.int .i64 0,.string { data:={ toList:=[] } },.slice none 0 0,.slice none 0 0,.int .i64 0,.slice none 0 0] }):=by kernel_rfl
theorem mQ:zeroOf Tryz.prog 144=some (.agg { toList:=[.string { data:={ toList:=[] } },.int .i64 0,.int .i64 0,.string { data:={ toList:=[] } },.slice none 0 0,.slice none 0 0,.int .i64 0,.int .i64 0,.int .i64 0,.int .i64 0,.string { data:={ toList:=[] } },.slice none 0 0,.slice none 0 0,.int .i64 0,.slice none 0 0] }):=by kernel_rfl
theorem wo:zeroOf Tryz.prog 150=some (.slice none 0 0):=by kernel_rfl
theorem wP:zeroOf Tryz.prog 153=some .nilFunc:=by kernel_rfl
theorem wQ:zeroOf Tryz.prog 154=some (.pointer none):=by kernel_rfl
theorem vH:zeroOf Tryz.prog 156=some (.agg { toList:=[.int .i64 0] }):=by kernel_rfl
theorem u6:zeroOf Tryz.prog 160=some (.agg { toList:=[.nilFunc] }):=by kernel_rfl
theorem HH:zeroOf Tryz.prog 177=some (.agg { toList:=[.int .i64 0,.int .i64 0] }):=by kernel_rfl
theorem wh:zeroOf Tryz.prog 178=some (.agg { toList:=[] }):=by kernel_rfl
theorem Y6:zeroOf Tryz.prog 200=some (.agg { toList:=[.int .i64 0,.slice none 0 0] }):=by kernel_rfl
theorem wK:zeroOf Tryz.prog 205=some (.agg { toList:=[.string { data:={ toList:=[] } },.int .i64 0,.int .i64 0,.string { data:={ toList:=[] } },.slice none 0 0,.slice none 0 0] }):=by kernel_rfl
theorem mG:zeroOf Tryz.prog 230=some (.agg { toList:=[.bool false,.bool false,.int .i64 0,.int .i64 0,.int .i64 0,.bool false,.bool false,.int .i64 0,.int .i64 0,.int .i64 0,.bool false,.bool false,.int .i64 0,.int .i64 0,.int .i64 0,.bool false,.bool false,.int .i64 0,.int .i64 0,.int .i64 0,.bool false,.bool false,.int .i64 0,.int .i64 0,.int .i64 0,.bool false,.bool false,.int .i64 0,.int .i64 0,.int .i64 0,.bool false,.bool false,.int .i64 0,.int .i64 0,.int .i64 0,.bool false,.bool false,.int .i64 0,.int .i64 0,.int .i64 0,.bool false,.bool false,.int .i64 0,.int .i64 0,.int .i64 0,.bool false,.bool false,.int .i64 0,.int .i64 0,.int .i64 0,.bool false,.bool false,.int .i64 0,.int .i64 0,.int .i64 0,.bool false,.bool false,.int .i64 0,.int .i64 0,.int .i64 0,.bool false,.bool false,.int .i64 0,.int .i64 0,.int .i64 0] }):=by kernel_rfl
theorem m5:zeroOf Tryz.prog 240=some (.agg { toList:=[.string { data:={ toList:=[] } },.bool false,.int .i64 0,.int .i64 0,.int .i64 0,.string { data:={ toList:=[] } },.slice none 0 0,.slice none 0 0,.int .i64 0,.slice none 0 0] }):=by kernel_rfl
theorem rn:zeroOf Tryz.prog 244=some (.agg { toList:=[.slice none 0 0,.slice none 0 0,.int .i64 0,.string { data:={ toList:=[] } },.int .i64 0,.int .i64 0,.int .i64 0,.string { data:={ toList:=[] } },.slice none 0 0,.slice none 0 0,.int .i64 0,.int .i64 0,.string { data:={ toList:=[] } },.slice none 0 0,.slice none 0 0,.int .i64 0,.slice none 0 0,.int .i64 0,.int .i64 0,.int .i64 0,.string { data:={ toList:=[] } },.slice none 0 0,.slice none 0 0,.slice none 0 0,.slice none 0 0] }):=by kernel_rfl
theorem ZZ:zeroOf Tryz.prog 261=some (.agg { toList:=[.int .i64 0,.slice none 0 0] }):=by kernel_rfl
end Go.Proofs.YtldfmjoncbjldaaGreat
