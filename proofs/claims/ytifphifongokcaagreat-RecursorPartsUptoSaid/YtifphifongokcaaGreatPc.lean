/- Part of the proofs: an abstract program logic, plain models and contracts of functions. -/
import Derived.Test.YtifphifongokcaaGreatPb
import Derived.ProofKit
import Derived.Deep.DeepHandedRow
import Derived.Lib.AppendStr
import Derived.Lib.Builder
import Derived.Laws.Externs
import Derived.Lib.UnsafeStr
import Derived.Below
import Derived.Test.YtifphifongokcaaGreatRows
import Derived.Deep.DeepWitnessRowRef
import Derived.Lib.LaidIn
set_option linter.unusedVariables false
set_option linter.unusedSimpArgs false
set_option maxRecDepth 1000000
namespace Go.Eu
open Go.Abs Go.RowKit Go.ChangeShapes Go.ChangeAt Go.WideShapes
abbrev F0:Nat→Prop:=fun _=>False
def B1 (w:World):List PV→List Value→Prop
 | [],cs=>cs=[]
 | p::ps,cs=>∃c cs',cs=c::cs'∧CI F0 w p c∧B1 w ps cs'
theorem B1.length {w:World}:∀{ps:List PV}{cs:List Value},B1 w ps cs→ps.length=cs.length
 | [],cs,h=>by simp only[B1] at h;subst h;rfl
 | p::ps,cs,h=>by
  obtain⟨c,cs',rfl,_,h⟩:=h;simp[B1.length h]
theorem B1.append {w:World}:∀{a b:List PV}{x y:List Value},B1 w a x→B1 w b y→B1 w (a++b) (x++y)
 | [],b,x,y,h,h'=>by simp only[B1] at h;subst h;exact h'
 | p::a,b,x,y,h,h'=>by
  obtain⟨c,cs',rfl,h1,h⟩:=h;exact⟨c,cs'++y,O,h1,B1.append h h'⟩
theorem B1.one {w:World}{p:PV}{c:Value}(h:CI F0 w p c):B1 w [p] [c]:=⟨c,[],rfl,h,rfl⟩
theorem B1.repL {w:World}:∀{ps:List PV}{cs:List Value},B1 w ps cs→Bl F0 w (ps.map .p) cs
 | [],cs,h=>by simp only[B1] at h;subst h;exact rfl
 | p::ps,cs,h=>by
  obtain⟨c,cs',rfl,h1,h⟩:=h;exact⟨c,cs',O,by simp only[B2];exact h1,B1.repL h⟩
theorem O1 {w:World}{b:Nat}:∀(r:List PV) (cs:List Value) (o:Nat),B1 w r cs→(∀j,j<cs.length→w.cell? ⟨b,o+j,none⟩=cs[j]?)→B8 F0 w b o r
 | [],cs,o,h,hc=>by simp[B8]
 | p::r,cs,o,h,hc=>by
  obtain⟨c,cs',rfl,h1,h⟩:=h;refine⟨⟨c,by have:=hc 0 Ao;simpa using this,h1⟩,O1 r cs' (o+1) h fun j hj=>?_⟩;have:=hc (j+1) Ah;rw[show o+1+j=o+(j+1) by omega];simpa using this
theorem Pk {w:World}{base:Nat}{a:Addr}{n:Nat}{cs:List Value}(h:w.cells? base a n=some cs):cs.length=n∧∀j,j<n→w.cell? (a.add j)=cs[j]?:=by
 unfold World.cells? at h;split at h
 ·exact⟨by simpa using mapM_some_length h,fun j hj=>mapM_some_get h j j (by simp[hj])⟩
 cases h
section
variable {H:Type}{enc:TypeId×Value→H}{P:Program}{w:World}{base:Nat}{sp:Nat→Bool}{hd:Bool}{n:Nat}
def Jy (P:Program) (t:TypeId):Option (List (Nat×Nat)) :=
 match P.underlying t with
 | some (.struct fs)=>some (fs.toList.map fun f=>(f.type,f.offset))
 | _=>none
theorem Yx {t:TypeId}{l:List (Nat×Nat)}(hf:Jy P t=some l) {cs:List Value}{y:DataW H×List MemPlace}(h:DataW.trod enc P w base sp hd n t cs=some y) :
  ∃m,n=m+1∧cs.length=P.cellsOf t∧∀(i:Nat) (p:Nat×Nat),l[i]?=some p→∃z,DataW.trod enc P w base sp hd m p.1 ((cs.drop p.2).take (P.cellsOf p.1))=some z:=by
 unfold Jy at hf;split at hf
 ·rename_i fs hu;injection hf with hf;subst hf;obtain⟨xs,m,h1,_,h2,h3,h4⟩:=DataW.trod_struct hu h;refine⟨m,h1,h2,fun i p hp=>?_⟩;rw[List.getElem?_map] at hp;obtain⟨fl,hfl,rfl⟩:=Option.map_eq_some_iff.1 hp;have hi:fs[i]?=some fl:=by simpa using hfl
  have:=h4 i fl hi;have hlt:i<xs.length:=by rw[h3];exact(Array.getElem?_eq_some_iff.1 hi).1
  rw[List.getElem?_eq_getElem hlt] at this;exact⟨_,this⟩
 cases hf
end
structure F3 (P:Program) (tI tS tV tVs tL tLs tT tTs:TypeId):Prop where
 uI:P.underlying tI=some (.int .i64)
 uS:P.underlying tS=some .string
 uVs:P.underlying tVs=some (.slice tV)
 uLs:P.underlying tLs=some (.slice tL)
 uTs:P.underlying tTs=some (.slice tT)
 fV:Jy P tV=some [(tI,0),(tI,1)]
 fL:Jy P tL=some [(tI,0),(tVs,1)]
 fT:Jy P tT=some [(tI,0),(tI,1),(tS,2),(tLs,3),(tTs,4)]
 cI:P.cellsOf tI=1
 cS:P.cellsOf tS=1
 cVs:P.cellsOf tVs=1
 cLs:P.cellsOf tLs=1
 cTs:P.cellsOf tTs=1
 cV:P.cellsOf tV=2
 cL:P.cellsOf tL=2
 cT:P.cellsOf tT=5
theorem Qm {n:Int}(h:(Lit.int .i64 n).wf=true):I3 n:=by
 simp only[Lit.wf,Bool.and_eq_true,decide_eq_true_eq] at h;exact h
section
variable {H:Type}{enc:TypeId×Value→H}{P:Program}{w:World}{base:Nat}{sp:Nat→Bool}{hd:Bool}{tI tB tS tV tVs tL tLs tT tTs tM tMs:TypeId}
theorem dr (E:F3 P tI tS tV tVs tL tLs tT tTs) {n:Nat}{cs:List Value}{y:DataW H×List MemPlace}(h:DataW.trod enc P w base sp hd n tV cs=some y):∃v:Bv,B1 w (FT v) cs∧(I3 v.index∧I3 v.plus):=by
 obtain⟨m,rfl,hl,hg⟩:=Yx E.fV h;rw[E.cV] at hl
 match cs,hl with
 | [c0,c1],_ =>
  obtain⟨z0,h0⟩:=hg 0 _ rfl;obtain⟨z1,h1⟩:=hg 1 _ rfl;simp only[E.cI,List.drop_zero,List.drop_succ_cons,List.take_succ_cons,List.take_zero] at h0 h1;obtain⟨a,ha,_,fa⟩:=DataW.trod_int E.uI h0;obtain⟨b,hb,_,fb⟩:=DataW.trod_int E.uI h1;injection ha with ha;injection hb with hb;subst ha hb;exact⟨⟨a,b⟩,⟨_,_,O,by simp[CI],_,_,rfl,by simp[CI],rfl⟩,Qm fa,Qm fb⟩
structure ir (P:Program) (tB tT tM tMs:TypeId):Prop where
 uB:P.underlying tB=some .bool
 uMs:P.underlying tMs=some (.slice tM)
 fM:Jy P tM=some [(tT,0),(tB,5),(tT,6),(tB,11)]
 cB:P.cellsOf tB=1
 cM:P.cellsOf tM=12
end
theorem VB (w:World):HRel F0 [] w:=⟨fun o ho=>by simp at ho,by simp,fun o ho=>by simp at ho,fun b hb=>hb.elim⟩
theorem Sr {P:Program}{f:FuncId}{xs:List AV}(h:D3 P f xs (.p (.bool true))) {w:World}{vs:List Value}(ha:Bl F0 w xs vs):Calls P f ⟨vs⟩ w fun e w'=>e= .returned (.bool true)∧Below w.heap.size w w':=by
 refine(h.2 F0 w vs (VB w) ha).mono ?_;rintro e w' ⟨r,H',F',hr,he,hH,ht⟩;cases r with
 | panic v=>exact hr.elim
 | val v =>
  obtain⟨rfl,rfl⟩:=hr;obtain⟨u,rfl,hu⟩:=he;simp only[B2,CI] at hu;subst hu;exact⟨O,ht.os,ht.tape,ht.out,ht.size,fun k hk=>ht.same k hk fun o ho=>by simp at ho⟩
theorem TE {H:Type}{enc:TypeId×Value→H}{P:Program}{f:Func}{s:ChangeSpec}{tB:TypeId}(hl:laidOutB P=true) (hB:P.underlying tB=some .bool) (hrt:f.resultTypes=#[tB]) (hv0:s.vars=[]) {W W':World}{args:Array Value}{ds:List (DataW H)}{before:List MemPlace}
  (hpr:∀t∈f.params.toList,P.readableRec t=true∧t<P.types.size) (hW:DataW.Whole enc P f.params.toList s.vars false W args.toList ds [] before) (hres:(s.fn H ds).results=[.lit (.bool true)]) (hargs:(s.fn H ds).args=ds) (hvars:(s.fn H ds).vars=[]) (hb:Below W.heap.size W W') :
  s.post enc P f false true false false W args (.bool true) W':=by
 have hW':=hW;obtain⟨p,q,hA,hV,rfl,hfz,hnd⟩:=hW;have hq:q=[]:=by rw[hv0] at hV;exact hV
 subst hq;have hstay:∀{ts:List TypeId} {vs:List Value} {ds:List (DataW H)} {ps:List MemPlace},(∀t∈ts,P.readableRec t=true∧t<P.types.size)→(∀x∈ps,x.block<W.heap.size)→DataW.TrodAll enc P W 0 (fun _=>true) true ts vs ds ps→DataW.TrodAll enc P W' 0 (fun b=>decide (b<W.heap.size)) true ts vs ds ps:=by
  intro ts
  induction ts with
  | nil =>
   intro vs ds ps _ _ h;cases vs<;>cases ds<;>simp[DataW.TrodAll] at h ⊢;exact h
  | cons t ts ih =>
   intro vs ds ps h1 h2 h;obtain⟨v,vs',d,ds',a,b,rfl,rfl,rfl,h3,h4⟩:=trodAll_cons h;exact⟨a,b,Below.trod hl (h1 t Ao).1 (h1 t Ao).2 h3 hb (fun x hx=>h2 x (by simp[hx])),ih (fun t ht=>h1 t (by simp[ht])) (fun x hx=>h2 x (by simp[hx])) h4,O⟩
 refine⟨ds,[],p++[],[],p,[],hW',?_,?_,?_,hb.frame _,fun h=>by cases h⟩
 ·rw[List.append_nil,hres,hrt];refine⟨[],[],⟨1,?_⟩,O,O⟩;unfold DataW.trod;rw[hB];rfl
 ·rw[List.append_nil,hargs];exact hstay hpr (fun x hx=>hW'.lt x (by simpa using hx)) hA
 rw[List.append_nil,hvars,hv0];exact O
section
variable {H:Type}{enc:TypeId×Value→H}{P:Program}{w:World}{base:Nat}{sp:Nat→Bool}{hd:Bool}{tI tB tS tV tVs tL tLs tT tTs tM tMs:TypeId}
theorem Zr {b2:Nat}{r:Reach}{t:TypeId}{k:IntKind}(ut:P.underlying t=some (.int k)) {v u:Value}(hk:Value.okWide P w r b2 t v) (h:v.cells.toList=[u]):v=u:=by
 unfold Value.okWide at hk;rw[ut] at hk;simp only at hk;unfold Cell.okWide at hk;rw[ut] at hk;cases v with
 | agg cs=>simp only at hk;unfold Cell.ok at hk;rw[ut] at hk;simp at hk
 | _=>simp[Value.cells] at h;exact h
theorem gU (E:F3 P tI tS tV tVs tL tLs tT tTs) {b2:Nat}{r:Reach}{v:Value}{d:DataW H}{ps:List MemPlace}(hk:Value.okWide P w r b2 tI v) (h:DataW.Trod enc P w base sp hd tI v d ps):∃i:Int,I3 i∧B2 F0 w (.p (I i)) v:=by
 obtain⟨n,h⟩:=h;obtain⟨a,ha,_,wa⟩:=DataW.trod_int E.uI h;have:=Zr E.uI hk ha;subst this;exact⟨a,Qm wa,by simp[B2,CI]⟩
end
end Go.Eu
namespace Go.Eu
open Go.Abs
structure HZ where
 name:ByteArray
 type:Tm
 deriving Inhabited
structure Qu where
 params:Int
 type:Tm
 rules:List Tm
 deriving Inhabited
mutual
inductive Ge where
 | mk (kind:Int) (body:Tm) (var:Int) (branches:List Hx)
inductive Hx where
 | mk (ctor:ByteArray) (absurd:Bool) (tree:Ge)
end
instance:Inhabited Ge:=⟨.mk 0 default 0 []⟩
instance:Inhabited Hx:=⟨.mk default false default⟩
def Ge.kind:Ge→Int | .mk k _ _ _=>k
def Ge.body:Ge→Tm | .mk _ b _ _=>b
def Ge.var:Ge→Int | .mk _ _ v _=>v
def Ge.branches:Ge→List Hx | .mk _ _ _ l=>l
def Hx.ctor:Hx→ByteArray | .mk c _ _=>c
def Hx.absurd:Hx→Bool | .mk _ a _=>a
def Hx.tree:Hx→Ge | .mk _ _ t=>t
structure OY where
 name:ByteArray
 type:Tm
 arity:Int
 tree:Ge
 deriving Inhabited
structure Ck where
 kind:Int
 name:ByteArray
 params:Int
 type:Tm
 value:Tm
 fixed:Int
 ctors:List HZ
 recs:Qu
 funs:List OY
 deriving Inhabited
structure Ka where
 kind:Int
 decl:Int
 item:Int
 params:Int
 type:Tm
 deriving Inhabited
structure n8 where
 carrier:ByteArray
 add:ByteArray
 zero:ByteArray
 neg:ByteArray
 one:ByteArray
 leq:ByteArray
 lemmas:List ByteArray
 deriving Inhabited
structure mw where
 place:Int
 minus:Bool
 deriving Inhabited,DecidableEq
def Eg (c:HZ):List PV:= .str c.name::Bc c.type
def Hv (r:Qu):List PV:=I r.params::(Bc r.type++[.lst (Av r.rules)])
mutual
def FX:Ge→List PV
 | .mk k b v l=>I k::(Bc b++[I v,.lst (L9 l)])
def Iv:Hx→List PV
 | .mk c a t=> .str c:: .bool a::FX t
def L9:List Hx→List (List PV)
 | []=>[]
 | b::l=>Iv b::L9 l
end
def KK (f:OY):List PV:= .str f.name::(Bc f.type++(I f.arity::FX f.tree))
def D9 (d:Ck):List PV:=I d.kind:: .str d.name::I d.params::(Bc d.type++(Bc d.value++(I d.fixed:: .lst (d.ctors.map Eg)::(Hv d.recs++[.lst (d.funs.map KK)]))))
def Yh (e:Ka):List PV:=I e.kind::I e.decl::I e.item::I e.params::Bc e.type
def mc (t:n8):List PV:=[.str t.carrier,.str t.add,.str t.zero,.str t.neg,.str t.one,.str t.leq,.lst (t.lemmas.map gv)]
def lk (s:mw):List PV:=[I s.place,.bool s.minus]
theorem Jv:∀l:List Hx,L9 l=l.map Iv
 | []=>rfl
 | t::ts=>by simp[L9,Jv ts]
theorem Fg (c:HZ):(Eg c).length=6:=by simp[Eg,BF]
theorem HY (r:Qu):(Hv r).length=7:=by simp[Hv,BF]
theorem HB (t:Ge):(FX t).length=8:=by cases t;simp[FX,BF]
theorem Lg (b:Hx):(Iv b).length=10:=by cases b;simp[Iv,HB]
theorem Kt (f:OY):(KK f).length=15:=by simp[KK,BF,HB]
theorem OT (d:Ck):(D9 d).length=23:=by simp[D9,BF,HY]
theorem Xn (e:Ka):(Yh e).length=9:=by simp[Yh,BF]
theorem Oy (l:List Hx):(L9 l).length=l.length:=by simp[Jv]
theorem Ou {ts:List Hx}{i:Nat}{t:Hx}(h:ts[i]?=some t):(L9 ts)[i]?=some (Iv t):=by simp[Jv,h]
theorem He {α:Type}{f:α→List PV}{ts:List α}{i:Nat}{t:α}(h:ts[i]?=some t):(ts.map f)[i]?=some (f t):=by simp[h]
theorem IB {ts:List HZ}{i:Nat}{t:HZ}(h:ts[i]?=some t):(ts.map Eg)[i]?=some (Eg t):=He h
theorem OV {ts:List OY}{i:Nat}{t:OY}(h:ts[i]?=some t):(ts.map KK)[i]?=some (KK t):=He h
theorem CD {n:Nat}{c:PV}{r:List PV}(hc:c≠ .any∧c≠ .unit) (h:DC n r):DC (n+1) (c::r) :=
 ⟨by simp[h.1],fun x hx=>by
  rcases List.mem_cons.1 hx with rfl | hx
  ·exact hc
  exact h.2 x hx⟩
theorem GF {n m:Nat}{a b:List PV}(ha:DC n a) (hb:DC m b):DC (n+m) (a++b) :=
 ⟨by simp[ha.1,hb.1],fun x hx=>by
  rcases List.mem_append.1 hx with hx | hx
  ·exact ha.2 x hx
  exact hb.2 x hx⟩
theorem Jn:DC 0 []:=⟨rfl,fun c h=>by simp at h⟩
theorem Ty (c:HZ):DC 6 (Eg c):=CD Ao (HF _)
theorem Wx (r:Qu):DC 7 (Hv r):=CD Ao (GF (HF _) (CD Ao Jn))
theorem No (t:Ge):DC 8 (FX t):=by
 cases t with
 | mk k b v l=>unfold FX;exact CD Ao (GF (n:=5) (m:=2) (HF _) (CD Ao (CD Ao Jn)))
theorem Y8 (b:Hx):DC 10 (Iv b):=by
 cases b with
 | mk c a t=>unfold Iv;exact CD Ao (CD Ao (No t))
theorem cb (f:OY):DC 15 (KK f):=CD Ao (GF (n:=5) (m:=9) (HF _) (CD Ao (No _)))
theorem Vw (d:Ck):DC 23 (D9 d):=CD Ao (CD Ao (CD Ao (GF (n:=5) (m:=15) (HF _) (GF (n:=5) (m:=10) (HF _) (CD Ao (CD Ao (GF (n:=7) (m:=1) (Wx _) (CD Ao Jn))))))))
theorem dW (e:Ka):DC 9 (Yh e):=CD Ao (CD Ao (CD Ao (CD Ao (HF _))))
theorem Vn (l:List HZ):∀r∈l.map Eg,DC 6 r:=GI Ty l
theorem ZJ (m:HZ):((Eg m).map AV.p).all one=true:=Dh (Ty m)
theorem ZP (m:Qu):((Hv m).map AV.p).all one=true:=Dh (Wx m)
theorem Zk (m:Ge):((FX m).map AV.p).all one=true:=Dh (No m)
theorem ZA (m:Hx):((Iv m).map AV.p).all one=true:=Dh (Y8 m)
theorem Za (m:OY):((KK m).map AV.p).all one=true:=Dh (cb m)
theorem Y6 (m:Ck):((D9 m).map AV.p).all one=true:=Dh (Vw m)
theorem Z1 (m:Ka):((Yh m).map AV.p).all one=true:=Dh (dW m)
end Go.Eu
namespace Go.Eu
open Go.Abs Go.RowKit Go.ChangeShapes Go.ChangeAt Go.WideShapes
structure eu (P:Program) (tS tSs tTh:TypeId):Prop where
 uSs:P.underlying tSs=some (.slice tS)
 cSs:P.cellsOf tSs=1
 fTh:Jy P tTh=some [(tS,0),(tS,1),(tS,2),(tS,3),(tS,4),(tS,5),(tSs,6)]
 cTh:P.cellsOf tTh=7
 bS:P.bytesOf tS=16
section
variable {H:Type}{enc:TypeId×Value→H}{P:Program}{w:World}{base:Nat}{sp:Nat→Bool}{hd:Bool}{tI tB tS tV tVs tL tLs tT tTs tM tMs tSs tTh:TypeId}
end
end Go.Eu
namespace Go.Eu
open Go.Abs
def eh (n:ByteArray):ByteArray:=n++⟨#[46,114,101,99]⟩
def UC (i p:Int):List HZ→Int→List (ByteArray×Ka)
 | [],_=>[]
 | c::cs,k=>(c.name,⟨4,i,k,p,c.type⟩)::UC i p cs (k+1)
def Y7 (i p:Int):List OY→Int→List (ByteArray×Ka)
 | [],_=>[]
 | c::cs,k=>(c.name,⟨6,i,k,p,c.type⟩)::Y7 i p cs (k+1)
def de (d:Ck) (i:Int):List (ByteArray×Ka) :=
 if d.kind=0∨d.kind=1∨d.kind=2 then [(d.name,⟨d.kind,i,0,d.params,d.type⟩)]
 else if d.kind=3 then (d.name,⟨3,i,0,d.params,d.type⟩)::(UC i d.params d.ctors 0++[(eh d.name,⟨5,i,0,d.recs.params,d.recs.type⟩)])
 else if d.kind=4 then Y7 i d.params d.funs 0
 else []
def NP (nm:ByteArray):List (ByteArray×Ka)→Option Ka
 | []=>none
 | (s,e)::l=>if s=nm then some e else NP nm l
def findF (nm:ByteArray):List Ck→Int→Option Ka
 | [],_=>none
 | d::ds,i=>match NP nm (de d i) with
  | some e=>some e
  | none=>findF nm ds (i+1)
def iI:Ka:=⟨0,0,0,0,Bi⟩
def EF (ds:List Ck) (nm:ByteArray):Ka×Int:=match findF nm ds 0 with
 | some e=>(e,0)
 | none=>(iI,9)
section
variable {i p:Int}{nm:ByteArray}
end
def kq (d:Ck):List ByteArray :=
 if d.kind=0∨d.kind=1∨d.kind=2 then [d.name]
 else if d.kind=3 then d.name::d.ctors.map HZ.name++[eh d.name]
 else if d.kind=4 then d.funs.map OY.name
 else []
def mn (l:List ByteArray) (s:ByteArray):Bool:=l.any fun x=>decide (x=s)
def cE (nm:ByteArray) (i p:Int) (o:Ka):List HZ→Int→Ka
 | [],_=>o
 | c::cs,k=>if c.name=nm then ⟨4,i,k,p,c.type⟩ else cE nm i p o cs (k+1)
def fh (nm:ByteArray) (i p:Int) (o:Ka):List OY→Int→Ka
 | [],_=>o
 | c::cs,k=>if c.name=nm then ⟨6,i,k,p,c.type⟩ else fh nm i p o cs (k+1)
def kv (d:Ck) (i:Int) (nm:ByteArray):Ka :=
 if d.kind=0∨d.kind=1∨d.kind=2 then ⟨d.kind,i,0,d.params,d.type⟩
 else if d.kind=3 then (if nm=d.name then ⟨3,i,0,d.params,d.type⟩ else cE nm i d.params ⟨5,i,0,d.recs.params,d.recs.type⟩ d.ctors 0)
 else fh nm i d.params ⟨0,i,0,d.params,d.type⟩ d.funs 0
structure ia where
 env:List Ck
 own:List ByteArray
 d:Ck
def UO (s:ia):List PV:= .lst (s.env.map D9):: .lst (s.own.map gv)::D9 s.d
theorem Vm (s:ia):(UO s).length=25:=by simp[UO,OT]
theorem Zp (s:ia):DC 25 (UO s):=CD Ao (CD Ao (Vw _))
theorem aM (m:ia):((UO m).map AV.p).all one=true:=Dh (Zp m)
structure Re (t:Tm):Prop where
 nd:Nd t
 sz:size t<1000000
mutual
def HH:Ge→Prop
 | .mk k b v l=>Re b∧l.length<2000000∧KY l
def OP:Hx→Prop
 | .mk c a t=>c.size<2000000∧HH t
def KY:List Hx→Prop
 | []=>True
 | b::l=>OP b∧KY l
end
mutual
def MB:Ge→Nat
 | .mk k b v l=>1+RY l
def Wk:Hx→Nat
 | .mk c a t=>MB t
def RY:List Hx→Nat
 | []=>0
 | b::l=>Wk b+1+RY l
end
theorem Nl:∀{l:List Hx}{i:Nat}{b:Hx},KY l→l[i]?=some b→OP b
 | [],i,b,_,h=>by simp at h
 | a::l,0,b,hn,h=>by simp at h;subst h;exact hn.1
 | a::l,i+1,b,hn,h=>by simp at h;exact Nl hn.2 h
theorem P8:∀{l:List Hx}{i:Nat}{b:Hx},l[i]?=some b→Wk b<RY l
 | [],i,b,h=>by simp at h
 | a::l,0,b,h=>by simp at h;subst h;simp only[RY];omega
 | a::l,i+1,b,h=>by
  have:=P8 (show l[i]?=some b by simpa using h);simp only[RY];omega
structure YK (c:HZ):Prop where
 nm:c.name.size<2000000
 ty:Re c.type
structure WL (f:OY):Prop where
 nm:f.name.size<2000000
 ty:Re f.type
 tr:HH f.tree
structure XR (d:Ck):Prop where
 nm:d.name.size<2000000
 ty:Re d.type
 vl:Re d.value
 cl:d.ctors.length<2000000
 cs:∀c∈d.ctors,YK c
 rt:Re d.recs.type
 rl:d.recs.rules.length<2000000
 rs:∀t∈d.recs.rules,Re t
 fl:d.funs.length<2000000
 fs:∀f∈d.funs,WL f
structure Uv (ds:List Ck):Prop where
 len:ds.length<2000000
 all:∀d∈ds,XR d
theorem Uv.take {ds:List Ck}(h:Uv ds) (n:Nat):Uv (ds.take n) :=
 ⟨by have:=h.len;simp;omega,fun d hd=>h.all d (List.mem_of_mem_take hd)⟩
section
variable {d:Ck}{i:Int}{nm:ByteArray}
end
end Go.Eu
namespace Go.Abs
section
variable {P:Program}{H:List A8}{dst:Option Tmp}{ty:TypeId}{pos:String}{aft:Array Edge}{x y:Operand}{ρ:Operand→AV}{g:Option (Nat×Bool)}
end
section
variable {P:Program}{dst:Option Tmp}{ty:TypeId}{pos:String}{aft:Array Edge}{g:Option (Nat×Bool)}{ρ:Operand→AV}{H:List A8}{x y z:Operand}{v:AV}
def iq (s:ByteArray):List (List PV):=s.data.toList.map fun b=>[PV.int .u8 b.toNat]
end
section
variable {P:Program}{dst:Option Tmp}{ty:TypeId}{pos:String}{aft:Array Edge}{g:Option (Nat×Bool)}{ρ:Operand→AV}{H:List A8}{x y z:Operand}{v:AV}
def ij (T:TypeId) (cs:List AV) (H:List A8):DN→List A8→Prop
 | .val v,H'=>∃b,v= .ptr b 0∧H'= .boxT b T cs::H
 | .panic _,_=>False
end
section
variable {P:Program}{dst:Option Tmp}{ty:TypeId}{pos:String}{aft:Array Edge}{g:Option (Nat×Bool)}{ρ:Operand→AV}{H:List A8}{x:Operand}
end
def At (cells:List PV) (o:Nat) (us:List PV):Prop:=∃rest,cells.drop o=us++rest
theorem At.front {us rest:List PV}:At (us++rest) 0 us:=⟨rest,rfl⟩
theorem At.all {us:List PV}:At us 0 us:=⟨[],by simp⟩
theorem At.one {c:PV}{rest:List PV}:At (c::rest) 0 [c]:=⟨rest,rfl⟩
theorem At.cons {c:PV}{cells us:List PV}{o:Nat}(h:At cells o us):At (c::cells) (o+1) us:=h
theorem At.app {a cells us:List PV}{o n:Nat}(hn:a.length=n) (h:At cells o us):At (a++cells) (n+o) us:=by
 obtain⟨rest,h⟩:=h;exact⟨rest,by rw[List.drop_append,←hn,List.drop_of_length_le An];simpa using h⟩
theorem At.sub {cells us vs:List PV}{o p:Nat}(h:At cells o us) (h':At us p vs) (hp:p≤us.length):At cells (o+p) vs:=by
 obtain⟨r,h⟩:=h;obtain⟨r',h'⟩:=h';exact⟨r'++r,by rw[←List.drop_drop,h,List.drop_append_of_le_length hp,h',List.append_assoc]⟩
theorem At.drop {cells us:List PV}{a b:Nat}(h:At cells (a+b) us):At (cells.drop a) b us:=by
 unfold At at h ⊢
 rwa [List.drop_drop]
section
variable {P:Program}{dst:Option Tmp}{ty:TypeId}{pos:String}{aft:Array Edge}{g:Option (Nat×Bool)}{ρ:Operand→AV}{H:List A8}{x:Operand}{T:TypeId}{b o i n:Nat}{cells us:List PV}{c:PV}
theorem DW (hT:DY P T=some (true,n)) (hx:ρ x= .ptr b o) (hi:H[i]?=some (.box b (cells.map .p))) (ha:At cells o us) (hn:us.length=n):DT P ⟨dst,.load T x,ty,pos,aft,g⟩ ρ H (.agg (us.map .p)) H:=by
 have e:((cells.map AV.p).drop o).take n=us.map .p:=by
  obtain⟨rest,h⟩:=ha;rw[←List.map_drop,h,List.map_append,List.take_left' (by rw[List.length_map,hn])]
 exact FO hT hx hi (by rw[e,List.length_map,hn]) (by rw[e])
theorem A6 (hT:DY P T=some (false,n)) (hx:ρ x= .ptr b o) (hi:H[i]?=some (.box b (cells.map .p))) (ha:At cells o [c]):DT P ⟨dst,.load T x,ty,pos,aft,g⟩ ρ H (.p c) H :=
 CJ hT hx hi (by
  obtain⟨rest,h⟩:=ha;have:=congrArg (fun l:List PV=>l[0]?) h;simp only[List.getElem?_drop,Nat.add_zero,List.singleton_append,List.getElem?_cons_zero] at this;simp[this])
theorem Gf (hT:DY P T=some (true,n)) (hx:ρ x= .ref (cells.drop o)) (ha:At cells o us) (hn:us.length=n):DT P ⟨dst,.load T x,ty,pos,aft,g⟩ ρ H (.agg (us.map .p)) H :=
 Ir hT hx hn (by obtain⟨rest,h⟩:=ha;rw[h];exact List.take_left)
theorem I9 (hT:DY P T=some (false,n)) (hx:ρ x= .ref (cells.drop o)) (ha:At cells o [c]):DT P ⟨dst,.load T x,ty,pos,aft,g⟩ ρ H (.p c) H:=by
 obtain⟨rest,h⟩:=ha;exact GX hT (hx.trans (congrArg AV.ref h))
variable {y:Operand}
end
def jJ (k:ByteArray):List (ByteArray×AV)→Option AV
 | []=>none
 | (j,x)::r=>if j=k then some x else jJ k r
def sset (k:ByteArray) (v:AV):List (ByteArray×AV)→List (ByteArray×AV)
 | []=>[(k,v)]
 | (j,x)::r=>if j=k then (j,v)::r else (j,x)::sset k v r
def n7 (l:List (ByteArray×AV)):List (PV×AV):=l.map fun p=>(.str p.1,p.2)
def jd (P:Program) (T:TypeId):Option TypeId :=
 match P.underlying T with
 | some (.map k e)=>match P.underlying k with
  | some .string=>some e
  | _=>none
 | _=>none
section
variable {F:Nat→Prop}{w:World}
end
section
variable {P:Program}{dst:Option Tmp}{ty:TypeId}{pos:String}{aft:Array Edge}{g:Option (Nat×Bool)}{ρ:Operand→AV}{H:List A8}{x y z:Operand}{v:AV}
end
section
variable {P:Program}{dst:Option Tmp}{ty:TypeId}{pos:String}{aft:Array Edge}{g:Option (Nat×Bool)}{ρ:Operand→AV}{H:List A8}{x y z:Operand}{v:AV}
def appendTR (i:Nat) (e:TypeId) (rows:List (List PV)) (H:List A8):DN→List A8→Prop
 | .val v,H'=>∃o c,v= .vs o rows.length c∧H'=H.set i (.vecT o e false rows c)
 | .panic _,_=>False
theorem S4 {a b:ByteArray}{T U:TypeId}(hx:ρ x= .p (.str a)) (hy:ρ y= .p (.str b)) (hsz:a.size+b.size≤9223372036854775807):DT P ⟨dst,.binOp .add T x y U,ty,pos,aft,g⟩ ρ H (.p (.str (a++b))) H :=
 CH fun F w E hH hE=>by
  have e1:=hE x AY;have e2:=hE y AY;rw[hx] at e1;rw[hy] at e2;simp only[B2,CI] at e1 e2;have hm:¬(((a.size+b.size:Nat):Int) > IntKind.i64.max):=by rw[show IntKind.i64.max=9223372036854775807 from rfl];omega
  have h1:(Op.stringOp .add a b).run P w= .ok (.string (a++b)) w:=by
   unfold Op.stringOp;simp only[if_neg hm];rfl
  exact⟨.string (a++b),by simp[execOp,Sem.run_bind,JQ,e1,e2,binOp,h1],by simp[B2,CI]⟩
end
section
variable {P:Program}{r:Option Nat}{ops:Array Oper}{Q:CV→Be→Prop}{k:Nat}{n:Nat}{τ:Nat→AV}{H H':List A8}{D:List DV}{dst:Option Tmp}{op:Op}{ty:TypeId}{pos:String}{aft:Array Edge}{g:Option (Nat×Bool)}{v:AV}
end
section
variable {P:Program}{dst:Option Tmp}{ty:TypeId}{pos:String}{aft:Array Edge}{g:Option (Nat×Bool)}{ρ:Operand→AV}{H:List A8}{x f:Operand}
end
section
variable {P:Program}{ops:Array Oper}{n:Nat}{τ₀ τ:Nat→AV}{D:List DV}{Q:CV→Be→Prop}{opn:Nat→Bool}{k:Nat}{T:List A8}{dst:Option Tmp}{ty:TypeId}{pos:String}{aft:Array Edge}{c:Call}{f:Operand}{fid:FuncId}{first caps A:List AV}{v:AV}{C:List A8→Prop}
end
def UN (l:List UInt8):List (List PV):=l.map fun b=>[PV.int .u8 b.toNat]
def BW (U e:TypeId) (b:Nat) (l:List UInt8) (T:List A8):Prop :=
 ∃a o cp,(a= .nilp∨a= .ptr b 0)∧T=[.boxT b U [a,.vs o (UN l).length cp],.vecT o e false (UN l) cp]
def BX (U e:TypeId) (b:Nat) (l:List UInt8) (T:List A8):Prop :=
 ∃a o cp fr,T=[.boxT b U [a,.vs (some o) (UN l).length cp],.vecT (some o) e fr (UN l) cp]
def oh (l:List UInt8):ByteArray:=⟨l.toArray⟩
section
variable {P:Program}{dst:Option Tmp}{ty:TypeId}{pos:String}{aft:Array Edge}{g:Option (Nat×Bool)}{ρ:Operand→AV}{H:List A8}{x y z:Operand}
end
theorem Pu {α:Type}:∀(xs l:List α) (o:Nat),o+xs.length≤l.length→splice l o xs=l.take o++xs++l.drop (o+xs.length)
 | [],l,o,h=>by simp[splice]
 | x::xs,l,o,h=>by
  simp only[List.length_cons] at h;rw[splice,Pu xs _ _ (by rw[List.length_set];omega)];have h1:(l.set o x).take (o+1)=l.take o++[x]:=by
   rw[List.take_add_one,List.getElem?_set_self An,List.take_set_of_le (Nat.le_refl _)];rfl
  have h2:(l.set o x).drop (o+1+xs.length)=l.drop (o+(x::xs).length):=by
   rw[List.drop_set_of_lt An];congr 1;simp only[List.length_cons];omega
  rw[h1,h2];simp
def ER:Nat→List (List PV)→List (Nat×AV)
 | _,[]=>[]
 | k,r::rs=>(k,.agg (r.map .p))::ER (k+1) rs
theorem Kj {sz:Nat}:∀(rows:List (List PV)) (k:Nat) (base:List AV),(∀r∈rows,r.length=sz)→(k+rows.length)*sz=base.length→Ff (fun i=>some (i*sz,sz)) base (ER k rows)=some (base.take (k*sz)++rows.flatten.map .p)
 | [],k,base,hr,hb=>by
  simp only[List.length_nil,Nat.add_zero] at hb;simp[ER,Ff,hb]
 | r::rows,k,base,hr,hb=>by
  have hl:=hr r Ao;have hb2:k*sz+sz+rows.length*sz=base.length:=by
   rw[←hb,List.length_cons,Nat.add_mul,Nat.add_mul,Nat.one_mul];omega
  simp only[ER,Ff,EI];rw[if_pos ⟨by simp[hl],by simp[hl];omega⟩,Pu _ _ _ (by simp[hl];omega)];rw[Kj rows (k+1) _ (fun x hx=>hr x (by simp[hx])) (by simp only[List.length_append,List.length_take,List.length_drop,List.length_map,hl];rw[Nat.add_mul,Nat.add_mul,Nat.one_mul];omega)];congr 1;have h1:((base.take (k*sz)++r.map AV.p)++base.drop (k*sz+(r.map AV.p).length)).take ((k+1)*sz)=base.take (k*sz)++r.map .p:=by
   have:(k+1)*sz=(base.take (k*sz)++r.map AV.p).length:=by
    simp only[List.length_append,List.length_take,List.length_map,hl];rw[Nat.add_mul,Nat.one_mul];omega
   rw[this,List.take_left'];rfl
  rw[h1];simp
theorem Hu {α:Type}{sz:Nat}:∀{rows:List (List α)},(∀r∈rows,r.length=sz)→chunks sz rows.length rows.flatten=rows
 | [],_=>rfl
 | r::rows,h=>by
  have hl:=h r Ao;simp only[List.length_cons,chunks,List.flatten_cons];rw[List.take_left' hl,List.drop_left' hl,Hu fun x hx=>h x (by simp[hx])]
theorem NJ:∀(rows:List (List PV)) (k:Nat),(∀r∈rows,∀c∈r,c≠ .nils)→(ER k rows).map (fun p=>(p.1,norm p.2))=ER k rows
 | [],k,h=>rfl
 | r::rows,k,h=>by
  simp only[ER,List.map_cons];show (k,AV.agg ((r.map AV.p).map dn))::_=_;rw[NJ rows (k+1) fun x hx=>h x (by simp[hx])];congr 3;have:=h r Ao;clear h
  induction r with
  | nil=>rfl
  | cons c r ih =>
   simp only[List.map_cons];rw[ih fun d hd=>this d (by simp[hd])];have:=this c Ao;cases c<;>simp_all [dn]
section
variable {P:Program}{dst:Option Tmp}{ty:TypeId}{pos:String}{aft:Array Edge}{g:Option (Nat×Bool)}{ρ:Operand→AV}{H:List A8}
theorem Ii:∀(r:List PV),E8 (r.map .p)=some r
 | []=>rfl
 | c::r=>by simp[E8,Ii r]
theorem KE {parts:Array (Nat×Operand)}{rows:List (List PV)}(hp:parts.toList.map (fun p=>(p.1,ρ p.2))=ER 0 rows) (hn:∀r∈rows,∀c∈r,c≠ .nils):parts.toList.map (fun p=>(p.1,norm (ρ p.2)))=ER 0 rows:=by
 have h2:=NJ rows 0 hn;rw[←hp,List.map_map] at h2;rw[←hp];exact h2
theorem Ba {T e:TypeId}{len sz bytes:Nat}{parts:Array (Nat×Operand)}{z:Value}{rows:List (List PV)}(hT:Ds P T=some (e,sz,bytes)) (hz:zeroOf P e=some z) (hsz:z.cells.size=sz) (hpos:(Nat.blt 0 sz&&Nat.ble (len*sz) 16777216)=true)
  (hp:parts.toList.map (fun p=>(p.1,ρ p.2))=ER 0 rows) (hl:rows.length=len) (hr:∀r∈rows,r.length=sz) (hn:∀r∈rows,∀c∈r,c≠ .nils) :
  DT P ⟨dst,.buildSlice T len parts,ty,pos,aft,g⟩ ρ H (.p (.lst rows)) H:=by
 subst hl;refine Bz (cs:=rows.flatten.map .p) (ps:=rows.flatten) hT hz hsz hpos ?_ (Ii _) (Hu hr);rw[KE hp hn,Kj rows 0 _ hr (by simp[hsz])];simp
theorem MW {T e:TypeId}{len sz bytes:Nat}{parts:Array (Nat×Operand)}{z:Value}{cs:List AV}{ps:List PV}{rows:List (List PV)}(hT:Ds P T=some (e,sz,bytes)) (hz:zeroOf P e=some z) (hsz:z.cells.size=sz) (hpos:(Nat.blt 0 sz&&Nat.ble (len*sz) 16777216)=true)
  (hc:Ff (fun i=>some (i*sz,sz)) (List.replicate len (z.cells.toList.map EH)).flatten (parts.toList.map fun p=>(p.1,norm (ρ p.2)))=some cs) (hp:E8 cs=some ps) (hr:chunks sz len ps=rows) :
  Cc P ⟨dst,.buildSlice T len parts,ty,pos,aft,g⟩ ρ H (Gp sz rows H) :=
 FI fun F w E hH hE=>by
  obtain⟨hu,i,hi,hs,hby⟩:=DP hT;simp only[Bool.and_eq_true,Nat.blt_eq,Nat.ble_eq] at hpos;unfold zeroOf at hz;have hz':∃j,P.info? e=some j∧j.zero=some z:=by
   cases hq:P.info? e with
   | none=>simp[hq] at hz
   | some j=>exact⟨j,rfl,by simpa [hq] using hz⟩
  obtain⟨j,hj,hz'⟩:=hz';have hzv:(zeroValue e).run P w= .ok z w:=by simp[zeroValue,typeInfo,hj,hz',Sem.run_bind]
  have hzl:Bl F w (List.replicate len (z.cells.toList.map EH)).flatten (List.replicate len z.cells.toList).flatten:=Em (Et _) len;obtain⟨us,hf,hrep⟩:=GG (F:=F) (w:=w) (place:=fun i=>some (i*sz,sz)) _ (parts.toList.map fun p=>(p.1,E p.2)) _ _ _ Ao (by
   intro j p q h1 h2;simp only[List.getElem?_map] at h1 h2;cases hj:parts.toList[j]? with
   | none=>simp[hj] at h1
   | some t =>
    simp[hj] at h1 h2;subst h1;subst h2;exact⟨O,(hE _ (by
     have:=List.mem_of_getElem? hj;simp only[Op.operands];exact List.mem_map.2 ⟨t,this,O⟩)).norm⟩) hzl hc
  have hcs:=FR hp;have hlen:ps.length=len*sz:=by
   have h1:cs.length=((List.replicate len (z.cells.toList.map EH)).flatten).length:=by
    clear hrep hp hcs hzl hf;generalize (List.replicate len (z.cells.toList.map EH)).flatten=l at hc;generalize (parts.toList.map fun p=>(p.1,norm (ρ p.2)))=q at hc
    induction q generalizing l with
    | nil=>simp[Ff] at hc;rw[hc]
    | cons a q ih =>
     obtain⟨i,x⟩:=a;simp only[Ff] at hc;cases hx:EI x with
     | none=>simp[hx] at hc
     | some c2 =>
      simp only[hx] at hc;split at hc
      ·rw[ih _ hc,D5]
      cases hc
   rw[hcs] at h1;simp only[List.length_map,List.length_flatten,List.map_replicate,List.sum_replicate_nat,Array.length_toList,hsz] at h1;exact h1
  obtain⟨c1,c2,c3⟩:=Hi hlen;rw[hr] at c1 c2 c3;have hul:us.length=ps.length:=by rw[hrep.length,hcs];simp
  obtain⟨v0,H0,F0,h10,h20,h30,h40⟩:=H8 (T:=e) (c:=len) (vs:=us) (H:=H) hH c2 (by rw[c1,←hul,List.take_length];rw[hcs] at hrep;exact hrep) An An;rw[c3] at h40;refine⟨_,_,v0,H0,F0,?_,h10,h20,h30,h40⟩;have hszr:(sizeOf e).run P w= .ok sz w:=by simp[sizeOf,typeInfo,hi,hs]
  have hzc:z.cells=⟨z.cells.toList⟩:=rfl;have hrm:=Fm z.cells.toList len;have hsz2:z.cells.toList.length=sz:=by simpa using hsz
  rw[hsz2] at hrm;have harr:((Array.range (len*sz)).map fun i=>z.cells[i % z.cells.size]!)=⟨(List.replicate len z.cells.toList).flatten⟩:=by
   apply Array.ext';exact hrm
  simp only[execOp,Instr.buildSlice,Sem.run_bind,run_underlying hu,Result.andThen_ok,hszr];rw[if_neg An];simp only[Sem.run_pure,Result.andThen_ok,Sem.run_bind,pure_bind];have hf':Instr.fill (fun i=>some (i*sz,sz)) ⟨(List.replicate len z.cells.toList).flatten⟩ (parts.map fun p=>(p.1,E p.2)).toList=some ⟨us⟩:=by
   rw[←hf];simp
  by_cases h00:len*sz=0
  ·have hl0:len=0:=by
    rcases Nat.mul_eq_zero.1 h00 with h | h
    ·exact h
    omega
   subst hl0;simp only[Nat.zero_mul,if_true];simp only[List.replicate_zero,List.flatten_nil] at hf';have e0:(Array.map (fun x=>(#[]:Array Value)[x % (#[]:Array Value).size]!) (Array.range 0))=(⟨[]⟩:Array Value):=by simp
   rw[e0,hf'];simp only[newRow,newObj,Sem.run_bind,Sem.run,Result.andThen,Sem.run_pure];rfl
  rw[if_neg h00];simp only[Sem.run_bind,hzv,Result.andThen_ok];rw[harr,hf'];simp only[newRow,newObj,Sem.run_bind,Sem.run,Result.andThen,Sem.run_pure];rfl
theorem L8 {T e:TypeId}{len sz bytes:Nat}{parts:Array (Nat×Operand)}{z:Value}{rows:List (List PV)}(hT:Ds P T=some (e,sz,bytes)) (hz:zeroOf P e=some z) (hsz:z.cells.size=sz) (hpos:(Nat.blt 0 sz&&Nat.ble (len*sz) 16777216)=true)
  (hp:parts.toList.map (fun p=>(p.1,ρ p.2))=ER 0 rows) (hl:rows.length=len) (hr:∀r∈rows,r.length=sz) (hn:∀r∈rows,∀c∈r,c≠ .nils) :
  Cc P ⟨dst,.buildSlice T len parts,ty,pos,aft,g⟩ ρ H (Gp sz rows H):=by
 subst hl;refine MW (cs:=rows.flatten.map .p) (ps:=rows.flatten) hT hz hsz hpos ?_ (Ii _) (Hu hr);rw[KE hp hn,Kj rows 0 _ hr (by simp[hsz])];simp
end
section
variable {P:Program}{ops:Array Oper}{n:Nat}{τ₀:Nat→AV}{D:List DV}{Q:CV→Be→Prop}{opn:Nat→Bool}{k:Nat}{τ:Nat→AV}{H:List A8}{rd:Sj}{ef:RH}{effs:List Bool}{fx:List (Nat×Sp)}{dst:Option Tmp}{op:Op}{ty:TypeId}{pos:String}{aft:Array Edge}
end
section
variable {P:Program}{ty:TypeId}{pos:String}{aft:Array Edge}{g:Option (Nat×Bool)}{ρ:Operand→AV}{H:List A8}{x y:Operand}
end
inductive Ey where
 | val (v:AV)
 | skip
 | new (cs:List AV)
 | newv (sz:Nat) (rows:List (List PV))
def Ey.v (b:Nat×Nat):Ey→AV
 | .val v=>v
 | .skip=> .tup []
 | .new _=> .ptr b.1 0
 | .newv _ rows=> .vs (some b.1) rows.length b.2
def Ey.box (b:Nat×Nat):Ey→List A8
 | .new cs=>[.box b.1 cs]
 | .newv sz rows=>[.vec (some b.1) sz rows b.2]
 | _=>[]
def cz (P:Program) (ops:Array Oper) (H₀:List A8) (o:Oper) (τ:Nat→AV):Ey→Prop
 | .val v=>CY ops ⟨0,τ,[],[]⟩ o∧∀Bs,DT P o (ev τ) (Bs++H₀) v (Bs++H₀)
 | .skip=>∃j want d,o.guard=some (j,want)∧(ops[j]?).bind (·.dst)=some d∧Xh (τ d) want
 | .new cs=>o.guard=none∧∀Bs,Cc P o (ev τ) (Bs++H₀) (GC cs (Bs++H₀))
 | .newv sz rows=>o.guard=none∧∀Bs,Cc P o (ev τ) (Bs++H₀) (Gp sz rows (Bs++H₀))
def EW (P:Program) (ops:Array Oper) (H₀:List A8):Nat→(Nat→AV)→List Ey→((Nat→AV)→List A8→Prop)→Prop
 | _,τ,[],K=>K τ []
 | k,τ,e::r,K=>∃o,ops[k]?=some o∧cz P ops H₀ o τ e∧∀b,EW P ops H₀ (k+1) (put τ o.dst (e.v b)) r (fun τ' Hs=>K τ' (e.box b++Hs))
def LP (β:Nat→Nat×Nat):Nat→List Ey→List Sp
 | _,[]=>[]
 | k,e::r=> .free (e.v (β k))::LP β (k+1) r
def gG (β:Nat→Nat×Nat):Nat→List Ey→List A8
 | _,[]=>[]
 | k,e::r=>e.box (β k)++gG β (k+1) r
def Sk (β:Nat→Nat×Nat) (l:Nat→Bool):Nat→List Ey→List A8
 | _,[]=>[]
 | k,e::r=>(if l k=true then e.box (β k) else [])++Sk β l (k+1) r
theorem Mo (β:Nat→Nat×Nat):∀(r:List Ey) (k j:Nat),j<r.length→(LP β k r).getD j .skip= .free ((r.getD j .skip).v (β (k+j)))
 | [],k,j,h=>by simp at h
 | e::r,k,0,h=>by simp[LP]
 | e::r,k,j+1,h=>by
  have:=Mo β r (k+1) j (by simpa using h);simp only[LP,List.getD_cons_succ];rw[this,show k+1+j=k+(j+1) by omega]
theorem Ug (β:Nat→Nat×Nat):∀(r:List Ey) (k:Nat),(LP β k r).length=r.length
 | [],k=>rfl
 | e::r,k=>by simp[LP,Ug β r (k+1)]
theorem Tx (β:Nat→Nat×Nat) {r:List Ey}{k j:Nat}(h:r.length≤j):(LP β k r).getD j .skip= .skip:=by
 rw[List.getD_eq_getElem?_getD,List.getElem?_eq_none (by rw[Ug];exact h)];rfl
theorem aT (β:Nat→Nat×Nat) (r:List Ey) (k j:Nat):((LP β k r).getD j .skip).isEff=false:=by
 rcases Nat.lt_or_ge j r.length with h | h
 ·rw[Mo β r k j h];rfl
 rw[Tx β h];rfl
theorem Vy (β:Nat→Nat×Nat) (r:List Ey) (k j:Nat) (ob:List A8) (v:AV):(LP β k r).getD j .skip≠ .read ob v:=by
 rcases Nat.lt_or_ge j r.length with h | h
 ·rw[Mo β r k j h];simp
 rw[Tx β h];simp
theorem M1 (β:Nat→Nat×Nat) {r:List Ey}{j:Nat}(h:j<r.length):((LP β 0 r).getD j .skip).val=(r.getD j .skip).v (β j):=by
 rw[Mo β r 0 j h,Nat.zero_add];rfl
theorem EW.facts {P:Program}{ops:Array Oper}{H₀:List A8}{τ:Nat→AV}{base:List Ey}(β:Nat→Nat×Nat):∀(r:List Ey) (k:Nat) (τk:Nat→AV) (K:(Nat→AV)→List A8→Prop),base.drop k=r→k+r.length=base.length→τk=τS ops (LP β 0 base) τ k→EW P ops H₀ k τk r K →
  (∀j,k≤j→j<base.length→∃o,ops[j]?=some o∧cz P ops H₀ o (τS ops (LP β 0 base) τ j) (base.getD j .skip))∧K (τS ops (LP β 0 base) τ base.length) (gG β k r)
 | [],k,τk,K,hd,hk,ht,h=>by
  simp only[List.length_nil,Nat.add_zero] at hk;subst hk;exact⟨fun j h1 h2=>by omega,by rw[←ht];exact h⟩
 | e::r,k,τk,K,hd,hk,ht,h=>by
  obtain⟨o,ho,hok,hn⟩:=h;simp only[List.length_cons] at hk;have hb:base.getD k .skip=e:=by
   have:(base.drop k)[0]?=some e:=by rw[hd];rfl
   rw[List.getElem?_drop] at this;rw[List.getD_eq_getElem?_getD,show k=k+0 by omega,this];rfl
  have hd2:base.drop (k+1)=r:=by
   rw[←List.drop_drop,hd];rfl
  obtain⟨h1,h2⟩:=EW.facts (τ:=τ) (base:=base) β r (k+1) _ _ hd2 An (by simp only[τS,ho,Option.bind_some];rw[M1 β An,hb,←ht]) (hn (β k));refine⟨fun j hj hl=>?_,h2⟩;by_cases e2:j=k
  ·subst e2;exact⟨o,ho,by rw[hb,←ht];exact hok⟩
  exact h1 j An hl
theorem LQ {β β':Nat→Nat×Nat}{l l':Nat→Bool}:∀(r:List Ey) (k:Nat),(∀j,k≤j→l j=l' j∧(l j=true→β j=β' j))→Sk β l k r=Sk β' l' k r
 | [],k,h=>rfl
 | e::r,k,h=>by
  simp only[Sk];obtain⟨h1,h2⟩:=h k (Nat.le_refl _);rw[LQ r (k+1) fun j hj=>h j An,←h1];cases hl:l k
  ·rfl
  rw[h2 hl]
theorem UA {β:Nat→Nat×Nat}{l:Nat→Bool}{i:Nat}{b:Nat×Nat}(hi:l i=false):∀(r:List Ey) (k:Nat),k≤i→i<k+r.length→((r.getD (i - k) .skip).box b++Sk β l k r).Perm (Sk (fun j=>if j=i then b else β j) (fun j=>l j||j==i) k r)
 | [],k,h1,h2=>by simp at h2;omega
 | e::r,k,h1,h2=>by
  simp only[Sk];by_cases hk:k=i
  ·subst hk;simp only[hi,Bool.false_eq_true,if_false,List.nil_append,Nat.sub_self,List.getD_cons_zero,beq_self_eq_true,Bool.or_true,if_true];rw[LQ (β':=fun j=>if j=k then b else β j) (l':=fun j=>l j||j==k) r (k+1) fun j hj=>⟨by simp[show (j==k)=false by simp;omega],fun _=>by rw[if_neg An]⟩]
  have hp:=UA (β:=β) hi r (k+1) (b:=b) An (by simp only[List.length_cons] at h2;omega);have e1:(e::r).getD (i - k) .skip=r.getD (i - (k+1)) .skip:=by
   rw[show i - k=(i - (k+1))+1 by omega];rfl
  have e2:(if (l k||k==i)=true then e.box (if k=i then b else β k) else [])=(if l k=true then e.box (β k) else []):=by
   rw[if_neg hk];simp[hk]
  rw[e1,e2];refine List.Perm.trans ?_ (hp.append_left _);rw[←List.append_assoc,←List.append_assoc];exact List.perm_append_comm.append_right _
theorem UF {β:Nat→Nat×Nat}{l:Nat→Bool}:∀(r:List Ey) (k:Nat),(∀j,k≤j→j<k+r.length→l j=true)→Sk β l k r=gG β k r
 | [],k,h=>rfl
 | e::r,k,h=>by
  simp only[Sk,gG];rw[if_pos (h k (Nat.le_refl _) Ao),UF r (k+1) fun j h1 h2=>h j An (by simp only[List.length_cons];omega)]
theorem R0 {β:Nat→Nat×Nat}{l:Nat→Bool}:∀(r:List Ey) (k:Nat),(∀j,l j=false)→Sk β l k r=[]
 | [],k,h=>rfl
 | e::r,k,h=>by simp only[Sk];rw[R0 r (k+1) h,h k];rfl
def Ui (ops:Array Oper) (e:Nat):Bool:=(List.range ops.size).all fun i=>Nat.blt i e||(List.range i).all fun j=>J2 ops j i
theorem GH {ops:Array Oper}{e:Nat}(h:Ui ops e=true) {i j:Nat}(hi:e≤i) (hs:i<ops.size) (hj:j<i):Pred ops j i:=by
 have:=List.all_eq_true.1 h i (by simpa using hs);simp only[Bool.or_eq_true] at this;rcases this with h1 | h1
 ·rw[Nat.blt_eq] at h1;omega
 exact D4 (List.all_eq_true.1 h1 j (by simpa using hj))
theorem D8 {P:Program}{r:Option Nat}{ops:Array Oper}{id n:Nat}{τ:Nat→AV}{H:List A8}{D:List DV}{Q:CV→Be→Prop}(base:List Ey) (hm:P.follows .mixedOrders=true)
  (he:Nat.ble base.length ops.size=true) (chk:KD ops n []=true) (late:Ui ops base.length=true) (h:EW P ops H 0 τ base (fun τ' Hs=>AL P r ops base.length ⟨n,τ',Hs++H,D⟩ Q)):Gj P r (.region id ops true) ⟨n,τ,H,D⟩ Q:=by
 intro F₀ a₀ w₀ hs₀;rw[Nat.ble_eq] at he;refine wpIn_region_any hm ?_;have same:Cs F₀ w₀ F₀ { w₀ with drawn:=w₀.drawn+1 }:=⟨Nat.le_refl _,fun _ _ _=>rfl,fun _ h _=>h⟩;have t₀:Trans F₀ H w₀ F₀ H { w₀ with drawn:=w₀.drawn+1 } :=
  ⟨Nat.le_refl _,fun _ _ _=>rfl,fun _ h _=>h,fun _ h=> .inl h,fun o ho b hb=> .inl ⟨o,ho,hb⟩,rfl,rfl,rfl⟩
 have hs₁:Cy F₀ ⟨n,τ,H,D⟩ a₀ { w₀ with drawn:=w₀.drawn+1 } :=
  ⟨hs₀.size,fun t=>B2.mono same _ _ (hs₀.tmp t),hs₀.heap.stable' same (fun _ h=>h) (fun _ _ _ _=>rfl) hs₀.heap.bd,EC.mono same _ _ hs₀.defs⟩
 obtain⟨hdst,c0,c1,c2,_⟩:=IE chk;have hd:∀β,LI P ops n (fun _=>False) τ H (LP β 0 base):=fun β =>
  ⟨hdst,fun _ _ _ h=>h.elim,c0,c1,c2,fun i k _ _ h _=>(by rw[aT] at h;cases h),fun i e ob v _ _ _ h _ _=>absurd h (Vy β base 0 i ob v)⟩
 have hE:∀β,(∀j,j<base.length→∃o,ops[j]?=some o∧cz P ops H o (τS ops (LP β 0 base) τ j) (base.getD j .skip))∧AL P r ops base.length ⟨n,τS ops (LP β 0 base) τ base.length,gG β 0 base++H,D⟩ Q:=fun β=>by
  obtain⟨h1,h2⟩:=EW.facts (base:=base) β base 0 τ _ Ao Ao rfl h;exact⟨fun j hj=>h1 j (Nat.zero_le _) hj,h2⟩
 -- where all of the first part has been carried out,the rest goes in the order of the text
 have conv:∀{l:Array Bool} {a w β τ' F Hb},(∀j,j<base.length→l.getD j false=true)→(∀k,base.length≤k→l.getD k false=false)→Db ops (LP β 0 base) τ (fun i=>l.getD i false=true) τ'→Hb.Perm (Sk β (fun k=>l.getD k false) 0 base)→Cy F ⟨n,τ',Hb++H,D⟩ a w→Trans F₀ H w₀ F (Hb++H) w →
   wpOpsIn (W r) 0 P ops (post F₀ H w₀ Q) (List.range' base.length (ops.size - base.length)) a w:=by
  intro l a w β τ' F Hb hall hno hτ hp hs ht;have hτe:τ'=τS ops (LP β 0 base) τ base.length:=by
   funext t;have h2:=Ic (hd β) base.length he t;by_cases hw:∃(k:Nat) (o':Oper),ops[k]?=some o'∧o'.dst=some t∧k<base.length
   ·obtain⟨k,o',ho',hk,hlt⟩:=hw;rw[(hτ t).1 k o' ho' hk (hall k hlt),h2.1 k o' ho' hk hlt]
   have hw':∀(k:Nat) o',ops[k]?=some o'→o'.dst=some t→¬k<base.length:=fun k o' h1 h2 h3=>hw ⟨k,o',h1,h2,h3⟩;rw[(hτ t).2 fun k o' h1 h2 h3=>(by have h4:l.getD k false=true:=h3;have:=hno k (by have:=hw' k o' h1 h2;omega);rw[this] at h4;cases h4),h2.2 fun k o' h1 h2 h3=>hw' k o' h1 h2 h3]
  rw[UF base 0 fun j _ hj=>hall j An] at hp;have hp2:=hp.append_right H;have:=(hE β).2 F a w (by rw[←hτe];exact⟨hs.size,hs.tmp,hs.heap.perm hp2,hs.defs⟩);refine DO (fun e a' w' hq=>?_) _ _ _ this;exact EL hs₀.heap.bd { ht with keys:=fun o ho=>ht.keys o (hp2.mem_iff.2 ho) } hq
 refine IG (I:=fun l a w=>l.size=ops.size∧((∃β τ' F Hb,Down ops (fun i=>l.getD i false=true)∧(∀k,base.length≤k→l.getD k false=false)∧Db ops (LP β 0 base) τ (fun i=>l.getD i false=true) τ'∧Hb.Perm (Sk β (fun k=>l.getD k false) 0 base)∧Cy F ⟨n,τ',Hb++H,D⟩ a w∧Trans F₀ H w₀ F (Hb++H) w) ∨
  (∃m,base.length≤m∧m≤ops.size∧(∀k,k<ops.size→(l.getD k false=true↔k<m))∧wpOpsIn (W r) 0 P ops (post F₀ H w₀ Q) (List.range' m (ops.size - m)) a w))) (fun l a w h=>h.1) ?_ ?_ _ _ _ _ ?_ ?_
 ·rintro l a w ⟨hsz,hI⟩ i hi;obtain⟨hun,o,ho,hall⟩:=mem_ready.1 hi;have hlt:i<ops.size:=by
   rcases Nat.lt_or_ge i ops.size with h | h
   ·exact h
   simp[Array.getElem?_eq_none h] at ho
  have hil:i<l.size:=by omega
  have hnot:l.getD i false=false:=by
   have:l[i]=false:=by simpa [hil] using hun
   simp[hil,this]
  have hr:∀j∈CZ o,l.getD j false=true:=by
   intro j hj;simp only[CZ,List.mem_map,List.mem_filter] at hj;obtain⟨e,⟨he,hb⟩,rfl⟩:=hj;exact hall e (by simpa using he) hb
  have hset:∀k,(l.setIfInBounds i true).getD k false=true↔(l.getD k false=true∨k=i):=by
   intro k;by_cases hk:k=i
   ·subst hk;simp[hil]
   simp[Array.getElem?_setIfInBounds_ne (Ne.symm hk),hk]
  have hset2:∀k,(l.setIfInBounds i true).getD k false=(l.getD k false||k==i):=by
   intro k;by_cases hk:k=i
   ·subst hk;simp[hil]
   simp[Array.getElem?_setIfInBounds_ne (Ne.symm hk),hk]
  have hsz':(l.setIfInBounds i true).size=ops.size:=by simp[hsz]
  have goLate:∀m,i=m→base.length≤m→m≤ops.size→(∀k,k<ops.size→(l.getD k false=true↔k<m))→wpOpsIn (W r) 0 P ops (post F₀ H w₀ Q) (List.range' m (ops.size - m)) a w →
    wpOpIn (W r) 0 P ops (post F₀ H w₀ Q) i (fun a w=>(l.setIfInBounds i true).size=ops.size∧((∃β τ' F Hb,Down ops (fun k=>(l.setIfInBounds i true).getD k false=true)∧(∀k,base.length≤k→(l.setIfInBounds i true).getD k false=false)∧Db ops (LP β 0 base) τ (fun k=>(l.setIfInBounds i true).getD k false=true) τ'∧Hb.Perm (Sk β (fun k=>(l.setIfInBounds i true).getD k false) 0 base)∧Cy F ⟨n,τ',Hb++H,D⟩ a w∧Trans F₀ H w₀ F (Hb++H) w) ∨
     (∃m,base.length≤m∧m≤ops.size∧(∀k,k<ops.size→((l.setIfInBounds i true).getD k false=true↔k<m))∧wpOpsIn (W r) 0 P ops (post F₀ H w₀ Q) (List.range' m (ops.size - m)) a w))) a w:=by
   intro m him h1 h2 h3 hw;subst him;rw[GP hlt,wpOpsIn_cons] at hw;refine wpOpIn_mono (fun a' w' h'=>⟨hsz',.inr ⟨i+1,by omega,by omega,fun k hk=>?_,h'⟩⟩) hw;rw[hset k,h3 k hk];omega
  rcases hI with ⟨β,τ',F,Hb,hdown,hno,hτ,hp,hs,ht⟩ | ⟨m,hm1,hm2,hm3,hw⟩
  ·rcases Nat.lt_or_ge i base.length with hib | hib
   ·-- of the first part
    obtain⟨o',ho',hok⟩:=(hE β).1 i hib;rw[ho] at ho';injection ho' with ho';subst ho';have hlook:∀t∈looks ops o,τ' t=τS ops (LP β 0 base) τ i t:=fun t ht=>IC (hd β) hdown hτ ho (by rw[hnot];decide) hr ht;have hops:∀x∈o.op.operands.toList,ev τ' x=ev (τS ops (LP β 0 base) τ i) x:=by
     intro x hx;cases x with
     | tmp t=>exact hlook t (List.mem_append_left _ (List.mem_filterMap.2 ⟨.tmp t,hx,rfl⟩))
     | _=>rfl
    have hguard:∀j want d,o.guard=some (j,want)→(ops[j]?).bind (·.dst)=some d→τ' d=τS ops (LP β 0 base) τ i d:=by
     intro j want d hg hj;refine hlook d (List.mem_append_right _ ?_);simp[hg,hj]
    have hdown':Down ops (fun k=>(l.setIfInBounds i true).getD k false=true):=by
     intro k o' j ho' hk hj;rcases (hset k).1 hk with h | h
     ·exact(hset j).2 (.inl (hdown k o' j ho' h hj))
     subst h;rw[ho] at ho';injection ho' with ho';subst ho';exact(hset j).2 (.inl (hr j hj))
    have hno':∀k,base.length≤k→(l.setIfInBounds i true).getD k false=false:=by
     intro k hk;rw[hset2 k,hno k hk];simp;omega
    generalize hbe:base.getD i .skip=e at hok;have close:∀{a' w' F' b H'},H'=e.box b++(Hb++H)→Cy F' ⟨n,put τ' o.dst (e.v b),H',D⟩ a' w'→Trans F (Hb++H) w F' H' w' →
      (l.setIfInBounds i true).size=ops.size∧((∃β τ' F Hb,Down ops (fun k=>(l.setIfInBounds i true).getD k false=true)∧(∀k,base.length≤k→(l.setIfInBounds i true).getD k false=false)∧Db ops (LP β 0 base) τ (fun k=>(l.setIfInBounds i true).getD k false=true) τ'∧Hb.Perm (Sk β (fun k=>(l.setIfInBounds i true).getD k false) 0 base)∧Cy F ⟨n,τ',Hb++H,D⟩ a' w'∧Trans F₀ H w₀ F (Hb++H) w') ∨
       (∃m,base.length≤m∧m≤ops.size∧(∀k,k<ops.size→((l.setIfInBounds i true).getD k false=true↔k<m))∧wpOpsIn (W r) 0 P ops (post F₀ H w₀ Q) (List.range' m (ops.size - m)) a' w')):=by
     intro a' w' F' b H' hH h3 h4;subst hH;refine⟨hsz',.inl ⟨fun j=>if j=i then b else β j,put τ' o.dst (e.v b),F',e.box b++Hb,hdown',hno',?_,?_,by rw[List.append_assoc];exact h3,by rw[List.append_assoc];exact ht.trans hs₀.heap.bd h4⟩⟩
     ·have hτ2:Db ops (LP (fun j=>if j=i then b else β j) 0 base) τ (fun k=>l.getD k false=true) τ':=by
       intro t;refine⟨fun k o' a1 a2 a3=>?_,(hτ t).2⟩;have a4:l.getD k false=true:=a3;have hki:k≠i:=fun e=>by subst e;rw[hnot] at a4;cases a4
       rw[(hτ t).1 k o' a1 a2 a3];rcases Nat.lt_or_ge k base.length with hk | hk
       ·rw[M1 _ hk,M1 _ hk,if_neg hki]
       have:=hno k hk;rw[this] at a4;cases a4
      have hτ3:=hτ2.put (hd _) ho;rw[M1 _ hib,if_pos rfl,hbe] at hτ3;intro t;exact⟨fun k o' a1 a2 a3=>(hτ3 t).1 k o' a1 a2 ((hset k).1 a3),fun hn=>(hτ3 t).2 fun k o' a1 a2 a3=>hn k o' a1 a2 ((hset k).2 a3)⟩
     have h1:=UA (β:=β) (l:=fun k=>l.getD k false) (i:=i) (b:=b) hnot base 0 (Nat.zero_le _) An;rw[Nat.sub_zero,hbe] at h1;refine(hp.append_left _).trans (h1.trans (List.Perm.of_eq ?_));exact LQ base 0 fun j _=>⟨(hset2 j).symm,fun _=>O⟩
    have wants:CY ops ⟨0,τS ops (LP β 0 base) τ i,[],[]⟩ o→CY ops ⟨n,τ',Hb++H,D⟩ o:=by
     intro h;unfold CY at *;cases hg:o.guard with
     | none=>simp[hg]
     | some jw =>
      obtain⟨j,want⟩:=jw;simp only[hg] at h ⊢;obtain⟨d,h1,h2⟩:=h;exact⟨d,h1,by rw[←h2];exact hguard j want d hg h1⟩
    have yields:CY ops ⟨n,τ',Hb++H,D⟩ o→Cc P o (ev (τS ops (LP β 0 base) τ i)) (Hb++H) (fun r H'=>match r with | .val v=>∃b,v=e.v b∧H'=e.box b++(Hb++H) | .panic _=>False)→wpOpIn (W r) 0 P ops (post F₀ H w₀ Q) i (fun a' w'=>(l.setIfInBounds i true).size=ops.size∧((∃β τ' F Hb,Down ops (fun k=>(l.setIfInBounds i true).getD k false=true)∧(∀k,base.length≤k→(l.setIfInBounds i true).getD k false=false)∧Db ops (LP β 0 base) τ (fun k=>(l.setIfInBounds i true).getD k false=true) τ'∧Hb.Perm (Sk β (fun k=>(l.setIfInBounds i true).getD k false) 0 base)∧Cy F ⟨n,τ',Hb++H,D⟩ a' w'∧Trans F₀ H w₀ F (Hb++H) w') ∨
       (∃m,base.length≤m∧m≤ops.size∧(∀k,k<ops.size→((l.setIfInBounds i true).getD k false=true↔k<m))∧wpOpsIn (W r) 0 P ops (post F₀ H w₀ Q) (List.range' m (ops.size - m)) a' w'))) a w:=by
     intro hwant hop;unfold wpOpIn;simp only[ho,Fj hs hwant,if_true];have hw:=hop r F _ a w hs rfl (fun x hx=>hops x hx) (fun t ht=>hdst i o t ho ht);unfold Oper.wpIn at *;refine⟨hw.1,?_⟩;replace hw:=hw.2;generalize (o.semAt (W r).round a.eval).run P w=rr at *;cases rr with
     | ok nx w' =>
      cases nx<;>simp only[Oper.uponIn] at hw ⊢
      case value u=>obtain⟨v',H'',F',⟨b,h1,h2⟩,h3,h4⟩:=hw;subst h1;exact close h2 h3 h4
      case skip=>obtain⟨v',H'',F',⟨b,h1,h2⟩,h3,h4⟩:=hw;subst h1;exact close h2 h3 h4
      case defer d=>obtain⟨v',H'',F',⟨b,h1,h2⟩,h3,h4⟩:=hw;subst h1;exact close h2 h3 h4
      case enter f args =>
       refine⟨hw.1,hw.2.mono fun e w'' he=>?_⟩;cases e with
       | returned u=>obtain⟨v',H'',F',⟨b,h1,h2⟩,h3,h4⟩:=he;subst h1;exact close h2 h3 h4
       | panicked c=>obtain⟨_,_,_,_,h,_⟩:=he;exact h.elim
       | outgrown=>obtain⟨_,_,_,_,_,_,h,_⟩:=he;exact h.elim
      case row row args=>exact⟨hw.1,hw.2.mono fun u w'' h=>by obtain⟨v',H'',F',⟨b,h1,h2⟩,h3,h4⟩:=h;subst h1;exact close h2 h3 h4⟩
      case round l' f tmps assign body =>
       refine⟨hw.1,hw.2.mono fun e w'' he=>?_⟩;cases e with
       | returned u=>obtain⟨v',H'',F',⟨b,h1,h2⟩,h3,h4⟩:=he;subst h1;exact close h2 h3 h4
       | panicked c=>obtain⟨_,_,_,_,h,_⟩:=he;exact h.elim
       | outgrown=>obtain⟨_,_,_,_,_,_,h,_⟩:=he;exact h.elim
     | halt x w' =>
      cases x<;>simp only[Oper.uponIn] at hw ⊢
      case panic u=>obtain⟨_,_,_,_,h,_⟩:=hw;exact h.elim
    cases e with
    | val v=>exact yields (wants hok.1) ((hok.2 Hb).mono (by
      intro r H' hR;cases r with
      | val v'=>obtain⟨rfl,rfl⟩:=hR;exact⟨(0,0),rfl,rfl⟩
      | panic v'=>exact hR.elim))
    | new cs =>
     refine yields (by unfold CY;rw[hok.1];trivial) ((hok.2 _).mono ?_);intro r H' hR;cases r with
     | val v'=>obtain⟨b,rfl,rfl⟩:=hR;exact⟨(b,0),rfl,rfl⟩
     | panic v'=>exact hR.elim
    | newv sz rows =>
     refine yields (by unfold CY;rw[hok.1];trivial) ((hok.2 _).mono ?_);intro r H' hR;cases r with
     | val v'=>obtain⟨b,c,rfl,rfl⟩:=hR;exact⟨(b,c),rfl,rfl⟩
     | panic v'=>exact hR.elim
    | skip =>
     obtain⟨j,want,d,hg,hj,hb⟩:=hok;have hw:Region.wanted o (yielded ops a.tmps)=false:=IK (S:=⟨n,τ',Hb++H,D⟩) hs hg hj (by show Xh (τ' d) want;rw[hguard j want d hg hj];exact hb);unfold wpOpIn;simp only[ho,hw,Bool.false_eq_true,if_false];refine⟨fun _ _=>Ap,close (b:=(0,0)) O ?_ .refl⟩;exact hs.put (fun t ht=>hdst i o t ho ht) ⟨Nat.le_refl _,fun _ _ _=>O,fun _ h _=>h⟩ hs.heap (by simp only[Ey.v,B2,Bl,undef];exact⟨[],rfl,rfl⟩)
   -- the first of the rest
   have hpre:∀j,j<i→l.getD j false=true:=by
    intro j hj;have hpi:=GH late hib hlt hj;have:∀{a b},Pred ops a b→b=i→l.getD a false=true:=by
     intro a b hab
     induction hab with
     | base ho' hj=>intro e;subst e;rw[ho] at ho';injection ho' with ho';subst ho';exact hr _ hj
     | trans p1 _ _ ih2=>intro e;exact hdown.pred p1 (ih2 e)
    exact this hpi O
   have hie:i=base.length:=by
    rcases Nat.lt_or_ge base.length i with h | h
    ·have h1:=hpre base.length h;rw[hno base.length (Nat.le_refl _)] at h1;cases h1
    omega
   refine goLate base.length hie (Nat.le_refl _) he (fun k hk=>⟨fun h=>?_,fun h=>hpre k An⟩) (conv (fun j hj=>hpre j An) hno hτ hp hs ht);rcases Nat.lt_or_ge k base.length with h' | h'
   ·exact h'
   rw[hno k h'] at h;cases h
  have hmi:m≤i:=by
   rcases Nat.lt_or_ge i m with h | h
   ·have:=(hm3 i hlt).2 h;rw[hnot] at this;cases this
   exact h
  have him:i=m:=by
   rcases Nat.lt_or_ge m i with h | h
   ·have hpi:=GH late (by omega:base.length≤i) hlt h;have hdown:∀{a b},Pred ops a b→b=i→l.getD a false=true:=by
     intro a b hab
     induction hab with
     | base ho' hj=>intro e;subst e;rw[ho] at ho';injection ho' with ho';subst ho';exact hr _ hj
     | @trans a k b p1 p2 _ ih2 =>
      intro e;have hk:=ih2 e;have hks:k<ops.size:=by
       rcases Nat.lt_or_ge k ops.size with h | h
       ·exact h
       have:l.getD k false=false:=by
        have:¬k<l.size:=by omega
        simp[this]
       rw[this] at hk;cases hk
      have hkm:=(hm3 k hks).1 hk;have hak:a<k:=Pred.lt (hd fun _=>(0,0)) p1;exact(hm3 a An).2 An
    have:=(hm3 m An).1 (hdown hpi rfl);omega
   omega
  exact goLate m him hm1 hm2 hm3 hw
 ·rintro l a w ⟨hsz,hI⟩ hr;have hall:∀i,i<ops.size→l.getD i false=true:=by
   intro i
   induction i using Nat.strongRecOn with
   | _ i ih =>
    intro hi;cases hq:l.getD i false with
    | true=>rfl
    | false =>
     have ho:ops[i]?=some ops[i]:=Array.getElem?_eq_getElem hi;have:i∈Region.ready .any ops l:=by
      refine mem_ready.2 ⟨?_,ops[i],ho,?_⟩
      ·have:i<l.size:=by omega
       simp[this] at hq ⊢;exact hq
      intro e he hb;have hj:e.on∈CZ ops[i]:=by
       simp only[CZ,List.mem_map,List.mem_filter];exact⟨e,⟨by simpa using he,hb⟩,rfl⟩
      have hlt:=c0 i _ _ ho hj;exact ih e.on hlt An
     rw[hr] at this;cases this
  rcases hI with ⟨β,τ',F,Hb,hdown,hno,hτ,hp,hs,ht⟩ | ⟨m,hm1,hm2,hm3,hw⟩
  ·have hbs:base.length=ops.size:=by
    rcases Nat.lt_or_ge base.length ops.size with h | h
    ·have:=hall base.length h;rw[hno base.length (Nat.le_refl _)] at this;cases this
    omega
   have:=conv (fun j hj=>hall j An) hno hτ hp hs ht;rw[hbs,Nat.sub_self] at this;exact this
  have hms:m=ops.size:=by
   rcases Nat.lt_or_ge m ops.size with h | h
   ·have:=(hm3 m h).1 (hall m h);omega
   omega
  rw[hms,Nat.sub_self] at hw;exact hw
 ·refine⟨by simp,.inl ⟨fun _=>(0,0),τ,F₀,[],?_,?_,?_,?_,hs₁,t₀⟩⟩
  ·intro i o j ho hi;by_cases h:i<ops.size<;>simp[h] at hi
  ·intro k _;by_cases h:k<ops.size<;>simp[h]
  ·intro t;refine⟨fun k o ho hk hl=>?_,fun _=>O⟩;by_cases h:k<ops.size<;>simp[h] at hl
  rw[R0 base 0 fun j=>by by_cases h:j<ops.size<;>simp[h]]
 have:=List.length_filter_le (fun b:Bool=> !b) (Array.replicate ops.size false).toList;simp at this ⊢
section
variable {P:Program}{ops:Array Oper}{H₀:List A8}{k:Nat}{τ:Nat→AV}{r:List Ey}{K:(Nat→AV)→List A8→Prop}{dst:Option Tmp}{op:Op}{ty:TypeId}{pos:String}{aft:Array Edge}{v:AV}
theorem BN (ho:ops[k]?=some ⟨dst,op,ty,pos,aft,none⟩) (h:∀Bs,DT P ⟨dst,op,ty,pos,aft,none⟩ (ev τ) (Bs++H₀) v (Bs++H₀)) (next:EW P ops H₀ (k+1) (put τ dst v) r K):EW P ops H₀ k τ (.val v::r) K :=
 ⟨_,ho,⟨trivial,h⟩,fun _=>next⟩
theorem FB {cs:List AV}(ho:ops[k]?=some ⟨dst,op,ty,pos,aft,none⟩) (h:∀Bs,Cc P ⟨dst,op,ty,pos,aft,none⟩ (ev τ) (Bs++H₀) (GC cs (Bs++H₀))) (next:∀b,EW P ops H₀ (k+1) (put τ dst (.ptr b 0)) r (fun τ' Hs=>K τ' (.box b cs::Hs))):EW P ops H₀ k τ (.new cs::r) K :=
 ⟨_,ho,⟨rfl,h⟩,fun b=>next b.1⟩
theorem FD (h:K τ []):EW P ops H₀ k τ [] K:=h
theorem CL {α:Type}{Bs H:List α}{j:Nat}{x:α}(h:H[j]?=some x):(Bs++H)[Bs.length+j]?=some x:=by
 rw[List.getElem?_append_right An,Nat.add_sub_cancel_left];exact h
theorem JM {c:Call}{f:Operand}{fid:FuncId}{first caps A:List AV}{ρ:Operand→AV}{H Hs:List A8}{g:Option (Nat×Bool)}{Bs:List A8}(is:List Nat) (hc:c.callee= .value f) (hf:(ρ f= .p (.fn fid)∧first=[]∧caps=[])∨ρ f= .fn (.func fid) first caps) (h:Br P fid A Hs (FV v Hs)) (hg:D2 H is Hs) (hn:is.Nodup) (hA:Ek (first++c.args.toList.map ρ++caps) A) :
  DT P ⟨dst,.call c,ty,pos,aft,g⟩ ρ (Bs++H) v (Bs++H):=by
 have hp:(Bs++H).Perm (Hs++(Bs++Ci is 0 H)):=by
  refine((C8 hn hg).append_left Bs).trans ?_;rw[←List.append_assoc,←List.append_assoc];exact List.perm_append_comm.append_right _
 refine Cc.permR (El (H:=Bs++H) hc hf hp (h.args hA) (.inl O)) ?_;rintro r H' ⟨Hs',h1,rfl⟩;cases r with
 | val v'=>obtain⟨rfl,rfl⟩:=h1;exact⟨Bs++H,hp.symm,rfl,rfl⟩
 | panic v'=>exact h1.elim
end
theorem MQ {α:Type}:∀{l H:List α},l.Nodup→(∀x∈l,x∈H)→∃r,H.Perm (l++r)
 | [],H,_,_=>⟨H,by simp⟩
 | a::l,H,hn,hs=>by
  obtain⟨s,t,rfl⟩:=List.append_of_mem (hs a Ao);have hn':=List.nodup_cons.1 hn;obtain⟨r,hr⟩:=MQ (l:=l) (H:=s++t) hn'.2 fun x hx=>by
   have:=hs x (by simp[hx]);simp only[List.mem_append,List.mem_cons] at this ⊢;rcases this with h | rfl | h
   ·exact .inl h
   ·exact absurd hx hn'.1
   exact .inr h
  exact⟨r,List.perm_middle.trans (by simpa using hr.cons a)⟩
def WJ (ops:Array Oper) (k:Nat) (ef:RH):List A8→Prop
 | []=>True
 | ob::r=>Rx ops k ob ef∧WJ ops k ef r
theorem O4 {ops:Array Oper}{k:Nat}{ef:RH}:∀{l:List A8},WJ ops k ef l→∀ob∈l,Rx ops k ob ef
 | [],_,ob,h=>by simp at h
 | a::l,h,ob,hm=>by
  rcases List.mem_cons.1 hm with rfl | hm
  ·exact h.1
  exact O4 h.2 ob hm
theorem NK {α:Type}{H:List α}:∀{is:List Nat}{xs:List α},D2 H is xs→∀x∈xs,x∈H
 | [],xs,h,x,hx=>by simp only[D2] at h;subst h;simp at hx
 | i::is,xs,h,x,hx=>by
  obtain⟨y,xs',rfl,hy,hr⟩:=h;rcases List.mem_cons.1 hx with rfl | hx
  ·exact List.mem_of_getElem? hy
  exact NK hr x hx
theorem JF {α:Type}{a b:α}(h:a≠b):[a,b].Nodup:=by simp[h]
section
variable {P:Program}{ops:Array Oper}{n:Nat}{τ₀:Nat→AV}{D:List DV}{Q:CV→Be→Prop}{opn:Nat→Bool}{k:Nat}{τ:Nat→AV}{H Hs:List A8}{rd:Sj}{ef:RH}{effs:List Bool}{fx:List (Nat×Sp)}{dst:Option Tmp}{ty:TypeId}{pos:String}{aft:Array Edge}{v:AV}{c:Call}{f:Operand}{fid:FuncId}{first caps A:List AV}
theorem FG (is:List Nat) (ho:ops[k]?=some ⟨dst,.call c,ty,pos,aft,none⟩) (hn:opn k=false) (hc:c.callee= .value f) (hf:(ev τ f= .p (.fn fid)∧first=[]∧caps=[])∨ev τ f= .fn (.func fid) first caps) (h:Br P fid A Hs (FV v Hs)) (hg:D2 H is Hs) (hnd:Hs.Nodup) (hA:Ek (first++c.args.toList.map (ev τ)++caps) A)
  (owe:WJ ops k ef Hs) (hfx:F6 k (.read Hs v) fx) (next:Dr P ops n τ₀ D Q opn (k+1) (put τ dst v) H (Hs.map (fun ob=>(k,ob))++rd) ef (false::effs) fx):Dr P ops n τ₀ D Q opn k τ H rd ef effs fx:=by
 refine .step (.read Hs v) ho (.inl hn) ⟨Ap,NK hg,fun H' hm=>?_⟩ (O4 owe) hfx next;obtain⟨r,hp⟩:=MQ hnd hm;refine Cc.permR (El (H:=H') hc hf hp (h.args hA) (.inl O)) ?_;rintro r' H2 ⟨Hs',h1,rfl⟩;cases r' with
 | val v'=>obtain⟨rfl,rfl⟩:=h1;exact⟨H',hp.symm,rfl,rfl⟩
 | panic v'=>exact h1.elim
end
def jA (P:Program) (T:TypeId):Bool :=
 match P.underlying T with
 | some (.struct fs)=>match fs.toList with
  | [f,g]=>f.name != "_" &&g.name != "_" &&Nat.beq f.offset 0&&Nat.beq g.offset 1&&(match P.underlying f.type,P.underlying g.type with | some (.int .i64),some .bool=>true | _,_=>false)&& !P.stoodInHeld T&& !P.eqGuardType P.depth T
  | _=>false
 | _=>false
section
variable {P:Program}{dst:Option Tmp}{ty:TypeId}{pos:String}{aft:Array Edge}{g:Option (Nat×Bool)}{ρ:Operand→AV}{H:List A8}{x y z:Operand}{v:AV}
end
abbrev BV:=Nat×Nat×AV
inductive Ez where
 | val (v:AV)
 | skip
 | new (cs:List AV)
 | newv (sz:Nat) (rows:List (List PV))
 | rel (R:AV→Prop)
def Ez.v (b:BV):Ez→AV
 | .val v=>v
 | .skip=> .tup []
 | .new _=> .ptr b.1 0
 | .newv _ rows=> .vs (some b.1) rows.length b.2.1
 | .rel _=>b.2.2
def Ez.box (b:BV):Ez→List A8
 | .new cs=>[.box b.1 cs]
 | .newv sz rows=>[.vec (some b.1) sz rows b.2.1]
 | _=>[]
def Ez.ok (b:BV):Ez→Prop
 | .rel R=>R b.2.2
 | _=>True
def eQ:List Ez→Prop
 | []=>True
 | .rel R::r=>(∃v,R v)∧eQ r
 | _::r=>eQ r
def WN (P:Program) (ops:Array Oper) (H₀:List A8) (o:Oper) (τ:Nat→AV):Ez→Prop
 | .val v=>CY ops ⟨0,τ,[],[]⟩ o∧∀Bs,DT P o (ev τ) (Bs++H₀) v (Bs++H₀)
 | .skip=>∃j want d,o.guard=some (j,want)∧(ops[j]?).bind (·.dst)=some d∧Xh (τ d) want
 | .new cs=>o.guard=none∧∀Bs,Cc P o (ev τ) (Bs++H₀) (GC cs (Bs++H₀))
 | .newv sz rows=>o.guard=none∧∀Bs,Cc P o (ev τ) (Bs++H₀) (Gp sz rows (Bs++H₀))
 | .rel R=>o.guard=none∧∀Bs,Cc P o (ev τ) (Bs++H₀) (Rp R (Bs++H₀))
def EV (P:Program) (ops:Array Oper) (H₀:List A8):Nat→(Nat→AV)→List Ez→((Nat→AV)→List A8→Prop)→Prop
 | _,τ,[],K=>K τ []
 | k,τ,e::r,K=>∃o,ops[k]?=some o∧WN P ops H₀ o τ e∧∀b,e.ok b→EV P ops H₀ (k+1) (put τ o.dst (e.v b)) r (fun τ' Hs=>K τ' (e.box b++Hs))
def QW (β:Nat→BV):Nat→List Ez→List Sp
 | _,[]=>[]
 | k,e::r=> .free (e.v (β k))::QW β (k+1) r
def j8 (β:Nat→BV):Nat→List Ez→List A8
 | _,[]=>[]
 | k,e::r=>e.box (β k)++j8 β (k+1) r
def mj (β:Nat→BV) (l:Nat→Bool):Nat→List Ez→List A8
 | _,[]=>[]
 | k,e::r=>(if l k=true then e.box (β k) else [])++mj β l (k+1) r
theorem Tn (β:Nat→BV):∀(r:List Ez) (k j:Nat),j<r.length→(QW β k r).getD j .skip= .free ((r.getD j .skip).v (β (k+j)))
 | [],k,j,h=>by simp at h
 | e::r,k,0,h=>by simp[QW]
 | e::r,k,j+1,h=>by
  have:=Tn β r (k+1) j (by simpa using h);simp only[QW,List.getD_cons_succ];rw[this,show k+1+j=k+(j+1) by omega]
theorem LK (β:Nat→BV) {r:List Ez}{j:Nat}(h:j<r.length):((QW β 0 r).getD j .skip).val=(r.getD j .skip).v (β j):=by
 rw[Tn β r 0 j h,Nat.zero_add];rfl
theorem EV.facts {P:Program}{ops:Array Oper}{H₀:List A8}{τ:Nat→AV}{base:List Ez}(β:Nat→BV):∀(r:List Ez) (k:Nat) (τk:Nat→AV) (K:(Nat→AV)→List A8→Prop),base.drop k=r→k+r.length=base.length→τk=τS ops (QW β 0 base) τ k→EV P ops H₀ k τk r K→(∀j,k≤j→j<base.length→(base.getD j .skip).ok (β j)) →
  (∀j,k≤j→j<base.length→∃o,ops[j]?=some o∧WN P ops H₀ o (τS ops (QW β 0 base) τ j) (base.getD j .skip))∧K (τS ops (QW β 0 base) τ base.length) (j8 β k r)
 | [],k,τk,K,hd,hk,ht,h,hβ=>by
  simp only[List.length_nil,Nat.add_zero] at hk;subst hk;exact⟨fun j h1 h2=>by omega,by rw[←ht];exact h⟩
 | e::r,k,τk,K,hd,hk,ht,h,hβ=>by
  obtain⟨o,ho,hok,hn⟩:=h;simp only[List.length_cons] at hk;have hb:base.getD k .skip=e:=by
   have:(base.drop k)[0]?=some e:=by rw[hd];rfl
   rw[List.getElem?_drop] at this;rw[List.getD_eq_getElem?_getD,show k=k+0 by omega,this];rfl
  have hd2:base.drop (k+1)=r:=by
   rw[←List.drop_drop,hd];rfl
  obtain⟨h1,h2⟩:=EV.facts (τ:=τ) (base:=base) β r (k+1) _ _ hd2 An (by simp only[τS,ho,Option.bind_some];rw[LK β An,hb,←ht]) (hn (β k) (by have:=hβ k (Nat.le_refl _) An;rwa [hb] at this)) (fun j h1 h2=>hβ j An h2);refine⟨fun j hj hl=>?_,h2⟩;by_cases e2:j=k
  ·subst e2;exact⟨o,ho,by rw[hb,←ht];exact hok⟩
  exact h1 j An hl
theorem eQ.pick:∀(l:List Ez),eQ l→∃β:Nat→BV,∀j,j<l.length→(l.getD j .skip).ok (β j)
 | [],_=>⟨fun _=>(0,0,.p .any),fun j h=>by simp at h⟩
 | e::r,h=>by
  have h2:eQ r∧∃b,e.ok b:=by
   cases e with
   | rel R=>exact⟨h.2,let ⟨v,hv⟩:=h.1;⟨(0,0,v),hv⟩⟩
   | _=>exact⟨h,(0,0,.p .any),trivial⟩
  obtain⟨β,hβ⟩:=eQ.pick r h2.1;obtain⟨b,hb⟩:=h2.2;refine⟨fun j=>match j with | 0=>b | j+1=>β j,fun j hj=>?_⟩;cases j with
  | zero=>exact hb
  | succ j=>exact hβ j (by simpa using hj)
section
variable {P:Program}{ops:Array Oper}{H₀:List A8}{k:Nat}{τ:Nat→AV}{r:List Ez}{K:(Nat→AV)→List A8→Prop}{dst:Option Tmp}{op:Op}{ty:TypeId}{pos:String}{aft:Array Edge}{v:AV}
end
end Go.Abs
namespace Go.Eu
open Go.Abs
theorem Kx (x:Ck):At (D9 x) 0 [I x.kind]:=At.one
theorem F4 (x:Ck):At (D9 x) 1 [.str x.name]:=At.cons (At.one)
theorem Dk (x:Ck):At (D9 x) 2 [I x.params]:=At.cons (At.cons (At.one))
theorem Gz (x:Ck):At (D9 x) 3 (Bc x.type):=At.cons (At.cons (At.cons (At.front)))
theorem Oj (x:Ck):At (D9 x) 8 (Bc x.value):=At.cons (At.cons (At.cons (At.app (BF _) (At.front))))
theorem Df (x:Ck):At (D9 x) 13 [I x.fixed]:=At.cons (At.cons (At.cons (At.app (BF _) (At.app (BF _) (At.one)))))
theorem DE (x:Ck):At (D9 x) 14 [.lst (x.ctors.map Eg)]:=At.cons (At.cons (At.cons (At.app (BF _) (At.app (BF _) (At.cons (At.one))))))
theorem K6 (x:Ck):At (D9 x) 15 (Hv x.recs):=At.cons (At.cons (At.cons (At.app (BF _) (At.app (BF _) (At.cons (At.cons (At.front)))))))
theorem F5 (x:Ck):At (D9 x) 22 [.lst (x.funs.map KK)]:=At.cons (At.cons (At.cons (At.app (BF _) (At.app (BF _) (At.cons (At.cons (At.app (HY _) (At.one))))))))
theorem Nn (x:Qu):At (Hv x) 0 [I x.params]:=At.one
theorem LL (x:Qu):At (Hv x) 1 (Bc x.type):=At.cons (At.front)
theorem Hz (x:Qu):At (Hv x) 6 [.lst (Av x.rules)]:=At.cons (At.app (BF _) (At.one))
theorem Im (x:HZ):At (Eg x) 0 [.str x.name]:=At.one
theorem G3 (x:HZ):At (Eg x) 1 (Bc x.type):=At.cons (At.all)
theorem Ql (x:OY):At (KK x) 0 [.str x.name]:=At.one
theorem Qv (x:OY):At (KK x) 1 (Bc x.type):=At.cons (At.front)
theorem Qw (x:OY):At (KK x) 7 (FX x.tree):=At.cons (At.app (BF _) (At.cons (At.all)))
theorem QY (x:Ge):At (FX x) 1 (Bc x.body):=by
 cases x;exact At.cons (At.front)
theorem E2 (x:Ge):At (FX x) 7 [.lst (L9 x.branches)]:=by
 cases x;exact At.cons (At.app (BF _) (At.cons (At.one)))
theorem Qx (x:Hx):At (Iv x) 0 [.str x.ctor]:=by
 cases x;exact At.one
theorem Qj (x:Hx):At (Iv x) 2 (FX x.tree):=by
 cases x;exact At.cons (At.cons (At.all))
theorem LA (x:Ck):At (D9 x) 16 (Bc x.recs.type):=(K6 x).sub (LL _) (by simp[HY])
theorem FQ (x:Ck):At (D9 x) 21 [.lst (Av x.recs.rules)]:=(K6 x).sub (Hz _) (by simp[HY])
theorem HH.body:∀{t:Ge},HH t→Re t.body
 | .mk _ _ _ _,h=>h.1
theorem HH.bl:∀{t:Ge},HH t→t.branches.length<2000000
 | .mk _ _ _ _,h=>h.2.1
theorem HH.bs:∀{t:Ge},HH t→KY t.branches
 | .mk _ _ _ _,h=>h.2.2
theorem OP.tr:∀{b:Hx},OP b→HH b.tree
 | .mk _ _ _,h=>h.2
theorem Xs:∀{t:Ge}{i:Nat}{b:Hx},t.branches[i]?=some b→MB b.tree<MB t
 | .mk _ _ _ l,i,.mk c a t',h=>by
  have:=P8 (l:=l) h;simp only[Wk] at this;simp only[MB,Hx.tree];omega
theorem U8:∀t:Ge,1≤MB t
 | .mk _ _ _ _=>by simp only[MB];omega
section
variable {f:Nat→Option (Nat×Nat)}{k a i p:Int}{t:Tm}
end
end Go.Eu
namespace Go.Eu
open Go.Abs Go.RowKit Go.ChangeShapes Go.ChangeAt Go.WideShapes
structure TL (H:Type) where
 b:DataW H→Nat
 a:List (DataW H)→Nat
 str:∀s,b (.lit (.string s))=s.length+1
 slice:∀e s,b (.slice e s)=a e+a s+1
 agg:∀p,b (.agg p)=a p+1
 nil:a []=0
 cons:∀d r,a (d::r)=b d+a r
 pos:∀d,1≤b d
namespace TL
variable {H:Type}(K:TL H)
theorem mem {l:List (DataW H)}{i:Nat}{d:DataW H}(h:l[i]?=some d):K.b d≤K.a l:=by
 induction l generalizing i with
 | nil=>simp at h
 | cons x r ih =>
  rw[K.cons];cases i with
  | zero=>simp at h;subst h;omega
  | succ i=>have:=ih (by simpa using h);omega
theorem mem2 {l:List (DataW H)}{i:Nat}{d:DataW H}(h:l[i]?=some d):K.b d+l.length≤K.a l+1:=by
 have len:∀l:List (DataW H),l.length≤K.a l:=by
  intro l
  induction l with
  | nil=>simp
  | cons x r ih=>rw[K.cons];have:=K.pos x;simp only[List.length_cons];omega
 induction l generalizing i with
 | nil=>simp at h
 | cons x r ih =>
  rw[K.cons];simp only[List.length_cons];cases i with
  | zero=>simp at h;subst h;have:=len r;omega
  | succ i=>have:=ih (by simpa using h);have:=K.pos x;omega
theorem drop1 {l:List (DataW H)}{i:Nat}{d:DataW H}(h:l[i]?=some d):K.a (l.drop i)=K.b d+K.a (l.drop (i+1)):=by
 induction l generalizing i with
 | nil=>simp at h
 | cons x r ih =>
  cases i with
  | zero=>simp at h;subst h;simp[K.cons]
  | succ i=>simpa using ih (by simpa using h)
end TL
def Q1 {α:Type}(M:α→Nat):List α→Nat
 | []=>0
 | a::l=>M a+Q1 M l
section
variable {H:Type}{enc:TypeId×Value→H}{P:Program}{w:World}{base:Nat}{sp:Nat→Bool}{hd:Bool}{n:Nat}(K:TL H)
theorem Ej {α:Type}{e t C:Nat}(ut:P.underlying t=some (.slice e)) (hC:P.cellsOf e=C) (hC1:1≤C) (f:α→List PV) (Q:α→Prop) (M:α→Nat) {B:Nat}
  (he:∀m cs y,m<n→DataW.trod enc P w base sp hd m e cs=some y→K.b y.1≤B→∃a,B1 w (f a) cs∧Q a∧M a≤K.b y.1) {cs:List Value} {y:DataW H×List MemPlace} (h:DataW.trod enc P w base sp hd n t cs=some y) (hB:K.b y.1≤B) :
  ∃l:List α,l.length≤K.b y.1∧Q1 M l+1≤K.b y.1∧(∀a∈l,Q a)∧∃v,cs=[v]∧CI F0 w (.lst (l.map f)) v:=by
 rcases DataW.trod_slice ut h with ⟨rfl,rfl⟩ | ⟨a,len,cap,elems,rest,m,rfl,rfl,rfl,hb,hl,hc,hel,hget,_,_⟩
 ·exact⟨[],by simp,by have:=K.pos DataW.nil;simpa [Q1] using this,fun a ha=>by simp at ha,_,rfl,by simp only[CI];exact .inl ⟨rfl,none,0,rfl⟩⟩
 rw[hC] at hget;simp only[K.slice] at hB ⊢;have hml:maxLen<wide:=by decide
 rcases Nat.eq_zero_or_pos len with h0 | h0
 ·subst h0;exact⟨[],by simp,by simp[Q1],fun a ha=>by simp at ha,_,rfl,by simp only[CI];exact .inl ⟨rfl,some a,cap,rfl⟩⟩
 have hone:∀i,i<len→∃ci y,w.cells? base (a.add (i*C)) C=some ci∧DataW.trod enc P w base sp hd m e ci=some y∧(elems.map (·.1))[i]?=some y.1:=fun i hi=>by
  have:=hget i hi;rw[List.getElem?_eq_getElem An] at this;obtain⟨ci,h1,h2⟩:=Option.bind_eq_some_iff.1 this;exact⟨ci,_,h1,h2,by simp[List.getElem?_eq_getElem (show i<elems.length by omega)]⟩
 obtain⟨c0,y0,hc0,_⟩:=hone 0 h0;obtain⟨hl0,hg0⟩:=Pk hc0;have hcell:∃v,w.cell? a=some v:=by
  have:=hg0 0 An;rw[Nat.zero_mul,Addr.add,if_pos rfl,Addr.add,if_pos rfl] at this;rw[List.getElem?_eq_getElem An] at this;exact⟨_,this⟩
 obtain⟨v0,hv0⟩:=hcell;obtain⟨blk,off,spot⟩:=a;have hspot:spot=none:=by
  unfold World.cell? at hv0;simp only at hv0;split at hv0
  ·cases spot with
   | none=>rfl
   | some s=>simp at hv0
  cases hv0
 subst hspot;have hblk:blk<w.heap.size:=by
  unfold World.cell? at hv0;simp only at hv0;split at hv0
  ·rename_i hh;exact(Array.getElem?_eq_some_iff.1 hh).1
  cases hv0
 have hadd:∀k,(⟨blk,off,none⟩:Addr).add k=⟨blk,off+k,none⟩:=fun k=>by
  unfold Addr.add;split
  ·rename_i e;subst e;rfl
  rfl
 have hadd2:∀o k,(⟨blk,o,none⟩:Addr).add k=⟨blk,o+k,none⟩:=fun o k=>by
  unfold Addr.add;split
  ·rename_i e;subst e;rfl
  rfl
 have hrows:∀k,k≤len→∃l:List α,l.length=k∧k≤K.a ((elems.map (·.1)).drop (len - k))∧Q1 M l≤K.a ((elems.map (·.1)).drop (len - k))∧(∀x∈l,Q x)∧Bp F0 w blk C (off+(len - k)*C) (l.map f):=by
  intro k
  induction k with
  | zero=>exact fun _=>⟨[],rfl,by omega,by simp[Q1],fun a ha=>by simp at ha,by simp[Bp]⟩
  | succ k ih =>
   intro hk;obtain⟨l,h1,h5,h6,h2,h3⟩:=ih An;obtain⟨ci,y,hci,ht,hy⟩:=hone (len - (k+1)) An;obtain⟨g1,g2⟩:=Pk hci;have hd1:=K.drop1 hy;rw[show len - (k+1)+1=len - k by omega] at hd1;obtain⟨x,hx,hq,hM⟩:=he m ci y An ht (by have:=K.mem hy;omega);have hp:=K.pos y.1;refine⟨x::l,by simp[h1],by omega,by rw[Q1];omega,fun z hz=>?_,?_⟩
   ·rcases List.mem_cons.1 hz with rfl | hz
    ·exact hq
    exact h2 z hz
   refine⟨by rw[hx.length,g1],O1 _ ci _ hx fun j hj=>?_,?_⟩
   ·have:=g2 j An;rw[hadd,hadd2] at this;exact this
   rw[show off+(len - (k+1))*C+C=off+(len - k)*C by rw[Nat.add_assoc,←Nat.succ_mul];congr 2;omega];exact h3
 obtain⟨l,h1,h5,h6,h2,h3⟩:=hrows len (Nat.le_refl _);rw[Nat.sub_self,List.drop_zero] at h5 h6;rw[Nat.sub_self,Nat.zero_mul,Nat.add_zero] at h3;refine⟨l,by omega,by omega,h2,_,rfl,?_⟩;simp only[CI];exact .inr ⟨blk,off,cap,C,by rw[List.length_map,h1],fun h=>h,hblk,by rw[List.length_map];omega,h3⟩
theorem Gh {t:TypeId}{l:List (Nat×Nat)}(hf:Jy P t=some l) {cs:List Value}{y:DataW H×List MemPlace}(h:DataW.trod enc P w base sp hd n t cs=some y) :
  ∃m,n=m+1∧cs.length=P.cellsOf t∧∀(i:Nat) (p:Nat×Nat),l[i]?=some p→∃z,DataW.trod enc P w base sp hd m p.1 ((cs.drop p.2).take (P.cellsOf p.1))=some z∧K.b z.1+l.length≤K.b y.1:=by
 unfold Jy at hf;split at hf
 ·rename_i fs hu;injection hf with hf;subst hf;obtain⟨xs,m,h1,rfl,h2,h3,h4⟩:=DataW.trod_struct hu h;refine⟨m,h1,h2,fun i p hp=>?_⟩;rw[List.getElem?_map] at hp;obtain⟨fl,hfl,rfl⟩:=Option.map_eq_some_iff.1 hp;have hi:fs[i]?=some fl:=by simpa using hfl
  have:=h4 i fl hi;have hlt:i<xs.length:=by rw[h3];exact(Array.getElem?_eq_some_iff.1 hi).1
  rw[List.getElem?_eq_getElem hlt] at this;refine⟨_,this,?_⟩;rw[K.agg];have:=K.mem2 (l:=xs.map (·.1)) (i:=i) (d:=xs[i].1) (by simp[List.getElem?_eq_getElem hlt]);simp only[List.length_map,Array.length_toList] at this ⊢;omega
 cases hf
theorem B1.cut {a b:List PV}{cs:List Value}{o k:Nat}(h:B1 w a ((cs.drop o).take k)) (h':B1 w b (cs.drop (o+k))):B1 w (a++b) (cs.drop o):=by
 rw[←List.take_append_drop k (cs.drop o),List.drop_drop];exact B1.append h h'
theorem B1.end {cs:List Value}{k:Nat}(h:cs.length=k):B1 w [] (cs.drop k):=by
 rw[List.drop_eq_nil_of_le An];rfl
end
end Go.Eu
namespace Go.Eu
open Go.Abs Go.RowKit Go.ChangeShapes Go.ChangeAt Go.WideShapes
theorem MF:∀l:List Tm,Q1 (fun t=>5*size t) l=5*Bb l
 | []=>rfl
 | t::l=>by rw[Q1,Bb,MF l];omega
structure Mg (P:Program) (tI tB tS tT tTs tC tCs tR tTr tBr tBrs tF tFs tD tDs:TypeId):Prop where
 uB:P.underlying tB=some .bool
 uCs:P.underlying tCs=some (.slice tC)
 uBrs:P.underlying tBrs=some (.slice tBr)
 uFs:P.underlying tFs=some (.slice tF)
 uDs:P.underlying tDs=some (.slice tD)
 fC:Jy P tC=some [(tS,0),(tT,1)]
 fR:Jy P tR=some [(tI,0),(tT,1),(tTs,6)]
 fTr:Jy P tTr=some [(tI,0),(tT,1),(tI,6),(tBrs,7)]
 fBr:Jy P tBr=some [(tS,0),(tB,1),(tTr,2)]
 fF:Jy P tF=some [(tS,0),(tT,1),(tI,6),(tTr,7)]
 fD:Jy P tD=some [(tI,0),(tS,1),(tI,2),(tT,3),(tT,8),(tI,13),(tCs,14),(tR,15),(tFs,22)]
 cB:P.cellsOf tB=1
 cCs:P.cellsOf tCs=1
 cBrs:P.cellsOf tBrs=1
 cFs:P.cellsOf tFs=1
 cDs:P.cellsOf tDs=1
 cC:P.cellsOf tC=6
 cR:P.cellsOf tR=7
 cTr:P.cellsOf tTr=8
 cBr:P.cellsOf tBr=10
 cF:P.cellsOf tF=15
 cD:P.cellsOf tD=23
theorem _root_.Go.Am {α:Prop}(h:α:=by decide):α:=h
section
variable {H:Type}{enc:TypeId×Value→H}{P:Program}{w:World}{base:Nat}{sp:Nat→Bool}{hd:Bool}{tI tB tS tV tVs tL tLs tT tTs tC tCs tR tTr tBr tBrs tF tFs tD tDs:TypeId}(K:TL H)
theorem FH (E:F3 P tI tS tV tVs tL tLs tT tTs) {n:Nat}{cs:List Value}{y:DataW H×List MemPlace}(h:DataW.trod enc P w base sp hd n tI cs=some y):∃a:Int,B1 w [I a] cs∧I3 a:=by
 obtain⟨a,rfl,_,fa⟩:=DataW.trod_int E.uI h;exact⟨a,B1.one (by simp[CI]),Qm fa⟩
theorem Ja (E:F3 P tI tS tV tVs tL tLs tT tTs) {n:Nat}{cs:List Value}{y:DataW H×List MemPlace}(h:DataW.trod enc P w base sp hd n tS cs=some y):∃s:ByteArray,B1 w [.str s] cs∧s.size+1≤K.b y.1:=by
 obtain⟨s,rfl,rfl,_⟩:=DataW.trod_string E.uS h;refine⟨s,B1.one (by simp[CI]),?_⟩;rw[K.str];exact Nat.le_refl _
theorem Vh (D:Mg P tI tB tS tT tTs tC tCs tR tTr tBr tBrs tF tFs tD tDs) {n:Nat}{cs:List Value}{y:DataW H×List MemPlace}(h:DataW.trod enc P w base sp hd n tB cs=some y):∃b:Bool,B1 w [.bool b] cs:=by
 obtain⟨b,rfl,_⟩:=DataW.trod_bool D.uB h;exact⟨b,B1.one (by simp[CI])⟩
theorem ZW (E:F3 P tI tS tV tVs tL tLs tT tTs) {n:Nat}{cs:List Value}{y:DataW H×List MemPlace}(h:DataW.trod enc P w base sp hd n tL cs=some y) (hB:K.b y.1≤1048576):∃v:CN,B1 w (B6 v) cs∧Vt v:=by
 obtain⟨m,rfl,hl,hg⟩:=Gh K E.fL h;rw[E.cL] at hl;obtain⟨z0,h0,b0⟩:=hg 0 _ rfl;obtain⟨z1,h1,b1⟩:=hg 1 _ rfl;simp only[E.cI,E.cVs] at h0 h1;obtain⟨a,ha,ra⟩:=FH E h0;obtain⟨l,g1,_,g2,v,hv,g3⟩:=Ej K E.uVs E.cV Am FT (fun v=>I3 v.index∧I3 v.plus) (fun _=>1) (B:=1048576) (fun m cs y _ h _=>by obtain⟨v,q1,q2⟩:=dr E h;exact⟨v,q1,q2,K.pos _⟩) h1 An;refine⟨⟨a,l⟩,?_,⟨by simp only[Cb];omega,ra,g2⟩⟩;have:=B1.cut (o:=0) ha (B1.cut (o:=1) (a:=[.lst (l.map FT)]) (k:=1) (by rw[hv];exact B1.one g3) (B1.end hl));simpa [B6] using this
theorem Yw (E:F3 P tI tS tV tVs tL tLs tT tTs):∀(n:Nat) (cs:List Value) (y:DataW H×List MemPlace),DataW.trod enc P w base sp hd n tT cs=some y→K.b y.1≤1048576→∃t:Tm,B1 w (Bc t) cs∧Nd t∧5*size t≤K.b y.1:=by
 intro n
 induction n using Nat.strongRecOn with
 | ind n ih =>
  intro cs y h hB;obtain⟨m,rfl,hl,hg⟩:=Gh K E.fT h;rw[E.cT] at hl;obtain⟨z0,h0,b0⟩:=hg 0 _ rfl;obtain⟨z1,h1,b1⟩:=hg 1 _ rfl;obtain⟨z2,h2,b2⟩:=hg 2 _ rfl;obtain⟨z3,h3,b3⟩:=hg 3 _ rfl;obtain⟨z4,h4,b4⟩:=hg 4 _ rfl;simp only[E.cI,E.cS,E.cLs,E.cTs] at h0 h1 h2 h3 h4;obtain⟨a,ha,ra⟩:=FH E h0;obtain⟨b,hb,rb⟩:=FH E h1;obtain⟨s,hs,ws⟩:=Ja K E h2;obtain⟨l,g1,_,g2,v,hv,g3⟩:=Ej K E.uLs E.cL Am B6 Vt (fun _=>1) (B:=1048576) (fun m cs y _ h hB=>by obtain⟨v,q1,q2⟩:=ZW K E h hB;exact⟨v,q1,q2,K.pos _⟩) h3 An;obtain⟨ks,k1,k4,k2,u,hu,k3⟩:=Ej K E.uTs E.cT Am Bc Nd (fun t=>5*size t) (B:=1048576) (fun m' cs y hm h hB=>ih m' An cs y h hB) h4 An;refine⟨.mk a b s l ks,?_,⟨by simp only[Cb];omega,by simp only[Cb];omega,g2,by simp only[Cb];omega,Su k2,ra,rb⟩,by rw[MF] at k4;simp only[List.length_cons,List.length_nil] at b4;simp only[size];omega⟩;have:=B1.cut (o:=0) ha (B1.cut (o:=1) hb (B1.cut (o:=2) hs (B1.cut (o:=3) (a:=[.lst (l.map B6)]) (k:=1) (by rw[hv];exact B1.one g3) (B1.cut (o:=4) (a:=[.lst (Av ks)]) (k:=1) (by rw[hu,Dt];exact B1.one k3) (B1.end hl)))));simpa [Bc] using this
theorem HA (E:F3 P tI tS tV tVs tL tLs tT tTs) {n:Nat}{cs:List Value}{y:DataW H×List MemPlace}(h:DataW.trod enc P w base sp hd n tT cs=some y) (hB:K.b y.1≤1048576):∃t:Tm,B1 w (Bc t) cs∧Re t:=by
 obtain⟨t,h1,h2,h3⟩:=Yw K E n cs y h hB;exact⟨t,h1,h2,by omega⟩
theorem YR (E:F3 P tI tS tV tVs tL tLs tT tTs) {n:Nat}{cs:List Value}{y:DataW H×List MemPlace}(h:DataW.trod enc P w base sp hd n tTs cs=some y) (hB:K.b y.1≤1048576):∃l:List Tm,l.length<2000000∧(∀t∈l,Re t)∧B1 w [.lst (Av l)] cs:=by
 obtain⟨l,g1,_,g2,v,rfl,g3⟩:=Ej K E.uTs E.cT Am Bc Re (fun _=>1) (B:=1048576) (fun m cs y _ h hB=>by obtain⟨v,q1,q2⟩:=HA K E h hB;exact⟨v,q1,q2,K.pos _⟩) h hB;exact⟨l,by omega,g2,B1.one (by rw[Dt];exact g3)⟩
variable (D:Mg P tI tB tS tT tTs tC tCs tR tTr tBr tBrs tF tFs tD tDs) (E:F3 P tI tS tV tVs tL tLs tT tTs)
include D E
theorem Zn {n:Nat}{cs:List Value}{y:DataW H×List MemPlace}(h:DataW.trod enc P w base sp hd n tC cs=some y) (hB:K.b y.1≤1048576):∃c:HZ,B1 w (Eg c) cs∧YK c:=by
 obtain⟨m,rfl,hl,hg⟩:=Gh K D.fC h;rw[D.cC] at hl;obtain⟨z0,h0,b0⟩:=hg 0 _ rfl;obtain⟨z1,h1,b1⟩:=hg 1 _ rfl;simp only[E.cS,E.cT] at h0 h1;obtain⟨s,hs,ws⟩:=Ja K E h0;obtain⟨t,ht,wt⟩:=HA K E h1 An;refine⟨⟨s,t⟩,?_,⟨by simp only;omega,wt⟩⟩;have:=B1.cut (o:=0) hs (B1.cut (o:=1) ht (B1.end hl));simpa [Eg] using this
theorem Ym {n:Nat}{cs:List Value}{y:DataW H×List MemPlace}(h:DataW.trod enc P w base sp hd n tR cs=some y) (hB:K.b y.1≤1048576):∃r:Qu,B1 w (Hv r) cs∧Re r.type∧r.rules.length<2000000∧∀t∈r.rules,Re t:=by
 obtain⟨m,rfl,hl,hg⟩:=Gh K D.fR h;rw[D.cR] at hl;obtain⟨z0,h0,b0⟩:=hg 0 _ rfl;obtain⟨z1,h1,b1⟩:=hg 1 _ rfl;obtain⟨z2,h2,b2⟩:=hg 2 _ rfl;simp only[E.cI,E.cT,E.cTs] at h0 h1 h2;obtain⟨a,ha,_⟩:=FH E h0;obtain⟨t,ht,wt⟩:=HA K E h1 An;obtain⟨l,l1,l2,l3⟩:=YR K E h2 An;refine⟨⟨a,t,l⟩,?_,wt,l1,l2⟩;have:=B1.cut (o:=0) ha (B1.cut (o:=1) ht (B1.cut (o:=6) l3 (B1.end hl)));simpa [Hv] using this
theorem X0:∀(n:Nat) (cs:List Value) (y:DataW H×List MemPlace),DataW.trod enc P w base sp hd n tTr cs=some y→K.b y.1≤1048576→∃t:Ge,B1 w (FX t) cs∧HH t:=by
 intro n
 induction n using Nat.strongRecOn with
 | ind n ih =>
  intro cs y h hB;obtain⟨m,rfl,hl,hg⟩:=Gh K D.fTr h;rw[D.cTr] at hl;obtain⟨z0,h0,b0⟩:=hg 0 _ rfl;obtain⟨z1,h1,b1⟩:=hg 1 _ rfl;obtain⟨z2,h2,b2⟩:=hg 2 _ rfl;obtain⟨z3,h3,b3⟩:=hg 3 _ rfl;simp only[E.cI,E.cT,D.cBrs] at h0 h1 h2 h3;obtain⟨a,ha,_⟩:=FH E h0;obtain⟨t,ht,wt⟩:=HA K E h1 An;obtain⟨b,hb,_⟩:=FH E h2;obtain⟨l,g1,_,g2,v,hv,g3⟩:=Ej K D.uBrs D.cBr Am Iv OP (fun _=>1) (B:=1048576) (fun m' cs y hm h hB=>by
   obtain⟨m2,rfl,hl,hg⟩:=Gh K D.fBr h;rw[D.cBr] at hl;obtain⟨z0,h0,b0⟩:=hg 0 _ rfl;obtain⟨z1,h1,b1⟩:=hg 1 _ rfl;obtain⟨z2,h2,b2⟩:=hg 2 _ rfl;simp only[E.cS,D.cB,D.cTr] at h0 h1 h2;obtain⟨s,hs,ws⟩:=Ja K E h0;obtain⟨b,hb⟩:=Vh D h1;obtain⟨r,hr,wr⟩:=ih m2 An _ _ h2 An;refine⟨.mk s b r,?_,⟨by omega,wr⟩,K.pos _⟩;have:=B1.cut (o:=0) hs (B1.cut (o:=1) hb (B1.cut (o:=2) hr (B1.end hl)));simpa [Iv] using this) h3 An
  have hbs:∀{l:List Hx},(∀b∈l,OP b)→KY l:=by
   intro l
   induction l with
   | nil=>exact fun _=>trivial
   | cons b l ih2=>exact fun h=>⟨h b Ao,ih2 fun c hc=>h c (by simp[hc])⟩
  refine⟨.mk a t b l,?_,⟨wt,by omega,hbs g2⟩⟩;have:=B1.cut (o:=0) ha (B1.cut (o:=1) ht (B1.cut (o:=6) hb (B1.cut (o:=7) (a:=[.lst (L9 l)]) (k:=1) (by rw[hv,Jv];exact B1.one g3) (B1.end hl))));simpa [FX] using this
theorem Zy {n:Nat}{cs:List Value}{y:DataW H×List MemPlace}(h:DataW.trod enc P w base sp hd n tF cs=some y) (hB:K.b y.1≤1048576):∃f:OY,B1 w (KK f) cs∧WL f:=by
 obtain⟨m,rfl,hl,hg⟩:=Gh K D.fF h;rw[D.cF] at hl;obtain⟨z0,h0,b0⟩:=hg 0 _ rfl;obtain⟨z1,h1,b1⟩:=hg 1 _ rfl;obtain⟨z2,h2,b2⟩:=hg 2 _ rfl;obtain⟨z3,h3,b3⟩:=hg 3 _ rfl;simp only[E.cS,E.cT,E.cI,D.cTr] at h0 h1 h2 h3;obtain⟨s,hs,ws⟩:=Ja K E h0;obtain⟨t,ht,wt⟩:=HA K E h1 An;obtain⟨a,ha,_⟩:=FH E h2;obtain⟨r,hr,wr⟩:=X0 K D E _ _ _ h3 An;refine⟨⟨s,t,a,r⟩,?_,⟨by simp only;omega,wt,wr⟩⟩;have:=B1.cut (o:=0) hs (B1.cut (o:=1) ht (B1.cut (o:=6) ha (B1.cut (o:=7) hr (B1.end hl))));simpa [KK] using this
theorem aL {n:Nat}{cs:List Value}{y:DataW H×List MemPlace}(h:DataW.trod enc P w base sp hd n tD cs=some y) (hB:K.b y.1≤1048576):∃d:Ck,B1 w (D9 d) cs∧XR d:=by
 obtain⟨m,rfl,hl,hg⟩:=Gh K D.fD h;rw[D.cD] at hl;obtain⟨z0,h0,b0⟩:=hg 0 _ rfl;obtain⟨z1,h1,b1⟩:=hg 1 _ rfl;obtain⟨z2,h2,b2⟩:=hg 2 _ rfl;obtain⟨z3,h3,b3⟩:=hg 3 _ rfl;obtain⟨z4,h4,b4⟩:=hg 4 _ rfl;obtain⟨z5,h5,b5⟩:=hg 5 _ rfl;obtain⟨z6,h6,b6⟩:=hg 6 _ rfl;obtain⟨z7,h7,b7⟩:=hg 7 _ rfl;obtain⟨z8,h8,b8⟩:=hg 8 _ rfl;simp only[E.cS,E.cT,E.cI,D.cCs,D.cR,D.cFs] at h0 h1 h2 h3 h4 h5 h6 h7 h8;obtain⟨a,ha,_⟩:=FH E h0;obtain⟨s,hs,ws⟩:=Ja K E h1;obtain⟨p,hp,_⟩:=FH E h2;obtain⟨t,ht,wt⟩:=HA K E h3 An;obtain⟨u,hu,wu⟩:=HA K E h4 An;obtain⟨f,hf,_⟩:=FH E h5;obtain⟨cl,c1,_,c2,cv,hcv,c3⟩:=Ej K D.uCs D.cC Am Eg YK (fun _=>1) (B:=1048576) (fun m cs y _ h hB=>by obtain⟨v,q1,q2⟩:=Zn K D E h hB;exact⟨v,q1,q2,K.pos _⟩) h6 An;obtain⟨r,hr,r1,r2,r3⟩:=Ym K D E h7 An;obtain⟨fl,f1,_,f2,fv,hfv,f3⟩:=Ej K D.uFs D.cF Am KK WL (fun _=>1) (B:=1048576) (fun m cs y _ h hB=>by obtain⟨v,q1,q2⟩:=Zy K D E h hB;exact⟨v,q1,q2,K.pos _⟩) h8 An;refine⟨⟨a,s,p,t,u,f,cl,r,fl⟩,?_,⟨by simp only;omega,wt,wu,by simp only;omega,c2,r1,r2,r3,by simp only;omega,f2⟩⟩;have:=B1.cut (o:=0) ha (B1.cut (o:=1) hs (B1.cut (o:=2) hp (B1.cut (o:=3) ht (B1.cut (o:=8) hu (B1.cut (o:=13) hf (B1.cut (o:=14) (a:=[.lst (cl.map Eg)]) (k:=1) (by rw[hcv];exact B1.one c3) (B1.cut (o:=15) hr (B1.cut (o:=22) (a:=[.lst (fl.map KK)]) (k:=1) (by rw[hfv];exact B1.one f3) (B1.end hl)))))))));simpa [D9] using this
end
section
variable {H:Type}{enc:TypeId×Value→H}{P:Program}{w:World}{base:Nat}{sp:Nat→Bool}{hd:Bool}{b2:Nat}{r:Reach}{v:Value}{d:DataW H}{ps:List MemPlace}{t:TypeId}
theorem gV (ut:P.underlying t=some .bool) (hk:Value.okWide P w r b2 t v) (h:DataW.Trod enc P w base sp hd t v d ps):∃b:Bool,B2 F0 w (.p (.bool b)) v:=by
 obtain⟨n,h⟩:=h;obtain⟨a,ha,_⟩:=DataW.trod_bool ut h;refine⟨a,?_⟩;unfold Value.okWide at hk;rw[ut] at hk;simp only at hk;unfold Cell.okWide at hk;rw[ut] at hk;cases v with
 | agg cs=>simp only at hk;unfold Cell.ok at hk;rw[ut] at hk;simp at hk
 | _=>(try simp[Value.cells] at ha);(try subst ha);(try simp[B2,CI])
end
section
variable {H:Type}{enc:TypeId×Value→H}{P:Program}{w:World}{base:Nat}{sp:Nat→Bool}{hd:Bool}{tI tB tS tV tVs tL tLs tT tTs tC tCs tR tTr tBr tBrs tF tFs tD tDs:TypeId}(K:TL H)
 (D:Mg P tI tB tS tT tTs tC tCs tR tTr tBr tBrs tF tFs tD tDs) (E:F3 P tI tS tV tVs tL tLs tT tTs)
include K D E
theorem gR {b2:Nat}{r:Reach}{v:Value}{d:DataW H}{ps:List MemPlace}(hk:Value.okWide P w r b2 tD v) (h:DataW.Trod enc P w base sp hd tD v d ps) (hB:K.b d≤1048576):∃l:Ck,XR l∧B2 F0 w (.agg ((D9 l).map .p)) v:=by
 obtain⟨n,h⟩:=h;obtain⟨t,g1,g2⟩:=aL K D E h hB;have hf:=D.fD;unfold Jy at hf;unfold Value.okWide at hk;split at hk
 ·obtain⟨cs,rfl,_,_⟩:=hk;refine⟨t,g2,?_⟩;exact⟨cs.toList,by simp,B1.repL g1⟩
 ·rename_i hu;rw[hu] at hf;cases hf
 rename_i h1 h2;split at hf
 ·rename_i fs hu;exact absurd hu (h1 fs)
 cases hf
end
end Go.Eu
namespace Go.Proofs.YtifphifongokcaaGreat
open Go.Eu Go.Lib Go.ChangeShapes Go.WideShapes Go.ChangeAt Go.RowKit
theorem own:ownKnob Tryz.prog.godebug=none:=by kernel_rfl
theorem laidOut:laidOutB Tryz.prog=true:=by kernel_rfl
theorem l5:F3 Tryz.prog 3 9 60 61 63 22 25 23:=⟨by kernel_rfl,by kernel_rfl,by kernel_rfl,by kernel_rfl,by kernel_rfl,by kernel_rfl,by kernel_rfl,by kernel_rfl,by kernel_rfl,by kernel_rfl,by kernel_rfl,by kernel_rfl,by kernel_rfl,by kernel_rfl,by kernel_rfl,by kernel_rfl⟩
theorem nR:Mg Tryz.prog 3 4 9 25 23 76 26 28 112 159 110 114 29 31 100:=by constructor<;>kernel_rfl
theorem uB:Tryz.prog.underlying 4=some .bool:=by kernel_rfl
noncomputable def blk (H:Type):TL H where
 b:=Rows.uptoBulk
 a:=Rows.uptoBulkAll
 str:=fun s=>by simp[Rows.uptoBulk]
 slice:=fun e s=>by simp[Rows.uptoBulk]
 agg:=fun p=>by simp[Rows.uptoBulk]
 nil:=by simp[Rows.uptoBulkAll]
 cons:=fun d r=>by simp[Rows.uptoBulkAll]
 pos:=fun d=>by
  cases d with
  | lit l=>cases l<;>simp[Rows.uptoBulk]
  | _=>simp[Rows.uptoBulk]
theorem Yt {H:Type}{ds:List (DataW H)}(h:Rows.uptoSmall H ds=true) {i:Nat}{d:DataW H}(hd:ds[i]?=some d):(blk H).b d≤1048576:=by
 have h1:=(blk H).mem hd;have h2:(blk H).a ds≤1048576:=of_decide_eq_true h;omega
noncomputable def Js (os:Os):World:=World.holding Tryz.prog os ⟨#[],#[],[]⟩
theorem _root_.Go.Ai {α:Prop}(h:α:=by kernel_rfl):α:=h
theorem XA (os:Os) (args:Array Value):laidMet Tryz.prog [] ((Js os).forCall (fun _ _=>0) ⟨#[],args,[]⟩).memory :=
 (LaidIn.of_run [] 8 Ai Ai Ai Ai:LaidIn Tryz.prog ((Js os).forCall (fun _ _=>0) ⟨#[],args,[]⟩).memory [] []).met
theorem HD {a b:Bool}(h:a=true) (k:b=true):(a&&b)=true:=by rw[h,k];rfl
theorem e6:Tryz.pinned.checked.prog.funcNamed Rows.recursorPartsUptoRow.func=some 3:=by kernel_rfl
theorem ZY:Tryz.f3.isInstance Tryz.pinned.checked.prog Rows.recursorPartsUptoRow.origin Rows.recursorPartsUptoRow.targs:=of_decide_eq_true Ai
theorem aG:Tryz.f3.isWrapper Tryz.pinned.checked.prog Rows.recursorPartsUptoRow.wrapper Rows.recursorPartsUptoRow.mainSum:=by unfold Func.isWrapper;first | (rw[if_pos (by decide +kernel)];kernel_rfl) | (rw[if_neg (by decide +kernel)];exact⟨rfl,rfl⟩)
theorem k8:(Rows.recursorPartsUptoRow.inPlace==Tryz.pinned.checked.prog.inPlace 3)=true:=by kernel_rfl
theorem gI:(Rows.recursorPartsUptoRow.unfollowed==Tryz.pinned.checked.prog.unfollowed 3)=true:=by kernel_rfl
theorem fK:(Rows.recursorPartsUptoRow.recurses==Tryz.pinned.checked.prog.recurses 3)=true:=by kernel_rfl
theorem gH:(Rows.recursorPartsUptoRow.named==Tryz.pinned.checked.prog.varsNamed 3)=true:=by kernel_rfl
theorem lN:(Rows.recursorPartsUptoRow.wf (OpenSpec.ofChange (Rows.OpenSpec.upto Rows.recursorPartsSpec).bare)&&laidOutB Tryz.pinned.checked.prog&&mapsRowed Tryz.pinned.checked.prog&&Tryz.f3.params.all (Tryz.pinned.checked.prog.readableRec ·)&&namedTie Tryz.pinned.checked.prog Rows.recursorPartsUptoRow.named (Rows.OpenSpec.upto Rows.recursorPartsSpec).bare.vars&&(Rows.recursorPartsUptoRow.stops==[])&&(Tryz.pinned.checked.prog.stops==[])&&(Rows.recursorPartsUptoRow.knobs==[])&&(Tryz.pinned.checked.prog.stopKnobs==[]))=true:=by kernel_rfl
theorem ga:((Rows.recursorPartsUptoRow.maps==(Tryz.f3.params.toList++(Rows.OpenSpec.upto Rows.recursorPartsSpec).bare.plain.varTypes Tryz.pinned.checked.prog).any (Tryz.pinned.checked.prog.mapsRec ·)))=true:=by kernel_rfl
theorem ff:((Rows.recursorPartsUptoRow.ifaces==(Tryz.f3.params.toList++(Rows.OpenSpec.upto Rows.recursorPartsSpec).bare.plain.varTypes Tryz.pinned.checked.prog).any (Tryz.pinned.checked.prog.ifacesRec ·)))=true:=by kernel_rfl
theorem gQ:((Rows.recursorPartsUptoRow.mapsOut==Tryz.pinned.checked.prog.mapsAmong Tryz.f3.resultTypes.toList))=true:=by kernel_rfl
theorem gZ:((Rows.recursorPartsUptoRow.loops==(Tryz.f3.params.toList++(Rows.OpenSpec.upto Rows.recursorPartsSpec).bare.plain.varTypes Tryz.pinned.checked.prog).any (Tryz.pinned.checked.prog.loopsFrom ·)))=true:=by kernel_rfl
theorem fp:((Rows.recursorPartsUptoRow.wideKeys==(Tryz.f3.params.toList++(Rows.OpenSpec.upto Rows.recursorPartsSpec).bare.plain.varTypes Tryz.pinned.checked.prog++Tryz.f3.resultTypes.toList).any (Tryz.pinned.checked.prog.wideKeysFrom ·)))=true:=by kernel_rfl
theorem fi:((Rows.OpenSpec.upto Rows.recursorPartsSpec).bare.vars.all (Tryz.pinned.checked.prog.varReadable ·))=true:=by kernel_rfl
theorem ei:(Tryz.f3.resultTypes.all (fun t=>Tryz.pinned.checked.prog.readableRec t&&decide (t<Tryz.pinned.checked.prog.types.size)))=true:=by kernel_rfl
theorem fm:((Rows.recursorPartsUptoRow.ifacesOut==Tryz.f3.resultTypes.toList.any (Tryz.pinned.checked.prog.ifacesRec ·)))=true:=by kernel_rfl
theorem iK:((Rows.recursorPartsUptoRow.loopsOut==Tryz.f3.resultTypes.toList.any (Tryz.pinned.checked.prog.loopsFrom ·)))=true:=by kernel_rfl
theorem gf:((Rows.recursorPartsUptoRow.plainKeys==Tryz.pinned.checked.prog.plainKeys))=true:=by kernel_rfl
theorem dh:(Rows.recursorPartsUptoRow.shortTexts.isNone)=true:=by kernel_rfl
theorem dA:(Tryz.pinned.checked.prog.stopsHeard)=true:=by kernel_rfl
theorem dF:(Tryz.pinned.checked.prog.mayEnter)=true:=by kernel_rfl
theorem dB:((Rows.recursorPartsUptoRow.lifted==Tryz.pinned.checked.prog.liftsFinal))=true:=by kernel_rfl
theorem dU:((Tryz.pinned.checked.prog.make==some Rows.recursorPartsUptoRow.make))=true:=by kernel_rfl
theorem da:((Rows.recursorPartsUptoRow.kinds==(if Rows.recursorPartsUptoRow.domain.isEmpty then [] else Tryz.f3.params.toList.map fun t=>match Tryz.pinned.checked.prog.underlying t with | some (.int k)=>some k | _=>none)))=true:=by kernel_rfl
theorem cq:((Rows.recursorPartsUptoRow.pinned==Rows.recursorPartsUptoRow.pinnedBy))=true:=by kernel_rfl
theorem cx:((Rows.recursorPartsUptoRow.veiled==(Tryz.f3.params.toList++(Rows.OpenSpec.upto Rows.recursorPartsSpec).bare.plain.varTypes Tryz.pinned.checked.prog++Tryz.f3.resultTypes.toList).any (Tryz.pinned.checked.prog.veiledRec ·)))=true:=by kernel_rfl
theorem dP:(Rows.recursorPartsUptoRow.veiledFits Tryz.pinned.checked.prog Tryz.f3.params.toList (Tryz.f3.params.toList++(Rows.OpenSpec.upto Rows.recursorPartsSpec).bare.plain.varTypes Tryz.pinned.checked.prog++Tryz.f3.resultTypes.toList))=true:=by kernel_rfl
theorem VT:joinedFacts Tryz.pinned.checked.prog 3 Tryz.f3 (Rows.OpenSpec.upto Rows.recursorPartsSpec).bare Rows.recursorPartsUptoRow=true:=(HD (HD (HD (HD (HD (HD (HD (HD (HD (HD (HD (HD (HD (HD (HD (HD (HD (HD (HD (HD (HD (HD (HD lN k8) gI) fK) gH) ga) ff) gQ) gZ) fp) fi) ei) fm) iK) gf) dh) dA) dF) dB) dU) da) cq) cx) dP)
end Go.Proofs.YtifphifongokcaaGreat
