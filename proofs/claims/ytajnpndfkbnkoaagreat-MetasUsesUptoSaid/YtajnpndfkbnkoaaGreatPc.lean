/- Part of the proofs: an abstract program logic, plain models and contracts of functions. -/
import Derived.Test.YtajnpndfkbnkoaaGreatPb
import Derived.Deep.DeepHandedRow
import Derived.Lib.AppendStr
import Derived.Lib.Builder
import Derived.Laws.Externs
import Derived.Lib.UnsafeStr
import Derived.Below
import Derived.Test.YtajnpndfkbnkoaaGreatRows
import Derived.Deep.DeepWitnessRowRef
import Derived.Lib.LaidIn
import Derived.Test.YtajnpndfkbnkoaaGreatProg
set_option linter.unusedVariables false
set_option linter.unusedSimpArgs false
set_option maxRecDepth 1000000
namespace Go.Eu
open Go.Abs
structure I1 where
 name:ByteArray
 type:Tm
 deriving Inhabited
structure X3 where
 params:Int
 type:Tm
 rules:List Tm
 deriving Inhabited
mutual
inductive Fv where
 | mk (kind:Int) (body:Tm) (var:Int) (branches:List HC)
inductive HC where
 | mk (ctor:ByteArray) (absurd:Bool) (tree:Fv)
end
instance:Inhabited Fv:=⟨.mk 0 default 0 []⟩
instance:Inhabited HC:=⟨.mk default false default⟩
def Fv.kind:Fv→Int | .mk k _ _ _=>k
def Fv.body:Fv→Tm | .mk _ b _ _=>b
def Fv.var:Fv→Int | .mk _ _ v _=>v
def Fv.branches:Fv→List HC | .mk _ _ _ l=>l
def HC.ctor:HC→ByteArray | .mk c _ _=>c
def HC.absurd:HC→Bool | .mk _ a _=>a
def HC.tree:HC→Fv | .mk _ _ t=>t
structure Ie where
 name:ByteArray
 type:Tm
 arity:Int
 tree:Fv
 deriving Inhabited
structure B4 where
 kind:Int
 name:ByteArray
 params:Int
 type:Tm
 value:Tm
 fixed:Int
 ctors:List I1
 recs:X3
 funs:List Ie
 deriving Inhabited
structure GZ where
 kind:Int
 decl:Int
 item:Int
 params:Int
 type:Tm
 deriving Inhabited
def FM (c:I1):List PV:= .str c.name::BB c.type
def JH (r:X3):List PV:=I r.params::(BB r.type++[.lst (A0 r.rules)])
mutual
def DF:Fv→List PV
 | .mk k b v l=>I k::(BB b++[I v,.lst (Is l)])
def EL:HC→List PV
 | .mk c a t=> .str c:: .bool a::DF t
def Is:List HC→List (List PV)
 | []=>[]
 | b::l=>EL b::Is l
end
def Gz (f:Ie):List PV:= .str f.name::(BB f.type++(I f.arity::DF f.tree))
def Bn (d:B4):List PV:=I d.kind:: .str d.name::I d.params::(BB d.type++(BB d.value++(I d.fixed:: .lst (d.ctors.map FM)::(JH d.recs++[.lst (d.funs.map Gz)]))))
def GA (e:GZ):List PV:=I e.kind::I e.decl::I e.item::I e.params::BB e.type
theorem Ht:∀l:List HC,Is l=l.map EL
 | []=>rfl
 | t::ts=>by simp[Is,Ht ts]
theorem FD (c:I1):(FM c).length=6:=by simp[FM,An]
theorem GC (r:X3):(JH r).length=7:=by simp[JH,An]
theorem DD (t:Fv):(DF t).length=8:=by cases t;simp[DF,An]
theorem Dy (b:HC):(EL b).length=10:=by cases b;simp[EL,DD]
theorem EW (f:Ie):(Gz f).length=15:=by simp[Gz,An,DD]
theorem ET (d:B4):(Bn d).length=23:=by simp[Bn,An,GC]
theorem Yc (e:GZ):(GA e).length=9:=by simp[GA,An]
theorem Ed (l:List HC):(Is l).length=l.length:=by simp[Ht]
theorem MA {ts:List HC}{i:Nat}{t:HC}(h:ts[i]?=some t):(Is ts)[i]?=some (EL t):=by simp[Ht,h]
theorem RQ {α:Type}{f:α→List PV}{ts:List α}{i:Nat}{t:α}(h:ts[i]?=some t):(ts.map f)[i]?=some (f t):=by simp[h]
theorem JZ {ts:List I1}{i:Nat}{t:I1}(h:ts[i]?=some t):(ts.map FM)[i]?=some (FM t):=RQ h
theorem G5 {ts:List Ie}{i:Nat}{t:Ie}(h:ts[i]?=some t):(ts.map Gz)[i]?=some (Gz t):=RQ h
theorem Sg {ts:List B4}{i:Nat}{t:B4}(h:ts[i]?=some t):(ts.map Bn)[i]?=some (Bn t):=RQ h
theorem By {n:Nat}{c:PV}{r:List PV}(hc:c≠ .any∧c≠ .unit) (h:DJ n r):DJ (n+1) (c::r) :=
 ⟨by simp[h.1],fun x hx=>by
  rcases List.mem_cons.1 hx with rfl | hx
  ·exact hc
  exact h.2 x hx⟩
theorem Gl {n m:Nat}{a b:List PV}(ha:DJ n a) (hb:DJ m b):DJ (n+m) (a++b) :=
 ⟨by simp[ha.1,hb.1],fun x hx=>by
  rcases List.mem_append.1 hx with hx | hx
  ·exact ha.2 x hx
  exact hb.2 x hx⟩
theorem Lw:DJ 0 []:=⟨rfl,fun c h=>by simp at h⟩
theorem ZO (c:I1):DJ 6 (FM c):=By Ag (Gt _)
theorem cj (r:X3):DJ 7 (JH r):=By Ag (Gl (Gt _) (By Ag Lw))
theorem Ov (t:Fv):DJ 8 (DF t):=by
 cases t with
 | mk k b v l=>unfold DF;exact By Ag (Gl (n:=5) (m:=2) (Gt _) (By Ag (By Ag Lw)))
theorem Zt (b:HC):DJ 10 (EL b):=by
 cases b with
 | mk c a t=>unfold EL;exact By Ag (By Ag (Ov t))
theorem db (f:Ie):DJ 15 (Gz f):=By Ag (Gl (n:=5) (m:=9) (Gt _) (By Ag (Ov _)))
theorem Tv (d:B4):DJ 23 (Bn d):=By Ag (By Ag (By Ag (Gl (n:=5) (m:=15) (Gt _) (Gl (n:=5) (m:=10) (Gt _) (By Ag (By Ag (Gl (n:=7) (m:=1) (cj _) (By Ag Lw))))))))
theorem eA (e:GZ):DJ 9 (GA e):=By Ag (By Ag (By Ag (By Ag (Gt _))))
theorem V8 (l:List B4):∀r∈l.map Bn,DJ 23 r:=Fb Tv l
theorem Zd (m:I1):((FM m).map AV.p).all one=true:=Eg (ZO m)
theorem Zq (m:Fv):((DF m).map AV.p).all one=true:=Eg (Ov m)
theorem RX (m:HC):((EL m).map AV.p).all one=true:=Eg (Zt m)
theorem aM (m:Ie):((Gz m).map AV.p).all one=true:=Eg (db m)
theorem aL (m:B4):((Bn m).map AV.p).all one=true:=Eg (Tv m)
theorem aC (m:GZ):((GA m).map AV.p).all one=true:=Eg (eA m)
end Go.Eu
namespace Go.Eu
open Go.Abs Go.RowKit Go.ChangeShapes Go.ChangeAt Go.WideShapes
section
variable {H:Type}{enc:TypeId×Value→H}{P:Program}{w:World}{base:Nat}{sp:Nat→Bool}{hd:Bool}{tI tB tS tV tVs tL tLs tT tTs tM tMs tSs tTh:TypeId}
end
end Go.Eu
namespace Go.Eu
open Go.Abs
def bH (n:ByteArray):ByteArray:=n++⟨#[46,114,101,99]⟩
def HG (i p:Int):List I1→Int→List (ByteArray×GZ)
 | [],_=>[]
 | c::cs,k=>(c.name,⟨4,i,k,p,c.type⟩)::HG i p cs (k+1)
def LP (i p:Int):List Ie→Int→List (ByteArray×GZ)
 | [],_=>[]
 | c::cs,k=>(c.name,⟨6,i,k,p,c.type⟩)::LP i p cs (k+1)
def XX (d:B4) (i:Int):List (ByteArray×GZ) :=
 if d.kind=0∨d.kind=1∨d.kind=2 then [(d.name,⟨d.kind,i,0,d.params,d.type⟩)]
 else if d.kind=3 then (d.name,⟨3,i,0,d.params,d.type⟩)::(HG i d.params d.ctors 0++[(bH d.name,⟨5,i,0,d.recs.params,d.recs.type⟩)])
 else if d.kind=4 then LP i d.params d.funs 0
 else []
def CU (nm:ByteArray):List (ByteArray×GZ)→Option GZ
 | []=>none
 | (s,e)::l=>if s=nm then some e else CU nm l
def findF (nm:ByteArray):List B4→Int→Option GZ
 | [],_=>none
 | d::ds,i=>match CU nm (XX d i) with
  | some e=>some e
  | none=>findF nm ds (i+1)
def bM:GZ:=⟨0,0,0,0,A3⟩
def Cu (ds:List B4) (nm:ByteArray):GZ×Int:=match findF nm ds 0 with
 | some e=>(e,0)
 | none=>(bM,9)
theorem Oo {nm:ByteArray}:∀{a b:List (ByteArray×GZ)},CU nm (a++b)=match CU nm a with
  | some e=>some e
  | none=>CU nm b
 | [],b=>rfl
 | (s,e)::a,b=>by
  simp only[List.cons_append,CU];split
  ·rfl
  exact Oo
section
variable {i p:Int}{nm:ByteArray}
theorem QS:∀{cs:List I1}{j:Nat}{c:I1}{k:Int},cs[j]?=some c→c.name=nm→(∀q,q<j→∀y,cs[q]?=some y→y.name≠nm)→CU nm (HG i p cs k)=some ⟨4,i,k+j,p,c.type⟩
 | [],j,c,k,h,_,_=>by simp at h
 | a::cs,0,c,k,h,hn,_=>by
  simp at h;subst h;simp[HG,CU,hn]
 | a::cs,j+1,c,k,h,hn,hb=>by
  have h0:a.name≠nm:=hb 0 Af a rfl;rw[HG,CU,if_neg h0,QS (by simpa using h) hn fun q hq y hy=>hb (q+1) Af y (by simpa using hy)];congr 2;omega
theorem OE:∀{cs:List I1}{k:Int},(∀q:Nat,q<cs.length→∀y,cs[q]?=some y→y.name≠nm)→CU nm (HG i p cs k)=none
 | [],k,_=>rfl
 | a::cs,k,hb=>by
  have h0:a.name≠nm:=hb 0 Ag a rfl;rw[HG,CU,if_neg h0];exact OE fun q hq y hy=>hb (q+1) (by simpa using hq) y (by simpa using hy)
theorem SM:∀{cs:List Ie}{j:Nat}{c:Ie}{k:Int},cs[j]?=some c→c.name=nm→(∀q,q<j→∀y,cs[q]?=some y→y.name≠nm)→CU nm (LP i p cs k)=some ⟨6,i,k+j,p,c.type⟩
 | [],j,c,k,h,_,_=>by simp at h
 | a::cs,0,c,k,h,hn,_=>by
  simp at h;subst h;simp[LP,CU,hn]
 | a::cs,j+1,c,k,h,hn,hb=>by
  have h0:a.name≠nm:=hb 0 Af a rfl;rw[LP,CU,if_neg h0,SM (by simpa using h) hn fun q hq y hy=>hb (q+1) Af y (by simpa using hy)];congr 2;omega
theorem P7:∀{cs:List Ie}{k:Int},(∀q:Nat,q<cs.length→∀y,cs[q]?=some y→y.name≠nm)→CU nm (LP i p cs k)=none
 | [],k,_=>rfl
 | a::cs,k,hb=>by
  have h0:a.name≠nm:=hb 0 Ag a rfl;rw[LP,CU,if_neg h0];exact P7 fun q hq y hy=>hb (q+1) (by simpa using hq) y (by simpa using hy)
end
def CA (d:B4):List ByteArray :=
 if d.kind=0∨d.kind=1∨d.kind=2 then [d.name]
 else if d.kind=3 then d.name::d.ctors.map I1.name++[bH d.name]
 else if d.kind=4 then d.funs.map Ie.name
 else []
def F8 (l:List ByteArray) (s:ByteArray):Bool:=l.any fun x=>decide (x=s)
theorem W2 {l:List ByteArray}{s x:ByteArray}{i:Nat}(h:l[i]?=some x) (e:x=s):F8 l s=true :=
 List.any_eq_true.2 ⟨x,List.mem_of_getElem? h,by simp[e]⟩
theorem WY {l:List ByteArray}{s:ByteArray}(h:∀j,j<l.length→∀x,l[j]?=some x→x≠s):F8 l s=false:=by
 refine Bool.eq_false_iff.2 fun hb=>?_;have ⟨x,hx,hq⟩:=List.any_eq_true.1 hb;have ⟨j,hj⟩:=List.mem_iff_getElem?.1 hx
 grind
def K3 (nm:ByteArray) (i p:Int) (o:GZ):List I1→Int→GZ
 | [],_=>o
 | c::cs,k=>if c.name=nm then ⟨4,i,k,p,c.type⟩ else K3 nm i p o cs (k+1)
def Vr (nm:ByteArray) (i p:Int) (o:GZ):List Ie→Int→GZ
 | [],_=>o
 | c::cs,k=>if c.name=nm then ⟨6,i,k,p,c.type⟩ else Vr nm i p o cs (k+1)
def EF (d:B4) (i:Int) (nm:ByteArray):GZ :=
 if d.kind=0∨d.kind=1∨d.kind=2 then ⟨d.kind,i,0,d.params,d.type⟩
 else if d.kind=3 then (if nm=d.name then ⟨3,i,0,d.params,d.type⟩ else K3 nm i d.params ⟨5,i,0,d.recs.params,d.recs.type⟩ d.ctors 0)
 else Vr nm i d.params ⟨0,i,0,d.params,d.type⟩ d.funs 0
theorem K6 {nm:ByteArray}{i p:Int}{o:GZ}:∀{cs:List I1}{k:Int},K3 nm i p o cs k=(CU nm (HG i p cs k)).getD o
 | [],k=>rfl
 | c::cs,k=>by
  rw[K3,HG,CU];split
  ·rfl
  exact K6
theorem M5 {nm:ByteArray}{i p:Int}{o:GZ}:∀{cs:List Ie}{k:Int},Vr nm i p o cs k=(CU nm (LP i p cs k)).getD o
 | [],k=>rfl
 | c::cs,k=>by
  rw[Vr,LP,CU];split
  ·rfl
  exact M5
theorem Ml {nm:ByteArray}{i p:Int}:∀{cs:List I1}{k:Int},(CU nm (HG i p cs k)).isSome=F8 (cs.map I1.name) nm
 | [],k=>rfl
 | c::cs,k=>by
  rw[HG,CU];split
  ·rename_i h;simp[F8,h]
  rename_i h;rw[Ml];simp[F8,h]
theorem Nu {nm:ByteArray}{i p:Int}:∀{cs:List Ie}{k:Int},(CU nm (LP i p cs k)).isSome=F8 (cs.map Ie.name) nm
 | [],k=>rfl
 | c::cs,k=>by
  rw[LP,CU];split
  ·rename_i h;simp[F8,h]
  rename_i h;rw[Nu];simp[F8,h]
theorem XN {a b:List ByteArray}{s:ByteArray}:F8 (a++b) s=(F8 a s||F8 b s):=List.any_append
theorem HF (d:B4) (i:Int) (nm:ByteArray):CU nm (XX d i)=if F8 (CA d) nm=true then some (EF d i nm) else none:=by
 unfold XX CA EF;by_cases h:d.kind=0∨d.kind=1∨d.kind=2
 ·grind [CU,F8]
 simp only[if_neg h];by_cases h3:d.kind=3
 ·simp only[if_pos h3,CU,Oo,List.cons_append];by_cases e:d.name=nm
  ·simp[F8,e]
  have e':¬nm=d.name:=fun q=>e q.symm
  grind [K6,Ml,F8,bH,XN,CU,HG]
 simp only[if_neg h3];by_cases h4:d.kind=4
 ·simp only[if_pos h4];rw[M5,←Nu (i:=i) (p:=d.params) (k:=0)];cases hf:CU nm (LP i d.params d.funs 0)<;>simp
 simp[h4,CU,F8]
structure Hq where
 env:List B4
 own:List ByteArray
 d:B4
def Cs (s:Hq):List PV:= .lst (s.env.map Bn):: .lst (s.own.map FX)::Bn s.d
theorem Ve (s:Hq):(Cs s).length=25:=by simp[Cs,ET]
theorem aZ (s:Hq):DJ 25 (Cs s):=By Ag (By Ag (Tv _))
theorem aO (m:Hq):((Cs m).map AV.p).all one=true:=Eg (aZ m)
structure TQ (t:Tm):Prop where
 nd:Nd t
 sz:size t<1000000
mutual
def F7:Fv→Prop
 | .mk k b v l=>TQ b∧l.length<2000000∧KD l
def Oq:HC→Prop
 | .mk c a t=>c.size<2000000∧F7 t
def KD:List HC→Prop
 | []=>True
 | b::l=>Oq b∧KD l
end
mutual
def Ir:Fv→Nat
 | .mk k b v l=>1+SQ l
def Ya:HC→Nat
 | .mk c a t=>Ir t
def SQ:List HC→Nat
 | []=>0
 | b::l=>Ya b+1+SQ l
end
theorem Gu:∀{l:List HC}{i:Nat}{b:HC},KD l→l[i]?=some b→Oq b
 | [],i,b,_,h=>by simp at h
 | a::l,0,b,hn,h=>by simp at h;subst h;exact hn.1
 | a::l,i+1,b,hn,h=>by simp at h;exact Gu hn.2 h
theorem QR:∀{l:List HC}{i:Nat}{b:HC},l[i]?=some b→Ya b<SQ l
 | [],i,b,h=>by simp at h
 | a::l,0,b,h=>by simp at h;subst h;simp only[SQ];omega
 | a::l,i+1,b,h=>by
  have:=QR (show l[i]?=some b by simpa using h);simp only[SQ];omega
structure Y2 (c:I1):Prop where
 nm:c.name.size<2000000
 ty:TQ c.type
structure Xu (f:Ie):Prop where
 nm:f.name.size<2000000
 ty:TQ f.type
 tr:F7 f.tree
structure TR (d:B4):Prop where
 nm:d.name.size<2000000
 ty:TQ d.type
 vl:TQ d.value
 cl:d.ctors.length<2000000
 cs:∀c∈d.ctors,Y2 c
 rt:TQ d.recs.type
 rl:d.recs.rules.length<2000000
 rs:∀t∈d.recs.rules,TQ t
 fl:d.funs.length<2000000
 fs:∀f∈d.funs,Xu f
structure HA (ds:List B4):Prop where
 len:ds.length<2000000
 all:∀d∈ds,TR d
theorem HA.take {ds:List B4}(h:HA ds) (n:Nat):HA (ds.take n) :=
 ⟨by have:=h.len;simp;omega,fun d hd=>h.all d (List.mem_of_mem_take hd)⟩
theorem Uv {nm:ByteArray}:∀{ds:List B4}{i:Nat}{k:Int}{d:B4},ds[i]?=some d→(∀j,j<i→∀y,ds[j]?=some y→F8 (CA y) nm=false)→F8 (CA d) nm=true→findF nm ds k=some (EF d (k+i) nm)
 | [],i,k,d,h,_,_=>by simp at h
 | a::ds,0,k,d,h,_,hn=>by
  simp at h;subst h;rw[findF,HF,if_pos hn];simp
 | a::ds,i+1,k,d,h,hb,hn=>by
  have h0:=hb 0 Af a rfl;rw[findF,HF,if_neg (by rw[h0];decide)];simp only;rw[Uv (by simpa using h) (fun j hj y hy=>hb (j+1) Af y (by simpa using hy)) hn];congr 2;omega
theorem Qn {nm:ByteArray}:∀{ds:List B4}{k:Int},(∀j,j<ds.length→∀y,ds[j]?=some y→F8 (CA y) nm=false)→findF nm ds k=none
 | [],k,_=>rfl
 | a::ds,k,hb=>by
  have h0:=hb 0 Ag a rfl;rw[findF,HF,if_neg (by rw[h0];decide)];simp only;exact Qn fun j hj y hy=>hb (j+1) (by simpa using hj) y (by simpa using hy)
theorem V3 (n:ByteArray):(bH n).size=n.size+4:=by
 show (n++⟨#[46,114,101,99]⟩:ByteArray).size=_;rw[ByteArray.size_append];rfl
theorem KE (d:B4):(CA d).length≤d.ctors.length+d.funs.length+2:=by grind [CA]
section
variable {d:B4}{i:Int}{nm:ByteArray}
theorem KL (h:d.kind=0∨d.kind=1∨d.kind=2) {k:Int}(hk:d.kind=k):EF d i nm=⟨k,i,0,d.params,d.type⟩:=by rw[EF,if_pos h,hk]
theorem V2 (h:d.kind=3) (hn:nm=d.name):EF d i nm=⟨3,i,0,d.params,d.type⟩:=by grind [EF]
theorem Tk (h:d.kind=3) (hn:¬nm=d.name) {j:Nat}{c:I1}(hc:d.ctors[j]?=some c) (he:c.name=nm) (hb:∀q,q<j→∀y,d.ctors[q]?=some y→y.name≠nm):EF d i nm=⟨4,i,j,d.params,c.type⟩:=by
 rw[EF,if_neg Af,if_pos h,if_neg hn,K6,QS hc he hb,Int.zero_add];rfl
theorem VZ (h:d.kind=3) (hn:¬nm=d.name) (hb:∀q:Nat,q<d.ctors.length→∀y,d.ctors[q]?=some y→y.name≠nm):EF d i nm=⟨5,i,0,d.recs.params,d.recs.type⟩:=by grind [EF,K6,OE]
theorem Wc (h:¬(d.kind=0∨d.kind=1∨d.kind=2)) (h3:¬d.kind=3) {j:Nat}{c:Ie}(hc:d.funs[j]?=some c) (he:c.name=nm) (hb:∀q,q<j→∀y,d.funs[q]?=some y→y.name≠nm):EF d i nm=⟨6,i,j,d.params,c.type⟩:=by
 rw[EF,if_neg h,if_neg h3,M5,SM hc he hb,Int.zero_add];rfl
theorem WX (h:¬(d.kind=0∨d.kind=1∨d.kind=2)) (h3:¬d.kind=3) (hb:∀q:Nat,q<d.funs.length→∀y,d.funs[q]?=some y→y.name≠nm):EF d i nm=⟨0,i,0,d.params,d.type⟩:=by grind [EF,M5,P7]
end
theorem Vj {ds:List B4}{nm:ByteArray}{i:Nat}{d:B4}(hx:ds[i]?=some d) (hb:∀j,j<i→∀y,ds[j]?=some y→F8 (CA y) nm=false) (hn:F8 (CA d) nm=true):Cu ds nm=(EF d i nm,0):=by
 rw[Cu,Uv hx hb hn,Int.zero_add]
theorem TU {ds:List B4}{nm:ByteArray}(hb:∀j,j<ds.length→∀y,ds[j]?=some y→F8 (CA y) nm=false):Cu ds nm=(bM,9):=by
 rw[Cu,Qn hb]
theorem Nf {nm:ByteArray}{i p:Int}{o:GZ}(ho:o.kind≠4):∀{cs:List I1}{k:Int},(K3 nm i p o cs k).kind=4→(K3 nm i p o cs k).decl=i∧k≤(K3 nm i p o cs k).item∧(K3 nm i p o cs k).item<k+cs.length
 | [],k,h=>absurd h ho
 | c::cs,k,h=>by
  unfold K3 at h ⊢;split at h
  ·rename_i hc;rw[if_pos hc];exact⟨O,Int.le_refl _,by simp only[List.length_cons];omega⟩
  rename_i hc;rw[if_neg hc];have:=Nf ho h;simp only[List.length_cons];exact⟨this.1,by have:=this.2.1;omega,by have:=this.2.2;omega⟩
theorem Qr {nm:ByteArray}{i p:Int}{o:GZ}(ho:o.kind≠4):∀{cs:List Ie}{k:Int},(Vr nm i p o cs k).kind≠4
 | [],k=>ho
 | c::cs,k=>by
  unfold Vr;split
  ·simp
  exact Qr ho
theorem Po {nm:ByteArray}:∀{ds:List B4}{k:Int}{e:GZ},findF nm ds k=some e→e.kind=4→∃(j:Nat) (d:B4),e.decl=k+j∧ds[j]?=some d∧0≤e.item∧e.item<d.ctors.length
 | [],k,e,h,_=>by cases h
 | a::ds,k,e,h,hk=>by
  rw[findF,HF] at h;by_cases hn:F8 (CA a) nm=true
  ·rw[if_pos hn] at h;simp only[Option.some.injEq] at h;subst h;refine⟨0,a,?_⟩;unfold EF at hk ⊢;split at hk
   ·rename_i q;exact absurd hk (by simp only;omega)
   rename_i q;rw[if_neg q];split at hk
   ·rename_i q3;rw[if_pos q3];split at hk
    ·cases hk
    rename_i qn;rw[if_neg qn];have:=Nf Ag hk;exact⟨by rw[this.1];omega,rfl,this.2.1,by have:=this.2.2;omega⟩
   exact absurd hk (Qr Ag)
  rw[if_neg hn] at h;simp only at h;have ⟨j,d,h1,h2,h3⟩:=Po h hk;exact⟨j+1,d,by omega,by simpa using h2,h3⟩
theorem T5 {ds:List B4}{nm:ByteArray}(h0:(Cu ds nm).2=0) (hk:(Cu ds nm).1.kind=4):∃d,0≤(Cu ds nm).1.decl∧ds[(Cu ds nm).1.decl.toNat]?=some d∧0≤(Cu ds nm).1.item∧(Cu ds nm).1.item<d.ctors.length:=by grind [Cu,findF,Po]
end Go.Eu
namespace Go.Abs
section
variable {P:Program}{H:List Aj}{dst:Option Tmp}{ty:TypeId}{pos:String}{aft:Array Edge}{x y:Operand}{ρ:Operand→AV}{g:Option (Nat×Bool)}
end
section
variable {P:Program}{dst:Option Tmp}{ty:TypeId}{pos:String}{aft:Array Edge}{g:Option (Nat×Bool)}{ρ:Operand→AV}{H:List Aj}{x y z:Operand}{v:AV}
end
section
variable {P:Program}{dst:Option Tmp}{ty:TypeId}{pos:String}{aft:Array Edge}{g:Option (Nat×Bool)}{ρ:Operand→AV}{H:List Aj}{x y z:Operand}{v:AV}
end
section
variable {P:Program}{dst:Option Tmp}{ty:TypeId}{pos:String}{aft:Array Edge}{g:Option (Nat×Bool)}{ρ:Operand→AV}{H:List Aj}{x:Operand}
end
def At (cells:List PV) (o:Nat) (us:List PV):Prop:=∃rest,cells.drop o=us++rest
theorem At.front {us rest:List PV}:At (us++rest) 0 us:=⟨rest,rfl⟩
theorem At.all {us:List PV}:At us 0 us:=⟨[],by simp⟩
theorem At.one {c:PV}{rest:List PV}:At (c::rest) 0 [c]:=⟨rest,rfl⟩
theorem At.cons {c:PV}{cells us:List PV}{o:Nat}(h:At cells o us):At (c::cells) (o+1) us:=h
theorem At.app {a cells us:List PV}{o n:Nat}(hn:a.length=n) (h:At cells o us):At (a++cells) (n+o) us:=by
 have ⟨rest,h⟩:=h;exact⟨rest,by rw[List.drop_append,←hn,List.drop_of_length_le Af];simpa using h⟩
theorem At.sub {cells us vs:List PV}{o p:Nat}(h:At cells o us) (h':At us p vs) (hp:p≤us.length):At cells (o+p) vs:=by
 have ⟨r,h⟩:=h;have ⟨r',h'⟩:=h';exact⟨r'++r,by rw[←List.drop_drop,h,List.drop_append_of_le_length hp,h',List.append_assoc]⟩
theorem At.drop {cells us:List PV}{a b:Nat}(h:At cells (a+b) us):At (cells.drop a) b us:=by
 unfold At at h ⊢
 rwa [List.drop_drop]
section
variable {P:Program}{dst:Option Tmp}{ty:TypeId}{pos:String}{aft:Array Edge}{g:Option (Nat×Bool)}{ρ:Operand→AV}{H:List Aj}{x:Operand}{T:TypeId}{b o i n:Nat}{cells us:List PV}{c:PV}
theorem BY (hT:DO P T=some (true,n)) (hx:ρ x= .ptr b o) (hi:H[i]?=some (.box b (cells.map .p))) (ha:At cells o us) (hn:us.length=n):Ce P ⟨dst,.load T x,ty,pos,aft,g⟩ ρ H (.agg (us.map .p)) H:=by
 have e:((cells.map AV.p).drop o).take n=us.map .p:=by
  have ⟨rest,h⟩:=ha;rw[←List.map_drop,h,List.map_append,List.take_left' (by rw[List.length_map,hn])]
 grind [Bm,List.length_map]
theorem Ai (hT:DO P T=some (false,n)) (hx:ρ x= .ptr b o) (hi:H[i]?=some (.box b (cells.map .p))) (ha:At cells o [c]):Ce P ⟨dst,.load T x,ty,pos,aft,g⟩ ρ H (.p c) H :=
 BQ hT hx hi (by
  have ⟨rest,h⟩:=ha;have:=congrArg (fun l:List PV=>l[0]?) h;simp only[List.getElem?_drop,Nat.add_zero,List.singleton_append,List.getElem?_cons_zero] at this;simp[this])
theorem Cn (hT:DO P T=some (true,n)) (hx:ρ x= .ref (cells.drop o)) (ha:At cells o us) (hn:us.length=n):Ce P ⟨dst,.load T x,ty,pos,aft,g⟩ ρ H (.agg (us.map .p)) H :=
 EA hT hx hn (by obtain⟨rest,h⟩:=ha;rw[h];exact List.take_left)
theorem EP (hT:DO P T=some (false,n)) (hx:ρ x= .ref (cells.drop o)) (ha:At cells o [c]):Ce P ⟨dst,.load T x,ty,pos,aft,g⟩ ρ H (.p c) H:=by
 have ⟨rest,h⟩:=ha
 grind [Fs]
variable {y:Operand}
theorem Tn {a b:Bool}{T U:TypeId}(hu:P.underlying T=some .bool) (hx:ρ x= .p (.bool a)) (hy:ρ y= .p (.bool b)):Ce P ⟨dst,.binOp .neq T x y U,ty,pos,aft,g⟩ ρ H (.p (.bool (a !=b))) H :=
 BX fun F w E hH hE=>by
  have e1:=hE x AW;have e2:=hE y AW;rw[hx] at e1;rw[hy] at e2;simp only[BP,BN] at e1 e2;refine⟨.bool (a !=b),?_,by simp[BP,BN]⟩;have hg:(eqGuard .neq T x y (.bool a) (.bool b)).run P w= .ok () w:=by unfold eqGuard;rfl
  have hq:(Op.equal T (.bool a) (.bool b)).run P w= .ok (a==b) w:=Fl hu rfl;simp[execOp,Sem.run_bind,hg,e1,e2,binOp,hq,bne]
theorem DS {bl:Bool}{cs vs ds:List AV}(hT:DO P T=some (bl,n+1)) (hx:ρ x= .ptr b o) (hi:H[i]?=some (.box b cs)) (hy:DA (ρ y)=some vs) (hn:vs.length=n+1)
  (ho:Nat.ble (o+(n+1)) cs.length=true) (h1:vs.all one=true) (hd:splice cs o vs=ds):Ce P ⟨dst,.store T x y,ty,pos,aft,g⟩ ρ H (.p .any) (H.set i (.box b ds)):=by grind [Ho]
end
section
variable {F:Nat→Prop}{w:World}
end
section
variable {P:Program}{dst:Option Tmp}{ty:TypeId}{pos:String}{aft:Array Edge}{g:Option (Nat×Bool)}{ρ:Operand→AV}{H:List Aj}{x y z:Operand}{v:AV}
end
section
variable {P:Program}{dst:Option Tmp}{ty:TypeId}{pos:String}{aft:Array Edge}{g:Option (Nat×Bool)}{ρ:Operand→AV}{H:List Aj}{x y z:Operand}{v:AV}
theorem TZ {a b:ByteArray}{T U:TypeId}(hx:ρ x= .p (.str a)) (hy:ρ y= .p (.str b)) (hsz:a.size+b.size≤9223372036854775807):Ce P ⟨dst,.binOp .add T x y U,ty,pos,aft,g⟩ ρ H (.p (.str (a++b))) H :=
 BX fun F w E hH hE=>by
  have e1:=hE x AW;have e2:=hE y AW;rw[hx] at e1;rw[hy] at e2;simp only[BP,BN] at e1 e2;have hm:¬(((a.size+b.size:Nat):Int) > IntKind.i64.max):=by rw[show IntKind.i64.max=9223372036854775807 from rfl];omega
  have h1:(Op.stringOp .add a b).run P w= .ok (.string (a++b)) w:=by
   unfold Op.stringOp;simp only[if_neg hm];rfl
  exact⟨.string (a++b),by simp[execOp,Sem.run_bind,JV,e1,e2,binOp,h1],by simp[BP,BN]⟩
end
section
variable {P:Program}{r:Option Nat}{ops:Array Oper}{Q:Bd→As→Prop}{k:Nat}{n:Nat}{τ:Nat→AV}{H H':List Aj}{D:List Cb}{dst:Option Tmp}{op:Op}{ty:TypeId}{pos:String}{aft:Array Edge}{g:Option (Nat×Bool)}{v:AV}
end
section
variable {P:Program}{dst:Option Tmp}{ty:TypeId}{pos:String}{aft:Array Edge}{g:Option (Nat×Bool)}{ρ:Operand→AV}{H:List Aj}{x f:Operand}
end
section
variable {P:Program}{ops:Array Oper}{n:Nat}{τ₀ τ:Nat→AV}{D:List Cb}{Q:Bd→As→Prop}{opn:Nat→Bool}{k:Nat}{T:List Aj}{dst:Option Tmp}{ty:TypeId}{pos:String}{aft:Array Edge}{c:Call}{f:Operand}{fid:FuncId}{first caps A:List AV}{v:AV}{C:List Aj→Prop}
end
section
variable {P:Program}{dst:Option Tmp}{ty:TypeId}{pos:String}{aft:Array Edge}{g:Option (Nat×Bool)}{ρ:Operand→AV}{H:List Aj}{x y z:Operand}
end
theorem Lb {α:Type}:∀(xs l:List α) (o:Nat),o+xs.length≤l.length→splice l o xs=l.take o++xs++l.drop (o+xs.length)
 | [],l,o,h=>by simp[splice]
 | x::xs,l,o,h=>by
  simp only[List.length_cons] at h;rw[splice,Lb xs _ _ (by rw[List.length_set];omega)];have h1:(l.set o x).take (o+1)=l.take o++[x]:=by
   rw[List.take_add_one,List.getElem?_set_self Af,List.take_set_of_le (Nat.le_refl _)];rfl
  have h2:(l.set o x).drop (o+1+xs.length)=l.drop (o+(x::xs).length):=by
   rw[List.drop_set_of_lt Af];congr 1;simp only[List.length_cons];omega
  rw[h1,h2];simp
def Es:Nat→List (List PV)→List (Nat×AV)
 | _,[]=>[]
 | k,r::rs=>(k,.agg (r.map .p))::Es (k+1) rs
theorem Sd {sz:Nat}:∀(rows:List (List PV)) (k:Nat) (base:List AV),(∀r∈rows,r.length=sz)→(k+rows.length)*sz=base.length→D2 (fun i=>some (i*sz,sz)) base (Es k rows)=some (base.take (k*sz)++rows.flatten.map .p)
 | [],k,base,hr,hb=>by
  simp only[List.length_nil,Nat.add_zero] at hb;simp[Es,D2,hb]
 | r::rows,k,base,hr,hb=>by
  have hl:=hr r Ag;have hb2:k*sz+sz+rows.length*sz=base.length:=by
   rw[←hb,List.length_cons,Nat.add_mul,Nat.add_mul,Nat.one_mul];omega
  simp only[Es,D2,DA];rw[if_pos ⟨by simp[hl],by simp[hl];omega⟩,Lb _ _ _ (by simp[hl];omega)];rw[Sd rows (k+1) _ (fun x hx=>hr x (by simp[hx])) (by simp only[List.length_append,List.length_take,List.length_drop,List.length_map,hl];rw[Nat.add_mul,Nat.add_mul,Nat.one_mul];omega)];congr 1;have h1:((base.take (k*sz)++r.map AV.p)++base.drop (k*sz+(r.map AV.p).length)).take ((k+1)*sz)=base.take (k*sz)++r.map .p:=by
   have:(k+1)*sz=(base.take (k*sz)++r.map AV.p).length:=by
    simp only[List.length_append,List.length_take,List.length_map,hl];rw[Nat.add_mul,Nat.one_mul];omega
   rw[this,List.take_left'];rfl
  rw[h1];simp
theorem MW {α:Type}{sz:Nat}:∀{rows:List (List α)},(∀r∈rows,r.length=sz)→chunks sz rows.length rows.flatten=rows
 | [],_=>rfl
 | r::rows,h=>by
  have hl:=h r Ag;simp only[List.length_cons,chunks,List.flatten_cons];rw[List.take_left' hl,List.drop_left' hl,MW fun x hx=>h x (by simp[hx])]
theorem OW:∀(rows:List (List PV)) (k:Nat),(∀r∈rows,∀c∈r,c≠ .nils)→(Es k rows).map (fun p=>(p.1,norm p.2))=Es k rows
 | [],k,h=>rfl
 | r::rows,k,h=>by
  simp only[Es,List.map_cons];show (k,AV.agg ((r.map AV.p).map dn))::_=_;rw[OW rows (k+1) fun x hx=>h x (by simp[hx])];congr 3;have:=h r Ag;clear h
  induction r with
  | nil=>rfl
  | cons c r ih =>
   simp only[List.map_cons];rw[ih fun d hd=>this d (by simp[hd])];have:=this c Ag;cases c<;>simp_all [dn]
section
variable {P:Program}{dst:Option Tmp}{ty:TypeId}{pos:String}{aft:Array Edge}{g:Option (Nat×Bool)}{ρ:Operand→AV}{H:List Aj}
theorem OG:∀(r:List PV),Ep (r.map .p)=some r
 | []=>rfl
 | c::r=>by simp[Ep,OG r]
theorem TT {parts:Array (Nat×Operand)}{rows:List (List PV)}(hp:parts.toList.map (fun p=>(p.1,ρ p.2))=Es 0 rows) (hn:∀r∈rows,∀c∈r,c≠ .nils):parts.toList.map (fun p=>(p.1,norm (ρ p.2)))=Es 0 rows:=by
 have h2:=OW rows 0 hn;rw[←hp,List.map_map] at h2;rw[←hp];exact h2
theorem Iq {T e:TypeId}{len sz bytes:Nat}{parts:Array (Nat×Operand)}{z:Value}{cs:List AV}{ps:List PV}{rows:List (List PV)}(hT:D0 P T=some (e,sz,bytes)) (hz:zeroOf P e=some z) (hsz:z.cells.size=sz) (hpos:(Nat.blt 0 sz&&Nat.ble (len*sz) 16777216)=true)
  (hc:D2 (fun i=>some (i*sz,sz)) (List.replicate len (z.cells.toList.map EZ)).flatten (parts.toList.map fun p=>(p.1,norm (ρ p.2)))=some cs) (hp:Ep cs=some ps) (hr:chunks sz len ps=rows) :
  CL P ⟨dst,.buildSlice T len parts,ty,pos,aft,g⟩ ρ H (HZ sz rows H) :=
 FN fun F w E hH hE=>by
  have ⟨hu,i,hi,hs,hby⟩:=Dw hT;simp only[Bool.and_eq_true,Nat.blt_eq,Nat.ble_eq] at hpos;unfold zeroOf at hz;have hz':∃j,P.info? e=some j∧j.zero=some z:=by
   grind
  have ⟨j,hj,hz'⟩:=hz';have hzv:(zeroValue e).run P w= .ok z w:=by simp[zeroValue,typeInfo,hj,hz',Sem.run_bind]
  have hzl:A6 F w (List.replicate len (z.cells.toList.map EZ)).flatten (List.replicate len z.cells.toList).flatten:=FH (E7 _) len;have ⟨us,hf,hrep⟩:=Gx (F:=F) (w:=w) (place:=fun i=>some (i*sz,sz)) _ (parts.toList.map fun p=>(p.1,E p.2)) _ _ _ Ag (by
   intro j p q h1 h2;simp only[List.getElem?_map] at h1 h2;cases hj:parts.toList[j]? with
   | none=>simp[hj] at h1
   | some t =>
    simp[hj] at h1 h2;subst h1;subst h2;exact⟨O,(hE _ (by
     have:=List.mem_of_getElem? hj;simp only[Op.operands];exact List.mem_map.2 ⟨t,this,O⟩)).norm⟩) hzl hc
  have hcs:=Fg hp;have hlen:ps.length=len*sz:=by
   have h1:cs.length=((List.replicate len (z.cells.toList.map EZ)).flatten).length:=by
    clear hrep hp hcs hzl hf;generalize (List.replicate len (z.cells.toList.map EZ)).flatten=l at hc;generalize (parts.toList.map fun p=>(p.1,norm (ρ p.2)))=q at hc
    induction q generalizing l with
    | nil=>simp[D2] at hc;rw[hc]
    | cons a q ih =>
     grind [D2,DA,Et]
   grind [List.length_map,List.length_flatten,List.map_replicate,List.sum_replicate_nat,Array.length_toList]
  have ⟨c1,c2,c3⟩:=JD hlen;rw[hr] at c1 c2 c3;have hul:us.length=ps.length:=by rw[hrep.length,hcs];simp
  have ⟨v0,H0,F0,h10,h20,h30,h40⟩:=LJ (T:=e) (c:=len) (vs:=us) (H:=H) hH c2 (by rw[c1,←hul,List.take_length];rw[hcs] at hrep;exact hrep) Af Af;rw[c3] at h40;refine⟨_,_,v0,H0,F0,?_,h10,h20,h30,h40⟩;have hszr:(sizeOf e).run P w= .ok sz w:=by simp[sizeOf,typeInfo,hi,hs]
  have hzc:z.cells=⟨z.cells.toList⟩:=rfl;have hrm:=G6 z.cells.toList len;have hsz2:z.cells.toList.length=sz:=by simpa using hsz
  rw[hsz2] at hrm;have harr:((Array.range (len*sz)).map fun i=>z.cells[i % z.cells.size]!)=⟨(List.replicate len z.cells.toList).flatten⟩:=by
   grind
  simp only[execOp,Instr.buildSlice,Sem.run_bind,run_underlying hu,Result.andThen_ok,hszr];rw[if_neg Af];simp only[Sem.run_pure,Result.andThen_ok,Sem.run_bind,pure_bind];have hf':Instr.fill (fun i=>some (i*sz,sz)) ⟨(List.replicate len z.cells.toList).flatten⟩ (parts.map fun p=>(p.1,E p.2)).toList=some ⟨us⟩:=by
   rw[←hf];simp
  by_cases h00:len*sz=0
  ·have hl0:len=0:=by
    grind [Nat.mul_eq_zero.1]
   subst hl0;simp only[Nat.zero_mul,if_true];simp only[List.replicate_zero,List.flatten_nil] at hf';have e0:(Array.map (fun x=>(#[]:Array Value)[x % (#[]:Array Value).size]!) (Array.range 0))=(⟨[]⟩:Array Value):=by simp
   rw[e0,hf'];simp only[newRow,newObj,Sem.run_bind,Sem.run,Result.andThen,Sem.run_pure];rfl
  rw[if_neg h00];simp only[Sem.run_bind,hzv,Result.andThen_ok];rw[harr,hf'];simp only[newRow,newObj,Sem.run_bind,Sem.run,Result.andThen,Sem.run_pure];rfl
theorem Lk {T e:TypeId}{len sz bytes:Nat}{parts:Array (Nat×Operand)}{z:Value}{rows:List (List PV)}(hT:D0 P T=some (e,sz,bytes)) (hz:zeroOf P e=some z) (hsz:z.cells.size=sz) (hpos:(Nat.blt 0 sz&&Nat.ble (len*sz) 16777216)=true)
  (hp:parts.toList.map (fun p=>(p.1,ρ p.2))=Es 0 rows) (hl:rows.length=len) (hr:∀r∈rows,r.length=sz) (hn:∀r∈rows,∀c∈r,c≠ .nils) :
  CL P ⟨dst,.buildSlice T len parts,ty,pos,aft,g⟩ ρ H (HZ sz rows H):=by
 subst hl;refine Iq (cs:=rows.flatten.map .p) (ps:=rows.flatten) hT hz hsz hpos ?_ (OG _) (MW hr);rw[TT hp hn,Sd rows 0 _ hr (by simp[hsz])];simp
end
section
variable {P:Program}{ops:Array Oper}{n:Nat}{τ₀:Nat→AV}{D:List Cb}{Q:Bd→As→Prop}{opn:Nat→Bool}{k:Nat}{τ:Nat→AV}{H:List Aj}{rd:Ot}{ef:O7}{effs:List Bool}{fx:List (Nat×Sp)}{dst:Option Tmp}{op:Op}{ty:TypeId}{pos:String}{aft:Array Edge}
end
section
variable {P:Program}{ty:TypeId}{pos:String}{aft:Array Edge}{g:Option (Nat×Bool)}{ρ:Operand→AV}{H:List Aj}{x y:Operand}
theorem Ry {T T2 e e2:TypeId}{sz bytes n2 n3 d c i n:Nat}{o:Option Nat}{rows rows' all:List (List PV)}{zv:Value}(hT:D0 P T=some (e,sz,bytes)) (hT2:D0 P T2=some (e2,n2,n3)) (hz:zeroOf P e=some zv) (hzs:zv.cells.size=sz) (hb0:(Nat.blt 0 sz&&Nat.blt 0 bytes)=true)
  (hx:ρ x= .vs o n c) (hn:n=rows.length) (hi:H[i]?=some (.vec o sz rows c)) (hy:norm (ρ y)= .p (.lst rows')) (hsol:∀r∈rows',DJ sz r) (hroom:2*(rows.length+rows'.length)*bytes≤281474976710656) (hall:rows++rows'=all) :
  Ce P ⟨some d,.call { callee:= .builtin .append,args:=#[x,y],argTypes:=#[T,T2] },ty,pos,aft,g⟩ ρ H (.p (.lst all)) (H.eraseIdx i):=by
 subst hall;intro r F S a w hs hH hρ hd;subst hH;have h:=OX (P:=P) (dst:=some d) (ty:=ty) (pos:=pos) (aft:=aft) (g:=g) (ρ:=ρ) (H:=S.H) (i:=i) (o:=o) (rows:=rows) (n:=n) (c:=c) hT hT2 hz hzs hb0 hx hn hi hy hsol hroom r F S a w hs rfl hρ hd;refine Ff h ?_ ?_
 ·rintro a' w' ⟨v,H',F',⟨o',c',rfl,rfl⟩,hs',ht⟩;have hlt:=(List.getElem?_eq_some_iff.1 hi).1;have ⟨F'',hs'',ht''⟩:=CH (n:=S.n) (τ:=put S.τ (some d) (.vs o' (rows++rows').length c')) (H:=S.H.set i (.vec o' sz (rows++rows') c')) (D:=S.D) (i:=i) [d] (List.getElem?_set_self hlt) (fun t ht=>by simp at ht;subst ht;simp[put]) F' a' w' hs';have e:I0 [d] (.p (.lst (rows++rows'))) (put S.τ (some d) (.vs o' (rows++rows').length c'))=put S.τ (some d) (.p (.lst (rows++rows'))):=by
   funext t;simp only[I0,put,List.any_cons,List.any_nil,Bool.or_false]
   grind
  have e2:(S.H.set i (.vec o' sz (rows++rows') c')).eraseIdx i=S.H.eraseIdx i:=List.eraseIdx_set_eq;simp only[e,e2] at hs'' ht'';exact⟨_,S.H.eraseIdx i,F'',⟨O,O⟩,hs'',ht.trans hs.heap.bd ht''⟩
 rintro e a' w' ⟨v,H',F',u,h,_⟩;exact h.elim
end
abbrev BV:=Nat×Nat×AV
inductive Ez where
 | val (v:AV)
 | skip
 | new (cs:List AV)
 | newv (sz:Nat) (rows:List (List PV))
 | rel (R:AV→Prop)
 | dep (j:Nat) (f:BV→AV)
 | newd (j:Nat) (f:BV→List AV)
def OF (β:Nat→BV) (k:Nat) (b:BV):Nat→BV:=fun j=>if j=k then b else β j
def Ez.w (β:Nat→BV) (k:Nat):Ez→AV
 | .val v=>v
 | .skip=> .tup []
 | .new _ | .newd _ _=> .ptr (β k).1 0
 | .newv _ rows=> .vs (some (β k).1) rows.length (β k).2.1
 | .rel _=>(β k).2.2
 | .dep j f=>f (β j)
def Ez.bx (β:Nat→BV) (k:Nat):Ez→List Aj
 | .new cs=>[.box (β k).1 cs]
 | .newv sz rows=>[.vec (some (β k).1) sz rows (β k).2.1]
 | .newd j f=>[.box (β k).1 (f (β j))]
 | _=>[]
def Ez.ok (b:BV):Ez→Prop
 | .rel R=>R b.2.2
 | _=>True
def Ez.dj:Ez→Option Nat
 | .dep j _ | .newd j _=>some j
 | _=>none
def ZA:List Ez→Prop
 | []=>True
 | .rel R::r=>(∃v,R v)∧ZA r
 | _::r=>ZA r
def PN (ops:Array Oper) (o:Oper) (j:Nat):Prop:=j∈EX o∨∃m o',m∈EX o∧ops[m]?=some o'∧j∈EX o'
theorem PN.lt {ops:Array Oper}{i j:Nat}{o:Oper}(c0:∀i o j,ops[i]?=some o→j∈EX o→j<i) (ho:ops[i]?=some o):PN ops o j→j<i
 | .inl h=>c0 i o j ho h
 | .inr ⟨m,o',h1,h2,h3⟩=>by have:=c0 i o m ho h1;have:=c0 m o' j h2 h3;omega
theorem PN.down {ops:Array Oper}{l:Nat→Prop}{i j:Nat}{o:Oper}(hd:Down ops l) (ho:ops[i]?=some o) (hi:l i):PN ops o j→l j
 | .inl h=>hd i o j ho hi h
 | .inr ⟨m,o',h1,h2,h3⟩=>hd m o' j h2 (hd i o m ho hi h1) h3
def Pc (P:Program) (ops:Array Oper) (H₀:List Aj) (β:Nat→BV) (o:Oper) (τ:Nat→AV):Ez→Prop
 | .val v=>DI ops ⟨0,τ,[],[]⟩ o∧∀Bs,Ce P o (ev τ) (Bs++H₀) v (Bs++H₀)
 | .skip=>∃j want d,o.guard=some (j,want)∧(ops[j]?).bind (·.dst)=some d∧eN (τ d) want
 | .new cs=>o.guard=none∧∀Bs,CL P o (ev τ) (Bs++H₀) (Hl cs (Bs++H₀))
 | .newv sz rows=>o.guard=none∧∀Bs,CL P o (ev τ) (Bs++H₀) (HZ sz rows (Bs++H₀))
 | .rel R=>o.guard=none∧∀Bs,CL P o (ev τ) (Bs++H₀) (Mm R (Bs++H₀))
 | .dep j f=>PN ops o j∧DI ops ⟨0,τ,[],[]⟩ o∧∀Bs,Ce P o (ev τ) (Bs++H₀) (f (β j)) (Bs++H₀)
 | .newd j f=>PN ops o j∧o.guard=none∧∀Bs,CL P o (ev τ) (Bs++H₀) (Hl (f (β j)) (Bs++H₀))
def YG (Ok:(Nat→BV)→Nat→Oper→(Nat→AV)→Ez→Prop) (ops:Array Oper):(Nat→BV)→Nat→(Nat→AV)→List Ez→((Nat→BV)→(Nat→AV)→List Aj→Prop)→Prop
 | β,_,τ,[],K=>K β τ []
 | β,k,τ,e::r,K=>∃o,ops[k]?=some o∧Ok β k o τ e∧∀b,e.ok b→YG Ok ops (OF β k b) (k+1) (put τ o.dst (e.w (OF β k b) k)) r (fun β' τ' Hs=>K β' τ' (e.bx (OF β k b) k++Hs))
def N7 (β:Nat→BV):Nat→List Ez→List Sp
 | _,[]=>[]
 | k,e::r=> .free (e.w β k)::N7 β (k+1) r
def Oy (β:Nat→BV) (l:Nat→Bool):Nat→List Ez→List Aj
 | _,[]=>[]
 | k,e::r=>(if l k=true then e.bx β k else [])++Oy β l (k+1) r
theorem X9 (β:Nat→BV):∀(r:List Ez) (k j:Nat),((N7 β k r).getD j .skip).val=(r.getD j .skip).w β (k+j)
 | [],k,j=>by simp[N7,Sp.val,Ez.w]
 | e::r,k,0=>rfl
 | e::r,k,j+1=>by
  simp only[N7,List.getD_cons_succ];rw[X9 β r (k+1) j,show k+1+j=k+(j+1) by omega]
theorem Ib (β:Nat→BV) (r:List Ez) (j:Nat):((N7 β 0 r).getD j .skip).val=(r.getD j .skip).w β j:=by rw[X9,Nat.zero_add]
theorem VI {β β':Nat→BV}{k:Nat}{e:Ez}(hk:β k=β' k) (hd:∀j,e.dj=some j→β j=β' j):e.w β k=e.w β' k:=by
 cases e with
 | dep j f=>simp only[Ez.w];rw[hd j rfl]
 | _=>simp only[Ez.w,hk]
theorem NO {β β':Nat→BV}{k:Nat}{e:Ez}(hk:β k=β' k) (hd:∀j,e.dj=some j→β j=β' j):e.bx β k=e.bx β' k:=by
 cases e with
 | newd j f=>simp only[Ez.bx];rw[hk,hd j rfl]
 | _=>simp only[Ez.bx,hk]
theorem En {β:Nat→BV}{k:Nat}{b:BV}:OF β k b k=b:=if_pos rfl
theorem IS {β:Nat→BV}{k j:Nat}{b:BV}(h:j≠k):OF β k b j=β j:=if_neg h
structure gV (ops:Array Oper) (Ok:(Nat→BV)→Nat→Oper→(Nat→AV)→Ez→Prop):Prop where
 cg:∀β β' k o τ e,(∀j,e.dj=some j→β j=β' j)→Ok β k o τ e→Ok β' k o τ e
 dp:∀β k o τ e j,ops[k]?=some o→Ok β k o τ e→e.dj=some j→PN ops o j
theorem WS {α:Type}{l r:List α}{k:Nat}{e d:α}(h:l.drop k=e::r):l.getD k d=e∧l.drop (k+1)=r:=by
 refine⟨?_,by rw[←List.drop_drop,h];rfl⟩;have:(l.drop k)[0]?=some e:=by rw[h];rfl
 grind
theorem YG.facts {Ok:(Nat→BV)→Nat→Oper→(Nat→AV)→Ez→Prop}{ops:Array Oper}{τ:Nat→AV}{base:List Ez}(hc:gV ops Ok) (c0:∀i o j,ops[i]?=some o→j∈EX o→j<i) (β:Nat→BV) (hβ:∀j,(base.getD j .skip).ok (β j)):∀(r:List Ez) (k:Nat) (βk:Nat→BV) (τk:Nat→AV) (K:(Nat→BV)→(Nat→AV)→List Aj→Prop),(∀i,i<k→βk i=β i)→base.drop k=r→k+r.length=base.length→τk=τS ops (N7 β 0 base) τ k→YG Ok ops βk k τk r K →
  (∀j,k≤j→j<base.length→∃o,ops[j]?=some o∧Ok β j o (τS ops (N7 β 0 base) τ j) (base.getD j .skip))∧∃β',(∀i,i<base.length→β' i=β i)∧K β' (τS ops (N7 β 0 base) τ base.length) (Oy β (fun _=>true) k r)
 | [],k,βk,τk,K,hb,hd,hk,ht,h=>by
  simp only[List.length_nil,Nat.add_zero] at hk;subst hk;exact⟨fun j h1 h2=>by omega,βk,hb,by rw[←ht];exact h⟩
 | e::r,k,βk,τk,K,hb,hd,hk,ht,h=>by
  have ⟨o,ho,hok,hn⟩:=h;simp only[List.length_cons] at hk;have ⟨hbe,hd2⟩:=WS (d:=Ez.skip) hd;have hu:∀i,i<k+1→OF βk k (β k) i=β i:=by
   intro i hi;unfold OF;split
   ·rename_i e1;rw[e1]
   exact hb i Af
  have hdj:∀j,e.dj=some j→j<k:=fun j e1=>(hc.dp βk k o τk e j ho hok e1).lt c0 ho;have hn:=hn (β k) (by have:=hβ k;rwa [hbe] at this);rw[NO (hu k Af) fun j e1=>hu j (by have:=hdj j e1;omega)] at hn;have ⟨h1,β',h2,h3⟩:=YG.facts (τ:=τ) (base:=base) hc c0 β hβ r (k+1) _ _ _ hu hd2 Af (by simp only[τS,ho,Option.bind_some];rw[Ib β,hbe,←ht,VI (hu k Af) fun j e1=>hu j (by have:=hdj j e1;omega)]) hn;refine⟨fun j hj hl=>?_,β',h2,by simpa only[Oy,if_true] using h3⟩;by_cases e2:j=k
  ·subst e2;exact⟨o,ho,by rw[hbe,←ht];exact hc.cg _ _ _ _ _ _ (fun i e1=>hb i (hdj i e1)) hok⟩
  exact h1 j Af hl
theorem QJ {β β':Nat→BV}{l l':Nat→Bool}:∀(r:List Ez) (k:Nat),(∀j,k≤j→j<k+r.length→l j=l' j∧(l j=true→β j=β' j))→(∀i j,(r.getD i .skip).dj=some j→l (k+i)=true→β j=β' j)→Oy β l k r=Oy β' l' k r
 | [],k,h,hd=>rfl
 | e::r,k,h,hd=>by
  simp only[List.length_cons] at h;simp only[Oy];have ⟨h1,h2⟩:=h k (Nat.le_refl _) Af;rw[QJ r (k+1) (fun j hj hl=>h j Af Af) (fun i j e1 e2=>hd (i+1) j e1 (by rw[←e2];congr 1;omega)),←h1];cases hl:l k
  ·rfl
  rw[NO (e:=e) (h2 hl) fun j e1=>hd 0 j e1 hl]
theorem VC {β:Nat→BV}{l:Nat→Bool}{i:Nat}{b:BV}(hi:l i=false):∀(r:List Ez) (k:Nat),k≤i→i<k+r.length→(∀m j,(r.getD m .skip).dj=some j→l (k+m)=true→j≠i)→((r.getD (i - k) .skip).bx (OF β i b) i++Oy β l k r).Perm (Oy (OF β i b) (fun j=>l j||j==i) k r)
 | [],k,h1,h2,hd=>by simp at h2;omega
 | e::r,k,h1,h2,hd=>by
  simp only[Oy];have hd':∀m j,(r.getD m .skip).dj=some j→l (k+1+m)=true→j≠i:=fun m j e1 e2=>hd (m+1) j e1 (by rw[←e2];congr 1;omega);by_cases hk:k=i
  ·subst hk;simp only[hi,Bool.false_eq_true,if_false,List.nil_append,Nat.sub_self,List.getD_cons_zero,beq_self_eq_true,Bool.or_true,if_true];rw[QJ (β':=OF β k b) (l':=fun j=>l j||j==k) r (k+1) (fun j hj _=>⟨by simp[show (j==k)=false by simp;omega],fun _=>by rw[IS Af]⟩) (fun m j e1 e2=>by rw[IS (hd' m j e1 e2)])]
  have hp:=VC (β:=β) hi r (k+1) (b:=b) Af (by simp only[List.length_cons] at h2;omega) hd';have e1:(e::r).getD (i - k) .skip=r.getD (i - (k+1)) .skip:=by
   rw[show i - k=(i - (k+1))+1 by omega];rfl
  have e2:(if (l k||k==i)=true then e.bx (OF β i b) k else [])=(if l k=true then e.bx β k else []):=by
   rw[show (l k||k==i)=l k by simp[hk]];cases hl:l k
   ·rfl
   rw[if_pos rfl,if_pos rfl];exact NO (IS hk) fun j e3=>IS (hd 0 j e3 hl)
  rw[e1,e2];refine List.Perm.trans ?_ (hp.append_left _);rw[←List.append_assoc,←List.append_assoc];exact List.perm_append_comm.append_right _
theorem TH {β:Nat→BV}:∀(r:List Ez) (k:Nat),Oy β (fun _=>false) k r=[]
 | [],k=>rfl
 | e::r,k=>by simp only[Oy];rw[TH r (k+1)];rfl
theorem ZA.pick:∀(l:List Ez),ZA l→∃β:Nat→BV,∀j,(l.getD j .skip).ok (β j)
 | [],_=>⟨fun _=>(0,0,.p .any),fun j=>by simp[Ez.ok]⟩
 | e::r,h=>by
  have h2:ZA r∧∃b,e.ok b:=by
   cases e with
   | rel R=>exact⟨h.2,let ⟨v,hv⟩:=h.1;⟨(0,0,v),hv⟩⟩
   | _=>exact⟨h,(0,0,.p .any),trivial⟩
  have ⟨β,hβ⟩:=ZA.pick r h2.1;have ⟨b,hb⟩:=h2.2;refine⟨fun j=>match j with | 0=>b | j+1=>β j,fun j=>?_⟩;cases j with
  | zero=>exact hb
  | succ j=>exact hβ j
def hB (H:List Aj) (H₁:BV→List Aj) (i₀:Option Nat) (β:Nat→BV) (l:Nat→Bool):List Aj:=match i₀ with
 | none=>H
 | some i=>if l i=true then H₁ (β i) else H
def PU (P:Program) (ops:Array Oper) (H₀:List Aj) (H₁:BV→List Aj) (i₀:Option Nat) (fl:List Nat) (β:Nat→BV) (k:Nat) (o:Oper) (τ:Nat→AV) (e:Ez):Prop :=
 (some k=i₀→∃v,e= .val v∧o.guard=none∧∀Bs,CL P o (ev τ) (Bs++H₀) (fun r H'=>match r with | .val v'=>∃g,v'=v∧H'=Bs++H₁ g | .panic _=>False)) ∧
 (some k≠i₀→Pc P ops H₀ β o τ e∧∀g,Pc P ops (H₁ g) β o τ e)∧(fl.contains k=true→∀v,e= .val v→∀X,Ce P o (ev τ) X v X)
abbrev YX (P:Program) (ops:Array Oper) (H₀:List Aj) (H₁:BV→List Aj) (i₀:Option Nat) (fl:List Nat):=YG (PU P ops H₀ H₁ i₀ fl) ops
theorem Pc.cg {P:Program}{ops:Array Oper}{H:List Aj}{β β':Nat→BV}{o:Oper}{τ:Nat→AV}{e:Ez}(h:Pc P ops H β o τ e) (hd:∀j,e.dj=some j→β j=β' j):Pc P ops H β' o τ e:=by
 cases e with
 | dep j f=>exact⟨h.1,h.2.1,by rw[←hd j rfl];exact h.2.2⟩
 | newd j f=>exact⟨h.1,h.2.1,by rw[←hd j rfl];exact h.2.2⟩
 | _=>exact h
theorem Pc.dp {P:Program}{ops:Array Oper}{H:List Aj}{β:Nat→BV}{o:Oper}{τ:Nat→AV}{e:Ez}{j:Nat}(h:Pc P ops H β o τ e) (hd:e.dj=some j):PN ops o j:=by
 cases e with
 | dep j f=>cases hd;exact h.1
 | newd j f=>cases hd;exact h.1
 | _=>cases hd
theorem PU.cgr {P:Program}{ops:Array Oper}{H₀:List Aj}{H₁:BV→List Aj}{i₀:Option Nat}{fl:List Nat}:gV ops (PU P ops H₀ H₁ i₀ fl) where
 cg β β' k o τ e hd h:=⟨h.1,fun hk=>⟨(h.2.1 hk).1.cg hd,fun g=>((h.2.1 hk).2 g).cg hd⟩,h.2.2⟩
 dp β k o τ e j ho h hd:=by
  by_cases hk:some k=i₀
  ·obtain⟨v,rfl,_⟩:=h.1 hk;cases hd
  exact(h.2.1 hk).1.dp hd
theorem df.mono {P:Program}{ops:Array Oper}{n:Nat}{D:List Cb}{Q:Bd→As→Prop}{τ₀ τk:Nat→AV}{Hb:List Aj}{o:Oper}{K K':AV→List Aj→Prop}(h:df P ops n D Q τ₀ τk Hb o K) (hk:∀v H',K v H'→K' v H'):df P ops n D Q τ₀ τk Hb o K':=by
 rcases h with ⟨R,h1,h2,h3,h4⟩ | ⟨h1,h2⟩
 ·exact .inl ⟨R,h1,h2,fun v H' hR=>hk v H' (h3 v H' hR),h4⟩
 exact .inr ⟨h1,hk _ _ h2⟩
section
variable {P:Program}{r:Option Nat}{ops:Array Oper}{id n:Nat}{τ:Nat→AV}{H:List Aj}{D:List Cb}{Q:Bd→As→Prop}{base:List Ez}{H₁:BV→List Aj}{i₀:Option Nat}
def BI (base:List Ez) (H:List Aj) (H₁:BV→List Aj) (i₀:Option Nat) (β:Nat→BV) (l:Nat→Bool) (H':List Aj):Prop :=
 (∀j,(base.getD j .skip).ok (β j))∧∃Hb,H'=Hb++hB H H₁ i₀ β l∧Hb.Perm (Oy β l 0 base)
theorem aE (hne:ZA base):∃β,BI base H H₁ i₀ β (fun _=>false) H:=by
 have ⟨β,hβ⟩:=ZA.pick base hne;exact⟨β,hβ,[],by cases i₀<;>rfl,by rw[TH]⟩
theorem XG {β:Nat→BV}{l:Nat→Bool}{i:Nat}{b:BV}{H' Hb:List Aj}(hok:∀j,(base.getD j .skip).ok (β j)) (hb:(base.getD i .skip).ok b) (hib:i<base.length) (hnot:l i=false) (hdep:∀m j,(base.getD m .skip).dj=some j→l m=true→j≠i) (hself:(base.getD i .skip).dj≠some i) (hp:Hb.Perm (Oy β l 0 base)) (hH:H'=(base.getD i .skip).bx (OF β i b) i++(Hb++hB H H₁ i₀ (OF β i b) (fun k=>l k||k==i))) :
  (∀k,l k=true→((N7 (OF β i b) 0 base).getD k .skip).val=((N7 β 0 base).getD k .skip).val)∧((N7 (OF β i b) 0 base).getD i .skip).val=(base.getD i .skip).w (OF β i b) i∧BI base H H₁ i₀ (OF β i b) (fun k=>l k||k==i) H':=by
 refine⟨fun k hk=>?_,by rw[Ib],fun j=>?_,?_⟩
 ·grind [Ib,VI,IS]
 ·grind [En,IS]
 have h1:=VC (β:=β) (l:=l) (i:=i) (b:=b) hnot base 0 (Nat.zero_le _) Af (fun m j e1 e2=>hdep m j e1 (by rwa [Nat.zero_add] at e2));rw[Nat.sub_zero] at h1;exact⟨_,by rw[hH,List.append_assoc],(hp.append_left _).trans h1⟩
theorem V6 {fl:List Nat}(c0:∀i o j,ops[i]?=some o→j∈EX o→j<i) {β:Nat→BV}(hE:∀m,m<base.length→∃o,ops[m]?=some o∧∀j,(base.getD m .skip).dj=some j→PN ops o j) {τ₀ τk:Nat→AV}{l:Nat→Bool}{H':List Aj}{i:Nat}{o:Oper}(hyx:PU P ops H H₁ i₀ fl β i o τk (base.getD i .skip)) (h:BI base H H₁ i₀ β l H') (hib:i<base.length) (ho:ops[i]?=some o) (hnot:l i=false) (hdown:Down ops fun k=>l k=true) :
  df P ops n D Q τ₀ τk H' o fun v H''=>∃β',(∀k,l k=true→((N7 β' 0 base).getD k .skip).val=((N7 β 0 base).getD k .skip).val)∧((N7 β' 0 base).getD i .skip).val=v∧BI base H H₁ i₀ β' (fun k=>l k||k==i) H'':=by
 obtain⟨hok,Hb,rfl,hp⟩:=h;have hself:(base.getD i .skip).dj≠some i:=fun e=>absurd ((PU.cgr.dp _ _ _ _ _ _ ho hyx e).lt c0 ho) Af;have hdep:∀m j,(base.getD m .skip).dj=some j→l m=true→j≠i:=by
  intro m j e1 e2 e3;subst e3;have hm:m<base.length:=by
   rcases Nat.lt_or_ge m base.length with h | h
   ·exact h
   rw[List.getD_eq_getElem?_getD,List.getElem?_eq_none h] at e1;cases e1
  have ⟨om,hom,hym⟩:=hE m hm;have:=(hym j e1).down hdown hom e2
  grind
 have close:=fun(b:BV) (hb:(base.getD i .skip).ok b) (H':List Aj) (hH:H'=_)=>XG (H:=H) (H₁:=H₁) (i₀:=i₀) hok hb hib hnot hdep hself hp hH;by_cases hi0:some i=i₀
 ·subst hi0;have ⟨v,hv,hg,hop⟩:=hyx.1 rfl;rw[hv] at close;have e0:hB H H₁ (some i) β l=H:=by simp only[hB];rw[if_neg (by rw[hnot];decide)]
  rw[e0];refine .inl ⟨_,by unfold DI;rw[hg];trivial,hop Hb,fun v' H'' hR=>?_,fun _ _ h=>h.elim⟩;obtain⟨g,rfl,rfl⟩:=hR;exact⟨OF β i g,close g Ah _ (by simp only[hB,Ez.bx,List.nil_append,beq_self_eq_true,Bool.or_true,if_true,En])⟩
 have hB':∀b,hB H H₁ i₀ (OF β i b) (fun k=>l k||k==i)=hB H H₁ i₀ β l:=by
  intro b;unfold hB;cases i₀ with
  | none=>rfl
  | some q =>
   have hq:q≠i:=fun e=>hi0 (by rw[e]);simp only[show (q==i)=false by simp[hq],Bool.or_false,IS hq]
 have hez:Pc P ops (hB H H₁ i₀ β l) β o τk (base.getD i .skip):=by
  have ⟨h1,h2⟩:=hyx.2.1 hi0;unfold hB
  grind
 generalize base.getD i .skip=e at hez close hself;have close2:∀(b:BV) (v:AV) (H'':List Aj),e.ok b→v=e.w (OF β i b) i→H''=e.bx (OF β i b) i++(Hb++hB H H₁ i₀ β l)→∃β',(∀k,l k=true→((N7 β' 0 base).getD k .skip).val=((N7 β 0 base).getD k .skip).val)∧((N7 β' 0 base).getD i .skip).val=v∧BI base H H₁ i₀ β' (fun k=>l k||k==i) H'':=fun b v H'' h1 h2 h3=>by
  grind
 cases e with
 | val v=>exact .inl ⟨_,hez.1,hez.2 Hb,fun v' H'' ⟨a,b⟩=>close2 (0,0,.p .any) _ _ trivial a b,fun _ _ h=>h.elim⟩
 | skip=>exact .inr ⟨hez,close2 (0,0,.p .any) _ _ trivial rfl rfl⟩
 | new cs=>exact .inl ⟨_,by unfold DI;rw[hez.1];trivial,hez.2 Hb,fun v' H'' ⟨b,a,c⟩=>close2 (b,0,.p .any) _ _ trivial (by simp only[Ez.w,En];exact a) (by simp only[Ez.bx,En];exact c),fun _ _ h=>h.elim⟩
 | newv sz rows=>exact .inl ⟨_,by unfold DI;rw[hez.1];trivial,hez.2 Hb,fun v' H'' ⟨b,c,a,d⟩=>close2 (b,c,.p .any) _ _ trivial (by simp only[Ez.w,En];exact a) (by simp only[Ez.bx,En];exact d),fun _ _ h=>h.elim⟩
 | rel R=>exact .inl ⟨_,by unfold DI;rw[hez.1];trivial,hez.2 Hb,fun v' H'' ⟨a,b⟩=>close2 (0,0,v') _ _ a (by simp only[Ez.w,En]) b,fun _ _ h=>h.elim⟩
 | dep j f=>exact .inl ⟨_,hez.2.1,hez.2.2 Hb,fun v' H'' ⟨a,b⟩=>close2 (0,0,.p .any) _ _ trivial (by simp only[Ez.w];rw[IS (fun e=>hself (by rw[e];rfl))];exact a) b,fun _ _ h=>h.elim⟩
 | newd j f=>exact .inl ⟨_,by unfold DI;rw[hez.2.1];trivial,hez.2.2 Hb,fun v' H'' ⟨b,a,c⟩=>close2 (b,0,.p .any) _ _ trivial (by simp only[Ez.w,En];exact a) (by simp only[Ez.bx,En];rw[IS (fun e=>hself (by rw[e];rfl))];exact c),fun _ _ h=>h.elim⟩
end
section
variable {P:Program}{r:Option Nat}{ops:Array Oper}{id n:Nat}{τ:Nat→AV}{H:List Aj}{D:List Cb}{Q:Bd→As→Prop}{H₁:BV→List Aj}{i₀:Option Nat}{fl:List Nat}
theorem Zm {base:List Ez}{β β':Nat→BV}{l:Nat→Bool}{H':List Aj}(h:BI base H H₁ i₀ β l H') (hall:∀k,k<base.length→l k=true) (hi0:∀i,i₀=some i→i<base.length) (hb:∀i,i<base.length→β' i=β i):H'.Perm (Oy β (fun _=>true) 0 base++hB H H₁ i₀ β' (fun _=>true)):=by
 obtain⟨_,Hb,rfl,hp⟩:=h;have e1:Oy β l 0 base=Oy β (fun _=>true) 0 base:=by
  have:∀(r:List Ez) (k:Nat),(∀j,k≤j→j<k+r.length→l j=true)→Oy β l k r=Oy β (fun _=>true) k r:=by
   intro r
   induction r with
   | nil=>intro k h;rfl
   | cons e r ih =>
    grind [Oy,List.length_cons]
  grind
 have e2:hB H H₁ i₀ β l=hB H H₁ i₀ β' (fun _=>true):=by
  cases i₀ with
  | none=>rfl
  | some i=>simp only[hB,hall i (hi0 i rfl),hb i (hi0 i rfl),if_true]
 rw[e2,←e1];exact hp.append_right _
theorem dX {Ok:(Nat→BV)→Nat→Oper→(Nat→AV)→Ez→Prop}{base:List Ez}{β:Nat→BV}{τf:Nat→Nat→AV}(hE:∀j,j<base.length→∃o,ops[j]?=some o∧Ok β j o (τf j) (base.getD j .skip)) (hc:gV ops Ok:=by exact PU.cgr):∀m,m<base.length→∃o,ops[m]?=some o∧∀j,(base.getD m .skip).dj=some j→PN ops o j:=fun m hm=>by
 have ⟨o,ho,h⟩:=hE m hm;exact⟨o,ho,fun j e=>hc.dp _ _ _ _ _ _ ho h e⟩
end
section
variable {P:Program}{ops:Array Oper}{H₀:List Aj}{H₁:BV→List Aj}{i₀:Nat}{fl:List Nat}{β:Nat→BV}{k:Nat}{τ:Nat→AV}{r:List Ez}{K:(Nat→BV)→(Nat→AV)→List Aj→Prop}{dst:Option Tmp}{op:Op}{ty:TypeId}{pos:String}{aft:Array Edge}{v:AV}
theorem ok_none {o:Oper}{e:Ez}(h:Pc P ops H₀ β o τ e):PU P ops H₀ (fun _=>H₀) none [] β k o τ e:=⟨fun e=>(by cases e),fun _=>⟨h,fun _=>h⟩,fun e=>(by cases e)⟩
theorem Hh (ho:ops[k]?=some ⟨dst,op,ty,pos,aft,none⟩) (h:∀Bs,Ce P ⟨dst,op,ty,pos,aft,none⟩ (ev τ) (Bs++H₀) v (Bs++H₀)) (next:∀{b},YX P ops H₀ (fun _=>H₀) none [] (OF β k b) (k+1) (put τ dst v) r K):YX P ops H₀ (fun _=>H₀) none [] β k τ (.val v::r) K :=
 ⟨_,ho,ok_none ⟨trivial,h⟩,fun _ _=>next⟩
theorem Ys {cs:List AV}(ho:ops[k]?=some ⟨dst,op,ty,pos,aft,none⟩) (h:∀Bs,CL P ⟨dst,op,ty,pos,aft,none⟩ (ev τ) (Bs++H₀) (Hl cs (Bs++H₀))) (next:∀(b:Nat) {c},YX P ops H₀ (fun _=>H₀) none [] (OF β k (b,c)) (k+1) (put τ dst (.ptr b 0)) r (fun β' τ' Hs=>K β' τ' (.box b cs::Hs))):YX P ops H₀ (fun _=>H₀) none [] β k τ (.new cs::r) K :=
 ⟨_,ho,ok_none ⟨rfl,h⟩,fun b _=>by simp only[Ez.w,Ez.bx,En];exact @next b.1 b.2⟩
theorem dN {Ok:(Nat→BV)→Nat→Oper→(Nat→AV)→Ez→Prop}(h:K β τ []):YG Ok ops β k τ [] K:=h
theorem Yh {α:Type}{Bs H:List α}{j:Nat}{x:α}(h:H[j]?=some x):(Bs++H)[Bs.length+j]?=some x:=by
 grind
end
section
variable {P:Program}{ops:Array Oper}{n:Nat}{τ₀:Nat→AV}{D:List Cb}{Q:Bd→As→Prop}{opn:Nat→Bool}{k:Nat}{τ:Nat→AV}{H Hs:List Aj}{rd:Ot}{ef:O7}{effs:List Bool}{fx:List (Nat×Sp)}{dst:Option Tmp}{ty:TypeId}{pos:String}{aft:Array Edge}{v:AV}{c:Call}{f:Operand}{fid:FuncId}{first caps A:List AV}
end
section
variable {P:Program}{dst:Option Tmp}{ty:TypeId}{pos:String}{aft:Array Edge}{g:Option (Nat×Bool)}{ρ:Operand→AV}{H:List Aj}{x y z:Operand}{v:AV}
end
theorem CL.permL {P:Program}{o:Oper}{ρ:Operand→AV}{X H:List Aj}{R:DL→List Aj→Prop}(h:CL P o ρ X R) (hp:H.Perm X):CL P o ρ H R:=by
 intro r F S a w hs hH hρ hd;subst hH;have hs':D1 F ⟨S.n,S.τ,X,S.D⟩ a w:=⟨hs.size,hs.tmp,hs.heap.perm hp,hs.defs⟩;have tr:∀{F' H' w'},Trans F X w F' H' w'→Trans F S.H w F' H' w':=fun t =>
  { t with same:=fun b hb hn=>t.same b hb fun o ho=>hn o (hp.mem_iff.2 ho),keep:=fun b hb hn=>t.keep b hb fun o ho=>hn o (hp.mem_iff.2 ho),keys:=fun o ho b hb=>(t.keys o ho b hb).imp (fun⟨q,h1,h2⟩=>⟨q,hp.mem_iff.2 h1,h2⟩) id }
 refine Ff (h r F ⟨S.n,S.τ,X,S.D⟩ a w hs' O hρ hd) ?_ ?_
 ·rintro a' w' ⟨v,H',F',h1,h2,h3⟩;exact⟨v,H',F',h1,h2,tr h3⟩
 grind
theorem CL.ev {P:Program}{o:Oper}{ρ ρ':Operand→AV}{H:List Aj}{R:DL→List Aj→Prop}(h:CL P o ρ H R) (he:∀x∈o.op.operands.toList,ρ x=ρ' x):CL P o ρ' H R :=
 fun r F S a w hs hH hρ hd=>h r F S a w hs hH (fun x hx=>(hρ x hx).trans (he x hx).symm) hd
theorem QX {ops:Array Oper}{sp sp':List Sp}{τ:Nat→AV}:∀{k:Nat},(∀j,j<k→(sp.getD j .skip).val=(sp'.getD j .skip).val)→τS ops sp τ k=τS ops sp' τ k
 | 0,_=>rfl
 | k+1,h=>by simp only[τS];rw[QX fun j hj=>h j Af,h k Af]
theorem ad {β:Nat→BV}{base tl:List Ez}{j:Nat}(h:j<base.length):((N7 β 0 (base++tl)).getD j .skip).val=((N7 β 0 base).getD j .skip).val:=by
 rw[Ib,Ib,List.getD_eq_getElem?_getD,List.getElem?_append_left h,←List.getD_eq_getElem?_getD]
def TV (P:Program) (ops:Array Oper) (Xs:List Aj→Prop):Nat→(Nat→AV)→List Aj→List AV→((Nat→AV)→List Aj→Prop)→Prop
 | _,τ,H,[],K=>K τ H
 | k,τ,H,v::r,K=>∃o H',ops[k]?=some o∧o.guard=none∧Ce P o (ev τ) H v H'∧Xs H'∧TV P ops Xs (k+1) (put τ o.dst v) H' r K
theorem TV.facts {P:Program}{ops:Array Oper}{Xs:List Aj→Prop}{τ:Nat→AV}{sp:List Sp}:∀(r:List AV) (k:Nat) (H:List Aj) (K:(Nat→AV)→List Aj→Prop),(∀j v,r[j]?=some v→(sp.getD (k+j) .skip).val=v)→TV P ops Xs k (τS ops sp τ k) H r K →
  ∃Hm:Nat→List Aj,Hm k=H∧(∀j,k≤j→j<k+r.length→∃o,ops[j]?=some o∧o.guard=none∧Ce P o (ev (τS ops sp τ j)) (Hm j) ((sp.getD j .skip).val) (Hm (j+1))∧Xs (Hm (j+1)))∧K (τS ops sp τ (k+r.length)) (Hm (k+r.length))
 | [],k,H,K,hv,h=>⟨fun _=>H,rfl,fun j h1 h2=>by simp at h2;omega,h⟩
 | v::r,k,H,K,hv,h=>by
  have ⟨o,H',ho,hg,hop,hx,hn⟩:=h;have hk:(sp.getD k .skip).val=v:=hv 0 v rfl;have ⟨Hm,h1,h2,h3⟩:=TV.facts (P:=P) (ops:=ops) (Xs:=Xs) (τ:=τ) (sp:=sp) r (k+1) H' K (fun j v' e=>by rw[show k+1+j=k+(j+1) by omega];exact hv (j+1) v' e) (by simp only[τS,ho,Option.bind_some,hk];exact hn);obtain⟨G,g1,g2⟩:∃G:Nat→List Aj,G k=H∧∀j,k<j→G j=Hm j:=⟨fun j=>if j=k then H else Hm j,if_pos rfl,fun j h=>if_neg Af⟩;refine⟨G,g1,fun j a1 a2=>?_,?_⟩
  ·rw[g2 (j+1) Af];by_cases e:j=k
   ·subst e;rw[g1,h1,hk];exact⟨o,ho,hg,hop,hx⟩
   rw[g2 j Af];simp only[List.length_cons] at a2;exact h2 j Af Af
  rw[show k+(v::r).length=k+1+r.length by simp only[List.length_cons];omega,g2 _ Af];exact h3
def YT (fl:List Nat) (base:List Ez):Bool:=fl.all fun j=>match base.getD j .skip with | .val _=>true | _=>false
def Yu (ops:Array Oper) (e:Nat) (fl:List Nat):Bool:=(List.range ops.size).all fun i=>Nat.blt i e||(List.range i).all fun j=>(Nat.blt j e&&fl.contains j)||Mg ops j i
theorem OD {ops:Array Oper}{e:Nat}{fl:List Nat}(h:Yu ops e fl=true) {i j:Nat}(hi:e≤i) (hs:i<ops.size) (hj:j<i) (hf:¬(j<e∧fl.contains j=true)):Pred ops j i:=by
 have:=List.all_eq_true.1 h i (by simpa using hs);simp only[Bool.or_eq_true] at this;rcases this with h1 | h1
 ·rw[Nat.blt_eq] at h1;omega
 have:=List.all_eq_true.1 h1 j (by simpa using hj);simp only[Bool.or_eq_true,Bool.and_eq_true,Nat.blt_eq] at this
 grind [D7]
section
variable {P:Program}{r:Option Nat}{ops:Array Oper}{id n:Nat}{τ:Nat→AV}{H:List Aj}{D:List Cb}{Q:Bd→As→Prop}{H₁:BV→List Aj}{i₀:Option Nat}{flx:List Nat}
theorem YM {β:Nat→BV}{l:Nat→Bool}:∀(r:List Ez) (k:Nat),(∀j,j<r.length→l (k+j)=true∨∃v,r.getD j .skip= .val v)→Oy β l k r=Oy β (fun _=>true) k r
 | [],k,h=>rfl
 | e::r,k,h=>by
  simp only[Oy,if_true];rw[YM r (k+1) fun j hj=>by have:=h (j+1) (by simpa using hj);rw[show k+(j+1)=k+1+j by omega] at this;simpa using this];rcases h 0 Ag with h1 | ⟨v,h1⟩
  ·rw[Nat.add_zero] at h1;rw[if_pos h1]
  simp only[List.getD_cons_zero] at h1;subst h1;split<;>rfl
theorem aj (Xs:List Aj→Prop) (base:List Ez) (tl:List AV) (fl:List Nat) (hm:P.follows .mixedOrders=true) (hi0:∀i,i₀=some i→i<base.length∧fl.contains i=false)
  (he:base.length+tl.length=ops.size) (chk:KI ops n []=true) (late:Yu ops base.length fl=true) (hfl:YT fl base=true) (hne:ZA base)
  (hF:∀β k o τ v,fl.contains k=true→PU P ops H H₁ i₀ flx β k o τ (.val v)→DI ops ⟨0,τ,[],[]⟩ o∧∀X,Xs X→Ce P o (ev τ) X v X)
  (h:YX P ops H H₁ i₀ flx (fun _=>(0,0,.p .any)) 0 τ base (fun β τ' Hs=>TV P ops Xs base.length τ' (Hs++hB H H₁ i₀ β (fun _=>true)) tl (fun τ'' X=>Q .normal ⟨n,τ'',X,D⟩))):GF P r (.region id ops true) ⟨n,τ,H,D⟩ Q:=by
 have ⟨hdst,c0,c1,c2,_⟩:=Qo chk;have hflv:∀j,fl.contains j=true→∃v,base.getD j .skip= .val v:=fun j hj=>by
  have:=List.all_eq_true.1 hfl j (by simpa using hj)
  grind
 obtain⟨SP,hSP⟩:∃SP:(Nat→BV)→List Sp,SP=fun β=>N7 β 0 (base++tl.map .val):=⟨_,rfl⟩;have spv:∀β j,j<base.length→((SP β).getD j .skip).val=((N7 β 0 base).getD j .skip).val:=fun β j hj=>by rw[hSP];exact ad hj
 have spt:∀β j v,tl[j]?=some v→((SP β).getD (base.length+j) .skip).val=v:=fun β j v e=>by
  rw[hSP];show ((N7 β 0 (base++tl.map Ez.val)).getD (base.length+j) .skip).val=v;rw[Ib,List.getD_eq_getElem?_getD,List.getElem?_append_right (Nat.le_add_right _ _),Nat.add_sub_cancel_left,List.getElem?_map,e];rfl
 have hE:∀β,(∀j,(base.getD j .skip).ok (β j))→(∀j,j<base.length→∃o,ops[j]?=some o∧PU P ops H H₁ i₀ flx β j o (τS ops (SP β) τ j) (base.getD j .skip)) ∧
   ∃Hm:Nat→List Aj,Hm base.length=Oy β (fun _=>true) 0 base++hB H H₁ i₀ β (fun _=>true)∧(∀j,base.length≤j→j<ops.size→∃o,ops[j]?=some o∧o.guard=none∧Ce P o (ev (τS ops (SP β) τ j)) (Hm j) (((SP β).getD j .skip).val) (Hm (j+1))∧Xs (Hm (j+1)))∧Q .normal ⟨n,τS ops (SP β) τ ops.size,Hm ops.size,D⟩:=fun β hβ=>by
  have ⟨h1,β',hb,hK⟩:=YG.facts (base:=base) (τ:=τ) PU.cgr c0 β hβ base 0 _ τ _ (fun i h=>absurd h Af) rfl Af rfl h;have e:∀j,j≤base.length→τS ops (N7 β 0 base) τ j=τS ops (SP β) τ j:=fun j hj=>QX fun q hq=>(spv β q Af).symm;have e2:hB H H₁ i₀ β' (fun _=>true)=hB H H₁ i₀ β (fun _=>true):=by
   cases i₀ with
   | none=>rfl
   | some i=>simp only[hB,hb i (hi0 i rfl).1]
  rw[e _ (Nat.le_refl _),e2] at hK;have ⟨Hm,g1,g2,g3⟩:=TV.facts tl base.length _ _ (fun j v e=>spt β j v e) hK;rw[he] at g2 g3;exact⟨fun j hj=>by obtain⟨o,a,b⟩:=h1 j (Nat.zero_le _) hj;rw[e j Af] at b;exact⟨o,a,b⟩,Hm,g1,g2,g3⟩
 -- which of the last operations have been carried out
 obtain⟨I,hI⟩:∃I:(Nat→BV)→(Nat→Bool)→List Aj→Prop,I=fun β l H'=>(BI base H H₁ i₀ β l H'∧∀k,base.length≤k→l k=false) ∨
   ((∀j,(base.getD j .skip).ok (β j))∧∃m,base.length<m∧m≤ops.size∧(∀k,base.length≤k→k<ops.size→(l k=true↔k<m))∧(∀k,k<base.length→fl.contains k=false→l k=true) ∧
    ∃Hm:Nat→List Aj,(∀j,base.length≤j→j<ops.size→∃o,ops[j]?=some o∧o.guard=none∧Ce P o (ev (τS ops (SP β) τ j)) (Hm j) (((SP β).getD j .skip).val) (Hm (j+1))∧Xs (Hm (j+1)))∧Q .normal ⟨n,τS ops (SP β) τ ops.size,Hm ops.size,D⟩∧H'=Hm m):=⟨_,rfl⟩
 refine Se hm ops.size (Nat.le_refl _) ⟨hdst,c0,c1,c2⟩ (fun i j h1 h2=>absurd h1 Af) SP I ?_ ?_ ?_
 ·have ⟨β,hβ⟩:=aE (H:=H) (H₁:=H₁) (i₀:=i₀) hne;rw[hI];exact⟨β,.inl ⟨hβ,fun _ _=>rfl⟩⟩
 ·intro β l H' i o h hlt ho hnot hdown hpre
  -- the operation i of the last ones comes
  have late':base.length≤i→(∀k,k<base.length→fl.contains k=false→l k=true)∧∀k,base.length≤k→k<i→l k=true:=fun hi =>
   ⟨fun k hk hf=>hpre k (OD late hi hlt Af fun h=>by rw[hf] at h;cases h.2),fun k h1 h2=>hpre k (OD late hi hlt h2 fun h=>by omega)⟩
  have go:∀{Hm:Nat→List Aj},base.length≤i→(∀j,(base.getD j .skip).ok (β j))→(∀k,base.length≤k→k<ops.size→l k=true→k<i)→(∀j,base.length≤j→j<ops.size→∃o,ops[j]?=some o∧o.guard=none∧Ce P o (ev (τS ops (SP β) τ j)) (Hm j) (((SP β).getD j .skip).val) (Hm (j+1))∧Xs (Hm (j+1)))→Q .normal ⟨n,τS ops (SP β) τ ops.size,Hm ops.size,D⟩→H'.Perm (Hm i) →
    df P ops n D Q τ (τS ops (SP β) τ i) H' o fun v H''=>∃ix',(∀k,l k=true→((SP ix').getD k .skip).val=((SP β).getD k .skip).val)∧((SP ix').getD i .skip).val=v∧I ix' (fun k=>l k||k==i) H'':=by
   intro Hm hi hok hlast h2 h3 hp;have ⟨o',ho',hg,hop,_⟩:=h2 i hi hlt;rw[ho] at ho';injection ho' with ho';subst ho';refine .inl ⟨_,by unfold DI;rw[hg];trivial,CL.permL hop hp,fun v' H'' ⟨a,b⟩=>⟨β,fun _ _=>rfl,a.symm,?_⟩,fun _ _ h=>h.elim⟩;rw[hI];refine .inr ⟨hok,i+1,by omega,by omega,fun k h1 h2=>?_,fun k h1 h2=>by show (l k||k==i)=true;rw[(late' hi).1 k h1 h2];rfl,Hm,h2,h3,b⟩;show (l k||k==i)=true↔_;by_cases hki:k=i
   ·subst hki;simp
   rw[show (k==i)=false by simp[hki],Bool.or_false];exact⟨fun h=>by have:=hlast k h1 h2 h;omega,fun h=>(late' hi).2 k h1 Af⟩
  have hI0:=h;rw[hI] at h;rcases h with ⟨hbi,hno⟩ | ⟨hok,m,hm1,hm2,hst,hbs,Hm,g2,g3,rfl⟩
  ·rcases Nat.lt_or_ge i base.length with hib | hib
   ·have ⟨o',ho',hyx⟩:=(hE β hbi.1).1 i hib;rw[ho] at ho';injection ho' with ho';subst ho';refine(V6 c0 (dX (hE β hbi.1).1) hyx hbi hib ho hnot hdown).mono fun v H'' hK=>?_;have ⟨β',a1,a2,a3⟩:=hK;refine⟨β',fun k hk=>?_,by rw[spv _ _ hib,a2],by rw[hI];exact .inl ⟨a3,fun k hk=>by show (l k||k==i)=false;rw[hno k hk];simp;omega⟩⟩;have hkb:k<base.length:=by
     rcases Nat.lt_or_ge k base.length with h | h
     ·exact h
     rw[hno k h] at hk;cases hk
    rw[spv _ _ hkb,spv _ _ hkb,a1 k hk]
   have hie:i=base.length:=by
    rcases Nat.lt_or_ge base.length i with h | h
    ·have:=(late' hib).2 base.length (Nat.le_refl _) h;rw[hno base.length (Nat.le_refl _)] at this;cases this
    omega
   subst hie;have ⟨_,Hm,g1,g2,g3⟩:=hE β hbi.1;refine go hib hbi.1 (fun k h1 h2 h3=>by rw[hno k h1] at h3;cases h3) g2 g3 ?_;obtain⟨_,Hb,rfl,hp⟩:=hbi;rw[g1,←YM (l:=l) base 0 fun j hj=>by
    rw[Nat.zero_add];cases hf:fl.contains j with
    | true=>exact .inr (hflv j hf)
    | false=>exact .inl ((late' hib).1 j hj hf)]
   have e2:hB H H₁ i₀ β l=hB H H₁ i₀ β (fun _=>true):=by
    cases i₀ with
    | none=>rfl
    | some q=>simp only[hB,(late' hib).1 q (hi0 q rfl).1 (hi0 q rfl).2,if_true]
   rw[←e2];exact hp.append_right _
  rcases Nat.lt_or_ge i base.length with hib | hib
  ·-- a value floats past the last operations
   have hfi:fl.contains i=true:=by
    cases hf:fl.contains i with
    | true=>rfl
    | false=>have:=hbs i hib hf;rw[hnot] at this;cases this
   have ⟨v,hv⟩:=hflv i hfi;have ⟨o',ho',hyx⟩:=(hE β hok).1 i hib;rw[ho] at ho';injection ho' with ho';subst ho';rw[hv] at hyx;have ⟨hw,hop⟩:=hF _ _ _ _ _ hfi hyx;have hxs:Xs (Hm m):=by
    have ⟨_,_,_,_,hx⟩:=g2 (m - 1) Af Af
    rwa [show m - 1+1=m by omega] at hx
   refine .inl ⟨_,hw,hop _ hxs,fun v' H'' ⟨a,b⟩=>⟨β,fun _ _=>O,by rw[spv _ _ hib,Ib,hv,a];rfl,?_⟩,fun _ _ h=>h.elim⟩;rw[hI];refine .inr ⟨hok,m,hm1,hm2,fun k h1 h2=>?_,fun k h1 h2=>by show (l k||k==i)=true;rw[hbs k h1 h2];rfl,Hm,g2,g3,b⟩;show (l k||k==i)=true↔_;rw[show (k==i)=false by simp;omega,Bool.or_false];exact hst k h1 h2
  have him:i=m:=by
   have h1:¬i<m:=fun h=>by have:=(hst i hib hlt).2 h;rw[hnot] at this;cases this
   rcases Nat.lt_or_ge m i with h | h
   ·have:=(hst m Af Af).1 ((late' hib).2 m Af h);omega
   omega
  subst him;exact go hib hok (fun k h1 h2 h3=>(hst k h1 h2).1 h3) g2 g3 (List.Perm.refl _)
 intro β l H' h hall _;rw[hI] at h;rcases h with ⟨hbi,hno⟩ | ⟨hok,m,hm1,hm2,hst,hbs,Hm,g2,g3,rfl⟩
 ·have hbs:base.length=ops.size:=by
   rcases Nat.lt_or_ge base.length ops.size with h | h
   ·have:=hall base.length h;rw[hno base.length (Nat.le_refl _)] at this;cases this
   omega
  have ⟨_,Hm,g1,g2,g3⟩:=hE β hbi.1;have hp:=Zm hbi (fun k hk=>hall k Af) (fun i e=>(hi0 i e).1) (fun _ _=>rfl);rw[←g1,hbs] at hp;exact JS hp (Ba (Nat.sub_self _) g3)
 have hms:m=ops.size:=by
  rcases Nat.lt_or_ge m ops.size with h | h
  ·have:=(hst m Af h).1 (hall m h);omega
  omega
 subst hms;exact Ba (Nat.sub_self _) g3
theorem ZJ (base:List Ez) (tl:List AV) (fl:List Nat) (hm:P.follows .mixedOrders=true) (he:base.length+tl.length=ops.size) (chk:KI ops n []=true) (late:Yu ops base.length fl=true) (hfl:YT fl base=true)
  (h:YX P ops H (fun _=>H) none [] (fun _=>(0,0,.p .any)) 0 τ base (fun β τ' Hs=>TV P ops (fun X=>∃Bs,X=Bs++H) base.length τ' (Hs++H) tl (fun τ'' X=>Q .normal ⟨n,τ'',X,D⟩))) (hne:ZA base:=by exact trivial):GF P r (.region id ops true) ⟨n,τ,H,D⟩ Q :=
 aj _ base tl fl hm (fun i e=>by cases e) he chk late hfl hne (fun β k o τ v _ h=>⟨(h.2.1 Ag).1.1,fun X ⟨Bs,e⟩=>by rw[e];exact(h.2.1 Ag).1.2 Bs⟩) h
def gR (P:Program) (ops:Array Oper) (H:List Aj) (u:AV) (i₀:Nat) (β:Nat→BV) (k:Nat) (o:Oper) (τ:Nat→AV) (e:Ez):Prop :=
 if k=i₀ then e.dj=none∧o.guard=none∧∀Bs,CL P o (ev τ) (Bs++H) (fun r _=>r= .panic u) else (Mg ops i₀ k=true∧e.dj=none)∨Pc P ops H β o τ e
theorem gR.cgr {u:AV}{i₀:Nat}:gV ops (gR P ops H u i₀) where
 cg β β' k o τ e hd h:=by
  unfold gR at *;split
  ·grind
  rename_i hk;rw[if_neg hk] at h;exact h.imp (fun h=>h) fun h=>h.cg hd
 dp β k o τ e j ho h hd:=by
  unfold gR at h;split at h
  ·grind
  rcases h with h | h
  ·grind
  exact h.dp hd
end
section
variable {P:Program}{ops:Array Oper}{H₀ H:List Aj}{u:AV}{i₀:Nat}{β:Nat→BV}{k:Nat}{τ:Nat→AV}{r:List Ez}{dst:Option Tmp}{op:Op}{ty:TypeId}{pos:String}{aft:Array Edge}{v:AV}
theorem VB {X:List Aj}{l:List AV}{C:(Nat→AV)→List Aj→Prop}(H':List Aj) (ho:ops[k]?=some ⟨dst,op,ty,pos,aft,none⟩) (h:Ce P ⟨dst,op,ty,pos,aft,none⟩ (ev τ) X v (H'++H₀)) (next:TV P ops (fun X=>∃Bs,X=Bs++H₀) (k+1) (put τ dst v) (H'++H₀) l C):TV P ops (fun X=>∃Bs,X=Bs++H₀) k τ X (v::l) C :=
 ⟨_,_,ho,rfl,h,⟨_,rfl⟩,next⟩
theorem dT {Xs:List Aj→Prop}{X:List Aj}{C:(Nat→AV)→List Aj→Prop}(h:C τ X):TV P ops Xs k τ X [] C:=h
end
theorem D1.putW {F:Nat→Prop}{S:As}{d:Option Nat}{v v':AV}{H:List Aj}{a:Act}{w:World}(h:D1 F (S.put d v H) a w) (hv:Mq v v'):D1 F (S.put d v' H) a w :=
 ⟨h.size,fun t=>by
  have:=h.tmp t;cases d with
  | none=>exact this
  | some d =>
   have h3:BP F w (Abs.put S.τ (some d) v t) (a.tmps.getD t undef):=this;show BP F w (Abs.put S.τ (some d) v' t) (a.tmps.getD t undef);cases hb:Nat.beq t d
   ·have e (x:AV):Abs.put S.τ (some d) x t=S.τ t:=by simp only[Abs.put,hb,cond_false]
    grind
   have e (x:AV):Abs.put S.τ (some d) x t=x:=by simp only[Abs.put,hb,cond_true]
   rw[e] at h3 ⊢;exact hv _ _ _ h3,h.heap,h.defs⟩
theorem Wo {P:Program}{o:Oper}{ρ:Operand→AV}{H H':List Aj}{v v':AV}(h:Ce P o ρ H v H') (hv:Mq v v'):Ce P o ρ H v' H':=by
 intro r F S a w hs hH hρ hd;refine Ff (h r F S a w hs hH hρ hd) ?_ ?_
 ·rintro a' w' ⟨v1,H1,F1,⟨e1,e2⟩,h2,h3⟩;subst e1;subst e2;exact⟨_,_,F1,⟨O,O⟩,h2.putW hv,h3⟩
 rintro e a' w' ⟨_,_,_,_,h,_⟩;exact h.elim
theorem YS {P:Program}{o:Oper}{ρ:Operand→AV}{H H':List Aj}{v:AV}(h:Ce P o ρ H v H'):Ce P o ρ H (norm v) H':=Wo h (E9 rfl)
end Go.Abs
namespace Go.Eu
open Go.Abs
theorem Ch (x:B4):At (Bn x) 0 [I x.kind]:=At.one
theorem Ec (x:B4):At (Bn x) 1 [.str x.name]:=At.cons (At.one)
theorem B3 (x:B4):At (Bn x) 2 [I x.params]:=At.cons (At.cons (At.one))
theorem D8 (x:B4):At (Bn x) 3 (BB x.type):=At.cons (At.cons (At.cons (At.front)))
theorem Dp (x:B4):At (Bn x) 8 (BB x.value):=At.cons (At.cons (At.cons (At.app (An _) (At.front))))
theorem Dm (x:B4):At (Bn x) 13 [I x.fixed]:=At.cons (At.cons (At.cons (At.app (An _) (At.app (An _) (At.one)))))
theorem Bw (x:B4):At (Bn x) 14 [.lst (x.ctors.map FM)]:=At.cons (At.cons (At.cons (At.app (An _) (At.app (An _) (At.cons (At.one))))))
theorem FT (x:B4):At (Bn x) 15 (JH x.recs):=At.cons (At.cons (At.cons (At.app (An _) (At.app (An _) (At.cons (At.cons (At.front)))))))
theorem Bb (x:B4):At (Bn x) 22 [.lst (x.funs.map Gz)]:=At.cons (At.cons (At.cons (At.app (An _) (At.app (An _) (At.cons (At.cons (At.app (GC _) (At.one))))))))
theorem JR (x:X3):At (JH x) 0 [I x.params]:=At.one
theorem K8 (x:X3):At (JH x) 1 (BB x.type):=At.cons (At.front)
theorem J2 (x:X3):At (JH x) 6 [.lst (A0 x.rules)]:=At.cons (At.app (An _) (At.one))
theorem K5 (x:I1):At (FM x) 0 [.str x.name]:=At.one
theorem Ef (x:I1):At (FM x) 1 (BB x.type):=At.cons (At.all)
theorem KV (x:Ie):At (Gz x) 0 [.str x.name]:=At.one
theorem Gi (x:Ie):At (Gz x) 1 (BB x.type):=At.cons (At.front)
theorem Ft (x:Ie):At (Gz x) 6 [I x.arity]:=At.cons (At.app (An _) (At.one))
theorem Ih (x:Ie):At (Gz x) 7 (DF x.tree):=At.cons (At.app (An _) (At.cons (At.all)))
theorem Gh (x:Fv):At (DF x) 0 [I x.kind]:=by
 cases x;exact At.one
theorem Eh (x:Fv):At (DF x) 1 (BB x.body):=by
 cases x;exact At.cons (At.front)
theorem FC (x:Fv):At (DF x) 6 [I x.var]:=by
 cases x;exact At.cons (At.app (An _) (At.one))
theorem Bf (x:Fv):At (DF x) 7 [.lst (Is x.branches)]:=by
 cases x;exact At.cons (At.app (An _) (At.cons (At.one)))
theorem FO (x:HC):At (EL x) 0 [.str x.ctor]:=by
 cases x;exact At.one
theorem FF (x:HC):At (EL x) 1 [.bool x.absurd]:=by
 cases x;exact At.cons (At.one)
theorem Ee (x:HC):At (EL x) 2 (DF x.tree):=by
 cases x;exact At.cons (At.cons (At.all))
theorem KY (x:GZ):At (GA x) 0 [I x.kind]:=At.one
theorem Kw (x:GZ):At (GA x) 1 [I x.decl]:=At.cons (At.one)
theorem LM (x:GZ):At (GA x) 2 [I x.item]:=At.cons (At.cons (At.one))
theorem Gr (x:GZ):At (GA x) 3 [I x.params]:=At.cons (At.cons (At.cons (At.one)))
theorem Ra (x:GZ):At (GA x) 4 (BB x.type):=At.cons (At.cons (At.cons (At.cons (At.all))))
theorem F5 (x:Hq):At (Cs x) 0 [.lst (x.env.map Bn)]:=At.one
theorem MP (x:Hq):At (Cs x) 1 [.lst (x.own.map FX)]:=At.cons (At.one)
theorem Dv (x:Hq):At (Cs x) 2 (Bn x.d):=At.cons (At.cons (At.all))
theorem CO (x:B4):At (Bn x) 15 [I x.recs.params]:=(FT x).sub (JR _) (by simp[GC])
theorem Dj (x:B4):At (Bn x) 16 (BB x.recs.type):=(FT x).sub (K8 _) (by simp[GC])
theorem CB (x:B4):At (Bn x) 21 [.lst (A0 x.recs.rules)]:=(FT x).sub (J2 _) (by simp[GC])
theorem _root_.Go.AX {α:Prop}(h:α:=by simp[ET]):α:=h
theorem O1 (x:Hq):At (Cs x) 2 [I x.d.kind]:=(Dv x).sub (Ch _) AX
theorem PG (x:Hq):At (Cs x) 3 [.str x.d.name]:=(Dv x).sub (Ec _) AX
theorem Hu (x:Hq):At (Cs x) 4 [I x.d.params]:=(Dv x).sub (B3 _) AX
theorem Oc (x:Hq):At (Cs x) 5 (BB x.d.type):=(Dv x).sub (D8 _) AX
theorem Mp (x:Hq):At (Cs x) 10 (BB x.d.value):=(Dv x).sub (Dp _) AX
theorem My (x:Hq):At (Cs x) 15 [I x.d.fixed]:=(Dv x).sub (Dm _) AX
theorem Mw (x:Hq):At (Cs x) 16 [.lst (x.d.ctors.map FM)]:=(Dv x).sub (Bw _) AX
theorem Oj (x:Hq):At (Cs x) 17 (JH x.d.recs):=(Dv x).sub (FT _) AX
theorem NW (x:Hq):At (Cs x) 24 [.lst (x.d.funs.map Gz)]:=(Dv x).sub (Bb _) AX
theorem F7.body:∀{t:Fv},F7 t→TQ t.body
 | .mk _ _ _ _,h=>h.1
theorem F7.bl:∀{t:Fv},F7 t→t.branches.length<2000000
 | .mk _ _ _ _,h=>h.2.1
theorem F7.bs:∀{t:Fv},F7 t→KD t.branches
 | .mk _ _ _ _,h=>h.2.2
theorem Oq.tr:∀{b:HC},Oq b→F7 b.tree
 | .mk _ _ _,h=>h.2
theorem Nq:∀{t:Fv}{i:Nat}{b:HC},t.branches[i]?=some b→Ir b.tree<Ir t
 | .mk _ _ _ l,i,.mk c a t',h=>by
  have:=QR (l:=l) h;simp only[Ya] at this;simp only[Ir,HC.tree];omega
theorem Lf:∀t:Fv,1≤Ir t
 | .mk _ _ _ _=>by simp only[Ir];omega
section
variable {f:Nat→Option (Nat×Nat)}{k a i p:Int}{t:Tm}
theorem dh (h1:f 1=some (1,1)) (h3:f 3=some (3,1)) (h4:f 4=some (4,5)):D2 f [.p (I 0),.p (I 0),.p (I 0),.p (I 0),.p (I 0),.p (I 0),.p (.str ⟨#[]⟩),.p .nils,.p .nils] [(1,.p (I a)),(3,.p (I p)),(4,TV t)]=some ((GA ⟨0,a,0,p,t⟩).map .p):=by
 obtain⟨tk,ti,tn,tl,ts⟩:=t;simp[D2,h1,h3,h4,DA,splice,BB,GA]
theorem Zl (h0:f 0=some (0,1)) (h1:f 1=some (1,1)) (h3:f 3=some (3,1)) (h4:f 4=some (4,5)):D2 f [.p (I 0),.p (I 0),.p (I 0),.p (I 0),.p (I 0),.p (I 0),.p (.str ⟨#[]⟩),.p .nils,.p .nils] [(0,.p (I k)),(1,.p (I a)),(3,.p (I p)),(4,TV t)]=some ((GA ⟨k,a,0,p,t⟩).map .p):=by
 obtain⟨tk,ti,tn,tl,ts⟩:=t;simp[D2,h0,h1,h3,h4,DA,splice,BB,GA]
theorem R2 (h0:f 0=some (0,1)) (h1:f 1=some (1,1)) (h2:f 2=some (2,1)) (h3:f 3=some (3,1)) (h4:f 4=some (4,5)):D2 f [.p (I 0),.p (I 0),.p (I 0),.p (I 0),.p (I 0),.p (I 0),.p (.str ⟨#[]⟩),.p .nils,.p .nils] [(0,.p (I k)),(1,.p (I a)),(2,.p (I i)),(3,.p (I p)),(4,TV t)]=some ((GA ⟨k,a,i,p,t⟩).map .p):=by
 obtain⟨tk,ti,tn,tl,ts⟩:=t;simp[D2,h0,h1,h2,h3,h4,DA,splice,BB,GA]
theorem eV {c0:AV}{r:List AV}{ds:List B4}{d:B4}(h0:f 0=some (0,1)) (h2:f 2=some (2,23)) (hr:r.length=23):D2 f (c0:: .p .nils::r) [(0,.p (.lst (ds.map Bn))),(2,.agg ((Bn d).map .p))]=some (.p (.lst (ds.map Bn)):: .p .nils::(Bn d).map .p):=by
 simp[D2,h0,h2,DA,ET,hr,Lb,splice]
end
theorem Yb (ds:List B4) (d:B4):norm (.agg (.p (.lst (ds.map Bn)):: .p .nils::(Bn d).map .p))= .agg ((Cs ⟨ds,[],d⟩).map .p):=by
 have h:((Bn d).map AV.p).map dn=(Bn d).map .p:=by
  refine Xx ?_;obtain⟨k,n,p,⟨_,_,_,_,_⟩,⟨_,_,_,_,_⟩,f,c,⟨_,⟨_,_,_,_,_⟩,_⟩,u⟩:=d;simp[Bn,BB,JH]
 show AV.agg (dn _::dn _::((Bn d).map AV.p).map dn)=_;rw[h];rfl
theorem YP {P:Program}{dst:Option Tmp}{ty:TypeId}{pos:String}{aft:Array Edge}{g:Option (Nat×Bool)}{ρ:Operand→AV}{H:List Aj}{T:TypeId}{parts:Array (Nat×Operand)}{lay:List (Nat×Nat)}{z:Value}{ds:List B4}{d:B4}(hT:fieldsOf P T=some lay) (hz:zeroOf P T=some z)
  (hc:D2 (lay[·]?) (z.cells.toList.map EZ) (parts.toList.map fun p=>(p.1,ρ p.2))=some (.p (.lst (ds.map Bn)):: .p .nils::(Bn d).map .p)):Ce P ⟨dst,.build T parts,ty,pos,aft,g⟩ ρ H (.agg ((Cs ⟨ds,[],d⟩).map .p)) H:=by grind [Yb,YS,Dx]
theorem WE {d:B4}(h:TR d) {i:Nat}{x:ByteArray}(hx:(CA d)[i]?=some x):x.size<C7:=by
 have hm:=List.mem_of_getElem? hx;have hr:=V3 d.name;have hn:=h.nm;unfold CA at hm;simp only[C7];split at hm
 ·grind
 split at hm
 ·simp only[List.mem_append,List.mem_cons,List.mem_map,List.not_mem_nil,or_false] at hm;rcases hm with (rfl | ⟨c,hc,rfl⟩) | rfl
  ·omega
  ·have:=(h.cs c hc).nm;omega
  omega
 split at hm
 ·obtain⟨f,hf,rfl⟩:=List.mem_map.1 hm;have:=(h.fs f hf).nm;omega
 simp at hm
theorem Vk {d:B4}(h:d.kind=3):1≤(CA d).length:=by grind [CA]
end Go.Eu
namespace Go.Eu
open Go.Abs Go.RowKit Go.ChangeShapes Go.ChangeAt Go.WideShapes
structure TX (H:Type) where
 b:DataW H→Nat
 a:List (DataW H)→Nat
 str:∀s,b (.lit (.string s))=s.length+1
 slice:∀e s,b (.slice e s)=a e+a s+1
 agg:∀p,b (.agg p)=a p+1
 nil:a []=0
 cons:∀d r,a (d::r)=b d+a r
 pos:∀d,1≤b d
namespace TX
variable {H:Type}(K:TX H)
theorem mem {l:List (DataW H)}{i:Nat}{d:DataW H}(h:l[i]?=some d):K.b d≤K.a l:=by
 induction l generalizing i with
 | nil=>simp at h
 | cons x r ih =>
  rw[K.cons]
  grind
theorem mem2 {l:List (DataW H)}{i:Nat}{d:DataW H}(h:l[i]?=some d):K.b d+l.length≤K.a l+1:=by
 have len:∀l:List (DataW H),l.length≤K.a l:=by
  intro l
  induction l with
  | nil=>simp
  | cons x r ih=>rw[K.cons];have:=K.pos x;simp only[List.length_cons];omega
 induction l generalizing i with
 | nil=>simp at h
 | cons x r ih =>
  rw[K.cons];simp only[List.length_cons];cases i with
  | zero=>simp at h;subst h;have:=len r;omega
  | succ i=>have:=ih (by simpa using h);have:=K.pos x;omega
theorem drop1 {l:List (DataW H)}{i:Nat}{d:DataW H}(h:l[i]?=some d):K.a (l.drop i)=K.b d+K.a (l.drop (i+1)):=by
 induction l generalizing i with
 | nil=>simp at h
 | cons x r ih =>
  cases i with
  | zero=>simp at h;subst h;simp[K.cons]
  | succ i=>simpa using ih (by simpa using h)
end TX
def Q0 {α:Type}(M:α→Nat):List α→Nat
 | []=>0
 | a::l=>M a+Q0 M l
section
variable {H:Type}{enc:TypeId×Value→H}{P:Program}{w:World}{base:Nat}{sp:Nat→Bool}{hd:Bool}{n:Nat}(K:TX H)
theorem D3 {α:Type}{e t C:Nat}(ut:P.underlying t=some (.slice e)) (hC:P.cellsOf e=C) (hC1:1≤C) (f:α→List PV) (Q:α→Prop) (M:α→Nat) {B:Nat}
  (he:∀m cs y,m<n→DataW.trod enc P w base sp hd m e cs=some y→K.b y.1≤B→∃a,BE w (f a) cs∧Q a∧M a≤K.b y.1) {cs:List Value} {y:DataW H×List MemPlace} (h:DataW.trod enc P w base sp hd n t cs=some y) (hB:K.b y.1≤B) :
  ∃l:List α,l.length≤K.b y.1∧Q0 M l+1≤K.b y.1∧(∀a∈l,Q a)∧∃v,cs=[v]∧BN F0 w (.lst (l.map f)) v:=by
 rcases DataW.trod_slice ut h with ⟨rfl,rfl⟩ | ⟨a,len,cap,elems,rest,m,rfl,rfl,rfl,hb,hl,hc,hel,hget,_,_⟩
 ·exact⟨[],by simp,by have:=K.pos DataW.nil;simpa [Q0] using this,fun a ha=>by simp at ha,_,rfl,by simp only[BN];exact .inl ⟨rfl,none,0,rfl⟩⟩
 rw[hC] at hget;simp only[K.slice] at hB ⊢;have hml:maxLen<wide:=by decide
 rcases Nat.eq_zero_or_pos len with h0 | h0
 ·subst h0;exact⟨[],by simp,by simp[Q0],fun a ha=>by simp at ha,_,rfl,by simp only[BN];exact .inl ⟨rfl,some a,cap,rfl⟩⟩
 have hone:∀i,i<len→∃ci y,w.cells? base (a.add (i*C)) C=some ci∧DataW.trod enc P w base sp hd m e ci=some y∧(elems.map (·.1))[i]?=some y.1:=fun i hi=>by
  have:=hget i hi;rw[List.getElem?_eq_getElem Af] at this;have ⟨ci,h1,h2⟩:=Option.bind_eq_some_iff.1 this
  grind
 have ⟨c0,y0,hc0,_⟩:=hone 0 h0;have ⟨hl0,hg0⟩:=Jd hc0;have hcell:∃v,w.cell? a=some v:=by
  have:=hg0 0 Af;rw[Nat.zero_mul,Addr.add,if_pos rfl,Addr.add,if_pos rfl] at this
  grind
 have ⟨v0,hv0⟩:=hcell;obtain⟨blk,off,spot⟩:=a;have hspot:spot=none:=by
  unfold World.cell? at hv0;simp only at hv0;split at hv0
  ·cases spot with
   | none=>rfl
   | some s=>simp at hv0
  cases hv0
 subst hspot;have hblk:blk<w.heap.size:=by
  unfold World.cell? at hv0
  grind
 have hadd:∀k,(⟨blk,off,none⟩:Addr).add k=⟨blk,off+k,none⟩:=fun k=>by
  unfold Addr.add;split
  ·rename_i e;subst e;rfl
  rfl
 have hadd2:∀o k,(⟨blk,o,none⟩:Addr).add k=⟨blk,o+k,none⟩:=fun o k=>by
  unfold Addr.add;split
  ·rename_i e;subst e;rfl
  rfl
 have hrows:∀k,k≤len→∃l:List α,l.length=k∧k≤K.a ((elems.map (·.1)).drop (len - k))∧Q0 M l≤K.a ((elems.map (·.1)).drop (len - k))∧(∀x∈l,Q x)∧A7 F0 w blk C (off+(len - k)*C) (l.map f):=by
  intro k
  induction k with
  | zero=>exact fun _=>⟨[],rfl,by omega,by simp[Q0],fun a ha=>by simp at ha,by simp[A7]⟩
  | succ k ih =>
   intro hk;have ⟨l,h1,h5,h6,h2,h3⟩:=ih Af;have ⟨ci,y,hci,ht,hy⟩:=hone (len - (k+1)) Af;have ⟨g1,g2⟩:=Jd hci;have hd1:=K.drop1 hy;rw[show len - (k+1)+1=len - k by omega] at hd1;have ⟨x,hx,hq,hM⟩:=he m ci y Af ht (by have:=K.mem hy;omega);have hp:=K.pos y.1;refine⟨x::l,by simp[h1],by omega,by rw[Q0];omega,fun z hz=>?_,?_⟩
   ·rcases List.mem_cons.1 hz with rfl | hz
    ·exact hq
    exact h2 z hz
   refine⟨by rw[hx.length,g1],Lm _ ci _ hx fun j hj=>?_,?_⟩
   ·have:=g2 j Af;rw[hadd,hadd2] at this;exact this
   rw[show off+(len - (k+1))*C+C=off+(len - k)*C by rw[Nat.add_assoc,←Nat.succ_mul];congr 2;omega];exact h3
 have ⟨l,h1,h5,h6,h2,h3⟩:=hrows len (Nat.le_refl _);rw[Nat.sub_self,List.drop_zero] at h5 h6;rw[Nat.sub_self,Nat.zero_mul,Nat.add_zero] at h3;refine⟨l,by omega,by omega,h2,_,rfl,?_⟩;simp only[BN];exact .inr ⟨blk,off,cap,C,by rw[List.length_map,h1],fun h=>h,hblk,by rw[List.length_map];omega,h3⟩
theorem FI {t:TypeId}{l:List (Nat×Nat)}(hf:It P t=some l) {cs:List Value}{y:DataW H×List MemPlace}(h:DataW.trod enc P w base sp hd n t cs=some y) :
  ∃m,n=m+1∧cs.length=P.cellsOf t∧∀(i:Nat) (p:Nat×Nat),l[i]?=some p→∃z,DataW.trod enc P w base sp hd m p.1 ((cs.drop p.2).take (P.cellsOf p.1))=some z∧K.b z.1+l.length≤K.b y.1:=by
 unfold It at hf;split at hf
 ·rename_i fs hu;injection hf with hf;subst hf;obtain⟨xs,m,h1,rfl,h2,h3,h4⟩:=DataW.trod_struct hu h;refine⟨m,h1,h2,fun i p hp=>?_⟩;rw[List.getElem?_map] at hp;obtain⟨fl,hfl,rfl⟩:=Option.map_eq_some_iff.1 hp;have hi:fs[i]?=some fl:=by simpa using hfl
  have:=h4 i fl hi;have hlt:i<xs.length:=by rw[h3];exact(Array.getElem?_eq_some_iff.1 hi).1
  rw[List.getElem?_eq_getElem hlt] at this;refine⟨_,this,?_⟩;rw[K.agg];have:=K.mem2 (l:=xs.map (·.1)) (i:=i) (d:=xs[i].1) (by simp[List.getElem?_eq_getElem hlt])
  grind
 cases hf
theorem BE.cut {a b:List PV}{cs:List Value}{o k:Nat}(h:BE w a ((cs.drop o).take k)) (h':BE w b (cs.drop (o+k))):BE w (a++b) (cs.drop o):=by grind [List.take_append_drop,List.drop_drop,BE.append]
theorem BE.end {cs:List Value}{k:Nat}(h:cs.length=k):BE w [] (cs.drop k):=by
 rw[List.drop_eq_nil_of_le Af];rfl
end
end Go.Eu
namespace Go.Eu
open Go.Abs Go.RowKit Go.ChangeShapes Go.ChangeAt Go.WideShapes
theorem MV:∀l:List Tm,Q0 (fun t=>5*size t) l=5*Aq l
 | []=>rfl
 | t::l=>by rw[Q0,Aq,MV l];omega
structure M8 (P:Program) (tI tB tS tT tTs tC tCs tR tTr tBr tBrs tF tFs tD tDs:TypeId):Prop where
 uB:P.underlying tB=some .bool
 uCs:P.underlying tCs=some (.slice tC)
 uBrs:P.underlying tBrs=some (.slice tBr)
 uFs:P.underlying tFs=some (.slice tF)
 uDs:P.underlying tDs=some (.slice tD)
 fC:It P tC=some [(tS,0),(tT,1)]
 fR:It P tR=some [(tI,0),(tT,1),(tTs,6)]
 fTr:It P tTr=some [(tI,0),(tT,1),(tI,6),(tBrs,7)]
 fBr:It P tBr=some [(tS,0),(tB,1),(tTr,2)]
 fF:It P tF=some [(tS,0),(tT,1),(tI,6),(tTr,7)]
 fD:It P tD=some [(tI,0),(tS,1),(tI,2),(tT,3),(tT,8),(tI,13),(tCs,14),(tR,15),(tFs,22)]
 cB:P.cellsOf tB=1
 cCs:P.cellsOf tCs=1
 cBrs:P.cellsOf tBrs=1
 cFs:P.cellsOf tFs=1
 cDs:P.cellsOf tDs=1
 cC:P.cellsOf tC=6
 cR:P.cellsOf tR=7
 cTr:P.cellsOf tTr=8
 cBr:P.cellsOf tBr=10
 cF:P.cellsOf tF=15
 cD:P.cellsOf tD=23
section
variable {H:Type}{enc:TypeId×Value→H}{P:Program}{w:World}{base:Nat}{sp:Nat→Bool}{hd:Bool}{tI tB tS tV tVs tL tLs tT tTs tC tCs tR tTr tBr tBrs tF tFs tD tDs:TypeId}(K:TX H)
theorem Eo (E:Du P tI tS tV tVs tL tLs tT tTs) {n:Nat}{cs:List Value}{y:DataW H×List MemPlace}(h:DataW.trod enc P w base sp hd n tI cs=some y):∃a:Int,BE w [I a] cs∧Hx a:=by
 obtain⟨a,rfl,_,fa⟩:=DataW.trod_int E.uI h;exact⟨a,BE.one (by simp[BN]),MC fa⟩
theorem JE (E:Du P tI tS tV tVs tL tLs tT tTs) {n:Nat}{cs:List Value}{y:DataW H×List MemPlace}(h:DataW.trod enc P w base sp hd n tS cs=some y):∃s:ByteArray,BE w [.str s] cs∧s.size+1≤K.b y.1:=by
 obtain⟨s,rfl,rfl,_⟩:=DataW.trod_string E.uS h;refine⟨s,BE.one (by simp[BN]),?_⟩;rw[K.str];exact Nat.le_refl _
theorem Vq (D:M8 P tI tB tS tT tTs tC tCs tR tTr tBr tBrs tF tFs tD tDs) {n:Nat}{cs:List Value}{y:DataW H×List MemPlace}(h:DataW.trod enc P w base sp hd n tB cs=some y):∃b:Bool,BE w [.bool b] cs:=by
 obtain⟨b,rfl,_⟩:=DataW.trod_bool D.uB h;exact⟨b,BE.one (by simp[BN])⟩
theorem Ze (E:Du P tI tS tV tVs tL tLs tT tTs) {n:Nat}{cs:List Value}{y:DataW H×List MemPlace}(h:DataW.trod enc P w base sp hd n tL cs=some y) (hB:K.b y.1≤1048576):∃v:DK,BE w (Dd v) cs∧dc v:=by
 obtain⟨m,rfl,hl,hg⟩:=FI K E.fL h;rw[E.cL] at hl;have ⟨z0,h0,b0⟩:=hg 0 _ rfl;have ⟨z1,h1,b1⟩:=hg 1 _ rfl;simp only[E.cI,E.cVs] at h0 h1;have ⟨a,ha,ra⟩:=Eo E h0;have ⟨l,g1,_,g2,v,hv,g3⟩:=D3 K E.uVs E.cV Ae Mu (fun v=>Hx v.index∧Hx v.plus) (fun _=>1) (B:=1048576) (fun m cs y _ h _=>by obtain⟨v,q1,q2⟩:=YZ E h;exact⟨v,q1,q2,K.pos _⟩) h1 Af;refine⟨⟨a,l⟩,?_,⟨by simp only[C7];omega,ra,g2⟩⟩;have:=BE.cut (o:=0) ha (BE.cut (o:=1) (a:=[.lst (l.map Mu)]) (k:=1) (by rw[hv];exact BE.one g3) (BE.end hl));simpa [Dd] using this
theorem bG (E:Du P tI tS tV tVs tL tLs tT tTs):∀(n:Nat) (cs:List Value) (y:DataW H×List MemPlace),DataW.trod enc P w base sp hd n tT cs=some y→K.b y.1≤1048576→∃t:Tm,BE w (BB t) cs∧Nd t∧5*size t≤K.b y.1:=by
 intro n
 induction n using Nat.strongRecOn with
 | ind n ih =>
  intro cs y h hB;obtain⟨m,rfl,hl,hg⟩:=FI K E.fT h;rw[E.cT] at hl;have ⟨z0,h0,b0⟩:=hg 0 _ rfl;have ⟨z1,h1,b1⟩:=hg 1 _ rfl;have ⟨z2,h2,b2⟩:=hg 2 _ rfl;have ⟨z3,h3,b3⟩:=hg 3 _ rfl;have ⟨z4,h4,b4⟩:=hg 4 _ rfl;simp only[E.cI,E.cS,E.cLs,E.cTs] at h0 h1 h2 h3 h4;have ⟨a,ha,ra⟩:=Eo E h0;have ⟨b,hb,rb⟩:=Eo E h1;have ⟨s,hs,ws⟩:=JE K E h2;have ⟨l,g1,_,g2,v,hv,g3⟩:=D3 K E.uLs E.cL Ae Dd dc (fun _=>1) (B:=1048576) (fun m cs y _ h hB=>by obtain⟨v,q1,q2⟩:=Ze K E h hB;exact⟨v,q1,q2,K.pos _⟩) h3 Af;have ⟨ks,k1,k4,k2,u,hu,k3⟩:=D3 K E.uTs E.cT Ae BB Nd (fun t=>5*size t) (B:=1048576) (fun m' cs y hm h hB=>ih m' Af cs y h hB) h4 Af;refine⟨.mk a b s l ks,?_,⟨by simp only[C7];omega,by simp only[C7];omega,g2,by simp only[C7];omega,MB k2,ra,rb⟩,by rw[MV] at k4;simp only[List.length_cons,List.length_nil] at b4;simp only[size];omega⟩;have:=BE.cut (o:=0) ha (BE.cut (o:=1) hb (BE.cut (o:=2) hs (BE.cut (o:=3) (a:=[.lst (l.map Dd)]) (k:=1) (by rw[hv];exact BE.one g3) (BE.cut (o:=4) (a:=[.lst (A0 ks)]) (k:=1) (by rw[hu,Cl];exact BE.one k3) (BE.end hl)))));simpa [BB] using this
theorem G0 (E:Du P tI tS tV tVs tL tLs tT tTs) {n:Nat}{cs:List Value}{y:DataW H×List MemPlace}(h:DataW.trod enc P w base sp hd n tT cs=some y) (hB:K.b y.1≤1048576):∃t:Tm,BE w (BB t) cs∧TQ t:=by
 have ⟨t,h1,h2,h3⟩:=bG K E n cs y h hB;exact⟨t,h1,h2,by omega⟩
theorem Yx (E:Du P tI tS tV tVs tL tLs tT tTs) {n:Nat}{cs:List Value}{y:DataW H×List MemPlace}(h:DataW.trod enc P w base sp hd n tTs cs=some y) (hB:K.b y.1≤1048576):∃l:List Tm,l.length<2000000∧(∀t∈l,TQ t)∧BE w [.lst (A0 l)] cs:=by
 obtain⟨l,g1,_,g2,v,rfl,g3⟩:=D3 K E.uTs E.cT Ae BB TQ (fun _=>1) (B:=1048576) (fun m cs y _ h hB=>by obtain⟨v,q1,q2⟩:=G0 K E h hB;exact⟨v,q1,q2,K.pos _⟩) h hB
 grind [BE.one,Cl]
variable (D:M8 P tI tB tS tT tTs tC tCs tR tTr tBr tBrs tF tFs tD tDs) (E:Du P tI tS tV tVs tL tLs tT tTs)
include D E
theorem Zu {n:Nat}{cs:List Value}{y:DataW H×List MemPlace}(h:DataW.trod enc P w base sp hd n tC cs=some y) (hB:K.b y.1≤1048576):∃c:I1,BE w (FM c) cs∧Y2 c:=by
 obtain⟨m,rfl,hl,hg⟩:=FI K D.fC h;rw[D.cC] at hl;have ⟨z0,h0,b0⟩:=hg 0 _ rfl;have ⟨z1,h1,b1⟩:=hg 1 _ rfl;simp only[E.cS,E.cT] at h0 h1;have ⟨s,hs,ws⟩:=JE K E h0;have ⟨t,ht,wt⟩:=G0 K E h1 Af;refine⟨⟨s,t⟩,?_,⟨by simp only;omega,wt⟩⟩;have:=BE.cut (o:=0) hs (BE.cut (o:=1) ht (BE.end hl));simpa [FM] using this
theorem a8 {n:Nat}{cs:List Value}{y:DataW H×List MemPlace}(h:DataW.trod enc P w base sp hd n tR cs=some y) (hB:K.b y.1≤1048576):∃r:X3,BE w (JH r) cs∧TQ r.type∧r.rules.length<2000000∧∀t∈r.rules,TQ t:=by
 obtain⟨m,rfl,hl,hg⟩:=FI K D.fR h;rw[D.cR] at hl;have ⟨z0,h0,b0⟩:=hg 0 _ rfl;have ⟨z1,h1,b1⟩:=hg 1 _ rfl;have ⟨z2,h2,b2⟩:=hg 2 _ rfl;simp only[E.cI,E.cT,E.cTs] at h0 h1 h2;have ⟨a,ha,_⟩:=Eo E h0;have ⟨t,ht,wt⟩:=G0 K E h1 Af;have ⟨l,l1,l2,l3⟩:=Yx K E h2 Af;refine⟨⟨a,t,l⟩,?_,wt,l1,l2⟩;have:=BE.cut (o:=0) ha (BE.cut (o:=1) ht (BE.cut (o:=6) l3 (BE.end hl)));simpa [JH] using this
theorem Yy:∀(n:Nat) (cs:List Value) (y:DataW H×List MemPlace),DataW.trod enc P w base sp hd n tTr cs=some y→K.b y.1≤1048576→∃t:Fv,BE w (DF t) cs∧F7 t:=by
 intro n
 induction n using Nat.strongRecOn with
 | ind n ih =>
  intro cs y h hB;obtain⟨m,rfl,hl,hg⟩:=FI K D.fTr h;rw[D.cTr] at hl;have ⟨z0,h0,b0⟩:=hg 0 _ rfl;have ⟨z1,h1,b1⟩:=hg 1 _ rfl;have ⟨z2,h2,b2⟩:=hg 2 _ rfl;have ⟨z3,h3,b3⟩:=hg 3 _ rfl;simp only[E.cI,E.cT,D.cBrs] at h0 h1 h2 h3;have ⟨a,ha,_⟩:=Eo E h0;have ⟨t,ht,wt⟩:=G0 K E h1 Af;have ⟨b,hb,_⟩:=Eo E h2;have ⟨l,g1,_,g2,v,hv,g3⟩:=D3 K D.uBrs D.cBr Ae EL Oq (fun _=>1) (B:=1048576) (fun m' cs y hm h hB=>by
   obtain⟨m2,rfl,hl,hg⟩:=FI K D.fBr h;rw[D.cBr] at hl;have ⟨z0,h0,b0⟩:=hg 0 _ rfl;have ⟨z1,h1,b1⟩:=hg 1 _ rfl;have ⟨z2,h2,b2⟩:=hg 2 _ rfl;simp only[E.cS,D.cB,D.cTr] at h0 h1 h2;have ⟨s,hs,ws⟩:=JE K E h0;have ⟨b,hb⟩:=Vq D h1;have ⟨r,hr,wr⟩:=ih m2 Af _ _ h2 Af;refine⟨.mk s b r,?_,⟨by omega,wr⟩,K.pos _⟩;have:=BE.cut (o:=0) hs (BE.cut (o:=1) hb (BE.cut (o:=2) hr (BE.end hl)));simpa [EL] using this) h3 Af
  have hbs:∀{l:List HC},(∀b∈l,Oq b)→KD l:=by
   intro l
   induction l with
   | nil=>exact fun _=>trivial
   | cons b l ih2=>exact fun h=>⟨h b Ag,ih2 fun c hc=>h c (by simp[hc])⟩
  refine⟨.mk a t b l,?_,⟨wt,by omega,hbs g2⟩⟩;have:=BE.cut (o:=0) ha (BE.cut (o:=1) ht (BE.cut (o:=6) hb (BE.cut (o:=7) (a:=[.lst (Is l)]) (k:=1) (by rw[hv,Ht];exact BE.one g3) (BE.end hl))));simpa [DF] using this
theorem aK {n:Nat}{cs:List Value}{y:DataW H×List MemPlace}(h:DataW.trod enc P w base sp hd n tF cs=some y) (hB:K.b y.1≤1048576):∃f:Ie,BE w (Gz f) cs∧Xu f:=by
 obtain⟨m,rfl,hl,hg⟩:=FI K D.fF h;rw[D.cF] at hl;have ⟨z0,h0,b0⟩:=hg 0 _ rfl;have ⟨z1,h1,b1⟩:=hg 1 _ rfl;have ⟨z2,h2,b2⟩:=hg 2 _ rfl;have ⟨z3,h3,b3⟩:=hg 3 _ rfl;simp only[E.cS,E.cT,E.cI,D.cTr] at h0 h1 h2 h3;have ⟨s,hs,ws⟩:=JE K E h0;have ⟨t,ht,wt⟩:=G0 K E h1 Af;have ⟨a,ha,_⟩:=Eo E h2;have ⟨r,hr,wr⟩:=Yy K D E _ _ _ h3 Af;refine⟨⟨s,t,a,r⟩,?_,⟨by simp only;omega,wt,wr⟩⟩;have:=BE.cut (o:=0) hs (BE.cut (o:=1) ht (BE.cut (o:=6) ha (BE.cut (o:=7) hr (BE.end hl))));simpa [Gz] using this
theorem aQ {n:Nat}{cs:List Value}{y:DataW H×List MemPlace}(h:DataW.trod enc P w base sp hd n tD cs=some y) (hB:K.b y.1≤1048576):∃d:B4,BE w (Bn d) cs∧TR d:=by
 obtain⟨m,rfl,hl,hg⟩:=FI K D.fD h;rw[D.cD] at hl;have ⟨z0,h0,b0⟩:=hg 0 _ rfl;have ⟨z1,h1,b1⟩:=hg 1 _ rfl;have ⟨z2,h2,b2⟩:=hg 2 _ rfl;have ⟨z3,h3,b3⟩:=hg 3 _ rfl;have ⟨z4,h4,b4⟩:=hg 4 _ rfl;have ⟨z5,h5,b5⟩:=hg 5 _ rfl;have ⟨z6,h6,b6⟩:=hg 6 _ rfl;have ⟨z7,h7,b7⟩:=hg 7 _ rfl;have ⟨z8,h8,b8⟩:=hg 8 _ rfl;simp only[E.cS,E.cT,E.cI,D.cCs,D.cR,D.cFs] at h0 h1 h2 h3 h4 h5 h6 h7 h8;have ⟨a,ha,_⟩:=Eo E h0;have ⟨s,hs,ws⟩:=JE K E h1;have ⟨p,hp,_⟩:=Eo E h2;have ⟨t,ht,wt⟩:=G0 K E h3 Af;have ⟨u,hu,wu⟩:=G0 K E h4 Af;have ⟨f,hf,_⟩:=Eo E h5;have ⟨cl,c1,_,c2,cv,hcv,c3⟩:=D3 K D.uCs D.cC Ae FM Y2 (fun _=>1) (B:=1048576) (fun m cs y _ h hB=>by obtain⟨v,q1,q2⟩:=Zu K D E h hB;exact⟨v,q1,q2,K.pos _⟩) h6 Af;have ⟨r,hr,r1,r2,r3⟩:=a8 K D E h7 Af;have ⟨fl,f1,_,f2,fv,hfv,f3⟩:=D3 K D.uFs D.cF Ae Gz Xu (fun _=>1) (B:=1048576) (fun m cs y _ h hB=>by obtain⟨v,q1,q2⟩:=aK K D E h hB;exact⟨v,q1,q2,K.pos _⟩) h8 Af;refine⟨⟨a,s,p,t,u,f,cl,r,fl⟩,?_,⟨by simp only;omega,wt,wu,by simp only;omega,c2,r1,r2,r3,by simp only;omega,f2⟩⟩;have:=BE.cut (o:=0) ha (BE.cut (o:=1) hs (BE.cut (o:=2) hp (BE.cut (o:=3) ht (BE.cut (o:=8) hu (BE.cut (o:=13) hf (BE.cut (o:=14) (a:=[.lst (cl.map FM)]) (k:=1) (by rw[hcv];exact BE.one c3) (BE.cut (o:=15) hr (BE.cut (o:=22) (a:=[.lst (fl.map Gz)]) (k:=1) (by rw[hfv];exact BE.one f3) (BE.end hl)))))))));simpa [Bn] using this
end
structure eL where
 env:List B4
 metas:List Mv
 ctx:List Tm
def dv (x:eL):List PV:=[.lst (x.env.map Bn),.lst (x.metas.map B5),.lst (A0 x.ctx)]
structure Yp (x:eL):Prop where
 env:HA x.env
 ml:x.metas.length<wide
 ms:∀y∈x.metas,ff y
 cl:x.ctx.length<wide
 cs:XJ x.ctx
section
variable {H:Type}{enc:TypeId×Value→H}{P:Program}{w:World}{base:Nat}{sp:Nat→Bool}{hd:Bool}{tI tB tS tV tVs tL tLs tT tTs tC tCs tR tTr tBr tBrs tF tFs tD tDs tM tMs tY:TypeId}(K:TX H)
 (D:M8 P tI tB tS tT tTs tC tCs tR tTr tBr tBrs tF tFs tD tDs) (E:Du P tI tS tV tVs tL tLs tT tTs) (E':M3 P tB tT tM tMs)
 (hY:It P tY=some [(tDs,0),(tMs,1),(tTs,2)]) (cY:P.cellsOf tY=3) (gO:P.cellsOf tMs=1)
include K D E E' hY cY gO
theorem fo {b2:Nat}{r:Reach}{v:Value}{d:DataW H}{ps:List MemPlace}(hk:Value.okWide P w r b2 tY v) (h:DataW.Trod enc P w base sp hd tY v d ps) (hB:K.b d≤1048576):∃l:eL,Yp l∧BP F0 w (.agg ((dv l).map .p)) v:=by
 have ⟨n,h⟩:=h;obtain⟨m,rfl,hl,hg⟩:=FI K hY h;rw[cY] at hl;have ⟨z0,h0,b0⟩:=hg 0 _ rfl;have ⟨z1,h1,b1⟩:=hg 1 _ rfl;have ⟨z2,h2,b2⟩:=hg 2 _ rfl;simp only[D.cDs,gO,E.cTs] at h0 h1 h2;have b0':K.b z0.1+3≤K.b d:=b0;have ⟨es,e1,_,e2,u0,e3,e4⟩:=D3 K D.uDs D.cD Ae Bn TR (fun _=>1) (B:=1048576) (fun m cs y _ h hB=>by obtain⟨v,q1,q2⟩:=aQ K D E h hB;exact⟨v,q1,q2,K.pos _⟩) h0 Af;have ⟨ms,m1,m2,u1,m3,m4⟩:=ZT E E' h1;have ⟨cs,c1,c2,u2,c3,c4⟩:=Z2 E h2;have e1':es.length≤K.b z0.1:=e1;have g:BE w (dv ⟨es,ms,cs⟩) v.cells.toList:=by
  have:=BE.cut (o:=0) (k:=1) (BE.one e4 |> fun x=>by rw[e3];exact x) (BE.cut (o:=1) (k:=1) (by rw[m3];exact BE.one m4) (BE.cut (o:=2) (k:=1) (by rw[c3];exact BE.one c4) (BE.end hl)));simpa [dv] using this
 refine⟨⟨es,ms,cs⟩,⟨⟨by simp only;omega,e2⟩,m1,m2,c1,c2⟩,?_⟩;have hf:=hY;unfold It at hf;unfold Value.okWide at hk;split at hk
 ·obtain⟨cs',rfl,_,_⟩:=hk;exact⟨cs'.toList,by simp,BE.repL g⟩
 ·rename_i hu;rw[hu] at hf;cases hf
 rename_i h1 h2;split at hf
 ·rename_i fs hu;exact absurd hu (h1 fs)
 cases hf
end
end Go.Eu
namespace Go.Proofs.YtajnpndfkbnkoaaGreat
open Go.Eu Go.Lib Go.ChangeShapes Go.WideShapes Go.ChangeAt Go.RowKit
theorem own:ownKnob Tryz.prog.godebug=none:=by kernel_rfl
theorem laidOut:laidOutB Tryz.prog=true:=by kernel_rfl
theorem iq:Du Tryz.prog 3 9 134 62 64 27 29 24:=⟨by kernel_rfl,by kernel_rfl,by kernel_rfl,by kernel_rfl,by kernel_rfl,by kernel_rfl,by kernel_rfl,by kernel_rfl,by kernel_rfl,by kernel_rfl,by kernel_rfl,by kernel_rfl,by kernel_rfl,by kernel_rfl,by kernel_rfl,by kernel_rfl⟩
theorem jY:M8 Tryz.prog 3 4 9 29 24 171 124 126 174 218 172 176 127 129 22:=⟨by kernel_rfl,by kernel_rfl,by kernel_rfl,by kernel_rfl,by kernel_rfl,by kernel_rfl,by kernel_rfl,by kernel_rfl,by kernel_rfl,by kernel_rfl,by kernel_rfl,by kernel_rfl,by kernel_rfl,by kernel_rfl,by kernel_rfl,by kernel_rfl,by kernel_rfl,by kernel_rfl,by kernel_rfl,by kernel_rfl,by kernel_rfl,by kernel_rfl⟩
theorem jj:M3 Tryz.prog 4 29 58 23:=⟨by kernel_rfl,by kernel_rfl,by kernel_rfl,by kernel_rfl,by kernel_rfl⟩
theorem fY:It Tryz.prog 26=some [(22,0),(23,1),(24,2)]:=by kernel_rfl
theorem cY:Tryz.prog.cellsOf 26=3:=by kernel_rfl
theorem gO:Tryz.prog.cellsOf 23=1:=by kernel_rfl
noncomputable def blk (H:Type):TX H where
 b:=Rows.uptoBulk
 a:=Rows.uptoBulkAll
 str:=fun s=>by simp[Rows.uptoBulk]
 slice:=fun e s=>by simp[Rows.uptoBulk]
 agg:=fun p=>by simp[Rows.uptoBulk]
 nil:=by simp[Rows.uptoBulkAll]
 cons:=fun d r=>by simp[Rows.uptoBulkAll]
 pos:=fun d=>by
  cases d with
  | lit l=>cases l<;>simp[Rows.uptoBulk]
  | _=>simp[Rows.uptoBulk]
theorem Zy {H:Type}{ds:List (DataW H)}(h:Rows.uptoSmall H ds=true) {i:Nat}{d:DataW H}(hd:ds[i]?=some d):(blk H).b d≤1048576:=by
 have h1:=(blk H).mem hd;have h2:(blk H).a ds≤1048576:=of_decide_eq_true h;omega
noncomputable def Je (os:Os):World:=World.holding Tryz.prog os ⟨#[],#[],[]⟩
theorem _root_.Go.Ab {α:Prop}(h:α:=by kernel_rfl):α:=h
theorem YY (os:Os) (args:Array Value):laidMet Tryz.prog [] ((Je os).forCall (fun _ _=>0) ⟨#[],args,[]⟩).memory :=
 (LaidIn.of_run [] 8 Ab Ab Ab Ab:LaidIn Tryz.prog ((Je os).forCall (fun _ _=>0) ⟨#[],args,[]⟩).memory [] []).met
end Go.Proofs.YtajnpndfkbnkoaaGreat
namespace Go.Eu
open Go.Abs
abbrev nE:ByteArray:=⟨#[]⟩
abbrev tA:Tm:= .mk 3 0 ⟨#[65]⟩ [] []
abbrev t0:Tm:= .mk 0 0 ⟨#[]⟩ [] []
abbrev tI:Tm:= .mk 5 0 ⟨#[]⟩ [] [tA,t0]
abbrev iy:List AV:=[.p (I 0),.p (I 0),.p (.str ⟨#[]⟩),.p (.nils),.p (.nils)]
end Go.Eu
namespace Go.Proofs.YtajnpndfkbnkoaaGreat
open Go.Abs
theorem dL:D0 Tryz.prog 22=some (129,23,360):=by kernel_rfl
theorem IB:D0 Tryz.prog 23=some (58,12,176):=by kernel_rfl
theorem Bc:D0 Tryz.prog 24=some (29,5,80):=by kernel_rfl
theorem RS:D0 Tryz.prog 27=some (64,2,32):=by kernel_rfl
theorem Hg:D0 Tryz.prog 47=some (3,1,8):=by kernel_rfl
theorem UL:D0 Tryz.prog 62=some (134,2,16):=by kernel_rfl
theorem VG:D0 Tryz.prog 124=some (171,6,96):=by kernel_rfl
theorem OU:D0 Tryz.prog 127=some (176,15,224):=by kernel_rfl
theorem XP:D0 Tryz.prog 172=some (218,10,144):=by kernel_rfl
theorem GW:D0 Tryz.prog 204=some (9,1,16):=by kernel_rfl
theorem jR:Bt Tryz.prog 4=true:=by kernel_rfl
theorem jo:Bt Tryz.prog 7=true:=by kernel_rfl
theorem iY:Bt Tryz.prog 10=true:=by kernel_rfl
theorem iZ:Bt Tryz.prog 22=true:=by kernel_rfl
theorem iL:Bt Tryz.prog 23=true:=by kernel_rfl
theorem eo:Bt Tryz.prog 25=true:=by kernel_rfl
theorem ie:Bt Tryz.prog 31=true:=by kernel_rfl
theorem gY:Bt Tryz.prog 34=true:=by kernel_rfl
theorem ga:Bt Tryz.prog 43=true:=by kernel_rfl
theorem fh:Bt Tryz.prog 49=true:=by kernel_rfl
theorem iF:Bt Tryz.prog 50=true:=by kernel_rfl
theorem ig:Bt Tryz.prog 53=true:=by kernel_rfl
theorem iP:Bt Tryz.prog 59=true:=by kernel_rfl
theorem iH:Bt Tryz.prog 73=true:=by kernel_rfl
theorem gi:Bt Tryz.prog 82=true:=by kernel_rfl
theorem gr:Bt Tryz.prog 83=true:=by kernel_rfl
theorem iN:Bt Tryz.prog 87=true:=by kernel_rfl
theorem gy:Bt Tryz.prog 93=true:=by kernel_rfl
theorem fi:Bt Tryz.prog 112=true:=by kernel_rfl
theorem eY:Bt Tryz.prog 116=true:=by kernel_rfl
theorem bV:Bt Tryz.prog 128=true:=by kernel_rfl
theorem fm:Bt Tryz.prog 145=true:=by kernel_rfl
theorem ec:Bt Tryz.prog 146=true:=by kernel_rfl
theorem eU:Bt Tryz.prog 147=true:=by kernel_rfl
theorem en:Bt Tryz.prog 163=true:=by kernel_rfl
theorem fN:Bt Tryz.prog 185=true:=by kernel_rfl
theorem L2:fieldsOf Tryz.prog 26=some [(0,1),(1,1),(2,1)]:=by kernel_rfl
theorem aB:fieldsOf Tryz.prog 29=some [(0,1),(1,1),(2,1),(3,1),(4,1)]:=by kernel_rfl
theorem dq:fieldsOf Tryz.prog 58=some [(0,5),(5,1),(6,5),(11,1)]:=by kernel_rfl
theorem iM:fieldsOf Tryz.prog 64=some [(0,1),(1,1)]:=by kernel_rfl
theorem Og:fieldsOf Tryz.prog 129=some [(0,1),(1,1),(2,1),(3,5),(8,5),(13,1),(14,1),(15,7),(22,1)]:=by kernel_rfl
theorem Uk:fieldsOf Tryz.prog 137=some [(0,1),(1,1),(2,1),(3,1),(4,5)]:=by kernel_rfl
theorem eW:fieldsOf Tryz.prog 162=some [(0,1),(1,1),(2,1),(3,1),(4,1)]:=by kernel_rfl
theorem Y8:fieldsOf Tryz.prog 171=some [(0,1),(1,5)]:=by kernel_rfl
theorem bJ:fieldsOf Tryz.prog 174=some [(0,1),(1,5),(6,1),(7,1)]:=by kernel_rfl
theorem Uq:fieldsOf Tryz.prog 176=some [(0,1),(1,5),(6,1),(7,8)]:=by kernel_rfl
theorem gK:fieldsOf Tryz.prog 182=some [(0,1)]:=by kernel_rfl
theorem gG:fieldsOf Tryz.prog 220=some [(0,1),(1,1),(2,23)]:=by kernel_rfl
theorem cQ:mapOf Tryz.prog 91=some 29:=by kernel_rfl
theorem aP:mapOf Tryz.prog 92=some 4:=by kernel_rfl
theorem Y0:Tryz.prog.follows .mixedOrders=true:=by kernel_rfl
theorem ek:K0 Tryz.prog 134=true:=by kernel_rfl
theorem ty2:DO Tryz.prog 2=some (false,1):=by kernel_rfl
theorem FV:DO Tryz.prog 3=some (false,1):=by kernel_rfl
theorem gf:DO Tryz.prog 4=some (false,1):=by kernel_rfl
theorem Xm:DO Tryz.prog 9=some (false,1):=by kernel_rfl
theorem Wp:DO Tryz.prog 22=some (false,1):=by kernel_rfl
theorem Ud:DO Tryz.prog 23=some (false,1):=by kernel_rfl
theorem Jr:DO Tryz.prog 24=some (false,1):=by kernel_rfl
theorem hP:DO Tryz.prog 26=some (true,3):=by kernel_rfl
theorem Bh:DO Tryz.prog 29=some (true,5):=by kernel_rfl
theorem PR:DO Tryz.prog 32=some (false,1):=by kernel_rfl
theorem dg:DO Tryz.prog 58=some (true,12):=by kernel_rfl
theorem gX:DO Tryz.prog 64=some (true,2):=by kernel_rfl
theorem HN:DO Tryz.prog 124=some (false,1):=by kernel_rfl
theorem FP:DO Tryz.prog 127=some (false,1):=by kernel_rfl
theorem cG:DO Tryz.prog 129=some (true,23):=by kernel_rfl
theorem eR:DO Tryz.prog 134=some (true,2):=by kernel_rfl
theorem bO:DO Tryz.prog 162=some (true,5):=by kernel_rfl
theorem IA:DO Tryz.prog 172=some (false,1):=by kernel_rfl
theorem OI:DO Tryz.prog 174=some (true,8):=by kernel_rfl
theorem SX:DO Tryz.prog 204=some (false,1):=by kernel_rfl
theorem Ur:DO Tryz.prog 218=some (true,10):=by kernel_rfl
theorem bN:Tryz.prog.underlying 163=some (.array 13 162):=by kernel_rfl
theorem UM:Tryz.prog.underlying 20=some (.interface #[]):=by kernel_rfl
theorem fc:Tryz.prog.underlying 32=some (.int .i64):=by kernel_rfl
theorem bg:Tryz.prog.underlying 223=some (.int .i64):=by kernel_rfl
theorem gz:Tryz.prog.underlying 4=some .bool:=by kernel_rfl
theorem bQ:Tryz.prog.underlying 9=some .string:=by kernel_rfl
theorem Wf:zeroOf Tryz.prog 3=some (.int .i64 0):=by kernel_rfl
theorem jK:zeroOf Tryz.prog 4=some (.bool false):=by kernel_rfl
theorem aI:zeroOf Tryz.prog 9=some (.string { data:={ toList:=[] } }):=by kernel_rfl
theorem Bx:zeroOf Tryz.prog 29=some (.agg { toList:=[.int .i64 0,.int .i64 0,.string { data:={ toList:=[] } },.slice none 0 0,.slice none 0 0] }):=by kernel_rfl
theorem aG:zeroOf Tryz.prog 32=some (.int .i64 0):=by kernel_rfl
theorem gL:zeroOf Tryz.prog 47=some (.slice none 0 0):=by kernel_rfl
theorem iV:zeroOf Tryz.prog 53=some .nilFunc:=by kernel_rfl
theorem gd:zeroOf Tryz.prog 56=some .nilFunc:=by kernel_rfl
theorem UD:zeroOf Tryz.prog 58=some (.agg { toList:=[.int .i64 0,.int .i64 0,.string { data:={ toList:=[] } },.slice none 0 0,.slice none 0 0,.bool false,.int .i64 0,.int .i64 0,.string { data:={ toList:=[] } },.slice none 0 0,.slice none 0 0,.bool false] }):=by kernel_rfl
theorem Yg:zeroOf Tryz.prog 64=some (.agg { toList:=[.int .i64 0,.slice none 0 0] }):=by kernel_rfl
theorem iQ:zeroOf Tryz.prog 91=some (.map none):=by kernel_rfl
theorem fU:zeroOf Tryz.prog 92=some (.map none):=by kernel_rfl
theorem bp:zeroOf Tryz.prog 134=some (.agg { toList:=[.int .i64 0,.int .i64 0] }):=by kernel_rfl
theorem LA:zeroOf Tryz.prog 137=some (.agg { toList:=[.int .i64 0,.int .i64 0,.int .i64 0,.int .i64 0,.int .i64 0,.int .i64 0,.string { data:={ toList:=[] } },.slice none 0 0,.slice none 0 0] }):=by kernel_rfl
theorem bP:zeroOf Tryz.prog 163=some (.agg { toList:=[.bool false,.bool false,.int .i64 0,.int .i64 0,.int .i64 0,.bool false,.bool false,.int .i64 0,.int .i64 0,.int .i64 0,.bool false,.bool false,.int .i64 0,.int .i64 0,.int .i64 0,.bool false,.bool false,.int .i64 0,.int .i64 0,.int .i64 0,.bool false,.bool false,.int .i64 0,.int .i64 0,.int .i64 0,.bool false,.bool false,.int .i64 0,.int .i64 0,.int .i64 0,.bool false,.bool false,.int .i64 0,.int .i64 0,.int .i64 0,.bool false,.bool false,.int .i64 0,.int .i64 0,.int .i64 0,.bool false,.bool false,.int .i64 0,.int .i64 0,.int .i64 0,.bool false,.bool false,.int .i64 0,.int .i64 0,.int .i64 0,.bool false,.bool false,.int .i64 0,.int .i64 0,.int .i64 0,.bool false,.bool false,.int .i64 0,.int .i64 0,.int .i64 0,.bool false,.bool false,.int .i64 0,.int .i64 0,.int .i64 0] }):=by kernel_rfl
theorem fp:zeroOf Tryz.prog 165=some .nilFunc:=by kernel_rfl
theorem fK:zeroOf Tryz.prog 179=some .nilFunc:=by kernel_rfl
theorem fE:zeroOf Tryz.prog 180=some (.pointer none):=by kernel_rfl
theorem fe:zeroOf Tryz.prog 182=some (.agg { toList:=[.int .i64 0] }):=by kernel_rfl
theorem Y3:zeroOf Tryz.prog 218=some (.agg { toList:=[.string { data:={ toList:=[] } },.bool false,.int .i64 0,.int .i64 0,.int .i64 0,.string { data:={ toList:=[] } },.slice none 0 0,.slice none 0 0,.int .i64 0,.slice none 0 0] }):=by kernel_rfl
theorem bj:zeroOf Tryz.prog 220=some (.agg { toList:=[.slice none 0 0,.slice none 0 0,.int .i64 0,.string { data:={ toList:=[] } },.int .i64 0,.int .i64 0,.int .i64 0,.string { data:={ toList:=[] } },.slice none 0 0,.slice none 0 0,.int .i64 0,.int .i64 0,.string { data:={ toList:=[] } },.slice none 0 0,.slice none 0 0,.int .i64 0,.slice none 0 0,.int .i64 0,.int .i64 0,.int .i64 0,.string { data:={ toList:=[] } },.slice none 0 0,.slice none 0 0,.slice none 0 0,.slice none 0 0] }):=by kernel_rfl
end Go.Proofs.YtajnpndfkbnkoaaGreat
namespace Go.Abs
section
variable {P:Program}{dst:Option Tmp}{ty:TypeId}{pos:String}{aft:Array Edge}{g:Option (Nat×Bool)}{ρ:Operand→AV}{H:List Aj}{x y:Operand}
end
structure Kz (P:Program) where
 fd:Nat→Option (List (Nat×Nat))
 ty:Nat→Option (Bool×Nat)
 zr:Nat→Option (List AV)
 hfd:∀T l,fd T=some l→fieldsOf P T=some l
 hty:∀T l,ty T=some l→DO P T=some l
 hzr:∀T l,zr T=some l→∃z,zeroOf P T=some z∧z.cells.toList.map EZ=l
def gb (op:BinOp) (m n:Int):Option Bool :=
 match op with | .eql=>some (m==n) | .neq=>some (m !=n) | .lss=>some (decide (m<n)) | .leq=>some (decide (m≤n)) | .gtr=>some (decide (m > n)) | .geq=>some (decide (m≥n)) | _=>none
def fG (op:BinOp) (m n:Int):Option Int :=
 match op with | .add=>some (m+n) | .sub=>some (m - n) | .mul=>some (m*n) | _=>none
abbrev gJ:=AV×List Aj×List Nat×Prop
def Wx (op:BinOp) (H:List Aj) (is:List Nat) (C:Prop):AV→AV→Option gJ
 | .p (.int k m),.p (.int k' n) =>
  match gb op m n with
  | some b=>some (.p (.bool b),H,is,C∧k=k')
  | none =>
   match k,k',fG op m n with
   | .i64,.i64,some r=>some (.p (.int .i64 r),H,is,(C∧ -9223372036854775808≤r)∧r≤9223372036854775807)
   | _,_,_=>none
 | _,_=>none
def RO (H:List Aj) (is:List Nat) (C:Prop) (t:Bool×Nat):AV→Option gJ
 | .ref cells =>
  bif t.1 then some (.agg (cells.map .p),H,is,C∧cells.length=t.2)
  else match cells with
   | c::_=>some (.p c,H,is,C)
   | []=>none
 | .ptr b o =>
  match is with
  | []=>none
  | i::is =>
   match H[i]? with
   | some (.box b' cs) =>
    bif t.1 then (match o with | 0=>some (.agg cs,H,is,(C∧b'=b)∧cs.length=t.2) | _+1=>none)
    else (match cs[o]? with | some v=>some (v,H,is,C∧b'=b) | none=>none)
   | _=>none
 | _=>none
def ZC:Nat→List Aj→Option (List Aj)
 | n+1,o::H=>match ZC n H with | some H'=>some (o::H') | none=>none
 | _,H=>some H
theorem Rg:∀{n:Nat}{H H':List Aj},ZC n H=some H'→H'=H
 | 0,[],H',h=>by simpa [ZC] using h.symm
 | 0,_::_,H',h=>by simpa [ZC] using h.symm
 | _+1,[],H',h=>by simpa [ZC] using h.symm
 | n+1,o::H,H',h=>by
  unfold ZC at h;split at h
  ·rename_i H1 h1;injection h with h;rw[←h,Rg h1]
  cases h
def fA:List AV→Option (List AV)
 | []=>some []
 | o::H=>match fA H with | some H'=>some (o::H') | none=>none
theorem Wr:∀{H H':List AV},fA H=some H'→H'=H
 | [],H',h=>by simpa [fA] using h.symm
 | o::H,H',h=>by
  unfold fA at h;split at h
  ·rename_i H1 h1;injection h with h;rw[←h,Wr h1]
  cases h
def RE (H:List Aj) (is:List Nat) (C:Prop) (t:Bool×Nat) (y:AV):AV→Option gJ
 | .ptr b o =>
  match is with
  | i::w::is =>
   match H[i]?,DA y,t.2 with
   | some (.box b' cs),some us,n+1 =>
    match w with
    | 0=>match fA (splice cs o us) with
     | none=>none
     | some ds=>match ZC (i+1) (H.set i (.box b ds)) with
      | none=>none
      | some H'=>some (.p .any,H',is,(((C∧b'=b)∧us.length=n+1)∧Nat.ble (o+(n+1)) cs.length=true)∧us.all one=true)
    | _+1=>match o with
     | 0=>(match ZC (i+1) (H.set i (.box b us)) with
      | none=>none
      | some H'=>some (.p .any,H',is,(((C∧b'=b)∧us.length=n+1)∧cs.length=n+1)∧us.all one=true))
     | _+1=>none
   | _,_,_=>none
  | _=>none
 | _=>none
def RZ (H:List Aj) (is:List Nat) (C:Prop) (off:Nat):AV→Option gJ
 | .ptr b o=>some (.ptr b (o+off),H,is,C)
 | .ref cells=>some (.ref (cells.drop off),H,is,C)
 | _=>none
def Jm {P:Program}(tb:Kz P) (ρ:Operand→AV) (H:List Aj) (is:List Nat) (C:Prop):Op→Option gJ
 | .move x=>some (ρ x,H,is,C)
 | .assign x=>some (ρ x,H,is,C)
 | .pick x y z=>match ρ x with | .p (.bool b)=>some (bif b then ρ y else ρ z,H,is,C) | _=>none
 | .extract x i=>match ρ x with | .tup xs=>(match xs[i]? with | some v=>some (v,H,is,C) | none=>none) | _=>none
 | .nilCheck x=>match ρ x with | .ptr b o=>some (.ptr b o,H,is,C) | _=>none
 | .makeFunc fn first caps=>some (.fn fn (first.toList.map ρ) (caps.toList.map ρ),H,is,C)
 | .unOp .not T x=>match ρ x with | .p (.bool b)=>some (.p (.bool (!b)),H,is,C) | _=>none
 | .binOp op T x y U=>Wx op H is C (ρ x) (ρ y)
 | .fieldAddr T x i=>match tb.fd T with
  | some lay=>(match lay[i]? with | some (off,_+1)=>RZ H is C off (ρ x) | _=>none)
  | none=>none
 | .build T parts=>match tb.fd T,tb.zr T with
  | some lay,some z=>(match D2 (lay[·]?) z (parts.toList.map fun p=>(p.1,ρ p.2)) with | some cs=>some (.agg cs,H,is,C) | none=>none)
  | _,_=>none
 | .load T x=>match tb.ty T with | some t=>RO H is C t (ρ x) | none=>none
 | .store T x y=>match tb.ty T with | some t=>RE H is C t (ρ y) (ρ x) | none=>none
 | _=>none
section
variable {P:Program}{tb:Kz P}{ρ:Operand→AV}{H H':List Aj}{is is':List Nat}{C C':Prop}{v:AV}
 {dst:Option Tmp} {ty:TypeId} {pos:String} {aft:Array Edge} {g:Option (Nat×Bool)}
theorem D4 {op:Op}(h:Jm tb ρ H is C op=some (v,H',is',C')) (c:C'):C∧Ce P ⟨dst,op,ty,pos,aft,g⟩ ρ H v H':=by
 unfold Jm at h;split at h
 ·grind [Be]
 ·grind [Nj]
 ·grind [FG]
 ·grind [MN]
 ·grind [Ro]
 ·grind [Dh]
 ·grind [NC]
 ·rename_i op T x y U;generalize hx:ρ x=vx at h;generalize hy:ρ y=vy at h;unfold Wx at h;split at h
  ·rename_i k m k' n;split at h
   ·rename_i b hb;injection h with h;simp only[Prod.mk.injEq] at h;obtain⟨rfl,rfl,rfl,rfl⟩:=h;obtain⟨c,rfl⟩:=c;exact⟨c,Ge hx hy hb⟩
   split at h
   ·rename_i r hr;injection h with h;simp only[Prod.mk.injEq] at h;obtain⟨rfl,rfl,rfl,rfl⟩:=h;obtain⟨⟨c,c1⟩,c2⟩:=c;refine⟨c,?_⟩;unfold fG at hr
    grind [U7,ZI,aa]
   cases h
  cases h
 ·rename_i T x i;split at h
  ·rename_i lay hl;split at h
   ·rename_i off sz hi;generalize hx:ρ x=vx at h;unfold RZ at h;split at h
    ·injection h with h;simp only[Prod.mk.injEq] at h;obtain⟨rfl,rfl,rfl,rfl⟩:=h;exact⟨c,BL (tb.hfd _ _ hl) hi hx⟩
    ·injection h with h;simp only[Prod.mk.injEq] at h;obtain⟨rfl,rfl,rfl,rfl⟩:=h;exact⟨c,CV (tb.hfd _ _ hl) hi hx⟩
    cases h
   cases h
  cases h
 ·rename_i T parts;split at h
  ·rename_i lay z hl hz;split at h
   ·rename_i cs hc;injection h with h;simp only[Prod.mk.injEq] at h;obtain⟨rfl,rfl,rfl,rfl⟩:=h;obtain⟨z',hz',rfl⟩:=tb.hzr _ _ hz;exact⟨c,Dx (tb.hfd _ _ hl) hz' hc⟩
   cases h
  cases h
 ·rename_i T x;split at h
  ·rename_i t ht;have ht:=tb.hty _ _ ht;obtain⟨tb1,tn⟩:=t;generalize hx:ρ x=vx at h;unfold RO at h
   grind [Bl,Fs,B1,BQ]
  cases h
 ·rename_i T x y;split at h
  ·rename_i t ht;have ht:=tb.hty _ _ ht;obtain⟨tb1,tn⟩:=t;generalize hx:ρ x=vx at h;generalize hy:ρ y=vy at h;unfold RE at h;split at h
   ·rename_i b o;split at h
    ·grind [Rg,Wr,Ho,Cm]
    cases h
   cases h
  cases h
 cases h
def runs (tb:Kz P) (ops:Array Oper) (n:Nat):Nat→Nat→(Nat→AV)→List Aj→List Nat→Prop→Option ((Nat→AV)×List Aj×Prop)
 | 0,_,τ,H,_,C=>some (τ,H,C)
 | m+1,k,τ,H,is,C =>
  match ops[k]? with
  | none=>none
  | some ⟨dst,op,_,_,_,g⟩ =>
   bif D9 dst n then
    match g with
    | none =>
     (match Jm tb (ev τ) H is C op with
     | some (v,H',is',C')=>runs tb ops n m (k+1) (put τ dst v) H' is' C'
     | none=>none)
    | some (j,want) =>
     match (ops[j]?).bind (·.dst) with
     | none=>none
     | some d =>
      match τ d with
      | .p (.bool b) =>
       bif b==want then
        (match Jm tb (ev τ) H is C op with
        | some (v,H',is',C')=>runs tb ops n m (k+1) (put τ dst v) H' is' C'
        | none=>none)
       else runs tb ops n m (k+1) (put τ dst (.tup [])) H is C
      | .tup []=>runs tb ops n m (k+1) (put τ dst (.tup [])) H is C
      | _=>none
   else none
end
section
variable {P:Program}{r:Option Nat}{ops:Array Oper}{n:Nat}{D:List Cb}{Q:Bd→As→Prop}
theorem LB (tb:Kz P):∀(m k:Nat) {τ τ':Nat→AV}{H H':List Aj}{is:List Nat}{C C':Prop},runs tb ops n m k τ H is C=some (τ',H',C')→C' →
  C∧(AL P r ops (k+m) ⟨n,τ',H',D⟩ Q→AL P r ops k ⟨n,τ,H,D⟩ Q)
 | 0,k,τ,τ',H,H',is,C,C',h,c=>by
  simp only[runs,Option.some.injEq,Prod.mk.injEq] at h;obtain⟨rfl,rfl,rfl⟩:=h;exact⟨c,fun h=>h⟩
 | m+1,k,τ,τ',H,H',is,C,C',h,c=>by
  rw[runs] at h;split at h
  ·cases h
  rename_i dst op ty pos aft g ho;cases hd:D9 dst n with
  | false=>rw[hd] at h;cases h
  | true =>
   rw[hd,cond_true] at h;rw[show k+(m+1)=k+1+m by omega];split at h
   ·split at h
    ·rename_i v H1 is1 C1 hv;have ⟨c1,ih⟩:=LB tb m (k+1) h c;have ⟨c2,hop⟩:=D4 (dst:=dst) (ty:=ty) (pos:=pos) (aft:=aft) (g:=none) hv c1;exact⟨c2,fun hq=>Im ho hd hop (ih hq)⟩
    cases h
   rename_i j want;split at h
   ·cases h
   rename_i d hj;split at h
   ·rename_i b hb;cases hw:b==want with
    | true =>
     rw[hw,cond_true] at h;split at h
     ·rename_i v H1 is1 C1 hv;have ⟨c1,ih⟩:=LB tb m (k+1) h c;have ⟨c2,hop⟩:=D4 (dst:=dst) (ty:=ty) (pos:=pos) (aft:=aft) (g:=some (j,want)) hv c1;have hbw:b=want:=by simpa using hw
      exact⟨c2,fun hq=>N9 ho hj (by rw[hb,hbw]) hd hop (ih hq)⟩
     ·cases h
    | false =>
     rw[hw,cond_false] at h;have ⟨c1,ih⟩:=LB tb m (k+1) h c;exact⟨c1,fun hq=>Q1 ho hj hb hw hd (ih hq)⟩
   ·rename_i hb;have ⟨c1,ih⟩:=LB tb m (k+1) h c;exact⟨c1,fun hq=>JO ho hj hb hd (ih hq)⟩
   cases h
end
def look {α:Type}:List (Nat×α)→Nat→Option α
 | [],_=>none
 | (a,v)::r,t=>bif Nat.beq a t then some v else look r t
def RC {α:Type}(f:Nat→Option α):List (Nat×α)→Prop
 | []=>True
 | (a,v)::r=>f a=some v∧RC f r
theorem look_of {α:Type}{f:Nat→Option α}{T:Nat}{v:α}:∀{l:List (Nat×α)},RC f l→look l T=some v→f T=some v
 | [],_,h=>by cases h
 | (a,u)::r,ha,h=>by
  unfold look at h;cases hb:Nat.beq a T with
  | true=>rw[hb,cond_true] at h;injection h with h;subst h;rw[←Nat.eq_of_beq_eq_true hb];exact ha.1
  | false=>rw[hb,cond_false] at h;exact look_of ha.2 h
def Rl (P:Program) (T:Nat):Option (List AV):=(zeroOf P T).map fun z=>z.cells.toList.map EZ
def gN {P:Program}{fd:List (Nat×List (Nat×Nat))}{ty:List (Nat×Bool×Nat)}{zr:List (Nat×List AV)}(hf:RC (fieldsOf P) fd) (ht:RC (DO P) ty) (hz:RC (Rl P) zr):Kz P where
 fd:=look fd
 ty:=look ty
 zr:=look zr
 hfd _ _ h:=look_of hf h
 hty _ _ h:=look_of ht h
 hzr T l h:=by
  have h1:=look_of hz h;unfold Rl at h1;cases hq:zeroOf P T with
  | none=>rw[hq] at h1;cases h1
  | some z=>rw[hq] at h1;injection h1 with h1;exact⟨z,rfl,h1⟩
end Go.Abs
namespace Go.Abs
open Go.Eu
section
variable {P:Program}{r:Option Nat}{ops:Array Oper}{n k:Nat}{D:List Cb}{Q:Bd→As→Prop}{τ τ':Nat→AV}{H H':List Aj}{C:Prop}
theorem Ek {C:Prop}(c:C:=by first | ((repeat' first | exact trivial | refine And.intro ?_ ?_ | (simp only[List.length_map,An,DH,Yc,ET,EW,DD,Dy,Ve,FD,GC];done) | exact Hd _ | exact Qz _ | exact aC _ | exact aL _ | exact Zq _ | exact aM _ | exact RX _ | exact Zd _ | exact aO _ | exact rfl | omega)<;>fail) | fail):C:=c
theorem Az (tb:Kz P) (m:Nat) (is:List Nat) (h:runs tb ops n m k τ H is True=some (τ',H',C)) (next:AL P r ops (k+m) ⟨n,τ',H',D⟩ Q) (c:C:=by exact Ek):AL P r ops k ⟨n,τ,H,D⟩ Q:=(LB tb m k h c).2 next
theorem Ar (tb:Kz P) (m:Nat) (is:List Nat) (h:runs tb ops n m k τ H is True=some (τ',H',C)) (next:Q .normal ⟨n,τ',H',D⟩) (hk:ops.size - (k+m)=0:=by exact rfl) (c:C:=by exact Ek):AL P r ops k ⟨n,τ,H,D⟩ Q:=Az tb m is h (Ba hk next) c
theorem BD {id:Nat}{c₂:Code}(tb:Kz P) (m:Nat) (is:List Nat) (h:runs tb ops n m 0 τ H is True=some (τ',H',C)) (next:GF P r c₂ ⟨n,τ',H',D⟩ Q) (hk:ops.size - (0+m)=0:=by exact rfl) (c:C:=by exact Ek):GF P r (.seq (.region id ops false) c₂) ⟨n,τ,H,D⟩ Q:=A4 (Ar tb m is h next hk c)
end
end Go.Abs
