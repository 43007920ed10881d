/- Part of the proofs: an abstract program logic, plain models and contracts of functions. -/
import Derived.OrdersIn
import Derived.RangeFuncIn
import Derived.RangeFuncRecord
import Derived.MapKept
import Derived.Deep.MidRow
import Derived.RangeFuncLeaves
import Derived.RecoverIn
import Derived.RangeFuncNested
set_option linter.unusedVariables false
set_option linter.unusedSimpArgs false
theorem Go.O.{u}{α:Sort u}{a:α}:a=a:=rfl
theorem Go.Aw:True:= .intro
namespace Go.Abs
inductive PV where
 | any
 | bool (b:Bool)
 | int (k:IntKind) (n:Int)
 | str (s:ByteArray)
 | lst (rows:List (List PV))
 | fn (f:FuncId)
 | nilFn
 | nils
 | nilIface
 | iface (t:TypeId) (v:PV)
 | unit
 | addr (b:Nat)
 | optp (o:Option Nat)
 | lstc (rows:List (List PV))
 deriving Inhabited
mutual
def Br (F:Nat→Prop) (w:World):PV→Value→Prop
 | .any,_=>True
 | .bool b,v=>v= .bool b
 | .int k n,v=>v= .int k n
 | .str s,v=>v= .string s
 | .lst rows,v=>(rows=[]∧∃o c,v= .slice o 0 c)∨(∃b o c sz,v= .slice (some ⟨b,o,none⟩) rows.length c∧¬F b∧b<w.heap.size∧rows.length≤c∧Bl F w b sz o rows)
 | .fn f,v=>v= .func (.func f) #[] #[]
 | .nilFn,v=>v= .nilFunc
 | .nils,v=>v= .slice none 0 0
 | .nilIface,v=>v= .nilIface
 | .iface t x,v=>∃u,v= .iface t u∧Br F w x u
 | .unit,v=>v= .agg #[]
 | .addr b,v=>v= .pointer (some ⟨b,0,none⟩)
 | .optp o,v=>v= .pointer (o.map fun b=>⟨b,0,none⟩)
 | .lstc rows,v=>(rows=[]∧∃o,v= .slice o 0 0)∨(∃b o sz,v= .slice (some ⟨b,o,none⟩) rows.length rows.length∧¬F b∧b<w.heap.size∧Bl F w b sz o rows)
def Bl (F:Nat→Prop) (w:World) (b sz:Nat):Nat→List (List PV)→Prop
 | _,[]=>True
 | o,r::rs=>r.length=sz∧CM F w b o r∧Bl F w b sz (o+sz) rs
def CM (F:Nat→Prop) (w:World) (b:Nat):Nat→List PV→Prop
 | _,[]=>True
 | o,c::cs=>(∃v,w.cell? ⟨b,o,none⟩=some v∧Br F w c v)∧CM F w b (o+1) cs
end
inductive AV where
 | p (x:PV)
 | ptr (b off:Nat)
 | nilp
 | ref (cells:List PV)
 | vs (o:Option Nat) (n c:Nat)
 | map (b:Nat)
 | fn (f:Fn) (first caps:List AV)
 | agg (cs:List AV)
 | tup (xs:List AV)
 deriving Inhabited
mutual
def Bz (F:Nat→Prop) (w:World):AV→Value→Prop
 | .p x,v=>Br F w x v
 | .ptr b off,v=>v= .pointer (some ⟨b,off,none⟩)
 | .nilp,v=>v= .pointer none
 | .ref cs,v=>∃b o,v= .pointer (some ⟨b,o,none⟩)∧¬F b∧b<w.heap.size∧CM F w b o cs
 | .vs (some b) n c,v=>v= .slice (some ⟨b,0,none⟩) n c
 | .vs none n c,v=>n=0∧c=0∧∃a,v= .slice a 0 0
 | .map b,v=>v= .map (some b)
 | .fn f first caps,v=>∃fs cs,v= .func f ⟨fs⟩ ⟨cs⟩∧Bf F w first fs∧Bf F w caps cs
 | .agg cs,v=>∃vs,v= .agg ⟨vs⟩∧Bf F w cs vs
 | .tup xs,v=>∃vs,v= .tuple ⟨vs⟩∧Bf F w xs vs
def Bf (F:Nat→Prop) (w:World):List AV→List Value→Prop
 | [],vs=>vs=[]
 | x::xs,vs=>∃u us,vs=u::us∧Bz F w x u∧Bf F w xs us
end
structure Po where
 state:LoopState
 pending:Option Code
 n:Nat
 τ:Nat→AV
 params:Array Tmp
 assign:Code
 body:Code
 deriving Inhabited
inductive A4 where
 | box (b:Nat) (cs:List AV)
 | vec (o:Option Nat) (sz:Nat) (rows:List (List PV)) (c:Nat)
 | map (b:Nat) (es:List (PV×AV))
 | loop (l:Nat) (L:Po)
 | dfr (b:Nat)
 | blk (b:Nat) (o:Obj)
 | glob (l:List (Nat×Obj))
 | vecT (o:Option Nat) (T:TypeId) (fr:Bool) (rows:List (List PV)) (c:Nat)
 | boxT (b:Nat) (T:TypeId) (cs:List AV)
 | fro (b sz:Nat) (rows:List (List PV))
 deriving Inhabited
def A4.key:A4→Option Nat
 | .box b _=>some b
 | .vec o _ _ _=>o
 | .map b _=>some b
 | .loop l _=>some l
 | .dfr b=>some b
 | .blk b _=>some b
 | .glob _=>none
 | .vecT o _ _ _ _=>o
 | .boxT b _ _=>some b
 | .fro _ _ _=>none
def D5 (F:Nat→Prop) (w:World):List (PV×AV)→List MapEntry→Prop
 | [],es=>es=[]
 | (k,x)::r,es=>∃e es',es=e::es'∧Br F w k e.key∧Bz F w x e.val∧D5 F w r es'
def JV (F:Nat→Prop) (w:World):A4→Prop
 | .box b cs=>∃vs T,w.heap[b]?=some (.cells ⟨vs⟩ T (0,0))∧Bf F w cs vs
 | .vec none _ rows c=>rows=[]∧c=0
 | .vec (some b) sz rows c=>∃vs T,w.heap[b]?=some (.cells vs T (0,0))∧c*sz≤vs.size∧rows.length≤c∧Bl F w b sz 0 rows
 | .map b es=>∃ents clk,w.heap[b]?=some (.map ents clk)∧MapKept.Stamped ents clk∧D5 F w es ents.toList
 | .loop l L=>∃r:Loop,w.heap[l]?=some (.loop r)∧r.state=L.state∧r.pending=L.pending∧r.params=L.params∧r.assign=L.assign∧r.body=L.body∧r.tmps.size=L.n∧∀t,Bz F w (L.τ t) (r.tmps.getD t (.tuple #[]))
 | .dfr b=>w.heap[b]?=some (.deferred (some []))
 | .blk b o=>w.heap[b]?=some o
 | .glob l=>∀p∈l,w.heap[p.1]?=some p.2∧¬F p.1
 | .boxT b T cs=>∃vs,w.heap[b]?=some (.cells ⟨vs⟩ T (0,0))∧Bf F w cs vs
 | .fro b sz rows=>∃vs T,w.heap[b]?=some (.cells vs T (0,0))∧vs.size=rows.length*sz∧¬F b∧Bl F w b sz 0 rows
 | .vecT none _ _ rows c=>rows=[]∧c=0
 | .vecT (some b) T fr rows c=>∃vs,w.heap[b]?=some (.cells vs T (0,if fr then rows.length else 0))∧c≤vs.size∧rows.length≤c∧Bl F w b 1 0 rows
inductive D4 where
 | clo (f:Fn) (caps:List AV)
 | mark (b:Nat)
structure HRel (F:Nat→Prop) (H:List A4) (w:World):Prop where
 sub:∀o∈H,∀b,o.key=some b→F b
 nodup:(H.filterMap A4.key).Nodup
 obj:∀o∈H,JV F w o
 bd:∀b,F b→b<w.heap.size
structure Trans (F:Nat→Prop) (H:List A4) (w:World) (F':Nat→Prop) (H':List A4) (w':World):Prop where
 size:w.heap.size≤w'.heap.size
 same:∀b,b<w.heap.size→(∀o∈H,o.key≠some b)→w'.heap[b]?=w.heap[b]?
 keep:∀b,F b→(∀o∈H,o.key≠some b)→F' b
 fresh:∀b,F' b→F b∨w.heap.size≤b
 keys:∀o∈H',∀b,o.key=some b→(∃o'∈H,o'.key=some b)∨w.heap.size≤b
 os:w'.os=w.os
 out:w'.output=w.output
 tape:w'.tape=w.tape
theorem gg {w w':World}{b o:Nat}(h:w'.heap[b]?=w.heap[b]?):w'.cell? ⟨b,o,none⟩=w.cell? ⟨b,o,none⟩:=by
 simp[World.cell?,h]
structure Dq (F:Nat→Prop) (w:World) (F':Nat→Prop) (w':World):Prop where
 size:w.heap.size≤w'.heap.size
 same:∀b,¬F b→b<w.heap.size→w'.heap[b]?=w.heap[b]?
 nf:∀b,¬F b→b<w.heap.size→¬F' b
section
variable {F F':Nat→Prop}{w w':World}
mutual
theorem Br.mono (st:Dq F w F' w'):∀(x:PV) (v:Value),Br F w x v→Br F' w' x v
 | .any,_,_=>by simp[Br]
 | .bool b,_,h=>by simpa [Br] using h
 | .int k n,_,h=>by simpa [Br] using h
 | .str s,_,h=>by simpa [Br] using h
 | .lst rows,v,h=>by
  simp only[Br] at h ⊢;rcases h with h | ⟨b,o,c,sz,hv,hf,hb,hc,hr⟩
  ·exact .inl h
  ·exact .inr ⟨b,o,c,sz,hv,st.nf b hf hb,Nat.lt_of_lt_of_le hb st.size,hc,Bl.mono st b sz (st.same b hf hb) o rows hr⟩
 | .fn f,_,h=>by simpa [Br] using h
 | .nilFn,_,h=>by simpa [Br] using h
 | .nils,_,h=>by simpa [Br] using h
 | .nilIface,_,h=>by simpa [Br] using h
 | .iface t x,v,h=>by
  simp only[Br] at h ⊢;obtain⟨u,hu,hx⟩:=h;exact⟨u,hu,Br.mono st x u hx⟩
 | .unit,_,h=>by simpa [Br] using h
 | .addr b,_,h=>by simpa [Br] using h
 | .optp o,_,h=>by simpa [Br] using h
 | .lstc rows,v,h=>by
  simp only[Br] at h ⊢;rcases h with h | ⟨b,o,sz,hv,hf,hb,hr⟩
  ·exact .inl h
  exact .inr ⟨b,o,sz,hv,st.nf b hf hb,Nat.lt_of_lt_of_le hb st.size,Bl.mono st b sz (st.same b hf hb) o rows hr⟩
theorem Bl.mono (st:Dq F w F' w') (b sz:Nat) (hb:w'.heap[b]?=w.heap[b]?):∀(o:Nat) (rows:List (List PV)),Bl F w b sz o rows→Bl F' w' b sz o rows
 | _,[],_=>by simp[Bl]
 | o,r::rs,h=>by
  simp only[Bl] at h ⊢;exact⟨h.1,CM.mono st b hb o r h.2.1,Bl.mono st b sz hb (o+sz) rs h.2.2⟩
theorem CM.mono (st:Dq F w F' w') (b:Nat) (hb:w'.heap[b]?=w.heap[b]?):∀(o:Nat) (cs:List PV),CM F w b o cs→CM F' w' b o cs
 | _,[],_=>by simp[CM]
 | o,c::cs,h=>by
  simp only[CM] at h ⊢;obtain⟨⟨v,hv,hx⟩,hr⟩:=h;exact⟨⟨v,by rw[gg hb];exact hv,Br.mono st c v hx⟩,CM.mono st b hb (o+1) cs hr⟩
end
mutual
theorem Bz.mono (st:Dq F w F' w'):∀(x:AV) (v:Value),Bz F w x v→Bz F' w' x v
 | .p x,v,h=>by simp only[Bz] at h ⊢;exact Br.mono st x v h
 | .ptr _ _,_,h=>by simpa [Bz] using h
 | .nilp,_,h=>by simpa [Bz] using h
 | .ref cs,v,h=>by
  simp only[Bz] at h ⊢;obtain⟨b,o,hv,hf,hb,hr⟩:=h;exact⟨b,o,hv,st.nf b hf hb,Nat.lt_of_lt_of_le hb st.size,CM.mono st b (st.same b hf hb) o cs hr⟩
 | .vs (some _) _ _,_,h=>by simpa [Bz] using h
 | .vs none _ _,_,h=>by simpa [Bz] using h
 | .map _,_,h=>by simpa [Bz] using h
 | .fn f first caps,v,h=>by
  simp only[Bz] at h ⊢;obtain⟨fs,cs,hv,h1,h2⟩:=h;exact⟨fs,cs,hv,Bf.mono st first fs h1,Bf.mono st caps cs h2⟩
 | .agg cs,v,h=>by
  simp only[Bz] at h ⊢;obtain⟨vs,hv,h1⟩:=h;exact⟨vs,hv,Bf.mono st cs vs h1⟩
 | .tup xs,v,h=>by
  simp only[Bz] at h ⊢;obtain⟨vs,hv,h1⟩:=h;exact⟨vs,hv,Bf.mono st xs vs h1⟩
theorem Bf.mono (st:Dq F w F' w'):∀(xs:List AV) (vs:List Value),Bf F w xs vs→Bf F' w' xs vs
 | [],_,h=>by simpa [Bf] using h
 | x::xs,vs,h=>by
  simp only[Bf] at h ⊢;obtain⟨u,us,hv,h1,h2⟩:=h;exact⟨u,us,hv,Bz.mono st x u h1,Bf.mono st xs us h2⟩
end
theorem D5.mono (st:Dq F w F' w'):∀(es:List (PV×AV)) (l:List MapEntry),D5 F w es l→D5 F' w' es l
 | [],_,h=>by simpa [D5] using h
 | (k,x)::r,l,h=>by
  simp only[D5] at h ⊢;obtain⟨e,es',hv,h1,h2,h3⟩:=h;exact⟨e,es',hv,Br.mono st k _ h1,Bz.mono st x _ h2,D5.mono st r es' h3⟩
theorem JV.mono (st:Dq F w F' w') (x:A4) (hk:∀b,x.key=some b→w'.heap[b]?=w.heap[b]?) (h:JV F w x):JV F' w' x:=by
 cases x with
 | box b cs =>
  obtain⟨vs,T,hb,hr⟩:=h;exact⟨vs,T,by rw[hk b rfl];exact hb,Bf.mono st cs vs hr⟩
 | vec o sz rows c =>
  cases o with
  | none=>exact h
  | some b =>
   obtain⟨vs,T,hb,h1,h2,h3⟩:=h;exact⟨vs,T,by rw[hk b rfl];exact hb,h1,h2,Bl.mono st b sz (hk b rfl) 0 rows h3⟩
 | map b es =>
  obtain⟨ents,clk,hb,hs,hr⟩:=h;exact⟨ents,clk,by rw[hk b rfl];exact hb,hs,D5.mono st es _ hr⟩
 | loop l L =>
  obtain⟨r,hb,h1,h2,h3,h4,h5,h6,h7⟩:=h;exact⟨r,by rw[hk l rfl];exact hb,h1,h2,h3,h4,h5,h6,fun t=>Bz.mono st _ _ (h7 t)⟩
 | dfr b =>
  show w'.heap[b]?=_;rw[hk b rfl];exact h
 | blk b o =>
  show w'.heap[b]?=_;rw[hk b rfl];exact h
 | glob l =>
  intro p hp;obtain⟨h1,h2⟩:=h p hp;have hlt:p.1<w.heap.size:=(Array.getElem?_eq_some_iff.1 h1).1;exact⟨by rw[st.same p.1 h2 hlt];exact h1,st.nf p.1 h2 hlt⟩
 | boxT b T cs =>
  obtain⟨vs,hb,hr⟩:=h;exact⟨vs,by rw[hk b rfl];exact hb,Bf.mono st cs vs hr⟩
 | fro b sz rows =>
  obtain⟨vs,T,hb,h1,h2,h3⟩:=h;have hlt:b<w.heap.size:=(Array.getElem?_eq_some_iff.1 hb).1;exact⟨vs,T,by rw[st.same b h2 hlt];exact hb,h1,st.nf b h2 hlt,Bl.mono st b sz (st.same b h2 hlt) 0 rows h3⟩
 | vecT o T fr rows c =>
  cases o with
  | none=>exact h
  | some b =>
   obtain⟨vs,hb,h1,h2,h3⟩:=h;exact⟨vs,by rw[hk b rfl];exact hb,h1,h2,Bl.mono st b 1 (hk b rfl) 0 rows h3⟩
end
section
variable {F F' F'':Nat→Prop}{H H' H'':List A4}{w w' w'':World}
theorem Trans.stable (hs:∀o∈H,∀b,o.key=some b→F b) (t:Trans F H w F' H' w'):Dq F w F' w' where
 size:=t.size
 same b hf hb:=t.same b hb fun o ho hk=>hf (hs o ho b hk)
 nf b hf hb hf':=(t.fresh b hf').elim hf fun h=>by omega
theorem Trans.refl:Trans F H w F H w where
 size:=Nat.le_refl _
 same _ _ _:=rfl
 keep _ h _:=h
 fresh _ h:= .inl h
 keys o ho b hb:= .inl ⟨o,ho,hb⟩
 os:=rfl
 out:=rfl
 tape:=rfl
theorem Trans.trans (bd:∀b,F b→b<w.heap.size) (t:Trans F H w F' H' w') (t':Trans F' H' w' F'' H'' w''):Trans F H w F'' H'' w'' where
 size:=Nat.le_trans t.size t'.size
 same b hb hn:=by
  rw[t'.same b (Nat.lt_of_lt_of_le hb t.size) ?_,t.same b hb hn];intro o ho hk;rcases t.keys o ho b hk with ⟨o',ho',hk'⟩ | h
  ·exact hn o' ho' hk'
  omega
 keep b hF hn:=by
  refine t'.keep b (t.keep b hF hn) ?_;intro o ho hk;have:=bd b hF;rcases t.keys o ho b hk with ⟨o',ho',hk'⟩ | h
  ·exact hn o' ho' hk'
  omega
 fresh b h:=by
  rcases t'.fresh b h with h | h
  ·exact t.fresh b h
  exact .inr (Nat.le_trans t.size h)
 keys o ho b hk:=by
  rcases t'.keys o ho b hk with ⟨o',ho',hk'⟩ | h
  ·exact t.keys o' ho' b hk'
  exact .inr (Nat.le_trans t.size h)
 os:=t'.os.trans t.os
 out:=t'.out.trans t.out
 tape:=t'.tape.trans t.tape
end
def put (τ:Nat→AV) (d:Option Nat) (v:AV):Nat→AV :=
 match d with
 | none=>τ
 | some d=>fun t=>bif Nat.beq t d then v else τ t
def mk:List (Nat×AV)→Nat→AV
 | [],_=> .p .any
 | (d,v)::r,t=>bif Nat.beq t d then v else mk r t
def HG:Value→AV
 | .bool b=> .p (.bool b)
 | .int k n=> .p (.int k n)
 | .string s=> .p (.str s)
 | .slice none 0 0=> .p .nils
 | .nilIface=> .p .nilIface
 | .nilFunc=> .p .nilFn
 | .pointer none=> .nilp
 | _=> .p .any
def bG:Value→AV
 | .agg cs=> .agg (cs.toList.map HG)
 | v=>HG v
def ev (τ:Nat→AV):Operand→AV
 | .tmp t=>τ t
 | .const v=>bG v
 | .func f=> .p (.fn f)
 | .global g=> .ptr g 0
structure BM where
 n:Nat
 τ:Nat→AV
 H:List A4
 D:List D4
def BM.put (S:BM) (d:Option Nat) (v:AV) (H:List A4):BM:=⟨S.n,Abs.put S.τ d v,H,S.D⟩
def Gg (F:Nat→Prop) (w:World):List D4→List Deferred→Prop
 | [],ds=>ds=[]
 | .clo f cs::r,ds=>∃vs ds',ds={ target:= .fn f ⟨vs⟩,args:=#[] }::ds'∧Bf F w cs vs∧Gg F w r ds'
 | .mark b::r,ds=>∃ds',ds={ target:= .collected b,args:=#[] }::ds'∧Gg F w r ds'
structure GI (F:Nat→Prop) (S:BM) (a:Act) (w:World):Prop where
 size:a.tmps.size=S.n
 tmp:∀t,Bz F w (S.τ t) (a.tmps.getD t undef)
 heap:HRel F S.H w
 defs:Gg F w S.D a.defers
section
variable {F F':Nat→Prop}{w w':World}
theorem Gg.mono (st:Dq F w F' w'):∀(D:List D4) (ds:List Deferred),Gg F w D ds→Gg F' w' D ds
 | [],_,h=>by simpa [Gg] using h
 | .clo f cs::r,ds,h=>by
  simp only[Gg] at h ⊢;obtain⟨vs,ds',hd,h1,h2⟩:=h;exact⟨vs,ds',hd,Bf.mono st cs vs h1,Gg.mono st r ds' h2⟩
 | .mark b::r,ds,h=>by
  simp only[Gg] at h ⊢;obtain⟨ds',hd,h2⟩:=h;exact⟨ds',hd,Gg.mono st r ds' h2⟩
theorem L3 (v:Value):Bz F w (.p .any) v:=by simp[Bz,Br]
theorem Qa (v:Value):Bz F w (HG v) v:=by
 unfold HG;split<;>simp[Bz,Br]
theorem WS:∀vs:List Value,Bf F w (vs.map HG) vs
 | []=>rfl
 | v::vs=>⟨v,vs,rfl,Qa v,WS vs⟩
theorem ax (v:Value):Bz F w (bG v) v:=by
 unfold bG;split
 ·rename_i cs;exact⟨cs.toList,rfl,WS _⟩
 exact Qa _
theorem GI.eval {S:BM}{a:Act}(h:GI F S a w) (x:Operand):Bz F w (ev S.τ x) (a.eval x):=by
 cases x with
 | tmp t=>exact h.tmp t
 | const v=>exact ax v
 | global g=>simp[ev,Act.eval,Bz]
 | func f=>simp[ev,Act.eval,Bz,Br]
theorem GI.put {S:BM}{a:Act}(h:GI F S a w) {d:Option Nat}(hd:∀t,d=some t→t<S.n) {v:AV}{u:Value}{H':List A4}
  (st:Dq F w F' w') (hH:HRel F' H' w') (hv:Bz F' w' v u):GI F' (S.put d v H') (a.put d u) w' where
 size:=by cases d<;>simp[Act.put,BM.put,h.size]
 tmp t:=by
  cases d with
  | none=>exact Bz.mono st _ _ (h.tmp t)
  | some d =>
   have hlt:d<a.tmps.size:=by rw[h.size];exact hd d rfl
   by_cases e:t=d
   ·subst e;simp[Act.put,BM.put,Abs.put,hlt,hv]
   have hb:Nat.beq t d=false:=by
    cases hq:Nat.beq t d with
    | false=>rfl
    | true=>exact absurd (Nat.eq_of_beq_eq_true hq) e
   have:=Bz.mono st _ _ (h.tmp t);simpa [Act.put,BM.put,Abs.put,hb,Array.getElem?_setIfInBounds_ne (Ne.symm e)] using this
 heap:=hH
 defs:=by
  have:=Gg.mono st _ _ h.defs;cases d<;>exact this
end
inductive Cj where
 | normal
 | exit (id:Nat)
 | ret
 | panic (v:AV)
def nh (F:Nat→Prop) (w:World):Cj→Exit→Prop
 | .normal,e=>e= .normal
 | .exit id,e=>e= .exit id
 | .ret,e=>e= .ret
 | .panic x,e=>∃v,e= .panic [{ v,recovered:=false }]∧Bz F w x v
def post (F:Nat→Prop) (H:List A4) (w:World) (Q:Cj→BM→Prop):Exit→Act→World→Prop :=
 fun e a' w'=>∃e' S' F',Q e' S'∧nh F' w' e' e∧GI F' S' a' w'∧Trans F H w F' S'.H w'
def W (r:Option Nat):Fence:={ Fence.wide with round:=r }
def IK (P:Program) (r:Option Nat) (c:Code) (S:BM) (Q:Cj→BM→Prop):Prop :=
 ∀F a w,GI F S a w→c.wpIn (W r) 0 P (post F S.H w Q) a w
theorem _root_.Go.Av {α:Prop}(h:α:=by simp):α:=h
section
variable {P:Program}{r:Option Nat}{S:BM}{Q Q':Cj→BM→Prop}{c c₁ c₂:Code}
theorem HE {F F₁:Nat→Prop}{H H₁:List A4}{w w₁:World}(bd:∀b,F b→b<w.heap.size) (t:Trans F H w F₁ H₁ w₁) {e a w'}
  (h:post F₁ H₁ w₁ Q e a w'):post F H w Q e a w':=by
 obtain⟨e',S',F',hq,he,hs,ht⟩:=h;exact⟨e',S',F',hq,he,hs,t.trans bd ht⟩
theorem IK.mono (h:IK P r c S Q) (hq:∀e S,Q e S→Q' e S):IK P r c S Q' :=
 fun F a w hs=>wpIn_mono (h F a w hs) fun _ _ _ ⟨e',S',F',q,r⟩=>⟨e',S',F',hq _ _ q,r⟩
def Kj (K:BM→Prop) (Q:Cj→BM→Prop):Cj→BM→Prop
 | .normal,S=>K S
 | e,S=>Q e S
theorem BR (h:IK P r c₁ S (Kj (fun S'=>IK P r c₂ S' Q) Q)):IK P r (.seq c₁ c₂) S Q:=by
 intro F a w hs;refine wpIn_seq (wpIn_mono (h F a w hs) ?_);rintro e a' w' ⟨e',S',F',hq,he,hs',ht⟩;cases e' with
 | normal =>
  obtain rfl:e= .normal:=he;exact wpIn_mono (hq F' a' w' hs') fun _ _ _=>HE hs.heap.bd ht
 | exit id=>obtain rfl:e= .exit id:=he;exact⟨.exit id,S',F',hq,rfl,hs',ht⟩
 | ret=>obtain rfl:e= .ret:=he;exact⟨.ret,S',F',hq,rfl,hs',ht⟩
 | panic v=>obtain⟨u,rfl,hu⟩:=he;exact⟨.panic v,S',F',hq,⟨u,rfl,hu⟩,hs',ht⟩
theorem Bn (h:Q .normal S):IK P r .skip S Q:=fun F a w hs=>wpIn_skip ⟨.normal,S,F,h,rfl,hs,.refl⟩
theorem EN {id:Nat}(h:Q (.exit id) S):IK P r (.exit id) S Q:=fun F a w hs=>wpIn_exit ⟨.exit id,S,F,h,rfl,hs,.refl⟩
theorem CB (h:Q .ret S):IK P r .ret S Q:=fun F a w hs=>wpIn_ret ⟨.ret,S,F,h,rfl,hs,.refl⟩
theorem BX {x:Operand}{b:Bool}(hx:ev S.τ x= .p (.bool b)) (ht:b=true→IK P r c₁ S Q) (hf:b=false→IK P r c₂ S Q):IK P r (.cond x c₁ c₂) S Q:=by
 intro F a w hs;have:=hs.eval x;rw[hx] at this;simp only[Bz,Br] at this;exact wpIn_cond_split this (fun h=>ht h F a w hs) (fun h=>hf h F a w hs)
def XU (id:Nat) (Q:Cj→BM→Prop):Cj→BM→Prop
 | .exit i,S=>bif Nat.beq i id then Q .normal S else Q (.exit i) S
 | e,S=>Q e S
theorem B3 {id:Nat}(h:IK P r c S (XU id Q)):IK P r (.block id c) S Q:=by
 intro F a w hs;refine wpIn_block (wpIn_mono (h F a w hs) ?_);rintro e a' w' ⟨e',S',F',hq,he,hs',ht⟩;cases e' with
 | normal=>obtain rfl:e= .normal:=he;exact⟨.normal,S',F',hq,rfl,hs',ht⟩
 | exit i =>
  obtain rfl:e= .exit i:=he;simp only[Exit.inBlock];by_cases hi:i=id
  ·subst hi;have:Nat.beq i i=true:=Nat.beq_refl i;simp only[XU,this,cond_true] at hq;simp only[if_true];exact⟨.normal,S',F',hq,O,hs',ht⟩
  ·have:Nat.beq i id=false:=by
    cases hq:Nat.beq i id with
    | false=>rfl
    | true=>exact absurd (Nat.eq_of_beq_eq_true hq) hi
   simp only[XU,this,cond_false] at hq;simp only[hi,if_false];exact⟨.exit i,S',F',hq,O,hs',ht⟩
 | ret=>obtain rfl:e= .ret:=he;exact⟨.ret,S',F',hq,rfl,hs',ht⟩
 | panic v=>obtain⟨u,rfl,hu⟩:=he;exact⟨.panic v,S',F',hq,⟨u,rfl,hu⟩,hs',ht⟩
theorem Yk {F:Fence}{nn:Nat}{Q:Exit→Act→World→Prop}{c:Code}(I:Nat→Act→World→Prop)
  (round:∀m a w,I m a w→c.wpIn F nn P (Exit.then (fun a' w'=>∃m',m' < m∧I m' a' w') Q) a w) {m:Nat} {a:Act} {w:World} (h₀:I m a w):(Code.loop c).wpIn F nn P Q a w:=by
 intro b k cs hro hb hr;have key:∀j a w,I j a w →
   ∃e a' w',Q e a' w'∧ArrivesIn (Machine.fenced P F) P (lone (b.atR a (.code c:: .inLoop c::k)) cs w) b k cs e a' w':=by
  intro j
  induction j using Nat.strongRecOn with
  | _ j ih =>
   intro a w hI;obtain⟨e,a₁,w₁,hq,harr⟩:=round j a w hI b (.inLoop c::k) cs hro hb hr;cases e with
   | normal =>
    obtain⟨m',hlt,hI₁⟩:=hq;obtain⟨e₂,a₂,w₂,hq₂,harr₂⟩:=ih m' hlt a₁ w₁ hI₁;exact⟨e₂,a₂,w₂,hq₂,.of_steps (StepsIn.trans harr (.one (fenced_calm hb hr O) stepR_inLoop)) harr₂⟩
   | exit id=>exact⟨_,a₁,w₁,hq,.pass (x:= .inLoop c) rfl (fun _ _=> .inl Av) harr⟩
   | goto l=>exact⟨_,a₁,w₁,hq,.pass (x:= .inLoop c) rfl (fun _ _=> .inl Av) harr⟩
   | ret=>exact⟨_,a₁,w₁,hq,.pass (x:= .inLoop c) rfl (fun _ _=> .inl Av) harr⟩
   | panic ch=>exact⟨_,a₁,w₁,hq,.pass (x:= .inLoop c) rfl (fun _ _=> .inl Av) harr⟩
   | outgrown=>exact⟨_,a₁,w₁,hq,.pass (x:= .inLoop c) rfl (fun _ _=> .inl Av) harr⟩
 obtain⟨e,a',w',hq,harr⟩:=key _ a w h₀;exact⟨e,a',w',hq,.of_steps (.one (fenced_calm hb hr O) stepR_loop) harr⟩
def LU (x y:AV):Prop:=∀F w v,Bz F w x v→Bz F w y v
theorem we {x y:AV}(h:x=y):LU x y:=fun _ _ _ hr=>h▸hr
theorem O8 (x:AV):LU x (.p .any):=fun _ _ v _=>L3 v
def NQ (o o':A4):Prop:=o'.key=o.key∧∀F w,JV F w o→JV F w o'
theorem oe {o o':A4}(h:o=o'):NQ o o':=⟨by rw[h],fun _ _ hr=>h▸hr⟩
def F3:List A4→List A4→Prop
 | [],l=>l=[]
 | o::l,r=>∃o' r',r=o'::r'∧NQ o o'∧F3 l r'
theorem F3.refl:∀(l:List A4),F3 l l
 | []=>rfl
 | o::l=>⟨o,l,rfl,oe rfl,F3.refl l⟩
theorem F3.keys:∀{l r:List A4},F3 l r→r.filterMap A4.key=l.filterMap A4.key
 | [],r,h=>by simp only[F3] at h;subst h;rfl
 | o::l,r,h=>by
  obtain⟨o',r',rfl,h1,h2⟩:=h;simp[List.filterMap_cons,h1.1,F3.keys h2]
theorem F3.mem:∀{l r:List A4},F3 l r→∀o'∈r,∃o∈l,NQ o o'
 | [],r,h,o',ho=>by simp only[F3] at h;subst h;simp at ho
 | o::l,r,h,o',ho=>by
  obtain⟨o1,r',rfl,h1,h2⟩:=h;rcases List.mem_cons.1 ho with rfl | ho
  ·exact⟨o,by simp,h1⟩
  obtain⟨q,hq,hw⟩:=F3.mem h2 o' ho;exact⟨q,by simp[hq],hw⟩
def nw (H H':List A4):Prop:=∃H1,H1.Sublist H∧F3 H1 H'
theorem nw.of_sub {H H':List A4}(h:H'.Sublist H):nw H H':=⟨H',h,F3.refl _⟩
structure Le (S M:BM):Prop where
 n:M.n=S.n
 D:M.D=S.D
 τ:∀t,LU (S.τ t) (M.τ t)
 H:nw S.H M.H
theorem Le.refl (S:BM):Le S S:=⟨rfl,rfl,fun _=>we rfl,.of_sub (List.Sublist.refl _)⟩
theorem HRel.sublist {F:Nat→Prop}{H H':List A4}{w:World}(h:HRel F H w) (hs:H'.Sublist H):HRel F H' w where
 sub o ho:=h.sub o (hs.subset ho)
 nodup:=(hs.filterMap A4.key).nodup h.nodup
 obj o ho:=h.obj o (hs.subset ho)
 bd:=h.bd
theorem HRel.leH {F:Nat→Prop}{H H':List A4}{w:World}(h:HRel F H w) (l:nw H H'):HRel F H' w:=by
 obtain⟨H1,h1,h2⟩:=l;have h3:=h.sublist h1;refine⟨fun o ho b hb=>?_,by rw[h2.keys];exact h3.nodup,fun o ho=>?_,h.bd⟩
 ·obtain⟨q,hq,hw⟩:=h2.mem o ho;exact h3.sub q hq b (by rw[←hw.1];exact hb)
 obtain⟨q,hq,hw⟩:=h2.mem o ho;exact hw.2 F w (h3.obj q hq)
theorem GI.le {F:Nat→Prop}{S M:BM}{a:Act}{w:World}(h:GI F S a w) (l:Le S M):GI F M a w where
 size:=by rw[h.size,l.n]
 tmp t:=l.τ t F w _ (h.tmp t)
 heap:=h.heap.leH l.H
 defs:=by rw[l.D];exact h.defs
theorem Trans.sublist {F F':Nat→Prop}{H H' H'':List A4}{w w':World}(t:Trans F H w F' H' w') (hs:H''.Sublist H'):Trans F H w F' H'' w' :=
 { t with keys:=fun o ho=>t.keys o (hs.subset ho) }
theorem Trans.leH {F F':Nat→Prop}{H H' H'':List A4}{w w':World}(t:Trans F H w F' H' w') (l:nw H' H''):Trans F H w F' H'' w':=by
 obtain⟨H1,h1,h2⟩:=l;refine { t with keys:=fun o ho b hb=>?_ };obtain⟨q,hq,hw⟩:=h2.mem o ho;exact t.keys q (h1.subset hq) b (by rw[←hw.1];exact hb)
theorem Trans.le {F:Nat→Prop}{S M:BM}{w:World}(l:Le S M):Trans F S.H w F M.H w:=Trans.refl.leH l.H
theorem NI {M:BM}(l:Le S M) (bd:IK P r c M Q):IK P r c S Q :=
 fun F a w hs=>wpIn_mono (bd F a w (hs.le l)) fun _ _ _=>HE hs.heap.bd (Trans.le l)
theorem SV (I:Nat→BM→Prop) {m:Nat}{M:BM}(l:Le S M) (h₀:I m M)
  (round:∀m S,I m S→IK P r c S (Kj (fun S'=>∃m' M',m' < m∧Le S' M'∧I m' M') Q)):IK P r (.loop c) S Q:=by
 intro F a w hs;refine Yk (P:=P) (fun m a' w'=>∃S' F',I m S'∧GI F' S' a' w'∧Trans F S.H w F' S'.H w') ?_ (m:=m)
  ⟨M,F,h₀,hs.le l,Trans.le l⟩
 rintro m a₁ w₁ ⟨S₁,F₁,hI,hs₁,ht₁⟩;refine wpIn_mono (round m S₁ hI F₁ a₁ w₁ hs₁) ?_;rintro e a' w' ⟨e',S',F',hq,he,hs',ht⟩;cases e' with
 | normal =>
  obtain rfl:e= .normal:=he;obtain⟨m',M',hlt,hle,hI'⟩:=hq;exact⟨m',hlt,M',F',hI',hs'.le hle,(ht₁.trans hs.heap.bd ht).leH hle.H⟩
 | exit id=>obtain rfl:e= .exit id:=he;exact⟨.exit id,S',F',hq,rfl,hs',ht₁.trans hs.heap.bd ht⟩
 | ret=>obtain rfl:e= .ret:=he;exact⟨.ret,S',F',hq,rfl,hs',ht₁.trans hs.heap.bd ht⟩
 | panic v=>obtain⟨u,rfl,hu⟩:=he;exact⟨.panic v,S',F',hq,⟨u,rfl,hu⟩,hs',ht₁.trans hs.heap.bd ht⟩
def XI (τ:Nat→AV):List (Nat×AV)→Prop
 | []=>True
 | (t,v)::r=>τ t=v∧XI τ r
theorem We (τ:Nat→AV):∀(l:List (Nat×AV)),XI τ l→∀t,mk l t=τ t∨mk l t= .p .any
 | [],_,t=> .inr rfl
 | (d,v)::r,h,t=>by
  simp only[mk];by_cases e:t=d
  ·subst e;rw[Nat.beq_refl];exact .inl h.1.symm
  have:Nat.beq t d=false:=by
   cases hq:Nat.beq t d with
   | false=>rfl
   | true=>exact absurd (Nat.eq_of_beq_eq_true hq) e
  rw[this];exact We τ r h.2 t
theorem G5 {n:Nat}{τ:Nat→AV}{H H':List A4}{D:List D4}{l:List (Nat×AV)}(h:XI τ l) (hH:H'.Sublist H) :
  Le ⟨n,τ,H,D⟩ ⟨n,mk l,H',D⟩:=⟨rfl,rfl,fun t=>(We τ l h t).elim (fun e=>we e.symm) (fun e=>by show LU (τ t) (mk l t);rw[e];exact O8 _),.of_sub hH⟩
def I7 (τ:Nat→AV):List (Nat×AV)→Prop
 | []=>True
 | (t,v)::r=>LU (τ t) v∧I7 τ r
theorem UA (τ:Nat→AV):∀(l:List (Nat×AV)),I7 τ l→∀t,LU (τ t) (mk l t)
 | [],_,t=>O8 _
 | (d,v)::r,h,t=>by
  simp only[mk];by_cases e:t=d
  ·subst e;rw[Nat.beq_refl];exact h.1
  have:Nat.beq t d=false:=by
   cases hq:Nat.beq t d with
   | false=>rfl
   | true=>exact absurd (Nat.eq_of_beq_eq_true hq) e
  rw[this];exact UA τ r h.2 t
theorem Ec {n:Nat}{τ:Nat→AV}{H H':List A4}{D:List D4}{l:List (Nat×AV)}(h:I7 τ l) (hH:nw H H') :
  Le ⟨n,τ,H,D⟩ ⟨n,mk l,H',D⟩:=⟨rfl,rfl,UA τ l h,hH⟩
end
inductive EG where
 | val (v:AV)
 | panic (v:AV)
section
variable {F F':Nat→Prop}{w w':World}
theorem Bf.length:∀{xs:List AV}{vs:List Value},Bf F w xs vs→vs.length=xs.length
 | [],vs,h=>by simp only[Bf] at h;simp[h]
 | x::xs,vs,h=>by
  simp only[Bf] at h;obtain⟨u,us,rfl,_,h2⟩:=h;simp[Bf.length h2]
theorem Bf.get:∀{xs:List AV}{vs:List Value}{i:Nat}{x:AV},Bf F w xs vs→xs[i]?=some x→∃v,vs[i]?=some v∧Bz F w x v
 | [],vs,i,x,_,hx=>by simp at hx
 | y::xs,vs,i,x,h,hx=>by
  simp only[Bf] at h;obtain⟨u,us,rfl,h1,h2⟩:=h;cases i with
  | zero=>simp at hx;subst hx;exact⟨u,by simp,h1⟩
  | succ i=>simp at hx;simpa using Bf.get h2 hx
theorem Bf.set:∀{xs:List AV}{vs:List Value}{i:Nat}{x:AV}{v:Value},Bf F w xs vs→Bz F w x v→Bf F w (xs.set i x) (vs.set i v)
 | [],vs,i,x,v,h,hx=>by simp only[Bf] at h;subst h;simp[Bf]
 | y::xs,vs,i,x,v,h,hx=>by
  simp only[Bf] at h;obtain⟨u,us,rfl,h1,h2⟩:=h;cases i with
  | zero=>simp only[List.set_cons_zero,Bf];exact⟨v,us,rfl,hx,h2⟩
  | succ i=>simp only[List.set_cons_succ,Bf];exact⟨u,us.set i v,rfl,h1,Bf.set h2 hx⟩
theorem Bf.append:∀{xs ys:List AV}{vs us:List Value},Bf F w xs vs→Bf F w ys us→Bf F w (xs++ys) (vs++us)
 | [],ys,vs,us,h,h'=>by simp only[Bf] at h;subst h;simpa using h'
 | x::xs,ys,vs,us,h,h'=>by
  simp only[Bf] at h;obtain⟨u,t,rfl,h1,h2⟩:=h;simp only[List.cons_append,Bf];exact⟨u,t++us,O,h1,Bf.append h2 h'⟩
theorem Bf.drop:∀{xs:List AV}{vs:List Value}(n:Nat),Bf F w xs vs→Bf F w (xs.drop n) (vs.drop n)
 | xs,vs,0,h=>by simpa using h
 | [],vs,n+1,h=>by simp only[Bf] at h;subst h;simp[Bf]
 | x::xs,vs,n+1,h=>by
  simp only[Bf] at h;obtain⟨u,t,rfl,_,h2⟩:=h;simpa using Bf.drop n h2
theorem Bf.take:∀{xs:List AV}{vs:List Value}(n:Nat),Bf F w xs vs→Bf F w (xs.take n) (vs.take n)
 | xs,vs,0,h=>by simp[Bf]
 | [],vs,n+1,h=>by simp only[Bf] at h;subst h;simp[Bf]
 | x::xs,vs,n+1,h=>by
  simp only[Bf] at h;obtain⟨u,t,rfl,h1,h2⟩:=h;simp only[List.take_succ_cons,Bf];exact⟨u,t.take n,O,h1,Bf.take n h2⟩
theorem Bf.mapEval {ρ:Operand→AV}{E:Operand→Value}:∀(l:List Operand),(∀x∈l,Bz F w (ρ x) (E x))→Bf F w (l.map ρ) (l.map E)
 | [],_=>by simp[Bf]
 | x::l,h=>by
  simp only[List.map_cons,Bf];exact⟨E x,l.map E,O,h x Av,Bf.mapEval l fun y hy=>h y (by simp[hy])⟩
end
def DL (P:Program) (o:Oper) (ρ:Operand→AV) (H:List A4) (R:EG→List A4→Prop):Prop :=
 ∀r F S a w,GI F S a w→S.H=H→(∀x∈o.op.operands.toList,ev S.τ x=ρ x)→(∀t,o.dst=some t→t<S.n) →
  o.wpIn (W r) 0 P a w (fun a' w'=>∃v H' F',R (.val v) H'∧GI F' (S.put o.dst v H') a' w'∧Trans F H w F' H' w')
   (fun e a' w'=>∃v H' F' u,R (.panic v) H'∧e= .panic [{ v:=u,recovered:=false }]∧Bz F' w' v u∧GI F' ⟨S.n,S.τ,H',S.D⟩ a' w'∧Trans F H w F' H' w')
def det (v:AV) (H:List A4):EG→List A4→Prop
 | .val v',H'=>v'=v∧H'=H
 | .panic _,_=>False
abbrev Dm (P:Program) (o:Oper) (ρ:Operand→AV) (H:List A4) (v:AV) (H':List A4):Prop:=DL P o ρ H (det v H')
theorem DL.mono {P:Program}{o:Oper}{ρ:Operand→AV}{H:List A4}{R R':EG→List A4→Prop}(h:DL P o ρ H R) (hr:∀r H,R r H→R' r H):DL P o ρ H R':=by
 intro r F S a w hs hH hρ hd;have:=h r F S a w hs hH hρ hd;unfold Oper.wpIn at *;refine⟨this.1,?_⟩;replace this:=this.2;generalize (o.semAt (W r).round a.eval).run P w=rr at *;cases rr with
 | ok n w' =>
  cases n<;>simp only[Oper.uponIn] at this ⊢
  case value v=>obtain⟨v,H',F',h1,h2⟩:=this;exact⟨v,H',F',hr _ _ h1,h2⟩
  case skip=>obtain⟨v,H',F',h1,h2⟩:=this;exact⟨v,H',F',hr _ _ h1,h2⟩
  case defer d=>obtain⟨v,H',F',h1,h2⟩:=this;exact⟨v,H',F',hr _ _ h1,h2⟩
  case enter f args =>
   refine⟨this.1,this.2.mono fun e w'' he=>?_⟩;cases e with
   | returned v=>obtain⟨v,H',F',h1,h2⟩:=he;exact⟨v,H',F',hr _ _ h1,h2⟩
   | panicked c=>obtain⟨v,H',F',u,h1,h2⟩:=he;exact⟨v,H',F',u,hr _ _ h1,h2⟩
   | outgrown=>obtain⟨_,_,v,H',F',u,h1,h2,_⟩:=he;cases h2
  case row row args=>exact⟨this.1,this.2.mono fun v w'' ⟨v,H',F',h1,h2⟩=>⟨v,H',F',hr _ _ h1,h2⟩⟩
  case round l f tmps assign body =>
   refine⟨this.1,this.2.mono fun e w'' he=>?_⟩;cases e with
   | returned v=>obtain⟨v,H',F',h1,h2⟩:=he;exact⟨v,H',F',hr _ _ h1,h2⟩
   | panicked c=>obtain⟨v,H',F',u,h1,h2⟩:=he;exact⟨v,H',F',u,hr _ _ h1,h2⟩
   | outgrown=>obtain⟨_,_,v,H',F',u,h1,h2,_⟩:=he;cases h2
 | halt x w' =>
  cases x<;>simp only[Oper.uponIn] at this ⊢
  case panic v=>obtain⟨v,H',F',u,h1,h2⟩:=this;exact⟨v,H',F',u,hr _ _ h1,h2⟩
def O1:Op→Bool
 | .defer _=>false
 | _=>true
theorem jX {o:Oper}(h:O1 o.op=true) (r:Option Nat) (ρ:Operand→Value):o.semAt (W r).round ρ=execOp ρ o :=
 Oper.semAt_eq _ ρ o fun c hc=>by rw[hc] at h;cases h
theorem MA {P:Program}{o:Oper}(h:O1 o.op=true) {r:Option Nat}{a:Act}{w:World}{K:Act→World→Prop}{Q:Exit→Act→World→Prop}(hu:o.uponIn (W r) 0 P a K Q ((execOp a.eval o).run P w)):o.wpIn (W r) 0 P a w K Q :=
 ⟨fun _ _=>trivial,by rw[jX h];exact hu⟩
theorem Bw {P:Program}{o:Oper}{ρ:Operand→AV}{H:List A4}{v:AV}
  (h:∀(F:Nat→Prop) (w:World) (E:Operand→Value),HRel F H w→(∀x∈o.op.operands.toList,Bz F w (ρ x) (E x)) →
   ∃u,(execOp E o).run P w= .ok (.value u) w∧Bz F w v u) (hdf:O1 o.op=true:=by rfl):Dm P o ρ H v H:=by
 intro r F S a w hs hH hρ hd;subst hH;refine MA hdf ?_;obtain⟨u,hu,hr⟩:=h F w a.eval hs.heap fun x hx=>by rw[←hρ x hx];exact hs.eval x
 simp only[hu,Oper.uponIn];exact⟨v,S.H,F,⟨O,O⟩,hs.put hd ⟨Nat.le_refl _,fun _ _ _=>O,fun _ h _=>h⟩ hs.heap hr,.refl⟩
theorem G9 {P:Program}{o:Oper}{ρ:Operand→AV}{H:List A4}{R:EG→List A4→Prop}
  (h:∀(F:Nat→Prop) (w:World) (E:Operand→Value),HRel F H w→(∀x∈o.op.operands.toList,Bz F w (ρ x) (E x)) →
   ∃u w' v H' F',(execOp E o).run P w= .ok (.value u) w'∧R (.val v) H'∧Trans F H w F' H' w'∧HRel F' H' w'∧Bz F' w' v u) (hdf:O1 o.op=true:=by rfl):DL P o ρ H R:=by
 intro r F S a w hs hH hρ hd;subst hH;refine MA hdf ?_;obtain⟨u,w',v,H',F',hu,hR,ht,hH',hr⟩:=h F w a.eval hs.heap fun x hx=>by rw[←hρ x hx];exact hs.eval x
 simp only[hu,Oper.uponIn];exact⟨v,H',F',hR,hs.put hd (ht.stable hs.heap.sub) hH' hr,ht⟩
theorem I3 {P:Program}{o:Oper}{ρ:Operand→AV}{H:List A4}{R:EG→List A4→Prop}
  (h:∀(F:Nat→Prop) (w:World) (E:Operand→Value),HRel F H w→(∀x∈o.op.operands.toList,Bz F w (ρ x) (E x)) →
   ∃w' H' F',(execOp E o).run P w= .ok .skip w'∧R (.val (.p .any)) H'∧Trans F H w F' H' w'∧HRel F' H' w') (hdf:O1 o.op=true:=by rfl):DL P o ρ H R:=by
 intro r F S a w hs hH hρ hd;subst hH;refine MA hdf ?_;obtain⟨w',H',F',hu,hR,ht,hH'⟩:=h F w a.eval hs.heap fun x hx=>by rw[←hρ x hx];exact hs.eval x
 simp only[hu,Oper.uponIn];exact⟨.p .any,H',F',hR,hs.put hd (ht.stable hs.heap.sub) hH' (L3 _),ht⟩
def Gj:Option Nat→Nat→Bool
 | some t,n=>Nat.blt t n
 | none,_=>true
def AL (P:Program) (r:Option Nat) (ops:Array Oper) (k:Nat) (S:BM) (Q:Cj→BM→Prop):Prop :=
 ∀F a w,GI F S a w→wpOpsIn (W r) 0 P ops (post F S.H w Q) (List.range' k (ops.size - k)) a w
theorem Ev {P:Program}{r:Option Nat}{ops:Array Oper}{Q Q':Exit→Act→World→Prop}(hq:∀e a w,Q e a w→Q' e a w):∀(l:List Nat) (a:Act) (w:World),wpOpsIn (W r) 0 P ops Q l a w→wpOpsIn (W r) 0 P ops Q' l a w
 | [],a,w,h=>hq _ _ _ h
 | i::l,a,w,h=>by
  rw[wpOpsIn_cons] at h ⊢;unfold wpOpIn at h ⊢;split
  ·rename_i ho;simp only[ho] at h;exact Ev hq l a w h
  rename_i o ho;simp only[ho] at h;split
  ·rename_i hw;simp only[hw,if_true] at h;unfold Oper.wpIn at *;refine⟨h.1,?_⟩;replace h:=h.2;generalize (o.semAt (W r).round a.eval).run P w=rr at *;cases rr with
   | ok n w' =>
    cases n<;>simp only[Oper.uponIn] at h ⊢
    case value v=>exact Ev hq l _ _ h
    case skip=>exact Ev hq l _ _ h
    case defer d=>exact Ev hq l _ _ h
    case enter f args =>
     refine⟨h.1,h.2.mono fun e w'' he=>?_⟩;cases e with
     | returned v=>exact Ev hq l _ _ he
     | panicked c=>exact hq _ _ _ he
     | outgrown=>obtain⟨a₀,w₀,h2⟩:=he;exact⟨a₀,w₀,hq _ _ _ h2⟩
    case row row args=>exact⟨h.1,h.2.mono fun v w'' h=>Ev hq l _ _ h⟩
    case round l' f tmps assign body =>
     refine⟨h.1,h.2.mono fun e w'' he=>?_⟩;cases e with
     | returned v=>exact Ev hq l _ _ he
     | panicked c=>exact hq _ _ _ he
     | outgrown=>obtain⟨a₀,w₀,h2⟩:=he;exact⟨a₀,w₀,hq _ _ _ h2⟩
   | halt x w' =>
    cases x<;>simp only[Oper.uponIn] at h ⊢
    case panic v=>exact hq _ _ _ h
  rename_i hw;simp only[hw] at h;exact⟨h.1,Ev hq l _ _ h.2⟩
theorem _root_.Go.An {α:Prop}(h:α:=by simp[Ep]):α:=h
section
variable {P:Program}{r:Option Nat}{ops:Array Oper}{S:BM}{Q:Cj→BM→Prop}{k:Nat}
theorem Be {id:Nat}(h:AL P r ops 0 S Q):IK P r (.region id ops false) S Q:=by
 intro F a w hs;refine wpIn_region ?_;have:=h F a w hs
 rwa [Nat.sub_zero,←List.range_eq_range'] at this
theorem BQ {id:Nat}{c₂:Code}(h:AL P r ops 0 S (Kj (fun S'=>IK P r c₂ S' Q) Q)):IK P r (.seq (.region id ops false) c₂) S Q:=BR (Be h)
theorem Ch (hk:ops.size - k=0) (h:Q .normal S):AL P r ops k S Q:=by
 intro F a w hs;rw[hk];exact⟨.normal,S,F,h,O,hs,.refl⟩
def ue (x:AV) (want:Bool):Prop:=(∃b,x= .p (.bool b)∧(b==want)=false)∨x= .tup []
def Ep (ops:Array Oper) (S:BM) (o:Oper):Prop :=
 match o.guard with
 | none=>True
 | some (j,want)=>∃d,(ops[j]?).bind (·.dst)=some d∧S.τ d= .p (.bool want)
theorem VZ {F:Nat→Prop}{a:Act}{w:World}{o:Oper}(hs:GI F S a w) (h:Ep ops S o):Region.wanted o (yielded ops a.tmps)=true:=by
 unfold Ep at h;unfold Region.wanted;cases hg:o.guard with
 | none=>rfl
 | some jw =>
  obtain⟨j,want⟩:=jw;simp only[hg] at h;obtain⟨d,hd,hv⟩:=h;have:=hs.tmp d;rw[hv] at this;simp only[Bz,Br] at this;have hlt:d<a.tmps.size:=by
   rcases Nat.lt_or_ge d a.tmps.size with h | h
   ·exact h
   simp[Array.getElem?_eq_none h,undef] at this
  have h2:a.tmps[d]?=some (.bool want):=by
   simp[Array.getElem?_eq_getElem hlt] at this ⊢;exact this
  simp[yielded,hd,h2]
theorem Lp {n k:Nat}(h:k<n):List.range' k (n - k)=k::List.range' (k+1) (n - (k+1)):=by
 have:n - k=(n - (k+1))+1:=by omega
 rw[this];rfl
theorem Fm {o:Oper}(ho:ops[k]?=some o) (hg:Ep ops S o) (hd:∀t,o.dst=some t→t<S.n) {R:EG→List A4→Prop}(h:DL P o (ev S.τ) S.H R)
  (next:∀v H',R (.val v) H'→AL P r ops (k+1) (S.put o.dst v H') Q) (pan:∀v H',R (.panic v) H'→Q (.panic v) ⟨S.n,S.τ,H',S.D⟩):AL P r ops k S Q:=by
 intro F a w hs;have hk:k<ops.size:=by
  rcases Nat.lt_or_ge k ops.size with h | h
  ·exact h
  simp[Array.getElem?_eq_none h] at ho
 rw[Lp hk,wpOpsIn_cons];unfold wpOpIn;simp only[ho,VZ hs hg,if_true];have hw:=h r F S a w hs rfl (fun _ _=>rfl) hd;unfold Oper.wpIn at *;refine⟨hw.1,?_⟩;replace hw:=hw.2;generalize (o.semAt (W r).round a.eval).run P w=rr at *;have fin:∀{a' w'},(∃v H' F',R (.val v) H'∧GI F' (S.put o.dst v H') a' w'∧Trans F S.H w F' H' w') →
   wpOpsIn (W r) 0 P ops (post F S.H w Q) (List.range' (k+1) (ops.size - (k+1))) a' w':=by
  rintro a' w' ⟨v,H',F',hR,hs',ht⟩;exact Ev (fun e a w=>HE hs.heap.bd ht) _ _ _ (next v H' hR F' a' w' hs')
 have panics:∀{e a' w'},(∃v H' F' u,R (.panic v) H'∧e= .panic [{ v:=u,recovered:=false }]∧Bz F' w' v u∧GI F' ⟨S.n,S.τ,H',S.D⟩ a' w'∧Trans F S.H w F' H' w') →
   post F S.H w Q e a' w':=by
  rintro e a' w' ⟨v,H',F',u,hR,rfl,hr,hs',ht⟩;exact⟨.panic v,_,F',pan v H' hR,⟨u,O,hr⟩,hs',ht⟩
 cases rr with
 | ok n w' =>
  cases n<;>simp only[Oper.uponIn] at hw ⊢
  case value v=>exact fin hw
  case skip=>exact fin hw
  case defer d=>exact fin hw
  case enter f args =>
   refine⟨hw.1,hw.2.mono fun e w'' he=>?_⟩;cases e with
   | returned v=>exact fin he
   | panicked c=>exact panics he
   | outgrown=>obtain⟨_,_,v,H',F',u,h1,h2,_⟩:=he;cases h2
  case row row args=>exact⟨hw.1,hw.2.mono fun v w'' h=>fin h⟩
  case round l f tmps assign body =>
   refine⟨hw.1,hw.2.mono fun e w'' he=>?_⟩;cases e with
   | returned v=>exact fin he
   | panicked c=>exact panics he
   | outgrown=>obtain⟨_,_,v,H',F',u,h1,h2,_⟩:=he;cases h2
 | halt x w' =>
  cases x<;>simp only[Oper.uponIn] at hw ⊢
  case panic v=>exact panics hw
variable {n:Nat}{τ:Nat→AV}{H H':List A4}{D:List D4}{dst:Option Tmp}{op:Op}{ty:TypeId}{pos:String}{aft:Array Edge}{g:Option (Nat×Bool)}{v:AV}
theorem He (hd:Gj dst n=true):∀t,dst=some t→t<n:=by
 intro t ht;rw[ht] at hd;simpa [Gj,Nat.blt_eq] using hd
theorem R8 (ho:ops[k]?=some ⟨dst,op,ty,pos,aft,none⟩) (hd:Gj dst n=true) (h:Dm P ⟨dst,op,ty,pos,aft,none⟩ (ev τ) H v H')
  (next:AL P r ops (k+1) ⟨n,put τ dst v,H',D⟩ Q):AL P r ops k ⟨n,τ,H,D⟩ Q :=
 Fm (S:=⟨n,τ,H,D⟩) ho An (He hd) h (fun v' H'' ⟨h1,h2⟩=>by subst h1;subst h2;exact next) (fun _ _ h=>h.elim)
theorem Sr {j d:Nat}{want:Bool}(ho:ops[k]?=some ⟨dst,op,ty,pos,aft,some (j,want)⟩) (hj:(ops[j]?).bind (·.dst)=some d) (hb:τ d= .p (.bool want))
  (hd:Gj dst n=true) (h:Dm P ⟨dst,op,ty,pos,aft,some (j,want)⟩ (ev τ) H v H')
  (next:AL P r ops (k+1) ⟨n,put τ dst v,H',D⟩ Q):AL P r ops k ⟨n,τ,H,D⟩ Q :=
 Fm (S:=⟨n,τ,H,D⟩) ho (by simp only[Ep];exact⟨d,hj,hb⟩) (He hd) h (fun v' H'' ⟨h1,h2⟩=>by subst h1;subst h2;exact next) (fun _ _ h=>h.elim)
theorem BA (ho:(ops[k]?,Gj dst n)=(some ⟨dst,op,ty,pos,aft,none⟩,true)) (h:Dm P ⟨dst,op,ty,pos,aft,none⟩ (ev τ) H v H')
  (next:AL P r ops (k+1) ⟨n,put τ dst v,H',D⟩ Q):AL P r ops k ⟨n,τ,H,D⟩ Q:=R8 (congrArg Prod.fst ho) (congrArg Prod.snd ho) h next
theorem DW {j d:Nat}{want:Bool}(ho:(ops[k]?,(ops[j]?).bind (·.dst),τ d,Gj dst n)=(some ⟨dst,op,ty,pos,aft,some (j,want)⟩,some d,.p (.bool want),true)) (h:Dm P ⟨dst,op,ty,pos,aft,some (j,want)⟩ (ev τ) H v H')
  (next:AL P r ops (k+1) ⟨n,put τ dst v,H',D⟩ Q):AL P r ops k ⟨n,τ,H,D⟩ Q:=Sr (congrArg Prod.fst ho) (congrArg (·.2.1) ho) (congrArg (·.2.2.1) ho) (congrArg (·.2.2.2) ho) h next
theorem YB {F:Nat→Prop}{S:BM}{a:Act}{w:World}{o:Oper}{j d:Nat}{want:Bool}(hs:GI F S a w) (hg:o.guard=some (j,want)) (hj:(ops[j]?).bind (·.dst)=some d) (hu:ue (S.τ d) want):Region.wanted o (yielded ops a.tmps)=false:=by
 have hv:=hs.tmp d;have h2:∀v,a.tmps.getD d undef=v→v≠ .bool want→∀x,a.tmps[d]?=some x→x≠ .bool want:=by
  intro v hv hne x hx;have:a.tmps.getD d undef=x:=by simp[hx]
  rw[this] at hv;rw[hv];exact hne
 have key:∀x,a.tmps[d]?=some x→x≠ .bool want:=by
  rcases hu with ⟨b,hb,hne⟩ | hb
  ·simp only[hb,Bz,Br] at hv;exact h2 _ hv (fun e=>by injection e with e;simp[e] at hne)
  simp only[hb,Bz,Bf] at hv;obtain⟨vs,hv,rfl⟩:=hv;exact h2 _ hv (fun e=>by cases e)
 simp only[Region.wanted,hg,yielded,hj,Option.bind_some];cases hx:a.tmps[d]? with
 | none=>simp
 | some x =>
  have:=key x hx;cases x<;>simp_all
theorem Y5 {j d:Nat}{want:Bool}(ho:ops[k]?=some ⟨dst,op,ty,pos,aft,some (j,want)⟩) (hj:(ops[j]?).bind (·.dst)=some d) (hu:ue (τ d) want)
  (hd:Gj dst n=true) (next:AL P r ops (k+1) ⟨n,put τ dst (.tup []),H,D⟩ Q):AL P r ops k ⟨n,τ,H,D⟩ Q:=by
 intro F a w hs;have hk:k<ops.size:=by
  rcases Nat.lt_or_ge k ops.size with h | h
  ·exact h
  simp[Array.getElem?_eq_none h] at ho
 have hw:Region.wanted ⟨dst,op,ty,pos,aft,some (j,want)⟩ (yielded ops a.tmps)=false:=YB hs rfl hj hu;rw[Lp hk,wpOpsIn_cons];unfold wpOpIn;simp only[ho,hw,Bool.false_eq_true,if_false];exact⟨fun _ _=>Aw,next F _ w (hs.put (He hd) ⟨Nat.le_refl _,fun _ _ _=>O,fun _ h _=>h⟩ hs.heap (by simp only[Bz,Bf,undef];exact⟨[],rfl,rfl⟩))⟩
theorem fP {j d:Nat}{want b:Bool}(ho:ops[k]?=some ⟨dst,op,ty,pos,aft,some (j,want)⟩) (hj:(ops[j]?).bind (·.dst)=some d) (hb:τ d= .p (.bool b)) (hne:(b==want)=false)
  (hd:Gj dst n=true) (next:AL P r ops (k+1) ⟨n,put τ dst (.tup []),H,D⟩ Q):AL P r ops k ⟨n,τ,H,D⟩ Q:=Y5 ho hj (.inl ⟨b,hb,hne⟩) hd next
theorem Zo {j d:Nat}{want:Bool}(ho:ops[k]?=some ⟨dst,op,ty,pos,aft,some (j,want)⟩) (hj:(ops[j]?).bind (·.dst)=some d) (hb:τ d= .tup [])
  (hd:Gj dst n=true) (next:AL P r ops (k+1) ⟨n,put τ dst (.tup []),H,D⟩ Q):AL P r ops k ⟨n,τ,H,D⟩ Q:=Y5 ho hj (.inr hb) hd next
theorem D6 (d:Nat) {b:Bool}(hb:τ d= .p (.bool b)) (ht:b=true→AL P r ops k ⟨n,put τ (some d) (.p (.bool true)),H,D⟩ Q) (hf:b=false→AL P r ops k ⟨n,put τ (some d) (.p (.bool false)),H,D⟩ Q):AL P r ops k ⟨n,τ,H,D⟩ Q:=by
 have e:∀b',b=b'→put τ (some d) (.p (.bool b'))=τ:=by
  intro b' hb';funext t;simp only[put];by_cases ht:t=d
  ·subst ht;rw[Nat.beq_refl,←hb',hb];rfl
  have:Nat.beq t d=false:=by
   cases hq:Nat.beq t d with
   | false=>rfl
   | true=>exact absurd (Nat.eq_of_beq_eq_true hq) ht
  rw[this];rfl
 cases b with
 | true=>have:=ht rfl;rwa [e true rfl] at this
 | false=>have:=hf rfl;rwa [e false rfl] at this
end
def Ck (P:Program) (f:FuncId):Bool :=
 match P.funcs[f]? with
 | some fn=> !(fn.name== "runtime.NumGoroutine")&&fn.body.isSome
 | none=>false
theorem Jo {P:Program}{f:FuncId}(h:Ck P f=true) (args:Array Value) (w:World):(callFunc f args).run P w= .ok (.enter f args) w:=by
 unfold Ck at h;cases hf:P.funcs[f]? with
 | none=>simp[hf] at h
 | some fn =>
  simp only[hf,Bool.and_eq_true,Bool.not_eq_true'] at h;obtain⟨h1,h2⟩:=h;have h3:fn.body.isNone=false:=by cases hb:fn.body<;>simp_all
  have hp:(program).run P w= .ok P w:=rfl;simp only[callFunc,Sem.run_bind,hp,Result.andThen_ok,hf,h1,h3,Bool.false_eq_true,if_false];rfl
theorem x9 {P:Program}(r:Option Nat) {f:FuncId}{args:Array Value}{w:World}{R:Ending→World→Prop}(h:Calls P f args w R):CallsIn (W r) 0 P f args w R :=
 (callsIn_wide (n:=0)).2 h
def Xm (F:Nat→Prop) (w:World):EG→Ending→Prop
 | .val v,e=>∃u,e= .returned u∧Bz F w v u
 | .panic v,e=>∃u,e= .panicked [{ v:=u,recovered:=false }]∧Bz F w v u
def BL (P:Program) (f:FuncId) (args:List AV) (H:List A4) (R:EG→List A4→Prop):Prop :=
 Ck P f=true∧∀F w vs,HRel F H w→Bf F w args vs →
  Calls P f ⟨vs⟩ w fun e w'=>∃r H' F',R r H'∧Xm F' w' r e∧HRel F' H' w'∧Trans F H w F' H' w'
theorem BL.mono {P:Program}{f:FuncId}{args:List AV}{H:List A4}{R R':EG→List A4→Prop}(h:BL P f args H R) (hr:∀r H,R r H→R' r H):BL P f args H R' :=
 ⟨h.1,fun F w vs hH ha=>(h.2 F w vs hH ha).mono fun e w' ⟨r,H',F',h1,h2⟩=>⟨r,H',F',hr _ _ h1,h2⟩⟩
def dn:AV→AV
 | .p .nils=> .p (.lst [])
 | x=>x
def norm:AV→AV
 | .p .nils=> .p (.lst [])
 | .agg cs=> .agg (cs.map dn)
 | x=>x
section
variable {F F':Nat→Prop}{w w':World}
theorem aL {x:AV}{v:Value}(h:Bz F w x v):Bz F w (dn x) v:=by
 unfold dn;split
 ·simp only[Bz,Br] at h ⊢;exact .inl ⟨Aw,none,0,h⟩
 exact h
theorem LO:∀{xs:List AV}{vs:List Value},Bf F w xs vs→Bf F w (xs.map dn) vs
 | [],vs,h=>by simpa [Bf] using h
 | x::xs,vs,h=>by
  simp only[Bf,List.map_cons] at *;obtain⟨u,us,rfl,h1,h2⟩:=h;exact⟨u,us,O,aL h1,LO h2⟩
theorem Bz.norm {x:AV}{v:Value}(h:Bz F w x v):Bz F w (norm x) v:=by
 cases x with
 | agg cs =>
  simp only[Abs.norm,Bz] at *;obtain⟨vs,hv,hr⟩:=h;exact⟨vs,hv,LO hr⟩
 | p y=>cases y<;>first | exact h | exact aL h
 | _=>exact h
theorem Bf.norm:∀{xs:List AV}{vs:List Value},Bf F w xs vs→Bf F w (xs.map Abs.norm) vs
 | [],vs,h=>by simpa [Bf] using h
 | x::xs,vs,h=>by
  simp only[Bf,List.map_cons] at *;obtain⟨u,us,rfl,h1,h2⟩:=h;exact⟨u,us,O,h1.norm,Bf.norm h2⟩
theorem HRel.perm {H H':List A4}(h:HRel F H w) (hp:H.Perm H'):HRel F H' w where
 sub o ho:=h.sub o (hp.mem_iff.2 ho)
 nodup:=(hp.filterMap A4.key).nodup_iff.1 h.nodup
 obj o ho:=h.obj o (hp.mem_iff.2 ho)
 bd:=h.bd
theorem HRel.frame {Hs Hf Hs':List A4}(h:HRel F (Hs++Hf) w) (h':HRel F' Hs' w') (t:Trans F Hs w F' Hs' w'):HRel F' (Hs'++Hf) w' where
 sub o ho b hb:=by
  rcases List.mem_append.1 ho with ho | ho
  ·exact h'.sub o ho b hb
  refine t.keep b (h.sub o (by simp[ho]) b hb) ?_;intro o' ho' hb';have:=h.nodup;rw[List.filterMap_append,List.nodup_append] at this;exact this.2.2 b (List.mem_filterMap.2 ⟨o',ho',hb'⟩) b (List.mem_filterMap.2 ⟨o,ho,hb⟩) O
 nodup:=by
  rw[List.filterMap_append,List.nodup_append];have hn:=h.nodup;rw[List.filterMap_append,List.nodup_append] at hn;refine⟨h'.nodup,hn.2.1,?_⟩;rintro b hb _ hb' rfl;obtain⟨o,ho,hk⟩:=List.mem_filterMap.1 hb;obtain⟨o',ho',hk'⟩:=List.mem_filterMap.1 hb';rcases t.keys o ho b hk with ⟨o'',ho'',hk''⟩ | hge
  ·exact hn.2.2 b (List.mem_filterMap.2 ⟨o'',ho'',hk''⟩) b hb' O
  have:=h.bd b (h.sub o' (by simp[ho']) b hk');omega
 obj o ho:=by
  rcases List.mem_append.1 ho with ho | ho
  ·exact h'.obj o ho
  have hs:∀o∈Hs,∀b,o.key=some b→F b:=fun o ho=>h.sub o (by simp[ho]);refine JV.mono (t.stable hs) o ?_ (h.obj o (by simp[ho]));intro b hb;refine t.same b (h.bd b (h.sub o (by simp[ho]) b hb)) ?_;intro o' ho' hb';have:=h.nodup;rw[List.filterMap_append,List.nodup_append] at this;exact this.2.2 b (List.mem_filterMap.2 ⟨o',ho',hb'⟩) b (List.mem_filterMap.2 ⟨o,ho,hb⟩) O
 bd:=h'.bd
theorem Trans.frame {H Hs Hf Hs':List A4}(hp:H.Perm (Hs++Hf)) (t:Trans F Hs w F' Hs' w'):Trans F H w F' (Hs'++Hf) w' where
 size:=t.size
 same b hb hn:=t.same b hb fun o ho=>hn o (hp.mem_iff.2 (by simp[ho]))
 keep b hF hn:=t.keep b hF fun o ho=>hn o (hp.mem_iff.2 (by simp[ho]))
 fresh:=t.fresh
 keys o ho b hb:=by
  rcases List.mem_append.1 ho with ho | ho
  ·rcases t.keys o ho b hb with ⟨o',ho',hk⟩ | h
   ·exact .inl ⟨o',hp.mem_iff.2 (by simp[ho']),hk⟩
   exact .inr h
  exact .inl ⟨o,hp.mem_iff.2 (by simp[ho]),hb⟩
 os:=t.os
 out:=t.out
 tape:=t.tape
end
theorem GA {P:Program}{dst:Option Tmp}{c:Call}{ty:TypeId}{pos:String}{aft:Array Edge}{g:Option (Nat×Bool)}{f:Operand}{fid:FuncId}{first caps:List AV}
  {ρ:Operand→AV} {H Hs Hf:List A4} {A:List AV} {R:EG→List A4→Prop}
  (hc:c.callee= .value f) (hf:(ρ f= .p (.fn fid)∧first=[]∧caps=[])∨ρ f= .fn (.func fid) first caps)
  (hp:H.Perm (Hs++Hf)) (h:BL P fid A Hs R) (hA:first++c.args.toList.map ρ++caps=A∨(first++c.args.toList.map ρ++caps).map norm=A) :
  DL P ⟨dst,.call c,ty,pos,aft,g⟩ ρ H (fun r H'=>∃Hs',R r Hs'∧H'=Hs'++Hf):=by
 intro r F S a w hs hH hρ hd;subst hH;refine MA O ?_;have hev:∀x∈(f::c.args.toList),Bz F w (ρ x) (a.eval x):=by
  intro x hx;rw[←hρ x (by simp[Op.operands,Call.operands,hc];simpa using hx)];exact hs.eval x
 have hfv:∃fs cs,a.eval f= .func (.func fid) ⟨fs⟩ ⟨cs⟩∧Bf F w first fs∧Bf F w caps cs:=by
  have:=hev f Av;rcases hf with ⟨h1,rfl,rfl⟩ | h1
  ·rw[h1] at this;simp only[Bz,Br] at this;exact⟨[],[],this,by simp[Bf],by simp[Bf]⟩
  rw[h1] at this;simpa only[Bz] using this
 obtain⟨fs,cs,hfv,hfs,hcs⟩:=hfv;have hargs:Bf F w (c.args.toList.map ρ) (c.args.toList.map a.eval):=Bf.mapEval _ fun x hx=>hev x (by simp[hx]);have hrun:(execOp a.eval ⟨dst,.call c,ty,pos,aft,g⟩).run P w= .ok (.enter fid ⟨fs++c.args.toList.map a.eval++cs⟩) w:=by
  have e:(⟨fs⟩++c.args.map a.eval++⟨cs⟩:Array Value)=⟨fs++c.args.toList.map a.eval++cs⟩:=by
   apply Array.ext';simp
  simp[execOp,resolve,hc,Deferred.ofValue,hfv,invoke,Jo h.1,e]
 simp only[hrun,Oper.uponIn];have hH':=hs.heap.perm hp;have hHs:HRel F Hs w:=hH'.sublist (List.sublist_append_left _ _);have hrep:Bf F w A (fs++c.args.toList.map a.eval++cs):=by
  rcases hA with rfl | rfl
  ·exact(hfs.append hargs).append hcs
  exact((hfs.append hargs).append hcs).norm
 refine⟨fun h=>(by cases h),CallsIn.mono (x9 r (h.2 F w _ hHs hrep)) ?_⟩;rintro e w' ⟨r,H',F',hR,he,hH2,ht⟩;have htf:=ht.frame (H:=S.H) hp;cases r with
 | val v =>
  obtain⟨u,rfl,hu⟩:=he;exact⟨v,H'++Hf,F',⟨H',hR,O⟩,hs.put hd (htf.stable hs.heap.sub) (hH'.frame hH2 ht) hu,htf⟩
 | panic v =>
  obtain⟨u,rfl,hu⟩:=he;have:=hs.put (d:=none) (fun _ h=>by cases h) (htf.stable hs.heap.sub) (hH'.frame hH2 ht) (L3 undef);exact⟨v,H'++Hf,F',u,⟨H',hR,O⟩,O,hu,this,htf⟩
def Pc (args:List AV):Nat→AV:=fun t=>args.getD t (.p .any)
def p9 (P:Program) (S:BM):ResultVar→AV→Prop
 | .tmp t,v=>S.τ t=v
 | .cell a T,v=>∃(b:Nat) (cs:List AV) (i:Nat),S.τ a= .ptr b 0∧S.H[i]?=some (A4.box b cs) ∧
   ((∃d,P.underlying T=some d∧d.isRow=true∧(P.info? T).map (·.size)=some cs.length∧v= .agg cs) ∨
    (∃d,P.underlying T=some d∧d.isRow=false∧cs=[v]))
def Re (P:Program) (S:BM):List ResultVar→List AV→Prop
 | [],vs=>vs=[]
 | r::rs,vs=>∃u us,vs=u::us∧p9 P S r u∧Re P S rs us
abbrev pack:List AV→AV
 | [v]=>v
 | vs=> .tup vs
def ki (P:Program) (fn:Func) (R:EG→List A4→Prop):Cj→BM→Prop
 | .normal,S | .ret,S=>S.D=[]∧∃vs H',Re P S fn.results.toList vs∧H'.Sublist S.H∧R (.val (pack vs)) H'
 | .panic v,S=>S.D=[]∧∃H',H'.Sublist S.H∧R (.panic v) H'
 | .exit _,_=>False
theorem _root_.Go.Au {α:Prop}(h:α:=by omega):α:=h
section
variable {F F':Nat→Prop}{w w':World}{P:Program}
theorem Kk {b:Nat}{vs:List Value}{T:TypeId}(h:w.heap[b]?=some (.cells ⟨vs⟩ T (0,0))) (o n:Nat):w.rangeAt b o ((vs.drop o).take n):=by
 intro j v hv;have hj:j<n:=by
  rcases Nat.lt_or_ge j n with h | h
  ·exact h
  rw[List.getElem?_take] at hv;simp[Nat.not_lt.2 h] at hv
 rw[List.getElem?_take_of_lt hj,List.getElem?_drop] at hv;simp[World.cell?,h,hv]
theorem QB {T:TypeId}{d:TypeDesc}(hu:P.underlying T=some d) (b:Bool) (hd:d.isRow=b) (w:World):(isAgg T).run P w= .ok b w:=by
 unfold isAgg;rw[Sem.run_bind,run_underlying hu w];cases d<;>simp_all [TypeDesc.isRow]
theorem JT {T:TypeId}{d:TypeDesc}(hu:P.underlying T=some d) (hd:d.isRow=false) {b o:Nat}{v:Value}(hc:w.cell? ⟨b,o,none⟩=some v) :
  (loadVar T ⟨b,o,none⟩).run P w= .ok v w:=by
 simp[loadVar,Sem.run_bind,QB hu false hd,load,Sem.run,hc]
theorem Hw {T:TypeId}{d:TypeDesc}(hu:P.underlying T=some d) (hd:d.isRow=true) {b o:Nat}{cs:List Value}(hc:w.rangeAt b o cs) (hi:(P.info? T).map (·.size)=some cs.length) :
  (loadVar T ⟨b,o,none⟩).run P w= .ok (.agg ⟨cs⟩) w:=run_loadVar_mid w b o T cs d hc hu hd hi
def TQ (tmps:Array Value) (r:ResultVar):Sem Value :=
 match r with
 | .tmp t=>pure (tmps.getD t undef)
 | .cell x t=>do loadVar t (←asAddr (tmps.getD x undef))
theorem bI (fn:Func) (tmps:Array Value):results fn tmps=(do
  let vs ←fn.results.mapM (TQ tmps)
  pure (if h:vs.size=1 then vs[0] else .tuple vs)):=by
 unfold results;congr 1
theorem Re.run {S:BM}{a:Act}(hs:GI F S a w):∀(rs:List ResultVar) (vs:List AV),Re P S rs vs →
  ∃us:List Value,(rs.mapM (TQ a.tmps)).run P w= .ok us w∧Bf F w vs us
 | [],vs,h=>by
  simp only[Re] at h;subst h;exact⟨[],O,by simp[Bf]⟩
 | r::rs,vs,h=>by
  simp only[Re] at h;obtain⟨u,us,rfl,h1,h2⟩:=h;obtain⟨ws,hr,hw⟩:=Re.run hs rs us h2;have one:∃v:Value,(TQ a.tmps r).run P w= .ok v w∧Bz F w u v:=by
   cases r with
   | tmp t =>
    simp only[p9] at h1;subst h1;exact⟨_,O,hs.tmp t⟩
   | cell x t =>
    obtain⟨b,cs,i,hp,hi,hh⟩:=h1;have hx:=hs.tmp x;rw[hp] at hx;simp only[Bz] at hx;obtain⟨vs,T,hb,hl⟩:=hs.heap.obj _ (List.mem_of_getElem? hi);rcases hh with ⟨d,hu,hd,hsz,rfl⟩ | ⟨d,hu,hd,rfl⟩
    ·refine⟨.agg ⟨vs⟩,?_,by simp only[Bz];exact⟨vs,rfl,hl⟩⟩;have hr:=Kk hb 0 vs.length;simp only[List.drop_zero,List.take_length] at hr;simp only[TQ,hx,asAddr,Sem.run_bind,Sem.run_pure,Result.andThen_ok];exact Hw hu hd hr (by rw[hsz,hl.length])
    simp only[Bf] at hl;obtain⟨v,us',rfl,hv,rfl⟩:=hl;refine⟨v,?_,hv⟩;simp only[TQ,hx,asAddr,Sem.run_bind,Sem.run_pure,Result.andThen_ok];exact JT hu hd (by simp[World.cell?,hb])
  obtain⟨v,hv,hrv⟩:=one;refine⟨v::ws,?_,by simp only[Bf];exact⟨v,ws,rfl,hrv,hw⟩⟩;rw[List.mapM_cons];simp only[Sem.run_bind,hv,Result.andThen_ok,hr,Sem.run_pure]
theorem M1 {fn:Func}{S:BM}{a:Act}(hs:GI F S a w) {vs:List AV}(h:Re P S fn.results.toList vs) :
  ∃u,(results fn a.tmps).run P w= .ok u w∧Bz F w (pack vs) u:=by
 obtain⟨us,hr,hl⟩:=Re.run hs _ _ h;refine⟨if us.length=1 then us.getD 0 undef else .tuple ⟨us⟩,?_,?_⟩
 ·rw[bI,Array.mapM_eq_mapM_toList];simp only[Sem.run_bind,map_eq_pure_bind,bind_assoc,pure_bind];rw[hr];simp only[Result.andThen_ok,Sem.run_pure];congr 1;by_cases h1:us.length=1
  ·match us,h1 with
   | [u],_=>simp
  simp[h1]
 match vs,us,hl with
 | [],[],_=>simp[Bz,Bf,pack]
 | [v],us,hl =>
  simp only[Bf] at hl;obtain⟨u,us,rfl,h1,rfl⟩:=hl;simpa [pack] using h1
 | v::v'::vs,us,hl =>
  have hlen:=hl.length;simp only[List.length_cons] at hlen;rw[if_neg Au];simp only[Bz,pack];exact⟨us,O,hl⟩
theorem Qg:∀{args:List AV}{vs:List Value}(n t:Nat),Bf F w args vs→Bz F w (Pc args t) ((⟨vs⟩++Array.replicate n undef:Array Value).getD t undef):=by
 intro args vs n t h;unfold Pc;rcases Nat.lt_or_ge t args.length with hl | hl
 ·have hx:args[t]?=some args[t]:=List.getElem?_eq_getElem hl;obtain⟨v,hv,hr⟩:=h.get hx;have hvl:t<vs.length:=by rw[h.length];exact hl
  have:(⟨vs⟩++Array.replicate n undef:Array Value)[t]?=some v:=by
   rw[Array.getElem?_append_left (by simpa using hvl)];simpa using hv
  simp[List.getD,hx,Array.getD_eq_getD_getElem?,this,hr]
 simp only[List.getD,List.getElem?_eq_none hl,Option.getD_none];exact L3 _
theorem Cb {f:FuncId}{fn:Func}{c:Code}{args:List AV}{H:List A4}{R:EG→List A4→Prop}
  {n:Nat} (hf:P.funcs[f]?=some fn) (hb:fn.body=some c) (he:Ck P f=true) (hn':fn.ntmps=n) (hn:Nat.ble args.length n=true)
  (h:IK P none c ⟨n,Pc args,H,[]⟩ (ki P fn R)):BL P f args H R:=by
 subst hn';rw[Nat.ble_eq] at hn;refine⟨he,fun F w vs hH hr=>?_⟩;refine calls_of_wp hf hb ?_;have hsz:(⟨vs⟩:Array Value).size=args.length:=by simpa using hr.length
 have hs:GI F ⟨fn.ntmps,Pc args,H,[]⟩ { tmps:=⟨vs⟩++Array.replicate (fn.ntmps - (⟨vs⟩:Array Value).size) undef,defers:=[] } w :=
  ⟨by simp only[Array.size_append,Array.size_replicate,hsz];omega,fun t=>Qg _ _ hr,hH,by simp[Gg]⟩
 refine wp_mono (wpIn_wide.1 (h F _ w hs)) ?_;rintro e a' w' ⟨e',S',F',hq,hex,hs',ht⟩;cases e' with
 | normal =>
  obtain rfl:e= .normal:=hex;obtain⟨hD,vs',H',hres,hsub,hR⟩:=hq;obtain⟨u,hu,hru⟩:=M1 hs' hres;have hd:=hs'.defs;rw[hD] at hd;exact⟨by simpa [Gg] using hd,u,hu,_,H',F',hR,⟨u,rfl,hru⟩,hs'.heap.sublist hsub,ht.sublist hsub⟩
 | ret =>
  obtain rfl:e= .ret:=hex;obtain⟨hD,vs',H',hres,hsub,hR⟩:=hq;obtain⟨u,hu,hru⟩:=M1 hs' hres;have hd:=hs'.defs;rw[hD] at hd;exact⟨by simpa [Gg] using hd,u,hu,_,H',F',hR,⟨u,rfl,hru⟩,hs'.heap.sublist hsub,ht.sublist hsub⟩
 | exit id=>exact hq.elim
 | panic v =>
  obtain⟨u,rfl,hru⟩:=hex;obtain⟨hD,H',hsub,hR⟩:=hq;have hd:=hs'.defs;rw[hD] at hd;exact⟨by simpa [Gg] using hd,_,H',F',hR,⟨u,rfl,hru⟩,hs'.heap.sublist hsub,ht.sublist hsub⟩
end
def EH (P:Program) (T:TypeId):Option (Bool×Nat) :=
 match P.underlying T,P.info? T with
 | some d,some i=>some (d.isRow,i.size)
 | _,_=>none
def E1 (P:Program) (T:TypeId):Option (TypeId×Nat×Nat) :=
 match P.underlying T with
 | some (.slice e)=>(P.info? e).map fun i=>(e,i.size,i.bytes)
 | _=>none
def fieldsOf (P:Program) (T:TypeId):Option (List (Nat×Nat)) :=
 match P.underlying T with
 | some (.struct fs)=>fs.toList.mapM fun f=>(P.info? f.type).map fun i=>(f.offset,i.size)
 | _=>none
def zeroOf (P:Program) (T:TypeId):Option Value:=(P.info? T).bind (·.zero)
section
variable {P:Program}{T e:TypeId}{b:Bool}{n m:Nat}
theorem FV (h:EH P T=some (b,n)):∃d,P.underlying T=some d∧d.isRow=b∧(P.info? T).map (·.size)=some n:=by
 unfold EH at h;cases hu:P.underlying T with
 | none=>simp[hu] at h
 | some d =>
  cases hi:P.info? T with
  | none=>simp[hu,hi] at h
  | some i=>simp[hu,hi] at h;exact⟨d,rfl,h.1,by simp[h.2]⟩
theorem Dy (h:E1 P T=some (e,n,m)):P.underlying T=some (.slice e)∧∃i,P.info? e=some i∧i.size=n∧i.bytes=m:=by
 unfold E1 at h;cases hu:P.underlying T with
 | none=>simp[hu] at h
 | some d =>
  cases d with
  | slice e' =>
   simp[hu] at h;obtain⟨i,hi,h1,h2,h3⟩:=h;subst h1;exact⟨O,i,hi,h2,h3⟩
  | _=>simp[hu] at h
theorem eu {α β:Type}{f:α→Option β}:∀{l:List α}{r:List β}{i:Nat}{y:β},l.mapM f=some r→r[i]?=some y→∃x,l[i]?=some x∧f x=some y
 | [],r,i,y,h,hy=>by simp at h;subst h;simp at hy
 | x::l,r,i,y,h,hy=>by
  rw[List.mapM_cons] at h;cases hx:f x with
  | none=>simp[hx] at h
  | some z =>
   cases hl:l.mapM f with
   | none=>simp[hx,hl] at h
   | some r' =>
    simp[hx,hl] at h;subst h;cases i with
    | zero=>simp at hy;subst hy;exact⟨x,by simp,hx⟩
    | succ i=>simp at hy;simpa using eu hl hy
theorem OE {lay:List (Nat×Nat)}{i:Nat}(h:fieldsOf P T=some lay) (hi:lay[i]?=some (n,m)):∃fs f j,P.underlying T=some (.struct fs)∧fs[i]?=some f∧f.offset=n∧P.info? f.type=some j∧j.size=m:=by
 unfold fieldsOf at h;cases hu:P.underlying T with
 | none=>simp[hu] at h
 | some d =>
  cases d with
  | struct fs =>
   simp only[hu] at h;obtain⟨f,hf,hx⟩:=eu h hi;cases hj:P.info? f.type with
   | none=>simp[hj] at hx
   | some j =>
    simp[hj] at hx;exact⟨fs,f,j,O,by simpa using hf,hx.1,hj,hx.2⟩
  | _=>simp[hu] at h
end
theorem _root_.Go.Af {α:Prop}(h:α:=by simp[Op.operands,Call.operands]):α:=h
theorem _root_.Go.Al {α:Prop}(h:α:=by simp[Op.operands]):α:=h
section
variable {P:Program}{dst:Option Tmp}{ty:TypeId}{pos:String}{aft:Array Edge}{g:Option (Nat×Bool)}{ρ:Operand→AV}{H:List A4}{x y z:Operand}{v:AV}
theorem Bh (hx:ρ x=v):Dm P ⟨dst,.move x,ty,pos,aft,g⟩ ρ H v H :=
 Bw fun F w E hH hE=>⟨E x,rfl,by rw[←hx];exact hE x Al⟩
theorem H7 (hx:ρ x=v):Dm P ⟨dst,.assign x,ty,pos,aft,g⟩ ρ H v H :=
 Bw fun F w E hH hE=>⟨E x,rfl,by rw[←hx];exact hE x Al⟩
theorem lC {b:Bool}(hx:ρ x= .p (.bool b)) (hv:(bif b then ρ y else ρ z)=v):Dm P ⟨dst,.pick x y z,ty,pos,aft,g⟩ ρ H v H :=
 Bw fun F w E hH hE=>by
  have h1:=hE x Al;rw[hx] at h1;simp only[Bz,Br] at h1;refine⟨if b then E y else E z,by simp[execOp,h1,asBool],?_⟩;subst hv;cases b
  ·exact hE z Al
  exact hE y Al
theorem JR (op:BinOp) (t:TypeId) (k k':IntKind) (m n:Int) (w:World):(eqGuard op t x y (.int k m) (.int k' n)).run P w= .ok () w:=by
 unfold eqGuard;split<;>rfl
theorem rA {k:IntKind}{m n:Int}{T U:TypeId}{op:BinOp}{b:Bool}(hx:ρ x= .p (.int k m)) (hy:ρ y= .p (.int k n))
  (hb:(match op with | .eql=>some (m==n) | .neq=>some (m !=n) | .lss=>some (decide (m<n)) | .leq=>some (decide (m≤n)) | .gtr=>some (decide (m > n)) | .geq=>some (decide (m≥n)) | _=>none)=some b) :
  Dm P ⟨dst,.binOp op T x y U,ty,pos,aft,g⟩ ρ H (.p (.bool b)) H :=
 Bw fun F w E hH hE=>by
  have h1:=hE x Al;have h2:=hE y Al;rw[hx] at h1;rw[hy] at h2;simp only[Bz,Br] at h1 h2;refine⟨.bool b,?_,by simp[Bz,Br]⟩;cases op<;>simp at hb<;>subst hb<;>simp[execOp,Sem.run_bind,JR,h1,h2,binOp,Op.intCmp]
theorem SD {k:IntKind}{n:Int}(h1:k.min≤n) (h2:n≤k.max):k.wrap n=n:=by
 unfold IntKind.wrap;cases k<;>simp[IntKind.min,IntKind.max,IntKind.signed,IntKind.bits] at*<;>omega
theorem Qh {k:IntKind}{m n r:Int}{T U:TypeId}{op:BinOp}(hx:ρ x= .p (.int k m)) (hy:ρ y= .p (.int k n))
  (hb:(match op with | .add=>some (m+n) | .sub=>some (m - n) | .mul=>some (m*n) | _=>none)=some r) (h1:k.min≤r) (h2:r≤k.max) :
  Dm P ⟨dst,.binOp op T x y U,ty,pos,aft,g⟩ ρ H (.p (.int k r)) H :=
 Bw fun F w E hH hE=>by
  have e1:=hE x Al;have e2:=hE y Al;rw[hx] at e1;rw[hy] at e2;simp only[Bz,Br] at e1 e2;refine⟨.int k r,?_,by simp[Bz,Br]⟩;cases op<;>simp at hb<;>subst hb<;>simp[execOp,Sem.run_bind,JR,e1,e2,binOp,Op.intArith,SD h1 h2]
theorem qP {b:Bool}{T:TypeId}(hx:ρ x= .p (.bool b)):Dm P ⟨dst,.unOp .not T x,ty,pos,aft,g⟩ ρ H (.p (.bool (!b))) H :=
 Bw fun F w E hH hE=>by
  have h1:=hE x Al;rw[hx] at h1;simp only[Bz,Br] at h1;exact⟨.bool (!b),by simp[execOp,h1,Op.unary],by simp[Bz,Br]⟩
theorem HI {xs:List AV}{i:Nat}(hx:ρ x= .tup xs) (hi:xs[i]?=some v):Dm P ⟨dst,.extract x i,ty,pos,aft,g⟩ ρ H v H :=
 Bw fun F w E hH hE=>by
  have h1:=hE x Al;rw[hx] at h1;simp only[Bz] at h1;obtain⟨vs,hv,hl⟩:=h1;obtain⟨u,hu,hr⟩:=hl.get hi;exact⟨u,by simp[execOp,hv,Instr.extract,hu],hr⟩
theorem L6 {a:Operand}{T e:TypeId}{n n1 n2:Nat}(hT:E1 P T=some (e,n1,n2)) (hx:(∃rows,ρ a= .p (.lst rows)∧rows.length=n)∨(∃o c,ρ a= .vs o n c)∨(ρ a= .p .nils∧n=0)) :
  Dm P ⟨dst,.call { callee:= .builtin .len,args:=#[a],argTypes:=#[T] },ty,pos,aft,g⟩ ρ H (.p (.int .i64 n)) H :=
 Bw fun F w E hH hE=>by
  have h1:=hE a Af;obtain⟨hu,_⟩:=Dy hT;have hv:∃o c,E a= .slice o n c:=by
   rcases hx with ⟨rows,hr,rfl⟩ | ⟨o,c,hr⟩ | ⟨hr,rfl⟩
   ·rw[hr] at h1;simp only[Bz,Br] at h1;rcases h1 with ⟨rfl,o,c,hv⟩ | ⟨b,o,c,sz,hv,_⟩
    ·exact⟨o,c,hv⟩
    exact⟨_,c,hv⟩
   ·rw[hr] at h1;cases o with
    | some b=>simp only[Bz] at h1;exact⟨_,c,h1⟩
    | none=>simp only[Bz] at h1;obtain⟨rfl,rfl,a,h1⟩:=h1;exact⟨a,0,h1⟩
   rw[hr] at h1;simp only[Bz,Br] at h1;exact⟨none,0,h1⟩
  obtain⟨o,c,hv⟩:=hv;refine⟨.int .i64 n,?_,by simp[Bz,Br]⟩;simp[execOp,resolve,invoke,builtin,Builtin.len_,hv,Sem.run_bind,run_underlying hu,goInt]
theorem Dv {a:Operand}{T e:TypeId}{n1 n2:Nat}{rows:List (List PV)}(hT:E1 P T=some (e,n1,n2)) (hx:ρ a= .p (.lst rows)) :
  Dm P ⟨dst,.call { callee:= .builtin .len,args:=#[a],argTypes:=#[T] },ty,pos,aft,g⟩ ρ H (.p (.int .i64 rows.length)) H:=L6 hT (.inl ⟨rows,hx,rfl⟩)
theorem RN {a:Operand}{T e:TypeId}{n1 n2:Nat}(hT:E1 P T=some (e,n1,n2)) (hx:ρ a= .p .nils) :
  Dm P ⟨dst,.call { callee:= .builtin .len,args:=#[a],argTypes:=#[T] },ty,pos,aft,g⟩ ρ H (.p (.int .i64 0)) H:=L6 hT (.inr (.inr ⟨hx,rfl⟩))
theorem BG {T:TypeId}{lay:List (Nat×Nat)}{i b o off sz:Nat}(hT:fieldsOf P T=some lay) (hi:lay[i]?=some (off,sz+1)) (hx:ρ x= .ptr b o) :
  Dm P ⟨dst,.fieldAddr T x i,ty,pos,aft,g⟩ ρ H (.ptr b (o+off)) H :=
 Bw fun F w E hH hE=>by
  obtain⟨fs,f,j,hu,hf,rfl,hj,hs'⟩:=OE hT hi;have h1:=hE x Al;rw[hx] at h1;simp only[Bz] at h1;have hs:¬j.size=0:=by omega
  refine⟨.pointer (some ⟨b,o+f.offset,none⟩),?_,by simp[Bz]⟩;simp[execOp,Instr.fieldAt,Sem.run_bind,run_underlying hu,hf,h1,Instr.sureAddr,fieldPlace,sizeOf,typeInfo,hj,hs,Addr.add_mid]
theorem CM.drop {F:Nat→Prop}{w:World}{b:Nat}:∀{cs:List PV}{o:Nat}(n:Nat),CM F w b o cs→CM F w b (o+n) (cs.drop n)
 | cs,o,0,h=>by simpa using h
 | [],o,n+1,h=>by simp[CM]
 | c::cs,o,n+1,h=>by
  simp only[CM] at h;have:=CM.drop n h.2;simp only[List.drop_succ_cons]
  rwa [Nat.add_assoc,Nat.add_comm 1 n] at this
theorem DN {T:TypeId}{lay:List (Nat×Nat)}{i off sz:Nat}{cells:List PV}(hT:fieldsOf P T=some lay) (hi:lay[i]?=some (off,sz+1)) (hx:ρ x= .ref cells) :
  Dm P ⟨dst,.fieldAddr T x i,ty,pos,aft,g⟩ ρ H (.ref (cells.drop off)) H :=
 Bw fun F w E hH hE=>by
  obtain⟨fs,f,j,hu,hf,rfl,hj,hs'⟩:=OE hT hi;have h1:=hE x Al;rw[hx] at h1;simp only[Bz] at h1;obtain⟨b,o,hv,hF,hb,hc⟩:=h1;have hs:¬j.size=0:=by omega
  refine⟨.pointer (some ⟨b,o+f.offset,none⟩),?_,by simp only[Bz];exact⟨b,o+f.offset,rfl,hF,hb,hc.drop _⟩⟩;simp[execOp,Instr.fieldAt,Sem.run_bind,run_underlying hu,hf,hv,Instr.sureAddr,fieldPlace,sizeOf,typeInfo,hj,hs,Addr.add_mid]
theorem Bl.at {F:Nat→Prop}{w:World}{b sz:Nat}:∀{rows:List (List PV)}{o i:Nat}{r:List PV},Bl F w b sz o rows→rows[i]?=some r→CM F w b (o+i*sz) r∧r.length=sz
 | [],o,i,r,_,hr=>by simp at hr
 | r'::rows,o,i,r,h,hr=>by
  simp only[Bl] at h;cases i with
  | zero=>simp at hr;subst hr;simpa using ⟨h.2.1,h.1⟩
  | succ i =>
   simp at hr;have:=Bl.at h.2.2 hr;rw[Nat.succ_mul];refine⟨?_,this.2⟩;have e:o+sz+i*sz=o+(i*sz+sz):=by omega
   rw[←e];exact this.1
theorem A0 {T e:TypeId}{n1 n2:Nat}{rows:List (List PV)}{k:IntKind}{i:Int}{r:List PV}(hT:E1 P T=some (e,n1,n2)) (hx:ρ x= .p (.lst rows)) (hy:ρ y= .p (.int k i))
  (h0:0≤i) (hr:rows[i.toNat]?=some r) (hz:r.length=n1) :
  Dm P ⟨dst,.indexAddr T x y,ty,pos,aft,g⟩ ρ H (.ref r) H :=
 Bw fun F w E hH hE=>by
  obtain⟨hu,j,hj,hs1,_⟩:=Dy hT;have h1:=hE x Al;have h2:=hE y Al;rw[hx] at h1;rw[hy] at h2;simp only[Bz,Br] at h1 h2;have hlt:i.toNat<rows.length:=(List.getElem?_eq_some_iff.1 hr).1;rcases h1 with ⟨rfl,_⟩ | ⟨b,o,c,sz,hv,hF,hb,hc,hrows⟩
  ·simp at hlt
  obtain⟨hcells,hsz⟩:=hrows.at hr;have hs:j.size=sz:=by omega
  refine⟨.pointer (some ⟨b,o+i.toNat*sz,none⟩),?_,by simp only[Bz];exact⟨b,_,rfl,hF,hb,hcells⟩⟩;have hlt':i<rows.length:=by omega
  simp[execOp,Instr.indexAt,Sem.run_bind,run_underlying hu,hv,h2,asIntOf,h0,hlt',sizeOf,typeInfo,hj,hs,Addr.add_mid]
theorem CM.vals {F:Nat→Prop}{w:World}{b:Nat}:∀{cs:List PV}{o:Nat},CM F w b o cs→∃vs:List Value,w.rangeAt b o vs∧vs.length=cs.length∧Bf F w (cs.map .p) vs
 | [],o,_=>⟨[],by intro j v h;simp at h,rfl,by simp[Bf]⟩
 | c::cs,o,h=>by
  simp only[CM] at h;obtain⟨⟨v,hv,hp⟩,hr⟩:=h;obtain⟨vs,h1,h2,h3⟩:=CM.vals hr;refine⟨v::vs,?_,by simp[h2],by simp only[List.map_cons,Bf,Bz];exact⟨v,vs,rfl,hp,h3⟩⟩;intro j u hu;cases j with
  | zero=>simp at hu;subst hu;simpa using hv
  | succ j =>
   simp at hu;have:=h1 j u hu
   rwa [Nat.add_assoc,Nat.add_comm 1 j] at this
theorem CM.take {F:Nat→Prop}{w:World}{b:Nat}:∀{cs:List PV}{o:Nat}(n:Nat),CM F w b o cs→CM F w b o (cs.take n)
 | cs,o,0,h=>by simp[CM]
 | [],o,n+1,h=>by simp[CM]
 | c::cs,o,n+1,h=>by
  simp only[CM,List.take_succ_cons] at *;exact⟨h.1,CM.take n h.2⟩
theorem MN {T:TypeId}{n:Nat}{cells:List PV}{cs:List PV}(hT:EH P T=some (true,n)) (hx:ρ x= .ref cells) (hz':cs.length=n) (ht:cells.take cs.length=cs) :
  Dm P ⟨dst,.load T x,ty,pos,aft,g⟩ ρ H (.agg (cs.map .p)) H :=
 Bw fun F w E hH hE=>by
  obtain⟨d,hu,hd,hz⟩:=FV hT;rw[←hz'] at hz;have h1:=hE x Al;rw[hx] at h1;simp only[Bz] at h1;obtain⟨b,o,hv,hF,hb,hc⟩:=h1;have hc':=hc.take cs.length;rw[ht] at hc';obtain⟨vs,h1,h2,h3⟩:=hc'.vals;refine⟨.agg ⟨vs⟩,?_,by simp only[Bz];exact⟨vs,rfl,h3⟩⟩;simp only[execOp,Instr.loadAt,hv,Instr.sureAddr,Sem.run_bind,Sem.run_pure,Result.andThen_ok,Hw hu hd h1 (by rw[hz,h2])]
theorem Bk {T:TypeId}{n:Nat}{cells:List PV}(hT:EH P T=some (true,n)) (hx:ρ x= .ref cells) (hz:cells.length=n) :
  Dm P ⟨dst,.load T x,ty,pos,aft,g⟩ ρ H (.agg (cells.map .p)) H:=MN hT hx hz (List.take_length)
theorem Gp {T:TypeId}{n:Nat}{c:PV}{cs:List PV}(hT:EH P T=some (false,n)) (hx:ρ x= .ref (c::cs)) :
  Dm P ⟨dst,.load T x,ty,pos,aft,g⟩ ρ H (.p c) H :=
 Bw fun F w E hH hE=>by
  obtain⟨d,hu,hd,hz⟩:=FV hT;have h1:=hE x Al;rw[hx] at h1;simp only[Bz] at h1;obtain⟨b,o,hv,hF,hb,hc⟩:=h1;simp only[CM] at hc;obtain⟨⟨v,hcell,hp⟩,_⟩:=hc;refine⟨v,?_,by simpa only[Bz] using hp⟩;simp only[execOp,Instr.loadAt,hv,Instr.sureAddr,Sem.run_bind,Sem.run_pure,Result.andThen_ok,JT hu hd hcell]
theorem Bt {T:TypeId}{n b o i:Nat}{cs:List AV}(hT:EH P T=some (false,n)) (hx:ρ x= .ptr b o) (hi:H[i]?=some (.box b cs)) (hv:cs[o]?=some v) :
  Dm P ⟨dst,.load T x,ty,pos,aft,g⟩ ρ H v H :=
 Bw fun F w E hH hE=>by
  obtain⟨d,hu,hd,hz⟩:=FV hT;have h1:=hE x Al;rw[hx] at h1;simp only[Bz] at h1;obtain⟨vs,T',hb,hl⟩:=hH.obj _ (List.mem_of_getElem? hi);obtain⟨u,hu',hr⟩:=hl.get hv;refine⟨u,?_,hr⟩;simp only[execOp,Instr.loadAt,h1,Instr.sureAddr,Sem.run_bind,Sem.run_pure,Result.andThen_ok,JT (w:=w) hu hd (b:=b) (o:=o) (v:=u) (by simp[World.cell?,hb,hu'])]
theorem FX {T:TypeId}{b o i n:Nat}{cs:List AV}(hT:EH P T=some (true,n)) (hx:ρ x= .ptr b o) (hi:H[i]?=some (.box b cs)) (hn:((cs.drop o).take n).length=n)
  (hv: .agg ((cs.drop o).take n)=v):Dm P ⟨dst,.load T x,ty,pos,aft,g⟩ ρ H v H :=
 Bw fun F w E hH hE=>by
  obtain⟨d,hu,hd,hz⟩:=FV hT;have h1:=hE x Al;rw[hx] at h1;simp only[Bz] at h1;obtain⟨vs,T',hb,hl⟩:=hH.obj _ (List.mem_of_getElem? hi);have hr:=Kk hb o n;have hl':=(hl.drop o).take n;refine⟨.agg ⟨(vs.drop o).take n⟩,?_,by subst hv;simp only[Bz];exact⟨_,rfl,hl'⟩⟩;simp only[execOp,Instr.loadAt,h1,Instr.sureAddr,Sem.run_bind,Sem.run_pure,Result.andThen_ok,Hw hu hd hr (by rw[hz,hl'.length,hn])]
theorem Cy {T:TypeId}{b i n:Nat}{cs:List AV}(hT:EH P T=some (true,n)) (hx:ρ x= .ptr b 0) (hi:H[i]?=some (.box b cs)) (hn:cs.length=n) :
  Dm P ⟨dst,.load T x,ty,pos,aft,g⟩ ρ H (.agg cs) H :=
 FX hT hx hi (by subst hn;simp) (by subst hn;simp)
theorem EK {fn:Fn}{first caps:Array Operand}{fs cs:List AV}(h1:first.toList.map ρ=fs) (h2:caps.toList.map ρ=cs):Dm P ⟨dst,.makeFunc fn first caps,ty,pos,aft,g⟩ ρ H (.fn fn fs cs) H :=
 Bw fun F w E hH hE=>by
  refine⟨.func fn (first.map E) (caps.map E),O,?_⟩;subst h1;subst h2;simp only[Bz];refine⟨first.toList.map E,caps.toList.map E,?_,Bf.mapEval _ fun x hx=>hE x (by simp[Op.operands];exact .inl (by simpa using hx)),Bf.mapEval _ fun x hx=>hE x (by simp[Op.operands];exact .inr (by simpa using hx))⟩;congr 1<;>apply Array.ext'<;>simp
theorem Xy {b o:Nat}(hx:ρ x= .ptr b o):Dm P ⟨dst,.nilCheck x,ty,pos,aft,g⟩ ρ H (.ptr b o) H :=
 Bw fun F w E hH hE=>by
  have h1:=hE x Al;rw[hx] at h1;simp only[Bz] at h1;exact⟨.pointer (some ⟨b,o,none⟩),by simp[execOp,h1],by simp[Bz]⟩
theorem Uu {T:TypeId}{d:TypeDesc}{c:PV}(hu:P.underlying T=some d) (hd:∀ms,d≠ .interface ms) (hx:ρ x= .p c):Dm P ⟨dst,.makeInterface T x,ty,pos,aft,g⟩ ρ H (.p (.iface T c)) H :=
 Bw fun F w E hH hE=>by
  have h1:=hE x Al;rw[hx] at h1;simp only[Bz] at h1;refine⟨.iface T (E x),?_,by simp only[Bz,Br];exact⟨_,rfl,h1⟩⟩;cases d<;>simp_all [execOp,Instr.makeInterface,Sem.run_bind,run_underlying hu]
end
def E0:AV→Option (List AV)
 | .p .unit=>some []
 | .agg cs=>some cs
 | .p .any=>none
 | .tup _=>none
 | x=>some [x]
def one:AV→Bool
 | .p .any | .p .unit | .agg _ | .tup _=>false
 | _=>true
def splice {α:Type}:List α→Nat→List α→List α
 | l,_,[]=>l
 | l,o,x::xs=>splice (l.set o x) (o+1) xs
def World.push (w:World) (o:Obj):World:={ w with heap:=w.heap.push o }
section
variable {F F':Nat→Prop}{w w':World}{P:Program}
theorem db {x:AV}{v:Value}(h:Bz F w x v) (h1:one x=true):v.oneCell'=true∧v.cells=#[v]:=by
 cases x with
 | p y =>
  cases y with
  | any=>simp[one] at h1
  | unit=>simp[one] at h1
  | lst rows =>
   simp only[Bz,Br] at h;rcases h with ⟨_,o,c,rfl⟩ | ⟨b,o,c,sz,rfl,_⟩<;>exact⟨rfl,rfl⟩
  | lstc rows =>
   simp only[Bz,Br] at h;rcases h with ⟨_,o,rfl⟩ | ⟨b,o,sz,rfl,_⟩<;>exact⟨rfl,rfl⟩
  | iface t y =>
   simp only[Bz,Br] at h;obtain⟨u,rfl,_⟩:=h;exact⟨O,O⟩
  | _=>simp only[Bz,Br] at h;subst h;exact⟨rfl,rfl⟩
 | ref cs=>simp only[Bz] at h;obtain⟨b,o,rfl,_⟩:=h;exact⟨rfl,rfl⟩
 | fn f a b=>simp only[Bz] at h;obtain⟨fs,cs,rfl,_⟩:=h;exact⟨rfl,rfl⟩
 | agg cs=>simp[one] at h1
 | tup cs=>simp[one] at h1
 | vs o n c =>
  cases o with
  | some b=>simp only[Bz] at h;subst h;exact⟨rfl,rfl⟩
  | none=>simp only[Bz] at h;obtain⟨_,_,a,rfl⟩:=h;exact⟨rfl,rfl⟩
 | _=>simp only[Bz] at h;subst h;exact⟨rfl,rfl⟩
theorem LC {x:AV}{v:Value}{cs:List AV}(h:Bz F w x v) (hc:E0 x=some cs):∃vs,v.cells=⟨vs⟩∧Bf F w cs vs:=by
 by_cases h1:one x=true
 ·have:=db h h1;refine⟨[v],this.2,?_⟩;have:cs=[x]:=by
   cases x with
   | p y=>cases y<;>simp_all [E0,one]
   | _=>simp_all [E0,one]
  subst this;simp only[Bf];exact⟨v,[],O,h,O⟩
 cases x with
 | agg ds =>
  simp only[E0,Option.some.injEq] at hc;subst hc;simp only[Bz] at h;obtain⟨vs,rfl,hl⟩:=h;exact⟨vs,O,hl⟩
 | p y =>
  cases y with
  | unit =>
   simp only[E0,Option.some.injEq] at hc;subst hc;simp only[Bz,Br] at h;subst h;exact⟨[],O,O⟩
  | _=>simp_all [E0,one]
 | _=>simp_all [E0,one]
theorem Pd:∀{xs:List AV}{vs:List Value},Bf F w xs vs→xs.all one=true→∀v∈vs,v.oneCell'=true
 | [],vs,h,_=>by simp only[Bf] at h;subst h;simp
 | x::xs,vs,h,h1=>by
  simp only[Bf] at h;obtain⟨u,us,rfl,h2,h3⟩:=h;simp only[List.all_cons,Bool.and_eq_true] at h1;intro v hv;rcases List.mem_cons.1 hv with rfl | hv
  ·exact(db h2 h1.1).1
  exact Pd h3 h1.2 v hv
theorem Bf.splice:∀{ys xs:List AV}{us vs:List Value}{o:Nat},Bf F w xs vs→Bf F w ys us→Bf F w (splice xs o ys) (splice vs o us)
 | [],xs,us,vs,o,h,h'=>by simp only[Bf] at h';subst h';simpa [Abs.splice] using h
 | y::ys,xs,us,vs,o,h,h'=>by
  simp only[Bf] at h';obtain⟨u,us,rfl,h1,h2⟩:=h';simp only[Abs.splice];exact Bf.splice (h.set h1) h2
theorem M9 (o:Obj) {b:Nat}(h:b<w.heap.size):(World.push w o).heap[b]?=w.heap[b]?:=by
 show (w.heap.push o)[b]?=_;rw[Array.getElem?_push,if_neg (Nat.ne_of_lt h)]
theorem NN (o:Obj):(World.push w o).heap[w.heap.size]?=some o:=by
 show (w.heap.push o)[w.heap.size]?=_;simp
theorem JJ (o:Obj) (hf:∀b,F' b→F b∨b=w.heap.size):Dq F w F' (World.push w o) where
 size:=by simp[World.push]
 same b _ hb:=M9 o hb
 nf b hF hb hF':=(hf b hF').elim hF fun h=>by omega
theorem OW (H:List A4) (x:A4) (o:Obj) (hx:x.key=some w.heap.size∨x.key=none):Trans F H w (fun b=>F b∨b=w.heap.size) (x::H) (World.push w o) where
 size:=by simp[World.push]
 same b hb _:=M9 o hb
 keep b h _:= .inl h
 fresh b h:=h.imp id fun h=>by omega
 keys o' ho b hb:=by
  rcases List.mem_cons.1 ho with rfl | ho
  ·rcases hx with hx | hx
   ·rw[hx] at hb;injection hb with hb;exact .inr Au
   rw[hx] at hb;cases hb
  exact .inl ⟨o',ho,hb⟩
 os:=rfl
 out:=rfl
 tape:=rfl
theorem ZH (H:List A4) (o:Obj):Trans F H w F H (World.push w o) where
 size:=by simp[World.push]
 same b hb _:=M9 o hb
 keep b h _:=h
 fresh b h:= .inl h
 keys o' ho b hb:= .inl ⟨o',ho,hb⟩
 os:=rfl
 out:=rfl
 tape:=rfl
theorem HRel.stable' {H:List A4}(h:HRel F H w) (st:Dq F w F' w') (hF:∀b,F b→F' b) (hk:∀o∈H,∀b,o.key=some b→w'.heap[b]?=w.heap[b]?) (bd:∀b,F' b→b<w'.heap.size):HRel F' H w' where
 sub o ho b hb:=hF b (h.sub o ho b hb)
 nodup:=h.nodup
 obj o ho:=JV.mono st o (hk o ho) (h.obj o ho)
 bd:=bd
theorem P5 {H:List A4}(h:HRel F H w) (x:A4) (o:Obj) (hx:x.key=some w.heap.size) (hr:JV (fun b=>F b∨b=w.heap.size) (World.push w o) x) :
  HRel (fun b=>F b∨b=w.heap.size) (x::H) (World.push w o) where
 sub o' ho b hb:=by
  rcases List.mem_cons.1 ho with rfl | ho
  ·rw[hx] at hb;injection hb with hb;exact .inr hb.symm
  exact .inl (h.sub o' ho b hb)
 nodup:=by
  rw[List.filterMap_cons,hx];refine List.nodup_cons.2 ⟨?_,h.nodup⟩;intro hm;obtain⟨o',ho',hk⟩:=List.mem_filterMap.1 hm;have:=h.bd _ (h.sub o' ho' _ hk);omega
 obj o' ho:=by
  rcases List.mem_cons.1 ho with rfl | ho
  ·exact hr
  refine JV.mono (JJ o fun b h=>h) o' ?_ (h.obj o' ho);exact fun b hb=>M9 o (h.bd b (h.sub o' ho b hb))
 bd b hb:=by
  rcases hb with hb | rfl
  ·have:=h.bd b hb;simp[World.push];omega
  simp[World.push]
theorem aT {H:List A4}(h:HRel F H w) (o:Obj):HRel F H (World.push w o) :=
 h.stable' (JJ o fun b h=> .inl h) (fun _ h=>h) (fun o' ho b hb=>M9 o (h.bd b (h.sub o' ho b hb))) (fun b hb=>by have:=h.bd b hb;simp[World.push];omega)
structure Ig (b:Nat) (o:Obj) (w w':World):Prop where
 heap:w'.heap=w.heap.setIfInBounds b o
 os:w'.os=w.os
 out:w'.output=w.output
 tape:w'.tape=w.tape
theorem Ig.other {b:Nat}{o:Obj}(h:Ig b o w w') {c:Nat}(hc:c≠b):w'.heap[c]?=w.heap[c]?:=by
 rw[h.heap,Array.getElem?_setIfInBounds_ne (Ne.symm hc)]
theorem Ig.self {b:Nat}{o:Obj}(h:Ig b o w w') (hb:b<w.heap.size):w'.heap[b]?=some o:=by
 rw[h.heap];simp[hb]
theorem Ig.stable {b:Nat}{o:Obj}(h:Ig b o w w') (hF:F b):Dq F w F w' where
 size:=by rw[h.heap];simp
 same c hc _:=h.other fun e=>hc (e▸hF)
 nf _ h _:=h
theorem D2 {α:Type}{l:List α}{i:Nat}{a x:α}(h:x∈l.set i a):(x=a)∨∃j,j≠i∧l[j]?=some x:=by
 obtain⟨j,hj⟩:=List.mem_iff_getElem?.1 h;rw[List.getElem?_set] at hj;split at hj
 ·split at hj
  ·injection hj with hj;exact .inl hj.symm
  cases hj
 rename_i hne;exact .inr ⟨j,fun e=>hne e.symm,hj⟩
theorem G1 {H:List A4}{i:Nat}{x x':A4}(hi:H[i]?=some x) (hk:x'.key=x.key):(H.set i x').filterMap A4.key=H.filterMap A4.key:=by
 induction H generalizing i with
 | nil=>simp at hi
 | cons y H ih =>
  cases i with
  | zero=>simp at hi;subst hi;simp[List.filterMap_cons,hk]
  | succ i=>simp at hi;simp[List.filterMap_cons,ih hi]
theorem It {H:List A4}(h:(H.filterMap A4.key).Nodup):∀{i j:Nat}{x y:A4}{b:Nat},H[i]?=some x→H[j]?=some y→x.key=some b→y.key=some b→i=j:=by
 induction H with
 | nil=>intro i j x y b hi;simp at hi
 | cons z H ih =>
  intro i j x y b hi hj hx hy;rw[List.filterMap_cons] at h;have hz:∀c,z.key=some c→∀(k:Nat) (u:A4),H[k]?=some u→u.key≠some c:=by
   intro c hc k u hu hk;simp only[hc,List.nodup_cons] at h;exact h.1 (List.mem_filterMap.2 ⟨u,List.mem_of_getElem? hu,hk⟩)
  have h':(H.filterMap A4.key).Nodup:=by
   cases hq:z.key with
   | none=>simpa [hq] using h
   | some c=>simp only[hq,List.nodup_cons] at h;exact h.2
  cases i with
  | zero =>
   simp at hi;subst hi;cases j with
   | zero=>rfl
   | succ j=>simp at hj;exact absurd hy (hz b hx j y hj)
  | succ i =>
   cases j with
   | zero=>simp at hj;subst hj;simp at hi;exact absurd hx (hz b hy i x hi)
   | succ j=>simp at hi hj;rw[ih h' hi hj hx hy]
theorem Ig.HRel {H:List A4}{b i:Nat}{x x':A4}{o:Obj}(h:Ig b o w w') (hH:HRel F H w) (hi:H[i]?=some x) (hk:x.key=some b) (hk':x'.key=some b) (hr:JV F w' x'):HRel F (H.set i x') w' where
 sub o' ho c hc:=by
  rcases D2 ho with rfl | ⟨j,_,hj⟩
  ·rw[hk'] at hc;injection hc with hc;subst hc;exact hH.sub x (List.mem_of_getElem? hi) _ hk
  exact hH.sub o' (List.mem_of_getElem? hj) c hc
 nodup:=by rw[G1 hi (by rw[hk,hk'])];exact hH.nodup
 obj o' ho:=by
  rcases D2 ho with rfl | ⟨j,hne,hj⟩
  ·exact hr
  refine JV.mono (h.stable (hH.sub x (List.mem_of_getElem? hi) _ hk)) o' ?_ (hH.obj o' (List.mem_of_getElem? hj));intro c hc;refine h.other fun e=>?_;subst e;exact hne (It hH.nodup hj hi hc hk)
 bd c hc:=by have:=hH.bd c hc;rw[h.heap];simpa using this
theorem Ig.trans {H:List A4}{b i:Nat}{x x':A4}{o:Obj}(h:Ig b o w w') (hi:H[i]?=some x) (hk:x.key=some b) (hk':x'.key=some b):Trans F H w F (H.set i x') w' where
 size:=by rw[h.heap];simp
 same c _ hn:=h.other fun e=>hn x (List.mem_of_getElem? hi) (by rw[hk,e])
 keep _ h _:=h
 fresh _ h:= .inl h
 keys o' ho c hc:=by
  rcases D2 ho with rfl | ⟨j,_,hj⟩
  ·exact .inl ⟨x,List.mem_of_getElem? hi,by rw[hk,←hk',hc]⟩
  exact .inl ⟨o',List.mem_of_getElem? hj,hc⟩
 os:=h.os
 out:=h.out
 tape:=h.tape
theorem N8 {b o:Nat}{c:Array Value}{T:TypeId}{fz:Nat×Nat}(hb:w.heap[b]?=some (.cells c T fz)) (v:Value) :
  Ig b (.cells (c.setIfInBounds o v) T fz) w (w.setCell ⟨b,o,none⟩ v) where
 heap:=by
  obtain⟨hlt,hb'⟩:=Array.getElem?_eq_some_iff.1 hb;simp only[World.setCell];apply Array.ext_getElem?;intro j;rw[Array.getElem?_modify,Array.getElem?_setIfInBounds];by_cases hj:b=j
  ·subst hj;simp[hlt,hb']
  simp[hj]
 os:=rfl
 out:=rfl
 tape:=rfl
theorem IQ {b:Nat}{T:TypeId}{fz:Nat×Nat}:∀(us:List Value) {o:Nat}{vs:List Value}{w:World},w.heap[b]?=some (.cells ⟨vs⟩ T fz)→us≠[] →
  Ig b (.cells ⟨splice vs o us⟩ T fz) w (w.setCells b o us)
 | [],o,vs,w,_,h=>absurd rfl h
 | [u],o,vs,w,hb,_=>by
  have:=N8 (o:=o) hb u;simpa [World.setCells,splice] using this
 | u::u'::us,o,vs,w,hb,_=>by
  have h1:=N8 (o:=o) hb u;have hlt:b<w.heap.size:=(Array.getElem?_eq_some_iff.1 hb).1;have hb1:=h1.self hlt;have e:(⟨vs⟩:Array Value).setIfInBounds o u=⟨vs.set o u⟩:=by apply Array.ext';simp
  rw[e] at hb1;have h2:=IQ (u'::us) (o:=o+1) hb1 Av;refine⟨?_,h2.os,h2.out,h2.tape⟩;show ((w.setCell ⟨b,o,none⟩ u).setCells b (o+1) (u'::us)).heap=_;rw[h2.heap,h1.heap];simp[splice]
end
theorem _root_.Go.Ao {α:Prop}(h:α:=by simp;omega):α:=h
section
variable {P:Program}{dst:Option Tmp}{ty:TypeId}{pos:String}{aft:Array Edge}{g:Option (Nat×Bool)}{ρ:Operand→AV}{H:List A4}{x y z:Operand}{v:AV}
def J0 (cs:List AV) (H:List A4):EG→List A4→Prop
 | .val v,H'=>∃b,v= .ptr b 0∧H'= .box b cs::H
 | .panic _,_=>False
theorem Yf {F:Nat→Prop}{w:World}{cs:List AV}{vs:List Value}{T:TypeId}(hH:HRel F H w) (hl:Bf F w cs vs) :
  ∃v H' F',J0 cs H (.val v) H'∧Trans F H w F' H' (World.push w (.cells ⟨vs⟩ T (0,0)))∧HRel F' H' (World.push w (.cells ⟨vs⟩ T (0,0)))∧Bz F' (World.push w (.cells ⟨vs⟩ T (0,0))) v (.pointer (some ⟨w.heap.size,0,none⟩)):=by
 refine⟨.ptr w.heap.size 0,_,_,⟨w.heap.size,O,O⟩,OW H (.box w.heap.size cs) _ (.inl O),?_,by simp[Bz]⟩;exact P5 hH (.box w.heap.size cs) _ O ⟨vs,T,NN _,Bf.mono (JJ _ fun b h=>h) cs vs hl⟩
theorem Dk {T:TypeId}{cs:List AV}(hx:E0 (ρ x)=some cs):DL P ⟨dst,.box T x,ty,pos,aft,g⟩ ρ H (J0 cs H) :=
 G9 fun F w E hH hE=>by
  have h1:=hE x Al;obtain⟨vs,hv,hl⟩:=LC h1 hx;obtain⟨v,H',F',h⟩:=Yf (T:=T) hH hl;refine⟨_,_,v,H',F',?_,h⟩;simp only[execOp,Instr.box,newVar,newRow,newObj,hv,Sem.run_bind,Sem.run,Result.andThen,Sem.run_pure];rfl
theorem H8 {F:Nat→Prop}{w:World}:∀(vs:List Value),Bf F w (vs.map HG) vs
 | []=>by simp[Bf]
 | v::vs=>by simp only[List.map_cons,Bf];exact⟨v,vs,rfl,Qa v,H8 vs⟩
theorem Az {T:TypeId}{z:Value}{cs:List AV}(hT:zeroOf P T=some z) (hc:z.cells.toList.map HG=cs):DL P ⟨dst,.alloc T,ty,pos,aft,g⟩ ρ H (J0 cs H) :=
 G9 fun F w E hH hE=>by
  have hl:Bf F w cs z.cells.toList:=by subst hc;exact H8 _
  obtain⟨v,H',F',h⟩:=Yf (T:=T) hH hl;refine⟨_,_,v,H',F',?_,h⟩;unfold zeroOf at hT;cases hi:P.info? T with
  | none=>simp[hi] at hT
  | some i =>
   have hz:i.zero=some z:=by simpa [hi] using hT
   have hzv:(zeroValue T).run P w= .ok z w:=by simp[zeroValue,typeInfo,hi,hz,Sem.run_bind]
   simp only[execOp,Instr.alloc,newVar,newRow,newObj,hzv,Sem.run_bind,Sem.run,Result.andThen,Sem.run_pure];rfl
theorem YJ {w:World}{b:Nat}{vs:List Value}{T:TypeId}(h:w.heap[b]?=some (.cells ⟨vs⟩ T (0,0))) {o n:Nat}(hn:o+n≤vs.length):w.there b o n:=by
 intro j hj;have:o+j<vs.length:=by omega
 refine⟨by simp[World.cell?,h,List.getElem?_eq_getElem this],by simp[World.frozen?,h]⟩
theorem MW {w:World}{b o n:Nat}{vs:List Value}{T T':TypeId}{v:Value}{us:List Value}{bl:Bool}(hT:EH P T=some (bl,n)) (hb:w.heap[b]?=some (.cells ⟨vs⟩ T' (0,0)))
  (hc:v.cells=⟨us⟩) (hn:us.length=n) (ho:o+n≤vs.length) (h1:∀v∈us,v.oneCell'=true):(storeVar T ⟨b,o,none⟩ v).run P w= .ok () (w.setCells b o us):=by
 obtain⟨d,hu,hd,hz⟩:=FV hT;have ht:=YJ hb (o:=o) (n:=n) ho;have:=run_storeCells_cells (P:=P) b o us 0 w (fun j hj=>by simpa using (ht j Au).1) (fun j hj=>by simpa using (ht j Au).2) h1;simp only[Nat.add_zero] at this;cases hq:P.info? T with
 | none=>simp[hq] at hz
 | some i =>
  have hs:us.length=i.size:=by simp[hq] at hz;omega
  simp[storeVar,sizeOf,typeInfo,hq,hc,hs,this]
theorem Hq {T:TypeId}{bl:Bool}{n b o i:Nat}{cs us:List AV}(hT:EH P T=some (bl,n+1)) (hx:ρ x= .ptr b o) (hi:H[i]?=some (.box b cs)) (hy:E0 (ρ y)=some us) (hn:us.length=n+1)
  (ho:Nat.ble (o+(n+1)) cs.length=true) (h1:us.all one=true):Dm P ⟨dst,.store T x y,ty,pos,aft,g⟩ ρ H (.p .any) (H.set i (.box b (splice cs o us))) :=
 I3 fun F w E hH hE=>by
  have e1:=hE x Al;have e2:=hE y Al;rw[hx] at e1;simp only[Bz] at e1;obtain⟨vs,T',hb,hl⟩:=hH.obj _ (List.mem_of_getElem? hi);obtain⟨ws,hc,hl'⟩:=LC e2 hy;have hlen:=hl'.length;have hw:Ig b (.cells ⟨splice vs o ws⟩ T' (0,0)) w (w.setCells b o ws):=IQ ws hb (by intro e;rw[e] at hlen;simp at hlen;omega);have hlt:b<w.heap.size:=(Array.getElem?_eq_some_iff.1 hb).1;have hF:F b:=hH.sub _ (List.mem_of_getElem? hi) b rfl;refine⟨w.setCells b o ws,_,F,?_,⟨O,O⟩,hw.trans hi O O,hw.HRel hH hi O O ?_⟩
  ·have hst:=MW (T:=T) (v:=E y) (o:=o) hT hb hc Au (by rw[hl.length];simpa [Nat.ble_eq] using ho) (Pd hl' h1);simp only[execOp,Instr.storeAt,e1,Instr.sureAddr,Sem.run_bind,Sem.run_pure,Result.andThen_ok,hst]
  exact⟨splice vs o ws,T',hw.self hlt,Bf.splice (Bf.mono (hw.stable hF) _ _ hl) (Bf.mono (hw.stable hF) _ _ hl')⟩
def GP (place:Nat→Option (Nat×Nat)) (cells:List AV):List (Nat×AV)→Option (List AV)
 | []=>some cells
 | (i,v)::rest =>
  match place i,E0 v with
  | some (off,size),some cs=>if cs.length=size∧off+cs.length≤cells.length then GP place (splice cells off cs) rest else none
  | _,_=>none
theorem Oz:∀(us:List Value) (vs:List Value) (off k:Nat),((us.zipIdx k).foldl (fun(cs:Array Value) (c,j)=>cs.setIfInBounds (off+j) c) ⟨vs⟩:Array Value)=⟨splice vs (off+k) us⟩
 | [],vs,off,k=>by simp[splice]
 | u::us,vs,off,k=>by
  simp only[List.zipIdx_cons,List.foldl_cons];have e:(⟨vs⟩:Array Value).setIfInBounds (off+k) u=⟨vs.set (off+k) u⟩:=by apply Array.ext';simp
  rw[e,Oz us _ off (k+1)];simp[splice,Nat.add_assoc]
theorem Hl {α:Type}:∀(us vs:List α) (o:Nat),(splice vs o us).length=vs.length
 | [],vs,o=>rfl
 | u::us,vs,o=>by simp[splice,Hl us]
theorem Jz {F:Nat→Prop}{w:World}{place:Nat→Option (Nat×Nat)}:∀(parts:List (Nat×AV)) (vals:List (Nat×Value)) (cells:List AV) (vs:List Value) (r:List AV),
  parts.length=vals.length→(∀(j:Nat) p q,parts[j]?=some p→vals[j]?=some q→p.1=q.1∧Bz F w p.2 q.2)→Bf F w cells vs→GP place cells parts=some r →
  ∃us:List Value,Instr.fill place ⟨vs⟩ vals=some ⟨us⟩∧Bf F w r us
 | [],[],cells,vs,r,_,_,hl,h=>by
  simp only[GP,Option.some.injEq] at h;subst h;exact⟨vs,O,hl⟩
 | (i,x)::parts,(i',v)::vals,cells,vs,r,hlen,hp,hl,h=>by
  obtain⟨rfl,hx⟩:=hp 0 (i,x) (i',v) rfl rfl;simp only[GP] at h;simp only[Instr.fill];cases hpl:place i with
  | none=>simp[hpl] at h
  | some os =>
   obtain⟨off,size⟩:=os;cases hcs:E0 x with
   | none=>simp[hpl,hcs] at h
   | some cs =>
    simp only[hpl,hcs] at h;split at h
    ·rename_i hc;obtain⟨us,hv,hus⟩:=LC hx hcs;have hl1:=hus.length;have hl2:=hl.length;rw[hv];have:((!decide ((⟨us⟩:Array Value).size=size))||decide (off+(⟨us⟩:Array Value).size > (⟨vs⟩:Array Value).size))=false:=by
      simp;omega
     have e1:(us.zipIdx.foldl (fun(cs:Array Value) (c,j)=>cs.setIfInBounds (off+j) c) ⟨vs⟩:Array Value)=⟨splice vs off us⟩:=by
      have:=Oz us vs off 0;simpa using this
     have e2:((⟨us⟩:Array Value).zipIdx.foldl (fun cs (c,j)=>cs.setIfInBounds (off+j) c) ⟨vs⟩:Array Value)=⟨splice vs off us⟩:=by
      rw[←e1];simp[←Array.foldl_toList]
     have:=Jz parts vals (splice cells off cs) (splice vs off us) r (by simpa using hlen) (fun j p q h1 h2=>hp (j+1) p q (by simpa using h1) (by simpa using h2)) (Bf.splice hl hus) h;obtain⟨ws,h1,h2⟩:=this;refine⟨ws,?_,h2⟩;simp only[ne_eq,decide_not];rw[if_neg (by simp at this ⊢;omega)];rw[e2];exact h1
    ·cases h
 | [],_::_,_,_,_,h,_,_,_=>by simp at h
 | _::_,[],_,_,_,h,_,_,_=>by simp at h
theorem MM {w:World}:∀(fs:List Field) (lay:List (Nat×Nat)),(fs.mapM fun f=>(P.info? f.type).map fun i=>(f.offset,i.size))=some lay →
  (fs.mapM fun f=>do pure (f.offset,←sizeOf f.type):Sem (List (Nat×Nat))).run P w= .ok lay w
 | [],lay,h=>by simp at h;subst h;rfl
 | f::fs,lay,h=>by
  rw[List.mapM_cons] at h;cases hx:P.info? f.type with
  | none=>simp[hx] at h
  | some i =>
   cases hl:(fs.mapM fun f=>(P.info? f.type).map fun i=>(f.offset,i.size)) with
   | none=>simp[hx,hl] at h
   | some r =>
    simp[hx,hl] at h;subst h;rw[List.mapM_cons];have hs:(sizeOf f.type).run P w= .ok i.size w:=by simp[sizeOf,typeInfo,hx]
    simp only[Sem.run_bind,hs,Result.andThen_ok,Sem.run_pure,MM fs r hl]
theorem EW {T:TypeId}{parts:Array (Nat×Operand)}{lay:List (Nat×Nat)}{z:Value}{cs:List AV}(hT:fieldsOf P T=some lay) (hz:zeroOf P T=some z)
  (hc:GP (lay[·]?) (z.cells.toList.map HG) (parts.toList.map fun p=>(p.1,ρ p.2))=some cs):Dm P ⟨dst,.build T parts,ty,pos,aft,g⟩ ρ H (.agg cs) H :=
 Bw fun F w E hH hE=>by
  unfold fieldsOf at hT;unfold zeroOf at hz;cases hu:P.underlying T with
  | none=>simp[hu] at hT
  | some d =>
   cases d with
   | struct fs =>
    simp only[hu] at hT;cases hi:P.info? T with
    | none=>simp[hi] at hz
    | some i =>
     have hz':i.zero=some z:=by simpa [hi] using hz
     have hzv:(zeroValue T).run P w= .ok z w:=by simp[zeroValue,typeInfo,hi,hz',Sem.run_bind]
     obtain⟨us,hf,hr⟩:=Jz (F:=F) (w:=w) (place:=(lay[·]?)) _ (parts.toList.map fun p=>(p.1,E p.2)) _ z.cells.toList _ Av (by
      intro j p q h1 h2;simp only[List.getElem?_map] at h1 h2;cases hj:parts.toList[j]? with
      | none=>simp[hj] at h1
      | some t =>
       simp[hj] at h1 h2;subst h1;subst h2;exact⟨O,hE _ (by
        have:=List.mem_of_getElem? hj;simp only[Op.operands];exact List.mem_map.2 ⟨t,this,O⟩)⟩) (H8 _) hc
     refine⟨.agg ⟨us⟩,?_,by simp only[Bz];exact⟨us,rfl,hr⟩⟩;have hm:(fs.mapM fun f=>do pure (f.offset,←sizeOf f.type):Sem (Array (Nat×Nat))).run P w= .ok ⟨lay⟩ w:=by
      rw[Array.mapM_eq_mapM_toList];simp only[map_eq_pure_bind,Sem.run_bind,MM _ _ hT,Result.andThen_ok,Sem.run_pure]
     have ha:∀i:Nat,(⟨lay⟩:Array (Nat×Nat))[i]?=lay[i]?:=fun i=>by simp
     simp only[execOp,Instr.build,Sem.run_bind,hzv,Result.andThen_ok,run_underlying hu,hm,ha];have hf':Instr.fill (fun x=>lay[x]?) z.cells (parts.toList.map fun p=>(p.1,E p.2))=some ⟨us⟩:=hf;simp[hf']
   | _=>simp[hu] at hT
def Hc:List AV→Option (List PV)
 | []=>some []
 | .p c::r=>(Hc r).map (c:: ·)
 | _::_=>none
theorem I0:∀{cs:List AV}{ps:List PV},Hc cs=some ps→cs=ps.map .p
 | [],ps,h=>by simp[Hc] at h;subst h;rfl
 | .p c::r,ps,h=>by
  simp only[Hc,Option.map_eq_some_iff] at h;obtain⟨ps',h1,rfl⟩:=h;simp[I0 h1]
 | .ptr _ _::_,ps,h=>by simp[Hc] at h
 | .nilp::_,ps,h=>by simp[Hc] at h
 | .ref _::_,ps,h=>by simp[Hc] at h
 | .vs _ _ _::_,ps,h=>by simp[Hc] at h
 | .map _::_,ps,h=>by simp[Hc] at h
 | .fn _ _ _::_,ps,h=>by simp[Hc] at h
 | .agg _::_,ps,h=>by simp[Hc] at h
 | .tup _::_,ps,h=>by simp[Hc] at h
theorem ND {F:Nat→Prop}{w:World}{b:Nat}:∀{cs:List PV}{vs:List Value}{o:Nat},w.rangeAt b o vs→Bf F w (cs.map .p) vs→CM F w b o cs
 | [],vs,o,_,_=>by simp[CM]
 | c::cs,vs,o,h,hl=>by
  simp only[List.map_cons,Bf,Bz] at hl;obtain⟨u,us,rfl,h1,h2⟩:=hl;simp only[CM];refine⟨⟨u,by simpa using h 0 u rfl,h1⟩,ND ?_ h2⟩;intro j v hv;have:=h (j+1) v (by simpa using hv)
  rwa [Nat.add_assoc,Nat.add_comm 1 j]
theorem Lw {F:Nat→Prop}{w:World}{b sz:Nat}:∀{rows:List (List PV)}{vs:List Value}{o:Nat},(∀r∈rows,r.length=sz)→w.rangeAt b o vs→Bf F w (rows.flatten.map .p) vs→Bl F w b sz o rows
 | [],vs,o,_,_,_=>by simp[Bl]
 | r::rows,vs,o,hr,h,hl=>by
  simp only[Bl];have hlen:=hr r Av;have e:(r::rows).flatten.map AV.p=r.map .p++rows.flatten.map .p:=by simp
  rw[e] at hl;have h1:=hl.take r.length;have h2:=hl.drop r.length;rw[List.take_left' Av] at h1;rw[List.drop_left' Av] at h2;refine⟨hlen,ND (vs:=vs.take r.length) ?_ h1,Lw (vs:=vs.drop r.length) (fun r' hr'=>hr r' (by simp[hr'])) ?_ h2⟩
  ·intro j v hv;rcases Nat.lt_or_ge j r.length with hj | hj
   ·rw[List.getElem?_take_of_lt hj] at hv;exact h j v hv
   rw[List.getElem?_take_eq_none hj] at hv;cases hv
  intro j v hv;rw[List.getElem?_drop] at hv;have:=h (r.length+j) v hv
  rwa [←Nat.add_assoc,hlen] at this
def chunks {α:Type}(sz:Nat):Nat→List α→List (List α)
 | 0,_=>[]
 | n+1,l=>l.take sz::chunks sz n (l.drop sz)
theorem Mi {α:Type}{sz:Nat}:∀{n:Nat}{l:List α},l.length=n*sz→(chunks sz n l).flatten=l∧(∀r∈chunks sz n l,r.length=sz)∧(chunks sz n l).length=n
 | 0,l,h=>by
  have:l=[]:=by simpa using h
  subst this;simp[chunks]
 | n+1,l,h=>by
  rw[Nat.succ_mul] at h;have:=Mi (sz:=sz) (n:=n) (l:=l.drop sz) Ao;obtain⟨h1,h2,h3⟩:=this;refine⟨by simp[chunks,h1],?_,by simp[chunks,h3]⟩;intro r hr;simp only[chunks,List.mem_cons] at hr;rcases hr with rfl | hr
  ·simp;omega
  exact h2 r hr
theorem kU {F:Nat→Prop}{w:World}{sz:Nat}{rows:List (List PV)}{vs:List Value}{T:TypeId}{c:Nat}(hbd:∀b,F b→b<w.heap.size) (hr:∀r∈rows,r.length=sz) (hl:Bf F w (rows.flatten.map .p) (vs.take (rows.flatten.length)))
  (hc:rows.length≤c):Bz F (World.push w (.cells ⟨vs⟩ T (0,0))) (.p (.lst rows)) (.slice (some ⟨w.heap.size,0,none⟩) rows.length c):=by
 simp only[Bz,Br];right;refine⟨w.heap.size,0,c,sz,O,?_,by simp[World.push],hc,?_⟩
 ·intro h;have:=hbd _ h;omega
 refine Lw (vs:=vs.take (rows.flatten.length)) hr ?_ (Bf.mono (JJ _ fun b h=> .inl h) _ _ hl);have:=Kk (NN (w:=w) (.cells ⟨vs⟩ T (0,0))) 0 rows.flatten.length;simpa using this
theorem KP (zs:List Value) (n:Nat):((Array.range (n*zs.length)).map fun i=>(⟨zs⟩:Array Value)[i % (⟨zs⟩:Array Value).size]!).toList=(List.replicate n zs).flatten:=by
 induction n with
 | zero=>simp
 | succ n ih =>
  rw[Nat.succ_mul,List.replicate_succ',List.flatten_append];simp only[Array.toList_map,Array.toList_range] at ih ⊢;rw[List.range_add,List.map_append,ih];congr 1;simp only[List.map_map,List.flatten_cons,List.flatten_nil,List.append_nil];apply List.ext_getElem
  ·simp
  intro i h1 h2;simp at h1 h2;simp[Nat.mod_eq_of_lt h1,Nat.add_mod,h1]
theorem IU {F:Nat→Prop}{w:World}{xs:List AV}{vs:List Value}(h:Bf F w xs vs):∀n,Bf F w (List.replicate n xs).flatten (List.replicate n vs).flatten
 | 0=>by simp[Bf]
 | n+1=>by
  simp only[List.replicate_succ,List.flatten_cons];exact h.append (IU h n)
theorem BJ {T e:TypeId}{len sz bytes:Nat}{parts:Array (Nat×Operand)}{z:Value}{cs:List AV}{ps:List PV}{rows:List (List PV)}(hT:E1 P T=some (e,sz,bytes)) (hz:zeroOf P e=some z) (hsz:z.cells.size=sz) (hpos:(Nat.blt 0 sz&&Nat.ble (len*sz) 16777216)=true)
  (hc:GP (fun i=>some (i*sz,sz)) (List.replicate len (z.cells.toList.map HG)).flatten (parts.toList.map fun p=>(p.1,norm (ρ p.2)))=some cs) (hp:Hc cs=some ps) (hr:chunks sz len ps=rows) :
  Dm P ⟨dst,.buildSlice T len parts,ty,pos,aft,g⟩ ρ H (.p (.lst rows)) H :=
 G9 fun F w E hH hE=>by
  obtain⟨hu,i,hi,hs,hby⟩:=Dy hT;simp only[Bool.and_eq_true,Nat.blt_eq,Nat.ble_eq] at hpos;unfold zeroOf at hz;have hz':∃j,P.info? e=some j∧j.zero=some z:=by
   cases hq:P.info? e with
   | none=>simp[hq] at hz
   | some j=>exact⟨j,rfl,by simpa [hq] using hz⟩
  obtain⟨j,hj,hz'⟩:=hz';have hzv:(zeroValue e).run P w= .ok z w:=by simp[zeroValue,typeInfo,hj,hz',Sem.run_bind]
  have hzl:Bf F w (List.replicate len (z.cells.toList.map HG)).flatten (List.replicate len z.cells.toList).flatten:=IU (H8 _) len;obtain⟨us,hf,hrep⟩:=Jz (F:=F) (w:=w) (place:=fun i=>some (i*sz,sz)) _ (parts.toList.map fun p=>(p.1,E p.2)) _ _ _ Av (by
   intro j p q h1 h2;simp only[List.getElem?_map] at h1 h2;cases hj:parts.toList[j]? with
   | none=>simp[hj] at h1
   | some t =>
    simp[hj] at h1 h2;subst h1;subst h2;exact⟨O,(hE _ (by
     have:=List.mem_of_getElem? hj;simp only[Op.operands];exact List.mem_map.2 ⟨t,this,O⟩)).norm⟩) hzl hc
  have hcs:=I0 hp;have hlen:ps.length=len*sz:=by
   have h1:cs.length=((List.replicate len (z.cells.toList.map HG)).flatten).length:=by
    clear hrep hp hcs hzl hf;generalize (List.replicate len (z.cells.toList.map HG)).flatten=l at hc;generalize (parts.toList.map fun p=>(p.1,norm (ρ p.2)))=q at hc
    induction q generalizing l with
    | nil=>simp[GP] at hc;rw[hc]
    | cons a q ih =>
     obtain⟨i,x⟩:=a;simp only[GP] at hc;cases hx:E0 x with
     | none=>simp[hx] at hc
     | some c2 =>
      simp only[hx] at hc;split at hc
      ·rw[ih _ hc,Hl]
      cases hc
   rw[hcs] at h1;simp only[List.length_map,List.length_flatten,List.map_replicate,List.sum_replicate_nat,Array.length_toList,hsz] at h1;exact h1
  obtain⟨c1,c2,c3⟩:=Mi hlen;rw[hr] at c1 c2 c3;have hul:us.length=ps.length:=by rw[hrep.length,hcs];simp
  refine⟨_,_,.p (.lst rows),H,F,?_,⟨O,O⟩,ZH H (.cells ⟨us⟩ e (0,0)),aT hH _,kU (c:=len) hH.bd c2 (by rw[c1,←hul,List.take_length];rw[hcs] at hrep;exact hrep) Au⟩;have hszr:(sizeOf e).run P w= .ok sz w:=by simp[sizeOf,typeInfo,hi,hs]
  have hzc:z.cells=⟨z.cells.toList⟩:=rfl;have hrm:=KP z.cells.toList len;have hsz2:z.cells.toList.length=sz:=by simpa using hsz
  rw[hsz2] at hrm;have harr:((Array.range (len*sz)).map fun i=>z.cells[i % z.cells.size]!)=⟨(List.replicate len z.cells.toList).flatten⟩:=by
   apply Array.ext';exact hrm
  simp only[execOp,Instr.buildSlice,Sem.run_bind,run_underlying hu,Result.andThen_ok,hszr];rw[if_neg Au];simp only[Sem.run_pure,Result.andThen_ok,Sem.run_bind,pure_bind];have hf':Instr.fill (fun i=>some (i*sz,sz)) ⟨(List.replicate len z.cells.toList).flatten⟩ (parts.map fun p=>(p.1,E p.2)).toList=some ⟨us⟩:=by
   rw[←hf];simp
  by_cases h00:len*sz=0
  ·have hl0:len=0:=by
    rcases Nat.mul_eq_zero.1 h00 with h | h
    ·exact h
    omega
   subst hl0;simp only[Nat.zero_mul,if_true];simp only[List.replicate_zero,List.flatten_nil] at hf';have e0:(Array.map (fun x=>(#[]:Array Value)[x % (#[]:Array Value).size]!) (Array.range 0))=(⟨[]⟩:Array Value):=by simp
   rw[e0,hf'];simp only[newRow,newObj,Sem.run_bind,Sem.run,Result.andThen,Sem.run_pure];rw[c3];rfl
  rw[if_neg h00];simp only[Sem.run_bind,hzv,Result.andThen_ok];rw[harr,hf'];simp only[newRow,newObj,Sem.run_bind,Sem.run,Result.andThen,Sem.run_pure];rw[c3];rfl
end
section
variable {P:Program}{r:Option Nat}{ops:Array Oper}{Q:Cj→BM→Prop}{k:Nat}{n:Nat}{τ:Nat→AV}{H H':List A4}{D:List D4}{dst:Option Tmp}{op:Op}{ty:TypeId}{pos:String}{aft:Array Edge}{g:Option (Nat×Bool)}{v:AV}
theorem tv {cs:List AV}(ho:ops[k]?=some ⟨dst,op,ty,pos,aft,none⟩) (hd:Gj dst n=true) (h:DL P ⟨dst,op,ty,pos,aft,none⟩ (ev τ) H (J0 cs H))
  (next:∀b,AL P r ops (k+1) ⟨n,put τ dst (.ptr b 0),.box b cs::H,D⟩ Q):AL P r ops k ⟨n,τ,H,D⟩ Q :=
 Fm (S:=⟨n,τ,H,D⟩) ho An (He hd) h (fun v H' ⟨b,h1,h2⟩=>by subst h1;subst h2;exact next b) (fun _ _ h=>h.elim)
theorem C8 {cs:List AV}(ho:(ops[k]?,Gj dst n)=(some ⟨dst,op,ty,pos,aft,none⟩,true)) (h:DL P ⟨dst,op,ty,pos,aft,none⟩ (ev τ) H (J0 cs H))
  (next:∀b,AL P r ops (k+1) ⟨n,put τ dst (.ptr b 0),.box b cs::H,D⟩ Q):AL P r ops k ⟨n,τ,H,D⟩ Q:=tv (congrArg Prod.fst ho) (congrArg Prod.snd ho) h next
theorem D3 {x:Operand}(ho:(ops[k]?,Gj dst n,ev τ x)=(some ⟨dst,.move x,ty,pos,aft,none⟩,true,v))
  (next:AL P r ops (k+1) ⟨n,put τ dst v,H,D⟩ Q):AL P r ops k ⟨n,τ,H,D⟩ Q:=R8 (congrArg Prod.fst ho) (congrArg (·.2.1) ho) (Bh (congrArg (·.2.2) ho)) next
def x8 (v:AV):EG→List A4→Prop
 | .val v',H'=>v'=v∧H'=[]
 | .panic _,_=>False
abbrev En (P:Program) (f:FuncId) (args:List AV) (v:AV):Prop:=BL P f args [] (x8 v)
theorem bq {c:Call}{f:Operand}{fid:FuncId}{ρ:Operand→AV}{A:List AV}(hc:c.callee= .value f) (hf:ρ f= .p (.fn fid)) (h:En P fid A v) (hA:c.args.toList.map ρ=A∨(c.args.toList.map ρ).map norm=A) :
  Dm P ⟨dst,.call c,ty,pos,aft,g⟩ ρ H v H:=by
 refine(GA (H:=H) (Hs:=[]) (Hf:=H) (first:=[]) (caps:=[]) hc (.inl ⟨hf,O,O⟩) (A:=A) Av h (by simpa using hA)).mono ?_;rintro r H' ⟨Hs',h1,rfl⟩;cases r with
 | val v'=>obtain⟨rfl,rfl⟩:=h1;exact⟨rfl,rfl⟩
 | panic v'=>exact h1
theorem BF {c:Call}{f:Operand}{fid:FuncId}{ρ:Operand→AV}{A:List AV}(hc:c.callee= .value f) (hf:ρ f= .p (.fn fid)) (h:En P fid A v) (hA:c.args.toList.map ρ=A) :
  Dm P ⟨dst,.call c,ty,pos,aft,g⟩ ρ H v H:=bq hc hf h (.inl hA)
theorem Jj {c:Call}{f:Operand}{fid:FuncId}{first caps:List AV}{Hs Hf:List A4}{A:List AV}{R:EG→List A4→Prop}
  (ho:ops[k]?=some ⟨dst,.call c,ty,pos,aft,none⟩) (hd:Gj dst n=true)
  (hc:c.callee= .value f) (hf:(ev τ f= .p (.fn fid)∧first=[]∧caps=[])∨ev τ f= .fn (.func fid) first caps) (hp:H.Perm (Hs++Hf)) (h:BL P fid A Hs R) (hA:first++c.args.toList.map (ev τ)++caps=A∨(first++c.args.toList.map (ev τ)++caps).map norm=A)
  (next:∀v H',R (.val v) H'→AL P r ops (k+1) ⟨n,put τ dst v,H'++Hf,D⟩ Q) (pan:∀v H',R (.panic v) H'→Q (.panic v) ⟨n,τ,H'++Hf,D⟩):AL P r ops k ⟨n,τ,H,D⟩ Q :=
 Fm (S:=⟨n,τ,H,D⟩) ho An (He hd) (GA hc hf hp h hA) (fun v H' ⟨Hs',h1,h2⟩=>by subst h2;exact next v Hs' h1) (fun v H' ⟨Hs',h1,h2⟩=>by subst h2;exact pan v Hs' h1)
end
section
variable {P:Program}{dst:Option Tmp}{ty:TypeId}{pos:String}{aft:Array Edge}{g:Option (Nat×Bool)}{ρ:Operand→AV}{H:List A4}{x y z:Operand}{v:AV}
theorem Kd {m n:Int}{T U:TypeId}(hx:ρ x= .p (.int .i64 m)) (hy:ρ y= .p (.int .i64 n)) (h1: -9223372036854775808≤m+n) (h2:m+n≤9223372036854775807) :
  Dm P ⟨dst,.binOp .add T x y U,ty,pos,aft,g⟩ ρ H (.p (.int .i64 (m+n))) H:=Qh hx hy rfl h1 h2
theorem p7 {m n:Int}{T U:TypeId}(hx:ρ x= .p (.int .i64 m)) (hy:ρ y= .p (.int .i64 n)) (h1: -9223372036854775808≤m - n) (h2:m - n≤9223372036854775807) :
  Dm P ⟨dst,.binOp .sub T x y U,ty,pos,aft,g⟩ ρ H (.p (.int .i64 (m - n))) H:=Qh hx hy rfl h1 h2
theorem oQ {m n:Int}{T U:TypeId}(hx:ρ x= .p (.int .i64 m)) (hy:ρ y= .p (.int .i64 n)) (h1: -9223372036854775808≤m*n) (h2:m*n≤9223372036854775807) :
  Dm P ⟨dst,.binOp .mul T x y U,ty,pos,aft,g⟩ ρ H (.p (.int .i64 (m*n))) H:=Qh hx hy rfl h1 h2
end
section
variable {P:Program}{r:Option Nat}{ops:Array Oper}{Q:Cj→BM→Prop}{n:Nat}{τ:Nat→AV}{H:List A4}{D:List D4}
def jv (τ' τ:Nat→AV):List Nat→Prop
 | []=>True
 | t::r=>τ' t=τ t∧jv τ' τ r
theorem RP {τ' τ:Nat→AV}:∀{l:List Nat},jv τ' τ l→XI τ' (l.map fun t=>(t,τ t))
 | [],_=>trivial
 | t::r,h=>⟨h.1,RP h.2⟩
end
theorem dY {P:Program}{r:Option Nat}{c:Code}{S:BM}{Q:Cj→BM→Prop}(N:Nat) (St:Nat→BM) (i₀:Nat) (h₀:i₀≤N) (l:Le S (St i₀))
  (round:∀i,i≤N→IK P r c (St i) (Kj (fun S'=>i<N∧Le S' (St (i+1))) Q)):IK P r (.loop c) S Q:=by
 refine SV (fun m S=>∃i,i≤N∧m=N - i∧S=St i) (m:=N - i₀) l ⟨i₀,h₀,O,O⟩ ?_;rintro m S ⟨i,hi,rfl,rfl⟩;refine(round i hi).mono ?_;intro e S' h;cases e with
 | normal =>
  obtain⟨h1,h2⟩:=h;exact⟨N - (i+1),St (i+1),by omega,h2,i+1,by omega,rfl,rfl⟩
 | exit id=>exact h
 | ret=>exact h
 | panic v=>exact h
theorem Dx {P:Program}{S:BM}{t:Nat}{v:AV}(h:S.τ t=v):Re P S [.tmp t] [v]:=⟨v,[],rfl,h,rfl⟩
end Go.Abs
namespace Go.Eu
open Go.Abs
structure B6 where
 index:Int
 plus:Int
 deriving DecidableEq,Inhabited
structure CX where
 const:Int
 vars:List B6
 deriving DecidableEq,Inhabited
inductive Tm where
 | mk (kind index:Int) (name:ByteArray) (levels:List CX) (kids:List Tm)
 deriving Inhabited
def Tm.kind:Tm→Int | .mk k _ _ _ _=>k
def Tm.index:Tm→Int | .mk _ i _ _ _=>i
def Tm.name:Tm→ByteArray | .mk _ _ n _ _=>n
def Tm.levels:Tm→List CX | .mk _ _ _ l _=>l
def Tm.kids:Tm→List Tm | .mk _ _ _ _ k=>k
abbrev I (n:Int):PV:= .int .i64 n
def Ey (v:B6):List PV:=[I v.index,I v.plus]
def B4 (l:CX):List PV:=[I l.const,.lst (l.vars.map Ey)]
mutual
def BD:Tm→List PV
 | .mk k i n l ks=>[I k,I i,.str n,.lst (l.map B4),.lst (A6 ks)]
def A6:List Tm→List (List PV)
 | []=>[]
 | t::ts=>BD t::A6 ts
end
theorem EY:∀ts:List Tm,A6 ts=ts.map BD
 | []=>rfl
 | t::ts=>by simp[A6,EY ts]
theorem A7 (t:Tm):(BD t).length=5:=by cases t;rfl
theorem A8 (ts:List Tm):(A6 ts).length=ts.length:=by simp[EY]
theorem BO {ts:List Tm}{i:Nat}{t:Tm}(h:ts[i]?=some t):(A6 ts)[i]?=some (BD t):=by simp[EY,h]
theorem E3 (l:CX):(B4 l).length=2:=rfl
theorem pI {a b:Int}(h:a=b):AV.p (I a)= .p (I b):=by rw[h]
theorem pB {a b:Bool}(h:a=b):AV.p (.bool a)= .p (.bool b):=by rw[h]
abbrev TV (t:Tm):AV:= .agg ((BD t).map .p)
mutual
def size:Tm→Nat
 | .mk _ _ _ _ ks=>1+BB ks
def BB:List Tm→Nat
 | []=>0
 | t::ts=>size t+BB ts
end
theorem Ls {ts:List Tm}{i:Nat}{t:Tm}(h:ts[i]?=some t):BB (ts.take (i+1))=BB (ts.take i)+size t:=by
 induction ts generalizing i with
 | nil=>simp at h
 | cons a ts ih =>
  cases i with
  | zero=>simp at h;subst h;simp[BB]
  | succ i=>simp at h;simp only[List.take_succ_cons,BB,ih h];omega
theorem NM {ts:List Tm}(i:Nat):BB (ts.take i)≤BB ts:=by
 induction ts generalizing i with
 | nil=>simp[BB]
 | cons a ts ih =>
  cases i with
  | zero=>simp[BB]
  | succ i=>simp only[List.take_succ_cons,BB];have:=ih i;omega
theorem size_pos (t:Tm):1≤size t:=by cases t;simp[size]
theorem Fl:∀(ts:List Tm),ts.length≤BB ts
 | []=>by simp
 | t::ts=>by have:=Fl ts;have:=size_pos t;simp only[List.length_cons,BB];omega
theorem CU {ts:List Tm}{i:Nat}{t:Tm}(h:ts[i]?=some t):size t≤BB ts:=by
 have:=Ls h;have:=NM (ts:=ts) (i+1);omega
end Go.Eu
namespace Go.Abs
inductive Sp where
 | skip
 | free (v:AV)
 | read (obs:List A4) (v:AV)
 | eff (v:AV) (H':List A4)
def Sp.val:Sp→AV
 | .skip=> .tup []
 | .free v | .read _ v | .eff v _=>v
def Sp.isEff:Sp→Bool
 | .eff ..=>true
 | _=>false
def HK (o:Oper):List Nat:=(o.after.toList.filter (Region.binds .any)).map (·.on)
inductive Pred (ops:Array Oper):Nat→Nat→Prop where
 | base {j i:Nat} {o:Oper} (ho:ops[i]?=some o) (hj:j∈HK o):Pred ops j i
 | trans {j k i:Nat}:Pred ops j k→Pred ops k i→Pred ops j i
def looks (ops:Array Oper) (o:Oper):List Tmp:=o.looksAt ops
def τS (ops:Array Oper) (sp:List Sp) (τ₀:Nat→AV):Nat→Nat→AV
 | 0=>τ₀
 | k+1=>put (τS ops sp τ₀ k) ((ops[k]?).bind (·.dst)) ((sp.getD k .skip).val)
def LH (sp:List Sp) (H₀:List A4):Nat→List A4
 | 0=>H₀
 | k+1=>match sp.getD k .skip with
  | .eff _ H'=>H'
  | _=>LH sp H₀ k
def lO (P:Program) (ops:Array Oper) (o:Oper) (τ:Nat→AV) (H:List A4):Sp→Prop
 | .skip=>∃j want d,o.guard=some (j,want)∧(ops[j]?).bind (·.dst)=some d∧ue (τ d) want
 | .free v=>Ep ops ⟨0,τ,[],[]⟩ o∧∀H,Dm P o (ev τ) H v H
 | .read obs v=>Ep ops ⟨0,τ,[],[]⟩ o∧(∀ob∈obs,ob∈H)∧∀H,(∀ob∈obs,ob∈H)→Dm P o (ev τ) H v H
 | .eff v H'=>Ep ops ⟨0,τ,[],[]⟩ o∧Dm P o (ev τ) H v H'
structure uf (ops:Array Oper) (n:Nat):Prop where
 dst:∀(k:Nat) o t,ops[k]?=some o→o.dst=some t→t<n
 c0:∀(i:Nat) o j,ops[i]?=some o→j∈HK o→j<i
 c1:∀(i k:Nat) o o' t,ops[i]?=some o→ops[k]?=some o'→t∈looks ops o→o'.dst=some t→k≠i→(k<i→Pred ops k i)∧(i<k→Pred ops i k)
 c2:∀(i k:Nat) o o' t,ops[i]?=some o→ops[k]?=some o'→o.dst=some t→o'.dst=some t→i=k
structure vG (P:Program) (ops:Array Oper) (n:Nat) (Ex:Nat→Prop) (τ₀:Nat→AV) (H₀:List A4) (sp:List Sp):Prop extends uf ops n where
 run:∀(k:Nat) o,ops[k]?=some o→Ex k→lO P ops o (τS ops sp τ₀ k) (LH sp H₀ k) (sp.getD k .skip)
 c3:∀(i k:Nat),i<k→k<ops.size→(sp.getD i .skip).isEff=true→(sp.getD k .skip).isEff=true→Pred ops i k
 c4:∀(i e:Nat) obs v ob,i<ops.size→e<ops.size→sp.getD i .skip= .read obs v→ob∈obs→(sp.getD e .skip).isEff=true→(Pred ops e i∨Pred ops i e)∨(ob∈LH sp H₀ e∧ob∈LH sp H₀ (e+1))
section
variable {P:Program}{r:Option Nat}{ops:Array Oper}{Q:Exit→Act→World→Prop}
theorem gG (I:Array Bool→Act→World→Prop) (hsz:∀l a w,I l a w→l.size=ops.size)
  (hstep:∀l a w,I l a w→∀i∈Region.ready .any ops l,wpOpIn (W r) 0 P ops Q i (I (l.setIfInBounds i true)) a w)
  (hend:∀l a w,I l a w→Region.ready .any ops l=[]→Q .normal a w) :
  ∀(fuel:Nat) (l:Array Bool) (a:Act) (w:World),I l a w→(l.toList.filter (!·)).length≤fuel→wpAnyIn (W r) 0 P .any ops Q fuel l a w:=by
 intro fuel
 induction fuel with
 | zero =>
  intro l a w h hf;have hr:Region.ready .any ops l=[]:=by
   have hall:∀x∈l.toList,x=true:=by
    intro x hx;cases x with
    | true=>rfl
    | false =>
     have:false∈l.toList.filter (!·):=List.mem_filter.2 ⟨hx,rfl⟩;have h0:l.toList.filter (!·)=[]:=by
      apply List.eq_nil_of_length_eq_zero;omega
     rw[h0] at this;cases this
   unfold Region.ready;rw[List.filter_eq_nil_iff];intro i hi;have hi':i<l.size:=by rw[hsz l a w h];simpa using hi
   have hli:l[i]=true:=hall _ Av;simp[hi',hli]
  exact⟨hr,hend l a w h hr⟩
 | succ fuel ih =>
  intro l a w h hf;refine⟨hend l a w h,fun i hi=>?_⟩;refine wpOpIn_mono (fun a' w' h'=>ih _ a' w' h' ?_) (hstep l a w h i hi);have hm:=(mem_ready.1 hi).1;have hi':i<l.size:=by
   rcases Nat.lt_or_ge i l.size with h | h
   ·exact h
   simp[Array.getElem?_eq_none h] at hm
  have hfalse:l[i]=false:=by simpa [hi'] using hm
  have e:(l.setIfInBounds i true).toList=l.toList.set i true:=by simp
  rw[e];have hlt:i<l.toList.length:=by simpa using hi'
  have hl:l.toList=l.toList.take i++false::l.toList.drop (i+1):=by
   have:=List.take_append_drop i l.toList;rw[List.drop_eq_getElem_cons hlt] at this;rw[show l.toList[i]=false from by simpa using hfalse] at this;exact this.symm
  have hs:l.toList.set i true=l.toList.take i++true::l.toList.drop (i+1):=by
   rw[List.set_eq_take_append_cons_drop,if_pos hlt]
  have h1:(l.toList.filter (!·)).length=((l.toList.take i++false::l.toList.drop (i+1)).filter (!·)).length:=by rw[←hl]
  rw[hs];simp only[List.filter_append,List.length_append,List.filter_cons,Bool.not_false,Bool.not_true,if_true,List.length_cons] at h1 ⊢;simp at h1 ⊢;omega
end
section
variable {P:Program}{ops:Array Oper}{n:Nat}{Ex:Nat→Prop}{τ₀:Nat→AV}{H₀:List A4}{sp:List Sp}{D:List D4}
theorem Pred.lt (hd:uf ops n) {j i:Nat}(h:Pred ops j i):j<i:=by
 induction h with
 | base ho hj=>exact hd.c0 _ _ _ ho hj
 | trans _ _ h1 h2=>omega
def Down (ops:Array Oper) (L:Nat→Prop):Prop:=∀(i:Nat) o j,ops[i]?=some o→L i→j∈HK o→L j
theorem Down.pred {L:Nat→Prop}(hL:Down ops L) {j i:Nat}(h:Pred ops j i):L i→L j:=by
 induction h with
 | base ho hj=>exact fun hi=>hL _ _ _ ho hi hj
 | trans _ _ h1 h2=>exact fun hi=>h1 (h2 hi)
def RQ (ops:Array Oper) (sp:List Sp) (τ₀:Nat→AV) (L:Nat→Prop) (τ:Nat→AV):Prop :=
 ∀t,(∀(k:Nat) o,ops[k]?=some o→o.dst=some t→L k→τ t=(sp.getD k .skip).val)∧((∀(k:Nat) o,ops[k]?=some o→o.dst=some t→¬L k)→τ t=τ₀ t)
theorem S5 {t d:Nat}(h:t≠d):Nat.beq t d=false:=by
 cases hq:Nat.beq t d with
 | false=>rfl
 | true=>exact absurd (Nat.eq_of_beq_eq_true hq) h
theorem RQ.put (hd:uf ops n) {L:Nat→Prop}{τ:Nat→AV}(h:RQ ops sp τ₀ L τ) {i:Nat}{o:Oper}(ho:ops[i]?=some o) :
  RQ ops sp τ₀ (fun k=>L k∨k=i) (Abs.put τ o.dst (sp.getD i .skip).val):=by
 intro t;by_cases ht:o.dst=some t
 ·have e:Abs.put τ o.dst (sp.getD i .skip).val t=(sp.getD i .skip).val:=by
   rw[ht];simp[Abs.put]
  refine⟨fun k o' ho' hk _=>?_,fun hn=>absurd (.inr O) (hn i o ho ht)⟩;rw[e,hd.c2 i k o o' t ho ho' ht hk]
 have e:Abs.put τ o.dst (sp.getD i .skip).val t=τ t:=by
  cases hq:o.dst with
  | none=>rfl
  | some d =>
   have hne:t≠d:=fun e=>ht (by rw[hq,e]);simp[Abs.put,S5 hne]
 rw[e];refine⟨fun k o' ho' hk hl=>?_,fun hn=>(h t).2 fun k o' ho' hk hl=>hn k o' ho' hk (.inl hl)⟩;rcases hl with hl | rfl
 ·exact(h t).1 k o' ho' hk hl
 rw[ho] at ho';injection ho' with ho';subst ho';exact absurd hk ht
theorem XW (hd:uf ops n):∀k,k≤ops.size→RQ ops sp τ₀ (fun j=>j<k) (τS ops sp τ₀ k)
 | 0,_=>fun t=>⟨fun k o _ _ h=>absurd h Au,fun _=>rfl⟩
 | k+1,hk=>by
  have ho:ops[k]?=some ops[k]:=Array.getElem?_eq_getElem Au;have:=(XW hd k Au).put hd ho;have e:τS ops sp τ₀ (k+1)=Abs.put (τS ops sp τ₀ k) (ops[k]).dst (sp.getD k .skip).val:=by
   simp only[τS,ho,Option.bind_some]
  rw[e];intro t;refine⟨fun j o hj ht hl=>(this t).1 j o hj ht Au,fun hn=>(this t).2 fun j o hj ht hl=>hn j o hj ht Au⟩
theorem iR (hd:uf ops n) {L:Nat→Prop}(hL:Down ops L) {τ:Nat→AV}(h:RQ ops sp τ₀ L τ) {i:Nat}{o:Oper}(ho:ops[i]?=some o) (hi:¬L i) (hr:∀j∈HK o,L j) {t:Nat}(ht:t∈looks ops o) :
  τ t=τS ops sp τ₀ i t:=by
 have hlt:i<ops.size:=by
  rcases Nat.lt_or_ge i ops.size with h | h
  ·exact h
  simp[Array.getElem?_eq_none h] at ho
 have hS:=XW (sp:=sp) (τ₀:=τ₀) hd i Au t;have hpre:∀j,Pred ops j i→L j:=by
  intro j hj;cases hj with
  | base ho' hj =>
   rw[ho] at ho';injection ho' with ho';subst ho';exact hr _ hj
  | @trans _ k _ h1 h2 =>
   have:∀{a b},Pred ops a b→b=i→L a:=by
    intro a b hab
    induction hab with
    | base ho' hj=>intro e;subst e;rw[ho] at ho';injection ho' with ho';subst ho';exact hr _ hj
    | trans p1 _ _ ih2=>intro e;exact hL.pred p1 (ih2 e)
   exact this (h1.trans h2) O
 by_cases hw:∃(k:Nat) (o':Oper),ops[k]?=some o'∧o'.dst=some t
 ·obtain⟨k,o',ho',hk⟩:=hw;by_cases hki:k=i
  ·subst hki;have h1:τ t=τ₀ t:=(h t).2 fun j oj hj hjt hlj=>by rw[hd.c2 j k oj o' t hj ho' hjt hk] at hlj;exact hi hlj
   have h2:τS ops sp τ₀ k t=τ₀ t:=hS.2 fun j oj hj hjt hlj=>by rw[hd.c2 j k oj o' t hj ho' hjt hk] at hlj;omega
   rw[h1,h2]
  have hc:=hd.c1 i k o o' t ho ho' ht hk hki;rcases Nat.lt_or_ge k i with hlt' | hge
  ·rw[(h t).1 k o' ho' hk (hpre k (hc.1 hlt')),hS.1 k o' ho' hk hlt']
  have hlt':i<k:=by omega
  have hp:=hc.2 hlt';have h1:τ t=τ₀ t:=(h t).2 fun j oj hj hjt hlj=>by rw[hd.c2 j k oj o' t hj ho' hjt hk] at hlj;exact hi (hL.pred hp hlj)
  have h2:τS ops sp τ₀ i t=τ₀ t:=hS.2 fun j oj hj hjt hlj=>by rw[hd.c2 j k oj o' t hj ho' hjt hk] at hlj;omega
  rw[h1,h2]
 have hw':∀(k:Nat) o',ops[k]?=some o'→o'.dst=some t→False:=fun k o' h1 h2=>hw ⟨k,o',h1,h2⟩;rw[(h t).2 fun k o' h1 h2 _=>hw' k o' h1 h2,hS.2 fun k o' h1 h2 _=>hw' k o' h1 h2]
theorem Sz {m:Nat}(h:(sp.getD m .skip).isEff=false):LH sp H₀ (m+1)=LH sp H₀ m:=by
 simp only[LH];cases hs:sp.getD m .skip<;>simp_all [Sp.isEff]
theorem Zc {ob:A4}:∀(d m i:Nat),i=m+d→(∀e,m≤e→e<i→(sp.getD e .skip).isEff=true→ob∈LH sp H₀ e)→ob∈LH sp H₀ i→ob∈LH sp H₀ m
 | 0,m,i,h,_,hi=>by subst h;exact hi
 | d+1,m,i,h,he,hi=>by
  cases hs:(sp.getD m .skip).isEff with
  | true=>exact he m Au Au hs
  | false =>
   rw[←Sz hs];exact Zc d (m+1) i Au (fun e h1 h2 h3=>he e Au h2 h3) hi
theorem jr {ob:A4}:∀(d i m:Nat),m=i+d→(∀e,i≤e→e<m→(sp.getD e .skip).isEff=true→ob∈LH sp H₀ (e+1))→ob∈LH sp H₀ i→ob∈LH sp H₀ m
 | 0,i,m,h,_,hi=>by subst h;exact hi
 | d+1,i,m,h,he,hi=>by
  have hm:m=(i+d)+1:=by omega
  cases hs:(sp.getD (i+d) .skip).isEff with
  | true=>rw[hm];exact he (i+d) Au Au hs
  | false =>
   rw[hm,Sz hs];exact jr d i (i+d) O (fun e h1 h2 h3=>he e h1 Au h3) hi
theorem P4:∀(d m i:Nat),i=m+d→(∀e,m≤e→e<i→(sp.getD e .skip).isEff=false)→LH sp H₀ i=LH sp H₀ m
 | 0,m,i,h,_=>by subst h;rfl
 | d+1,m,i,h,he=>by
  have hi:i=(m+d)+1:=by omega
  rw[hi,Sz (he (m+d) Au Au)];exact P4 d m (m+d) O fun e h1 h2=>he e h1 Au
end
theorem I1 {P:Program}{o:Oper}{r:Option Nat}{a:Act}{w:World}{K K':Act→World→Prop}{Q Q':Exit→Act→World→Prop}(h:o.wpIn (W r) 0 P a w K Q) (hk:∀a w,K a w→K' a w) (hq:∀e a w,Q e a w→Q' e a w):o.wpIn (W r) 0 P a w K' Q':=by
 unfold Oper.wpIn at *;refine⟨h.1,?_⟩;replace h:=h.2;generalize (o.semAt (W r).round a.eval).run P w=rr at *;cases rr with
 | ok n w' =>
  cases n<;>simp only[Oper.uponIn] at h ⊢
  case value v=>exact hk _ _ h
  case skip=>exact hk _ _ h
  case defer d=>exact hk _ _ h
  case enter f args =>
   refine⟨h.1,h.2.mono fun e w'' he=>?_⟩;cases e with
   | returned v=>exact hk _ _ he
   | panicked c=>exact hq _ _ _ he
   | outgrown=>obtain⟨a₀,w₀,h2⟩:=he;exact⟨a₀,w₀,hq _ _ _ h2⟩
  case row row args=>exact⟨h.1,h.2.mono fun v w'' h=>hk _ _ h⟩
  case round l' f tmps assign body =>
   refine⟨h.1,h.2.mono fun e w'' he=>?_⟩;cases e with
   | returned v=>exact hk _ _ he
   | panicked c=>exact hq _ _ _ he
   | outgrown=>obtain⟨a₀,w₀,h2⟩:=he;exact⟨a₀,w₀,hq _ _ _ h2⟩
 | halt x w' =>
  cases x<;>simp only[Oper.uponIn] at h ⊢
  case panic v=>exact hq _ _ _ h
def uW (P:Program) (ops:Array Oper) (n:Nat) (D:List D4) (Q:Cj→BM→Prop) (τ₀ τk:Nat→AV) (Hb:List A4) (o:Oper) (K:AV→List A4→Prop):Prop :=
 (∃R,Ep ops ⟨0,τk,[],[]⟩ o∧DL P o (ev τk) Hb R∧(∀v H',R (.val v) H'→K v H')∧∀v H',R (.panic v) H'→∀τ',(∀t,(∀(k:Nat) o,ops[k]?=some o→o.dst≠some t)→τ' t=τ₀ t)→Q (.panic v) ⟨n,τ',H',D⟩) ∨
 ((∃j want d,o.guard=some (j,want)∧(ops[j]?).bind (·.dst)=some d∧ue (τk d) want)∧K (.tup []) Hb)
theorem Pg {P:Program}{r:Option Nat}{ops:Array Oper}{id n:Nat}{τ:Nat→AV}{H:List A4}{D:List D4}{Q:Cj→BM→Prop}(hm:P.follows .mixedOrders=true) (e:Nat) (he:e≤ops.size) (hd:uf ops n) (late:∀i j,e≤i→i<ops.size→j<i→Pred ops j i)
  {ι:Type} (SP:ι→List Sp) (I:ι→(Nat→Bool)→List A4→Prop) (h0:∃ix,I ix (fun _=>false) H)
  (step:∀ix l Hb i o,I ix l Hb→i<e→ops[i]?=some o→l i=false→Down ops (fun k=>l k=true)→(∀j,Pred ops j i→l j=true) →
   uW P ops n D Q τ (τS ops (SP ix) τ i) Hb o fun v H'=>∃ix',(∀k,l k=true→((SP ix').getD k .skip).val=((SP ix).getD k .skip).val)∧((SP ix').getD i .skip).val=v∧I ix' (fun k=>l k||k==i) H')
  (fin:∀ix l Hb,I ix l Hb→(∀k,k<e→l k=true)→(∀k,e≤k→l k=false)→AL P r ops e ⟨n,τS ops (SP ix) τ e,Hb,D⟩ Q):IK P r (.region id ops true) ⟨n,τ,H,D⟩ Q:=by
 intro F₀ a₀ w₀ hs₀;refine wpIn_region_any hm ?_;have same:Dq F₀ w₀ F₀ { w₀ with drawn:=w₀.drawn+1 }:=⟨Nat.le_refl _,fun _ _ _=>rfl,fun _ h _=>h⟩;have t₀:Trans F₀ H w₀ F₀ H { w₀ with drawn:=w₀.drawn+1 } :=
  ⟨Nat.le_refl _,fun _ _ _=>rfl,fun _ h _=>h,fun _ h=> .inl h,fun o ho b hb=> .inl ⟨o,ho,hb⟩,rfl,rfl,rfl⟩
 have hs₁:GI F₀ ⟨n,τ,H,D⟩ a₀ { w₀ with drawn:=w₀.drawn+1 } :=
  ⟨hs₀.size,fun t=>Bz.mono same _ _ (hs₀.tmp t),hs₀.heap.stable' same (fun _ h=>h) (fun _ _ _ _=>rfl) hs₀.heap.bd,Gg.mono same _ _ hs₀.defs⟩
 -- where all of the first part has been carried out,the rest goes in the order of the text
 have conv:∀{l:Array Bool} {a w ix τ' F Hb},(∀j,j<e→l.getD j false=true)→(∀k,e≤k→l.getD k false=false)→I ix (fun k=>l.getD k false) Hb→RQ ops (SP ix) τ (fun i=>l.getD i false=true) τ'→GI F ⟨n,τ',Hb,D⟩ a w→Trans F₀ H w₀ F Hb w →
   wpOpsIn (W r) 0 P ops (post F₀ H w₀ Q) (List.range' e (ops.size - e)) a w:=by
  intro l a w ix τ' F Hb hall hno hI hτ hs ht;have hτe:τ'=τS ops (SP ix) τ e:=by
   funext t;have h2:=XW (sp:=SP ix) (τ₀:=τ) hd e he t;by_cases hw:∃(k:Nat) (o':Oper),ops[k]?=some o'∧o'.dst=some t∧k<e
   ·obtain⟨k,o',ho',hk,hlt⟩:=hw;rw[(hτ t).1 k o' ho' hk (hall k hlt),h2.1 k o' ho' hk hlt]
   rw[(hτ t).2 fun k o' h1 h2 h3=>(by have h4:l.getD k false=true:=h3;rcases Nat.lt_or_ge k e with h | h;exact hw ⟨k,o',h1,h2,h⟩;rw[hno k h] at h4;cases h4),h2.2 fun k o' h1 h2 h3=>hw ⟨k,o',h1,h2,h3⟩]
  subst hτe;exact Ev (fun _ _ _ hq=>HE hs₀.heap.bd ht hq) _ _ _ (fin ix _ Hb hI hall hno F a w hs)
 obtain⟨J,hJ⟩:∃J:Array Bool→Act→World→Prop,J=fun l a w=>l.size=ops.size∧((∃ix Hb τ' F,Down ops (fun k=>l.getD k false=true)∧(∀k,e≤k→l.getD k false=false)∧I ix (fun k=>l.getD k false) Hb∧RQ ops (SP ix) τ (fun k=>l.getD k false=true) τ'∧GI F ⟨n,τ',Hb,D⟩ a w∧Trans F₀ H w₀ F Hb w) ∨
  (∃m,e≤m∧m≤ops.size∧(∀k,k<ops.size→(l.getD k false=true↔k<m))∧wpOpsIn (W r) 0 P ops (post F₀ H w₀ Q) (List.range' m (ops.size - m)) a w)):=⟨_,rfl⟩
 refine gG J (fun l a w h=>by rw[hJ] at h;exact h.1) ?_ ?_ _ _ _ _ ?_ ?_
 ·intro l a w h i hi;rw[hJ] at h;obtain⟨hsz,hI⟩:=h;obtain⟨hun,o,ho,hall⟩:=mem_ready.1 hi;have hlt:i<ops.size:=by
   rcases Nat.lt_or_ge i ops.size with h | h
   ·exact h
   simp[Array.getElem?_eq_none h] at ho
  have hil:i<l.size:=by omega
  have hnot:l.getD i false=false:=by
   have:l[i]=false:=by simpa [hil] using hun
   simp[hil,this]
  have hr:∀j∈HK o,l.getD j false=true:=by
   intro j hj;simp only[HK,List.mem_map,List.mem_filter] at hj;obtain⟨e,⟨he,hb⟩,rfl⟩:=hj;exact hall e (by simpa using he) hb
  have hpre:(∀{a b},Pred ops a b→l.getD b false=true→l.getD a false=true)→∀j,Pred ops j i→l.getD j false=true:=by
   intro hp j hj;have:∀{a b},Pred ops a b→b=i→l.getD a false=true:=by
    intro a b hab
    induction hab with
    | base ho' hj=>intro e;subst e;rw[ho] at ho';injection ho' with ho';subst ho';exact hr _ hj
    | trans p1 _ _ ih2=>intro e;exact hp p1 (ih2 e)
   exact this hj O
  have hset2:(fun k=>(l.setIfInBounds i true).getD k false)=fun k=>l.getD k false||k==i:=by
   funext k;by_cases hk:k=i
   ·subst hk;simp[hil]
   simp[Array.getElem?_setIfInBounds_ne (Ne.symm hk),hk]
  have hset:∀k,(l.setIfInBounds i true).getD k false=true↔(l.getD k false=true∨k=i):=by
   intro k;rw[congrFun hset2 k];simp
  have hsz':(l.setIfInBounds i true).size=ops.size:=by simp[hsz]
  have goLate:e≤i→(∀k,k<ops.size→(l.getD k false=true↔k<i))→wpOpsIn (W r) 0 P ops (post F₀ H w₀ Q) (List.range' i (ops.size - i)) a w→wpOpIn (W r) 0 P ops (post F₀ H w₀ Q) i (J (l.setIfInBounds i true)) a w:=by
   intro h1 h3 hw;rw[Lp hlt,wpOpsIn_cons] at hw;refine wpOpIn_mono (fun a' w' h'=>by rw[hJ];exact⟨hsz',.inr ⟨i+1,by omega,by omega,fun k hk=>by rw[hset k,h3 k hk];omega,h'⟩⟩) hw
  rcases hI with ⟨ix,Hb,τ',F,hdown,hno,hI,hτ,hs,ht⟩ | ⟨m,hm1,hm2,hm3,hw⟩
  ·have hpre:=hpre fun h1 h2=>hdown.pred h1 h2;rcases Nat.lt_or_ge i e with hie | hie
   ·have hlook:∀t∈looks ops o,τ' t=τS ops (SP ix) τ i t:=fun t ht=>iR hd hdown hτ ho (by rw[hnot];decide) hr ht;have hops:∀x∈o.op.operands.toList,ev τ' x=ev (τS ops (SP ix) τ i) x:=by
     intro x hx;cases x with
     | tmp t=>exact hlook t (List.mem_append_left _ (List.mem_filterMap.2 ⟨.tmp t,hx,rfl⟩))
     | _=>rfl
    have hguard:∀j want d,o.guard=some (j,want)→(ops[j]?).bind (·.dst)=some d→τ' d=τS ops (SP ix) τ i d:=by
     intro j want d hg hj;refine hlook d (List.mem_append_right _ ?_);simp[hg,hj]
    have close:∀{v H' a' w' F'},(∃ix',(∀k,l.getD k false=true→((SP ix').getD k .skip).val=((SP ix).getD k .skip).val)∧((SP ix').getD i .skip).val=v∧I ix' (fun k=>l.getD k false||k==i) H')→GI F' ⟨n,put τ' o.dst v,H',D⟩ a' w'→Trans F Hb w F' H' w'→J (l.setIfInBounds i true) a' w':=by
     intro v H' a' w' F' hK h3 h4;obtain⟨ix',hag,hv,hI'⟩:=hK;rw[hJ];refine⟨hsz',.inl ⟨ix',H',_,F',?_,fun k hk=>?_,by rw[hset2];exact hI',?_,h3,ht.trans hs₀.heap.bd h4⟩⟩
     ·intro k o' j ho' hk hj;rcases (hset k).1 hk with h | h
      ·exact(hset j).2 (.inl (hdown k o' j ho' h hj))
      subst h;rw[ho] at ho';injection ho' with ho';subst ho';exact(hset j).2 (.inl (hr j hj))
     ·rw[congrFun hset2 k,hno k hk];simp;omega
     have hτ2:RQ ops (SP ix') τ (fun k=>l.getD k false=true) τ':=fun t=>⟨fun k o' a1 a2 a3=>by rw[hag k a3];exact(hτ t).1 k o' a1 a2 a3,(hτ t).2⟩;have hτ3:=hτ2.put hd ho;rw[hv] at hτ3;intro t;exact⟨fun k o' a1 a2 a3=>(hτ3 t).1 k o' a1 a2 ((hset k).1 a3),fun hn=>(hτ3 t).2 fun k o' a1 a2 a3=>hn k o' a1 a2 ((hset k).2 a3)⟩
    have hdst:=fun t ht=>hd.dst i o t ho ht;rcases step ix _ Hb i o hI hie ho hnot hdown hpre with ⟨R,hwant,hop,hval,hpan⟩ | ⟨⟨j,want,d,hg,hj,hb⟩,hK⟩
    ·have hwant':Ep ops ⟨n,τ',Hb,D⟩ o:=by
      unfold Ep at *;cases hg:o.guard with
      | none=>simp[hg]
      | some jw =>
       obtain⟨j,want⟩:=jw;simp only[hg] at hwant ⊢;obtain⟨d,h1,h2⟩:=hwant;exact⟨d,h1,by rw[←h2];exact hguard j want d hg h1⟩
     unfold wpOpIn;simp only[ho,VZ hs hwant',if_true];refine I1 (hop r F _ a w hs O (fun x hx=>hops x hx) hdst) ?_ ?_
     ·rintro a' w' ⟨v',H'',F',h1,h3,h4⟩;exact close (hval v' H'' h1) h3 h4
     rintro e' a' w' ⟨v',H'',F',u,h1,rfl,h2,h3,h4⟩;exact⟨.panic v',_,F',hpan v' H'' h1 τ' (fun t hn=>(hτ t).2 fun k o' a1 a2 _=>hn k o' a1 a2),⟨u,O,h2⟩,h3,ht.trans hs₀.heap.bd h4⟩
    have hw:Region.wanted o (yielded ops a.tmps)=false:=YB (S:=⟨n,τ',Hb,D⟩) hs hg hj (by show ue (τ' d) want;rw[hguard j want d hg hj];exact hb);unfold wpOpIn;simp only[ho,hw,Bool.false_eq_true,if_false];refine⟨fun _ _=>Aw,close hK ?_ .refl⟩;exact hs.put hdst ⟨Nat.le_refl _,fun _ _ _=>O,fun _ h _=>h⟩ hs.heap (by simp only[Bz,Bf,undef];exact⟨[],rfl,rfl⟩)
   have hp:∀j,j<i→l.getD j false=true:=fun j hj=>hpre j (late i j hie hlt hj);have hie':i=e:=by
    rcases Nat.lt_or_ge e i with h | h
    ·have h1:=hp e h;rw[hno e (Nat.le_refl _)] at h1;cases h1
    omega
   subst hie';refine goLate (Nat.le_refl _) (fun k hk=>⟨fun h=>?_,fun h=>hp k h⟩) (conv hp hno hI hτ hs ht);rcases Nat.lt_or_ge k i with h' | h'
   ·exact h'
   rw[hno k h'] at h;cases h
  have hmi:m≤i:=by
   rcases Nat.lt_or_ge i m with h | h
   ·have:=(hm3 i hlt).2 h;rw[hnot] at this;cases this
   exact h
  have him:i=m:=by
   rcases Nat.lt_or_ge m i with h | h
   ·have hpi:=late i m Au hlt h;have hks:∀{k},l.getD k false=true→k<ops.size:=by
     intro k hk;rcases Nat.lt_or_ge k ops.size with h | h
     ·exact h
     have:¬k<l.size:=by omega
     simp[this] at hk
    have:=(hm3 m Au).1 (hpre (fun {a b} h1 h2=>by have h3:=hks h2;have h4:=(hm3 b h3).1 h2;have h5:=h1.lt hd;exact(hm3 a Au).2 Au) m hpi);omega
   omega
  subst him;exact goLate hm1 hm3 hw
 ·intro l a w h hr;rw[hJ] at h;obtain⟨hsz,hI⟩:=h;have hall:∀i,i<ops.size→l.getD i false=true:=by
   intro i
   induction i using Nat.strongRecOn with
   | _ i ih =>
    intro hi;cases hq:l.getD i false with
    | true=>rfl
    | false =>
     have ho:ops[i]?=some ops[i]:=Array.getElem?_eq_getElem hi;have:i∈Region.ready .any ops l:=by
      refine mem_ready.2 ⟨?_,ops[i],ho,?_⟩
      ·have:i<l.size:=by omega
       simp[this] at hq ⊢;exact hq
      intro e he hb;have hj:e.on∈HK ops[i]:=by
       simp only[HK,List.mem_map,List.mem_filter];exact⟨e,⟨by simpa using he,hb⟩,rfl⟩
      have hlt:=hd.c0 i _ _ ho hj;exact ih e.on hlt Au
     rw[hr] at this;cases this
  rcases hI with ⟨ix,Hb,τ',F,hdown,hno,hI,hτ,hs,ht⟩ | ⟨m,hm1,hm2,hm3,hw⟩
  ·have hbs:e=ops.size:=by
    rcases Nat.lt_or_ge e ops.size with h | h
    ·have:=hall e h;rw[hno e (Nat.le_refl _)] at this;cases this
    omega
   have:=conv (fun j hj=>hall j Au) hno hI hτ hs ht;rw[hbs,Nat.sub_self] at this;exact this
  have hms:m=ops.size:=by
   rcases Nat.lt_or_ge m ops.size with h | h
   ·have:=(hm3 m h).1 (hall m h);omega
   omega
  rw[hms,Nat.sub_self] at hw;exact hw
 ·obtain⟨ix,h0⟩:=h0;have hf:∀k,(Array.replicate ops.size false).getD k false=false:=fun k=>by by_cases h:k<ops.size<;>simp[h]
  rw[hJ];refine⟨by simp,.inl ⟨ix,H,τ,F₀,?_,fun k _=>hf k,by simp only[hf];exact h0,?_,hs₁,t₀⟩⟩
  ·intro i o j ho hi;rw[hf i] at hi;cases hi
  intro t;refine⟨fun k o ho hk hl=>?_,fun _=>O⟩;have h4:(Array.replicate ops.size false).getD k false=true:=hl;rw[hf k] at h4;cases h4
 have:=List.length_filter_le (fun b:Bool=> !b) (Array.replicate ops.size false).toList;simp at this ⊢
theorem kD {P : Program} {r : Option Nat} {ops : Array Oper} {id n : Nat} {τ : Nat → AV} {H : List A4} {D : List D4} {Q : Cj → BM → Prop} (hm : P.follows .mixedOrders = true) {ι : Type} {Good : ι → Prop} {Ok : ι → Nat → Prop} {Fam : ι → List Sp} {opn : Nat → Bool}
  (hR : ∃ i, Good i) (hfd : ∀ i, Good i → vG P ops n (fun k => (opn k = false ∨ (Fam i).getD k .skip = .skip) ∧ ∀ p, opn p = true → Pred ops p k → Ok i p) τ H (Fam i)) (hskp : ∀ i p, Good i → (Fam i).getD p .skip = .skip → Ok i p)
  (heff : ∀ i p, Good i → opn p = true → (Fam i).getD p .skip ≠ .skip → p < ops.size → (∀ q, opn q = true → Pred ops q p → Ok i q) → ((Fam i).getD p .skip).isEff = true)
  (hop : ∀ i p o, Good i → opn p = true → (Fam i).getD p .skip ≠ .skip → ops[p]? = some o → (∀ q, opn q = true → Pred ops q p → Ok i q) → ∃ R, Ep ops ⟨0, τS ops (Fam i) τ p, [], []⟩ o ∧ DL P o (ev (τS ops (Fam i) τ p)) (LH (Fam i) H p) R ∧
   (∀ v H', R (.val v) H' → ∃ i', Good i' ∧ (∀ k, k ≠ p → ¬ Pred ops p k → (Fam i').getD k .skip = (Fam i).getD k .skip ∧ (Ok i k → Ok i' k)) ∧ Ok i' p ∧ (Fam i').getD p .skip = .eff v H') ∧
   (∀ v H', R (.panic v) H' → ∀ τ', (∀ t, (∀ (k : Nat) o, ops[k]? = some o → o.dst ≠ some t) → τ' t = τ t) → Q (.panic v) ⟨n, τ', H', D⟩))
  (next : ∀ i, Good i → (∀ p, opn p = true → p < ops.size → Ok i p) → Q .normal ⟨n, τS ops (Fam i) τ ops.size, LH (Fam i) H ops.size, D⟩) : IK P r (.region id ops true) ⟨n, τ, H, D⟩ Q := by
 obtain ⟨i₀, hG₀⟩ := hR
 obtain ⟨I, hI⟩ : ∃ I : ι → (Nat → Bool) → List A4 → Prop, I = fun ix l Hb => Good ix ∧ (∀ p, opn p = true → l p = true → Ok ix p) ∧ ∃ m, m ≤ ops.size ∧ (∀ e, e < ops.size → ((Fam ix).getD e .skip).isEff = true → (l e = true ↔ e < m)) ∧ Hb = LH (Fam ix) H m := ⟨_, rfl⟩
 refine Pg hm ops.size (Nat.le_refl _) (hfd i₀ hG₀).1 (fun i j h1 h2 => absurd h1 Au) Fam I ?_ ?_ ?_
 ·rw [hI]; exact ⟨i₀, hG₀, fun _ _ h => by (cases h), 0, Nat.zero_le _, fun e _ _ => ⟨fun h => by (cases h), fun h => by omega⟩, rfl⟩
 ·intro ix l Hb i o h
  rw [hI] at h
  obtain ⟨hG, hOk, m, hm', hst, rfl⟩ := h
  intro hlt ho hnot hdown hpre
  have hd := hfd ix hG
  have hspp := heff ix i hG
  have hopp := hop ix i o hG
  have hskk := hskp ix i hG
  have hOkp : ∀ q, opn q = true → Pred ops q i → Ok ix q := fun q hq hp => hOk q hq (hpre q hp)
  have hset : ∀ k, (l k || k == i) = true ↔ (l k = true ∨ k = i) := fun k => by simp
  have least : ((Fam ix).getD i .skip).isEff = true → m ≤ i ∧ LH (Fam ix) H i = LH (Fam ix) H m := by
   intro hee
   have hmi : m ≤ i := by
    rcases Nat.lt_or_ge i m with h | h
    ·have := (hst i hlt hee).2 h; rw [hnot] at this; cases this
    exact h
   refine ⟨hmi, P4 (i - m) m i Au fun e h1 h2 => ?_⟩
   cases hq : ((Fam ix).getD e .skip).isEff with
   | false => rfl
   | true =>
    have := (hst e Au hq).1 (hpre e (hd.c3 e i h2 hlt hq hee))
    omega
  have okl : (opn i = false ∨ (Fam ix).getD i .skip = .skip) → ∀ p, opn p = true → (l p || p == i) = true → Ok ix p := by
   intro hno p hp hl
   rcases (hset p).1 hl with h | rfl
   ·exact hOk p hp h
   rcases hno with hno | hno
   ·rw [hno] at hp; cases hp
   exact hskk hno
  have stay : ((Fam ix).getD i .skip).isEff = false → ∀ e, e < ops.size → ((Fam ix).getD e .skip).isEff = true → ((l e || e == i) = true ↔ e < m) := by
   intro hne e he hee
   rw [hset e, hst e he hee]
   exact ⟨fun h => h.elim (fun h => h) fun h => by (subst h; rw [hne] at hee; cases hee), .inl⟩
  by_cases hip : opn i = true ∧ (Fam ix).getD i .skip ≠ .skip
  ·obtain ⟨R, hwant, hopi, hvals, hpans⟩ := hopp hip.1 hip.2 ho hOkp
   have hee := hspp hip.1 hip.2 hlt hOkp
   obtain ⟨hmi, hconst⟩ := least hee
   rw [hconst] at hopi
   refine .inl ⟨R, hwant, hopi, fun v H' hR => ?_, hpans⟩
   obtain ⟨ix', hG', hag', hok', hspi'⟩ := hvals v H' hR
   have hLn : ∀ k, l k = true → k ≠ i ∧ ¬ Pred ops i k := fun k hk => ⟨fun e => by (subst e; rw [hnot] at hk; cases hk), fun h => by (have := hdown.pred h hk; rw [hnot] at this; cases this)⟩
   have hag : ∀ k, l k = true → (Fam ix').getD k .skip = (Fam ix).getD k .skip := fun k hk => (hag' k (hLn k hk).1 (hLn k hk).2).1
   have hee' : ((Fam ix').getD i .skip).isEff = true := by rw [hspi']; rfl
   rw [hI]
   refine ⟨ix', fun k hk => by rw [hag k hk], by rw [hspi']; rfl, hG', fun p hp hl => ?_, i + 1, by omega, fun e he hq => ?_, by simp only [LH, hspi']⟩
   ·rcases (hset p).1 hl with h | rfl
    ·exact (hag' p (hLn p h).1 (hLn p h).2).2 (hOk p hp h)
    exact hok'
   rw [hset e]
   refine ⟨fun h => ?_, fun h => ?_⟩
   ·rcases h with h | h
    ·have := (hst e he (by rw [← hag e h]; exact hq)).1 h; omega
    omega
   by_cases hei : e = i
   ·exact .inr hei
   exact .inl (hpre e ((hfd ix' hG').c3 e i Au hlt hq hee'))
  have hip : opn i = false ∨ (Fam ix).getD i .skip = .skip := by
   cases h : opn i with
   | false => exact .inl rfl
   | true => exact .inr (Classical.not_not.1 fun h' => hip ⟨h, h'⟩)
  have hrun := hd.run i o ho ⟨hip, hOkp⟩
  have yields : ∀ {v H' m'}, ((Fam ix).getD i .skip).val = v → Ep ops ⟨0, τS ops (Fam ix) τ i, [], []⟩ o → Dm P o (ev (τS ops (Fam ix) τ i)) (LH (Fam ix) H m) v H' → H' = LH (Fam ix) H m' → m' ≤ ops.size →
    (∀ e, e < ops.size → ((Fam ix).getD e .skip).isEff = true → ((l e || e == i) = true ↔ e < m')) → uW P ops n D Q τ (τS ops (Fam ix) τ i) (LH (Fam ix) H m) o (fun v H' => ∃ ix', (∀ k, l k = true → ((Fam ix').getD k .skip).val = ((Fam ix).getD k .skip).val) ∧ ((Fam ix').getD i .skip).val = v ∧ I ix' (fun k => l k || k == i) H') := fun {v H' m'} hv hw hop hH h1 h2 =>
   Or.inl ⟨det v H', hw, hop, fun v' H'' ⟨a, b⟩ => ⟨ix, fun _ _ => rfl, by rw [hv, a], by rw [hI]; exact ⟨hG, okl hip, m', h1, h2, by rw [b, hH]⟩⟩, fun _ _ h => h.elim⟩
  cases hsp : (Fam ix).getD i .skip with
  | skip =>
   rw [hsp] at hrun
   exact .inr ⟨hrun, ix, fun _ _ => O, by rw [hsp]; rfl, by rw [hI]; exact ⟨hG, okl hip, m, hm', stay (by rw [hsp]; rfl), rfl⟩⟩
  | free v =>
   rw [hsp] at hrun
   exact yields (by rw [hsp]; rfl) hrun.1 (hrun.2 _) O hm' (stay (by rw [hsp]; rfl))
  | read obs v =>
   rw [hsp] at hrun
   obtain ⟨hwant, hmem, hop⟩ := hrun
   refine yields (by rw [hsp]; rfl) hwant (hop _ fun ob hob => ?_) O hm' (stay (by rw [hsp]; rfl))
   have hun' : ∀ e, e < ops.size → ((Fam ix).getD e .skip).isEff = true → ¬ Pred ops e i → ¬ Pred ops i e → ob ∈ LH (Fam ix) H e ∧ ob ∈ LH (Fam ix) H (e + 1) := by
    intro e he hee h1 h2
    rcases hd.c4 i e obs v ob hlt he hsp hob hee with (h | h) | h
    ·exact absurd h h1
    ·exact absurd h h2
    exact h
   have hnl : ¬ l i = true := by rw [hnot]; exact Bool.false_ne_true
   rcases Nat.le_total m i with hmi | him
   ·refine Zc (i - m) m i Au (fun e h1 h2 h3 => ?_) (hmem ob hob)
    exact (hun' e Au h3 (fun h => by have := (hst e Au h3).1 (hpre e h); omega) (fun h => by have := h.lt hd.1; omega)).1
   ·refine jr (m - i) i m Au (fun e h1 h2 h3 => ?_) (hmem ob hob)
    have hel : l e = true := (hst e Au h3).2 h2
    have hne : e ≠ i := fun h => by subst h; exact hnl hel
    exact (hun' e Au h3 (fun h => by have := h.lt hd.1; omega) (fun h => hnl (hdown.pred h hel))).2
  | eff v H' =>
   rw [hsp] at hrun
   have hee : ((Fam ix).getD i .skip).isEff = true := by rw [hsp]; rfl
   obtain ⟨hmi, hconst⟩ := least hee
   rw [hconst] at hrun
   refine yields (m' := i + 1) (by rw [hsp]; rfl) hrun.1 hrun.2 (by simp only [LH, hsp]) Au fun e he hq => ?_
   rw [hset e, hst e he hq]
   refine ⟨fun h => by omega, fun h => ?_⟩
   rcases Nat.lt_or_ge e m with h' | h'
   ·exact .inl h'
   by_cases hei : e = i
   ·exact .inr hei
   exact .inl ((hst e he hq).1 (hpre e (hd.c3 e i Au hlt hq hee)))
 intro ix l Hb h hall _
 rw [hI] at h
 obtain ⟨hG, hOk, m, hm', hst, rfl⟩ := h
 refine Ch (Nat.sub_self _) ?_
 have hHe : LH (Fam ix) H ops.size = LH (Fam ix) H m := by
  refine P4 (ops.size - m) m ops.size Au fun e h1 h2 => ?_
  cases hq : ((Fam ix).getD e .skip).isEff with
  | false => rfl
  | true =>
   have := (hst e h2 hq).1 (hall e h2)
   omega
 rw [← hHe]
 exact next ix hG fun p hp hlt => hOk p hp (hall p hlt)
def VI (acc:List Nat) (o:Oper):Nat:=(HK o).foldl (fun m j=>m |||2 ^ j |||acc.getD j 0) 0
def kZ:List Nat→List Oper→List Nat
 | acc,[]=>acc
 | acc,o::r=>kZ (acc++[VI acc o]) r
def bm (ops:Array Oper):List Nat:=kZ [] ops.toList
def OC (ops:Array Oper) (j i:Nat):Bool:=((bm ops).getD i 0).testBit j
theorem WJ {acc:List Nat}{j:Nat}:∀(l:List Nat) (m:Nat),(l.foldl (fun m j=>m |||2 ^ j |||acc.getD j 0) m).testBit j=true→m.testBit j=true∨∃k∈l,j=k∨(acc.getD k 0).testBit j=true
 | [],m,h=> .inl h
 | k::l,m,h=>by
  rcases WJ l _ h with h | ⟨k',hk,h⟩
  ·simp only[Nat.testBit_or,Nat.testBit_two_pow,Bool.or_eq_true,decide_eq_true_eq] at h;rcases h with (h | h) | h
   ·exact .inl h
   ·exact .inr ⟨k,by simp,.inl h.symm⟩
   exact .inr ⟨k,by simp,.inr h⟩
  exact .inr ⟨k',by simp[hk],h⟩
theorem TZ {ops:Array Oper}:∀(r:List Oper) (acc:List Nat),(∀(j:Nat),r[j]?=ops.toList[acc.length+j]?)→(∀i j,(acc.getD i 0).testBit j=true→Pred ops j i) →
  ∀i j,((kZ acc r).getD i 0).testBit j=true→Pred ops j i
 | [],acc,_,h=>h
 | o::r,acc,hr,h=>by
  refine TZ r _ ?_ ?_
  ·intro j;have:=hr (j+1);simp only[List.getElem?_cons_succ,List.length_append,List.length_singleton] at this ⊢;rw[this];congr 1;omega
  intro i j hb;have ho:ops[acc.length]?=some o:=by
   have:=hr 0;simpa using this.symm
  rcases Nat.lt_trichotomy i acc.length with hlt | heq | hgt
  ·have e:(acc++[VI acc o]).getD i 0=acc.getD i 0:=by simp[List.getD,List.getElem?_append_left hlt]
   rw[e] at hb;exact h i j hb
  ·subst heq;have e:(acc++[VI acc o]).getD acc.length 0=VI acc o:=by simp
   rw[e] at hb;rcases WJ _ _ hb with hb | ⟨k,hk,hb⟩
   ·simp at hb
   rcases hb with rfl | hb
   ·exact .base ho hk
   exact(h k j hb).trans (.base ho hk)
  have e:(acc++[VI acc o]).getD i 0=0:=by
   simp[List.getD,List.getElem?_eq_none (by simp;omega:(acc++[VI acc o]).length≤i)]
  rw[e] at hb;simp at hb
theorem FO {ops:Array Oper}{j i:Nat}(h:OC ops j i=true):Pred ops j i :=
 TZ ops.toList [] Av (by intro i j h;simp at h) i j h
def Me (ops:Array Oper) (n:Nat) (effs:List Bool):Bool :=
 let b:=bm ops
 let pr (j i:Nat):Bool:=(b.getD i 0).testBit j
 let l:=ops.toList.zipIdx
 l.all fun(o,i) =>
  (HK o).all (fun j=>Nat.blt j i) &&
  (match o.dst with | some t=>Nat.blt t n | none=>true) &&
  l.all fun(o',k) =>
   (Nat.beq k i||(match o'.dst with
    | some t=> !((looks ops o).contains t)||(if Nat.blt k i then pr k i else pr i k)
    | none=>true)) &&
   (Nat.beq k i||(match o.dst,o'.dst with
    | some t,some t'=> !(Nat.beq t t')
    | _,_=>true)) &&
   (!(Nat.blt i k&&effs.getD i false&&effs.getD k false)||pr i k)
theorem Nk {ops:Array Oper}{n:Nat}{effs:List Bool}(h:Me ops n effs=true) :
  (∀(k:Nat) o t,ops[k]?=some o→o.dst=some t→t<n)∧(∀(i:Nat) o j,ops[i]?=some o→j∈HK o→j<i) ∧
  (∀(i k:Nat) o o' t,ops[i]?=some o→ops[k]?=some o'→t∈looks ops o→o'.dst=some t→k≠i→(k<i→Pred ops k i)∧(i<k→Pred ops i k)) ∧
  (∀(i k:Nat) o o' t,ops[i]?=some o→ops[k]?=some o'→o.dst=some t→o'.dst=some t→i=k) ∧
  (∀(i k:Nat),i<k→k<ops.size→effs.getD i false=true→effs.getD k false=true→Pred ops i k):=by
 unfold Me at h;rw[List.all_eq_true] at h;have at':∀(i:Nat) o,ops[i]?=some o→(o,i)∈ops.toList.zipIdx:=by
  intro i o ho;rw[List.mem_zipIdx_iff_getElem?];simpa using ho
 refine⟨?_,?_,?_,?_,?_⟩
 ·intro k o t ho ht;have:=h _ (at' k o ho);simp only[Bool.and_eq_true] at this;have:=this.1.2;rw[ht] at this;simpa [Nat.blt_eq] using this
 ·intro i o j ho hj;have:=h _ (at' i o ho);simp only[Bool.and_eq_true] at this;have:=List.all_eq_true.1 this.1.1 j hj;simpa [Nat.blt_eq] using this
 ·intro i k o o' t ho ho' ht hk hki;have:=h _ (at' i o ho);simp only[Bool.and_eq_true] at this;have:=List.all_eq_true.1 this.2 _ (at' k o' ho');simp only[Bool.and_eq_true,Bool.or_eq_true] at this;have:=this.1.1;rcases this with h | h
  ·exact absurd (Nat.eq_of_beq_eq_true h) hki
  rw[hk] at h;simp only[Bool.or_eq_true,Bool.not_eq_true'] at h;rcases h with h | h
  ·simp at h;exact absurd ht h
  constructor
  ·intro hlt;rw[if_pos (by simpa [Nat.blt_eq] using hlt)] at h;exact FO h
  intro hlt;rw[if_neg (by simp[Nat.blt_eq];omega)] at h;exact FO h
 ·intro i k o o' t ho ho' ht hk;have:=h _ (at' i o ho);simp only[Bool.and_eq_true] at this;have:=List.all_eq_true.1 this.2 _ (at' k o' ho');simp only[Bool.and_eq_true,Bool.or_eq_true] at this;have:=this.1.2;rcases this with h | h
  ·exact(Nat.eq_of_beq_eq_true h).symm
  rw[ht,hk] at h;simp[Nat.beq_refl] at h
 intro i k hlt hk hi hke;have ho:ops[i]?=some ops[i]:=Array.getElem?_eq_getElem Au;have ho':ops[k]?=some ops[k]:=Array.getElem?_eq_getElem hk;have:=h _ (at' i _ ho);simp only[Bool.and_eq_true] at this;have:=List.all_eq_true.1 this.2 _ (at' k _ ho');simp only[Bool.and_eq_true,Bool.or_eq_true] at this;have:=this.2;simp only[hi,hke,Bool.and_true,Bool.not_eq_true'] at this;rcases this with h | h
 ·have:Nat.blt i k=true:=by simpa [Nat.blt_eq] using hlt
  simp[this] at h
 exact FO h
def KJ (ops:Array Oper) (k:Nat) (H H':List A4):List (Nat×A4)→Prop
 | []=>True
 | (i,ob)::r=>(OC ops i k=true∨(ob∈H∧ob∈H'))∧KJ ops k H H' r
def iS (ops:Array Oper) (k:Nat) (ob:A4):List (Nat×List A4×List A4)→Prop
 | []=>True
 | (e,H,H')::r=>(OC ops e k=true∨(ob∈H∧ob∈H'))∧iS ops k ob r
theorem SF {ops:Array Oper}{k:Nat}{H H':List A4}:∀{rd:List (Nat×A4)}{i ob},KJ ops k H H' rd→(i,ob)∈rd→OC ops i k=true∨(ob∈H∧ob∈H')
 | [],_,_,_,h=>by cases h
 | (j,ob')::r,i,ob,h,hm=>by
  rcases List.mem_cons.1 hm with e | hm
  ·injection e with e1 e2;subst e1;subst e2;exact h.1
  exact SF h.2 hm
theorem dz {ops:Array Oper}{k:Nat}{ob:A4}:∀{ef:List (Nat×List A4×List A4)}{e H H'},iS ops k ob ef→(e,H,H')∈ef→OC ops e k=true∨(ob∈H∧ob∈H')
 | [],_,_,_,_,h=>by cases h
 | (j,G,G')::r,e,H,H',h,hm=>by
  rcases List.mem_cons.1 hm with q | hm
  ·injection q with e1 e2;injection e2 with e2 e3;subst e1;subst e2;subst e3;exact h.1
  exact dz h.2 hm
theorem Ud (sp:List Sp) (i:Nat):(sp.map Sp.isEff).getD i false=(sp.getD i .skip).isEff:=by
 induction sp generalizing i with
 | nil=>rfl
 | cons s sp ih =>
  cases i with
  | zero=>rfl
  | succ i=>simpa using ih i
def Sp.heap:Sp→List A4→List A4
 | .eff _ H',_=>H'
 | _,H=>H
def Sp.rd:Sp→Nat→List (Nat×A4)→List (Nat×A4)
 | .read obs _,k,rd=>obs.map (fun ob=>(k,ob))++rd
 | _,_,rd=>rd
def Sp.ef:Sp→Nat→List A4→List (Nat×List A4×List A4)→List (Nat×List A4×List A4)
 | .eff _ H',k,H,ef=>(k,H,H')::ef
 | _,_,_,ef=>ef
def uE (ops:Array Oper) (k:Nat) (H:List A4) (rd:List (Nat×A4)) (ef:List (Nat×List A4×List A4)):Sp→Prop
 | .read obs _=>∀ob∈obs,iS ops k ob ef
 | .eff _ H'=>KJ ops k H H' rd
 | _=>True
def Hp (k:Nat) (s:Sp):List (Nat×Sp)→Prop
 | []=>True
 | (j,s')::r=>(bif Nat.beq j k then s=s' else True)∧Hp k s r
def E5 (ops:Array Oper) (p:Nat) (fx:List Nat):Bool:=(List.range ops.size).all fun k=> !(Nat.blt p k)||OC ops p k||fx.contains k
def OT (k:Nat):List (Nat×Sp)→Bool
 | []=>true
 | (j,_)::r=>Nat.blt j k&&OT k r
theorem WT {k:Nat}:∀{fx:List (Nat×Sp)},OT k fx=true→∀{j s},(j,s)∈fx→j<k
 | [],_,_,_,h=>by cases h
 | (i,t)::r,h,j,s,hm=>by
  simp only[OT,Bool.and_eq_true] at h;rcases List.mem_cons.1 hm with e | hm
  ·injection e with e1 e2;subst e1;exact Nat.le_of_ble_eq_true h.1
  exact WT h.2 hm
abbrev ZW:=List (Nat×A4)
abbrev Yy:=List (Nat×List A4×List A4)
inductive Dr (P:Program) (ops:Array Oper) (n:Nat) (τ₀:Nat→AV) (D:List D4) (Q:Cj→BM→Prop) (opn:Nat→Bool):Nat→(Nat→AV)→List A4→ZW→Yy→List Bool→List (Nat×Sp)→Prop where
 | nil {k τ H rd ef effs fx} (hk:k=ops.size) (chk:Me ops n effs.reverse=true) (hq:Q .normal ⟨n,τ,H,D⟩):Dr P ops n τ₀ D Q opn k τ H rd ef effs fx
 | step {k τ H rd ef effs fx o} (s:Sp) (ho:ops[k]?=some o) (hn:opn k=false∨s= .skip) (hok:lO P ops o τ H s) (howe:uE ops k H rd ef s) (hfx:Hp k s fx)
   (next:Dr P ops n τ₀ D Q opn (k+1) (put τ o.dst s.val) (s.heap H) (s.rd k rd) (s.ef k H ef) (s.isEff::effs) fx):Dr P ops n τ₀ D Q opn k τ H rd ef effs fx
 | opn {k τ H rd ef effs fx o} (R:EG→List A4→Prop) (fx':List (Nat×Sp)) (ho:ops[k]?=some o) (hn:opn k=true) (hw:Ep ops ⟨0,τ,[],[]⟩ o) (hop:DL P o (ev τ) H R) (haft:E5 ops k (fx'.map (·.1))=true) (hne:∃v H',R (.val v) H')
   (howe:∀v H',R (.val v) H'→KJ ops k H H' rd) (hfx:∀v H',R (.val v) H'→Hp k (.eff v H') fx)
   (rest:∀v H',R (.val v) H'→Dr P ops n τ₀ D Q opn (k+1) (put τ o.dst v) H' rd ((k,H,H')::ef) (true::effs) (fx'++fx))
   (pan:∀v H',R (.panic v) H'→∀τ',(∀t,(∀(k:Nat) o,ops[k]?=some o→o.dst≠some t)→τ' t=τ₀ t)→Q (.panic v) ⟨n,τ',H',D⟩):Dr P ops n τ₀ D Q opn k τ H rd ef effs fx
 | pan {k τ H rd ef effs fx o} (R:EG→List A4→Prop) (ho:ops[k]?=some o) (hn:opn k=true) (hw:Ep ops ⟨0,τ,[],[]⟩ o) (hop:DL P o (ev τ) H R) (haft:E5 ops k []=true) (chk:Me ops n (true::effs).reverse=true) (hfx:OT k fx=true) (hno:∀v H',¬R (.val v) H') (howe:KJ ops k H H rd)
   (pan:∀v H',R (.panic v) H'→∀τ',(∀t,(∀(k:Nat) o,ops[k]?=some o→o.dst≠some t)→τ' t=τ₀ t)→Q (.panic v) ⟨n,τ',H',D⟩):Dr P ops n τ₀ D Q opn k τ H rd ef effs fx
inductive Uj (P:Program) (ops:Array Oper) (n:Nat) (τ₀:Nat→AV) (D:List D4) (Q:Cj→BM→Prop) (opn:Nat→Bool):Nat→(Nat→AV)→List A4→ZW→Yy→List Bool→List (Nat×Sp)→List (Sp×Bool)→Prop where
 | nil {k τ H rd ef effs fx} (hk:k=ops.size) (chk:Me ops n effs.reverse=true) (hq:Q .normal ⟨n,τ,H,D⟩):Uj P ops n τ₀ D Q opn k τ H rd ef effs fx []
 | step {k τ H rd ef effs fx o r} (s:Sp) (ho:ops[k]?=some o) (hn:opn k=false∨s= .skip) (hok:lO P ops o τ H s) (howe:uE ops k H rd ef s) (hfx:Hp k s fx)
   (next:Uj P ops n τ₀ D Q opn (k+1) (put τ o.dst s.val) (s.heap H) (s.rd k rd) (s.ef k H ef) (s.isEff::effs) fx r):Uj P ops n τ₀ D Q opn k τ H rd ef effs fx ((s,true)::r)
 | opn {k τ H rd ef effs fx o r} (R:EG→List A4→Prop) (fx':List (Nat×Sp)) (ho:ops[k]?=some o) (hn:opn k=true) (hw:Ep ops ⟨0,τ,[],[]⟩ o) (hop:DL P o (ev τ) H R) (haft:E5 ops k (fx'.map (·.1))=true)
   (howe:∀v H',R (.val v) H'→KJ ops k H H' rd) (hfx:∀v H',R (.val v) H'→Hp k (.eff v H') fx)
   (rest:∀v H',R (.val v) H'→Dr P ops n τ₀ D Q opn (k+1) (put τ o.dst v) H' rd ((k,H,H')::ef) (true::effs) (fx'++fx))
   (pan:∀v H',R (.panic v) H'→∀τ',(∀t,(∀(k:Nat) o,ops[k]?=some o→o.dst≠some t)→τ' t=τ₀ t)→Q (.panic v) ⟨n,τ',H',D⟩)
   (v:AV) (H':List A4) (hv:R (.val v) H') (next:Uj P ops n τ₀ D Q opn (k+1) (put τ o.dst v) H' rd ((k,H,H')::ef) (true::effs) (fx'++fx) r):Uj P ops n τ₀ D Q opn k τ H rd ef effs fx ((.eff v H',true)::r)
 | pan {k τ H rd ef effs fx o} (R:EG→List A4→Prop) (ho:ops[k]?=some o) (hn:opn k=true) (hw:Ep ops ⟨0,τ,[],[]⟩ o) (hop:DL P o (ev τ) H R) (haft:E5 ops k []=true) (chk:Me ops n (true::effs).reverse=true) (hfx:OT k fx=true) (hno:∀v H',¬R (.val v) H') (howe:KJ ops k H H rd)
   (pan:∀v H',R (.panic v) H'→∀τ',(∀t,(∀(k:Nat) o,ops[k]?=some o→o.dst≠some t)→τ' t=τ₀ t)→Q (.panic v) ⟨n,τ',H',D⟩):Uj P ops n τ₀ D Q opn k τ H rd ef effs fx [(.eff (.p .any) H,false)]
section
variable {P:Program}{ops:Array Oper}{n:Nat}{τ₀:Nat→AV}{D:List D4}{Q:Cj→BM→Prop}{opn:Nat→Bool}{k:Nat}{τ:Nat→AV}{H:List A4}{rd:ZW}{ef:Yy}{effs:List Bool}{fx:List (Nat×Sp)}
theorem Dr.path (h:Dr P ops n τ₀ D Q opn k τ H rd ef effs fx):∃l,Uj P ops n τ₀ D Q opn k τ H rd ef effs fx l:=by
 induction h with
 | nil hk chk hq=>exact⟨[],.nil hk chk hq⟩
 | step s ho hn hok howe hfx next ih=>obtain⟨l,hl⟩:=ih;exact⟨_,.step s ho hn hok howe hfx hl⟩
 | opn R fx' ho hn hw hop haft hne howe hfx rest pan ih =>
  obtain⟨v,H',hv⟩:=hne;obtain⟨l,hl⟩:=ih v H' hv;exact⟨_,.opn R fx' ho hn hw hop haft howe hfx rest pan v H' hv hl⟩
 | pan R ho hn hw hop haft chk hfx hno howe pan=>exact⟨_,.pan R ho hn hw hop haft chk hfx hno howe pan⟩
theorem Hp.at {k:Nat}{s:Sp}:∀{fx:List (Nat×Sp)}{s':Sp},Hp k s fx→(k,s')∈fx→s=s'
 | [],_,_,h=>by cases h
 | (j,t)::r,s',h,hm=>by
  rcases List.mem_cons.1 hm with e | hm
  ·injection e with e1 e2;subst e1;subst e2;have:=h.1;rw[Nat.beq_refl] at this;exact this
  exact Hp.at h.2 hm
theorem Uj.fixed {l:List (Sp×Bool)}(h:Uj P ops n τ₀ D Q opn k τ H rd ef effs fx l):∀j s,(j,s)∈fx→k≤j→j<ops.size→l[j - k]?=some (s,true):=by
 induction h with
 | nil hk chk hq=>intro j s _ h1 h2;omega
 | @step k τ H rd ef effs fx o r s ho hn hok howe hfx next ih =>
  intro j s' hj h1 h2;by_cases e:j=k
  ·subst e;simp[hfx.at hj]
  ·obtain⟨d,hd⟩:∃d,j - k=d+1:=⟨j - k - 1,by omega⟩;have:=ih j s' hj Au h2;rw[hd];rw[show j - (k+1)=d by omega] at this;simpa using this
 | @opn k τ H rd ef effs fx o r R fx' ho hn hw hop haft howe hfx rest pan v H' hv next ih =>
  intro j s' hj h1 h2;by_cases e:j=k
  ·subst e;simp[(hfx v H' hv).at hj]
  ·obtain⟨d,hd⟩:∃d,j - k=d+1:=⟨j - k - 1,by omega⟩;have:=ih j s' (by simp[hj]) Au h2;rw[hd];rw[show j - (k+1)=d by omega] at this;simpa using this
 | pan R ho hn hw hop haft chk hfx hno howe pan=>intro j s hj h1;have:=WT hfx hj;omega
theorem I5 {p:Nat}{l:List Nat}(h:E5 ops p l=true) {k:Nat}(hk:p<k) (hks:k<ops.size):Pred ops p k∨k∈l:=by
 have:=List.all_eq_true.1 h k (by simpa using hks);simp only[Bool.or_eq_true,Bool.not_eq_true'] at this;rcases this with (h | h) | h
 ·have:Nat.blt p k=true:=by simpa [Nat.blt_eq] using hk
  rw[this] at h;cases h
 ·exact .inl (FO h)
 exact .inr (by simpa using h)
structure sD (P:Program) (ops:Array Oper) (n:Nat) (τ₀:Nat→AV) (D:List D4) (Q:Cj→BM→Prop) (opn:Nat→Bool) (H₀:List A4) (sp:List Sp) (ok:List Bool) (k:Nat):Prop where
 run:∀(j:Nat) o,k≤j→ops[j]?=some o→(opn j=false∨sp.getD j .skip= .skip)→(∀p,opn p=true→Pred ops p j→ok.getD p true=true)→lO P ops o (τS ops sp τ₀ j) (LH sp H₀ j) (sp.getD j .skip)
 c4:∀(i e:Nat) obs v ob,i<ops.size→e<ops.size→(k≤i∨k≤e)→sp.getD i .skip= .read obs v→ob∈obs→(sp.getD e .skip).isEff=true→(Pred ops e i∨Pred ops i e)∨(ob∈LH sp H₀ e∧ob∈LH sp H₀ (e+1))
 eff:∀p,k≤p→p<ops.size→opn p=true→sp.getD p .skip≠ .skip→(∀q,opn q=true→Pred ops q p→ok.getD q true=true)→(sp.getD p .skip).isEff=true
 next:(∀p,k≤p→p<ops.size→opn p=true→ok.getD p true=true)→Q .normal ⟨n,τS ops sp τ₀ ops.size,LH sp H₀ ops.size,D⟩
 chk:Me ops n (sp.map Sp.isEff)=true
theorem IP {sp:List Sp}{H₀:List A4}{k:Nat}:LH sp H₀ (k+1)=(sp.getD k .skip).heap (LH sp H₀ k):=by
 simp only[LH];cases sp.getD k .skip<;>rfl
theorem Uj.shows {l:List (Sp×Bool)}(h:Uj P ops n τ₀ D Q opn k τ H rd ef effs fx l):∀{H₀:List A4}{pre:List (Sp×Bool)},pre.length=k→effs.reverse=(pre.map (·.1)).map Sp.isEff→τ=τS ops ((pre++l).map (·.1)) τ₀ k→H=LH ((pre++l).map (·.1)) H₀ k→k≤ops.size →
  (∀i obs v ob,i<k→((pre++l).map (·.1)).getD i .skip= .read obs v→ob∈obs→(i,ob)∈rd)→(∀e,e<k→(((pre++l).map (fun(x:Sp×Bool)=>x.1)).getD e Sp.skip).isEff=true→(e,LH ((pre++l).map (·.1)) H₀ e,LH ((pre++l).map (·.1)) H₀ (e+1))∈ef) →
  sD P ops n τ₀ D Q opn H₀ ((pre++l).map (·.1)) ((pre++l).map (·.2)) k:=by
 induction h with
 | nil hk chk hq =>
  intro H₀ pre hpre heffs hτ hH hkl hrd hef;subst hk;refine⟨fun j o hj ho=>?_,fun i e obs v ob hi he hor=>by omega,fun p h1 h2 _ _ _=>by omega,fun _=>?_,?_⟩
  ·simp[Array.getElem?_eq_none hj] at ho
  ·rw[←hτ,←hH];exact hq
  ·simp only[List.append_nil];rw[←heffs];exact chk
 | @step k τ H rd ef effs fx o r s ho hn hok howe hfx next ih =>
  intro H₀ pre hpre heffs hτ hH hkl hrd hef;have hlt:k<ops.size:=by
   rcases Nat.lt_or_ge k ops.size with h | h
   ·exact h
   simp[Array.getElem?_eq_none h] at ho
  have hcat:pre++(s,true)::r=(pre++[(s,true)])++r:=by simp
  have hsk:((pre++(s,true)::r).map (·.1)).getD k .skip=s:=by
   subst hpre;simp
  have hs:=ih (H₀:=H₀) (pre:=pre++[(s,true)]) (by simp[hpre]) (by simp[heffs]) (by rw[←hcat];simp only[τS,ho,Option.bind_some,hsk,←hτ]) (by rw[←hcat,IP,hsk,←hH]) Au
   (by
    rw[←hcat];intro i obs v ob hi he hob;rcases Nat.lt_or_ge i k with h | h
    ·have:=hrd i obs v ob h he hob;cases s<;>first | exact this | exact List.mem_append_right _ this
    have:i=k:=by omega
    subst this;rw[hsk] at he;subst he;exact List.mem_append_left _ (List.mem_map.2 ⟨ob,hob,rfl⟩))
   (by
    rw[←hcat];intro e he hee;rcases Nat.lt_or_ge e k with h | h
    ·have:=hef e h hee;cases s<;>first | exact this | exact List.mem_cons_of_mem _ this
    have:e=k:=by omega
    subst this;rw[IP,hsk,←hH];rw[hsk] at hee;cases s<;>first | (cases hee;done) | exact List.mem_cons_self)
  rw[←hcat] at hs;refine⟨fun j o' hj ho' hnj hpj=>?_,fun i e obs v ob hi he hor hri hob hee=>?_,fun p h1 h2 h3 hns h4=>?_,fun hok'=>hs.next fun p h1 h2 h3=>hok' p Au h2 h3,hs.chk⟩
  ·by_cases hjk:j=k
   ·subst hjk;rw[ho] at ho';injection ho' with ho';subst ho';rw[hsk,←hτ,←hH];exact hok
   exact hs.run j o' Au ho' hnj hpj
  ·by_cases hik:i=k
   ·subst hik;rw[hsk] at hri;subst hri;rcases Nat.lt_or_ge e i with hlt' | hge
    ·rcases dz (howe ob hob) (hef e hlt' hee) with h | h
     ·exact .inl (.inl (FO h))
     exact .inr h
    have hne:e≠i:=fun e'=>by subst e';rw[hsk] at hee;cases hee
    exact hs.c4 i e obs v ob hi he (.inr Au) hsk hob hee
   by_cases hek:e=k
   ·subst hek;rw[hsk] at hee;rcases Nat.lt_or_ge i e with hlt' | hge
    ·cases s with
     | eff v' H' =>
      rcases SF howe (hrd i obs v ob hlt' hri hob) with h | h
      ·exact .inl (.inr (FO h))
      ·rw[IP,hsk,←hH];exact .inr h
     | _=>cases hee
    exact hs.c4 i e obs v ob hi he (.inl Au) hri hob (by rw[hsk];exact hee)
   exact hs.c4 i e obs v ob hi he Au hri hob hee
  ·have:p≠k:=fun e=>by
    subst e;rcases hn with hn | hn
    ·rw[hn] at h3;cases h3
    rw[hsk] at hns;exact hns hn
   exact hs.eff p Au h2 h3 hns h4
 | @opn k τ H rd ef effs fx o r R fx' ho hn hw hop haft howe hfx rest pan v H' hv next ih =>
  intro H₀ pre hpre heffs hτ hH hkl hrd hef;have hlt:k<ops.size:=by
   rcases Nat.lt_or_ge k ops.size with h | h
   ·exact h
   simp[Array.getElem?_eq_none h] at ho
  have hcat:pre++(Sp.eff v H',true)::r=(pre++[(Sp.eff v H',true)])++r:=by simp
  have hsk:((pre++(Sp.eff v H',true)::r).map (·.1)).getD k .skip=Sp.eff v H':=by
   subst hpre;simp
  have hs:=ih (H₀:=H₀) (pre:=pre++[(Sp.eff v H',true)]) (by simp[hpre]) (by simp[heffs,Sp.isEff]) (by rw[←hcat];simp only[τS,ho,Option.bind_some,hsk,←hτ,Sp.val]) (by rw[←hcat,IP,hsk];rfl) Au
   (by
    rw[←hcat];intro i obs v' ob hi he hob;rcases Nat.lt_or_ge i k with h | h
    ·exact hrd i obs v' ob h he hob
    have:i=k:=by omega
    subst this;rw[hsk] at he;cases he)
   (by
    rw[←hcat];intro e he hee;rcases Nat.lt_or_ge e k with h | h
    ·exact List.mem_cons_of_mem _ (hef e h hee)
    have:e=k:=by omega
    subst this;rw[IP,hsk,←hH];exact List.mem_cons_self)
  rw[←hcat] at hs;replace howe:=howe v H' hv;refine⟨fun j o' hj ho' hnj hpj=>?_,fun i e obs v' ob hi he hor hri hob hee=>?_,fun p h1 h2 h3 hns h4=>?_,fun hok'=>hs.next fun p h1 h2 h3=>hok' p Au h2 h3,hs.chk⟩
  ·have:j≠k:=fun e=>by
    subst e;rcases hnj with hnj | hnj
    ·rw[hn] at hnj;cases hnj
    rw[hsk] at hnj;cases hnj
   exact hs.run j o' Au ho' hnj hpj
  ·have hik:i≠k:=fun e=>by subst e;rw[hsk] at hri;cases hri
   by_cases hek:e=k
   ·subst hek;rcases Nat.lt_or_ge i e with hlt' | hge
    ·rcases SF howe (hrd i obs v' ob hlt' hri hob) with h | h
     ·exact .inl (.inr (FO h))
     rw[IP,hsk,←hH];exact .inr h
    exact hs.c4 i e obs v' ob hi he (.inl Au) hri hob hee
   exact hs.c4 i e obs v' ob hi he Au hri hob hee
  ·by_cases e:p=k
   ·subst e;rw[hsk];rfl
   ·exact hs.eff p Au h2 h3 hns h4
 | @pan k τ H rd ef effs fx o R ho hn hw hop haft chk hfx hno howe pan =>
  intro H₀ pre hpre heffs hτ hH hkl hrd hef;have hlt:k<ops.size:=by
   rcases Nat.lt_or_ge k ops.size with h | h
   ·exact h
   simp[Array.getElem?_eq_none h] at ho
  have hsk:((pre++[(Sp.eff (.p .any) H,false)]).map (·.1)).getD k .skip=Sp.eff (.p .any) H:=by
   subst hpre;simp
  have hskip:∀j,k<j→((pre++[(Sp.eff (.p .any) H,false)]).map (·.1)).getD j .skip= .skip:=by
   intro j hj;have:(pre++[(Sp.eff (.p .any) H,false)])[j]?=none:=List.getElem?_eq_none Ao;rw[List.getD_eq_getElem?_getD,List.getElem?_map,this];rfl
  have hokk:((pre++[(Sp.eff (.p .any) H,false)]).map (·.2)).getD k true=false:=by
   subst hpre;simp
  refine⟨fun j o' hj ho' hnj hpj=>?_,fun i e obs v' ob hi he hor hri hob hee=>?_,fun p h1 h2 h3 hns h4=>?_,fun hok'=>?_,?_⟩
  ·have hjk:j≠k:=fun e=>by
    subst e;rcases hnj with hnj | hnj
    ·rw[hn] at hnj;cases hnj
    rw[hsk] at hnj;cases hnj
   have hjs:j<ops.size:=by
    rcases Nat.lt_or_ge j ops.size with h | h
    ·exact h
    simp[Array.getElem?_eq_none h] at ho'
   rcases I5 haft (k:=j) Au hjs with h | h
   ·have:=hpj k hn h;rw[hokk] at this;cases this
   cases h
  ·have hik:i≠k:=fun e=>by subst e;rw[hsk] at hri;cases hri
   have hi':i<k:=by
    rcases Nat.lt_or_ge k i with h | h
    ·rw[hskip i h] at hri;cases hri
    omega
   have he':e=k:=by
    rcases Nat.lt_trichotomy e k with h | h | h
    ·omega
    ·exact h
    rw[hskip e h] at hee;cases hee
   subst he';rcases SF howe (hrd i obs v' ob hi' hri hob) with h | h
   ·exact .inl (.inr (FO h))
   rw[IP,hsk,←hH];exact .inr h
  ·have:p=k:=by
    rcases Nat.lt_or_ge k p with h | h
    ·rcases I5 haft h h2 with h' | h'
     ·have:=h4 k hn h';rw[hokk] at this;cases this
     cases h'
    omega
   subst this;rw[hsk];rfl
  ·have:=hok' k (Nat.le_refl _) hlt hn;rw[hokk] at this;cases this
  rw[List.map_append,List.map_append,←heffs];simpa [Sp.isEff] using chk
theorem Uj.len {l:List (Sp×Bool)}(h:Uj P ops n τ₀ D Q opn k τ H rd ef effs fx l):k≤ops.size→k+l.length≤ops.size:=by
 induction h with
 | nil hk chk hq=>intro h;simpa using h
 | @step k τ H rd ef effs fx o r s ho hn hok howe hfx next ih =>
  intro _;have hlt:k<ops.size:=by
   rcases Nat.lt_or_ge k ops.size with h | h
   ·exact h
   simp[Array.getElem?_eq_none h] at ho
  have:=ih Au;simp;omega
 | @opn k τ H rd ef effs fx o r R fx' ho hn hw hop haft howe hfx rest pan v H' hv next ih =>
  intro _;have hlt:k<ops.size:=by
   rcases Nat.lt_or_ge k ops.size with h | h
   ·exact h
   simp[Array.getElem?_eq_none h] at ho
  have:=ih Au;simp;omega
 | @pan k τ H rd ef effs fx o R ho hn hw hop haft chk hfx hno howe pan =>
  intro _;have hlt:k<ops.size:=by
   rcases Nat.lt_or_ge k ops.size with h | h
   ·exact h
   simp[Array.getElem?_eq_none h] at ho
  simp;omega
def Sh (l:List (Sp×Bool)) (j:Nat):Sp:=(l.map (fun(x:Sp×Bool)=>x.1)).getD j Sp.skip
def Rg (l:List (Sp×Bool)) (j:Nat):Bool:=(l.map (fun(x:Sp×Bool)=>x.2)).getD j true
theorem rE {l l':List (Sp×Bool)}{j:Nat}(h:l[j]?=l'[j]?):Sh l j=Sh l' j∧Rg l j=Rg l' j:=by
 simp[Sh,Rg,h]
theorem Uj.sk {l:List (Sp×Bool)}(h:Uj P ops n τ₀ D Q opn k τ H rd ef effs fx l):∀x∈l,x.1= .skip→x.2=true:=by
 induction h with
 | nil=>intro x hx;cases hx
 | step s ho hn hok howe hfx next ih =>
  intro x hx;rcases List.mem_cons.1 hx with rfl | hx
  ·exact fun _=>O
  ·exact ih x hx
 | opn R fx' ho hn hw hop haft howe hfx rest pan v H' hv next ih =>
  intro x hx;rcases List.mem_cons.1 hx with rfl | hx
  ·exact fun _=>O
  ·exact ih x hx
 | pan =>
  intro x hx;rw[List.mem_singleton] at hx;subst hx;exact fun h=>by cases h
theorem Uj.skOk {l:List (Sp×Bool)}(h:Uj P ops n τ₀ D Q opn k τ H rd ef effs fx l) (p:Nat) (hp:(l.map (fun(x:Sp×Bool)=>x.1)).getD p .skip= .skip):Rg l p=true:=by
 unfold Rg;rw[List.getD_eq_getElem?_getD,List.getElem?_map] at hp ⊢;cases e:l[p]? with
 | none=>rfl
 | some x =>
  rw[e] at hp;exact h.sk x (List.mem_of_getElem? e) hp
theorem Uj.openAt {l:List (Sp×Bool)}(h:Uj P ops n τ₀ D Q opn k τ H rd ef effs fx l):∀{H₀:List A4}{pre:List (Sp×Bool)},pre.length=k→k≤ops.size→τ=τS ops ((pre++l).map (fun(x:Sp×Bool)=>x.1)) τ₀ k→H=LH ((pre++l).map (fun(x:Sp×Bool)=>x.1)) H₀ k →
  ∀p o,k≤p→opn p=true→Sh (pre++l) p≠ .skip→ops[p]?=some o→(∀q,opn q=true→Pred ops q p→Rg (pre++l) q=true)→∃R,Ep ops ⟨0,τS ops ((pre++l).map (fun(x:Sp×Bool)=>x.1)) τ₀ p,[],[]⟩ o∧DL P o (ev (τS ops ((pre++l).map (fun(x:Sp×Bool)=>x.1)) τ₀ p)) (LH ((pre++l).map (fun(x:Sp×Bool)=>x.1)) H₀ p) R ∧
   (∀v H',R (.val v) H'→∃l',Uj P ops n τ₀ D Q opn k τ H rd ef effs fx l'∧(∀j,j≠p→¬Pred ops p j→Sh (pre++l') j=Sh (pre++l) j∧(Rg (pre++l) j=true→Rg (pre++l') j=true))∧Rg (pre++l') p=true∧Sh (pre++l') p= .eff v H') ∧
   (∀v H',R (.panic v) H'→∀τ',(∀t,(∀(k:Nat) o,ops[k]?=some o→o.dst≠some t)→τ' t=τ₀ t)→Q (.panic v) ⟨n,τ',H',D⟩):=by
 induction h with
 | nil hk chk hq =>
  intro H₀ pre hpre hkl hτ hH p o hp hop hns ho;subst hk;simp[Array.getElem?_eq_none hp] at ho
 | @step k τ H rd ef effs fx o r s ho hn hok howe hfx next ih =>
  intro H₀ pre hpre hkl hτ hH p o' hp hop hns ho' hpred;have hlt:k<ops.size:=by
   rcases Nat.lt_or_ge k ops.size with h | h
   ·exact h
   simp[Array.getElem?_eq_none h] at ho
  have hcat:∀r,pre++(s,true)::r=(pre++[(s,true)])++r:=by simp
  have hsk:((pre++(s,true)::r).map (fun(x:Sp×Bool)=>x.1)).getD k .skip=s:=by
   subst hpre;simp
  have hpk:p≠k:=fun e=>by
   subst e;rcases hn with hn | hn
   ·rw[hn] at hop;cases hop
   unfold Sh at hns;rw[hsk] at hns;exact hns hn
  obtain⟨R,h1,h2,h3,h4⟩:=ih (H₀:=H₀) (pre:=pre++[(s,true)]) (by simp[hpre]) Au (by rw[←hcat];simp only[τS,ho,Option.bind_some,hsk,←hτ]) (by rw[←hcat,IP,hsk,←hH]) p o' Au hop (by rw[←hcat];exact hns) ho' (by rw[←hcat];exact hpred);rw[←hcat] at h1 h2 h3;refine⟨R,h1,h2,fun v H' hv=>?_,h4⟩;obtain⟨l',g1,g2,g3,g4⟩:=h3 v H' hv;rw[←hcat] at g2 g3 g4;exact⟨_,.step s ho hn hok howe hfx g1,g2,g3,g4⟩
 | @opn k τ H rd ef effs fx o r R fx' ho hn hw hop haft howe hfx rest pan v H' hv next ih =>
  intro H₀ pre hpre hkl hτ hH p o' hp hopp hns ho' hpred;have hlt:k<ops.size:=by
   rcases Nat.lt_or_ge k ops.size with h | h
   ·exact h
   simp[Array.getElem?_eq_none h] at ho
  have hcat:∀r,pre++(Sp.eff v H',true)::r=(pre++[(Sp.eff v H',true)])++r:=by simp
  have hsk:((pre++(Sp.eff v H',true)::r).map (fun(x:Sp×Bool)=>x.1)).getD k .skip=Sp.eff v H':=by
   subst hpre;simp
  by_cases hpk:p=k
  ·subst hpk;rw[ho] at ho';injection ho' with ho';subst ho';refine⟨R,by rw[←hτ];exact hw,by rw[←hτ,←hH];exact hop,fun v2 H2 hv2=>?_,pan⟩;obtain⟨l2,hl2⟩:=(rest v2 H2 hv2).path;refine⟨_,.opn R fx' ho hn hw hop haft howe hfx rest pan v2 H2 hv2 hl2,fun j hj hnp=>?_,?_,?_⟩
   ·have key:(pre++(Sp.eff v2 H2,true)::l2)[j]?=(pre++(Sp.eff v H',true)::r)[j]?:=by
     rcases Nat.lt_trichotomy j p with h | h | h
     ·rw[List.getElem?_append_left Au,List.getElem?_append_left Au]
     ·exact absurd h hj
     obtain⟨d,hd⟩:∃d,j=p+1+d:=⟨j - (p+1),by omega⟩;rw[List.getElem?_append_right Au,List.getElem?_append_right Au,hpre,show j - p=d+1 by omega];simp only[List.getElem?_cons_succ];rcases Nat.lt_or_ge j ops.size with hjs | hjs
     ·rcases I5 haft h hjs with h' | h'
      ·exact absurd h' hnp
      obtain⟨⟨j',s'⟩,hm,rfl⟩:=List.mem_map.1 h';have a1:=next.fixed j' s' (by simp[hm]) Au hjs;have a2:=hl2.fixed j' s' (by simp[hm]) Au hjs;simp only at hd;rw[show j' - (p+1)=d by omega] at a1 a2;rw[a1,a2]
     have b1:=next.len Au;have b2:=hl2.len Au;rw[List.getElem?_eq_none Au,List.getElem?_eq_none Au]
    obtain⟨k1,k2⟩:=rE key;exact⟨k1,fun h=>by rw[k2];exact h⟩
   ·subst hpre;simp[Rg]
   subst hpre;simp[Sh]
  ·obtain⟨R',h1,h2,h3,h4⟩:=ih (H₀:=H₀) (pre:=pre++[(Sp.eff v H',true)]) (by simp[hpre]) Au (by rw[←hcat];simp only[τS,ho,Option.bind_some,hsk,←hτ,Sp.val]) (by rw[←hcat,IP,hsk];rfl) p o' Au hopp (by rw[←hcat];exact hns) ho' (by rw[←hcat];exact hpred);rw[←hcat] at h1 h2 h3;refine⟨R',h1,h2,fun v3 H3 hv3=>?_,h4⟩;obtain⟨l',g1,g2,g3,g4⟩:=h3 v3 H3 hv3;rw[←hcat] at g2 g3 g4;exact⟨_,.opn R fx' ho hn hw hop haft howe hfx rest pan v H' hv g1,g2,g3,g4⟩
 | @pan k τ H rd ef effs fx o R ho hn hw hop haft chk hfx hno howe pan =>
  intro H₀ pre hpre hkl hτ hH p o' hp hopp hns ho' hpred;by_cases hpk:p=k
  ·subst hpk;rw[ho] at ho';injection ho' with ho';subst ho';exact⟨R,by rw[←hτ];exact hw,by rw[←hτ,←hH];exact hop,fun v2 H2 hv2=>absurd hv2 (hno v2 H2),pan⟩
  have hps:p<ops.size:=by
   rcases Nat.lt_or_ge p ops.size with h | h
   ·exact h
   simp[Array.getElem?_eq_none h] at ho'
  rcases I5 haft (k:=p) Au hps with h | h
  ·have:=hpred k hn h;subst hpre;simp[Rg] at this
  cases h
theorem Hg {r:Option Nat}{id:Nat}(opn:Nat→Bool) (hm:P.follows .mixedOrders=true) (h:Dr P ops n τ D Q opn 0 τ H [] [] [] []):IK P r (.region id ops true) ⟨n,τ,H,D⟩ Q:=by
 have hshow:∀l,Uj P ops n τ D Q opn 0 τ H [] [] [] [] l→sD P ops n τ D Q opn H (l.map (fun(x:Sp×Bool)=>x.1)) (l.map (fun(x:Sp×Bool)=>x.2)) 0:=by
  intro l hl;have:=hl.shows (H₀:=H) (pre:=[]) rfl rfl rfl rfl (Nat.zero_le _) (fun i _ _ h=>by omega) (fun e h=>by omega);simpa using this
 refine kD hm (ι:=List (Sp×Bool)) (Good:=fun l=>Uj P ops n τ D Q opn 0 τ H [] [] [] [] l) (Ok:=fun l p=>Rg l p=true) (Fam:=fun l=>l.map (fun(x:Sp×Bool)=>x.1)) (opn:=opn) h.path ?_ ?_ ?_ ?_ ?_
 ·intro l hl;have hs:=hshow l hl;obtain⟨c1,c2,c3,c4,c5⟩:=Nk hs.chk;refine⟨⟨c1,c2,c3,c4⟩,fun k o ho hex=>hs.run k o (Nat.zero_le _) ho hex.1 hex.2,?_,?_⟩
  ·intro i k hik hk hi hke;exact c5 i k hik hk (by rw[Ud];exact hi) (by rw[Ud];exact hke)
  intro i e obs v ob hi he hri hob hee;exact hs.c4 i e obs v ob hi he (.inl (Nat.zero_le _)) hri hob hee
 ·intro l p hl hp;exact hl.skOk p hp
 ·intro l p hl hp hns hps hpred;exact(hshow l hl).eff p (Nat.zero_le _) hps hp hns hpred
 ·intro l p o hl hp hns ho hpred;have:=hl.openAt (H₀:=H) (pre:=[]) rfl (Nat.zero_le _) rfl rfl p o (Nat.zero_le _) hp (by simpa [Sh] using hns) ho (by simpa using hpred);simpa [Sh] using this
 intro l hl hok;exact(hshow l hl).next fun p _ hps hp=>hok p hp hps
section
variable {dst:Option Tmp}{op:Op}{ty:TypeId}{pos:String}{aft:Array Edge}{v:AV}{H':List A4}
theorem HC (hk:k=ops.size) (chk:Me ops n effs.reverse=true) (hq:Q .normal ⟨n,τ,H,D⟩):Dr P ops n τ₀ D Q opn k τ H rd ef effs fx:= .nil hk chk hq
theorem p6 (ho:ops[k]?=some ⟨dst,op,ty,pos,aft,none⟩) (hn:opn k=false) (h:∀H,Dm P ⟨dst,op,ty,pos,aft,none⟩ (ev τ) H v H) (hfx:Hp k (.free v) fx) (next:Dr P ops n τ₀ D Q opn (k+1) (put τ dst v) H rd ef (false::effs) fx):Dr P ops n τ₀ D Q opn k τ H rd ef effs fx :=
 .step (.free v) ho (.inl hn) ⟨trivial,h⟩ trivial hfx next
theorem A3 (ho:(ops[k]?,opn k)=(some ⟨dst,op,ty,pos,aft,none⟩,false)) (h:∀H,Dm P ⟨dst,op,ty,pos,aft,none⟩ (ev τ) H v H) (hfx:Hp k (.free v) fx) (next:Dr P ops n τ₀ D Q opn (k+1) (put τ dst v) H rd ef (false::effs) fx):Dr P ops n τ₀ D Q opn k τ H rd ef effs fx :=
 p6 (congrArg Prod.fst ho) (congrArg Prod.snd ho) h hfx next
theorem CF {j:Nat}{ob:A4}(ho:ops[k]?=some ⟨dst,op,ty,pos,aft,none⟩) (hn:opn k=false) (hj:H[j]?=some ob) (h:∀(H:List A4) (i:Nat),H[i]?=some ob→Dm P ⟨dst,op,ty,pos,aft,none⟩ (ev τ) H v H) (owe:iS ops k ob ef) (hfx:Hp k (.read [ob] v) fx)
  (next:Dr P ops n τ₀ D Q opn (k+1) (put τ dst v) H ((k,ob)::rd) ef (false::effs) fx):Dr P ops n τ₀ D Q opn k τ H rd ef effs fx :=
 .step (.read [ob] v) ho (.inl hn) ⟨trivial,fun ob' hm=>by rw[List.mem_singleton] at hm;subst hm;exact List.mem_of_getElem? hj,fun H hm=>let ⟨i,hi⟩:=List.mem_iff_getElem?.1 (hm ob List.mem_cons_self);h H i hi⟩ (fun ob' hm=>by rw[List.mem_singleton] at hm;subst hm;exact owe) hfx next
theorem FB (ho:ops[k]?=some ⟨dst,op,ty,pos,aft,none⟩) (hn:opn k=false) (h:Dm P ⟨dst,op,ty,pos,aft,none⟩ (ev τ) H v H') (owe:KJ ops k H H' rd) (hfx:Hp k (.eff v H') fx)
  (next:Dr P ops n τ₀ D Q opn (k+1) (put τ dst v) H' rd ((k,H,H')::ef) (true::effs) fx):Dr P ops n τ₀ D Q opn k τ H rd ef effs fx :=
 .step (.eff v H') ho (.inl hn) ⟨trivial,h⟩ owe hfx next
theorem Lu {R:EG→List A4→Prop}(fx':List (Nat×Sp)) (ho:ops[k]?=some ⟨dst,op,ty,pos,aft,none⟩) (hn:opn k=true) (h:DL P ⟨dst,op,ty,pos,aft,none⟩ (ev τ) H R) (haft:E5 ops k (fx'.map (·.1))=true) (hne:∃v H',R (.val v) H') (hpan:∀v H',¬R (.panic v) H')
  (next:∀v H',R (.val v) H'→KJ ops k H H' rd∧Hp k (.eff v H') fx∧Dr P ops n τ₀ D Q opn (k+1) (put τ dst v) H' rd ((k,H,H')::ef) (true::effs) (fx'++fx)):Dr P ops n τ₀ D Q opn k τ H rd ef effs fx :=
 .opn R fx' ho hn trivial h haft hne (fun v H' hv=>(next v H' hv).1) (fun v H' hv=>(next v H' hv).2.1) (fun v H' hv=>(next v H' hv).2.2) (fun v H' hp=>absurd hp (hpan v H'))
variable {j d:Nat}{want:Bool}
theorem nG (ho:ops[k]?=some ⟨dst,op,ty,pos,aft,some (j,want)⟩) (hn:opn k=false) (hj:(ops[j]?).bind (·.dst)=some d) (hb:τ d= .p (.bool want)) (h:∀H,Dm P ⟨dst,op,ty,pos,aft,some (j,want)⟩ (ev τ) H v H) (hfx:Hp k (.free v) fx) (next:Dr P ops n τ₀ D Q opn (k+1) (put τ dst v) H rd ef (false::effs) fx):Dr P ops n τ₀ D Q opn k τ H rd ef effs fx :=
 .step (.free v) ho (.inl hn) ⟨⟨d,hj,hb⟩,h⟩ trivial hfx next
theorem M3 {i:Nat}{ob:A4}(ho:ops[k]?=some ⟨dst,op,ty,pos,aft,some (j,want)⟩) (hn:opn k=false) (hj:(ops[j]?).bind (·.dst)=some d) (hb:τ d= .p (.bool want)) (hi:H[i]?=some ob) (h:∀(H:List A4) (i:Nat),H[i]?=some ob→Dm P ⟨dst,op,ty,pos,aft,some (j,want)⟩ (ev τ) H v H) (owe:iS ops k ob ef) (hfx:Hp k (.read [ob] v) fx)
  (next:Dr P ops n τ₀ D Q opn (k+1) (put τ dst v) H ((k,ob)::rd) ef (false::effs) fx):Dr P ops n τ₀ D Q opn k τ H rd ef effs fx :=
 .step (.read [ob] v) ho (.inl hn) ⟨⟨d,hj,hb⟩,fun ob' hm=>by rw[List.mem_singleton] at hm;subst hm;exact List.mem_of_getElem? hi,fun H hm=>let ⟨i,hi⟩:=List.mem_iff_getElem?.1 (hm ob List.mem_cons_self);h H i hi⟩ (fun ob' hm=>by rw[List.mem_singleton] at hm;subst hm;exact owe) hfx next
theorem pF {b:Bool}(ho:ops[k]?=some ⟨dst,op,ty,pos,aft,some (j,want)⟩) (hn:opn k=false) (hj:(ops[j]?).bind (·.dst)=some d) (hb:τ d= .p (.bool b)) (hne:(b==want)=false) (hfx:Hp k .skip fx) (next:Dr P ops n τ₀ D Q opn (k+1) (put τ dst (.tup [])) H rd ef (false::effs) fx):Dr P ops n τ₀ D Q opn k τ H rd ef effs fx :=
 .step .skip ho (.inl hn) ⟨j,want,d,rfl,hj,.inl ⟨b,hb,hne⟩⟩ trivial hfx next
theorem Bx (ho:(ops[k]?,opn k,(ops[j]?).bind (·.dst),τ d)=(some ⟨dst,op,ty,pos,aft,some (j,want)⟩,false,some d,.p (.bool want))) (h:∀H,Dm P ⟨dst,op,ty,pos,aft,some (j,want)⟩ (ev τ) H v H) (hfx:Hp k (.free v) fx) (next:Dr P ops n τ₀ D Q opn (k+1) (put τ dst v) H rd ef (false::effs) fx):Dr P ops n τ₀ D Q opn k τ H rd ef effs fx :=
 nG (congrArg Prod.fst ho) (congrArg (·.2.1) ho) (congrArg (·.2.2.1) ho) (congrArg (·.2.2.2) ho) h hfx next
theorem YY {b:Bool}(ho:ops[k]?=some ⟨dst,op,ty,pos,aft,some (j,want)⟩) (hj:(ops[j]?).bind (·.dst)=some d) (hb:τ d= .p (.bool b)) (hne:(b==want)=false) (hfx:Hp k .skip fx) (next:Dr P ops n τ₀ D Q opn (k+1) (put τ dst (.tup [])) H rd ef (false::effs) fx):Dr P ops n τ₀ D Q opn k τ H rd ef effs fx :=
 .step .skip ho (.inr rfl) ⟨j,want,d,rfl,hj,.inl ⟨b,hb,hne⟩⟩ trivial hfx next
theorem mM (ho:ops[k]?=some ⟨dst,op,ty,pos,aft,some (j,want)⟩) (hn:opn k=false) (hj:(ops[j]?).bind (·.dst)=some d) (hb:τ d= .tup []) (hfx:Hp k .skip fx) (next:Dr P ops n τ₀ D Q opn (k+1) (put τ dst (.tup [])) H rd ef (false::effs) fx):Dr P ops n τ₀ D Q opn k τ H rd ef effs fx :=
 .step .skip ho (.inl hn) ⟨j,want,d,rfl,hj,.inr hb⟩ trivial hfx next
theorem Da (d:Nat) {b:Bool}(hb:τ d= .p (.bool b)) (ht:b=true→Dr P ops n τ₀ D Q opn k (put τ (some d) (.p (.bool true))) H rd ef effs fx) (hf:b=false→Dr P ops n τ₀ D Q opn k (put τ (some d) (.p (.bool false))) H rd ef effs fx):Dr P ops n τ₀ D Q opn k τ H rd ef effs fx:=by
 have e:∀b',b=b'→put τ (some d) (.p (.bool b'))=τ:=by
  intro b' hb';funext t;simp only[put];by_cases ht:t=d
  ·subst ht;rw[Nat.beq_refl,←hb',hb];rfl
  rw[S5 ht];rfl
 cases b with
 | true=>have:=ht rfl;rwa [e true rfl] at this
 | false=>have:=hf rfl;rwa [e false rfl] at this
end
end
def Ia (S S':BM):Prop:=∀F a w,GI F S a w→∃F',GI F' S' a w∧Trans F S.H w F' S'.H w
theorem A5 {P:Program}{r:Option Nat}{c:Code}{S S':BM}{Q:Cj→BM→Prop}(g:Ia S S') (h:IK P r c S' Q):IK P r c S Q:=by
 intro F a w hs;obtain⟨F',hs',ht⟩:=g F a w hs;exact wpIn_mono (h F' a w hs') fun _ _ _=>HE hs.heap.bd ht
theorem BH {P:Program}{r:Option Nat}{ops:Array Oper}{k:Nat}{S S':BM}{Q:Cj→BM→Prop}(g:Ia S S') (h:AL P r ops k S' Q):AL P r ops k S Q:=by
 intro F a w hs;obtain⟨F',hs',ht⟩:=g F a w hs;exact Ev (fun _ _ _=>HE hs.heap.bd ht) _ _ _ (h F' a w hs')
theorem Ia.trans {S S' S'':BM}(g:Ia S S') (g':Ia S' S''):Ia S S'':=by
 intro F a w hs;obtain⟨F',hs',ht⟩:=g F a w hs;obtain⟨F'',hs'',ht'⟩:=g' F' a w hs';exact⟨F'',hs'',ht.trans hs.heap.bd ht'⟩
section
variable {n:Nat}{τ:Nat→AV}{H:List A4}{D:List D4}
theorem Ob {t:Nat}{x:AV}(h:∀F w v,Bz F w (τ t) v→Bz F w x v):Ia ⟨n,τ,H,D⟩ ⟨n,put τ (some t) x,H,D⟩:=by
 intro F a w hs;refine⟨F,⟨hs.size,?_,hs.heap,hs.defs⟩,.refl⟩;intro t';by_cases e:t'=t
 ·subst e;have:=hs.tmp t';simp only[put,Nat.beq_refl,cond_true];exact h F w _ this
 simp only[put,S5 e,cond_false];exact hs.tmp t'
theorem DH {t sz:Nat}(h:τ t= .p .nils):Ia ⟨n,τ,H,D⟩ ⟨n,put τ (some t) (.vs none 0 0),.vec none sz [] 0::H,D⟩:=by
 intro F a w hs;have hH:HRel F (.vec none sz [] 0::H) w:=⟨fun o ho b hb=>by
   rcases List.mem_cons.1 ho with rfl | ho
   ·cases hb
   ·exact hs.heap.sub o ho b hb,by simpa [List.filterMap_cons,A4.key] using hs.heap.nodup,fun o ho=>by
   rcases List.mem_cons.1 ho with rfl | ho
   ·exact⟨O,O⟩
   exact hs.heap.obj o ho,hs.heap.bd⟩
 refine⟨F,⟨hs.size,?_,hH,hs.defs⟩,?_⟩
 ·intro t';by_cases e:t'=t
  ·subst e;have:=hs.tmp t';simp only[h,Bz,Br] at this;simp only[put,Nat.beq_refl,cond_true,Bz];exact⟨Aw,Aw,none,this⟩
  simp only[put,S5 e,cond_false];exact hs.tmp t'
 exact⟨Nat.le_refl _,fun _ _ _=>O,fun _ h _=>h,fun _ h=> .inl h,fun o ho b hb=>by
  rcases List.mem_cons.1 ho with rfl | ho
  ·cases hb
  exact .inl ⟨o,ho,hb⟩,O,O,O⟩
theorem L5 {F:Nat→Prop}{w:World}{o:Option Nat}{sz c:Nat}{rows:List (List PV)}{v:Value}(hbd:∀b,o=some b→b<w.heap.size) (ho:JV F w (.vec o sz rows c)) (hv:Bz F w (.vs o rows.length c) v) (F':Nat→Prop) (st:Dq F w F' w) (hF':∀b,o=some b→¬F' b) :
  Bz F' w (.p (.lst rows)) v:=by
 cases o with
 | none =>
  simp only[Bz] at hv;obtain⟨_,_,a,rfl⟩:=hv;obtain⟨rfl,_⟩:=ho;simp only[Bz,Br];exact .inl ⟨Aw,a,0,O⟩
 | some b =>
  simp only[Bz] at hv;obtain⟨vs,T,hb,h1,h2,h3⟩:=ho;simp only[Bz,Br];exact .inr ⟨b,0,c,sz,hv,hF' b O,hbd b O,h2,Bl.mono st b sz O 0 rows h3⟩
def Ky (ts:List Nat) (x:AV) (τ:Nat→AV):Nat→AV:=fun t=>bif ts.any (Nat.beq t ·) then x else τ t
theorem CL {i sz c:Nat}{o:Option Nat}{rows:List (List PV)}(ts:List Nat) (hi:H[i]?=some (.vec o sz rows c)) (ht:∀t∈ts,τ t= .vs o rows.length c) :
  Ia ⟨n,τ,H,D⟩ ⟨n,Ky ts (.p (.lst rows)) τ,H.eraseIdx i,D⟩:=by
 intro F a w hs;have hmem:=List.mem_of_getElem? hi;have hbd:∀b,o=some b→b<w.heap.size:=fun b hb=>hs.heap.bd b (hs.heap.sub _ hmem b (by rw[←hb];rfl));have st:Dq F w (fun b=>F b∧o≠some b) w:=⟨Nat.le_refl _,fun _ _ _=>rfl,fun _ h _ h'=>h h'.1⟩;have hne:∀x∈H.eraseIdx i,∀b,x.key=some b→o≠some b:=by
  intro x hx b hb hob;obtain⟨j,hj⟩:=List.mem_iff_getElem?.1 hx;rw[List.getElem?_eraseIdx] at hj;split at hj
  ·rename_i hlt;have:=It hs.heap.nodup hj hi hb (by rw[←hob];rfl);omega
  rename_i hge;have:=It hs.heap.nodup hj hi hb (by rw[←hob];rfl);omega
 have hsub:(H.eraseIdx i).Sublist H:=List.eraseIdx_sublist H i;refine⟨fun b=>F b∧o≠some b,⟨hs.size,?_,?_,Gg.mono st _ _ hs.defs⟩,?_⟩
 ·intro t;simp only[Ky];cases hq:ts.any (Nat.beq t ·) with
  | false=>exact Bz.mono st _ _ (hs.tmp t)
  | true =>
   obtain⟨t',ht',he⟩:=List.any_eq_true.1 hq;have e:=Nat.eq_of_beq_eq_true he;subst e;have hv:=hs.tmp t;simp only[ht t ht'] at hv;exact L5 hbd (hs.heap.obj _ hmem) hv _ st (fun b hb h=>h.2 hb)
 ·have:=hs.heap.sublist hsub;exact⟨fun x hx b hb=>⟨this.sub x hx b hb,hne x hx b hb⟩,this.nodup,fun x hx=>JV.mono st x (fun _ _=>O) (this.obj x hx),fun b hb=>this.bd b hb.1⟩
 exact⟨Nat.le_refl _,fun _ _ _=>O,fun b hb hn=>⟨hb,fun e=>hn _ hmem (by rw[←e];rfl)⟩,fun b hb=> .inl hb.1,fun x hx b hb=> .inl ⟨x,hsub.subset hx,hb⟩,O,O,O⟩
theorem Cf {i j q sz c b:Nat}{o:Option Nat}{rows:List (List PV)}{cs:List AV}(ts:List Nat) (hj:H[j]?=some (.box b cs)) (hq:cs[q]?=some (.vs o rows.length c)) (hi:H[i]?=some (.vec o sz rows c)) (ht:∀t∈ts,τ t= .vs o rows.length c) :
  Ia ⟨n,τ,H,D⟩ ⟨n,Ky ts (.p (.lst rows)) τ,(H.set j (.box b (cs.set q (.p (.lst rows))))).eraseIdx i,D⟩:=by
 intro F a w hs;have hij:j≠i:=fun e=>by subst e;rw[hj] at hi;cases hi
 have hmem:=List.mem_of_getElem? hi;have hmemj:=List.mem_of_getElem? hj;have hbd:∀b,o=some b→b<w.heap.size:=fun b hb=>hs.heap.bd b (hs.heap.sub _ hmem b (by rw[←hb];rfl));have st:Dq F w (fun b=>F b∧o≠some b) w:=⟨Nat.le_refl _,fun _ _ _=>rfl,fun _ h _ h'=>h h'.1⟩;have hi':(H.set j (.box b (cs.set q (.p (.lst rows)))))[i]?=some (.vec o sz rows c):=by rw[List.getElem?_set_ne hij];exact hi
 have hkeys:(H.set j (.box b (cs.set q (.p (.lst rows))))).filterMap A4.key=H.filterMap A4.key:=G1 hj rfl;have hsub:((H.set j (.box b (cs.set q (.p (.lst rows))))).eraseIdx i).Sublist (H.set j (.box b (cs.set q (.p (.lst rows))))):=List.eraseIdx_sublist _ i;have hkmem:∀x∈H.set j (.box b (cs.set q (.p (.lst rows)))),∀k,x.key=some k→∃y∈H,y.key=some k:=by
  intro x hx k hk;rcases D2 hx with rfl | ⟨j',_,hj'⟩
  ·exact⟨_,hmemj,hk⟩
  exact⟨x,List.mem_of_getElem? hj',hk⟩
 have hne:∀x∈(H.set j (.box b (cs.set q (.p (.lst rows))))).eraseIdx i,∀b,x.key=some b→o≠some b:=by
  intro x hx b' hb hob;obtain⟨k,hk⟩:=List.mem_iff_getElem?.1 hx;have hnd:((H.set j (.box b (cs.set q (.p (.lst rows))))).filterMap A4.key).Nodup:=by rw[hkeys];exact hs.heap.nodup
  rw[List.getElem?_eraseIdx] at hk;split at hk
  ·have:=It hnd hk hi' hb (by rw[←hob];rfl);omega
  have:=It hnd hk hi' hb (by rw[←hob];rfl);omega
 refine⟨fun b=>F b∧o≠some b,⟨hs.size,?_,?_,Gg.mono st _ _ hs.defs⟩,?_⟩
 ·intro t;simp only[Ky];cases hq:ts.any (Nat.beq t ·) with
  | false=>exact Bz.mono st _ _ (hs.tmp t)
  | true =>
   obtain⟨t',ht',he⟩:=List.any_eq_true.1 hq;have e:=Nat.eq_of_beq_eq_true he;subst e;have hv:=hs.tmp t;simp only[ht t ht'] at hv;exact L5 hbd (hs.heap.obj _ hmem) hv _ st (fun b hb h=>h.2 hb)
 ·refine⟨fun x hx b' hb=>?_,?_,fun x hx=>?_,fun b' hb=>hs.heap.bd b' hb.1⟩
  ·obtain⟨y,hy,hk⟩:=hkmem x (hsub.subset hx) b' hb;exact⟨hs.heap.sub y hy b' hk,hne x hx b' hb⟩
  ·refine(hsub.filterMap A4.key).nodup ?_;rw[hkeys];exact hs.heap.nodup
  rcases D2 (hsub.subset hx) with rfl | ⟨j',_,hj'⟩
  ·obtain⟨vs,T,hb,hl⟩:=hs.heap.obj _ hmemj;obtain⟨v,hv,hr⟩:=hl.get hq;have hvs:vs.set q v=vs:=by
    apply List.ext_getElem?;intro k;rw[List.getElem?_set];split
    ·rename_i e;subst e;split
     ·exact hv.symm
     rename_i hge;rw[List.getElem?_eq_none Au] at hv;cases hv
    rfl
   refine⟨vs,T,hb,?_⟩;have:=(Bf.mono st _ _ hl).set (i:=q) (L5 hbd (hs.heap.obj _ hmem) hr _ st (fun b hb h=>h.2 hb))
   rwa [hvs] at this
  exact JV.mono st x (fun _ _=>O) (hs.heap.obj x (List.mem_of_getElem? hj'))
 refine⟨Nat.le_refl _,fun _ _ _=>O,fun b' hb hn=>⟨hb,fun e=>hn _ hmem (by rw[←e];rfl)⟩,fun b' hb=> .inl hb.1,fun x hx b' hb=> .inl (hkmem x (hsub.subset hx) b' hb),O,O,O⟩
end
section
variable {P:Program}{dst:Option Tmp}{ty:TypeId}{pos:String}{aft:Array Edge}{g:Option (Nat×Bool)}{ρ:Operand→AV}{H:List A4}{x y z:Operand}{v:AV}
def Lc (sz:Nat) (rows:List (List PV)) (H:List A4):EG→List A4→Prop
 | .val v,H'=>∃b c,v= .vs (some b) rows.length c∧H'= .vec (some b) sz rows c::H
 | .panic _,_=>False
theorem LA {F:Nat→Prop}{w:World}{sz c:Nat}{rows:List (List PV)}{vs:List Value}{T:TypeId}(hH:HRel F H w) (hr:∀r∈rows,r.length=sz) (hl:Bf F w (rows.flatten.map .p) (vs.take rows.flatten.length)) (hc:c*sz≤vs.length) (hcl:rows.length≤c) :
  ∃v H' F',Lc sz rows H (.val v) H'∧Trans F H w F' H' (World.push w (.cells ⟨vs⟩ T (0,0)))∧HRel F' H' (World.push w (.cells ⟨vs⟩ T (0,0)))∧Bz F' (World.push w (.cells ⟨vs⟩ T (0,0))) v (.slice (some ⟨w.heap.size,0,none⟩) rows.length c):=by
 refine⟨.vs (some w.heap.size) rows.length c,_,_,⟨w.heap.size,c,O,O⟩,OW H (.vec (some w.heap.size) sz rows c) _ (.inl O),?_,by simp[Bz]⟩;refine P5 hH (.vec (some w.heap.size) sz rows c) _ O ?_;refine⟨⟨vs⟩,T,NN _,by simpa using hc,hcl,?_⟩;refine Lw (vs:=vs.take rows.flatten.length) hr ?_ (Bf.mono (JJ _ fun b h=>h) _ _ hl);have:=Kk (NN (w:=w) (.cells ⟨vs⟩ T (0,0))) 0 rows.flatten.length;simpa using this
theorem Um {T e:TypeId}{sz bytes:Nat}{m:Int}{zs:List Value}{zv:Value}{zr:List PV}(hT:E1 P T=some (e,sz,bytes)) (hz:zeroOf P e=some zv) (hzs:zv.cells=⟨zs⟩) (hsz:zs.length=sz) (hpos:0<sz) (hp:Hc ((zs.map HG).map dn)=some zr)
  (hx:ρ x= .p (.int .i64 m)) (hy:ρ y= .p (.int .i64 m)) (h0:0≤m) (hm:bytes*m≤281474976710656) (hm2:m≤9223372036854775807) :
  DL P ⟨dst,.makeSlice T x y,ty,pos,aft,g⟩ ρ H (Lc sz (List.replicate m.toNat zr) H) :=
 G9 fun F w E hH hE=>by
  obtain⟨hu,i,hi,hs,hby⟩:=Dy hT;have h1:=hE x Al;have h2:=hE y Al;rw[hx] at h1;rw[hy] at h2;simp only[Bz,Br] at h1 h2;unfold zeroOf at hz;have hz':∃j,P.info? e=some j∧j.zero=some zv:=by
   cases hq:P.info? e with
   | none=>simp[hq] at hz
   | some j=>exact⟨j,rfl,by simpa [hq] using hz⟩
  obtain⟨j,hj,hz'⟩:=hz';have hzv:(zeroValue e).run P w= .ok zv w:=by simp[zeroValue,typeInfo,hj,hz',Sem.run_bind]
  have hzr:=I0 hp;have hzl:zr.length=sz:=by
   have:=congrArg List.length hzr;simp at this;omega
  have hflat:(List.replicate m.toNat zr).flatten.length=m.toNat*sz:=by simp[hzl]
  have hl:Bf F w ((List.replicate m.toNat zr).flatten.map .p) ((List.replicate m.toNat zs).flatten):=by
   have:=IU (F:=F) (w:=w) (LO (H8 zs)) m.toNat;rw[hzr] at this;have e:(List.replicate m.toNat (zr.map AV.p)).flatten=(List.replicate m.toNat zr).flatten.map .p:=by
    rw[List.map_flatten,List.map_replicate]
   rwa [e] at this
  have hlen:((List.replicate m.toNat zs).flatten).length=m.toNat*sz:=by simp[hsz]
  obtain⟨v,H',F',h⟩:=LA (T:=e) (c:=m.toNat) (vs:=(List.replicate m.toNat zs).flatten) hH (sz:=sz) (rows:=List.replicate m.toNat zr) (by intro r hr;rw[(List.mem_replicate.1 hr).2];exact hzl)
   (by rw[hflat,←hlen,List.take_length];exact hl) (by rw[hlen];exact Nat.le_refl _) Av
  refine⟨_,_,v,H',F',?_,h⟩;have hw:IntKind.i64.wrap m=m:=SD (by simp[IntKind.min,IntKind.signed,IntKind.bits];omega) (by simp[IntKind.max,IntKind.signed,IntKind.bits];omega);have hti:(typeInfo e).run P w= .ok i w:=by simp[typeInfo,hi]
  have hszr:(sizeOf e).run P w= .ok sz w:=by simp[sizeOf,typeInfo,hi,hs]
  have hask:∀b:Nat,(askRoom b).run P w= .ok () w:=by intro b;unfold askRoom;split<;>rfl
  have hrm:=KP zs m.toNat;rw[hsz] at hrm;have harr:((Array.range (m.toNat*sz)).map fun i=>zv.cells[i % zv.cells.size]!)=⟨(List.replicate m.toNat zs).flatten⟩:=by
   rw[hzs];apply Array.ext';exact hrm
  have hcond:(decide (m<0)||decide ((bytes:Int)*m > 2 ^ 48))=false:=by
   simp only[Bool.or_eq_false_iff,decide_eq_false_iff_not];constructor
   ·omega
   simp only[Int.not_lt];exact hm
  simp only[execOp,Instr.makeSlice,Sem.run_bind,run_underlying hu,Result.andThen_ok,h1,h2,asInt,asIntOf,Sem.run_pure,hti,hby,hw];rw[if_neg (by simp[hcond];omega)];simp only[Sem.run_bind,hask,hszr,Result.andThen_ok,pure_bind,Sem.run_pure];by_cases h00:m.toNat*sz=0
  ·have hm0:m.toNat=0:=by
    rcases Nat.mul_eq_zero.1 h00 with h | h
    ·exact h
    omega
   rw[if_pos h00];have e0:((Array.range (m.toNat*sz)).map fun i=>(#[]:Array Value)[i % (#[]:Array Value).size]!)=(⟨(List.replicate m.toNat zs).flatten⟩:Array Value):=by
    rw[h00,hm0];simp
   simp only[Sem.run_bind,e0,newRow,newObj,Sem.run,Result.andThen,Sem.run_pure,List.length_replicate];rfl
  rw[if_neg h00];simp only[Sem.run_bind,hzv,Result.andThen_ok,harr,newRow,newObj,Sem.run,Result.andThen,Sem.run_pure,List.length_replicate];rfl
theorem CJ {T e:TypeId}{sz bytes n c b:Nat}{k:IntKind}{i:Int}(hT:E1 P T=some (e,sz,bytes)) (hx:ρ x= .vs (some b) n c) (hy:ρ y= .p (.int k i)) (h0:0≤i) (hn:i<n) :
  Dm P ⟨dst,.indexAddr T x y,ty,pos,aft,g⟩ ρ H (.ptr b (i.toNat*sz)) H :=
 Bw fun F w E hH hE=>by
  obtain⟨hu,j,hj,hs1,_⟩:=Dy hT;have h1:=hE x Al;have h2:=hE y Al;rw[hx] at h1;rw[hy] at h2;simp only[Bz,Br] at h1 h2;refine⟨.pointer (some ⟨b,0+i.toNat*sz,none⟩),?_,by simp[Bz]⟩;simp[execOp,Instr.indexAt,Sem.run_bind,run_underlying hu,h1,h2,asIntOf,h0,hn,sizeOf,typeInfo,hj,hs1,Addr.add_mid]
theorem Dl {T:TypeId}{b i j sz c:Nat}{rows:List (List PV)}{r:List PV}(hT:EH P T=some (true,sz)) (hx:ρ x= .ptr b (j*sz)) (hi:H[i]?=some (.vec (some b) sz rows c)) (hr:rows[j]?=some r) :
  Dm P ⟨dst,.load T x,ty,pos,aft,g⟩ ρ H (.agg (r.map .p)) H :=
 Bw fun F w E hH hE=>by
  obtain⟨d,hu,hd,hz⟩:=FV hT;have h1:=hE x Al;rw[hx] at h1;simp only[Bz] at h1;obtain⟨vs,T',hb,_,_,hrows⟩:=hH.obj _ (List.mem_of_getElem? hi);obtain⟨hc,hl⟩:=hrows.at hr;obtain⟨us,u1,u2,u3⟩:=hc.vals;rw[Nat.zero_add] at u1;refine⟨.agg ⟨us⟩,?_,by simp only[Bz];exact⟨us,rfl,u3⟩⟩;simp only[execOp,Instr.loadAt,h1,Instr.sureAddr,Sem.run_bind,Sem.run_pure,Result.andThen_ok,Hw hu hd u1 (by rw[hz,u2,hl])]
theorem Lj {F:Nat→Prop}{w w':World}{b o:Nat}{us:List Value}{T:TypeId}{vs:List Value}(hb:w.heap[b]?=some (.cells ⟨vs⟩ T (0,0))) (hb':w'.heap[b]?=some (.cells ⟨splice vs o us⟩ T (0,0))) (st:Dq F w F w') :
  ∀{cs:List PV} {p:Nat},(p+cs.length≤o∨o+us.length≤p)→CM F w b p cs→CM F w' b p cs:=by
 have hget:∀(us vs:List Value) (o q:Nat),(q<o∨o+us.length≤q)→(splice vs o us)[q]?=vs[q]?:=by
  intro us
  induction us with
  | nil=>intro vs o q _;rfl
  | cons u us ih =>
   intro vs o q h;simp only[splice];rw[ih _ _ _ (by simp at h ⊢;omega),List.getElem?_set_ne (by simp at h;omega)]
 intro cs
 induction cs with
 | nil=>intro p _ _;simp[CM]
 | cons c cs ih =>
  intro p h hc;simp only[CM] at hc ⊢;obtain⟨⟨v,hv,hp⟩,hr⟩:=hc;refine⟨⟨v,?_,Br.mono st _ _ hp⟩,ih (by simp at h;omega) hr⟩;have hq:=hget us vs o p (by simp at h;omega);simp[World.cell?,hb] at hv;simp[World.cell?,hb',hq,hv]
theorem aF {F:Nat→Prop}{w w':World}{b o sz:Nat}{us:List Value}{T:TypeId}{vs:List Value}(hb:w.heap[b]?=some (.cells ⟨vs⟩ T (0,0))) (hb':w'.heap[b]?=some (.cells ⟨splice vs o us⟩ T (0,0))) (st:Dq F w F w') (hus:us.length=sz) {r:List PV}(hr:CM F w' b o r) (hrl:r.length=sz) :
  ∀{rows:List (List PV)} {p j:Nat},o=p+j*sz→Bl F w b sz p rows→Bl F w' b sz p (rows.set j r):=by
 intro rows
 induction rows with
 | nil=>intro p j _ _;simp[Bl]
 | cons r' rows ih =>
  intro p j ho h;simp only[Bl] at h;cases j with
  | zero =>
   simp only[List.set_cons_zero,Bl];have:o=p:=by omega
   subst this;refine⟨hrl,hr,?_⟩;have:∀{rows:List (List PV)} {q:Nat},o+sz≤q→Bl F w b sz q rows→Bl F w' b sz q rows:=by
    intro rows
    induction rows with
    | nil=>intro q _ _;simp[Bl]
    | cons a rows ih2 =>
     intro q hq ha;simp only[Bl] at ha ⊢;exact⟨ha.1,Lj hb hb' st (.inr Au) ha.2.1,ih2 Au ha.2.2⟩
   exact this Au h.2.2
  | succ j =>
   simp only[List.set_cons_succ,Bl];rw[Nat.succ_mul] at ho;exact⟨h.1,Lj hb hb' st (.inl (by rw[h.1];omega)) h.2.1,ih Au h.2.2⟩
theorem Ol {α:Type}:∀(us vs:List α) (o q:Nat) (u:α),us[q]?=some u→o+us.length≤vs.length→(splice vs o us)[o+q]?=some u
 | [],vs,o,q,u,h,_=>by simp at h
 | a::us,vs,o,q,u,h,hl=>by
  simp only[splice];cases q with
  | zero =>
   simp at h;subst h;have hget:∀(us vs:List α) (o q:Nat),q<o→(splice vs o us)[q]?=vs[q]?:=by
    intro us
    induction us with
    | nil=>intro vs o q _;rfl
    | cons u us ih=>intro vs o q h;simp only[splice];rw[ih _ _ _ Au,List.getElem?_set_ne Au]
   rw[hget _ _ _ _ Au];show (vs.set o a)[o]?=some a;rw[List.getElem?_set_self (by simp at hl;omega)]
  | succ q =>
   simp at h;have:=Ol us (vs.set o a) (o+1) q u h (by simp at hl ⊢;omega)
   rwa [Nat.add_assoc,Nat.add_comm 1 q] at this
theorem Uz {T:TypeId}{bl:Bool}{b i j sz c:Nat}{rows:List (List PV)}{us:List AV}{r:List PV}(hT:EH P T=some (bl,sz)) (hpos:Nat.blt 0 sz=true) (hx:ρ x= .ptr b (j*sz)) (hi:H[i]?=some (.vec (some b) sz rows c)) (hj:j<rows.length) (hy:E0 (ρ y)=some us) (hp:Hc (us.map dn)=some r) (hrl:r.length=sz) (h1:us.all one=true) :
  Dm P ⟨dst,.store T x y,ty,pos,aft,g⟩ ρ H (.p .any) (H.set i (.vec (some b) sz (rows.set j r) c)) :=
 I3 fun F w E hH hE=>by
  have hpos':0<sz:=by simpa [Nat.blt_eq] using hpos
  have e1:=hE x Al;have e2:=hE y Al;rw[hx] at e1;simp only[Bz] at e1;obtain⟨vs,T',hb,hcs,hcl,hrows⟩:=hH.obj _ (List.mem_of_getElem? hi);obtain⟨vs⟩:=vs;obtain⟨ws,hc,hl'⟩:=LC e2 hy;have hul:us.length=sz:=by
   have:=congrArg List.length (I0 hp);simp at this;omega
  have hlen:=hl'.length;have hw:Ig b (.cells ⟨splice vs (j*sz) ws⟩ T' (0,0)) w (w.setCells b (j*sz) ws):=IQ ws hb (by intro e;rw[e] at hlen;simp at hlen;omega);have hlt:b<w.heap.size:=(Array.getElem?_eq_some_iff.1 hb).1;have hF:F b:=hH.sub _ (List.mem_of_getElem? hi) b rfl;have hcs':c*sz≤vs.length:=by simpa using hcs
  have hfit:j*sz+sz≤vs.length:=by
   have:(j+1)*sz≤c*sz:=Nat.mul_le_mul_right sz Au;rw[Nat.succ_mul] at this;omega
  refine⟨w.setCells b (j*sz) ws,_,F,?_,⟨O,O⟩,hw.trans hi O O,hw.HRel hH hi O O ?_⟩
  ·have hst:=MW (T:=T) (v:=E y) (o:=j*sz) hT hb hc Au hfit (Pd hl' h1);simp only[execOp,Instr.storeAt,e1,Instr.sureAddr,Sem.run_bind,Sem.run_pure,Result.andThen_ok,hst]
  have hb':=hw.self hlt;have st:=hw.stable hF;refine⟨⟨splice vs (j*sz) ws⟩,T',hb',by simp only[Hl,List.size_toArray];exact hcs',by simpa using hcl,?_⟩;refine aF hb hb' st Au (r:=r) ?_ hrl Av hrows;have hln:=LO (Bf.mono st _ _ hl');rw[I0 hp] at hln;refine ND (vs:=ws) ?_ hln;intro q u hq;have:=Ol ws vs (j*sz) q u hq Au;simp[World.cell?,hb',this]
end
section
variable {P:Program}{dst:Option Tmp}{ty:TypeId}{pos:String}{aft:Array Edge}{g:Option (Nat×Bool)}{ρ:Operand→AV}{H:List A4}{x y z:Operand}{v:AV}
theorem Bl.vals {F:Nat→Prop}{w:World}{b sz:Nat}:∀{rows:List (List PV)}{o:Nat},Bl F w b sz o rows→∃us:List Value,w.rangeAt b o us∧us.length=rows.length*sz∧Bf F w (rows.flatten.map .p) us
 | [],o,_=>⟨[],by intro j v h;simp at h,by simp,by simp[Bf]⟩
 | r::rows,o,h=>by
  simp only[Bl] at h;obtain⟨us,a1,a2,a3⟩:=h.2.1.vals;obtain⟨vs,b1,b2,b3⟩:=Bl.vals h.2.2;refine⟨us++vs,?_,by simp only[List.length_append,List.length_cons,Nat.succ_mul];rw[a2,b2,h.1];omega,?_⟩
  ·intro j v hv;rcases Nat.lt_or_ge j us.length with hj | hj
   ·rw[List.getElem?_append_left hj] at hv;exact a1 j v hv
   rw[List.getElem?_append_right hj] at hv;have:=b1 _ v hv;have e:o+sz+(j - us.length)=o+j:=by rw[←h.1,←a2];omega
   rwa [e] at this
  rw[List.flatten_cons,List.map_append];exact a3.append b3
theorem Oe {need c:Nat}(h:c<need):Builtin.nextslicecap need c≤2*need:=by
 unfold Builtin.nextslicecap;split
 ·omega
 split
 ·omega
 have key:∀(r c:Nat),256≤c→c≤2*need→Builtin.growBy need r c≤2*need:=by
  intro r
  induction r with
  | zero=>intro c _ h;exact h
  | succ r ih =>
   intro c h1 h2;unfold Builtin.growBy;split
   ·exact h2
   exact ih _ Au Au
 exact key 4 c Au Au
def PW (i sz:Nat) (rows:List (List PV)) (H:List A4):EG→List A4→Prop
 | .val v,H'=>∃o c,v= .vs o rows.length c∧H'=H.set i (.vec o sz rows c)
 | .panic _,_=>False
theorem HN {F:Nat→Prop}{w:World}{sz:Nat}{rows:List (List PV)}{u:Value}(h:Bz F w (.p (.lst rows)) u) (hr:∀r∈rows,r.length=sz) :
  ∃us o c,u= .slice o rows.length c∧(Builtin.firstCells sz rows.length u).run P w= .ok ⟨us⟩ w∧us.length=rows.length*sz∧Bf F w (rows.flatten.map .p) us:=by
 simp only[Bz,Br] at h;rcases h with ⟨rfl,o,c,rfl⟩ | ⟨b,o,c,sz',rfl,hF,hb,hc,hrows⟩
 ·refine⟨[],o,c,O,?_,by simp,by simp[Bf]⟩;cases o with
  | none=>rfl
  | some a=>simp[Builtin.firstCells,loadCells,loadCellsFrom]
 cases rows with
 | nil =>
  refine⟨[],some ⟨b,o,none⟩,c,O,?_,by simp,by simp[Bf]⟩;simp[Builtin.firstCells,loadCells,loadCellsFrom]
 | cons r rows =>
  have e:sz'=sz:=by
   have h1:=hr r Av;simp only[Bl] at hrows;omega
  subst e;obtain⟨us,h1,h2,h3⟩:=hrows.vals;refine⟨us,some ⟨b,o,none⟩,c,O,?_,h2,h3⟩;have:=run_loadCells_list (P:=P) w ⟨b,o,none⟩ us (fun j v hv=>by rw[Addr.add_mid];exact h1 j v hv);rw[h2] at this;exact this
theorem NA {F:Nat→Prop}{w:World}{o:Option Nat}{sz c:Nat}{rows:List (List PV)}{u:Value}(ho:JV F w (.vec o sz rows c)) (h:Bz F w (.vs o rows.length c) u) :
  ∃us,(Builtin.firstCells sz rows.length u).run P w= .ok ⟨us⟩ w∧us.length=rows.length*sz∧Bf F w (rows.flatten.map .p) us:=by
 cases o with
 | none =>
  obtain⟨rfl,rfl⟩:=ho;simp only[Bz] at h;obtain⟨_,_,a,rfl⟩:=h;refine⟨[],?_,by simp,by simp[Bf]⟩;cases a with
  | none=>rfl
  | some a=>simp[Builtin.firstCells,loadCells,loadCellsFrom]
 | some b =>
  simp only[Bz] at h;subst h;obtain⟨vs,T,hb,h1,h2,hrows⟩:=ho;obtain⟨us,a1,a2,a3⟩:=hrows.vals;refine⟨us,?_,a2,a3⟩;have:=run_loadCells_list (P:=P) w ⟨b,0,none⟩ us (fun j v hv=>by rw[Addr.add_mid];exact a1 j v hv);rw[a2] at this;exact this
theorem Q7 {F:Nat→Prop}{w:World}{b sz:Nat}:∀{rows rows':List (List PV)}{o:Nat},Bl F w b sz o rows→Bl F w b sz (o+rows.length*sz) rows'→Bl F w b sz o (rows++rows')
 | [],rows',o,_,h=>by simpa using h
 | r::rows,rows',o,h,h'=>by
  simp only[List.cons_append,Bl] at h ⊢;refine⟨h.1,h.2.1,Q7 h.2.2 ?_⟩;simp only[List.length_cons,Nat.succ_mul] at h';have e:o+sz+rows.length*sz=o+(rows.length*sz+sz):=by omega
  rw[e];exact h'
theorem Kz (z:Array Value) (n:Nat):(Builtin.zeroCells z n).size=n*z.size:=by simp[Builtin.zeroCells]
theorem mZ {rows:List (List PV)}{sz:Nat}(h:∀r∈rows,r.length=sz):rows.flatten.length=rows.length*sz:=by
 induction rows with
 | nil=>simp
 | cons r rows ih=>simp only[List.flatten_cons,List.length_append,List.length_cons,Nat.succ_mul,ih (fun r hr=>h r (by simp[hr])),h r Av];omega
theorem Bl.lens {F:Nat→Prop}{w:World}{b sz:Nat}:∀{rows:List (List PV)}{o:Nat},Bl F w b sz o rows→∀r∈rows,r.length=sz
 | [],_,_=>by simp
 | r::rows,o,h=>by
  simp only[Bl] at h;intro r' hr';rcases List.mem_cons.1 hr' with rfl | hr'
  ·exact h.1
  exact Bl.lens h.2.2 r' hr'
theorem JV.lens {F:Nat→Prop}{w:World}{o:Option Nat}{sz c:Nat}{rows:List (List PV)}(h:JV F w (.vec o sz rows c)):∀r∈rows,r.length=sz:=by
 cases o with
 | none=>obtain⟨rfl,_⟩:=h;simp
 | some b=>obtain⟨_,_,_,_,_,hr⟩:=h;exact hr.lens
def Ej (sz:Nat) (r:List PV):Prop:=r.length=sz∧∀c∈r,c≠ .any∧c≠ .unit
theorem iG {rows:List (List PV)}{sz:Nat}(h:∀r∈rows,Ej sz r):(rows.flatten.map AV.p).all one=true:=by
 rw[List.all_eq_true];intro a ha;obtain⟨c,hc,rfl⟩:=List.mem_map.1 ha;obtain⟨r,hr,hcr⟩:=List.mem_flatten.1 hc;have:=(h r hr).2 c hcr;cases c<;>simp_all [one]
theorem N5 {T T2 e e2:TypeId}{sz bytes n2 n3 c i n:Nat}{o:Option Nat}{rows rows':List (List PV)}{zv:Value}(hT:E1 P T=some (e,sz,bytes)) (hT2:E1 P T2=some (e2,n2,n3)) (hz:zeroOf P e=some zv) (hzs:zv.cells.size=sz) (hb0:(Nat.blt 0 sz&&Nat.blt 0 bytes)=true)
  (hx:∀F w u,Bz F w (ρ x) u→Bz F w (.vs o n c) u) (hn:n=rows.length) (hi:H[i]?=some (.vec o sz rows c)) (hy:norm (ρ y)= .p (.lst rows')) (hsol:∀r∈rows',Ej sz r) (hroom:2*(rows.length+rows'.length)*bytes≤281474976710656) :
  DL P ⟨dst,.call { callee:= .builtin .append,args:=#[x,y],argTypes:=#[T,T2] },ty,pos,aft,g⟩ ρ H (PW i sz (rows++rows') H) :=
 G9 fun F w E hH hE=>by
  subst hn;have hr':∀r∈rows',r.length=sz:=fun r hr=>(hsol r hr).1;simp only[Bool.and_eq_true,Nat.blt_eq] at hb0;obtain⟨hu,inf,hinf,hs,hby⟩:=Dy hT;obtain⟨hu2,_⟩:=Dy hT2;have h1:=hE x Af;have h2:=(hE y Af).norm;replace h1:=hx _ _ _ h1;rw[hy] at h2;have hobj:=hH.obj _ (List.mem_of_getElem? hi);obtain⟨ns,oy,cy,hEy,hns,hnsl,hnsr⟩:=HN (P:=P) h2 hr';obtain⟨os,hos,hosl,hosr⟩:=NA (P:=P) hobj h1;have hEx:∃base,E x= .slice base rows.length c∧(∀b,o=some b→base=some ⟨b,0,none⟩):=by
   cases o with
   | none =>
    simp only[Bz] at h1;obtain⟨e1,e2,a,ha⟩:=h1;refine⟨a,?_,fun b hb=>by cases hb⟩;rw[ha,e1,e2]
   | some b=>simp only[Bz] at h1;exact⟨_,h1,fun b' hb=>by injection hb with hb;subst hb;rfl⟩
  obtain⟨base,hEx,hbase⟩:=hEx;unfold zeroOf at hz;have hz':∃j,P.info? e=some j∧j.zero=some zv:=by
   cases hq:P.info? e with
   | none=>simp[hq] at hz
   | some j=>exact⟨j,rfl,by simpa [hq] using hz⟩
  obtain⟨j,hj,hz'⟩:=hz';have hzv:∀w,(zeroValue e).run P w= .ok zv w:=fun w=>by simp[zeroValue,typeInfo,hj,hz',Sem.run_bind]
  have hti:∀w,(typeInfo e).run P w= .ok inf w:=fun w=>by simp[typeInfo,hinf]
  have hszr:∀w,(sizeOf e).run P w= .ok sz w:=fun w=>by simp[sizeOf,typeInfo,hinf,hs]
  have hlens:=hobj.lens;have hlall:∀r∈rows++rows',r.length=sz:=by
   intro r hr;rcases List.mem_append.1 hr with hr | hr
   ·exact hlens r hr
   exact hr' r hr
  have hlen:(rows++rows').length=rows.length+rows'.length:=by simp
  have hlenof:∀w,(Builtin.lenOf (E y)).run P w= .ok rows'.length w:=fun w=>by rw[hEy];rfl
  have hzeros:((TypeDesc.slice e2) matches .int _)=false:=rfl;by_cases hcap:rows.length+rows'.length≤c
  ·-- there is room
   have hrun:∀w',(match base with | some a=>(storeCells (a.add (rows.length*sz)) ns).run P w= .ok () w' | none=>w'=w) →
     (execOp E ⟨dst,.call { callee:= .builtin .append,args:=#[x,y],argTypes:=#[T,T2] },ty,pos,aft,g⟩).run P w= .ok (.value (.slice base (rows.length+rows'.length) c)) w':=by
    intro w' hst;have hEx':=hEx;simp only[execOp,resolve,invoke,builtin,Builtin.append_,hEx,Sem.run_bind,Sem.run_pure,Result.andThen_ok,List.map_toArray,List.map_cons,List.map_nil,List.getElem?_toArray,List.getElem?_cons_zero,List.getElem?_cons_succ,run_underlying hu,run_underlying hu2,hszr,pure_bind,
     Bool.false_eq_true,if_false,hlenof,Bool.not_false,if_true]
    rw[if_pos hcap];simp only[Sem.run_bind,hns,Result.andThen_ok];cases base with
    | none=>simp only at hst;subst hst;simp
    | some a=>simp only at hst;simp[hst]
   cases o with
   | none =>
    obtain⟨rfl,rfl⟩:=hobj;have hr0:rows'=[]:=by simpa using hcap
    subst hr0;have hns0:ns=[]:=by
     apply List.eq_nil_of_length_eq_zero;simpa using hnsl
    subst hns0;have hset:H.set i (.vec none sz ([]++[]) 0)=H:=by
     rw[List.append_nil];apply List.ext_getElem?;intro k;rw[List.getElem?_set];split
     ·rename_i hk;subst hk;rw[hi];split
      ·rfl
      rename_i hge;rw[List.getElem?_eq_none Au] at hi;cases hi
     rfl
    refine⟨_,w,.vs none 0 0,H,F,hrun w ?_,⟨none,0,O,hset.symm⟩,.refl,hH,?_⟩
    ·cases base with
     | none=>rfl
     | some a=>rfl
    ·simp only[Bz];exact⟨trivial,trivial,base,rfl⟩
   | some b =>
    obtain⟨vs,T',hb,hcs,hcl,hrows⟩:=hobj;obtain⟨vs⟩:=vs;have hbase':=hbase b rfl;subst hbase';have hcs':c*sz≤vs.length:=by simpa using hcs
    have hlt:b<w.heap.size:=(Array.getElem?_eq_some_iff.1 hb).1;have hF:F b:=hH.sub _ (List.mem_of_getElem? hi) b rfl;cases hrr:rows' with
    | nil =>
     subst hrr;have hns0:ns=[]:=by
      apply List.eq_nil_of_length_eq_zero;simpa using hnsl
     subst hns0;have hset:H.set i (.vec (some b) sz (rows++[]) c)=H:=by
      rw[List.append_nil];apply List.ext_getElem?;intro k;rw[List.getElem?_set];split
      ·rename_i hk;subst hk;rw[hi];split
       ·rfl
       rename_i hge;rw[List.getElem?_eq_none Au] at hi;cases hi
      rfl
     refine⟨_,w,.vs (some b) (rows++[]).length c,H,F,hrun w O,⟨some b,c,O,hset.symm⟩,.refl,hH,?_⟩;simp[Bz]
    | cons r0 rr =>
     rw[←hrr];have hnsne:ns≠[]:=by
      intro e0;rw[e0] at hnsl;rw[hrr] at hnsl;simp[Nat.succ_mul] at hnsl;omega
     have hw:Ig b (.cells ⟨splice vs (rows.length*sz) ns⟩ T' (0,0)) w (w.setCells b (rows.length*sz) ns):=IQ ns hb hnsne;have hfit:rows.length*sz+ns.length≤vs.length:=by
      have:(rows.length+rows'.length)*sz≤c*sz:=Nat.mul_le_mul_right sz hcap;rw[Nat.add_mul] at this;omega
     have st:=hw.stable hF;have hb':=hw.self hlt;refine⟨_,w.setCells b (rows.length*sz) ns,.vs (some b) (rows++rows').length c,_,F,hrun _ ?_,⟨some b,c,O,O⟩,hw.trans hi O O,hw.HRel hH hi O O ?_,by simp[Bz]⟩
     ·have ht:=YJ hb (o:=rows.length*sz) (n:=ns.length) hfit;have h1':∀u∈ns,u.oneCell'=true:=Pd hnsr (iG hsol);have:=run_storeCells_cells (P:=P) b (rows.length*sz) ns 0 w (fun q hq=>by simpa using (ht q hq).1) (fun q hq=>by simpa using (ht q hq).2) h1';simp only[Nat.add_zero] at this;simp only[Addr.add_mid,Nat.zero_add];exact this
     refine⟨⟨splice vs (rows.length*sz) ns⟩,T',hb',by simp only[Hl,List.size_toArray];exact hcs',by simp;omega,?_⟩;refine Q7 ?_ ?_
     ·have:∀{rs:List (List PV)} {q:Nat},q+rs.length*sz≤rows.length*sz→Bl F w b sz q rs→Bl F (w.setCells b (rows.length*sz) ns) b sz q rs:=by
       intro rs
       induction rs with
       | nil=>intro q _ _;simp[Bl]
       | cons a rs ih2 =>
        intro q hq ha;simp only[Bl] at ha ⊢;simp only[List.length_cons,Nat.succ_mul] at hq;exact⟨ha.1,Lj hb hb' st (.inl (by rw[ha.1];omega)) ha.2.1,ih2 Au ha.2.2⟩
      exact this Au hrows
     refine Lw (vs:=ns) hr' ?_ (Bf.mono st _ _ hnsr);intro q u hq;have:=Ol ns vs (rows.length*sz) q u hq hfit;simp[World.cell?,hb',this]
  -- a new array
  have hcap':c<rows.length+rows'.length:=by omega
  generalize hnc:Question.cut (.appendCap (rows.length+rows'.length) c e) (w.tape w.drawn (.appendCap (rows.length+rows'.length) c e))=newCap;have hncge:rows.length+rows'.length≤newCap:=by rw[←hnc];simp only[Question.cut];omega
  have hnext:=Oe hcap';have hask:∀(b:Nat) w,(askRoom b).run P w= .ok () w:=by intro b w;unfold askRoom;split<;>rfl
  let w1:World:={ w with drawn:=w.drawn+1 }
  have same:Dq F w F w1:=⟨Nat.le_refl _,fun _ _ _=>rfl,fun _ h _=>h⟩;have hobj':JV F w1 (.vec o sz rows c):=JV.mono same _ (fun _ _=>rfl) hobj;obtain⟨ns',oy',cy',hEy',hns',hnsl',hnsr'⟩:=HN (P:=P) (Bz.mono same _ _ h2) hr';obtain⟨os',hos',hosl',hosr'⟩:=NA (P:=P) hobj' (Bz.mono same _ _ h1)
  let vs:List Value:=os'++ns'++(Builtin.zeroCells zv.cells (newCap - (rows.length+rows'.length))).toList
  have hrun:(execOp E ⟨dst,.call { callee:= .builtin .append,args:=#[x,y],argTypes:=#[T,T2] },ty,pos,aft,g⟩).run P w= .ok (.value (.slice (some ⟨w.heap.size,0,none⟩) (rows.length+rows'.length) newCap)) (World.push w1 (.cells ⟨vs⟩ e (0,0))):=by
   have hos2:=hos';rw[hEx] at hos2;simp only[execOp,resolve,invoke,builtin,Builtin.append_,hEx,Sem.run_bind,Sem.run_pure,Result.andThen_ok,List.map_toArray,List.map_cons,List.map_nil,List.getElem?_toArray,List.getElem?_cons_zero,List.getElem?_cons_succ,run_underlying hu,run_underlying hu2,hszr,pure_bind,
    Bool.false_eq_true,if_false,hlenof,Bool.not_false,if_true]
   rw[if_neg hcap];simp only[Sem.run_bind,hti,Result.andThen_ok,hby];rw[if_neg Ao];simp only[Sem.run_bind,Sem.run_pure,Result.andThen_ok,hti,hby,pure_bind];rw[if_neg (by
    have:Builtin.nextslicecap (rows.length+rows'.length) c*bytes≤2*(rows.length+rows'.length)*bytes:=Nat.mul_le_mul_right bytes hnext;simp;omega)]
   have hch:(choose (.appendCap (rows.length+rows'.length) c e)).run P w= .ok newCap w1:=by
    simp only[choose,Sem.run,Question.forced,Bool.false_eq_true,if_false,hnc];rfl
   simp only[Sem.run_bind,Sem.run_pure,Result.andThen_ok,pure_bind,hch,hti,hask,hos2,hns',hzv,newRow,newObj,Sem.run,Result.andThen];have evs:(⟨os'⟩++⟨ns'⟩++Builtin.zeroCells zv.cells (newCap - (rows.length+rows'.length)):Array Value)=⟨vs⟩:=by
    apply Array.ext';simp[vs]
   rw[evs];rfl
  have hvl:vs.length=newCap*sz:=by
   simp only[vs,List.length_append,hosl',hnsl',Array.length_toList,Kz,hzs];rw[←Nat.add_mul,←Nat.add_mul];congr 1;omega
  have hlen2:(rows++rows').flatten.length=(rows.length+rows'.length)*sz:=by rw[mZ hlall,hlen]
  have hpre:Bf F w1 ((rows++rows').flatten.map .p) (vs.take ((rows++rows').flatten.length)):=by
   have e1:vs.take ((rows++rows').flatten.length)=os'++ns':=by
    rw[hlen2];have:(os'++ns').length=(rows.length+rows'.length)*sz:=by rw[List.length_append,hosl',hnsl',Nat.add_mul]
    rw[←this];exact List.take_left
   rw[e1,List.flatten_append,List.map_append];exact hosr'.append hnsr'
  -- the tracked object lies in the new array
  have hH1:HRel F H w1:=hH.stable' same (fun _ h=>h) (fun _ _ _ _=>rfl) hH.bd;have t1:Trans F H w F H w1:=⟨Nat.le_refl _,fun _ _ _=>rfl,fun _ h _=>h,fun _ h=> .inl h,fun o ho b hb=> .inl ⟨o,ho,hb⟩,rfl,rfl,rfl⟩;obtain⟨v',H',F',⟨b',c',hv',hH'⟩,ht,hHr,hrep⟩:=LA (T:=e) (c:=newCap) (vs:=vs) (H:=H) hH1 hlall hpre (by rw[hvl];exact Nat.le_refl _) (by rw[hlen];exact hncge);subst hv';subst hH';have hset:H.set i (.vec (some b') sz (rows++rows') c')=H.take i++ .vec (some b') sz (rows++rows') c'::H.drop (i+1):=by
   rw[List.set_eq_take_append_cons_drop,if_pos (List.getElem?_eq_some_iff.1 hi).1]
  have hperm:(A4.vec (some b') sz (rows++rows') c'::H.eraseIdx i).Perm (H.set i (.vec (some b') sz (rows++rows') c')):=by
   rw[hset,List.eraseIdx_eq_take_drop_succ];exact List.perm_middle.symm
  have hsub:(A4.vec (some b') sz (rows++rows') c'::H.eraseIdx i).Sublist (A4.vec (some b') sz (rows++rows') c'::H):=(List.eraseIdx_sublist H i).cons_cons _;refine⟨_,_,.vs (some b') (rows++rows').length c',H.set i (.vec (some b') sz (rows++rows') c'),F',hrun,⟨some b',c',O,O⟩,?_,(hHr.sublist hsub).perm hperm,by rw[←hlen];exact hrep⟩;have:=(t1.trans hH.bd ht).sublist hsub;exact { this with keys:=fun o ho=>this.keys o (hperm.mem_iff.2 ho) }
theorem Tz {T T2 e e2:TypeId}{sz bytes n2 n3 c i n:Nat}{o:Option Nat}{rows rows':List (List PV)}{zv:Value}(hT:E1 P T=some (e,sz,bytes)) (hT2:E1 P T2=some (e2,n2,n3)) (hz:zeroOf P e=some zv) (hzs:zv.cells.size=sz) (hb0:(Nat.blt 0 sz&&Nat.blt 0 bytes)=true)
  (hx:ρ x= .vs o n c) (hn:n=rows.length) (hi:H[i]?=some (.vec o sz rows c)) (hy:norm (ρ y)= .p (.lst rows')) (hsol:∀r∈rows',Ej sz r) (hroom:2*(rows.length+rows'.length)*bytes≤281474976710656) :
  DL P ⟨dst,.call { callee:= .builtin .append,args:=#[x,y],argTypes:=#[T,T2] },ty,pos,aft,g⟩ ρ H (PW i sz (rows++rows') H) :=
 N5 hT hT2 hz hzs hb0 (fun _ _ _ h=>by rw[hx] at h;exact h) hn hi hy hsol hroom
theorem Mo {T T2 e e2:TypeId}{sz bytes n2 n3 d:Nat}{rows':List (List PV)}{zv:Value}(hT:E1 P T=some (e,sz,bytes)) (hT2:E1 P T2=some (e2,n2,n3)) (hz:zeroOf P e=some zv) (hzs:zv.cells.size=sz) (hb0:(Nat.blt 0 sz&&Nat.blt 0 bytes)=true)
  (hx:∀F w u,Bz F w (ρ x) u→Bz F w (.vs none 0 0) u) (hy:norm (ρ y)= .p (.lst rows')) (hsol:∀r∈rows',Ej sz r) (hroom:2*rows'.length*bytes≤281474976710656) :
  Dm P ⟨some d,.call { callee:= .builtin .append,args:=#[x,y],argTypes:=#[T,T2] },ty,pos,aft,g⟩ ρ H (.p (.lst rows')) H:=by
 intro r F S a w hs hH hρ hd;subst hH;have hg:HRel F (.vec none sz [] 0::S.H) w:=⟨fun o ho b hb=>by
   rcases List.mem_cons.1 ho with rfl | ho
   ·cases hb
   ·exact hs.heap.sub o ho b hb,by simpa [List.filterMap_cons,A4.key] using hs.heap.nodup,fun o ho=>by
   rcases List.mem_cons.1 ho with rfl | ho
   ·exact⟨O,O⟩
   exact hs.heap.obj o ho,hs.heap.bd⟩
 have hs1:GI F ⟨S.n,S.τ,.vec none sz [] 0::S.H,S.D⟩ a w:=⟨hs.size,hs.tmp,hg,hs.defs⟩;have h:=N5 (P:=P) (dst:=some d) (ty:=ty) (pos:=pos) (aft:=aft) (g:=g) (ρ:=ρ) (H:= .vec none sz [] 0::S.H) (i:=0) (o:=none) (rows:=[]) (n:=0) (c:=0) hT hT2 hz hzs hb0 hx rfl rfl hy hsol (by simpa using hroom) r F _ a w hs1 rfl hρ hd;refine I1 h ?_ ?_
 ·rintro a' w' ⟨v,H',F',⟨o,c,rfl,rfl⟩,hs',ht⟩;simp only[List.nil_append,List.set_cons_zero,BM.put] at hs' ht;obtain⟨F'',hs'',ht''⟩:=CL (n:=S.n) (τ:=put S.τ (some d) (.vs o rows'.length c)) (H:= .vec o sz rows' c::S.H) (D:=S.D) (i:=0) [d] rfl (fun t ht=>by simp at ht;subst ht;simp[put]) F' a' w' hs';have e:Ky [d] (.p (.lst rows')) (put S.τ (some d) (.vs o rows'.length c))=put S.τ (some d) (.p (.lst rows')):=by
   funext t;simp only[Ky,put,List.any_cons,List.any_nil,Bool.or_false];cases Nat.beq t d<;>rfl
  simp only[e,List.eraseIdx_cons_zero] at hs'' ht'';have t:=ht.trans hs.heap.bd ht'';refine⟨_,S.H,F'',⟨O,O⟩,hs'',⟨t.size,fun b hb hn=>t.same b hb ?_,fun b hb hn=>t.keep b hb ?_,t.fresh,fun o' ho b hb=>?_,t.os,t.out,t.tape⟩⟩
  ·intro o' ho hk;rcases List.mem_cons.1 ho with rfl | ho
   ·cases hk
   exact hn o' ho hk
  ·intro o' ho hk;rcases List.mem_cons.1 ho with rfl | ho
   ·cases hk
   exact hn o' ho hk
  rcases t.keys o' ho b hb with ⟨o2,ho2,hk2⟩ | h
  ·rcases List.mem_cons.1 ho2 with rfl | ho2
   ·cases hk2
   exact .inl ⟨o2,ho2,hk2⟩
  exact .inr h
 rintro e a' w' ⟨v,H',F',u,h,_⟩;exact h.elim
end
section
variable {P:Program}{r:Option Nat}{ops:Array Oper}{Q:Cj→BM→Prop}{k:Nat}{n:Nat}{τ:Nat→AV}{H H':List A4}{D:List D4}{dst:Option Tmp}{op:Op}{ty:TypeId}{pos:String}{aft:Array Edge}{v:AV}
theorem ET {i sz:Nat}{rows:List (List PV)}(ho:ops[k]?=some ⟨dst,op,ty,pos,aft,none⟩) (hd:Gj dst n=true) (h:DL P ⟨dst,op,ty,pos,aft,none⟩ (ev τ) H (PW i sz rows H))
  (next:∀o c,AL P r ops (k+1) ⟨n,put τ dst (.vs o rows.length c),H.set i (.vec o sz rows c),D⟩ Q):AL P r ops k ⟨n,τ,H,D⟩ Q :=
 Fm (S:=⟨n,τ,H,D⟩) ho An (He hd) h (fun v H' ⟨o,c,h1,h2⟩=>by subst h1;subst h2;exact next o c) (fun _ _ h=>h.elim)
theorem P7 {sz:Nat}{rows:List (List PV)}(ho:ops[k]?=some ⟨dst,op,ty,pos,aft,none⟩) (hd:Gj dst n=true) (h:DL P ⟨dst,op,ty,pos,aft,none⟩ (ev τ) H (Lc sz rows H))
  (next:∀b c,AL P r ops (k+1) ⟨n,put τ dst (.vs (some b) rows.length c),.vec (some b) sz rows c::H,D⟩ Q):AL P r ops k ⟨n,τ,H,D⟩ Q :=
 Fm (S:=⟨n,τ,H,D⟩) ho An (He hd) h (fun v H' ⟨b,c,h1,h2⟩=>by subst h1;subst h2;exact next b c) (fun _ _ h=>h.elim)
def Ww (v:AV) (H:List A4):EG→List A4→Prop
 | .val _,_=>False
 | .panic v',H'=>v'=v∧H'=H
theorem T4 (ho:ops[k]?=some ⟨dst,op,ty,pos,aft,none⟩) (hd:Gj dst n=true) (h:DL P ⟨dst,op,ty,pos,aft,none⟩ (ev τ) H (Ww v H')) (pan:Q (.panic v) ⟨n,τ,H',D⟩):AL P r ops k ⟨n,τ,H,D⟩ Q :=
 Fm (S:=⟨n,τ,H,D⟩) ho An (He hd) h (fun _ _ h=>h.elim) (fun v' H'' ⟨h1,h2⟩=>by subst h1;subst h2;exact pan)
end
section
variable {P:Program}{dst:Option Tmp}{ty:TypeId}{pos:String}{aft:Array Edge}{g:Option (Nat×Bool)}{ρ:Operand→AV}{H:List A4}{x y z:Operand}{v:AV}
theorem Qk {T:TypeId}{c:PV}(hx:ρ x= .p (.iface T c)):DL P ⟨dst,.panic x,ty,pos,aft,g⟩ ρ H (Ww (.p (.iface T c)) H):=by
 intro r F S a w hs hH hρ hd;subst hH;refine MA O ?_;have h1:Bz F w (ρ x) (a.eval x):=by rw[←hρ x Al];exact hs.eval x
 rw[hx] at h1;have h1':=h1;simp only[Bz,Br] at h1;obtain⟨u,hu,hc⟩:=h1;have hrun:(execOp a.eval ⟨dst,.panic x,ty,pos,aft,g⟩).run P w= .halt (.panic (.iface T u)) w:=by
  simp[execOp,Instr.panic,hu,goPanic,Sem.run_bind,Sem.run]
 simp only[hrun,Oper.uponIn];exact⟨_,S.H,F,.iface T u,⟨O,O⟩,O,by rw[hu] at h1';exact h1',hs,.refl⟩
theorem TK {T A:TypeId}{d:TypeDesc}{c:PV}(hu:P.underlying A=some d) (hd:(match d with | .interface _=>false | _=>true)=true) (hx:ρ x= .p (.iface A c)):Dm P ⟨dst,.typeAssert x T A true,ty,pos,aft,g⟩ ρ H (.tup [.p c,.p (.bool true)]) H :=
 Bw fun F w E hH hE=>by
  have h1:=hE x Al;rw[hx] at h1;simp only[Bz,Br] at h1;obtain⟨u,hv,hc⟩:=h1;refine⟨.tuple #[u,.bool true],?_,?_⟩
  ·cases d<;>simp_all [execOp,Instr.typeAssert,Sem.run_bind,run_underlying hu]
  simp only[Bz];exact⟨[u,.bool true],O,by simp only[Bf,Bz,Br];exact⟨u,_,rfl,hc,_,_,rfl,rfl,rfl⟩⟩
theorem Mu (op:BinOp) (t:TypeId) (a b:ByteArray) (w:World):(eqGuard op t x y (.string a) (.string b)).run P w= .ok () w:=by
 unfold eqGuard;split<;>rfl
theorem Gs {T U:TypeId}{a b:ByteArray}(hx:ρ x= .p (.str a)) (hy:ρ y= .p (.str b)):Dm P ⟨dst,.binOp .eql T x y U,ty,pos,aft,g⟩ ρ H (.p (.bool (a.toList==b.toList))) H :=
 Bw fun F w E hH hE=>by
  have h1:=hE x Al;have h2:=hE y Al;rw[hx] at h1;rw[hy] at h2;simp only[Bz,Br] at h1 h2;refine⟨.bool (a.toList==b.toList),?_,by simp[Bz,Br]⟩;simp[execOp,Sem.run_bind,Mu,h1,h2,binOp,Op.stringOp]
theorem Js {T U:TypeId}{a b:ByteArray}(hx:ρ x= .p (.str a)) (hy:ρ y= .p (.str b)):Dm P ⟨dst,.binOp .neq T x y U,ty,pos,aft,g⟩ ρ H (.p (.bool (!(a.toList==b.toList)))) H :=
 Bw fun F w E hH hE=>by
  have h1:=hE x Al;have h2:=hE y Al;rw[hx] at h1;rw[hy] at h2;simp only[Bz,Br] at h1 h2;refine⟨.bool (!(a.toList==b.toList)),?_,by simp[Bz,Br]⟩;simp[execOp,Sem.run_bind,Mu,h1,h2,binOp,Op.stringOp]
theorem G8 {a:Operand}{T:TypeId}{s:ByteArray}(hu:P.underlying T=some .string) (hx:ρ a= .p (.str s)) :
  Dm P ⟨dst,.call { callee:= .builtin .len,args:=#[a],argTypes:=#[T] },ty,pos,aft,g⟩ ρ H (.p (.int .i64 s.size)) H :=
 Bw fun F w E hH hE=>by
  have h1:=hE a Af;rw[hx] at h1;simp only[Bz,Br] at h1;refine⟨.int .i64 s.size,?_,by simp[Bz,Br]⟩;simp[execOp,resolve,invoke,builtin,Builtin.len_,h1,Sem.run_bind,run_underlying hu,goInt]
theorem Uy {T:TypeId}{k:IntKind}{i:Int}{s:ByteArray}{c:UInt8}(hu:P.underlying T=some .string) (hx:ρ x= .p (.str s)) (hy:ρ y= .p (.int k i)) (h0:0≤i) (hc:s[i.toNat]?=some c) :
  Dm P ⟨dst,.index T x y,ty,pos,aft,g⟩ ρ H (.p (.int .u8 c.toNat)) H :=
 Bw fun F w E hH hE=>by
  have h1:=hE x Al;have h2:=hE y Al;rw[hx] at h1;rw[hy] at h2;simp only[Bz,Br] at h1 h2;refine⟨.int .u8 c.toNat,?_,by simp[Bz,Br]⟩;simp[execOp,Instr.index,h1,h2,asIntOf,Sem.run_bind,run_underlying hu,h0,hc]
theorem F7 {a b:Operand}{T T2:TypeId}{m n:Int}(hx:ρ a= .p (.int .i64 m)) (hy:ρ b= .p (.int .i64 n)) :
  Dm P ⟨dst,.call { callee:= .builtin .max,args:=#[a,b],argTypes:=#[T,T2] },ty,pos,aft,g⟩ ρ H (.p (.int .i64 (max m n))) H :=
 Bw fun F w E hH hE=>by
  have h1:=hE a Af;have h2:=hE b Af;rw[hx] at h1;rw[hy] at h2;simp only[Bz,Br] at h1 h2;refine⟨.int .i64 (max m n),?_,by simp[Bz,Br]⟩;have e:(if n > m then n else m)=max m n:=by
   rw[Int.max_def];split<;>split<;>omega
  simp[execOp,resolve,invoke,builtin,Builtin.max_,Builtin.max2,h1,h2];rw[←e]
theorem nr {a b:Operand}{T T2:TypeId}{m n:Int}(hx:ρ a= .p (.int .i64 m)) (hy:ρ b= .p (.int .i64 n)) :
  Dm P ⟨dst,.call { callee:= .builtin .min,args:=#[a,b],argTypes:=#[T,T2] },ty,pos,aft,g⟩ ρ H (.p (.int .i64 (min m n))) H :=
 Bw fun F w E hH hE=>by
  have h1:=hE a Af;have h2:=hE b Af;rw[hx] at h1;rw[hy] at h2;simp only[Bz,Br] at h1 h2;refine⟨.int .i64 (min m n),?_,by simp[Bz,Br]⟩;have e:(if n<m then n else m)=min m n:=by
   rw[Int.min_def];split<;>split<;>omega
  simp[execOp,resolve,invoke,builtin,Builtin.min_,Builtin.min2,h1,h2];rw[←e]
theorem Bl.drop {F:Nat→Prop}{w:World}{b sz:Nat}:∀{rows:List (List PV)}{o:Nat}(n:Nat),Bl F w b sz o rows→Bl F w b sz (o+n*sz) (rows.drop n)
 | rows,o,0,h=>by simpa using h
 | [],o,n+1,h=>by simp[Bl]
 | r::rows,o,n+1,h=>by
  simp only[Bl] at h;have:=Bl.drop n h.2.2;simp only[List.drop_succ_cons];have e:o+sz+n*sz=o+(n+1)*sz:=by rw[Nat.succ_mul];omega
  rwa [e] at this
theorem Bl.take {F:Nat→Prop}{w:World}{b sz:Nat}:∀{rows:List (List PV)}{o:Nat}(n:Nat),Bl F w b sz o rows→Bl F w b sz o (rows.take n)
 | rows,o,0,h=>by simp[Bl]
 | [],o,n+1,h=>by simp[Bl]
 | r::rows,o,n+1,h=>by
  simp only[Bl,List.take_succ_cons] at *;exact⟨h.1,h.2.1,Bl.take n h.2.2⟩
theorem Ur {F:Nat→Prop}{w:World}{T e:TypeId}{sz bytes lo hi:Nat}{rows:List (List PV)}{u:Value}{lv hv:Option Value}(hT:E1 P T=some (e,sz,bytes)) (h:Bz F w (.p (.lst rows)) u) (hr:∀r∈rows,r.length=sz)
  (hl:(lv=none∧lo=0)∨∃k,lv=some (.int k lo)) (hh:(hv=none∧hi=rows.length)∨∃k,hv=some (.int k hi)) (h1:lo≤hi) (h2:hi≤rows.length) :
  ∃u',(Instr.sliceAt T u lv hv none).run P w= .ok u' w∧Bz F w (.p (.lst ((rows.take hi).drop lo))) u':=by
 obtain⟨hu,j,hj,hs,_⟩:=Dy hT;have hval:∃o c,u= .slice o rows.length c∧rows.length≤c:=by
  simp only[Bz,Br] at h;rcases h with ⟨rfl,o,c,rfl⟩ | ⟨b,o,c,sz',rfl,hF,hb,hc,hrows⟩
  ·exact⟨o,c,O,by simp⟩
  exact⟨_,c,O,hc⟩
 obtain⟨o,c,rfl,hc⟩:=hval;have hb:(Instr.sliceBounds true rows.length c lv hv none).run P w= .ok (lo,hi,c) w:=by
  have b1:∀(k:IntKind) (m y:Nat) cd,m≤y→(Instr.sliceBound (.int k (m:Int)) y cd).run P w= .ok m w:=by
   intro k m y cd hmy;unfold Instr.sliceBound;simp only[asIntOf,Sem.run_bind,Sem.run_pure,Result.andThen_ok];rw[if_pos ⟨by omega,by omega⟩];simp
  unfold Instr.sliceBounds;rcases hh with ⟨rfl,rfl⟩ | ⟨k,rfl⟩<;>rcases hl with ⟨rfl,rfl⟩ | ⟨k',rfl⟩
  ·simp
  ·simp[Sem.run_bind,b1 _ _ _ _ h1]
  ·simp[Sem.run_bind,b1 _ _ _ _ (by omega:hi≤c)]
  simp[Sem.run_bind,b1 _ _ _ _ (by omega:hi≤c),b1 _ _ _ _ h1]
 have hszr:(sizeOf e).run P w= .ok sz w:=by simp[sizeOf,typeInfo,hj,hs]
 refine⟨.slice (if c=lo then o else o.map (·.add (lo*sz))) (hi - lo) (c - lo),?_,?_⟩
 ·simp only[Instr.sliceAt,Sem.run_bind,run_underlying hu,Result.andThen_ok,Instr.slice,hb,hszr,Sem.run_pure]
 have hlen:((rows.take hi).drop lo).length=hi - lo:=by simp;omega
 simp only[Bz,Br] at h ⊢;by_cases hemp:(rows.take hi).drop lo=[]
 ·left;have h0:hi - lo=0:=by rw[hemp] at hlen;simp at hlen;omega
  exact⟨hemp,(if c=lo then o else o.map (·.add (lo*sz))),c - lo,by rw[h0]⟩
 rcases h with ⟨rfl,_⟩ | ⟨b,o',c',sz',hv',hF,hb',hc',hrows⟩
 ·simp at hemp
 injection hv' with e1 e2 e3;subst e1;subst e3;right;have hlt:lo<hi:=by
  rcases Nat.lt_or_ge lo hi with h | h
  ·exact h
  exfalso;apply hemp;apply List.eq_nil_of_length_eq_zero;omega
 have hsz':sz'=sz:=by
  cases rows with
  | nil=>simp at h2;omega
  | cons r rows=>have:=hr r Av;simp only[Bl] at hrows;omega
 subst hsz';rw[if_neg Au];refine⟨b,o'+lo*sz',c - lo,sz',?_,hF,hb',by omega,?_⟩
 ·rw[hlen];simp[Addr.add_mid]
 exact(hrows.take hi).drop lo
theorem fq {T e:TypeId}{sz bytes lo hi:Nat}{rows:List (List PV)}{l h:Option Operand}(hT:E1 P T=some (e,sz,bytes)) (hx:ρ x= .p (.lst rows)) (hr:∀r∈rows,r.length=sz)
  (hl:match l with | none=>lo=0 | some y=>∃k,ρ y= .p (.int k lo)) (hh:match h with | none=>hi=rows.length | some y=>∃k,ρ y= .p (.int k hi)) (h1:lo≤hi) (h2:hi≤rows.length) :
  Dm P ⟨dst,.slice T x l h none,ty,pos,aft,g⟩ ρ H (.p (.lst ((rows.take hi).drop lo))) H :=
 Bw fun F w E hH hE=>by
  have e1:=hE x Al;rw[hx] at e1;obtain⟨u',hu',hrep⟩:=Ur (P:=P) (lv:=l.map E) (hv:=h.map E) (lo:=lo) (hi:=hi) hT e1 hr (by
   cases l with
   | none=>exact .inl ⟨rfl,hl⟩
   | some y =>
    obtain⟨k,hk⟩:=hl;have:=hE y Al;rw[hk] at this;simp only[Bz,Br] at this;exact .inr ⟨k,by simp[this]⟩) (by
   cases h with
   | none=>exact .inl ⟨rfl,hh⟩
   | some y =>
    obtain⟨k,hk⟩:=hh;have:=hE y Al;rw[hk] at this;simp only[Bz,Br] at this;exact .inr ⟨k,by simp[this]⟩) h1 h2
  exact⟨u',by simp only[execOp,Sem.run_bind,Option.map_none,hu',Result.andThen_ok,Sem.run_pure],hrep⟩
end
section
variable {P:Program}{dst:Option Tmp}{ty:TypeId}{pos:String}{aft:Array Edge}{g:Option (Nat×Bool)}{ρ:Operand→AV}{H:List A4}{x y z:Operand}{v:AV}
end
def Mn (P:Program) (l:Nat) (args:List AV) (H:List A4) (R:EG→List A4→Prop):Prop :=
 ∀F w vs,HRel F H w→Bf F w args vs→∃f tmps assign body,(Instr.yield l ⟨vs⟩).run P w= .ok (.round l f tmps assign body) w ∧
  ∀r,RoundIn (W r) 0 P l f tmps assign body w fun e w'=>∃rr H' F',R rr H'∧Xm F' w' rr e∧HRel F' H' w'∧Trans F H w F' H' w'
theorem jF {P:Program}{dst:Option Tmp}{c:Call}{ty:TypeId}{pos:String}{aft:Array Edge}{g:Option (Nat×Bool)}{f:Operand}{l:Nat}
  {ρ:Operand→AV} {H Hs Hf:List A4} {A:List AV} {R:EG→List A4→Prop}
  (hc:c.callee= .value f) (hf:ρ f= .fn (.yield l) [] []) (hp:H.Perm (Hs++Hf)) (h:Mn P l A Hs R) (hA:c.args.toList.map ρ=A) :
  DL P ⟨dst,.call c,ty,pos,aft,g⟩ ρ H (fun r H'=>∃Hs',R r Hs'∧H'=Hs'++Hf):=by
 intro r F S a w hs hH hρ hd;subst hH;refine MA O ?_;have hev:∀x∈(f::c.args.toList),Bz F w (ρ x) (a.eval x):=by
  intro x hx;rw[←hρ x (by simp[Op.operands,Call.operands,hc];simpa using hx)];exact hs.eval x
 have hfv:a.eval f= .func (.yield l) #[] #[]:=by
  have:=hev f Av;rw[hf] at this;simp only[Bz,Bf] at this;obtain⟨fs,cs,h1,rfl,rfl⟩:=this;exact h1
 have hargs:Bf F w A (c.args.toList.map a.eval):=by rw[←hA];exact Bf.mapEval _ fun x hx=>hev x (by simp[hx])
 have hH':=hs.heap.perm hp;have hHs:HRel F Hs w:=hH'.sublist (List.sublist_append_left _ _);obtain⟨f',tmps,assign,body,hy,hround⟩:=h F w _ hHs hargs;have hrun:(execOp a.eval ⟨dst,.call c,ty,pos,aft,g⟩).run P w= .ok (.round l f' tmps assign body) w:=by
  have e:(c.args.map a.eval:Array Value)=⟨c.args.toList.map a.eval⟩:=by
   apply Array.ext';simp
  simp[execOp,resolve,hc,Deferred.ofValue,hfv,invoke,e,hy]
 simp only[hrun,Oper.uponIn];refine⟨fun h=>(by cases h),(hround r).mono ?_⟩;rintro e w' ⟨rr,H',F',hR,he,hH2,ht⟩;have htf:=ht.frame (H:=S.H) hp;cases rr with
 | val v =>
  obtain⟨u,rfl,hu⟩:=he;exact⟨v,H'++Hf,F',⟨H',hR,O⟩,hs.put hd (htf.stable hs.heap.sub) (hH'.frame hH2 ht) hu,htf⟩
 | panic v =>
  obtain⟨u,rfl,hu⟩:=he;have:=hs.put (d:=none) (fun _ h=>by cases h) (htf.stable hs.heap.sub) (hH'.frame hH2 ht) (L3 undef);exact⟨v,H'++Hf,F',u,⟨H',hR,O⟩,O,hu,this,htf⟩
def OJ (τ:Nat→AV):List Tmp→List AV→Nat→AV
 | t::ts,x::xs=>OJ (put τ (some t) x) ts xs
 | _,_=>τ
theorem SK {F:Nat→Prop}{w:World}:∀(ts:List Tmp) (xs:List AV) (vs:List Value) (τ:Nat→AV) (tmps:Array Value),(∀t∈ts,t<tmps.size)→(∀t,Bz F w (τ t) (tmps.getD t undef))→Bf F w xs vs →
  (∀t,Bz F w (OJ τ ts xs t) (((ts.zip vs).foldl (fun(m:Array Value) p=>m.setIfInBounds p.1 p.2) tmps).getD t undef))∧((ts.zip vs).foldl (fun(m:Array Value) p=>m.setIfInBounds p.1 p.2) tmps).size=tmps.size
 | [],xs,vs,τ,tmps,_,h,_=>by simp only[OJ,List.zip_nil_left,List.foldl_nil];exact⟨h,trivial⟩
 | t::ts,[],vs,τ,tmps,_,h,hv=>by
  simp only[Bf] at hv;subst hv;simp only[OJ,List.zip_nil_right,List.foldl_nil];exact⟨h,trivial⟩
 | t::ts,x::xs,vs,τ,tmps,hts,h,hv=>by
  simp only[Bf] at hv;obtain⟨u,us,rfl,h1,h2⟩:=hv;simp only[OJ,List.zip_cons_cons,List.foldl_cons];have:=SK ts xs us (put τ (some t) x) (tmps.setIfInBounds t u) (fun t' ht'=>by simpa using hts t' (by simp[ht'])) ?_ h2
  ·simpa using this
  intro t';by_cases e:t'=t
  ·subst e;have hlt:=hts t' Av;simp[put,hlt,h1]
  simpa [put,S5 e,Array.getElem?_setIfInBounds_ne (Ne.symm e)] using h t'
def tj (l:Nat) (L:Po) (R:EG→List A4→Prop):Cj→BM→Prop
 | .normal,S=>∃i H',S.H[i]?=some (.loop l { L with state:= .busy })∧H'.Sublist (S.H.set i (.loop l { L with state:= .ready,pending:=none }))∧R (.val (.p (.bool true))) H'
 | .ret,S=>∃i H',S.H[i]?=some (.loop l { L with state:= .busy })∧H'.Sublist (S.H.set i (.loop l { L with state:= .done,pending:=some .ret }))∧R (.val (.p (.bool false))) H'
 | .exit id,S=>∃i H',S.H[i]?=some (.loop l { L with state:= .busy })∧H'.Sublist (S.H.set i (.loop l { L with state:= .done,pending:=some (.exit id) }))∧R (.val (.p (.bool false))) H'
 | .panic _,_=>False
theorem Oh {F:Nat→Prop}{w:World}{H:List A4}{l i:Nat}{L L':Po}{rec rec':Loop}(hH:HRel F H w) (hi:H[i]?=some (.loop l L)) (hr:w.heap[l]?=some (.loop rec)) (hL:L'.n=L.n∧L'.τ=L.τ∧rec'.tmps=rec.tmps∧rec.tmps.size=L.n∧(∀t,Bz F w (L.τ t) (rec.tmps.getD t undef))∧rec'.state=L'.state∧rec'.pending=L'.pending∧rec'.params=L'.params∧rec'.assign=L'.assign∧rec'.body=L'.body) :
  HRel F (H.set i (.loop l L')) (w.putObj l (.loop rec'))∧Trans F H w F (H.set i (.loop l L')) (w.putObj l (.loop rec'))∧Dq F w F (w.putObj l (.loop rec')):=by
 have hlt:l<w.heap.size:=(Array.getElem?_eq_some_iff.1 hr).1;have hF:F l:=hH.sub _ (List.mem_of_getElem? hi) l rfl;have hw:Ig l (.loop rec') w (w.putObj l (.loop rec')):=⟨rfl,rfl,rfl,rfl⟩;have st:=hw.stable hF;obtain⟨h1,h2,h3,h4,h5,h6,h7,h8,h9,h10⟩:=hL;refine⟨hw.HRel hH hi O O ⟨rec',hw.self hlt,h6,h7,h8,h9,h10,by rw[h3,h4,h1],fun t=>?_⟩,hw.trans hi rfl rfl,st⟩;rw[h2,h3];exact Bz.mono st _ _ (h5 t)
theorem Vn {P:Program}{l:Nat}{L:Po}{H:List A4}{i:Nat}{A:List AV}{R:EG→List A4→Prop}(hi:H[i]?=some (.loop l L)) (hst:L.state= .ready) (hsz:A.length=L.params.size) (hts:(L.params.toList.all fun t=>Nat.blt t L.n)=true)
  (h:IK P (some l) L.assign ⟨L.n,OJ L.τ L.params.toList A,H,[]⟩ (fun e S=>e= .normal∧∃j,S.H[j]?=some (.loop l L)∧IK P (some l) L.body ⟨S.n,S.τ,S.H.set j (.loop l { L with state:= .busy }),S.D⟩ (tj l L R))) :
  Mn P l A H R:=by
 intro F w vs hH hv;obtain⟨rec,hrec,h1,h2,h3,h4,h5,h6,h7⟩:=hH.obj _ (List.mem_of_getElem? hi);have hvs:(⟨vs⟩:Array Value).size=rec.params.size:=by rw[h3,←hsz];simpa using hv.length
 refine⟨rec.fn,((rec.params.zip ⟨vs⟩).foldl (fun tmps (t,a)=>tmps.setIfInBounds t a) rec.tmps),rec.assign,rec.body,?_,?_⟩
 ·exact run_yield (P:=P) hrec hvs
 intro r;have hput:=SK (F:=F) (w:=w) L.params.toList A vs L.τ rec.tmps (fun t ht=>by
  have:=List.all_eq_true.1 hts t ht;rw[h6];simpa [Nat.blt_eq] using this) h7 hv
 have e1:((rec.params.zip ⟨vs⟩).foldl (fun tmps (t,a)=>tmps.setIfInBounds t a) rec.tmps)=((L.params.toList.zip vs).foldl (fun(m:Array Value) p=>m.setIfInBounds p.1 p.2) rec.tmps):=by
  rw[h3,←Array.foldl_toList,Array.toList_zip]
 rw[e1];have hs0:GI F ⟨L.n,OJ L.τ L.params.toList A,H,[]⟩ { tmps:=((L.params.toList.zip vs).foldl (fun(m:Array Value) p=>m.setIfInBounds p.1 p.2) rec.tmps),defers:=[] } w :=
  ⟨by rw[hput.2,h6],hput.1,hH,by simp[Gg]⟩
 rw[h4,h5];refine roundIn_of_wpIn (F:=W r) Aw (wpIn_mono (h F _ w hs0) ?_);rintro e a' w' ⟨e',S',F',⟨rfl,j,hj,hbody⟩,he,hs',ht⟩;obtain rfl:e= .normal:=he;obtain⟨rec1,hrec1,g1,g2,g3,g4,g5,g6,g7⟩:=hs'.heap.obj _ (List.mem_of_getElem? hj);refine⟨_,run_beginRound (P:=P) hrec1 (by rw[g1,hst]),?_⟩;obtain⟨q1,q2,q3⟩:=Oh (L':={ L with state:= .busy }) (rec':={ rec1 with state:= .busy }) hs'.heap hj hrec1 ⟨rfl,rfl,rfl,g6,g7,rfl,g2,g3,g4,g5⟩;have hs2:GI F' ⟨S'.n,S'.τ,S'.H.set j (.loop l { L with state:= .busy }),S'.D⟩ a' (w'.putObj l (.loop { rec1 with state:= .busy })) :=
  ⟨hs'.size,fun t=>Bz.mono q3 _ _ (hs'.tmp t),q1,Gg.mono q3 _ _ hs'.defs⟩
 refine wpIn_mono (hbody F' a' _ hs2) ?_;rintro e2 a2 w2 ⟨e2',S2,F2,hq,he2,hs3,ht2⟩;have t12:=(ht.trans hH.bd q2).trans hH.bd ht2;have fin:∀(k:Nat) (H':List A4) (jump:Option Code) (b:Bool),jump.isNone=b→S2.H[k]?=some (.loop l { L with state:= .busy })→H'.Sublist (S2.H.set k (.loop l { L with state:=if jump.isNone then .ready else .done,pending:=jump }))→R (.val (.p (.bool b))) H' →
   ∃v w3,(Instr.endRound l jump).run P w2= .ok v w3∧∃rr H' F',R rr H'∧Xm F' w3 rr (.returned v)∧HRel F' H' w3∧Trans F H w F' H' w3:=by
  intro k H' jump b hb hk hsub hR;obtain⟨rec2,hrec2,k1,k2,k3,k4,k5,k6,k7⟩:=hs3.heap.obj _ (List.mem_of_getElem? hk);obtain⟨p1,p2,p3⟩:=Oh (L':={ L with state:=if jump.isNone then .ready else .done,pending:=jump }) (rec':={ rec2 with state:=if jump.isNone then .ready else .done,pending:=jump }) hs3.heap hk hrec2 ⟨rfl,rfl,rfl,k6,k7,rfl,rfl,k3,k4,k5⟩;refine⟨_,_,run_endRound (P:=P) jump hrec2,_,H',F2,hR,⟨_,O,by simp[Bz,Br,hb]⟩,p1.sublist hsub,(t12.trans hH.bd p2).sublist hsub⟩
 cases e2' with
 | normal=>obtain rfl:e2= .normal:=he2;obtain⟨k,H',hk,hsub,hR⟩:=hq;exact fin k H' none true rfl hk hsub hR
 | ret=>obtain rfl:e2= .ret:=he2;obtain⟨k,H',hk,hsub,hR⟩:=hq;exact fin k H' (some .ret) false rfl hk hsub hR
 | exit id=>obtain rfl:e2= .exit id:=he2;obtain⟨k,H',hk,hsub,hR⟩:=hq;exact fin k H' (some (.exit id)) false rfl hk hsub hR
 | panic v=>exact hq.elim
theorem TF {α:Type}:∀{l:List α}{i:Nat}{x:α},l[i]?=some x→l.Perm (x::l.eraseIdx i)
 | [],i,x,h=>by simp at h
 | y::l,0,x,h=>by simp at h;subst h;exact .refl _
 | y::l,i+1,x,h=>by
  simp at h;simp only[List.eraseIdx_cons_succ];exact((TF h).cons y).trans (.swap x y _)
def Ws (P:Program) (l d:Nat) (S:BM) (Q:Cj→BM→Prop):EG→List A4→Prop
 | .val _,H'=>∃(i:Nat) (L:Po),H'[i]?=some (A4.loop l L)∧L.state≠LoopState.busy ∧
   (match L.pending with
    | none=>Q .normal ⟨S.n,S.τ,H'.eraseIdx i,.mark d::S.D⟩
    | some c=>IK P none c ⟨S.n,S.τ,H'.eraseIdx i,.mark d::S.D⟩ Q)
 | .panic v,H'=>Q (.panic v) ⟨S.n,S.τ,H',.mark d::S.D⟩
theorem ad {F:Nat→Prop}{w:World}{H:List A4}(hH:HRel F H w):HRel (fun b=>F b∨b=w.heap.size) (.dfr w.heap.size::H) (w.alloc (.deferred (some [])))∧Trans F H w (fun b=>F b∨b=w.heap.size) (.dfr w.heap.size::H) (w.alloc (.deferred (some []))):=by
 have same:∀b,b<w.heap.size→(w.alloc (.deferred (some []))).heap[b]?=w.heap[b]?:=fun b hb=>by
  show (w.heap.push _)[b]?=_;simp[Array.getElem?_push,Nat.ne_of_lt hb]
 have st:Dq F w (fun b=>F b∨b=w.heap.size) (w.alloc (.deferred (some []))):=⟨by simp,fun b _ hb=>same b hb,fun b hf hb h=>h.elim hf fun h=>by omega⟩;refine⟨⟨?_,?_,?_,?_⟩,⟨by simp,fun b hb _=>same b hb,fun b h _=> .inl h,?_,?_,rfl,rfl,rfl⟩⟩
 ·rintro o ho b hb;rcases List.mem_cons.1 ho with rfl | ho
  ·simp only[A4.key,Option.some.injEq] at hb;exact .inr hb.symm
  exact .inl (hH.sub o ho b hb)
 ·simp only[List.filterMap_cons,A4.key,List.nodup_cons];refine⟨fun h=>?_,hH.nodup⟩;obtain⟨o,ho,hk⟩:=List.mem_filterMap.1 h;exact Nat.lt_irrefl _ (hH.bd _ (hH.sub o ho _ hk))
 ·rintro o ho;rcases List.mem_cons.1 ho with rfl | ho
  ·exact World.alloc_heap_new w _
  exact JV.mono st o (fun b hb=>same b (hH.bd b (hH.sub o ho b hb))) (hH.obj o ho)
 ·rintro b (h | rfl)
  ·have:=hH.bd b h;simp;omega
  simp
 ·rintro b (h | rfl)
  ·exact .inl h
  exact .inr (Nat.le_refl _)
 rintro o ho b hb;rcases List.mem_cons.1 ho with rfl | ho
 ·simp only[A4.key,Option.some.injEq] at hb;exact .inr Au
 exact .inl ⟨o,ho,hb⟩
theorem Zg {F:Nat→Prop}{w:World}{H:List A4}(hH:HRel F H w) {L:Po}{r:Loop}(h1:r.state=L.state) (h2:r.pending=L.pending) (h3:r.params=L.params) (h4:r.assign=L.assign) (h5:r.body=L.body) (h6:r.tmps.size=L.n) (h7:∀t,Bz F w (L.τ t) (r.tmps.getD t undef)) :
  HRel (fun b=>F b∨b=w.heap.size) (.loop w.heap.size L::H) (w.alloc (.loop r))∧Trans F H w (fun b=>F b∨b=w.heap.size) (.loop w.heap.size L::H) (w.alloc (.loop r)):=by
 have same:∀b,b<w.heap.size→(w.alloc (.loop r)).heap[b]?=w.heap[b]?:=fun b hb=>by
  show (w.heap.push _)[b]?=_;simp[Array.getElem?_push,Nat.ne_of_lt hb]
 have st:Dq F w (fun b=>F b∨b=w.heap.size) (w.alloc (.loop r)):=⟨by simp,fun b _ hb=>same b hb,fun b hf hb h=>h.elim hf fun h=>by omega⟩;refine⟨⟨?_,?_,?_,?_⟩,⟨by simp,fun b hb _=>same b hb,fun b h _=> .inl h,?_,?_,rfl,rfl,rfl⟩⟩
 ·rintro o ho b hb;rcases List.mem_cons.1 ho with rfl | ho
  ·simp only[A4.key,Option.some.injEq] at hb;exact .inr hb.symm
  exact .inl (hH.sub o ho b hb)
 ·simp only[List.filterMap_cons,A4.key,List.nodup_cons];refine⟨fun h=>?_,hH.nodup⟩;obtain⟨o,ho,hk⟩:=List.mem_filterMap.1 h;exact Nat.lt_irrefl _ (hH.bd _ (hH.sub o ho _ hk))
 ·rintro o ho;rcases List.mem_cons.1 ho with rfl | ho
  ·exact⟨r,World.alloc_heap_new w _,h1,h2,h3,h4,h5,h6,fun t=>Bz.mono st _ _ (h7 t)⟩
  exact JV.mono st o (fun b hb=>same b (hH.bd b (hH.sub o ho b hb))) (hH.obj o ho)
 ·rintro b (h | rfl)
  ·have:=hH.bd b h;simp;omega
  simp
 ·rintro b (h | rfl)
  ·exact .inl h
  exact .inr (Nat.le_refl _)
 rintro o ho b hb;rcases List.mem_cons.1 ho with rfl | ho
 ·simp only[A4.key,Option.some.injEq] at hb;exact .inr Au
 exact .inl ⟨o,ho,hb⟩
theorem jD {P:Program}{g:Operand}{ps:Array Tmp}{assign body:Code}{S:BM}{Q:Cj→BM→Prop}{fid:FuncId}{first caps:List AV}
  (hg:(ev S.τ g= .p (.fn fid)∧first=[]∧caps=[])∨ev S.τ g= .fn (.func fid) first caps)
  (h:∀d l,∃Hs Hf,(A4.loop l ⟨.ready,none,S.n,S.τ,ps,assign,body⟩:: .dfr d::S.H).Perm (Hs++Hf) ∧
   BL P fid (first++[.fn (.yield l) [] []]++caps) Hs (fun r H'=>Ws P l d S Q r (H'++Hf))) :
  IK P none (.rangeFunc g ps assign body) S Q:=by
 intro F a w hs;refine wpIn_rangeFunc ?_;intro fn _;obtain⟨d,hd⟩:∃d,d=w.heap.size:=⟨_,rfl⟩;obtain⟨p1,p2⟩:=ad hs.heap;have st1:=p2.stable hs.heap.sub;obtain⟨rec,hrec⟩:∃rec:Loop,rec={ state:= .ready,pending:=none,fn,tmps:=a.tmps,params:=ps,assign,body,defers:=w.heap.size }:=⟨_,rfl⟩;have hl:(w.alloc (.deferred (some []))).heap.size=w.heap.size+1:=by simp
 obtain⟨q1,q2⟩:=Zg p1 (L:=⟨.ready,none,S.n,S.τ,ps,assign,body⟩) (r:=rec) (by rw[hrec]) (by rw[hrec]) (by rw[hrec]) (by rw[hrec]) (by rw[hrec]) (by rw[hrec];exact hs.size) (fun t=>by rw[hrec];exact Bz.mono st1 _ _ (hs.tmp t));have st2:=q2.stable p1.sub;have t12:=p2.trans hs.heap.bd q2;have st12:=t12.stable hs.heap.sub;obtain⟨W1,hW1⟩:∃W1,(w.alloc (.deferred (some []))).alloc (.loop rec)=W1:=⟨_,rfl⟩;rw[hW1] at q1 q2 t12 st12;obtain⟨F1,hF1⟩:∃F1:Nat→Prop,(fun b=>(F b∨b=w.heap.size)∨b=(w.alloc (.deferred (some []))).heap.size)=F1:=⟨_,rfl⟩;rw[hF1] at q1 q2 t12 st12;rw[hl] at q1 t12;obtain⟨Hs,Hf,hp,hc⟩:=h w.heap.size (w.heap.size+1);have hgv:∃fs cs,a.eval g= .func (.func fid) ⟨fs⟩ ⟨cs⟩∧Bf F1 W1 first fs∧Bf F1 W1 caps cs:=by
  have:=Bz.mono st12 _ _ (hs.eval g);rcases hg with ⟨h1,rfl,rfl⟩ | h1
  ·rw[h1] at this;simp only[Bz,Br] at this;exact⟨[],[],this,by simp[Bf],by simp[Bf]⟩
  rw[h1] at this;simpa only[Bz] using this
 obtain⟨fs,cs,hgv,hfs,hcs⟩:=hgv;have hy:Bf F1 W1 [.fn (.yield (w.heap.size+1)) [] []] [Value.func (.yield (w.heap.size+1)) #[] #[]]:=by
  simp only[Bf,Bz];exact⟨_,[],O,⟨[],[],O,O,O⟩,O⟩
 refine⟨w.heap.size+1,[{ target:= .collected w.heap.size,args:=#[] }],W1,{ target:= .fn (.func fid) ⟨cs⟩,args:=⟨fs⟩++#[.func (.yield (w.heap.size+1)) #[] #[]] },W1,fid,
  ⟨fs++[Value.func (.yield (w.heap.size+1)) #[] #[]]++cs⟩,W1,?_,?_,?_,?_,fun h=>(by cases h),?_⟩
 ·rw[←hW1,hrec];exact run_enterLoop_outer _ _ _ _ _
 ·simp only[resolve,hgv];simp[go_sem,Deferred.ofValue]
 ·intro f' hf';trivial
 ·have e:(⟨fs⟩++#[Value.func (.yield (w.heap.size+1)) #[] #[]]++⟨cs⟩:Array Value)=⟨fs++[Value.func (.yield (w.heap.size+1)) #[] #[]]++cs⟩:=by
   apply Array.ext';simp
  simp only[invoke,e];exact Jo hc.1 _ _
 have hH1:=q1.perm hp;refine CallsIn.mono (x9 none (hc.2 F1 W1 _ (hH1.sublist (List.sublist_append_left _ _)) ((hfs.append hy).append hcs))) ?_;rintro e w3 ⟨r,Hs',F',hR,he,hH2,ht⟩;have htf:=ht.frame (H:=(A4.loop (w.heap.size+1) ⟨.ready,none,S.n,S.τ,ps,assign,body⟩:: .dfr w.heap.size::S.H)) hp;have t3:=t12.trans hs.heap.bd htf;have hH3:=hH1.frame hH2 ht;have st3:=t3.stable hs.heap.sub;cases r with
 | val v =>
  obtain⟨u,rfl,hu⟩:=he;obtain⟨i,L,hi,hbusy,hnext⟩:=hR;obtain⟨rec3,hrec3,g1,g2,g3,g4,g5,g6,g7⟩:=hH3.obj _ (List.mem_of_getElem? hi);obtain⟨k1,k2,k3⟩:=Oh (L':={ L with state:= .exhausted }) (rec':={ rec3 with state:= .exhausted }) hH3 hi hrec3 ⟨rfl,rfl,rfl,g6,g7,rfl,g2,g3,g4,g5⟩;have hsub:((Hs'++Hf).eraseIdx i).Sublist ((Hs'++Hf).set i (.loop (w.heap.size+1) { L with state:= .exhausted })):=by
   have:(Hs'++Hf).eraseIdx i=((Hs'++Hf).set i (.loop (w.heap.size+1) { L with state:= .exhausted })).eraseIdx i:=by rw[List.eraseIdx_set_eq]
   rw[this];exact List.eraseIdx_sublist ..
  have t4:=(t3.trans hs.heap.bd k2).sublist hsub;have hs4:GI F' ⟨S.n,S.τ,(Hs'++Hf).eraseIdx i,.mark w.heap.size::S.D⟩ { a with defers:=[{ target:= .collected w.heap.size,args:=#[] }]++a.defers } (w3.putObj (w.heap.size+1) (.loop { rec3 with state:= .exhausted })) :=
   ⟨hs.size,fun t=>Bz.mono k3 _ _ (Bz.mono st3 _ _ (hs.tmp t)),k1.sublist hsub,by simp only[Gg];exact⟨_,rfl,Gg.mono k3 _ _ (Gg.mono st3 _ _ hs.defs)⟩⟩
  refine⟨rec3.pending,_,run_endLoop hrec3 (by rw[g1];exact hbusy),?_⟩;generalize w3.putObj (w.heap.size+1) (.loop { rec3 with state:= .exhausted })=W4 at *;rw[g2];cases hpd:L.pending with
  | none=>simp only[hpd] at hnext;exact⟨.normal,_,F',hnext,rfl,hs4,t4⟩
  | some c =>
   simp only[hpd] at hnext;exact wpIn_mono (hnext F' _ _ hs4) fun _ _ _=>HE hs.heap.bd t4
 | panic v =>
  obtain⟨u,rfl,hu⟩:=he;exact⟨.panic v,⟨S.n,S.τ,Hs'++Hf,.mark w.heap.size::S.D⟩,F',hR,⟨u,O,hu⟩,⟨hs.size,fun t=>Bz.mono st3 _ _ (hs.tmp t),hH3,by simp only[Gg];exact⟨_,rfl,Gg.mono st3 _ _ hs.defs⟩⟩,t3⟩
inductive OG where
 | ret
 | pan (v:AV)
def nS (F:Nat→Prop) (w:World):OG→FrameMode→Prop
 | .ret,u=>u= .returning
 | .pan v,u=>∃x,u= .panicking [{ v:=x,recovered:=false }]∧Bz F w v x
theorem nS.mono {F F':Nat→Prop}{w w':World}(st:Dq F w F' w'):∀{m:OG}{u:FrameMode},nS F w m u→nS F' w' m u
 | .ret,u,h=>h
 | .pan v,u,⟨x,h,hr⟩=>⟨x,h,Bz.mono st _ _ hr⟩
def D8 (P:Program) (f:FuncId) (caps:List AV) (m:OG) (H:List A4) (R:List A4→Prop):Prop :=
 Ck P f=true∧∀F w vs u,HRel F H w→Bf F w caps vs→nS F w m u →
  CallsDIn (W none) 0 P f ⟨vs⟩ u w fun e u' w'=>∃v H' F',e= .returned v∧settle u'= .returning∧R H'∧HRel F' H' w'∧Trans F H w F' H' w'
def Ml (P:Program) (fn:Func) (S:BM) (R:EG→List A4→Prop):List D4→OG→List A4→Prop
 | [],.ret,H=>∃vs H',Re P ⟨S.n,S.τ,H,[]⟩ fn.results.toList vs∧H'.Sublist H∧R (.val (pack vs)) H'
 | [],.pan v,H=>∃H',H'.Sublist H∧R (.panic v) H'
 | .mark b::D,m,H=>∃i,H[i]?=some (.dfr b)∧Ml P fn S R D m (H.eraseIdx i)
 | .clo f caps::D,m,H=>∃fid Hs Hf,f= .func fid∧H.Perm (Hs++Hf)∧D8 P fid caps m Hs (fun H'=>Ml P fn S R D .ret (H'++Hf))
def mO (P:Program) (fn:Func) (R:EG→List A4→Prop):Cj→BM→Prop
 | .normal,S | .ret,S=>Ml P fn S R S.D .ret S.H
 | .panic v,S=>Ml P fn S R S.D (.pan v) S.H
 | .exit _,_=>False
theorem K8 {P:Program}{fn:Func}{S:BM}{R:EG→List A4→Prop}{tmps:Array Value}{F0:Nat→Prop}{H0:List A4}{w0:World}(bd0:∀b,F0 b→b<w0.heap.size) (hsz:tmps.size=S.n) :
  ∀(D:List D4) (ds:List Deferred) (m:OG) (u:FrameMode) (H:List A4) (F:Nat→Prop) (w:World),(∀t,Bz F w (S.τ t) (tmps.getD t undef))→HRel F H w→Gg F w D ds→nS F w m u→Trans F0 H0 w0 F H w→Ml P fn S R D m H →
   LeavesInM (W none) 0 P fn tmps (fun e w'=>∃r H' F',R r H'∧Xm F' w' r e∧HRel F' H' w'∧Trans F0 H0 w0 F' H' w') ds u w
 | [],ds,m,u,H,F,w,hτ,hH,hd,hm,ht,hq=>by
  simp only[Gg] at hd;subst hd;cases m with
  | ret =>
   obtain rfl:u= .returning:=hm;obtain⟨vs,H',hres,hsub,hR⟩:=hq;have hs:GI F ⟨S.n,S.τ,H,[]⟩ { tmps,defers:=[] } w:=⟨hsz,hτ,hH,by simp[Gg]⟩;obtain⟨v,hv,hrv⟩:=M1 hs hres;exact⟨v,hv,_,H',F,hR,⟨v,O,hrv⟩,hH.sublist hsub,ht.sublist hsub⟩
  | pan v =>
   obtain⟨x,rfl,hx⟩:=hm;obtain⟨H',hsub,hR⟩:=hq;exact⟨_,H',F,hR,⟨x,O,hx⟩,hH.sublist hsub,ht.sublist hsub⟩
 | .mark b::D,ds,m,u,H,F,w,hτ,hH,hd,hm,ht,hq=>by
  simp only[Gg] at hd;obtain⟨ds',rfl,hd⟩:=hd;obtain⟨i,hi,hq⟩:=hq;have hb:w.heap[b]?=some (.deferred (some [])):=hH.obj _ (List.mem_of_getElem? hi);have hFb:F b:=hH.sub _ (List.mem_of_getElem? hi) b rfl;have hw:Ig b (.deferred none) w (w.putObj b (.deferred none)):=⟨rfl,rfl,rfl,rfl⟩;have st:=hw.stable hFb;have hk:H.Perm (.dfr b::H.eraseIdx i):=by
   exact TF hi
  have hH':=hH.perm hk;have other:∀o∈H.eraseIdx i,∀k,o.key=some k→k≠b:=by
   intro o ho k hk' e;subst e;have:=hH'.nodup;simp only[List.filterMap_cons,A4.key,List.nodup_cons] at this;exact this.1 (List.mem_filterMap.2 ⟨o,ho,hk'⟩)
  have same:∀k,k≠b→(w.putObj b (.deferred none)).heap[k]?=w.heap[k]?:=fun k hk=>World.putObj_heap_other hk;have hHn:HRel F (H.eraseIdx i) (w.putObj b (.deferred none)):=by
   refine⟨fun o ho=>hH'.sub o (by simp[ho]),?_,fun o ho=>?_,fun k hk=>by simpa using hH.bd k hk⟩
   ·have:=hH'.nodup;simp only[List.filterMap_cons,A4.key,List.nodup_cons] at this;exact this.2
   exact JV.mono st o (fun k hk=>same k (other o ho k hk)) (hH'.obj o (by simp[ho]))
  have hT:Trans F H w F (H.eraseIdx i) (w.putObj b (.deferred none)) :=
   ⟨by simp,fun k hk hn=>same k fun e=>hn _ (List.mem_of_getElem? hi) (by rw[e];rfl),fun _ h _=>h,fun _ h=> .inl h,fun o ho k hk'=> .inl ⟨o,hk.mem_iff.2 (by simp[ho]),hk'⟩,rfl,rfl,rfl⟩
  have hu:u≠ .run:=by
   cases m with
   | ret=>obtain rfl:u= .returning:=hm;simp
   | pan v=>obtain⟨x,rfl,hx⟩:=hm;simp
  refine⟨hu,.inl ⟨b,_,O,run_takeDeferred hb,?_⟩⟩;exact K8 bd0 hsz D ds' m u _ F _ (fun t=>Bz.mono st _ _ (hτ t)) hHn (Gg.mono st _ _ hd) (hm.mono st) (ht.trans bd0 hT) hq
 | .clo f caps::D,ds,m,u,H,F,w,hτ,hH,hd,hm,ht,hq=>by
  simp only[Gg] at hd;obtain⟨vs,ds',rfl,hv,hd⟩:=hd;obtain⟨fid,Hs,Hf,rfl,hp,hc⟩:=hq;have hu:u≠ .run:=by
   cases m with
   | ret=>obtain rfl:u= .returning:=hm;simp
   | pan v=>obtain⟨x,rfl,hx⟩:=hm;simp
  have hH':=hH.perm hp;refine⟨hu,.inr ⟨fun h=>(by cases h),.func fid,⟨vs⟩,fid,⟨vs⟩,O,?_,fun _ _=>Aw,?_⟩⟩
  ·simp only[invoke];have e:(#[]++⟨vs⟩:Array Value)=⟨vs⟩:=by apply Array.ext';simp
   rw[e];exact Jo hc.1 _ _
  obtain⟨hF,hcall⟩:=hc.2 F w vs u (hH'.sublist (List.sublist_append_left _ _)) hv hm;refine⟨hF,fun c cs hcu hroom=>?_⟩;obtain⟨e,u',w',fr,⟨v,H',F',rfl,hset,hR,hH2,ht2⟩,hrest⟩:=hcall c cs hcu hroom;refine⟨.returned v,u',w',fr,?_,hrest⟩;have htf:=ht2.frame (H:=H) hp;have st:=htf.stable hH.sub;show LeavesInM _ _ _ _ _ _ _ (settle u') w';rw[hset];exact K8 bd0 hsz D ds' .ret .returning _ F' w' (fun t=>Bz.mono st _ _ (hτ t)) (hH'.frame hH2 ht2) (Gg.mono st _ _ hd) O (ht.trans bd0 htf) hR
theorem Em {P:Program}{f:FuncId}{fn:Func}{c:Code}{args:List AV}{H:List A4}{R:EG→List A4→Prop}
  {n:Nat} (hf:P.funcs[f]?=some fn) (hb:fn.body=some c) (he:Ck P f=true) (hn':fn.ntmps=n) (hn:Nat.ble args.length n=true)
  (h:IK P none c ⟨n,Pc args,H,[]⟩ (mO P fn R)):BL P f args H R:=by
 subst hn';rw[Nat.ble_eq] at hn;refine⟨he,fun F w vs hH hr=>?_⟩;refine(callsIn_wide (n:=0)).1 (callsIn_of_wp_marks hf hb Aw ?_);have hsz:(⟨vs⟩:Array Value).size=args.length:=by simpa using hr.length
 have hs:GI F ⟨fn.ntmps,Pc args,H,[]⟩ { tmps:=⟨vs⟩++Array.replicate (fn.ntmps - (⟨vs⟩:Array Value).size) undef,defers:=[] } w :=
  ⟨by simp only[Array.size_append,Array.size_replicate,hsz];omega,fun t=>Qg _ _ hr,hH,by simp[Gg]⟩
 refine wpIn_mono (h F _ w hs) ?_;rintro e a' w' ⟨e',S',F',hq,hex,hs',ht⟩;cases e' with
 | normal=>obtain rfl:e= .normal:=hex;exact K8 hH.bd hs'.size _ _ .ret .returning _ F' w' hs'.tmp hs'.heap hs'.defs rfl ht hq
 | ret=>obtain rfl:e= .ret:=hex;exact K8 hH.bd hs'.size _ _ .ret .returning _ F' w' hs'.tmp hs'.heap hs'.defs rfl ht hq
 | exit id=>exact hq.elim
 | panic v=>obtain⟨u,rfl,hru⟩:=hex;exact K8 hH.bd hs'.size _ _ (.pan v) _ _ F' w' hs'.tmp hs'.heap hs'.defs ⟨u,rfl,hru⟩ ht hq
theorem LK {P:Program}{ops:Array Oper}{k n:Nat}{τ:Nat→AV}{H:List A4}{D:List D4}{Q:Cj→BM→Prop}{c:Call}{ty:TypeId}{pos:String}{aft:Array Edge}{x:Operand}{fid:FuncId}{caps:List AV}
  (ho:ops[k]?=some ⟨none,.defer c,ty,pos,aft,none⟩) (hc:c.callee= .value x) (ha:c.args=#[]) (hx:ev τ x= .fn (.func fid) [] caps)
  (next:AL P none ops (k+1) ⟨n,τ,H,.clo (.func fid) caps::D⟩ Q):AL P none ops k ⟨n,τ,H,D⟩ Q:=by
 intro F a w hs;have hk:k<ops.size:=by
  rcases Nat.lt_or_ge k ops.size with h | h
  ·exact h
  simp[Array.getElem?_eq_none h] at ho
 have hv:=hs.eval x;simp only[hx,Bz,Bf] at hv;obtain⟨fs,cs,hv,rfl,hcs⟩:=hv;rw[Lp hk,wpOpsIn_cons];unfold wpOpIn;simp only[ho,Region.wanted,if_true];have hrun:(Oper.semAt (W none).round a.eval ⟨none,.defer c,ty,pos,aft,none⟩).run P w= .ok (.defer { target:= .fn (.func fid) ⟨cs⟩,args:=#[] }) w:=by
  rw[show (W none).round=none from rfl,Oper.semAt_none];simp[execOp,resolve,hc,ha,Deferred.ofValue,hv]
 refine⟨fun _ _=>Aw,?_⟩;simp only[hrun,Oper.uponIn,Act.put];exact next F _ w ⟨hs.size,hs.tmp,hs.heap,by simp only[Gg];exact⟨cs,_,rfl,hcs,hs.defs⟩⟩
def OG.val:OG→AV
 | .ret=> .p .nilIface
 | .pan v=>v
theorem GQ {P:Program}{f:FuncId}{fn:Func}{B:Code}{id t3 t2:Nat}{ty ty' ty2:TypeId}{pos pos':String}{aft aft':Array Edge}{caps:List AV}{m:OG}{H:List A4}{R:List A4→Prop}{n:Nat}{aty:Array TypeId}
  (hf:P.funcs[f]?=some fn) (hb:fn.body=some (.seq (.region id #[⟨some t3,.call ⟨.builtin .recover,#[],aty⟩,ty,pos,aft,none⟩,⟨some t2,.assign (.tmp t3),ty',pos',aft',none⟩] false) B))
  (he:Ck P f=true) (hn':fn.ntmps=n) (hn:Nat.ble caps.length n=true) (hres:fn.results=#[]) (h3:Nat.blt t3 n=true) (h2:Nat.blt t2 n=true) (h23:Nat.beq t2 t3=false)
  (h:IK P none B ⟨n,put (put (Pc caps) (some t3) m.val) (some t2) m.val,H,[]⟩ (fun e S=>(e= .normal∨e= .ret)∧S.D=[]∧∃H',H'.Sublist S.H∧R H')):D8 P f caps m H R:=by
 subst hn';rw[Nat.ble_eq] at hn;rw[Nat.blt_eq] at h3 h2;refine⟨he,fun F w vs u hH hr hm=>?_⟩;refine callsDIn_of_wpSIn hf hb Aw ?_;intro c₀ cs hc0;refine wpSIn_seq (wpSIn_region ?_);have hsz:(⟨vs⟩:Array Value).size=caps.length:=by simpa using hr.length
 have hs:GI F ⟨fn.ntmps,Pc caps,H,[]⟩ { tmps:=⟨vs⟩++Array.replicate (fn.ntmps - (⟨vs⟩:Array Value).size) undef,defers:=[] } w :=
  ⟨by simp only[Array.size_append,Array.size_replicate,hsz];omega,fun t=>Qg _ _ hr,hH,by simp[Gg]⟩
 generalize ({ tmps:=⟨vs⟩++Array.replicate (fn.ntmps - (⟨vs⟩:Array Value).size) undef,defers:=[] }:Act)=a at hs ⊢;have st:Dq F w F w:=⟨Nat.le_refl _,fun _ _ _=>rfl,fun _ h _=>h⟩;have fin:∀x u',Bz F w m.val x→settle u'= .returning →
   B.wpSIn (W none) 0 P (bodyPostS P fn c₀ cs fun e u' w'=>∃v H' F',e= .returned v∧settle u'= .returning∧R H'∧HRel F' H' w'∧Trans F H w F' H' w') ((a.put (some t3) x).put (some t2) x) ({ c₀ with mode:=u' }::cs) w:=by
  intro x u' hx hset;have hs1:=(hs.put (d:=some t3) (fun t ht=>by cases ht;exact h3) st hH hx);have hs2:=(hs1.put (d:=some t2) (fun t ht=>by cases ht;exact h2) st hH hx);refine wpSIn_of_wpIn O (wpIn_mono (h F _ w hs2) ?_);rintro e a' w' ⟨e',S',F',⟨hee,hD,H',hsub,hR⟩,hex,hs',ht⟩;have hd:a'.defers=[]:=by have:=hs'.defs;rw[hD] at this;simpa [Gg] using this
  have hr0:(results fn a'.tmps).run P w'= .ok (.tuple #[]) w':=by
   simp[results,hres,Sem.run_bind]
  rcases hee with rfl | rfl
  ·obtain rfl:e= .normal:=hex;exact⟨hd,u',O,_,hr0,_,H',F',O,hset,hR,hs'.heap.sublist hsub,ht.sublist hsub⟩
  obtain rfl:e= .ret:=hex;exact⟨hd,u',O,_,hr0,_,H',F',O,hset,hR,hs'.heap.sublist hsub,ht.sublist hsub⟩
 have hasg:∀(x:Value),(execOp (a.put (some t3) x).eval ⟨some t2,.assign (.tmp t3),ty',pos',aft',none⟩).run P w= .ok (.value x) w:=by
  intro x;have:(a.put (some t3) x).eval (.tmp t3)=x:=by
   have:t3<a.tmps.size:=by rw[hs.size];exact h3
   simp[Act.put,Act.eval,this]
  simp[execOp,this]
 have hrec:∀(a:Act),(execOp a.eval ⟨some t3,.call ⟨.builtin .recover,#[],aty⟩,ty,pos,aft,none⟩).run P w= .ok .recover w:=by
  intro a;simp[execOp,resolve,invoke,Sem.run_bind]
  first | rfl | skip
 obtain⟨o0,ho0⟩:∃o:Oper,o=⟨some t3,.call ⟨.builtin .recover,#[],aty⟩,ty,pos,aft,none⟩:=⟨_,rfl⟩;obtain⟨o1,ho1⟩:∃o:Oper,o=⟨some t2,.assign (.tmp t3),ty',pos',aft',none⟩:=⟨_,rfl⟩;rw[←ho0,←ho1];rw[←ho0] at hrec;rw[←ho1] at hasg;obtain⟨ops,hops⟩:∃ops:Array Oper,ops=#[o0,o1]:=⟨_,rfl⟩;have i0:ops[0]?=some o0:=by rw[hops];rfl
 have i1:ops[1]?=some o1:=by rw[hops];rfl
 have d0:o0.dst=some t3:=by rw[ho0]
 have d1:o1.dst=some t2:=by rw[ho1]
 have w0:∀y,Region.wanted o0 y=true:=by intro y;rw[ho0];rfl
 have w1:∀y,Region.wanted o1 y=true:=by intro y;rw[ho1];rfl
 have hr2:List.range ops.size=[0,1]:=by rw[hops];rfl
 rw[←hops,hr2];simp only[wpOpsSIn,i0,i1,w0,w1,if_true,hrec,d0,d1];refine⟨fun _ _=>Aw,?_⟩;cases m with
 | ret =>
  obtain rfl:u= .returning:=hm;simp only[recoverD,hc0,hasg];refine⟨fun _ _=>Aw,?_⟩;have:=fin .nilIface .returning (by simp[OG.val,Bz,Br]) rfl;have e:({ c₀ with mode:= .returning }:Frame)=c₀:=by rw[←hc0]
  rw[e] at this;exact this
 | pan v =>
  obtain⟨x,rfl,hx⟩:=hm;simp only[recoverD,hc0,hasg];refine⟨fun _ _=>Aw,?_⟩;exact fin x _ hx O
end Go.Abs
