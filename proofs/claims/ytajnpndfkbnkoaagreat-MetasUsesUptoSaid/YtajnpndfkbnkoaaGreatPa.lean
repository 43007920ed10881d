/- Part of the proofs: an abstract program logic, plain models and contracts of functions. -/
import Derived.OrdersIn
import Derived.RangeFuncIn
import Derived.RangeFuncRecord
import Derived.MapKept
import Derived.Deep.MidRow
import Derived.RangeFuncLeaves
import Derived.RecoverIn
import Derived.RangeFuncNested
set_option linter.unusedVariables false
set_option linter.unusedSimpArgs false
theorem Go.O.{u}{α:Sort u}{a:α}:a=a:=rfl
theorem Go.Ah:True:= .intro
namespace Go.Abs
inductive PV where
 | any
 | bool (b:Bool)
 | int (k:IntKind) (n:Int)
 | str (s:ByteArray)
 | lst (rows:List (List PV))
 | fn (f:FuncId)
 | nilFn
 | nils
 | nilIface
 | iface (t:TypeId) (v:PV)
 | unit
 | addr (b:Nat)
 | optp (o:Option Nat)
 | lstc (rows:List (List PV))
 deriving Inhabited
mutual
def BN (F:Nat→Prop) (w:World):PV→Value→Prop
 | .any,_=>True
 | .bool b,v=>v= .bool b
 | .int k n,v=>v= .int k n
 | .str s,v=>v= .string s
 | .lst rows,v=>(rows=[]∧∃o c,v= .slice o 0 c)∨(∃b o c sz,v= .slice (some ⟨b,o,none⟩) rows.length c∧¬F b∧b<w.heap.size∧rows.length≤c∧A7 F w b sz o rows)
 | .fn f,v=>v= .func (.func f) #[] #[]
 | .nilFn,v=>v= .nilFunc
 | .nils,v=>v= .slice none 0 0
 | .nilIface,v=>v= .nilIface
 | .iface t x,v=>∃u,v= .iface t u∧BN F w x u
 | .unit,v=>v= .agg #[]
 | .addr b,v=>v= .pointer (some ⟨b,0,none⟩)
 | .optp o,v=>v= .pointer (o.map fun b=>⟨b,0,none⟩)
 | .lstc rows,v=>(rows=[]∧∃o,v= .slice o 0 0)∨(∃b o sz,v= .slice (some ⟨b,o,none⟩) rows.length rows.length∧¬F b∧b<w.heap.size∧A7 F w b sz o rows)
def A7 (F:Nat→Prop) (w:World) (b sz:Nat):Nat→List (List PV)→Prop
 | _,[]=>True
 | o,r::rs=>r.length=sz∧BS F w b o r∧A7 F w b sz (o+sz) rs
def BS (F:Nat→Prop) (w:World) (b:Nat):Nat→List PV→Prop
 | _,[]=>True
 | o,c::cs=>(∃v,w.cell? ⟨b,o,none⟩=some v∧BN F w c v)∧BS F w b (o+1) cs
end
inductive AV where
 | p (x:PV)
 | ptr (b off:Nat)
 | nilp
 | ref (cells:List PV)
 | vs (o:Option Nat) (n c:Nat)
 | map (b:Nat)
 | fn (f:Fn) (first caps:List AV)
 | agg (cs:List AV)
 | tup (xs:List AV)
 deriving Inhabited
mutual
def BP (F:Nat→Prop) (w:World):AV→Value→Prop
 | .p x,v=>BN F w x v
 | .ptr b off,v=>v= .pointer (some ⟨b,off,none⟩)
 | .nilp,v=>v= .pointer none
 | .ref cs,v=>∃b o,v= .pointer (some ⟨b,o,none⟩)∧¬F b∧b<w.heap.size∧BS F w b o cs
 | .vs (some b) n c,v=>v= .slice (some ⟨b,0,none⟩) n c
 | .vs none n c,v=>n=0∧c=0∧∃a,v= .slice a 0 0
 | .map b,v=>v= .map (some b)
 | .fn f first caps,v=>∃fs cs,v= .func f ⟨fs⟩ ⟨cs⟩∧A6 F w first fs∧A6 F w caps cs
 | .agg cs,v=>∃vs,v= .agg ⟨vs⟩∧A6 F w cs vs
 | .tup xs,v=>∃vs,v= .tuple ⟨vs⟩∧A6 F w xs vs
def A6 (F:Nat→Prop) (w:World):List AV→List Value→Prop
 | [],vs=>vs=[]
 | x::xs,vs=>∃u us,vs=u::us∧BP F w x u∧A6 F w xs us
end
structure PE where
 state:LoopState
 pending:Option Code
 n:Nat
 τ:Nat→AV
 params:Array Tmp
 assign:Code
 body:Code
 deriving Inhabited
inductive Aj where
 | box (b:Nat) (cs:List AV)
 | vec (o:Option Nat) (sz:Nat) (rows:List (List PV)) (c:Nat)
 | map (b:Nat) (es:List (PV×AV))
 | loop (l:Nat) (L:PE)
 | dfr (b:Nat)
 | blk (b:Nat) (o:Obj)
 | glob (l:List (Nat×Obj))
 | vecT (o:Option Nat) (T:TypeId) (fr:Bool) (rows:List (List PV)) (c:Nat)
 | boxT (b:Nat) (T:TypeId) (cs:List AV)
 | fro (b sz:Nat) (rows:List (List PV))
 deriving Inhabited
def Aj.key:Aj→Option Nat
 | .box b _=>some b
 | .vec o _ _ _=>o
 | .map b _=>some b
 | .loop l _=>some l
 | .dfr b=>some b
 | .blk b _=>some b
 | .glob _=>none
 | .vecT o _ _ _ _=>o
 | .boxT b _ _=>some b
 | .fro _ _ _=>none
def Cg (F:Nat→Prop) (w:World):List (PV×AV)→List MapEntry→Prop
 | [],es=>es=[]
 | (k,x)::r,es=>∃e es',es=e::es'∧BN F w k e.key∧BP F w x e.val∧Cg F w r es'
def Gc (F:Nat→Prop) (w:World):Aj→Prop
 | .box b cs=>∃vs T,w.heap[b]?=some (.cells ⟨vs⟩ T (0,0))∧A6 F w cs vs
 | .vec none _ rows c=>rows=[]∧c=0
 | .vec (some b) sz rows c=>∃vs T,w.heap[b]?=some (.cells vs T (0,0))∧c*sz≤vs.size∧rows.length≤c∧A7 F w b sz 0 rows
 | .map b es=>∃ents clk,w.heap[b]?=some (.map ents clk)∧MapKept.Stamped ents clk∧Cg F w es ents.toList
 | .loop l L=>∃r:Loop,w.heap[l]?=some (.loop r)∧r.state=L.state∧r.pending=L.pending∧r.params=L.params∧r.assign=L.assign∧r.body=L.body∧r.tmps.size=L.n∧∀t,BP F w (L.τ t) (r.tmps.getD t (.tuple #[]))
 | .dfr b=>w.heap[b]?=some (.deferred (some []))
 | .blk b o=>w.heap[b]?=some o
 | .glob l=>∀p∈l,w.heap[p.1]?=some p.2∧¬F p.1
 | .boxT b T cs=>∃vs,w.heap[b]?=some (.cells ⟨vs⟩ T (0,0))∧A6 F w cs vs
 | .fro b sz rows=>∃vs T,w.heap[b]?=some (.cells vs T (0,0))∧vs.size=rows.length*sz∧¬F b∧A7 F w b sz 0 rows
 | .vecT none _ _ rows c=>rows=[]∧c=0
 | .vecT (some b) T fr rows c=>∃vs,w.heap[b]?=some (.cells vs T (0,if fr then rows.length else 0))∧c≤vs.size∧rows.length≤c∧A7 F w b 1 0 rows
inductive Cb where
 | clo (f:Fn) (caps:List AV)
 | mark (b:Nat)
structure HRel (F:Nat→Prop) (H:List Aj) (w:World):Prop where
 sub:∀o∈H,∀b,o.key=some b→F b
 nodup:(H.filterMap Aj.key).Nodup
 obj:∀o∈H,Gc F w o
 bd:∀b,F b→b<w.heap.size
structure Trans (F:Nat→Prop) (H:List Aj) (w:World) (F':Nat→Prop) (H':List Aj) (w':World):Prop where
 size:w.heap.size≤w'.heap.size
 same:∀b,b<w.heap.size→(∀o∈H,o.key≠some b)→w'.heap[b]?=w.heap[b]?
 keep:∀b,F b→(∀o∈H,o.key≠some b)→F' b
 fresh:∀b,F' b→F b∨w.heap.size≤b
 keys:∀o∈H',∀b,o.key=some b→(∃o'∈H,o'.key=some b)∨w.heap.size≤b
 os:w'.os=w.os
 out:w'.output=w.output
 tape:w'.tape=w.tape
theorem Vd {w w':World}{b o:Nat}(h:w'.heap[b]?=w.heap[b]?):w'.cell? ⟨b,o,none⟩=w.cell? ⟨b,o,none⟩:=by
 simp[World.cell?,h]
structure Cy (F:Nat→Prop) (w:World) (F':Nat→Prop) (w':World):Prop where
 size:w.heap.size≤w'.heap.size
 same:∀b,¬F b→b<w.heap.size→w'.heap[b]?=w.heap[b]?
 nf:∀b,¬F b→b<w.heap.size→¬F' b
section
variable {F F':Nat→Prop}{w w':World}
mutual
theorem BN.mono (st:Cy F w F' w'):∀(x:PV) (v:Value),BN F w x v→BN F' w' x v
 | .any,_,_=>by simp[BN]
 | .bool b,_,h=>by simpa [BN] using h
 | .int k n,_,h=>by simpa [BN] using h
 | .str s,_,h=>by simpa [BN] using h
 | .lst rows,v,h=>by
  simp only[BN] at h ⊢;rcases h with h | ⟨b,o,c,sz,hv,hf,hb,hc,hr⟩
  ·exact .inl h
  ·exact .inr ⟨b,o,c,sz,hv,st.nf b hf hb,Nat.lt_of_lt_of_le hb st.size,hc,A7.mono st b sz (st.same b hf hb) o rows hr⟩
 | .fn f,_,h=>by simpa [BN] using h
 | .nilFn,_,h=>by simpa [BN] using h
 | .nils,_,h=>by simpa [BN] using h
 | .nilIface,_,h=>by simpa [BN] using h
 | .iface t x,v,h=>by
  simp only[BN] at h ⊢;have ⟨u,hu,hx⟩:=h;exact⟨u,hu,BN.mono st x u hx⟩
 | .unit,_,h=>by simpa [BN] using h
 | .addr b,_,h=>by simpa [BN] using h
 | .optp o,_,h=>by simpa [BN] using h
 | .lstc rows,v,h=>by
  simp only[BN] at h ⊢;rcases h with h | ⟨b,o,sz,hv,hf,hb,hr⟩
  ·exact .inl h
  exact .inr ⟨b,o,sz,hv,st.nf b hf hb,Nat.lt_of_lt_of_le hb st.size,A7.mono st b sz (st.same b hf hb) o rows hr⟩
theorem A7.mono (st:Cy F w F' w') (b sz:Nat) (hb:w'.heap[b]?=w.heap[b]?):∀(o:Nat) (rows:List (List PV)),A7 F w b sz o rows→A7 F' w' b sz o rows
 | _,[],_=>by simp[A7]
 | o,r::rs,h=>by
  simp only[A7] at h ⊢;exact⟨h.1,BS.mono st b hb o r h.2.1,A7.mono st b sz hb (o+sz) rs h.2.2⟩
theorem BS.mono (st:Cy F w F' w') (b:Nat) (hb:w'.heap[b]?=w.heap[b]?):∀(o:Nat) (cs:List PV),BS F w b o cs→BS F' w' b o cs
 | _,[],_=>by simp[BS]
 | o,c::cs,h=>by
  simp only[BS] at h ⊢;have ⟨⟨v,hv,hx⟩,hr⟩:=h;exact⟨⟨v,by rw[Vd hb];exact hv,BN.mono st c v hx⟩,BS.mono st b hb (o+1) cs hr⟩
end
mutual
theorem BP.mono (st:Cy F w F' w'):∀(x:AV) (v:Value),BP F w x v→BP F' w' x v
 | .p x,v,h=>by simp only[BP] at h ⊢;exact BN.mono st x v h
 | .ptr _ _,_,h=>by simpa [BP] using h
 | .nilp,_,h=>by simpa [BP] using h
 | .ref cs,v,h=>by
  simp only[BP] at h ⊢;have ⟨b,o,hv,hf,hb,hr⟩:=h;exact⟨b,o,hv,st.nf b hf hb,Nat.lt_of_lt_of_le hb st.size,BS.mono st b (st.same b hf hb) o cs hr⟩
 | .vs (some _) _ _,_,h=>by simpa [BP] using h
 | .vs none _ _,_,h=>by simpa [BP] using h
 | .map _,_,h=>by simpa [BP] using h
 | .fn f first caps,v,h=>by
  simp only[BP] at h ⊢;have ⟨fs,cs,hv,h1,h2⟩:=h;exact⟨fs,cs,hv,A6.mono st first fs h1,A6.mono st caps cs h2⟩
 | .agg cs,v,h=>by
  simp only[BP] at h ⊢;have ⟨vs,hv,h1⟩:=h;exact⟨vs,hv,A6.mono st cs vs h1⟩
 | .tup xs,v,h=>by
  simp only[BP] at h ⊢;have ⟨vs,hv,h1⟩:=h;exact⟨vs,hv,A6.mono st xs vs h1⟩
theorem A6.mono (st:Cy F w F' w'):∀(xs:List AV) (vs:List Value),A6 F w xs vs→A6 F' w' xs vs
 | [],_,h=>by simpa [A6] using h
 | x::xs,vs,h=>by
  simp only[A6] at h ⊢;have ⟨u,us,hv,h1,h2⟩:=h;exact⟨u,us,hv,BP.mono st x u h1,A6.mono st xs us h2⟩
end
theorem Cg.mono (st:Cy F w F' w'):∀(es:List (PV×AV)) (l:List MapEntry),Cg F w es l→Cg F' w' es l
 | [],_,h=>by simpa [Cg] using h
 | (k,x)::r,l,h=>by
  simp only[Cg] at h ⊢;have ⟨e,es',hv,h1,h2,h3⟩:=h;exact⟨e,es',hv,BN.mono st k _ h1,BP.mono st x _ h2,Cg.mono st r es' h3⟩
theorem Gc.mono (st:Cy F w F' w') (x:Aj) (hk:∀b,x.key=some b→w'.heap[b]?=w.heap[b]?) (h:Gc F w x):Gc F' w' x:=by
 cases x with
 | box b cs =>
  have ⟨vs,T,hb,hr⟩:=h;exact⟨vs,T,by rw[hk b rfl];exact hb,A6.mono st cs vs hr⟩
 | vec o sz rows c =>
  cases o with
  | none=>exact h
  | some b =>
   have ⟨vs,T,hb,h1,h2,h3⟩:=h;exact⟨vs,T,by rw[hk b rfl];exact hb,h1,h2,A7.mono st b sz (hk b rfl) 0 rows h3⟩
 | map b es =>
  have ⟨ents,clk,hb,hs,hr⟩:=h;exact⟨ents,clk,by rw[hk b rfl];exact hb,hs,Cg.mono st es _ hr⟩
 | loop l L =>
  have ⟨r,hb,h1,h2,h3,h4,h5,h6,h7⟩:=h;exact⟨r,by rw[hk l rfl];exact hb,h1,h2,h3,h4,h5,h6,fun t=>BP.mono st _ _ (h7 t)⟩
 | dfr b =>
  show w'.heap[b]?=_;rw[hk b rfl];exact h
 | blk b o =>
  show w'.heap[b]?=_;rw[hk b rfl];exact h
 | glob l =>
  intro p hp;have ⟨h1,h2⟩:=h p hp;have hlt:p.1<w.heap.size:=(Array.getElem?_eq_some_iff.1 h1).1;exact⟨by rw[st.same p.1 h2 hlt];exact h1,st.nf p.1 h2 hlt⟩
 | boxT b T cs =>
  have ⟨vs,hb,hr⟩:=h;exact⟨vs,by rw[hk b rfl];exact hb,A6.mono st cs vs hr⟩
 | fro b sz rows =>
  have ⟨vs,T,hb,h1,h2,h3⟩:=h;have hlt:b<w.heap.size:=(Array.getElem?_eq_some_iff.1 hb).1;exact⟨vs,T,by rw[st.same b h2 hlt];exact hb,h1,st.nf b h2 hlt,A7.mono st b sz (st.same b h2 hlt) 0 rows h3⟩
 | vecT o T fr rows c =>
  cases o with
  | none=>exact h
  | some b =>
   have ⟨vs,hb,h1,h2,h3⟩:=h;exact⟨vs,by rw[hk b rfl];exact hb,h1,h2,A7.mono st b 1 (hk b rfl) 0 rows h3⟩
end
section
variable {F F' F'':Nat→Prop}{H H' H'':List Aj}{w w' w'':World}
theorem Trans.stable (hs:∀o∈H,∀b,o.key=some b→F b) (t:Trans F H w F' H' w'):Cy F w F' w' where
 size:=t.size
 same b hf hb:=t.same b hb fun o ho hk=>hf (hs o ho b hk)
 nf b hf hb hf':=(t.fresh b hf').elim hf fun h=>by omega
theorem Trans.refl:Trans F H w F H w where
 size:=Nat.le_refl _
 same _ _ _:=rfl
 keep _ h _:=h
 fresh _ h:= .inl h
 keys o ho b hb:= .inl ⟨o,ho,hb⟩
 os:=rfl
 out:=rfl
 tape:=rfl
theorem Trans.trans (bd:∀b,F b→b<w.heap.size) (t:Trans F H w F' H' w') (t':Trans F' H' w' F'' H'' w''):Trans F H w F'' H'' w'' where
 size:=Nat.le_trans t.size t'.size
 same b hb hn:=by
  rw[t'.same b (Nat.lt_of_lt_of_le hb t.size) ?_,t.same b hb hn];intro o ho hk;rcases t.keys o ho b hk with ⟨o',ho',hk'⟩ | h
  ·grind
  omega
 keep b hF hn:=by
  refine t'.keep b (t.keep b hF hn) ?_;intro o ho hk;have:=bd b hF;rcases t.keys o ho b hk with ⟨o',ho',hk'⟩ | h
  ·grind
  omega
 fresh b h:=by
  rcases t'.fresh b h with h | h
  ·exact t.fresh b h
  exact .inr (Nat.le_trans t.size h)
 keys o ho b hk:=by
  rcases t'.keys o ho b hk with ⟨o',ho',hk'⟩ | h
  ·exact t.keys o' ho' b hk'
  exact .inr (Nat.le_trans t.size h)
 os:=t'.os.trans t.os
 out:=t'.out.trans t.out
 tape:=t'.tape.trans t.tape
end
def put (τ:Nat→AV) (d:Option Nat) (v:AV):Nat→AV :=
 match d with
 | none=>τ
 | some d=>fun t=>bif Nat.beq t d then v else τ t
def mk:List (Nat×AV)→Nat→AV
 | [],_=> .p .any
 | (d,v)::r,t=>bif Nat.beq t d then v else mk r t
def EZ:Value→AV
 | .bool b=> .p (.bool b)
 | .int k n=> .p (.int k n)
 | .string s=> .p (.str s)
 | .slice none 0 0=> .p .nils
 | .nilIface=> .p .nilIface
 | .nilFunc=> .p .nilFn
 | .pointer none=> .nilp
 | _=> .p .any
def US:Value→AV
 | .agg cs=> .agg (cs.toList.map EZ)
 | v=>EZ v
def ev (τ:Nat→AV):Operand→AV
 | .tmp t=>τ t
 | .const v=>US v
 | .func f=> .p (.fn f)
 | .global g=> .ptr g 0
structure As where
 n:Nat
 τ:Nat→AV
 H:List Aj
 D:List Cb
def As.put (S:As) (d:Option Nat) (v:AV) (H:List Aj):As:=⟨S.n,Abs.put S.τ d v,H,S.D⟩
def EG (F:Nat→Prop) (w:World):List Cb→List Deferred→Prop
 | [],ds=>ds=[]
 | .clo f cs::r,ds=>∃vs ds',ds={ target:= .fn f ⟨vs⟩,args:=#[] }::ds'∧A6 F w cs vs∧EG F w r ds'
 | .mark b::r,ds=>∃ds',ds={ target:= .collected b,args:=#[] }::ds'∧EG F w r ds'
structure D1 (F:Nat→Prop) (S:As) (a:Act) (w:World):Prop where
 size:a.tmps.size=S.n
 tmp:∀t,BP F w (S.τ t) (a.tmps.getD t undef)
 heap:HRel F S.H w
 defs:EG F w S.D a.defers
section
variable {F F':Nat→Prop}{w w':World}
theorem EG.mono (st:Cy F w F' w'):∀(D:List Cb) (ds:List Deferred),EG F w D ds→EG F' w' D ds
 | [],_,h=>by simpa [EG] using h
 | .clo f cs::r,ds,h=>by
  simp only[EG] at h ⊢;have ⟨vs,ds',hd,h1,h2⟩:=h;exact⟨vs,ds',hd,A6.mono st cs vs h1,EG.mono st r ds' h2⟩
 | .mark b::r,ds,h=>by
  simp only[EG] at h ⊢;have ⟨ds',hd,h2⟩:=h;exact⟨ds',hd,EG.mono st r ds' h2⟩
theorem Kf (v:Value):BP F w (.p .any) v:=by simp[BP,BN]
theorem Lx (v:Value):BP F w (EZ v) v:=by
 unfold EZ;split<;>simp[BP,BN]
theorem Px:∀vs:List Value,A6 F w (vs.map EZ) vs
 | []=>rfl
 | v::vs=>⟨v,vs,rfl,Lx v,Px vs⟩
theorem UQ (v:Value):BP F w (US v) v:=by
 unfold US;split
 ·rename_i cs;exact⟨cs.toList,rfl,Px _⟩
 exact Lx _
theorem D1.eval {S:As}{a:Act}(h:D1 F S a w) (x:Operand):BP F w (ev S.τ x) (a.eval x):=by
 cases x with
 | tmp t=>exact h.tmp t
 | const v=>exact UQ v
 | global g=>simp[ev,Act.eval,BP]
 | func f=>simp[ev,Act.eval,BP,BN]
theorem D1.put {S:As}{a:Act}(h:D1 F S a w) {d:Option Nat}(hd:∀t,d=some t→t<S.n) {v:AV}{u:Value}{H':List Aj}
  (st:Cy F w F' w') (hH:HRel F' H' w') (hv:BP F' w' v u):D1 F' (S.put d v H') (a.put d u) w' where
 size:=by cases d<;>simp[Act.put,As.put,h.size]
 tmp t:=by
  cases d with
  | none=>exact BP.mono st _ _ (h.tmp t)
  | some d =>
   have hlt:d<a.tmps.size:=by rw[h.size];exact hd d rfl
   by_cases e:t=d
   ·subst e;simp[Act.put,As.put,Abs.put,hlt,hv]
   have hb:Nat.beq t d=false:=by
    grind [Nat.eq_of_beq_eq_true]
   have:=BP.mono st _ _ (h.tmp t);simpa [Act.put,As.put,Abs.put,hb,Array.getElem?_setIfInBounds_ne (Ne.symm e)] using this
 heap:=hH
 defs:=by
  have:=EG.mono st _ _ h.defs;cases d<;>exact this
end
inductive Bd where
 | normal
 | exit (id:Nat)
 | ret
 | panic (v:AV)
def bF (F:Nat→Prop) (w:World):Bd→Exit→Prop
 | .normal,e=>e= .normal
 | .exit id,e=>e= .exit id
 | .ret,e=>e= .ret
 | .panic x,e=>∃v,e= .panic [{ v,recovered:=false }]∧BP F w x v
def post (F:Nat→Prop) (H:List Aj) (w:World) (Q:Bd→As→Prop):Exit→Act→World→Prop :=
 fun e a' w'=>∃e' S' F',Q e' S'∧bF F' w' e' e∧D1 F' S' a' w'∧Trans F H w F' S'.H w'
def W (r:Option Nat):Fence:={ Fence.wide with round:=r }
def GF (P:Program) (r:Option Nat) (c:Code) (S:As) (Q:Bd→As→Prop):Prop :=
 ∀F a w,D1 F S a w→c.wpIn (W r) 0 P (post F S.H w Q) a w
theorem _root_.Go.Ag {α:Prop}(h:α:=by simp):α:=h
section
variable {P:Program}{r:Option Nat}{S:As}{Q Q':Bd→As→Prop}{c c₁ c₂:Code}
theorem EV {F F₁:Nat→Prop}{H H₁:List Aj}{w w₁:World}(bd:∀b,F b→b<w.heap.size) (t:Trans F H w F₁ H₁ w₁) {e a w'}
  (h:post F₁ H₁ w₁ Q e a w'):post F H w Q e a w':=by
 have ⟨e',S',F',hq,he,hs,ht⟩:=h;exact⟨e',S',F',hq,he,hs,t.trans bd ht⟩
theorem GF.mono (h:GF P r c S Q) (hq:∀e S,Q e S→Q' e S):GF P r c S Q' :=
 fun F a w hs=>wpIn_mono (h F a w hs) fun _ _ _ ⟨e',S',F',q,r⟩=>⟨e',S',F',hq _ _ q,r⟩
def HU (K:As→Prop) (Q:Bd→As→Prop):Bd→As→Prop
 | .normal,S=>K S
 | e,S=>Q e S
theorem Ax (h:GF P r c₁ S (HU (fun S'=>GF P r c₂ S' Q) Q)):GF P r (.seq c₁ c₂) S Q:=by
 intro F a w hs;refine wpIn_seq (wpIn_mono (h F a w hs) ?_);rintro e a' w' ⟨e',S',F',hq,he,hs',ht⟩;cases e' with
 | normal =>
  obtain rfl:e= .normal:=he;exact wpIn_mono (hq F' a' w' hs') fun _ _ _=>EV hs.heap.bd ht
 | exit id=>obtain rfl:e= .exit id:=he;exact⟨.exit id,S',F',hq,rfl,hs',ht⟩
 | ret=>obtain rfl:e= .ret:=he;exact⟨.ret,S',F',hq,rfl,hs',ht⟩
 | panic v=>obtain⟨u,rfl,hu⟩:=he;exact⟨.panic v,S',F',hq,⟨u,rfl,hu⟩,hs',ht⟩
theorem BJ (h:Q .normal S):GF P r .skip S Q:=fun F a w hs=>wpIn_skip ⟨.normal,S,F,h,rfl,hs,.refl⟩
theorem Cq {id:Nat}(h:Q (.exit id) S):GF P r (.exit id) S Q:=fun F a w hs=>wpIn_exit ⟨.exit id,S,F,h,rfl,hs,.refl⟩
theorem Bk (h:Q .ret S):GF P r .ret S Q:=fun F a w hs=>wpIn_ret ⟨.ret,S,F,h,rfl,hs,.refl⟩
theorem A5 {x:Operand}{b:Bool}(hx:ev S.τ x= .p (.bool b)) (ht:b=true→GF P r c₁ S Q) (hf:b=false→GF P r c₂ S Q):GF P r (.cond x c₁ c₂) S Q:=by
 intro F a w hs;have:=hs.eval x;rw[hx] at this;simp only[BP,BN] at this;exact wpIn_cond_split this (fun h=>ht h F a w hs) (fun h=>hf h F a w hs)
def Qx (id:Nat) (Q:Bd→As→Prop):Bd→As→Prop
 | .exit i,S=>bif Nat.beq i id then Q .normal S else Q (.exit i) S
 | e,S=>Q e S
theorem BG {id:Nat}(h:GF P r c S (Qx id Q)):GF P r (.block id c) S Q:=by
 intro F a w hs;refine wpIn_block (wpIn_mono (h F a w hs) ?_);rintro e a' w' ⟨e',S',F',hq,he,hs',ht⟩;cases e' with
 | normal=>obtain rfl:e= .normal:=he;exact⟨.normal,S',F',hq,rfl,hs',ht⟩
 | exit i =>
  obtain rfl:e= .exit i:=he;simp only[Exit.inBlock];by_cases hi:i=id
  ·subst hi;have:Nat.beq i i=true:=Nat.beq_refl i;simp only[Qx,this,cond_true] at hq;simp only[if_true];exact⟨.normal,S',F',hq,O,hs',ht⟩
  ·have:Nat.beq i id=false:=by
    grind [Nat.eq_of_beq_eq_true]
   simp only[Qx,this,cond_false] at hq;simp only[hi,if_false];exact⟨.exit i,S',F',hq,O,hs',ht⟩
 | ret=>obtain rfl:e= .ret:=he;exact⟨.ret,S',F',hq,rfl,hs',ht⟩
 | panic v=>obtain⟨u,rfl,hu⟩:=he;exact⟨.panic v,S',F',hq,⟨u,rfl,hu⟩,hs',ht⟩
theorem Si {F:Fence}{nn:Nat}{Q:Exit→Act→World→Prop}{c:Code}(I:Nat→Act→World→Prop)
  (round:∀m a w,I m a w→c.wpIn F nn P (Exit.then (fun a' w'=>∃m',m' < m∧I m' a' w') Q) a w) {m:Nat} {a:Act} {w:World} (h₀:I m a w):(Code.loop c).wpIn F nn P Q a w:=by
 intro b k cs hro hb hr;have key:∀j a w,I j a w →
   ∃e a' w',Q e a' w'∧ArrivesIn (Machine.fenced P F) P (lone (b.atR a (.code c:: .inLoop c::k)) cs w) b k cs e a' w':=by
  intro j
  induction j using Nat.strongRecOn with
  | _ j ih =>
   intro a w hI;have ⟨e,a₁,w₁,hq,harr⟩:=round j a w hI b (.inLoop c::k) cs hro hb hr;cases e with
   | normal =>
    have ⟨m',hlt,hI₁⟩:=hq;have ⟨e₂,a₂,w₂,hq₂,harr₂⟩:=ih m' hlt a₁ w₁ hI₁;exact⟨e₂,a₂,w₂,hq₂,.of_steps (StepsIn.trans harr (.one (fenced_calm hb hr O) stepR_inLoop)) harr₂⟩
   | exit id=>exact⟨_,a₁,w₁,hq,.pass (x:= .inLoop c) rfl (fun _ _=> .inl Ag) harr⟩
   | goto l=>exact⟨_,a₁,w₁,hq,.pass (x:= .inLoop c) rfl (fun _ _=> .inl Ag) harr⟩
   | ret=>exact⟨_,a₁,w₁,hq,.pass (x:= .inLoop c) rfl (fun _ _=> .inl Ag) harr⟩
   | panic ch=>exact⟨_,a₁,w₁,hq,.pass (x:= .inLoop c) rfl (fun _ _=> .inl Ag) harr⟩
   | outgrown=>exact⟨_,a₁,w₁,hq,.pass (x:= .inLoop c) rfl (fun _ _=> .inl Ag) harr⟩
 have ⟨e,a',w',hq,harr⟩:=key _ a w h₀;exact⟨e,a',w',hq,.of_steps (.one (fenced_calm hb hr O) stepR_loop) harr⟩
def Mq (x y:AV):Prop:=∀F w v,BP F w x v→BP F w y v
theorem we {x y:AV}(h:x=y):Mq x y:=fun _ _ _ hr=>h▸hr
theorem N8 (x:AV):Mq x (.p .any):=fun _ _ v _=>Kf v
def JA (o o':Aj):Prop:=o'.key=o.key∧∀F w,Gc F w o→Gc F w o'
theorem oe {o o':Aj}(h:o=o'):JA o o':=⟨by rw[h],fun _ _ hr=>h▸hr⟩
def Dq:List Aj→List Aj→Prop
 | [],l=>l=[]
 | o::l,r=>∃o' r',r=o'::r'∧JA o o'∧Dq l r'
theorem Dq.refl:∀(l:List Aj),Dq l l
 | []=>rfl
 | o::l=>⟨o,l,rfl,oe rfl,Dq.refl l⟩
theorem Dq.keys:∀{l r:List Aj},Dq l r→r.filterMap Aj.key=l.filterMap Aj.key
 | [],r,h=>by simp only[Dq] at h;subst h;rfl
 | o::l,r,h=>by
  obtain⟨o',r',rfl,h1,h2⟩:=h;simp[List.filterMap_cons,h1.1,Dq.keys h2]
theorem Dq.mem:∀{l r:List Aj},Dq l r→∀o'∈r,∃o∈l,JA o o'
 | [],r,h,o',ho=>by simp only[Dq] at h;subst h;simp at ho
 | o::l,r,h,o',ho=>by
  obtain⟨o1,r',rfl,h1,h2⟩:=h;rcases List.mem_cons.1 ho with rfl | ho
  ·exact⟨o,by simp,h1⟩
  have ⟨q,hq,hw⟩:=Dq.mem h2 o' ho;exact⟨q,by simp[hq],hw⟩
def aU (H H':List Aj):Prop:=∃H1,H1.Sublist H∧Dq H1 H'
theorem aU.of_sub {H H':List Aj}(h:H'.Sublist H):aU H H':=⟨H',h,Dq.refl _⟩
structure Le (S M:As):Prop where
 n:M.n=S.n
 D:M.D=S.D
 τ:∀t,Mq (S.τ t) (M.τ t)
 H:aU S.H M.H
theorem Le.refl (S:As):Le S S:=⟨rfl,rfl,fun _=>we rfl,.of_sub (List.Sublist.refl _)⟩
theorem HRel.sublist {F:Nat→Prop}{H H':List Aj}{w:World}(h:HRel F H w) (hs:H'.Sublist H):HRel F H' w where
 sub o ho:=h.sub o (hs.subset ho)
 nodup:=(hs.filterMap Aj.key).nodup h.nodup
 obj o ho:=h.obj o (hs.subset ho)
 bd:=h.bd
theorem HRel.leH {F:Nat→Prop}{H H':List Aj}{w:World}(h:HRel F H w) (l:aU H H'):HRel F H' w:=by
 obtain⟨H1,h1,h2⟩:=l;have h3:=h.sublist h1;refine⟨fun o ho b hb=>?_,by rw[h2.keys];exact h3.nodup,fun o ho=>?_,h.bd⟩
 ·have ⟨q,hq,hw⟩:=h2.mem o ho;exact h3.sub q hq b (by rw[←hw.1];exact hb)
 have ⟨q,hq,hw⟩:=h2.mem o ho;exact hw.2 F w (h3.obj q hq)
theorem D1.le {F:Nat→Prop}{S M:As}{a:Act}{w:World}(h:D1 F S a w) (l:Le S M):D1 F M a w where
 size:=by rw[h.size,l.n]
 tmp t:=l.τ t F w _ (h.tmp t)
 heap:=h.heap.leH l.H
 defs:=by rw[l.D];exact h.defs
theorem Trans.sublist {F F':Nat→Prop}{H H' H'':List Aj}{w w':World}(t:Trans F H w F' H' w') (hs:H''.Sublist H'):Trans F H w F' H'' w' :=
 { t with keys:=fun o ho=>t.keys o (hs.subset ho) }
theorem Trans.leH {F F':Nat→Prop}{H H' H'':List Aj}{w w':World}(t:Trans F H w F' H' w') (l:aU H' H''):Trans F H w F' H'' w':=by
 obtain⟨H1,h1,h2⟩:=l;refine { t with keys:=fun o ho b hb=>?_ };have ⟨q,hq,hw⟩:=h2.mem o ho;exact t.keys q (h1.subset hq) b (by rw[←hw.1];exact hb)
theorem Trans.le {F:Nat→Prop}{S M:As}{w:World}(l:Le S M):Trans F S.H w F M.H w:=Trans.refl.leH l.H
theorem Rj {M:As}(l:Le S M) (bd:GF P r c M Q):GF P r c S Q :=
 fun F a w hs=>wpIn_mono (bd F a w (hs.le l)) fun _ _ _=>EV hs.heap.bd (Trans.le l)
theorem PC (I:Nat→As→Prop) {m:Nat}{M:As}(l:Le S M) (h₀:I m M)
  (round:∀m S,I m S→GF P r c S (HU (fun S'=>∃m' M',m' < m∧Le S' M'∧I m' M') Q)):GF P r (.loop c) S Q:=by
 intro F a w hs;refine Si (P:=P) (fun m a' w'=>∃S' F',I m S'∧D1 F' S' a' w'∧Trans F S.H w F' S'.H w') ?_ (m:=m)
  ⟨M,F,h₀,hs.le l,Trans.le l⟩
 rintro m a₁ w₁ ⟨S₁,F₁,hI,hs₁,ht₁⟩;refine wpIn_mono (round m S₁ hI F₁ a₁ w₁ hs₁) ?_;rintro e a' w' ⟨e',S',F',hq,he,hs',ht⟩;cases e' with
 | normal =>
  obtain rfl:e= .normal:=he;have ⟨m',M',hlt,hle,hI'⟩:=hq;exact⟨m',hlt,M',F',hI',hs'.le hle,(ht₁.trans hs.heap.bd ht).leH hle.H⟩
 | exit id=>obtain rfl:e= .exit id:=he;exact⟨.exit id,S',F',hq,rfl,hs',ht₁.trans hs.heap.bd ht⟩
 | ret=>obtain rfl:e= .ret:=he;exact⟨.ret,S',F',hq,rfl,hs',ht₁.trans hs.heap.bd ht⟩
 | panic v=>obtain⟨u,rfl,hu⟩:=he;exact⟨.panic v,S',F',hq,⟨u,rfl,hu⟩,hs',ht₁.trans hs.heap.bd ht⟩
def Rq (τ:Nat→AV):List (Nat×AV)→Prop
 | []=>True
 | (t,v)::r=>τ t=v∧Rq τ r
theorem QO (τ:Nat→AV):∀(l:List (Nat×AV)),Rq τ l→∀t,mk l t=τ t∨mk l t= .p .any
 | [],_,t=> .inr rfl
 | (d,v)::r,h,t=>by
  simp only[mk];by_cases e:t=d
  ·subst e;rw[Nat.beq_refl];exact .inl h.1.symm
  have:Nat.beq t d=false:=by
   cases hq:Nat.beq t d with
   | false=>rfl
   | true=>exact absurd (Nat.eq_of_beq_eq_true hq) e
  rw[this];exact QO τ r h.2 t
theorem Ds {n:Nat}{τ:Nat→AV}{H H':List Aj}{D:List Cb}{l:List (Nat×AV)}(h:Rq τ l) (hH:H'.Sublist H) :
  Le ⟨n,τ,H,D⟩ ⟨n,mk l,H',D⟩:=⟨rfl,rfl,fun t=>(QO τ l h t).elim (fun e=>we e.symm) (fun e=>by show Mq (τ t) (mk l t);rw[e];exact N8 _),.of_sub hH⟩
def Fq (τ:Nat→AV):List (Nat×AV)→Prop
 | []=>True
 | (t,v)::r=>Mq (τ t) v∧Fq τ r
theorem Na (τ:Nat→AV):∀(l:List (Nat×AV)),Fq τ l→∀t,Mq (τ t) (mk l t)
 | [],_,t=>N8 _
 | (d,v)::r,h,t=>by
  simp only[mk];by_cases e:t=d
  ·subst e;rw[Nat.beq_refl];exact h.1
  have:Nat.beq t d=false:=by
   cases hq:Nat.beq t d with
   | false=>rfl
   | true=>exact absurd (Nat.eq_of_beq_eq_true hq) e
  rw[this];exact Na τ r h.2 t
theorem C3 {n:Nat}{τ:Nat→AV}{H H':List Aj}{D:List Cb}{l:List (Nat×AV)}(h:Fq τ l) (hH:aU H H') :
  Le ⟨n,τ,H,D⟩ ⟨n,mk l,H',D⟩:=⟨rfl,rfl,Na τ l h,hH⟩
end
inductive DL where
 | val (v:AV)
 | panic (v:AV)
section
variable {F F':Nat→Prop}{w w':World}
theorem A6.length:∀{xs:List AV}{vs:List Value},A6 F w xs vs→vs.length=xs.length
 | [],vs,h=>by simp only[A6] at h;simp[h]
 | x::xs,vs,h=>by
  simp only[A6] at h;obtain⟨u,us,rfl,_,h2⟩:=h;simp[A6.length h2]
theorem A6.get:∀{xs:List AV}{vs:List Value}{i:Nat}{x:AV},A6 F w xs vs→xs[i]?=some x→∃v,vs[i]?=some v∧BP F w x v
 | [],vs,i,x,_,hx=>by simp at hx
 | y::xs,vs,i,x,h,hx=>by
  simp only[A6] at h;obtain⟨u,us,rfl,h1,h2⟩:=h;cases i with
  | zero=>simp at hx;subst hx;exact⟨u,by simp,h1⟩
  | succ i=>simp at hx;simpa using A6.get h2 hx
theorem A6.set:∀{xs:List AV}{vs:List Value}{i:Nat}{x:AV}{v:Value},A6 F w xs vs→BP F w x v→A6 F w (xs.set i x) (vs.set i v)
 | [],vs,i,x,v,h,hx=>by simp only[A6] at h;subst h;simp[A6]
 | y::xs,vs,i,x,v,h,hx=>by
  simp only[A6] at h;obtain⟨u,us,rfl,h1,h2⟩:=h;cases i with
  | zero=>simp only[List.set_cons_zero,A6];exact⟨v,us,rfl,hx,h2⟩
  | succ i=>simp only[List.set_cons_succ,A6];exact⟨u,us.set i v,rfl,h1,A6.set h2 hx⟩
theorem A6.append:∀{xs ys:List AV}{vs us:List Value},A6 F w xs vs→A6 F w ys us→A6 F w (xs++ys) (vs++us)
 | [],ys,vs,us,h,h'=>by simp only[A6] at h;subst h;simpa using h'
 | x::xs,ys,vs,us,h,h'=>by
  simp only[A6] at h;obtain⟨u,t,rfl,h1,h2⟩:=h;simp only[List.cons_append,A6];exact⟨u,t++us,O,h1,A6.append h2 h'⟩
theorem A6.drop:∀{xs:List AV}{vs:List Value}(n:Nat),A6 F w xs vs→A6 F w (xs.drop n) (vs.drop n)
 | xs,vs,0,h=>by simpa using h
 | [],vs,n+1,h=>by simp only[A6] at h;subst h;simp[A6]
 | x::xs,vs,n+1,h=>by
  simp only[A6] at h;obtain⟨u,t,rfl,_,h2⟩:=h;simpa using A6.drop n h2
theorem A6.take:∀{xs:List AV}{vs:List Value}(n:Nat),A6 F w xs vs→A6 F w (xs.take n) (vs.take n)
 | xs,vs,0,h=>by simp[A6]
 | [],vs,n+1,h=>by simp only[A6] at h;subst h;simp[A6]
 | x::xs,vs,n+1,h=>by
  simp only[A6] at h;obtain⟨u,t,rfl,h1,h2⟩:=h;simp only[List.take_succ_cons,A6];exact⟨u,t.take n,O,h1,A6.take n h2⟩
theorem A6.mapEval {ρ:Operand→AV}{E:Operand→Value}:∀(l:List Operand),(∀x∈l,BP F w (ρ x) (E x))→A6 F w (l.map ρ) (l.map E)
 | [],_=>by simp[A6]
 | x::l,h=>by
  simp only[List.map_cons,A6];exact⟨E x,l.map E,O,h x Ag,A6.mapEval l fun y hy=>h y (by simp[hy])⟩
end
def CL (P:Program) (o:Oper) (ρ:Operand→AV) (H:List Aj) (R:DL→List Aj→Prop):Prop :=
 ∀r F S a w,D1 F S a w→S.H=H→(∀x∈o.op.operands.toList,ev S.τ x=ρ x)→(∀t,o.dst=some t→t<S.n) →
  o.wpIn (W r) 0 P a w (fun a' w'=>∃v H' F',R (.val v) H'∧D1 F' (S.put o.dst v H') a' w'∧Trans F H w F' H' w')
   (fun e a' w'=>∃v H' F' u,R (.panic v) H'∧e= .panic [{ v:=u,recovered:=false }]∧BP F' w' v u∧D1 F' ⟨S.n,S.τ,H',S.D⟩ a' w'∧Trans F H w F' H' w')
def iB (v:AV) (H:List Aj):DL→List Aj→Prop
 | .val v',H'=>v'=v∧H'=H
 | .panic _,_=>False
abbrev Ce (P:Program) (o:Oper) (ρ:Operand→AV) (H:List Aj) (v:AV) (H':List Aj):Prop:=CL P o ρ H (iB v H')
theorem CL.mono {P:Program}{o:Oper}{ρ:Operand→AV}{H:List Aj}{R R':DL→List Aj→Prop}(h:CL P o ρ H R) (hr:∀r H,R r H→R' r H):CL P o ρ H R':=by
 intro r F S a w hs hH hρ hd;have:=h r F S a w hs hH hρ hd;unfold Oper.wpIn at *;refine⟨this.1,?_⟩;replace this:=this.2;generalize (o.semAt (W r).round a.eval).run P w=rr at *;cases rr with
 | ok n w' =>
  cases n<;>simp only[Oper.uponIn] at this ⊢
  case value v=>obtain⟨v,H',F',h1,h2⟩:=this;exact⟨v,H',F',hr _ _ h1,h2⟩
  case skip=>obtain⟨v,H',F',h1,h2⟩:=this;exact⟨v,H',F',hr _ _ h1,h2⟩
  case defer d=>obtain⟨v,H',F',h1,h2⟩:=this;exact⟨v,H',F',hr _ _ h1,h2⟩
  case enter f args =>
   refine⟨this.1,this.2.mono fun e w'' he=>?_⟩;cases e with
   | returned v=>obtain⟨v,H',F',h1,h2⟩:=he;exact⟨v,H',F',hr _ _ h1,h2⟩
   | panicked c=>obtain⟨v,H',F',u,h1,h2⟩:=he;exact⟨v,H',F',u,hr _ _ h1,h2⟩
   | outgrown=>obtain⟨_,_,v,H',F',u,h1,h2,_⟩:=he;cases h2
  case row row args=>exact⟨this.1,this.2.mono fun v w'' ⟨v,H',F',h1,h2⟩=>⟨v,H',F',hr _ _ h1,h2⟩⟩
  case round l f tmps assign body =>
   refine⟨this.1,this.2.mono fun e w'' he=>?_⟩;cases e with
   | returned v=>obtain⟨v,H',F',h1,h2⟩:=he;exact⟨v,H',F',hr _ _ h1,h2⟩
   | panicked c=>obtain⟨v,H',F',u,h1,h2⟩:=he;exact⟨v,H',F',u,hr _ _ h1,h2⟩
   | outgrown=>obtain⟨_,_,v,H',F',u,h1,h2,_⟩:=he;cases h2
 | halt x w' =>
  cases x<;>simp only[Oper.uponIn] at this ⊢
  case panic v=>obtain⟨v,H',F',u,h1,h2⟩:=this;exact⟨v,H',F',u,hr _ _ h1,h2⟩
def LK:Op→Bool
 | .defer _=>false
 | _=>true
theorem W7 {o:Oper}(h:LK o.op=true) (r:Option Nat) (ρ:Operand→Value):o.semAt (W r).round ρ=execOp ρ o :=
 Oper.semAt_eq _ ρ o fun c hc=>by rw[hc] at h;cases h
theorem Ic {P:Program}{o:Oper}(h:LK o.op=true) {r:Option Nat}{a:Act}{w:World}{K:Act→World→Prop}{Q:Exit→Act→World→Prop}(hu:o.uponIn (W r) 0 P a K Q ((execOp a.eval o).run P w)):o.wpIn (W r) 0 P a w K Q :=
 ⟨fun _ _=>trivial,by rw[W7 h];exact hu⟩
theorem BX {P:Program}{o:Oper}{ρ:Operand→AV}{H:List Aj}{v:AV}
  (h:∀(F:Nat→Prop) (w:World) (E:Operand→Value),HRel F H w→(∀x∈o.op.operands.toList,BP F w (ρ x) (E x)) →
   ∃u,(execOp E o).run P w= .ok (.value u) w∧BP F w v u) (hdf:LK o.op=true:=by rfl):Ce P o ρ H v H:=by
 intro r F S a w hs hH hρ hd;subst hH;refine Ic hdf ?_;have ⟨u,hu,hr⟩:=h F w a.eval hs.heap fun x hx=>by rw[←hρ x hx];exact hs.eval x
 simp only[hu,Oper.uponIn];exact⟨v,S.H,F,⟨O,O⟩,hs.put hd ⟨Nat.le_refl _,fun _ _ _=>O,fun _ h _=>h⟩ hs.heap hr,.refl⟩
theorem FN {P:Program}{o:Oper}{ρ:Operand→AV}{H:List Aj}{R:DL→List Aj→Prop}
  (h:∀(F:Nat→Prop) (w:World) (E:Operand→Value),HRel F H w→(∀x∈o.op.operands.toList,BP F w (ρ x) (E x)) →
   ∃u w' v H' F',(execOp E o).run P w= .ok (.value u) w'∧R (.val v) H'∧Trans F H w F' H' w'∧HRel F' H' w'∧BP F' w' v u) (hdf:LK o.op=true:=by rfl):CL P o ρ H R:=by
 intro r F S a w hs hH hρ hd;subst hH;refine Ic hdf ?_;have ⟨u,w',v,H',F',hu,hR,ht,hH',hr⟩:=h F w a.eval hs.heap fun x hx=>by rw[←hρ x hx];exact hs.eval x
 simp only[hu,Oper.uponIn];exact⟨v,H',F',hR,hs.put hd (ht.stable hs.heap.sub) hH' hr,ht⟩
theorem Hj {P:Program}{o:Oper}{ρ:Operand→AV}{H:List Aj}{R:DL→List Aj→Prop}
  (h:∀(F:Nat→Prop) (w:World) (E:Operand→Value),HRel F H w→(∀x∈o.op.operands.toList,BP F w (ρ x) (E x)) →
   ∃w' H' F',(execOp E o).run P w= .ok .skip w'∧R (.val (.p .any)) H'∧Trans F H w F' H' w'∧HRel F' H' w') (hdf:LK o.op=true:=by rfl):CL P o ρ H R:=by
 intro r F S a w hs hH hρ hd;subst hH;refine Ic hdf ?_;have ⟨w',H',F',hu,hR,ht,hH'⟩:=h F w a.eval hs.heap fun x hx=>by rw[←hρ x hx];exact hs.eval x
 simp only[hu,Oper.uponIn];exact⟨.p .any,H',F',hR,hs.put hd (ht.stable hs.heap.sub) hH' (Kf _),ht⟩
def D9:Option Nat→Nat→Bool
 | some t,n=>Nat.blt t n
 | none,_=>true
def AL (P:Program) (r:Option Nat) (ops:Array Oper) (k:Nat) (S:As) (Q:Bd→As→Prop):Prop :=
 ∀F a w,D1 F S a w→wpOpsIn (W r) 0 P ops (post F S.H w Q) (List.range' k (ops.size - k)) a w
theorem DE {P:Program}{r:Option Nat}{ops:Array Oper}{Q Q':Exit→Act→World→Prop}(hq:∀e a w,Q e a w→Q' e a w):∀(l:List Nat) (a:Act) (w:World),wpOpsIn (W r) 0 P ops Q l a w→wpOpsIn (W r) 0 P ops Q' l a w
 | [],a,w,h=>hq _ _ _ h
 | i::l,a,w,h=>by
  rw[wpOpsIn_cons] at h ⊢;unfold wpOpIn at h ⊢;split
  ·rename_i ho;simp only[ho] at h;exact DE hq l a w h
  rename_i o ho;simp only[ho] at h;split
  ·rename_i hw;simp only[hw,if_true] at h;unfold Oper.wpIn at *;refine⟨h.1,?_⟩;replace h:=h.2;generalize (o.semAt (W r).round a.eval).run P w=rr at *;cases rr with
   | ok n w' =>
    cases n<;>simp only[Oper.uponIn] at h ⊢
    case value v=>exact DE hq l _ _ h
    case skip=>exact DE hq l _ _ h
    case defer d=>exact DE hq l _ _ h
    case enter f args =>
     refine⟨h.1,h.2.mono fun e w'' he=>?_⟩;cases e with
     | returned v=>exact DE hq l _ _ he
     | panicked c=>exact hq _ _ _ he
     | outgrown=>obtain⟨a₀,w₀,h2⟩:=he;exact⟨a₀,w₀,hq _ _ _ h2⟩
    case row row args=>exact⟨h.1,h.2.mono fun v w'' h=>DE hq l _ _ h⟩
    case round l' f tmps assign body =>
     refine⟨h.1,h.2.mono fun e w'' he=>?_⟩;cases e with
     | returned v=>exact DE hq l _ _ he
     | panicked c=>exact hq _ _ _ he
     | outgrown=>obtain⟨a₀,w₀,h2⟩:=he;exact⟨a₀,w₀,hq _ _ _ h2⟩
   | halt x w' =>
    cases x<;>simp only[Oper.uponIn] at h ⊢
    case panic v=>exact hq _ _ _ h
  rename_i hw;simp only[hw] at h;exact⟨h.1,DE hq l _ _ h.2⟩
theorem _root_.Go.AZ {α:Prop}(h:α:=by simp[DI]):α:=h
section
variable {P:Program}{r:Option Nat}{ops:Array Oper}{S:As}{Q:Bd→As→Prop}{k:Nat}
theorem A1 {id:Nat}(h:AL P r ops 0 S Q):GF P r (.region id ops false) S Q:=by
 intro F a w hs;refine wpIn_region ?_;have:=h F a w hs
 rwa [Nat.sub_zero,←List.range_eq_range'] at this
theorem A4 {id:Nat}{c₂:Code}(h:AL P r ops 0 S (HU (fun S'=>GF P r c₂ S' Q) Q)):GF P r (.seq (.region id ops false) c₂) S Q:=Ax (A1 h)
theorem Ba (hk:ops.size - k=0) (h:Q .normal S):AL P r ops k S Q:=by
 intro F a w hs;rw[hk];exact⟨.normal,S,F,h,O,hs,.refl⟩
def eN (x:AV) (want:Bool):Prop:=(∃b,x= .p (.bool b)∧(b==want)=false)∨x= .tup []
def DI (ops:Array Oper) (S:As) (o:Oper):Prop :=
 match o.guard with
 | none=>True
 | some (j,want)=>∃d,(ops[j]?).bind (·.dst)=some d∧S.τ d= .p (.bool want)
theorem Qk {F:Nat→Prop}{a:Act}{w:World}{o:Oper}(hs:D1 F S a w) (h:DI ops S o):Region.wanted o (yielded ops a.tmps)=true:=by
 unfold DI at h;unfold Region.wanted;cases hg:o.guard with
 | none=>rfl
 | some jw =>
  obtain⟨j,want⟩:=jw;simp only[hg] at h;have ⟨d,hd,hv⟩:=h;have:=hs.tmp d;rw[hv] at this;simp only[BP,BN] at this;have hlt:d<a.tmps.size:=by
   rcases Nat.lt_or_ge d a.tmps.size with h | h
   ·exact h
   simp[Array.getElem?_eq_none h,undef] at this
  have h2:a.tmps[d]?=some (.bool want):=by
   simp[Array.getElem?_eq_getElem hlt] at this ⊢;exact this
  simp[yielded,hd,h2]
theorem IJ {n k:Nat}(h:k<n):List.range' k (n - k)=k::List.range' (k+1) (n - (k+1)):=by
 have:n - k=(n - (k+1))+1:=by omega
 rw[this];rfl
theorem EC {o:Oper}(ho:ops[k]?=some o) (hg:DI ops S o) (hd:∀t,o.dst=some t→t<S.n) {R:DL→List Aj→Prop}(h:CL P o (ev S.τ) S.H R)
  (next:∀v H',R (.val v) H'→AL P r ops (k+1) (S.put o.dst v H') Q) (pan:∀v H',R (.panic v) H'→Q (.panic v) ⟨S.n,S.τ,H',S.D⟩):AL P r ops k S Q:=by
 intro F a w hs;have hk:k<ops.size:=by
  grind
 rw[IJ hk,wpOpsIn_cons];unfold wpOpIn;simp only[ho,Qk hs hg,if_true];have hw:=h r F S a w hs rfl (fun _ _=>rfl) hd;unfold Oper.wpIn at *;refine⟨hw.1,?_⟩;replace hw:=hw.2;generalize (o.semAt (W r).round a.eval).run P w=rr at *;have fin:∀{a' w'},(∃v H' F',R (.val v) H'∧D1 F' (S.put o.dst v H') a' w'∧Trans F S.H w F' H' w') →
   wpOpsIn (W r) 0 P ops (post F S.H w Q) (List.range' (k+1) (ops.size - (k+1))) a' w':=by
  rintro a' w' ⟨v,H',F',hR,hs',ht⟩;exact DE (fun e a w=>EV hs.heap.bd ht) _ _ _ (next v H' hR F' a' w' hs')
 have panics:∀{e a' w'},(∃v H' F' u,R (.panic v) H'∧e= .panic [{ v:=u,recovered:=false }]∧BP F' w' v u∧D1 F' ⟨S.n,S.τ,H',S.D⟩ a' w'∧Trans F S.H w F' H' w') →
   post F S.H w Q e a' w':=by
  rintro e a' w' ⟨v,H',F',u,hR,rfl,hr,hs',ht⟩;exact⟨.panic v,_,F',pan v H' hR,⟨u,O,hr⟩,hs',ht⟩
 cases rr with
 | ok n w' =>
  cases n<;>simp only[Oper.uponIn] at hw ⊢
  case value v=>exact fin hw
  case skip=>exact fin hw
  case defer d=>exact fin hw
  case enter f args =>
   refine⟨hw.1,hw.2.mono fun e w'' he=>?_⟩;cases e with
   | returned v=>exact fin he
   | panicked c=>exact panics he
   | outgrown=>obtain⟨_,_,v,H',F',u,h1,h2,_⟩:=he;cases h2
  case row row args=>exact⟨hw.1,hw.2.mono fun v w'' h=>fin h⟩
  case round l f tmps assign body =>
   refine⟨hw.1,hw.2.mono fun e w'' he=>?_⟩;cases e with
   | returned v=>exact fin he
   | panicked c=>exact panics he
   | outgrown=>obtain⟨_,_,v,H',F',u,h1,h2,_⟩:=he;cases h2
 | halt x w' =>
  cases x<;>simp only[Oper.uponIn] at hw ⊢
  case panic v=>exact panics hw
variable {n:Nat}{τ:Nat→AV}{H H':List Aj}{D:List Cb}{dst:Option Tmp}{op:Op}{ty:TypeId}{pos:String}{aft:Array Edge}{g:Option (Nat×Bool)}{v:AV}
theorem FK (hd:D9 dst n=true):∀t,dst=some t→t<n:=by grind [D9,Nat.blt_eq]
theorem Im (ho:ops[k]?=some ⟨dst,op,ty,pos,aft,none⟩) (hd:D9 dst n=true) (h:Ce P ⟨dst,op,ty,pos,aft,none⟩ (ev τ) H v H')
  (next:AL P r ops (k+1) ⟨n,put τ dst v,H',D⟩ Q):AL P r ops k ⟨n,τ,H,D⟩ Q :=
 EC (S:=⟨n,τ,H,D⟩) ho AZ (FK hd) h (fun v' H'' ⟨h1,h2⟩=>by subst h1;subst h2;exact next) (fun _ _ h=>h.elim)
theorem N9 {j d:Nat}{want:Bool}(ho:ops[k]?=some ⟨dst,op,ty,pos,aft,some (j,want)⟩) (hj:(ops[j]?).bind (·.dst)=some d) (hb:τ d= .p (.bool want))
  (hd:D9 dst n=true) (h:Ce P ⟨dst,op,ty,pos,aft,some (j,want)⟩ (ev τ) H v H')
  (next:AL P r ops (k+1) ⟨n,put τ dst v,H',D⟩ Q):AL P r ops k ⟨n,τ,H,D⟩ Q :=
 EC (S:=⟨n,τ,H,D⟩) ho (by simp only[DI];exact⟨d,hj,hb⟩) (FK hd) h (fun v' H'' ⟨h1,h2⟩=>by subst h1;subst h2;exact next) (fun _ _ h=>h.elim)
theorem Au (ho:(ops[k]?,D9 dst n)=(some ⟨dst,op,ty,pos,aft,none⟩,true)) (h:Ce P ⟨dst,op,ty,pos,aft,none⟩ (ev τ) H v H')
  (next:AL P r ops (k+1) ⟨n,put τ dst v,H',D⟩ Q):AL P r ops k ⟨n,τ,H,D⟩ Q:=by grind [Im]
theorem A8 {j d:Nat}{want:Bool}(ho:(ops[k]?,(ops[j]?).bind (·.dst),τ d,D9 dst n)=(some ⟨dst,op,ty,pos,aft,some (j,want)⟩,some d,.p (.bool want),true)) (h:Ce P ⟨dst,op,ty,pos,aft,some (j,want)⟩ (ev τ) H v H')
  (next:AL P r ops (k+1) ⟨n,put τ dst v,H',D⟩ Q):AL P r ops k ⟨n,τ,H,D⟩ Q:=by grind [N9]
theorem SY {F:Nat→Prop}{S:As}{a:Act}{w:World}{o:Oper}{j d:Nat}{want:Bool}(hs:D1 F S a w) (hg:o.guard=some (j,want)) (hj:(ops[j]?).bind (·.dst)=some d) (hu:eN (S.τ d) want):Region.wanted o (yielded ops a.tmps)=false:=by
 have hv:=hs.tmp d;have h2:∀v,a.tmps.getD d undef=v→v≠ .bool want→∀x,a.tmps[d]?=some x→x≠ .bool want:=by
  intro v hv hne x hx;have:a.tmps.getD d undef=x:=by simp[hx]
  grind
 have key:∀x,a.tmps[d]?=some x→x≠ .bool want:=by
  rcases hu with ⟨b,hb,hne⟩ | hb
  ·grind [BP,BN]
  grind [BP,A6]
 simp only[Region.wanted,hg,yielded,hj,Option.bind_some]
 grind
theorem Sn {j d:Nat}{want:Bool}(ho:ops[k]?=some ⟨dst,op,ty,pos,aft,some (j,want)⟩) (hj:(ops[j]?).bind (·.dst)=some d) (hu:eN (τ d) want)
  (hd:D9 dst n=true) (next:AL P r ops (k+1) ⟨n,put τ dst (.tup []),H,D⟩ Q):AL P r ops k ⟨n,τ,H,D⟩ Q:=by
 intro F a w hs;have hk:k<ops.size:=by
  grind
 have hw:Region.wanted ⟨dst,op,ty,pos,aft,some (j,want)⟩ (yielded ops a.tmps)=false:=SY hs rfl hj hu;rw[IJ hk,wpOpsIn_cons];unfold wpOpIn;simp only[ho,hw,Bool.false_eq_true,if_false];exact⟨fun _ _=>Ah,next F _ w (hs.put (FK hd) ⟨Nat.le_refl _,fun _ _ _=>O,fun _ h _=>h⟩ hs.heap (by simp only[BP,A6,undef];exact⟨[],rfl,rfl⟩))⟩
theorem Q1 {j d:Nat}{want b:Bool}(ho:ops[k]?=some ⟨dst,op,ty,pos,aft,some (j,want)⟩) (hj:(ops[j]?).bind (·.dst)=some d) (hb:τ d= .p (.bool b)) (hne:(b==want)=false)
  (hd:D9 dst n=true) (next:AL P r ops (k+1) ⟨n,put τ dst (.tup []),H,D⟩ Q):AL P r ops k ⟨n,τ,H,D⟩ Q:=Sn ho hj (.inl ⟨b,hb,hne⟩) hd next
theorem BK {j d:Nat}{want b:Bool}(ho:(ops[k]?,(ops[j]?).bind (·.dst),τ d,b==want,D9 dst n)=(some ⟨dst,op,ty,pos,aft,some (j,want)⟩,some d,.p (.bool b),false,true))
  (next:AL P r ops (k+1) ⟨n,put τ dst (.tup []),H,D⟩ Q):AL P r ops k ⟨n,τ,H,D⟩ Q:=by grind [Q1]
theorem JO {j d:Nat}{want:Bool}(ho:ops[k]?=some ⟨dst,op,ty,pos,aft,some (j,want)⟩) (hj:(ops[j]?).bind (·.dst)=some d) (hb:τ d= .tup [])
  (hd:D9 dst n=true) (next:AL P r ops (k+1) ⟨n,put τ dst (.tup []),H,D⟩ Q):AL P r ops k ⟨n,τ,H,D⟩ Q:=Sn ho hj (.inr hb) hd next
theorem Br (d:Nat) {b:Bool}(hb:τ d= .p (.bool b)) (ht:b=true→AL P r ops k ⟨n,put τ (some d) (.p (.bool true)),H,D⟩ Q) (hf:b=false→AL P r ops k ⟨n,put τ (some d) (.p (.bool false)),H,D⟩ Q):AL P r ops k ⟨n,τ,H,D⟩ Q:=by
 have e:∀b',b=b'→put τ (some d) (.p (.bool b'))=τ:=by
  grind [put,Nat.beq_refl,Nat.eq_of_beq_eq_true]
 cases b with
 | true=>have:=ht rfl;rwa [e true rfl] at this
 | false=>have:=hf rfl;rwa [e false rfl] at this
end
def Bt (P:Program) (f:FuncId):Bool :=
 match P.funcs[f]? with
 | some fn=> !(fn.name== "runtime.NumGoroutine")&&fn.body.isSome
 | none=>false
theorem Gb {P:Program}{f:FuncId}(h:Bt P f=true) (args:Array Value) (w:World):(callFunc f args).run P w= .ok (.enter f args) w:=by
 unfold Bt at h;cases hf:P.funcs[f]? with
 | none=>simp[hf] at h
 | some fn =>
  simp only[hf,Bool.and_eq_true,Bool.not_eq_true'] at h;have ⟨h1,h2⟩:=h;have h3:fn.body.isNone=false:=by cases hb:fn.body<;>simp_all
  have hp:(program).run P w= .ok P w:=rfl;simp only[callFunc,Sem.run_bind,hp,Result.andThen_ok,hf,h1,h3,Bool.false_eq_true,if_false];rfl
theorem gq {P:Program}(r:Option Nat) {f:FuncId}{args:Array Value}{w:World}{R:Ending→World→Prop}(h:Calls P f args w R):CallsIn (W r) 0 P f args w R :=
 (callsIn_wide (n:=0)).2 h
def RA (F:Nat→Prop) (w:World):DL→Ending→Prop
 | .val v,e=>∃u,e= .returned u∧BP F w v u
 | .panic v,e=>∃u,e= .panicked [{ v:=u,recovered:=false }]∧BP F w v u
def BO (P:Program) (f:FuncId) (args:List AV) (H:List Aj) (R:DL→List Aj→Prop):Prop :=
 Bt P f=true∧∀F w vs,HRel F H w→A6 F w args vs →
  Calls P f ⟨vs⟩ w fun e w'=>∃r H' F',R r H'∧RA F' w' r e∧HRel F' H' w'∧Trans F H w F' H' w'
theorem BO.mono {P:Program}{f:FuncId}{args:List AV}{H:List Aj}{R R':DL→List Aj→Prop}(h:BO P f args H R) (hr:∀r H,R r H→R' r H):BO P f args H R' :=
 ⟨h.1,fun F w vs hH ha=>(h.2 F w vs hH ha).mono fun e w' ⟨r,H',F',h1,h2⟩=>⟨r,H',F',hr _ _ h1,h2⟩⟩
def dn:AV→AV
 | .p .nils=> .p (.lst [])
 | x=>x
def norm:AV→AV
 | .p .nils=> .p (.lst [])
 | .agg cs=> .agg (cs.map dn)
 | x=>x
section
variable {F F':Nat→Prop}{w w':World}
theorem TB {x:AV}{v:Value}(h:BP F w x v):BP F w (dn x) v:=by
 unfold dn
 grind [BP,BN]
theorem IG:∀{xs:List AV}{vs:List Value},A6 F w xs vs→A6 F w (xs.map dn) vs
 | [],vs,h=>by simpa [A6] using h
 | x::xs,vs,h=>by
  simp only[A6,List.map_cons] at *;obtain⟨u,us,rfl,h1,h2⟩:=h;exact⟨u,us,O,TB h1,IG h2⟩
theorem BP.norm {x:AV}{v:Value}(h:BP F w x v):BP F w (norm x) v:=by
 cases x with
 | agg cs =>
  simp only[Abs.norm,BP] at *
  grind [IG]
 | p y=>cases y<;>first | exact h | exact TB h
 | _=>exact h
theorem A6.norm:∀{xs:List AV}{vs:List Value},A6 F w xs vs→A6 F w (xs.map Abs.norm) vs
 | [],vs,h=>by simpa [A6] using h
 | x::xs,vs,h=>by
  simp only[A6,List.map_cons] at *;obtain⟨u,us,rfl,h1,h2⟩:=h;exact⟨u,us,O,h1.norm,A6.norm h2⟩
theorem HRel.perm {H H':List Aj}(h:HRel F H w) (hp:H.Perm H'):HRel F H' w where
 sub o ho:=h.sub o (hp.mem_iff.2 ho)
 nodup:=(hp.filterMap Aj.key).nodup_iff.1 h.nodup
 obj o ho:=h.obj o (hp.mem_iff.2 ho)
 bd:=h.bd
theorem HRel.frame {Hs Hf Hs':List Aj}(h:HRel F (Hs++Hf) w) (h':HRel F' Hs' w') (t:Trans F Hs w F' Hs' w'):HRel F' (Hs'++Hf) w' where
 sub o ho b hb:=by
  rcases List.mem_append.1 ho with ho | ho
  ·exact h'.sub o ho b hb
  refine t.keep b (h.sub o (by simp[ho]) b hb) ?_;intro o' ho' hb';have:=h.nodup
  grind
 nodup:=by
  rw[List.filterMap_append,List.nodup_append];have hn:=h.nodup;rw[List.filterMap_append,List.nodup_append] at hn;refine⟨h'.nodup,hn.2.1,?_⟩;rintro b hb _ hb' rfl;have ⟨o,ho,hk⟩:=List.mem_filterMap.1 hb;have ⟨o',ho',hk'⟩:=List.mem_filterMap.1 hb';rcases t.keys o ho b hk with ⟨o'',ho'',hk''⟩ | hge
  ·grind
  have:=h.bd b (h.sub o' (by simp[ho']) b hk');omega
 obj o ho:=by
  rcases List.mem_append.1 ho with ho | ho
  ·exact h'.obj o ho
  have hs:∀o∈Hs,∀b,o.key=some b→F b:=fun o ho=>h.sub o (by simp[ho]);refine Gc.mono (t.stable hs) o ?_ (h.obj o (by simp[ho]));intro b hb;refine t.same b (h.bd b (h.sub o (by simp[ho]) b hb)) ?_;intro o' ho' hb';have:=h.nodup
  grind
 bd:=h'.bd
theorem Trans.frame {H Hs Hf Hs':List Aj}(hp:H.Perm (Hs++Hf)) (t:Trans F Hs w F' Hs' w'):Trans F H w F' (Hs'++Hf) w' where
 size:=t.size
 same b hb hn:=t.same b hb fun o ho=>hn o (hp.mem_iff.2 (by simp[ho]))
 keep b hF hn:=t.keep b hF fun o ho=>hn o (hp.mem_iff.2 (by simp[ho]))
 fresh:=t.fresh
 keys o ho b hb:=by
  rcases List.mem_append.1 ho with ho | ho
  ·rcases t.keys o ho b hb with ⟨o',ho',hk⟩ | h
   ·grind
   exact .inr h
  grind
 os:=t.os
 out:=t.out
 tape:=t.tape
end
theorem FQ {P:Program}{dst:Option Tmp}{c:Call}{ty:TypeId}{pos:String}{aft:Array Edge}{g:Option (Nat×Bool)}{f:Operand}{fid:FuncId}{first caps:List AV}
  {ρ:Operand→AV} {H Hs Hf:List Aj} {A:List AV} {R:DL→List Aj→Prop}
  (hc:c.callee= .value f) (hf:(ρ f= .p (.fn fid)∧first=[]∧caps=[])∨ρ f= .fn (.func fid) first caps)
  (hp:H.Perm (Hs++Hf)) (h:BO P fid A Hs R) (hA:first++c.args.toList.map ρ++caps=A∨(first++c.args.toList.map ρ++caps).map norm=A) :
  CL P ⟨dst,.call c,ty,pos,aft,g⟩ ρ H (fun r H'=>∃Hs',R r Hs'∧H'=Hs'++Hf):=by
 intro r F S a w hs hH hρ hd;subst hH;refine Ic O ?_;have hev:∀x∈(f::c.args.toList),BP F w (ρ x) (a.eval x):=by
  intro x hx;rw[←hρ x (by simp[Op.operands,Call.operands,hc];simpa using hx)];exact hs.eval x
 have hfv:∃fs cs,a.eval f= .func (.func fid) ⟨fs⟩ ⟨cs⟩∧A6 F w first fs∧A6 F w caps cs:=by
  grind [BP,BN,A6]
 have ⟨fs,cs,hfv,hfs,hcs⟩:=hfv;have hargs:A6 F w (c.args.toList.map ρ) (c.args.toList.map a.eval):=A6.mapEval _ fun x hx=>hev x (by simp[hx]);have hrun:(execOp a.eval ⟨dst,.call c,ty,pos,aft,g⟩).run P w= .ok (.enter fid ⟨fs++c.args.toList.map a.eval++cs⟩) w:=by
  have e:(⟨fs⟩++c.args.map a.eval++⟨cs⟩:Array Value)=⟨fs++c.args.toList.map a.eval++cs⟩:=by
   apply Array.ext';simp
  simp[execOp,resolve,hc,Deferred.ofValue,hfv,invoke,Gb h.1,e]
 simp only[hrun,Oper.uponIn];have hH':=hs.heap.perm hp;have hHs:HRel F Hs w:=hH'.sublist (List.sublist_append_left _ _);have hrep:A6 F w A (fs++c.args.toList.map a.eval++cs):=by
  rcases hA with rfl | rfl
  ·exact(hfs.append hargs).append hcs
  exact((hfs.append hargs).append hcs).norm
 refine⟨fun h=>(by cases h),CallsIn.mono (gq r (h.2 F w _ hHs hrep)) ?_⟩;rintro e w' ⟨r,H',F',hR,he,hH2,ht⟩;have htf:=ht.frame (H:=S.H) hp;cases r with
 | val v =>
  obtain⟨u,rfl,hu⟩:=he;exact⟨v,H'++Hf,F',⟨H',hR,O⟩,hs.put hd (htf.stable hs.heap.sub) (hH'.frame hH2 ht) hu,htf⟩
 | panic v =>
  obtain⟨u,rfl,hu⟩:=he;have:=hs.put (d:=none) (fun _ h=>by cases h) (htf.stable hs.heap.sub) (hH'.frame hH2 ht) (Kf undef);exact⟨v,H'++Hf,F',u,⟨H',hR,O⟩,O,hu,this,htf⟩
def Kk (args:List AV):Nat→AV:=fun t=>args.getD t (.p .any)
def ao (P:Program) (S:As):ResultVar→AV→Prop
 | .tmp t,v=>S.τ t=v
 | .cell a T,v=>∃(b:Nat) (cs:List AV) (i:Nat),S.τ a= .ptr b 0∧S.H[i]?=some (Aj.box b cs) ∧
   ((∃d,P.underlying T=some d∧d.isRow=true∧(P.info? T).map (·.size)=some cs.length∧v= .agg cs) ∨
    (∃d,P.underlying T=some d∧d.isRow=false∧cs=[v]))
def M1 (P:Program) (S:As):List ResultVar→List AV→Prop
 | [],vs=>vs=[]
 | r::rs,vs=>∃u us,vs=u::us∧ao P S r u∧M1 P S rs us
abbrev pack:List AV→AV
 | [v]=>v
 | vs=> .tup vs
def Y6 (P:Program) (fn:Func) (R:DL→List Aj→Prop):Bd→As→Prop
 | .normal,S | .ret,S=>S.D=[]∧∃vs H',M1 P S fn.results.toList vs∧H'.Sublist S.H∧R (.val (pack vs)) H'
 | .panic v,S=>S.D=[]∧∃H',H'.Sublist S.H∧R (.panic v) H'
 | .exit _,_=>False
theorem _root_.Go.Af {α:Prop}(h:α:=by omega):α:=h
section
variable {F F':Nat→Prop}{w w':World}{P:Program}
theorem HH {b:Nat}{vs:List Value}{T:TypeId}(h:w.heap[b]?=some (.cells ⟨vs⟩ T (0,0))) (o n:Nat):w.rangeAt b o ((vs.drop o).take n):=by
 intro j v hv;have hj:j<n:=by
  grind
 rw[List.getElem?_take_of_lt hj,List.getElem?_drop] at hv;simp[World.cell?,h,hv]
theorem Lt {T:TypeId}{d:TypeDesc}(hu:P.underlying T=some d) (b:Bool) (hd:d.isRow=b) (w:World):(isAgg T).run P w= .ok b w:=by
 unfold isAgg;rw[Sem.run_bind,run_underlying hu w];cases d<;>simp_all [TypeDesc.isRow]
theorem Ev {T:TypeId}{d:TypeDesc}(hu:P.underlying T=some d) (hd:d.isRow=false) {b o:Nat}{v:Value}(hc:w.cell? ⟨b,o,none⟩=some v) :
  (loadVar T ⟨b,o,none⟩).run P w= .ok v w:=by
 simp[loadVar,Sem.run_bind,Lt hu false hd,load,Sem.run,hc]
theorem Ey {T:TypeId}{d:TypeDesc}(hu:P.underlying T=some d) (hd:d.isRow=true) {b o:Nat}{cs:List Value}(hc:w.rangeAt b o cs) (hi:(P.info? T).map (·.size)=some cs.length) :
  (loadVar T ⟨b,o,none⟩).run P w= .ok (.agg ⟨cs⟩) w:=run_loadVar_mid w b o T cs d hc hu hd hi
def N4 (tmps:Array Value) (r:ResultVar):Sem Value :=
 match r with
 | .tmp t=>pure (tmps.getD t undef)
 | .cell x t=>do loadVar t (←asAddr (tmps.getD x undef))
theorem Ua (fn:Func) (tmps:Array Value):results fn tmps=(do
  let vs ←fn.results.mapM (N4 tmps)
  pure (if h:vs.size=1 then vs[0] else .tuple vs)):=by
 unfold results;congr 1
theorem M1.run {S:As}{a:Act}(hs:D1 F S a w):∀(rs:List ResultVar) (vs:List AV),M1 P S rs vs →
  ∃us:List Value,(rs.mapM (N4 a.tmps)).run P w= .ok us w∧A6 F w vs us
 | [],vs,h=>by
  simp only[M1] at h;subst h;exact⟨[],O,by simp[A6]⟩
 | r::rs,vs,h=>by
  simp only[M1] at h;obtain⟨u,us,rfl,h1,h2⟩:=h;have ⟨ws,hr,hw⟩:=M1.run hs rs us h2;have one:∃v:Value,(N4 a.tmps r).run P w= .ok v w∧BP F w u v:=by
   cases r with
   | tmp t =>
    simp only[ao] at h1;subst h1;exact⟨_,O,hs.tmp t⟩
   | cell x t =>
    have ⟨b,cs,i,hp,hi,hh⟩:=h1;have hx:=hs.tmp x;rw[hp] at hx;simp only[BP] at hx;have ⟨vs,T,hb,hl⟩:=hs.heap.obj _ (List.mem_of_getElem? hi);rcases hh with ⟨d,hu,hd,hsz,rfl⟩ | ⟨d,hu,hd,rfl⟩
    ·refine⟨.agg ⟨vs⟩,?_,by simp only[BP];exact⟨vs,rfl,hl⟩⟩;have hr:=HH hb 0 vs.length;simp only[List.drop_zero,List.take_length] at hr;simp only[N4,hx,asAddr,Sem.run_bind,Sem.run_pure,Result.andThen_ok];exact Ey hu hd hr (by rw[hsz,hl.length])
    simp only[A6] at hl;obtain⟨v,us',rfl,hv,rfl⟩:=hl;refine⟨v,?_,hv⟩;simp only[N4,hx,asAddr,Sem.run_bind,Sem.run_pure,Result.andThen_ok];exact Ev hu hd (by simp[World.cell?,hb])
  obtain⟨v,hv,hrv⟩:=one;refine⟨v::ws,?_,by simp only[A6];exact⟨v,ws,rfl,hrv,hw⟩⟩;rw[List.mapM_cons];simp only[Sem.run_bind,hv,Result.andThen_ok,hr,Sem.run_pure]
theorem JB {fn:Func}{S:As}{a:Act}(hs:D1 F S a w) {vs:List AV}(h:M1 P S fn.results.toList vs) :
  ∃u,(results fn a.tmps).run P w= .ok u w∧BP F w (pack vs) u:=by
 have ⟨us,hr,hl⟩:=M1.run hs _ _ h;refine⟨if us.length=1 then us.getD 0 undef else .tuple ⟨us⟩,?_,?_⟩
 ·rw[Ua,Array.mapM_eq_mapM_toList];simp only[Sem.run_bind,map_eq_pure_bind,bind_assoc,pure_bind];rw[hr];simp only[Result.andThen_ok,Sem.run_pure];congr 1
  grind
 match vs,us,hl with
 | [],[],_=>simp[BP,A6,pack]
 | [v],us,hl =>
  simp only[A6] at hl
  grind
 | v::v'::vs,us,hl =>
  have hlen:=hl.length;simp only[List.length_cons] at hlen;rw[if_neg Af];simp only[BP,pack]
  grind
theorem Lu:∀{args:List AV}{vs:List Value}(n t:Nat),A6 F w args vs→BP F w (Kk args t) ((⟨vs⟩++Array.replicate n undef:Array Value).getD t undef):=by
 intro args vs n t h;unfold Kk;rcases Nat.lt_or_ge t args.length with hl | hl
 ·have hx:args[t]?=some args[t]:=List.getElem?_eq_getElem hl;have ⟨v,hv,hr⟩:=h.get hx;have hvl:t<vs.length:=by rw[h.length];exact hl
  have:(⟨vs⟩++Array.replicate n undef:Array Value)[t]?=some v:=by
   grind [Array.getElem?_append_left]
  simp[List.getD,hx,Array.getD_eq_getD_getElem?,this,hr]
 simp only[List.getD,List.getElem?_eq_none hl,Option.getD_none];exact Kf _
theorem Bv {f:FuncId}{fn:Func}{c:Code}{args:List AV}{H:List Aj}{R:DL→List Aj→Prop}
  {n:Nat} (hf:P.funcs[f]?=some fn) (hb:fn.body=some c) (he:Bt P f=true) (hn':fn.ntmps=n) (hn:Nat.ble args.length n=true)
  (h:GF P none c ⟨n,Kk args,H,[]⟩ (Y6 P fn R)):BO P f args H R:=by
 subst hn';rw[Nat.ble_eq] at hn;refine⟨he,fun F w vs hH hr=>?_⟩;refine calls_of_wp hf hb ?_;have hsz:(⟨vs⟩:Array Value).size=args.length:=by simpa using hr.length
 have hs:D1 F ⟨fn.ntmps,Kk args,H,[]⟩ { tmps:=⟨vs⟩++Array.replicate (fn.ntmps - (⟨vs⟩:Array Value).size) undef,defers:=[] } w :=
  ⟨by simp only[Array.size_append,Array.size_replicate,hsz];omega,fun t=>Lu _ _ hr,hH,by simp[EG]⟩
 refine wp_mono (wpIn_wide.1 (h F _ w hs)) ?_;rintro e a' w' ⟨e',S',F',hq,hex,hs',ht⟩;cases e' with
 | normal =>
  obtain rfl:e= .normal:=hex;have ⟨hD,vs',H',hres,hsub,hR⟩:=hq;have ⟨u,hu,hru⟩:=JB hs' hres;have hd:=hs'.defs;rw[hD] at hd;exact⟨by simpa [EG] using hd,u,hu,_,H',F',hR,⟨u,rfl,hru⟩,hs'.heap.sublist hsub,ht.sublist hsub⟩
 | ret =>
  obtain rfl:e= .ret:=hex;have ⟨hD,vs',H',hres,hsub,hR⟩:=hq;have ⟨u,hu,hru⟩:=JB hs' hres;have hd:=hs'.defs;rw[hD] at hd;exact⟨by simpa [EG] using hd,u,hu,_,H',F',hR,⟨u,rfl,hru⟩,hs'.heap.sublist hsub,ht.sublist hsub⟩
 | exit id=>exact hq.elim
 | panic v =>
  obtain⟨u,rfl,hru⟩:=hex;have ⟨hD,H',hsub,hR⟩:=hq;have hd:=hs'.defs;rw[hD] at hd;exact⟨by simpa [EG] using hd,_,H',F',hR,⟨u,rfl,hru⟩,hs'.heap.sublist hsub,ht.sublist hsub⟩
end
def DO (P:Program) (T:TypeId):Option (Bool×Nat) :=
 match P.underlying T,P.info? T with
 | some d,some i=>some (d.isRow,i.size)
 | _,_=>none
def D0 (P:Program) (T:TypeId):Option (TypeId×Nat×Nat) :=
 match P.underlying T with
 | some (.slice e)=>(P.info? e).map fun i=>(e,i.size,i.bytes)
 | _=>none
def fieldsOf (P:Program) (T:TypeId):Option (List (Nat×Nat)) :=
 match P.underlying T with
 | some (.struct fs)=>fs.toList.mapM fun f=>(P.info? f.type).map fun i=>(f.offset,i.size)
 | _=>none
def zeroOf (P:Program) (T:TypeId):Option Value:=(P.info? T).bind (·.zero)
section
variable {P:Program}{T e:TypeId}{b:Bool}{n m:Nat}
theorem Df (h:DO P T=some (b,n)):∃d,P.underlying T=some d∧d.isRow=b∧(P.info? T).map (·.size)=some n:=by grind [DO]
theorem Dw (h:D0 P T=some (e,n,m)):P.underlying T=some (.slice e)∧∃i,P.info? e=some i∧i.size=n∧i.bytes=m:=by
 unfold D0 at h;cases hu:P.underlying T with
 | none=>simp[hu] at h
 | some d =>
  cases d with
  | slice e' =>
   simp[hu] at h
   grind
  | _=>simp[hu] at h
theorem VA {α β:Type}{f:α→Option β}:∀{l:List α}{r:List β}{i:Nat}{y:β},l.mapM f=some r→r[i]?=some y→∃x,l[i]?=some x∧f x=some y
 | [],r,i,y,h,hy=>by simp at h;subst h;simp at hy
 | x::l,r,i,y,h,hy=>by
  rw[List.mapM_cons] at h;cases hx:f x with
  | none=>simp[hx] at h
  | some z =>
   cases hl:l.mapM f with
   | none=>simp[hx,hl] at h
   | some r' =>
    simp[hx,hl] at h;subst h;cases i with
    | zero=>simp at hy;subst hy;exact⟨x,by simp,hx⟩
    | succ i=>simp at hy;simpa using VA hl hy
theorem J1 {lay:List (Nat×Nat)}{i:Nat}(h:fieldsOf P T=some lay) (hi:lay[i]?=some (n,m)):∃fs f j,P.underlying T=some (.struct fs)∧fs[i]?=some f∧f.offset=n∧P.info? f.type=some j∧j.size=m:=by
 unfold fieldsOf at h;cases hu:P.underlying T with
 | none=>simp[hu] at h
 | some d =>
  cases d with
  | struct fs =>
   simp only[hu] at h;have ⟨f,hf,hx⟩:=VA h hi;cases hj:P.info? f.type with
   | none=>simp[hj] at hx
   | some j =>
    grind
  | _=>simp[hu] at h
end
theorem _root_.Go.AR {α:Prop}(h:α:=by simp[Op.operands,Call.operands]):α:=h
theorem _root_.Go.AW {α:Prop}(h:α:=by simp[Op.operands]):α:=h
section
variable {P:Program}{dst:Option Tmp}{ty:TypeId}{pos:String}{aft:Array Edge}{g:Option (Nat×Bool)}{ρ:Operand→AV}{H:List Aj}{x y z:Operand}{v:AV}
theorem Be (hx:ρ x=v):Ce P ⟨dst,.move x,ty,pos,aft,g⟩ ρ H v H :=
 BX fun F w E hH hE=>⟨E x,rfl,by rw[←hx];exact hE x AW⟩
theorem Nj (hx:ρ x=v):Ce P ⟨dst,.assign x,ty,pos,aft,g⟩ ρ H v H :=
 BX fun F w E hH hE=>⟨E x,rfl,by rw[←hx];exact hE x AW⟩
theorem FG {b:Bool}(hx:ρ x= .p (.bool b)) (hv:(bif b then ρ y else ρ z)=v):Ce P ⟨dst,.pick x y z,ty,pos,aft,g⟩ ρ H v H :=
 BX fun F w E hH hE=>by
  have h1:=hE x AW;rw[hx] at h1;simp only[BP,BN] at h1;refine⟨if b then E y else E z,by simp[execOp,h1,asBool],?_⟩;subst hv;cases b
  ·exact hE z AW
  exact hE y AW
theorem HT (op:BinOp) (t:TypeId) (k k':IntKind) (m n:Int) (w:World):(eqGuard op t x y (.int k m) (.int k' n)).run P w= .ok () w:=by
 unfold eqGuard;split<;>rfl
theorem Ge {k:IntKind}{m n:Int}{T U:TypeId}{op:BinOp}{b:Bool}(hx:ρ x= .p (.int k m)) (hy:ρ y= .p (.int k n))
  (hb:(match op with | .eql=>some (m==n) | .neq=>some (m !=n) | .lss=>some (decide (m<n)) | .leq=>some (decide (m≤n)) | .gtr=>some (decide (m > n)) | .geq=>some (decide (m≥n)) | _=>none)=some b) :
  Ce P ⟨dst,.binOp op T x y U,ty,pos,aft,g⟩ ρ H (.p (.bool b)) H :=
 BX fun F w E hH hE=>by
  have h1:=hE x AW;have h2:=hE y AW;rw[hx] at h1;rw[hy] at h2;simp only[BP,BN] at h1 h2;refine⟨.bool b,?_,by simp[BP,BN]⟩;cases op<;>simp at hb<;>subst hb<;>simp[execOp,Sem.run_bind,HT,h1,h2,binOp,Op.intCmp]
theorem RU {k:IntKind}{n:Int}(h1:k.min≤n) (h2:n≤k.max):k.wrap n=n:=by
 unfold IntKind.wrap;cases k<;>simp[IntKind.min,IntKind.max,IntKind.signed,IntKind.bits] at*<;>omega
theorem LZ {k:IntKind}{m n r:Int}{T U:TypeId}{op:BinOp}(hx:ρ x= .p (.int k m)) (hy:ρ y= .p (.int k n))
  (hb:(match op with | .add=>some (m+n) | .sub=>some (m - n) | .mul=>some (m*n) | _=>none)=some r) (h1:k.min≤r) (h2:r≤k.max) :
  Ce P ⟨dst,.binOp op T x y U,ty,pos,aft,g⟩ ρ H (.p (.int k r)) H :=
 BX fun F w E hH hE=>by
  have e1:=hE x AW;have e2:=hE y AW;rw[hx] at e1;rw[hy] at e2;simp only[BP,BN] at e1 e2;refine⟨.int k r,?_,by simp[BP,BN]⟩;cases op<;>simp at hb<;>subst hb<;>simp[execOp,Sem.run_bind,HT,e1,e2,binOp,Op.intArith,RU h1 h2]
theorem NC {b:Bool}{T:TypeId}(hx:ρ x= .p (.bool b)):Ce P ⟨dst,.unOp .not T x,ty,pos,aft,g⟩ ρ H (.p (.bool (!b))) H :=
 BX fun F w E hH hE=>by
  have h1:=hE x AW;rw[hx] at h1;simp only[BP,BN] at h1;exact⟨.bool (!b),by simp[execOp,h1,Op.unary],by simp[BP,BN]⟩
theorem MN {xs:List AV}{i:Nat}(hx:ρ x= .tup xs) (hi:xs[i]?=some v):Ce P ⟨dst,.extract x i,ty,pos,aft,g⟩ ρ H v H :=
 BX fun F w E hH hE=>by
  have h1:=hE x AW;rw[hx] at h1;simp only[BP] at h1;have ⟨vs,hv,hl⟩:=h1;have ⟨u,hu,hr⟩:=hl.get hi;exact⟨u,by simp[execOp,hv,Instr.extract,hu],hr⟩
theorem KN {a:Operand}{T e:TypeId}{n n1 n2:Nat}(hT:D0 P T=some (e,n1,n2)) (hx:(∃rows,ρ a= .p (.lst rows)∧rows.length=n)∨(∃o c,ρ a= .vs o n c)∨(ρ a= .p .nils∧n=0)) :
  Ce P ⟨dst,.call { callee:= .builtin .len,args:=#[a],argTypes:=#[T] },ty,pos,aft,g⟩ ρ H (.p (.int .i64 n)) H :=
 BX fun F w E hH hE=>by
  have h1:=hE a AR;have ⟨hu,_⟩:=Dw hT;have hv:∃o c,E a= .slice o n c:=by
   rcases hx with ⟨rows,hr,rfl⟩ | ⟨o,c,hr⟩ | ⟨hr,rfl⟩
   ·grind [BP,BN]
   ·rw[hr] at h1;cases o with
    | some b=>simp only[BP] at h1;exact⟨_,c,h1⟩
    | none=>simp only[BP] at h1;obtain⟨rfl,rfl,a,h1⟩:=h1;exact⟨a,0,h1⟩
   grind [BP,BN]
  have ⟨o,c,hv⟩:=hv;refine⟨.int .i64 n,?_,by simp[BP,BN]⟩;simp[execOp,resolve,invoke,builtin,Builtin.len_,hv,Sem.run_bind,run_underlying hu,goInt]
theorem CQ {a:Operand}{T e:TypeId}{n1 n2:Nat}{rows:List (List PV)}(hT:D0 P T=some (e,n1,n2)) (hx:ρ a= .p (.lst rows)) :
  Ce P ⟨dst,.call { callee:= .builtin .len,args:=#[a],argTypes:=#[T] },ty,pos,aft,g⟩ ρ H (.p (.int .i64 rows.length)) H:=by grind [KN]
theorem BL {T:TypeId}{lay:List (Nat×Nat)}{i b o off sz:Nat}(hT:fieldsOf P T=some lay) (hi:lay[i]?=some (off,sz+1)) (hx:ρ x= .ptr b o) :
  Ce P ⟨dst,.fieldAddr T x i,ty,pos,aft,g⟩ ρ H (.ptr b (o+off)) H :=
 BX fun F w E hH hE=>by
  obtain⟨fs,f,j,hu,hf,rfl,hj,hs'⟩:=J1 hT hi;have h1:=hE x AW;rw[hx] at h1;simp only[BP] at h1;have hs:¬j.size=0:=by omega
  refine⟨.pointer (some ⟨b,o+f.offset,none⟩),?_,by simp[BP]⟩;simp[execOp,Instr.fieldAt,Sem.run_bind,run_underlying hu,hf,h1,Instr.sureAddr,fieldPlace,sizeOf,typeInfo,hj,hs,Addr.add_mid]
theorem BS.drop {F:Nat→Prop}{w:World}{b:Nat}:∀{cs:List PV}{o:Nat}(n:Nat),BS F w b o cs→BS F w b (o+n) (cs.drop n)
 | cs,o,0,h=>by simpa using h
 | [],o,n+1,h=>by simp[BS]
 | c::cs,o,n+1,h=>by
  simp only[BS] at h;have:=BS.drop n h.2;simp only[List.drop_succ_cons]
  rwa [Nat.add_assoc,Nat.add_comm 1 n] at this
theorem CV {T:TypeId}{lay:List (Nat×Nat)}{i off sz:Nat}{cells:List PV}(hT:fieldsOf P T=some lay) (hi:lay[i]?=some (off,sz+1)) (hx:ρ x= .ref cells) :
  Ce P ⟨dst,.fieldAddr T x i,ty,pos,aft,g⟩ ρ H (.ref (cells.drop off)) H :=
 BX fun F w E hH hE=>by
  obtain⟨fs,f,j,hu,hf,rfl,hj,hs'⟩:=J1 hT hi;have h1:=hE x AW;rw[hx] at h1;simp only[BP] at h1;have ⟨b,o,hv,hF,hb,hc⟩:=h1;have hs:¬j.size=0:=by omega
  refine⟨.pointer (some ⟨b,o+f.offset,none⟩),?_,by simp only[BP];exact⟨b,o+f.offset,rfl,hF,hb,hc.drop _⟩⟩;simp[execOp,Instr.fieldAt,Sem.run_bind,run_underlying hu,hf,hv,Instr.sureAddr,fieldPlace,sizeOf,typeInfo,hj,hs,Addr.add_mid]
theorem A7.at {F:Nat→Prop}{w:World}{b sz:Nat}:∀{rows:List (List PV)}{o i:Nat}{r:List PV},A7 F w b sz o rows→rows[i]?=some r→BS F w b (o+i*sz) r∧r.length=sz
 | [],o,i,r,_,hr=>by simp at hr
 | r'::rows,o,i,r,h,hr=>by
  simp only[A7] at h;cases i with
  | zero=>simp at hr;subst hr;simpa using ⟨h.2.1,h.1⟩
  | succ i =>
   simp at hr;have:=A7.at h.2.2 hr;rw[Nat.succ_mul];refine⟨?_,this.2⟩;have e:o+sz+i*sz=o+(i*sz+sz):=by omega
   rw[←e];exact this.1
theorem Ao {T e:TypeId}{n1 n2:Nat}{rows:List (List PV)}{k:IntKind}{i:Int}{r:List PV}(hT:D0 P T=some (e,n1,n2)) (hx:ρ x= .p (.lst rows)) (hy:ρ y= .p (.int k i))
  (h0:0≤i) (hr:rows[i.toNat]?=some r) (hz:r.length=n1) :
  Ce P ⟨dst,.indexAddr T x y,ty,pos,aft,g⟩ ρ H (.ref r) H :=
 BX fun F w E hH hE=>by
  have ⟨hu,j,hj,hs1,_⟩:=Dw hT;have h1:=hE x AW;have h2:=hE y AW;rw[hx] at h1;rw[hy] at h2;simp only[BP,BN] at h1 h2;have hlt:i.toNat<rows.length:=(List.getElem?_eq_some_iff.1 hr).1;rcases h1 with ⟨rfl,_⟩ | ⟨b,o,c,sz,hv,hF,hb,hc,hrows⟩
  ·simp at hlt
  have ⟨hcells,hsz⟩:=hrows.at hr;have hs:j.size=sz:=by omega
  refine⟨.pointer (some ⟨b,o+i.toNat*sz,none⟩),?_,by simp only[BP];exact⟨b,_,rfl,hF,hb,hcells⟩⟩;have hlt':i<rows.length:=by omega
  simp[execOp,Instr.indexAt,Sem.run_bind,run_underlying hu,hv,h2,asIntOf,h0,hlt',sizeOf,typeInfo,hj,hs,Addr.add_mid]
theorem BS.vals {F:Nat→Prop}{w:World}{b:Nat}:∀{cs:List PV}{o:Nat},BS F w b o cs→∃vs:List Value,w.rangeAt b o vs∧vs.length=cs.length∧A6 F w (cs.map .p) vs
 | [],o,_=>⟨[],by intro j v h;simp at h,rfl,by simp[A6]⟩
 | c::cs,o,h=>by
  simp only[BS] at h;have ⟨⟨v,hv,hp⟩,hr⟩:=h;have ⟨vs,h1,h2,h3⟩:=BS.vals hr;refine⟨v::vs,?_,by simp[h2],by simp only[List.map_cons,A6,BP];exact⟨v,vs,rfl,hp,h3⟩⟩;intro j u hu;cases j with
  | zero=>simp at hu;subst hu;simpa using hv
  | succ j =>
   simp at hu;have:=h1 j u hu
   rwa [Nat.add_assoc,Nat.add_comm 1 j] at this
theorem BS.take {F:Nat→Prop}{w:World}{b:Nat}:∀{cs:List PV}{o:Nat}(n:Nat),BS F w b o cs→BS F w b o (cs.take n)
 | cs,o,0,h=>by simp[BS]
 | [],o,n+1,h=>by simp[BS]
 | c::cs,o,n+1,h=>by
  simp only[BS,List.take_succ_cons] at *;exact⟨h.1,BS.take n h.2⟩
theorem EA {T:TypeId}{n:Nat}{cells:List PV}{cs:List PV}(hT:DO P T=some (true,n)) (hx:ρ x= .ref cells) (hz':cs.length=n) (ht:cells.take cs.length=cs) :
  Ce P ⟨dst,.load T x,ty,pos,aft,g⟩ ρ H (.agg (cs.map .p)) H :=
 BX fun F w E hH hE=>by
  have ⟨d,hu,hd,hz⟩:=Df hT;rw[←hz'] at hz;have h1:=hE x AW;rw[hx] at h1;simp only[BP] at h1;have ⟨b,o,hv,hF,hb,hc⟩:=h1;have hc':=hc.take cs.length;rw[ht] at hc';have ⟨vs,h1,h2,h3⟩:=hc'.vals;refine⟨.agg ⟨vs⟩,?_,by simp only[BP];exact⟨vs,rfl,h3⟩⟩;simp only[execOp,Instr.loadAt,hv,Instr.sureAddr,Sem.run_bind,Sem.run_pure,Result.andThen_ok,Ey hu hd h1 (by rw[hz,h2])]
theorem Bl {T:TypeId}{n:Nat}{cells:List PV}(hT:DO P T=some (true,n)) (hx:ρ x= .ref cells) (hz:cells.length=n) :
  Ce P ⟨dst,.load T x,ty,pos,aft,g⟩ ρ H (.agg (cells.map .p)) H:=EA hT hx hz (List.take_length)
theorem Fs {T:TypeId}{n:Nat}{c:PV}{cs:List PV}(hT:DO P T=some (false,n)) (hx:ρ x= .ref (c::cs)) :
  Ce P ⟨dst,.load T x,ty,pos,aft,g⟩ ρ H (.p c) H :=
 BX fun F w E hH hE=>by
  have ⟨d,hu,hd,hz⟩:=Df hT;have h1:=hE x AW;rw[hx] at h1;simp only[BP] at h1;have ⟨b,o,hv,hF,hb,hc⟩:=h1;simp only[BS] at hc;have ⟨⟨v,hcell,hp⟩,_⟩:=hc;refine⟨v,?_,by simpa only[BP] using hp⟩;simp only[execOp,Instr.loadAt,hv,Instr.sureAddr,Sem.run_bind,Sem.run_pure,Result.andThen_ok,Ev hu hd hcell]
theorem BQ {T:TypeId}{n b o i:Nat}{cs:List AV}(hT:DO P T=some (false,n)) (hx:ρ x= .ptr b o) (hi:H[i]?=some (.box b cs)) (hv:cs[o]?=some v) :
  Ce P ⟨dst,.load T x,ty,pos,aft,g⟩ ρ H v H :=
 BX fun F w E hH hE=>by
  have ⟨d,hu,hd,hz⟩:=Df hT;have h1:=hE x AW;rw[hx] at h1;simp only[BP] at h1;have ⟨vs,T',hb,hl⟩:=hH.obj _ (List.mem_of_getElem? hi);have ⟨u,hu',hr⟩:=hl.get hv;refine⟨u,?_,hr⟩;simp only[execOp,Instr.loadAt,h1,Instr.sureAddr,Sem.run_bind,Sem.run_pure,Result.andThen_ok,Ev (w:=w) hu hd (b:=b) (o:=o) (v:=u) (by simp[World.cell?,hb,hu'])]
theorem Bm {T:TypeId}{b o i n:Nat}{cs:List AV}(hT:DO P T=some (true,n)) (hx:ρ x= .ptr b o) (hi:H[i]?=some (.box b cs)) (hn:((cs.drop o).take n).length=n)
  (hv: .agg ((cs.drop o).take n)=v):Ce P ⟨dst,.load T x,ty,pos,aft,g⟩ ρ H v H :=
 BX fun F w E hH hE=>by
  have ⟨d,hu,hd,hz⟩:=Df hT;have h1:=hE x AW;rw[hx] at h1;simp only[BP] at h1;have ⟨vs,T',hb,hl⟩:=hH.obj _ (List.mem_of_getElem? hi);have hr:=HH hb o n;have hl':=(hl.drop o).take n;refine⟨.agg ⟨(vs.drop o).take n⟩,?_,by subst hv;simp only[BP];exact⟨_,rfl,hl'⟩⟩;simp only[execOp,Instr.loadAt,h1,Instr.sureAddr,Sem.run_bind,Sem.run_pure,Result.andThen_ok,Ey hu hd hr (by rw[hz,hl'.length,hn])]
theorem B1 {T:TypeId}{b i n:Nat}{cs:List AV}(hT:DO P T=some (true,n)) (hx:ρ x= .ptr b 0) (hi:H[i]?=some (.box b cs)) (hn:cs.length=n) :
  Ce P ⟨dst,.load T x,ty,pos,aft,g⟩ ρ H (.agg cs) H:=by grind [Bm]
theorem Dh {fn:Fn}{first caps:Array Operand}{fs cs:List AV}(h1:first.toList.map ρ=fs) (h2:caps.toList.map ρ=cs):Ce P ⟨dst,.makeFunc fn first caps,ty,pos,aft,g⟩ ρ H (.fn fn fs cs) H :=
 BX fun F w E hH hE=>by
  refine⟨.func fn (first.map E) (caps.map E),O,?_⟩;subst h1;subst h2;simp only[BP];refine⟨first.toList.map E,caps.toList.map E,?_,A6.mapEval _ fun x hx=>hE x (by simp[Op.operands];exact .inl (by simpa using hx)),A6.mapEval _ fun x hx=>hE x (by simp[Op.operands];exact .inr (by simpa using hx))⟩;congr 1<;>apply Array.ext'<;>simp
theorem Ro {b o:Nat}(hx:ρ x= .ptr b o):Ce P ⟨dst,.nilCheck x,ty,pos,aft,g⟩ ρ H (.ptr b o) H :=
 BX fun F w E hH hE=>by
  have h1:=hE x AW;rw[hx] at h1;simp only[BP] at h1;exact⟨.pointer (some ⟨b,o,none⟩),by simp[execOp,h1],by simp[BP]⟩
theorem Jy {T:TypeId}{d:TypeDesc}{c:PV}(hu:P.underlying T=some d) (hd:∀ms,d≠ .interface ms) (hx:ρ x= .p c):Ce P ⟨dst,.makeInterface T x,ty,pos,aft,g⟩ ρ H (.p (.iface T c)) H :=
 BX fun F w E hH hE=>by
  have h1:=hE x AW;rw[hx] at h1;simp only[BP] at h1;refine⟨.iface T (E x),?_,by simp only[BP,BN];exact⟨_,rfl,h1⟩⟩;cases d<;>simp_all [execOp,Instr.makeInterface,Sem.run_bind,run_underlying hu]
end
def DA:AV→Option (List AV)
 | .p .unit=>some []
 | .agg cs=>some cs
 | .p .any=>none
 | .tup _=>none
 | x=>some [x]
def one:AV→Bool
 | .p .any | .p .unit | .agg _ | .tup _=>false
 | _=>true
def splice {α:Type}:List α→Nat→List α→List α
 | l,_,[]=>l
 | l,o,x::xs=>splice (l.set o x) (o+1) xs
def World.push (w:World) (o:Obj):World:={ w with heap:=w.heap.push o }
section
variable {F F':Nat→Prop}{w w':World}{P:Program}
theorem U5 {x:AV}{v:Value}(h:BP F w x v) (h1:one x=true):v.oneCell'=true∧v.cells=#[v]:=by
 cases x with
 | p y =>
  cases y with
  | any=>simp[one] at h1
  | unit=>simp[one] at h1
  | lst rows =>
   simp only[BP,BN] at h;rcases h with ⟨_,o,c,rfl⟩ | ⟨b,o,c,sz,rfl,_⟩<;>exact⟨rfl,rfl⟩
  | lstc rows =>
   simp only[BP,BN] at h;rcases h with ⟨_,o,rfl⟩ | ⟨b,o,sz,rfl,_⟩<;>exact⟨rfl,rfl⟩
  | iface t y =>
   simp only[BP,BN] at h;obtain⟨u,rfl,_⟩:=h;exact⟨O,O⟩
  | _=>simp only[BP,BN] at h;subst h;exact⟨rfl,rfl⟩
 | ref cs=>simp only[BP] at h;obtain⟨b,o,rfl,_⟩:=h;exact⟨rfl,rfl⟩
 | fn f a b=>simp only[BP] at h;obtain⟨fs,cs,rfl,_⟩:=h;exact⟨rfl,rfl⟩
 | agg cs=>simp[one] at h1
 | tup cs=>simp[one] at h1
 | vs o n c =>
  cases o with
  | some b=>simp only[BP] at h;subst h;exact⟨rfl,rfl⟩
  | none=>simp only[BP] at h;obtain⟨_,_,a,rfl⟩:=h;exact⟨rfl,rfl⟩
 | _=>simp only[BP] at h;subst h;exact⟨rfl,rfl⟩
theorem JX {x:AV}{v:Value}{cs:List AV}(h:BP F w x v) (hc:DA x=some cs):∃vs,v.cells=⟨vs⟩∧A6 F w cs vs:=by
 by_cases h1:one x=true
 ·have:=U5 h h1;refine⟨[v],this.2,?_⟩;have:cs=[x]:=by
   cases x with
   | p y=>cases y<;>simp_all [DA,one]
   | _=>simp_all [DA,one]
  grind [A6]
 cases x with
 | agg ds =>
  simp only[DA,Option.some.injEq] at hc;subst hc;simp only[BP] at h;obtain⟨vs,rfl,hl⟩:=h;exact⟨vs,O,hl⟩
 | p y =>
  cases y with
  | unit =>
   simp only[DA,Option.some.injEq] at hc;subst hc;simp only[BP,BN] at h;subst h;exact⟨[],O,O⟩
  | _=>simp_all [DA,one]
 | _=>simp_all [DA,one]
theorem Kx:∀{xs:List AV}{vs:List Value},A6 F w xs vs→xs.all one=true→∀v∈vs,v.oneCell'=true
 | [],vs,h,_=>by simp only[A6] at h;subst h;simp
 | x::xs,vs,h,h1=>by
  simp only[A6] at h;obtain⟨u,us,rfl,h2,h3⟩:=h;simp only[List.all_cons,Bool.and_eq_true] at h1;intro v hv;rcases List.mem_cons.1 hv with rfl | hv
  ·exact(U5 h2 h1.1).1
  exact Kx h3 h1.2 v hv
theorem A6.splice:∀{ys xs:List AV}{us vs:List Value}{o:Nat},A6 F w xs vs→A6 F w ys us→A6 F w (splice xs o ys) (splice vs o us)
 | [],xs,us,vs,o,h,h'=>by simp only[A6] at h';subst h';simpa [Abs.splice] using h
 | y::ys,xs,us,vs,o,h,h'=>by
  simp only[A6] at h';obtain⟨u,us,rfl,h1,h2⟩:=h';simp only[Abs.splice];exact A6.splice (h.set h1) h2
theorem I2 (o:Obj) {b:Nat}(h:b<w.heap.size):(World.push w o).heap[b]?=w.heap[b]?:=by
 show (w.heap.push o)[b]?=_
 grind
theorem Ix (o:Obj):(World.push w o).heap[w.heap.size]?=some o:=by
 show (w.heap.push o)[w.heap.size]?=_;simp
theorem F6 (o:Obj) (hf:∀b,F' b→F b∨b=w.heap.size):Cy F w F' (World.push w o) where
 size:=by simp[World.push]
 same b _ hb:=I2 o hb
 nf b hF hb hF':=(hf b hF').elim hF fun h=>by omega
theorem KT (H:List Aj) (x:Aj) (o:Obj) (hx:x.key=some w.heap.size∨x.key=none):Trans F H w (fun b=>F b∨b=w.heap.size) (x::H) (World.push w o) where
 size:=by simp[World.push]
 same b hb _:=I2 o hb
 keep b h _:= .inl h
 fresh b h:=h.imp id fun h=>by omega
 keys o' ho b hb:=by
  grind
 os:=rfl
 out:=rfl
 tape:=rfl
theorem SV (H:List Aj) (o:Obj):Trans F H w F H (World.push w o) where
 size:=by simp[World.push]
 same b hb _:=I2 o hb
 keep b h _:=h
 fresh b h:= .inl h
 keys o' ho b hb:= .inl ⟨o',ho,hb⟩
 os:=rfl
 out:=rfl
 tape:=rfl
theorem HRel.stable' {H:List Aj}(h:HRel F H w) (st:Cy F w F' w') (hF:∀b,F b→F' b) (hk:∀o∈H,∀b,o.key=some b→w'.heap[b]?=w.heap[b]?) (bd:∀b,F' b→b<w'.heap.size):HRel F' H w' where
 sub o ho b hb:=hF b (h.sub o ho b hb)
 nodup:=h.nodup
 obj o ho:=Gc.mono st o (hk o ho) (h.obj o ho)
 bd:=bd
theorem MD {H:List Aj}(h:HRel F H w) (x:Aj) (o:Obj) (hx:x.key=some w.heap.size) (hr:Gc (fun b=>F b∨b=w.heap.size) (World.push w o) x) :
  HRel (fun b=>F b∨b=w.heap.size) (x::H) (World.push w o) where
 sub o' ho b hb:=by
  rcases List.mem_cons.1 ho with rfl | ho
  ·grind
  exact .inl (h.sub o' ho b hb)
 nodup:=by
  rw[List.filterMap_cons,hx];refine List.nodup_cons.2 ⟨?_,h.nodup⟩;intro hm;have ⟨o',ho',hk⟩:=List.mem_filterMap.1 hm;have:=h.bd _ (h.sub o' ho' _ hk);omega
 obj o' ho:=by
  rcases List.mem_cons.1 ho with rfl | ho
  ·exact hr
  refine Gc.mono (F6 o fun b h=>h) o' ?_ (h.obj o' ho);exact fun b hb=>I2 o (h.bd b (h.sub o' ho b hb))
 bd b hb:=by
  rcases hb with hb | rfl
  ·have:=h.bd b hb;simp[World.push];omega
  simp[World.push]
theorem Ts {H:List Aj}(h:HRel F H w) (o:Obj):HRel F H (World.push w o) :=
 h.stable' (F6 o fun b h=> .inl h) (fun _ h=>h) (fun o' ho b hb=>I2 o (h.bd b (h.sub o' ho b hb))) (fun b hb=>by have:=h.bd b hb;simp[World.push];omega)
structure FZ (b:Nat) (o:Obj) (w w':World):Prop where
 heap:w'.heap=w.heap.setIfInBounds b o
 os:w'.os=w.os
 out:w'.output=w.output
 tape:w'.tape=w.tape
theorem FZ.other {b:Nat}{o:Obj}(h:FZ b o w w') {c:Nat}(hc:c≠b):w'.heap[c]?=w.heap[c]?:=by
 rw[h.heap,Array.getElem?_setIfInBounds_ne (Ne.symm hc)]
theorem FZ.self {b:Nat}{o:Obj}(h:FZ b o w w') (hb:b<w.heap.size):w'.heap[b]?=some o:=by
 rw[h.heap];simp[hb]
theorem FZ.stable {b:Nat}{o:Obj}(h:FZ b o w w') (hF:F b):Cy F w F w' where
 size:=by rw[h.heap];simp
 same c hc _:=h.other fun e=>hc (e▸hF)
 nf _ h _:=h
theorem Cd {α:Type}{l:List α}{i:Nat}{a x:α}(h:x∈l.set i a):(x=a)∨∃j,j≠i∧l[j]?=some x:=by
 have ⟨j,hj⟩:=List.mem_iff_getElem?.1 h
 grind
theorem EI {H:List Aj}{i:Nat}{x x':Aj}(hi:H[i]?=some x) (hk:x'.key=x.key):(H.set i x').filterMap Aj.key=H.filterMap Aj.key:=by
 induction H generalizing i with
 | nil=>simp at hi
 | cons y H ih =>
  cases i with
  | zero=>simp at hi;subst hi;simp[List.filterMap_cons,hk]
  | succ i=>simp at hi;simp[List.filterMap_cons,ih hi]
theorem IE {H:List Aj}(h:(H.filterMap Aj.key).Nodup):∀{i j:Nat}{x y:Aj}{b:Nat},H[i]?=some x→H[j]?=some y→x.key=some b→y.key=some b→i=j:=by
 induction H with
 | nil=>intro i j x y b hi;simp at hi
 | cons z H ih =>
  grind
theorem FZ.HRel {H:List Aj}{b i:Nat}{x x':Aj}{o:Obj}(h:FZ b o w w') (hH:HRel F H w) (hi:H[i]?=some x) (hk:x.key=some b) (hk':x'.key=some b) (hr:Gc F w' x'):HRel F (H.set i x') w' where
 sub o' ho c hc:=by
  rcases Cd ho with rfl | ⟨j,_,hj⟩
  ·rw[hk'] at hc;injection hc with hc;subst hc;exact hH.sub x (List.mem_of_getElem? hi) _ hk
  exact hH.sub o' (List.mem_of_getElem? hj) c hc
 nodup:=by rw[EI hi (by rw[hk,hk'])];exact hH.nodup
 obj o' ho:=by
  rcases Cd ho with rfl | ⟨j,hne,hj⟩
  ·exact hr
  refine Gc.mono (h.stable (hH.sub x (List.mem_of_getElem? hi) _ hk)) o' ?_ (hH.obj o' (List.mem_of_getElem? hj));intro c hc;refine h.other fun e=>?_;subst e;exact hne (IE hH.nodup hj hi hc hk)
 bd c hc:=by have:=hH.bd c hc;rw[h.heap];simpa using this
theorem FZ.trans {H:List Aj}{b i:Nat}{x x':Aj}{o:Obj}(h:FZ b o w w') (hi:H[i]?=some x) (hk:x.key=some b) (hk':x'.key=some b):Trans F H w F (H.set i x') w' where
 size:=by rw[h.heap];simp
 same c _ hn:=h.other fun e=>hn x (List.mem_of_getElem? hi) (by rw[hk,e])
 keep _ h _:=h
 fresh _ h:= .inl h
 keys o' ho c hc:=by
  grind
 os:=h.os
 out:=h.out
 tape:=h.tape
theorem J4 {b o:Nat}{c:Array Value}{T:TypeId}{fz:Nat×Nat}(hb:w.heap[b]?=some (.cells c T fz)) (v:Value) :
  FZ b (.cells (c.setIfInBounds o v) T fz) w (w.setCell ⟨b,o,none⟩ v) where
 heap:=by
  have ⟨hlt,hb'⟩:=Array.getElem?_eq_some_iff.1 hb;simp only[World.setCell]
  grind
 os:=rfl
 out:=rfl
 tape:=rfl
theorem FJ {b:Nat}{T:TypeId}{fz:Nat×Nat}:∀(us:List Value) {o:Nat}{vs:List Value}{w:World},w.heap[b]?=some (.cells ⟨vs⟩ T fz)→us≠[] →
  FZ b (.cells ⟨splice vs o us⟩ T fz) w (w.setCells b o us)
 | [],o,vs,w,_,h=>absurd rfl h
 | [u],o,vs,w,hb,_=>by
  have:=J4 (o:=o) hb u;simpa [World.setCells,splice] using this
 | u::u'::us,o,vs,w,hb,_=>by
  have h1:=J4 (o:=o) hb u;have hlt:b<w.heap.size:=(Array.getElem?_eq_some_iff.1 hb).1;have hb1:=h1.self hlt;have e:(⟨vs⟩:Array Value).setIfInBounds o u=⟨vs.set o u⟩:=by apply Array.ext';simp
  rw[e] at hb1;have h2:=FJ (u'::us) (o:=o+1) hb1 Ag;refine⟨?_,h2.os,h2.out,h2.tape⟩;show ((w.setCell ⟨b,o,none⟩ u).setCells b (o+1) (u'::us)).heap=_;rw[h2.heap,h1.heap];simp[splice]
end
theorem _root_.Go.Aa {α:Prop}(h:α:=by simp;omega):α:=h
section
variable {P:Program}{dst:Option Tmp}{ty:TypeId}{pos:String}{aft:Array Edge}{g:Option (Nat×Bool)}{ρ:Operand→AV}{H:List Aj}{x y z:Operand}{v:AV}
def Hl (cs:List AV) (H:List Aj):DL→List Aj→Prop
 | .val v,H'=>∃b,v= .ptr b 0∧H'= .box b cs::H
 | .panic _,_=>False
theorem TC {F:Nat→Prop}{w:World}{cs:List AV}{vs:List Value}{T:TypeId}(hH:HRel F H w) (hl:A6 F w cs vs) :
  ∃v H' F',Hl cs H (.val v) H'∧Trans F H w F' H' (World.push w (.cells ⟨vs⟩ T (0,0)))∧HRel F' H' (World.push w (.cells ⟨vs⟩ T (0,0)))∧BP F' (World.push w (.cells ⟨vs⟩ T (0,0))) v (.pointer (some ⟨w.heap.size,0,none⟩)):=by
 refine⟨.ptr w.heap.size 0,_,_,⟨w.heap.size,O,O⟩,KT H (.box w.heap.size cs) _ (.inl O),?_,by simp[BP]⟩;exact MD hH (.box w.heap.size cs) _ O ⟨vs,T,Ix _,A6.mono (F6 _ fun b h=>h) cs vs hl⟩
theorem CJ {T:TypeId}{cs:List AV}(hx:DA (ρ x)=some cs):CL P ⟨dst,.box T x,ty,pos,aft,g⟩ ρ H (Hl cs H) :=
 FN fun F w E hH hE=>by
  have h1:=hE x AW;have ⟨vs,hv,hl⟩:=JX h1 hx;have ⟨v,H',F',h⟩:=TC (T:=T) hH hl;refine⟨_,_,v,H',F',?_,h⟩;simp only[execOp,Instr.box,newVar,newRow,newObj,hv,Sem.run_bind,Sem.run,Result.andThen,Sem.run_pure];rfl
theorem E7 {F:Nat→Prop}{w:World}:∀(vs:List Value),A6 F w (vs.map EZ) vs
 | []=>by simp[A6]
 | v::vs=>by simp only[List.map_cons,A6];exact⟨v,vs,rfl,Lx v,E7 vs⟩
theorem Am {T:TypeId}{z:Value}{cs:List AV}(hT:zeroOf P T=some z) (hc:z.cells.toList.map EZ=cs):CL P ⟨dst,.alloc T,ty,pos,aft,g⟩ ρ H (Hl cs H) :=
 FN fun F w E hH hE=>by
  have hl:A6 F w cs z.cells.toList:=by subst hc;exact E7 _
  have ⟨v,H',F',h⟩:=TC (T:=T) hH hl;refine⟨_,_,v,H',F',?_,h⟩;unfold zeroOf at hT;cases hi:P.info? T with
  | none=>simp[hi] at hT
  | some i =>
   have hz:i.zero=some z:=by simpa [hi] using hT
   have hzv:(zeroValue T).run P w= .ok z w:=by simp[zeroValue,typeInfo,hi,hz,Sem.run_bind]
   simp only[execOp,Instr.alloc,newVar,newRow,newObj,hzv,Sem.run_bind,Sem.run,Result.andThen,Sem.run_pure];rfl
theorem SC {w:World}{b:Nat}{vs:List Value}{T:TypeId}(h:w.heap[b]?=some (.cells ⟨vs⟩ T (0,0))) {o n:Nat}(hn:o+n≤vs.length):w.there b o n:=by
 intro j hj;have:o+j<vs.length:=by omega
 refine⟨by simp[World.cell?,h,List.getElem?_eq_getElem this],by simp[World.frozen?,h]⟩
theorem Ip {w:World}{b o n:Nat}{vs:List Value}{T T':TypeId}{v:Value}{us:List Value}{bl:Bool}(hT:DO P T=some (bl,n)) (hb:w.heap[b]?=some (.cells ⟨vs⟩ T' (0,0)))
  (hc:v.cells=⟨us⟩) (hn:us.length=n) (ho:o+n≤vs.length) (h1:∀v∈us,v.oneCell'=true):(storeVar T ⟨b,o,none⟩ v).run P w= .ok () (w.setCells b o us):=by
 have ⟨d,hu,hd,hz⟩:=Df hT;have ht:=SC hb (o:=o) (n:=n) ho;have:=run_storeCells_cells (P:=P) b o us 0 w (fun j hj=>by simpa using (ht j Af).1) (fun j hj=>by simpa using (ht j Af).2) h1;simp only[Nat.add_zero] at this;cases hq:P.info? T with
 | none=>simp[hq] at hz
 | some i =>
  have hs:us.length=i.size:=by simp[hq] at hz;omega
  simp[storeVar,sizeOf,typeInfo,hq,hc,hs,this]
theorem Ho {T:TypeId}{bl:Bool}{n b o i:Nat}{cs us:List AV}(hT:DO P T=some (bl,n+1)) (hx:ρ x= .ptr b o) (hi:H[i]?=some (.box b cs)) (hy:DA (ρ y)=some us) (hn:us.length=n+1)
  (ho:Nat.ble (o+(n+1)) cs.length=true) (h1:us.all one=true):Ce P ⟨dst,.store T x y,ty,pos,aft,g⟩ ρ H (.p .any) (H.set i (.box b (splice cs o us))) :=
 Hj fun F w E hH hE=>by
  have e1:=hE x AW;have e2:=hE y AW;rw[hx] at e1;simp only[BP] at e1;have ⟨vs,T',hb,hl⟩:=hH.obj _ (List.mem_of_getElem? hi);have ⟨ws,hc,hl'⟩:=JX e2 hy;have hlen:=hl'.length;have hw:FZ b (.cells ⟨splice vs o ws⟩ T' (0,0)) w (w.setCells b o ws):=FJ ws hb (by intro e;rw[e] at hlen;simp at hlen;omega);have hlt:b<w.heap.size:=(Array.getElem?_eq_some_iff.1 hb).1;have hF:F b:=hH.sub _ (List.mem_of_getElem? hi) b rfl;refine⟨w.setCells b o ws,_,F,?_,⟨O,O⟩,hw.trans hi O O,hw.HRel hH hi O O ?_⟩
  ·have hst:=Ip (T:=T) (v:=E y) (o:=o) hT hb hc Af (by rw[hl.length];simpa [Nat.ble_eq] using ho) (Kx hl' h1);simp only[execOp,Instr.storeAt,e1,Instr.sureAddr,Sem.run_bind,Sem.run_pure,Result.andThen_ok,hst]
  exact⟨splice vs o ws,T',hw.self hlt,A6.splice (A6.mono (hw.stable hF) _ _ hl) (A6.mono (hw.stable hF) _ _ hl')⟩
def D2 (place:Nat→Option (Nat×Nat)) (cells:List AV):List (Nat×AV)→Option (List AV)
 | []=>some cells
 | (i,v)::rest =>
  match place i,DA v with
  | some (off,size),some cs=>if cs.length=size∧off+cs.length≤cells.length then D2 place (splice cells off cs) rest else none
  | _,_=>none
theorem LH:∀(us:List Value) (vs:List Value) (off k:Nat),((us.zipIdx k).foldl (fun(cs:Array Value) (c,j)=>cs.setIfInBounds (off+j) c) ⟨vs⟩:Array Value)=⟨splice vs (off+k) us⟩
 | [],vs,off,k=>by simp[splice]
 | u::us,vs,off,k=>by
  simp only[List.zipIdx_cons,List.foldl_cons];have e:(⟨vs⟩:Array Value).setIfInBounds (off+k) u=⟨vs.set (off+k) u⟩:=by apply Array.ext';simp
  rw[e,LH us _ off (k+1)];simp[splice,Nat.add_assoc]
theorem Et {α:Type}:∀(us vs:List α) (o:Nat),(splice vs o us).length=vs.length
 | [],vs,o=>rfl
 | u::us,vs,o=>by simp[splice,Et us]
theorem Gx {F:Nat→Prop}{w:World}{place:Nat→Option (Nat×Nat)}:∀(parts:List (Nat×AV)) (vals:List (Nat×Value)) (cells:List AV) (vs:List Value) (r:List AV),
  parts.length=vals.length→(∀(j:Nat) p q,parts[j]?=some p→vals[j]?=some q→p.1=q.1∧BP F w p.2 q.2)→A6 F w cells vs→D2 place cells parts=some r →
  ∃us:List Value,Instr.fill place ⟨vs⟩ vals=some ⟨us⟩∧A6 F w r us
 | [],[],cells,vs,r,_,_,hl,h=>by
  simp only[D2,Option.some.injEq] at h;subst h;exact⟨vs,O,hl⟩
 | (i,x)::parts,(i',v)::vals,cells,vs,r,hlen,hp,hl,h=>by
  obtain⟨rfl,hx⟩:=hp 0 (i,x) (i',v) rfl rfl;simp only[D2] at h;simp only[Instr.fill];cases hpl:place i with
  | none=>simp[hpl] at h
  | some os =>
   obtain⟨off,size⟩:=os;cases hcs:DA x with
   | none=>simp[hpl,hcs] at h
   | some cs =>
    simp only[hpl,hcs] at h;split at h
    ·rename_i hc;have ⟨us,hv,hus⟩:=JX hx hcs;have hl1:=hus.length;have hl2:=hl.length;rw[hv];have:((!decide ((⟨us⟩:Array Value).size=size))||decide (off+(⟨us⟩:Array Value).size > (⟨vs⟩:Array Value).size))=false:=by
      simp;omega
     have e1:(us.zipIdx.foldl (fun(cs:Array Value) (c,j)=>cs.setIfInBounds (off+j) c) ⟨vs⟩:Array Value)=⟨splice vs off us⟩:=by
      have:=LH us vs off 0;simpa using this
     have e2:((⟨us⟩:Array Value).zipIdx.foldl (fun cs (c,j)=>cs.setIfInBounds (off+j) c) ⟨vs⟩:Array Value)=⟨splice vs off us⟩:=by
      rw[←e1];simp[←Array.foldl_toList]
     have:=Gx parts vals (splice cells off cs) (splice vs off us) r (by simpa using hlen) (fun j p q h1 h2=>hp (j+1) p q (by simpa using h1) (by simpa using h2)) (A6.splice hl hus) h;obtain⟨ws,h1,h2⟩:=this;refine⟨ws,?_,h2⟩;simp only[ne_eq,decide_not];rw[if_neg (by simp at this ⊢;omega)];rw[e2];exact h1
    ·cases h
 | [],_::_,_,_,_,h,_,_,_=>by simp at h
 | _::_,[],_,_,_,h,_,_,_=>by simp at h
theorem Io {w:World}:∀(fs:List Field) (lay:List (Nat×Nat)),(fs.mapM fun f=>(P.info? f.type).map fun i=>(f.offset,i.size))=some lay →
  (fs.mapM fun f=>do pure (f.offset,←sizeOf f.type):Sem (List (Nat×Nat))).run P w= .ok lay w
 | [],lay,h=>by simp at h;subst h;rfl
 | f::fs,lay,h=>by
  rw[List.mapM_cons] at h;cases hx:P.info? f.type with
  | none=>simp[hx] at h
  | some i =>
   cases hl:(fs.mapM fun f=>(P.info? f.type).map fun i=>(f.offset,i.size)) with
   | none=>simp[hx,hl] at h
   | some r =>
    simp[hx,hl] at h;subst h;rw[List.mapM_cons];have hs:(sizeOf f.type).run P w= .ok i.size w:=by simp[sizeOf,typeInfo,hx]
    simp only[Sem.run_bind,hs,Result.andThen_ok,Sem.run_pure,Io fs r hl]
theorem Dx {T:TypeId}{parts:Array (Nat×Operand)}{lay:List (Nat×Nat)}{z:Value}{cs:List AV}(hT:fieldsOf P T=some lay) (hz:zeroOf P T=some z)
  (hc:D2 (lay[·]?) (z.cells.toList.map EZ) (parts.toList.map fun p=>(p.1,ρ p.2))=some cs):Ce P ⟨dst,.build T parts,ty,pos,aft,g⟩ ρ H (.agg cs) H :=
 BX fun F w E hH hE=>by
  unfold fieldsOf at hT;unfold zeroOf at hz;cases hu:P.underlying T with
  | none=>simp[hu] at hT
  | some d =>
   cases d with
   | struct fs =>
    simp only[hu] at hT;cases hi:P.info? T with
    | none=>simp[hi] at hz
    | some i =>
     have hz':i.zero=some z:=by simpa [hi] using hz
     have hzv:(zeroValue T).run P w= .ok z w:=by simp[zeroValue,typeInfo,hi,hz',Sem.run_bind]
     have ⟨us,hf,hr⟩:=Gx (F:=F) (w:=w) (place:=(lay[·]?)) _ (parts.toList.map fun p=>(p.1,E p.2)) _ z.cells.toList _ Ag (by
      intro j p q h1 h2;simp only[List.getElem?_map] at h1 h2;cases hj:parts.toList[j]? with
      | none=>simp[hj] at h1
      | some t =>
       simp[hj] at h1 h2;subst h1;subst h2;exact⟨O,hE _ (by
        have:=List.mem_of_getElem? hj;simp only[Op.operands];exact List.mem_map.2 ⟨t,this,O⟩)⟩) (E7 _) hc
     refine⟨.agg ⟨us⟩,?_,by simp only[BP];exact⟨us,rfl,hr⟩⟩;have hm:(fs.mapM fun f=>do pure (f.offset,←sizeOf f.type):Sem (Array (Nat×Nat))).run P w= .ok ⟨lay⟩ w:=by
      rw[Array.mapM_eq_mapM_toList];simp only[map_eq_pure_bind,Sem.run_bind,Io _ _ hT,Result.andThen_ok,Sem.run_pure]
     have ha:∀i:Nat,(⟨lay⟩:Array (Nat×Nat))[i]?=lay[i]?:=fun i=>by simp
     simp only[execOp,Instr.build,Sem.run_bind,hzv,Result.andThen_ok,run_underlying hu,hm,ha];have hf':Instr.fill (fun x=>lay[x]?) z.cells (parts.toList.map fun p=>(p.1,E p.2))=some ⟨us⟩:=hf;simp[hf']
   | _=>simp[hu] at hT
def Ep:List AV→Option (List PV)
 | []=>some []
 | .p c::r=>(Ep r).map (c:: ·)
 | _::_=>none
theorem Fg:∀{cs:List AV}{ps:List PV},Ep cs=some ps→cs=ps.map .p
 | [],ps,h=>by simp[Ep] at h;subst h;rfl
 | .p c::r,ps,h=>by
  simp only[Ep,Option.map_eq_some_iff] at h;obtain⟨ps',h1,rfl⟩:=h;simp[Fg h1]
 | .ptr _ _::_,ps,h=>by simp[Ep] at h
 | .nilp::_,ps,h=>by simp[Ep] at h
 | .ref _::_,ps,h=>by simp[Ep] at h
 | .vs _ _ _::_,ps,h=>by simp[Ep] at h
 | .map _::_,ps,h=>by simp[Ep] at h
 | .fn _ _ _::_,ps,h=>by simp[Ep] at h
 | .agg _::_,ps,h=>by simp[Ep] at h
 | .tup _::_,ps,h=>by simp[Ep] at h
theorem I4 {F:Nat→Prop}{w:World}{b:Nat}:∀{cs:List PV}{vs:List Value}{o:Nat},w.rangeAt b o vs→A6 F w (cs.map .p) vs→BS F w b o cs
 | [],vs,o,_,_=>by simp[BS]
 | c::cs,vs,o,h,hl=>by
  simp only[List.map_cons,A6,BP] at hl;obtain⟨u,us,rfl,h1,h2⟩:=hl;simp only[BS];refine⟨⟨u,by simpa using h 0 u rfl,h1⟩,I4 ?_ h2⟩;intro j v hv;have:=h (j+1) v (by simpa using hv)
  rwa [Nat.add_assoc,Nat.add_comm 1 j]
theorem Ia {F:Nat→Prop}{w:World}{b sz:Nat}:∀{rows:List (List PV)}{vs:List Value}{o:Nat},(∀r∈rows,r.length=sz)→w.rangeAt b o vs→A6 F w (rows.flatten.map .p) vs→A7 F w b sz o rows
 | [],vs,o,_,_,_=>by simp[A7]
 | r::rows,vs,o,hr,h,hl=>by
  simp only[A7];have hlen:=hr r Ag;have e:(r::rows).flatten.map AV.p=r.map .p++rows.flatten.map .p:=by simp
  rw[e] at hl;have h1:=hl.take r.length;have h2:=hl.drop r.length;rw[List.take_left' Ag] at h1;rw[List.drop_left' Ag] at h2;refine⟨hlen,I4 (vs:=vs.take r.length) ?_ h1,Ia (vs:=vs.drop r.length) (fun r' hr'=>hr r' (by simp[hr'])) ?_ h2⟩
  ·intro j v hv;rcases Nat.lt_or_ge j r.length with hj | hj
   ·rw[List.getElem?_take_of_lt hj] at hv;exact h j v hv
   rw[List.getElem?_take_eq_none hj] at hv;cases hv
  intro j v hv;rw[List.getElem?_drop] at hv;have:=h (r.length+j) v hv
  rwa [←Nat.add_assoc,hlen] at this
def chunks {α:Type}(sz:Nat):Nat→List α→List (List α)
 | 0,_=>[]
 | n+1,l=>l.take sz::chunks sz n (l.drop sz)
theorem JD {α:Type}{sz:Nat}:∀{n:Nat}{l:List α},l.length=n*sz→(chunks sz n l).flatten=l∧(∀r∈chunks sz n l,r.length=sz)∧(chunks sz n l).length=n
 | 0,l,h=>by
  have:l=[]:=by simpa using h
  subst this;simp[chunks]
 | n+1,l,h=>by
  rw[Nat.succ_mul] at h;have:=JD (sz:=sz) (n:=n) (l:=l.drop sz) Aa;obtain⟨h1,h2,h3⟩:=this;refine⟨by simp[chunks,h1],?_,by simp[chunks,h3]⟩;intro r hr;simp only[chunks,List.mem_cons] at hr;rcases hr with rfl | hr
  ·simp;omega
  exact h2 r hr
theorem Wu {F:Nat→Prop}{w:World}{sz:Nat}{rows:List (List PV)}{vs:List Value}{T:TypeId}{c:Nat}(hbd:∀b,F b→b<w.heap.size) (hr:∀r∈rows,r.length=sz) (hl:A6 F w (rows.flatten.map .p) (vs.take (rows.flatten.length)))
  (hc:rows.length≤c):BP F (World.push w (.cells ⟨vs⟩ T (0,0))) (.p (.lst rows)) (.slice (some ⟨w.heap.size,0,none⟩) rows.length c):=by
 simp only[BP,BN];right;refine⟨w.heap.size,0,c,sz,O,?_,by simp[World.push],hc,?_⟩
 ·grind
 refine Ia (vs:=vs.take (rows.flatten.length)) hr ?_ (A6.mono (F6 _ fun b h=> .inl h) _ _ hl);have:=HH (Ix (w:=w) (.cells ⟨vs⟩ T (0,0))) 0 rows.flatten.length;simpa using this
theorem G6 (zs:List Value) (n:Nat):((Array.range (n*zs.length)).map fun i=>(⟨zs⟩:Array Value)[i % (⟨zs⟩:Array Value).size]!).toList=(List.replicate n zs).flatten:=by
 induction n with
 | zero=>simp
 | succ n ih =>
  rw[Nat.succ_mul,List.replicate_succ',List.flatten_append];simp only[Array.toList_map,Array.toList_range] at ih ⊢;rw[List.range_add,List.map_append,ih];congr 1;simp only[List.map_map,List.flatten_cons,List.flatten_nil,List.append_nil];apply List.ext_getElem
  ·simp
  intro i h1 h2;simp at h1 h2;simp[Nat.mod_eq_of_lt h1,Nat.add_mod,h1]
theorem FH {F:Nat→Prop}{w:World}{xs:List AV}{vs:List Value}(h:A6 F w xs vs):∀n,A6 F w (List.replicate n xs).flatten (List.replicate n vs).flatten
 | 0=>by simp[A6]
 | n+1=>by
  simp only[List.replicate_succ,List.flatten_cons];exact h.append (FH h n)
theorem Ay {T e:TypeId}{len sz bytes:Nat}{parts:Array (Nat×Operand)}{z:Value}{cs:List AV}{ps:List PV}{rows:List (List PV)}(hT:D0 P T=some (e,sz,bytes)) (hz:zeroOf P e=some z) (hsz:z.cells.size=sz) (hpos:(Nat.blt 0 sz&&Nat.ble (len*sz) 16777216)=true)
  (hc:D2 (fun i=>some (i*sz,sz)) (List.replicate len (z.cells.toList.map EZ)).flatten (parts.toList.map fun p=>(p.1,norm (ρ p.2)))=some cs) (hp:Ep cs=some ps) (hr:chunks sz len ps=rows) :
  Ce P ⟨dst,.buildSlice T len parts,ty,pos,aft,g⟩ ρ H (.p (.lst rows)) H :=
 FN fun F w E hH hE=>by
  have ⟨hu,i,hi,hs,hby⟩:=Dw hT;simp only[Bool.and_eq_true,Nat.blt_eq,Nat.ble_eq] at hpos;unfold zeroOf at hz;have hz':∃j,P.info? e=some j∧j.zero=some z:=by
   grind
  have ⟨j,hj,hz'⟩:=hz';have hzv:(zeroValue e).run P w= .ok z w:=by simp[zeroValue,typeInfo,hj,hz',Sem.run_bind]
  have hzl:A6 F w (List.replicate len (z.cells.toList.map EZ)).flatten (List.replicate len z.cells.toList).flatten:=FH (E7 _) len;have ⟨us,hf,hrep⟩:=Gx (F:=F) (w:=w) (place:=fun i=>some (i*sz,sz)) _ (parts.toList.map fun p=>(p.1,E p.2)) _ _ _ Ag (by
   intro j p q h1 h2;simp only[List.getElem?_map] at h1 h2;cases hj:parts.toList[j]? with
   | none=>simp[hj] at h1
   | some t =>
    simp[hj] at h1 h2;subst h1;subst h2;exact⟨O,(hE _ (by
     have:=List.mem_of_getElem? hj;simp only[Op.operands];exact List.mem_map.2 ⟨t,this,O⟩)).norm⟩) hzl hc
  have hcs:=Fg hp;have hlen:ps.length=len*sz:=by
   have h1:cs.length=((List.replicate len (z.cells.toList.map EZ)).flatten).length:=by
    clear hrep hp hcs hzl hf;generalize (List.replicate len (z.cells.toList.map EZ)).flatten=l at hc;generalize (parts.toList.map fun p=>(p.1,norm (ρ p.2)))=q at hc
    induction q generalizing l with
    | nil=>simp[D2] at hc;rw[hc]
    | cons a q ih =>
     grind [D2,DA,Et]
   grind [List.length_map,List.length_flatten,List.map_replicate,List.sum_replicate_nat,Array.length_toList]
  have ⟨c1,c2,c3⟩:=JD hlen;rw[hr] at c1 c2 c3;have hul:us.length=ps.length:=by rw[hrep.length,hcs];simp
  refine⟨_,_,.p (.lst rows),H,F,?_,⟨O,O⟩,SV H (.cells ⟨us⟩ e (0,0)),Ts hH _,Wu (c:=len) hH.bd c2 (by rw[c1,←hul,List.take_length];rw[hcs] at hrep;exact hrep) Af⟩;have hszr:(sizeOf e).run P w= .ok sz w:=by simp[sizeOf,typeInfo,hi,hs]
  have hzc:z.cells=⟨z.cells.toList⟩:=rfl;have hrm:=G6 z.cells.toList len;have hsz2:z.cells.toList.length=sz:=by simpa using hsz
  rw[hsz2] at hrm;have harr:((Array.range (len*sz)).map fun i=>z.cells[i % z.cells.size]!)=⟨(List.replicate len z.cells.toList).flatten⟩:=by
   grind
  simp only[execOp,Instr.buildSlice,Sem.run_bind,run_underlying hu,Result.andThen_ok,hszr];rw[if_neg Af];simp only[Sem.run_pure,Result.andThen_ok,Sem.run_bind,pure_bind];have hf':Instr.fill (fun i=>some (i*sz,sz)) ⟨(List.replicate len z.cells.toList).flatten⟩ (parts.map fun p=>(p.1,E p.2)).toList=some ⟨us⟩:=by
   rw[←hf];simp
  by_cases h00:len*sz=0
  ·have hl0:len=0:=by
    grind [Nat.mul_eq_zero.1]
   subst hl0;simp only[Nat.zero_mul,if_true];simp only[List.replicate_zero,List.flatten_nil] at hf';have e0:(Array.map (fun x=>(#[]:Array Value)[x % (#[]:Array Value).size]!) (Array.range 0))=(⟨[]⟩:Array Value):=by simp
   rw[e0,hf'];simp only[newRow,newObj,Sem.run_bind,Sem.run,Result.andThen,Sem.run_pure];rw[c3];rfl
  rw[if_neg h00];simp only[Sem.run_bind,hzv,Result.andThen_ok];rw[harr,hf'];simp only[newRow,newObj,Sem.run_bind,Sem.run,Result.andThen,Sem.run_pure];rw[c3];rfl
end
section
variable {P:Program}{r:Option Nat}{ops:Array Oper}{Q:Bd→As→Prop}{k:Nat}{n:Nat}{τ:Nat→AV}{H H':List Aj}{D:List Cb}{dst:Option Tmp}{op:Op}{ty:TypeId}{pos:String}{aft:Array Edge}{g:Option (Nat×Bool)}{v:AV}
theorem dA {cs:List AV}(ho:ops[k]?=some ⟨dst,op,ty,pos,aft,none⟩) (hd:D9 dst n=true) (h:CL P ⟨dst,op,ty,pos,aft,none⟩ (ev τ) H (Hl cs H))
  (next:∀b,AL P r ops (k+1) ⟨n,put τ dst (.ptr b 0),.box b cs::H,D⟩ Q):AL P r ops k ⟨n,τ,H,D⟩ Q :=
 EC (S:=⟨n,τ,H,D⟩) ho AZ (FK hd) h (fun v H' ⟨b,h1,h2⟩=>by subst h1;subst h2;exact next b) (fun _ _ h=>h.elim)
theorem Bz {cs:List AV}(ho:(ops[k]?,D9 dst n)=(some ⟨dst,op,ty,pos,aft,none⟩,true)) (h:CL P ⟨dst,op,ty,pos,aft,none⟩ (ev τ) H (Hl cs H))
  (next:∀b,AL P r ops (k+1) ⟨n,put τ dst (.ptr b 0),.box b cs::H,D⟩ Q):AL P r ops k ⟨n,τ,H,D⟩ Q:=by grind [dA]
theorem B6 {x:Operand}(ho:(ops[k]?,D9 dst n,ev τ x)=(some ⟨dst,.move x,ty,pos,aft,none⟩,true,v))
  (next:AL P r ops (k+1) ⟨n,put τ dst v,H,D⟩ Q):AL P r ops k ⟨n,τ,H,D⟩ Q:=Im (congrArg Prod.fst ho) (congrArg (·.2.1) ho) (Be (congrArg (·.2.2) ho)) next
theorem FY {x:Operand}(ho:(ops[k]?,D9 dst n,ev τ x)=(some ⟨dst,.assign x,ty,pos,aft,none⟩,true,v))
  (next:AL P r ops (k+1) ⟨n,put τ dst v,H,D⟩ Q):AL P r ops k ⟨n,τ,H,D⟩ Q:=Im (congrArg Prod.fst ho) (congrArg (·.2.1) ho) (Nj (congrArg (·.2.2) ho)) next
theorem DX {b:Bool}{x y z:Operand}(ho:(ops[k]?,D9 dst n,ev τ x,bif b then ev τ y else ev τ z)=(some ⟨dst,.pick x y z,ty,pos,aft,none⟩,true,.p (.bool b),v))
  (next:AL P r ops (k+1) ⟨n,put τ dst v,H,D⟩ Q):AL P r ops k ⟨n,τ,H,D⟩ Q:=Im (congrArg Prod.fst ho) (congrArg (·.2.1) ho) (FG (congrArg (·.2.2.1) ho) (congrArg (·.2.2.2) ho)) next
theorem Mh {xs:List AV}{i:Nat}{x:Operand}(ho:(ops[k]?,D9 dst n,ev τ x,xs[i]?)=(some ⟨dst,.extract x i,ty,pos,aft,none⟩,true,.tup xs,some v))
  (next:AL P r ops (k+1) ⟨n,put τ dst v,H,D⟩ Q):AL P r ops k ⟨n,τ,H,D⟩ Q:=Im (congrArg Prod.fst ho) (congrArg (·.2.1) ho) (MN (congrArg (·.2.2.1) ho) (congrArg (·.2.2.2) ho)) next
def iJ (v:AV):DL→List Aj→Prop
 | .val v',H'=>v'=v∧H'=[]
 | .panic _,_=>False
abbrev EE (P:Program) (f:FuncId) (args:List AV) (v:AV):Prop:=BO P f args [] (iJ v)
theorem Tp {c:Call}{f:Operand}{fid:FuncId}{ρ:Operand→AV}{A:List AV}(hc:c.callee= .value f) (hf:ρ f= .p (.fn fid)) (h:EE P fid A v) (hA:c.args.toList.map ρ=A∨(c.args.toList.map ρ).map norm=A) :
  Ce P ⟨dst,.call c,ty,pos,aft,g⟩ ρ H v H:=by
 refine(FQ (H:=H) (Hs:=[]) (Hf:=H) (first:=[]) (caps:=[]) hc (.inl ⟨hf,O,O⟩) (A:=A) Ag h (by simpa using hA)).mono ?_;rintro r H' ⟨Hs',h1,rfl⟩;cases r with
 | val v'=>obtain⟨rfl,rfl⟩:=h1;exact⟨rfl,rfl⟩
 | panic v'=>exact h1
theorem BM {c:Call}{f:Operand}{fid:FuncId}{ρ:Operand→AV}{A:List AV}(hc:c.callee= .value f) (hf:ρ f= .p (.fn fid)) (h:EE P fid A v) (hA:c.args.toList.map ρ=A) :
  Ce P ⟨dst,.call c,ty,pos,aft,g⟩ ρ H v H:=Tp hc hf h (.inl hA)
theorem LR {c:Call}{f:Operand}{fid:FuncId}{first caps:List AV}{Hs Hf:List Aj}{A:List AV}{R:DL→List Aj→Prop}
  (ho:ops[k]?=some ⟨dst,.call c,ty,pos,aft,none⟩) (hd:D9 dst n=true)
  (hc:c.callee= .value f) (hf:(ev τ f= .p (.fn fid)∧first=[]∧caps=[])∨ev τ f= .fn (.func fid) first caps) (hp:H.Perm (Hs++Hf)) (h:BO P fid A Hs R) (hA:first++c.args.toList.map (ev τ)++caps=A∨(first++c.args.toList.map (ev τ)++caps).map norm=A)
  (next:∀v H',R (.val v) H'→AL P r ops (k+1) ⟨n,put τ dst v,H'++Hf,D⟩ Q) (pan:∀v H',R (.panic v) H'→Q (.panic v) ⟨n,τ,H'++Hf,D⟩):AL P r ops k ⟨n,τ,H,D⟩ Q :=
 EC (S:=⟨n,τ,H,D⟩) ho AZ (FK hd) (FQ hc hf hp h hA) (fun v H' ⟨Hs',h1,h2⟩=>by subst h2;exact next v Hs' h1) (fun v H' ⟨Hs',h1,h2⟩=>by subst h2;exact pan v Hs' h1)
end
section
variable {P:Program}{dst:Option Tmp}{ty:TypeId}{pos:String}{aft:Array Edge}{g:Option (Nat×Bool)}{ρ:Operand→AV}{H:List Aj}{x y z:Operand}{v:AV}
theorem U7 {m n:Int}{T U:TypeId}(hx:ρ x= .p (.int .i64 m)) (hy:ρ y= .p (.int .i64 n)) (h1: -9223372036854775808≤m+n) (h2:m+n≤9223372036854775807) :
  Ce P ⟨dst,.binOp .add T x y U,ty,pos,aft,g⟩ ρ H (.p (.int .i64 (m+n))) H:=LZ hx hy rfl h1 h2
theorem ZI {m n:Int}{T U:TypeId}(hx:ρ x= .p (.int .i64 m)) (hy:ρ y= .p (.int .i64 n)) (h1: -9223372036854775808≤m - n) (h2:m - n≤9223372036854775807) :
  Ce P ⟨dst,.binOp .sub T x y U,ty,pos,aft,g⟩ ρ H (.p (.int .i64 (m - n))) H:=LZ hx hy rfl h1 h2
theorem aa {m n:Int}{T U:TypeId}(hx:ρ x= .p (.int .i64 m)) (hy:ρ y= .p (.int .i64 n)) (h1: -9223372036854775808≤m*n) (h2:m*n≤9223372036854775807) :
  Ce P ⟨dst,.binOp .mul T x y U,ty,pos,aft,g⟩ ρ H (.p (.int .i64 (m*n))) H:=LZ hx hy rfl h1 h2
end
section
variable {P:Program}{r:Option Nat}{ops:Array Oper}{Q:Bd→As→Prop}{n:Nat}{τ:Nat→AV}{H:List Aj}{D:List Cb}
def X6 (τ' τ:Nat→AV):List Nat→Prop
 | []=>True
 | t::r=>τ' t=τ t∧X6 τ' τ r
theorem Me {τ' τ:Nat→AV}:∀{l:List Nat},X6 τ' τ l→Rq τ' (l.map fun t=>(t,τ t))
 | [],_=>trivial
 | t::r,h=>⟨h.1,Me h.2⟩
end
theorem U1 {P:Program}{r:Option Nat}{c:Code}{S:As}{Q:Bd→As→Prop}(N:Nat) (St:Nat→As) (i₀:Nat) (h₀:i₀≤N) (l:Le S (St i₀))
  (round:∀i,i≤N→GF P r c (St i) (HU (fun S'=>i<N∧Le S' (St (i+1))) Q)):GF P r (.loop c) S Q:=by
 refine PC (fun m S=>∃i,i≤N∧m=N - i∧S=St i) (m:=N - i₀) l ⟨i₀,h₀,O,O⟩ ?_;rintro m S ⟨i,hi,rfl,rfl⟩;refine(round i hi).mono ?_;intro e S' h;cases e with
 | normal =>
  have ⟨h1,h2⟩:=h;exact⟨N - (i+1),St (i+1),by omega,h2,i+1,by omega,rfl,rfl⟩
 | exit id=>exact h
 | ret=>exact h
 | panic v=>exact h
theorem Bq {P:Program}{S:As}{t:Nat}{v:AV}(h:S.τ t=v):M1 P S [.tmp t] [v]:=⟨v,[],rfl,h,rfl⟩
end Go.Abs
namespace Go.Eu
open Go.Abs
structure CN where
 index:Int
 plus:Int
 deriving DecidableEq,Inhabited
structure DK where
 const:Int
 vars:List CN
 deriving DecidableEq,Inhabited
inductive Tm where
 | mk (kind index:Int) (name:ByteArray) (levels:List DK) (kids:List Tm)
 deriving Inhabited
def Tm.kind:Tm→Int | .mk k _ _ _ _=>k
def Tm.index:Tm→Int | .mk _ i _ _ _=>i
def Tm.name:Tm→ByteArray | .mk _ _ n _ _=>n
def Tm.levels:Tm→List DK | .mk _ _ _ l _=>l
def Tm.kids:Tm→List Tm | .mk _ _ _ _ k=>k
abbrev I (n:Int):PV:= .int .i64 n
def Mu (v:CN):List PV:=[I v.index,I v.plus]
def Dd (l:DK):List PV:=[I l.const,.lst (l.vars.map Mu)]
mutual
def BB:Tm→List PV
 | .mk k i n l ks=>[I k,I i,.str n,.lst (l.map Dd),.lst (A0 ks)]
def A0:List Tm→List (List PV)
 | []=>[]
 | t::ts=>BB t::A0 ts
end
theorem Cl:∀ts:List Tm,A0 ts=ts.map BB
 | []=>rfl
 | t::ts=>by simp[A0,Cl ts]
theorem An (t:Tm):(BB t).length=5:=by cases t;rfl
theorem Av (ts:List Tm):(A0 ts).length=ts.length:=by simp[Cl]
theorem B9 {ts:List Tm}{i:Nat}{t:Tm}(h:ts[i]?=some t):(A0 ts)[i]?=some (BB t):=by simp[Cl,h]
theorem JP (l:DK):(Dd l).length=2:=rfl
theorem pI {a b:Int}(h:a=b):AV.p (I a)= .p (I b):=by rw[h]
theorem pB {a b:Bool}(h:a=b):AV.p (.bool a)= .p (.bool b):=by rw[h]
abbrev TV (t:Tm):AV:= .agg ((BB t).map .p)
mutual
def size:Tm→Nat
 | .mk _ _ _ _ ks=>1+Aq ks
def Aq:List Tm→Nat
 | []=>0
 | t::ts=>size t+Aq ts
end
theorem E3 {ts:List Tm}{i:Nat}{t:Tm}(h:ts[i]?=some t):Aq (ts.take (i+1))=Aq (ts.take i)+size t:=by
 induction ts generalizing i with
 | nil=>simp at h
 | cons a ts ih =>
  cases i with
  | zero=>simp at h;subst h;simp[Aq]
  | succ i=>simp at h;simp only[List.take_succ_cons,Aq,ih h];omega
theorem H7 {ts:List Tm}(i:Nat):Aq (ts.take i)≤Aq ts:=by
 induction ts generalizing i with
 | nil=>simp[Aq]
 | cons a ts ih =>
  cases i with
  | zero=>simp[Aq]
  | succ i=>simp only[List.take_succ_cons,Aq];have:=ih i;omega
theorem size_pos (t:Tm):1≤size t:=by cases t;simp[size]
theorem DN:∀(ts:List Tm),ts.length≤Aq ts
 | []=>by simp
 | t::ts=>by have:=DN ts;have:=size_pos t;simp only[List.length_cons,Aq];omega
theorem BW {ts:List Tm}{i:Nat}{t:Tm}(h:ts[i]?=some t):size t≤Aq ts:=by
 have:=E3 h
 grind [H7]
end Go.Eu
namespace Go.Abs
inductive Sp where
 | skip
 | free (v:AV)
 | read (obs:List Aj) (v:AV)
 | eff (v:AV) (H':List Aj)
def Sp.val:Sp→AV
 | .skip=> .tup []
 | .free v | .read _ v | .eff v _=>v
def Sp.isEff:Sp→Bool
 | .eff ..=>true
 | _=>false
def EX (o:Oper):List Nat:=(o.after.toList.filter (Region.binds .any)).map (·.on)
inductive Pred (ops:Array Oper):Nat→Nat→Prop where
 | base {j i:Nat} {o:Oper} (ho:ops[i]?=some o) (hj:j∈EX o):Pred ops j i
 | trans {j k i:Nat}:Pred ops j k→Pred ops k i→Pred ops j i
def looks (ops:Array Oper) (o:Oper):List Tmp:=o.looksAt ops
def τS (ops:Array Oper) (sp:List Sp) (τ₀:Nat→AV):Nat→Nat→AV
 | 0=>τ₀
 | k+1=>put (τS ops sp τ₀ k) ((ops[k]?).bind (·.dst)) ((sp.getD k .skip).val)
def Hw (sp:List Sp) (H₀:List Aj):Nat→List Aj
 | 0=>H₀
 | k+1=>match sp.getD k .skip with
  | .eff _ H'=>H'
  | _=>Hw sp H₀ k
def YE (P:Program) (ops:Array Oper) (o:Oper) (τ:Nat→AV) (H:List Aj):Sp→Prop
 | .skip=>∃j want d,o.guard=some (j,want)∧(ops[j]?).bind (·.dst)=some d∧eN (τ d) want
 | .free v=>DI ops ⟨0,τ,[],[]⟩ o∧∀H,Ce P o (ev τ) H v H
 | .read obs v=>DI ops ⟨0,τ,[],[]⟩ o∧(∀ob∈obs,ob∈H)∧∀H,(∀ob∈obs,ob∈H)→Ce P o (ev τ) H v H
 | .eff v H'=>DI ops ⟨0,τ,[],[]⟩ o∧Ce P o (ev τ) H v H'
structure eM (ops:Array Oper) (n:Nat):Prop where
 dst:∀(k:Nat) o t,ops[k]?=some o→o.dst=some t→t<n
 c0:∀(i:Nat) o j,ops[i]?=some o→j∈EX o→j<i
 c1:∀(i k:Nat) o o' t,ops[i]?=some o→ops[k]?=some o'→t∈looks ops o→o'.dst=some t→k≠i→(k<i→Pred ops k i)∧(i<k→Pred ops i k)
 c2:∀(i k:Nat) o o' t,ops[i]?=some o→ops[k]?=some o'→o.dst=some t→o'.dst=some t→i=k
structure fk (P:Program) (ops:Array Oper) (n:Nat) (Ex:Nat→Prop) (τ₀:Nat→AV) (H₀:List Aj) (sp:List Sp):Prop extends eM ops n where
 run:∀(k:Nat) o,ops[k]?=some o→Ex k→YE P ops o (τS ops sp τ₀ k) (Hw sp H₀ k) (sp.getD k .skip)
 c3:∀(i k:Nat),i<k→k<ops.size→(sp.getD i .skip).isEff=true→(sp.getD k .skip).isEff=true→Pred ops i k
 c4:∀(i e:Nat) obs v ob,i<ops.size→e<ops.size→sp.getD i .skip= .read obs v→ob∈obs→(sp.getD e .skip).isEff=true→(Pred ops e i∨Pred ops i e)∨(ob∈Hw sp H₀ e∧ob∈Hw sp H₀ (e+1))
section
variable {P:Program}{r:Option Nat}{ops:Array Oper}{Q:Exit→Act→World→Prop}
theorem Va (I:Array Bool→Act→World→Prop) (hsz:∀l a w,I l a w→l.size=ops.size)
  (hstep:∀l a w,I l a w→∀i∈Region.ready .any ops l,wpOpIn (W r) 0 P ops Q i (I (l.setIfInBounds i true)) a w)
  (hend:∀l a w,I l a w→Region.ready .any ops l=[]→Q .normal a w) :
  ∀(fuel:Nat) (l:Array Bool) (a:Act) (w:World),I l a w→(l.toList.filter (!·)).length≤fuel→wpAnyIn (W r) 0 P .any ops Q fuel l a w:=by
 intro fuel
 induction fuel with
 | zero =>
  intro l a w h hf;have hr:Region.ready .any ops l=[]:=by
   have hall:∀x∈l.toList,x=true:=by
    intro x hx;cases x with
    | true=>rfl
    | false =>
     have:false∈l.toList.filter (!·):=List.mem_filter.2 ⟨hx,rfl⟩;have h0:l.toList.filter (!·)=[]:=by
      apply List.eq_nil_of_length_eq_zero;omega
     rw[h0] at this;cases this
   unfold Region.ready;rw[List.filter_eq_nil_iff];intro i hi;have hi':i<l.size:=by rw[hsz l a w h];simpa using hi
   have hli:l[i]=true:=hall _ Ag;simp[hi',hli]
  exact⟨hr,hend l a w h hr⟩
 | succ fuel ih =>
  intro l a w h hf;refine⟨hend l a w h,fun i hi=>?_⟩;refine wpOpIn_mono (fun a' w' h'=>ih _ a' w' h' ?_) (hstep l a w h i hi);have hm:=(mem_ready.1 hi).1;have hi':i<l.size:=by
   rcases Nat.lt_or_ge i l.size with h | h
   ·exact h
   simp[Array.getElem?_eq_none h] at hm
  have hfalse:l[i]=false:=by simpa [hi'] using hm
  have e:(l.setIfInBounds i true).toList=l.toList.set i true:=by simp
  rw[e];have hlt:i<l.toList.length:=by simpa using hi'
  have hl:l.toList=l.toList.take i++false::l.toList.drop (i+1):=by
   grind [List.take_append_drop,List.drop_eq_getElem_cons]
  have hs:l.toList.set i true=l.toList.take i++true::l.toList.drop (i+1):=by
   rw[List.set_eq_take_append_cons_drop,if_pos hlt]
  grind
end
section
variable {P:Program}{ops:Array Oper}{n:Nat}{Ex:Nat→Prop}{τ₀:Nat→AV}{H₀:List Aj}{sp:List Sp}{D:List Cb}
theorem Pred.lt (hd:eM ops n) {j i:Nat}(h:Pred ops j i):j<i:=by
 induction h with
 | base ho hj=>exact hd.c0 _ _ _ ho hj
 | trans _ _ h1 h2=>omega
def Down (ops:Array Oper) (L:Nat→Prop):Prop:=∀(i:Nat) o j,ops[i]?=some o→L i→j∈EX o→L j
theorem Down.pred {L:Nat→Prop}(hL:Down ops L) {j i:Nat}(h:Pred ops j i):L i→L j:=by
 induction h with
 | base ho hj=>exact fun hi=>hL _ _ _ ho hi hj
 | trans _ _ h1 h2=>exact fun hi=>h1 (h2 hi)
def MM (ops:Array Oper) (sp:List Sp) (τ₀:Nat→AV) (L:Nat→Prop) (τ:Nat→AV):Prop :=
 ∀t,(∀(k:Nat) o,ops[k]?=some o→o.dst=some t→L k→τ t=(sp.getD k .skip).val)∧((∀(k:Nat) o,ops[k]?=some o→o.dst=some t→¬L k)→τ t=τ₀ t)
theorem Nh {t d:Nat}(h:t≠d):Nat.beq t d=false:=by grind [Nat.eq_of_beq_eq_true]
theorem MM.put (hd:eM ops n) {L:Nat→Prop}{τ:Nat→AV}(h:MM ops sp τ₀ L τ) {i:Nat}{o:Oper}(ho:ops[i]?=some o) :
  MM ops sp τ₀ (fun k=>L k∨k=i) (Abs.put τ o.dst (sp.getD i .skip).val):=by
 intro t;by_cases ht:o.dst=some t
 ·have e:Abs.put τ o.dst (sp.getD i .skip).val t=(sp.getD i .skip).val:=by
   rw[ht];simp[Abs.put]
  refine⟨fun k o' ho' hk _=>?_,fun hn=>absurd (.inr O) (hn i o ho ht)⟩;rw[e,hd.c2 i k o o' t ho ho' ht hk]
 have e:Abs.put τ o.dst (sp.getD i .skip).val t=τ t:=by
  cases hq:o.dst with
  | none=>rfl
  | some d =>
   have hne:t≠d:=fun e=>ht (by rw[hq,e]);simp[Abs.put,Nh hne]
 rw[e];refine⟨fun k o' ho' hk hl=>?_,fun hn=>(h t).2 fun k o' ho' hk hl=>hn k o' ho' hk (.inl hl)⟩;rcases hl with hl | rfl
 ·exact(h t).1 k o' ho' hk hl
 grind
theorem Q3 (hd:eM ops n):∀k,k≤ops.size→MM ops sp τ₀ (fun j=>j<k) (τS ops sp τ₀ k)
 | 0,_=>fun t=>⟨fun k o _ _ h=>absurd h Af,fun _=>rfl⟩
 | k+1,hk=>by
  have ho:ops[k]?=some ops[k]:=Array.getElem?_eq_getElem Af;have:=(Q3 hd k Af).put hd ho;have e:τS ops sp τ₀ (k+1)=Abs.put (τS ops sp τ₀ k) (ops[k]).dst (sp.getD k .skip).val:=by
   simp only[τS,ho,Option.bind_some]
  rw[e];intro t;refine⟨fun j o hj ht hl=>(this t).1 j o hj ht Af,fun hn=>(this t).2 fun j o hj ht hl=>hn j o hj ht Af⟩
theorem Vw (hd:eM ops n) {L:Nat→Prop}(hL:Down ops L) {τ:Nat→AV}(h:MM ops sp τ₀ L τ) {i:Nat}{o:Oper}(ho:ops[i]?=some o) (hi:¬L i) (hr:∀j∈EX o,L j) {t:Nat}(ht:t∈looks ops o) :
  τ t=τS ops sp τ₀ i t:=by
 have hlt:i<ops.size:=by
  grind
 have hS:=Q3 (sp:=sp) (τ₀:=τ₀) hd i Af t;have hpre:∀j,Pred ops j i→L j:=by
  intro j hj;cases hj with
  | base ho' hj =>
   grind
  | @trans _ k _ h1 h2 =>
   have:∀{a b},Pred ops a b→b=i→L a:=by
    intro a b hab
    induction hab with
    | base ho' hj=>intro e;subst e;rw[ho] at ho';injection ho' with ho';subst ho';exact hr _ hj
    | trans p1 _ _ ih2=>intro e;exact hL.pred p1 (ih2 e)
   exact this (h1.trans h2) O
 by_cases hw:∃(k:Nat) (o':Oper),ops[k]?=some o'∧o'.dst=some t
 ·have ⟨k,o',ho',hk⟩:=hw;by_cases hki:k=i
  ·subst hki;have h1:τ t=τ₀ t:=(h t).2 fun j oj hj hjt hlj=>by rw[hd.c2 j k oj o' t hj ho' hjt hk] at hlj;exact hi hlj
   have h2:τS ops sp τ₀ k t=τ₀ t:=hS.2 fun j oj hj hjt hlj=>by rw[hd.c2 j k oj o' t hj ho' hjt hk] at hlj;omega
   rw[h1,h2]
  have hc:=hd.c1 i k o o' t ho ho' ht hk hki;rcases Nat.lt_or_ge k i with hlt' | hge
  ·rw[(h t).1 k o' ho' hk (hpre k (hc.1 hlt')),hS.1 k o' ho' hk hlt']
  have hlt':i<k:=by omega
  have hp:=hc.2 hlt';have h1:τ t=τ₀ t:=(h t).2 fun j oj hj hjt hlj=>by rw[hd.c2 j k oj o' t hj ho' hjt hk] at hlj;exact hi (hL.pred hp hlj)
  have h2:τS ops sp τ₀ i t=τ₀ t:=hS.2 fun j oj hj hjt hlj=>by rw[hd.c2 j k oj o' t hj ho' hjt hk] at hlj;omega
  rw[h1,h2]
 have hw':∀(k:Nat) o',ops[k]?=some o'→o'.dst=some t→False:=fun k o' h1 h2=>hw ⟨k,o',h1,h2⟩;rw[(h t).2 fun k o' h1 h2 _=>hw' k o' h1 h2,hS.2 fun k o' h1 h2 _=>hw' k o' h1 h2]
theorem NR {m:Nat}(h:(sp.getD m .skip).isEff=false):Hw sp H₀ (m+1)=Hw sp H₀ m:=by grind [Hw,Sp.isEff]
theorem SZ {ob:Aj}:∀(d m i:Nat),i=m+d→(∀e,m≤e→e<i→(sp.getD e .skip).isEff=true→ob∈Hw sp H₀ e)→ob∈Hw sp H₀ i→ob∈Hw sp H₀ m
 | 0,m,i,h,_,hi=>by subst h;exact hi
 | d+1,m,i,h,he,hi=>by
  cases hs:(sp.getD m .skip).isEff with
  | true=>exact he m Af Af hs
  | false =>
   rw[←NR hs];exact SZ d (m+1) i Af (fun e h1 h2 h3=>he e Af h2 h3) hi
theorem Xa {ob:Aj}:∀(d i m:Nat),m=i+d→(∀e,i≤e→e<m→(sp.getD e .skip).isEff=true→ob∈Hw sp H₀ (e+1))→ob∈Hw sp H₀ i→ob∈Hw sp H₀ m
 | 0,i,m,h,_,hi=>by subst h;exact hi
 | d+1,i,m,h,he,hi=>by
  have hm:m=(i+d)+1:=by omega
  cases hs:(sp.getD (i+d) .skip).isEff with
  | true=>rw[hm];exact he (i+d) Af Af hs
  | false =>
   rw[hm,NR hs];exact Xa d i (i+d) O (fun e h1 h2 h3=>he e h1 Af h3) hi
theorem Ld:∀(d m i:Nat),i=m+d→(∀e,m≤e→e<i→(sp.getD e .skip).isEff=false)→Hw sp H₀ i=Hw sp H₀ m
 | 0,m,i,h,_=>by subst h;rfl
 | d+1,m,i,h,he=>by
  have hi:i=(m+d)+1:=by omega
  rw[hi,NR (he (m+d) Af Af)];exact Ld d m (m+d) O fun e h1 h2=>he e h1 Af
end
theorem Ff {P:Program}{o:Oper}{r:Option Nat}{a:Act}{w:World}{K K':Act→World→Prop}{Q Q':Exit→Act→World→Prop}(h:o.wpIn (W r) 0 P a w K Q) (hk:∀a w,K a w→K' a w) (hq:∀e a w,Q e a w→Q' e a w):o.wpIn (W r) 0 P a w K' Q':=by
 unfold Oper.wpIn at *;refine⟨h.1,?_⟩;replace h:=h.2;generalize (o.semAt (W r).round a.eval).run P w=rr at *;cases rr with
 | ok n w' =>
  cases n<;>simp only[Oper.uponIn] at h ⊢
  case value v=>exact hk _ _ h
  case skip=>exact hk _ _ h
  case defer d=>exact hk _ _ h
  case enter f args =>
   refine⟨h.1,h.2.mono fun e w'' he=>?_⟩;cases e with
   | returned v=>exact hk _ _ he
   | panicked c=>exact hq _ _ _ he
   | outgrown=>obtain⟨a₀,w₀,h2⟩:=he;exact⟨a₀,w₀,hq _ _ _ h2⟩
  case row row args=>exact⟨h.1,h.2.mono fun v w'' h=>hk _ _ h⟩
  case round l' f tmps assign body =>
   refine⟨h.1,h.2.mono fun e w'' he=>?_⟩;cases e with
   | returned v=>exact hk _ _ he
   | panicked c=>exact hq _ _ _ he
   | outgrown=>obtain⟨a₀,w₀,h2⟩:=he;exact⟨a₀,w₀,hq _ _ _ h2⟩
 | halt x w' =>
  cases x<;>simp only[Oper.uponIn] at h ⊢
  case panic v=>exact hq _ _ _ h
def df (P:Program) (ops:Array Oper) (n:Nat) (D:List Cb) (Q:Bd→As→Prop) (τ₀ τk:Nat→AV) (Hb:List Aj) (o:Oper) (K:AV→List Aj→Prop):Prop :=
 (∃R,DI ops ⟨0,τk,[],[]⟩ o∧CL P o (ev τk) Hb R∧(∀v H',R (.val v) H'→K v H')∧∀v H',R (.panic v) H'→∀τ',(∀t,(∀(k:Nat) o,ops[k]?=some o→o.dst≠some t)→τ' t=τ₀ t)→Q (.panic v) ⟨n,τ',H',D⟩) ∨
 ((∃j want d,o.guard=some (j,want)∧(ops[j]?).bind (·.dst)=some d∧eN (τk d) want)∧K (.tup []) Hb)
theorem Se {P:Program}{r:Option Nat}{ops:Array Oper}{id n:Nat}{τ:Nat→AV}{H:List Aj}{D:List Cb}{Q:Bd→As→Prop}(hm:P.follows .mixedOrders=true) (e:Nat) (he:e≤ops.size) (hd:eM ops n) (late:∀i j,e≤i→i<ops.size→j<i→Pred ops j i)
  {ι:Type} (SP:ι→List Sp) (I:ι→(Nat→Bool)→List Aj→Prop) (h0:∃ix,I ix (fun _=>false) H)
  (step:∀ix l Hb i o,I ix l Hb→i<e→ops[i]?=some o→l i=false→Down ops (fun k=>l k=true)→(∀j,Pred ops j i→l j=true) →
   df P ops n D Q τ (τS ops (SP ix) τ i) Hb o fun v H'=>∃ix',(∀k,l k=true→((SP ix').getD k .skip).val=((SP ix).getD k .skip).val)∧((SP ix').getD i .skip).val=v∧I ix' (fun k=>l k||k==i) H')
  (fin:∀ix l Hb,I ix l Hb→(∀k,k<e→l k=true)→(∀k,e≤k→l k=false)→AL P r ops e ⟨n,τS ops (SP ix) τ e,Hb,D⟩ Q):GF P r (.region id ops true) ⟨n,τ,H,D⟩ Q:=by
 intro F₀ a₀ w₀ hs₀;refine wpIn_region_any hm ?_;have same:Cy F₀ w₀ F₀ { w₀ with drawn:=w₀.drawn+1 }:=⟨Nat.le_refl _,fun _ _ _=>rfl,fun _ h _=>h⟩;have t₀:Trans F₀ H w₀ F₀ H { w₀ with drawn:=w₀.drawn+1 } :=
  ⟨Nat.le_refl _,fun _ _ _=>rfl,fun _ h _=>h,fun _ h=> .inl h,fun o ho b hb=> .inl ⟨o,ho,hb⟩,rfl,rfl,rfl⟩
 have hs₁:D1 F₀ ⟨n,τ,H,D⟩ a₀ { w₀ with drawn:=w₀.drawn+1 } :=
  ⟨hs₀.size,fun t=>BP.mono same _ _ (hs₀.tmp t),hs₀.heap.stable' same (fun _ h=>h) (fun _ _ _ _=>rfl) hs₀.heap.bd,EG.mono same _ _ hs₀.defs⟩
 -- where all of the first part has been carried out,the rest goes in the order of the text
 have conv:∀{l:Array Bool} {a w ix τ' F Hb},(∀j,j<e→l.getD j false=true)→(∀k,e≤k→l.getD k false=false)→I ix (fun k=>l.getD k false) Hb→MM ops (SP ix) τ (fun i=>l.getD i false=true) τ'→D1 F ⟨n,τ',Hb,D⟩ a w→Trans F₀ H w₀ F Hb w →
   wpOpsIn (W r) 0 P ops (post F₀ H w₀ Q) (List.range' e (ops.size - e)) a w:=by
  intro l a w ix τ' F Hb hall hno hI hτ hs ht;have hτe:τ'=τS ops (SP ix) τ e:=by
   funext t;have h2:=Q3 (sp:=SP ix) (τ₀:=τ) hd e he t;by_cases hw:∃(k:Nat) (o':Oper),ops[k]?=some o'∧o'.dst=some t∧k<e
   ·have ⟨k,o',ho',hk,hlt⟩:=hw;rw[(hτ t).1 k o' ho' hk (hall k hlt),h2.1 k o' ho' hk hlt]
   rw[(hτ t).2 fun k o' h1 h2 h3=>(by have h4:l.getD k false=true:=h3;rcases Nat.lt_or_ge k e with h | h;exact hw ⟨k,o',h1,h2,h⟩;rw[hno k h] at h4;cases h4),h2.2 fun k o' h1 h2 h3=>hw ⟨k,o',h1,h2,h3⟩]
  subst hτe;exact DE (fun _ _ _ hq=>EV hs₀.heap.bd ht hq) _ _ _ (fin ix _ Hb hI hall hno F a w hs)
 obtain⟨J,hJ⟩:∃J:Array Bool→Act→World→Prop,J=fun l a w=>l.size=ops.size∧((∃ix Hb τ' F,Down ops (fun k=>l.getD k false=true)∧(∀k,e≤k→l.getD k false=false)∧I ix (fun k=>l.getD k false) Hb∧MM ops (SP ix) τ (fun k=>l.getD k false=true) τ'∧D1 F ⟨n,τ',Hb,D⟩ a w∧Trans F₀ H w₀ F Hb w) ∨
  (∃m,e≤m∧m≤ops.size∧(∀k,k<ops.size→(l.getD k false=true↔k<m))∧wpOpsIn (W r) 0 P ops (post F₀ H w₀ Q) (List.range' m (ops.size - m)) a w)):=⟨_,rfl⟩
 refine Va J (fun l a w h=>by rw[hJ] at h;exact h.1) ?_ ?_ _ _ _ _ ?_ ?_
 ·intro l a w h i hi;rw[hJ] at h;have ⟨hsz,hI⟩:=h;have ⟨hun,o,ho,hall⟩:=mem_ready.1 hi;have hlt:i<ops.size:=by
   rcases Nat.lt_or_ge i ops.size with h | h
   ·exact h
   simp[Array.getElem?_eq_none h] at ho
  have hil:i<l.size:=by omega
  have hnot:l.getD i false=false:=by
   have:l[i]=false:=by simpa [hil] using hun
   simp[hil,this]
  have hr:∀j∈EX o,l.getD j false=true:=by
   intro j hj;simp only[EX,List.mem_map,List.mem_filter] at hj;obtain⟨e,⟨he,hb⟩,rfl⟩:=hj;exact hall e (by simpa using he) hb
  have hpre:(∀{a b},Pred ops a b→l.getD b false=true→l.getD a false=true)→∀j,Pred ops j i→l.getD j false=true:=by
   intro hp j hj;have:∀{a b},Pred ops a b→b=i→l.getD a false=true:=by
    intro a b hab
    induction hab with
    | base ho' hj=>intro e;subst e;rw[ho] at ho';injection ho' with ho';subst ho';exact hr _ hj
    | trans p1 _ _ ih2=>intro e;exact hp p1 (ih2 e)
   exact this hj O
  have hset2:(fun k=>(l.setIfInBounds i true).getD k false)=fun k=>l.getD k false||k==i:=by
   funext k;by_cases hk:k=i
   ·subst hk;simp[hil]
   simp[Array.getElem?_setIfInBounds_ne (Ne.symm hk),hk]
  have hset:∀k,(l.setIfInBounds i true).getD k false=true↔(l.getD k false=true∨k=i):=by
   intro k;rw[congrFun hset2 k];simp
  have hsz':(l.setIfInBounds i true).size=ops.size:=by simp[hsz]
  have goLate:e≤i→(∀k,k<ops.size→(l.getD k false=true↔k<i))→wpOpsIn (W r) 0 P ops (post F₀ H w₀ Q) (List.range' i (ops.size - i)) a w→wpOpIn (W r) 0 P ops (post F₀ H w₀ Q) i (J (l.setIfInBounds i true)) a w:=by
   intro h1 h3 hw;rw[IJ hlt,wpOpsIn_cons] at hw;refine wpOpIn_mono (fun a' w' h'=>by rw[hJ];exact⟨hsz',.inr ⟨i+1,by omega,by omega,fun k hk=>by rw[hset k,h3 k hk];omega,h'⟩⟩) hw
  rcases hI with ⟨ix,Hb,τ',F,hdown,hno,hI,hτ,hs,ht⟩ | ⟨m,hm1,hm2,hm3,hw⟩
  ·have hpre:=hpre fun h1 h2=>hdown.pred h1 h2;rcases Nat.lt_or_ge i e with hie | hie
   ·have hlook:∀t∈looks ops o,τ' t=τS ops (SP ix) τ i t:=fun t ht=>Vw hd hdown hτ ho (by rw[hnot];decide) hr ht;have hops:∀x∈o.op.operands.toList,ev τ' x=ev (τS ops (SP ix) τ i) x:=by
     intro x hx;cases x with
     | tmp t=>exact hlook t (List.mem_append_left _ (List.mem_filterMap.2 ⟨.tmp t,hx,rfl⟩))
     | _=>rfl
    have hguard:∀j want d,o.guard=some (j,want)→(ops[j]?).bind (·.dst)=some d→τ' d=τS ops (SP ix) τ i d:=by
     intro j want d hg hj;refine hlook d (List.mem_append_right _ ?_);simp[hg,hj]
    have close:∀{v H' a' w' F'},(∃ix',(∀k,l.getD k false=true→((SP ix').getD k .skip).val=((SP ix).getD k .skip).val)∧((SP ix').getD i .skip).val=v∧I ix' (fun k=>l.getD k false||k==i) H')→D1 F' ⟨n,put τ' o.dst v,H',D⟩ a' w'→Trans F Hb w F' H' w'→J (l.setIfInBounds i true) a' w':=by
     intro v H' a' w' F' hK h3 h4;have ⟨ix',hag,hv,hI'⟩:=hK;rw[hJ];refine⟨hsz',.inl ⟨ix',H',_,F',?_,fun k hk=>?_,by rw[hset2];exact hI',?_,h3,ht.trans hs₀.heap.bd h4⟩⟩
     ·intro k o' j ho' hk hj;rcases (hset k).1 hk with h | h
      ·exact(hset j).2 (.inl (hdown k o' j ho' h hj))
      subst h;rw[ho] at ho';injection ho' with ho';subst ho';exact(hset j).2 (.inl (hr j hj))
     ·rw[congrFun hset2 k,hno k hk];simp;omega
     have hτ2:MM ops (SP ix') τ (fun k=>l.getD k false=true) τ':=fun t=>⟨fun k o' a1 a2 a3=>by rw[hag k a3];exact(hτ t).1 k o' a1 a2 a3,(hτ t).2⟩;have hτ3:=hτ2.put hd ho;rw[hv] at hτ3;intro t;exact⟨fun k o' a1 a2 a3=>(hτ3 t).1 k o' a1 a2 ((hset k).1 a3),fun hn=>(hτ3 t).2 fun k o' a1 a2 a3=>hn k o' a1 a2 ((hset k).2 a3)⟩
    have hdst:=fun t ht=>hd.dst i o t ho ht;rcases step ix _ Hb i o hI hie ho hnot hdown hpre with ⟨R,hwant,hop,hval,hpan⟩ | ⟨⟨j,want,d,hg,hj,hb⟩,hK⟩
    ·have hwant':DI ops ⟨n,τ',Hb,D⟩ o:=by
      unfold DI at *;cases hg:o.guard with
      | none=>simp[hg]
      | some jw =>
       obtain⟨j,want⟩:=jw;simp only[hg] at hwant ⊢;have ⟨d,h1,h2⟩:=hwant;exact⟨d,h1,by rw[←h2];exact hguard j want d hg h1⟩
     unfold wpOpIn;simp only[ho,Qk hs hwant',if_true];refine Ff (hop r F _ a w hs O (fun x hx=>hops x hx) hdst) ?_ ?_
     ·rintro a' w' ⟨v',H'',F',h1,h3,h4⟩;exact close (hval v' H'' h1) h3 h4
     rintro e' a' w' ⟨v',H'',F',u,h1,rfl,h2,h3,h4⟩;exact⟨.panic v',_,F',hpan v' H'' h1 τ' (fun t hn=>(hτ t).2 fun k o' a1 a2 _=>hn k o' a1 a2),⟨u,O,h2⟩,h3,ht.trans hs₀.heap.bd h4⟩
    have hw:Region.wanted o (yielded ops a.tmps)=false:=SY (S:=⟨n,τ',Hb,D⟩) hs hg hj (by show eN (τ' d) want;rw[hguard j want d hg hj];exact hb);unfold wpOpIn;simp only[ho,hw,Bool.false_eq_true,if_false];refine⟨fun _ _=>Ah,close hK ?_ .refl⟩;exact hs.put hdst ⟨Nat.le_refl _,fun _ _ _=>O,fun _ h _=>h⟩ hs.heap (by simp only[BP,A6,undef];exact⟨[],rfl,rfl⟩)
   have hp:∀j,j<i→l.getD j false=true:=fun j hj=>hpre j (late i j hie hlt hj);have hie':i=e:=by
    rcases Nat.lt_or_ge e i with h | h
    ·have h1:=hp e h;rw[hno e (Nat.le_refl _)] at h1;cases h1
    omega
   subst hie';refine goLate (Nat.le_refl _) (fun k hk=>⟨fun h=>?_,fun h=>hp k h⟩) (conv hp hno hI hτ hs ht);rcases Nat.lt_or_ge k i with h' | h'
   ·exact h'
   rw[hno k h'] at h;cases h
  have hmi:m≤i:=by
   rcases Nat.lt_or_ge i m with h | h
   ·have:=(hm3 i hlt).2 h;rw[hnot] at this;cases this
   exact h
  have him:i=m:=by
   rcases Nat.lt_or_ge m i with h | h
   ·have hpi:=late i m Af hlt h;have hks:∀{k},l.getD k false=true→k<ops.size:=by
     intro k hk;rcases Nat.lt_or_ge k ops.size with h | h
     ·exact h
     have:¬k<l.size:=by omega
     simp[this] at hk
    have:=(hm3 m Af).1 (hpre (fun {a b} h1 h2=>by have h3:=hks h2;have h4:=(hm3 b h3).1 h2;have h5:=h1.lt hd;exact(hm3 a Af).2 Af) m hpi);omega
   omega
  subst him;exact goLate hm1 hm3 hw
 ·intro l a w h hr;rw[hJ] at h;have ⟨hsz,hI⟩:=h;have hall:∀i,i<ops.size→l.getD i false=true:=by
   intro i
   induction i using Nat.strongRecOn with
   | _ i ih =>
    intro hi;cases hq:l.getD i false with
    | true=>rfl
    | false =>
     have ho:ops[i]?=some ops[i]:=Array.getElem?_eq_getElem hi;have:i∈Region.ready .any ops l:=by
      refine mem_ready.2 ⟨?_,ops[i],ho,?_⟩
      ·have:i<l.size:=by omega
       simp[this] at hq ⊢;exact hq
      intro e he hb;have hj:e.on∈EX ops[i]:=by
       simp only[EX,List.mem_map,List.mem_filter];exact⟨e,⟨by simpa using he,hb⟩,rfl⟩
      have hlt:=hd.c0 i _ _ ho hj;exact ih e.on hlt Af
     rw[hr] at this;cases this
  rcases hI with ⟨ix,Hb,τ',F,hdown,hno,hI,hτ,hs,ht⟩ | ⟨m,hm1,hm2,hm3,hw⟩
  ·have hbs:e=ops.size:=by
    rcases Nat.lt_or_ge e ops.size with h | h
    ·have:=hall e h;rw[hno e (Nat.le_refl _)] at this;cases this
    omega
   have:=conv (fun j hj=>hall j Af) hno hI hτ hs ht;rw[hbs,Nat.sub_self] at this;exact this
  have hms:m=ops.size:=by
   rcases Nat.lt_or_ge m ops.size with h | h
   ·have:=(hm3 m h).1 (hall m h);omega
   omega
  rw[hms,Nat.sub_self] at hw;exact hw
 ·have ⟨ix,h0⟩:=h0;have hf:∀k,(Array.replicate ops.size false).getD k false=false:=fun k=>by by_cases h:k<ops.size<;>simp[h]
  rw[hJ];refine⟨by simp,.inl ⟨ix,H,τ,F₀,?_,fun k _=>hf k,by simp only[hf];exact h0,?_,hs₁,t₀⟩⟩
  ·intro i o j ho hi;rw[hf i] at hi;cases hi
  intro t;refine⟨fun k o ho hk hl=>?_,fun _=>O⟩;have h4:(Array.replicate ops.size false).getD k false=true:=hl;rw[hf k] at h4;cases h4
 have:=List.length_filter_le (fun b:Bool=> !b) (Array.replicate ops.size false).toList;simp at this ⊢
theorem XI {P:Program}{r:Option Nat}{ops:Array Oper}{id n:Nat}{τ:Nat→AV}{H:List Aj}{D:List Cb}{Q:Bd→As→Prop}(hm:P.follows .mixedOrders=true) {ι:Type}{Good:ι→Prop}{Ok:ι→Nat→Prop}{Fam:ι→List Sp}{opn:Nat→Bool}
  (hR:∃i,Good i) (hfd:∀i,Good i→fk P ops n (fun k=>(opn k=false∨(Fam i).getD k .skip= .skip)∧∀p,opn p=true→Pred ops p k→Ok i p) τ H (Fam i)) (hskp:∀i p,Good i→(Fam i).getD p .skip= .skip→Ok i p)
  (heff:∀i p,Good i→opn p=true→(Fam i).getD p .skip≠ .skip→p<ops.size→(∀q,opn q=true→Pred ops q p→Ok i q)→((Fam i).getD p .skip).isEff=true)
  (hop:∀i p o,Good i→opn p=true→(Fam i).getD p .skip≠ .skip→ops[p]?=some o→(∀q,opn q=true→Pred ops q p→Ok i q)→∃R,DI ops ⟨0,τS ops (Fam i) τ p,[],[]⟩ o∧CL P o (ev (τS ops (Fam i) τ p)) (Hw (Fam i) H p) R ∧
   (∀v H',R (.val v) H'→∃i',Good i'∧(∀k,k≠p→¬Pred ops p k→(Fam i').getD k .skip=(Fam i).getD k .skip∧(Ok i k→Ok i' k))∧Ok i' p∧(Fam i').getD p .skip= .eff v H') ∧
   (∀v H',R (.panic v) H'→∀τ',(∀t,(∀(k:Nat) o,ops[k]?=some o→o.dst≠some t)→τ' t=τ t)→Q (.panic v) ⟨n,τ',H',D⟩))
  (next:∀i,Good i→(∀p,opn p=true→p<ops.size→Ok i p)→Q .normal ⟨n,τS ops (Fam i) τ ops.size,Hw (Fam i) H ops.size,D⟩):GF P r (.region id ops true) ⟨n,τ,H,D⟩ Q:=by
 have ⟨i₀,hG₀⟩:=hR;obtain⟨I,hI⟩:∃I:ι→(Nat→Bool)→List Aj→Prop,I=fun ix l Hb=>Good ix∧(∀p,opn p=true→l p=true→Ok ix p)∧∃m,m≤ops.size∧(∀e,e<ops.size→((Fam ix).getD e .skip).isEff=true→(l e=true↔e<m))∧Hb=Hw (Fam ix) H m:=⟨_,rfl⟩;refine Se hm ops.size (Nat.le_refl _) (hfd i₀ hG₀).1 (fun i j h1 h2=>absurd h1 Af) Fam I ?_ ?_ ?_
 ·rw[hI];exact⟨i₀,hG₀,fun _ _ h=>by (cases h),0,Nat.zero_le _,fun e _ _=>⟨fun h=>by (cases h),fun h=>by omega⟩,rfl⟩
 ·intro ix l Hb i o h;rw[hI] at h;obtain⟨hG,hOk,m,hm',hst,rfl⟩:=h;intro hlt ho hnot hdown hpre;have hd:=hfd ix hG;have hspp:=heff ix i hG;have hopp:=hop ix i o hG;have hskk:=hskp ix i hG;have hOkp:∀q,opn q=true→Pred ops q i→Ok ix q:=fun q hq hp=>hOk q hq (hpre q hp);have hset:∀k,(l k||k==i)=true↔(l k=true∨k=i):=fun k=>by simp
  have least:((Fam ix).getD i .skip).isEff=true→m≤i∧Hw (Fam ix) H i=Hw (Fam ix) H m:=by
   intro hee;have hmi:m≤i:=by
    grind
   refine⟨hmi,Ld (i - m) m i Af fun e h1 h2=>?_⟩;cases hq:((Fam ix).getD e .skip).isEff with
   | false=>rfl
   | true =>
    have:=(hst e Af hq).1 (hpre e (hd.c3 e i h2 hlt hq hee));omega
  have okl:(opn i=false∨(Fam ix).getD i .skip= .skip)→∀p,opn p=true→(l p||p==i)=true→Ok ix p:=by
   grind
  have stay:((Fam ix).getD i .skip).isEff=false→∀e,e<ops.size→((Fam ix).getD e .skip).isEff=true→((l e||e==i)=true↔e<m):=by
   grind
  by_cases hip:opn i=true∧(Fam ix).getD i .skip≠ .skip
  ·have ⟨R,hwant,hopi,hvals,hpans⟩:=hopp hip.1 hip.2 ho hOkp;have hee:=hspp hip.1 hip.2 hlt hOkp;have ⟨hmi,hconst⟩:=least hee;rw[hconst] at hopi;refine .inl ⟨R,hwant,hopi,fun v H' hR=>?_,hpans⟩;have ⟨ix',hG',hag',hok',hspi'⟩:=hvals v H' hR;have hLn:∀k,l k=true→k≠i∧¬Pred ops i k:=fun k hk=>⟨fun e=>by (subst e;rw[hnot] at hk;cases hk),fun h=>by (have:=hdown.pred h hk;rw[hnot] at this;cases this)⟩;have hag:∀k,l k=true→(Fam ix').getD k .skip=(Fam ix).getD k .skip:=fun k hk=>(hag' k (hLn k hk).1 (hLn k hk).2).1;have hee':((Fam ix').getD i .skip).isEff=true:=by rw[hspi'];rfl
   rw[hI];refine⟨ix',fun k hk=>by rw[hag k hk],by rw[hspi'];rfl,hG',fun p hp hl=>?_,i+1,by omega,fun e he hq=>?_,by simp only[Hw,hspi']⟩
   ·grind
   rw[hset e];refine⟨fun h=>?_,fun h=>?_⟩
   ·grind
   by_cases hei:e=i
   ·exact .inr hei
   exact .inl (hpre e ((hfd ix' hG').c3 e i Af hlt hq hee'))
  have hip:opn i=false∨(Fam ix).getD i .skip= .skip:=by
   grind
  have hrun:=hd.run i o ho ⟨hip,hOkp⟩;have yields:∀{v H' m'},((Fam ix).getD i .skip).val=v→DI ops ⟨0,τS ops (Fam ix) τ i,[],[]⟩ o→Ce P o (ev (τS ops (Fam ix) τ i)) (Hw (Fam ix) H m) v H'→H'=Hw (Fam ix) H m'→m'≤ops.size →
    (∀e,e<ops.size→((Fam ix).getD e .skip).isEff=true→((l e||e==i)=true↔e<m'))→df P ops n D Q τ (τS ops (Fam ix) τ i) (Hw (Fam ix) H m) o (fun v H'=>∃ix',(∀k,l k=true→((Fam ix').getD k .skip).val=((Fam ix).getD k .skip).val)∧((Fam ix').getD i .skip).val=v∧I ix' (fun k=>l k||k==i) H'):=fun {v H' m'} hv hw hop hH h1 h2 =>
   Or.inl ⟨iB v H',hw,hop,fun v' H'' ⟨a,b⟩=>⟨ix,fun _ _=>rfl,by rw[hv,a],by rw[hI];exact⟨hG,okl hip,m',h1,h2,by rw[b,hH]⟩⟩,fun _ _ h=>h.elim⟩
  cases hsp:(Fam ix).getD i .skip with
  | skip =>
   rw[hsp] at hrun;exact .inr ⟨hrun,ix,fun _ _=>O,by rw[hsp];rfl,by rw[hI];exact⟨hG,okl hip,m,hm',stay (by rw[hsp];rfl),rfl⟩⟩
  | free v =>
   rw[hsp] at hrun;exact yields (by rw[hsp];rfl) hrun.1 (hrun.2 _) O hm' (stay (by rw[hsp];rfl))
  | read obs v =>
   rw[hsp] at hrun;have ⟨hwant,hmem,hop⟩:=hrun;refine yields (by rw[hsp];rfl) hwant (hop _ fun ob hob=>?_) O hm' (stay (by rw[hsp];rfl));have hun':∀e,e<ops.size→((Fam ix).getD e .skip).isEff=true→¬Pred ops e i→¬Pred ops i e→ob∈Hw (Fam ix) H e∧ob∈Hw (Fam ix) H (e+1):=by
    intro e he hee h1 h2;rcases hd.c4 i e obs v ob hlt he hsp hob hee with (h | h) | h
    ·exact absurd h h1
    ·exact absurd h h2
    exact h
   have hnl:¬l i=true:=by rw[hnot];exact Bool.false_ne_true
   rcases Nat.le_total m i with hmi | him
   ·refine SZ (i - m) m i Af (fun e h1 h2 h3=>?_) (hmem ob hob);exact(hun' e Af h3 (fun h=>by have:=(hst e Af h3).1 (hpre e h);omega) (fun h=>by have:=h.lt hd.1;omega)).1
   ·refine Xa (m - i) i m Af (fun e h1 h2 h3=>?_) (hmem ob hob);have hel:l e=true:=(hst e Af h3).2 h2;have hne:e≠i:=fun h=>by subst h;exact hnl hel
    exact(hun' e Af h3 (fun h=>by have:=h.lt hd.1;omega) (fun h=>hnl (hdown.pred h hel))).2
  | eff v H' =>
   rw[hsp] at hrun;have hee:((Fam ix).getD i .skip).isEff=true:=by rw[hsp];rfl
   have ⟨hmi,hconst⟩:=least hee;rw[hconst] at hrun;refine yields (m':=i+1) (by rw[hsp];rfl) hrun.1 hrun.2 (by simp only[Hw,hsp]) Af fun e he hq=>?_;rw[hset e,hst e he hq];refine⟨fun h=>by omega,fun h=>?_⟩;rcases Nat.lt_or_ge e m with h' | h'
   ·exact .inl h'
   by_cases hei:e=i
   ·exact .inr hei
   exact .inl ((hst e he hq).1 (hpre e (hd.c3 e i Af hlt hq hee)))
 intro ix l Hb h hall _;rw[hI] at h;obtain⟨hG,hOk,m,hm',hst,rfl⟩:=h;refine Ba (Nat.sub_self _) ?_;have hHe:Hw (Fam ix) H ops.size=Hw (Fam ix) H m:=by
  refine Ld (ops.size - m) m ops.size Af fun e h1 h2=>?_
  grind
 grind
def QV (acc:List Nat) (o:Oper):Nat:=(EX o).foldl (fun m j=>m |||2 ^ j |||acc.getD j 0) 0
def XK:List Nat→List Oper→List Nat
 | acc,[]=>acc
 | acc,o::r=>XK (acc++[QV acc o]) r
def bm (ops:Array Oper):List Nat:=XK [] ops.toList
def Mg (ops:Array Oper) (j i:Nat):Bool:=((bm ops).getD i 0).testBit j
theorem Qs {acc:List Nat}{j:Nat}:∀(l:List Nat) (m:Nat),(l.foldl (fun m j=>m |||2 ^ j |||acc.getD j 0) m).testBit j=true→m.testBit j=true∨∃k∈l,j=k∨(acc.getD k 0).testBit j=true
 | [],m,h=> .inl h
 | k::l,m,h=>by
  rcases Qs l _ h with h | ⟨k',hk,h⟩
  ·simp only[Nat.testBit_or,Nat.testBit_two_pow,Bool.or_eq_true,decide_eq_true_eq] at h;rcases h with (h | h) | h
   ·exact .inl h
   ·exact .inr ⟨k,by simp,.inl h.symm⟩
   exact .inr ⟨k,by simp,.inr h⟩
  exact .inr ⟨k',by simp[hk],h⟩
theorem OL {ops:Array Oper}:∀(r:List Oper) (acc:List Nat),(∀(j:Nat),r[j]?=ops.toList[acc.length+j]?)→(∀i j,(acc.getD i 0).testBit j=true→Pred ops j i) →
  ∀i j,((XK acc r).getD i 0).testBit j=true→Pred ops j i
 | [],acc,_,h=>h
 | o::r,acc,hr,h=>by
  refine OL r _ ?_ ?_
  ·intro j;have:=hr (j+1);simp only[List.getElem?_cons_succ,List.length_append,List.length_singleton] at this ⊢;rw[this];congr 1;omega
  intro i j hb;have ho:ops[acc.length]?=some o:=by
   have:=hr 0;simpa using this.symm
  rcases Nat.lt_trichotomy i acc.length with hlt | heq | hgt
  ·have e:(acc++[QV acc o]).getD i 0=acc.getD i 0:=by simp[List.getD,List.getElem?_append_left hlt]
   rw[e] at hb;exact h i j hb
  ·subst heq;have e:(acc++[QV acc o]).getD acc.length 0=QV acc o:=by simp
   rw[e] at hb;rcases Qs _ _ hb with hb | ⟨k,hk,hb⟩
   ·simp at hb
   rcases hb with rfl | hb
   ·exact .base ho hk
   exact(h k j hb).trans (.base ho hk)
  have e:(acc++[QV acc o]).getD i 0=0:=by
   simp[List.getD,List.getElem?_eq_none (by simp;omega:(acc++[QV acc o]).length≤i)]
  rw[e] at hb;simp at hb
theorem D7 {ops:Array Oper}{j i:Nat}(h:Mg ops j i=true):Pred ops j i :=
 OL ops.toList [] Ag (by intro i j h;simp at h) i j h
def KI (ops:Array Oper) (n:Nat) (effs:List Bool):Bool :=
 let b:=bm ops
 let pr (j i:Nat):Bool:=(b.getD i 0).testBit j
 let l:=ops.toList.zipIdx
 l.all fun(o,i) =>
  (EX o).all (fun j=>Nat.blt j i) &&
  (match o.dst with | some t=>Nat.blt t n | none=>true) &&
  l.all fun(o',k) =>
   (Nat.beq k i||(match o'.dst with
    | some t=> !((looks ops o).contains t)||(if Nat.blt k i then pr k i else pr i k)
    | none=>true)) &&
   (Nat.beq k i||(match o.dst,o'.dst with
    | some t,some t'=> !(Nat.beq t t')
    | _,_=>true)) &&
   (!(Nat.blt i k&&effs.getD i false&&effs.getD k false)||pr i k)
theorem Qo {ops:Array Oper}{n:Nat}{effs:List Bool}(h:KI ops n effs=true) :
  (∀(k:Nat) o t,ops[k]?=some o→o.dst=some t→t<n)∧(∀(i:Nat) o j,ops[i]?=some o→j∈EX o→j<i) ∧
  (∀(i k:Nat) o o' t,ops[i]?=some o→ops[k]?=some o'→t∈looks ops o→o'.dst=some t→k≠i→(k<i→Pred ops k i)∧(i<k→Pred ops i k)) ∧
  (∀(i k:Nat) o o' t,ops[i]?=some o→ops[k]?=some o'→o.dst=some t→o'.dst=some t→i=k) ∧
  (∀(i k:Nat),i<k→k<ops.size→effs.getD i false=true→effs.getD k false=true→Pred ops i k):=by
 unfold KI at h;rw[List.all_eq_true] at h;have at':∀(i:Nat) o,ops[i]?=some o→(o,i)∈ops.toList.zipIdx:=by
  grind
 refine⟨?_,?_,?_,?_,?_⟩
 ·intro k o t ho ht;have:=h _ (at' k o ho);simp only[Bool.and_eq_true] at this
  grind [Nat.blt_eq]
 ·intro i o j ho hj;have:=h _ (at' i o ho);simp only[Bool.and_eq_true] at this
  grind [List.all_eq_true.1,Nat.blt_eq]
 ·intro i k o o' t ho ho' ht hk hki;have:=h _ (at' i o ho);simp only[Bool.and_eq_true] at this;have:=List.all_eq_true.1 this.2 _ (at' k o' ho');simp only[Bool.and_eq_true,Bool.or_eq_true] at this;have:=this.1.1;rcases this with h | h
  ·exact absurd (Nat.eq_of_beq_eq_true h) hki
  rw[hk] at h;simp only[Bool.or_eq_true,Bool.not_eq_true'] at h;rcases h with h | h
  ·grind
  constructor
  ·intro hlt;rw[if_pos (by simpa [Nat.blt_eq] using hlt)] at h;exact D7 h
  intro hlt;rw[if_neg (by simp[Nat.blt_eq];omega)] at h;exact D7 h
 ·intro i k o o' t ho ho' ht hk;have:=h _ (at' i o ho);simp only[Bool.and_eq_true] at this;have:=List.all_eq_true.1 this.2 _ (at' k o' ho');simp only[Bool.and_eq_true,Bool.or_eq_true] at this
  grind [Nat.eq_of_beq_eq_true,Nat.beq_refl]
 intro i k hlt hk hi hke;have ho:ops[i]?=some ops[i]:=Array.getElem?_eq_getElem Af;have ho':ops[k]?=some ops[k]:=Array.getElem?_eq_getElem hk;have:=h _ (at' i _ ho);simp only[Bool.and_eq_true] at this;have:=List.all_eq_true.1 this.2 _ (at' k _ ho');simp only[Bool.and_eq_true,Bool.or_eq_true] at this;have:=this.2;simp only[hi,hke,Bool.and_true,Bool.not_eq_true'] at this;rcases this with h | h
 ·grind [Nat.blt_eq]
 exact D7 h
def GJ (ops:Array Oper) (k:Nat) (H H':List Aj):List (Nat×Aj)→Prop
 | []=>True
 | (i,ob)::r=>(Mg ops i k=true∨(ob∈H∧ob∈H'))∧GJ ops k H H' r
def Sh (ops:Array Oper) (k:Nat) (ob:Aj):List (Nat×List Aj×List Aj)→Prop
 | []=>True
 | (e,H,H')::r=>(Mg ops e k=true∨(ob∈H∧ob∈H'))∧Sh ops k ob r
theorem M9 {ops:Array Oper}{k:Nat}{H H':List Aj}:∀{rd:List (Nat×Aj)}{i ob},GJ ops k H H' rd→(i,ob)∈rd→Mg ops i k=true∨(ob∈H∧ob∈H')
 | [],_,_,_,h=>by cases h
 | (j,ob')::r,i,ob,h,hm=>by
  rcases List.mem_cons.1 hm with e | hm
  ·injection e with e1 e2;subst e1;subst e2;exact h.1
  exact M9 h.2 hm
theorem Ux {ops:Array Oper}{k:Nat}{ob:Aj}:∀{ef:List (Nat×List Aj×List Aj)}{e H H'},Sh ops k ob ef→(e,H,H')∈ef→Mg ops e k=true∨(ob∈H∧ob∈H')
 | [],_,_,_,_,h=>by cases h
 | (j,G,G')::r,e,H,H',h,hm=>by
  rcases List.mem_cons.1 hm with q | hm
  ·injection q with e1 e2;injection e2 with e2 e3;subst e1;subst e2;subst e3;exact h.1
  exact Ux h.2 hm
theorem UN (sp:List Sp) (i:Nat):(sp.map Sp.isEff).getD i false=(sp.getD i .skip).isEff:=by
 induction sp generalizing i with
 | nil=>rfl
 | cons s sp ih =>
  cases i with
  | zero=>rfl
  | succ i=>simpa using ih i
def Sp.heap:Sp→List Aj→List Aj
 | .eff _ H',_=>H'
 | _,H=>H
def Sp.rd:Sp→Nat→List (Nat×Aj)→List (Nat×Aj)
 | .read obs _,k,rd=>obs.map (fun ob=>(k,ob))++rd
 | _,_,rd=>rd
def Sp.ef:Sp→Nat→List Aj→List (Nat×List Aj×List Aj)→List (Nat×List Aj×List Aj)
 | .eff _ H',k,H,ef=>(k,H,H')::ef
 | _,_,_,ef=>ef
def cX (ops:Array Oper) (k:Nat) (H:List Aj) (rd:List (Nat×Aj)) (ef:List (Nat×List Aj×List Aj)):Sp→Prop
 | .read obs _=>∀ob∈obs,Sh ops k ob ef
 | .eff _ H'=>GJ ops k H H' rd
 | _=>True
def D6 (k:Nat) (s:Sp):List (Nat×Sp)→Prop
 | []=>True
 | (j,s')::r=>(bif Nat.beq j k then s=s' else True)∧D6 k s r
def Ct (ops:Array Oper) (p:Nat) (fx:List Nat):Bool:=(List.range ops.size).all fun k=> !(Nat.blt p k)||Mg ops p k||fx.contains k
def KC (k:Nat):List (Nat×Sp)→Bool
 | []=>true
 | (j,_)::r=>Nat.blt j k&&KC k r
theorem QY {k:Nat}:∀{fx:List (Nat×Sp)},KC k fx=true→∀{j s},(j,s)∈fx→j<k
 | [],_,_,_,h=>by cases h
 | (i,t)::r,h,j,s,hm=>by
  simp only[KC,Bool.and_eq_true] at h;rcases List.mem_cons.1 hm with e | hm
  ·injection e with e1 e2;subst e1;exact Nat.le_of_ble_eq_true h.1
  exact QY h.2 hm
abbrev Ot:=List (Nat×Aj)
abbrev O7:=List (Nat×List Aj×List Aj)
inductive Dr (P:Program) (ops:Array Oper) (n:Nat) (τ₀:Nat→AV) (D:List Cb) (Q:Bd→As→Prop) (opn:Nat→Bool):Nat→(Nat→AV)→List Aj→Ot→O7→List Bool→List (Nat×Sp)→Prop where
 | nil {k τ H rd ef effs fx} (hk:k=ops.size) (chk:KI ops n effs.reverse=true) (hq:Q .normal ⟨n,τ,H,D⟩):Dr P ops n τ₀ D Q opn k τ H rd ef effs fx
 | step {k τ H rd ef effs fx o} (s:Sp) (ho:ops[k]?=some o) (hn:opn k=false∨s= .skip) (hok:YE P ops o τ H s) (howe:cX ops k H rd ef s) (hfx:D6 k s fx)
   (next:Dr P ops n τ₀ D Q opn (k+1) (put τ o.dst s.val) (s.heap H) (s.rd k rd) (s.ef k H ef) (s.isEff::effs) fx):Dr P ops n τ₀ D Q opn k τ H rd ef effs fx
 | opn {k τ H rd ef effs fx o} (R:DL→List Aj→Prop) (fx':List (Nat×Sp)) (ho:ops[k]?=some o) (hn:opn k=true) (hw:DI ops ⟨0,τ,[],[]⟩ o) (hop:CL P o (ev τ) H R) (haft:Ct ops k (fx'.map (·.1))=true) (hne:∃v H',R (.val v) H')
   (howe:∀v H',R (.val v) H'→GJ ops k H H' rd) (hfx:∀v H',R (.val v) H'→D6 k (.eff v H') fx)
   (rest:∀v H',R (.val v) H'→Dr P ops n τ₀ D Q opn (k+1) (put τ o.dst v) H' rd ((k,H,H')::ef) (true::effs) (fx'++fx))
   (pan:∀v H',R (.panic v) H'→∀τ',(∀t,(∀(k:Nat) o,ops[k]?=some o→o.dst≠some t)→τ' t=τ₀ t)→Q (.panic v) ⟨n,τ',H',D⟩):Dr P ops n τ₀ D Q opn k τ H rd ef effs fx
 | pan {k τ H rd ef effs fx o} (R:DL→List Aj→Prop) (ho:ops[k]?=some o) (hn:opn k=true) (hw:DI ops ⟨0,τ,[],[]⟩ o) (hop:CL P o (ev τ) H R) (haft:Ct ops k []=true) (chk:KI ops n (true::effs).reverse=true) (hfx:KC k fx=true) (hno:∀v H',¬R (.val v) H') (howe:GJ ops k H H rd)
   (pan:∀v H',R (.panic v) H'→∀τ',(∀t,(∀(k:Nat) o,ops[k]?=some o→o.dst≠some t)→τ' t=τ₀ t)→Q (.panic v) ⟨n,τ',H',D⟩):Dr P ops n τ₀ D Q opn k τ H rd ef effs fx
inductive PJ (P:Program) (ops:Array Oper) (n:Nat) (τ₀:Nat→AV) (D:List Cb) (Q:Bd→As→Prop) (opn:Nat→Bool):Nat→(Nat→AV)→List Aj→Ot→O7→List Bool→List (Nat×Sp)→List (Sp×Bool)→Prop where
 | nil {k τ H rd ef effs fx} (hk:k=ops.size) (chk:KI ops n effs.reverse=true) (hq:Q .normal ⟨n,τ,H,D⟩):PJ P ops n τ₀ D Q opn k τ H rd ef effs fx []
 | step {k τ H rd ef effs fx o r} (s:Sp) (ho:ops[k]?=some o) (hn:opn k=false∨s= .skip) (hok:YE P ops o τ H s) (howe:cX ops k H rd ef s) (hfx:D6 k s fx)
   (next:PJ P ops n τ₀ D Q opn (k+1) (put τ o.dst s.val) (s.heap H) (s.rd k rd) (s.ef k H ef) (s.isEff::effs) fx r):PJ P ops n τ₀ D Q opn k τ H rd ef effs fx ((s,true)::r)
 | opn {k τ H rd ef effs fx o r} (R:DL→List Aj→Prop) (fx':List (Nat×Sp)) (ho:ops[k]?=some o) (hn:opn k=true) (hw:DI ops ⟨0,τ,[],[]⟩ o) (hop:CL P o (ev τ) H R) (haft:Ct ops k (fx'.map (·.1))=true)
   (howe:∀v H',R (.val v) H'→GJ ops k H H' rd) (hfx:∀v H',R (.val v) H'→D6 k (.eff v H') fx)
   (rest:∀v H',R (.val v) H'→Dr P ops n τ₀ D Q opn (k+1) (put τ o.dst v) H' rd ((k,H,H')::ef) (true::effs) (fx'++fx))
   (pan:∀v H',R (.panic v) H'→∀τ',(∀t,(∀(k:Nat) o,ops[k]?=some o→o.dst≠some t)→τ' t=τ₀ t)→Q (.panic v) ⟨n,τ',H',D⟩)
   (v:AV) (H':List Aj) (hv:R (.val v) H') (next:PJ P ops n τ₀ D Q opn (k+1) (put τ o.dst v) H' rd ((k,H,H')::ef) (true::effs) (fx'++fx) r):PJ P ops n τ₀ D Q opn k τ H rd ef effs fx ((.eff v H',true)::r)
 | pan {k τ H rd ef effs fx o} (R:DL→List Aj→Prop) (ho:ops[k]?=some o) (hn:opn k=true) (hw:DI ops ⟨0,τ,[],[]⟩ o) (hop:CL P o (ev τ) H R) (haft:Ct ops k []=true) (chk:KI ops n (true::effs).reverse=true) (hfx:KC k fx=true) (hno:∀v H',¬R (.val v) H') (howe:GJ ops k H H rd)
   (pan:∀v H',R (.panic v) H'→∀τ',(∀t,(∀(k:Nat) o,ops[k]?=some o→o.dst≠some t)→τ' t=τ₀ t)→Q (.panic v) ⟨n,τ',H',D⟩):PJ P ops n τ₀ D Q opn k τ H rd ef effs fx [(.eff (.p .any) H,false)]
section
variable {P:Program}{ops:Array Oper}{n:Nat}{τ₀:Nat→AV}{D:List Cb}{Q:Bd→As→Prop}{opn:Nat→Bool}{k:Nat}{τ:Nat→AV}{H:List Aj}{rd:Ot}{ef:O7}{effs:List Bool}{fx:List (Nat×Sp)}
theorem Dr.path (h:Dr P ops n τ₀ D Q opn k τ H rd ef effs fx):∃l,PJ P ops n τ₀ D Q opn k τ H rd ef effs fx l:=by
 induction h with
 | nil hk chk hq=>exact⟨[],.nil hk chk hq⟩
 | step s ho hn hok howe hfx next ih=>obtain⟨l,hl⟩:=ih;exact⟨_,.step s ho hn hok howe hfx hl⟩
 | opn R fx' ho hn hw hop haft hne howe hfx rest pan ih =>
  have ⟨v,H',hv⟩:=hne;have ⟨l,hl⟩:=ih v H' hv;exact⟨_,.opn R fx' ho hn hw hop haft howe hfx rest pan v H' hv hl⟩
 | pan R ho hn hw hop haft chk hfx hno howe pan=>exact⟨_,.pan R ho hn hw hop haft chk hfx hno howe pan⟩
theorem D6.at {k:Nat}{s:Sp}:∀{fx:List (Nat×Sp)}{s':Sp},D6 k s fx→(k,s')∈fx→s=s'
 | [],_,_,h=>by cases h
 | (j,t)::r,s',h,hm=>by
  rcases List.mem_cons.1 hm with e | hm
  ·injection e with e1 e2;subst e1;subst e2;have:=h.1;rw[Nat.beq_refl] at this;exact this
  exact D6.at h.2 hm
theorem PJ.fixed {l:List (Sp×Bool)}(h:PJ P ops n τ₀ D Q opn k τ H rd ef effs fx l):∀j s,(j,s)∈fx→k≤j→j<ops.size→l[j - k]?=some (s,true):=by
 induction h with
 | nil hk chk hq=>intro j s _ h1 h2;omega
 | @step k τ H rd ef effs fx o r s ho hn hok howe hfx next ih =>
  intro j s' hj h1 h2;by_cases e:j=k
  ·subst e;simp[hfx.at hj]
  ·grind
 | @opn k τ H rd ef effs fx o r R fx' ho hn hw hop haft howe hfx rest pan v H' hv next ih =>
  intro j s' hj h1 h2;by_cases e:j=k
  ·subst e;simp[(hfx v H' hv).at hj]
  ·grind
 | pan R ho hn hw hop haft chk hfx hno howe pan=>intro j s hj h1;have:=QY hfx hj;omega
theorem Hp {p:Nat}{l:List Nat}(h:Ct ops p l=true) {k:Nat}(hk:p<k) (hks:k<ops.size):Pred ops p k∨k∈l:=by
 have:=List.all_eq_true.1 h k (by simpa using hks);simp only[Bool.or_eq_true,Bool.not_eq_true'] at this
 grind [Nat.blt_eq,D7]
structure bz (P:Program) (ops:Array Oper) (n:Nat) (τ₀:Nat→AV) (D:List Cb) (Q:Bd→As→Prop) (opn:Nat→Bool) (H₀:List Aj) (sp:List Sp) (ok:List Bool) (k:Nat):Prop where
 run:∀(j:Nat) o,k≤j→ops[j]?=some o→(opn j=false∨sp.getD j .skip= .skip)→(∀p,opn p=true→Pred ops p j→ok.getD p true=true)→YE P ops o (τS ops sp τ₀ j) (Hw sp H₀ j) (sp.getD j .skip)
 c4:∀(i e:Nat) obs v ob,i<ops.size→e<ops.size→(k≤i∨k≤e)→sp.getD i .skip= .read obs v→ob∈obs→(sp.getD e .skip).isEff=true→(Pred ops e i∨Pred ops i e)∨(ob∈Hw sp H₀ e∧ob∈Hw sp H₀ (e+1))
 eff:∀p,k≤p→p<ops.size→opn p=true→sp.getD p .skip≠ .skip→(∀q,opn q=true→Pred ops q p→ok.getD q true=true)→(sp.getD p .skip).isEff=true
 next:(∀p,k≤p→p<ops.size→opn p=true→ok.getD p true=true)→Q .normal ⟨n,τS ops sp τ₀ ops.size,Hw sp H₀ ops.size,D⟩
 chk:KI ops n (sp.map Sp.isEff)=true
theorem FE {sp:List Sp}{H₀:List Aj}{k:Nat}:Hw sp H₀ (k+1)=(sp.getD k .skip).heap (Hw sp H₀ k):=by
 simp only[Hw];cases sp.getD k .skip<;>rfl
theorem PJ.shows {l:List (Sp×Bool)}(h:PJ P ops n τ₀ D Q opn k τ H rd ef effs fx l):∀{H₀:List Aj}{pre:List (Sp×Bool)},pre.length=k→effs.reverse=(pre.map (·.1)).map Sp.isEff→τ=τS ops ((pre++l).map (·.1)) τ₀ k→H=Hw ((pre++l).map (·.1)) H₀ k→k≤ops.size →
  (∀i obs v ob,i<k→((pre++l).map (·.1)).getD i .skip= .read obs v→ob∈obs→(i,ob)∈rd)→(∀e,e<k→(((pre++l).map (fun(x:Sp×Bool)=>x.1)).getD e Sp.skip).isEff=true→(e,Hw ((pre++l).map (·.1)) H₀ e,Hw ((pre++l).map (·.1)) H₀ (e+1))∈ef) →
  bz P ops n τ₀ D Q opn H₀ ((pre++l).map (·.1)) ((pre++l).map (·.2)) k:=by
 induction h with
 | nil hk chk hq =>
  intro H₀ pre hpre heffs hτ hH hkl hrd hef;subst hk;refine⟨fun j o hj ho=>?_,fun i e obs v ob hi he hor=>by omega,fun p h1 h2 _ _ _=>by omega,fun _=>?_,?_⟩
  ·grind
  ·grind
  ·grind
 | @step k τ H rd ef effs fx o r s ho hn hok howe hfx next ih =>
  intro H₀ pre hpre heffs hτ hH hkl hrd hef;have hlt:k<ops.size:=by
   grind
  have hcat:pre++(s,true)::r=(pre++[(s,true)])++r:=by simp
  have hsk:((pre++(s,true)::r).map (·.1)).getD k .skip=s:=by
   subst hpre;simp
  have hs:=ih (H₀:=H₀) (pre:=pre++[(s,true)]) (by simp[hpre]) (by simp[heffs]) (by rw[←hcat];simp only[τS,ho,Option.bind_some,hsk,←hτ]) (by rw[←hcat,FE,hsk,←hH]) Af
   (by
    rw[←hcat];intro i obs v ob hi he hob;rcases Nat.lt_or_ge i k with h | h
    ·have:=hrd i obs v ob h he hob;cases s<;>first | exact this | exact List.mem_append_right _ this
    have:i=k:=by omega
    subst this;rw[hsk] at he;subst he;exact List.mem_append_left _ (List.mem_map.2 ⟨ob,hob,rfl⟩))
   (by
    rw[←hcat];intro e he hee;rcases Nat.lt_or_ge e k with h | h
    ·have:=hef e h hee;cases s<;>first | exact this | exact List.mem_cons_of_mem _ this
    have:e=k:=by omega
    subst this;rw[FE,hsk,←hH];rw[hsk] at hee;cases s<;>first | (cases hee;done) | exact List.mem_cons_self)
  rw[←hcat] at hs;refine⟨fun j o' hj ho' hnj hpj=>?_,fun i e obs v ob hi he hor hri hob hee=>?_,fun p h1 h2 h3 hns h4=>?_,fun hok'=>hs.next fun p h1 h2 h3=>hok' p Af h2 h3,hs.chk⟩
  ·by_cases hjk:j=k
   ·grind
   exact hs.run j o' Af ho' hnj hpj
  ·by_cases hik:i=k
   ·subst hik;rw[hsk] at hri;subst hri;rcases Nat.lt_or_ge e i with hlt' | hge
    ·rcases Ux (howe ob hob) (hef e hlt' hee) with h | h
     ·exact .inl (.inl (D7 h))
     exact .inr h
    have hne:e≠i:=fun e'=>by subst e';rw[hsk] at hee;cases hee
    exact hs.c4 i e obs v ob hi he (.inr Af) hsk hob hee
   by_cases hek:e=k
   ·subst hek;rw[hsk] at hee;rcases Nat.lt_or_ge i e with hlt' | hge
    ·cases s with
     | eff v' H' =>
      rcases M9 howe (hrd i obs v ob hlt' hri hob) with h | h
      ·exact .inl (.inr (D7 h))
      ·rw[FE,hsk,←hH];exact .inr h
     | _=>cases hee
    exact hs.c4 i e obs v ob hi he (.inl Af) hri hob (by rw[hsk];exact hee)
   exact hs.c4 i e obs v ob hi he Af hri hob hee
  ·have:p≠k:=fun e=>by
    grind
   exact hs.eff p Af h2 h3 hns h4
 | @opn k τ H rd ef effs fx o r R fx' ho hn hw hop haft howe hfx rest pan v H' hv next ih =>
  intro H₀ pre hpre heffs hτ hH hkl hrd hef;have hlt:k<ops.size:=by
   grind
  have hcat:pre++(Sp.eff v H',true)::r=(pre++[(Sp.eff v H',true)])++r:=by simp
  have hsk:((pre++(Sp.eff v H',true)::r).map (·.1)).getD k .skip=Sp.eff v H':=by
   subst hpre;simp
  have hs:=ih (H₀:=H₀) (pre:=pre++[(Sp.eff v H',true)]) (by simp[hpre]) (by simp[heffs,Sp.isEff]) (by rw[←hcat];simp only[τS,ho,Option.bind_some,hsk,←hτ,Sp.val]) (by rw[←hcat,FE,hsk];rfl) Af
   (by
    rw[←hcat];intro i obs v' ob hi he hob;rcases Nat.lt_or_ge i k with h | h
    ·grind
    have:i=k:=by omega
    subst this;rw[hsk] at he;cases he)
   (by
    rw[←hcat];intro e he hee;rcases Nat.lt_or_ge e k with h | h
    ·grind
    have:e=k:=by omega
    subst this;rw[FE,hsk,←hH];exact List.mem_cons_self)
  rw[←hcat] at hs;replace howe:=howe v H' hv;refine⟨fun j o' hj ho' hnj hpj=>?_,fun i e obs v' ob hi he hor hri hob hee=>?_,fun p h1 h2 h3 hns h4=>?_,fun hok'=>hs.next fun p h1 h2 h3=>hok' p Af h2 h3,hs.chk⟩
  ·have:j≠k:=fun e=>by
    grind
   exact hs.run j o' Af ho' hnj hpj
  ·have hik:i≠k:=fun e=>by subst e;rw[hsk] at hri;cases hri
   by_cases hek:e=k
   ·subst hek;rcases Nat.lt_or_ge i e with hlt' | hge
    ·rcases M9 howe (hrd i obs v' ob hlt' hri hob) with h | h
     ·exact .inl (.inr (D7 h))
     rw[FE,hsk,←hH];exact .inr h
    exact hs.c4 i e obs v' ob hi he (.inl Af) hri hob hee
   exact hs.c4 i e obs v' ob hi he Af hri hob hee
  ·by_cases e:p=k
   ·subst e;rw[hsk];rfl
   ·exact hs.eff p Af h2 h3 hns h4
 | @pan k τ H rd ef effs fx o R ho hn hw hop haft chk hfx hno howe pan =>
  intro H₀ pre hpre heffs hτ hH hkl hrd hef;have hlt:k<ops.size:=by
   grind
  have hsk:((pre++[(Sp.eff (.p .any) H,false)]).map (·.1)).getD k .skip=Sp.eff (.p .any) H:=by
   subst hpre;simp
  have hskip:∀j,k<j→((pre++[(Sp.eff (.p .any) H,false)]).map (·.1)).getD j .skip= .skip:=by
   intro j hj;have:(pre++[(Sp.eff (.p .any) H,false)])[j]?=none:=List.getElem?_eq_none Aa;rw[List.getD_eq_getElem?_getD,List.getElem?_map,this];rfl
  have hokk:((pre++[(Sp.eff (.p .any) H,false)]).map (·.2)).getD k true=false:=by
   subst hpre;simp
  refine⟨fun j o' hj ho' hnj hpj=>?_,fun i e obs v' ob hi he hor hri hob hee=>?_,fun p h1 h2 h3 hns h4=>?_,fun hok'=>?_,?_⟩
  ·have hjk:j≠k:=fun e=>by
    grind
   have hjs:j<ops.size:=by
    grind
   rcases Hp haft (k:=j) Af hjs with h | h
   ·grind
   cases h
  ·have hik:i≠k:=fun e=>by subst e;rw[hsk] at hri;cases hri
   have hi':i<k:=by
    grind
   have he':e=k:=by
    rcases Nat.lt_trichotomy e k with h | h | h
    ·omega
    ·exact h
    rw[hskip e h] at hee;cases hee
   subst he';rcases M9 howe (hrd i obs v' ob hi' hri hob) with h | h
   ·exact .inl (.inr (D7 h))
   rw[FE,hsk,←hH];exact .inr h
  ·have:p=k:=by
    grind
   subst this;rw[hsk];rfl
  ·grind
  rw[List.map_append,List.map_append,←heffs];simpa [Sp.isEff] using chk
theorem PJ.len {l:List (Sp×Bool)}(h:PJ P ops n τ₀ D Q opn k τ H rd ef effs fx l):k≤ops.size→k+l.length≤ops.size:=by
 induction h with
 | nil hk chk hq=>intro h;simpa using h
 | @step k τ H rd ef effs fx o r s ho hn hok howe hfx next ih =>
  grind
 | @opn k τ H rd ef effs fx o r R fx' ho hn hw hop haft howe hfx rest pan v H' hv next ih =>
  grind
 | @pan k τ H rd ef effs fx o R ho hn hw hop haft chk hfx hno howe pan =>
  grind
def PD (l:List (Sp×Bool)) (j:Nat):Sp:=(l.map (fun(x:Sp×Bool)=>x.1)).getD j Sp.skip
def M0 (l:List (Sp×Bool)) (j:Nat):Bool:=(l.map (fun(x:Sp×Bool)=>x.2)).getD j true
theorem Z0 {l l':List (Sp×Bool)}{j:Nat}(h:l[j]?=l'[j]?):PD l j=PD l' j∧M0 l j=M0 l' j:=by
 simp[PD,M0,h]
theorem PJ.sk {l:List (Sp×Bool)}(h:PJ P ops n τ₀ D Q opn k τ H rd ef effs fx l):∀x∈l,x.1= .skip→x.2=true:=by
 induction h with
 | nil=>intro x hx;cases hx
 | step s ho hn hok howe hfx next ih =>
  grind
 | opn R fx' ho hn hw hop haft howe hfx rest pan v H' hv next ih =>
  grind
 | pan =>
  grind
theorem PJ.skOk {l:List (Sp×Bool)}(h:PJ P ops n τ₀ D Q opn k τ H rd ef effs fx l) (p:Nat) (hp:(l.map (fun(x:Sp×Bool)=>x.1)).getD p .skip= .skip):M0 l p=true:=by
 unfold M0;rw[List.getD_eq_getElem?_getD,List.getElem?_map] at hp ⊢;cases e:l[p]? with
 | none=>rfl
 | some x =>
  rw[e] at hp;exact h.sk x (List.mem_of_getElem? e) hp
theorem PJ.openAt {l:List (Sp×Bool)}(h:PJ P ops n τ₀ D Q opn k τ H rd ef effs fx l):∀{H₀:List Aj}{pre:List (Sp×Bool)},pre.length=k→k≤ops.size→τ=τS ops ((pre++l).map (fun(x:Sp×Bool)=>x.1)) τ₀ k→H=Hw ((pre++l).map (fun(x:Sp×Bool)=>x.1)) H₀ k →
  ∀p o,k≤p→opn p=true→PD (pre++l) p≠ .skip→ops[p]?=some o→(∀q,opn q=true→Pred ops q p→M0 (pre++l) q=true)→∃R,DI ops ⟨0,τS ops ((pre++l).map (fun(x:Sp×Bool)=>x.1)) τ₀ p,[],[]⟩ o∧CL P o (ev (τS ops ((pre++l).map (fun(x:Sp×Bool)=>x.1)) τ₀ p)) (Hw ((pre++l).map (fun(x:Sp×Bool)=>x.1)) H₀ p) R ∧
   (∀v H',R (.val v) H'→∃l',PJ P ops n τ₀ D Q opn k τ H rd ef effs fx l'∧(∀j,j≠p→¬Pred ops p j→PD (pre++l') j=PD (pre++l) j∧(M0 (pre++l) j=true→M0 (pre++l') j=true))∧M0 (pre++l') p=true∧PD (pre++l') p= .eff v H') ∧
   (∀v H',R (.panic v) H'→∀τ',(∀t,(∀(k:Nat) o,ops[k]?=some o→o.dst≠some t)→τ' t=τ₀ t)→Q (.panic v) ⟨n,τ',H',D⟩):=by
 induction h with
 | nil hk chk hq =>
  grind
 | @step k τ H rd ef effs fx o r s ho hn hok howe hfx next ih =>
  intro H₀ pre hpre hkl hτ hH p o' hp hop hns ho' hpred;have hlt:k<ops.size:=by
   grind
  have hcat:∀r,pre++(s,true)::r=(pre++[(s,true)])++r:=by simp
  have hsk:((pre++(s,true)::r).map (fun(x:Sp×Bool)=>x.1)).getD k .skip=s:=by
   subst hpre;simp
  have hpk:p≠k:=fun e=>by
   grind [PD]
  have ⟨R,h1,h2,h3,h4⟩:=ih (H₀:=H₀) (pre:=pre++[(s,true)]) (by simp[hpre]) Af (by rw[←hcat];simp only[τS,ho,Option.bind_some,hsk,←hτ]) (by rw[←hcat,FE,hsk,←hH]) p o' Af hop (by rw[←hcat];exact hns) ho' (by rw[←hcat];exact hpred);rw[←hcat] at h1 h2 h3;refine⟨R,h1,h2,fun v H' hv=>?_,h4⟩;have ⟨l',g1,g2,g3,g4⟩:=h3 v H' hv;rw[←hcat] at g2 g3 g4;exact⟨_,.step s ho hn hok howe hfx g1,g2,g3,g4⟩
 | @opn k τ H rd ef effs fx o r R fx' ho hn hw hop haft howe hfx rest pan v H' hv next ih =>
  intro H₀ pre hpre hkl hτ hH p o' hp hopp hns ho' hpred;have hlt:k<ops.size:=by
   grind
  have hcat:∀r,pre++(Sp.eff v H',true)::r=(pre++[(Sp.eff v H',true)])++r:=by simp
  have hsk:((pre++(Sp.eff v H',true)::r).map (fun(x:Sp×Bool)=>x.1)).getD k .skip=Sp.eff v H':=by
   subst hpre;simp
  by_cases hpk:p=k
  ·subst hpk;rw[ho] at ho';injection ho' with ho';subst ho';refine⟨R,by rw[←hτ];exact hw,by rw[←hτ,←hH];exact hop,fun v2 H2 hv2=>?_,pan⟩;have ⟨l2,hl2⟩:=(rest v2 H2 hv2).path;refine⟨_,.opn R fx' ho hn hw hop haft howe hfx rest pan v2 H2 hv2 hl2,fun j hj hnp=>?_,?_,?_⟩
   ·have key:(pre++(Sp.eff v2 H2,true)::l2)[j]?=(pre++(Sp.eff v H',true)::r)[j]?:=by
     rcases Nat.lt_trichotomy j p with h | h | h
     ·grind
     ·exact absurd h hj
     obtain⟨d,hd⟩:∃d,j=p+1+d:=⟨j - (p+1),by omega⟩;rw[List.getElem?_append_right Af,List.getElem?_append_right Af,hpre,show j - p=d+1 by omega];simp only[List.getElem?_cons_succ];rcases Nat.lt_or_ge j ops.size with hjs | hjs
     ·rcases Hp haft h hjs with h' | h'
      ·exact absurd h' hnp
      obtain⟨⟨j',s'⟩,hm,rfl⟩:=List.mem_map.1 h';have a1:=next.fixed j' s' (by simp[hm]) Af hjs;have a2:=hl2.fixed j' s' (by simp[hm]) Af hjs;simp only at hd;rw[show j' - (p+1)=d by omega] at a1 a2;rw[a1,a2]
     have b1:=next.len Af;have b2:=hl2.len Af
     grind
    grind [Z0]
   ·subst hpre;simp[M0]
   subst hpre;simp[PD]
  ·have ⟨R',h1,h2,h3,h4⟩:=ih (H₀:=H₀) (pre:=pre++[(Sp.eff v H',true)]) (by simp[hpre]) Af (by rw[←hcat];simp only[τS,ho,Option.bind_some,hsk,←hτ,Sp.val]) (by rw[←hcat,FE,hsk];rfl) p o' Af hopp (by rw[←hcat];exact hns) ho' (by rw[←hcat];exact hpred);rw[←hcat] at h1 h2 h3;refine⟨R',h1,h2,fun v3 H3 hv3=>?_,h4⟩;have ⟨l',g1,g2,g3,g4⟩:=h3 v3 H3 hv3;rw[←hcat] at g2 g3 g4;exact⟨_,.opn R fx' ho hn hw hop haft howe hfx rest pan v H' hv g1,g2,g3,g4⟩
 | @pan k τ H rd ef effs fx o R ho hn hw hop haft chk hfx hno howe pan =>
  intro H₀ pre hpre hkl hτ hH p o' hp hopp hns ho' hpred;by_cases hpk:p=k
  ·grind
  have hps:p<ops.size:=by
   grind
  rcases Hp haft (k:=p) Af hps with h | h
  ·have:=hpred k hn h
   grind [M0]
  cases h
theorem GS {r:Option Nat}{id:Nat}(opn:Nat→Bool) (hm:P.follows .mixedOrders=true) (h:Dr P ops n τ D Q opn 0 τ H [] [] [] []):GF P r (.region id ops true) ⟨n,τ,H,D⟩ Q:=by
 have hshow:∀l,PJ P ops n τ D Q opn 0 τ H [] [] [] [] l→bz P ops n τ D Q opn H (l.map (fun(x:Sp×Bool)=>x.1)) (l.map (fun(x:Sp×Bool)=>x.2)) 0:=by
  intro l hl;have:=hl.shows (H₀:=H) (pre:=[]) rfl rfl rfl rfl (Nat.zero_le _) (fun i _ _ h=>by omega) (fun e h=>by omega);simpa using this
 refine XI hm (ι:=List (Sp×Bool)) (Good:=fun l=>PJ P ops n τ D Q opn 0 τ H [] [] [] [] l) (Ok:=fun l p=>M0 l p=true) (Fam:=fun l=>l.map (fun(x:Sp×Bool)=>x.1)) (opn:=opn) h.path ?_ ?_ ?_ ?_ ?_
 ·intro l hl;have hs:=hshow l hl;have ⟨c1,c2,c3,c4,c5⟩:=Qo hs.chk;refine⟨⟨c1,c2,c3,c4⟩,fun k o ho hex=>hs.run k o (Nat.zero_le _) ho hex.1 hex.2,?_,?_⟩
  ·grind [UN]
  intro i e obs v ob hi he hri hob hee;exact hs.c4 i e obs v ob hi he (.inl (Nat.zero_le _)) hri hob hee
 ·intro l p hl hp;exact hl.skOk p hp
 ·intro l p hl hp hns hps hpred;exact(hshow l hl).eff p (Nat.zero_le _) hps hp hns hpred
 ·intro l p o hl hp hns ho hpred;have:=hl.openAt (H₀:=H) (pre:=[]) rfl (Nat.zero_le _) rfl rfl p o (Nat.zero_le _) hp (by simpa [PD] using hns) ho (by simpa using hpred);simpa [PD] using this
 intro l hl hok;exact(hshow l hl).next fun p _ hps hp=>hok p hp hps
section
variable {dst:Option Tmp}{op:Op}{ty:TypeId}{pos:String}{aft:Array Edge}{v:AV}{H':List Aj}
theorem Fj (hk:k=ops.size) (chk:KI ops n effs.reverse=true) (hq:Q .normal ⟨n,τ,H,D⟩):Dr P ops n τ₀ D Q opn k τ H rd ef effs fx:= .nil hk chk hq
theorem ZR (ho:ops[k]?=some ⟨dst,op,ty,pos,aft,none⟩) (hn:opn k=false) (h:∀H,Ce P ⟨dst,op,ty,pos,aft,none⟩ (ev τ) H v H) (hfx:D6 k (.free v) fx) (next:Dr P ops n τ₀ D Q opn (k+1) (put τ dst v) H rd ef (false::effs) fx):Dr P ops n τ₀ D Q opn k τ H rd ef effs fx :=
 .step (.free v) ho (.inl hn) ⟨trivial,h⟩ trivial hfx next
theorem Aw (ho:(ops[k]?,opn k)=(some ⟨dst,op,ty,pos,aft,none⟩,false)) (h:∀H,Ce P ⟨dst,op,ty,pos,aft,none⟩ (ev τ) H v H) (hfx:D6 k (.free v) fx) (next:Dr P ops n τ₀ D Q opn (k+1) (put τ dst v) H rd ef (false::effs) fx):Dr P ops n τ₀ D Q opn k τ H rd ef effs fx:=by grind [ZR]
theorem Cf {j:Nat}{ob:Aj}(ho:ops[k]?=some ⟨dst,op,ty,pos,aft,none⟩) (hn:opn k=false) (hj:H[j]?=some ob) (h:∀(H:List Aj) (i:Nat),H[i]?=some ob→Ce P ⟨dst,op,ty,pos,aft,none⟩ (ev τ) H v H) (owe:Sh ops k ob ef) (hfx:D6 k (.read [ob] v) fx)
  (next:Dr P ops n τ₀ D Q opn (k+1) (put τ dst v) H ((k,ob)::rd) ef (false::effs) fx):Dr P ops n τ₀ D Q opn k τ H rd ef effs fx :=
 .step (.read [ob] v) ho (.inl hn) ⟨trivial,fun ob' hm=>by rw[List.mem_singleton] at hm;subst hm;exact List.mem_of_getElem? hj,fun H hm=>let ⟨i,hi⟩:=List.mem_iff_getElem?.1 (hm ob List.mem_cons_self);h H i hi⟩ (fun ob' hm=>by rw[List.mem_singleton] at hm;subst hm;exact owe) hfx next
theorem Lc (ho:ops[k]?=some ⟨dst,op,ty,pos,aft,none⟩) (hn:opn k=false) (h:Ce P ⟨dst,op,ty,pos,aft,none⟩ (ev τ) H v H') (owe:GJ ops k H H' rd) (hfx:D6 k (.eff v H') fx)
  (next:Dr P ops n τ₀ D Q opn (k+1) (put τ dst v) H' rd ((k,H,H')::ef) (true::effs) fx):Dr P ops n τ₀ D Q opn k τ H rd ef effs fx :=
 .step (.eff v H') ho (.inl hn) ⟨trivial,h⟩ owe hfx next
theorem Jh {R:DL→List Aj→Prop}(fx':List (Nat×Sp)) (ho:ops[k]?=some ⟨dst,op,ty,pos,aft,none⟩) (hn:opn k=true) (h:CL P ⟨dst,op,ty,pos,aft,none⟩ (ev τ) H R) (haft:Ct ops k (fx'.map (·.1))=true) (hne:∃v H',R (.val v) H') (hpan:∀v H',¬R (.panic v) H')
  (next:∀v H',R (.val v) H'→GJ ops k H H' rd∧D6 k (.eff v H') fx∧Dr P ops n τ₀ D Q opn (k+1) (put τ dst v) H' rd ((k,H,H')::ef) (true::effs) (fx'++fx)):Dr P ops n τ₀ D Q opn k τ H rd ef effs fx :=
 .opn R fx' ho hn trivial h haft hne (fun v H' hv=>(next v H' hv).1) (fun v H' hv=>(next v H' hv).2.1) (fun v H' hv=>(next v H' hv).2.2) (fun v H' hp=>absurd hp (hpan v H'))
variable {j d:Nat}{want:Bool}
theorem Xw (ho:ops[k]?=some ⟨dst,op,ty,pos,aft,some (j,want)⟩) (hn:opn k=false) (hj:(ops[j]?).bind (·.dst)=some d) (hb:τ d= .p (.bool want)) (h:∀H,Ce P ⟨dst,op,ty,pos,aft,some (j,want)⟩ (ev τ) H v H) (hfx:D6 k (.free v) fx) (next:Dr P ops n τ₀ D Q opn (k+1) (put τ dst v) H rd ef (false::effs) fx):Dr P ops n τ₀ D Q opn k τ H rd ef effs fx :=
 .step (.free v) ho (.inl hn) ⟨⟨d,hj,hb⟩,h⟩ trivial hfx next
theorem Fz {i:Nat}{ob:Aj}(ho:ops[k]?=some ⟨dst,op,ty,pos,aft,some (j,want)⟩) (hn:opn k=false) (hj:(ops[j]?).bind (·.dst)=some d) (hb:τ d= .p (.bool want)) (hi:H[i]?=some ob) (h:∀(H:List Aj) (i:Nat),H[i]?=some ob→Ce P ⟨dst,op,ty,pos,aft,some (j,want)⟩ (ev τ) H v H) (owe:Sh ops k ob ef) (hfx:D6 k (.read [ob] v) fx)
  (next:Dr P ops n τ₀ D Q opn (k+1) (put τ dst v) H ((k,ob)::rd) ef (false::effs) fx):Dr P ops n τ₀ D Q opn k τ H rd ef effs fx :=
 .step (.read [ob] v) ho (.inl hn) ⟨⟨d,hj,hb⟩,fun ob' hm=>by rw[List.mem_singleton] at hm;subst hm;exact List.mem_of_getElem? hi,fun H hm=>let ⟨i,hi⟩:=List.mem_iff_getElem?.1 (hm ob List.mem_cons_self);h H i hi⟩ (fun ob' hm=>by rw[List.mem_singleton] at hm;subst hm;exact owe) hfx next
theorem aF (ho:ops[k]?=some ⟨dst,op,ty,pos,aft,some (j,want)⟩) (hn:opn k=false) (hj:(ops[j]?).bind (·.dst)=some d) (hb:τ d= .p (.bool want)) (h:Ce P ⟨dst,op,ty,pos,aft,some (j,want)⟩ (ev τ) H v H') (owe:GJ ops k H H' rd) (hfx:D6 k (.eff v H') fx)
  (next:Dr P ops n τ₀ D Q opn (k+1) (put τ dst v) H' rd ((k,H,H')::ef) (true::effs) fx):Dr P ops n τ₀ D Q opn k τ H rd ef effs fx :=
 .step (.eff v H') ho (.inl hn) ⟨⟨d,hj,hb⟩,h⟩ owe hfx next
theorem VD {b:Bool}(ho:ops[k]?=some ⟨dst,op,ty,pos,aft,some (j,want)⟩) (hn:opn k=false) (hj:(ops[j]?).bind (·.dst)=some d) (hb:τ d= .p (.bool b)) (hne:(b==want)=false) (hfx:D6 k .skip fx) (next:Dr P ops n τ₀ D Q opn (k+1) (put τ dst (.tup [])) H rd ef (false::effs) fx):Dr P ops n τ₀ D Q opn k τ H rd ef effs fx :=
 .step .skip ho (.inl hn) ⟨j,want,d,rfl,hj,.inl ⟨b,hb,hne⟩⟩ trivial hfx next
theorem Ej {b:Bool}(ho:(ops[k]?,opn k,(ops[j]?).bind (·.dst),τ d,b==want)=(some ⟨dst,op,ty,pos,aft,some (j,want)⟩,false,some d,.p (.bool b),false)) (hfx:D6 k .skip fx) (next:Dr P ops n τ₀ D Q opn (k+1) (put τ dst (.tup [])) H rd ef (false::effs) fx):Dr P ops n τ₀ D Q opn k τ H rd ef effs fx:=by grind [VD]
theorem BZ (ho:(ops[k]?,opn k,(ops[j]?).bind (·.dst),τ d)=(some ⟨dst,op,ty,pos,aft,some (j,want)⟩,false,some d,.p (.bool want))) (h:∀H,Ce P ⟨dst,op,ty,pos,aft,some (j,want)⟩ (ev τ) H v H) (hfx:D6 k (.free v) fx) (next:Dr P ops n τ₀ D Q opn (k+1) (put τ dst v) H rd ef (false::effs) fx):Dr P ops n τ₀ D Q opn k τ H rd ef effs fx:=by grind [Xw]
theorem PA {b:Bool}(ho:ops[k]?=some ⟨dst,op,ty,pos,aft,some (j,want)⟩) (hj:(ops[j]?).bind (·.dst)=some d) (hb:τ d= .p (.bool b)) (hne:(b==want)=false) (hfx:D6 k .skip fx) (next:Dr P ops n τ₀ D Q opn (k+1) (put τ dst (.tup [])) H rd ef (false::effs) fx):Dr P ops n τ₀ D Q opn k τ H rd ef effs fx :=
 .step .skip ho (.inr rfl) ⟨j,want,d,rfl,hj,.inl ⟨b,hb,hne⟩⟩ trivial hfx next
theorem XZ (ho:ops[k]?=some ⟨dst,op,ty,pos,aft,some (j,want)⟩) (hn:opn k=false) (hj:(ops[j]?).bind (·.dst)=some d) (hb:τ d= .tup []) (hfx:D6 k .skip fx) (next:Dr P ops n τ₀ D Q opn (k+1) (put τ dst (.tup [])) H rd ef (false::effs) fx):Dr P ops n τ₀ D Q opn k τ H rd ef effs fx :=
 .step .skip ho (.inl hn) ⟨j,want,d,rfl,hj,.inr hb⟩ trivial hfx next
theorem HV (d:Nat) {b:Bool}(hb:τ d= .p (.bool b)) (ht:b=true→Dr P ops n τ₀ D Q opn k (put τ (some d) (.p (.bool true))) H rd ef effs fx) (hf:b=false→Dr P ops n τ₀ D Q opn k (put τ (some d) (.p (.bool false))) H rd ef effs fx):Dr P ops n τ₀ D Q opn k τ H rd ef effs fx:=by
 have e:∀b',b=b'→put τ (some d) (.p (.bool b'))=τ:=by
  grind [put,Nat.beq_refl,Nh]
 cases b with
 | true=>have:=ht rfl;rwa [e true rfl] at this
 | false=>have:=hf rfl;rwa [e false rfl] at this
end
end
def GX (S S':As):Prop:=∀F a w,D1 F S a w→∃F',D1 F' S' a w∧Trans F S.H w F' S'.H w
theorem BA {P:Program}{r:Option Nat}{c:Code}{S S':As}{Q:Bd→As→Prop}(g:GX S S') (h:GF P r c S' Q):GF P r c S Q:=by
 intro F a w hs;have ⟨F',hs',ht⟩:=g F a w hs;exact wpIn_mono (h F' a w hs') fun _ _ _=>EV hs.heap.bd ht
theorem CZ {P:Program}{r:Option Nat}{ops:Array Oper}{k:Nat}{S S':As}{Q:Bd→As→Prop}(g:GX S S') (h:AL P r ops k S' Q):AL P r ops k S Q:=by
 intro F a w hs;have ⟨F',hs',ht⟩:=g F a w hs;exact DE (fun _ _ _=>EV hs.heap.bd ht) _ _ _ (h F' a w hs')
theorem GX.trans {S S' S'':As}(g:GX S S') (g':GX S' S''):GX S S'':=by
 intro F a w hs;have ⟨F',hs',ht⟩:=g F a w hs;have ⟨F'',hs'',ht'⟩:=g' F' a w hs';exact⟨F'',hs'',ht.trans hs.heap.bd ht'⟩
section
variable {n:Nat}{τ:Nat→AV}{H:List Aj}{D:List Cb}
theorem OC {t:Nat}{x:AV}(h:∀F w v,BP F w (τ t) v→BP F w x v):GX ⟨n,τ,H,D⟩ ⟨n,put τ (some t) x,H,D⟩:=by
 intro F a w hs;refine⟨F,⟨hs.size,?_,hs.heap,hs.defs⟩,.refl⟩;intro t';by_cases e:t'=t
 ·subst e;have:=hs.tmp t'
  grind [put,Nat.beq_refl]
 simp only[put,Nh e,cond_false];exact hs.tmp t'
theorem IC {t sz:Nat}(h:τ t= .p .nils):GX ⟨n,τ,H,D⟩ ⟨n,put τ (some t) (.vs none 0 0),.vec none sz [] 0::H,D⟩:=by
 intro F a w hs;have hH:HRel F (.vec none sz [] 0::H) w:=⟨fun o ho b hb=>by
   rcases List.mem_cons.1 ho with rfl | ho
   ·cases hb
   ·exact hs.heap.sub o ho b hb,by simpa [List.filterMap_cons,Aj.key] using hs.heap.nodup,fun o ho=>by
   rcases List.mem_cons.1 ho with rfl | ho
   ·exact⟨O,O⟩
   exact hs.heap.obj o ho,hs.heap.bd⟩
 refine⟨F,⟨hs.size,?_,hH,hs.defs⟩,?_⟩
 ·intro t';by_cases e:t'=t
  ·subst e;have:=hs.tmp t'
   grind [BP,BN,put,Nat.beq_refl]
  simp only[put,Nh e,cond_false];exact hs.tmp t'
 exact⟨Nat.le_refl _,fun _ _ _=>O,fun _ h _=>h,fun _ h=> .inl h,fun o ho b hb=>by
  rcases List.mem_cons.1 ho with rfl | ho
  ·cases hb
  exact .inl ⟨o,ho,hb⟩,O,O,O⟩
theorem IP {F:Nat→Prop}{w:World}{o:Option Nat}{sz c:Nat}{rows:List (List PV)}{v:Value}(hbd:∀b,o=some b→b<w.heap.size) (ho:Gc F w (.vec o sz rows c)) (hv:BP F w (.vs o rows.length c) v) (F':Nat→Prop) (st:Cy F w F' w) (hF':∀b,o=some b→¬F' b) :
  BP F' w (.p (.lst rows)) v:=by
 cases o with
 | none =>
  grind [BP,BN]
 | some b =>
  simp only[BP] at hv;have ⟨vs,T,hb,h1,h2,h3⟩:=ho;simp only[BP,BN];exact .inr ⟨b,0,c,sz,hv,hF' b O,hbd b O,h2,A7.mono st b sz O 0 rows h3⟩
def I0 (ts:List Nat) (x:AV) (τ:Nat→AV):Nat→AV:=fun t=>bif ts.any (Nat.beq t ·) then x else τ t
theorem CH {i sz c:Nat}{o:Option Nat}{rows:List (List PV)}(ts:List Nat) (hi:H[i]?=some (.vec o sz rows c)) (ht:∀t∈ts,τ t= .vs o rows.length c) :
  GX ⟨n,τ,H,D⟩ ⟨n,I0 ts (.p (.lst rows)) τ,H.eraseIdx i,D⟩:=by
 intro F a w hs;have hmem:=List.mem_of_getElem? hi;have hbd:∀b,o=some b→b<w.heap.size:=fun b hb=>hs.heap.bd b (hs.heap.sub _ hmem b (by rw[←hb];rfl));have st:Cy F w (fun b=>F b∧o≠some b) w:=⟨Nat.le_refl _,fun _ _ _=>rfl,fun _ h _ h'=>h h'.1⟩;have hne:∀x∈H.eraseIdx i,∀b,x.key=some b→o≠some b:=by
  intro x hx b hb hob;have ⟨j,hj⟩:=List.mem_iff_getElem?.1 hx;rw[List.getElem?_eraseIdx] at hj;split at hj
  ·rename_i hlt;have:=IE hs.heap.nodup hj hi hb (by rw[←hob];rfl);omega
  rename_i hge;have:=IE hs.heap.nodup hj hi hb (by rw[←hob];rfl);omega
 have hsub:(H.eraseIdx i).Sublist H:=List.eraseIdx_sublist H i;refine⟨fun b=>F b∧o≠some b,⟨hs.size,?_,?_,EG.mono st _ _ hs.defs⟩,?_⟩
 ·intro t;simp only[I0];cases hq:ts.any (Nat.beq t ·) with
  | false=>exact BP.mono st _ _ (hs.tmp t)
  | true =>
   have ⟨t',ht',he⟩:=List.any_eq_true.1 hq;have e:=Nat.eq_of_beq_eq_true he;subst e;have hv:=hs.tmp t;simp only[ht t ht'] at hv;exact IP hbd (hs.heap.obj _ hmem) hv _ st (fun b hb h=>h.2 hb)
 ·have:=hs.heap.sublist hsub;exact⟨fun x hx b hb=>⟨this.sub x hx b hb,hne x hx b hb⟩,this.nodup,fun x hx=>Gc.mono st x (fun _ _=>O) (this.obj x hx),fun b hb=>this.bd b hb.1⟩
 exact⟨Nat.le_refl _,fun _ _ _=>O,fun b hb hn=>⟨hb,fun e=>hn _ hmem (by rw[←e];rfl)⟩,fun b hb=> .inl hb.1,fun x hx b hb=> .inl ⟨x,hsub.subset hx,hb⟩,O,O,O⟩
theorem EH {i j q sz c b:Nat}{o:Option Nat}{rows:List (List PV)}{cs:List AV}(ts:List Nat) (hj:H[j]?=some (.box b cs)) (hq:cs[q]?=some (.vs o rows.length c)) (hi:H[i]?=some (.vec o sz rows c)) (ht:∀t∈ts,τ t= .vs o rows.length c) :
  GX ⟨n,τ,H,D⟩ ⟨n,I0 ts (.p (.lst rows)) τ,(H.set j (.box b (cs.set q (.p (.lst rows))))).eraseIdx i,D⟩:=by
 intro F a w hs;have hij:j≠i:=fun e=>by subst e;rw[hj] at hi;cases hi
 have hmem:=List.mem_of_getElem? hi;have hmemj:=List.mem_of_getElem? hj;have hbd:∀b,o=some b→b<w.heap.size:=fun b hb=>hs.heap.bd b (hs.heap.sub _ hmem b (by rw[←hb];rfl));have st:Cy F w (fun b=>F b∧o≠some b) w:=⟨Nat.le_refl _,fun _ _ _=>rfl,fun _ h _ h'=>h h'.1⟩;have hi':(H.set j (.box b (cs.set q (.p (.lst rows)))))[i]?=some (.vec o sz rows c):=by rw[List.getElem?_set_ne hij];exact hi
 have hkeys:(H.set j (.box b (cs.set q (.p (.lst rows))))).filterMap Aj.key=H.filterMap Aj.key:=EI hj rfl;have hsub:((H.set j (.box b (cs.set q (.p (.lst rows))))).eraseIdx i).Sublist (H.set j (.box b (cs.set q (.p (.lst rows))))):=List.eraseIdx_sublist _ i;have hkmem:∀x∈H.set j (.box b (cs.set q (.p (.lst rows)))),∀k,x.key=some k→∃y∈H,y.key=some k:=by
  intro x hx k hk;rcases Cd hx with rfl | ⟨j',_,hj'⟩
  ·exact⟨_,hmemj,hk⟩
  grind
 have hne:∀x∈(H.set j (.box b (cs.set q (.p (.lst rows))))).eraseIdx i,∀b,x.key=some b→o≠some b:=by
  intro x hx b' hb hob;have ⟨k,hk⟩:=List.mem_iff_getElem?.1 hx;have hnd:((H.set j (.box b (cs.set q (.p (.lst rows))))).filterMap Aj.key).Nodup:=by rw[hkeys];exact hs.heap.nodup
  rw[List.getElem?_eraseIdx] at hk;split at hk
  ·have:=IE hnd hk hi' hb (by rw[←hob];rfl);omega
  have:=IE hnd hk hi' hb (by rw[←hob];rfl);omega
 refine⟨fun b=>F b∧o≠some b,⟨hs.size,?_,?_,EG.mono st _ _ hs.defs⟩,?_⟩
 ·intro t;simp only[I0];cases hq:ts.any (Nat.beq t ·) with
  | false=>exact BP.mono st _ _ (hs.tmp t)
  | true =>
   have ⟨t',ht',he⟩:=List.any_eq_true.1 hq;have e:=Nat.eq_of_beq_eq_true he;subst e;have hv:=hs.tmp t;simp only[ht t ht'] at hv;exact IP hbd (hs.heap.obj _ hmem) hv _ st (fun b hb h=>h.2 hb)
 ·refine⟨fun x hx b' hb=>?_,?_,fun x hx=>?_,fun b' hb=>hs.heap.bd b' hb.1⟩
  ·have ⟨y,hy,hk⟩:=hkmem x (hsub.subset hx) b' hb;exact⟨hs.heap.sub y hy b' hk,hne x hx b' hb⟩
  ·refine(hsub.filterMap Aj.key).nodup ?_;rw[hkeys];exact hs.heap.nodup
  rcases Cd (hsub.subset hx) with rfl | ⟨j',_,hj'⟩
  ·have ⟨vs,T,hb,hl⟩:=hs.heap.obj _ hmemj;have ⟨v,hv,hr⟩:=hl.get hq;have hvs:vs.set q v=vs:=by
    apply List.ext_getElem?
    grind
   refine⟨vs,T,hb,?_⟩;have:=(A6.mono st _ _ hl).set (i:=q) (IP hbd (hs.heap.obj _ hmem) hr _ st (fun b hb h=>h.2 hb))
   rwa [hvs] at this
  exact Gc.mono st x (fun _ _=>O) (hs.heap.obj x (List.mem_of_getElem? hj'))
 refine⟨Nat.le_refl _,fun _ _ _=>O,fun b' hb hn=>⟨hb,fun e=>hn _ hmem (by rw[←e];rfl)⟩,fun b' hb=> .inl hb.1,fun x hx b' hb=> .inl (hkmem x (hsub.subset hx) b' hb),O,O,O⟩
end
section
variable {P:Program}{dst:Option Tmp}{ty:TypeId}{pos:String}{aft:Array Edge}{g:Option (Nat×Bool)}{ρ:Operand→AV}{H:List Aj}{x y z:Operand}{v:AV}
def HZ (sz:Nat) (rows:List (List PV)) (H:List Aj):DL→List Aj→Prop
 | .val v,H'=>∃b c,v= .vs (some b) rows.length c∧H'= .vec (some b) sz rows c::H
 | .panic _,_=>False
theorem LJ {F:Nat→Prop}{w:World}{sz c:Nat}{rows:List (List PV)}{vs:List Value}{T:TypeId}(hH:HRel F H w) (hr:∀r∈rows,r.length=sz) (hl:A6 F w (rows.flatten.map .p) (vs.take rows.flatten.length)) (hc:c*sz≤vs.length) (hcl:rows.length≤c) :
  ∃v H' F',HZ sz rows H (.val v) H'∧Trans F H w F' H' (World.push w (.cells ⟨vs⟩ T (0,0)))∧HRel F' H' (World.push w (.cells ⟨vs⟩ T (0,0)))∧BP F' (World.push w (.cells ⟨vs⟩ T (0,0))) v (.slice (some ⟨w.heap.size,0,none⟩) rows.length c):=by
 refine⟨.vs (some w.heap.size) rows.length c,_,_,⟨w.heap.size,c,O,O⟩,KT H (.vec (some w.heap.size) sz rows c) _ (.inl O),?_,by simp[BP]⟩;refine MD hH (.vec (some w.heap.size) sz rows c) _ O ?_;refine⟨⟨vs⟩,T,Ix _,by simpa using hc,hcl,?_⟩;refine Ia (vs:=vs.take rows.flatten.length) hr ?_ (A6.mono (F6 _ fun b h=>h) _ _ hl);have:=HH (Ix (w:=w) (.cells ⟨vs⟩ T (0,0))) 0 rows.flatten.length;simpa using this
theorem Pd {T e:TypeId}{sz bytes:Nat}{m:Int}{zs:List Value}{zv:Value}{zr:List PV}(hT:D0 P T=some (e,sz,bytes)) (hz:zeroOf P e=some zv) (hzs:zv.cells=⟨zs⟩) (hsz:zs.length=sz) (hpos:0<sz) (hp:Ep ((zs.map EZ).map dn)=some zr)
  (hx:ρ x= .p (.int .i64 m)) (hy:ρ y= .p (.int .i64 m)) (h0:0≤m) (hm:bytes*m≤281474976710656) (hm2:m≤9223372036854775807) :
  CL P ⟨dst,.makeSlice T x y,ty,pos,aft,g⟩ ρ H (HZ sz (List.replicate m.toNat zr) H) :=
 FN fun F w E hH hE=>by
  have ⟨hu,i,hi,hs,hby⟩:=Dw hT;have h1:=hE x AW;have h2:=hE y AW;rw[hx] at h1;rw[hy] at h2;simp only[BP,BN] at h1 h2;unfold zeroOf at hz;have hz':∃j,P.info? e=some j∧j.zero=some zv:=by
   cases hq:P.info? e with
   | none=>simp[hq] at hz
   | some j=>exact⟨j,rfl,by simpa [hq] using hz⟩
  have ⟨j,hj,hz'⟩:=hz';have hzv:(zeroValue e).run P w= .ok zv w:=by simp[zeroValue,typeInfo,hj,hz',Sem.run_bind]
  have hzr:=Fg hp;have hzl:zr.length=sz:=by
   have:=congrArg List.length hzr;simp at this;omega
  have hflat:(List.replicate m.toNat zr).flatten.length=m.toNat*sz:=by simp[hzl]
  have hl:A6 F w ((List.replicate m.toNat zr).flatten.map .p) ((List.replicate m.toNat zs).flatten):=by
   have:=FH (F:=F) (w:=w) (IG (E7 zs)) m.toNat;rw[hzr] at this;have e:(List.replicate m.toNat (zr.map AV.p)).flatten=(List.replicate m.toNat zr).flatten.map .p:=by
    rw[List.map_flatten,List.map_replicate]
   rwa [e] at this
  have hlen:((List.replicate m.toNat zs).flatten).length=m.toNat*sz:=by simp[hsz]
  have ⟨v,H',F',h⟩:=LJ (T:=e) (c:=m.toNat) (vs:=(List.replicate m.toNat zs).flatten) hH (sz:=sz) (rows:=List.replicate m.toNat zr) (by intro r hr;rw[(List.mem_replicate.1 hr).2];exact hzl)
   (by rw[hflat,←hlen,List.take_length];exact hl) (by rw[hlen];exact Nat.le_refl _) Ag
  refine⟨_,_,v,H',F',?_,h⟩;have hw:IntKind.i64.wrap m=m:=RU (by simp[IntKind.min,IntKind.signed,IntKind.bits];omega) (by simp[IntKind.max,IntKind.signed,IntKind.bits];omega);have hti:(typeInfo e).run P w= .ok i w:=by simp[typeInfo,hi]
  have hszr:(sizeOf e).run P w= .ok sz w:=by simp[sizeOf,typeInfo,hi,hs]
  have hask:∀b:Nat,(askRoom b).run P w= .ok () w:=by intro b;unfold askRoom;split<;>rfl
  have hrm:=G6 zs m.toNat;rw[hsz] at hrm;have harr:((Array.range (m.toNat*sz)).map fun i=>zv.cells[i % zv.cells.size]!)=⟨(List.replicate m.toNat zs).flatten⟩:=by
   rw[hzs];apply Array.ext';exact hrm
  have hcond:(decide (m<0)||decide ((bytes:Int)*m > 2 ^ 48))=false:=by
   simp only[Bool.or_eq_false_iff,decide_eq_false_iff_not]
   grind [Int.not_lt]
  simp only[execOp,Instr.makeSlice,Sem.run_bind,run_underlying hu,Result.andThen_ok,h1,h2,asInt,asIntOf,Sem.run_pure,hti,hby,hw];rw[if_neg (by simp[hcond];omega)];simp only[Sem.run_bind,hask,hszr,Result.andThen_ok,pure_bind,Sem.run_pure];by_cases h00:m.toNat*sz=0
  ·have hm0:m.toNat=0:=by
    rcases Nat.mul_eq_zero.1 h00 with h | h
    ·exact h
    omega
   rw[if_pos h00];have e0:((Array.range (m.toNat*sz)).map fun i=>(#[]:Array Value)[i % (#[]:Array Value).size]!)=(⟨(List.replicate m.toNat zs).flatten⟩:Array Value):=by
    rw[h00,hm0];simp
   simp only[Sem.run_bind,e0,newRow,newObj,Sem.run,Result.andThen,Sem.run_pure,List.length_replicate];rfl
  rw[if_neg h00];simp only[Sem.run_bind,hzv,Result.andThen_ok,harr,newRow,newObj,Sem.run,Result.andThen,Sem.run_pure,List.length_replicate];rfl
theorem CW {T e:TypeId}{sz bytes n c b:Nat}{k:IntKind}{i:Int}(hT:D0 P T=some (e,sz,bytes)) (hx:ρ x= .vs (some b) n c) (hy:ρ y= .p (.int k i)) (h0:0≤i) (hn:i<n) :
  Ce P ⟨dst,.indexAddr T x y,ty,pos,aft,g⟩ ρ H (.ptr b (i.toNat*sz)) H :=
 BX fun F w E hH hE=>by
  have ⟨hu,j,hj,hs1,_⟩:=Dw hT;have h1:=hE x AW;have h2:=hE y AW;rw[hx] at h1;rw[hy] at h2;simp only[BP,BN] at h1 h2;refine⟨.pointer (some ⟨b,0+i.toNat*sz,none⟩),?_,by simp[BP]⟩;simp[execOp,Instr.indexAt,Sem.run_bind,run_underlying hu,h1,h2,asIntOf,h0,hn,sizeOf,typeInfo,hj,hs1,Addr.add_mid]
theorem LS {T:TypeId}{b i j sz c:Nat}{rows:List (List PV)}{r:List PV}(hT:DO P T=some (true,sz)) (hx:ρ x= .ptr b (j*sz)) (hi:H[i]?=some (.vec (some b) sz rows c)) (hr:rows[j]?=some r) :
  Ce P ⟨dst,.load T x,ty,pos,aft,g⟩ ρ H (.agg (r.map .p)) H :=
 BX fun F w E hH hE=>by
  have ⟨d,hu,hd,hz⟩:=Df hT;have h1:=hE x AW;rw[hx] at h1;simp only[BP] at h1;have ⟨vs,T',hb,_,_,hrows⟩:=hH.obj _ (List.mem_of_getElem? hi);have ⟨hc,hl⟩:=hrows.at hr;have ⟨us,u1,u2,u3⟩:=hc.vals;rw[Nat.zero_add] at u1;refine⟨.agg ⟨us⟩,?_,by simp only[BP];exact⟨us,rfl,u3⟩⟩;simp only[execOp,Instr.loadAt,h1,Instr.sureAddr,Sem.run_bind,Sem.run_pure,Result.andThen_ok,Ey hu hd u1 (by rw[hz,u2,hl])]
theorem PT {T:TypeId}{b i j c m:Nat}{rows:List (List PV)}{q:PV}(hT:DO P T=some (false,m)) (hx:ρ x= .ptr b (j*1)) (hi:H[i]?=some (.vec (some b) 1 rows c)) (hr:rows[j]?=some [q]) :
  Ce P ⟨dst,.load T x,ty,pos,aft,g⟩ ρ H (.p q) H :=
 BX fun F w E hH hE=>by
  have ⟨d,hu,hd,hz⟩:=Df hT;have h1:=hE x AW;rw[hx] at h1;simp only[BP] at h1;have ⟨vs,T',hb,_,_,hrows⟩:=hH.obj _ (List.mem_of_getElem? hi);have ⟨hc,hl⟩:=hrows.at hr;simp only[BS,Nat.zero_add] at hc;have ⟨⟨u,hcell,hp⟩,_⟩:=hc;refine⟨u,?_,by simpa only[BP] using hp⟩;simp only[execOp,Instr.loadAt,h1,Instr.sureAddr,Sem.run_bind,Sem.run_pure,Result.andThen_ok,Ev hu hd hcell]
theorem IX {F:Nat→Prop}{w w':World}{b o:Nat}{us:List Value}{T:TypeId}{vs:List Value}(hb:w.heap[b]?=some (.cells ⟨vs⟩ T (0,0))) (hb':w'.heap[b]?=some (.cells ⟨splice vs o us⟩ T (0,0))) (st:Cy F w F w') :
  ∀{cs:List PV} {p:Nat},(p+cs.length≤o∨o+us.length≤p)→BS F w b p cs→BS F w' b p cs:=by
 have hget:∀(us vs:List Value) (o q:Nat),(q<o∨o+us.length≤q)→(splice vs o us)[q]?=vs[q]?:=by
  intro us
  induction us with
  | nil=>intro vs o q _;rfl
  | cons u us ih =>
   intro vs o q h;simp only[splice]
   grind
 intro cs
 induction cs with
 | nil=>intro p _ _;simp[BS]
 | cons c cs ih =>
  intro p h hc;simp only[BS] at hc ⊢;have ⟨⟨v,hv,hp⟩,hr⟩:=hc;refine⟨⟨v,?_,BN.mono st _ _ hp⟩,ih (by simp at h;omega) hr⟩;have hq:=hget us vs o p (by simp at h;omega);simp[World.cell?,hb] at hv;simp[World.cell?,hb',hq,hv]
theorem S5 {F:Nat→Prop}{w w':World}{b o sz:Nat}{us:List Value}{T:TypeId}{vs:List Value}(hb:w.heap[b]?=some (.cells ⟨vs⟩ T (0,0))) (hb':w'.heap[b]?=some (.cells ⟨splice vs o us⟩ T (0,0))) (st:Cy F w F w') (hus:us.length=sz) {r:List PV}(hr:BS F w' b o r) (hrl:r.length=sz) :
  ∀{rows:List (List PV)} {p j:Nat},o=p+j*sz→A7 F w b sz p rows→A7 F w' b sz p (rows.set j r):=by
 intro rows
 induction rows with
 | nil=>intro p j _ _;simp[A7]
 | cons r' rows ih =>
  intro p j ho h;simp only[A7] at h;cases j with
  | zero =>
   simp only[List.set_cons_zero,A7];have:o=p:=by omega
   subst this;refine⟨hrl,hr,?_⟩;have:∀{rows:List (List PV)} {q:Nat},o+sz≤q→A7 F w b sz q rows→A7 F w' b sz q rows:=by
    intro rows
    induction rows with
    | nil=>intro q _ _;simp[A7]
    | cons a rows ih2 =>
     intro q hq ha;simp only[A7] at ha ⊢
     grind [IX]
   exact this Af h.2.2
  | succ j =>
   simp only[List.set_cons_succ,A7]
   grind [Nat.succ_mul,IX]
theorem KR {α:Type}:∀(us vs:List α) (o q:Nat) (u:α),us[q]?=some u→o+us.length≤vs.length→(splice vs o us)[o+q]?=some u
 | [],vs,o,q,u,h,_=>by simp at h
 | a::us,vs,o,q,u,h,hl=>by
  simp only[splice];cases q with
  | zero =>
   simp at h;subst h;have hget:∀(us vs:List α) (o q:Nat),q<o→(splice vs o us)[q]?=vs[q]?:=by
    intro us
    induction us with
    | nil=>intro vs o q _;rfl
    | cons u us ih=>intro vs o q h;simp only[splice];rw[ih _ _ _ Af,List.getElem?_set_ne Af]
   rw[hget _ _ _ _ Af];show (vs.set o a)[o]?=some a;rw[List.getElem?_set_self (by simp at hl;omega)]
  | succ q =>
   simp at h;have:=KR us (vs.set o a) (o+1) q u h (by simp at hl ⊢;omega)
   rwa [Nat.add_assoc,Nat.add_comm 1 q] at this
theorem Pb {T:TypeId}{bl:Bool}{b i j sz c:Nat}{rows:List (List PV)}{us:List AV}{r:List PV}(hT:DO P T=some (bl,sz)) (hpos:Nat.blt 0 sz=true) (hx:ρ x= .ptr b (j*sz)) (hi:H[i]?=some (.vec (some b) sz rows c)) (hj:j<rows.length) (hy:DA (ρ y)=some us) (hp:Ep (us.map dn)=some r) (hrl:r.length=sz) (h1:us.all one=true) :
  Ce P ⟨dst,.store T x y,ty,pos,aft,g⟩ ρ H (.p .any) (H.set i (.vec (some b) sz (rows.set j r) c)) :=
 Hj fun F w E hH hE=>by
  have hpos':0<sz:=by simpa [Nat.blt_eq] using hpos
  have e1:=hE x AW;have e2:=hE y AW;rw[hx] at e1;simp only[BP] at e1;have ⟨vs,T',hb,hcs,hcl,hrows⟩:=hH.obj _ (List.mem_of_getElem? hi);obtain⟨vs⟩:=vs;have ⟨ws,hc,hl'⟩:=JX e2 hy;have hul:us.length=sz:=by
   have:=congrArg List.length (Fg hp)
   grind
  have hlen:=hl'.length;have hw:FZ b (.cells ⟨splice vs (j*sz) ws⟩ T' (0,0)) w (w.setCells b (j*sz) ws):=FJ ws hb (by intro e;rw[e] at hlen;simp at hlen;omega);have hlt:b<w.heap.size:=(Array.getElem?_eq_some_iff.1 hb).1;have hF:F b:=hH.sub _ (List.mem_of_getElem? hi) b rfl;have hcs':c*sz≤vs.length:=by simpa using hcs
  have hfit:j*sz+sz≤vs.length:=by
   have:(j+1)*sz≤c*sz:=Nat.mul_le_mul_right sz Af
   grind
  refine⟨w.setCells b (j*sz) ws,_,F,?_,⟨O,O⟩,hw.trans hi O O,hw.HRel hH hi O O ?_⟩
  ·have hst:=Ip (T:=T) (v:=E y) (o:=j*sz) hT hb hc Af hfit (Kx hl' h1);simp only[execOp,Instr.storeAt,e1,Instr.sureAddr,Sem.run_bind,Sem.run_pure,Result.andThen_ok,hst]
  have hb':=hw.self hlt;have st:=hw.stable hF;refine⟨⟨splice vs (j*sz) ws⟩,T',hb',by simp only[Et,List.size_toArray];exact hcs',by simpa using hcl,?_⟩;refine S5 hb hb' st Af (r:=r) ?_ hrl Ag hrows;have hln:=IG (A6.mono st _ _ hl');rw[Fg hp] at hln;refine I4 (vs:=ws) ?_ hln;intro q u hq;have:=KR ws vs (j*sz) q u hq Af;simp[World.cell?,hb',this]
end
section
variable {P:Program}{dst:Option Tmp}{ty:TypeId}{pos:String}{aft:Array Edge}{g:Option (Nat×Bool)}{ρ:Operand→AV}{H:List Aj}{x y z:Operand}{v:AV}
theorem A7.vals {F:Nat→Prop}{w:World}{b sz:Nat}:∀{rows:List (List PV)}{o:Nat},A7 F w b sz o rows→∃us:List Value,w.rangeAt b o us∧us.length=rows.length*sz∧A6 F w (rows.flatten.map .p) us
 | [],o,_=>⟨[],by intro j v h;simp at h,by simp,by simp[A6]⟩
 | r::rows,o,h=>by
  simp only[A7] at h;have ⟨us,a1,a2,a3⟩:=h.2.1.vals;have ⟨vs,b1,b2,b3⟩:=A7.vals h.2.2;refine⟨us++vs,?_,by simp only[List.length_append,List.length_cons,Nat.succ_mul];rw[a2,b2,h.1];omega,?_⟩
  ·intro j v hv;rcases Nat.lt_or_ge j us.length with hj | hj
   ·rw[List.getElem?_append_left hj] at hv;exact a1 j v hv
   rw[List.getElem?_append_right hj] at hv;have:=b1 _ v hv;have e:o+sz+(j - us.length)=o+j:=by rw[←h.1,←a2];omega
   rwa [e] at this
  rw[List.flatten_cons,List.map_append];exact a3.append b3
theorem Tb {need c:Nat}(h:c<need):Builtin.nextslicecap need c≤2*need:=by
 unfold Builtin.nextslicecap;split
 ·omega
 split
 ·omega
 have key:∀(r c:Nat),256≤c→c≤2*need→Builtin.growBy need r c≤2*need:=by
  intro r
  induction r with
  | zero=>intro c _ h;exact h
  | succ r ih =>
   intro c h1 h2;unfold Builtin.growBy
   grind
 grind
def Kq (i sz:Nat) (rows:List (List PV)) (H:List Aj):DL→List Aj→Prop
 | .val v,H'=>∃o c,v= .vs o rows.length c∧H'=H.set i (.vec o sz rows c)
 | .panic _,_=>False
theorem JQ {F:Nat→Prop}{w:World}{sz:Nat}{rows:List (List PV)}{u:Value}(h:BP F w (.p (.lst rows)) u) (hr:∀r∈rows,r.length=sz) :
  ∃us o c,u= .slice o rows.length c∧(Builtin.firstCells sz rows.length u).run P w= .ok ⟨us⟩ w∧us.length=rows.length*sz∧A6 F w (rows.flatten.map .p) us:=by
 simp only[BP,BN] at h;rcases h with ⟨rfl,o,c,rfl⟩ | ⟨b,o,c,sz',rfl,hF,hb,hc,hrows⟩
 ·refine⟨[],o,c,O,?_,by simp,by simp[A6]⟩;cases o with
  | none=>rfl
  | some a=>simp[Builtin.firstCells,loadCells,loadCellsFrom]
 cases rows with
 | nil =>
  refine⟨[],some ⟨b,o,none⟩,c,O,?_,by simp,by simp[A6]⟩;simp[Builtin.firstCells,loadCells,loadCellsFrom]
 | cons r rows =>
  have e:sz'=sz:=by
   grind [A7]
  subst e;have ⟨us,h1,h2,h3⟩:=hrows.vals;refine⟨us,some ⟨b,o,none⟩,c,O,?_,h2,h3⟩;have:=run_loadCells_list (P:=P) w ⟨b,o,none⟩ us (fun j v hv=>by rw[Addr.add_mid];exact h1 j v hv);rw[h2] at this;exact this
theorem Iw {F:Nat→Prop}{w:World}{o:Option Nat}{sz c:Nat}{rows:List (List PV)}{u:Value}(ho:Gc F w (.vec o sz rows c)) (h:BP F w (.vs o rows.length c) u) :
  ∃us,(Builtin.firstCells sz rows.length u).run P w= .ok ⟨us⟩ w∧us.length=rows.length*sz∧A6 F w (rows.flatten.map .p) us:=by
 cases o with
 | none =>
  obtain⟨rfl,rfl⟩:=ho;simp only[BP] at h;obtain⟨_,_,a,rfl⟩:=h;refine⟨[],?_,by simp,by simp[A6]⟩;cases a with
  | none=>rfl
  | some a=>simp[Builtin.firstCells,loadCells,loadCellsFrom]
 | some b =>
  simp only[BP] at h;subst h;have ⟨vs,T,hb,h1,h2,hrows⟩:=ho;have ⟨us,a1,a2,a3⟩:=hrows.vals;refine⟨us,?_,a2,a3⟩;have:=run_loadCells_list (P:=P) w ⟨b,0,none⟩ us (fun j v hv=>by rw[Addr.add_mid];exact a1 j v hv);rw[a2] at this;exact this
theorem Mj {F:Nat→Prop}{w:World}{b sz:Nat}:∀{rows rows':List (List PV)}{o:Nat},A7 F w b sz o rows→A7 F w b sz (o+rows.length*sz) rows'→A7 F w b sz o (rows++rows')
 | [],rows',o,_,h=>by simpa using h
 | r::rows,rows',o,h,h'=>by
  simp only[List.cons_append,A7] at h ⊢;refine⟨h.1,h.2.1,Mj h.2.2 ?_⟩;simp only[List.length_cons,Nat.succ_mul] at h';have e:o+sz+rows.length*sz=o+(rows.length*sz+sz):=by omega
  rw[e];exact h'
theorem PZ (z:Array Value) (n:Nat):(Builtin.zeroCells z n).size=n*z.size:=by simp[Builtin.zeroCells]
theorem dW {rows:List (List PV)}{sz:Nat}(h:∀r∈rows,r.length=sz):rows.flatten.length=rows.length*sz:=by
 induction rows with
 | nil=>simp
 | cons r rows ih=>simp only[List.flatten_cons,List.length_append,List.length_cons,Nat.succ_mul,ih (fun r hr=>h r (by simp[hr])),h r Ag];omega
theorem A7.lens {F:Nat→Prop}{w:World}{b sz:Nat}:∀{rows:List (List PV)}{o:Nat},A7 F w b sz o rows→∀r∈rows,r.length=sz
 | [],_,_=>by simp
 | r::rows,o,h=>by
  simp only[A7] at h;intro r' hr';rcases List.mem_cons.1 hr' with rfl | hr'
  ·exact h.1
  exact A7.lens h.2.2 r' hr'
theorem Gc.lens {F:Nat→Prop}{w:World}{o:Option Nat}{sz c:Nat}{rows:List (List PV)}(h:Gc F w (.vec o sz rows c)):∀r∈rows,r.length=sz:=by
 cases o with
 | none=>obtain⟨rfl,_⟩:=h;simp
 | some b=>obtain⟨_,_,_,_,_,hr⟩:=h;exact hr.lens
def DJ (sz:Nat) (r:List PV):Prop:=r.length=sz∧∀c∈r,c≠ .any∧c≠ .unit
theorem Vf {rows:List (List PV)}{sz:Nat}(h:∀r∈rows,DJ sz r):(rows.flatten.map AV.p).all one=true:=by
 rw[List.all_eq_true];intro a ha;obtain⟨c,hc,rfl⟩:=List.mem_map.1 ha;have ⟨r,hr,hcr⟩:=List.mem_flatten.1 hc;have:=(h r hr).2 c hcr;cases c<;>simp_all [one]
theorem J5 {T T2 e e2:TypeId}{sz bytes n2 n3 c i n:Nat}{o:Option Nat}{rows rows':List (List PV)}{zv:Value}(hT:D0 P T=some (e,sz,bytes)) (hT2:D0 P T2=some (e2,n2,n3)) (hz:zeroOf P e=some zv) (hzs:zv.cells.size=sz) (hb0:(Nat.blt 0 sz&&Nat.blt 0 bytes)=true)
  (hx:∀F w u,BP F w (ρ x) u→BP F w (.vs o n c) u) (hn:n=rows.length) (hi:H[i]?=some (.vec o sz rows c)) (hy:norm (ρ y)= .p (.lst rows')) (hsol:∀r∈rows',DJ sz r) (hroom:2*(rows.length+rows'.length)*bytes≤281474976710656) :
  CL P ⟨dst,.call { callee:= .builtin .append,args:=#[x,y],argTypes:=#[T,T2] },ty,pos,aft,g⟩ ρ H (Kq i sz (rows++rows') H) :=
 FN fun F w E hH hE=>by
  subst hn;have hr':∀r∈rows',r.length=sz:=fun r hr=>(hsol r hr).1;simp only[Bool.and_eq_true,Nat.blt_eq] at hb0;have ⟨hu,inf,hinf,hs,hby⟩:=Dw hT;have ⟨hu2,_⟩:=Dw hT2;have h1:=hE x AR;have h2:=(hE y AR).norm;replace h1:=hx _ _ _ h1;rw[hy] at h2;have hobj:=hH.obj _ (List.mem_of_getElem? hi);have ⟨ns,oy,cy,hEy,hns,hnsl,hnsr⟩:=JQ (P:=P) h2 hr';have ⟨os,hos,hosl,hosr⟩:=Iw (P:=P) hobj h1;have hEx:∃base,E x= .slice base rows.length c∧(∀b,o=some b→base=some ⟨b,0,none⟩):=by
   cases o with
   | none =>
    simp only[BP] at h1;have ⟨e1,e2,a,ha⟩:=h1;refine⟨a,?_,fun b hb=>by cases hb⟩;rw[ha,e1,e2]
   | some b=>simp only[BP] at h1;exact⟨_,h1,fun b' hb=>by injection hb with hb;subst hb;rfl⟩
  have ⟨base,hEx,hbase⟩:=hEx;unfold zeroOf at hz;have hz':∃j,P.info? e=some j∧j.zero=some zv:=by
   cases hq:P.info? e with
   | none=>simp[hq] at hz
   | some j=>exact⟨j,rfl,by simpa [hq] using hz⟩
  have ⟨j,hj,hz'⟩:=hz';have hzv:∀w,(zeroValue e).run P w= .ok zv w:=fun w=>by simp[zeroValue,typeInfo,hj,hz',Sem.run_bind]
  have hti:∀w,(typeInfo e).run P w= .ok inf w:=fun w=>by simp[typeInfo,hinf]
  have hszr:∀w,(sizeOf e).run P w= .ok sz w:=fun w=>by simp[sizeOf,typeInfo,hinf,hs]
  have hlens:=hobj.lens;have hlall:∀r∈rows++rows',r.length=sz:=by
   intro r hr;rcases List.mem_append.1 hr with hr | hr
   ·exact hlens r hr
   exact hr' r hr
  have hlen:(rows++rows').length=rows.length+rows'.length:=by simp
  have hlenof:∀w,(Builtin.lenOf (E y)).run P w= .ok rows'.length w:=fun w=>by rw[hEy];rfl
  have hzeros:((TypeDesc.slice e2) matches .int _)=false:=rfl;by_cases hcap:rows.length+rows'.length≤c
  ·-- there is room
   have hrun:∀w',(match base with | some a=>(storeCells (a.add (rows.length*sz)) ns).run P w= .ok () w' | none=>w'=w) →
     (execOp E ⟨dst,.call { callee:= .builtin .append,args:=#[x,y],argTypes:=#[T,T2] },ty,pos,aft,g⟩).run P w= .ok (.value (.slice base (rows.length+rows'.length) c)) w':=by
    intro w' hst;have hEx':=hEx;simp only[execOp,resolve,invoke,builtin,Builtin.append_,hEx,Sem.run_bind,Sem.run_pure,Result.andThen_ok,List.map_toArray,List.map_cons,List.map_nil,List.getElem?_toArray,List.getElem?_cons_zero,List.getElem?_cons_succ,run_underlying hu,run_underlying hu2,hszr,pure_bind,
     Bool.false_eq_true,if_false,hlenof,Bool.not_false,if_true]
    rw[if_pos hcap];simp only[Sem.run_bind,hns,Result.andThen_ok];cases base with
    | none=>simp only at hst;subst hst;simp
    | some a=>simp only at hst;simp[hst]
   cases o with
   | none =>
    obtain⟨rfl,rfl⟩:=hobj;have hr0:rows'=[]:=by simpa using hcap
    subst hr0;have hns0:ns=[]:=by
     apply List.eq_nil_of_length_eq_zero;simpa using hnsl
    subst hns0;have hset:H.set i (.vec none sz ([]++[]) 0)=H:=by
     rw[List.append_nil];apply List.ext_getElem?;intro k;rw[List.getElem?_set];split
     ·rename_i hk;subst hk;rw[hi];split
      ·rfl
      rename_i hge;rw[List.getElem?_eq_none Af] at hi;cases hi
     rfl
    refine⟨_,w,.vs none 0 0,H,F,hrun w ?_,⟨none,0,O,hset.symm⟩,.refl,hH,?_⟩
    ·cases base with
     | none=>rfl
     | some a=>rfl
    ·simp only[BP];exact⟨trivial,trivial,base,rfl⟩
   | some b =>
    have ⟨vs,T',hb,hcs,hcl,hrows⟩:=hobj;obtain⟨vs⟩:=vs;have hbase':=hbase b rfl;subst hbase';have hcs':c*sz≤vs.length:=by simpa using hcs
    have hlt:b<w.heap.size:=(Array.getElem?_eq_some_iff.1 hb).1;have hF:F b:=hH.sub _ (List.mem_of_getElem? hi) b rfl;cases hrr:rows' with
    | nil =>
     subst hrr;have hns0:ns=[]:=by
      apply List.eq_nil_of_length_eq_zero;simpa using hnsl
     subst hns0;have hset:H.set i (.vec (some b) sz (rows++[]) c)=H:=by
      rw[List.append_nil];apply List.ext_getElem?;intro k;rw[List.getElem?_set];split
      ·rename_i hk;subst hk;rw[hi];split
       ·rfl
       rename_i hge;rw[List.getElem?_eq_none Af] at hi;cases hi
      rfl
     refine⟨_,w,.vs (some b) (rows++[]).length c,H,F,hrun w O,⟨some b,c,O,hset.symm⟩,.refl,hH,?_⟩;simp[BP]
    | cons r0 rr =>
     rw[←hrr];have hnsne:ns≠[]:=by
      intro e0;rw[e0] at hnsl;rw[hrr] at hnsl;simp[Nat.succ_mul] at hnsl;omega
     have hw:FZ b (.cells ⟨splice vs (rows.length*sz) ns⟩ T' (0,0)) w (w.setCells b (rows.length*sz) ns):=FJ ns hb hnsne;have hfit:rows.length*sz+ns.length≤vs.length:=by
      have:(rows.length+rows'.length)*sz≤c*sz:=Nat.mul_le_mul_right sz hcap;rw[Nat.add_mul] at this;omega
     have st:=hw.stable hF;have hb':=hw.self hlt;refine⟨_,w.setCells b (rows.length*sz) ns,.vs (some b) (rows++rows').length c,_,F,hrun _ ?_,⟨some b,c,O,O⟩,hw.trans hi O O,hw.HRel hH hi O O ?_,by simp[BP]⟩
     ·have ht:=SC hb (o:=rows.length*sz) (n:=ns.length) hfit;have h1':∀u∈ns,u.oneCell'=true:=Kx hnsr (Vf hsol);have:=run_storeCells_cells (P:=P) b (rows.length*sz) ns 0 w (fun q hq=>by simpa using (ht q hq).1) (fun q hq=>by simpa using (ht q hq).2) h1';simp only[Nat.add_zero] at this;simp only[Addr.add_mid,Nat.zero_add];exact this
     refine⟨⟨splice vs (rows.length*sz) ns⟩,T',hb',by simp only[Et,List.size_toArray];exact hcs',by simp;omega,?_⟩;refine Mj ?_ ?_
     ·have:∀{rs:List (List PV)} {q:Nat},q+rs.length*sz≤rows.length*sz→A7 F w b sz q rs→A7 F (w.setCells b (rows.length*sz) ns) b sz q rs:=by
       intro rs
       induction rs with
       | nil=>intro q _ _;simp[A7]
       | cons a rs ih2 =>
        intro q hq ha;simp only[A7] at ha ⊢;simp only[List.length_cons,Nat.succ_mul] at hq;exact⟨ha.1,IX hb hb' st (.inl (by rw[ha.1];omega)) ha.2.1,ih2 Af ha.2.2⟩
      exact this Af hrows
     refine Ia (vs:=ns) hr' ?_ (A6.mono st _ _ hnsr);intro q u hq;have:=KR ns vs (rows.length*sz) q u hq hfit;simp[World.cell?,hb',this]
  -- a new array
  have hcap':c<rows.length+rows'.length:=by omega
  generalize hnc:Question.cut (.appendCap (rows.length+rows'.length) c e) (w.tape w.drawn (.appendCap (rows.length+rows'.length) c e))=newCap;have hncge:rows.length+rows'.length≤newCap:=by rw[←hnc];simp only[Question.cut];omega
  have hnext:=Tb hcap';have hask:∀(b:Nat) w,(askRoom b).run P w= .ok () w:=by intro b w;unfold askRoom;split<;>rfl
  let w1:World:={ w with drawn:=w.drawn+1 }
  have same:Cy F w F w1:=⟨Nat.le_refl _,fun _ _ _=>rfl,fun _ h _=>h⟩;have hobj':Gc F w1 (.vec o sz rows c):=Gc.mono same _ (fun _ _=>rfl) hobj;have ⟨ns',oy',cy',hEy',hns',hnsl',hnsr'⟩:=JQ (P:=P) (BP.mono same _ _ h2) hr';have ⟨os',hos',hosl',hosr'⟩:=Iw (P:=P) hobj' (BP.mono same _ _ h1)
  let vs:List Value:=os'++ns'++(Builtin.zeroCells zv.cells (newCap - (rows.length+rows'.length))).toList
  have hrun:(execOp E ⟨dst,.call { callee:= .builtin .append,args:=#[x,y],argTypes:=#[T,T2] },ty,pos,aft,g⟩).run P w= .ok (.value (.slice (some ⟨w.heap.size,0,none⟩) (rows.length+rows'.length) newCap)) (World.push w1 (.cells ⟨vs⟩ e (0,0))):=by
   have hos2:=hos';rw[hEx] at hos2;simp only[execOp,resolve,invoke,builtin,Builtin.append_,hEx,Sem.run_bind,Sem.run_pure,Result.andThen_ok,List.map_toArray,List.map_cons,List.map_nil,List.getElem?_toArray,List.getElem?_cons_zero,List.getElem?_cons_succ,run_underlying hu,run_underlying hu2,hszr,pure_bind,
    Bool.false_eq_true,if_false,hlenof,Bool.not_false,if_true]
   rw[if_neg hcap];simp only[Sem.run_bind,hti,Result.andThen_ok,hby];rw[if_neg Aa];simp only[Sem.run_bind,Sem.run_pure,Result.andThen_ok,hti,hby,pure_bind];rw[if_neg (by
    have:Builtin.nextslicecap (rows.length+rows'.length) c*bytes≤2*(rows.length+rows'.length)*bytes:=Nat.mul_le_mul_right bytes hnext;simp;omega)]
   have hch:(choose (.appendCap (rows.length+rows'.length) c e)).run P w= .ok newCap w1:=by
    simp only[choose,Sem.run,Question.forced,Bool.false_eq_true,if_false,hnc];rfl
   simp only[Sem.run_bind,Sem.run_pure,Result.andThen_ok,pure_bind,hch,hti,hask,hos2,hns',hzv,newRow,newObj,Sem.run,Result.andThen];have evs:(⟨os'⟩++⟨ns'⟩++Builtin.zeroCells zv.cells (newCap - (rows.length+rows'.length)):Array Value)=⟨vs⟩:=by
    apply Array.ext';simp[vs]
   rw[evs];rfl
  have hvl:vs.length=newCap*sz:=by
   simp only[vs,List.length_append,hosl',hnsl',Array.length_toList,PZ,hzs];rw[←Nat.add_mul,←Nat.add_mul];congr 1;omega
  have hlen2:(rows++rows').flatten.length=(rows.length+rows'.length)*sz:=by rw[dW hlall,hlen]
  have hpre:A6 F w1 ((rows++rows').flatten.map .p) (vs.take ((rows++rows').flatten.length)):=by
   have e1:vs.take ((rows++rows').flatten.length)=os'++ns':=by
    rw[hlen2];have:(os'++ns').length=(rows.length+rows'.length)*sz:=by rw[List.length_append,hosl',hnsl',Nat.add_mul]
    rw[←this];exact List.take_left
   rw[e1,List.flatten_append,List.map_append];exact hosr'.append hnsr'
  -- the tracked object lies in the new array
  have hH1:HRel F H w1:=hH.stable' same (fun _ h=>h) (fun _ _ _ _=>rfl) hH.bd;have t1:Trans F H w F H w1:=⟨Nat.le_refl _,fun _ _ _=>rfl,fun _ h _=>h,fun _ h=> .inl h,fun o ho b hb=> .inl ⟨o,ho,hb⟩,rfl,rfl,rfl⟩;have ⟨v',H',F',⟨b',c',hv',hH'⟩,ht,hHr,hrep⟩:=LJ (T:=e) (c:=newCap) (vs:=vs) (H:=H) hH1 hlall hpre (by rw[hvl];exact Nat.le_refl _) (by rw[hlen];exact hncge);subst hv';subst hH';have hset:H.set i (.vec (some b') sz (rows++rows') c')=H.take i++ .vec (some b') sz (rows++rows') c'::H.drop (i+1):=by
   rw[List.set_eq_take_append_cons_drop,if_pos (List.getElem?_eq_some_iff.1 hi).1]
  have hperm:(Aj.vec (some b') sz (rows++rows') c'::H.eraseIdx i).Perm (H.set i (.vec (some b') sz (rows++rows') c')):=by
   rw[hset,List.eraseIdx_eq_take_drop_succ];exact List.perm_middle.symm
  have hsub:(Aj.vec (some b') sz (rows++rows') c'::H.eraseIdx i).Sublist (Aj.vec (some b') sz (rows++rows') c'::H):=(List.eraseIdx_sublist H i).cons_cons _;refine⟨_,_,.vs (some b') (rows++rows').length c',H.set i (.vec (some b') sz (rows++rows') c'),F',hrun,⟨some b',c',O,O⟩,?_,(hHr.sublist hsub).perm hperm,by rw[←hlen];exact hrep⟩;have:=(t1.trans hH.bd ht).sublist hsub;exact { this with keys:=fun o ho=>this.keys o (hperm.mem_iff.2 ho) }
theorem OX {T T2 e e2:TypeId}{sz bytes n2 n3 c i n:Nat}{o:Option Nat}{rows rows':List (List PV)}{zv:Value}(hT:D0 P T=some (e,sz,bytes)) (hT2:D0 P T2=some (e2,n2,n3)) (hz:zeroOf P e=some zv) (hzs:zv.cells.size=sz) (hb0:(Nat.blt 0 sz&&Nat.blt 0 bytes)=true)
  (hx:ρ x= .vs o n c) (hn:n=rows.length) (hi:H[i]?=some (.vec o sz rows c)) (hy:norm (ρ y)= .p (.lst rows')) (hsol:∀r∈rows',DJ sz r) (hroom:2*(rows.length+rows'.length)*bytes≤281474976710656) :
  CL P ⟨dst,.call { callee:= .builtin .append,args:=#[x,y],argTypes:=#[T,T2] },ty,pos,aft,g⟩ ρ H (Kq i sz (rows++rows') H) :=
 J5 hT hT2 hz hzs hb0 (fun _ _ _ h=>by rw[hx] at h;exact h) hn hi hy hsol hroom
theorem NQ {T T2 e e2:TypeId}{sz bytes n2 n3 d:Nat}{rows':List (List PV)}{zv:Value}(hT:D0 P T=some (e,sz,bytes)) (hT2:D0 P T2=some (e2,n2,n3)) (hz:zeroOf P e=some zv) (hzs:zv.cells.size=sz) (hb0:(Nat.blt 0 sz&&Nat.blt 0 bytes)=true)
  (hx:∀F w u,BP F w (ρ x) u→BP F w (.vs none 0 0) u) (hy:norm (ρ y)= .p (.lst rows')) (hsol:∀r∈rows',DJ sz r) (hroom:2*rows'.length*bytes≤281474976710656) :
  Ce P ⟨some d,.call { callee:= .builtin .append,args:=#[x,y],argTypes:=#[T,T2] },ty,pos,aft,g⟩ ρ H (.p (.lst rows')) H:=by
 intro r F S a w hs hH hρ hd;subst hH;have hg:HRel F (.vec none sz [] 0::S.H) w:=⟨fun o ho b hb=>by
   rcases List.mem_cons.1 ho with rfl | ho
   ·cases hb
   ·exact hs.heap.sub o ho b hb,by simpa [List.filterMap_cons,Aj.key] using hs.heap.nodup,fun o ho=>by
   rcases List.mem_cons.1 ho with rfl | ho
   ·exact⟨O,O⟩
   exact hs.heap.obj o ho,hs.heap.bd⟩
 have hs1:D1 F ⟨S.n,S.τ,.vec none sz [] 0::S.H,S.D⟩ a w:=⟨hs.size,hs.tmp,hg,hs.defs⟩;have h:=J5 (P:=P) (dst:=some d) (ty:=ty) (pos:=pos) (aft:=aft) (g:=g) (ρ:=ρ) (H:= .vec none sz [] 0::S.H) (i:=0) (o:=none) (rows:=[]) (n:=0) (c:=0) hT hT2 hz hzs hb0 hx rfl rfl hy hsol (by simpa using hroom) r F _ a w hs1 rfl hρ hd;refine Ff h ?_ ?_
 ·rintro a' w' ⟨v,H',F',⟨o,c,rfl,rfl⟩,hs',ht⟩;simp only[List.nil_append,List.set_cons_zero,As.put] at hs' ht;have ⟨F'',hs'',ht''⟩:=CH (n:=S.n) (τ:=put S.τ (some d) (.vs o rows'.length c)) (H:= .vec o sz rows' c::S.H) (D:=S.D) (i:=0) [d] rfl (fun t ht=>by simp at ht;subst ht;simp[put]) F' a' w' hs';have e:I0 [d] (.p (.lst rows')) (put S.τ (some d) (.vs o rows'.length c))=put S.τ (some d) (.p (.lst rows')):=by
   funext t;simp only[I0,put,List.any_cons,List.any_nil,Bool.or_false]
   grind
  simp only[e,List.eraseIdx_cons_zero] at hs'' ht'';have t:=ht.trans hs.heap.bd ht'';refine⟨_,S.H,F'',⟨O,O⟩,hs'',⟨t.size,fun b hb hn=>t.same b hb ?_,fun b hb hn=>t.keep b hb ?_,t.fresh,fun o' ho b hb=>?_,t.os,t.out,t.tape⟩⟩
  ·intro o' ho hk;rcases List.mem_cons.1 ho with rfl | ho
   ·cases hk
   exact hn o' ho hk
  ·intro o' ho hk;rcases List.mem_cons.1 ho with rfl | ho
   ·cases hk
   exact hn o' ho hk
  grind
 rintro e a' w' ⟨v,H',F',u,h,_⟩;exact h.elim
end
section
variable {P:Program}{r:Option Nat}{ops:Array Oper}{Q:Bd→As→Prop}{k:Nat}{n:Nat}{τ:Nat→AV}{H H':List Aj}{D:List Cb}{dst:Option Tmp}{op:Op}{ty:TypeId}{pos:String}{aft:Array Edge}{v:AV}
theorem IQ {i sz:Nat}{rows:List (List PV)}(ho:ops[k]?=some ⟨dst,op,ty,pos,aft,none⟩) (hd:D9 dst n=true) (h:CL P ⟨dst,op,ty,pos,aft,none⟩ (ev τ) H (Kq i sz rows H))
  (next:∀o c,AL P r ops (k+1) ⟨n,put τ dst (.vs o rows.length c),H.set i (.vec o sz rows c),D⟩ Q):AL P r ops k ⟨n,τ,H,D⟩ Q :=
 EC (S:=⟨n,τ,H,D⟩) ho AZ (FK hd) h (fun v H' ⟨o,c,h1,h2⟩=>by subst h1;subst h2;exact next o c) (fun _ _ h=>h.elim)
theorem Il {sz:Nat}{rows:List (List PV)}(ho:ops[k]?=some ⟨dst,op,ty,pos,aft,none⟩) (hd:D9 dst n=true) (h:CL P ⟨dst,op,ty,pos,aft,none⟩ (ev τ) H (HZ sz rows H))
  (next:∀b c,AL P r ops (k+1) ⟨n,put τ dst (.vs (some b) rows.length c),.vec (some b) sz rows c::H,D⟩ Q):AL P r ops k ⟨n,τ,H,D⟩ Q :=
 EC (S:=⟨n,τ,H,D⟩) ho AZ (FK hd) h (fun v H' ⟨b,c,h1,h2⟩=>by subst h1;subst h2;exact next b c) (fun _ _ h=>h.elim)
def OP (v:AV) (H:List Aj):DL→List Aj→Prop
 | .val _,_=>False
 | .panic v',H'=>v'=v∧H'=H
theorem Ss (ho:ops[k]?=some ⟨dst,op,ty,pos,aft,none⟩) (hd:D9 dst n=true) (h:CL P ⟨dst,op,ty,pos,aft,none⟩ (ev τ) H (OP v H')) (pan:Q (.panic v) ⟨n,τ,H',D⟩):AL P r ops k ⟨n,τ,H,D⟩ Q :=
 EC (S:=⟨n,τ,H,D⟩) ho AZ (FK hd) h (fun _ _ h=>h.elim) (fun v' H'' ⟨h1,h2⟩=>by subst h1;subst h2;exact pan)
end
section
variable {P:Program}{dst:Option Tmp}{ty:TypeId}{pos:String}{aft:Array Edge}{g:Option (Nat×Bool)}{ρ:Operand→AV}{H:List Aj}{x y z:Operand}{v:AV}
theorem Pg {T:TypeId}{c:PV}(hx:ρ x= .p (.iface T c)):CL P ⟨dst,.panic x,ty,pos,aft,g⟩ ρ H (OP (.p (.iface T c)) H):=by
 intro r F S a w hs hH hρ hd;subst hH;refine Ic O ?_;have h1:BP F w (ρ x) (a.eval x):=by rw[←hρ x AW];exact hs.eval x
 rw[hx] at h1;have h1':=h1;simp only[BP,BN] at h1;have ⟨u,hu,hc⟩:=h1;have hrun:(execOp a.eval ⟨dst,.panic x,ty,pos,aft,g⟩).run P w= .halt (.panic (.iface T u)) w:=by
  simp[execOp,Instr.panic,hu,goPanic,Sem.run_bind,Sem.run]
 simp only[hrun,Oper.uponIn];exact⟨_,S.H,F,.iface T u,⟨O,O⟩,O,by rw[hu] at h1';exact h1',hs,.refl⟩
theorem OT {T A:TypeId}{d:TypeDesc}{c:PV}(hu:P.underlying A=some d) (hd:(match d with | .interface _=>false | _=>true)=true) (hx:ρ x= .p (.iface A c)):Ce P ⟨dst,.typeAssert x T A true,ty,pos,aft,g⟩ ρ H (.tup [.p c,.p (.bool true)]) H :=
 BX fun F w E hH hE=>by
  have h1:=hE x AW;rw[hx] at h1;simp only[BP,BN] at h1;have ⟨u,hv,hc⟩:=h1;refine⟨.tuple #[u,.bool true],?_,?_⟩
  ·cases d<;>simp_all [execOp,Instr.typeAssert,Sem.run_bind,run_underlying hu]
  simp only[BP];exact⟨[u,.bool true],O,by simp only[A6,BP,BN];exact⟨u,_,rfl,hc,_,_,rfl,rfl,rfl⟩⟩
theorem JV (op:BinOp) (t:TypeId) (a b:ByteArray) (w:World):(eqGuard op t x y (.string a) (.string b)).run P w= .ok () w:=by
 unfold eqGuard;split<;>rfl
theorem Jj {T U:TypeId}{a b:ByteArray}(hx:ρ x= .p (.str a)) (hy:ρ y= .p (.str b)):Ce P ⟨dst,.binOp .eql T x y U,ty,pos,aft,g⟩ ρ H (.p (.bool (a.toList==b.toList))) H :=
 BX fun F w E hH hE=>by
  have h1:=hE x AW;have h2:=hE y AW;rw[hx] at h1;rw[hy] at h2;simp only[BP,BN] at h1 h2;refine⟨.bool (a.toList==b.toList),?_,by simp[BP,BN]⟩;simp[execOp,Sem.run_bind,JV,h1,h2,binOp,Op.stringOp]
theorem Jk {T U:TypeId}{a b:ByteArray}(hx:ρ x= .p (.str a)) (hy:ρ y= .p (.str b)):Ce P ⟨dst,.binOp .neq T x y U,ty,pos,aft,g⟩ ρ H (.p (.bool (!(a.toList==b.toList)))) H :=
 BX fun F w E hH hE=>by
  have h1:=hE x AW;have h2:=hE y AW;rw[hx] at h1;rw[hy] at h2;simp only[BP,BN] at h1 h2;refine⟨.bool (!(a.toList==b.toList)),?_,by simp[BP,BN]⟩;simp[execOp,Sem.run_bind,JV,h1,h2,binOp,Op.stringOp]
theorem ER {a:Operand}{T:TypeId}{s:ByteArray}(hu:P.underlying T=some .string) (hx:ρ a= .p (.str s)) :
  Ce P ⟨dst,.call { callee:= .builtin .len,args:=#[a],argTypes:=#[T] },ty,pos,aft,g⟩ ρ H (.p (.int .i64 s.size)) H :=
 BX fun F w E hH hE=>by
  have h1:=hE a AR;rw[hx] at h1;simp only[BP,BN] at h1;refine⟨.int .i64 s.size,?_,by simp[BP,BN]⟩;simp[execOp,resolve,invoke,builtin,Builtin.len_,h1,Sem.run_bind,run_underlying hu,goInt]
theorem PW {T:TypeId}{k:IntKind}{i:Int}{s:ByteArray}{c:UInt8}(hu:P.underlying T=some .string) (hx:ρ x= .p (.str s)) (hy:ρ y= .p (.int k i)) (h0:0≤i) (hc:s[i.toNat]?=some c) :
  Ce P ⟨dst,.index T x y,ty,pos,aft,g⟩ ρ H (.p (.int .u8 c.toNat)) H :=
 BX fun F w E hH hE=>by
  have h1:=hE x AW;have h2:=hE y AW;rw[hx] at h1;rw[hy] at h2;simp only[BP,BN] at h1 h2;refine⟨.int .u8 c.toNat,?_,by simp[BP,BN]⟩;simp[execOp,Instr.index,h1,h2,asIntOf,Sem.run_bind,run_underlying hu,h0,hc]
theorem Ky {a b:Operand}{T T2:TypeId}{m n:Int}(hx:ρ a= .p (.int .i64 m)) (hy:ρ b= .p (.int .i64 n)) :
  Ce P ⟨dst,.call { callee:= .builtin .max,args:=#[a,b],argTypes:=#[T,T2] },ty,pos,aft,g⟩ ρ H (.p (.int .i64 (max m n))) H :=
 BX fun F w E hH hE=>by
  have h1:=hE a AR;have h2:=hE b AR;rw[hx] at h1;rw[hy] at h2;simp only[BP,BN] at h1 h2;refine⟨.int .i64 (max m n),?_,by simp[BP,BN]⟩;have e:(if n > m then n else m)=max m n:=by
   grind
  simp[execOp,resolve,invoke,builtin,Builtin.max_,Builtin.max2,h1,h2];rw[←e]
theorem A7.drop {F:Nat→Prop}{w:World}{b sz:Nat}:∀{rows:List (List PV)}{o:Nat}(n:Nat),A7 F w b sz o rows→A7 F w b sz (o+n*sz) (rows.drop n)
 | rows,o,0,h=>by simpa using h
 | [],o,n+1,h=>by simp[A7]
 | r::rows,o,n+1,h=>by
  simp only[A7] at h;have:=A7.drop n h.2.2;simp only[List.drop_succ_cons];have e:o+sz+n*sz=o+(n+1)*sz:=by rw[Nat.succ_mul];omega
  rwa [e] at this
theorem A7.take {F:Nat→Prop}{w:World}{b sz:Nat}:∀{rows:List (List PV)}{o:Nat}(n:Nat),A7 F w b sz o rows→A7 F w b sz o (rows.take n)
 | rows,o,0,h=>by simp[A7]
 | [],o,n+1,h=>by simp[A7]
 | r::rows,o,n+1,h=>by
  simp only[A7,List.take_succ_cons] at *;exact⟨h.1,h.2.1,A7.take n h.2.2⟩
theorem Pf {F:Nat→Prop}{w:World}{T e:TypeId}{sz bytes lo hi:Nat}{rows:List (List PV)}{u:Value}{lv hv:Option Value}(hT:D0 P T=some (e,sz,bytes)) (h:BP F w (.p (.lst rows)) u) (hr:∀r∈rows,r.length=sz)
  (hl:(lv=none∧lo=0)∨∃k,lv=some (.int k lo)) (hh:(hv=none∧hi=rows.length)∨∃k,hv=some (.int k hi)) (h1:lo≤hi) (h2:hi≤rows.length) :
  ∃u',(Instr.sliceAt T u lv hv none).run P w= .ok u' w∧BP F w (.p (.lst ((rows.take hi).drop lo))) u':=by
 have ⟨hu,j,hj,hs,_⟩:=Dw hT;have hval:∃o c,u= .slice o rows.length c∧rows.length≤c:=by
  grind [BP,BN]
 obtain⟨o,c,rfl,hc⟩:=hval;have hb:(Instr.sliceBounds true rows.length c lv hv none).run P w= .ok (lo,hi,c) w:=by
  have b1:∀(k:IntKind) (m y:Nat) cd,m≤y→(Instr.sliceBound (.int k (m:Int)) y cd).run P w= .ok m w:=by
   intro k m y cd hmy;unfold Instr.sliceBound;simp only[asIntOf,Sem.run_bind,Sem.run_pure,Result.andThen_ok];rw[if_pos ⟨by omega,by omega⟩];simp
  unfold Instr.sliceBounds;rcases hh with ⟨rfl,rfl⟩ | ⟨k,rfl⟩<;>rcases hl with ⟨rfl,rfl⟩ | ⟨k',rfl⟩
  ·simp
  ·simp[Sem.run_bind,b1 _ _ _ _ h1]
  ·simp[Sem.run_bind,b1 _ _ _ _ (by omega:hi≤c)]
  simp[Sem.run_bind,b1 _ _ _ _ (by omega:hi≤c),b1 _ _ _ _ h1]
 have hszr:(sizeOf e).run P w= .ok sz w:=by simp[sizeOf,typeInfo,hj,hs]
 refine⟨.slice (if c=lo then o else o.map (·.add (lo*sz))) (hi - lo) (c - lo),?_,?_⟩
 ·simp only[Instr.sliceAt,Sem.run_bind,run_underlying hu,Result.andThen_ok,Instr.slice,hb,hszr,Sem.run_pure]
 have hlen:((rows.take hi).drop lo).length=hi - lo:=by simp;omega
 simp only[BP,BN] at h ⊢;by_cases hemp:(rows.take hi).drop lo=[]
 ·left;have h0:hi - lo=0:=by rw[hemp] at hlen;simp at hlen;omega
  exact⟨hemp,(if c=lo then o else o.map (·.add (lo*sz))),c - lo,by rw[h0]⟩
 rcases h with ⟨rfl,_⟩ | ⟨b,o',c',sz',hv',hF,hb',hc',hrows⟩
 ·simp at hemp
 injection hv' with e1 e2 e3;subst e1;subst e3;right;have hlt:lo<hi:=by
  grind
 have hsz':sz'=sz:=by
  cases rows with
  | nil=>simp at h2;omega
  | cons r rows=>have:=hr r Ag;simp only[A7] at hrows;omega
 subst hsz';rw[if_neg Af];refine⟨b,o'+lo*sz',c - lo,sz',?_,hF,hb',by omega,?_⟩
 ·rw[hlen];simp[Addr.add_mid]
 exact(hrows.take hi).drop lo
theorem Wb {T e:TypeId}{sz bytes lo hi:Nat}{rows:List (List PV)}{l h:Option Operand}(hT:D0 P T=some (e,sz,bytes)) (hx:ρ x= .p (.lst rows)) (hr:∀r∈rows,r.length=sz)
  (hl:match l with | none=>lo=0 | some y=>∃k,ρ y= .p (.int k lo)) (hh:match h with | none=>hi=rows.length | some y=>∃k,ρ y= .p (.int k hi)) (h1:lo≤hi) (h2:hi≤rows.length) :
  Ce P ⟨dst,.slice T x l h none,ty,pos,aft,g⟩ ρ H (.p (.lst ((rows.take hi).drop lo))) H :=
 BX fun F w E hH hE=>by
  have e1:=hE x AW;rw[hx] at e1;have ⟨u',hu',hrep⟩:=Pf (P:=P) (lv:=l.map E) (hv:=h.map E) (lo:=lo) (hi:=hi) hT e1 hr (by
   cases l with
   | none=>exact .inl ⟨rfl,hl⟩
   | some y =>
    have ⟨k,hk⟩:=hl;have:=hE y AW;rw[hk] at this;simp only[BP,BN] at this;exact .inr ⟨k,by simp[this]⟩) (by
   cases h with
   | none=>exact .inl ⟨rfl,hh⟩
   | some y =>
    have ⟨k,hk⟩:=hh;have:=hE y AW;rw[hk] at this;simp only[BP,BN] at this;exact .inr ⟨k,by simp[this]⟩) h1 h2
  exact⟨u',by simp only[execOp,Sem.run_bind,Option.map_none,hu',Result.andThen_ok,Sem.run_pure],hrep⟩
end
def bare:AV→Bool
 | .p (.bool _) | .p (.int _ _) | .p (.str _)=>true
 | _=>false
theorem Xp {F F':Nat→Prop}{w w':World}{x:AV}{v:Value}(hb:bare x=true) (h:BP F w x v):BP F' w' x v:=by
 cases x with
 | p y=>cases y<;>simp_all [bare,BP,BN]
 | _=>simp[bare] at hb
def S7 (o:Option Nat) (n c:Nat) (rows:List (List PV)):List AV→List AV→Prop
 | [],A=>A=[]
 | x::xs,A=>∃y ys,A=y::ys∧(y=x∨y=norm x∨(x= .vs o n c∧y= .p (.lst rows)))∧S7 o n c rows xs ys
section
variable {P:Program}{dst:Option Tmp}{ty:TypeId}{pos:String}{aft:Array Edge}{g:Option (Nat×Bool)}{ρ:Operand→AV}{H:List Aj}{x y z:Operand}{v:AV}
theorem Ny {F:Nat→Prop}{w:World}{o:Option Nat}{sz c:Nat}{rows:List (List PV)}(hbd:∀b,o=some b→b<w.heap.size) (ho:Gc F w (.vec o sz rows c)) (st:Cy F w (fun b=>F b∧o≠some b) w):∀{xs A:List AV}{vs:List Value},S7 o rows.length c rows xs A→A6 F w xs vs→A6 (fun b=>F b∧o≠some b) w A vs
 | [],A,vs,h,hv=>by simp only[S7] at h;subst h;simpa [A6] using hv
 | x::xs,A,vs,h,hv=>by
  simp only[S7] at h;obtain⟨y,ys,rfl,hy,hys⟩:=h;simp only[A6] at hv ⊢;obtain⟨u,us,rfl,h1,h2⟩:=hv;refine⟨u,us,O,?_,Ny hbd ho st hys h2⟩;rcases hy with rfl | rfl | ⟨rfl,rfl⟩
  ·exact BP.mono st _ _ h1
  ·exact(BP.mono st _ _ h1).norm
  exact IP hbd ho h1 _ st (fun b hb h=>h.2 hb)
theorem YO {c:Call}{f:Operand}{fid:FuncId}{A:List AV}{i cc sz:Nat}{o:Option Nat}{rows:List (List PV)}(hc:c.callee= .value f) (hf:ρ f= .p (.fn fid)) (hi:H[i]?=some (.vec o sz rows cc)) (h:EE P fid A v) (hA:S7 o rows.length cc rows (c.args.toList.map ρ) A) (hb:bare v=true) :
  Ce P ⟨dst,.call c,ty,pos,aft,g⟩ ρ H v H:=by
 intro r F S a w hs hH hρ hd;subst hH;refine Ic O ?_;have hev:∀x∈(f::c.args.toList),BP F w (ρ x) (a.eval x):=by
  intro x hx;rw[←hρ x (by simp[Op.operands,Call.operands,hc];simpa using hx)];exact hs.eval x
 have hfv:a.eval f= .func (.func fid) #[] #[]:=by
  grind [BP,BN]
 have hargs:A6 F w (c.args.toList.map ρ) (c.args.toList.map a.eval):=A6.mapEval _ fun x hx=>hev x (by simp[hx]);have hrun:(execOp a.eval ⟨dst,.call c,ty,pos,aft,g⟩).run P w= .ok (.enter fid ⟨c.args.toList.map a.eval⟩) w:=by
  have e:(c.args.map a.eval:Array Value)=⟨c.args.toList.map a.eval⟩:=by
   apply Array.ext';simp
  simp[execOp,resolve,hc,Deferred.ofValue,hfv,invoke,Gb h.1,e]
 simp only[hrun,Oper.uponIn];have hmem:=List.mem_of_getElem? hi;have hbd:∀b,o=some b→b<w.heap.size:=fun b hb=>hs.heap.bd b (hs.heap.sub _ hmem b (by rw[←hb];rfl));have st:Cy F w (fun b=>F b∧o≠some b) w:=⟨Nat.le_refl _,fun _ _ _=>rfl,fun _ h _ h'=>h h'.1⟩;have hrep:=Ny hbd (hs.heap.obj _ hmem) st hA hargs;have hnil:HRel (fun b=>F b∧o≠some b) [] w:=⟨fun _ h=>by simp at h,by simp,fun _ h=>by simp at h,fun b hb=>hs.heap.bd b hb.1⟩;refine⟨fun h=>(by cases h),CallsIn.mono (gq r (h.2 _ w _ hnil hrep)) ?_⟩;rintro e w' ⟨r,H',F',hR,he,hH2,ht⟩;cases r with
 | panic v'=>exact hR.elim
 | val v' =>
  obtain⟨rfl,rfl⟩:=hR;obtain⟨u,rfl,hu⟩:=he;have t2:Trans F S.H w (fun b=>F' b∨(F b∧b<w.heap.size)) S.H w' :=
   ⟨ht.size,fun b hb _=>ht.same b hb (fun _ h=>by simp at h),fun b hb _=> .inr ⟨hb,hs.heap.bd b hb⟩,fun b hb=>hb.elim (fun h=>(ht.fresh b h).imp And.left id) (fun h=> .inl h.1),fun o ho b hb=> .inl ⟨o,ho,hb⟩,ht.os,ht.out,ht.tape⟩
  have hH3:HRel (fun b=>F' b∨(F b∧b<w.heap.size)) S.H w':=by
   refine hs.heap.stable' (t2.stable hs.heap.sub) (fun b h=> .inr ⟨h,hs.heap.bd b h⟩) (fun x hx b hb=>ht.same b (hs.heap.bd b (hs.heap.sub x hx b hb)) (fun _ h=>by simp at h)) ?_;intro b hb;rcases hb with h | h
   ·exact hH2.bd b h
   exact Nat.lt_of_lt_of_le h.2 ht.size
  exact⟨v',S.H,_,⟨O,O⟩,hs.put hd (t2.stable hs.heap.sub) hH3 (Xp hb hu),t2⟩
end
def Ij (P:Program) (l:Nat) (args:List AV) (H:List Aj) (R:DL→List Aj→Prop):Prop :=
 ∀F w vs,HRel F H w→A6 F w args vs→∃f tmps assign body,(Instr.yield l ⟨vs⟩).run P w= .ok (.round l f tmps assign body) w ∧
  ∀r,RoundIn (W r) 0 P l f tmps assign body w fun e w'=>∃rr H' F',R rr H'∧RA F' w' rr e∧HRel F' H' w'∧Trans F H w F' H' w'
theorem WL {P:Program}{dst:Option Tmp}{c:Call}{ty:TypeId}{pos:String}{aft:Array Edge}{g:Option (Nat×Bool)}{f:Operand}{l:Nat}
  {ρ:Operand→AV} {H Hs Hf:List Aj} {A:List AV} {R:DL→List Aj→Prop}
  (hc:c.callee= .value f) (hf:ρ f= .fn (.yield l) [] []) (hp:H.Perm (Hs++Hf)) (h:Ij P l A Hs R) (hA:c.args.toList.map ρ=A) :
  CL P ⟨dst,.call c,ty,pos,aft,g⟩ ρ H (fun r H'=>∃Hs',R r Hs'∧H'=Hs'++Hf):=by
 intro r F S a w hs hH hρ hd;subst hH;refine Ic O ?_;have hev:∀x∈(f::c.args.toList),BP F w (ρ x) (a.eval x):=by
  intro x hx;rw[←hρ x (by simp[Op.operands,Call.operands,hc];simpa using hx)];exact hs.eval x
 have hfv:a.eval f= .func (.yield l) #[] #[]:=by
  grind [BP,A6]
 have hargs:A6 F w A (c.args.toList.map a.eval):=by rw[←hA];exact A6.mapEval _ fun x hx=>hev x (by simp[hx])
 have hH':=hs.heap.perm hp;have hHs:HRel F Hs w:=hH'.sublist (List.sublist_append_left _ _);have ⟨f',tmps,assign,body,hy,hround⟩:=h F w _ hHs hargs;have hrun:(execOp a.eval ⟨dst,.call c,ty,pos,aft,g⟩).run P w= .ok (.round l f' tmps assign body) w:=by
  have e:(c.args.map a.eval:Array Value)=⟨c.args.toList.map a.eval⟩:=by
   apply Array.ext';simp
  simp[execOp,resolve,hc,Deferred.ofValue,hfv,invoke,e,hy]
 simp only[hrun,Oper.uponIn];refine⟨fun h=>(by cases h),(hround r).mono ?_⟩;rintro e w' ⟨rr,H',F',hR,he,hH2,ht⟩;have htf:=ht.frame (H:=S.H) hp;cases rr with
 | val v =>
  obtain⟨u,rfl,hu⟩:=he;exact⟨v,H'++Hf,F',⟨H',hR,O⟩,hs.put hd (htf.stable hs.heap.sub) (hH'.frame hH2 ht) hu,htf⟩
 | panic v =>
  obtain⟨u,rfl,hu⟩:=he;have:=hs.put (d:=none) (fun _ h=>by cases h) (htf.stable hs.heap.sub) (hH'.frame hH2 ht) (Kf undef);exact⟨v,H'++Hf,F',u,⟨H',hR,O⟩,O,hu,this,htf⟩
def KF (τ:Nat→AV):List Tmp→List AV→Nat→AV
 | t::ts,x::xs=>KF (put τ (some t) x) ts xs
 | _,_=>τ
theorem PF {F:Nat→Prop}{w:World}:∀(ts:List Tmp) (xs:List AV) (vs:List Value) (τ:Nat→AV) (tmps:Array Value),(∀t∈ts,t<tmps.size)→(∀t,BP F w (τ t) (tmps.getD t undef))→A6 F w xs vs →
  (∀t,BP F w (KF τ ts xs t) (((ts.zip vs).foldl (fun(m:Array Value) p=>m.setIfInBounds p.1 p.2) tmps).getD t undef))∧((ts.zip vs).foldl (fun(m:Array Value) p=>m.setIfInBounds p.1 p.2) tmps).size=tmps.size
 | [],xs,vs,τ,tmps,_,h,_=>by simp only[KF,List.zip_nil_left,List.foldl_nil];exact⟨h,trivial⟩
 | t::ts,[],vs,τ,tmps,_,h,hv=>by
  simp only[A6] at hv;subst hv;simp only[KF,List.zip_nil_right,List.foldl_nil];exact⟨h,trivial⟩
 | t::ts,x::xs,vs,τ,tmps,hts,h,hv=>by
  simp only[A6] at hv;obtain⟨u,us,rfl,h1,h2⟩:=hv;simp only[KF,List.zip_cons_cons,List.foldl_cons];have:=PF ts xs us (put τ (some t) x) (tmps.setIfInBounds t u) (fun t' ht'=>by simpa using hts t' (by simp[ht'])) ?_ h2
  ·simpa using this
  intro t';by_cases e:t'=t
  ·subst e;have hlt:=hts t' Ag;simp[put,hlt,h1]
  simpa [put,Nh e,Array.getElem?_setIfInBounds_ne (Ne.symm e)] using h t'
def ck (l:Nat) (L:PE) (R:DL→List Aj→Prop):Bd→As→Prop
 | .normal,S=>∃i H',S.H[i]?=some (.loop l { L with state:= .busy })∧H'.Sublist (S.H.set i (.loop l { L with state:= .ready,pending:=none }))∧R (.val (.p (.bool true))) H'
 | .ret,S=>∃i H',S.H[i]?=some (.loop l { L with state:= .busy })∧H'.Sublist (S.H.set i (.loop l { L with state:= .done,pending:=some .ret }))∧R (.val (.p (.bool false))) H'
 | .exit id,S=>∃i H',S.H[i]?=some (.loop l { L with state:= .busy })∧H'.Sublist (S.H.set i (.loop l { L with state:= .done,pending:=some (.exit id) }))∧R (.val (.p (.bool false))) H'
 | .panic _,_=>False
theorem KO {F:Nat→Prop}{w:World}{H:List Aj}{l i:Nat}{L L':PE}{rec rec':Loop}(hH:HRel F H w) (hi:H[i]?=some (.loop l L)) (hr:w.heap[l]?=some (.loop rec)) (hL:L'.n=L.n∧L'.τ=L.τ∧rec'.tmps=rec.tmps∧rec.tmps.size=L.n∧(∀t,BP F w (L.τ t) (rec.tmps.getD t undef))∧rec'.state=L'.state∧rec'.pending=L'.pending∧rec'.params=L'.params∧rec'.assign=L'.assign∧rec'.body=L'.body) :
  HRel F (H.set i (.loop l L')) (w.putObj l (.loop rec'))∧Trans F H w F (H.set i (.loop l L')) (w.putObj l (.loop rec'))∧Cy F w F (w.putObj l (.loop rec')):=by
 have hlt:l<w.heap.size:=(Array.getElem?_eq_some_iff.1 hr).1;have hF:F l:=hH.sub _ (List.mem_of_getElem? hi) l rfl;have hw:FZ l (.loop rec') w (w.putObj l (.loop rec')):=⟨rfl,rfl,rfl,rfl⟩;have st:=hw.stable hF;have ⟨h1,h2,h3,h4,h5,h6,h7,h8,h9,h10⟩:=hL;refine⟨hw.HRel hH hi O O ⟨rec',hw.self hlt,h6,h7,h8,h9,h10,by rw[h3,h4,h1],fun t=>?_⟩,hw.trans hi rfl rfl,st⟩;rw[h2,h3];exact BP.mono st _ _ (h5 t)
theorem L9 {P:Program}{l:Nat}{L:PE}{H:List Aj}{i:Nat}{A:List AV}{R:DL→List Aj→Prop}(hi:H[i]?=some (.loop l L)) (hst:L.state= .ready) (hsz:A.length=L.params.size) (hts:(L.params.toList.all fun t=>Nat.blt t L.n)=true)
  (h:GF P (some l) L.assign ⟨L.n,KF L.τ L.params.toList A,H,[]⟩ (fun e S=>e= .normal∧∃j,S.H[j]?=some (.loop l L)∧GF P (some l) L.body ⟨S.n,S.τ,S.H.set j (.loop l { L with state:= .busy }),S.D⟩ (ck l L R))) :
  Ij P l A H R:=by
 intro F w vs hH hv;have ⟨rec,hrec,h1,h2,h3,h4,h5,h6,h7⟩:=hH.obj _ (List.mem_of_getElem? hi);have hvs:(⟨vs⟩:Array Value).size=rec.params.size:=by rw[h3,←hsz];simpa using hv.length
 refine⟨rec.fn,((rec.params.zip ⟨vs⟩).foldl (fun tmps (t,a)=>tmps.setIfInBounds t a) rec.tmps),rec.assign,rec.body,?_,?_⟩
 ·exact run_yield (P:=P) hrec hvs
 intro r;have hput:=PF (F:=F) (w:=w) L.params.toList A vs L.τ rec.tmps (fun t ht=>by
  have:=List.all_eq_true.1 hts t ht;rw[h6];simpa [Nat.blt_eq] using this) h7 hv
 have e1:((rec.params.zip ⟨vs⟩).foldl (fun tmps (t,a)=>tmps.setIfInBounds t a) rec.tmps)=((L.params.toList.zip vs).foldl (fun(m:Array Value) p=>m.setIfInBounds p.1 p.2) rec.tmps):=by
  rw[h3,←Array.foldl_toList,Array.toList_zip]
 rw[e1];have hs0:D1 F ⟨L.n,KF L.τ L.params.toList A,H,[]⟩ { tmps:=((L.params.toList.zip vs).foldl (fun(m:Array Value) p=>m.setIfInBounds p.1 p.2) rec.tmps),defers:=[] } w :=
  ⟨by rw[hput.2,h6],hput.1,hH,by simp[EG]⟩
 rw[h4,h5];refine roundIn_of_wpIn (F:=W r) Ah (wpIn_mono (h F _ w hs0) ?_);rintro e a' w' ⟨e',S',F',⟨rfl,j,hj,hbody⟩,he,hs',ht⟩;obtain rfl:e= .normal:=he;have ⟨rec1,hrec1,g1,g2,g3,g4,g5,g6,g7⟩:=hs'.heap.obj _ (List.mem_of_getElem? hj);refine⟨_,run_beginRound (P:=P) hrec1 (by rw[g1,hst]),?_⟩;have ⟨q1,q2,q3⟩:=KO (L':={ L with state:= .busy }) (rec':={ rec1 with state:= .busy }) hs'.heap hj hrec1 ⟨rfl,rfl,rfl,g6,g7,rfl,g2,g3,g4,g5⟩;have hs2:D1 F' ⟨S'.n,S'.τ,S'.H.set j (.loop l { L with state:= .busy }),S'.D⟩ a' (w'.putObj l (.loop { rec1 with state:= .busy })) :=
  ⟨hs'.size,fun t=>BP.mono q3 _ _ (hs'.tmp t),q1,EG.mono q3 _ _ hs'.defs⟩
 refine wpIn_mono (hbody F' a' _ hs2) ?_;rintro e2 a2 w2 ⟨e2',S2,F2,hq,he2,hs3,ht2⟩;have t12:=(ht.trans hH.bd q2).trans hH.bd ht2;have fin:∀(k:Nat) (H':List Aj) (jump:Option Code) (b:Bool),jump.isNone=b→S2.H[k]?=some (.loop l { L with state:= .busy })→H'.Sublist (S2.H.set k (.loop l { L with state:=if jump.isNone then .ready else .done,pending:=jump }))→R (.val (.p (.bool b))) H' →
   ∃v w3,(Instr.endRound l jump).run P w2= .ok v w3∧∃rr H' F',R rr H'∧RA F' w3 rr (.returned v)∧HRel F' H' w3∧Trans F H w F' H' w3:=by
  intro k H' jump b hb hk hsub hR;have ⟨rec2,hrec2,k1,k2,k3,k4,k5,k6,k7⟩:=hs3.heap.obj _ (List.mem_of_getElem? hk);have ⟨p1,p2,p3⟩:=KO (L':={ L with state:=if jump.isNone then .ready else .done,pending:=jump }) (rec':={ rec2 with state:=if jump.isNone then .ready else .done,pending:=jump }) hs3.heap hk hrec2 ⟨rfl,rfl,rfl,k6,k7,rfl,rfl,k3,k4,k5⟩;refine⟨_,_,run_endRound (P:=P) jump hrec2,_,H',F2,hR,⟨_,O,by simp[BP,BN,hb]⟩,p1.sublist hsub,(t12.trans hH.bd p2).sublist hsub⟩
 cases e2' with
 | normal=>obtain rfl:e2= .normal:=he2;obtain⟨k,H',hk,hsub,hR⟩:=hq;exact fin k H' none true rfl hk hsub hR
 | ret=>obtain rfl:e2= .ret:=he2;obtain⟨k,H',hk,hsub,hR⟩:=hq;exact fin k H' (some .ret) false rfl hk hsub hR
 | exit id=>obtain rfl:e2= .exit id:=he2;obtain⟨k,H',hk,hsub,hR⟩:=hq;exact fin k H' (some (.exit id)) false rfl hk hsub hR
 | panic v=>exact hq.elim
theorem NN {α:Type}:∀{l:List α}{i:Nat}{x:α},l[i]?=some x→l.Perm (x::l.eraseIdx i)
 | [],i,x,h=>by simp at h
 | y::l,0,x,h=>by simp at h;subst h;exact .refl _
 | y::l,i+1,x,h=>by
  simp at h;simp only[List.eraseIdx_cons_succ];exact((NN h).cons y).trans (.swap x y _)
def Y9 (P:Program) (l d:Nat) (S:As) (Q:Bd→As→Prop):DL→List Aj→Prop
 | .val _,H'=>∃(i:Nat) (L:PE),H'[i]?=some (Aj.loop l L)∧L.state≠LoopState.busy ∧
   (match L.pending with
    | none=>Q .normal ⟨S.n,S.τ,H'.eraseIdx i,.mark d::S.D⟩
    | some c=>GF P none c ⟨S.n,S.τ,H'.eraseIdx i,.mark d::S.D⟩ Q)
 | .panic v,H'=>Q (.panic v) ⟨S.n,S.τ,H',.mark d::S.D⟩
theorem UH {F:Nat→Prop}{w:World}{H:List Aj}(hH:HRel F H w):HRel (fun b=>F b∨b=w.heap.size) (.dfr w.heap.size::H) (w.alloc (.deferred (some [])))∧Trans F H w (fun b=>F b∨b=w.heap.size) (.dfr w.heap.size::H) (w.alloc (.deferred (some []))):=by
 have same:∀b,b<w.heap.size→(w.alloc (.deferred (some []))).heap[b]?=w.heap[b]?:=fun b hb=>by
  show (w.heap.push _)[b]?=_
  grind
 have st:Cy F w (fun b=>F b∨b=w.heap.size) (w.alloc (.deferred (some []))):=⟨by simp,fun b _ hb=>same b hb,fun b hf hb h=>h.elim hf fun h=>by omega⟩;refine⟨⟨?_,?_,?_,?_⟩,⟨by simp,fun b hb _=>same b hb,fun b h _=> .inl h,?_,?_,rfl,rfl,rfl⟩⟩
 ·rintro o ho b hb;rcases List.mem_cons.1 ho with rfl | ho
  ·grind [Aj.key]
  exact .inl (hH.sub o ho b hb)
 ·simp only[List.filterMap_cons,Aj.key,List.nodup_cons];refine⟨fun h=>?_,hH.nodup⟩;have ⟨o,ho,hk⟩:=List.mem_filterMap.1 h;exact Nat.lt_irrefl _ (hH.bd _ (hH.sub o ho _ hk))
 ·rintro o ho;rcases List.mem_cons.1 ho with rfl | ho
  ·exact World.alloc_heap_new w _
  exact Gc.mono st o (fun b hb=>same b (hH.bd b (hH.sub o ho b hb))) (hH.obj o ho)
 ·rintro b (h | rfl)
  ·have:=hH.bd b h;simp;omega
  simp
 ·grind
 grind [List.mem_cons.1,Aj.key]
theorem SD {F:Nat→Prop}{w:World}{H:List Aj}(hH:HRel F H w) {L:PE}{r:Loop}(h1:r.state=L.state) (h2:r.pending=L.pending) (h3:r.params=L.params) (h4:r.assign=L.assign) (h5:r.body=L.body) (h6:r.tmps.size=L.n) (h7:∀t,BP F w (L.τ t) (r.tmps.getD t undef)) :
  HRel (fun b=>F b∨b=w.heap.size) (.loop w.heap.size L::H) (w.alloc (.loop r))∧Trans F H w (fun b=>F b∨b=w.heap.size) (.loop w.heap.size L::H) (w.alloc (.loop r)):=by
 have same:∀b,b<w.heap.size→(w.alloc (.loop r)).heap[b]?=w.heap[b]?:=fun b hb=>by
  show (w.heap.push _)[b]?=_
  grind
 have st:Cy F w (fun b=>F b∨b=w.heap.size) (w.alloc (.loop r)):=⟨by simp,fun b _ hb=>same b hb,fun b hf hb h=>h.elim hf fun h=>by omega⟩;refine⟨⟨?_,?_,?_,?_⟩,⟨by simp,fun b hb _=>same b hb,fun b h _=> .inl h,?_,?_,rfl,rfl,rfl⟩⟩
 ·rintro o ho b hb;rcases List.mem_cons.1 ho with rfl | ho
  ·grind [Aj.key]
  exact .inl (hH.sub o ho b hb)
 ·simp only[List.filterMap_cons,Aj.key,List.nodup_cons];refine⟨fun h=>?_,hH.nodup⟩;have ⟨o,ho,hk⟩:=List.mem_filterMap.1 h;exact Nat.lt_irrefl _ (hH.bd _ (hH.sub o ho _ hk))
 ·rintro o ho;rcases List.mem_cons.1 ho with rfl | ho
  ·exact⟨r,World.alloc_heap_new w _,h1,h2,h3,h4,h5,h6,fun t=>BP.mono st _ _ (h7 t)⟩
  exact Gc.mono st o (fun b hb=>same b (hH.bd b (hH.sub o ho b hb))) (hH.obj o ho)
 ·rintro b (h | rfl)
  ·have:=hH.bd b h;simp;omega
  simp
 ·grind
 grind [List.mem_cons.1,Aj.key]
theorem Vg {P:Program}{g:Operand}{ps:Array Tmp}{assign body:Code}{S:As}{Q:Bd→As→Prop}{fid:FuncId}{first caps:List AV}
  (hg:(ev S.τ g= .p (.fn fid)∧first=[]∧caps=[])∨ev S.τ g= .fn (.func fid) first caps)
  (h:∀d l,∃Hs Hf,(Aj.loop l ⟨.ready,none,S.n,S.τ,ps,assign,body⟩:: .dfr d::S.H).Perm (Hs++Hf) ∧
   BO P fid (first++[.fn (.yield l) [] []]++caps) Hs (fun r H'=>Y9 P l d S Q r (H'++Hf))) :
  GF P none (.rangeFunc g ps assign body) S Q:=by
 intro F a w hs;refine wpIn_rangeFunc ?_;intro fn _;obtain⟨d,hd⟩:∃d,d=w.heap.size:=⟨_,rfl⟩;have ⟨p1,p2⟩:=UH hs.heap;have st1:=p2.stable hs.heap.sub;obtain⟨rec,hrec⟩:∃rec:Loop,rec={ state:= .ready,pending:=none,fn,tmps:=a.tmps,params:=ps,assign,body,defers:=w.heap.size }:=⟨_,rfl⟩;have hl:(w.alloc (.deferred (some []))).heap.size=w.heap.size+1:=by simp
 have ⟨q1,q2⟩:=SD p1 (L:=⟨.ready,none,S.n,S.τ,ps,assign,body⟩) (r:=rec) (by rw[hrec]) (by rw[hrec]) (by rw[hrec]) (by rw[hrec]) (by rw[hrec]) (by rw[hrec];exact hs.size) (fun t=>by rw[hrec];exact BP.mono st1 _ _ (hs.tmp t));have st2:=q2.stable p1.sub;have t12:=p2.trans hs.heap.bd q2;have st12:=t12.stable hs.heap.sub;obtain⟨W1,hW1⟩:∃W1,(w.alloc (.deferred (some []))).alloc (.loop rec)=W1:=⟨_,rfl⟩;rw[hW1] at q1 q2 t12 st12;obtain⟨F1,hF1⟩:∃F1:Nat→Prop,(fun b=>(F b∨b=w.heap.size)∨b=(w.alloc (.deferred (some []))).heap.size)=F1:=⟨_,rfl⟩;rw[hF1] at q1 q2 t12 st12;rw[hl] at q1 t12;have ⟨Hs,Hf,hp,hc⟩:=h w.heap.size (w.heap.size+1);have hgv:∃fs cs,a.eval g= .func (.func fid) ⟨fs⟩ ⟨cs⟩∧A6 F1 W1 first fs∧A6 F1 W1 caps cs:=by
  have:=BP.mono st12 _ _ (hs.eval g)
  grind [BP,BN,A6]
 have ⟨fs,cs,hgv,hfs,hcs⟩:=hgv;have hy:A6 F1 W1 [.fn (.yield (w.heap.size+1)) [] []] [Value.func (.yield (w.heap.size+1)) #[] #[]]:=by
  grind [A6,BP]
 refine⟨w.heap.size+1,[{ target:= .collected w.heap.size,args:=#[] }],W1,{ target:= .fn (.func fid) ⟨cs⟩,args:=⟨fs⟩++#[.func (.yield (w.heap.size+1)) #[] #[]] },W1,fid,
  ⟨fs++[Value.func (.yield (w.heap.size+1)) #[] #[]]++cs⟩,W1,?_,?_,?_,?_,fun h=>(by cases h),?_⟩
 ·rw[←hW1,hrec];exact run_enterLoop_outer _ _ _ _ _
 ·simp only[resolve,hgv];simp[go_sem,Deferred.ofValue]
 ·intro f' hf';trivial
 ·have e:(⟨fs⟩++#[Value.func (.yield (w.heap.size+1)) #[] #[]]++⟨cs⟩:Array Value)=⟨fs++[Value.func (.yield (w.heap.size+1)) #[] #[]]++cs⟩:=by
   apply Array.ext';simp
  simp only[invoke,e];exact Gb hc.1 _ _
 have hH1:=q1.perm hp;refine CallsIn.mono (gq none (hc.2 F1 W1 _ (hH1.sublist (List.sublist_append_left _ _)) ((hfs.append hy).append hcs))) ?_;rintro e w3 ⟨r,Hs',F',hR,he,hH2,ht⟩;have htf:=ht.frame (H:=(Aj.loop (w.heap.size+1) ⟨.ready,none,S.n,S.τ,ps,assign,body⟩:: .dfr w.heap.size::S.H)) hp;have t3:=t12.trans hs.heap.bd htf;have hH3:=hH1.frame hH2 ht;have st3:=t3.stable hs.heap.sub;cases r with
 | val v =>
  obtain⟨u,rfl,hu⟩:=he;have ⟨i,L,hi,hbusy,hnext⟩:=hR;have ⟨rec3,hrec3,g1,g2,g3,g4,g5,g6,g7⟩:=hH3.obj _ (List.mem_of_getElem? hi);have ⟨k1,k2,k3⟩:=KO (L':={ L with state:= .exhausted }) (rec':={ rec3 with state:= .exhausted }) hH3 hi hrec3 ⟨rfl,rfl,rfl,g6,g7,rfl,g2,g3,g4,g5⟩;have hsub:((Hs'++Hf).eraseIdx i).Sublist ((Hs'++Hf).set i (.loop (w.heap.size+1) { L with state:= .exhausted })):=by
   grind [List.eraseIdx_set_eq,List.eraseIdx_sublist]
  have t4:=(t3.trans hs.heap.bd k2).sublist hsub;have hs4:D1 F' ⟨S.n,S.τ,(Hs'++Hf).eraseIdx i,.mark w.heap.size::S.D⟩ { a with defers:=[{ target:= .collected w.heap.size,args:=#[] }]++a.defers } (w3.putObj (w.heap.size+1) (.loop { rec3 with state:= .exhausted })) :=
   ⟨hs.size,fun t=>BP.mono k3 _ _ (BP.mono st3 _ _ (hs.tmp t)),k1.sublist hsub,by simp only[EG];exact⟨_,rfl,EG.mono k3 _ _ (EG.mono st3 _ _ hs.defs)⟩⟩
  refine⟨rec3.pending,_,run_endLoop hrec3 (by rw[g1];exact hbusy),?_⟩;generalize w3.putObj (w.heap.size+1) (.loop { rec3 with state:= .exhausted })=W4 at *;rw[g2];cases hpd:L.pending with
  | none=>simp only[hpd] at hnext;exact⟨.normal,_,F',hnext,rfl,hs4,t4⟩
  | some c =>
   simp only[hpd] at hnext;exact wpIn_mono (hnext F' _ _ hs4) fun _ _ _=>EV hs.heap.bd t4
 | panic v =>
  obtain⟨u,rfl,hu⟩:=he;exact⟨.panic v,⟨S.n,S.τ,Hs'++Hf,.mark w.heap.size::S.D⟩,F',hR,⟨u,O,hu⟩,⟨hs.size,fun t=>BP.mono st3 _ _ (hs.tmp t),hH3,by simp only[EG];exact⟨_,rfl,EG.mono st3 _ _ hs.defs⟩⟩,t3⟩
inductive Jx where
 | ret
 | pan (v:AV)
def YD (F:Nat→Prop) (w:World):Jx→FrameMode→Prop
 | .ret,u=>u= .returning
 | .pan v,u=>∃x,u= .panicking [{ v:=x,recovered:=false }]∧BP F w v x
theorem YD.mono {F F':Nat→Prop}{w w':World}(st:Cy F w F' w'):∀{m:Jx}{u:FrameMode},YD F w m u→YD F' w' m u
 | .ret,u,h=>h
 | .pan v,u,⟨x,h,hr⟩=>⟨x,h,BP.mono st _ _ hr⟩
def Cp (P:Program) (f:FuncId) (caps:List AV) (m:Jx) (H:List Aj) (R:List Aj→Prop):Prop :=
 Bt P f=true∧∀F w vs u,HRel F H w→A6 F w caps vs→YD F w m u →
  CallsDIn (W none) 0 P f ⟨vs⟩ u w fun e u' w'=>∃v H' F',e= .returned v∧settle u'= .returning∧R H'∧HRel F' H' w'∧Trans F H w F' H' w'
def OM (P:Program) (fn:Func) (S:As) (R:DL→List Aj→Prop):List Cb→Jx→List Aj→Prop
 | [],.ret,H=>∃vs H',M1 P ⟨S.n,S.τ,H,[]⟩ fn.results.toList vs∧H'.Sublist H∧R (.val (pack vs)) H'
 | [],.pan v,H=>∃H',H'.Sublist H∧R (.panic v) H'
 | .mark b::D,m,H=>∃i,H[i]?=some (.dfr b)∧OM P fn S R D m (H.eraseIdx i)
 | .clo f caps::D,m,H=>∃fid Hs Hf,f= .func fid∧H.Perm (Hs++Hf)∧Cp P fid caps m Hs (fun H'=>OM P fn S R D .ret (H'++Hf))
def cw (P:Program) (fn:Func) (R:DL→List Aj→Prop):Bd→As→Prop
 | .normal,S | .ret,S=>OM P fn S R S.D .ret S.H
 | .panic v,S=>OM P fn S R S.D (.pan v) S.H
 | .exit _,_=>False
theorem H5 {P:Program}{fn:Func}{S:As}{R:DL→List Aj→Prop}{tmps:Array Value}{F0:Nat→Prop}{H0:List Aj}{w0:World}(bd0:∀b,F0 b→b<w0.heap.size) (hsz:tmps.size=S.n) :
  ∀(D:List Cb) (ds:List Deferred) (m:Jx) (u:FrameMode) (H:List Aj) (F:Nat→Prop) (w:World),(∀t,BP F w (S.τ t) (tmps.getD t undef))→HRel F H w→EG F w D ds→YD F w m u→Trans F0 H0 w0 F H w→OM P fn S R D m H →
   LeavesInM (W none) 0 P fn tmps (fun e w'=>∃r H' F',R r H'∧RA F' w' r e∧HRel F' H' w'∧Trans F0 H0 w0 F' H' w') ds u w
 | [],ds,m,u,H,F,w,hτ,hH,hd,hm,ht,hq=>by
  simp only[EG] at hd;subst hd;cases m with
  | ret =>
   obtain rfl:u= .returning:=hm;have ⟨vs,H',hres,hsub,hR⟩:=hq;have hs:D1 F ⟨S.n,S.τ,H,[]⟩ { tmps,defers:=[] } w:=⟨hsz,hτ,hH,by simp[EG]⟩;have ⟨v,hv,hrv⟩:=JB hs hres;exact⟨v,hv,_,H',F,hR,⟨v,O,hrv⟩,hH.sublist hsub,ht.sublist hsub⟩
  | pan v =>
   obtain⟨x,rfl,hx⟩:=hm;have ⟨H',hsub,hR⟩:=hq;exact⟨_,H',F,hR,⟨x,O,hx⟩,hH.sublist hsub,ht.sublist hsub⟩
 | .mark b::D,ds,m,u,H,F,w,hτ,hH,hd,hm,ht,hq=>by
  simp only[EG] at hd;obtain⟨ds',rfl,hd⟩:=hd;have ⟨i,hi,hq⟩:=hq;have hb:w.heap[b]?=some (.deferred (some [])):=hH.obj _ (List.mem_of_getElem? hi);have hFb:F b:=hH.sub _ (List.mem_of_getElem? hi) b rfl;have hw:FZ b (.deferred none) w (w.putObj b (.deferred none)):=⟨rfl,rfl,rfl,rfl⟩;have st:=hw.stable hFb;have hk:H.Perm (.dfr b::H.eraseIdx i):=by
   exact NN hi
  have hH':=hH.perm hk;have other:∀o∈H.eraseIdx i,∀k,o.key=some k→k≠b:=by
   intro o ho k hk' e;subst e;have:=hH'.nodup;simp only[List.filterMap_cons,Aj.key,List.nodup_cons] at this;exact this.1 (List.mem_filterMap.2 ⟨o,ho,hk'⟩)
  have same:∀k,k≠b→(w.putObj b (.deferred none)).heap[k]?=w.heap[k]?:=fun k hk=>World.putObj_heap_other hk;have hHn:HRel F (H.eraseIdx i) (w.putObj b (.deferred none)):=by
   refine⟨fun o ho=>hH'.sub o (by simp[ho]),?_,fun o ho=>?_,fun k hk=>by simpa using hH.bd k hk⟩
   ·have:=hH'.nodup;simp only[List.filterMap_cons,Aj.key,List.nodup_cons] at this;exact this.2
   exact Gc.mono st o (fun k hk=>same k (other o ho k hk)) (hH'.obj o (by simp[ho]))
  have hT:Trans F H w F (H.eraseIdx i) (w.putObj b (.deferred none)) :=
   ⟨by simp,fun k hk hn=>same k fun e=>hn _ (List.mem_of_getElem? hi) (by rw[e];rfl),fun _ h _=>h,fun _ h=> .inl h,fun o ho k hk'=> .inl ⟨o,hk.mem_iff.2 (by simp[ho]),hk'⟩,rfl,rfl,rfl⟩
  have hu:u≠ .run:=by
   cases m with
   | ret=>obtain rfl:u= .returning:=hm;simp
   | pan v=>obtain⟨x,rfl,hx⟩:=hm;simp
  refine⟨hu,.inl ⟨b,_,O,run_takeDeferred hb,?_⟩⟩;exact H5 bd0 hsz D ds' m u _ F _ (fun t=>BP.mono st _ _ (hτ t)) hHn (EG.mono st _ _ hd) (hm.mono st) (ht.trans bd0 hT) hq
 | .clo f caps::D,ds,m,u,H,F,w,hτ,hH,hd,hm,ht,hq=>by
  simp only[EG] at hd;obtain⟨vs,ds',rfl,hv,hd⟩:=hd;obtain⟨fid,Hs,Hf,rfl,hp,hc⟩:=hq;have hu:u≠ .run:=by
   cases m with
   | ret=>obtain rfl:u= .returning:=hm;simp
   | pan v=>obtain⟨x,rfl,hx⟩:=hm;simp
  have hH':=hH.perm hp;refine⟨hu,.inr ⟨fun h=>(by cases h),.func fid,⟨vs⟩,fid,⟨vs⟩,O,?_,fun _ _=>Ah,?_⟩⟩
  ·simp only[invoke];have e:(#[]++⟨vs⟩:Array Value)=⟨vs⟩:=by apply Array.ext';simp
   rw[e];exact Gb hc.1 _ _
  have ⟨hF,hcall⟩:=hc.2 F w vs u (hH'.sublist (List.sublist_append_left _ _)) hv hm;refine⟨hF,fun c cs hcu hroom=>?_⟩;obtain⟨e,u',w',fr,⟨v,H',F',rfl,hset,hR,hH2,ht2⟩,hrest⟩:=hcall c cs hcu hroom;refine⟨.returned v,u',w',fr,?_,hrest⟩;have htf:=ht2.frame (H:=H) hp;have st:=htf.stable hH.sub;show LeavesInM _ _ _ _ _ _ _ (settle u') w';rw[hset];exact H5 bd0 hsz D ds' .ret .returning _ F' w' (fun t=>BP.mono st _ _ (hτ t)) (hH'.frame hH2 ht2) (EG.mono st _ _ hd) O (ht.trans bd0 htf) hR
theorem DW {P:Program}{f:FuncId}{fn:Func}{c:Code}{args:List AV}{H:List Aj}{R:DL→List Aj→Prop}
  {n:Nat} (hf:P.funcs[f]?=some fn) (hb:fn.body=some c) (he:Bt P f=true) (hn':fn.ntmps=n) (hn:Nat.ble args.length n=true)
  (h:GF P none c ⟨n,Kk args,H,[]⟩ (cw P fn R)):BO P f args H R:=by
 subst hn';rw[Nat.ble_eq] at hn;refine⟨he,fun F w vs hH hr=>?_⟩;refine(callsIn_wide (n:=0)).1 (callsIn_of_wp_marks hf hb Ah ?_);have hsz:(⟨vs⟩:Array Value).size=args.length:=by simpa using hr.length
 have hs:D1 F ⟨fn.ntmps,Kk args,H,[]⟩ { tmps:=⟨vs⟩++Array.replicate (fn.ntmps - (⟨vs⟩:Array Value).size) undef,defers:=[] } w :=
  ⟨by simp only[Array.size_append,Array.size_replicate,hsz];omega,fun t=>Lu _ _ hr,hH,by simp[EG]⟩
 refine wpIn_mono (h F _ w hs) ?_;rintro e a' w' ⟨e',S',F',hq,hex,hs',ht⟩;cases e' with
 | normal=>obtain rfl:e= .normal:=hex;exact H5 hH.bd hs'.size _ _ .ret .returning _ F' w' hs'.tmp hs'.heap hs'.defs rfl ht hq
 | ret=>obtain rfl:e= .ret:=hex;exact H5 hH.bd hs'.size _ _ .ret .returning _ F' w' hs'.tmp hs'.heap hs'.defs rfl ht hq
 | exit id=>exact hq.elim
 | panic v=>obtain⟨u,rfl,hru⟩:=hex;exact H5 hH.bd hs'.size _ _ (.pan v) _ _ F' w' hs'.tmp hs'.heap hs'.defs ⟨u,rfl,hru⟩ ht hq
theorem Ks {P:Program}{ops:Array Oper}{k n:Nat}{τ:Nat→AV}{H:List Aj}{D:List Cb}{Q:Bd→As→Prop}{c:Call}{ty:TypeId}{pos:String}{aft:Array Edge}{x:Operand}{fid:FuncId}{caps:List AV}
  (ho:ops[k]?=some ⟨none,.defer c,ty,pos,aft,none⟩) (hc:c.callee= .value x) (ha:c.args=#[]) (hx:ev τ x= .fn (.func fid) [] caps)
  (next:AL P none ops (k+1) ⟨n,τ,H,.clo (.func fid) caps::D⟩ Q):AL P none ops k ⟨n,τ,H,D⟩ Q:=by
 intro F a w hs;have hk:k<ops.size:=by
  grind
 have hv:=hs.eval x;simp only[hx,BP,A6] at hv;obtain⟨fs,cs,hv,rfl,hcs⟩:=hv;rw[IJ hk,wpOpsIn_cons];unfold wpOpIn;simp only[ho,Region.wanted,if_true];have hrun:(Oper.semAt (W none).round a.eval ⟨none,.defer c,ty,pos,aft,none⟩).run P w= .ok (.defer { target:= .fn (.func fid) ⟨cs⟩,args:=#[] }) w:=by
  rw[show (W none).round=none from rfl,Oper.semAt_none];simp[execOp,resolve,hc,ha,Deferred.ofValue,hv]
 refine⟨fun _ _=>Ah,?_⟩;simp only[hrun,Oper.uponIn,Act.put];exact next F _ w ⟨hs.size,hs.tmp,hs.heap,by simp only[EG];exact⟨cs,_,rfl,hcs,hs.defs⟩⟩
def Jx.val:Jx→AV
 | .ret=> .p .nilIface
 | .pan v=>v
theorem E2 {P:Program}{f:FuncId}{fn:Func}{B:Code}{id t3 t2:Nat}{ty ty' ty2:TypeId}{pos pos':String}{aft aft':Array Edge}{caps:List AV}{m:Jx}{H:List Aj}{R:List Aj→Prop}{n:Nat}{aty:Array TypeId}
  (hf:P.funcs[f]?=some fn) (hb:fn.body=some (.seq (.region id #[⟨some t3,.call ⟨.builtin .recover,#[],aty⟩,ty,pos,aft,none⟩,⟨some t2,.assign (.tmp t3),ty',pos',aft',none⟩] false) B))
  (he:Bt P f=true) (hn':fn.ntmps=n) (hn:Nat.ble caps.length n=true) (hres:fn.results=#[]) (h3:Nat.blt t3 n=true) (h2:Nat.blt t2 n=true) (h23:Nat.beq t2 t3=false)
  (h:GF P none B ⟨n,put (put (Kk caps) (some t3) m.val) (some t2) m.val,H,[]⟩ (fun e S=>(e= .normal∨e= .ret)∧S.D=[]∧∃H',H'.Sublist S.H∧R H')):Cp P f caps m H R:=by
 subst hn';rw[Nat.ble_eq] at hn;rw[Nat.blt_eq] at h3 h2;refine⟨he,fun F w vs u hH hr hm=>?_⟩;refine callsDIn_of_wpSIn hf hb Ah ?_;intro c₀ cs hc0;refine wpSIn_seq (wpSIn_region ?_);have hsz:(⟨vs⟩:Array Value).size=caps.length:=by simpa using hr.length
 have hs:D1 F ⟨fn.ntmps,Kk caps,H,[]⟩ { tmps:=⟨vs⟩++Array.replicate (fn.ntmps - (⟨vs⟩:Array Value).size) undef,defers:=[] } w :=
  ⟨by simp only[Array.size_append,Array.size_replicate,hsz];omega,fun t=>Lu _ _ hr,hH,by simp[EG]⟩
 generalize ({ tmps:=⟨vs⟩++Array.replicate (fn.ntmps - (⟨vs⟩:Array Value).size) undef,defers:=[] }:Act)=a at hs ⊢;have st:Cy F w F w:=⟨Nat.le_refl _,fun _ _ _=>rfl,fun _ h _=>h⟩;have fin:∀x u',BP F w m.val x→settle u'= .returning →
   B.wpSIn (W none) 0 P (bodyPostS P fn c₀ cs fun e u' w'=>∃v H' F',e= .returned v∧settle u'= .returning∧R H'∧HRel F' H' w'∧Trans F H w F' H' w') ((a.put (some t3) x).put (some t2) x) ({ c₀ with mode:=u' }::cs) w:=by
  intro x u' hx hset;have hs1:=(hs.put (d:=some t3) (fun t ht=>by cases ht;exact h3) st hH hx);have hs2:=(hs1.put (d:=some t2) (fun t ht=>by cases ht;exact h2) st hH hx);refine wpSIn_of_wpIn O (wpIn_mono (h F _ w hs2) ?_);rintro e a' w' ⟨e',S',F',⟨hee,hD,H',hsub,hR⟩,hex,hs',ht⟩;have hd:a'.defers=[]:=by have:=hs'.defs;rw[hD] at this;simpa [EG] using this
  have hr0:(results fn a'.tmps).run P w'= .ok (.tuple #[]) w':=by
   simp[results,hres,Sem.run_bind]
  rcases hee with rfl | rfl
  ·obtain rfl:e= .normal:=hex;exact⟨hd,u',O,_,hr0,_,H',F',O,hset,hR,hs'.heap.sublist hsub,ht.sublist hsub⟩
  obtain rfl:e= .ret:=hex;exact⟨hd,u',O,_,hr0,_,H',F',O,hset,hR,hs'.heap.sublist hsub,ht.sublist hsub⟩
 have hasg:∀(x:Value),(execOp (a.put (some t3) x).eval ⟨some t2,.assign (.tmp t3),ty',pos',aft',none⟩).run P w= .ok (.value x) w:=by
  intro x;have:(a.put (some t3) x).eval (.tmp t3)=x:=by
   have:t3<a.tmps.size:=by rw[hs.size];exact h3
   simp[Act.put,Act.eval,this]
  simp[execOp,this]
 have hrec:∀(a:Act),(execOp a.eval ⟨some t3,.call ⟨.builtin .recover,#[],aty⟩,ty,pos,aft,none⟩).run P w= .ok .recover w:=by
  intro a;simp[execOp,resolve,invoke,Sem.run_bind]
  first | rfl | skip
 obtain⟨o0,ho0⟩:∃o:Oper,o=⟨some t3,.call ⟨.builtin .recover,#[],aty⟩,ty,pos,aft,none⟩:=⟨_,rfl⟩;obtain⟨o1,ho1⟩:∃o:Oper,o=⟨some t2,.assign (.tmp t3),ty',pos',aft',none⟩:=⟨_,rfl⟩;rw[←ho0,←ho1];rw[←ho0] at hrec;rw[←ho1] at hasg;obtain⟨ops,hops⟩:∃ops:Array Oper,ops=#[o0,o1]:=⟨_,rfl⟩;have i0:ops[0]?=some o0:=by rw[hops];rfl
 have i1:ops[1]?=some o1:=by rw[hops];rfl
 have d0:o0.dst=some t3:=by rw[ho0]
 have d1:o1.dst=some t2:=by rw[ho1]
 have w0:∀y,Region.wanted o0 y=true:=by intro y;rw[ho0];rfl
 have w1:∀y,Region.wanted o1 y=true:=by intro y;rw[ho1];rfl
 have hr2:List.range ops.size=[0,1]:=by rw[hops];rfl
 rw[←hops,hr2];simp only[wpOpsSIn,i0,i1,w0,w1,if_true,hrec,d0,d1];refine⟨fun _ _=>Ah,?_⟩;cases m with
 | ret =>
  obtain rfl:u= .returning:=hm;simp only[recoverD,hc0,hasg];refine⟨fun _ _=>Ah,?_⟩;have:=fin .nilIface .returning (by simp[Jx.val,BP,BN]) rfl;have e:({ c₀ with mode:= .returning }:Frame)=c₀:=by rw[←hc0]
  rw[e] at this;exact this
 | pan v =>
  obtain⟨x,rfl,hx⟩:=hm;simp only[recoverD,hc0,hasg];refine⟨fun _ _=>Ah,?_⟩;exact fin x _ hx O
end Go.Abs
