/- Part of the proofs about metavariables: an abstract program logic, plain models and contracts of functions. -/
import Derived.OrdersIn
import Derived.RangeFuncIn
import Derived.RangeFuncRecord
import Derived.Deep.MidRow
/- The words of an abstract program logic over the kit's Code.wp: pure data, abstract values, tracked heap objects, and the relation between an abstract state and a frame in a world. -/
namespace Go.Abs
set_option linter.unusedVariables false

inductive PV where
  | any
  | bool (b : Bool)
  | int (k : IntKind) (n : Int)
  | str (s : ByteArray)
  | lst (rows : List (List PV))
  | fn (f : FuncId)
  | nilFn
  | nils
  | nilIface
  | iface (t : TypeId) (v : PV)
  deriving Inhabited

mutual
def PRep (F : Nat → Prop) (w : World) : PV → Value → Prop
  | .any, _ => True
  | .bool b, v => v = .bool b
  | .int k n, v => v = .int k n
  | .str s, v => v = .string s
  | .lst rows, v => (rows = [] ∧ ∃ o c, v = .slice o 0 c) ∨ (∃ b o c sz, v = .slice (some ⟨b, o, none⟩) rows.length c ∧ ¬ F b ∧ b < w.heap.size ∧ rows.length ≤ c ∧ RowsRep F w b sz o rows)
  | .fn f, v => v = .func (.func f) #[] #[]
  | .nilFn, v => v = .nilFunc
  | .nils, v => v = .slice none 0 0
  | .nilIface, v => v = .nilIface
  | .iface t x, v => ∃ u, v = .iface t u ∧ PRep F w x u
def RowsRep (F : Nat → Prop) (w : World) (b sz : Nat) : Nat → List (List PV) → Prop
  | _, [] => True
  | o, r :: rs => r.length = sz ∧ CellsRep F w b o r ∧ RowsRep F w b sz (o + sz) rs
def CellsRep (F : Nat → Prop) (w : World) (b : Nat) : Nat → List PV → Prop
  | _, [] => True
  | o, c :: cs => (∃ v, w.cell? ⟨b, o, none⟩ = some v ∧ PRep F w c v) ∧ CellsRep F w b (o + 1) cs
end

inductive AV where
  | p (x : PV)
  | ptr (b off : Nat)
  | nilp
  | ref (cells : List PV)
  | vs (o : Option Nat) (n c : Nat)
  | map (b : Nat)
  | fn (f : Fn) (first caps : List AV)
  | agg (cs : List AV)
  | tup (xs : List AV)
  deriving Inhabited

mutual
def Rep (F : Nat → Prop) (w : World) : AV → Value → Prop
  | .p x, v => PRep F w x v
  | .ptr b off, v => v = .pointer (some ⟨b, off, none⟩)
  | .nilp, v => v = .pointer none
  | .ref cs, v => ∃ b o, v = .pointer (some ⟨b, o, none⟩) ∧ ¬ F b ∧ b < w.heap.size ∧ CellsRep F w b o cs
  | .vs (some b) n c, v => v = .slice (some ⟨b, 0, none⟩) n c
  | .vs none n c, v => n = 0 ∧ c = 0 ∧ ∃ a, v = .slice a 0 0
  | .map b, v => v = .map (some b)
  | .fn f first caps, v => ∃ fs cs, v = .func f ⟨fs⟩ ⟨cs⟩ ∧ RepL F w first fs ∧ RepL F w caps cs
  | .agg cs, v => ∃ vs, v = .agg ⟨vs⟩ ∧ RepL F w cs vs
  | .tup xs, v => ∃ vs, v = .tuple ⟨vs⟩ ∧ RepL F w xs vs
def RepL (F : Nat → Prop) (w : World) : List AV → List Value → Prop
  | [], vs => vs = []
  | x :: xs, vs => ∃ u us, vs = u :: us ∧ Rep F w x u ∧ RepL F w xs us
end

/-- The record of a range over a function: the slots as they stood where the loop began. -/
structure ALoop where
  state : LoopState
  pending : Option Code
  n : Nat
  τ : Nat → AV
  params : Array Tmp
  assign : Code
  body : Code
  deriving Inhabited

inductive HObj where
  | box (b : Nat) (cs : List AV)
  | vec (o : Option Nat) (sz : Nat) (rows : List (List PV)) (c : Nat)
  | map (b : Nat) (es : List (PV × AV))
  | loop (l : Nat) (L : ALoop)
  | dfr (b : Nat)
  deriving Inhabited

def HObj.key : HObj → Option Nat
  | .box b _ => some b
  | .vec o _ _ _ => o
  | .map b _ => some b
  | .loop l _ => some l
  | .dfr b => some b

def EntRep (F : Nat → Prop) (w : World) : List (PV × AV) → List MapEntry → Prop
  | [], es => es = []
  | (k, x) :: r, es => ∃ e es', es = e :: es' ∧ PRep F w k e.key ∧ Rep F w x e.val ∧ EntRep F w r es'

def ORep (F : Nat → Prop) (w : World) : HObj → Prop
  | .box b cs => ∃ vs T, w.heap[b]? = some (.cells ⟨vs⟩ T (0, 0)) ∧ RepL F w cs vs
  | .vec none _ rows c => rows = [] ∧ c = 0
  | .vec (some b) sz rows c => ∃ vs T, w.heap[b]? = some (.cells vs T (0, 0)) ∧ c * sz ≤ vs.size ∧ rows.length ≤ c ∧ RowsRep F w b sz 0 rows
  | .map b es => ∃ ents clk, w.heap[b]? = some (.map ents clk) ∧ EntRep F w es ents.toList
  | .loop l L => ∃ r : Loop, w.heap[l]? = some (.loop r) ∧ r.state = L.state ∧ r.pending = L.pending ∧ r.params = L.params ∧ r.assign = L.assign ∧ r.body = L.body ∧ r.tmps.size = L.n ∧ ∀ t, Rep F w (L.τ t) (r.tmps.getD t (.tuple #[]))
  | .dfr b => w.heap[b]? = some (.deferred (some []))

/-- A deferred call: of a closure; or the mark of a range over a function. -/
inductive ADef where
  | clo (f : Fn) (caps : List AV)
  | mark (b : Nat)

structure HRel (F : Nat → Prop) (H : List HObj) (w : World) : Prop where
  sub : ∀ o ∈ H, ∀ b, o.key = some b → F b
  nodup : (H.filterMap HObj.key).Nodup
  obj : ∀ o ∈ H, ORep F w o
  bd : ∀ b, F b → b < w.heap.size

/-- From (F, H, w) the run has come to (F', H', w'): only blocks that H tracks, and new ones, have changed. -/
structure Trans (F : Nat → Prop) (H : List HObj) (w : World) (F' : Nat → Prop) (H' : List HObj) (w' : World) : Prop where
  size : w.heap.size ≤ w'.heap.size
  same : ∀ b, b < w.heap.size → (∀ o ∈ H, o.key ≠ some b) → w'.heap[b]? = w.heap[b]?
  keep : ∀ b, F b → (∀ o ∈ H, o.key ≠ some b) → F' b
  fresh : ∀ b, F' b → F b ∨ w.heap.size ≤ b
  keys : ∀ o ∈ H', ∀ b, o.key = some b → (∃ o' ∈ H, o'.key = some b) ∨ w.heap.size ≤ b
  os : w'.os = w.os
  out : w'.output = w.output
  tape : w'.tape = w.tape

theorem cell_same {w w' : World} {b o : Nat} (h : w'.heap[b]? = w.heap[b]?) : w'.cell? ⟨b, o, none⟩ = w.cell? ⟨b, o, none⟩ := by
  simp [World.cell?, h]

/-- What a change of the world must keep so that pure data read as before. -/
structure Stable (F : Nat → Prop) (w : World) (F' : Nat → Prop) (w' : World) : Prop where
  size : w.heap.size ≤ w'.heap.size
  same : ∀ b, ¬ F b → b < w.heap.size → w'.heap[b]? = w.heap[b]?
  nf : ∀ b, ¬ F b → b < w.heap.size → ¬ F' b

section
variable {F F' : Nat → Prop} {w w' : World}
mutual
theorem PRep.mono (st : Stable F w F' w') : ∀ (x : PV) (v : Value), PRep F w x v → PRep F' w' x v
  | .any, _, _ => by simp [PRep]
  | .bool b, _, h => by simpa [PRep] using h
  | .int k n, _, h => by simpa [PRep] using h
  | .str s, _, h => by simpa [PRep] using h
  | .lst rows, v, h => by
    simp only [PRep] at h ⊢
    rcases h with h | ⟨b, o, c, sz, hv, hf, hb, hc, hr⟩
    · exact .inl h
    · exact .inr ⟨b, o, c, sz, hv, st.nf b hf hb, Nat.lt_of_lt_of_le hb st.size, hc, RowsRep.mono st b sz (st.same b hf hb) o rows hr⟩
  | .fn f, _, h => by simpa [PRep] using h
  | .nilFn, _, h => by simpa [PRep] using h
  | .nils, _, h => by simpa [PRep] using h
  | .nilIface, _, h => by simpa [PRep] using h
  | .iface t x, v, h => by
    simp only [PRep] at h ⊢
    obtain ⟨u, hu, hx⟩ := h
    exact ⟨u, hu, PRep.mono st x u hx⟩
theorem RowsRep.mono (st : Stable F w F' w') (b sz : Nat) (hb : w'.heap[b]? = w.heap[b]?) : ∀ (o : Nat) (rows : List (List PV)), RowsRep F w b sz o rows → RowsRep F' w' b sz o rows
  | _, [], _ => by simp [RowsRep]
  | o, r :: rs, h => by
    simp only [RowsRep] at h ⊢
    exact ⟨h.1, CellsRep.mono st b hb o r h.2.1, RowsRep.mono st b sz hb (o + sz) rs h.2.2⟩
theorem CellsRep.mono (st : Stable F w F' w') (b : Nat) (hb : w'.heap[b]? = w.heap[b]?) : ∀ (o : Nat) (cs : List PV), CellsRep F w b o cs → CellsRep F' w' b o cs
  | _, [], _ => by simp [CellsRep]
  | o, c :: cs, h => by
    simp only [CellsRep] at h ⊢
    obtain ⟨⟨v, hv, hx⟩, hr⟩ := h
    exact ⟨⟨v, by rw [cell_same hb]; exact hv, PRep.mono st c v hx⟩, CellsRep.mono st b hb (o + 1) cs hr⟩
end

mutual
theorem Rep.mono (st : Stable F w F' w') : ∀ (x : AV) (v : Value), Rep F w x v → Rep F' w' x v
  | .p x, v, h => by simp only [Rep] at h ⊢; exact PRep.mono st x v h
  | .ptr _ _, _, h => by simpa [Rep] using h
  | .nilp, _, h => by simpa [Rep] using h
  | .ref cs, v, h => by
    simp only [Rep] at h ⊢
    obtain ⟨b, o, hv, hf, hb, hr⟩ := h
    exact ⟨b, o, hv, st.nf b hf hb, Nat.lt_of_lt_of_le hb st.size, CellsRep.mono st b (st.same b hf hb) o cs hr⟩
  | .vs (some _) _ _, _, h => by simpa [Rep] using h
  | .vs none _ _, _, h => by simpa [Rep] using h
  | .map _, _, h => by simpa [Rep] using h
  | .fn f first caps, v, h => by
    simp only [Rep] at h ⊢
    obtain ⟨fs, cs, hv, h1, h2⟩ := h
    exact ⟨fs, cs, hv, RepL.mono st first fs h1, RepL.mono st caps cs h2⟩
  | .agg cs, v, h => by
    simp only [Rep] at h ⊢
    obtain ⟨vs, hv, h1⟩ := h
    exact ⟨vs, hv, RepL.mono st cs vs h1⟩
  | .tup xs, v, h => by
    simp only [Rep] at h ⊢
    obtain ⟨vs, hv, h1⟩ := h
    exact ⟨vs, hv, RepL.mono st xs vs h1⟩
theorem RepL.mono (st : Stable F w F' w') : ∀ (xs : List AV) (vs : List Value), RepL F w xs vs → RepL F' w' xs vs
  | [], _, h => by simpa [RepL] using h
  | x :: xs, vs, h => by
    simp only [RepL] at h ⊢
    obtain ⟨u, us, hv, h1, h2⟩ := h
    exact ⟨u, us, hv, Rep.mono st x u h1, RepL.mono st xs us h2⟩
end

theorem EntRep.mono (st : Stable F w F' w') : ∀ (es : List (PV × AV)) (l : List MapEntry), EntRep F w es l → EntRep F' w' es l
  | [], _, h => by simpa [EntRep] using h
  | (k, x) :: r, l, h => by
    simp only [EntRep] at h ⊢
    obtain ⟨e, es', hv, h1, h2, h3⟩ := h
    exact ⟨e, es', hv, PRep.mono st k _ h1, Rep.mono st x _ h2, EntRep.mono st r es' h3⟩

/-- An object whose own block is as it was. -/
theorem ORep.mono (st : Stable F w F' w') (x : HObj) (hk : ∀ b, x.key = some b → w'.heap[b]? = w.heap[b]?) (h : ORep F w x) : ORep F' w' x := by
  cases x with
  | box b cs =>
    obtain ⟨vs, T, hb, hr⟩ := h
    exact ⟨vs, T, by rw [hk b rfl]; exact hb, RepL.mono st cs vs hr⟩
  | vec o sz rows c =>
    cases o with
    | none => exact h
    | some b =>
      obtain ⟨vs, T, hb, h1, h2, h3⟩ := h
      exact ⟨vs, T, by rw [hk b rfl]; exact hb, h1, h2, RowsRep.mono st b sz (hk b rfl) 0 rows h3⟩
  | map b es =>
    obtain ⟨ents, clk, hb, hr⟩ := h
    exact ⟨ents, clk, by rw [hk b rfl]; exact hb, EntRep.mono st es _ hr⟩
  | loop l L =>
    obtain ⟨r, hb, h1, h2, h3, h4, h5, h6, h7⟩ := h
    exact ⟨r, by rw [hk l rfl]; exact hb, h1, h2, h3, h4, h5, h6, fun t => Rep.mono st _ _ (h7 t)⟩
  | dfr b =>
    show w'.heap[b]? = _
    rw [hk b rfl]; exact h
end

section
variable {F F' F'' : Nat → Prop} {H H' H'' : List HObj} {w w' w'' : World}

theorem Trans.stable (hs : ∀ o ∈ H, ∀ b, o.key = some b → F b) (t : Trans F H w F' H' w') : Stable F w F' w' where
  size := t.size
  same b hf hb := t.same b hb fun o ho hk => hf (hs o ho b hk)
  nf b hf hb hf' := (t.fresh b hf').elim hf fun h => by omega

theorem Trans.refl : Trans F H w F H w where
  size := Nat.le_refl _
  same _ _ _ := rfl
  keep _ h _ := h
  fresh _ h := .inl h
  keys o ho b hb := .inl ⟨o, ho, hb⟩
  os := rfl
  out := rfl
  tape := rfl

theorem Trans.trans (bd : ∀ b, F b → b < w.heap.size) (t : Trans F H w F' H' w') (t' : Trans F' H' w' F'' H'' w'') : Trans F H w F'' H'' w'' where
  size := Nat.le_trans t.size t'.size
  same b hb hn := by
    rw [t'.same b (Nat.lt_of_lt_of_le hb t.size) ?_, t.same b hb hn]
    intro o ho hk
    rcases t.keys o ho b hk with ⟨o', ho', hk'⟩ | h
    · exact hn o' ho' hk'
    · omega
  keep b hF hn := by
    refine t'.keep b (t.keep b hF hn) ?_
    intro o ho hk
    have := bd b hF
    rcases t.keys o ho b hk with ⟨o', ho', hk'⟩ | h
    · exact hn o' ho' hk'
    · omega
  fresh b h := by
    rcases t'.fresh b h with h | h
    · exact t.fresh b h
    · exact .inr (Nat.le_trans t.size h)
  keys o ho b hk := by
    rcases t'.keys o ho b hk with ⟨o', ho', hk'⟩ | h
    · exact t.keys o' ho' b hk'
    · exact .inr (Nat.le_trans t.size h)
  os := t'.os.trans t.os
  out := t'.out.trans t.out
  tape := t'.tape.trans t.tape
end

end Go.Abs
/- The abstract program logic: states, the judgement AWp on code and its rules for control. -/
namespace Go.Abs
set_option linter.unusedVariables false

def put (τ : Nat → AV) (d : Option Nat) (v : AV) : Nat → AV :=
  match d with
  | none => τ
  | some d => fun t => bif Nat.beq t d then v else τ t

def mk : List (Nat × AV) → Nat → AV
  | [], _ => .p .any
  | (d, v) :: r, t => bif Nat.beq t d then v else mk r t

def ofVal : Value → AV
  | .bool b => .p (.bool b)
  | .int k n => .p (.int k n)
  | .string s => .p (.str s)
  | .slice none 0 0 => .p .nils
  | .nilIface => .p .nilIface
  | .nilFunc => .p .nilFn
  | .pointer none => .nilp
  | _ => .p .any

def ev (τ : Nat → AV) : Operand → AV
  | .tmp t => τ t
  | .const v => ofVal v
  | .func f => .p (.fn f)
  | .global g => .ptr g 0

structure AState where
  n : Nat
  τ : Nat → AV
  H : List HObj
  D : List ADef

def AState.put (S : AState) (d : Option Nat) (v : AV) (H : List HObj) : AState := ⟨S.n, Abs.put S.τ d v, H, S.D⟩

def DRep (F : Nat → Prop) (w : World) : List ADef → List Deferred → Prop
  | [], ds => ds = []
  | .clo f cs :: r, ds => ∃ vs ds', ds = { target := .fn f ⟨vs⟩, args := #[] } :: ds' ∧ RepL F w cs vs ∧ DRep F w r ds'
  | .mark b :: r, ds => ∃ ds', ds = { target := .collected b, args := #[] } :: ds' ∧ DRep F w r ds'

structure SRel (F : Nat → Prop) (S : AState) (a : Act) (w : World) : Prop where
  size : a.tmps.size = S.n
  tmp : ∀ t, Rep F w (S.τ t) (a.tmps.getD t undef)
  heap : HRel F S.H w
  defs : DRep F w S.D a.defers

section
variable {F F' : Nat → Prop} {w w' : World}
theorem DRep.mono (st : Stable F w F' w') : ∀ (D : List ADef) (ds : List Deferred), DRep F w D ds → DRep F' w' D ds
  | [], _, h => by simpa [DRep] using h
  | .clo f cs :: r, ds, h => by
    simp only [DRep] at h ⊢
    obtain ⟨vs, ds', hd, h1, h2⟩ := h
    exact ⟨vs, ds', hd, RepL.mono st cs vs h1, DRep.mono st r ds' h2⟩
  | .mark b :: r, ds, h => by
    simp only [DRep] at h ⊢
    obtain ⟨ds', hd, h2⟩ := h
    exact ⟨ds', hd, DRep.mono st r ds' h2⟩

theorem rep_any (v : Value) : Rep F w (.p .any) v := by simp [Rep, PRep]

theorem rep_ofVal (v : Value) : Rep F w (ofVal v) v := by
  unfold ofVal
  split <;> simp [Rep, PRep]

theorem SRel.eval {S : AState} {a : Act} (h : SRel F S a w) (x : Operand) : Rep F w (ev S.τ x) (a.eval x) := by
  cases x with
  | tmp t => exact h.tmp t
  | const v => exact rep_ofVal v
  | global g => simp [ev, Act.eval, Rep]
  | func f => simp [ev, Act.eval, Rep, PRep]

/-- A slot is written. -/
theorem SRel.put {S : AState} {a : Act} (h : SRel F S a w) {d : Option Nat} (hd : ∀ t, d = some t → t < S.n) {v : AV} {u : Value} {H' : List HObj}
    (st : Stable F w F' w') (hH : HRel F' H' w') (hv : Rep F' w' v u) : SRel F' (S.put d v H') (a.put d u) w' where
  size := by cases d <;> simp [Act.put, AState.put, h.size]
  tmp t := by
    cases d with
    | none => exact Rep.mono st _ _ (h.tmp t)
    | some d =>
      have hlt : d < a.tmps.size := by rw [h.size]; exact hd d rfl
      by_cases e : t = d
      · subst e
        simp [Act.put, AState.put, Abs.put, hlt, hv]
      · have hb : Nat.beq t d = false := by
          cases hq : Nat.beq t d with
          | false => rfl
          | true => exact absurd (Nat.eq_of_beq_eq_true hq) e
        have := Rep.mono st _ _ (h.tmp t)
        simpa [Act.put, AState.put, Abs.put, hb, Array.getElem?_setIfInBounds_ne (Ne.symm e)] using this
  heap := hH
  defs := by
    have := DRep.mono st _ _ h.defs
    cases d <;> exact this
end

inductive AExit where
  | normal
  | exit (id : Nat)
  | ret
  | panic (v : AV)

def ExitRep (F : Nat → Prop) (w : World) : AExit → Exit → Prop
  | .normal, e => e = .normal
  | .exit id, e => e = .exit id
  | .ret, e => e = .ret
  | .panic x, e => ∃ v, e = .panic [{ v, recovered := false }] ∧ Rep F w x v

def post (F : Nat → Prop) (H : List HObj) (w : World) (Q : AExit → AState → Prop) : Exit → Act → World → Prop :=
  fun e a' w' => ∃ e' S' F', Q e' S' ∧ ExitRep F' w' e' e ∧ SRel F' S' a' w' ∧ Trans F H w F' S'.H w'

/-- No fence: 'r' says whether the frame is a round of a range over a function. -/
def W (r : Option Nat) : Fence := { Fence.wide with round := r }

/-- Code c, in a frame of a function (r = none) or of a round: from S it comes to Q. -/
def AWp (P : Program) (r : Option Nat) (c : Code) (S : AState) (Q : AExit → AState → Prop) : Prop :=
  ∀ F a w, SRel F S a w → c.wpIn (W r) 0 P (post F S.H w Q) a w

section
variable {P : Program} {r : Option Nat} {S : AState} {Q Q' : AExit → AState → Prop} {c c₁ c₂ : Code}

theorem post_trans {F F₁ : Nat → Prop} {H H₁ : List HObj} {w w₁ : World} (bd : ∀ b, F b → b < w.heap.size) (t : Trans F H w F₁ H₁ w₁) {e a w'}
    (h : post F₁ H₁ w₁ Q e a w') : post F H w Q e a w' := by
  obtain ⟨e', S', F', hq, he, hs, ht⟩ := h
  exact ⟨e', S', F', hq, he, hs, t.trans bd ht⟩

theorem AWp.mono (h : AWp P r c S Q) (hq : ∀ e S, Q e S → Q' e S) : AWp P r c S Q' :=
  fun F a w hs => wpIn_mono (h F a w hs) fun _ _ _ ⟨e', S', F', q, r⟩ => ⟨e', S', F', hq _ _ q, r⟩

def thenQ (K : AState → Prop) (Q : AExit → AState → Prop) : AExit → AState → Prop
  | .normal, S => K S
  | e, S => Q e S

theorem awp_seq (h : AWp P r c₁ S (thenQ (fun S' => AWp P r c₂ S' Q) Q)) : AWp P r (.seq c₁ c₂) S Q := by
  intro F a w hs
  refine wpIn_seq (wpIn_mono (h F a w hs) ?_)
  rintro e a' w' ⟨e', S', F', hq, he, hs', ht⟩
  cases e' with
  | normal =>
    obtain rfl : e = .normal := he
    exact wpIn_mono (hq F' a' w' hs') fun _ _ _ => post_trans hs.heap.bd ht
  | exit id => obtain rfl : e = .exit id := he; exact ⟨.exit id, S', F', hq, rfl, hs', ht⟩
  | ret => obtain rfl : e = .ret := he; exact ⟨.ret, S', F', hq, rfl, hs', ht⟩
  | panic v => obtain ⟨u, rfl, hu⟩ := he; exact ⟨.panic v, S', F', hq, ⟨u, rfl, hu⟩, hs', ht⟩

theorem awp_skip (h : Q .normal S) : AWp P r .skip S Q := fun F a w hs => wpIn_skip ⟨.normal, S, F, h, rfl, hs, .refl⟩
theorem awp_exit {id : Nat} (h : Q (.exit id) S) : AWp P r (.exit id) S Q := fun F a w hs => wpIn_exit ⟨.exit id, S, F, h, rfl, hs, .refl⟩
theorem awp_ret (h : Q .ret S) : AWp P r .ret S Q := fun F a w hs => wpIn_ret ⟨.ret, S, F, h, rfl, hs, .refl⟩

theorem awp_cond {x : Operand} {b : Bool} (hx : ev S.τ x = .p (.bool b)) (ht : b = true → AWp P r c₁ S Q) (hf : b = false → AWp P r c₂ S Q) : AWp P r (.cond x c₁ c₂) S Q := by
  intro F a w hs
  have := hs.eval x
  rw [hx] at this
  simp only [Rep, PRep] at this
  exact wpIn_cond_split this (fun h => ht h F a w hs) (fun h => hf h F a w hs)

def blockQ (id : Nat) (Q : AExit → AState → Prop) : AExit → AState → Prop
  | .exit i, S => bif Nat.beq i id then Q .normal S else Q (.exit i) S
  | e, S => Q e S

theorem awp_block {id : Nat} (h : AWp P r c S (blockQ id Q)) : AWp P r (.block id c) S Q := by
  intro F a w hs
  refine wpIn_block (wpIn_mono (h F a w hs) ?_)
  rintro e a' w' ⟨e', S', F', hq, he, hs', ht⟩
  cases e' with
  | normal => obtain rfl : e = .normal := he; exact ⟨.normal, S', F', hq, rfl, hs', ht⟩
  | exit i =>
    obtain rfl : e = .exit i := he
    simp only [Exit.inBlock]
    by_cases hi : i = id
    · subst hi
      have : Nat.beq i i = true := Nat.beq_refl i
      simp only [blockQ, this, cond_true] at hq
      simp only [if_true]
      exact ⟨.normal, S', F', hq, rfl, hs', ht⟩
    · have : Nat.beq i id = false := by
        cases hq : Nat.beq i id with
        | false => rfl
        | true => exact absurd (Nat.eq_of_beq_eq_true hq) hi
      simp only [blockQ, this, cond_false] at hq
      simp only [hi, if_false]
      exact ⟨.exit i, S', F', hq, rfl, hs', ht⟩
  | ret => obtain rfl : e = .ret := he; exact ⟨.ret, S', F', hq, rfl, hs', ht⟩
  | panic v => obtain ⟨u, rfl, hu⟩ := he; exact ⟨.panic v, S', F', hq, ⟨u, rfl, hu⟩, hs', ht⟩

/-- The kit's rule for a loop, with a measure beside the state. -/
theorem wp_loop_idx {F : Fence} {nn : Nat} {Q : Exit → Act → World → Prop} {c : Code} (I : Nat → Act → World → Prop)
    (round : ∀ m a w, I m a w → c.wpIn F nn P (Exit.then (fun a' w' => ∃ m', m' < m ∧ I m' a' w') Q) a w) {m : Nat} {a : Act} {w : World} (h₀ : I m a w) : (Code.loop c).wpIn F nn P Q a w := by
  intro b k cs hro hb hr
  have key : ∀ j a w, I j a w →
      ∃ e a' w', Q e a' w' ∧ ArrivesIn (Machine.fenced P F) P (lone (b.atR a (.code c :: .inLoop c :: k)) cs w) b k cs e a' w' := by
    intro j
    induction j using Nat.strongRecOn with
    | _ j ih =>
      intro a w hI
      obtain ⟨e, a₁, w₁, hq, harr⟩ := round j a w hI b (.inLoop c :: k) cs hro hb hr
      cases e with
      | normal =>
        obtain ⟨m', hlt, hI₁⟩ := hq
        obtain ⟨e₂, a₂, w₂, hq₂, harr₂⟩ := ih m' hlt a₁ w₁ hI₁
        exact ⟨e₂, a₂, w₂, hq₂, .of_steps (StepsIn.trans harr (.one (fenced_calm hb hr rfl) stepR_inLoop)) harr₂⟩
      | exit id => exact ⟨_, a₁, w₁, hq, .pass (x := .inLoop c) rfl (fun _ _ => .inl (by simp)) harr⟩
      | goto l => exact ⟨_, a₁, w₁, hq, .pass (x := .inLoop c) rfl (fun _ _ => .inl (by simp)) harr⟩
      | ret => exact ⟨_, a₁, w₁, hq, .pass (x := .inLoop c) rfl (fun _ _ => .inl (by simp)) harr⟩
      | panic ch => exact ⟨_, a₁, w₁, hq, .pass (x := .inLoop c) rfl (fun _ _ => .inl (by simp)) harr⟩
      | outgrown => exact ⟨_, a₁, w₁, hq, .pass (x := .inLoop c) rfl (fun _ _ => .inl (by simp)) harr⟩
  obtain ⟨e, a', w', hq, harr⟩ := key _ a w h₀
  exact ⟨e, a', w', hq, .of_steps (.one (fenced_calm hb hr rfl) stepR_loop) harr⟩

/-- y says less than x. -/
def Weak (x y : AV) : Prop := ∀ F w v, Rep F w x v → Rep F w y v
theorem we {x y : AV} (h : x = y) : Weak x y := fun _ _ _ hr => h ▸ hr
theorem weak_any (x : AV) : Weak x (.p .any) := fun _ _ v _ => rep_any v
def OWeak (o o' : HObj) : Prop := o'.key = o.key ∧ ∀ F w, ORep F w o → ORep F w o'
theorem oe {o o' : HObj} (h : o = o') : OWeak o o' := ⟨by rw [h], fun _ _ hr => h ▸ hr⟩
def WeakL : List HObj → List HObj → Prop
  | [], l => l = []
  | o :: l, r => ∃ o' r', r = o' :: r' ∧ OWeak o o' ∧ WeakL l r'
theorem WeakL.refl : ∀ (l : List HObj), WeakL l l
  | [] => rfl
  | o :: l => ⟨o, l, rfl, oe rfl, WeakL.refl l⟩
theorem WeakL.keys : ∀ {l r : List HObj}, WeakL l r → r.filterMap HObj.key = l.filterMap HObj.key
  | [], r, h => by simp only [WeakL] at h; subst h; rfl
  | o :: l, r, h => by
    obtain ⟨o', r', rfl, h1, h2⟩ := h
    simp [List.filterMap_cons, h1.1, WeakL.keys h2]
theorem WeakL.mem : ∀ {l r : List HObj}, WeakL l r → ∀ o' ∈ r, ∃ o ∈ l, OWeak o o'
  | [], r, h, o', ho => by simp only [WeakL] at h; subst h; simp at ho
  | o :: l, r, h, o', ho => by
    obtain ⟨o1, r', rfl, h1, h2⟩ := h
    rcases List.mem_cons.1 ho with rfl | ho
    · exact ⟨o, by simp, h1⟩
    · obtain ⟨q, hq, hw⟩ := WeakL.mem h2 o' ho
      exact ⟨q, by simp [hq], hw⟩
/-- Of the tracked objects H some are kept, with less known of them. -/
def LeH (H H' : List HObj) : Prop := ∃ H1, H1.Sublist H ∧ WeakL H1 H'
theorem LeH.of_sub {H H' : List HObj} (h : H'.Sublist H) : LeH H H' := ⟨H', h, WeakL.refl _⟩
/-- M says less than S. -/
structure Le (S M : AState) : Prop where
  n : M.n = S.n
  D : M.D = S.D
  τ : ∀ t, Weak (S.τ t) (M.τ t)
  H : LeH S.H M.H

theorem HRel.sublist {F : Nat → Prop} {H H' : List HObj} {w : World} (h : HRel F H w) (hs : H'.Sublist H) : HRel F H' w where
  sub o ho := h.sub o (hs.subset ho)
  nodup := (hs.filterMap HObj.key).nodup h.nodup
  obj o ho := h.obj o (hs.subset ho)
  bd := h.bd

theorem HRel.leH {F : Nat → Prop} {H H' : List HObj} {w : World} (h : HRel F H w) (l : LeH H H') : HRel F H' w := by
  obtain ⟨H1, h1, h2⟩ := l
  have h3 := h.sublist h1
  refine ⟨fun o ho b hb => ?_, by rw [h2.keys]; exact h3.nodup, fun o ho => ?_, h.bd⟩
  · obtain ⟨q, hq, hw⟩ := h2.mem o ho
    exact h3.sub q hq b (by rw [← hw.1]; exact hb)
  · obtain ⟨q, hq, hw⟩ := h2.mem o ho
    exact hw.2 F w (h3.obj q hq)

theorem SRel.le {F : Nat → Prop} {S M : AState} {a : Act} {w : World} (h : SRel F S a w) (l : Le S M) : SRel F M a w where
  size := by rw [h.size, l.n]
  tmp t := l.τ t F w _ (h.tmp t)
  heap := h.heap.leH l.H
  defs := by rw [l.D]; exact h.defs

theorem Trans.sublist {F F' : Nat → Prop} {H H' H'' : List HObj} {w w' : World} (t : Trans F H w F' H' w') (hs : H''.Sublist H') : Trans F H w F' H'' w' :=
  { t with keys := fun o ho => t.keys o (hs.subset ho) }
theorem Trans.leH {F F' : Nat → Prop} {H H' H'' : List HObj} {w w' : World} (t : Trans F H w F' H' w') (l : LeH H' H'') : Trans F H w F' H'' w' := by
  obtain ⟨H1, h1, h2⟩ := l
  refine { t with keys := fun o ho b hb => ?_ }
  obtain ⟨q, hq, hw⟩ := h2.mem o ho
  exact t.keys q (h1.subset hq) b (by rw [← hw.1]; exact hb)

theorem Trans.le {F : Nat → Prop} {S M : AState} {w : World} (l : Le S M) : Trans F S.H w F M.H w := Trans.refl.leH l.H

/-- To forget. -/
theorem awp_le {M : AState} (l : Le S M) (bd : AWp P r c M Q) : AWp P r c S Q :=
  fun F a w hs => wpIn_mono (bd F a w (hs.le l)) fun _ _ _ => post_trans hs.heap.bd (Trans.le l)

theorem awp_loop (I : Nat → AState → Prop) {m : Nat} {M : AState} (l : Le S M) (h₀ : I m M)
    (round : ∀ m S, I m S → AWp P r c S (thenQ (fun S' => ∃ m' M', m' < m ∧ Le S' M' ∧ I m' M') Q)) : AWp P r (.loop c) S Q := by
  intro F a w hs
  refine wp_loop_idx (P := P) (fun m a' w' => ∃ S' F', I m S' ∧ SRel F' S' a' w' ∧ Trans F S.H w F' S'.H w') ?_ (m := m)
    ⟨M, F, h₀, hs.le l, Trans.le l⟩
  rintro m a₁ w₁ ⟨S₁, F₁, hI, hs₁, ht₁⟩
  refine wpIn_mono (round m S₁ hI F₁ a₁ w₁ hs₁) ?_
  rintro e a' w' ⟨e', S', F', hq, he, hs', ht⟩
  cases e' with
  | normal =>
    obtain rfl : e = .normal := he
    obtain ⟨m', M', hlt, hle, hI'⟩ := hq
    exact ⟨m', hlt, M', F', hI', hs'.le hle, (ht₁.trans hs.heap.bd ht).leH hle.H⟩
  | exit id => obtain rfl : e = .exit id := he; exact ⟨.exit id, S', F', hq, rfl, hs', ht₁.trans hs.heap.bd ht⟩
  | ret => obtain rfl : e = .ret := he; exact ⟨.ret, S', F', hq, rfl, hs', ht₁.trans hs.heap.bd ht⟩
  | panic v => obtain ⟨u, rfl, hu⟩ := he; exact ⟨.panic v, S', F', hq, ⟨u, rfl, hu⟩, hs', ht₁.trans hs.heap.bd ht⟩

def Agrees (τ : Nat → AV) : List (Nat × AV) → Prop
  | [] => True
  | (t, v) :: r => τ t = v ∧ Agrees τ r

theorem agrees_mk (τ : Nat → AV) : ∀ (l : List (Nat × AV)), Agrees τ l → ∀ t, mk l t = τ t ∨ mk l t = .p .any
  | [], _, t => .inr rfl
  | (d, v) :: r, h, t => by
    simp only [mk]
    by_cases e : t = d
    · subst e
      rw [Nat.beq_refl]
      exact .inl h.1.symm
    · have : Nat.beq t d = false := by
        cases hq : Nat.beq t d with
        | false => rfl
        | true => exact absurd (Nat.eq_of_beq_eq_true hq) e
      rw [this]
      exact agrees_mk τ r h.2 t

theorem le_mk {n : Nat} {τ : Nat → AV} {H H' : List HObj} {D : List ADef} {l : List (Nat × AV)} (h : Agrees τ l) (hH : H'.Sublist H) :
    Le ⟨n, τ, H, D⟩ ⟨n, mk l, H', D⟩ := ⟨rfl, rfl, fun t => (agrees_mk τ l h t).elim (fun e => we e.symm) (fun e => by show Weak (τ t) (mk l t); rw [e]; exact weak_any _), .of_sub hH⟩
def AgreesW (τ : Nat → AV) : List (Nat × AV) → Prop
  | [] => True
  | (t, v) :: r => Weak (τ t) v ∧ AgreesW τ r
theorem agreesW_mk (τ : Nat → AV) : ∀ (l : List (Nat × AV)), AgreesW τ l → ∀ t, Weak (τ t) (mk l t)
  | [], _, t => weak_any _
  | (d, v) :: r, h, t => by
    simp only [mk]
    by_cases e : t = d
    · subst e
      rw [Nat.beq_refl]
      exact h.1
    · have : Nat.beq t d = false := by
        cases hq : Nat.beq t d with
        | false => rfl
        | true => exact absurd (Nat.eq_of_beq_eq_true hq) e
      rw [this]
      exact agreesW_mk τ r h.2 t
theorem le_mkW {n : Nat} {τ : Nat → AV} {H H' : List HObj} {D : List ADef} {l : List (Nat × AV)} (h : AgreesW τ l) (hH : LeH H H') :
    Le ⟨n, τ, H, D⟩ ⟨n, mk l, H', D⟩ := ⟨rfl, rfl, agreesW_mk τ l h, hH⟩
end

end Go.Abs
/- The abstract program logic: one operation, a region in the order of its text, a call, a function's body. -/
namespace Go.Abs
set_option linter.unusedVariables false

inductive ARes where
  | val (v : AV)
  | panic (v : AV)

section
variable {F F' : Nat → Prop} {w w' : World}

theorem RepL.length : ∀ {xs : List AV} {vs : List Value}, RepL F w xs vs → vs.length = xs.length
  | [], vs, h => by simp only [RepL] at h; simp [h]
  | x :: xs, vs, h => by
    simp only [RepL] at h
    obtain ⟨u, us, rfl, _, h2⟩ := h
    simp [RepL.length h2]

theorem RepL.get : ∀ {xs : List AV} {vs : List Value} {i : Nat} {x : AV}, RepL F w xs vs → xs[i]? = some x → ∃ v, vs[i]? = some v ∧ Rep F w x v
  | [], vs, i, x, _, hx => by simp at hx
  | y :: xs, vs, i, x, h, hx => by
    simp only [RepL] at h
    obtain ⟨u, us, rfl, h1, h2⟩ := h
    cases i with
    | zero => simp at hx; subst hx; exact ⟨u, by simp, h1⟩
    | succ i => simp at hx; simpa using RepL.get h2 hx

theorem RepL.set : ∀ {xs : List AV} {vs : List Value} {i : Nat} {x : AV} {v : Value}, RepL F w xs vs → Rep F w x v → RepL F w (xs.set i x) (vs.set i v)
  | [], vs, i, x, v, h, hx => by simp only [RepL] at h; subst h; simp [RepL]
  | y :: xs, vs, i, x, v, h, hx => by
    simp only [RepL] at h
    obtain ⟨u, us, rfl, h1, h2⟩ := h
    cases i with
    | zero => simp only [List.set_cons_zero, RepL]; exact ⟨v, us, rfl, hx, h2⟩
    | succ i => simp only [List.set_cons_succ, RepL]; exact ⟨u, us.set i v, rfl, h1, RepL.set h2 hx⟩

theorem RepL.append : ∀ {xs ys : List AV} {vs us : List Value}, RepL F w xs vs → RepL F w ys us → RepL F w (xs ++ ys) (vs ++ us)
  | [], ys, vs, us, h, h' => by simp only [RepL] at h; subst h; simpa using h'
  | x :: xs, ys, vs, us, h, h' => by
    simp only [RepL] at h
    obtain ⟨u, t, rfl, h1, h2⟩ := h
    simp only [List.cons_append, RepL]
    exact ⟨u, t ++ us, rfl, h1, RepL.append h2 h'⟩

theorem RepL.drop : ∀ {xs : List AV} {vs : List Value} (n : Nat), RepL F w xs vs → RepL F w (xs.drop n) (vs.drop n)
  | xs, vs, 0, h => by simpa using h
  | [], vs, n + 1, h => by simp only [RepL] at h; subst h; simp [RepL]
  | x :: xs, vs, n + 1, h => by
    simp only [RepL] at h
    obtain ⟨u, t, rfl, _, h2⟩ := h
    simpa using RepL.drop n h2

theorem RepL.take : ∀ {xs : List AV} {vs : List Value} (n : Nat), RepL F w xs vs → RepL F w (xs.take n) (vs.take n)
  | xs, vs, 0, h => by simp [RepL]
  | [], vs, n + 1, h => by simp only [RepL] at h; subst h; simp [RepL]
  | x :: xs, vs, n + 1, h => by
    simp only [RepL] at h
    obtain ⟨u, t, rfl, h1, h2⟩ := h
    simp only [List.take_succ_cons, RepL]
    exact ⟨u, t.take n, rfl, h1, RepL.take n h2⟩

theorem RepL.mapEval {ρ : Operand → AV} {E : Operand → Value} : ∀ (l : List Operand), (∀ x ∈ l, Rep F w (ρ x) (E x)) → RepL F w (l.map ρ) (l.map E)
  | [], _ => by simp [RepL]
  | x :: l, h => by
    simp only [List.map_cons, RepL]
    exact ⟨E x, l.map E, rfl, h x (by simp), RepL.mapEval l fun y hy => h y (by simp [hy])⟩
end

/-- What an operation comes to: from operands ρ and heap H to a value (or a panic) and a heap of R. -/
def AOpR (P : Program) (o : Oper) (ρ : Operand → AV) (H : List HObj) (R : ARes → List HObj → Prop) : Prop :=
  ∀ r F S a w, SRel F S a w → S.H = H → (∀ x ∈ o.op.operands.toList, ev S.τ x = ρ x) → (∀ t, o.dst = some t → t < S.n) →
    o.wpIn (W r) 0 P a w (fun a' w' => ∃ v H' F', R (.val v) H' ∧ SRel F' (S.put o.dst v H') a' w' ∧ Trans F H w F' H' w')
      (fun e a' w' => ∃ v H' F' u, R (.panic v) H' ∧ e = .panic [{ v := u, recovered := false }] ∧ Rep F' w' v u ∧ SRel F' ⟨S.n, S.τ, H', S.D⟩ a' w' ∧ Trans F H w F' H' w')

def det (v : AV) (H : List HObj) : ARes → List HObj → Prop
  | .val v', H' => v' = v ∧ H' = H
  | .panic _, _ => False

abbrev AOp (P : Program) (o : Oper) (ρ : Operand → AV) (H : List HObj) (v : AV) (H' : List HObj) : Prop := AOpR P o ρ H (det v H')

theorem AOpR.mono {P : Program} {o : Oper} {ρ : Operand → AV} {H : List HObj} {R R' : ARes → List HObj → Prop} (h : AOpR P o ρ H R) (hr : ∀ r H, R r H → R' r H) : AOpR P o ρ H R' := by
  intro r F S a w hs hH hρ hd
  have := h r F S a w hs hH hρ hd
  unfold Oper.wpIn at *
  refine ⟨this.1, ?_⟩
  replace this := this.2
  generalize (o.semAt (W r).round a.eval).run P w = rr at *
  cases rr with
  | ok n w' =>
    cases n <;> simp only [Oper.uponIn] at this ⊢
    case value v => obtain ⟨v, H', F', h1, h2⟩ := this; exact ⟨v, H', F', hr _ _ h1, h2⟩
    case skip => obtain ⟨v, H', F', h1, h2⟩ := this; exact ⟨v, H', F', hr _ _ h1, h2⟩
    case defer d => obtain ⟨v, H', F', h1, h2⟩ := this; exact ⟨v, H', F', hr _ _ h1, h2⟩
    case enter f args =>
      refine ⟨this.1, this.2.mono fun e w'' he => ?_⟩
      cases e with
      | returned v => obtain ⟨v, H', F', h1, h2⟩ := he; exact ⟨v, H', F', hr _ _ h1, h2⟩
      | panicked c => obtain ⟨v, H', F', u, h1, h2⟩ := he; exact ⟨v, H', F', u, hr _ _ h1, h2⟩
      | outgrown => obtain ⟨_, _, v, H', F', u, h1, h2, _⟩ := he; cases h2
    case row row args => exact ⟨this.1, this.2.mono fun v w'' ⟨v, H', F', h1, h2⟩ => ⟨v, H', F', hr _ _ h1, h2⟩⟩
    case round l f tmps assign body =>
      refine ⟨this.1, this.2.mono fun e w'' he => ?_⟩
      cases e with
      | returned v => obtain ⟨v, H', F', h1, h2⟩ := he; exact ⟨v, H', F', hr _ _ h1, h2⟩
      | panicked c => obtain ⟨v, H', F', u, h1, h2⟩ := he; exact ⟨v, H', F', u, hr _ _ h1, h2⟩
      | outgrown => obtain ⟨_, _, v, H', F', u, h1, h2, _⟩ := he; cases h2
  | halt x w' =>
    cases x <;> simp only [Oper.uponIn] at this ⊢
    case panic v => obtain ⟨v, H', F', u, h1, h2⟩ := this; exact ⟨v, H', F', u, hr _ _ h1, h2⟩

/-- Every operation but a defer is carried out in a round as in a function. -/
def noDefer : Op → Bool
  | .defer _ => false
  | _ => true
theorem semAt_of {o : Oper} (h : noDefer o.op = true) (r : Option Nat) (ρ : Operand → Value) : o.semAt (W r).round ρ = execOp ρ o :=
  Oper.semAt_eq _ ρ o fun c hc => by rw [hc] at h; cases h
theorem wpIn_of {P : Program} {o : Oper} (h : noDefer o.op = true) {r : Option Nat} {a : Act} {w : World} {K : Act → World → Prop} {Q : Exit → Act → World → Prop} (hu : o.uponIn (W r) 0 P a K Q ((execOp a.eval o).run P w)) : o.wpIn (W r) 0 P a w K Q :=
  ⟨fun _ _ => trivial, by rw [semAt_of h]; exact hu⟩

/-- An operation that leaves the world. -/
theorem aop_pure {P : Program} {o : Oper} {ρ : Operand → AV} {H : List HObj} {v : AV} 
    (h : ∀ (F : Nat → Prop) (w : World) (E : Operand → Value), HRel F H w → (∀ x ∈ o.op.operands.toList, Rep F w (ρ x) (E x)) →
      ∃ u, (execOp E o).run P w = .ok (.value u) w ∧ Rep F w v u) (hdf : noDefer o.op = true := by rfl) : AOp P o ρ H v H := by
  intro r F S a w hs hH hρ hd
  subst hH
  refine wpIn_of hdf ?_
  obtain ⟨u, hu, hr⟩ := h F w a.eval hs.heap fun x hx => by rw [← hρ x hx]; exact hs.eval x
  simp only [hu, Oper.uponIn]
  exact ⟨v, S.H, F, ⟨rfl, rfl⟩, hs.put hd ⟨Nat.le_refl _, fun _ _ _ => rfl, fun _ h _ => h⟩ hs.heap hr, .refl⟩

/-- An operation that turns the world. -/
theorem aop_turn {P : Program} {o : Oper} {ρ : Operand → AV} {H : List HObj} {R : ARes → List HObj → Prop} 
    (h : ∀ (F : Nat → Prop) (w : World) (E : Operand → Value), HRel F H w → (∀ x ∈ o.op.operands.toList, Rep F w (ρ x) (E x)) →
      ∃ u w' v H' F', (execOp E o).run P w = .ok (.value u) w' ∧ R (.val v) H' ∧ Trans F H w F' H' w' ∧ HRel F' H' w' ∧ Rep F' w' v u) (hdf : noDefer o.op = true := by rfl) : AOpR P o ρ H R := by
  intro r F S a w hs hH hρ hd
  subst hH
  refine wpIn_of hdf ?_
  obtain ⟨u, w', v, H', F', hu, hR, ht, hH', hr⟩ := h F w a.eval hs.heap fun x hx => by rw [← hρ x hx]; exact hs.eval x
  simp only [hu, Oper.uponIn]
  exact ⟨v, H', F', hR, hs.put hd (ht.stable hs.heap.sub) hH' hr, ht⟩

theorem aop_turn_skip {P : Program} {o : Oper} {ρ : Operand → AV} {H : List HObj} {R : ARes → List HObj → Prop} 
    (h : ∀ (F : Nat → Prop) (w : World) (E : Operand → Value), HRel F H w → (∀ x ∈ o.op.operands.toList, Rep F w (ρ x) (E x)) →
      ∃ w' H' F', (execOp E o).run P w = .ok .skip w' ∧ R (.val (.p .any)) H' ∧ Trans F H w F' H' w' ∧ HRel F' H' w') (hdf : noDefer o.op = true := by rfl) : AOpR P o ρ H R := by
  intro r F S a w hs hH hρ hd
  subst hH
  refine wpIn_of hdf ?_
  obtain ⟨w', H', F', hu, hR, ht, hH'⟩ := h F w a.eval hs.heap fun x hx => by rw [← hρ x hx]; exact hs.eval x
  simp only [hu, Oper.uponIn]
  exact ⟨.p .any, H', F', hR, hs.put hd (ht.stable hs.heap.sub) hH' (rep_any _), ht⟩

def dstB : Option Nat → Nat → Bool
  | some t, n => Nat.blt t n
  | none, _ => true

/-- The operations of a region from the k-th on, in the order of the text. -/
def AL (P : Program) (r : Option Nat) (ops : Array Oper) (k : Nat) (S : AState) (Q : AExit → AState → Prop) : Prop :=
  ∀ F a w, SRel F S a w → wpOpsIn (W r) 0 P ops (post F S.H w Q) (List.range' k (ops.size - k)) a w

theorem wpOps_mono {P : Program} {r : Option Nat} {ops : Array Oper} {Q Q' : Exit → Act → World → Prop} (hq : ∀ e a w, Q e a w → Q' e a w) : ∀ (l : List Nat) (a : Act) (w : World), wpOpsIn (W r) 0 P ops Q l a w → wpOpsIn (W r) 0 P ops Q' l a w
  | [], a, w, h => hq _ _ _ h
  | i :: l, a, w, h => by
    rw [wpOpsIn_cons] at h ⊢
    unfold wpOpIn at h ⊢
    split
    · rename_i ho; simp only [ho] at h; exact wpOps_mono hq l a w h
    · rename_i o ho
      simp only [ho] at h
      split
      · rename_i hw
        simp only [hw, if_true] at h
        unfold Oper.wpIn at *
        refine ⟨h.1, ?_⟩
        replace h := h.2
        generalize (o.semAt (W r).round a.eval).run P w = rr at *
        cases rr with
        | ok n w' =>
          cases n <;> simp only [Oper.uponIn] at h ⊢
          case value v => exact wpOps_mono hq l _ _ h
          case skip => exact wpOps_mono hq l _ _ h
          case defer d => exact wpOps_mono hq l _ _ h
          case enter f args =>
            refine ⟨h.1, h.2.mono fun e w'' he => ?_⟩
            cases e with
            | returned v => exact wpOps_mono hq l _ _ he
            | panicked c => exact hq _ _ _ he
            | outgrown => obtain ⟨a₀, w₀, h2⟩ := he; exact ⟨a₀, w₀, hq _ _ _ h2⟩
          case row row args => exact ⟨h.1, h.2.mono fun v w'' h => wpOps_mono hq l _ _ h⟩
          case round l' f tmps assign body =>
            refine ⟨h.1, h.2.mono fun e w'' he => ?_⟩
            cases e with
            | returned v => exact wpOps_mono hq l _ _ he
            | panicked c => exact hq _ _ _ he
            | outgrown => obtain ⟨a₀, w₀, h2⟩ := he; exact ⟨a₀, w₀, hq _ _ _ h2⟩
        | halt x w' =>
          cases x <;> simp only [Oper.uponIn] at h ⊢
          case panic v => exact hq _ _ _ h
      · rename_i hw; simp only [hw] at h; exact ⟨h.1, wpOps_mono hq l _ _ h.2⟩

section
variable {P : Program} {r : Option Nat} {ops : Array Oper} {S : AState} {Q : AExit → AState → Prop} {k : Nat}

theorem awp_region {id : Nat} (h : AL P r ops 0 S Q) : AWp P r (.region id ops false) S Q := by
  intro F a w hs
  refine wpIn_region ?_
  have := h F a w hs
  rwa [Nat.sub_zero, ← List.range_eq_range'] at this

theorem al_end (hk : ops.size - k = 0) (h : Q .normal S) : AL P r ops k S Q := by
  intro F a w hs
  rw [hk]
  exact ⟨.normal, S, F, h, rfl, hs, .refl⟩

/-- A guard's slot that does not let the operation run. -/
def Unw (x : AV) (want : Bool) : Prop := (∃ b, x = .p (.bool b) ∧ (b == want) = false) ∨ x = .tup []

/-- The guard of an operation is met. -/
def Wants (ops : Array Oper) (S : AState) (o : Oper) : Prop :=
  match o.guard with
  | none => True
  | some (j, want) => ∃ d, (ops[j]?).bind (·.dst) = some d ∧ S.τ d = .p (.bool want)

theorem wanted_of {F : Nat → Prop} {a : Act} {w : World} {o : Oper} (hs : SRel F S a w) (h : Wants ops S o) : Region.wanted o (yielded ops a.tmps) = true := by
  unfold Wants at h
  unfold Region.wanted
  cases hg : o.guard with
  | none => rfl
  | some jw =>
    obtain ⟨j, want⟩ := jw
    simp only [hg] at h
    obtain ⟨d, hd, hv⟩ := h
    have := hs.tmp d
    rw [hv] at this
    simp only [Rep, PRep] at this
    have hlt : d < a.tmps.size := by
      rcases Nat.lt_or_ge d a.tmps.size with h | h
      · exact h
      · simp [Array.getElem?_eq_none h, undef] at this
    have h2 : a.tmps[d]? = some (.bool want) := by
      simp [Array.getElem?_eq_getElem hlt] at this ⊢
      exact this
    simp [yielded, hd, h2]

theorem range_step {n k : Nat} (h : k < n) : List.range' k (n - k) = k :: List.range' (k + 1) (n - (k + 1)) := by
  have : n - k = (n - (k + 1)) + 1 := by omega
  rw [this]
  rfl

theorem al_stepR {o : Oper} (ho : ops[k]? = some o) (hg : Wants ops S o) (hd : ∀ t, o.dst = some t → t < S.n) {R : ARes → List HObj → Prop} (h : AOpR P o (ev S.τ) S.H R)
    (next : ∀ v H', R (.val v) H' → AL P r ops (k + 1) (S.put o.dst v H') Q) (pan : ∀ v H', R (.panic v) H' → Q (.panic v) ⟨S.n, S.τ, H', S.D⟩) : AL P r ops k S Q := by
  intro F a w hs
  have hk : k < ops.size := by
    rcases Nat.lt_or_ge k ops.size with h | h
    · exact h
    · simp [Array.getElem?_eq_none h] at ho
  rw [range_step hk, wpOpsIn_cons]
  unfold wpOpIn
  simp only [ho, wanted_of hs hg, if_true]
  have hw := h r F S a w hs rfl (fun _ _ => rfl) hd
  unfold Oper.wpIn at *
  refine ⟨hw.1, ?_⟩
  replace hw := hw.2
  generalize (o.semAt (W r).round a.eval).run P w = rr at *
  have fin : ∀ {a' w'}, (∃ v H' F', R (.val v) H' ∧ SRel F' (S.put o.dst v H') a' w' ∧ Trans F S.H w F' H' w') →
      wpOpsIn (W r) 0 P ops (post F S.H w Q) (List.range' (k + 1) (ops.size - (k + 1))) a' w' := by
    rintro a' w' ⟨v, H', F', hR, hs', ht⟩
    exact wpOps_mono (fun e a w => post_trans hs.heap.bd ht) _ _ _ (next v H' hR F' a' w' hs')
  have panics : ∀ {e a' w'}, (∃ v H' F' u, R (.panic v) H' ∧ e = .panic [{ v := u, recovered := false }] ∧ Rep F' w' v u ∧ SRel F' ⟨S.n, S.τ, H', S.D⟩ a' w' ∧ Trans F S.H w F' H' w') →
      post F S.H w Q e a' w' := by
    rintro e a' w' ⟨v, H', F', u, hR, rfl, hr, hs', ht⟩
    exact ⟨.panic v, _, F', pan v H' hR, ⟨u, rfl, hr⟩, hs', ht⟩
  cases rr with
  | ok n w' =>
    cases n <;> simp only [Oper.uponIn] at hw ⊢
    case value v => exact fin hw
    case skip => exact fin hw
    case defer d => exact fin hw
    case enter f args =>
      refine ⟨hw.1, hw.2.mono fun e w'' he => ?_⟩
      cases e with
      | returned v => exact fin he
      | panicked c => exact panics he
      | outgrown => obtain ⟨_, _, v, H', F', u, h1, h2, _⟩ := he; cases h2
    case row row args => exact ⟨hw.1, hw.2.mono fun v w'' h => fin h⟩
    case round l f tmps assign body =>
      refine ⟨hw.1, hw.2.mono fun e w'' he => ?_⟩
      cases e with
      | returned v => exact fin he
      | panicked c => exact panics he
      | outgrown => obtain ⟨_, _, v, H', F', u, h1, h2, _⟩ := he; cases h2
  | halt x w' =>
    cases x <;> simp only [Oper.uponIn] at hw ⊢
    case panic v => exact panics hw

variable {n : Nat} {τ : Nat → AV} {H H' : List HObj} {D : List ADef} {dst : Option Tmp} {op : Op} {ty : TypeId} {pos : String} {aft : Array Edge} {g : Option (Nat × Bool)} {v : AV}

theorem dst_ok (hd : dstB dst n = true) : ∀ t, dst = some t → t < n := by
  intro t ht
  rw [ht] at hd
  simpa [dstB, Nat.blt_eq] using hd

theorem al_step (ho : ops[k]? = some ⟨dst, op, ty, pos, aft, none⟩) (hd : dstB dst n = true) (h : AOp P ⟨dst, op, ty, pos, aft, none⟩ (ev τ) H v H')
    (next : AL P r ops (k + 1) ⟨n, put τ dst v, H', D⟩ Q) : AL P r ops k ⟨n, τ, H, D⟩ Q :=
  al_stepR (S := ⟨n, τ, H, D⟩) ho (by simp [Wants]) (dst_ok hd) h (fun v' H'' ⟨h1, h2⟩ => by subst h1; subst h2; exact next) (fun _ _ h => h.elim)

/-- A guarded operation whose guard is met. -/
theorem al_stepg {j d : Nat} {want : Bool} (ho : ops[k]? = some ⟨dst, op, ty, pos, aft, some (j, want)⟩) (hj : (ops[j]?).bind (·.dst) = some d) (hb : τ d = .p (.bool want))
    (hd : dstB dst n = true) (h : AOp P ⟨dst, op, ty, pos, aft, some (j, want)⟩ (ev τ) H v H')
    (next : AL P r ops (k + 1) ⟨n, put τ dst v, H', D⟩ Q) : AL P r ops k ⟨n, τ, H, D⟩ Q :=
  al_stepR (S := ⟨n, τ, H, D⟩) ho (by simp only [Wants]; exact ⟨d, hj, hb⟩) (dst_ok hd) h (fun v' H'' ⟨h1, h2⟩ => by subst h1; subst h2; exact next) (fun _ _ h => h.elim)

/-- A guarded operation that is passed over. -/
theorem unwanted {F : Nat → Prop} {S : AState} {a : Act} {w : World} {o : Oper} {j d : Nat} {want : Bool} (hs : SRel F S a w) (hg : o.guard = some (j, want)) (hj : (ops[j]?).bind (·.dst) = some d) (hu : Unw (S.τ d) want) : Region.wanted o (yielded ops a.tmps) = false := by
  have hv := hs.tmp d
  have h2 : ∀ v, a.tmps.getD d undef = v → v ≠ .bool want → ∀ x, a.tmps[d]? = some x → x ≠ .bool want := by
    intro v hv hne x hx
    have : a.tmps.getD d undef = x := by simp [hx]
    rw [this] at hv
    rw [hv]; exact hne
  have key : ∀ x, a.tmps[d]? = some x → x ≠ .bool want := by
    rcases hu with ⟨b, hb, hne⟩ | hb
    · simp only [hb, Rep, PRep] at hv
      exact h2 _ hv (fun e => by injection e with e; simp [e] at hne)
    · simp only [hb, Rep, RepL] at hv
      obtain ⟨vs, hv, rfl⟩ := hv
      exact h2 _ hv (fun e => by cases e)
  simp only [Region.wanted, hg, yielded, hj, Option.bind_some]
  cases hx : a.tmps[d]? with
  | none => simp
  | some x =>
    have := key x hx
    cases x <;> simp_all

theorem al_passU {j d : Nat} {want : Bool} (ho : ops[k]? = some ⟨dst, op, ty, pos, aft, some (j, want)⟩) (hj : (ops[j]?).bind (·.dst) = some d) (hu : Unw (τ d) want)
    (hd : dstB dst n = true) (next : AL P r ops (k + 1) ⟨n, put τ dst (.tup []), H, D⟩ Q) : AL P r ops k ⟨n, τ, H, D⟩ Q := by
  intro F a w hs
  have hk : k < ops.size := by
    rcases Nat.lt_or_ge k ops.size with h | h
    · exact h
    · simp [Array.getElem?_eq_none h] at ho
  have hw : Region.wanted ⟨dst, op, ty, pos, aft, some (j, want)⟩ (yielded ops a.tmps) = false := unwanted hs rfl hj hu
  rw [range_step hk, wpOpsIn_cons]
  unfold wpOpIn
  simp only [ho, hw, Bool.false_eq_true, if_false]
  exact ⟨fun _ _ => trivial, next F _ w (hs.put (dst_ok hd) ⟨Nat.le_refl _, fun _ _ _ => rfl, fun _ h _ => h⟩ hs.heap (by simp only [Rep, RepL, undef]; exact ⟨[], rfl, rfl⟩))⟩
theorem al_pass {j d : Nat} {want b : Bool} (ho : ops[k]? = some ⟨dst, op, ty, pos, aft, some (j, want)⟩) (hj : (ops[j]?).bind (·.dst) = some d) (hb : τ d = .p (.bool b)) (hne : (b == want) = false)
    (hd : dstB dst n = true) (next : AL P r ops (k + 1) ⟨n, put τ dst (.tup []), H, D⟩ Q) : AL P r ops k ⟨n, τ, H, D⟩ Q := al_passU ho hj (.inl ⟨b, hb, hne⟩) hd next
theorem al_pass0 {j d : Nat} {want : Bool} (ho : ops[k]? = some ⟨dst, op, ty, pos, aft, some (j, want)⟩) (hj : (ops[j]?).bind (·.dst) = some d) (hb : τ d = .tup [])
    (hd : dstB dst n = true) (next : AL P r ops (k + 1) ⟨n, put τ dst (.tup []), H, D⟩ Q) : AL P r ops k ⟨n, τ, H, D⟩ Q := al_passU ho hj (.inr hb) hd next

/-- A slot's bool is taken apart. -/
theorem al_case (d : Nat) {b : Bool} (hb : τ d = .p (.bool b)) (ht : b = true → AL P r ops k ⟨n, put τ (some d) (.p (.bool true)), H, D⟩ Q) (hf : b = false → AL P r ops k ⟨n, put τ (some d) (.p (.bool false)), H, D⟩ Q) : AL P r ops k ⟨n, τ, H, D⟩ Q := by
  have e : ∀ b', b = b' → put τ (some d) (.p (.bool b')) = τ := by
    intro b' hb'
    funext t
    simp only [put]
    by_cases ht : t = d
    · subst ht; rw [Nat.beq_refl, ← hb', hb]; rfl
    · have : Nat.beq t d = false := by
        cases hq : Nat.beq t d with
        | false => rfl
        | true => exact absurd (Nat.eq_of_beq_eq_true hq) ht
      rw [this]; rfl
  cases b with
  | true => have := ht rfl; rwa [e true rfl] at this
  | false => have := hf rfl; rwa [e false rfl] at this
end

/-  Calls -/
def entersB (P : Program) (f : FuncId) : Bool :=
  match P.funcs[f]? with
  | some fn => !(fn.name == "runtime.NumGoroutine") && fn.body.isSome
  | none => false

theorem run_callFunc {P : Program} {f : FuncId} (h : entersB P f = true) (args : Array Value) (w : World) : (callFunc f args).run P w = .ok (.enter f args) w := by
  unfold entersB at h
  cases hf : P.funcs[f]? with
  | none => simp [hf] at h
  | some fn =>
    simp only [hf, Bool.and_eq_true, Bool.not_eq_true'] at h
    obtain ⟨h1, h2⟩ := h
    have h3 : fn.body.isNone = false := by cases hb : fn.body <;> simp_all
    have hp : (program).run P w = .ok P w := rfl
    simp only [callFunc, Sem.run_bind, hp, Result.andThen_ok, hf, h1, h3, Bool.false_eq_true, if_false]
    rfl

theorem inW {P : Program} (r : Option Nat) {f : FuncId} {args : Array Value} {w : World} {R : Ending → World → Prop} (h : Calls P f args w R) : CallsIn (W r) 0 P f args w R :=
  (callsIn_wide (n := 0)).2 h

def EndRep (F : Nat → Prop) (w : World) : ARes → Ending → Prop
  | .val v, e => ∃ u, e = .returned u ∧ Rep F w v u
  | .panic v, e => ∃ u, e = .panicked [{ v := u, recovered := false }] ∧ Rep F w v u

/-- A CONTRACT: called with arguments that read as 'args' where the tracked objects are H, the function comes to R; all else in memory is as it was. -/
def ACalls (P : Program) (f : FuncId) (args : List AV) (H : List HObj) (R : ARes → List HObj → Prop) : Prop :=
  entersB P f = true ∧ ∀ F w vs, HRel F H w → RepL F w args vs →
    Calls P f ⟨vs⟩ w fun e w' => ∃ r H' F', R r H' ∧ EndRep F' w' r e ∧ HRel F' H' w' ∧ Trans F H w F' H' w'

theorem ACalls.mono {P : Program} {f : FuncId} {args : List AV} {H : List HObj} {R R' : ARes → List HObj → Prop} (h : ACalls P f args H R) (hr : ∀ r H, R r H → R' r H) : ACalls P f args H R' :=
  ⟨h.1, fun F w vs hH ha => (h.2 F w vs hH ha).mono fun e w' ⟨r, H', F', h1, h2⟩ => ⟨r, H', F', hr _ _ h1, h2⟩⟩

def dn : AV → AV
  | .p .nils => .p (.lst [])
  | x => x
/-- Empty slices without an array read as empty lists. -/
def norm : AV → AV
  | .p .nils => .p (.lst [])
  | .agg cs => .agg (cs.map dn)
  | x => x

section
variable {F F' : Nat → Prop} {w w' : World}
theorem rep_nils {x : AV} {v : Value} (h : Rep F w x v) : Rep F w (dn x) v := by
  unfold dn
  split
  · simp only [Rep, PRep] at h ⊢
    exact .inl ⟨trivial, none, 0, h⟩
  · exact h

theorem repL_nils : ∀ {xs : List AV} {vs : List Value}, RepL F w xs vs → RepL F w (xs.map dn) vs
  | [], vs, h => by simpa [RepL] using h
  | x :: xs, vs, h => by
    simp only [RepL, List.map_cons] at *
    obtain ⟨u, us, rfl, h1, h2⟩ := h
    exact ⟨u, us, rfl, rep_nils h1, repL_nils h2⟩

theorem Rep.norm {x : AV} {v : Value} (h : Rep F w x v) : Rep F w (norm x) v := by
  cases x with
  | agg cs =>
    simp only [Abs.norm, Rep] at *
    obtain ⟨vs, hv, hr⟩ := h
    exact ⟨vs, hv, repL_nils hr⟩
  | p y => cases y <;> first | exact h | exact rep_nils h
  | _ => exact h

theorem RepL.norm : ∀ {xs : List AV} {vs : List Value}, RepL F w xs vs → RepL F w (xs.map Abs.norm) vs
  | [], vs, h => by simpa [RepL] using h
  | x :: xs, vs, h => by
    simp only [RepL, List.map_cons] at *
    obtain ⟨u, us, rfl, h1, h2⟩ := h
    exact ⟨u, us, rfl, h1.norm, RepL.norm h2⟩

theorem HRel.perm {H H' : List HObj} (h : HRel F H w) (hp : H.Perm H') : HRel F H' w where
  sub o ho := h.sub o (hp.mem_iff.2 ho)
  nodup := (hp.filterMap HObj.key).nodup_iff.1 h.nodup
  obj o ho := h.obj o (hp.mem_iff.2 ho)
  bd := h.bd

/-- What a part of the tracked objects has come to, beside the others, which stay. -/
theorem HRel.frame {Hs Hf Hs' : List HObj} (h : HRel F (Hs ++ Hf) w) (h' : HRel F' Hs' w') (t : Trans F Hs w F' Hs' w') : HRel F' (Hs' ++ Hf) w' where
  sub o ho b hb := by
    rcases List.mem_append.1 ho with ho | ho
    · exact h'.sub o ho b hb
    · refine t.keep b (h.sub o (by simp [ho]) b hb) ?_
      intro o' ho' hb'
      have := h.nodup
      rw [List.filterMap_append, List.nodup_append] at this
      exact this.2.2 b (List.mem_filterMap.2 ⟨o', ho', hb'⟩) b (List.mem_filterMap.2 ⟨o, ho, hb⟩) rfl
  nodup := by
    rw [List.filterMap_append, List.nodup_append]
    have hn := h.nodup
    rw [List.filterMap_append, List.nodup_append] at hn
    refine ⟨h'.nodup, hn.2.1, ?_⟩
    rintro b hb _ hb' rfl
    obtain ⟨o, ho, hk⟩ := List.mem_filterMap.1 hb
    obtain ⟨o', ho', hk'⟩ := List.mem_filterMap.1 hb'
    rcases t.keys o ho b hk with ⟨o'', ho'', hk''⟩ | hge
    · exact hn.2.2 b (List.mem_filterMap.2 ⟨o'', ho'', hk''⟩) b hb' rfl
    · have := h.bd b (h.sub o' (by simp [ho']) b hk')
      omega
  obj o ho := by
    rcases List.mem_append.1 ho with ho | ho
    · exact h'.obj o ho
    · have hs : ∀ o ∈ Hs, ∀ b, o.key = some b → F b := fun o ho => h.sub o (by simp [ho])
      refine ORep.mono (t.stable hs) o ?_ (h.obj o (by simp [ho]))
      intro b hb
      refine t.same b (h.bd b (h.sub o (by simp [ho]) b hb)) ?_
      intro o' ho' hb'
      have := h.nodup
      rw [List.filterMap_append, List.nodup_append] at this
      exact this.2.2 b (List.mem_filterMap.2 ⟨o', ho', hb'⟩) b (List.mem_filterMap.2 ⟨o, ho, hb⟩) rfl
  bd := h'.bd

theorem Trans.frame {H Hs Hf Hs' : List HObj} (hp : H.Perm (Hs ++ Hf)) (t : Trans F Hs w F' Hs' w') : Trans F H w F' (Hs' ++ Hf) w' where
  size := t.size
  same b hb hn := t.same b hb fun o ho => hn o (hp.mem_iff.2 (by simp [ho]))
  keep b hF hn := t.keep b hF fun o ho => hn o (hp.mem_iff.2 (by simp [ho]))
  fresh := t.fresh
  keys o ho b hb := by
    rcases List.mem_append.1 ho with ho | ho
    · rcases t.keys o ho b hb with ⟨o', ho', hk⟩ | h
      · exact .inl ⟨o', hp.mem_iff.2 (by simp [ho']), hk⟩
      · exact .inr h
    · exact .inl ⟨o, hp.mem_iff.2 (by simp [ho]), hb⟩
  os := t.os
  out := t.out
  tape := t.tape
end

/-- A call of a function or a closure, by its contract. -/
theorem aop_call {P : Program} {dst : Option Tmp} {c : Call} {ty : TypeId} {pos : String} {aft : Array Edge} {g : Option (Nat × Bool)} {f : Operand} {fid : FuncId} {first caps : List AV}
    {ρ : Operand → AV} {H Hs Hf : List HObj} {A : List AV} {R : ARes → List HObj → Prop}
    (hc : c.callee = .value f) (hf : (ρ f = .p (.fn fid) ∧ first = [] ∧ caps = []) ∨ ρ f = .fn (.func fid) first caps)
    (hp : H.Perm (Hs ++ Hf)) (h : ACalls P fid A Hs R) (hA : first ++ c.args.toList.map ρ ++ caps = A ∨ (first ++ c.args.toList.map ρ ++ caps).map norm = A) :
    AOpR P ⟨dst, .call c, ty, pos, aft, g⟩ ρ H (fun r H' => ∃ Hs', R r Hs' ∧ H' = Hs' ++ Hf) := by
  intro r F S a w hs hH hρ hd
  subst hH
  refine wpIn_of rfl ?_
  have hev : ∀ x ∈ (f :: c.args.toList), Rep F w (ρ x) (a.eval x) := by
    intro x hx
    rw [← hρ x (by simp [Op.operands, Call.operands, hc]; simpa using hx)]
    exact hs.eval x
  have hfv : ∃ fs cs, a.eval f = .func (.func fid) ⟨fs⟩ ⟨cs⟩ ∧ RepL F w first fs ∧ RepL F w caps cs := by
    have := hev f (by simp)
    rcases hf with ⟨h1, rfl, rfl⟩ | h1
    · rw [h1] at this
      simp only [Rep, PRep] at this
      exact ⟨[], [], this, by simp [RepL], by simp [RepL]⟩
    · rw [h1] at this
      simpa only [Rep] using this
  obtain ⟨fs, cs, hfv, hfs, hcs⟩ := hfv
  have hargs : RepL F w (c.args.toList.map ρ) (c.args.toList.map a.eval) := RepL.mapEval _ fun x hx => hev x (by simp [hx])
  have hrun : (execOp a.eval ⟨dst, .call c, ty, pos, aft, g⟩).run P w = .ok (.enter fid ⟨fs ++ c.args.toList.map a.eval ++ cs⟩) w := by
    have e : (⟨fs⟩ ++ c.args.map a.eval ++ ⟨cs⟩ : Array Value) = ⟨fs ++ c.args.toList.map a.eval ++ cs⟩ := by
      apply Array.ext'
      simp
    simp [execOp, resolve, hc, Deferred.ofValue, hfv, invoke, run_callFunc h.1, e]
  simp only [hrun, Oper.uponIn]
  have hH' := hs.heap.perm hp
  have hHs : HRel F Hs w := hH'.sublist (List.sublist_append_left _ _)
  have hrep : RepL F w A (fs ++ c.args.toList.map a.eval ++ cs) := by
    rcases hA with rfl | rfl
    · exact (hfs.append hargs).append hcs
    · exact ((hfs.append hargs).append hcs).norm
  refine ⟨fun h => (by cases h), CallsIn.mono (inW r (h.2 F w _ hHs hrep)) ?_⟩
  rintro e w' ⟨r, H', F', hR, he, hH2, ht⟩
  have htf := ht.frame (H := S.H) hp
  cases r with
  | val v =>
    obtain ⟨u, rfl, hu⟩ := he
    exact ⟨v, H' ++ Hf, F', ⟨H', hR, rfl⟩, hs.put hd (htf.stable hs.heap.sub) (hH'.frame hH2 ht) hu, htf⟩
  | panic v =>
    obtain ⟨u, rfl, hu⟩ := he
    have := hs.put (d := none) (fun _ h => by cases h) (htf.stable hs.heap.sub) (hH'.frame hH2 ht) (rep_any undef)
    exact ⟨v, H' ++ Hf, F', u, ⟨H', hR, rfl⟩, rfl, hu, this, htf⟩

/-  A function's body -/
def initτ (args : List AV) : Nat → AV := fun t => args.getD t (.p .any)

/-- The value of one result. -/
def ResV (P : Program) (S : AState) : ResultVar → AV → Prop
  | .tmp t, v => S.τ t = v
  | .cell a T, v => ∃ (b : Nat) (cs : List AV) (i : Nat), S.τ a = .ptr b 0 ∧ S.H[i]? = some (HObj.box b cs) ∧
      ((∃ d, P.underlying T = some d ∧ d.isRow = true ∧ (P.info? T).map (·.size) = some cs.length ∧ v = .agg cs) ∨
       (∃ d, P.underlying T = some d ∧ d.isRow = false ∧ cs = [v]))

def ResL (P : Program) (S : AState) : List ResultVar → List AV → Prop
  | [], vs => vs = []
  | r :: rs, vs => ∃ u us, vs = u :: us ∧ ResV P S r u ∧ ResL P S rs us

abbrev pack : List AV → AV
  | [v] => v
  | vs => .tup vs

def bodyQ (P : Program) (fn : Func) (R : ARes → List HObj → Prop) : AExit → AState → Prop
  | .normal, S | .ret, S => S.D = [] ∧ ∃ vs H', ResL P S fn.results.toList vs ∧ H'.Sublist S.H ∧ R (.val (pack vs)) H'
  | .panic v, S => S.D = [] ∧ ∃ H', H'.Sublist S.H ∧ R (.panic v) H'
  | .exit _, _ => False

end Go.Abs
/- The abstract program logic: from a body to a contract; the rules of the operations that read and make memory. -/
namespace Go.Abs
set_option linter.unusedVariables false
set_option linter.unusedSimpArgs false

section
variable {F F' : Nat → Prop} {w w' : World} {P : Program}

theorem rangeAt_box {b : Nat} {vs : List Value} {T : TypeId} (h : w.heap[b]? = some (.cells ⟨vs⟩ T (0, 0))) (o n : Nat) : w.rangeAt b o ((vs.drop o).take n) := by
  intro j v hv
  have hj : j < n := by
    rcases Nat.lt_or_ge j n with h | h
    · exact h
    · rw [List.getElem?_take] at hv; simp [Nat.not_lt.2 h] at hv
  rw [List.getElem?_take_of_lt hj, List.getElem?_drop] at hv
  simp [World.cell?, h, hv]

theorem isRow_agg {T : TypeId} {d : TypeDesc} (hu : P.underlying T = some d) (b : Bool) (hd : d.isRow = b) (w : World) : (isAgg T).run P w = .ok b w := by
  unfold isAgg
  rw [Sem.run_bind, run_underlying hu w]
  cases d <;> simp_all [TypeDesc.isRow]

theorem run_loadVar_one {T : TypeId} {d : TypeDesc} (hu : P.underlying T = some d) (hd : d.isRow = false) {b o : Nat} {v : Value} (hc : w.cell? ⟨b, o, none⟩ = some v) :
    (loadVar T ⟨b, o, none⟩).run P w = .ok v w := by
  simp [loadVar, Sem.run_bind, isRow_agg hu false hd, load, Sem.run, hc]

theorem run_loadVar_agg {T : TypeId} {d : TypeDesc} (hu : P.underlying T = some d) (hd : d.isRow = true) {b o : Nat} {cs : List Value} (hc : w.rangeAt b o cs) (hi : (P.info? T).map (·.size) = some cs.length) :
    (loadVar T ⟨b, o, none⟩).run P w = .ok (.agg ⟨cs⟩) w := run_loadVar_mid w b o T cs d hc hu hd hi

def resSem (tmps : Array Value) (r : ResultVar) : Sem Value :=
  match r with
  | .tmp t => pure (tmps.getD t undef)
  | .cell x t => do loadVar t (← asAddr (tmps.getD x undef))

theorem results_eq (fn : Func) (tmps : Array Value) : results fn tmps = (do
    let vs ← fn.results.mapM (resSem tmps)
    pure (if h : vs.size = 1 then vs[0] else .tuple vs)) := by
  unfold results
  congr 1

theorem ResL.run {S : AState} {a : Act} (hs : SRel F S a w) : ∀ (rs : List ResultVar) (vs : List AV), ResL P S rs vs →
    ∃ us : List Value, (rs.mapM (resSem a.tmps)).run P w = .ok us w ∧ RepL F w vs us
  | [], vs, h => by
    simp only [ResL] at h
    subst h
    exact ⟨[], rfl, by simp [RepL]⟩
  | r :: rs, vs, h => by
    simp only [ResL] at h
    obtain ⟨u, us, rfl, h1, h2⟩ := h
    obtain ⟨ws, hr, hw⟩ := ResL.run hs rs us h2
    have one : ∃ v : Value, (resSem a.tmps r).run P w = .ok v w ∧ Rep F w u v := by
      cases r with
      | tmp t =>
        simp only [ResV] at h1
        subst h1
        exact ⟨_, rfl, hs.tmp t⟩
      | cell x t =>
        obtain ⟨b, cs, i, hp, hi, hh⟩ := h1
        have hx := hs.tmp x
        rw [hp] at hx
        simp only [Rep] at hx
        obtain ⟨vs, T, hb, hl⟩ := hs.heap.obj _ (List.mem_of_getElem? hi)
        rcases hh with ⟨d, hu, hd, hsz, rfl⟩ | ⟨d, hu, hd, rfl⟩
        · refine ⟨.agg ⟨vs⟩, ?_, by simp only [Rep]; exact ⟨vs, rfl, hl⟩⟩
          have hr := rangeAt_box hb 0 vs.length
          simp only [List.drop_zero, List.take_length] at hr
          simp only [resSem, hx, asAddr, Sem.run_bind, Sem.run_pure, Result.andThen_ok]
          exact run_loadVar_agg hu hd hr (by rw [hsz, hl.length])
        · simp only [RepL] at hl
          obtain ⟨v, us', rfl, hv, rfl⟩ := hl
          refine ⟨v, ?_, hv⟩
          simp only [resSem, hx, asAddr, Sem.run_bind, Sem.run_pure, Result.andThen_ok]
          exact run_loadVar_one hu hd (by simp [World.cell?, hb])
    obtain ⟨v, hv, hrv⟩ := one
    refine ⟨v :: ws, ?_, by simp only [RepL]; exact ⟨v, ws, rfl, hrv, hw⟩⟩
    rw [List.mapM_cons]
    simp only [Sem.run_bind, hv, Result.andThen_ok, hr, Sem.run_pure]

theorem results_run {fn : Func} {S : AState} {a : Act} (hs : SRel F S a w) {vs : List AV} (h : ResL P S fn.results.toList vs) :
    ∃ u, (results fn a.tmps).run P w = .ok u w ∧ Rep F w (pack vs) u := by
  obtain ⟨us, hr, hl⟩ := ResL.run hs _ _ h
  refine ⟨if us.length = 1 then us.getD 0 undef else .tuple ⟨us⟩, ?_, ?_⟩
  · rw [results_eq, Array.mapM_eq_mapM_toList]
    simp only [Sem.run_bind, map_eq_pure_bind, bind_assoc, pure_bind]
    rw [hr]
    simp only [Result.andThen_ok, Sem.run_pure]
    congr 1
    by_cases h1 : us.length = 1
    · match us, h1 with
      | [u], _ => simp
    · simp [h1]
  · match vs, us, hl with
    | [], [], _ => simp [Rep, RepL, pack]
    | [v], us, hl =>
      simp only [RepL] at hl
      obtain ⟨u, us, rfl, h1, rfl⟩ := hl
      simpa [pack] using h1
    | v :: v' :: vs, us, hl =>
      have hlen := hl.length
      simp only [List.length_cons] at hlen
      rw [if_neg (by omega)]
      simp only [Rep, pack]
      exact ⟨us, rfl, hl⟩

theorem initτ_rep : ∀ {args : List AV} {vs : List Value} (n t : Nat), RepL F w args vs → Rep F w (initτ args t) ((⟨vs⟩ ++ Array.replicate n undef : Array Value).getD t undef) := by
  intro args vs n t h
  unfold initτ
  rcases Nat.lt_or_ge t args.length with hl | hl
  · have hx : args[t]? = some args[t] := List.getElem?_eq_getElem hl
    obtain ⟨v, hv, hr⟩ := h.get hx
    have hvl : t < vs.length := by rw [h.length]; exact hl
    have : (⟨vs⟩ ++ Array.replicate n undef : Array Value)[t]? = some v := by
      rw [Array.getElem?_append_left (by simpa using hvl)]
      simpa using hv
    simp [List.getD, hx, Array.getD_eq_getD_getElem?, this, hr]
  · simp only [List.getD, List.getElem?_eq_none hl, Option.getD_none]
    exact rep_any _

theorem acalls_of_awp {f : FuncId} {fn : Func} {c : Code} {args : List AV} {H : List HObj} {R : ARes → List HObj → Prop}
    {n : Nat} (hf : P.funcs[f]? = some fn) (hb : fn.body = some c) (he : entersB P f = true) (hn' : fn.ntmps = n) (hn : Nat.ble args.length n = true)
    (h : AWp P none c ⟨n, initτ args, H, []⟩ (bodyQ P fn R)) : ACalls P f args H R := by
  subst hn'
  rw [Nat.ble_eq] at hn
  refine ⟨he, fun F w vs hH hr => ?_⟩
  refine calls_of_wp hf hb ?_
  have hsz : (⟨vs⟩ : Array Value).size = args.length := by simpa using hr.length
  have hs : SRel F ⟨fn.ntmps, initτ args, H, []⟩ { tmps := ⟨vs⟩ ++ Array.replicate (fn.ntmps - (⟨vs⟩ : Array Value).size) undef, defers := [] } w :=
    ⟨by simp only [Array.size_append, Array.size_replicate, hsz]; omega, fun t => initτ_rep _ _ hr, hH, by simp [DRep]⟩
  refine wp_mono (wpIn_wide.1 (h F _ w hs)) ?_
  rintro e a' w' ⟨e', S', F', hq, hex, hs', ht⟩
  cases e' with
  | normal =>
    obtain rfl : e = .normal := hex
    obtain ⟨hD, vs', H', hres, hsub, hR⟩ := hq
    obtain ⟨u, hu, hru⟩ := results_run hs' hres
    have hd := hs'.defs
    rw [hD] at hd
    exact ⟨by simpa [DRep] using hd, u, hu, _, H', F', hR, ⟨u, rfl, hru⟩, hs'.heap.sublist hsub, ht.sublist hsub⟩
  | ret =>
    obtain rfl : e = .ret := hex
    obtain ⟨hD, vs', H', hres, hsub, hR⟩ := hq
    obtain ⟨u, hu, hru⟩ := results_run hs' hres
    have hd := hs'.defs
    rw [hD] at hd
    exact ⟨by simpa [DRep] using hd, u, hu, _, H', F', hR, ⟨u, rfl, hru⟩, hs'.heap.sublist hsub, ht.sublist hsub⟩
  | exit id => exact hq.elim
  | panic v =>
    obtain ⟨u, rfl, hru⟩ := hex
    obtain ⟨hD, H', hsub, hR⟩ := hq
    have hd := hs'.defs
    rw [hD] at hd
    exact ⟨by simpa [DRep] using hd, _, H', F', hR, ⟨u, rfl, hru⟩, hs'.heap.sublist hsub, ht.sublist hsub⟩
end

/-  What the tables say of a type -/
/-- Is it a struct or an array? how many cells has it? -/
def tyOf (P : Program) (T : TypeId) : Option (Bool × Nat) :=
  match P.underlying T, P.info? T with
  | some d, some i => some (d.isRow, i.size)
  | _, _ => none
/-- A slice type's elements: their type, cells, bytes. -/
def elOf (P : Program) (T : TypeId) : Option (TypeId × Nat × Nat) :=
  match P.underlying T with
  | some (.slice e) => (P.info? e).map fun i => (e, i.size, i.bytes)
  | _ => none
/-- A struct's fields: where each lies, how many cells it has. -/
def fieldsOf (P : Program) (T : TypeId) : Option (List (Nat × Nat)) :=
  match P.underlying T with
  | some (.struct fs) => fs.toList.mapM fun f => (P.info? f.type).map fun i => (f.offset, i.size)
  | _ => none
def zeroOf (P : Program) (T : TypeId) : Option Value := (P.info? T).bind (·.zero)

section
variable {P : Program} {T e : TypeId} {b : Bool} {n m : Nat}
theorem tyOf_spec (h : tyOf P T = some (b, n)) : ∃ d, P.underlying T = some d ∧ d.isRow = b ∧ (P.info? T).map (·.size) = some n := by
  unfold tyOf at h
  cases hu : P.underlying T with
  | none => simp [hu] at h
  | some d =>
    cases hi : P.info? T with
    | none => simp [hu, hi] at h
    | some i => simp [hu, hi] at h; exact ⟨d, rfl, h.1, by simp [h.2]⟩
theorem elOf_spec (h : elOf P T = some (e, n, m)) : P.underlying T = some (.slice e) ∧ ∃ i, P.info? e = some i ∧ i.size = n ∧ i.bytes = m := by
  unfold elOf at h
  cases hu : P.underlying T with
  | none => simp [hu] at h
  | some d =>
    cases d with
    | slice e' =>
      simp [hu] at h
      obtain ⟨i, hi, h1, h2, h3⟩ := h
      subst h1
      exact ⟨rfl, i, hi, h2, h3⟩
    | _ => simp [hu] at h
theorem mapM_at {α β : Type} {f : α → Option β} : ∀ {l : List α} {r : List β} {i : Nat} {y : β}, l.mapM f = some r → r[i]? = some y → ∃ x, l[i]? = some x ∧ f x = some y
  | [], r, i, y, h, hy => by simp at h; subst h; simp at hy
  | x :: l, r, i, y, h, hy => by
    rw [List.mapM_cons] at h
    cases hx : f x with
    | none => simp [hx] at h
    | some z =>
      cases hl : l.mapM f with
      | none => simp [hx, hl] at h
      | some r' =>
        simp [hx, hl] at h
        subst h
        cases i with
        | zero => simp at hy; subst hy; exact ⟨x, by simp, hx⟩
        | succ i => simp at hy; simpa using mapM_at hl hy
theorem fieldsOf_spec {lay : List (Nat × Nat)} {i : Nat} (h : fieldsOf P T = some lay) (hi : lay[i]? = some (n, m)) : ∃ fs f j, P.underlying T = some (.struct fs) ∧ fs[i]? = some f ∧ f.offset = n ∧ P.info? f.type = some j ∧ j.size = m := by
  unfold fieldsOf at h
  cases hu : P.underlying T with
  | none => simp [hu] at h
  | some d =>
    cases d with
    | struct fs =>
      simp only [hu] at h
      obtain ⟨f, hf, hx⟩ := mapM_at h hi
      cases hj : P.info? f.type with
      | none => simp [hj] at hx
      | some j =>
        simp [hj] at hx
        exact ⟨fs, f, j, rfl, by simpa using hf, hx.1, hj, hx.2⟩
    | _ => simp [hu] at h
end

/-  Operations that leave the world -/
section
variable {P : Program} {dst : Option Tmp} {ty : TypeId} {pos : String} {aft : Array Edge} {g : Option (Nat × Bool)} {ρ : Operand → AV} {H : List HObj} {x y z : Operand} {v : AV}

theorem aop_move (hx : ρ x = v) : AOp P ⟨dst, .move x, ty, pos, aft, g⟩ ρ H v H :=
  aop_pure fun F w E hH hE => ⟨E x, rfl, by rw [← hx]; exact hE x (by simp [Op.operands])⟩
theorem aop_assign (hx : ρ x = v) : AOp P ⟨dst, .assign x, ty, pos, aft, g⟩ ρ H v H :=
  aop_pure fun F w E hH hE => ⟨E x, rfl, by rw [← hx]; exact hE x (by simp [Op.operands])⟩

theorem aop_pick {b : Bool} (hx : ρ x = .p (.bool b)) (hv : (bif b then ρ y else ρ z) = v) : AOp P ⟨dst, .pick x y z, ty, pos, aft, g⟩ ρ H v H :=
  aop_pure fun F w E hH hE => by
    have h1 := hE x (by simp [Op.operands])
    rw [hx] at h1
    simp only [Rep, PRep] at h1
    refine ⟨if b then E y else E z, by simp [execOp, h1, asBool], ?_⟩
    subst hv
    cases b
    · exact hE z (by simp [Op.operands])
    · exact hE y (by simp [Op.operands])

theorem eqGuard_int (op : BinOp) (t : TypeId) (k k' : IntKind) (m n : Int) (w : World) : (eqGuard op t x y (.int k m) (.int k' n)).run P w = .ok () w := by
  unfold eqGuard
  split <;> rfl

theorem aop_cmp {k : IntKind} {m n : Int} {T U : TypeId} {op : BinOp} {b : Bool} (hx : ρ x = .p (.int k m)) (hy : ρ y = .p (.int k n))
    (hb : (match op with | .eql => some (m == n) | .neq => some (m != n) | .lss => some (decide (m < n)) | .leq => some (decide (m ≤ n)) | .gtr => some (decide (m > n)) | .geq => some (decide (m ≥ n)) | _ => none) = some b) :
    AOp P ⟨dst, .binOp op T x y U, ty, pos, aft, g⟩ ρ H (.p (.bool b)) H :=
  aop_pure fun F w E hH hE => by
    have h1 := hE x (by simp [Op.operands])
    have h2 := hE y (by simp [Op.operands])
    rw [hx] at h1
    rw [hy] at h2
    simp only [Rep, PRep] at h1 h2
    refine ⟨.bool b, ?_, by simp [Rep, PRep]⟩
    cases op <;> simp at hb <;> subst hb <;> simp [execOp, Sem.run_bind, eqGuard_int, h1, h2, binOp, Op.intCmp]

theorem wrap_in {k : IntKind} {n : Int} (h1 : k.min ≤ n) (h2 : n ≤ k.max) : k.wrap n = n := by
  unfold IntKind.wrap
  cases k <;> simp [IntKind.min, IntKind.max, IntKind.signed, IntKind.bits] at * <;> omega

theorem aop_arith {k : IntKind} {m n r : Int} {T U : TypeId} {op : BinOp} (hx : ρ x = .p (.int k m)) (hy : ρ y = .p (.int k n))
    (hb : (match op with | .add => some (m + n) | .sub => some (m - n) | .mul => some (m * n) | _ => none) = some r) (h1 : k.min ≤ r) (h2 : r ≤ k.max) :
    AOp P ⟨dst, .binOp op T x y U, ty, pos, aft, g⟩ ρ H (.p (.int k r)) H :=
  aop_pure fun F w E hH hE => by
    have e1 := hE x (by simp [Op.operands])
    have e2 := hE y (by simp [Op.operands])
    rw [hx] at e1
    rw [hy] at e2
    simp only [Rep, PRep] at e1 e2
    refine ⟨.int k r, ?_, by simp [Rep, PRep]⟩
    cases op <;> simp at hb <;> subst hb <;> simp [execOp, Sem.run_bind, eqGuard_int, e1, e2, binOp, Op.intArith, wrap_in h1 h2]

theorem aop_not {b : Bool} {T : TypeId} (hx : ρ x = .p (.bool b)) : AOp P ⟨dst, .unOp .not T x, ty, pos, aft, g⟩ ρ H (.p (.bool (!b))) H :=
  aop_pure fun F w E hH hE => by
    have h1 := hE x (by simp [Op.operands])
    rw [hx] at h1
    simp only [Rep, PRep] at h1
    exact ⟨.bool (!b), by simp [execOp, h1, Op.unary], by simp [Rep, PRep]⟩

theorem aop_extract {xs : List AV} {i : Nat} (hx : ρ x = .tup xs) (hi : xs[i]? = some v) : AOp P ⟨dst, .extract x i, ty, pos, aft, g⟩ ρ H v H :=
  aop_pure fun F w E hH hE => by
    have h1 := hE x (by simp [Op.operands])
    rw [hx] at h1
    simp only [Rep] at h1
    obtain ⟨vs, hv, hl⟩ := h1
    obtain ⟨u, hu, hr⟩ := hl.get hi
    exact ⟨u, by simp [execOp, hv, Instr.extract, hu], hr⟩

theorem aop_len_of {a : Operand} {T e : TypeId} {n n1 n2 : Nat} (hT : elOf P T = some (e, n1, n2)) (hx : (∃ rows, ρ a = .p (.lst rows) ∧ rows.length = n) ∨ (∃ o c, ρ a = .vs o n c) ∨ (ρ a = .p .nils ∧ n = 0)) :
    AOp P ⟨dst, .call { callee := .builtin .len, args := #[a], argTypes := #[T] }, ty, pos, aft, g⟩ ρ H (.p (.int .i64 n)) H :=
  aop_pure fun F w E hH hE => by
    have h1 := hE a (by simp [Op.operands, Call.operands])
    obtain ⟨hu, _⟩ := elOf_spec hT
    have hv : ∃ o c, E a = .slice o n c := by
      rcases hx with ⟨rows, hr, rfl⟩ | ⟨o, c, hr⟩ | ⟨hr, rfl⟩
      · rw [hr] at h1
        simp only [Rep, PRep] at h1
        rcases h1 with ⟨rfl, o, c, hv⟩ | ⟨b, o, c, sz, hv, _⟩
        · exact ⟨o, c, hv⟩
        · exact ⟨_, c, hv⟩
      · rw [hr] at h1
        cases o with
        | some b => simp only [Rep] at h1; exact ⟨_, c, h1⟩
        | none => simp only [Rep] at h1; obtain ⟨rfl, rfl, a, h1⟩ := h1; exact ⟨a, 0, h1⟩
      · rw [hr] at h1
        simp only [Rep, PRep] at h1
        exact ⟨none, 0, h1⟩
    obtain ⟨o, c, hv⟩ := hv
    refine ⟨.int .i64 n, ?_, by simp [Rep, PRep]⟩
    simp [execOp, resolve, invoke, builtin, Builtin.len_, hv, Sem.run_bind, run_underlying hu, goInt]

theorem aop_len {a : Operand} {T e : TypeId} {n1 n2 : Nat} {rows : List (List PV)} (hT : elOf P T = some (e, n1, n2)) (hx : ρ a = .p (.lst rows)) :
    AOp P ⟨dst, .call { callee := .builtin .len, args := #[a], argTypes := #[T] }, ty, pos, aft, g⟩ ρ H (.p (.int .i64 rows.length)) H := aop_len_of hT (.inl ⟨rows, hx, rfl⟩)
/-- A field's address, in a tracked object. -/
theorem aop_field_ptr {T : TypeId} {lay : List (Nat × Nat)} {i b o off sz : Nat} (hT : fieldsOf P T = some lay) (hi : lay[i]? = some (off, sz + 1)) (hx : ρ x = .ptr b o) :
    AOp P ⟨dst, .fieldAddr T x i, ty, pos, aft, g⟩ ρ H (.ptr b (o + off)) H :=
  aop_pure fun F w E hH hE => by
    obtain ⟨fs, f, j, hu, hf, rfl, hj, hs'⟩ := fieldsOf_spec hT hi
    have h1 := hE x (by simp [Op.operands])
    rw [hx] at h1
    simp only [Rep] at h1
    · have hs : ¬ j.size = 0 := by omega
      refine ⟨.pointer (some ⟨b, o + f.offset, none⟩), ?_, by simp [Rep]⟩
      simp [execOp, Instr.fieldAt, Sem.run_bind, run_underlying hu, hf, h1, Instr.sureAddr, fieldPlace, sizeOf, typeInfo, hj, hs, Addr.add_mid]

theorem CellsRep.drop {F : Nat → Prop} {w : World} {b : Nat} : ∀ {cs : List PV} {o : Nat} (n : Nat), CellsRep F w b o cs → CellsRep F w b (o + n) (cs.drop n)
  | cs, o, 0, h => by simpa using h
  | [], o, n + 1, h => by simp [CellsRep]
  | c :: cs, o, n + 1, h => by
    simp only [CellsRep] at h
    have := CellsRep.drop n h.2
    simp only [List.drop_succ_cons]
    rwa [Nat.add_assoc, Nat.add_comm 1 n] at this

/-- A field's address, in pure memory. -/
theorem aop_field_ref {T : TypeId} {lay : List (Nat × Nat)} {i off sz : Nat} {cells : List PV} (hT : fieldsOf P T = some lay) (hi : lay[i]? = some (off, sz + 1)) (hx : ρ x = .ref cells) :
    AOp P ⟨dst, .fieldAddr T x i, ty, pos, aft, g⟩ ρ H (.ref (cells.drop off)) H :=
  aop_pure fun F w E hH hE => by
    obtain ⟨fs, f, j, hu, hf, rfl, hj, hs'⟩ := fieldsOf_spec hT hi
    have h1 := hE x (by simp [Op.operands])
    rw [hx] at h1
    simp only [Rep] at h1
    obtain ⟨b, o, hv, hF, hb, hc⟩ := h1
    · have hs : ¬ j.size = 0 := by omega
      refine ⟨.pointer (some ⟨b, o + f.offset, none⟩), ?_, by simp only [Rep]; exact ⟨b, o + f.offset, rfl, hF, hb, hc.drop _⟩⟩
      simp [execOp, Instr.fieldAt, Sem.run_bind, run_underlying hu, hf, hv, Instr.sureAddr, fieldPlace, sizeOf, typeInfo, hj, hs, Addr.add_mid]

theorem RowsRep.at {F : Nat → Prop} {w : World} {b sz : Nat} : ∀ {rows : List (List PV)} {o i : Nat} {r : List PV}, RowsRep F w b sz o rows → rows[i]? = some r → CellsRep F w b (o + i * sz) r ∧ r.length = sz
  | [], o, i, r, _, hr => by simp at hr
  | r' :: rows, o, i, r, h, hr => by
    simp only [RowsRep] at h
    cases i with
    | zero => simp at hr; subst hr; simpa using ⟨h.2.1, h.1⟩
    | succ i =>
      simp at hr
      have := RowsRep.at h.2.2 hr
      rw [Nat.succ_mul]
      refine ⟨?_, this.2⟩
      have e : o + sz + i * sz = o + (i * sz + sz) := by omega
      rw [← e]; exact this.1

/-- An element's address, in a pure slice. -/
theorem aop_index_lst {T e : TypeId} {n1 n2 : Nat} {rows : List (List PV)} {k : IntKind} {i : Int} {r : List PV} (hT : elOf P T = some (e, n1, n2)) (hx : ρ x = .p (.lst rows)) (hy : ρ y = .p (.int k i))
    (h0 : 0 ≤ i) (hr : rows[i.toNat]? = some r) (hz : r.length = n1) :
    AOp P ⟨dst, .indexAddr T x y, ty, pos, aft, g⟩ ρ H (.ref r) H :=
  aop_pure fun F w E hH hE => by
    obtain ⟨hu, j, hj, hs1, _⟩ := elOf_spec hT
    have h1 := hE x (by simp [Op.operands])
    have h2 := hE y (by simp [Op.operands])
    rw [hx] at h1
    rw [hy] at h2
    simp only [Rep, PRep] at h1 h2
    have hlt : i.toNat < rows.length := (List.getElem?_eq_some_iff.1 hr).1
    rcases h1 with ⟨rfl, _⟩ | ⟨b, o, c, sz, hv, hF, hb, hc, hrows⟩
    · simp at hlt
    · obtain ⟨hcells, hsz⟩ := hrows.at hr
      · have hs : j.size = sz := by omega
        refine ⟨.pointer (some ⟨b, o + i.toNat * sz, none⟩), ?_, by simp only [Rep]; exact ⟨b, _, rfl, hF, hb, hcells⟩⟩
        have hlt' : i < rows.length := by omega
        simp [execOp, Instr.indexAt, Sem.run_bind, run_underlying hu, hv, h2, asIntOf, h0, hlt', sizeOf, typeInfo, hj, hs, Addr.add_mid]

theorem CellsRep.vals {F : Nat → Prop} {w : World} {b : Nat} : ∀ {cs : List PV} {o : Nat}, CellsRep F w b o cs → ∃ vs : List Value, w.rangeAt b o vs ∧ vs.length = cs.length ∧ RepL F w (cs.map .p) vs
  | [], o, _ => ⟨[], by intro j v h; simp at h, rfl, by simp [RepL]⟩
  | c :: cs, o, h => by
    simp only [CellsRep] at h
    obtain ⟨⟨v, hv, hp⟩, hr⟩ := h
    obtain ⟨vs, h1, h2, h3⟩ := CellsRep.vals hr
    refine ⟨v :: vs, ?_, by simp [h2], by simp only [List.map_cons, RepL, Rep]; exact ⟨v, vs, rfl, hp, h3⟩⟩
    intro j u hu
    cases j with
    | zero => simp at hu; subst hu; simpa using hv
    | succ j =>
      simp at hu
      have := h1 j u hu
      rwa [Nat.add_assoc, Nat.add_comm 1 j] at this

theorem CellsRep.take {F : Nat → Prop} {w : World} {b : Nat} : ∀ {cs : List PV} {o : Nat} (n : Nat), CellsRep F w b o cs → CellsRep F w b o (cs.take n)
  | cs, o, 0, h => by simp [CellsRep]
  | [], o, n + 1, h => by simp [CellsRep]
  | c :: cs, o, n + 1, h => by
    simp only [CellsRep, List.take_succ_cons] at *
    exact ⟨h.1, CellsRep.take n h.2⟩

/-- A load out of pure memory: a struct. -/
theorem aop_load_ref_of {T : TypeId} {n : Nat} {cells : List PV} {cs : List PV} (hT : tyOf P T = some (true, n)) (hx : ρ x = .ref cells) (hz' : cs.length = n) (ht : cells.take cs.length = cs) :
    AOp P ⟨dst, .load T x, ty, pos, aft, g⟩ ρ H (.agg (cs.map .p)) H :=
  aop_pure fun F w E hH hE => by
    obtain ⟨d, hu, hd, hz⟩ := tyOf_spec hT
    rw [← hz'] at hz
    have h1 := hE x (by simp [Op.operands])
    rw [hx] at h1
    simp only [Rep] at h1
    obtain ⟨b, o, hv, hF, hb, hc⟩ := h1
    have hc' := hc.take cs.length
    rw [ht] at hc'
    obtain ⟨vs, h1, h2, h3⟩ := hc'.vals
    refine ⟨.agg ⟨vs⟩, ?_, by simp only [Rep]; exact ⟨vs, rfl, h3⟩⟩
    simp only [execOp, Instr.loadAt, hv, Instr.sureAddr, Sem.run_bind, Sem.run_pure, Result.andThen_ok, run_loadVar_agg hu hd h1 (by rw [hz, h2])]

/-- A load out of pure memory: the whole row. -/
theorem aop_load_ref {T : TypeId} {n : Nat} {cells : List PV} (hT : tyOf P T = some (true, n)) (hx : ρ x = .ref cells) (hz : cells.length = n) :
    AOp P ⟨dst, .load T x, ty, pos, aft, g⟩ ρ H (.agg (cells.map .p)) H := aop_load_ref_of hT hx hz (List.take_length)

/-- A load out of pure memory: one cell. -/
theorem aop_load_ref1 {T : TypeId} {n : Nat} {c : PV} {cs : List PV} (hT : tyOf P T = some (false, n)) (hx : ρ x = .ref (c :: cs)) :
    AOp P ⟨dst, .load T x, ty, pos, aft, g⟩ ρ H (.p c) H :=
  aop_pure fun F w E hH hE => by
    obtain ⟨d, hu, hd, hz⟩ := tyOf_spec hT
    have h1 := hE x (by simp [Op.operands])
    rw [hx] at h1
    simp only [Rep] at h1
    obtain ⟨b, o, hv, hF, hb, hc⟩ := h1
    simp only [CellsRep] at hc
    obtain ⟨⟨v, hcell, hp⟩, _⟩ := hc
    refine ⟨v, ?_, by simpa only [Rep] using hp⟩
    simp only [execOp, Instr.loadAt, hv, Instr.sureAddr, Sem.run_bind, Sem.run_pure, Result.andThen_ok, run_loadVar_one hu hd hcell]

/-- A load out of a tracked object: one cell. -/
theorem aop_load_box1 {T : TypeId} {n b o i : Nat} {cs : List AV} (hT : tyOf P T = some (false, n)) (hx : ρ x = .ptr b o) (hi : H[i]? = some (.box b cs)) (hv : cs[o]? = some v) :
    AOp P ⟨dst, .load T x, ty, pos, aft, g⟩ ρ H v H :=
  aop_pure fun F w E hH hE => by
    obtain ⟨d, hu, hd, hz⟩ := tyOf_spec hT
    have h1 := hE x (by simp [Op.operands])
    rw [hx] at h1
    simp only [Rep] at h1
    obtain ⟨vs, T', hb, hl⟩ := hH.obj _ (List.mem_of_getElem? hi)
    obtain ⟨u, hu', hr⟩ := hl.get hv
    refine ⟨u, ?_, hr⟩
    simp only [execOp, Instr.loadAt, h1, Instr.sureAddr, Sem.run_bind, Sem.run_pure, Result.andThen_ok, run_loadVar_one (w := w) hu hd (b := b) (o := o) (v := u) (by simp [World.cell?, hb, hu'])]

/-- A load out of a tracked object: a struct. -/
theorem aop_load_box_of {T : TypeId} {b o i n : Nat} {cs : List AV} (hT : tyOf P T = some (true, n)) (hx : ρ x = .ptr b o) (hi : H[i]? = some (.box b cs)) (hn : ((cs.drop o).take n).length = n)
    (hv : .agg ((cs.drop o).take n) = v) : AOp P ⟨dst, .load T x, ty, pos, aft, g⟩ ρ H v H :=
  aop_pure fun F w E hH hE => by
    obtain ⟨d, hu, hd, hz⟩ := tyOf_spec hT
    have h1 := hE x (by simp [Op.operands])
    rw [hx] at h1
    simp only [Rep] at h1
    obtain ⟨vs, T', hb, hl⟩ := hH.obj _ (List.mem_of_getElem? hi)
    have hr := rangeAt_box hb o n
    have hl' := (hl.drop o).take n
    refine ⟨.agg ⟨(vs.drop o).take n⟩, ?_, by subst hv; simp only [Rep]; exact ⟨_, rfl, hl'⟩⟩
    simp only [execOp, Instr.loadAt, h1, Instr.sureAddr, Sem.run_bind, Sem.run_pure, Result.andThen_ok, run_loadVar_agg hu hd hr (by rw [hz, hl'.length, hn])]

/-- The whole object. -/
theorem aop_load_box {T : TypeId} {b i n : Nat} {cs : List AV} (hT : tyOf P T = some (true, n)) (hx : ρ x = .ptr b 0) (hi : H[i]? = some (.box b cs)) (hn : cs.length = n) :
    AOp P ⟨dst, .load T x, ty, pos, aft, g⟩ ρ H (.agg cs) H :=
  aop_load_box_of hT hx hi (by subst hn; simp) (by subst hn; simp)

theorem aop_makeFunc {fn : Fn} {first caps : Array Operand} {fs cs : List AV} (h1 : first.toList.map ρ = fs) (h2 : caps.toList.map ρ = cs) : AOp P ⟨dst, .makeFunc fn first caps, ty, pos, aft, g⟩ ρ H (.fn fn fs cs) H :=
  aop_pure fun F w E hH hE => by
    refine ⟨.func fn (first.map E) (caps.map E), rfl, ?_⟩
    subst h1; subst h2
    simp only [Rep]
    refine ⟨first.toList.map E, caps.toList.map E, ?_, RepL.mapEval _ fun x hx => hE x (by simp [Op.operands]; exact .inl (by simpa using hx)), RepL.mapEval _ fun x hx => hE x (by simp [Op.operands]; exact .inr (by simpa using hx))⟩
    congr 1 <;> apply Array.ext' <;> simp

theorem aop_nilCheck {b o : Nat} (hx : ρ x = .ptr b o) : AOp P ⟨dst, .nilCheck x, ty, pos, aft, g⟩ ρ H (.ptr b o) H :=
  aop_pure fun F w E hH hE => by
    have h1 := hE x (by simp [Op.operands])
    rw [hx] at h1
    simp only [Rep] at h1
    exact ⟨.pointer (some ⟨b, o, none⟩), by simp [execOp, h1], by simp [Rep]⟩

theorem aop_makeIface {T : TypeId} {d : TypeDesc} {c : PV} (hu : P.underlying T = some d) (hd : ∀ ms, d ≠ .interface ms) (hx : ρ x = .p c) : AOp P ⟨dst, .makeInterface T x, ty, pos, aft, g⟩ ρ H (.p (.iface T c)) H :=
  aop_pure fun F w E hH hE => by
    have h1 := hE x (by simp [Op.operands])
    rw [hx] at h1
    simp only [Rep] at h1
    refine ⟨.iface T (E x), ?_, by simp only [Rep, PRep]; exact ⟨_, rfl, h1⟩⟩
    cases d <;> simp_all [execOp, Instr.makeInterface, Sem.run_bind, run_underlying hu]
end
end Go.Abs
