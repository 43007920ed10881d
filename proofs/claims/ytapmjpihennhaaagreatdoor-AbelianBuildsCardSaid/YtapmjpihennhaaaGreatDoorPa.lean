/- Part of the proofs: an abstract program logic, plain models and contracts of functions. -/
import Derived.OrdersIn
import Derived.RangeFuncIn
import Derived.RangeFuncRecord
import Derived.Deep.MidRow
set_option linter.unusedVariables false
set_option linter.unusedSimpArgs false
theorem Go.Ao.{u} {α : Sort u} {a : α} : a = a := rfl
namespace Go.Abs
inductive PV where
 | any
 | bool (b : Bool)
 | int (k : IntKind) (n : Int)
 | str (s : ByteArray)
 | lst (rows : List (List PV))
 | fn (f : FuncId)
 | nilFn
 | nils
 | nilIface
 | iface (t : TypeId) (v : PV)
 deriving Inhabited
mutual
def CQ (F : Nat → Prop) (w : World) : PV → Value → Prop
 | .any, _ => True
 | .bool b, v => v = .bool b
 | .int k n, v => v = .int k n
 | .str s, v => v = .string s
 | .lst rows, v => (rows = [] ∧ ∃ o c, v = .slice o 0 c) ∨ (∃ b o c sz, v = .slice (some ⟨b, o, none⟩) rows.length c ∧ ¬ F b ∧ b < w.heap.size ∧ rows.length ≤ c ∧ Bw F w b sz o rows)
 | .fn f, v => v = .func (.func f) #[] #[]
 | .nilFn, v => v = .nilFunc
 | .nils, v => v = .slice none 0 0
 | .nilIface, v => v = .nilIface
 | .iface t x, v => ∃ u, v = .iface t u ∧ CQ F w x u
def Bw (F : Nat → Prop) (w : World) (b sz : Nat) : Nat → List (List PV) → Prop
 | _, [] => True
 | o, r :: rs => r.length = sz ∧ CO F w b o r ∧ Bw F w b sz (o + sz) rs
def CO (F : Nat → Prop) (w : World) (b : Nat) : Nat → List PV → Prop
 | _, [] => True
 | o, c :: cs => (∃ v, w.cell? ⟨b, o, none⟩ = some v ∧ CQ F w c v) ∧ CO F w b (o + 1) cs
end
inductive AV where
 | p (x : PV)
 | ptr (b off : Nat)
 | nilp
 | ref (cells : List PV)
 | vs (o : Option Nat) (n c : Nat)
 | map (b : Nat)
 | fn (f : Fn) (first caps : List AV)
 | agg (cs : List AV)
 | tup (xs : List AV)
 deriving Inhabited
mutual
def CF (F : Nat → Prop) (w : World) : AV → Value → Prop
 | .p x, v => CQ F w x v
 | .ptr b off, v => v = .pointer (some ⟨b, off, none⟩)
 | .nilp, v => v = .pointer none
 | .ref cs, v => ∃ b o, v = .pointer (some ⟨b, o, none⟩) ∧ ¬ F b ∧ b < w.heap.size ∧ CO F w b o cs
 | .vs (some b) n c, v => v = .slice (some ⟨b, 0, none⟩) n c
 | .vs none n c, v => n = 0 ∧ c = 0 ∧ ∃ a, v = .slice a 0 0
 | .map b, v => v = .map (some b)
 | .fn f first caps, v => ∃ fs cs, v = .func f ⟨fs⟩ ⟨cs⟩ ∧ Bu F w first fs ∧ Bu F w caps cs
 | .agg cs, v => ∃ vs, v = .agg ⟨vs⟩ ∧ Bu F w cs vs
 | .tup xs, v => ∃ vs, v = .tuple ⟨vs⟩ ∧ Bu F w xs vs
def Bu (F : Nat → Prop) (w : World) : List AV → List Value → Prop
 | [], vs => vs = []
 | x :: xs, vs => ∃ u us, vs = u :: us ∧ CF F w x u ∧ Bu F w xs us
end
structure KA where
 state : LoopState
 pending : Option Code
 n : Nat
 τ : Nat → AV
 params : Array Tmp
 assign : Code
 body : Code
 deriving Inhabited
inductive BL where
 | box (b : Nat) (cs : List AV)
 | vec (o : Option Nat) (sz : Nat) (rows : List (List PV)) (c : Nat)
 | map (b : Nat) (es : List (PV × AV))
 | loop (l : Nat) (L : KA)
 | dfr (b : Nat)
 | blk (b : Nat) (o : Obj)
 | glob (l : List (Nat × Obj))
 | vecT (o : Option Nat) (T : TypeId) (fr : Bool) (rows : List (List PV)) (c : Nat)
 | boxT (b : Nat) (T : TypeId) (cs : List AV)
 deriving Inhabited
def BL.key : BL → Option Nat
 | .box b _ => some b
 | .vec o _ _ _ => o
 | .map b _ => some b
 | .loop l _ => some l
 | .dfr b => some b
 | .blk b _ => some b
 | .glob _ => none
 | .vecT o _ _ _ _ => o
 | .boxT b _ _ => some b
def DO (F : Nat → Prop) (w : World) : List (PV × AV) → List MapEntry → Prop
 | [], es => es = []
 | (k, x) :: r, es => ∃ e es', es = e :: es' ∧ CQ F w k e.key ∧ CF F w x e.val ∧ DO F w r es'
def Fc (F : Nat → Prop) (w : World) : BL → Prop
 | .box b cs => ∃ vs T, w.heap[b]? = some (.cells ⟨vs⟩ T (0, 0)) ∧ Bu F w cs vs
 | .vec none _ rows c => rows = [] ∧ c = 0
 | .vec (some b) sz rows c => ∃ vs T, w.heap[b]? = some (.cells vs T (0, 0)) ∧ c * sz ≤ vs.size ∧ rows.length ≤ c ∧ Bw F w b sz 0 rows
 | .map b es => ∃ ents clk, w.heap[b]? = some (.map ents clk) ∧ DO F w es ents.toList
 | .loop l L => ∃ r : Loop, w.heap[l]? = some (.loop r) ∧ r.state = L.state ∧ r.pending = L.pending ∧ r.params = L.params ∧ r.assign = L.assign ∧ r.body = L.body ∧ r.tmps.size = L.n ∧ ∀ t, CF F w (L.τ t) (r.tmps.getD t (.tuple #[]))
 | .dfr b => w.heap[b]? = some (.deferred (some []))
 | .blk b o => w.heap[b]? = some o
 | .glob l => ∀ p ∈ l, w.heap[p.1]? = some p.2 ∧ ¬ F p.1
 | .boxT b T cs => ∃ vs, w.heap[b]? = some (.cells ⟨vs⟩ T (0, 0)) ∧ Bu F w cs vs
 | .vecT none _ _ rows c => rows = [] ∧ c = 0
 | .vecT (some b) T fr rows c => ∃ vs, w.heap[b]? = some (.cells vs T (0, if fr then rows.length else 0)) ∧ c ≤ vs.size ∧ rows.length ≤ c ∧ Bw F w b 1 0 rows
inductive Di where
 | clo (f : Fn) (caps : List AV)
 | mark (b : Nat)
structure HRel (F : Nat → Prop) (H : List BL) (w : World) : Prop where
 sub : ∀ o ∈ H, ∀ b, o.key = some b → F b
 nodup : (H.filterMap BL.key).Nodup
 obj : ∀ o ∈ H, Fc F w o
 bd : ∀ b, F b → b < w.heap.size
structure Trans (F : Nat → Prop) (H : List BL) (w : World) (F' : Nat → Prop) (H' : List BL) (w' : World) : Prop where
 size : w.heap.size ≤ w'.heap.size
 same : ∀ b, b < w.heap.size → (∀ o ∈ H, o.key ≠ some b) → w'.heap[b]? = w.heap[b]?
 keep : ∀ b, F b → (∀ o ∈ H, o.key ≠ some b) → F' b
 fresh : ∀ b, F' b → F b ∨ w.heap.size ≤ b
 keys : ∀ o ∈ H', ∀ b, o.key = some b → (∃ o' ∈ H, o'.key = some b) ∨ w.heap.size ≤ b
 os : w'.os = w.os
 out : w'.output = w.output
 tape : w'.tape = w.tape
theorem Fp {w w' : World} {b o : Nat} (h : w'.heap[b]? = w.heap[b]?) : w'.cell? ⟨b, o, none⟩ = w.cell? ⟨b, o, none⟩ := by
 simp [World.cell?, h]
structure C2 (F : Nat → Prop) (w : World) (F' : Nat → Prop) (w' : World) : Prop where
 size : w.heap.size ≤ w'.heap.size
 same : ∀ b, ¬ F b → b < w.heap.size → w'.heap[b]? = w.heap[b]?
 nf : ∀ b, ¬ F b → b < w.heap.size → ¬ F' b
section
variable {F F' : Nat → Prop} {w w' : World}
mutual
theorem CQ.mono (st : C2 F w F' w') : ∀ (x : PV) (v : Value), CQ F w x v → CQ F' w' x v
 | .any, _, _ => by simp [CQ]
 | .bool b, _, h => by simpa [CQ] using h
 | .int k n, _, h => by simpa [CQ] using h
 | .str s, _, h => by simpa [CQ] using h
 | .lst rows, v, h => by
  simp only [CQ] at h ⊢
  rcases h with h | ⟨b, o, c, sz, hv, hf, hb, hc, hr⟩
  ·exact .inl h
  ·exact .inr ⟨b, o, c, sz, hv, st.nf b hf hb, Nat.lt_of_lt_of_le hb st.size, hc, Bw.mono st b sz (st.same b hf hb) o rows hr⟩
 | .fn f, _, h => by simpa [CQ] using h
 | .nilFn, _, h => by simpa [CQ] using h
 | .nils, _, h => by simpa [CQ] using h
 | .nilIface, _, h => by simpa [CQ] using h
 | .iface t x, v, h => by
  simp only [CQ] at h ⊢
  obtain ⟨u, hu, hx⟩ := h
  exact ⟨u, hu, CQ.mono st x u hx⟩
theorem Bw.mono (st : C2 F w F' w') (b sz : Nat) (hb : w'.heap[b]? = w.heap[b]?) : ∀ (o : Nat) (rows : List (List PV)), Bw F w b sz o rows → Bw F' w' b sz o rows
 | _, [], _ => by simp [Bw]
 | o, r :: rs, h => by
  simp only [Bw] at h ⊢
  exact ⟨h.1, CO.mono st b hb o r h.2.1, Bw.mono st b sz hb (o + sz) rs h.2.2⟩
theorem CO.mono (st : C2 F w F' w') (b : Nat) (hb : w'.heap[b]? = w.heap[b]?) : ∀ (o : Nat) (cs : List PV), CO F w b o cs → CO F' w' b o cs
 | _, [], _ => by simp [CO]
 | o, c :: cs, h => by
  simp only [CO] at h ⊢
  obtain ⟨⟨v, hv, hx⟩, hr⟩ := h
  exact ⟨⟨v, by rw [Fp hb]; exact hv, CQ.mono st c v hx⟩, CO.mono st b hb (o + 1) cs hr⟩
end
mutual
theorem CF.mono (st : C2 F w F' w') : ∀ (x : AV) (v : Value), CF F w x v → CF F' w' x v
 | .p x, v, h => by simp only [CF] at h ⊢; exact CQ.mono st x v h
 | .ptr _ _, _, h => by simpa [CF] using h
 | .nilp, _, h => by simpa [CF] using h
 | .ref cs, v, h => by
  simp only [CF] at h ⊢
  obtain ⟨b, o, hv, hf, hb, hr⟩ := h
  exact ⟨b, o, hv, st.nf b hf hb, Nat.lt_of_lt_of_le hb st.size, CO.mono st b (st.same b hf hb) o cs hr⟩
 | .vs (some _) _ _, _, h => by simpa [CF] using h
 | .vs none _ _, _, h => by simpa [CF] using h
 | .map _, _, h => by simpa [CF] using h
 | .fn f first caps, v, h => by
  simp only [CF] at h ⊢
  obtain ⟨fs, cs, hv, h1, h2⟩ := h
  exact ⟨fs, cs, hv, Bu.mono st first fs h1, Bu.mono st caps cs h2⟩
 | .agg cs, v, h => by
  simp only [CF] at h ⊢
  obtain ⟨vs, hv, h1⟩ := h
  exact ⟨vs, hv, Bu.mono st cs vs h1⟩
 | .tup xs, v, h => by
  simp only [CF] at h ⊢
  obtain ⟨vs, hv, h1⟩ := h
  exact ⟨vs, hv, Bu.mono st xs vs h1⟩
theorem Bu.mono (st : C2 F w F' w') : ∀ (xs : List AV) (vs : List Value), Bu F w xs vs → Bu F' w' xs vs
 | [], _, h => by simpa [Bu] using h
 | x :: xs, vs, h => by
  simp only [Bu] at h ⊢
  obtain ⟨u, us, hv, h1, h2⟩ := h
  exact ⟨u, us, hv, CF.mono st x u h1, Bu.mono st xs us h2⟩
end
theorem DO.mono (st : C2 F w F' w') : ∀ (es : List (PV × AV)) (l : List MapEntry), DO F w es l → DO F' w' es l
 | [], _, h => by simpa [DO] using h
 | (k, x) :: r, l, h => by
  simp only [DO] at h ⊢
  obtain ⟨e, es', hv, h1, h2, h3⟩ := h
  exact ⟨e, es', hv, CQ.mono st k _ h1, CF.mono st x _ h2, DO.mono st r es' h3⟩
theorem Fc.mono (st : C2 F w F' w') (x : BL) (hk : ∀ b, x.key = some b → w'.heap[b]? = w.heap[b]?) (h : Fc F w x) : Fc F' w' x := by
 cases x with
 | box b cs =>
  obtain ⟨vs, T, hb, hr⟩ := h
  exact ⟨vs, T, by rw [hk b rfl]; exact hb, Bu.mono st cs vs hr⟩
 | vec o sz rows c =>
  cases o with
  | none => exact h
  | some b =>
   obtain ⟨vs, T, hb, h1, h2, h3⟩ := h
   exact ⟨vs, T, by rw [hk b rfl]; exact hb, h1, h2, Bw.mono st b sz (hk b rfl) 0 rows h3⟩
 | map b es =>
  obtain ⟨ents, clk, hb, hr⟩ := h
  exact ⟨ents, clk, by rw [hk b rfl]; exact hb, DO.mono st es _ hr⟩
 | loop l L =>
  obtain ⟨r, hb, h1, h2, h3, h4, h5, h6, h7⟩ := h
  exact ⟨r, by rw [hk l rfl]; exact hb, h1, h2, h3, h4, h5, h6, fun t => CF.mono st _ _ (h7 t)⟩
 | dfr b =>
  show w'.heap[b]? = _
  rw [hk b rfl]; exact h
 | blk b o =>
  show w'.heap[b]? = _
  rw [hk b rfl]; exact h
 | glob l =>
  intro p hp
  obtain ⟨h1, h2⟩ := h p hp
  have hlt : p.1 < w.heap.size := (Array.getElem?_eq_some_iff.1 h1).1
  exact ⟨by rw [st.same p.1 h2 hlt]; exact h1, st.nf p.1 h2 hlt⟩
 | boxT b T cs =>
  obtain ⟨vs, hb, hr⟩ := h
  exact ⟨vs, by rw [hk b rfl]; exact hb, Bu.mono st cs vs hr⟩
 | vecT o T fr rows c =>
  cases o with
  | none => exact h
  | some b =>
   obtain ⟨vs, hb, h1, h2, h3⟩ := h
   exact ⟨vs, by rw [hk b rfl]; exact hb, h1, h2, Bw.mono st b 1 (hk b rfl) 0 rows h3⟩
end
section
variable {F F' F'' : Nat → Prop} {H H' H'' : List BL} {w w' w'' : World}
theorem Trans.stable (hs : ∀ o ∈ H, ∀ b, o.key = some b → F b) (t : Trans F H w F' H' w') : C2 F w F' w' where
 size := t.size
 same b hf hb := t.same b hb fun o ho hk => hf (hs o ho b hk)
 nf b hf hb hf' := (t.fresh b hf').elim hf fun h => by omega
theorem Trans.refl : Trans F H w F H w where
 size := Nat.le_refl _
 same _ _ _ := rfl
 keep _ h _ := h
 fresh _ h := .inl h
 keys o ho b hb := .inl ⟨o, ho, hb⟩
 os := rfl
 out := rfl
 tape := rfl
theorem Trans.trans (bd : ∀ b, F b → b < w.heap.size) (t : Trans F H w F' H' w') (t' : Trans F' H' w' F'' H'' w'') : Trans F H w F'' H'' w'' where
 size := Nat.le_trans t.size t'.size
 same b hb hn := by
  rw [t'.same b (Nat.lt_of_lt_of_le hb t.size) ?_, t.same b hb hn]
  intro o ho hk
  rcases t.keys o ho b hk with ⟨o', ho', hk'⟩ | h
  ·exact hn o' ho' hk'
  ·omega
 keep b hF hn := by
  refine t'.keep b (t.keep b hF hn) ?_
  intro o ho hk
  have := bd b hF
  rcases t.keys o ho b hk with ⟨o', ho', hk'⟩ | h
  ·exact hn o' ho' hk'
  ·omega
 fresh b h := by
  rcases t'.fresh b h with h | h
  ·exact t.fresh b h
  ·exact .inr (Nat.le_trans t.size h)
 keys o ho b hk := by
  rcases t'.keys o ho b hk with ⟨o', ho', hk'⟩ | h
  ·exact t.keys o' ho' b hk'
  ·exact .inr (Nat.le_trans t.size h)
 os := t'.os.trans t.os
 out := t'.out.trans t.out
 tape := t'.tape.trans t.tape
end
def put (τ : Nat → AV) (d : Option Nat) (v : AV) : Nat → AV :=
 match d with
 | none => τ
 | some d => fun t => bif Nat.beq t d then v else τ t
def mk : List (Nat × AV) → Nat → AV
 | [], _ => .p .any
 | (d, v) :: r, t => bif Nat.beq t d then v else mk r t
def GJ : Value → AV
 | .bool b => .p (.bool b)
 | .int k n => .p (.int k n)
 | .string s => .p (.str s)
 | .slice none 0 0 => .p .nils
 | .nilIface => .p .nilIface
 | .nilFunc => .p .nilFn
 | .pointer none => .nilp
 | _ => .p .any
def ev (τ : Nat → AV) : Operand → AV
 | .tmp t => τ t
 | .const v => GJ v
 | .func f => .p (.fn f)
 | .global g => .ptr g 0
structure Bq where
 n : Nat
 τ : Nat → AV
 H : List BL
 D : List Di
def Bq.put (S : Bq) (d : Option Nat) (v : AV) (H : List BL) : Bq := ⟨S.n, Abs.put S.τ d v, H, S.D⟩
def Eb (F : Nat → Prop) (w : World) : List Di → List Deferred → Prop
 | [], ds => ds = []
 | .clo f cs :: r, ds => ∃ vs ds', ds = { target := .fn f ⟨vs⟩, args := #[] } :: ds' ∧ Bu F w cs vs ∧ Eb F w r ds'
 | .mark b :: r, ds => ∃ ds', ds = { target := .collected b, args := #[] } :: ds' ∧ Eb F w r ds'
structure DB (F : Nat → Prop) (S : Bq) (a : Act) (w : World) : Prop where
 size : a.tmps.size = S.n
 tmp : ∀ t, CF F w (S.τ t) (a.tmps.getD t undef)
 heap : HRel F S.H w
 defs : Eb F w S.D a.defers
section
variable {F F' : Nat → Prop} {w w' : World}
theorem Eb.mono (st : C2 F w F' w') : ∀ (D : List Di) (ds : List Deferred), Eb F w D ds → Eb F' w' D ds
 | [], _, h => by simpa [Eb] using h
 | .clo f cs :: r, ds, h => by
  simp only [Eb] at h ⊢
  obtain ⟨vs, ds', hd, h1, h2⟩ := h
  exact ⟨vs, ds', hd, Bu.mono st cs vs h1, Eb.mono st r ds' h2⟩
 | .mark b :: r, ds, h => by
  simp only [Eb] at h ⊢
  obtain ⟨ds', hd, h2⟩ := h
  exact ⟨ds', hd, Eb.mono st r ds' h2⟩
theorem J4 (v : Value) : CF F w (.p .any) v := by simp [CF, CQ]
theorem NX (v : Value) : CF F w (GJ v) v := by
 unfold GJ
 split <;> simp [CF, CQ]
theorem DB.eval {S : Bq} {a : Act} (h : DB F S a w) (x : Operand) : CF F w (ev S.τ x) (a.eval x) := by
 cases x with
 | tmp t => exact h.tmp t
 | const v => exact NX v
 | global g => simp [ev, Act.eval, CF]
 | func f => simp [ev, Act.eval, CF, CQ]
theorem DB.put {S : Bq} {a : Act} (h : DB F S a w) {d : Option Nat} (hd : ∀ t, d = some t → t < S.n) {v : AV} {u : Value} {H' : List BL}
  (st : C2 F w F' w') (hH : HRel F' H' w') (hv : CF F' w' v u) : DB F' (S.put d v H') (a.put d u) w' where
 size := by cases d <;> simp [Act.put, Bq.put, h.size]
 tmp t := by
  cases d with
  | none => exact CF.mono st _ _ (h.tmp t)
  | some d =>
   have hlt : d < a.tmps.size := by rw [h.size]; exact hd d rfl
   by_cases e : t = d
   ·subst e
    simp [Act.put, Bq.put, Abs.put, hlt, hv]
   ·have hb : Nat.beq t d = false := by
     cases hq : Nat.beq t d with
     | false => rfl
     | true => exact absurd (Nat.eq_of_beq_eq_true hq) e
    have := CF.mono st _ _ (h.tmp t)
    simpa [Act.put, Bq.put, Abs.put, hb, Array.getElem?_setIfInBounds_ne (Ne.symm e)] using this
 heap := hH
 defs := by
  have := Eb.mono st _ _ h.defs
  cases d <;> exact this
end
inductive Ck where
 | normal
 | exit (id : Nat)
 | ret
 | panic (v : AV)
def Us (F : Nat → Prop) (w : World) : Ck → Exit → Prop
 | .normal, e => e = .normal
 | .exit id, e => e = .exit id
 | .ret, e => e = .ret
 | .panic x, e => ∃ v, e = .panic [{ v, recovered := false }] ∧ CF F w x v
def post (F : Nat → Prop) (H : List BL) (w : World) (Q : Ck → Bq → Prop) : Exit → Act → World → Prop :=
 fun e a' w' => ∃ e' S' F', Q e' S' ∧ Us F' w' e' e ∧ DB F' S' a' w' ∧ Trans F H w F' S'.H w'
def W (r : Option Nat) : Fence := { Fence.wide with round := r }
def Hj (P : Program) (r : Option Nat) (c : Code) (S : Bq) (Q : Ck → Bq → Prop) : Prop :=
 ∀ F a w, DB F S a w → c.wpIn (W r) 0 P (post F S.H w Q) a w
theorem _root_.Go.An {α : Prop} (h : α := by simp) : α := h
section
variable {P : Program} {r : Option Nat} {S : Bq} {Q Q' : Ck → Bq → Prop} {c c₁ c₂ : Code}
theorem FD {F F₁ : Nat → Prop} {H H₁ : List BL} {w w₁ : World} (bd : ∀ b, F b → b < w.heap.size) (t : Trans F H w F₁ H₁ w₁) {e a w'}
  (h : post F₁ H₁ w₁ Q e a w') : post F H w Q e a w' := by
 obtain ⟨e', S', F', hq, he, hs, ht⟩ := h
 exact ⟨e', S', F', hq, he, hs, t.trans bd ht⟩
theorem Hj.mono (h : Hj P r c S Q) (hq : ∀ e S, Q e S → Q' e S) : Hj P r c S Q' :=
 fun F a w hs => wpIn_mono (h F a w hs) fun _ _ _ ⟨e', S', F', q, r⟩ => ⟨e', S', F', hq _ _ q, r⟩
def PZ (K : Bq → Prop) (Q : Ck → Bq → Prop) : Ck → Bq → Prop
 | .normal, S => K S
 | e, S => Q e S
theorem As (h : Hj P r c₁ S (PZ (fun S' => Hj P r c₂ S' Q) Q)) : Hj P r (.seq c₁ c₂) S Q := by
 intro F a w hs
 refine wpIn_seq (wpIn_mono (h F a w hs) ?_)
 rintro e a' w' ⟨e', S', F', hq, he, hs', ht⟩
 cases e' with
 | normal =>
  obtain rfl : e = .normal := he
  exact wpIn_mono (hq F' a' w' hs') fun _ _ _ => FD hs.heap.bd ht
 | exit id => obtain rfl : e = .exit id := he; exact ⟨.exit id, S', F', hq, rfl, hs', ht⟩
 | ret => obtain rfl : e = .ret := he; exact ⟨.ret, S', F', hq, rfl, hs', ht⟩
 | panic v => obtain ⟨u, rfl, hu⟩ := he; exact ⟨.panic v, S', F', hq, ⟨u, rfl, hu⟩, hs', ht⟩
theorem BD (h : Q .normal S) : Hj P r .skip S Q := fun F a w hs => wpIn_skip ⟨.normal, S, F, h, rfl, hs, .refl⟩
theorem CL {id : Nat} (h : Q (.exit id) S) : Hj P r (.exit id) S Q := fun F a w hs => wpIn_exit ⟨.exit id, S, F, h, rfl, hs, .refl⟩
theorem A5 (h : Q .ret S) : Hj P r .ret S Q := fun F a w hs => wpIn_ret ⟨.ret, S, F, h, rfl, hs, .refl⟩
theorem A4 {x : Operand} {b : Bool} (hx : ev S.τ x = .p (.bool b)) (ht : b = true → Hj P r c₁ S Q) (hf : b = false → Hj P r c₂ S Q) : Hj P r (.cond x c₁ c₂) S Q := by
 intro F a w hs
 have := hs.eval x
 rw [hx] at this
 simp only [CF, CQ] at this
 exact wpIn_cond_split this (fun h => ht h F a w hs) (fun h => hf h F a w hs)
def P2 (id : Nat) (Q : Ck → Bq → Prop) : Ck → Bq → Prop
 | .exit i, S => bif Nat.beq i id then Q .normal S else Q (.exit i) S
 | e, S => Q e S
theorem BU {id : Nat} (h : Hj P r c S (P2 id Q)) : Hj P r (.block id c) S Q := by
 intro F a w hs
 refine wpIn_block (wpIn_mono (h F a w hs) ?_)
 rintro e a' w' ⟨e', S', F', hq, he, hs', ht⟩
 cases e' with
 | normal => obtain rfl : e = .normal := he; exact ⟨.normal, S', F', hq, rfl, hs', ht⟩
 | exit i =>
  obtain rfl : e = .exit i := he
  simp only [Exit.inBlock]
  by_cases hi : i = id
  ·subst hi
   have : Nat.beq i i = true := Nat.beq_refl i
   simp only [P2, this, cond_true] at hq
   simp only [if_true]
   exact ⟨.normal, S', F', hq, Ao, hs', ht⟩
  ·have : Nat.beq i id = false := by
    cases hq : Nat.beq i id with
    | false => rfl
    | true => exact absurd (Nat.eq_of_beq_eq_true hq) hi
   simp only [P2, this, cond_false] at hq
   simp only [hi, if_false]
   exact ⟨.exit i, S', F', hq, Ao, hs', ht⟩
 | ret => obtain rfl : e = .ret := he; exact ⟨.ret, S', F', hq, rfl, hs', ht⟩
 | panic v => obtain ⟨u, rfl, hu⟩ := he; exact ⟨.panic v, S', F', hq, ⟨u, rfl, hu⟩, hs', ht⟩
theorem Ou {F : Fence} {nn : Nat} {Q : Exit → Act → World → Prop} {c : Code} (I : Nat → Act → World → Prop)
  (round : ∀ m a w, I m a w → c.wpIn F nn P (Exit.then (fun a' w' => ∃ m', m' < m ∧ I m' a' w') Q) a w) {m : Nat} {a : Act} {w : World} (h₀ : I m a w) : (Code.loop c).wpIn F nn P Q a w := by
 intro b k cs hro hb hr
 have key : ∀ j a w, I j a w →
   ∃ e a' w', Q e a' w' ∧ ArrivesIn (Machine.fenced P F) P (lone (b.atR a (.code c :: .inLoop c :: k)) cs w) b k cs e a' w' := by
  intro j
  induction j using Nat.strongRecOn with
  | _ j ih =>
   intro a w hI
   obtain ⟨e, a₁, w₁, hq, harr⟩ := round j a w hI b (.inLoop c :: k) cs hro hb hr
   cases e with
   | normal =>
    obtain ⟨m', hlt, hI₁⟩ := hq
    obtain ⟨e₂, a₂, w₂, hq₂, harr₂⟩ := ih m' hlt a₁ w₁ hI₁
    exact ⟨e₂, a₂, w₂, hq₂, .of_steps (StepsIn.trans harr (.one (fenced_calm hb hr Ao) stepR_inLoop)) harr₂⟩
   | exit id => exact ⟨_, a₁, w₁, hq, .pass (x := .inLoop c) rfl (fun _ _ => .inl An) harr⟩
   | goto l => exact ⟨_, a₁, w₁, hq, .pass (x := .inLoop c) rfl (fun _ _ => .inl An) harr⟩
   | ret => exact ⟨_, a₁, w₁, hq, .pass (x := .inLoop c) rfl (fun _ _ => .inl An) harr⟩
   | panic ch => exact ⟨_, a₁, w₁, hq, .pass (x := .inLoop c) rfl (fun _ _ => .inl An) harr⟩
   | outgrown => exact ⟨_, a₁, w₁, hq, .pass (x := .inLoop c) rfl (fun _ _ => .inl An) harr⟩
 obtain ⟨e, a', w', hq, harr⟩ := key _ a w h₀
 exact ⟨e, a', w', hq, .of_steps (.one (fenced_calm hb hr Ao) stepR_loop) harr⟩
def Lo (x y : AV) : Prop := ∀ F w v, CF F w x v → CF F w y v
theorem we {x y : AV} (h : x = y) : Lo x y := fun _ _ _ hr => h ▸ hr
theorem Bz (x : AV) : Lo x (.p .any) := fun _ _ v _ => J4 v
def JW (o o' : BL) : Prop := o'.key = o.key ∧ ∀ F w, Fc F w o → Fc F w o'
theorem oe {o o' : BL} (h : o = o') : JW o o' := ⟨by rw [h], fun _ _ hr => h ▸ hr⟩
def EK : List BL → List BL → Prop
 | [], l => l = []
 | o :: l, r => ∃ o' r', r = o' :: r' ∧ JW o o' ∧ EK l r'
theorem EK.refl : ∀ (l : List BL), EK l l
 | [] => rfl
 | o :: l => ⟨o, l, rfl, oe rfl, EK.refl l⟩
theorem EK.keys : ∀ {l r : List BL}, EK l r → r.filterMap BL.key = l.filterMap BL.key
 | [], r, h => by simp only [EK] at h; subst h; rfl
 | o :: l, r, h => by
  obtain ⟨o', r', rfl, h1, h2⟩ := h
  simp [List.filterMap_cons, h1.1, EK.keys h2]
theorem EK.mem : ∀ {l r : List BL}, EK l r → ∀ o' ∈ r, ∃ o ∈ l, JW o o'
 | [], r, h, o', ho => by simp only [EK] at h; subst h; simp at ho
 | o :: l, r, h, o', ho => by
  obtain ⟨o1, r', rfl, h1, h2⟩ := h
  rcases List.mem_cons.1 ho with rfl | ho
  ·exact ⟨o, by simp, h1⟩
  ·obtain ⟨q, hq, hw⟩ := EK.mem h2 o' ho
   exact ⟨q, by simp [hq], hw⟩
def Uz (H H' : List BL) : Prop := ∃ H1, H1.Sublist H ∧ EK H1 H'
theorem Uz.of_sub {H H' : List BL} (h : H'.Sublist H) : Uz H H' := ⟨H', h, EK.refl _⟩
structure Le (S M : Bq) : Prop where
 n : M.n = S.n
 D : M.D = S.D
 τ : ∀ t, Lo (S.τ t) (M.τ t)
 H : Uz S.H M.H
theorem Le.refl (S : Bq) : Le S S := ⟨rfl, rfl, fun _ => we rfl, .of_sub (List.Sublist.refl _)⟩
theorem HRel.sublist {F : Nat → Prop} {H H' : List BL} {w : World} (h : HRel F H w) (hs : H'.Sublist H) : HRel F H' w where
 sub o ho := h.sub o (hs.subset ho)
 nodup := (hs.filterMap BL.key).nodup h.nodup
 obj o ho := h.obj o (hs.subset ho)
 bd := h.bd
theorem HRel.leH {F : Nat → Prop} {H H' : List BL} {w : World} (h : HRel F H w) (l : Uz H H') : HRel F H' w := by
 obtain ⟨H1, h1, h2⟩ := l
 have h3 := h.sublist h1
 refine ⟨fun o ho b hb => ?_, by rw [h2.keys]; exact h3.nodup, fun o ho => ?_, h.bd⟩
 ·obtain ⟨q, hq, hw⟩ := h2.mem o ho
  exact h3.sub q hq b (by rw [← hw.1]; exact hb)
 ·obtain ⟨q, hq, hw⟩ := h2.mem o ho
  exact hw.2 F w (h3.obj q hq)
theorem DB.le {F : Nat → Prop} {S M : Bq} {a : Act} {w : World} (h : DB F S a w) (l : Le S M) : DB F M a w where
 size := by rw [h.size, l.n]
 tmp t := l.τ t F w _ (h.tmp t)
 heap := h.heap.leH l.H
 defs := by rw [l.D]; exact h.defs
theorem Trans.sublist {F F' : Nat → Prop} {H H' H'' : List BL} {w w' : World} (t : Trans F H w F' H' w') (hs : H''.Sublist H') : Trans F H w F' H'' w' :=
 { t with keys := fun o ho => t.keys o (hs.subset ho) }
theorem Trans.leH {F F' : Nat → Prop} {H H' H'' : List BL} {w w' : World} (t : Trans F H w F' H' w') (l : Uz H' H'') : Trans F H w F' H'' w' := by
 obtain ⟨H1, h1, h2⟩ := l
 refine { t with keys := fun o ho b hb => ?_ }
 obtain ⟨q, hq, hw⟩ := h2.mem o ho
 exact t.keys q (h1.subset hq) b (by rw [← hw.1]; exact hb)
theorem Trans.le {F : Nat → Prop} {S M : Bq} {w : World} (l : Le S M) : Trans F S.H w F M.H w := Trans.refl.leH l.H
theorem PD (I : Nat → Bq → Prop) {m : Nat} {M : Bq} (l : Le S M) (h₀ : I m M)
  (round : ∀ m S, I m S → Hj P r c S (PZ (fun S' => ∃ m' M', m' < m ∧ Le S' M' ∧ I m' M') Q)) : Hj P r (.loop c) S Q := by
 intro F a w hs
 refine Ou (P := P) (fun m a' w' => ∃ S' F', I m S' ∧ DB F' S' a' w' ∧ Trans F S.H w F' S'.H w') ?_ (m := m)
  ⟨M, F, h₀, hs.le l, Trans.le l⟩
 rintro m a₁ w₁ ⟨S₁, F₁, hI, hs₁, ht₁⟩
 refine wpIn_mono (round m S₁ hI F₁ a₁ w₁ hs₁) ?_
 rintro e a' w' ⟨e', S', F', hq, he, hs', ht⟩
 cases e' with
 | normal =>
  obtain rfl : e = .normal := he
  obtain ⟨m', M', hlt, hle, hI'⟩ := hq
  exact ⟨m', hlt, M', F', hI', hs'.le hle, (ht₁.trans hs.heap.bd ht).leH hle.H⟩
 | exit id => obtain rfl : e = .exit id := he; exact ⟨.exit id, S', F', hq, rfl, hs', ht₁.trans hs.heap.bd ht⟩
 | ret => obtain rfl : e = .ret := he; exact ⟨.ret, S', F', hq, rfl, hs', ht₁.trans hs.heap.bd ht⟩
 | panic v => obtain ⟨u, rfl, hu⟩ := he; exact ⟨.panic v, S', F', hq, ⟨u, rfl, hu⟩, hs', ht₁.trans hs.heap.bd ht⟩
def Oa (τ : Nat → AV) : List (Nat × AV) → Prop
 | [] => True
 | (t, v) :: r => τ t = v ∧ Oa τ r
theorem Nt (τ : Nat → AV) : ∀ (l : List (Nat × AV)), Oa τ l → ∀ t, mk l t = τ t ∨ mk l t = .p .any
 | [], _, t => .inr rfl
 | (d, v) :: r, h, t => by
  simp only [mk]
  by_cases e : t = d
  ·subst e
   rw [Nat.beq_refl]
   exact .inl h.1.symm
  ·have : Nat.beq t d = false := by
    cases hq : Nat.beq t d with
    | false => rfl
    | true => exact absurd (Nat.eq_of_beq_eq_true hq) e
   rw [this]
   exact Nt τ r h.2 t
theorem Gr {n : Nat} {τ : Nat → AV} {H H' : List BL} {D : List Di} {l : List (Nat × AV)} (h : Oa τ l) (hH : H'.Sublist H) :
  Le ⟨n, τ, H, D⟩ ⟨n, mk l, H', D⟩ := ⟨rfl, rfl, fun t => (Nt τ l h t).elim (fun e => we e.symm) (fun e => by show Lo (τ t) (mk l t); rw [e]; exact Bz _), .of_sub hH⟩
def OL (τ : Nat → AV) : List (Nat × AV) → Prop
 | [] => True
 | (t, v) :: r => Lo (τ t) v ∧ OL τ r
theorem L4 (τ : Nat → AV) : ∀ (l : List (Nat × AV)), OL τ l → ∀ t, Lo (τ t) (mk l t)
 | [], _, t => Bz _
 | (d, v) :: r, h, t => by
  simp only [mk]
  by_cases e : t = d
  ·subst e
   rw [Nat.beq_refl]
   exact h.1
  ·have : Nat.beq t d = false := by
    cases hq : Nat.beq t d with
    | false => rfl
    | true => exact absurd (Nat.eq_of_beq_eq_true hq) e
   rw [this]
   exact L4 τ r h.2 t
theorem B8 {n : Nat} {τ : Nat → AV} {H H' : List BL} {D : List Di} {l : List (Nat × AV)} (h : OL τ l) (hH : Uz H H') :
  Le ⟨n, τ, H, D⟩ ⟨n, mk l, H', D⟩ := ⟨rfl, rfl, L4 τ l h, hH⟩
end
inductive DM where
 | val (v : AV)
 | panic (v : AV)
section
variable {F F' : Nat → Prop} {w w' : World}
theorem Bu.length : ∀ {xs : List AV} {vs : List Value}, Bu F w xs vs → vs.length = xs.length
 | [], vs, h => by simp only [Bu] at h; simp [h]
 | x :: xs, vs, h => by
  simp only [Bu] at h
  obtain ⟨u, us, rfl, _, h2⟩ := h
  simp [Bu.length h2]
theorem Bu.get : ∀ {xs : List AV} {vs : List Value} {i : Nat} {x : AV}, Bu F w xs vs → xs[i]? = some x → ∃ v, vs[i]? = some v ∧ CF F w x v
 | [], vs, i, x, _, hx => by simp at hx
 | y :: xs, vs, i, x, h, hx => by
  simp only [Bu] at h
  obtain ⟨u, us, rfl, h1, h2⟩ := h
  cases i with
  | zero => simp at hx; subst hx; exact ⟨u, by simp, h1⟩
  | succ i => simp at hx; simpa using Bu.get h2 hx
theorem Bu.set : ∀ {xs : List AV} {vs : List Value} {i : Nat} {x : AV} {v : Value}, Bu F w xs vs → CF F w x v → Bu F w (xs.set i x) (vs.set i v)
 | [], vs, i, x, v, h, hx => by simp only [Bu] at h; subst h; simp [Bu]
 | y :: xs, vs, i, x, v, h, hx => by
  simp only [Bu] at h
  obtain ⟨u, us, rfl, h1, h2⟩ := h
  cases i with
  | zero => simp only [List.set_cons_zero, Bu]; exact ⟨v, us, rfl, hx, h2⟩
  | succ i => simp only [List.set_cons_succ, Bu]; exact ⟨u, us.set i v, rfl, h1, Bu.set h2 hx⟩
theorem Bu.append : ∀ {xs ys : List AV} {vs us : List Value}, Bu F w xs vs → Bu F w ys us → Bu F w (xs ++ ys) (vs ++ us)
 | [], ys, vs, us, h, h' => by simp only [Bu] at h; subst h; simpa using h'
 | x :: xs, ys, vs, us, h, h' => by
  simp only [Bu] at h
  obtain ⟨u, t, rfl, h1, h2⟩ := h
  simp only [List.cons_append, Bu]
  exact ⟨u, t ++ us, Ao, h1, Bu.append h2 h'⟩
theorem Bu.drop : ∀ {xs : List AV} {vs : List Value} (n : Nat), Bu F w xs vs → Bu F w (xs.drop n) (vs.drop n)
 | xs, vs, 0, h => by simpa using h
 | [], vs, n + 1, h => by simp only [Bu] at h; subst h; simp [Bu]
 | x :: xs, vs, n + 1, h => by
  simp only [Bu] at h
  obtain ⟨u, t, rfl, _, h2⟩ := h
  simpa using Bu.drop n h2
theorem Bu.take : ∀ {xs : List AV} {vs : List Value} (n : Nat), Bu F w xs vs → Bu F w (xs.take n) (vs.take n)
 | xs, vs, 0, h => by simp [Bu]
 | [], vs, n + 1, h => by simp only [Bu] at h; subst h; simp [Bu]
 | x :: xs, vs, n + 1, h => by
  simp only [Bu] at h
  obtain ⟨u, t, rfl, h1, h2⟩ := h
  simp only [List.take_succ_cons, Bu]
  exact ⟨u, t.take n, Ao, h1, Bu.take n h2⟩
theorem Bu.mapEval {ρ : Operand → AV} {E : Operand → Value} : ∀ (l : List Operand), (∀ x ∈ l, CF F w (ρ x) (E x)) → Bu F w (l.map ρ) (l.map E)
 | [], _ => by simp [Bu]
 | x :: l, h => by
  simp only [List.map_cons, Bu]
  exact ⟨E x, l.map E, Ao, h x An, Bu.mapEval l fun y hy => h y (by simp [hy])⟩
end
def C6 (P : Program) (o : Oper) (ρ : Operand → AV) (H : List BL) (R : DM → List BL → Prop) : Prop :=
 ∀ r F S a w, DB F S a w → S.H = H → (∀ x ∈ o.op.operands.toList, ev S.τ x = ρ x) → (∀ t, o.dst = some t → t < S.n) →
  o.wpIn (W r) 0 P a w (fun a' w' => ∃ v H' F', R (.val v) H' ∧ DB F' (S.put o.dst v H') a' w' ∧ Trans F H w F' H' w')
   (fun e a' w' => ∃ v H' F' u, R (.panic v) H' ∧ e = .panic [{ v := u, recovered := false }] ∧ CF F' w' v u ∧ DB F' ⟨S.n, S.τ, H', S.D⟩ a' w' ∧ Trans F H w F' H' w')
def Yn (v : AV) (H : List BL) : DM → List BL → Prop
 | .val v', H' => v' = v ∧ H' = H
 | .panic _, _ => False
abbrev DS (P : Program) (o : Oper) (ρ : Operand → AV) (H : List BL) (v : AV) (H' : List BL) : Prop := C6 P o ρ H (Yn v H')
theorem C6.mono {P : Program} {o : Oper} {ρ : Operand → AV} {H : List BL} {R R' : DM → List BL → Prop} (h : C6 P o ρ H R) (hr : ∀ r H, R r H → R' r H) : C6 P o ρ H R' := by
 intro r F S a w hs hH hρ hd
 have := h r F S a w hs hH hρ hd
 unfold Oper.wpIn at *
 refine ⟨this.1, ?_⟩
 replace this := this.2
 generalize (o.semAt (W r).round a.eval).run P w = rr at *
 cases rr with
 | ok n w' =>
  cases n <;> simp only [Oper.uponIn] at this ⊢
  case value v => obtain ⟨v, H', F', h1, h2⟩ := this; exact ⟨v, H', F', hr _ _ h1, h2⟩
  case skip => obtain ⟨v, H', F', h1, h2⟩ := this; exact ⟨v, H', F', hr _ _ h1, h2⟩
  case defer d => obtain ⟨v, H', F', h1, h2⟩ := this; exact ⟨v, H', F', hr _ _ h1, h2⟩
  case enter f args =>
   refine ⟨this.1, this.2.mono fun e w'' he => ?_⟩
   cases e with
   | returned v => obtain ⟨v, H', F', h1, h2⟩ := he; exact ⟨v, H', F', hr _ _ h1, h2⟩
   | panicked c => obtain ⟨v, H', F', u, h1, h2⟩ := he; exact ⟨v, H', F', u, hr _ _ h1, h2⟩
   | outgrown => obtain ⟨_, _, v, H', F', u, h1, h2, _⟩ := he; cases h2
  case row row args => exact ⟨this.1, this.2.mono fun v w'' ⟨v, H', F', h1, h2⟩ => ⟨v, H', F', hr _ _ h1, h2⟩⟩
  case round l f tmps assign body =>
   refine ⟨this.1, this.2.mono fun e w'' he => ?_⟩
   cases e with
   | returned v => obtain ⟨v, H', F', h1, h2⟩ := he; exact ⟨v, H', F', hr _ _ h1, h2⟩
   | panicked c => obtain ⟨v, H', F', u, h1, h2⟩ := he; exact ⟨v, H', F', u, hr _ _ h1, h2⟩
   | outgrown => obtain ⟨_, _, v, H', F', u, h1, h2, _⟩ := he; cases h2
 | halt x w' =>
  cases x <;> simp only [Oper.uponIn] at this ⊢
  case panic v => obtain ⟨v, H', F', u, h1, h2⟩ := this; exact ⟨v, H', F', u, hr _ _ h1, h2⟩
def KK : Op → Bool
 | .defer _ => false
 | _ => true
theorem TT {o : Oper} (h : KK o.op = true) (r : Option Nat) (ρ : Operand → Value) : o.semAt (W r).round ρ = execOp ρ o :=
 Oper.semAt_eq _ ρ o fun c hc => by rw [hc] at h; cases h
theorem KE {P : Program} {o : Oper} (h : KK o.op = true) {r : Option Nat} {a : Act} {w : World} {K : Act → World → Prop} {Q : Exit → Act → World → Prop} (hu : o.uponIn (W r) 0 P a K Q ((execOp a.eval o).run P w)) : o.wpIn (W r) 0 P a w K Q :=
 ⟨fun _ _ => trivial, by rw [TT h]; exact hu⟩
theorem CK {P : Program} {o : Oper} {ρ : Operand → AV} {H : List BL} {v : AV}
  (h : ∀ (F : Nat → Prop) (w : World) (E : Operand → Value), HRel F H w → (∀ x ∈ o.op.operands.toList, CF F w (ρ x) (E x)) →
   ∃ u, (execOp E o).run P w = .ok (.value u) w ∧ CF F w v u) (hdf : KK o.op = true := by rfl) : DS P o ρ H v H := by
 intro r F S a w hs hH hρ hd
 subst hH
 refine KE hdf ?_
 obtain ⟨u, hu, hr⟩ := h F w a.eval hs.heap fun x hx => by rw [← hρ x hx]; exact hs.eval x
 simp only [hu, Oper.uponIn]
 exact ⟨v, S.H, F, ⟨Ao, Ao⟩, hs.put hd ⟨Nat.le_refl _, fun _ _ _ => Ao, fun _ h _ => h⟩ hs.heap hr, .refl⟩
theorem FW {P : Program} {o : Oper} {ρ : Operand → AV} {H : List BL} {R : DM → List BL → Prop}
  (h : ∀ (F : Nat → Prop) (w : World) (E : Operand → Value), HRel F H w → (∀ x ∈ o.op.operands.toList, CF F w (ρ x) (E x)) →
   ∃ u w' v H' F', (execOp E o).run P w = .ok (.value u) w' ∧ R (.val v) H' ∧ Trans F H w F' H' w' ∧ HRel F' H' w' ∧ CF F' w' v u) (hdf : KK o.op = true := by rfl) : C6 P o ρ H R := by
 intro r F S a w hs hH hρ hd
 subst hH
 refine KE hdf ?_
 obtain ⟨u, w', v, H', F', hu, hR, ht, hH', hr⟩ := h F w a.eval hs.heap fun x hx => by rw [← hρ x hx]; exact hs.eval x
 simp only [hu, Oper.uponIn]
 exact ⟨v, H', F', hR, hs.put hd (ht.stable hs.heap.sub) hH' hr, ht⟩
theorem F4 {P : Program} {o : Oper} {ρ : Operand → AV} {H : List BL} {R : DM → List BL → Prop}
  (h : ∀ (F : Nat → Prop) (w : World) (E : Operand → Value), HRel F H w → (∀ x ∈ o.op.operands.toList, CF F w (ρ x) (E x)) →
   ∃ w' H' F', (execOp E o).run P w = .ok .skip w' ∧ R (.val (.p .any)) H' ∧ Trans F H w F' H' w' ∧ HRel F' H' w') (hdf : KK o.op = true := by rfl) : C6 P o ρ H R := by
 intro r F S a w hs hH hρ hd
 subst hH
 refine KE hdf ?_
 obtain ⟨w', H', F', hu, hR, ht, hH'⟩ := h F w a.eval hs.heap fun x hx => by rw [← hρ x hx]; exact hs.eval x
 simp only [hu, Oper.uponIn]
 exact ⟨.p .any, H', F', hR, hs.put hd (ht.stable hs.heap.sub) hH' (J4 _), ht⟩
def G7 : Option Nat → Nat → Bool
 | some t, n => Nat.blt t n
 | none, _ => true
def AL (P : Program) (r : Option Nat) (ops : Array Oper) (k : Nat) (S : Bq) (Q : Ck → Bq → Prop) : Prop :=
 ∀ F a w, DB F S a w → wpOpsIn (W r) 0 P ops (post F S.H w Q) (List.range' k (ops.size - k)) a w
theorem DV {P : Program} {r : Option Nat} {ops : Array Oper} {Q Q' : Exit → Act → World → Prop} (hq : ∀ e a w, Q e a w → Q' e a w) : ∀ (l : List Nat) (a : Act) (w : World), wpOpsIn (W r) 0 P ops Q l a w → wpOpsIn (W r) 0 P ops Q' l a w
 | [], a, w, h => hq _ _ _ h
 | i :: l, a, w, h => by
  rw [wpOpsIn_cons] at h ⊢
  unfold wpOpIn at h ⊢
  split
  ·rename_i ho; simp only [ho] at h; exact DV hq l a w h
  ·rename_i o ho
   simp only [ho] at h
   split
   ·rename_i hw
    simp only [hw, if_true] at h
    unfold Oper.wpIn at *
    refine ⟨h.1, ?_⟩
    replace h := h.2
    generalize (o.semAt (W r).round a.eval).run P w = rr at *
    cases rr with
    | ok n w' =>
     cases n <;> simp only [Oper.uponIn] at h ⊢
     case value v => exact DV hq l _ _ h
     case skip => exact DV hq l _ _ h
     case defer d => exact DV hq l _ _ h
     case enter f args =>
      refine ⟨h.1, h.2.mono fun e w'' he => ?_⟩
      cases e with
      | returned v => exact DV hq l _ _ he
      | panicked c => exact hq _ _ _ he
      | outgrown => obtain ⟨a₀, w₀, h2⟩ := he; exact ⟨a₀, w₀, hq _ _ _ h2⟩
     case row row args => exact ⟨h.1, h.2.mono fun v w'' h => DV hq l _ _ h⟩
     case round l' f tmps assign body =>
      refine ⟨h.1, h.2.mono fun e w'' he => ?_⟩
      cases e with
      | returned v => exact DV hq l _ _ he
      | panicked c => exact hq _ _ _ he
      | outgrown => obtain ⟨a₀, w₀, h2⟩ := he; exact ⟨a₀, w₀, hq _ _ _ h2⟩
    | halt x w' =>
     cases x <;> simp only [Oper.uponIn] at h ⊢
     case panic v => exact hq _ _ _ h
   ·rename_i hw; simp only [hw] at h; exact ⟨h.1, DV hq l _ _ h.2⟩
theorem _root_.Go.Ag {α : Prop} (h : α := by simp [C4]) : α := h
section
variable {P : Program} {r : Option Nat} {ops : Array Oper} {S : Bq} {Q : Ck → Bq → Prop} {k : Nat}
theorem Aq {id : Nat} (h : AL P r ops 0 S Q) : Hj P r (.region id ops false) S Q := by
 intro F a w hs
 refine wpIn_region ?_
 have := h F a w hs
 rwa [Nat.sub_zero, ← List.range_eq_range'] at this
theorem Au (hk : ops.size - k = 0) (h : Q .normal S) : AL P r ops k S Q := by
 intro F a w hs
 rw [hk]
 exact ⟨.normal, S, F, h, Ao, hs, .refl⟩
def Tp (x : AV) (want : Bool) : Prop := (∃ b, x = .p (.bool b) ∧ (b == want) = false) ∨ x = .tup []
def C4 (ops : Array Oper) (S : Bq) (o : Oper) : Prop :=
 match o.guard with
 | none => True
 | some (j, want) => ∃ d, (ops[j]?).bind (·.dst) = some d ∧ S.τ d = .p (.bool want)
theorem Gp {F : Nat → Prop} {a : Act} {w : World} {o : Oper} (hs : DB F S a w) (h : C4 ops S o) : Region.wanted o (yielded ops a.tmps) = true := by
 unfold C4 at h
 unfold Region.wanted
 cases hg : o.guard with
 | none => rfl
 | some jw =>
  obtain ⟨j, want⟩ := jw
  simp only [hg] at h
  obtain ⟨d, hd, hv⟩ := h
  have := hs.tmp d
  rw [hv] at this
  simp only [CF, CQ] at this
  have hlt : d < a.tmps.size := by
   rcases Nat.lt_or_ge d a.tmps.size with h | h
   ·exact h
   ·simp [Array.getElem?_eq_none h, undef] at this
  have h2 : a.tmps[d]? = some (.bool want) := by
   simp [Array.getElem?_eq_getElem hlt] at this ⊢
   exact this
  simp [yielded, hd, h2]
theorem Ht {n k : Nat} (h : k < n) : List.range' k (n - k) = k :: List.range' (k + 1) (n - (k + 1)) := by
 have : n - k = (n - (k + 1)) + 1 := by omega
 rw [this]
 rfl
theorem ER {o : Oper} (ho : ops[k]? = some o) (hg : C4 ops S o) (hd : ∀ t, o.dst = some t → t < S.n) {R : DM → List BL → Prop} (h : C6 P o (ev S.τ) S.H R)
  (next : ∀ v H', R (.val v) H' → AL P r ops (k + 1) (S.put o.dst v H') Q) (pan : ∀ v H', R (.panic v) H' → Q (.panic v) ⟨S.n, S.τ, H', S.D⟩) : AL P r ops k S Q := by
 intro F a w hs
 have hk : k < ops.size := by
  rcases Nat.lt_or_ge k ops.size with h | h
  ·exact h
  ·simp [Array.getElem?_eq_none h] at ho
 rw [Ht hk, wpOpsIn_cons]
 unfold wpOpIn
 simp only [ho, Gp hs hg, if_true]
 have hw := h r F S a w hs rfl (fun _ _ => rfl) hd
 unfold Oper.wpIn at *
 refine ⟨hw.1, ?_⟩
 replace hw := hw.2
 generalize (o.semAt (W r).round a.eval).run P w = rr at *
 have fin : ∀ {a' w'}, (∃ v H' F', R (.val v) H' ∧ DB F' (S.put o.dst v H') a' w' ∧ Trans F S.H w F' H' w') →
   wpOpsIn (W r) 0 P ops (post F S.H w Q) (List.range' (k + 1) (ops.size - (k + 1))) a' w' := by
  rintro a' w' ⟨v, H', F', hR, hs', ht⟩
  exact DV (fun e a w => FD hs.heap.bd ht) _ _ _ (next v H' hR F' a' w' hs')
 have panics : ∀ {e a' w'}, (∃ v H' F' u, R (.panic v) H' ∧ e = .panic [{ v := u, recovered := false }] ∧ CF F' w' v u ∧ DB F' ⟨S.n, S.τ, H', S.D⟩ a' w' ∧ Trans F S.H w F' H' w') →
   post F S.H w Q e a' w' := by
  rintro e a' w' ⟨v, H', F', u, hR, rfl, hr, hs', ht⟩
  exact ⟨.panic v, _, F', pan v H' hR, ⟨u, Ao, hr⟩, hs', ht⟩
 cases rr with
 | ok n w' =>
  cases n <;> simp only [Oper.uponIn] at hw ⊢
  case value v => exact fin hw
  case skip => exact fin hw
  case defer d => exact fin hw
  case enter f args =>
   refine ⟨hw.1, hw.2.mono fun e w'' he => ?_⟩
   cases e with
   | returned v => exact fin he
   | panicked c => exact panics he
   | outgrown => obtain ⟨_, _, v, H', F', u, h1, h2, _⟩ := he; cases h2
  case row row args => exact ⟨hw.1, hw.2.mono fun v w'' h => fin h⟩
  case round l f tmps assign body =>
   refine ⟨hw.1, hw.2.mono fun e w'' he => ?_⟩
   cases e with
   | returned v => exact fin he
   | panicked c => exact panics he
   | outgrown => obtain ⟨_, _, v, H', F', u, h1, h2, _⟩ := he; cases h2
 | halt x w' =>
  cases x <;> simp only [Oper.uponIn] at hw ⊢
  case panic v => exact panics hw
variable {n : Nat} {τ : Nat → AV} {H H' : List BL} {D : List Di} {dst : Option Tmp} {op : Op} {ty : TypeId} {pos : String} {aft : Array Edge} {g : Option (Nat × Bool)} {v : AV}
theorem Fh (hd : G7 dst n = true) : ∀ t, dst = some t → t < n := by
 intro t ht
 rw [ht] at hd
 simpa [G7, Nat.blt_eq] using hd
theorem Ap (ho : ops[k]? = some ⟨dst, op, ty, pos, aft, none⟩) (hd : G7 dst n = true) (h : DS P ⟨dst, op, ty, pos, aft, none⟩ (ev τ) H v H')
  (next : AL P r ops (k + 1) ⟨n, put τ dst v, H', D⟩ Q) : AL P r ops k ⟨n, τ, H, D⟩ Q :=
 ER (S := ⟨n, τ, H, D⟩) ho Ag (Fh hd) h (fun v' H'' ⟨h1, h2⟩ => by subst h1; subst h2; exact next) (fun _ _ h => h.elim)
theorem Az {j d : Nat} {want : Bool} (ho : ops[k]? = some ⟨dst, op, ty, pos, aft, some (j, want)⟩) (hj : (ops[j]?).bind (·.dst) = some d) (hb : τ d = .p (.bool want))
  (hd : G7 dst n = true) (h : DS P ⟨dst, op, ty, pos, aft, some (j, want)⟩ (ev τ) H v H')
  (next : AL P r ops (k + 1) ⟨n, put τ dst v, H', D⟩ Q) : AL P r ops k ⟨n, τ, H, D⟩ Q :=
 ER (S := ⟨n, τ, H, D⟩) ho (by simp only [C4]; exact ⟨d, hj, hb⟩) (Fh hd) h (fun v' H'' ⟨h1, h2⟩ => by subst h1; subst h2; exact next) (fun _ _ h => h.elim)
theorem Ib {F : Nat → Prop} {S : Bq} {a : Act} {w : World} {o : Oper} {j d : Nat} {want : Bool} (hs : DB F S a w) (hg : o.guard = some (j, want)) (hj : (ops[j]?).bind (·.dst) = some d) (hu : Tp (S.τ d) want) : Region.wanted o (yielded ops a.tmps) = false := by
 have hv := hs.tmp d
 have h2 : ∀ v, a.tmps.getD d undef = v → v ≠ .bool want → ∀ x, a.tmps[d]? = some x → x ≠ .bool want := by
  intro v hv hne x hx
  have : a.tmps.getD d undef = x := by simp [hx]
  rw [this] at hv
  rw [hv]; exact hne
 have key : ∀ x, a.tmps[d]? = some x → x ≠ .bool want := by
  rcases hu with ⟨b, hb, hne⟩ | hb
  ·simp only [hb, CF, CQ] at hv
   exact h2 _ hv (fun e => by injection e with e; simp [e] at hne)
  ·simp only [hb, CF, Bu] at hv
   obtain ⟨vs, hv, rfl⟩ := hv
   exact h2 _ hv (fun e => by cases e)
 simp only [Region.wanted, hg, yielded, hj, Option.bind_some]
 cases hx : a.tmps[d]? with
 | none => simp
 | some x =>
  have := key x hx
  cases x <;> simp_all
theorem PX {j d : Nat} {want : Bool} (ho : ops[k]? = some ⟨dst, op, ty, pos, aft, some (j, want)⟩) (hj : (ops[j]?).bind (·.dst) = some d) (hu : Tp (τ d) want)
  (hd : G7 dst n = true) (next : AL P r ops (k + 1) ⟨n, put τ dst (.tup []), H, D⟩ Q) : AL P r ops k ⟨n, τ, H, D⟩ Q := by
 intro F a w hs
 have hk : k < ops.size := by
  rcases Nat.lt_or_ge k ops.size with h | h
  ·exact h
  ·simp [Array.getElem?_eq_none h] at ho
 have hw : Region.wanted ⟨dst, op, ty, pos, aft, some (j, want)⟩ (yielded ops a.tmps) = false := Ib hs rfl hj hu
 rw [Ht hk, wpOpsIn_cons]
 unfold wpOpIn
 simp only [ho, hw, Bool.false_eq_true, if_false]
 exact ⟨fun _ _ => trivial, next F _ w (hs.put (Fh hd) ⟨Nat.le_refl _, fun _ _ _ => Ao, fun _ h _ => h⟩ hs.heap (by simp only [CF, Bu, undef]; exact ⟨[], rfl, rfl⟩))⟩
theorem A0 {j d : Nat} {want b : Bool} (ho : ops[k]? = some ⟨dst, op, ty, pos, aft, some (j, want)⟩) (hj : (ops[j]?).bind (·.dst) = some d) (hb : τ d = .p (.bool b)) (hne : (b == want) = false)
  (hd : G7 dst n = true) (next : AL P r ops (k + 1) ⟨n, put τ dst (.tup []), H, D⟩ Q) : AL P r ops k ⟨n, τ, H, D⟩ Q := PX ho hj (.inl ⟨b, hb, hne⟩) hd next
theorem Cg {j d : Nat} {want : Bool} (ho : ops[k]? = some ⟨dst, op, ty, pos, aft, some (j, want)⟩) (hj : (ops[j]?).bind (·.dst) = some d) (hb : τ d = .tup [])
  (hd : G7 dst n = true) (next : AL P r ops (k + 1) ⟨n, put τ dst (.tup []), H, D⟩ Q) : AL P r ops k ⟨n, τ, H, D⟩ Q := PX ho hj (.inr hb) hd next
theorem Bm (d : Nat) {b : Bool} (hb : τ d = .p (.bool b)) (ht : b = true → AL P r ops k ⟨n, put τ (some d) (.p (.bool true)), H, D⟩ Q) (hf : b = false → AL P r ops k ⟨n, put τ (some d) (.p (.bool false)), H, D⟩ Q) : AL P r ops k ⟨n, τ, H, D⟩ Q := by
 have e : ∀ b', b = b' → put τ (some d) (.p (.bool b')) = τ := by
  intro b' hb'
  funext t
  simp only [put]
  by_cases ht : t = d
  ·subst ht; rw [Nat.beq_refl, ← hb', hb]; rfl
  ·have : Nat.beq t d = false := by
    cases hq : Nat.beq t d with
    | false => rfl
    | true => exact absurd (Nat.eq_of_beq_eq_true hq) ht
   rw [this]; rfl
 cases b with
 | true => have := ht rfl; rwa [e true rfl] at this
 | false => have := hf rfl; rwa [e false rfl] at this
end
def BZ (P : Program) (f : FuncId) : Bool :=
 match P.funcs[f]? with
 | some fn => !(fn.name == "runtime.NumGoroutine") && fn.body.isSome
 | none => false
theorem H8 {P : Program} {f : FuncId} (h : BZ P f = true) (args : Array Value) (w : World) : (callFunc f args).run P w = .ok (.enter f args) w := by
 unfold BZ at h
 cases hf : P.funcs[f]? with
 | none => simp [hf] at h
 | some fn =>
  simp only [hf, Bool.and_eq_true, Bool.not_eq_true'] at h
  obtain ⟨h1, h2⟩ := h
  have h3 : fn.body.isNone = false := by cases hb : fn.body <;> simp_all
  have hp : (program).run P w = .ok P w := rfl
  simp only [callFunc, Sem.run_bind, hp, Result.andThen_ok, hf, h1, h3, Bool.false_eq_true, if_false]
  rfl
theorem ar {P : Program} (r : Option Nat) {f : FuncId} {args : Array Value} {w : World} {R : Ending → World → Prop} (h : Calls P f args w R) : CallsIn (W r) 0 P f args w R :=
 (callsIn_wide (n := 0)).2 h
def OP (F : Nat → Prop) (w : World) : DM → Ending → Prop
 | .val v, e => ∃ u, e = .returned u ∧ CF F w v u
 | .panic v, e => ∃ u, e = .panicked [{ v := u, recovered := false }] ∧ CF F w v u
def Bl (P : Program) (f : FuncId) (args : List AV) (H : List BL) (R : DM → List BL → Prop) : Prop :=
 BZ P f = true ∧ ∀ F w vs, HRel F H w → Bu F w args vs →
  Calls P f ⟨vs⟩ w fun e w' => ∃ r H' F', R r H' ∧ OP F' w' r e ∧ HRel F' H' w' ∧ Trans F H w F' H' w'
theorem Bl.mono {P : Program} {f : FuncId} {args : List AV} {H : List BL} {R R' : DM → List BL → Prop} (h : Bl P f args H R) (hr : ∀ r H, R r H → R' r H) : Bl P f args H R' :=
 ⟨h.1, fun F w vs hH ha => (h.2 F w vs hH ha).mono fun e w' ⟨r, H', F', h1, h2⟩ => ⟨r, H', F', hr _ _ h1, h2⟩⟩
def dn : AV → AV
 | .p .nils => .p (.lst [])
 | x => x
def norm : AV → AV
 | .p .nils => .p (.lst [])
 | .agg cs => .agg (cs.map dn)
 | x => x
section
variable {F F' : Nat → Prop} {w w' : World}
theorem PS {x : AV} {v : Value} (h : CF F w x v) : CF F w (dn x) v := by
 unfold dn
 split
 ·simp only [CF, CQ] at h ⊢
  exact .inl ⟨trivial, none, 0, h⟩
 ·exact h
theorem JG : ∀ {xs : List AV} {vs : List Value}, Bu F w xs vs → Bu F w (xs.map dn) vs
 | [], vs, h => by simpa [Bu] using h
 | x :: xs, vs, h => by
  simp only [Bu, List.map_cons] at *
  obtain ⟨u, us, rfl, h1, h2⟩ := h
  exact ⟨u, us, Ao, PS h1, JG h2⟩
theorem CF.norm {x : AV} {v : Value} (h : CF F w x v) : CF F w (norm x) v := by
 cases x with
 | agg cs =>
  simp only [Abs.norm, CF] at *
  obtain ⟨vs, hv, hr⟩ := h
  exact ⟨vs, hv, JG hr⟩
 | p y => cases y <;> first | exact h | exact PS h
 | _ => exact h
theorem Bu.norm : ∀ {xs : List AV} {vs : List Value}, Bu F w xs vs → Bu F w (xs.map Abs.norm) vs
 | [], vs, h => by simpa [Bu] using h
 | x :: xs, vs, h => by
  simp only [Bu, List.map_cons] at *
  obtain ⟨u, us, rfl, h1, h2⟩ := h
  exact ⟨u, us, Ao, h1.norm, Bu.norm h2⟩
theorem HRel.perm {H H' : List BL} (h : HRel F H w) (hp : H.Perm H') : HRel F H' w where
 sub o ho := h.sub o (hp.mem_iff.2 ho)
 nodup := (hp.filterMap BL.key).nodup_iff.1 h.nodup
 obj o ho := h.obj o (hp.mem_iff.2 ho)
 bd := h.bd
theorem HRel.frame {Hs Hf Hs' : List BL} (h : HRel F (Hs ++ Hf) w) (h' : HRel F' Hs' w') (t : Trans F Hs w F' Hs' w') : HRel F' (Hs' ++ Hf) w' where
 sub o ho b hb := by
  rcases List.mem_append.1 ho with ho | ho
  ·exact h'.sub o ho b hb
  ·refine t.keep b (h.sub o (by simp [ho]) b hb) ?_
   intro o' ho' hb'
   have := h.nodup
   rw [List.filterMap_append, List.nodup_append] at this
   exact this.2.2 b (List.mem_filterMap.2 ⟨o', ho', hb'⟩) b (List.mem_filterMap.2 ⟨o, ho, hb⟩) Ao
 nodup := by
  rw [List.filterMap_append, List.nodup_append]
  have hn := h.nodup
  rw [List.filterMap_append, List.nodup_append] at hn
  refine ⟨h'.nodup, hn.2.1, ?_⟩
  rintro b hb _ hb' rfl
  obtain ⟨o, ho, hk⟩ := List.mem_filterMap.1 hb
  obtain ⟨o', ho', hk'⟩ := List.mem_filterMap.1 hb'
  rcases t.keys o ho b hk with ⟨o'', ho'', hk''⟩ | hge
  ·exact hn.2.2 b (List.mem_filterMap.2 ⟨o'', ho'', hk''⟩) b hb' Ao
  ·have := h.bd b (h.sub o' (by simp [ho']) b hk')
   omega
 obj o ho := by
  rcases List.mem_append.1 ho with ho | ho
  ·exact h'.obj o ho
  ·have hs : ∀ o ∈ Hs, ∀ b, o.key = some b → F b := fun o ho => h.sub o (by simp [ho])
   refine Fc.mono (t.stable hs) o ?_ (h.obj o (by simp [ho]))
   intro b hb
   refine t.same b (h.bd b (h.sub o (by simp [ho]) b hb)) ?_
   intro o' ho' hb'
   have := h.nodup
   rw [List.filterMap_append, List.nodup_append] at this
   exact this.2.2 b (List.mem_filterMap.2 ⟨o', ho', hb'⟩) b (List.mem_filterMap.2 ⟨o, ho, hb⟩) Ao
 bd := h'.bd
theorem Trans.frame {H Hs Hf Hs' : List BL} (hp : H.Perm (Hs ++ Hf)) (t : Trans F Hs w F' Hs' w') : Trans F H w F' (Hs' ++ Hf) w' where
 size := t.size
 same b hb hn := t.same b hb fun o ho => hn o (hp.mem_iff.2 (by simp [ho]))
 keep b hF hn := t.keep b hF fun o ho => hn o (hp.mem_iff.2 (by simp [ho]))
 fresh := t.fresh
 keys o ho b hb := by
  rcases List.mem_append.1 ho with ho | ho
  ·rcases t.keys o ho b hb with ⟨o', ho', hk⟩ | h
   ·exact .inl ⟨o', hp.mem_iff.2 (by simp [ho']), hk⟩
   ·exact .inr h
  ·exact .inl ⟨o, hp.mem_iff.2 (by simp [ho]), hb⟩
 os := t.os
 out := t.out
 tape := t.tape
end
theorem Gx {P : Program} {dst : Option Tmp} {c : Call} {ty : TypeId} {pos : String} {aft : Array Edge} {g : Option (Nat × Bool)} {f : Operand} {fid : FuncId} {first caps : List AV}
  {ρ : Operand → AV} {H Hs Hf : List BL} {A : List AV} {R : DM → List BL → Prop}
  (hc : c.callee = .value f) (hf : (ρ f = .p (.fn fid) ∧ first = [] ∧ caps = []) ∨ ρ f = .fn (.func fid) first caps)
  (hp : H.Perm (Hs ++ Hf)) (h : Bl P fid A Hs R) (hA : first ++ c.args.toList.map ρ ++ caps = A ∨ (first ++ c.args.toList.map ρ ++ caps).map norm = A) :
  C6 P ⟨dst, .call c, ty, pos, aft, g⟩ ρ H (fun r H' => ∃ Hs', R r Hs' ∧ H' = Hs' ++ Hf) := by
 intro r F S a w hs hH hρ hd
 subst hH
 refine KE Ao ?_
 have hev : ∀ x ∈ (f :: c.args.toList), CF F w (ρ x) (a.eval x) := by
  intro x hx
  rw [← hρ x (by simp [Op.operands, Call.operands, hc]; simpa using hx)]
  exact hs.eval x
 have hfv : ∃ fs cs, a.eval f = .func (.func fid) ⟨fs⟩ ⟨cs⟩ ∧ Bu F w first fs ∧ Bu F w caps cs := by
  have := hev f An
  rcases hf with ⟨h1, rfl, rfl⟩ | h1
  ·rw [h1] at this
   simp only [CF, CQ] at this
   exact ⟨[], [], this, by simp [Bu], by simp [Bu]⟩
  ·rw [h1] at this
   simpa only [CF] using this
 obtain ⟨fs, cs, hfv, hfs, hcs⟩ := hfv
 have hargs : Bu F w (c.args.toList.map ρ) (c.args.toList.map a.eval) := Bu.mapEval _ fun x hx => hev x (by simp [hx])
 have hrun : (execOp a.eval ⟨dst, .call c, ty, pos, aft, g⟩).run P w = .ok (.enter fid ⟨fs ++ c.args.toList.map a.eval ++ cs⟩) w := by
  have e : (⟨fs⟩ ++ c.args.map a.eval ++ ⟨cs⟩ : Array Value) = ⟨fs ++ c.args.toList.map a.eval ++ cs⟩ := by
   apply Array.ext'
   simp
  simp [execOp, resolve, hc, Deferred.ofValue, hfv, invoke, H8 h.1, e]
 simp only [hrun, Oper.uponIn]
 have hH' := hs.heap.perm hp
 have hHs : HRel F Hs w := hH'.sublist (List.sublist_append_left _ _)
 have hrep : Bu F w A (fs ++ c.args.toList.map a.eval ++ cs) := by
  rcases hA with rfl | rfl
  ·exact (hfs.append hargs).append hcs
  ·exact ((hfs.append hargs).append hcs).norm
 refine ⟨fun h => (by cases h), CallsIn.mono (ar r (h.2 F w _ hHs hrep)) ?_⟩
 rintro e w' ⟨r, H', F', hR, he, hH2, ht⟩
 have htf := ht.frame (H := S.H) hp
 cases r with
 | val v =>
  obtain ⟨u, rfl, hu⟩ := he
  exact ⟨v, H' ++ Hf, F', ⟨H', hR, Ao⟩, hs.put hd (htf.stable hs.heap.sub) (hH'.frame hH2 ht) hu, htf⟩
 | panic v =>
  obtain ⟨u, rfl, hu⟩ := he
  have := hs.put (d := none) (fun _ h => by cases h) (htf.stable hs.heap.sub) (hH'.frame hH2 ht) (J4 undef)
  exact ⟨v, H' ++ Hf, F', u, ⟨H', hR, Ao⟩, Ao, hu, this, htf⟩
def Nv (args : List AV) : Nat → AV := fun t => args.getD t (.p .any)
def UR (P : Program) (S : Bq) : ResultVar → AV → Prop
 | .tmp t, v => S.τ t = v
 | .cell a T, v => ∃ (b : Nat) (cs : List AV) (i : Nat), S.τ a = .ptr b 0 ∧ S.H[i]? = some (BL.box b cs) ∧
   ((∃ d, P.underlying T = some d ∧ d.isRow = true ∧ (P.info? T).map (·.size) = some cs.length ∧ v = .agg cs) ∨
    (∃ d, P.underlying T = some d ∧ d.isRow = false ∧ cs = [v]))
def Mp (P : Program) (S : Bq) : List ResultVar → List AV → Prop
 | [], vs => vs = []
 | r :: rs, vs => ∃ u us, vs = u :: us ∧ UR P S r u ∧ Mp P S rs us
abbrev pack : List AV → AV
 | [v] => v
 | vs => .tup vs
def Yf (P : Program) (fn : Func) (R : DM → List BL → Prop) : Ck → Bq → Prop
 | .normal, S | .ret, S => S.D = [] ∧ ∃ vs H', Mp P S fn.results.toList vs ∧ H'.Sublist S.H ∧ R (.val (pack vs)) H'
 | .panic v, S => S.D = [] ∧ ∃ H', H'.Sublist S.H ∧ R (.panic v) H'
 | .exit _, _ => False
theorem _root_.Go.Am {α : Prop} (h : α := by omega) : α := h
section
variable {F F' : Nat → Prop} {w w' : World} {P : Program}
theorem GP {b : Nat} {vs : List Value} {T : TypeId} (h : w.heap[b]? = some (.cells ⟨vs⟩ T (0, 0))) (o n : Nat) : w.rangeAt b o ((vs.drop o).take n) := by
 intro j v hv
 have hj : j < n := by
  rcases Nat.lt_or_ge j n with h | h
  ·exact h
  ·rw [List.getElem?_take] at hv; simp [Nat.not_lt.2 h] at hv
 rw [List.getElem?_take_of_lt hj, List.getElem?_drop] at hv
 simp [World.cell?, h, hv]
theorem HO {T : TypeId} {d : TypeDesc} (hu : P.underlying T = some d) (b : Bool) (hd : d.isRow = b) (w : World) : (isAgg T).run P w = .ok b w := by
 unfold isAgg
 rw [Sem.run_bind, run_underlying hu w]
 cases d <;> simp_all [TypeDesc.isRow]
theorem EN {T : TypeId} {d : TypeDesc} (hu : P.underlying T = some d) (hd : d.isRow = false) {b o : Nat} {v : Value} (hc : w.cell? ⟨b, o, none⟩ = some v) :
  (loadVar T ⟨b, o, none⟩).run P w = .ok v w := by
 simp [loadVar, Sem.run_bind, HO hu false hd, load, Sem.run, hc]
theorem E9 {T : TypeId} {d : TypeDesc} (hu : P.underlying T = some d) (hd : d.isRow = true) {b o : Nat} {cs : List Value} (hc : w.rangeAt b o cs) (hi : (P.info? T).map (·.size) = some cs.length) :
  (loadVar T ⟨b, o, none⟩).run P w = .ok (.agg ⟨cs⟩) w := run_loadVar_mid w b o T cs d hc hu hd hi
def MN (tmps : Array Value) (r : ResultVar) : Sem Value :=
 match r with
 | .tmp t => pure (tmps.getD t undef)
 | .cell x t => do loadVar t (← asAddr (tmps.getD x undef))
theorem QL (fn : Func) (tmps : Array Value) : results fn tmps = (do
  let vs ← fn.results.mapM (MN tmps)
  pure (if h : vs.size = 1 then vs[0] else .tuple vs)) := by
 unfold results
 congr 1
theorem Mp.run {S : Bq} {a : Act} (hs : DB F S a w) : ∀ (rs : List ResultVar) (vs : List AV), Mp P S rs vs →
  ∃ us : List Value, (rs.mapM (MN a.tmps)).run P w = .ok us w ∧ Bu F w vs us
 | [], vs, h => by
  simp only [Mp] at h
  subst h
  exact ⟨[], Ao, by simp [Bu]⟩
 | r :: rs, vs, h => by
  simp only [Mp] at h
  obtain ⟨u, us, rfl, h1, h2⟩ := h
  obtain ⟨ws, hr, hw⟩ := Mp.run hs rs us h2
  have one : ∃ v : Value, (MN a.tmps r).run P w = .ok v w ∧ CF F w u v := by
   cases r with
   | tmp t =>
    simp only [UR] at h1
    subst h1
    exact ⟨_, Ao, hs.tmp t⟩
   | cell x t =>
    obtain ⟨b, cs, i, hp, hi, hh⟩ := h1
    have hx := hs.tmp x
    rw [hp] at hx
    simp only [CF] at hx
    obtain ⟨vs, T, hb, hl⟩ := hs.heap.obj _ (List.mem_of_getElem? hi)
    rcases hh with ⟨d, hu, hd, hsz, rfl⟩ | ⟨d, hu, hd, rfl⟩
    ·refine ⟨.agg ⟨vs⟩, ?_, by simp only [CF]; exact ⟨vs, rfl, hl⟩⟩
     have hr := GP hb 0 vs.length
     simp only [List.drop_zero, List.take_length] at hr
     simp only [MN, hx, asAddr, Sem.run_bind, Sem.run_pure, Result.andThen_ok]
     exact E9 hu hd hr (by rw [hsz, hl.length])
    ·simp only [Bu] at hl
     obtain ⟨v, us', rfl, hv, rfl⟩ := hl
     refine ⟨v, ?_, hv⟩
     simp only [MN, hx, asAddr, Sem.run_bind, Sem.run_pure, Result.andThen_ok]
     exact EN hu hd (by simp [World.cell?, hb])
  obtain ⟨v, hv, hrv⟩ := one
  refine ⟨v :: ws, ?_, by simp only [Bu]; exact ⟨v, ws, rfl, hrv, hw⟩⟩
  rw [List.mapM_cons]
  simp only [Sem.run_bind, hv, Result.andThen_ok, hr, Sem.run_pure]
theorem Ia {fn : Func} {S : Bq} {a : Act} (hs : DB F S a w) {vs : List AV} (h : Mp P S fn.results.toList vs) :
  ∃ u, (results fn a.tmps).run P w = .ok u w ∧ CF F w (pack vs) u := by
 obtain ⟨us, hr, hl⟩ := Mp.run hs _ _ h
 refine ⟨if us.length = 1 then us.getD 0 undef else .tuple ⟨us⟩, ?_, ?_⟩
 ·rw [QL, Array.mapM_eq_mapM_toList]
  simp only [Sem.run_bind, map_eq_pure_bind, bind_assoc, pure_bind]
  rw [hr]
  simp only [Result.andThen_ok, Sem.run_pure]
  congr 1
  by_cases h1 : us.length = 1
  ·match us, h1 with
   | [u], _ => simp
  ·simp [h1]
 ·match vs, us, hl with
  | [], [], _ => simp [CF, Bu, pack]
  | [v], us, hl =>
   simp only [Bu] at hl
   obtain ⟨u, us, rfl, h1, rfl⟩ := hl
   simpa [pack] using h1
  | v :: v' :: vs, us, hl =>
   have hlen := hl.length
   simp only [List.length_cons] at hlen
   rw [if_neg Am]
   simp only [CF, pack]
   exact ⟨us, Ao, hl⟩
theorem Nx : ∀ {args : List AV} {vs : List Value} (n t : Nat), Bu F w args vs → CF F w (Nv args t) ((⟨vs⟩ ++ Array.replicate n undef : Array Value).getD t undef) := by
 intro args vs n t h
 unfold Nv
 rcases Nat.lt_or_ge t args.length with hl | hl
 ·have hx : args[t]? = some args[t] := List.getElem?_eq_getElem hl
  obtain ⟨v, hv, hr⟩ := h.get hx
  have hvl : t < vs.length := by rw [h.length]; exact hl
  have : (⟨vs⟩ ++ Array.replicate n undef : Array Value)[t]? = some v := by
   rw [Array.getElem?_append_left (by simpa using hvl)]
   simpa using hv
  simp [List.getD, hx, Array.getD_eq_getD_getElem?, this, hr]
 ·simp only [List.getD, List.getElem?_eq_none hl, Option.getD_none]
  exact J4 _
theorem A3 {f : FuncId} {fn : Func} {c : Code} {args : List AV} {H : List BL} {R : DM → List BL → Prop}
  {n : Nat} (hf : P.funcs[f]? = some fn) (hb : fn.body = some c) (he : BZ P f = true) (hn' : fn.ntmps = n) (hn : Nat.ble args.length n = true)
  (h : Hj P none c ⟨n, Nv args, H, []⟩ (Yf P fn R)) : Bl P f args H R := by
 subst hn'
 rw [Nat.ble_eq] at hn
 refine ⟨he, fun F w vs hH hr => ?_⟩
 refine calls_of_wp hf hb ?_
 have hsz : (⟨vs⟩ : Array Value).size = args.length := by simpa using hr.length
 have hs : DB F ⟨fn.ntmps, Nv args, H, []⟩ { tmps := ⟨vs⟩ ++ Array.replicate (fn.ntmps - (⟨vs⟩ : Array Value).size) undef, defers := [] } w :=
  ⟨by simp only [Array.size_append, Array.size_replicate, hsz]; omega, fun t => Nx _ _ hr, hH, by simp [Eb]⟩
 refine wp_mono (wpIn_wide.1 (h F _ w hs)) ?_
 rintro e a' w' ⟨e', S', F', hq, hex, hs', ht⟩
 cases e' with
 | normal =>
  obtain rfl : e = .normal := hex
  obtain ⟨hD, vs', H', hres, hsub, hR⟩ := hq
  obtain ⟨u, hu, hru⟩ := Ia hs' hres
  have hd := hs'.defs
  rw [hD] at hd
  exact ⟨by simpa [Eb] using hd, u, hu, _, H', F', hR, ⟨u, rfl, hru⟩, hs'.heap.sublist hsub, ht.sublist hsub⟩
 | ret =>
  obtain rfl : e = .ret := hex
  obtain ⟨hD, vs', H', hres, hsub, hR⟩ := hq
  obtain ⟨u, hu, hru⟩ := Ia hs' hres
  have hd := hs'.defs
  rw [hD] at hd
  exact ⟨by simpa [Eb] using hd, u, hu, _, H', F', hR, ⟨u, rfl, hru⟩, hs'.heap.sublist hsub, ht.sublist hsub⟩
 | exit id => exact hq.elim
 | panic v =>
  obtain ⟨u, rfl, hru⟩ := hex
  obtain ⟨hD, H', hsub, hR⟩ := hq
  have hd := hs'.defs
  rw [hD] at hd
  exact ⟨by simpa [Eb] using hd, _, H', F', hR, ⟨u, rfl, hru⟩, hs'.heap.sublist hsub, ht.sublist hsub⟩
end
def DR (P : Program) (T : TypeId) : Option (Bool × Nat) :=
 match P.underlying T, P.info? T with
 | some d, some i => some (d.isRow, i.size)
 | _, _ => none
def E3 (P : Program) (T : TypeId) : Option (TypeId × Nat × Nat) :=
 match P.underlying T with
 | some (.slice e) => (P.info? e).map fun i => (e, i.size, i.bytes)
 | _ => none
def fieldsOf (P : Program) (T : TypeId) : Option (List (Nat × Nat)) :=
 match P.underlying T with
 | some (.struct fs) => fs.toList.mapM fun f => (P.info? f.type).map fun i => (f.offset, i.size)
 | _ => none
def zeroOf (P : Program) (T : TypeId) : Option Value := (P.info? T).bind (·.zero)
section
variable {P : Program} {T e : TypeId} {b : Bool} {n m : Nat}
theorem D9 (h : DR P T = some (b, n)) : ∃ d, P.underlying T = some d ∧ d.isRow = b ∧ (P.info? T).map (·.size) = some n := by
 unfold DR at h
 cases hu : P.underlying T with
 | none => simp [hu] at h
 | some d =>
  cases hi : P.info? T with
  | none => simp [hu, hi] at h
  | some i => simp [hu, hi] at h; exact ⟨d, rfl, h.1, by simp [h.2]⟩
theorem E1 (h : E3 P T = some (e, n, m)) : P.underlying T = some (.slice e) ∧ ∃ i, P.info? e = some i ∧ i.size = n ∧ i.bytes = m := by
 unfold E3 at h
 cases hu : P.underlying T with
 | none => simp [hu] at h
 | some d =>
  cases d with
  | slice e' =>
   simp [hu] at h
   obtain ⟨i, hi, h1, h2, h3⟩ := h
   subst h1
   exact ⟨Ao, i, hi, h2, h3⟩
  | _ => simp [hu] at h
theorem mapM_at {α β : Type} {f : α → Option β} : ∀ {l : List α} {r : List β} {i : Nat} {y : β}, l.mapM f = some r → r[i]? = some y → ∃ x, l[i]? = some x ∧ f x = some y
 | [], r, i, y, h, hy => by simp at h; subst h; simp at hy
 | x :: l, r, i, y, h, hy => by
  rw [List.mapM_cons] at h
  cases hx : f x with
  | none => simp [hx] at h
  | some z =>
   cases hl : l.mapM f with
   | none => simp [hx, hl] at h
   | some r' =>
    simp [hx, hl] at h
    subst h
    cases i with
    | zero => simp at hy; subst hy; exact ⟨x, by simp, hx⟩
    | succ i => simp at hy; simpa using mapM_at hl hy
theorem Jc {lay : List (Nat × Nat)} {i : Nat} (h : fieldsOf P T = some lay) (hi : lay[i]? = some (n, m)) : ∃ fs f j, P.underlying T = some (.struct fs) ∧ fs[i]? = some f ∧ f.offset = n ∧ P.info? f.type = some j ∧ j.size = m := by
 unfold fieldsOf at h
 cases hu : P.underlying T with
 | none => simp [hu] at h
 | some d =>
  cases d with
  | struct fs =>
   simp only [hu] at h
   obtain ⟨f, hf, hx⟩ := mapM_at h hi
   cases hj : P.info? f.type with
   | none => simp [hj] at hx
   | some j =>
    simp [hj] at hx
    exact ⟨fs, f, j, Ao, by simpa using hf, hx.1, hj, hx.2⟩
  | _ => simp [hu] at h
end
theorem _root_.Go.AU {α : Prop} (h : α := by simp [Op.operands, Call.operands]) : α := h
theorem _root_.Go.Ac {α : Prop} (h : α := by simp [Op.operands]) : α := h
section
variable {P : Program} {dst : Option Tmp} {ty : TypeId} {pos : String} {aft : Array Edge} {g : Option (Nat × Bool)} {ρ : Operand → AV} {H : List BL} {x y z : Operand} {v : AV}
theorem Ar (hx : ρ x = v) : DS P ⟨dst, .move x, ty, pos, aft, g⟩ ρ H v H :=
 CK fun F w E hH hE => ⟨E x, rfl, by rw [← hx]; exact hE x Ac⟩
theorem At (hx : ρ x = v) : DS P ⟨dst, .assign x, ty, pos, aft, g⟩ ρ H v H :=
 CK fun F w E hH hE => ⟨E x, rfl, by rw [← hx]; exact hE x Ac⟩
theorem A2 {b : Bool} (hx : ρ x = .p (.bool b)) (hv : (bif b then ρ y else ρ z) = v) : DS P ⟨dst, .pick x y z, ty, pos, aft, g⟩ ρ H v H :=
 CK fun F w E hH hE => by
  have h1 := hE x Ac
  rw [hx] at h1
  simp only [CF, CQ] at h1
  refine ⟨if b then E y else E z, by simp [execOp, h1, asBool], ?_⟩
  subst hv
  cases b
  ·exact hE z Ac
  ·exact hE y Ac
theorem HC (op : BinOp) (t : TypeId) (k k' : IntKind) (m n : Int) (w : World) : (eqGuard op t x y (.int k m) (.int k' n)).run P w = .ok () w := by
 unfold eqGuard
 split <;> rfl
theorem A7 {k : IntKind} {m n : Int} {T U : TypeId} {op : BinOp} {b : Bool} (hx : ρ x = .p (.int k m)) (hy : ρ y = .p (.int k n))
  (hb : (match op with | .eql => some (m == n) | .neq => some (m != n) | .lss => some (decide (m < n)) | .leq => some (decide (m ≤ n)) | .gtr => some (decide (m > n)) | .geq => some (decide (m ≥ n)) | _ => none) = some b) :
  DS P ⟨dst, .binOp op T x y U, ty, pos, aft, g⟩ ρ H (.p (.bool b)) H :=
 CK fun F w E hH hE => by
  have h1 := hE x Ac
  have h2 := hE y Ac
  rw [hx] at h1
  rw [hy] at h2
  simp only [CF, CQ] at h1 h2
  refine ⟨.bool b, ?_, by simp [CF, CQ]⟩
  cases op <;> simp at hb <;> subst hb <;> simp [execOp, Sem.run_bind, HC, h1, h2, binOp, Op.intCmp]
theorem OA {k : IntKind} {n : Int} (h1 : k.min ≤ n) (h2 : n ≤ k.max) : k.wrap n = n := by
 unfold IntKind.wrap
 cases k <;> simp [IntKind.min, IntKind.max, IntKind.signed, IntKind.bits] at * <;> omega
theorem NZ {k : IntKind} {m n r : Int} {T U : TypeId} {op : BinOp} (hx : ρ x = .p (.int k m)) (hy : ρ y = .p (.int k n))
  (hb : (match op with | .add => some (m + n) | .sub => some (m - n) | .mul => some (m * n) | _ => none) = some r) (h1 : k.min ≤ r) (h2 : r ≤ k.max) :
  DS P ⟨dst, .binOp op T x y U, ty, pos, aft, g⟩ ρ H (.p (.int k r)) H :=
 CK fun F w E hH hE => by
  have e1 := hE x Ac
  have e2 := hE y Ac
  rw [hx] at e1
  rw [hy] at e2
  simp only [CF, CQ] at e1 e2
  refine ⟨.int k r, ?_, by simp [CF, CQ]⟩
  cases op <;> simp at hb <;> subst hb <;> simp [execOp, Sem.run_bind, HC, e1, e2, binOp, Op.intArith, OA h1 h2]
theorem Co {b : Bool} {T : TypeId} (hx : ρ x = .p (.bool b)) : DS P ⟨dst, .unOp .not T x, ty, pos, aft, g⟩ ρ H (.p (.bool (!b))) H :=
 CK fun F w E hH hE => by
  have h1 := hE x Ac
  rw [hx] at h1
  simp only [CF, CQ] at h1
  exact ⟨.bool (!b), by simp [execOp, h1, Op.unary], by simp [CF, CQ]⟩
theorem BY {xs : List AV} {i : Nat} (hx : ρ x = .tup xs) (hi : xs[i]? = some v) : DS P ⟨dst, .extract x i, ty, pos, aft, g⟩ ρ H v H :=
 CK fun F w E hH hE => by
  have h1 := hE x Ac
  rw [hx] at h1
  simp only [CF] at h1
  obtain ⟨vs, hv, hl⟩ := h1
  obtain ⟨u, hu, hr⟩ := hl.get hi
  exact ⟨u, by simp [execOp, hv, Instr.extract, hu], hr⟩
theorem Jk {a : Operand} {T e : TypeId} {n n1 n2 : Nat} (hT : E3 P T = some (e, n1, n2)) (hx : (∃ rows, ρ a = .p (.lst rows) ∧ rows.length = n) ∨ (∃ o c, ρ a = .vs o n c) ∨ (ρ a = .p .nils ∧ n = 0)) :
  DS P ⟨dst, .call { callee := .builtin .len, args := #[a], argTypes := #[T] }, ty, pos, aft, g⟩ ρ H (.p (.int .i64 n)) H :=
 CK fun F w E hH hE => by
  have h1 := hE a AU
  obtain ⟨hu, _⟩ := E1 hT
  have hv : ∃ o c, E a = .slice o n c := by
   rcases hx with ⟨rows, hr, rfl⟩ | ⟨o, c, hr⟩ | ⟨hr, rfl⟩
   ·rw [hr] at h1
    simp only [CF, CQ] at h1
    rcases h1 with ⟨rfl, o, c, hv⟩ | ⟨b, o, c, sz, hv, _⟩
    ·exact ⟨o, c, hv⟩
    ·exact ⟨_, c, hv⟩
   ·rw [hr] at h1
    cases o with
    | some b => simp only [CF] at h1; exact ⟨_, c, h1⟩
    | none => simp only [CF] at h1; obtain ⟨rfl, rfl, a, h1⟩ := h1; exact ⟨a, 0, h1⟩
   ·rw [hr] at h1
    simp only [CF, CQ] at h1
    exact ⟨none, 0, h1⟩
  obtain ⟨o, c, hv⟩ := hv
  refine ⟨.int .i64 n, ?_, by simp [CF, CQ]⟩
  simp [execOp, resolve, invoke, builtin, Builtin.len_, hv, Sem.run_bind, run_underlying hu, goInt]
theorem Cx {a : Operand} {T e : TypeId} {n1 n2 : Nat} {rows : List (List PV)} (hT : E3 P T = some (e, n1, n2)) (hx : ρ a = .p (.lst rows)) :
  DS P ⟨dst, .call { callee := .builtin .len, args := #[a], argTypes := #[T] }, ty, pos, aft, g⟩ ρ H (.p (.int .i64 rows.length)) H := Jk hT (.inl ⟨rows, hx, rfl⟩)
theorem Av {T : TypeId} {lay : List (Nat × Nat)} {i b o off sz : Nat} (hT : fieldsOf P T = some lay) (hi : lay[i]? = some (off, sz + 1)) (hx : ρ x = .ptr b o) :
  DS P ⟨dst, .fieldAddr T x i, ty, pos, aft, g⟩ ρ H (.ptr b (o + off)) H :=
 CK fun F w E hH hE => by
  obtain ⟨fs, f, j, hu, hf, rfl, hj, hs'⟩ := Jc hT hi
  have h1 := hE x Ac
  rw [hx] at h1
  simp only [CF] at h1
  ·have hs : ¬ j.size = 0 := by omega
   refine ⟨.pointer (some ⟨b, o + f.offset, none⟩), ?_, by simp [CF]⟩
   simp [execOp, Instr.fieldAt, Sem.run_bind, run_underlying hu, hf, h1, Instr.sureAddr, fieldPlace, sizeOf, typeInfo, hj, hs, Addr.add_mid]
theorem CO.drop {F : Nat → Prop} {w : World} {b : Nat} : ∀ {cs : List PV} {o : Nat} (n : Nat), CO F w b o cs → CO F w b (o + n) (cs.drop n)
 | cs, o, 0, h => by simpa using h
 | [], o, n + 1, h => by simp [CO]
 | c :: cs, o, n + 1, h => by
  simp only [CO] at h
  have := CO.drop n h.2
  simp only [List.drop_succ_cons]
  rwa [Nat.add_assoc, Nat.add_comm 1 n] at this
theorem C3 {T : TypeId} {lay : List (Nat × Nat)} {i off sz : Nat} {cells : List PV} (hT : fieldsOf P T = some lay) (hi : lay[i]? = some (off, sz + 1)) (hx : ρ x = .ref cells) :
  DS P ⟨dst, .fieldAddr T x i, ty, pos, aft, g⟩ ρ H (.ref (cells.drop off)) H :=
 CK fun F w E hH hE => by
  obtain ⟨fs, f, j, hu, hf, rfl, hj, hs'⟩ := Jc hT hi
  have h1 := hE x Ac
  rw [hx] at h1
  simp only [CF] at h1
  obtain ⟨b, o, hv, hF, hb, hc⟩ := h1
  ·have hs : ¬ j.size = 0 := by omega
   refine ⟨.pointer (some ⟨b, o + f.offset, none⟩), ?_, by simp only [CF]; exact ⟨b, o + f.offset, rfl, hF, hb, hc.drop _⟩⟩
   simp [execOp, Instr.fieldAt, Sem.run_bind, run_underlying hu, hf, hv, Instr.sureAddr, fieldPlace, sizeOf, typeInfo, hj, hs, Addr.add_mid]
theorem Bw.at {F : Nat → Prop} {w : World} {b sz : Nat} : ∀ {rows : List (List PV)} {o i : Nat} {r : List PV}, Bw F w b sz o rows → rows[i]? = some r → CO F w b (o + i * sz) r ∧ r.length = sz
 | [], o, i, r, _, hr => by simp at hr
 | r' :: rows, o, i, r, h, hr => by
  simp only [Bw] at h
  cases i with
  | zero => simp at hr; subst hr; simpa using ⟨h.2.1, h.1⟩
  | succ i =>
   simp at hr
   have := Bw.at h.2.2 hr
   rw [Nat.succ_mul]
   refine ⟨?_, this.2⟩
   have e : o + sz + i * sz = o + (i * sz + sz) := by omega
   rw [← e]; exact this.1
theorem BJ {T e : TypeId} {n1 n2 : Nat} {rows : List (List PV)} {k : IntKind} {i : Int} {r : List PV} (hT : E3 P T = some (e, n1, n2)) (hx : ρ x = .p (.lst rows)) (hy : ρ y = .p (.int k i))
  (h0 : 0 ≤ i) (hr : rows[i.toNat]? = some r) (hz : r.length = n1) :
  DS P ⟨dst, .indexAddr T x y, ty, pos, aft, g⟩ ρ H (.ref r) H :=
 CK fun F w E hH hE => by
  obtain ⟨hu, j, hj, hs1, _⟩ := E1 hT
  have h1 := hE x Ac
  have h2 := hE y Ac
  rw [hx] at h1
  rw [hy] at h2
  simp only [CF, CQ] at h1 h2
  have hlt : i.toNat < rows.length := (List.getElem?_eq_some_iff.1 hr).1
  rcases h1 with ⟨rfl, _⟩ | ⟨b, o, c, sz, hv, hF, hb, hc, hrows⟩
  ·simp at hlt
  ·obtain ⟨hcells, hsz⟩ := hrows.at hr
   ·have hs : j.size = sz := by omega
    refine ⟨.pointer (some ⟨b, o + i.toNat * sz, none⟩), ?_, by simp only [CF]; exact ⟨b, _, rfl, hF, hb, hcells⟩⟩
    have hlt' : i < rows.length := by omega
    simp [execOp, Instr.indexAt, Sem.run_bind, run_underlying hu, hv, h2, asIntOf, h0, hlt', sizeOf, typeInfo, hj, hs, Addr.add_mid]
theorem CO.vals {F : Nat → Prop} {w : World} {b : Nat} : ∀ {cs : List PV} {o : Nat}, CO F w b o cs → ∃ vs : List Value, w.rangeAt b o vs ∧ vs.length = cs.length ∧ Bu F w (cs.map .p) vs
 | [], o, _ => ⟨[], by intro j v h; simp at h, rfl, by simp [Bu]⟩
 | c :: cs, o, h => by
  simp only [CO] at h
  obtain ⟨⟨v, hv, hp⟩, hr⟩ := h
  obtain ⟨vs, h1, h2, h3⟩ := CO.vals hr
  refine ⟨v :: vs, ?_, by simp [h2], by simp only [List.map_cons, Bu, CF]; exact ⟨v, vs, rfl, hp, h3⟩⟩
  intro j u hu
  cases j with
  | zero => simp at hu; subst hu; simpa using hv
  | succ j =>
   simp at hu
   have := h1 j u hu
   rwa [Nat.add_assoc, Nat.add_comm 1 j] at this
theorem CO.take {F : Nat → Prop} {w : World} {b : Nat} : ∀ {cs : List PV} {o : Nat} (n : Nat), CO F w b o cs → CO F w b o (cs.take n)
 | cs, o, 0, h => by simp [CO]
 | [], o, n + 1, h => by simp [CO]
 | c :: cs, o, n + 1, h => by
  simp only [CO, List.take_succ_cons] at *
  exact ⟨h.1, CO.take n h.2⟩
theorem Ga {T : TypeId} {n : Nat} {cells : List PV} {cs : List PV} (hT : DR P T = some (true, n)) (hx : ρ x = .ref cells) (hz' : cs.length = n) (ht : cells.take cs.length = cs) :
  DS P ⟨dst, .load T x, ty, pos, aft, g⟩ ρ H (.agg (cs.map .p)) H :=
 CK fun F w E hH hE => by
  obtain ⟨d, hu, hd, hz⟩ := D9 hT
  rw [← hz'] at hz
  have h1 := hE x Ac
  rw [hx] at h1
  simp only [CF] at h1
  obtain ⟨b, o, hv, hF, hb, hc⟩ := h1
  have hc' := hc.take cs.length
  rw [ht] at hc'
  obtain ⟨vs, h1, h2, h3⟩ := hc'.vals
  refine ⟨.agg ⟨vs⟩, ?_, by simp only [CF]; exact ⟨vs, rfl, h3⟩⟩
  simp only [execOp, Instr.loadAt, hv, Instr.sureAddr, Sem.run_bind, Sem.run_pure, Result.andThen_ok, E9 hu hd h1 (by rw [hz, h2])]
theorem Be {T : TypeId} {n : Nat} {cells : List PV} (hT : DR P T = some (true, n)) (hx : ρ x = .ref cells) (hz : cells.length = n) :
  DS P ⟨dst, .load T x, ty, pos, aft, g⟩ ρ H (.agg (cells.map .p)) H := Ga hT hx hz (List.take_length)
theorem CG {T : TypeId} {n : Nat} {c : PV} {cs : List PV} (hT : DR P T = some (false, n)) (hx : ρ x = .ref (c :: cs)) :
  DS P ⟨dst, .load T x, ty, pos, aft, g⟩ ρ H (.p c) H :=
 CK fun F w E hH hE => by
  obtain ⟨d, hu, hd, hz⟩ := D9 hT
  have h1 := hE x Ac
  rw [hx] at h1
  simp only [CF] at h1
  obtain ⟨b, o, hv, hF, hb, hc⟩ := h1
  simp only [CO] at hc
  obtain ⟨⟨v, hcell, hp⟩, _⟩ := hc
  refine ⟨v, ?_, by simpa only [CF] using hp⟩
  simp only [execOp, Instr.loadAt, hv, Instr.sureAddr, Sem.run_bind, Sem.run_pure, Result.andThen_ok, EN hu hd hcell]
theorem Ax {T : TypeId} {n b o i : Nat} {cs : List AV} (hT : DR P T = some (false, n)) (hx : ρ x = .ptr b o) (hi : H[i]? = some (.box b cs)) (hv : cs[o]? = some v) :
  DS P ⟨dst, .load T x, ty, pos, aft, g⟩ ρ H v H :=
 CK fun F w E hH hE => by
  obtain ⟨d, hu, hd, hz⟩ := D9 hT
  have h1 := hE x Ac
  rw [hx] at h1
  simp only [CF] at h1
  obtain ⟨vs, T', hb, hl⟩ := hH.obj _ (List.mem_of_getElem? hi)
  obtain ⟨u, hu', hr⟩ := hl.get hv
  refine ⟨u, ?_, hr⟩
  simp only [execOp, Instr.loadAt, h1, Instr.sureAddr, Sem.run_bind, Sem.run_pure, Result.andThen_ok, EN (w := w) hu hd (b := b) (o := o) (v := u) (by simp [World.cell?, hb, hu'])]
theorem Bp {T : TypeId} {b o i n : Nat} {cs : List AV} (hT : DR P T = some (true, n)) (hx : ρ x = .ptr b o) (hi : H[i]? = some (.box b cs)) (hn : ((cs.drop o).take n).length = n)
  (hv : .agg ((cs.drop o).take n) = v) : DS P ⟨dst, .load T x, ty, pos, aft, g⟩ ρ H v H :=
 CK fun F w E hH hE => by
  obtain ⟨d, hu, hd, hz⟩ := D9 hT
  have h1 := hE x Ac
  rw [hx] at h1
  simp only [CF] at h1
  obtain ⟨vs, T', hb, hl⟩ := hH.obj _ (List.mem_of_getElem? hi)
  have hr := GP hb o n
  have hl' := (hl.drop o).take n
  refine ⟨.agg ⟨(vs.drop o).take n⟩, ?_, by subst hv; simp only [CF]; exact ⟨_, rfl, hl'⟩⟩
  simp only [execOp, Instr.loadAt, h1, Instr.sureAddr, Sem.run_bind, Sem.run_pure, Result.andThen_ok, E9 hu hd hr (by rw [hz, hl'.length, hn])]
theorem Aw {T : TypeId} {b i n : Nat} {cs : List AV} (hT : DR P T = some (true, n)) (hx : ρ x = .ptr b 0) (hi : H[i]? = some (.box b cs)) (hn : cs.length = n) :
  DS P ⟨dst, .load T x, ty, pos, aft, g⟩ ρ H (.agg cs) H :=
 Bp hT hx hi (by subst hn; simp) (by subst hn; simp)
theorem Cy {fn : Fn} {first caps : Array Operand} {fs cs : List AV} (h1 : first.toList.map ρ = fs) (h2 : caps.toList.map ρ = cs) : DS P ⟨dst, .makeFunc fn first caps, ty, pos, aft, g⟩ ρ H (.fn fn fs cs) H :=
 CK fun F w E hH hE => by
  refine ⟨.func fn (first.map E) (caps.map E), Ao, ?_⟩
  subst h1; subst h2
  simp only [CF]
  refine ⟨first.toList.map E, caps.toList.map E, ?_, Bu.mapEval _ fun x hx => hE x (by simp [Op.operands]; exact .inl (by simpa using hx)), Bu.mapEval _ fun x hx => hE x (by simp [Op.operands]; exact .inr (by simpa using hx))⟩
  congr 1 <;> apply Array.ext' <;> simp
theorem BT {b o : Nat} (hx : ρ x = .ptr b o) : DS P ⟨dst, .nilCheck x, ty, pos, aft, g⟩ ρ H (.ptr b o) H :=
 CK fun F w E hH hE => by
  have h1 := hE x Ac
  rw [hx] at h1
  simp only [CF] at h1
  exact ⟨.pointer (some ⟨b, o, none⟩), by simp [execOp, h1], by simp [CF]⟩
end
def EJ : AV → Option (List AV)
 | .agg cs => some cs
 | .p .any => none
 | .tup _ => none
 | x => some [x]
def one : AV → Bool
 | .p .any | .agg _ | .tup _ => false
 | _ => true
def splice {α : Type} : List α → Nat → List α → List α
 | l, _, [] => l
 | l, o, x :: xs => splice (l.set o x) (o + 1) xs
def World.push (w : World) (o : Obj) : World := { w with heap := w.heap.push o }
section
variable {F F' : Nat → Prop} {w w' : World} {P : Program}
theorem RO {x : AV} {v : Value} (h : CF F w x v) (h1 : one x = true) : v.oneCell' = true ∧ v.cells = #[v] := by
 cases x with
 | p y =>
  cases y with
  | any => simp [one] at h1
  | lst rows =>
   simp only [CF, CQ] at h
   rcases h with ⟨_, o, c, rfl⟩ | ⟨b, o, c, sz, rfl, _⟩ <;> exact ⟨rfl, rfl⟩
  | iface t y =>
   simp only [CF, CQ] at h
   obtain ⟨u, rfl, _⟩ := h
   exact ⟨Ao, Ao⟩
  | _ => simp only [CF, CQ] at h; subst h; exact ⟨rfl, rfl⟩
 | ref cs => simp only [CF] at h; obtain ⟨b, o, rfl, _⟩ := h; exact ⟨rfl, rfl⟩
 | fn f a b => simp only [CF] at h; obtain ⟨fs, cs, rfl, _⟩ := h; exact ⟨rfl, rfl⟩
 | agg cs => simp [one] at h1
 | tup cs => simp [one] at h1
 | vs o n c =>
  cases o with
  | some b => simp only [CF] at h; subst h; exact ⟨rfl, rfl⟩
  | none => simp only [CF] at h; obtain ⟨_, _, a, rfl⟩ := h; exact ⟨rfl, rfl⟩
 | _ => simp only [CF] at h; subst h; exact ⟨rfl, rfl⟩
theorem Hi {x : AV} {v : Value} {cs : List AV} (h : CF F w x v) (hc : EJ x = some cs) : ∃ vs, v.cells = ⟨vs⟩ ∧ Bu F w cs vs := by
 by_cases h1 : one x = true
 ·have := RO h h1
  refine ⟨[v], this.2, ?_⟩
  have : cs = [x] := by
   cases x with
   | p y => cases y <;> simp_all [EJ, one]
   | _ => simp_all [EJ, one]
  subst this
  simp only [Bu]
  exact ⟨v, [], Ao, h, Ao⟩
 ·cases x with
  | agg ds =>
   simp only [EJ, Option.some.injEq] at hc
   subst hc
   simp only [CF] at h
   obtain ⟨vs, rfl, hl⟩ := h
   exact ⟨vs, Ao, hl⟩
  | p y => cases y <;> simp_all [EJ, one]
  | _ => simp_all [EJ, one]
theorem Hd : ∀ {xs : List AV} {vs : List Value}, Bu F w xs vs → xs.all one = true → ∀ v ∈ vs, v.oneCell' = true
 | [], vs, h, _ => by simp only [Bu] at h; subst h; simp
 | x :: xs, vs, h, h1 => by
  simp only [Bu] at h
  obtain ⟨u, us, rfl, h2, h3⟩ := h
  simp only [List.all_cons, Bool.and_eq_true] at h1
  intro v hv
  rcases List.mem_cons.1 hv with rfl | hv
  ·exact (RO h2 h1.1).1
  ·exact Hd h3 h1.2 v hv
theorem Bu.splice : ∀ {ys xs : List AV} {us vs : List Value} {o : Nat}, Bu F w xs vs → Bu F w ys us → Bu F w (splice xs o ys) (splice vs o us)
 | [], xs, us, vs, o, h, h' => by simp only [Bu] at h'; subst h'; simpa [Abs.splice] using h
 | y :: ys, xs, us, vs, o, h, h' => by
  simp only [Bu] at h'
  obtain ⟨u, us, rfl, h1, h2⟩ := h'
  simp only [Abs.splice]
  exact Bu.splice (h.set h1) h2
theorem Io (o : Obj) {b : Nat} (h : b < w.heap.size) : (World.push w o).heap[b]? = w.heap[b]? := by
 show (w.heap.push o)[b]? = _
 rw [Array.getElem?_push, if_neg (Nat.ne_of_lt h)]
theorem GC (o : Obj) : (World.push w o).heap[w.heap.size]? = some o := by
 show (w.heap.push o)[w.heap.size]? = _
 simp
theorem Ej (o : Obj) (hf : ∀ b, F' b → F b ∨ b = w.heap.size) : C2 F w F' (World.push w o) where
 size := by simp [World.push]
 same b _ hb := Io o hb
 nf b hF hb hF' := (hf b hF').elim hF fun h => by omega
theorem Gw (H : List BL) (x : BL) (o : Obj) (hx : x.key = some w.heap.size ∨ x.key = none) : Trans F H w (fun b => F b ∨ b = w.heap.size) (x :: H) (World.push w o) where
 size := by simp [World.push]
 same b hb _ := Io o hb
 keep b h _ := .inl h
 fresh b h := h.imp id fun h => by omega
 keys o' ho b hb := by
  rcases List.mem_cons.1 ho with rfl | ho
  ·rcases hx with hx | hx
   ·rw [hx] at hb; injection hb with hb; exact .inr Am
   ·rw [hx] at hb; cases hb
  ·exact .inl ⟨o', ho, hb⟩
 os := rfl
 out := rfl
 tape := rfl
theorem Ox (H : List BL) (o : Obj) : Trans F H w F H (World.push w o) where
 size := by simp [World.push]
 same b hb _ := Io o hb
 keep b h _ := h
 fresh b h := .inl h
 keys o' ho b hb := .inl ⟨o', ho, hb⟩
 os := rfl
 out := rfl
 tape := rfl
theorem HRel.stable' {H : List BL} (h : HRel F H w) (st : C2 F w F' w') (hF : ∀ b, F b → F' b) (hk : ∀ o ∈ H, ∀ b, o.key = some b → w'.heap[b]? = w.heap[b]?) (bd : ∀ b, F' b → b < w'.heap.size) : HRel F' H w' where
 sub o ho b hb := hF b (h.sub o ho b hb)
 nodup := h.nodup
 obj o ho := Fc.mono st o (hk o ho) (h.obj o ho)
 bd := bd
theorem HV {H : List BL} (h : HRel F H w) (x : BL) (o : Obj) (hx : x.key = some w.heap.size) (hr : Fc (fun b => F b ∨ b = w.heap.size) (World.push w o) x) :
  HRel (fun b => F b ∨ b = w.heap.size) (x :: H) (World.push w o) where
 sub o' ho b hb := by
  rcases List.mem_cons.1 ho with rfl | ho
  ·rw [hx] at hb; injection hb with hb; exact .inr hb.symm
  ·exact .inl (h.sub o' ho b hb)
 nodup := by
  rw [List.filterMap_cons, hx]
  refine List.nodup_cons.2 ⟨?_, h.nodup⟩
  intro hm
  obtain ⟨o', ho', hk⟩ := List.mem_filterMap.1 hm
  have := h.bd _ (h.sub o' ho' _ hk)
  omega
 obj o' ho := by
  rcases List.mem_cons.1 ho with rfl | ho
  ·exact hr
  ·refine Fc.mono (Ej o fun b h => h) o' ?_ (h.obj o' ho)
   exact fun b hb => Io o (h.bd b (h.sub o' ho b hb))
 bd b hb := by
  rcases hb with hb | rfl
  ·have := h.bd b hb; simp [World.push]; omega
  ·simp [World.push]
theorem Qa {H : List BL} (h : HRel F H w) (o : Obj) : HRel F H (World.push w o) :=
 h.stable' (Ej o fun b h => .inl h) (fun _ h => h) (fun o' ho b hb => Io o (h.bd b (h.sub o' ho b hb))) (fun b hb => by have := h.bd b hb; simp [World.push]; omega)
structure E6 (b : Nat) (o : Obj) (w w' : World) : Prop where
 heap : w'.heap = w.heap.setIfInBounds b o
 os : w'.os = w.os
 out : w'.output = w.output
 tape : w'.tape = w.tape
theorem E6.other {b : Nat} {o : Obj} (h : E6 b o w w') {c : Nat} (hc : c ≠ b) : w'.heap[c]? = w.heap[c]? := by
 rw [h.heap, Array.getElem?_setIfInBounds_ne (Ne.symm hc)]
theorem E6.self {b : Nat} {o : Obj} (h : E6 b o w w') (hb : b < w.heap.size) : w'.heap[b]? = some o := by
 rw [h.heap]; simp [hb]
theorem E6.stable {b : Nat} {o : Obj} (h : E6 b o w w') (hF : F b) : C2 F w F w' where
 size := by rw [h.heap]; simp
 same c hc _ := h.other fun e => hc (e ▸ hF)
 nf _ h _ := h
theorem C5 {α : Type} {l : List α} {i : Nat} {a x : α} (h : x ∈ l.set i a) : (x = a) ∨ ∃ j, j ≠ i ∧ l[j]? = some x := by
 obtain ⟨j, hj⟩ := List.mem_iff_getElem?.1 h
 rw [List.getElem?_set] at hj
 split at hj
 ·split at hj
  ·injection hj with hj; exact .inl hj.symm
  ·cases hj
 ·rename_i hne
  exact .inr ⟨j, fun e => hne e.symm, hj⟩
theorem Ee {H : List BL} {i : Nat} {x x' : BL} (hi : H[i]? = some x) (hk : x'.key = x.key) : (H.set i x').filterMap BL.key = H.filterMap BL.key := by
 induction H generalizing i with
 | nil => simp at hi
 | cons y H ih =>
  cases i with
  | zero => simp at hi; subst hi; simp [List.filterMap_cons, hk]
  | succ i => simp at hi; simp [List.filterMap_cons, ih hi]
theorem He {H : List BL} (h : (H.filterMap BL.key).Nodup) : ∀ {i j : Nat} {x y : BL} {b : Nat}, H[i]? = some x → H[j]? = some y → x.key = some b → y.key = some b → i = j := by
 induction H with
 | nil => intro i j x y b hi; simp at hi
 | cons z H ih =>
  intro i j x y b hi hj hx hy
  rw [List.filterMap_cons] at h
  have hz : ∀ c, z.key = some c → ∀ (k : Nat) (u : BL), H[k]? = some u → u.key ≠ some c := by
   intro c hc k u hu hk
   simp only [hc, List.nodup_cons] at h
   exact h.1 (List.mem_filterMap.2 ⟨u, List.mem_of_getElem? hu, hk⟩)
  have h' : (H.filterMap BL.key).Nodup := by
   cases hq : z.key with
   | none => simpa [hq] using h
   | some c => simp only [hq, List.nodup_cons] at h; exact h.2
  cases i with
  | zero =>
   simp at hi; subst hi
   cases j with
   | zero => rfl
   | succ j => simp at hj; exact absurd hy (hz b hx j y hj)
  | succ i =>
   cases j with
   | zero => simp at hj; subst hj; simp at hi; exact absurd hx (hz b hy i x hi)
   | succ j => simp at hi hj; rw [ih h' hi hj hx hy]
theorem E6.HRel {H : List BL} {b i : Nat} {x x' : BL} {o : Obj} (h : E6 b o w w') (hH : HRel F H w) (hi : H[i]? = some x) (hk : x.key = some b) (hk' : x'.key = some b) (hr : Fc F w' x') : HRel F (H.set i x') w' where
 sub o' ho c hc := by
  rcases C5 ho with rfl | ⟨j, _, hj⟩
  ·rw [hk'] at hc; injection hc with hc; subst hc; exact hH.sub x (List.mem_of_getElem? hi) _ hk
  ·exact hH.sub o' (List.mem_of_getElem? hj) c hc
 nodup := by rw [Ee hi (by rw [hk, hk'])]; exact hH.nodup
 obj o' ho := by
  rcases C5 ho with rfl | ⟨j, hne, hj⟩
  ·exact hr
  ·refine Fc.mono (h.stable (hH.sub x (List.mem_of_getElem? hi) _ hk)) o' ?_ (hH.obj o' (List.mem_of_getElem? hj))
   intro c hc
   refine h.other fun e => ?_
   subst e
   exact hne (He hH.nodup hj hi hc hk)
 bd c hc := by have := hH.bd c hc; rw [h.heap]; simpa using this
theorem E6.trans {H : List BL} {b i : Nat} {x x' : BL} {o : Obj} (h : E6 b o w w') (hi : H[i]? = some x) (hk : x.key = some b) (hk' : x'.key = some b) : Trans F H w F (H.set i x') w' where
 size := by rw [h.heap]; simp
 same c _ hn := h.other fun e => hn x (List.mem_of_getElem? hi) (by rw [hk, e])
 keep _ h _ := h
 fresh _ h := .inl h
 keys o' ho c hc := by
  rcases C5 ho with rfl | ⟨j, _, hj⟩
  ·exact .inl ⟨x, List.mem_of_getElem? hi, by rw [hk, ← hk', hc]⟩
  ·exact .inl ⟨o', List.mem_of_getElem? hj, hc⟩
 os := h.os
 out := h.out
 tape := h.tape
theorem JV {b o : Nat} {c : Array Value} {T : TypeId} {fz : Nat × Nat} (hb : w.heap[b]? = some (.cells c T fz)) (v : Value) :
  E6 b (.cells (c.setIfInBounds o v) T fz) w (w.setCell ⟨b, o, none⟩ v) where
 heap := by
  obtain ⟨hlt, hb'⟩ := Array.getElem?_eq_some_iff.1 hb
  simp only [World.setCell]
  apply Array.ext_getElem?
  intro j
  rw [Array.getElem?_modify, Array.getElem?_setIfInBounds]
  by_cases hj : b = j
  ·subst hj; simp [hlt, hb']
  ·simp [hj]
 os := rfl
 out := rfl
 tape := rfl
theorem ED {b : Nat} {T : TypeId} {fz : Nat × Nat} : ∀ (us : List Value) {o : Nat} {vs : List Value} {w : World}, w.heap[b]? = some (.cells ⟨vs⟩ T fz) → us ≠ [] →
  E6 b (.cells ⟨splice vs o us⟩ T fz) w (w.setCells b o us)
 | [], o, vs, w, _, h => absurd rfl h
 | [u], o, vs, w, hb, _ => by
  have := JV (o := o) hb u
  simpa [World.setCells, splice] using this
 | u :: u' :: us, o, vs, w, hb, _ => by
  have h1 := JV (o := o) hb u
  have hlt : b < w.heap.size := (Array.getElem?_eq_some_iff.1 hb).1
  have hb1 := h1.self hlt
  have e : (⟨vs⟩ : Array Value).setIfInBounds o u = ⟨vs.set o u⟩ := by apply Array.ext'; simp
  rw [e] at hb1
  have h2 := ED (u' :: us) (o := o + 1) hb1 An
  refine ⟨?_, h2.os, h2.out, h2.tape⟩
  show ((w.setCell ⟨b, o, none⟩ u).setCells b (o + 1) (u' :: us)).heap = _
  rw [h2.heap, h1.heap]
  simp [splice]
end
theorem _root_.Go.Ah {α : Prop} (h : α := by simp; omega) : α := h
section
variable {P : Program} {dst : Option Tmp} {ty : TypeId} {pos : String} {aft : Array Edge} {g : Option (Nat × Bool)} {ρ : Operand → AV} {H : List BL} {x y z : Operand} {v : AV}
def Hq (cs : List AV) (H : List BL) : DM → List BL → Prop
 | .val v, H' => ∃ b, v = .ptr b 0 ∧ H' = .box b cs :: H
 | .panic _, _ => False
theorem Pf {F : Nat → Prop} {w : World} {cs : List AV} {vs : List Value} {T : TypeId} (hH : HRel F H w) (hl : Bu F w cs vs) :
  ∃ v H' F', Hq cs H (.val v) H' ∧ Trans F H w F' H' (World.push w (.cells ⟨vs⟩ T (0, 0))) ∧ HRel F' H' (World.push w (.cells ⟨vs⟩ T (0, 0))) ∧ CF F' (World.push w (.cells ⟨vs⟩ T (0, 0))) v (.pointer (some ⟨w.heap.size, 0, none⟩)) := by
 refine ⟨.ptr w.heap.size 0, _, _, ⟨w.heap.size, Ao, Ao⟩, Gw H (.box w.heap.size cs) _ (.inl Ao), ?_, by simp [CF]⟩
 refine HV hH (.box w.heap.size cs) _ Ao ?_
 exact ⟨vs, T, GC _, Bu.mono (Ej _ fun b h => h) cs vs hl⟩
theorem Bb {T : TypeId} {cs : List AV} (hx : EJ (ρ x) = some cs) : C6 P ⟨dst, .box T x, ty, pos, aft, g⟩ ρ H (Hq cs H) :=
 FW fun F w E hH hE => by
  have h1 := hE x Ac
  obtain ⟨vs, hv, hl⟩ := Hi h1 hx
  obtain ⟨v, H', F', h⟩ := Pf (T := T) hH hl
  refine ⟨_, _, v, H', F', ?_, h⟩
  simp only [execOp, Instr.box, newVar, newRow, newObj, hv, Sem.run_bind, Sem.run, Result.andThen, Sem.run_pure]
  rfl
theorem FB {F : Nat → Prop} {w : World} : ∀ (vs : List Value), Bu F w (vs.map GJ) vs
 | [] => by simp [Bu]
 | v :: vs => by simp only [List.map_cons, Bu]; exact ⟨v, vs, rfl, NX v, FB vs⟩
theorem BG {T : TypeId} {z : Value} {cs : List AV} (hT : zeroOf P T = some z) (hc : z.cells.toList.map GJ = cs) : C6 P ⟨dst, .alloc T, ty, pos, aft, g⟩ ρ H (Hq cs H) :=
 FW fun F w E hH hE => by
  have hl : Bu F w cs z.cells.toList := by subst hc; exact FB _
  obtain ⟨v, H', F', h⟩ := Pf (T := T) hH hl
  refine ⟨_, _, v, H', F', ?_, h⟩
  unfold zeroOf at hT
  cases hi : P.info? T with
  | none => simp [hi] at hT
  | some i =>
   have hz : i.zero = some z := by simpa [hi] using hT
   have hzv : (zeroValue T).run P w = .ok z w := by simp [zeroValue, typeInfo, hi, hz, Sem.run_bind]
   simp only [execOp, Instr.alloc, newVar, newRow, newObj, hzv, Sem.run_bind, Sem.run, Result.andThen, Sem.run_pure]
   rfl
theorem MU {w : World} {b : Nat} {vs : List Value} {T : TypeId} (h : w.heap[b]? = some (.cells ⟨vs⟩ T (0, 0))) {o n : Nat} (hn : o + n ≤ vs.length) : w.there b o n := by
 intro j hj
 have : o + j < vs.length := by omega
 refine ⟨by simp [World.cell?, h, List.getElem?_eq_getElem this], by simp [World.frozen?, h]⟩
theorem Gb {w : World} {b o n : Nat} {vs : List Value} {T T' : TypeId} {v : Value} {us : List Value} {bl : Bool} (hT : DR P T = some (bl, n)) (hb : w.heap[b]? = some (.cells ⟨vs⟩ T' (0, 0)))
  (hc : v.cells = ⟨us⟩) (hn : us.length = n) (ho : o + n ≤ vs.length) (h1 : ∀ v ∈ us, v.oneCell' = true) : (storeVar T ⟨b, o, none⟩ v).run P w = .ok () (w.setCells b o us) := by
 obtain ⟨d, hu, hd, hz⟩ := D9 hT
 have ht := MU hb (o := o) (n := n) ho
 have := run_storeCells_cells (P := P) b o us 0 w (fun j hj => by simpa using (ht j Am).1) (fun j hj => by simpa using (ht j Am).2) h1
 simp only [Nat.add_zero] at this
 cases hq : P.info? T with
 | none => simp [hq] at hz
 | some i =>
  have hs : us.length = i.size := by simp [hq] at hz; omega
  simp [storeVar, sizeOf, typeInfo, hq, hc, hs, this]
theorem Bc {T : TypeId} {bl : Bool} {n b o i : Nat} {cs us : List AV} (hT : DR P T = some (bl, n + 1)) (hx : ρ x = .ptr b o) (hi : H[i]? = some (.box b cs)) (hy : EJ (ρ y) = some us) (hn : us.length = n + 1)
  (ho : Nat.ble (o + (n + 1)) cs.length = true) (h1 : us.all one = true) : DS P ⟨dst, .store T x y, ty, pos, aft, g⟩ ρ H (.p .any) (H.set i (.box b (splice cs o us))) :=
 F4 fun F w E hH hE => by
  have e1 := hE x Ac
  have e2 := hE y Ac
  rw [hx] at e1
  simp only [CF] at e1
  obtain ⟨vs, T', hb, hl⟩ := hH.obj _ (List.mem_of_getElem? hi)
  obtain ⟨ws, hc, hl'⟩ := Hi e2 hy
  have hlen := hl'.length
  have hw : E6 b (.cells ⟨splice vs o ws⟩ T' (0, 0)) w (w.setCells b o ws) := ED ws hb (by intro e; rw [e] at hlen; simp at hlen; omega)
  have hlt : b < w.heap.size := (Array.getElem?_eq_some_iff.1 hb).1
  have hF : F b := hH.sub _ (List.mem_of_getElem? hi) b rfl
  refine ⟨w.setCells b o ws, _, F, ?_, ⟨Ao, Ao⟩, hw.trans hi Ao Ao, hw.HRel hH hi Ao Ao ?_⟩
  ·have hst := Gb (T := T) (v := E y) (o := o) hT hb hc Am (by rw [hl.length]; simpa [Nat.ble_eq] using ho) (Hd hl' h1)
   simp only [execOp, Instr.storeAt, e1, Instr.sureAddr, Sem.run_bind, Sem.run_pure, Result.andThen_ok, hst]
  ·exact ⟨splice vs o ws, T', hw.self hlt, Bu.splice (Bu.mono (hw.stable hF) _ _ hl) (Bu.mono (hw.stable hF) _ _ hl')⟩
def E2 (place : Nat → Option (Nat × Nat)) (cells : List AV) : List (Nat × AV) → Option (List AV)
 | [] => some cells
 | (i, v) :: rest =>
  match place i, EJ v with
  | some (off, size), some cs => if cs.length = size ∧ off + cs.length ≤ cells.length then E2 place (splice cells off cs) rest else none
  | _, _ => none
theorem J0 : ∀ (us : List Value) (vs : List Value) (off k : Nat), ((us.zipIdx k).foldl (fun (cs : Array Value) (c, j) => cs.setIfInBounds (off + j) c) ⟨vs⟩ : Array Value) = ⟨splice vs (off + k) us⟩
 | [], vs, off, k => by simp [splice]
 | u :: us, vs, off, k => by
  simp only [List.zipIdx_cons, List.foldl_cons]
  have e : (⟨vs⟩ : Array Value).setIfInBounds (off + k) u = ⟨vs.set (off + k) u⟩ := by apply Array.ext'; simp
  rw [e, J0 us _ off (k + 1)]
  simp [splice, Nat.add_assoc]
theorem ES {α : Type} : ∀ (us vs : List α) (o : Nat), (splice vs o us).length = vs.length
 | [], vs, o => rfl
 | u :: us, vs, o => by simp [splice, ES us]
theorem G1 {F : Nat → Prop} {w : World} {place : Nat → Option (Nat × Nat)} : ∀ (parts : List (Nat × AV)) (vals : List (Nat × Value)) (cells : List AV) (vs : List Value) (r : List AV),
  parts.length = vals.length → (∀ (j : Nat) p q, parts[j]? = some p → vals[j]? = some q → p.1 = q.1 ∧ CF F w p.2 q.2) → Bu F w cells vs → E2 place cells parts = some r →
  ∃ us : List Value, Instr.fill place ⟨vs⟩ vals = some ⟨us⟩ ∧ Bu F w r us
 | [], [], cells, vs, r, _, _, hl, h => by
  simp only [E2, Option.some.injEq] at h
  subst h
  exact ⟨vs, Ao, hl⟩
 | (i, x) :: parts, (i', v) :: vals, cells, vs, r, hlen, hp, hl, h => by
  obtain ⟨rfl, hx⟩ := hp 0 (i, x) (i', v) rfl rfl
  simp only [E2] at h
  simp only [Instr.fill]
  cases hpl : place i with
  | none => simp [hpl] at h
  | some os =>
   obtain ⟨off, size⟩ := os
   cases hcs : EJ x with
   | none => simp [hpl, hcs] at h
   | some cs =>
    simp only [hpl, hcs] at h
    split at h
    ·rename_i hc
     obtain ⟨us, hv, hus⟩ := Hi hx hcs
     have hl1 := hus.length
     have hl2 := hl.length
     rw [hv]
     have : ((!decide ((⟨us⟩ : Array Value).size = size)) || decide (off + (⟨us⟩ : Array Value).size > (⟨vs⟩ : Array Value).size)) = false := by
      simp
      omega
     have e1 : (us.zipIdx.foldl (fun (cs : Array Value) (c, j) => cs.setIfInBounds (off + j) c) ⟨vs⟩ : Array Value) = ⟨splice vs off us⟩ := by
      have := J0 us vs off 0
      simpa using this
     have e2 : ((⟨us⟩ : Array Value).zipIdx.foldl (fun cs (c, j) => cs.setIfInBounds (off + j) c) ⟨vs⟩ : Array Value) = ⟨splice vs off us⟩ := by
      rw [← e1]
      simp [← Array.foldl_toList]
     have := G1 parts vals (splice cells off cs) (splice vs off us) r (by simpa using hlen) (fun j p q h1 h2 => hp (j + 1) p q (by simpa using h1) (by simpa using h2)) (Bu.splice hl hus) h
     obtain ⟨ws, h1, h2⟩ := this
     refine ⟨ws, ?_, h2⟩
     simp only [ne_eq, decide_not]
     rw [if_neg (by simp at this ⊢; omega)]
     rw [e2]
     exact h1
    ·cases h
 | [], _ :: _, _, _, _, h, _, _, _ => by simp at h
 | _ :: _, [], _, _, _, h, _, _, _ => by simp at h
theorem IK {w : World} : ∀ (fs : List Field) (lay : List (Nat × Nat)), (fs.mapM fun f => (P.info? f.type).map fun i => (f.offset, i.size)) = some lay →
  (fs.mapM fun f => do pure (f.offset, ← sizeOf f.type) : Sem (List (Nat × Nat))).run P w = .ok lay w
 | [], lay, h => by simp at h; subst h; rfl
 | f :: fs, lay, h => by
  rw [List.mapM_cons] at h
  cases hx : P.info? f.type with
  | none => simp [hx] at h
  | some i =>
   cases hl : (fs.mapM fun f => (P.info? f.type).map fun i => (f.offset, i.size)) with
   | none => simp [hx, hl] at h
   | some r =>
    simp [hx, hl] at h
    subst h
    rw [List.mapM_cons]
    have hs : (sizeOf f.type).run P w = .ok i.size w := by simp [sizeOf, typeInfo, hx]
    simp only [Sem.run_bind, hs, Result.andThen_ok, Sem.run_pure, IK fs r hl]
theorem Bi {T : TypeId} {parts : Array (Nat × Operand)} {lay : List (Nat × Nat)} {z : Value} {cs : List AV} (hT : fieldsOf P T = some lay) (hz : zeroOf P T = some z)
  (hc : E2 (lay[·]?) (z.cells.toList.map GJ) (parts.toList.map fun p => (p.1, ρ p.2)) = some cs) : DS P ⟨dst, .build T parts, ty, pos, aft, g⟩ ρ H (.agg cs) H :=
 CK fun F w E hH hE => by
  unfold fieldsOf at hT
  unfold zeroOf at hz
  cases hu : P.underlying T with
  | none => simp [hu] at hT
  | some d =>
   cases d with
   | struct fs =>
    simp only [hu] at hT
    cases hi : P.info? T with
    | none => simp [hi] at hz
    | some i =>
     have hz' : i.zero = some z := by simpa [hi] using hz
     have hzv : (zeroValue T).run P w = .ok z w := by simp [zeroValue, typeInfo, hi, hz', Sem.run_bind]
     obtain ⟨us, hf, hr⟩ := G1 (F := F) (w := w) (place := (lay[·]?)) _ (parts.toList.map fun p => (p.1, E p.2)) _ z.cells.toList _ An (by
      intro j p q h1 h2
      simp only [List.getElem?_map] at h1 h2
      cases hj : parts.toList[j]? with
      | none => simp [hj] at h1
      | some t =>
       simp [hj] at h1 h2
       subst h1; subst h2
       exact ⟨Ao, hE _ (by
        have := List.mem_of_getElem? hj
        simp only [Op.operands]
        exact List.mem_map.2 ⟨t, this, Ao⟩)⟩) (FB _) hc
     refine ⟨.agg ⟨us⟩, ?_, by simp only [CF]; exact ⟨us, rfl, hr⟩⟩
     have hm : (fs.mapM fun f => do pure (f.offset, ← sizeOf f.type) : Sem (Array (Nat × Nat))).run P w = .ok ⟨lay⟩ w := by
      rw [Array.mapM_eq_mapM_toList]
      simp only [map_eq_pure_bind, Sem.run_bind, IK _ _ hT, Result.andThen_ok, Sem.run_pure]
     have ha : ∀ i : Nat, (⟨lay⟩ : Array (Nat × Nat))[i]? = lay[i]? := fun i => by simp
     simp only [execOp, Instr.build, Sem.run_bind, hzv, Result.andThen_ok, run_underlying hu, hm, ha]
     have hf' : Instr.fill (fun x => lay[x]?) z.cells (parts.toList.map fun p => (p.1, E p.2)) = some ⟨us⟩ := hf
     simp [hf']
   | _ => simp [hu] at hT
def FX : List AV → Option (List PV)
 | [] => some []
 | .p c :: r => (FX r).map (c :: ·)
 | _ :: _ => none
theorem Gt : ∀ {cs : List AV} {ps : List PV}, FX cs = some ps → cs = ps.map .p
 | [], ps, h => by simp [FX] at h; subst h; rfl
 | .p c :: r, ps, h => by
  simp only [FX, Option.map_eq_some_iff] at h
  obtain ⟨ps', h1, rfl⟩ := h
  simp [Gt h1]
 | .ptr _ _ :: _, ps, h => by simp [FX] at h
 | .nilp :: _, ps, h => by simp [FX] at h
 | .ref _ :: _, ps, h => by simp [FX] at h
 | .vs _ _ _ :: _, ps, h => by simp [FX] at h
 | .map _ :: _, ps, h => by simp [FX] at h
 | .fn _ _ _ :: _, ps, h => by simp [FX] at h
 | .agg _ :: _, ps, h => by simp [FX] at h
 | .tup _ :: _, ps, h => by simp [FX] at h
theorem Ic {F : Nat → Prop} {w : World} {b : Nat} : ∀ {cs : List PV} {vs : List Value} {o : Nat}, w.rangeAt b o vs → Bu F w (cs.map .p) vs → CO F w b o cs
 | [], vs, o, _, _ => by simp [CO]
 | c :: cs, vs, o, h, hl => by
  simp only [List.map_cons, Bu, CF] at hl
  obtain ⟨u, us, rfl, h1, h2⟩ := hl
  simp only [CO]
  refine ⟨⟨u, by simpa using h 0 u rfl, h1⟩, Ic ?_ h2⟩
  intro j v hv
  have := h (j + 1) v (by simpa using hv)
  rwa [Nat.add_assoc, Nat.add_comm 1 j]
theorem Ft {F : Nat → Prop} {w : World} {b sz : Nat} : ∀ {rows : List (List PV)} {vs : List Value} {o : Nat}, (∀ r ∈ rows, r.length = sz) → w.rangeAt b o vs → Bu F w (rows.flatten.map .p) vs → Bw F w b sz o rows
 | [], vs, o, _, _, _ => by simp [Bw]
 | r :: rows, vs, o, hr, h, hl => by
  simp only [Bw]
  have hlen := hr r An
  have e : (r :: rows).flatten.map AV.p = r.map .p ++ rows.flatten.map .p := by simp
  rw [e] at hl
  have h1 := hl.take r.length
  have h2 := hl.drop r.length
  rw [List.take_left' An] at h1
  rw [List.drop_left' An] at h2
  refine ⟨hlen, Ic (vs := vs.take r.length) ?_ h1, Ft (vs := vs.drop r.length) (fun r' hr' => hr r' (by simp [hr'])) ?_ h2⟩
  ·intro j v hv
   rcases Nat.lt_or_ge j r.length with hj | hj
   ·rw [List.getElem?_take_of_lt hj] at hv; exact h j v hv
   ·rw [List.getElem?_take_eq_none hj] at hv; cases hv
  ·intro j v hv
   rw [List.getElem?_drop] at hv
   have := h (r.length + j) v hv
   rwa [← Nat.add_assoc, hlen] at this
def chunks {α : Type} (sz : Nat) : Nat → List α → List (List α)
 | 0, _ => []
 | n + 1, l => l.take sz :: chunks sz n (l.drop sz)
theorem Iu {α : Type} {sz : Nat} : ∀ {n : Nat} {l : List α}, l.length = n * sz → (chunks sz n l).flatten = l ∧ (∀ r ∈ chunks sz n l, r.length = sz) ∧ (chunks sz n l).length = n
 | 0, l, h => by
  have : l = [] := by simpa using h
  subst this
  simp [chunks]
 | n + 1, l, h => by
  rw [Nat.succ_mul] at h
  have := Iu (sz := sz) (n := n) (l := l.drop sz) Ah
  obtain ⟨h1, h2, h3⟩ := this
  refine ⟨by simp [chunks, h1], ?_, by simp [chunks, h3]⟩
  intro r hr
  simp only [chunks, List.mem_cons] at hr
  rcases hr with rfl | hr
  ·simp; omega
  ·exact h2 r hr
theorem Td {F : Nat → Prop} {w : World} {sz : Nat} {rows : List (List PV)} {vs : List Value} {T : TypeId} {c : Nat} (hbd : ∀ b, F b → b < w.heap.size) (hr : ∀ r ∈ rows, r.length = sz) (hl : Bu F w (rows.flatten.map .p) (vs.take (rows.flatten.length)))
  (hc : rows.length ≤ c) : CF F (World.push w (.cells ⟨vs⟩ T (0, 0))) (.p (.lst rows)) (.slice (some ⟨w.heap.size, 0, none⟩) rows.length c) := by
 simp only [CF, CQ]
 right
 refine ⟨w.heap.size, 0, c, sz, Ao, ?_, by simp [World.push], hc, ?_⟩
 ·intro h
  have := hbd _ h
  omega
 ·refine Ft (vs := vs.take (rows.flatten.length)) hr ?_ (Bu.mono (Ej _ fun b h => .inl h) _ _ hl)
  have := GP (GC (w := w) (.cells ⟨vs⟩ T (0, 0))) 0 rows.flatten.length
  simpa using this
theorem Iv (zs : List Value) (n : Nat) : ((Array.range (n * zs.length)).map fun i => (⟨zs⟩ : Array Value)[i % (⟨zs⟩ : Array Value).size]!).toList = (List.replicate n zs).flatten := by
 induction n with
 | zero => simp
 | succ n ih =>
  rw [Nat.succ_mul, List.replicate_succ', List.flatten_append]
  simp only [Array.toList_map, Array.toList_range] at ih ⊢
  rw [List.range_add, List.map_append, ih]
  congr 1
  simp only [List.map_map, List.flatten_cons, List.flatten_nil, List.append_nil]
  apply List.ext_getElem
  ·simp
  ·intro i h1 h2
   simp at h1 h2
   simp [Nat.mod_eq_of_lt h1, Nat.add_mod, h1]
theorem Gy {F : Nat → Prop} {w : World} {xs : List AV} {vs : List Value} (h : Bu F w xs vs) : ∀ n, Bu F w (List.replicate n xs).flatten (List.replicate n vs).flatten
 | 0 => by simp [Bu]
 | n + 1 => by
  simp only [List.replicate_succ, List.flatten_cons]
  exact h.append (Gy h n)
theorem CE {T e : TypeId} {len sz bytes : Nat} {parts : Array (Nat × Operand)} {z : Value} {cs : List AV} {ps : List PV} {rows : List (List PV)} (hT : E3 P T = some (e, sz, bytes)) (hz : zeroOf P e = some z) (hsz : z.cells.size = sz) (hpos : (Nat.blt 0 sz && Nat.ble (len * sz) 16777216) = true)
  (hc : E2 (fun i => some (i * sz, sz)) (List.replicate len (z.cells.toList.map GJ)).flatten (parts.toList.map fun p => (p.1, norm (ρ p.2))) = some cs) (hp : FX cs = some ps) (hr : chunks sz len ps = rows) :
  DS P ⟨dst, .buildSlice T len parts, ty, pos, aft, g⟩ ρ H (.p (.lst rows)) H :=
 FW fun F w E hH hE => by
  obtain ⟨hu, i, hi, hs, hby⟩ := E1 hT
  simp only [Bool.and_eq_true, Nat.blt_eq, Nat.ble_eq] at hpos
  unfold zeroOf at hz
  have hz' : ∃ j, P.info? e = some j ∧ j.zero = some z := by
   cases hq : P.info? e with
   | none => simp [hq] at hz
   | some j => exact ⟨j, rfl, by simpa [hq] using hz⟩
  obtain ⟨j, hj, hz'⟩ := hz'
  have hzv : (zeroValue e).run P w = .ok z w := by simp [zeroValue, typeInfo, hj, hz', Sem.run_bind]
  have hzl : Bu F w (List.replicate len (z.cells.toList.map GJ)).flatten (List.replicate len z.cells.toList).flatten := Gy (FB _) len
  obtain ⟨us, hf, hrep⟩ := G1 (F := F) (w := w) (place := fun i => some (i * sz, sz)) _ (parts.toList.map fun p => (p.1, E p.2)) _ _ _ An (by
   intro j p q h1 h2
   simp only [List.getElem?_map] at h1 h2
   cases hj : parts.toList[j]? with
   | none => simp [hj] at h1
   | some t =>
    simp [hj] at h1 h2
    subst h1; subst h2
    exact ⟨Ao, (hE _ (by
     have := List.mem_of_getElem? hj
     simp only [Op.operands]
     exact List.mem_map.2 ⟨t, this, Ao⟩)).norm⟩) hzl hc
  have hcs := Gt hp
  have hlen : ps.length = len * sz := by
   have h1 : cs.length = ((List.replicate len (z.cells.toList.map GJ)).flatten).length := by
    clear hrep hp hcs hzl hf
    generalize (List.replicate len (z.cells.toList.map GJ)).flatten = l at hc
    generalize (parts.toList.map fun p => (p.1, norm (ρ p.2))) = q at hc
    induction q generalizing l with
    | nil => simp [E2] at hc; rw [hc]
    | cons a q ih =>
     obtain ⟨i, x⟩ := a
     simp only [E2] at hc
     cases hx : EJ x with
     | none => simp [hx] at hc
     | some c2 =>
      simp only [hx] at hc
      split at hc
      ·rw [ih _ hc, ES]
      ·cases hc
   rw [hcs] at h1
   simp only [List.length_map, List.length_flatten, List.map_replicate, List.sum_replicate_nat, Array.length_toList, hsz] at h1
   exact h1
  obtain ⟨c1, c2, c3⟩ := Iu hlen
  rw [hr] at c1 c2 c3
  have hul : us.length = ps.length := by rw [hrep.length, hcs]; simp
  refine ⟨_, _, .p (.lst rows), H, F, ?_, ⟨Ao, Ao⟩, Ox H (.cells ⟨us⟩ e (0, 0)), Qa hH _, Td (c := len) hH.bd c2 (by rw [c1, ← hul, List.take_length]; rw [hcs] at hrep; exact hrep) Am⟩
  have hszr : (sizeOf e).run P w = .ok sz w := by simp [sizeOf, typeInfo, hi, hs]
  have hzc : z.cells = ⟨z.cells.toList⟩ := rfl
  have hrm := Iv z.cells.toList len
  have hsz2 : z.cells.toList.length = sz := by simpa using hsz
  rw [hsz2] at hrm
  have harr : ((Array.range (len * sz)).map fun i => z.cells[i % z.cells.size]!) = ⟨(List.replicate len z.cells.toList).flatten⟩ := by
   apply Array.ext'
   exact hrm
  simp only [execOp, Instr.buildSlice, Sem.run_bind, run_underlying hu, Result.andThen_ok, hszr]
  rw [if_neg Am]
  simp only [Sem.run_pure, Result.andThen_ok, Sem.run_bind, pure_bind]
  have hf' : Instr.fill (fun i => some (i * sz, sz)) ⟨(List.replicate len z.cells.toList).flatten⟩ (parts.map fun p => (p.1, E p.2)).toList = some ⟨us⟩ := by
   rw [← hf]; simp
  by_cases h00 : len * sz = 0
  ·have hl0 : len = 0 := by
    rcases Nat.mul_eq_zero.1 h00 with h | h
    ·exact h
    ·omega
   subst hl0
   simp only [Nat.zero_mul, if_true]
   simp only [List.replicate_zero, List.flatten_nil] at hf'
   have e0 : (Array.map (fun x => (#[] : Array Value)[x % (#[] : Array Value).size]!) (Array.range 0)) = (⟨[]⟩ : Array Value) := by simp
   rw [e0, hf']
   simp only [newRow, newObj, Sem.run_bind, Sem.run, Result.andThen, Sem.run_pure]
   rw [c3]
   rfl
  ·rw [if_neg h00]
   simp only [Sem.run_bind, hzv, Result.andThen_ok]
   rw [harr, hf']
   simp only [newRow, newObj, Sem.run_bind, Sem.run, Result.andThen, Sem.run_pure]
   rw [c3]
   rfl
end
section
variable {P : Program} {r : Option Nat} {ops : Array Oper} {Q : Ck → Bq → Prop} {k : Nat} {n : Nat} {τ : Nat → AV} {H H' : List BL} {D : List Di} {dst : Option Tmp} {op : Op} {ty : TypeId} {pos : String} {aft : Array Edge} {g : Option (Nat × Bool)} {v : AV}
theorem BH {cs : List AV} (ho : ops[k]? = some ⟨dst, op, ty, pos, aft, none⟩) (hd : G7 dst n = true) (h : C6 P ⟨dst, op, ty, pos, aft, none⟩ (ev τ) H (Hq cs H))
  (next : ∀ b, AL P r ops (k + 1) ⟨n, put τ dst (.ptr b 0), .box b cs :: H, D⟩ Q) : AL P r ops k ⟨n, τ, H, D⟩ Q :=
 ER (S := ⟨n, τ, H, D⟩) ho Ag (Fh hd) h (fun v H' ⟨b, h1, h2⟩ => by subst h1; subst h2; exact next b) (fun _ _ h => h.elim)
def ZW (v : AV) : DM → List BL → Prop
 | .val v', H' => v' = v ∧ H' = []
 | .panic _, _ => False
abbrev G5 (P : Program) (f : FuncId) (args : List AV) (v : AV) : Prop := Bl P f args [] (ZW v)
theorem QA {c : Call} {f : Operand} {fid : FuncId} {ρ : Operand → AV} {A : List AV} (hc : c.callee = .value f) (hf : ρ f = .p (.fn fid)) (h : G5 P fid A v) (hA : c.args.toList.map ρ = A ∨ (c.args.toList.map ρ).map norm = A) :
  DS P ⟨dst, .call c, ty, pos, aft, g⟩ ρ H v H := by
 refine (Gx (H := H) (Hs := []) (Hf := H) (first := []) (caps := []) hc (.inl ⟨hf, Ao, Ao⟩) (A := A) An h (by simpa using hA)).mono ?_
 rintro r H' ⟨Hs', h1, rfl⟩
 cases r with
 | val v' => obtain ⟨rfl, rfl⟩ := h1; exact ⟨rfl, rfl⟩
 | panic v' => exact h1
theorem Bf {c : Call} {f : Operand} {fid : FuncId} {ρ : Operand → AV} {A : List AV} (hc : c.callee = .value f) (hf : ρ f = .p (.fn fid)) (h : G5 P fid A v) (hA : c.args.toList.map ρ = A) :
  DS P ⟨dst, .call c, ty, pos, aft, g⟩ ρ H v H := QA hc hf h (.inl hA)
theorem KP {c : Call} {f : Operand} {fid : FuncId} {first caps : List AV} {Hs Hf : List BL} {A : List AV} {R : DM → List BL → Prop}
  (ho : ops[k]? = some ⟨dst, .call c, ty, pos, aft, none⟩) (hd : G7 dst n = true)
  (hc : c.callee = .value f) (hf : (ev τ f = .p (.fn fid) ∧ first = [] ∧ caps = []) ∨ ev τ f = .fn (.func fid) first caps) (hp : H.Perm (Hs ++ Hf)) (h : Bl P fid A Hs R) (hA : first ++ c.args.toList.map (ev τ) ++ caps = A ∨ (first ++ c.args.toList.map (ev τ) ++ caps).map norm = A)
  (next : ∀ v H', R (.val v) H' → AL P r ops (k + 1) ⟨n, put τ dst v, H' ++ Hf, D⟩ Q) (pan : ∀ v H', R (.panic v) H' → Q (.panic v) ⟨n, τ, H' ++ Hf, D⟩) : AL P r ops k ⟨n, τ, H, D⟩ Q :=
 ER (S := ⟨n, τ, H, D⟩) ho Ag (Fh hd) (Gx hc hf hp h hA) (fun v H' ⟨Hs', h1, h2⟩ => by subst h2; exact next v Hs' h1) (fun v H' ⟨Hs', h1, h2⟩ => by subst h2; exact pan v Hs' h1)
end
section
variable {P : Program} {dst : Option Tmp} {ty : TypeId} {pos : String} {aft : Array Edge} {g : Option (Nat × Bool)} {ρ : Operand → AV} {H : List BL} {x y z : Operand} {v : AV}
theorem CT {m n : Int} {T U : TypeId} (hx : ρ x = .p (.int .i64 m)) (hy : ρ y = .p (.int .i64 n)) (h1 : -9223372036854775808 ≤ m + n) (h2 : m + n ≤ 9223372036854775807) :
  DS P ⟨dst, .binOp .add T x y U, ty, pos, aft, g⟩ ρ H (.p (.int .i64 (m + n))) H := NZ hx hy rfl h1 h2
theorem Ed {m n : Int} {T U : TypeId} (hx : ρ x = .p (.int .i64 m)) (hy : ρ y = .p (.int .i64 n)) (h1 : -9223372036854775808 ≤ m - n) (h2 : m - n ≤ 9223372036854775807) :
  DS P ⟨dst, .binOp .sub T x y U, ty, pos, aft, g⟩ ρ H (.p (.int .i64 (m - n))) H := NZ hx hy rfl h1 h2
end
section
variable {P : Program} {r : Option Nat} {ops : Array Oper} {Q : Ck → Bq → Prop} {n : Nat} {τ : Nat → AV} {H : List BL} {D : List Di}
def Vx (τ' τ : Nat → AV) : List Nat → Prop
 | [] => True
 | t :: r => τ' t = τ t ∧ Vx τ' τ r
theorem LL {τ' τ : Nat → AV} : ∀ {l : List Nat}, Vx τ' τ l → Oa τ' (l.map fun t => (t, τ t))
 | [], _ => trivial
 | t :: r, h => ⟨h.1, LL h.2⟩
end
theorem Bj {P : Program} {S : Bq} {t : Nat} {v : AV} (h : S.τ t = v) : Mp P S [.tmp t] [v] := ⟨v, [], rfl, h, rfl⟩
end Go.Abs
namespace Go.Eu
open Go.Abs
structure C7 where
 index : Int
 plus : Int
 deriving DecidableEq, Inhabited
structure Eg where
 const : Int
 vars : List C7
 deriving DecidableEq, Inhabited
inductive Tm where
 | mk (kind index : Int) (name : ByteArray) (levels : List Eg) (kids : List Tm)
 deriving Inhabited
def Tm.kind : Tm → Int | .mk k _ _ _ _ => k
def Tm.index : Tm → Int | .mk _ i _ _ _ => i
def Tm.name : Tm → ByteArray | .mk _ _ n _ _ => n
def Tm.levels : Tm → List Eg | .mk _ _ _ l _ => l
def Tm.kids : Tm → List Tm | .mk _ _ _ _ k => k
abbrev I (n : Int) : PV := .int .i64 n
def D5 (v : C7) : List PV := [I v.index, I v.plus]
def Db (l : Eg) : List PV := [I l.const, .lst (l.vars.map D5)]
mutual
def Ba : Tm → List PV
 | .mk k i n l ks => [I k, I i, .str n, .lst (l.map Db), .lst (BO ks)]
def BO : List Tm → List (List PV)
 | [] => []
 | t :: ts => Ba t :: BO ts
end
theorem EU : ∀ ts : List Tm, BO ts = ts.map Ba
 | [] => rfl
 | t :: ts => by simp [BO, EU ts]
theorem Bh (t : Tm) : (Ba t).length = 5 := by cases t; rfl
theorem Bt (ts : List Tm) : (BO ts).length = ts.length := by simp [EU]
theorem B9 {ts : List Tm} {i : Nat} {t : Tm} (h : ts[i]? = some t) : (BO ts)[i]? = some (Ba t) := by simp [EU, h]
theorem KV (l : Eg) : (Db l).length = 2 := rfl
theorem pI {a b : Int} (h : a = b) : AV.p (I a) = .p (I b) := by rw [h]
theorem pB {a b : Bool} (h : a = b) : AV.p (.bool a) = .p (.bool b) := by rw [h]
abbrev TV (t : Tm) : AV := .agg ((Ba t).map .p)
mutual
def size : Tm → Nat
 | .mk _ _ _ _ ks => 1 + By ks
def By : List Tm → Nat
 | [] => 0
 | t :: ts => size t + By ts
end
theorem Ls {ts : List Tm} {i : Nat} {t : Tm} (h : ts[i]? = some t) : By (ts.take (i + 1)) = By (ts.take i) + size t := by
 induction ts generalizing i with
 | nil => simp at h
 | cons a ts ih =>
  cases i with
  | zero => simp at h; subst h; simp [By]
  | succ i => simp at h; simp only [List.take_succ_cons, By, ih h]; omega
theorem MQ {ts : List Tm} (i : Nat) : By (ts.take i) ≤ By ts := by
 induction ts generalizing i with
 | nil => simp [By]
 | cons a ts ih =>
  cases i with
  | zero => simp [By]
  | succ i => simp only [List.take_succ_cons, By]; have := ih i; omega
theorem size_pos (t : Tm) : 1 ≤ size t := by cases t; simp [size]
theorem IF : ∀ (ts : List Tm), ts.length ≤ By ts
 | [] => by simp
 | t :: ts => by have := IF ts; have := size_pos t; simp only [List.length_cons, By]; omega
theorem DD {ts : List Tm} {i : Nat} {t : Tm} (h : ts[i]? = some t) : size t ≤ By ts := by
 have := Ls h
 have := MQ (ts := ts) (i + 1)
 omega
end Go.Eu
namespace Go.Abs
inductive Sp where
 | skip
 | free (v : AV)
 | read (obs : List BL) (v : AV)
 | eff (v : AV) (H' : List BL)
def Sp.val : Sp → AV
 | .skip => .tup []
 | .free v | .read _ v | .eff v _ => v
def Sp.isEff : Sp → Bool
 | .eff .. => true
 | _ => false
def Dm (o : Oper) : List Nat := (o.after.toList.filter (Region.binds .any)).map (·.on)
inductive Pred (ops : Array Oper) : Nat → Nat → Prop where
 | base {j i : Nat} {o : Oper} (ho : ops[i]? = some o) (hj : j ∈ Dm o) : Pred ops j i
 | trans {j k i : Nat} : Pred ops j k → Pred ops k i → Pred ops j i
def looks (ops : Array Oper) (o : Oper) : List Tmp := o.looksAt ops
def τS (ops : Array Oper) (sp : List Sp) (τ₀ : Nat → AV) : Nat → Nat → AV
 | 0 => τ₀
 | k + 1 => put (τS ops sp τ₀ k) ((ops[k]?).bind (·.dst)) ((sp.getD k .skip).val)
def Fg (sp : List Sp) (H₀ : List BL) : Nat → List BL
 | 0 => H₀
 | k + 1 => match sp.getD k .skip with
  | .eff _ H' => H'
  | _ => Fg sp H₀ k
def UC (P : Program) (ops : Array Oper) (o : Oper) (τ : Nat → AV) (H : List BL) : Sp → Prop
 | .skip => ∃ j want d, o.guard = some (j, want) ∧ (ops[j]?).bind (·.dst) = some d ∧ Tp (τ d) want
 | .free v => C4 ops ⟨0, τ, [], []⟩ o ∧ ∀ H, DS P o (ev τ) H v H
 | .read obs v => C4 ops ⟨0, τ, [], []⟩ o ∧ (∀ ob ∈ obs, ob ∈ H) ∧ ∀ H, (∀ ob ∈ obs, ob ∈ H) → DS P o (ev τ) H v H
 | .eff v H' => C4 ops ⟨0, τ, [], []⟩ o ∧ DS P o (ev τ) H v H'
structure LO (P : Program) (ops : Array Oper) (n : Nat) (Ex : Nat → Prop) (τ₀ : Nat → AV) (H₀ : List BL) (sp : List Sp) : Prop where
 dst : ∀ (k : Nat) o t, ops[k]? = some o → o.dst = some t → t < n
 run : ∀ (k : Nat) o, ops[k]? = some o → Ex k → UC P ops o (τS ops sp τ₀ k) (Fg sp H₀ k) (sp.getD k .skip)
 c0 : ∀ (i : Nat) o j, ops[i]? = some o → j ∈ Dm o → j < i
 c1 : ∀ (i k : Nat) o o' t, ops[i]? = some o → ops[k]? = some o' → t ∈ looks ops o → o'.dst = some t → k ≠ i → (k < i → Pred ops k i) ∧ (i < k → Pred ops i k)
 c2 : ∀ (i k : Nat) o o' t, ops[i]? = some o → ops[k]? = some o' → o.dst = some t → o'.dst = some t → i = k
 c3 : ∀ (i k : Nat), i < k → k < ops.size → (sp.getD i .skip).isEff = true → (sp.getD k .skip).isEff = true → Pred ops i k
 c4 : ∀ (i e : Nat) obs v ob, i < ops.size → e < ops.size → sp.getD i .skip = .read obs v → ob ∈ obs → (sp.getD e .skip).isEff = true → (Pred ops e i ∨ Pred ops i e) ∨ (ob ∈ Fg sp H₀ e ∧ ob ∈ Fg sp H₀ (e + 1))
section
variable {P : Program} {r : Option Nat} {ops : Array Oper} {Q : Exit → Act → World → Prop}
theorem I9 (I : Array Bool → Act → World → Prop) (hsz : ∀ l a w, I l a w → l.size = ops.size)
  (hstep : ∀ l a w, I l a w → ∀ i ∈ Region.ready .any ops l, wpOpIn (W r) 0 P ops Q i (I (l.setIfInBounds i true)) a w)
  (hend : ∀ l a w, I l a w → Region.ready .any ops l = [] → Q .normal a w) :
  ∀ (fuel : Nat) (l : Array Bool) (a : Act) (w : World), I l a w → (l.toList.filter (!·)).length ≤ fuel → wpAnyIn (W r) 0 P .any ops Q fuel l a w := by
 intro fuel
 induction fuel with
 | zero =>
  intro l a w h hf
  have hr : Region.ready .any ops l = [] := by
   have hall : ∀ x ∈ l.toList, x = true := by
    intro x hx
    cases x with
    | true => rfl
    | false =>
     have : false ∈ l.toList.filter (!·) := List.mem_filter.2 ⟨hx, rfl⟩
     have h0 : l.toList.filter (!·) = [] := by
      apply List.eq_nil_of_length_eq_zero; omega
     rw [h0] at this
     cases this
   unfold Region.ready
   rw [List.filter_eq_nil_iff]
   intro i hi
   have hi' : i < l.size := by rw [hsz l a w h]; simpa using hi
   have hli : l[i] = true := hall _ An
   simp [hi', hli]
  exact ⟨hr, hend l a w h hr⟩
 | succ fuel ih =>
  intro l a w h hf
  refine ⟨hend l a w h, fun i hi => ?_⟩
  refine wpOpIn_mono (fun a' w' h' => ih _ a' w' h' ?_) (hstep l a w h i hi)
  have hm := (mem_ready.1 hi).1
  have hi' : i < l.size := by
   rcases Nat.lt_or_ge i l.size with h | h
   ·exact h
   ·simp [Array.getElem?_eq_none h] at hm
  have hfalse : l[i] = false := by simpa [hi'] using hm
  have e : (l.setIfInBounds i true).toList = l.toList.set i true := by simp
  rw [e]
  have hlt : i < l.toList.length := by simpa using hi'
  have hl : l.toList = l.toList.take i ++ false :: l.toList.drop (i + 1) := by
   have := List.take_append_drop i l.toList
   rw [List.drop_eq_getElem_cons hlt] at this
   rw [show l.toList[i] = false from by simpa using hfalse] at this
   exact this.symm
  have hs : l.toList.set i true = l.toList.take i ++ true :: l.toList.drop (i + 1) := by
   rw [List.set_eq_take_append_cons_drop, if_pos hlt]
  have h1 : (l.toList.filter (!·)).length = ((l.toList.take i ++ false :: l.toList.drop (i + 1)).filter (!·)).length := by rw [← hl]
  rw [hs]
  simp only [List.filter_append, List.length_append, List.filter_cons, Bool.not_false, Bool.not_true, if_true, List.length_cons] at h1 ⊢
  simp at h1 ⊢
  omega
end
section
variable {P : Program} {ops : Array Oper} {n : Nat} {Ex : Nat → Prop} {τ₀ : Nat → AV} {H₀ : List BL} {sp : List Sp} {D : List Di}
theorem Pred.lt (hd : LO P ops n Ex τ₀ H₀ sp) {j i : Nat} (h : Pred ops j i) : j < i := by
 induction h with
 | base ho hj => exact hd.c0 _ _ _ ho hj
 | trans _ _ h1 h2 => omega
def Down (ops : Array Oper) (L : Nat → Prop) : Prop := ∀ (i : Nat) o j, ops[i]? = some o → L i → j ∈ Dm o → L j
theorem Down.pred {L : Nat → Prop} (hL : Down ops L) {j i : Nat} (h : Pred ops j i) : L i → L j := by
 induction h with
 | base ho hj => exact fun hi => hL _ _ _ ho hi hj
 | trans _ _ h1 h2 => exact fun hi => h1 (h2 hi)
def El (ops : Array Oper) (sp : List Sp) (τ₀ : Nat → AV) (L : Nat → Prop) (τ : Nat → AV) : Prop :=
 ∀ t, (∀ (k : Nat) o, ops[k]? = some o → o.dst = some t → L k → τ t = (sp.getD k .skip).val) ∧ ((∀ (k : Nat) o, ops[k]? = some o → o.dst = some t → ¬ L k) → τ t = τ₀ t)
theorem Ma {t d : Nat} (h : t ≠ d) : Nat.beq t d = false := by
 cases hq : Nat.beq t d with
 | false => rfl
 | true => exact absurd (Nat.eq_of_beq_eq_true hq) h
theorem El.put (hd : LO P ops n Ex τ₀ H₀ sp) {L : Nat → Prop} {τ : Nat → AV} (h : El ops sp τ₀ L τ) {i : Nat} {o : Oper} (ho : ops[i]? = some o) :
  El ops sp τ₀ (fun k => L k ∨ k = i) (Abs.put τ o.dst (sp.getD i .skip).val) := by
 intro t
 by_cases ht : o.dst = some t
 ·have e : Abs.put τ o.dst (sp.getD i .skip).val t = (sp.getD i .skip).val := by
   rw [ht]; simp [Abs.put]
  refine ⟨fun k o' ho' hk _ => ?_, fun hn => absurd (.inr Ao) (hn i o ho ht)⟩
  rw [e, hd.c2 i k o o' t ho ho' ht hk]
 ·have e : Abs.put τ o.dst (sp.getD i .skip).val t = τ t := by
   cases hq : o.dst with
   | none => rfl
   | some d =>
    have hne : t ≠ d := fun e => ht (by rw [hq, e])
    simp [Abs.put, Ma hne]
  rw [e]
  refine ⟨fun k o' ho' hk hl => ?_, fun hn => (h t).2 fun k o' ho' hk hl => hn k o' ho' hk (.inl hl)⟩
  rcases hl with hl | rfl
  ·exact (h t).1 k o' ho' hk hl
  ·rw [ho] at ho'; injection ho' with ho'; subst ho'; exact absurd hk ht
theorem JD (hd : LO P ops n Ex τ₀ H₀ sp) : ∀ k, k ≤ ops.size → El ops sp τ₀ (fun j => j < k) (τS ops sp τ₀ k)
 | 0, _ => fun t => ⟨fun k o _ _ h => absurd h Am, fun _ => rfl⟩
 | k + 1, hk => by
  have ho : ops[k]? = some ops[k] := Array.getElem?_eq_getElem Am
  have := (JD hd k Am).put hd ho
  have e : τS ops sp τ₀ (k + 1) = Abs.put (τS ops sp τ₀ k) (ops[k]).dst (sp.getD k .skip).val := by
   simp only [τS, ho, Option.bind_some]
  rw [e]
  intro t
  refine ⟨fun j o hj ht hl => (this t).1 j o hj ht Am, fun hn => (this t).2 fun j o hj ht hl => hn j o hj ht Am⟩
theorem JK (hd : LO P ops n Ex τ₀ H₀ sp) {L : Nat → Prop} (hL : Down ops L) {τ : Nat → AV} (h : El ops sp τ₀ L τ) {i : Nat} {o : Oper} (ho : ops[i]? = some o) (hi : ¬ L i) (hr : ∀ j ∈ Dm o, L j) {t : Nat} (ht : t ∈ looks ops o) :
  τ t = τS ops sp τ₀ i t := by
 have hlt : i < ops.size := by
  rcases Nat.lt_or_ge i ops.size with h | h
  ·exact h
  ·simp [Array.getElem?_eq_none h] at ho
 have hS := JD hd i Am t
 have hpre : ∀ j, Pred ops j i → L j := by
  intro j hj
  cases hj with
  | base ho' hj =>
   rw [ho] at ho'; injection ho' with ho'; subst ho'; exact hr _ hj
  | @trans _ k _ h1 h2 =>
   have : ∀ {a b}, Pred ops a b → b = i → L a := by
    intro a b hab
    induction hab with
    | base ho' hj => intro e; subst e; rw [ho] at ho'; injection ho' with ho'; subst ho'; exact hr _ hj
    | trans p1 _ _ ih2 => intro e; exact hL.pred p1 (ih2 e)
   exact this (h1.trans h2) Ao
 by_cases hw : ∃ (k : Nat) (o' : Oper), ops[k]? = some o' ∧ o'.dst = some t
 ·obtain ⟨k, o', ho', hk⟩ := hw
  by_cases hki : k = i
  ·subst hki
   have h1 : τ t = τ₀ t := (h t).2 fun j oj hj hjt hlj => by rw [hd.c2 j k oj o' t hj ho' hjt hk] at hlj; exact hi hlj
   have h2 : τS ops sp τ₀ k t = τ₀ t := hS.2 fun j oj hj hjt hlj => by rw [hd.c2 j k oj o' t hj ho' hjt hk] at hlj; omega
   rw [h1, h2]
  ·have hc := hd.c1 i k o o' t ho ho' ht hk hki
   rcases Nat.lt_or_ge k i with hlt' | hge
   ·rw [(h t).1 k o' ho' hk (hpre k (hc.1 hlt')), hS.1 k o' ho' hk hlt']
   ·have hlt' : i < k := by omega
    have hp := hc.2 hlt'
    have h1 : τ t = τ₀ t := (h t).2 fun j oj hj hjt hlj => by rw [hd.c2 j k oj o' t hj ho' hjt hk] at hlj; exact hi (hL.pred hp hlj)
    have h2 : τS ops sp τ₀ i t = τ₀ t := hS.2 fun j oj hj hjt hlj => by rw [hd.c2 j k oj o' t hj ho' hjt hk] at hlj; omega
    rw [h1, h2]
 ·have hw' : ∀ (k : Nat) o', ops[k]? = some o' → o'.dst = some t → False := fun k o' h1 h2 => hw ⟨k, o', h1, h2⟩
  rw [(h t).2 fun k o' h1 h2 _ => hw' k o' h1 h2, hS.2 fun k o' h1 h2 _ => hw' k o' h1 h2]
theorem MI {m : Nat} (h : (sp.getD m .skip).isEff = false) : Fg sp H₀ (m + 1) = Fg sp H₀ m := by
 simp only [Fg]
 cases hs : sp.getD m .skip <;> simp_all [Sp.isEff]
theorem Pa {ob : BL} : ∀ (d m i : Nat), i = m + d → (∀ e, m ≤ e → e < i → (sp.getD e .skip).isEff = true → ob ∈ Fg sp H₀ e) → ob ∈ Fg sp H₀ i → ob ∈ Fg sp H₀ m
 | 0, m, i, h, _, hi => by subst h; exact hi
 | d + 1, m, i, h, he, hi => by
  cases hs : (sp.getD m .skip).isEff with
  | true => exact he m Am Am hs
  | false =>
   rw [← MI hs]
   exact Pa d (m + 1) i Am (fun e h1 h2 h3 => he e Am h2 h3) hi
theorem SX {ob : BL} : ∀ (d i m : Nat), m = i + d → (∀ e, i ≤ e → e < m → (sp.getD e .skip).isEff = true → ob ∈ Fg sp H₀ (e + 1)) → ob ∈ Fg sp H₀ i → ob ∈ Fg sp H₀ m
 | 0, i, m, h, _, hi => by subst h; exact hi
 | d + 1, i, m, h, he, hi => by
  have hm : m = (i + d) + 1 := by omega
  cases hs : (sp.getD (i + d) .skip).isEff with
  | true => rw [hm]; exact he (i + d) Am Am hs
  | false =>
   rw [hm, MI hs]
   exact SX d i (i + d) Ao (fun e h1 h2 h3 => he e h1 Am h3) hi
theorem I5 : ∀ (d m i : Nat), i = m + d → (∀ e, m ≤ e → e < i → (sp.getD e .skip).isEff = false) → Fg sp H₀ i = Fg sp H₀ m
 | 0, m, i, h, _ => by subst h; rfl
 | d + 1, m, i, h, he => by
  have hi : i = (m + d) + 1 := by omega
  rw [hi, MI (he (m + d) Am Am)]
  exact I5 d m (m + d) Ao fun e h1 h2 => he e h1 Am
end
def DI (ops : Array Oper) (n : Nat) (D : List Di) (τ : Nat → AV) (H : List BL) (sp : List Sp) (F₀ : Nat → Prop) (w₀ : World) (l : Array Bool) (a : Act) (w : World) : Prop :=
 l.size = ops.size ∧ Down ops (fun i => l.getD i false = true) ∧ ∃ τ' m F, El ops sp τ (fun i => l.getD i false = true) τ' ∧ m ≤ ops.size ∧
   (∀ e, e < ops.size → (sp.getD e .skip).isEff = true → (l.getD e false = true ↔ e < m)) ∧ DB F ⟨n, τ', Fg sp H m, D⟩ a w ∧ Trans F₀ H w₀ F (Fg sp H m) w
theorem TH {P : Program} {r : Option Nat} {ops : Array Oper} {id n : Nat} {τ : Nat → AV} {H : List BL} {D : List Di} {Q : Ck → Bq → Prop} (hm : P.follows .mixedOrders = true) {ι : Type} {Good : ι → Prop} {Ok : ι → Nat → Prop} {Fam : ι → List Sp} {opn : Nat → Bool}
  (hR : ∃ i, Good i) (hfd : ∀ i, Good i → LO P ops n (fun k => opn k = false ∧ ∀ p, opn p = true → Pred ops p k → Ok i p) τ H (Fam i))
  (heff : ∀ i p, Good i → opn p = true → p < ops.size → (∀ q, opn q = true → Pred ops q p → Ok i q) → ((Fam i).getD p .skip).isEff = true)
  (hop : ∀ i p o, Good i → opn p = true → ops[p]? = some o → (∀ q, opn q = true → Pred ops q p → Ok i q) → ∃ R, C4 ops ⟨0, τS ops (Fam i) τ p, [], []⟩ o ∧ C6 P o (ev (τS ops (Fam i) τ p)) (Fg (Fam i) H p) R ∧
   (∀ v H', R (.val v) H' → ∃ i', Good i' ∧ (∀ k, k ≠ p → ¬ Pred ops p k → (Fam i').getD k .skip = (Fam i).getD k .skip ∧ (Ok i k → Ok i' k)) ∧ Ok i' p ∧ (Fam i').getD p .skip = .eff v H') ∧
   (∀ v H', R (.panic v) H' → ∀ τ', (∀ t, (∀ (k : Nat) o, ops[k]? = some o → o.dst ≠ some t) → τ' t = τ t) → Q (.panic v) ⟨n, τ', H', D⟩))
  (next : ∀ i, Good i → (∀ p, opn p = true → p < ops.size → Ok i p) → Q .normal ⟨n, τS ops (Fam i) τ ops.size, Fg (Fam i) H ops.size, D⟩) : Hj P r (.region id ops true) ⟨n, τ, H, D⟩ Q := by
 intro F₀ a₀ w₀ hs₀
 refine wpIn_region_any hm ?_
 have same : C2 F₀ w₀ F₀ { w₀ with drawn := w₀.drawn + 1 } := ⟨Nat.le_refl _, fun _ _ _ => rfl, fun _ h _ => h⟩
 have t₀ : Trans F₀ H w₀ F₀ H { w₀ with drawn := w₀.drawn + 1 } :=
  ⟨Nat.le_refl _, fun _ _ _ => rfl, fun _ h _ => h, fun _ h => .inl h, fun o ho b hb => .inl ⟨o, ho, hb⟩, rfl, rfl, rfl⟩
 have hs₁ : DB F₀ ⟨n, τ, H, D⟩ a₀ { w₀ with drawn := w₀.drawn + 1 } :=
  ⟨hs₀.size, fun t => CF.mono same _ _ (hs₀.tmp t), hs₀.heap.stable' same (fun _ h => h) (fun _ _ _ _ => rfl) hs₀.heap.bd, Eb.mono same _ _ hs₀.defs⟩
 refine I9 (I := fun l a w => ∃ ix, Good ix ∧ (∀ p, opn p = true → l.getD p false = true → Ok ix p) ∧ DI ops n D τ H (Fam ix) F₀ w₀ l a w) (fun l a w ⟨_, _, _, h⟩ => h.1) ?_ ?_ _ _ _ _ ?_ ?_
 ·rintro l a w ⟨ix, hGix, hOkl, hsz, hdown, τ', m, F, hτ, hm', hst, hs, ht⟩ i hi
  have hd := hfd ix hGix
  have hspp := fun p => heff ix p hGix
  have hopp := fun p o => hop ix p o hGix
  generalize hsp0 : Fam ix = sp at *
  obtain ⟨hun, o, ho, hall⟩ := mem_ready.1 hi
  have hlt : i < ops.size := by
   rcases Nat.lt_or_ge i ops.size with h | h
   ·exact h
   ·simp [Array.getElem?_eq_none h] at ho
  have hil : i < l.size := by omega
  have hnot : ¬ (l.getD i false = true) := by
   have : l[i] = false := by simpa [hil] using hun
   simp [hil, this]
  have hr : ∀ j ∈ Dm o, l.getD j false = true := by
   intro j hj
   simp only [Dm, List.mem_map, List.mem_filter] at hj
   obtain ⟨e, ⟨he, hb⟩, rfl⟩ := hj
   exact hall e (by simpa using he) hb
  have hpre : ∀ j, Pred ops j i → l.getD j false = true := by
   intro j hj
   have : ∀ {a b}, Pred ops a b → b = i → l.getD a false = true := by
    intro a b hab
    induction hab with
    | base ho' hj => intro e; subst e; rw [ho] at ho'; injection ho' with ho'; subst ho'; exact hr _ hj
    | trans p1 _ _ ih2 => intro e; exact hdown.pred p1 (ih2 e)
   exact this hj Ao
  have hlook : ∀ t ∈ looks ops o, τ' t = τS ops sp τ i t := fun t ht => JK hd hdown hτ ho hnot hr ht
  have hops : ∀ x ∈ o.op.operands.toList, ev τ' x = ev (τS ops sp τ i) x := by
   intro x hx
   cases x with
   | tmp t => exact hlook t (List.mem_append_left _ (List.mem_filterMap.2 ⟨.tmp t, hx, rfl⟩))
   | _ => rfl
  have hguard : ∀ j want d, o.guard = some (j, want) → (ops[j]?).bind (·.dst) = some d → τ' d = τS ops sp τ i d := by
   intro j want d hg hj
   refine hlook d (List.mem_append_right _ ?_)
   simp [hg, hj]
  have hset : ∀ k, (l.setIfInBounds i true).getD k false = true ↔ (l.getD k false = true ∨ k = i) := by
   intro k
   by_cases hk : k = i
   ·subst hk; simp [hil]
   ·simp [Array.getElem?_setIfInBounds_ne (Ne.symm hk), hk]
  have hdown' : Down ops (fun k => (l.setIfInBounds i true).getD k false = true) := by
   intro k o' j ho' hk hj
   rcases (hset k).1 hk with h | h
   ·exact (hset j).2 (.inl (hdown k o' j ho' h hj))
   ·subst h; rw [ho] at ho'; injection ho' with ho'; subst ho'; exact (hset j).2 (.inl (hr j hj))
  have hτ' : El ops sp τ (fun k => (l.setIfInBounds i true).getD k false = true) (put τ' o.dst (sp.getD i .skip).val) := by
   have := hτ.put hd ho
   intro t
   exact ⟨fun k o' h1 h2 h3 => (this t).1 k o' h1 h2 ((hset k).1 h3), fun hn => (this t).2 fun k o' h1 h2 h3 => hn k o' h1 h2 ((hset k).2 h3)⟩
  have hdst := hd.dst i o
  have hrun : (opn i = false ∧ ∀ p, opn p = true → Pred ops p i → Ok ix p) → _ := hd.run i o ho
  have hsz' : (l.setIfInBounds i true).size = ops.size := by simp [hsz]
  have close : ∀ {a' w' F' m'}, m' ≤ ops.size → (∀ e, e < ops.size → (sp.getD e .skip).isEff = true → ((l.setIfInBounds i true).getD e false = true ↔ e < m')) →
    DB F' ⟨n, put τ' o.dst (sp.getD i .skip).val, Fg sp H m', D⟩ a' w' → Trans F (Fg sp H m) w F' (Fg sp H m') w' →
    opn i = false → ∃ ix, Good ix ∧ (∀ p, opn p = true → (l.setIfInBounds i true).getD p false = true → Ok ix p) ∧ DI ops n D τ H (Fam ix) F₀ w₀ (l.setIfInBounds i true) a' w' := by
   intro a' w' F' m' h1 h2 h3 h4 hno
   refine ⟨ix, hGix, fun p hp hl => ?_, by rw [hsp0]; exact ⟨hsz', hdown', _, m', F', hτ', h1, h2, h3, ht.trans hs₀.heap.bd h4⟩⟩
   rcases (hset p).1 hl with h | h
   ·exact hOkl p hp h
   ·subst h; rw [hno] at hp; cases hp
  have stay : (sp.getD i .skip).isEff = false → ∀ e, e < ops.size → (sp.getD e .skip).isEff = true → ((l.setIfInBounds i true).getD e false = true ↔ e < m) := by
   intro hne e he hee
   rw [hset e, hst e he hee]
   constructor
   ·rintro (h | rfl)
    ·exact h
    ·rw [hne] at hee; cases hee
   ·exact .inl
  -- one operation that yields
  have yields : ∀ {v H'} {m'}, (sp.getD i .skip).val = v → C4 ops ⟨n, τ', Fg sp H m, D⟩ o → DS P o (ev (τS ops sp τ i)) (Fg sp H m) v H' → H' = Fg sp H m' → m' ≤ ops.size →
    (∀ e, e < ops.size → (sp.getD e .skip).isEff = true → ((l.setIfInBounds i true).getD e false = true ↔ e < m')) →
    opn i = false → wpOpIn (W r) 0 P ops (post F₀ H w₀ Q) i (fun a w => ∃ ix, Good ix ∧ (∀ p, opn p = true → (l.setIfInBounds i true).getD p false = true → Ok ix p) ∧ DI ops n D τ H (Fam ix) F₀ w₀ (l.setIfInBounds i true) a w) a w := by
   intro v H' m' hv hwant hop hH' hm1 hst' hno
   unfold wpOpIn
   simp only [ho, Gp hs hwant, if_true]
   have hw := hop r F _ a w hs rfl (fun x hx => hops x hx) (fun t ht => hdst t ho ht)
   unfold Oper.wpIn at *
   refine ⟨hw.1, ?_⟩
   replace hw := hw.2
   generalize (o.semAt (W r).round a.eval).run P w = rr at *
   have fin : ∀ {a' w'}, (∃ v' H'' F', Yn v H' (.val v') H'' ∧ DB F' (Bq.put ⟨n, τ', Fg sp H m, D⟩ o.dst v' H'') a' w' ∧ Trans F (Fg sp H m) w F' H'' w') → ∃ ix, Good ix ∧ (∀ p, opn p = true → (l.setIfInBounds i true).getD p false = true → Ok ix p) ∧ DI ops n D τ H (Fam ix) F₀ w₀ (l.setIfInBounds i true) a' w' := by
    rintro a' w' ⟨v', H'', F', ⟨h1, h2⟩, h3, h4⟩
    subst h1; subst h2; subst hv; subst hH'
    exact close hm1 hst' h3 h4 hno
   cases rr with
   | ok nx w' =>
    cases nx <;> simp only [Oper.uponIn] at hw ⊢
    case value u => exact fin hw
    case skip => exact fin hw
    case defer d => exact fin hw
    case enter f args =>
     refine ⟨hw.1, hw.2.mono fun e w'' he => ?_⟩
     cases e with
     | returned u => exact fin he
     | panicked c => obtain ⟨_, _, _, _, h, _⟩ := he; exact h.elim
     | outgrown => obtain ⟨_, _, _, _, _, _, h, _⟩ := he; exact h.elim
    case row row args => exact ⟨hw.1, hw.2.mono fun u w'' h => fin h⟩
    case round l' f tmps assign body =>
     refine ⟨hw.1, hw.2.mono fun e w'' he => ?_⟩
     cases e with
     | returned u => exact fin he
     | panicked c => obtain ⟨_, _, _, _, h, _⟩ := he; exact h.elim
     | outgrown => obtain ⟨_, _, _, _, _, _, h, _⟩ := he; exact h.elim
   | halt x w' =>
    cases x <;> simp only [Oper.uponIn] at hw ⊢
    case panic u => obtain ⟨_, _, _, _, h, _⟩ := hw; exact h.elim
  have wants : C4 ops ⟨0, τS ops sp τ i, [], []⟩ o → C4 ops ⟨n, τ', Fg sp H m, D⟩ o := by
   intro h
   unfold C4 at *
   cases hg : o.guard with
   | none => simp [hg]
   | some jw =>
    obtain ⟨j, want⟩ := jw
    simp only [hg] at h ⊢
    obtain ⟨d, h1, h2⟩ := h
    exact ⟨d, h1, by rw [← h2]; exact hguard j want d hg h1⟩
  have hOkp : ∀ q, opn q = true → Pred ops q i → Ok ix q := fun q hq hp => hOkl q hq (hpre q hp)
  cases hip : opn i with
  | true =>
   -- an operation whose outcome is open
   have hee : (sp.getD i .skip).isEff = true := hspp i hip hlt hOkp
   have hmi : m ≤ i := by
    rcases Nat.lt_or_ge i m with h | h
    ·exact absurd ((hst i hlt hee).2 h) hnot
    ·exact h
   have hconst : Fg sp H i = Fg sp H m := by
    refine I5 (i - m) m i Am fun e h1 h2 => ?_
    cases hq : (sp.getD e .skip).isEff with
    | false => rfl
    | true =>
     have hel := hpre e (hd.c3 e i h2 hlt hq hee)
     have := (hst e Am hq).1 hel
     omega
   obtain ⟨R, hwant, hopi, hvals, hpans⟩ := hopp i o hip ho hOkp
   rw [hconst] at hopi
   have hLn : ∀ k, l.getD k false = true → k ≠ i ∧ ¬ Pred ops i k := by
    intro k hk
    exact ⟨fun e => by subst e; exact hnot hk, fun h => hnot (hdown.pred h hk)⟩
   unfold wpOpIn
   simp only [ho, Gp hs (wants hwant), if_true]
   have hw := hopi r F _ a w hs rfl (fun x hx => hops x hx) (fun t ht => hdst t ho ht)
   unfold Oper.wpIn at *
   refine ⟨hw.1, ?_⟩
   replace hw := hw.2
   generalize (o.semAt (W r).round a.eval).run P w = rr at *
   have fin : ∀ {a' w'}, (∃ v' H'' F', R (.val v') H'' ∧ DB F' (Bq.put ⟨n, τ', Fg sp H m, D⟩ o.dst v' H'') a' w' ∧ Trans F (Fg sp H m) w F' H'' w') → ∃ ix, Good ix ∧ (∀ p, opn p = true → (l.setIfInBounds i true).getD p false = true → Ok ix p) ∧ DI ops n D τ H (Fam ix) F₀ w₀ (l.setIfInBounds i true) a' w' := by
    rintro a' w' ⟨v', H'', F', h1, h3, h4⟩
    obtain ⟨ix', hG', hag', hok', hspi'⟩ := hvals v' H'' h1
    have hag : ∀ k, l.getD k false = true → (Fam ix').getD k .skip = sp.getD k .skip := fun k hk => (hag' k (hLn k hk).1 (hLn k hk).2).1
    refine ⟨ix', hG', fun p hp hl => ?_, ?_⟩
    ·rcases (hset p).1 hl with h | h
     ·exact (hag' p (hLn p h).1 (hLn p h).2).2 (hOkl p hp h)
     ·subst h; exact hok'
    have hd' := hfd ix' hG'
    have hee' : ((Fam ix').getD i .skip).isEff = true := by rw [hspi']; rfl
    have hτ2 : El ops (Fam ix') τ (fun k => l.getD k false = true) τ' := by
     intro t
     refine ⟨fun k o' a1 a2 a3 => ?_, (hτ t).2⟩
     rw [hag k a3]
     exact (hτ t).1 k o' a1 a2 a3
    have hτ3 := hτ2.put hd' ho
    have hHi : Fg (Fam ix') H (i + 1) = H'' := by simp only [Fg, hspi']
    refine ⟨hsz', hdown', put τ' o.dst v', i + 1, F', ?_, by omega, ?_, ?_, ?_⟩
    ·intro t
     rw [hspi'] at hτ3
     exact ⟨fun k o' a1 a2 a3 => (hτ3 t).1 k o' a1 a2 ((hset k).1 a3), fun hn => (hτ3 t).2 fun k o' a1 a2 a3 => hn k o' a1 a2 ((hset k).2 a3)⟩
    ·intro e he hq
     rw [hset e]
     constructor
     ·rintro (h | rfl)
      ·have hq' : (sp.getD e .skip).isEff = true := by rw [← hag e h]; exact hq
       have := (hst e he hq').1 h
       omega
      ·omega
     ·intro h
      by_cases hei : e = i
      ·exact .inr hei
      ·exact .inl (hpre e (hd'.c3 e i Am hlt hq hee'))
    ·rw [hHi]; exact h3
    ·rw [hHi]; exact ht.trans hs₀.heap.bd h4
   have pans : ∀ {e a' w'}, (∃ v H' F' u, R (.panic v) H' ∧ e = .panic [{ v := u, recovered := false }] ∧ CF F' w' v u ∧ DB F' ⟨n, τ', H', D⟩ a' w' ∧ Trans F (Fg sp H m) w F' H' w') → post F₀ H w₀ Q e a' w' := by
    rintro e a' w' ⟨v, H', F', u, h1, rfl, h2, h3, h4⟩
    exact ⟨.panic v, _, F', hpans v H' h1 τ' fun t hn => (hτ t).2 fun k o' a1 a2 _ => hn k o' a1 a2, ⟨u, Ao, h2⟩, h3, ht.trans hs₀.heap.bd h4⟩
   cases rr with
   | ok nx w' =>
    cases nx <;> simp only [Oper.uponIn] at hw ⊢
    case value u => exact fin hw
    case skip => exact fin hw
    case defer d => exact fin hw
    case enter f args =>
     refine ⟨hw.1, hw.2.mono fun e w'' he => ?_⟩
     cases e with
     | returned u => exact fin he
     | panicked c => exact pans he
     | outgrown => obtain ⟨_, _, _, _, _, _, _, h, _⟩ := he; cases h
    case row row args => exact ⟨hw.1, hw.2.mono fun u w'' h => fin h⟩
    case round l' f tmps assign body =>
     refine ⟨hw.1, hw.2.mono fun e w'' he => ?_⟩
     cases e with
     | returned u => exact fin he
     | panicked c => exact pans he
     | outgrown => obtain ⟨_, _, _, _, _, _, _, h, _⟩ := he; cases h
   | halt x w' =>
    cases x <;> simp only [Oper.uponIn] at hw ⊢
    case panic u => exact pans hw
  | false =>
  replace hrun := hrun ⟨hip, hOkp⟩
  cases hsp : sp.getD i .skip with
  | skip =>
   rw [hsp] at hrun
   obtain ⟨j, want, d, hg, hj, hb⟩ := hrun
   have hw : Region.wanted o (yielded ops a.tmps) = false := Ib (S := ⟨n, τ', Fg sp H m, D⟩) hs hg hj (by show Tp (τ' d) want; rw [hguard j want d hg hj]; exact hb)
   unfold wpOpIn
   simp only [ho, hw, Bool.false_eq_true, if_false]
   have hv : (sp.getD i .skip).val = .tup [] := by rw [hsp]; rfl
   refine ⟨fun _ _ => trivial, close hm' (stay (by rw [hsp]; rfl)) ?_ .refl hip⟩
   rw [hv]
   exact hs.put (fun t ht => hdst t ho ht) ⟨Nat.le_refl _, fun _ _ _ => Ao, fun _ h _ => h⟩ hs.heap (by simp only [CF, Bu, undef]; exact ⟨[], rfl, rfl⟩)
  | free v =>
   rw [hsp] at hrun
   exact yields (by rw [hsp]; rfl) (wants hrun.1) (hrun.2 _) Ao hm' (stay (by rw [hsp]; rfl)) hip
  | read obs v =>
   rw [hsp] at hrun
   obtain ⟨hwant, hmem, hop⟩ := hrun
   refine yields (by rw [hsp]; rfl) (wants hwant) (hop _ fun ob hob => ?_) Ao hm' (stay (by rw [hsp]; rfl)) hip
   have hun' : ∀ e, e < ops.size → (sp.getD e .skip).isEff = true → ¬ Pred ops e i → ¬ Pred ops i e → ob ∈ Fg sp H e ∧ ob ∈ Fg sp H (e + 1) := by
    intro e he hee h1 h2
    rcases hd.c4 i e obs v ob hlt he hsp hob hee with (h | h) | h
    ·exact absurd h h1
    ·exact absurd h h2
    ·exact h
   rcases Nat.le_total m i with hmi | him
   ·refine Pa (i - m) m i Am (fun e h1 h2 h3 => ?_) (hmem ob hob)
    have hel : ¬ (l.getD e false = true) := fun h => by have := (hst e Am h3).1 h; omega
    exact (hun' e Am h3 (fun h => hel (hpre e h)) (fun h => by have := h.lt hd; omega)).1
   ·refine SX (m - i) i m Am (fun e h1 h2 h3 => ?_) (hmem ob hob)
    have hel : l.getD e false = true := (hst e Am h3).2 h2
    have hne : e ≠ i := fun h => by subst h; exact hnot hel
    exact (hun' e Am h3 (fun h => by have := h.lt hd; omega) (fun h => hnot (hdown.pred h hel))).2
  | eff v H' =>
   rw [hsp] at hrun
   have hee : (sp.getD i .skip).isEff = true := by rw [hsp]; rfl
   have hmi : m ≤ i := by
    rcases Nat.lt_or_ge i m with h | h
    ·exact absurd ((hst i hlt hee).2 h) hnot
    ·exact h
   have hconst : Fg sp H i = Fg sp H m := by
    refine I5 (i - m) m i Am fun e h1 h2 => ?_
    cases hq : (sp.getD e .skip).isEff with
    | false => rfl
    | true =>
     have hel := hpre e (hd.c3 e i h2 hlt hq hee)
     have := (hst e Am hq).1 hel
     omega
   rw [hconst] at hrun
   refine yields (m' := i + 1) (by rw [hsp]; rfl) (wants hrun.1) hrun.2 (by show H' = (match sp.getD i .skip with | .eff _ H' => H' | _ => Fg sp H i); rw [hsp]) Am ?_ hip
   intro e he hq
   rw [hset e, hst e he hq]
   constructor
   ·rintro (h | rfl) <;> omega
   ·intro h
    rcases Nat.lt_or_ge e m with h' | h'
    ·exact .inl h'
    ·by_cases hei : e = i
     ·exact .inr hei
     ·have hel := hpre e (hd.c3 e i Am hlt hq hee)
      exact .inl ((hst e he hq).1 hel)
 ·rintro l a w ⟨ix, hGix, hOkl, hsz, hdown, τ', m, F, hτ, hm', hst, hs, ht⟩ hr
  have hd := hfd ix hGix
  have next := next ix hGix
  generalize Fam ix = sp at *
  have hall : ∀ i, i < ops.size → l.getD i false = true := by
   intro i
   induction i using Nat.strongRecOn with
   | _ i ih =>
    intro hi
    cases hq : l.getD i false with
    | true => rfl
    | false =>
     have ho : ops[i]? = some ops[i] := Array.getElem?_eq_getElem hi
     have : i ∈ Region.ready .any ops l := by
      refine mem_ready.2 ⟨?_, ops[i], ho, ?_⟩
      ·have : i < l.size := by omega
       simp [this] at hq ⊢; exact hq
      ·intro e he hb
       have hj : e.on ∈ Dm ops[i] := by
        simp only [Dm, List.mem_map, List.mem_filter]
        exact ⟨e, ⟨by simpa using he, hb⟩, rfl⟩
       have hlt := hd.c0 i _ _ ho hj
       exact ih e.on hlt Am
     rw [hr] at this
     cases this
  have hτe : τ' = τS ops sp τ ops.size := by
   funext t
   have h2 := JD hd ops.size (Nat.le_refl _) t
   by_cases hw : ∃ (k : Nat) (o' : Oper), ops[k]? = some o' ∧ o'.dst = some t
   ·obtain ⟨k, o', ho', hk⟩ := hw
    have hlt : k < ops.size := by
     rcases Nat.lt_or_ge k ops.size with h | h
     ·exact h
     ·simp [Array.getElem?_eq_none h] at ho'
    rw [(hτ t).1 k o' ho' hk (hall k hlt), h2.1 k o' ho' hk hlt]
   ·have hw' : ∀ (k : Nat) o', ops[k]? = some o' → o'.dst = some t → False := fun k o' h1 h2 => hw ⟨k, o', h1, h2⟩
    rw [(hτ t).2 fun k o' h1 h2 _ => hw' k o' h1 h2, h2.2 fun k o' h1 h2 _ => hw' k o' h1 h2]
  have hHe : Fg sp H ops.size = Fg sp H m := by
   refine I5 (ops.size - m) m ops.size Am fun e h1 h2 => ?_
   cases hq : (sp.getD e .skip).isEff with
   | false => rfl
   | true =>
    have := (hst e h2 hq).1 (hall e h2)
    omega
  rw [hHe, ← hτe] at next
  exact ⟨.normal, _, F, next fun p hp hlt => hOkl p hp (hall p hlt), Ao, hs, ht⟩
 ·obtain ⟨ix, hGix⟩ := hR
  refine ⟨ix, hGix, fun p _ hl => ?_, by simp, ?_, τ, 0, F₀, ?_, Nat.zero_le _, ?_, hs₁, t₀⟩
  ·by_cases h : p < ops.size <;> simp [h] at hl
  ·intro i o j ho hi
   by_cases h : i < ops.size <;> simp [h] at hi
  ·intro t
   refine ⟨fun k o ho hk hl => ?_, fun _ => Ao⟩
   by_cases h : k < ops.size <;> simp [h] at hl
  ·intro e he hee
   simp [he]
 ·have := List.length_filter_le (fun b : Bool => !b) (Array.replicate ops.size false).toList
  simp at this ⊢
def No (acc : List Nat) (o : Oper) : Nat := (Dm o).foldl (fun m j => m ||| 2 ^ j ||| acc.getD j 0) 0
def S4 : List Nat → List Oper → List Nat
 | acc, [] => acc
 | acc, o :: r => S4 (acc ++ [No acc o]) r
def bm (ops : Array Oper) : List Nat := S4 [] ops.toList
def LP (ops : Array Oper) (j i : Nat) : Bool := ((bm ops).getD i 0).testBit j
theorem NS {acc : List Nat} {j : Nat} : ∀ (l : List Nat) (m : Nat), (l.foldl (fun m j => m ||| 2 ^ j ||| acc.getD j 0) m).testBit j = true → m.testBit j = true ∨ ∃ k ∈ l, j = k ∨ (acc.getD k 0).testBit j = true
 | [], m, h => .inl h
 | k :: l, m, h => by
  rcases NS l _ h with h | ⟨k', hk, h⟩
  ·simp only [Nat.testBit_or, Nat.testBit_two_pow, Bool.or_eq_true, decide_eq_true_eq] at h
   rcases h with (h | h) | h
   ·exact .inl h
   ·exact .inr ⟨k, by simp, .inl h.symm⟩
   ·exact .inr ⟨k, by simp, .inr h⟩
  ·exact .inr ⟨k', by simp [hk], h⟩
theorem ME {ops : Array Oper} : ∀ (r : List Oper) (acc : List Nat), (∀ (j : Nat), r[j]? = ops.toList[acc.length + j]?) → (∀ i j, (acc.getD i 0).testBit j = true → Pred ops j i) →
  ∀ i j, ((S4 acc r).getD i 0).testBit j = true → Pred ops j i
 | [], acc, _, h => h
 | o :: r, acc, hr, h => by
  refine ME r _ ?_ ?_
  ·intro j
   have := hr (j + 1)
   simp only [List.getElem?_cons_succ, List.length_append, List.length_singleton] at this ⊢
   rw [this]
   congr 1
   omega
  ·intro i j hb
   have ho : ops[acc.length]? = some o := by
    have := hr 0
    simpa using this.symm
   rcases Nat.lt_trichotomy i acc.length with hlt | heq | hgt
   ·have e : (acc ++ [No acc o]).getD i 0 = acc.getD i 0 := by simp [List.getD, List.getElem?_append_left hlt]
    rw [e] at hb
    exact h i j hb
   ·subst heq
    have e : (acc ++ [No acc o]).getD acc.length 0 = No acc o := by simp
    rw [e] at hb
    rcases NS _ _ hb with hb | ⟨k, hk, hb⟩
    ·simp at hb
    ·rcases hb with rfl | hb
     ·exact .base ho hk
     ·exact (h k j hb).trans (.base ho hk)
   ·have e : (acc ++ [No acc o]).getD i 0 = 0 := by
     simp [List.getD, List.getElem?_eq_none (by simp; omega : (acc ++ [No acc o]).length ≤ i)]
    rw [e] at hb
    simp at hb
theorem Dy {ops : Array Oper} {j i : Nat} (h : LP ops j i = true) : Pred ops j i :=
 ME ops.toList [] An (by intro i j h; simp at h) i j h
def MC (ops : Array Oper) (n : Nat) (effs : List Bool) : Bool :=
 let b := bm ops
 let pr (j i : Nat) : Bool := (b.getD i 0).testBit j
 let l := ops.toList.zipIdx
 l.all fun (o, i) =>
  (Dm o).all (fun j => Nat.blt j i) &&
  (match o.dst with | some t => Nat.blt t n | none => true) &&
  l.all fun (o', k) =>
   (Nat.beq k i || (match o'.dst with
    | some t => !((looks ops o).contains t) || (if Nat.blt k i then pr k i else pr i k)
    | none => true)) &&
   (Nat.beq k i || (match o.dst, o'.dst with
    | some t, some t' => !(Nat.beq t t')
    | _, _ => true)) &&
   (!(Nat.blt i k && effs.getD i false && effs.getD k false) || pr i k)
theorem I6 {ops : Array Oper} {n : Nat} {effs : List Bool} (h : MC ops n effs = true) :
  (∀ (k : Nat) o t, ops[k]? = some o → o.dst = some t → t < n) ∧ (∀ (i : Nat) o j, ops[i]? = some o → j ∈ Dm o → j < i) ∧
  (∀ (i k : Nat) o o' t, ops[i]? = some o → ops[k]? = some o' → t ∈ looks ops o → o'.dst = some t → k ≠ i → (k < i → Pred ops k i) ∧ (i < k → Pred ops i k)) ∧
  (∀ (i k : Nat) o o' t, ops[i]? = some o → ops[k]? = some o' → o.dst = some t → o'.dst = some t → i = k) ∧
  (∀ (i k : Nat), i < k → k < ops.size → effs.getD i false = true → effs.getD k false = true → Pred ops i k) := by
 unfold MC at h
 rw [List.all_eq_true] at h
 have at' : ∀ (i : Nat) o, ops[i]? = some o → (o, i) ∈ ops.toList.zipIdx := by
  intro i o ho
  rw [List.mem_zipIdx_iff_getElem?]
  simpa using ho
 refine ⟨?_, ?_, ?_, ?_, ?_⟩
 ·intro k o t ho ht
  have := h _ (at' k o ho)
  simp only [Bool.and_eq_true] at this
  have := this.1.2
  rw [ht] at this
  simpa [Nat.blt_eq] using this
 ·intro i o j ho hj
  have := h _ (at' i o ho)
  simp only [Bool.and_eq_true] at this
  have := List.all_eq_true.1 this.1.1 j hj
  simpa [Nat.blt_eq] using this
 ·intro i k o o' t ho ho' ht hk hki
  have := h _ (at' i o ho)
  simp only [Bool.and_eq_true] at this
  have := List.all_eq_true.1 this.2 _ (at' k o' ho')
  simp only [Bool.and_eq_true, Bool.or_eq_true] at this
  have := this.1.1
  rcases this with h | h
  ·exact absurd (Nat.eq_of_beq_eq_true h) hki
  ·rw [hk] at h
   simp only [Bool.or_eq_true, Bool.not_eq_true'] at h
   rcases h with h | h
   ·simp at h; exact absurd ht h
   ·constructor
    ·intro hlt
     rw [if_pos (by simpa [Nat.blt_eq] using hlt)] at h
     exact Dy h
    ·intro hlt
     rw [if_neg (by simp [Nat.blt_eq]; omega)] at h
     exact Dy h
 ·intro i k o o' t ho ho' ht hk
  have := h _ (at' i o ho)
  simp only [Bool.and_eq_true] at this
  have := List.all_eq_true.1 this.2 _ (at' k o' ho')
  simp only [Bool.and_eq_true, Bool.or_eq_true] at this
  have := this.1.2
  rcases this with h | h
  ·exact (Nat.eq_of_beq_eq_true h).symm
  ·rw [ht, hk] at h
   simp [Nat.beq_refl] at h
 ·intro i k hlt hk hi hke
  have ho : ops[i]? = some ops[i] := Array.getElem?_eq_getElem Am
  have ho' : ops[k]? = some ops[k] := Array.getElem?_eq_getElem hk
  have := h _ (at' i _ ho)
  simp only [Bool.and_eq_true] at this
  have := List.all_eq_true.1 this.2 _ (at' k _ ho')
  simp only [Bool.and_eq_true, Bool.or_eq_true] at this
  have := this.2
  simp only [hi, hke, Bool.and_true, Bool.not_eq_true'] at this
  rcases this with h | h
  ·have : Nat.blt i k = true := by simpa [Nat.blt_eq] using hlt
   simp [this] at h
  ·exact Dy h
def Ji (ops : Array Oper) (k : Nat) (H H' : List BL) : List (Nat × BL) → Prop
 | [] => True
 | (i, ob) :: r => (LP ops i k = true ∨ (ob ∈ H ∧ ob ∈ H')) ∧ Ji ops k H H' r
def P0 (ops : Array Oper) (k : Nat) (ob : BL) : List (Nat × List BL × List BL) → Prop
 | [] => True
 | (e, H, H') :: r => (LP ops e k = true ∨ (ob ∈ H ∧ ob ∈ H')) ∧ P0 ops k ob r
theorem LS {ops : Array Oper} {k : Nat} {H H' : List BL} : ∀ {rd : List (Nat × BL)} {i ob}, Ji ops k H H' rd → (i, ob) ∈ rd → LP ops i k = true ∨ (ob ∈ H ∧ ob ∈ H')
 | [], _, _, _, h => by cases h
 | (j, ob') :: r, i, ob, h, hm => by
  rcases List.mem_cons.1 hm with e | hm
  ·injection e with e1 e2; subst e1; subst e2; exact h.1
  ·exact LS h.2 hm
theorem Qt {ops : Array Oper} {k : Nat} {ob : BL} : ∀ {ef : List (Nat × List BL × List BL)} {e H H'}, P0 ops k ob ef → (e, H, H') ∈ ef → LP ops e k = true ∨ (ob ∈ H ∧ ob ∈ H')
 | [], _, _, _, _, h => by cases h
 | (j, G, G') :: r, e, H, H', h, hm => by
  rcases List.mem_cons.1 hm with q | hm
  ·injection q with e1 e2; injection e2 with e2 e3; subst e1; subst e2; subst e3; exact h.1
  ·exact Qt h.2 hm
theorem Mn (sp : List Sp) (i : Nat) : (sp.map Sp.isEff).getD i false = (sp.getD i .skip).isEff := by
 induction sp generalizing i with
 | nil => rfl
 | cons s sp ih =>
  cases i with
  | zero => rfl
  | succ i => simpa using ih i
def Sp.heap : Sp → List BL → List BL
 | .eff _ H', _ => H'
 | _, H => H
def Sp.rd : Sp → Nat → List (Nat × BL) → List (Nat × BL)
 | .read obs _, k, rd => obs.map (fun ob => (k, ob)) ++ rd
 | _, _, rd => rd
def Sp.ef : Sp → Nat → List BL → List (Nat × List BL × List BL) → List (Nat × List BL × List BL)
 | .eff _ H', k, H, ef => (k, H, H') :: ef
 | _, _, _, ef => ef
def X0 (ops : Array Oper) (k : Nat) (H : List BL) (rd : List (Nat × BL)) (ef : List (Nat × List BL × List BL)) : Sp → Prop
 | .read obs _ => ∀ ob ∈ obs, P0 ops k ob ef
 | .eff _ H' => Ji ops k H H' rd
 | _ => True
def G6 (k : Nat) (s : Sp) : List (Nat × Sp) → Prop
 | [] => True
 | (j, s') :: r => (bif Nat.beq j k then s = s' else True) ∧ G6 k s r
def Ek (ops : Array Oper) (p : Nat) (fx : List Nat) : Bool := (List.range ops.size).all fun k => !(Nat.blt p k) || LP ops p k || fx.contains k
def Mq (k : Nat) : List (Nat × Sp) → Bool
 | [] => true
 | (j, _) :: r => Nat.blt j k && Mq k r
theorem Nz {k : Nat} : ∀ {fx : List (Nat × Sp)}, Mq k fx = true → ∀ {j s}, (j, s) ∈ fx → j < k
 | [], _, _, _, h => by cases h
 | (i, t) :: r, h, j, s, hm => by
  simp only [Mq, Bool.and_eq_true] at h
  rcases List.mem_cons.1 hm with e | hm
  ·injection e with e1 e2; subst e1; exact Nat.le_of_ble_eq_true h.1
  ·exact Nz h.2 hm
abbrev VB := List (Nat × BL)
abbrev To := List (Nat × List BL × List BL)
inductive Dr (P : Program) (ops : Array Oper) (n : Nat) (τ₀ : Nat → AV) (D : List Di) (Q : Ck → Bq → Prop) (opn : Nat → Bool) : Nat → (Nat → AV) → List BL → VB → To → List Bool → List (Nat × Sp) → Prop where
 | nil {k τ H rd ef effs fx} (hk : k = ops.size) (chk : MC ops n effs.reverse = true) (hq : Q .normal ⟨n, τ, H, D⟩) : Dr P ops n τ₀ D Q opn k τ H rd ef effs fx
 | step {k τ H rd ef effs fx o} (s : Sp) (ho : ops[k]? = some o) (hn : opn k = false) (hok : UC P ops o τ H s) (howe : X0 ops k H rd ef s) (hfx : G6 k s fx)
   (next : Dr P ops n τ₀ D Q opn (k + 1) (put τ o.dst s.val) (s.heap H) (s.rd k rd) (s.ef k H ef) (s.isEff :: effs) fx) : Dr P ops n τ₀ D Q opn k τ H rd ef effs fx
 | opn {k τ H rd ef effs fx o} (R : DM → List BL → Prop) (fx' : List (Nat × Sp)) (ho : ops[k]? = some o) (hn : opn k = true) (hw : C4 ops ⟨0, τ, [], []⟩ o) (hop : C6 P o (ev τ) H R) (haft : Ek ops k (fx'.map (·.1)) = true) (hne : ∃ v H', R (.val v) H')
   (howe : ∀ v H', R (.val v) H' → Ji ops k H H' rd) (hfx : ∀ v H', R (.val v) H' → G6 k (.eff v H') fx)
   (rest : ∀ v H', R (.val v) H' → Dr P ops n τ₀ D Q opn (k + 1) (put τ o.dst v) H' rd ((k, H, H') :: ef) (true :: effs) (fx' ++ fx))
   (pan : ∀ v H', R (.panic v) H' → ∀ τ', (∀ t, (∀ (k : Nat) o, ops[k]? = some o → o.dst ≠ some t) → τ' t = τ₀ t) → Q (.panic v) ⟨n, τ', H', D⟩) : Dr P ops n τ₀ D Q opn k τ H rd ef effs fx
 | pan {k τ H rd ef effs fx o} (R : DM → List BL → Prop) (ho : ops[k]? = some o) (hn : opn k = true) (hw : C4 ops ⟨0, τ, [], []⟩ o) (hop : C6 P o (ev τ) H R) (haft : Ek ops k [] = true) (chk : MC ops n (true :: effs).reverse = true) (hfx : Mq k fx = true) (hno : ∀ v H', ¬ R (.val v) H') (howe : Ji ops k H H rd)
   (pan : ∀ v H', R (.panic v) H' → ∀ τ', (∀ t, (∀ (k : Nat) o, ops[k]? = some o → o.dst ≠ some t) → τ' t = τ₀ t) → Q (.panic v) ⟨n, τ', H', D⟩) : Dr P ops n τ₀ D Q opn k τ H rd ef effs fx
inductive On (P : Program) (ops : Array Oper) (n : Nat) (τ₀ : Nat → AV) (D : List Di) (Q : Ck → Bq → Prop) (opn : Nat → Bool) : Nat → (Nat → AV) → List BL → VB → To → List Bool → List (Nat × Sp) → List (Sp × Bool) → Prop where
 | nil {k τ H rd ef effs fx} (hk : k = ops.size) (chk : MC ops n effs.reverse = true) (hq : Q .normal ⟨n, τ, H, D⟩) : On P ops n τ₀ D Q opn k τ H rd ef effs fx []
 | step {k τ H rd ef effs fx o r} (s : Sp) (ho : ops[k]? = some o) (hn : opn k = false) (hok : UC P ops o τ H s) (howe : X0 ops k H rd ef s) (hfx : G6 k s fx)
   (next : On P ops n τ₀ D Q opn (k + 1) (put τ o.dst s.val) (s.heap H) (s.rd k rd) (s.ef k H ef) (s.isEff :: effs) fx r) : On P ops n τ₀ D Q opn k τ H rd ef effs fx ((s, true) :: r)
 | opn {k τ H rd ef effs fx o r} (R : DM → List BL → Prop) (fx' : List (Nat × Sp)) (ho : ops[k]? = some o) (hn : opn k = true) (hw : C4 ops ⟨0, τ, [], []⟩ o) (hop : C6 P o (ev τ) H R) (haft : Ek ops k (fx'.map (·.1)) = true)
   (howe : ∀ v H', R (.val v) H' → Ji ops k H H' rd) (hfx : ∀ v H', R (.val v) H' → G6 k (.eff v H') fx)
   (rest : ∀ v H', R (.val v) H' → Dr P ops n τ₀ D Q opn (k + 1) (put τ o.dst v) H' rd ((k, H, H') :: ef) (true :: effs) (fx' ++ fx))
   (pan : ∀ v H', R (.panic v) H' → ∀ τ', (∀ t, (∀ (k : Nat) o, ops[k]? = some o → o.dst ≠ some t) → τ' t = τ₀ t) → Q (.panic v) ⟨n, τ', H', D⟩)
   (v : AV) (H' : List BL) (hv : R (.val v) H') (next : On P ops n τ₀ D Q opn (k + 1) (put τ o.dst v) H' rd ((k, H, H') :: ef) (true :: effs) (fx' ++ fx) r) : On P ops n τ₀ D Q opn k τ H rd ef effs fx ((.eff v H', true) :: r)
 | pan {k τ H rd ef effs fx o} (R : DM → List BL → Prop) (ho : ops[k]? = some o) (hn : opn k = true) (hw : C4 ops ⟨0, τ, [], []⟩ o) (hop : C6 P o (ev τ) H R) (haft : Ek ops k [] = true) (chk : MC ops n (true :: effs).reverse = true) (hfx : Mq k fx = true) (hno : ∀ v H', ¬ R (.val v) H') (howe : Ji ops k H H rd)
   (pan : ∀ v H', R (.panic v) H' → ∀ τ', (∀ t, (∀ (k : Nat) o, ops[k]? = some o → o.dst ≠ some t) → τ' t = τ₀ t) → Q (.panic v) ⟨n, τ', H', D⟩) : On P ops n τ₀ D Q opn k τ H rd ef effs fx [(.eff (.p .any) H, false)]
section
variable {P : Program} {ops : Array Oper} {n : Nat} {τ₀ : Nat → AV} {D : List Di} {Q : Ck → Bq → Prop} {opn : Nat → Bool} {k : Nat} {τ : Nat → AV} {H : List BL} {rd : VB} {ef : To} {effs : List Bool} {fx : List (Nat × Sp)}
theorem Dr.path (h : Dr P ops n τ₀ D Q opn k τ H rd ef effs fx) : ∃ l, On P ops n τ₀ D Q opn k τ H rd ef effs fx l := by
 induction h with
 | nil hk chk hq => exact ⟨[], .nil hk chk hq⟩
 | step s ho hn hok howe hfx next ih => obtain ⟨l, hl⟩ := ih; exact ⟨_, .step s ho hn hok howe hfx hl⟩
 | opn R fx' ho hn hw hop haft hne howe hfx rest pan ih =>
  obtain ⟨v, H', hv⟩ := hne
  obtain ⟨l, hl⟩ := ih v H' hv
  exact ⟨_, .opn R fx' ho hn hw hop haft howe hfx rest pan v H' hv hl⟩
 | pan R ho hn hw hop haft chk hfx hno howe pan => exact ⟨_, .pan R ho hn hw hop haft chk hfx hno howe pan⟩
theorem G6.at {k : Nat} {s : Sp} : ∀ {fx : List (Nat × Sp)} {s' : Sp}, G6 k s fx → (k, s') ∈ fx → s = s'
 | [], _, _, h => by cases h
 | (j, t) :: r, s', h, hm => by
  rcases List.mem_cons.1 hm with e | hm
  ·injection e with e1 e2
   subst e1; subst e2
   have := h.1
   rw [Nat.beq_refl] at this
   exact this
  ·exact G6.at h.2 hm
theorem On.fixed {l : List (Sp × Bool)} (h : On P ops n τ₀ D Q opn k τ H rd ef effs fx l) : ∀ j s, (j, s) ∈ fx → k ≤ j → j < ops.size → l[j - k]? = some (s, true) := by
 induction h with
 | nil hk chk hq => intro j s _ h1 h2; omega
 | @step k τ H rd ef effs fx o r s ho hn hok howe hfx next ih =>
  intro j s' hj h1 h2
  by_cases e : j = k
  ·subst e; simp [hfx.at hj]
  ·obtain ⟨d, hd⟩ : ∃ d, j - k = d + 1 := ⟨j - k - 1, by omega⟩
   have := ih j s' hj Am h2
   rw [hd]
   rw [show j - (k + 1) = d by omega] at this
   simpa using this
 | @opn k τ H rd ef effs fx o r R fx' ho hn hw hop haft howe hfx rest pan v H' hv next ih =>
  intro j s' hj h1 h2
  by_cases e : j = k
  ·subst e; simp [(hfx v H' hv).at hj]
  ·obtain ⟨d, hd⟩ : ∃ d, j - k = d + 1 := ⟨j - k - 1, by omega⟩
   have := ih j s' (by simp [hj]) Am h2
   rw [hd]
   rw [show j - (k + 1) = d by omega] at this
   simpa using this
 | pan R ho hn hw hop haft chk hfx hno howe pan => intro j s hj h1; have := Nz hfx hj; omega
theorem F7 {p : Nat} {l : List Nat} (h : Ek ops p l = true) {k : Nat} (hk : p < k) (hks : k < ops.size) : Pred ops p k ∨ k ∈ l := by
 have := List.all_eq_true.1 h k (by simpa using hks)
 simp only [Bool.or_eq_true, Bool.not_eq_true'] at this
 rcases this with (h | h) | h
 ·have : Nat.blt p k = true := by simpa [Nat.blt_eq] using hk
  rw [this] at h; cases h
 ·exact .inl (Dy h)
 ·exact .inr (by simpa using h)
structure U7 (P : Program) (ops : Array Oper) (n : Nat) (τ₀ : Nat → AV) (D : List Di) (Q : Ck → Bq → Prop) (opn : Nat → Bool) (H₀ : List BL) (sp : List Sp) (ok : List Bool) (k : Nat) : Prop where
 run : ∀ (j : Nat) o, k ≤ j → ops[j]? = some o → opn j = false → (∀ p, opn p = true → Pred ops p j → ok.getD p true = true) → UC P ops o (τS ops sp τ₀ j) (Fg sp H₀ j) (sp.getD j .skip)
 c4 : ∀ (i e : Nat) obs v ob, i < ops.size → e < ops.size → (k ≤ i ∨ k ≤ e) → sp.getD i .skip = .read obs v → ob ∈ obs → (sp.getD e .skip).isEff = true → (Pred ops e i ∨ Pred ops i e) ∨ (ob ∈ Fg sp H₀ e ∧ ob ∈ Fg sp H₀ (e + 1))
 eff : ∀ p, k ≤ p → p < ops.size → opn p = true → (∀ q, opn q = true → Pred ops q p → ok.getD q true = true) → (sp.getD p .skip).isEff = true
 next : (∀ p, k ≤ p → p < ops.size → opn p = true → ok.getD p true = true) → Q .normal ⟨n, τS ops sp τ₀ ops.size, Fg sp H₀ ops.size, D⟩
 chk : MC ops n (sp.map Sp.isEff) = true
theorem FZ {sp : List Sp} {H₀ : List BL} {k : Nat} : Fg sp H₀ (k + 1) = (sp.getD k .skip).heap (Fg sp H₀ k) := by
 simp only [Fg]
 cases sp.getD k .skip <;> rfl
theorem On.shows {l : List (Sp × Bool)} (h : On P ops n τ₀ D Q opn k τ H rd ef effs fx l) : ∀ {H₀ : List BL} {pre : List (Sp × Bool)}, pre.length = k → effs.reverse = (pre.map (·.1)).map Sp.isEff → τ = τS ops ((pre ++ l).map (·.1)) τ₀ k → H = Fg ((pre ++ l).map (·.1)) H₀ k → k ≤ ops.size →
  (∀ i obs v ob, i < k → ((pre ++ l).map (·.1)).getD i .skip = .read obs v → ob ∈ obs → (i, ob) ∈ rd) → (∀ e, e < k → (((pre ++ l).map (fun (x : Sp × Bool) => x.1)).getD e Sp.skip).isEff = true → (e, Fg ((pre ++ l).map (·.1)) H₀ e, Fg ((pre ++ l).map (·.1)) H₀ (e + 1)) ∈ ef) →
  U7 P ops n τ₀ D Q opn H₀ ((pre ++ l).map (·.1)) ((pre ++ l).map (·.2)) k := by
 induction h with
 | nil hk chk hq =>
  intro H₀ pre hpre heffs hτ hH hkl hrd hef
  subst hk
  refine ⟨fun j o hj ho => ?_, fun i e obs v ob hi he hor => by omega, fun p h1 h2 => by omega, fun _ => ?_, ?_⟩
  ·simp [Array.getElem?_eq_none hj] at ho
  ·rw [← hτ, ← hH]; exact hq
  ·simp only [List.append_nil]; rw [← heffs]; exact chk
 | @step k τ H rd ef effs fx o r s ho hn hok howe hfx next ih =>
  intro H₀ pre hpre heffs hτ hH hkl hrd hef
  have hlt : k < ops.size := by
   rcases Nat.lt_or_ge k ops.size with h | h
   ·exact h
   ·simp [Array.getElem?_eq_none h] at ho
  have hcat : pre ++ (s, true) :: r = (pre ++ [(s, true)]) ++ r := by simp
  have hsk : ((pre ++ (s, true) :: r).map (·.1)).getD k .skip = s := by
   subst hpre; simp
  have hs := ih (H₀ := H₀) (pre := pre ++ [(s, true)]) (by simp [hpre]) (by simp [heffs]) (by rw [← hcat]; simp only [τS, ho, Option.bind_some, hsk, ← hτ]) (by rw [← hcat, FZ, hsk, ← hH]) Am
   (by
    rw [← hcat]
    intro i obs v ob hi he hob
    rcases Nat.lt_or_ge i k with h | h
    ·have := hrd i obs v ob h he hob
     cases s <;> first | exact this | exact List.mem_append_right _ this
    ·have : i = k := by omega
     subst this; rw [hsk] at he; subst he; exact List.mem_append_left _ (List.mem_map.2 ⟨ob, hob, rfl⟩))
   (by
    rw [← hcat]
    intro e he hee
    rcases Nat.lt_or_ge e k with h | h
    ·have := hef e h hee
     cases s <;> first | exact this | exact List.mem_cons_of_mem _ this
    ·have : e = k := by omega
     subst this
     rw [FZ, hsk, ← hH]
     rw [hsk] at hee
     cases s <;> first | (cases hee; done) | exact List.mem_cons_self)
  rw [← hcat] at hs
  refine ⟨fun j o' hj ho' hnj hpj => ?_, fun i e obs v ob hi he hor hri hob hee => ?_, fun p h1 h2 h3 h4 => ?_, fun hok' => hs.next fun p h1 h2 h3 => hok' p Am h2 h3, hs.chk⟩
  ·by_cases hjk : j = k
   ·subst hjk; rw [ho] at ho'; injection ho' with ho'; subst ho'; rw [hsk, ← hτ, ← hH]; exact hok
   ·exact hs.run j o' Am ho' hnj hpj
  ·by_cases hik : i = k
   ·subst hik
    rw [hsk] at hri
    subst hri
    rcases Nat.lt_or_ge e i with hlt' | hge
    ·rcases Qt (howe ob hob) (hef e hlt' hee) with h | h
     ·exact .inl (.inl (Dy h))
     ·exact .inr h
    ·have hne : e ≠ i := fun e' => by subst e'; rw [hsk] at hee; cases hee
     exact hs.c4 i e obs v ob hi he (.inr Am) hsk hob hee
   ·by_cases hek : e = k
    ·subst hek
     rw [hsk] at hee
     rcases Nat.lt_or_ge i e with hlt' | hge
     ·cases s with
      | eff v' H' =>
       rcases LS howe (hrd i obs v ob hlt' hri hob) with h | h
       ·exact .inl (.inr (Dy h))
       ·rw [FZ, hsk, ← hH]; exact .inr h
      | _ => cases hee
     ·exact hs.c4 i e obs v ob hi he (.inl Am) hri hob (by rw [hsk]; exact hee)
    ·exact hs.c4 i e obs v ob hi he Am hri hob hee
  ·have : p ≠ k := fun e => by subst e; rw [hn] at h3; cases h3
   exact hs.eff p Am h2 h3 h4
 | @opn k τ H rd ef effs fx o r R fx' ho hn hw hop haft howe hfx rest pan v H' hv next ih =>
  intro H₀ pre hpre heffs hτ hH hkl hrd hef
  have hlt : k < ops.size := by
   rcases Nat.lt_or_ge k ops.size with h | h
   ·exact h
   ·simp [Array.getElem?_eq_none h] at ho
  have hcat : pre ++ (Sp.eff v H', true) :: r = (pre ++ [(Sp.eff v H', true)]) ++ r := by simp
  have hsk : ((pre ++ (Sp.eff v H', true) :: r).map (·.1)).getD k .skip = Sp.eff v H' := by
   subst hpre; simp
  have hs := ih (H₀ := H₀) (pre := pre ++ [(Sp.eff v H', true)]) (by simp [hpre]) (by simp [heffs, Sp.isEff]) (by rw [← hcat]; simp only [τS, ho, Option.bind_some, hsk, ← hτ, Sp.val]) (by rw [← hcat, FZ, hsk]; rfl) Am
   (by
    rw [← hcat]
    intro i obs v' ob hi he hob
    rcases Nat.lt_or_ge i k with h | h
    ·exact hrd i obs v' ob h he hob
    ·have : i = k := by omega
     subst this; rw [hsk] at he; cases he)
   (by
    rw [← hcat]
    intro e he hee
    rcases Nat.lt_or_ge e k with h | h
    ·exact List.mem_cons_of_mem _ (hef e h hee)
    ·have : e = k := by omega
     subst this
     rw [FZ, hsk, ← hH]
     exact List.mem_cons_self)
  rw [← hcat] at hs
  replace howe := howe v H' hv
  refine ⟨fun j o' hj ho' hnj hpj => ?_, fun i e obs v' ob hi he hor hri hob hee => ?_, fun p h1 h2 h3 h4 => ?_, fun hok' => hs.next fun p h1 h2 h3 => hok' p Am h2 h3, hs.chk⟩
  ·have : j ≠ k := fun e => by subst e; rw [hn] at hnj; cases hnj
   exact hs.run j o' Am ho' hnj hpj
  ·have hik : i ≠ k := fun e => by subst e; rw [hsk] at hri; cases hri
   by_cases hek : e = k
   ·subst hek
    rcases Nat.lt_or_ge i e with hlt' | hge
    ·rcases LS howe (hrd i obs v' ob hlt' hri hob) with h | h
     ·exact .inl (.inr (Dy h))
     ·rw [FZ, hsk, ← hH]; exact .inr h
    ·exact hs.c4 i e obs v' ob hi he (.inl Am) hri hob hee
   ·exact hs.c4 i e obs v' ob hi he Am hri hob hee
  ·by_cases e : p = k
   ·subst e; rw [hsk]; rfl
   ·exact hs.eff p Am h2 h3 h4
 | @pan k τ H rd ef effs fx o R ho hn hw hop haft chk hfx hno howe pan =>
  intro H₀ pre hpre heffs hτ hH hkl hrd hef
  have hlt : k < ops.size := by
   rcases Nat.lt_or_ge k ops.size with h | h
   ·exact h
   ·simp [Array.getElem?_eq_none h] at ho
  have hsk : ((pre ++ [(Sp.eff (.p .any) H, false)]).map (·.1)).getD k .skip = Sp.eff (.p .any) H := by
   subst hpre; simp
  have hskip : ∀ j, k < j → ((pre ++ [(Sp.eff (.p .any) H, false)]).map (·.1)).getD j .skip = .skip := by
   intro j hj
   have : (pre ++ [(Sp.eff (.p .any) H, false)])[j]? = none := List.getElem?_eq_none Ah
   rw [List.getD_eq_getElem?_getD, List.getElem?_map, this]; rfl
  have hokk : ((pre ++ [(Sp.eff (.p .any) H, false)]).map (·.2)).getD k true = false := by
   subst hpre; simp
  refine ⟨fun j o' hj ho' hnj hpj => ?_, fun i e obs v' ob hi he hor hri hob hee => ?_, fun p h1 h2 h3 h4 => ?_, fun hok' => ?_, ?_⟩
  ·have hjk : j ≠ k := fun e => by subst e; rw [hn] at hnj; cases hnj
   have hjs : j < ops.size := by
    rcases Nat.lt_or_ge j ops.size with h | h
    ·exact h
    ·simp [Array.getElem?_eq_none h] at ho'
   rcases F7 haft (k := j) Am hjs with h | h
   ·have := hpj k hn h
    rw [hokk] at this; cases this
   ·cases h
  ·have hik : i ≠ k := fun e => by subst e; rw [hsk] at hri; cases hri
   have hi' : i < k := by
    rcases Nat.lt_or_ge k i with h | h
    ·rw [hskip i h] at hri; cases hri
    ·omega
   have he' : e = k := by
    rcases Nat.lt_trichotomy e k with h | h | h
    ·omega
    ·exact h
    ·rw [hskip e h] at hee; cases hee
   subst he'
   rcases LS howe (hrd i obs v' ob hi' hri hob) with h | h
   ·exact .inl (.inr (Dy h))
   ·rw [FZ, hsk, ← hH]; exact .inr h
  ·have : p = k := by
    rcases Nat.lt_or_ge k p with h | h
    ·rcases F7 haft h h2 with h' | h'
     ·have := h4 k hn h'
      rw [hokk] at this; cases this
     ·cases h'
    ·omega
   subst this; rw [hsk]; rfl
  ·have := hok' k (Nat.le_refl _) hlt hn
   rw [hokk] at this; cases this
  ·rw [List.map_append, List.map_append, ← heffs]
   simpa [Sp.isEff] using chk
theorem On.len {l : List (Sp × Bool)} (h : On P ops n τ₀ D Q opn k τ H rd ef effs fx l) : k ≤ ops.size → k + l.length ≤ ops.size := by
 induction h with
 | nil hk chk hq => intro h; simpa using h
 | @step k τ H rd ef effs fx o r s ho hn hok howe hfx next ih =>
  intro _
  have hlt : k < ops.size := by
   rcases Nat.lt_or_ge k ops.size with h | h
   ·exact h
   ·simp [Array.getElem?_eq_none h] at ho
  have := ih Am; simp; omega
 | @opn k τ H rd ef effs fx o r R fx' ho hn hw hop haft howe hfx rest pan v H' hv next ih =>
  intro _
  have hlt : k < ops.size := by
   rcases Nat.lt_or_ge k ops.size with h | h
   ·exact h
   ·simp [Array.getElem?_eq_none h] at ho
  have := ih Am; simp; omega
 | @pan k τ H rd ef effs fx o R ho hn hw hop haft chk hfx hno howe pan =>
  intro _
  have hlt : k < ops.size := by
   rcases Nat.lt_or_ge k ops.size with h | h
   ·exact h
   ·simp [Array.getElem?_eq_none h] at ho
  simp; omega
def Pj (l : List (Sp × Bool)) (j : Nat) : Sp := (l.map (fun (x : Sp × Bool) => x.1)).getD j Sp.skip
def Mz (l : List (Sp × Bool)) (j : Nat) : Bool := (l.map (fun (x : Sp × Bool) => x.2)).getD j true
theorem Ug {l l' : List (Sp × Bool)} {j : Nat} (h : l[j]? = l'[j]?) : Pj l j = Pj l' j ∧ Mz l j = Mz l' j := by
 simp [Pj, Mz, h]
theorem On.openAt {l : List (Sp × Bool)} (h : On P ops n τ₀ D Q opn k τ H rd ef effs fx l) : ∀ {H₀ : List BL} {pre : List (Sp × Bool)}, pre.length = k → k ≤ ops.size → τ = τS ops ((pre ++ l).map (fun (x : Sp × Bool) => x.1)) τ₀ k → H = Fg ((pre ++ l).map (fun (x : Sp × Bool) => x.1)) H₀ k →
  ∀ p o, k ≤ p → opn p = true → ops[p]? = some o → (∀ q, opn q = true → Pred ops q p → Mz (pre ++ l) q = true) → ∃ R, C4 ops ⟨0, τS ops ((pre ++ l).map (fun (x : Sp × Bool) => x.1)) τ₀ p, [], []⟩ o ∧ C6 P o (ev (τS ops ((pre ++ l).map (fun (x : Sp × Bool) => x.1)) τ₀ p)) (Fg ((pre ++ l).map (fun (x : Sp × Bool) => x.1)) H₀ p) R ∧
   (∀ v H', R (.val v) H' → ∃ l', On P ops n τ₀ D Q opn k τ H rd ef effs fx l' ∧ (∀ j, j ≠ p → ¬ Pred ops p j → Pj (pre ++ l') j = Pj (pre ++ l) j ∧ (Mz (pre ++ l) j = true → Mz (pre ++ l') j = true)) ∧ Mz (pre ++ l') p = true ∧ Pj (pre ++ l') p = .eff v H') ∧
   (∀ v H', R (.panic v) H' → ∀ τ', (∀ t, (∀ (k : Nat) o, ops[k]? = some o → o.dst ≠ some t) → τ' t = τ₀ t) → Q (.panic v) ⟨n, τ', H', D⟩) := by
 induction h with
 | nil hk chk hq =>
  intro H₀ pre hpre hkl hτ hH p o hp hop ho
  subst hk
  simp [Array.getElem?_eq_none hp] at ho
 | @step k τ H rd ef effs fx o r s ho hn hok howe hfx next ih =>
  intro H₀ pre hpre hkl hτ hH p o' hp hop ho' hpred
  have hlt : k < ops.size := by
   rcases Nat.lt_or_ge k ops.size with h | h
   ·exact h
   ·simp [Array.getElem?_eq_none h] at ho
  have hcat : ∀ r, pre ++ (s, true) :: r = (pre ++ [(s, true)]) ++ r := by simp
  have hsk : ((pre ++ (s, true) :: r).map (fun (x : Sp × Bool) => x.1)).getD k .skip = s := by
   subst hpre; simp
  have hpk : p ≠ k := fun e => by subst e; rw [hn] at hop; cases hop
  obtain ⟨R, h1, h2, h3, h4⟩ := ih (H₀ := H₀) (pre := pre ++ [(s, true)]) (by simp [hpre]) Am (by rw [← hcat]; simp only [τS, ho, Option.bind_some, hsk, ← hτ]) (by rw [← hcat, FZ, hsk, ← hH]) p o' Am hop ho' (by rw [← hcat]; exact hpred)
  rw [← hcat] at h1 h2 h3
  refine ⟨R, h1, h2, fun v H' hv => ?_, h4⟩
  obtain ⟨l', g1, g2, g3, g4⟩ := h3 v H' hv
  rw [← hcat] at g2 g3 g4
  exact ⟨_, .step s ho hn hok howe hfx g1, g2, g3, g4⟩
 | @opn k τ H rd ef effs fx o r R fx' ho hn hw hop haft howe hfx rest pan v H' hv next ih =>
  intro H₀ pre hpre hkl hτ hH p o' hp hopp ho' hpred
  have hlt : k < ops.size := by
   rcases Nat.lt_or_ge k ops.size with h | h
   ·exact h
   ·simp [Array.getElem?_eq_none h] at ho
  have hcat : ∀ r, pre ++ (Sp.eff v H', true) :: r = (pre ++ [(Sp.eff v H', true)]) ++ r := by simp
  have hsk : ((pre ++ (Sp.eff v H', true) :: r).map (fun (x : Sp × Bool) => x.1)).getD k .skip = Sp.eff v H' := by
   subst hpre; simp
  by_cases hpk : p = k
  ·subst hpk
   rw [ho] at ho'; injection ho' with ho'; subst ho'
   refine ⟨R, by rw [← hτ]; exact hw, by rw [← hτ, ← hH]; exact hop, fun v2 H2 hv2 => ?_, pan⟩
   obtain ⟨l2, hl2⟩ := (rest v2 H2 hv2).path
   refine ⟨_, .opn R fx' ho hn hw hop haft howe hfx rest pan v2 H2 hv2 hl2, fun j hj hnp => ?_, ?_, ?_⟩
   ·have key : (pre ++ (Sp.eff v2 H2, true) :: l2)[j]? = (pre ++ (Sp.eff v H', true) :: r)[j]? := by
     rcases Nat.lt_trichotomy j p with h | h | h
     ·rw [List.getElem?_append_left Am, List.getElem?_append_left Am]
     ·exact absurd h hj
     ·obtain ⟨d, hd⟩ : ∃ d, j = p + 1 + d := ⟨j - (p + 1), by omega⟩
      rw [List.getElem?_append_right Am, List.getElem?_append_right Am, hpre, show j - p = d + 1 by omega]
      simp only [List.getElem?_cons_succ]
      rcases Nat.lt_or_ge j ops.size with hjs | hjs
      ·rcases F7 haft h hjs with h' | h'
       ·exact absurd h' hnp
       ·obtain ⟨⟨j', s'⟩, hm, rfl⟩ := List.mem_map.1 h'
        have a1 := next.fixed j' s' (by simp [hm]) Am hjs
        have a2 := hl2.fixed j' s' (by simp [hm]) Am hjs
        simp only at hd
        rw [show j' - (p + 1) = d by omega] at a1 a2
        rw [a1, a2]
      ·have b1 := next.len Am
       have b2 := hl2.len Am
       rw [List.getElem?_eq_none Am, List.getElem?_eq_none Am]
    obtain ⟨k1, k2⟩ := Ug key
    exact ⟨k1, fun h => by rw [k2]; exact h⟩
   ·subst hpre; simp [Mz]
   ·subst hpre; simp [Pj]
  ·obtain ⟨R', h1, h2, h3, h4⟩ := ih (H₀ := H₀) (pre := pre ++ [(Sp.eff v H', true)]) (by simp [hpre]) Am (by rw [← hcat]; simp only [τS, ho, Option.bind_some, hsk, ← hτ, Sp.val]) (by rw [← hcat, FZ, hsk]; rfl) p o' Am hopp ho' (by rw [← hcat]; exact hpred)
   rw [← hcat] at h1 h2 h3
   refine ⟨R', h1, h2, fun v3 H3 hv3 => ?_, h4⟩
   obtain ⟨l', g1, g2, g3, g4⟩ := h3 v3 H3 hv3
   rw [← hcat] at g2 g3 g4
   exact ⟨_, .opn R fx' ho hn hw hop haft howe hfx rest pan v H' hv g1, g2, g3, g4⟩
 | @pan k τ H rd ef effs fx o R ho hn hw hop haft chk hfx hno howe pan =>
  intro H₀ pre hpre hkl hτ hH p o' hp hopp ho' hpred
  by_cases hpk : p = k
  ·subst hpk
   rw [ho] at ho'; injection ho' with ho'; subst ho'
   exact ⟨R, by rw [← hτ]; exact hw, by rw [← hτ, ← hH]; exact hop, fun v2 H2 hv2 => absurd hv2 (hno v2 H2), pan⟩
  ·have hps : p < ops.size := by
    rcases Nat.lt_or_ge p ops.size with h | h
    ·exact h
    ·simp [Array.getElem?_eq_none h] at ho'
   rcases F7 haft (k := p) Am hps with h | h
   ·have := hpred k hn h
    subst hpre
    simp [Mz] at this
   ·cases h
theorem CJ {r : Option Nat} {id : Nat} (opn : Nat → Bool) (hm : P.follows .mixedOrders = true) (h : Dr P ops n τ D Q opn 0 τ H [] [] [] []) : Hj P r (.region id ops true) ⟨n, τ, H, D⟩ Q := by
 have hshow : ∀ l, On P ops n τ D Q opn 0 τ H [] [] [] [] l → U7 P ops n τ D Q opn H (l.map (fun (x : Sp × Bool) => x.1)) (l.map (fun (x : Sp × Bool) => x.2)) 0 := by
  intro l hl
  have := hl.shows (H₀ := H) (pre := []) rfl rfl rfl rfl (Nat.zero_le _) (fun i _ _ h => by omega) (fun e h => by omega)
  simpa using this
 refine TH hm (ι := List (Sp × Bool)) (Good := fun l => On P ops n τ D Q opn 0 τ H [] [] [] [] l) (Ok := fun l p => Mz l p = true) (Fam := fun l => l.map (fun (x : Sp × Bool) => x.1)) (opn := opn) h.path ?_ ?_ ?_ ?_
 ·intro l hl
  have hs := hshow l hl
  obtain ⟨c1, c2, c3, c4, c5⟩ := I6 hs.chk
  refine ⟨c1, fun k o ho hex => hs.run k o (Nat.zero_le _) ho hex.1 hex.2, c2, c3, c4, ?_, ?_⟩
  ·intro i k hik hk hi hke
   exact c5 i k hik hk (by rw [Mn]; exact hi) (by rw [Mn]; exact hke)
  ·intro i e obs v ob hi he hri hob hee
   exact hs.c4 i e obs v ob hi he (.inl (Nat.zero_le _)) hri hob hee
 ·intro l p hl hp hps hpred
  exact (hshow l hl).eff p (Nat.zero_le _) hps hp hpred
 ·intro l p o hl hp ho hpred
  have := hl.openAt (H₀ := H) (pre := []) rfl (Nat.zero_le _) rfl rfl p o (Nat.zero_le _) hp ho (by simpa using hpred)
  simpa [Pj] using this
 ·intro l hl hok
  exact (hshow l hl).next fun p _ hps hp => hok p hp hps
section
variable {dst : Option Tmp} {op : Op} {ty : TypeId} {pos : String} {aft : Array Edge} {v : AV} {H' : List BL}
theorem CA (hk : k = ops.size) (chk : MC ops n effs.reverse = true) (hq : Q .normal ⟨n, τ, H, D⟩) : Dr P ops n τ₀ D Q opn k τ H rd ef effs fx := .nil hk chk hq
theorem Ay (ho : ops[k]? = some ⟨dst, op, ty, pos, aft, none⟩) (hn : opn k = false) (h : ∀ H, DS P ⟨dst, op, ty, pos, aft, none⟩ (ev τ) H v H) (hfx : G6 k (.free v) fx) (next : Dr P ops n τ₀ D Q opn (k + 1) (put τ dst v) H rd ef (false :: effs) fx) : Dr P ops n τ₀ D Q opn k τ H rd ef effs fx :=
 .step (.free v) ho hn ⟨trivial, h⟩ trivial hfx next
theorem BK {j : Nat} {ob : BL} (ho : ops[k]? = some ⟨dst, op, ty, pos, aft, none⟩) (hn : opn k = false) (hj : H[j]? = some ob) (h : ∀ (H : List BL) (i : Nat), H[i]? = some ob → DS P ⟨dst, op, ty, pos, aft, none⟩ (ev τ) H v H) (owe : P0 ops k ob ef) (hfx : G6 k (.read [ob] v) fx)
  (next : Dr P ops n τ₀ D Q opn (k + 1) (put τ dst v) H ((k, ob) :: rd) ef (false :: effs) fx) : Dr P ops n τ₀ D Q opn k τ H rd ef effs fx :=
 .step (.read [ob] v) ho hn ⟨trivial, fun ob' hm => by rw [List.mem_singleton] at hm; subst hm; exact List.mem_of_getElem? hj, fun H hm => let ⟨i, hi⟩ := List.mem_iff_getElem?.1 (hm ob List.mem_cons_self); h H i hi⟩ (fun ob' hm => by rw [List.mem_singleton] at hm; subst hm; exact owe) hfx next
theorem Cd (ho : ops[k]? = some ⟨dst, op, ty, pos, aft, none⟩) (hn : opn k = false) (h : DS P ⟨dst, op, ty, pos, aft, none⟩ (ev τ) H v H') (owe : Ji ops k H H' rd) (hfx : G6 k (.eff v H') fx)
  (next : Dr P ops n τ₀ D Q opn (k + 1) (put τ dst v) H' rd ((k, H, H') :: ef) (true :: effs) fx) : Dr P ops n τ₀ D Q opn k τ H rd ef effs fx :=
 .step (.eff v H') ho hn ⟨trivial, h⟩ owe hfx next
theorem KS {R : DM → List BL → Prop} (fx' : List (Nat × Sp)) (ho : ops[k]? = some ⟨dst, op, ty, pos, aft, none⟩) (hn : opn k = true) (h : C6 P ⟨dst, op, ty, pos, aft, none⟩ (ev τ) H R) (haft : Ek ops k (fx'.map (·.1)) = true) (hne : ∃ v H', R (.val v) H') (hpan : ∀ v H', ¬ R (.panic v) H')
  (next : ∀ v H', R (.val v) H' → Ji ops k H H' rd ∧ G6 k (.eff v H') fx ∧ Dr P ops n τ₀ D Q opn (k + 1) (put τ dst v) H' rd ((k, H, H') :: ef) (true :: effs) (fx' ++ fx)) : Dr P ops n τ₀ D Q opn k τ H rd ef effs fx :=
 .opn R fx' ho hn trivial h haft hne (fun v H' hv => (next v H' hv).1) (fun v H' hv => (next v H' hv).2.1) (fun v H' hv => (next v H' hv).2.2) (fun v H' hp => absurd hp (hpan v H'))
variable {j d : Nat} {want : Bool}
theorem CD (ho : ops[k]? = some ⟨dst, op, ty, pos, aft, some (j, want)⟩) (hn : opn k = false) (hj : (ops[j]?).bind (·.dst) = some d) (hb : τ d = .p (.bool want)) (h : ∀ H, DS P ⟨dst, op, ty, pos, aft, some (j, want)⟩ (ev τ) H v H) (hfx : G6 k (.free v) fx) (next : Dr P ops n τ₀ D Q opn (k + 1) (put τ dst v) H rd ef (false :: effs) fx) : Dr P ops n τ₀ D Q opn k τ H rd ef effs fx :=
 .step (.free v) ho hn ⟨⟨d, hj, hb⟩, h⟩ trivial hfx next
theorem DF {i : Nat} {ob : BL} (ho : ops[k]? = some ⟨dst, op, ty, pos, aft, some (j, want)⟩) (hn : opn k = false) (hj : (ops[j]?).bind (·.dst) = some d) (hb : τ d = .p (.bool want)) (hi : H[i]? = some ob) (h : ∀ (H : List BL) (i : Nat), H[i]? = some ob → DS P ⟨dst, op, ty, pos, aft, some (j, want)⟩ (ev τ) H v H) (owe : P0 ops k ob ef) (hfx : G6 k (.read [ob] v) fx)
  (next : Dr P ops n τ₀ D Q opn (k + 1) (put τ dst v) H ((k, ob) :: rd) ef (false :: effs) fx) : Dr P ops n τ₀ D Q opn k τ H rd ef effs fx :=
 .step (.read [ob] v) ho hn ⟨⟨d, hj, hb⟩, fun ob' hm => by rw [List.mem_singleton] at hm; subst hm; exact List.mem_of_getElem? hi, fun H hm => let ⟨i, hi⟩ := List.mem_iff_getElem?.1 (hm ob List.mem_cons_self); h H i hi⟩ (fun ob' hm => by rw [List.mem_singleton] at hm; subst hm; exact owe) hfx next
theorem Uo (ho : ops[k]? = some ⟨dst, op, ty, pos, aft, some (j, want)⟩) (hn : opn k = false) (hj : (ops[j]?).bind (·.dst) = some d) (hb : τ d = .p (.bool want)) (h : DS P ⟨dst, op, ty, pos, aft, some (j, want)⟩ (ev τ) H v H') (owe : Ji ops k H H' rd) (hfx : G6 k (.eff v H') fx)
  (next : Dr P ops n τ₀ D Q opn (k + 1) (put τ dst v) H' rd ((k, H, H') :: ef) (true :: effs) fx) : Dr P ops n τ₀ D Q opn k τ H rd ef effs fx :=
 .step (.eff v H') ho hn ⟨⟨d, hj, hb⟩, h⟩ owe hfx next
theorem CY {b : Bool} (ho : ops[k]? = some ⟨dst, op, ty, pos, aft, some (j, want)⟩) (hn : opn k = false) (hj : (ops[j]?).bind (·.dst) = some d) (hb : τ d = .p (.bool b)) (hne : (b == want) = false) (hfx : G6 k .skip fx) (next : Dr P ops n τ₀ D Q opn (k + 1) (put τ dst (.tup [])) H rd ef (false :: effs) fx) : Dr P ops n τ₀ D Q opn k τ H rd ef effs fx :=
 .step .skip ho hn ⟨j, want, d, rfl, hj, .inl ⟨b, hb, hne⟩⟩ trivial hfx next
theorem Jy (d : Nat) {b : Bool} (hb : τ d = .p (.bool b)) (ht : b = true → Dr P ops n τ₀ D Q opn k (put τ (some d) (.p (.bool true))) H rd ef effs fx) (hf : b = false → Dr P ops n τ₀ D Q opn k (put τ (some d) (.p (.bool false))) H rd ef effs fx) : Dr P ops n τ₀ D Q opn k τ H rd ef effs fx := by
 have e : ∀ b', b = b' → put τ (some d) (.p (.bool b')) = τ := by
  intro b' hb'
  funext t
  simp only [put]
  by_cases ht : t = d
  ·subst ht; rw [Nat.beq_refl, ← hb', hb]; rfl
  ·rw [Ma ht]; rfl
 cases b with
 | true => have := ht rfl; rwa [e true rfl] at this
 | false => have := hf rfl; rwa [e false rfl] at this
end
end
def F8 (S S' : Bq) : Prop := ∀ F a w, DB F S a w → ∃ F', DB F' S' a w ∧ Trans F S.H w F' S'.H w
theorem B5 {P : Program} {r : Option Nat} {c : Code} {S S' : Bq} {Q : Ck → Bq → Prop} (g : F8 S S') (h : Hj P r c S' Q) : Hj P r c S Q := by
 intro F a w hs
 obtain ⟨F', hs', ht⟩ := g F a w hs
 exact wpIn_mono (h F' a w hs') fun _ _ _ => FD hs.heap.bd ht
theorem Cz {P : Program} {r : Option Nat} {ops : Array Oper} {k : Nat} {S S' : Bq} {Q : Ck → Bq → Prop} (g : F8 S S') (h : AL P r ops k S' Q) : AL P r ops k S Q := by
 intro F a w hs
 obtain ⟨F', hs', ht⟩ := g F a w hs
 exact DV (fun _ _ _ => FD hs.heap.bd ht) _ _ _ (h F' a w hs')
theorem F8.trans {S S' S'' : Bq} (g : F8 S S') (g' : F8 S' S'') : F8 S S'' := by
 intro F a w hs
 obtain ⟨F', hs', ht⟩ := g F a w hs
 obtain ⟨F'', hs'', ht'⟩ := g' F' a w hs'
 exact ⟨F'', hs'', ht.trans hs.heap.bd ht'⟩
section
variable {n : Nat} {τ : Nat → AV} {H : List BL} {D : List Di}
theorem MA {t : Nat} {x : AV} (h : ∀ F w v, CF F w (τ t) v → CF F w x v) : F8 ⟨n, τ, H, D⟩ ⟨n, put τ (some t) x, H, D⟩ := by
 intro F a w hs
 refine ⟨F, ⟨hs.size, ?_, hs.heap, hs.defs⟩, .refl⟩
 intro t'
 by_cases e : t' = t
 ·subst e
  have := hs.tmp t'
  simp only [put, Nat.beq_refl, cond_true]
  exact h F w _ this
 ·simp only [put, Ma e, cond_false]
  exact hs.tmp t'
theorem Kz {t sz : Nat} (h : τ t = .p .nils) : F8 ⟨n, τ, H, D⟩ ⟨n, put τ (some t) (.vs none 0 0), .vec none sz [] 0 :: H, D⟩ := by
 intro F a w hs
 have hH : HRel F (.vec none sz [] 0 :: H) w := ⟨fun o ho b hb => by
   rcases List.mem_cons.1 ho with rfl | ho
   ·cases hb
   ·exact hs.heap.sub o ho b hb, by simpa [List.filterMap_cons, BL.key] using hs.heap.nodup, fun o ho => by
   rcases List.mem_cons.1 ho with rfl | ho
   ·exact ⟨Ao, Ao⟩
   ·exact hs.heap.obj o ho, hs.heap.bd⟩
 refine ⟨F, ⟨hs.size, ?_, hH, hs.defs⟩, ?_⟩
 ·intro t'
  by_cases e : t' = t
  ·subst e
   have := hs.tmp t'
   simp only [h, CF, CQ] at this
   simp only [put, Nat.beq_refl, cond_true, CF]
   exact ⟨trivial, trivial, none, this⟩
  ·simp only [put, Ma e, cond_false]
   exact hs.tmp t'
 ·exact ⟨Nat.le_refl _, fun _ _ _ => Ao, fun _ h _ => h, fun _ h => .inl h, fun o ho b hb => by
   rcases List.mem_cons.1 ho with rfl | ho
   ·cases hb
   ·exact .inl ⟨o, ho, hb⟩, Ao, Ao, Ao⟩
theorem Hu {F : Nat → Prop} {w : World} {o : Option Nat} {sz c : Nat} {rows : List (List PV)} {v : Value} (hbd : ∀ b, o = some b → b < w.heap.size) (ho : Fc F w (.vec o sz rows c)) (hv : CF F w (.vs o rows.length c) v) (F' : Nat → Prop) (st : C2 F w F' w) (hF' : ∀ b, o = some b → ¬ F' b) :
  CF F' w (.p (.lst rows)) v := by
 cases o with
 | none =>
  simp only [CF] at hv
  obtain ⟨_, _, a, rfl⟩ := hv
  obtain ⟨rfl, _⟩ := ho
  simp only [CF, CQ]
  exact .inl ⟨trivial, a, 0, Ao⟩
 | some b =>
  simp only [CF] at hv
  obtain ⟨vs, T, hb, h1, h2, h3⟩ := ho
  simp only [CF, CQ]
  exact .inr ⟨b, 0, c, sz, hv, hF' b Ao, hbd b Ao, h2, Bw.mono st b sz Ao 0 rows h3⟩
def Kw (ts : List Nat) (x : AV) (τ : Nat → AV) : Nat → AV := fun t => bif ts.any (Nat.beq t ·) then x else τ t
theorem IE {i sz c : Nat} {o : Option Nat} {rows : List (List PV)} (ts : List Nat) (hi : H[i]? = some (.vec o sz rows c)) (ht : ∀ t ∈ ts, τ t = .vs o rows.length c) :
  F8 ⟨n, τ, H, D⟩ ⟨n, Kw ts (.p (.lst rows)) τ, H.eraseIdx i, D⟩ := by
 intro F a w hs
 have hmem := List.mem_of_getElem? hi
 have hbd : ∀ b, o = some b → b < w.heap.size := fun b hb => hs.heap.bd b (hs.heap.sub _ hmem b (by rw [← hb]; rfl))
 have st : C2 F w (fun b => F b ∧ o ≠ some b) w := ⟨Nat.le_refl _, fun _ _ _ => rfl, fun _ h _ h' => h h'.1⟩
 have hne : ∀ x ∈ H.eraseIdx i, ∀ b, x.key = some b → o ≠ some b := by
  intro x hx b hb hob
  obtain ⟨j, hj⟩ := List.mem_iff_getElem?.1 hx
  rw [List.getElem?_eraseIdx] at hj
  split at hj
  ·rename_i hlt
   have := He hs.heap.nodup hj hi hb (by rw [← hob]; rfl)
   omega
  ·rename_i hge
   have := He hs.heap.nodup hj hi hb (by rw [← hob]; rfl)
   omega
 have hsub : (H.eraseIdx i).Sublist H := List.eraseIdx_sublist H i
 refine ⟨fun b => F b ∧ o ≠ some b, ⟨hs.size, ?_, ?_, Eb.mono st _ _ hs.defs⟩, ?_⟩
 ·intro t
  simp only [Kw]
  cases hq : ts.any (Nat.beq t ·) with
  | false => exact CF.mono st _ _ (hs.tmp t)
  | true =>
   obtain ⟨t', ht', he⟩ := List.any_eq_true.1 hq
   have e := Nat.eq_of_beq_eq_true he
   subst e
   have hv := hs.tmp t
   simp only [ht t ht'] at hv
   exact Hu hbd (hs.heap.obj _ hmem) hv _ st (fun b hb h => h.2 hb)
 ·have := hs.heap.sublist hsub
  exact ⟨fun x hx b hb => ⟨this.sub x hx b hb, hne x hx b hb⟩, this.nodup, fun x hx => Fc.mono st x (fun _ _ => Ao) (this.obj x hx), fun b hb => this.bd b hb.1⟩
 ·exact ⟨Nat.le_refl _, fun _ _ _ => Ao, fun b hb hn => ⟨hb, fun e => hn _ hmem (by rw [← e]; rfl)⟩, fun b hb => .inl hb.1, fun x hx b hb => .inl ⟨x, hsub.subset hx, hb⟩, Ao, Ao, Ao⟩
theorem DT {i j q sz c b : Nat} {o : Option Nat} {rows : List (List PV)} {cs : List AV} (ts : List Nat) (hj : H[j]? = some (.box b cs)) (hq : cs[q]? = some (.vs o rows.length c)) (hi : H[i]? = some (.vec o sz rows c)) (ht : ∀ t ∈ ts, τ t = .vs o rows.length c) :
  F8 ⟨n, τ, H, D⟩ ⟨n, Kw ts (.p (.lst rows)) τ, (H.set j (.box b (cs.set q (.p (.lst rows))))).eraseIdx i, D⟩ := by
 intro F a w hs
 have hij : j ≠ i := fun e => by subst e; rw [hj] at hi; cases hi
 have hmem := List.mem_of_getElem? hi
 have hmemj := List.mem_of_getElem? hj
 have hbd : ∀ b, o = some b → b < w.heap.size := fun b hb => hs.heap.bd b (hs.heap.sub _ hmem b (by rw [← hb]; rfl))
 have st : C2 F w (fun b => F b ∧ o ≠ some b) w := ⟨Nat.le_refl _, fun _ _ _ => rfl, fun _ h _ h' => h h'.1⟩
 have hi' : (H.set j (.box b (cs.set q (.p (.lst rows)))))[i]? = some (.vec o sz rows c) := by rw [List.getElem?_set_ne hij]; exact hi
 have hkeys : (H.set j (.box b (cs.set q (.p (.lst rows))))).filterMap BL.key = H.filterMap BL.key := Ee hj rfl
 have hsub : ((H.set j (.box b (cs.set q (.p (.lst rows))))).eraseIdx i).Sublist (H.set j (.box b (cs.set q (.p (.lst rows))))) := List.eraseIdx_sublist _ i
 have hkmem : ∀ x ∈ H.set j (.box b (cs.set q (.p (.lst rows)))), ∀ k, x.key = some k → ∃ y ∈ H, y.key = some k := by
  intro x hx k hk
  rcases C5 hx with rfl | ⟨j', _, hj'⟩
  ·exact ⟨_, hmemj, hk⟩
  ·exact ⟨x, List.mem_of_getElem? hj', hk⟩
 have hne : ∀ x ∈ (H.set j (.box b (cs.set q (.p (.lst rows))))).eraseIdx i, ∀ b, x.key = some b → o ≠ some b := by
  intro x hx b' hb hob
  obtain ⟨k, hk⟩ := List.mem_iff_getElem?.1 hx
  have hnd : ((H.set j (.box b (cs.set q (.p (.lst rows))))).filterMap BL.key).Nodup := by rw [hkeys]; exact hs.heap.nodup
  rw [List.getElem?_eraseIdx] at hk
  split at hk
  ·have := He hnd hk hi' hb (by rw [← hob]; rfl)
   omega
  ·have := He hnd hk hi' hb (by rw [← hob]; rfl)
   omega
 refine ⟨fun b => F b ∧ o ≠ some b, ⟨hs.size, ?_, ?_, Eb.mono st _ _ hs.defs⟩, ?_⟩
 ·intro t
  simp only [Kw]
  cases hq : ts.any (Nat.beq t ·) with
  | false => exact CF.mono st _ _ (hs.tmp t)
  | true =>
   obtain ⟨t', ht', he⟩ := List.any_eq_true.1 hq
   have e := Nat.eq_of_beq_eq_true he
   subst e
   have hv := hs.tmp t
   simp only [ht t ht'] at hv
   exact Hu hbd (hs.heap.obj _ hmem) hv _ st (fun b hb h => h.2 hb)
 ·refine ⟨fun x hx b' hb => ?_, ?_, fun x hx => ?_, fun b' hb => hs.heap.bd b' hb.1⟩
  ·obtain ⟨y, hy, hk⟩ := hkmem x (hsub.subset hx) b' hb
   exact ⟨hs.heap.sub y hy b' hk, hne x hx b' hb⟩
  ·refine (hsub.filterMap BL.key).nodup ?_
   rw [hkeys]; exact hs.heap.nodup
  ·rcases C5 (hsub.subset hx) with rfl | ⟨j', _, hj'⟩
   ·obtain ⟨vs, T, hb, hl⟩ := hs.heap.obj _ hmemj
    obtain ⟨v, hv, hr⟩ := hl.get hq
    have hvs : vs.set q v = vs := by
     apply List.ext_getElem?
     intro k
     rw [List.getElem?_set]
     split
     ·rename_i e; subst e; split
      ·exact hv.symm
      ·rename_i hge; rw [List.getElem?_eq_none Am] at hv; cases hv
     ·rfl
    refine ⟨vs, T, hb, ?_⟩
    have := (Bu.mono st _ _ hl).set (i := q) (Hu hbd (hs.heap.obj _ hmem) hr _ st (fun b hb h => h.2 hb))
    rwa [hvs] at this
   ·exact Fc.mono st x (fun _ _ => Ao) (hs.heap.obj x (List.mem_of_getElem? hj'))
 ·refine ⟨Nat.le_refl _, fun _ _ _ => Ao, fun b' hb hn => ⟨hb, fun e => hn _ hmem (by rw [← e]; rfl)⟩, fun b' hb => .inl hb.1, fun x hx b' hb => .inl (hkmem x (hsub.subset hx) b' hb), Ao, Ao, Ao⟩
end
section
variable {P : Program} {dst : Option Tmp} {ty : TypeId} {pos : String} {aft : Array Edge} {g : Option (Nat × Bool)} {ρ : Operand → AV} {H : List BL} {x y z : Operand} {v : AV}
def Ix (sz : Nat) (rows : List (List PV)) (H : List BL) : DM → List BL → Prop
 | .val v, H' => ∃ b c, v = .vs (some b) rows.length c ∧ H' = .vec (some b) sz rows c :: H
 | .panic _, _ => False
theorem PL {F : Nat → Prop} {w : World} {sz c : Nat} {rows : List (List PV)} {vs : List Value} {T : TypeId} (hH : HRel F H w) (hr : ∀ r ∈ rows, r.length = sz) (hl : Bu F w (rows.flatten.map .p) (vs.take rows.flatten.length)) (hc : c * sz ≤ vs.length) (hcl : rows.length ≤ c) :
  ∃ v H' F', Ix sz rows H (.val v) H' ∧ Trans F H w F' H' (World.push w (.cells ⟨vs⟩ T (0, 0))) ∧ HRel F' H' (World.push w (.cells ⟨vs⟩ T (0, 0))) ∧ CF F' (World.push w (.cells ⟨vs⟩ T (0, 0))) v (.slice (some ⟨w.heap.size, 0, none⟩) rows.length c) := by
 refine ⟨.vs (some w.heap.size) rows.length c, _, _, ⟨w.heap.size, c, Ao, Ao⟩, Gw H (.vec (some w.heap.size) sz rows c) _ (.inl Ao), ?_, by simp [CF]⟩
 refine HV hH (.vec (some w.heap.size) sz rows c) _ Ao ?_
 refine ⟨⟨vs⟩, T, GC _, by simpa using hc, hcl, ?_⟩
 refine Ft (vs := vs.take rows.flatten.length) hr ?_ (Bu.mono (Ej _ fun b h => h) _ _ hl)
 have := GP (GC (w := w) (.cells ⟨vs⟩ T (0, 0))) 0 rows.flatten.length
 simpa using this
theorem De {T e : TypeId} {sz bytes n c b : Nat} {k : IntKind} {i : Int} (hT : E3 P T = some (e, sz, bytes)) (hx : ρ x = .vs (some b) n c) (hy : ρ y = .p (.int k i)) (h0 : 0 ≤ i) (hn : i < n) :
  DS P ⟨dst, .indexAddr T x y, ty, pos, aft, g⟩ ρ H (.ptr b (i.toNat * sz)) H :=
 CK fun F w E hH hE => by
  obtain ⟨hu, j, hj, hs1, _⟩ := E1 hT
  have h1 := hE x Ac
  have h2 := hE y Ac
  rw [hx] at h1
  rw [hy] at h2
  simp only [CF, CQ] at h1 h2
  refine ⟨.pointer (some ⟨b, 0 + i.toNat * sz, none⟩), ?_, by simp [CF]⟩
  simp [execOp, Instr.indexAt, Sem.run_bind, run_underlying hu, h1, h2, asIntOf, h0, hn, sizeOf, typeInfo, hj, hs1, Addr.add_mid]
theorem IG {T : TypeId} {b i j sz c : Nat} {rows : List (List PV)} {r : List PV} (hT : DR P T = some (true, sz)) (hx : ρ x = .ptr b (j * sz)) (hi : H[i]? = some (.vec (some b) sz rows c)) (hr : rows[j]? = some r) :
  DS P ⟨dst, .load T x, ty, pos, aft, g⟩ ρ H (.agg (r.map .p)) H :=
 CK fun F w E hH hE => by
  obtain ⟨d, hu, hd, hz⟩ := D9 hT
  have h1 := hE x Ac
  rw [hx] at h1
  simp only [CF] at h1
  obtain ⟨vs, T', hb, _, _, hrows⟩ := hH.obj _ (List.mem_of_getElem? hi)
  obtain ⟨hc, hl⟩ := hrows.at hr
  obtain ⟨us, u1, u2, u3⟩ := hc.vals
  rw [Nat.zero_add] at u1
  refine ⟨.agg ⟨us⟩, ?_, by simp only [CF]; exact ⟨us, rfl, u3⟩⟩
  simp only [execOp, Instr.loadAt, h1, Instr.sureAddr, Sem.run_bind, Sem.run_pure, Result.andThen_ok, E9 hu hd u1 (by rw [hz, u2, hl])]
theorem JZ {T : TypeId} {b i j c m : Nat} {rows : List (List PV)} {q : PV} (hT : DR P T = some (false, m)) (hx : ρ x = .ptr b (j * 1)) (hi : H[i]? = some (.vec (some b) 1 rows c)) (hr : rows[j]? = some [q]) :
  DS P ⟨dst, .load T x, ty, pos, aft, g⟩ ρ H (.p q) H :=
 CK fun F w E hH hE => by
  obtain ⟨d, hu, hd, hz⟩ := D9 hT
  have h1 := hE x Ac
  rw [hx] at h1
  simp only [CF] at h1
  obtain ⟨vs, T', hb, _, _, hrows⟩ := hH.obj _ (List.mem_of_getElem? hi)
  obtain ⟨hc, hl⟩ := hrows.at hr
  simp only [CO, Nat.zero_add] at hc
  obtain ⟨⟨u, hcell, hp⟩, _⟩ := hc
  refine ⟨u, ?_, by simpa only [CF] using hp⟩
  simp only [execOp, Instr.loadAt, h1, Instr.sureAddr, Sem.run_bind, Sem.run_pure, Result.andThen_ok, EN hu hd hcell]
theorem Gg {F : Nat → Prop} {w w' : World} {b o : Nat} {us : List Value} {T : TypeId} {vs : List Value} (hb : w.heap[b]? = some (.cells ⟨vs⟩ T (0, 0))) (hb' : w'.heap[b]? = some (.cells ⟨splice vs o us⟩ T (0, 0))) (st : C2 F w F w') :
  ∀ {cs : List PV} {p : Nat}, (p + cs.length ≤ o ∨ o + us.length ≤ p) → CO F w b p cs → CO F w' b p cs := by
 have hget : ∀ (us vs : List Value) (o q : Nat), (q < o ∨ o + us.length ≤ q) → (splice vs o us)[q]? = vs[q]? := by
  intro us
  induction us with
  | nil => intro vs o q _; rfl
  | cons u us ih =>
   intro vs o q h
   simp only [splice]
   rw [ih _ _ _ (by simp at h ⊢; omega), List.getElem?_set_ne (by simp at h; omega)]
 intro cs
 induction cs with
 | nil => intro p _ _; simp [CO]
 | cons c cs ih =>
  intro p h hc
  simp only [CO] at hc ⊢
  obtain ⟨⟨v, hv, hp⟩, hr⟩ := hc
  refine ⟨⟨v, ?_, CQ.mono st _ _ hp⟩, ih (by simp at h; omega) hr⟩
  have hq := hget us vs o p (by simp at h; omega)
  simp [World.cell?, hb] at hv
  simp [World.cell?, hb', hq, hv]
theorem PU {F : Nat → Prop} {w w' : World} {b o sz : Nat} {us : List Value} {T : TypeId} {vs : List Value} (hb : w.heap[b]? = some (.cells ⟨vs⟩ T (0, 0))) (hb' : w'.heap[b]? = some (.cells ⟨splice vs o us⟩ T (0, 0))) (st : C2 F w F w') (hus : us.length = sz) {r : List PV} (hr : CO F w' b o r) (hrl : r.length = sz) :
  ∀ {rows : List (List PV)} {p j : Nat}, o = p + j * sz → Bw F w b sz p rows → Bw F w' b sz p (rows.set j r) := by
 intro rows
 induction rows with
 | nil => intro p j _ _; simp [Bw]
 | cons r' rows ih =>
  intro p j ho h
  simp only [Bw] at h
  cases j with
  | zero =>
   simp only [List.set_cons_zero, Bw]
   have : o = p := by omega
   subst this
   refine ⟨hrl, hr, ?_⟩
   have : ∀ {rows : List (List PV)} {q : Nat}, o + sz ≤ q → Bw F w b sz q rows → Bw F w' b sz q rows := by
    intro rows
    induction rows with
    | nil => intro q _ _; simp [Bw]
    | cons a rows ih2 =>
     intro q hq ha
     simp only [Bw] at ha ⊢
     exact ⟨ha.1, Gg hb hb' st (.inr Am) ha.2.1, ih2 Am ha.2.2⟩
   exact this Am h.2.2
  | succ j =>
   simp only [List.set_cons_succ, Bw]
   rw [Nat.succ_mul] at ho
   exact ⟨h.1, Gg hb hb' st (.inl (by rw [h.1]; omega)) h.2.1, ih Am h.2.2⟩
theorem Hl {α : Type} : ∀ (us vs : List α) (o q : Nat) (u : α), us[q]? = some u → o + us.length ≤ vs.length → (splice vs o us)[o + q]? = some u
 | [], vs, o, q, u, h, _ => by simp at h
 | a :: us, vs, o, q, u, h, hl => by
  simp only [splice]
  cases q with
  | zero =>
   simp at h; subst h
   have hget : ∀ (us vs : List α) (o q : Nat), q < o → (splice vs o us)[q]? = vs[q]? := by
    intro us
    induction us with
    | nil => intro vs o q _; rfl
    | cons u us ih => intro vs o q h; simp only [splice]; rw [ih _ _ _ Am, List.getElem?_set_ne Am]
   rw [hget _ _ _ _ Am]
   show (vs.set o a)[o]? = some a
   rw [List.getElem?_set_self (by simp at hl; omega)]
  | succ q =>
   simp at h
   have := Hl us (vs.set o a) (o + 1) q u h (by simp at hl ⊢; omega)
   rwa [Nat.add_assoc, Nat.add_comm 1 q] at this
theorem Mx {T : TypeId} {bl : Bool} {b i j sz c : Nat} {rows : List (List PV)} {us : List AV} {r : List PV} (hT : DR P T = some (bl, sz)) (hpos : Nat.blt 0 sz = true) (hx : ρ x = .ptr b (j * sz)) (hi : H[i]? = some (.vec (some b) sz rows c)) (hj : j < rows.length) (hy : EJ (ρ y) = some us) (hp : FX (us.map dn) = some r) (hrl : r.length = sz) (h1 : us.all one = true) :
  DS P ⟨dst, .store T x y, ty, pos, aft, g⟩ ρ H (.p .any) (H.set i (.vec (some b) sz (rows.set j r) c)) :=
 F4 fun F w E hH hE => by
  have hpos' : 0 < sz := by simpa [Nat.blt_eq] using hpos
  have e1 := hE x Ac
  have e2 := hE y Ac
  rw [hx] at e1
  simp only [CF] at e1
  obtain ⟨vs, T', hb, hcs, hcl, hrows⟩ := hH.obj _ (List.mem_of_getElem? hi)
  obtain ⟨vs⟩ := vs
  obtain ⟨ws, hc, hl'⟩ := Hi e2 hy
  have hul : us.length = sz := by
   have := congrArg List.length (Gt hp)
   simp at this; omega
  have hlen := hl'.length
  have hw : E6 b (.cells ⟨splice vs (j * sz) ws⟩ T' (0, 0)) w (w.setCells b (j * sz) ws) := ED ws hb (by intro e; rw [e] at hlen; simp at hlen; omega)
  have hlt : b < w.heap.size := (Array.getElem?_eq_some_iff.1 hb).1
  have hF : F b := hH.sub _ (List.mem_of_getElem? hi) b rfl
  have hcs' : c * sz ≤ vs.length := by simpa using hcs
  have hfit : j * sz + sz ≤ vs.length := by
   have : (j + 1) * sz ≤ c * sz := Nat.mul_le_mul_right sz Am
   rw [Nat.succ_mul] at this
   omega
  refine ⟨w.setCells b (j * sz) ws, _, F, ?_, ⟨Ao, Ao⟩, hw.trans hi Ao Ao, hw.HRel hH hi Ao Ao ?_⟩
  ·have hst := Gb (T := T) (v := E y) (o := j * sz) hT hb hc Am hfit (Hd hl' h1)
   simp only [execOp, Instr.storeAt, e1, Instr.sureAddr, Sem.run_bind, Sem.run_pure, Result.andThen_ok, hst]
  ·have hb' := hw.self hlt
   have st := hw.stable hF
   refine ⟨⟨splice vs (j * sz) ws⟩, T', hb', by simp only [ES, List.size_toArray]; exact hcs', by simpa using hcl, ?_⟩
   refine PU hb hb' st Am (r := r) ?_ hrl An hrows
   have hln := JG (Bu.mono st _ _ hl')
   rw [Gt hp] at hln
   refine Ic (vs := ws) ?_ hln
   intro q u hq
   have := Hl ws vs (j * sz) q u hq Am
   simp [World.cell?, hb', this]
end
end Go.Abs
