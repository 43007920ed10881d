/- Part of the proofs about metavariables: an abstract program logic, plain models and contracts of functions. -/
import Derived.Test.YtgfecpjmbgcobaaGreatPb
/- The abstract program logic: how a drawn region is walked in the order of its text. -/
namespace Go.Abs
set_option linter.unusedVariables false
set_option linter.unusedSimpArgs false

/-- Of each operation, as bits: which must come before it. -/
def bmOne (acc : List Nat) (o : Oper) : Nat := (bindOn o).foldl (fun m j => m ||| 2 ^ j ||| acc.getD j 0) 0
def bmAll : List Nat → List Oper → List Nat
  | acc, [] => acc
  | acc, o :: r => bmAll (acc ++ [bmOne acc o]) r
def bm (ops : Array Oper) : List Nat := bmAll [] ops.toList
def predB (ops : Array Oper) (j i : Nat) : Bool := ((bm ops).getD i 0).testBit j

theorem foldl_bit {acc : List Nat} {j : Nat} : ∀ (l : List Nat) (m : Nat), (l.foldl (fun m j => m ||| 2 ^ j ||| acc.getD j 0) m).testBit j = true → m.testBit j = true ∨ ∃ k ∈ l, j = k ∨ (acc.getD k 0).testBit j = true
  | [], m, h => .inl h
  | k :: l, m, h => by
    rcases foldl_bit l _ h with h | ⟨k', hk, h⟩
    · simp only [Nat.testBit_or, Nat.testBit_two_pow, Bool.or_eq_true, decide_eq_true_eq] at h
      rcases h with (h | h) | h
      · exact .inl h
      · exact .inr ⟨k, by simp, .inl h.symm⟩
      · exact .inr ⟨k, by simp, .inr h⟩
    · exact .inr ⟨k', by simp [hk], h⟩

theorem bmAll_spec {ops : Array Oper} : ∀ (r : List Oper) (acc : List Nat), (∀ (j : Nat), r[j]? = ops.toList[acc.length + j]?) → (∀ i j, (acc.getD i 0).testBit j = true → Pred ops j i) →
    ∀ i j, ((bmAll acc r).getD i 0).testBit j = true → Pred ops j i
  | [], acc, _, h => h
  | o :: r, acc, hr, h => by
    refine bmAll_spec r _ ?_ ?_
    · intro j
      have := hr (j + 1)
      simp only [List.getElem?_cons_succ, List.length_append, List.length_singleton] at this ⊢
      rw [this]
      congr 1
      omega
    · intro i j hb
      have ho : ops[acc.length]? = some o := by
        have := hr 0
        simpa using this.symm
      rcases Nat.lt_trichotomy i acc.length with hlt | heq | hgt
      · have e : (acc ++ [bmOne acc o]).getD i 0 = acc.getD i 0 := by simp [List.getD, List.getElem?_append_left hlt]
        rw [e] at hb
        exact h i j hb
      · subst heq
        have e : (acc ++ [bmOne acc o]).getD acc.length 0 = bmOne acc o := by simp
        rw [e] at hb
        rcases foldl_bit _ _ hb with hb | ⟨k, hk, hb⟩
        · simp at hb
        · rcases hb with rfl | hb
          · exact .base ho hk
          · exact (h k j hb).trans (.base ho hk)
      · have e : (acc ++ [bmOne acc o]).getD i 0 = 0 := by
          simp [List.getD, List.getElem?_eq_none (by simp; omega : (acc ++ [bmOne acc o]).length ≤ i)]
        rw [e] at hb
        simp at hb

theorem predB_spec {ops : Array Oper} {j i : Nat} (h : predB ops j i = true) : Pred ops j i :=
  bmAll_spec ops.toList [] (by simp) (by intro i j h; simp at h) i j h

/-- The edges of a region order whatever must be ordered. 'effs': which operations turn the tracked objects. -/
def chkB (ops : Array Oper) (n : Nat) (effs : List Bool) : Bool :=
  let b := bm ops
  let pr (j i : Nat) : Bool := (b.getD i 0).testBit j
  let l := ops.toList.zipIdx
  l.all fun (o, i) =>
    (bindOn o).all (fun j => Nat.blt j i) &&
    (match o.dst with | some t => Nat.blt t n | none => true) &&
    l.all fun (o', k) =>
      (Nat.beq k i || (match o'.dst with
        | some t => !((looks ops o).contains t) || (if Nat.blt k i then pr k i else pr i k)
        | none => true)) &&
      (Nat.beq k i || (match o.dst, o'.dst with
        | some t, some t' => !(Nat.beq t t')
        | _, _ => true)) &&
      (!(Nat.blt i k && effs.getD i false && effs.getD k false) || pr i k)

theorem chkB_spec {ops : Array Oper} {n : Nat} {effs : List Bool} (h : chkB ops n effs = true) :
    (∀ (k : Nat) o t, ops[k]? = some o → o.dst = some t → t < n) ∧ (∀ (i : Nat) o j, ops[i]? = some o → j ∈ bindOn o → j < i) ∧
    (∀ (i k : Nat) o o' t, ops[i]? = some o → ops[k]? = some o' → t ∈ looks ops o → o'.dst = some t → k ≠ i → (k < i → Pred ops k i) ∧ (i < k → Pred ops i k)) ∧
    (∀ (i k : Nat) o o' t, ops[i]? = some o → ops[k]? = some o' → o.dst = some t → o'.dst = some t → i = k) ∧
    (∀ (i k : Nat), i < k → k < ops.size → effs.getD i false = true → effs.getD k false = true → Pred ops i k) := by
  unfold chkB at h
  rw [List.all_eq_true] at h
  have at' : ∀ (i : Nat) o, ops[i]? = some o → (o, i) ∈ ops.toList.zipIdx := by
    intro i o ho
    rw [List.mem_zipIdx_iff_getElem?]
    simpa using ho
  refine ⟨?_, ?_, ?_, ?_, ?_⟩
  · intro k o t ho ht
    have := h _ (at' k o ho)
    simp only [Bool.and_eq_true] at this
    have := this.1.2
    rw [ht] at this
    simpa [Nat.blt_eq] using this
  · intro i o j ho hj
    have := h _ (at' i o ho)
    simp only [Bool.and_eq_true] at this
    have := List.all_eq_true.1 this.1.1 j hj
    simpa [Nat.blt_eq] using this
  · intro i k o o' t ho ho' ht hk hki
    have := h _ (at' i o ho)
    simp only [Bool.and_eq_true] at this
    have := List.all_eq_true.1 this.2 _ (at' k o' ho')
    simp only [Bool.and_eq_true, Bool.or_eq_true] at this
    have := this.1.1
    rcases this with h | h
    · exact absurd (Nat.eq_of_beq_eq_true h) hki
    · rw [hk] at h
      simp only [Bool.or_eq_true, Bool.not_eq_true'] at h
      rcases h with h | h
      · simp at h; exact absurd ht h
      · constructor
        · intro hlt
          rw [if_pos (by simpa [Nat.blt_eq] using hlt)] at h
          exact predB_spec h
        · intro hlt
          rw [if_neg (by simp [Nat.blt_eq]; omega)] at h
          exact predB_spec h
  · intro i k o o' t ho ho' ht hk
    have := h _ (at' i o ho)
    simp only [Bool.and_eq_true] at this
    have := List.all_eq_true.1 this.2 _ (at' k o' ho')
    simp only [Bool.and_eq_true, Bool.or_eq_true] at this
    have := this.1.2
    rcases this with h | h
    · exact (Nat.eq_of_beq_eq_true h).symm
    · rw [ht, hk] at h
      simp [Nat.beq_refl] at h
  · intro i k hlt hk hi hke
    have ho : ops[i]? = some ops[i] := Array.getElem?_eq_getElem (by omega)
    have ho' : ops[k]? = some ops[k] := Array.getElem?_eq_getElem hk
    have := h _ (at' i _ ho)
    simp only [Bool.and_eq_true] at this
    have := List.all_eq_true.1 this.2 _ (at' k _ ho')
    simp only [Bool.and_eq_true, Bool.or_eq_true] at this
    have := this.2
    simp only [hi, hke, Bool.and_true, Bool.not_eq_true'] at this
    rcases this with h | h
    · have : Nat.blt i k = true := by simpa [Nat.blt_eq] using hlt
      simp [this] at h
    · exact predB_spec h

/-- What is owed where operation k turns the objects from H to H': those that were read in an open order must still be there. -/
def OweR (ops : Array Oper) (k : Nat) (H H' : List HObj) : List (Nat × HObj) → Prop
  | [] => True
  | (i, ob) :: r => (predB ops i k = true ∨ (ob ∈ H ∧ ob ∈ H')) ∧ OweR ops k H H' r
/-- What is owed where operation k reads ob. -/
def OweE (ops : Array Oper) (k : Nat) (ob : HObj) : List (Nat × List HObj × List HObj) → Prop
  | [] => True
  | (e, H, H') :: r => (predB ops e k = true ∨ (ob ∈ H ∧ ob ∈ H')) ∧ OweE ops k ob r

theorem oweR_at {ops : Array Oper} {k : Nat} {H H' : List HObj} : ∀ {rd : List (Nat × HObj)} {i ob}, OweR ops k H H' rd → (i, ob) ∈ rd → predB ops i k = true ∨ (ob ∈ H ∧ ob ∈ H')
  | [], _, _, _, h => by cases h
  | (j, ob') :: r, i, ob, h, hm => by
    rcases List.mem_cons.1 hm with e | hm
    · injection e with e1 e2; subst e1; subst e2; exact h.1
    · exact oweR_at h.2 hm
theorem oweE_at {ops : Array Oper} {k : Nat} {ob : HObj} : ∀ {ef : List (Nat × List HObj × List HObj)} {e H H'}, OweE ops k ob ef → (e, H, H') ∈ ef → predB ops e k = true ∨ (ob ∈ H ∧ ob ∈ H')
  | [], _, _, _, _, h => by cases h
  | (j, G, G') :: r, e, H, H', h, hm => by
    rcases List.mem_cons.1 hm with q | hm
    · injection q with e1 e2; injection e2 with e2 e3; subst e1; subst e2; subst e3; exact h.1
    · exact oweE_at h.2 hm

theorem getD_isEff (sp : List Sp) (i : Nat) : (sp.map Sp.isEff).getD i false = (sp.getD i .skip).isEff := by
  induction sp generalizing i with
  | nil => rfl
  | cons s sp ih =>
    cases i with
    | zero => rfl
    | succ i => simpa using ih i


def Sp.heap : Sp → List HObj → List HObj
  | .eff _ H', _ => H'
  | _, H => H
def Sp.rd : Sp → Nat → List (Nat × HObj) → List (Nat × HObj)
  | .read ob _, k, rd => (k, ob) :: rd
  | _, _, rd => rd
def Sp.ef : Sp → Nat → List HObj → List (Nat × List HObj × List HObj) → List (Nat × List HObj × List HObj)
  | .eff _ H', k, H, ef => (k, H, H') :: ef
  | _, _, _, ef => ef
def Owes (ops : Array Oper) (k : Nat) (H : List HObj) (rd : List (Nat × HObj)) (ef : List (Nat × List HObj × List HObj)) : Sp → Prop
  | .read ob _ => OweE ops k ob ef
  | .eff _ H' => OweR ops k H H' rd
  | _ => True
/-- What was said of operation k beforehand. -/
def FxAt (k : Nat) (s : Sp) : List (Nat × Sp) → Prop
  | [] => True
  | (j, s') :: r => (bif Nat.beq j k then s = s' else True) ∧ FxAt k s r
def allAfter (ops : Array Oper) (p : Nat) (fx : List Nat) : Bool := (List.range ops.size).all fun k => !(Nat.blt p k) || predB ops p k || fx.contains k

/-- What was fixed lies behind. -/
def fxPast (k : Nat) : List (Nat × Sp) → Bool
  | [] => true
  | (j, _) :: r => Nat.blt j k && fxPast k r
theorem fxPast_at {k : Nat} : ∀ {fx : List (Nat × Sp)}, fxPast k fx = true → ∀ {j s}, (j, s) ∈ fx → j < k
  | [], _, _, _, h => by cases h
  | (i, t) :: r, h, j, s, hm => by
    simp only [fxPast, Bool.and_eq_true] at h
    rcases List.mem_cons.1 hm with e | hm
    · injection e with e1 e2; subst e1; exact Nat.le_of_ble_eq_true h.1
    · exact fxPast_at h.2 hm

abbrev Rds := List (Nat × HObj)
abbrev Efs := List (Nat × List HObj × List HObj)

/-- A drawn region in the order of its text: the tree of what may come. 'opn': the operations whose outcome is open. -/
inductive Dr (P : Program) (ops : Array Oper) (n : Nat) (τ₀ : Nat → AV) (D : List ADef) (Q : AExit → AState → Prop) (opn : Nat → Bool) : Nat → (Nat → AV) → List HObj → Rds → Efs → List Bool → List (Nat × Sp) → Prop where
  | nil {k τ H rd ef effs fx} (hk : k = ops.size) (chk : chkB ops n effs.reverse = true) (hq : Q .normal ⟨n, τ, H, D⟩) : Dr P ops n τ₀ D Q opn k τ H rd ef effs fx
  | step {k τ H rd ef effs fx o} (s : Sp) (ho : ops[k]? = some o) (hn : opn k = false) (hok : OpOk P ops o τ H s) (howe : Owes ops k H rd ef s) (hfx : FxAt k s fx)
      (next : Dr P ops n τ₀ D Q opn (k + 1) (put τ o.dst s.val) (s.heap H) (s.rd k rd) (s.ef k H ef) (s.isEff :: effs) fx) : Dr P ops n τ₀ D Q opn k τ H rd ef effs fx
  | opn {k τ H rd ef effs fx o} (R : ARes → List HObj → Prop) (fx' : List (Nat × Sp)) (ho : ops[k]? = some o) (hn : opn k = true) (hw : Wants ops ⟨0, τ, [], []⟩ o) (hop : AOpR P o (ev τ) H R) (haft : allAfter ops k (fx'.map (·.1)) = true) (hne : ∃ v H', R (.val v) H')
      (howe : ∀ v H', R (.val v) H' → OweR ops k H H' rd) (hfx : ∀ v H', R (.val v) H' → FxAt k (.eff v H') fx)
      (rest : ∀ v H', R (.val v) H' → Dr P ops n τ₀ D Q opn (k + 1) (put τ o.dst v) H' rd ((k, H, H') :: ef) (true :: effs) (fx' ++ fx))
      (pan : ∀ v H', R (.panic v) H' → ∀ τ', (∀ t, (∀ (k : Nat) o, ops[k]? = some o → o.dst ≠ some t) → τ' t = τ₀ t) → Q (.panic v) ⟨n, τ', H', D⟩) : Dr P ops n τ₀ D Q opn k τ H rd ef effs fx
  | pan {k τ H rd ef effs fx o} (R : ARes → List HObj → Prop) (ho : ops[k]? = some o) (hn : opn k = true) (hw : Wants ops ⟨0, τ, [], []⟩ o) (hop : AOpR P o (ev τ) H R) (haft : allAfter ops k [] = true) (chk : chkB ops n (true :: effs).reverse = true) (hfx : fxPast k fx = true) (hno : ∀ v H', ¬ R (.val v) H') (howe : OweR ops k H H rd)
      (pan : ∀ v H', R (.panic v) H' → ∀ τ', (∀ t, (∀ (k : Nat) o, ops[k]? = some o → o.dst ≠ some t) → τ' t = τ₀ t) → Q (.panic v) ⟨n, τ', H', D⟩) : Dr P ops n τ₀ D Q opn k τ H rd ef effs fx

/-- One way through the tree. -/
inductive Pth (P : Program) (ops : Array Oper) (n : Nat) (τ₀ : Nat → AV) (D : List ADef) (Q : AExit → AState → Prop) (opn : Nat → Bool) : Nat → (Nat → AV) → List HObj → Rds → Efs → List Bool → List (Nat × Sp) → List (Sp × Bool) → Prop where
  | nil {k τ H rd ef effs fx} (hk : k = ops.size) (chk : chkB ops n effs.reverse = true) (hq : Q .normal ⟨n, τ, H, D⟩) : Pth P ops n τ₀ D Q opn k τ H rd ef effs fx []
  | step {k τ H rd ef effs fx o r} (s : Sp) (ho : ops[k]? = some o) (hn : opn k = false) (hok : OpOk P ops o τ H s) (howe : Owes ops k H rd ef s) (hfx : FxAt k s fx)
      (next : Pth P ops n τ₀ D Q opn (k + 1) (put τ o.dst s.val) (s.heap H) (s.rd k rd) (s.ef k H ef) (s.isEff :: effs) fx r) : Pth P ops n τ₀ D Q opn k τ H rd ef effs fx ((s, true) :: r)
  | opn {k τ H rd ef effs fx o r} (R : ARes → List HObj → Prop) (fx' : List (Nat × Sp)) (ho : ops[k]? = some o) (hn : opn k = true) (hw : Wants ops ⟨0, τ, [], []⟩ o) (hop : AOpR P o (ev τ) H R) (haft : allAfter ops k (fx'.map (·.1)) = true)
      (howe : ∀ v H', R (.val v) H' → OweR ops k H H' rd) (hfx : ∀ v H', R (.val v) H' → FxAt k (.eff v H') fx)
      (rest : ∀ v H', R (.val v) H' → Dr P ops n τ₀ D Q opn (k + 1) (put τ o.dst v) H' rd ((k, H, H') :: ef) (true :: effs) (fx' ++ fx))
      (pan : ∀ v H', R (.panic v) H' → ∀ τ', (∀ t, (∀ (k : Nat) o, ops[k]? = some o → o.dst ≠ some t) → τ' t = τ₀ t) → Q (.panic v) ⟨n, τ', H', D⟩)
      (v : AV) (H' : List HObj) (hv : R (.val v) H') (next : Pth P ops n τ₀ D Q opn (k + 1) (put τ o.dst v) H' rd ((k, H, H') :: ef) (true :: effs) (fx' ++ fx) r) : Pth P ops n τ₀ D Q opn k τ H rd ef effs fx ((.eff v H', true) :: r)
  | pan {k τ H rd ef effs fx o} (R : ARes → List HObj → Prop) (ho : ops[k]? = some o) (hn : opn k = true) (hw : Wants ops ⟨0, τ, [], []⟩ o) (hop : AOpR P o (ev τ) H R) (haft : allAfter ops k [] = true) (chk : chkB ops n (true :: effs).reverse = true) (hfx : fxPast k fx = true) (hno : ∀ v H', ¬ R (.val v) H') (howe : OweR ops k H H rd)
      (pan : ∀ v H', R (.panic v) H' → ∀ τ', (∀ t, (∀ (k : Nat) o, ops[k]? = some o → o.dst ≠ some t) → τ' t = τ₀ t) → Q (.panic v) ⟨n, τ', H', D⟩) : Pth P ops n τ₀ D Q opn k τ H rd ef effs fx [(.eff (.p .any) H, false)]

section
variable {P : Program} {ops : Array Oper} {n : Nat} {τ₀ : Nat → AV} {D : List ADef} {Q : AExit → AState → Prop} {opn : Nat → Bool} {k : Nat} {τ : Nat → AV} {H : List HObj} {rd : Rds} {ef : Efs} {effs : List Bool} {fx : List (Nat × Sp)}

theorem Dr.path (h : Dr P ops n τ₀ D Q opn k τ H rd ef effs fx) : ∃ l, Pth P ops n τ₀ D Q opn k τ H rd ef effs fx l := by
  induction h with
  | nil hk chk hq => exact ⟨[], .nil hk chk hq⟩
  | step s ho hn hok howe hfx next ih => obtain ⟨l, hl⟩ := ih; exact ⟨_, .step s ho hn hok howe hfx hl⟩
  | opn R fx' ho hn hw hop haft hne howe hfx rest pan ih =>
    obtain ⟨v, H', hv⟩ := hne
    obtain ⟨l, hl⟩ := ih v H' hv
    exact ⟨_, .opn R fx' ho hn hw hop haft howe hfx rest pan v H' hv hl⟩
  | pan R ho hn hw hop haft chk hfx hno howe pan => exact ⟨_, .pan R ho hn hw hop haft chk hfx hno howe pan⟩

theorem FxAt.at {k : Nat} {s : Sp} : ∀ {fx : List (Nat × Sp)} {s' : Sp}, FxAt k s fx → (k, s') ∈ fx → s = s'
  | [], _, _, h => by cases h
  | (j, t) :: r, s', h, hm => by
    rcases List.mem_cons.1 hm with e | hm
    · injection e with e1 e2
      subst e1; subst e2
      have := h.1
      rw [Nat.beq_refl] at this
      exact this
    · exact FxAt.at h.2 hm

theorem Pth.fixed {l : List (Sp × Bool)} (h : Pth P ops n τ₀ D Q opn k τ H rd ef effs fx l) : ∀ j s, (j, s) ∈ fx → k ≤ j → j < ops.size → l[j - k]? = some (s, true) := by
  induction h with
  | nil hk chk hq => intro j s _ h1 h2; omega
  | @step k τ H rd ef effs fx o r s ho hn hok howe hfx next ih =>
    intro j s' hj h1 h2
    by_cases e : j = k
    · subst e; simp [hfx.at hj]
    · obtain ⟨d, hd⟩ : ∃ d, j - k = d + 1 := ⟨j - k - 1, by omega⟩
      have := ih j s' hj (by omega) h2
      rw [hd]
      rw [show j - (k + 1) = d by omega] at this
      simpa using this
  | @opn k τ H rd ef effs fx o r R fx' ho hn hw hop haft howe hfx rest pan v H' hv next ih =>
    intro j s' hj h1 h2
    by_cases e : j = k
    · subst e; simp [(hfx v H' hv).at hj]
    · obtain ⟨d, hd⟩ : ∃ d, j - k = d + 1 := ⟨j - k - 1, by omega⟩
      have := ih j s' (by simp [hj]) (by omega) h2
      rw [hd]
      rw [show j - (k + 1) = d by omega] at this
      simpa using this
  | pan R ho hn hw hop haft chk hfx hno howe pan => intro j s hj h1; have := fxPast_at hfx hj; omega

theorem allAfter_spec {p : Nat} {l : List Nat} (h : allAfter ops p l = true) {k : Nat} (hk : p < k) (hks : k < ops.size) : Pred ops p k ∨ k ∈ l := by
  have := List.all_eq_true.1 h k (by simpa using hks)
  simp only [Bool.or_eq_true, Bool.not_eq_true'] at this
  rcases this with (h | h) | h
  · have : Nat.blt p k = true := by simpa [Nat.blt_eq] using hk
    rw [this] at h; cases h
  · exact .inl (predB_spec h)
  · exact .inr (by simpa using h)

/-- What a way shows. -/
structure Shows (P : Program) (ops : Array Oper) (n : Nat) (τ₀ : Nat → AV) (D : List ADef) (Q : AExit → AState → Prop) (opn : Nat → Bool) (H₀ : List HObj) (sp : List Sp) (ok : List Bool) (k : Nat) : Prop where
  run : ∀ (j : Nat) o, k ≤ j → ops[j]? = some o → opn j = false → (∀ p, opn p = true → Pred ops p j → ok.getD p true = true) → OpOk P ops o (τS ops sp τ₀ j) (HAt sp H₀ j) (sp.getD j .skip)
  c4 : ∀ (i e : Nat) ob v, i < ops.size → e < ops.size → (k ≤ i ∨ k ≤ e) → sp.getD i .skip = .read ob v → (sp.getD e .skip).isEff = true → (Pred ops e i ∨ Pred ops i e) ∨ (ob ∈ HAt sp H₀ e ∧ ob ∈ HAt sp H₀ (e + 1))
  eff : ∀ p, k ≤ p → p < ops.size → opn p = true → (∀ q, opn q = true → Pred ops q p → ok.getD q true = true) → (sp.getD p .skip).isEff = true
  next : (∀ p, k ≤ p → p < ops.size → opn p = true → ok.getD p true = true) → Q .normal ⟨n, τS ops sp τ₀ ops.size, HAt sp H₀ ops.size, D⟩
  chk : chkB ops n (sp.map Sp.isEff) = true

theorem HAt_heap {sp : List Sp} {H₀ : List HObj} {k : Nat} : HAt sp H₀ (k + 1) = (sp.getD k .skip).heap (HAt sp H₀ k) := by
  simp only [HAt]
  cases sp.getD k .skip <;> rfl

theorem Pth.shows {l : List (Sp × Bool)} (h : Pth P ops n τ₀ D Q opn k τ H rd ef effs fx l) : ∀ {H₀ : List HObj} {pre : List (Sp × Bool)}, pre.length = k → effs.reverse = (pre.map (·.1)).map Sp.isEff → τ = τS ops ((pre ++ l).map (·.1)) τ₀ k → H = HAt ((pre ++ l).map (·.1)) H₀ k → k ≤ ops.size →
    (∀ i ob v, i < k → ((pre ++ l).map (·.1)).getD i .skip = .read ob v → (i, ob) ∈ rd) → (∀ e, e < k → (((pre ++ l).map (fun (x : Sp × Bool) => x.1)).getD e Sp.skip).isEff = true → (e, HAt ((pre ++ l).map (·.1)) H₀ e, HAt ((pre ++ l).map (·.1)) H₀ (e + 1)) ∈ ef) →
    Shows P ops n τ₀ D Q opn H₀ ((pre ++ l).map (·.1)) ((pre ++ l).map (·.2)) k := by
  induction h with
  | nil hk chk hq =>
    intro H₀ pre hpre heffs hτ hH hkl hrd hef
    subst hk
    refine ⟨fun j o hj ho => ?_, fun i e ob v hi he hor => by omega, fun p h1 h2 => by omega, fun _ => ?_, ?_⟩
    · simp [Array.getElem?_eq_none hj] at ho
    · rw [← hτ, ← hH]; exact hq
    · simp only [List.append_nil]; rw [← heffs]; exact chk
  | @step k τ H rd ef effs fx o r s ho hn hok howe hfx next ih =>
    intro H₀ pre hpre heffs hτ hH hkl hrd hef
    have hlt : k < ops.size := by
      rcases Nat.lt_or_ge k ops.size with h | h
      · exact h
      · simp [Array.getElem?_eq_none h] at ho
    have hcat : pre ++ (s, true) :: r = (pre ++ [(s, true)]) ++ r := by simp
    have hsk : ((pre ++ (s, true) :: r).map (·.1)).getD k .skip = s := by
      subst hpre; simp
    have hs := ih (H₀ := H₀) (pre := pre ++ [(s, true)]) (by simp [hpre]) (by simp [heffs]) (by rw [← hcat]; simp only [τS, ho, Option.bind_some, hsk, ← hτ]) (by rw [← hcat, HAt_heap, hsk, ← hH]) (by omega)
      (by
        rw [← hcat]
        intro i ob v hi he
        rcases Nat.lt_or_ge i k with h | h
        · have := hrd i ob v h he
          cases s <;> first | exact this | exact List.mem_cons_of_mem _ this
        · have : i = k := by omega
          subst this; rw [hsk] at he; subst he; exact List.mem_cons_self)
      (by
        rw [← hcat]
        intro e he hee
        rcases Nat.lt_or_ge e k with h | h
        · have := hef e h hee
          cases s <;> first | exact this | exact List.mem_cons_of_mem _ this
        · have : e = k := by omega
          subst this
          rw [HAt_heap, hsk, ← hH]
          rw [hsk] at hee
          cases s <;> first | (cases hee; done) | exact List.mem_cons_self)
    rw [← hcat] at hs
    refine ⟨fun j o' hj ho' hnj hpj => ?_, fun i e ob v hi he hor hri hee => ?_, fun p h1 h2 h3 h4 => ?_, fun hok' => hs.next fun p h1 h2 h3 => hok' p (by omega) h2 h3, hs.chk⟩
    · by_cases hjk : j = k
      · subst hjk; rw [ho] at ho'; injection ho' with ho'; subst ho'; rw [hsk, ← hτ, ← hH]; exact hok
      · exact hs.run j o' (by omega) ho' hnj hpj
    · by_cases hik : i = k
      · subst hik
        rw [hsk] at hri
        subst hri
        rcases Nat.lt_or_ge e i with hlt' | hge
        · rcases oweE_at howe (hef e hlt' hee) with h | h
          · exact .inl (.inl (predB_spec h))
          · exact .inr h
        · have hne : e ≠ i := fun e' => by subst e'; rw [hsk] at hee; cases hee
          exact hs.c4 i e ob v hi he (.inr (by omega)) hsk hee
      · by_cases hek : e = k
        · subst hek
          rw [hsk] at hee
          rcases Nat.lt_or_ge i e with hlt' | hge
          · cases s with
            | eff v' H' =>
              rcases oweR_at howe (hrd i ob v hlt' hri) with h | h
              · exact .inl (.inr (predB_spec h))
              · rw [HAt_heap, hsk, ← hH]; exact .inr h
            | _ => cases hee
          · exact hs.c4 i e ob v hi he (.inl (by omega)) hri (by rw [hsk]; exact hee)
        · exact hs.c4 i e ob v hi he (by omega) hri hee
    · have : p ≠ k := fun e => by subst e; rw [hn] at h3; cases h3
      exact hs.eff p (by omega) h2 h3 h4
  | @opn k τ H rd ef effs fx o r R fx' ho hn hw hop haft howe hfx rest pan v H' hv next ih =>
    intro H₀ pre hpre heffs hτ hH hkl hrd hef
    have hlt : k < ops.size := by
      rcases Nat.lt_or_ge k ops.size with h | h
      · exact h
      · simp [Array.getElem?_eq_none h] at ho
    have hcat : pre ++ (Sp.eff v H', true) :: r = (pre ++ [(Sp.eff v H', true)]) ++ r := by simp
    have hsk : ((pre ++ (Sp.eff v H', true) :: r).map (·.1)).getD k .skip = Sp.eff v H' := by
      subst hpre; simp
    have hs := ih (H₀ := H₀) (pre := pre ++ [(Sp.eff v H', true)]) (by simp [hpre]) (by simp [heffs, Sp.isEff]) (by rw [← hcat]; simp only [τS, ho, Option.bind_some, hsk, ← hτ, Sp.val]) (by rw [← hcat, HAt_heap, hsk]; rfl) (by omega)
      (by
        rw [← hcat]
        intro i ob v' hi he
        rcases Nat.lt_or_ge i k with h | h
        · exact hrd i ob v' h he
        · have : i = k := by omega
          subst this; rw [hsk] at he; cases he)
      (by
        rw [← hcat]
        intro e he hee
        rcases Nat.lt_or_ge e k with h | h
        · exact List.mem_cons_of_mem _ (hef e h hee)
        · have : e = k := by omega
          subst this
          rw [HAt_heap, hsk, ← hH]
          exact List.mem_cons_self)
    rw [← hcat] at hs
    replace howe := howe v H' hv
    refine ⟨fun j o' hj ho' hnj hpj => ?_, fun i e ob v' hi he hor hri hee => ?_, fun p h1 h2 h3 h4 => ?_, fun hok' => hs.next fun p h1 h2 h3 => hok' p (by omega) h2 h3, hs.chk⟩
    · have : j ≠ k := fun e => by subst e; rw [hn] at hnj; cases hnj
      exact hs.run j o' (by omega) ho' hnj hpj
    · have hik : i ≠ k := fun e => by subst e; rw [hsk] at hri; cases hri
      by_cases hek : e = k
      · subst hek
        rcases Nat.lt_or_ge i e with hlt' | hge
        · rcases oweR_at howe (hrd i ob v' hlt' hri) with h | h
          · exact .inl (.inr (predB_spec h))
          · rw [HAt_heap, hsk, ← hH]; exact .inr h
        · exact hs.c4 i e ob v' hi he (.inl (by omega)) hri hee
      · exact hs.c4 i e ob v' hi he (by omega) hri hee
    · by_cases e : p = k
      · subst e; rw [hsk]; rfl
      · exact hs.eff p (by omega) h2 h3 h4
  | @pan k τ H rd ef effs fx o R ho hn hw hop haft chk hfx hno howe pan =>
    intro H₀ pre hpre heffs hτ hH hkl hrd hef
    have hlt : k < ops.size := by
      rcases Nat.lt_or_ge k ops.size with h | h
      · exact h
      · simp [Array.getElem?_eq_none h] at ho
    have hsk : ((pre ++ [(Sp.eff (.p .any) H, false)]).map (·.1)).getD k .skip = Sp.eff (.p .any) H := by
      subst hpre; simp
    have hskip : ∀ j, k < j → ((pre ++ [(Sp.eff (.p .any) H, false)]).map (·.1)).getD j .skip = .skip := by
      intro j hj
      have : (pre ++ [(Sp.eff (.p .any) H, false)])[j]? = none := List.getElem?_eq_none (by simp; omega)
      rw [List.getD_eq_getElem?_getD, List.getElem?_map, this]; rfl
    have hokk : ((pre ++ [(Sp.eff (.p .any) H, false)]).map (·.2)).getD k true = false := by
      subst hpre; simp
    refine ⟨fun j o' hj ho' hnj hpj => ?_, fun i e ob v' hi he hor hri hee => ?_, fun p h1 h2 h3 h4 => ?_, fun hok' => ?_, ?_⟩
    · have hjk : j ≠ k := fun e => by subst e; rw [hn] at hnj; cases hnj
      have hjs : j < ops.size := by
        rcases Nat.lt_or_ge j ops.size with h | h
        · exact h
        · simp [Array.getElem?_eq_none h] at ho'
      rcases allAfter_spec haft (k := j) (by omega) hjs with h | h
      · have := hpj k hn h
        rw [hokk] at this; cases this
      · cases h
    · have hik : i ≠ k := fun e => by subst e; rw [hsk] at hri; cases hri
      have hi' : i < k := by
        rcases Nat.lt_or_ge k i with h | h
        · rw [hskip i h] at hri; cases hri
        · omega
      have he' : e = k := by
        rcases Nat.lt_trichotomy e k with h | h | h
        · omega
        · exact h
        · rw [hskip e h] at hee; cases hee
      subst he'
      rcases oweR_at howe (hrd i ob v' hi' hri) with h | h
      · exact .inl (.inr (predB_spec h))
      · rw [HAt_heap, hsk, ← hH]; exact .inr h
    · have : p = k := by
        rcases Nat.lt_or_ge k p with h | h
        · rcases allAfter_spec haft h h2 with h' | h'
          · have := h4 k hn h'
            rw [hokk] at this; cases this
          · cases h'
        · omega
      subst this; rw [hsk]; rfl
    · have := hok' k (Nat.le_refl _) hlt hn
      rw [hokk] at this; cases this
    · rw [List.map_append, List.map_append, ← heffs]
      simpa [Sp.isEff] using chk

theorem Pth.len {l : List (Sp × Bool)} (h : Pth P ops n τ₀ D Q opn k τ H rd ef effs fx l) : k ≤ ops.size → k + l.length ≤ ops.size := by
  induction h with
  | nil hk chk hq => intro h; simpa using h
  | @step k τ H rd ef effs fx o r s ho hn hok howe hfx next ih =>
    intro _
    have hlt : k < ops.size := by
      rcases Nat.lt_or_ge k ops.size with h | h
      · exact h
      · simp [Array.getElem?_eq_none h] at ho
    have := ih (by omega); simp; omega
  | @opn k τ H rd ef effs fx o r R fx' ho hn hw hop haft howe hfx rest pan v H' hv next ih =>
    intro _
    have hlt : k < ops.size := by
      rcases Nat.lt_or_ge k ops.size with h | h
      · exact h
      · simp [Array.getElem?_eq_none h] at ho
    have := ih (by omega); simp; omega
  | @pan k τ H rd ef effs fx o R ho hn hw hop haft chk hfx hno howe pan =>
    intro _
    have hlt : k < ops.size := by
      rcases Nat.lt_or_ge k ops.size with h | h
      · exact h
      · simp [Array.getElem?_eq_none h] at ho
    simp; omega

def spAt (l : List (Sp × Bool)) (j : Nat) : Sp := (l.map (fun (x : Sp × Bool) => x.1)).getD j Sp.skip
def okAt (l : List (Sp × Bool)) (j : Nat) : Bool := (l.map (fun (x : Sp × Bool) => x.2)).getD j true
theorem spAt_of {l l' : List (Sp × Bool)} {j : Nat} (h : l[j]? = l'[j]?) : spAt l j = spAt l' j ∧ okAt l j = okAt l' j := by
  simp [spAt, okAt, h]

/-- At an open operation of a way, every outcome leads on. -/
theorem Pth.openAt {l : List (Sp × Bool)} (h : Pth P ops n τ₀ D Q opn k τ H rd ef effs fx l) : ∀ {H₀ : List HObj} {pre : List (Sp × Bool)}, pre.length = k → k ≤ ops.size → τ = τS ops ((pre ++ l).map (fun (x : Sp × Bool) => x.1)) τ₀ k → H = HAt ((pre ++ l).map (fun (x : Sp × Bool) => x.1)) H₀ k →
    ∀ p o, k ≤ p → opn p = true → ops[p]? = some o → (∀ q, opn q = true → Pred ops q p → okAt (pre ++ l) q = true) → ∃ R, Wants ops ⟨0, τS ops ((pre ++ l).map (fun (x : Sp × Bool) => x.1)) τ₀ p, [], []⟩ o ∧ AOpR P o (ev (τS ops ((pre ++ l).map (fun (x : Sp × Bool) => x.1)) τ₀ p)) (HAt ((pre ++ l).map (fun (x : Sp × Bool) => x.1)) H₀ p) R ∧
      (∀ v H', R (.val v) H' → ∃ l', Pth P ops n τ₀ D Q opn k τ H rd ef effs fx l' ∧ (∀ j, j ≠ p → ¬ Pred ops p j → spAt (pre ++ l') j = spAt (pre ++ l) j ∧ (okAt (pre ++ l) j = true → okAt (pre ++ l') j = true)) ∧ okAt (pre ++ l') p = true ∧ spAt (pre ++ l') p = .eff v H') ∧
      (∀ v H', R (.panic v) H' → ∀ τ', (∀ t, (∀ (k : Nat) o, ops[k]? = some o → o.dst ≠ some t) → τ' t = τ₀ t) → Q (.panic v) ⟨n, τ', H', D⟩) := by
  induction h with
  | nil hk chk hq =>
    intro H₀ pre hpre hkl hτ hH p o hp hop ho
    subst hk
    simp [Array.getElem?_eq_none hp] at ho
  | @step k τ H rd ef effs fx o r s ho hn hok howe hfx next ih =>
    intro H₀ pre hpre hkl hτ hH p o' hp hop ho' hpred
    have hlt : k < ops.size := by
      rcases Nat.lt_or_ge k ops.size with h | h
      · exact h
      · simp [Array.getElem?_eq_none h] at ho
    have hcat : ∀ r, pre ++ (s, true) :: r = (pre ++ [(s, true)]) ++ r := by simp
    have hsk : ((pre ++ (s, true) :: r).map (fun (x : Sp × Bool) => x.1)).getD k .skip = s := by
      subst hpre; simp
    have hpk : p ≠ k := fun e => by subst e; rw [hn] at hop; cases hop
    obtain ⟨R, h1, h2, h3, h4⟩ := ih (H₀ := H₀) (pre := pre ++ [(s, true)]) (by simp [hpre]) (by omega) (by rw [← hcat]; simp only [τS, ho, Option.bind_some, hsk, ← hτ]) (by rw [← hcat, HAt_heap, hsk, ← hH]) p o' (by omega) hop ho' (by rw [← hcat]; exact hpred)
    rw [← hcat] at h1 h2 h3
    refine ⟨R, h1, h2, fun v H' hv => ?_, h4⟩
    obtain ⟨l', g1, g2, g3, g4⟩ := h3 v H' hv
    rw [← hcat] at g2 g3 g4
    exact ⟨_, .step s ho hn hok howe hfx g1, g2, g3, g4⟩
  | @opn k τ H rd ef effs fx o r R fx' ho hn hw hop haft howe hfx rest pan v H' hv next ih =>
    intro H₀ pre hpre hkl hτ hH p o' hp hopp ho' hpred
    have hlt : k < ops.size := by
      rcases Nat.lt_or_ge k ops.size with h | h
      · exact h
      · simp [Array.getElem?_eq_none h] at ho
    have hcat : ∀ r, pre ++ (Sp.eff v H', true) :: r = (pre ++ [(Sp.eff v H', true)]) ++ r := by simp
    have hsk : ((pre ++ (Sp.eff v H', true) :: r).map (fun (x : Sp × Bool) => x.1)).getD k .skip = Sp.eff v H' := by
      subst hpre; simp
    by_cases hpk : p = k
    · subst hpk
      rw [ho] at ho'; injection ho' with ho'; subst ho'
      refine ⟨R, by rw [← hτ]; exact hw, by rw [← hτ, ← hH]; exact hop, fun v2 H2 hv2 => ?_, pan⟩
      obtain ⟨l2, hl2⟩ := (rest v2 H2 hv2).path
      refine ⟨_, .opn R fx' ho hn hw hop haft howe hfx rest pan v2 H2 hv2 hl2, fun j hj hnp => ?_, ?_, ?_⟩
      · have key : (pre ++ (Sp.eff v2 H2, true) :: l2)[j]? = (pre ++ (Sp.eff v H', true) :: r)[j]? := by
          rcases Nat.lt_trichotomy j p with h | h | h
          · rw [List.getElem?_append_left (by omega), List.getElem?_append_left (by omega)]
          · exact absurd h hj
          · obtain ⟨d, hd⟩ : ∃ d, j = p + 1 + d := ⟨j - (p + 1), by omega⟩
            rw [List.getElem?_append_right (by omega), List.getElem?_append_right (by omega), hpre, show j - p = d + 1 by omega]
            simp only [List.getElem?_cons_succ]
            rcases Nat.lt_or_ge j ops.size with hjs | hjs
            · rcases allAfter_spec haft h hjs with h' | h'
              · exact absurd h' hnp
              · obtain ⟨⟨j', s'⟩, hm, rfl⟩ := List.mem_map.1 h'
                have a1 := next.fixed j' s' (by simp [hm]) (by omega) hjs
                have a2 := hl2.fixed j' s' (by simp [hm]) (by omega) hjs
                simp only at hd
                rw [show j' - (p + 1) = d by omega] at a1 a2
                rw [a1, a2]
            · have b1 := next.len (by omega)
              have b2 := hl2.len (by omega)
              rw [List.getElem?_eq_none (by omega), List.getElem?_eq_none (by omega)]
        obtain ⟨k1, k2⟩ := spAt_of key
        exact ⟨k1, fun h => by rw [k2]; exact h⟩
      · subst hpre; simp [okAt]
      · subst hpre; simp [spAt]
    · obtain ⟨R', h1, h2, h3, h4⟩ := ih (H₀ := H₀) (pre := pre ++ [(Sp.eff v H', true)]) (by simp [hpre]) (by omega) (by rw [← hcat]; simp only [τS, ho, Option.bind_some, hsk, ← hτ, Sp.val]) (by rw [← hcat, HAt_heap, hsk]; rfl) p o' (by omega) hopp ho' (by rw [← hcat]; exact hpred)
      rw [← hcat] at h1 h2 h3
      refine ⟨R', h1, h2, fun v3 H3 hv3 => ?_, h4⟩
      obtain ⟨l', g1, g2, g3, g4⟩ := h3 v3 H3 hv3
      rw [← hcat] at g2 g3 g4
      exact ⟨_, .opn R fx' ho hn hw hop haft howe hfx rest pan v H' hv g1, g2, g3, g4⟩
  | @pan k τ H rd ef effs fx o R ho hn hw hop haft chk hfx hno howe pan =>
    intro H₀ pre hpre hkl hτ hH p o' hp hopp ho' hpred
    by_cases hpk : p = k
    · subst hpk
      rw [ho] at ho'; injection ho' with ho'; subst ho'
      exact ⟨R, by rw [← hτ]; exact hw, by rw [← hτ, ← hH]; exact hop, fun v2 H2 hv2 => absurd hv2 (hno v2 H2), pan⟩
    · have hps : p < ops.size := by
        rcases Nat.lt_or_ge p ops.size with h | h
        · exact h
        · simp [Array.getElem?_eq_none h] at ho'
      rcases allAfter_spec haft (k := p) (by omega) hps with h | h
      · have := hpred k hn h
        subst hpre
        simp [okAt] at this
      · cases h

/-- A REGION THAT DRAWS ITS ORDER, walked in the order of its text. -/
theorem awp_dr {r : Option Nat} {id : Nat} (opn : Nat → Bool) (hm : P.follows .mixedOrders = true) (h : Dr P ops n τ D Q opn 0 τ H [] [] [] []) : AWp P r (.region id ops true) ⟨n, τ, H, D⟩ Q := by
  have hshow : ∀ l, Pth P ops n τ D Q opn 0 τ H [] [] [] [] l → Shows P ops n τ D Q opn H (l.map (fun (x : Sp × Bool) => x.1)) (l.map (fun (x : Sp × Bool) => x.2)) 0 := by
    intro l hl
    have := hl.shows (H₀ := H) (pre := []) rfl rfl rfl rfl (Nat.zero_le _) (fun i _ _ h => by omega) (fun e h => by omega)
    simpa using this
  refine awp_draw hm (ι := List (Sp × Bool)) (Good := fun l => Pth P ops n τ D Q opn 0 τ H [] [] [] [] l) (Ok := fun l p => okAt l p = true) (Fam := fun l => l.map (fun (x : Sp × Bool) => x.1)) (opn := opn) h.path ?_ ?_ ?_ ?_
  · intro l hl
    have hs := hshow l hl
    obtain ⟨c1, c2, c3, c4, c5⟩ := chkB_spec hs.chk
    refine ⟨c1, fun k o ho hex => hs.run k o (Nat.zero_le _) ho hex.1 hex.2, c2, c3, c4, ?_, ?_⟩
    · intro i k hik hk hi hke
      exact c5 i k hik hk (by rw [getD_isEff]; exact hi) (by rw [getD_isEff]; exact hke)
    · intro i e ob v hi he hri hee
      exact hs.c4 i e ob v hi he (.inl (Nat.zero_le _)) hri hee
  · intro l p hl hp hps hpred
    exact (hshow l hl).eff p (Nat.zero_le _) hps hp hpred
  · intro l p o hl hp ho hpred
    have := hl.openAt (H₀ := H) (pre := []) rfl (Nat.zero_le _) rfl rfl p o (Nat.zero_le _) hp ho (by simpa using hpred)
    simpa [spAt] using this
  · intro l hl hok
    exact (hshow l hl).next fun p _ hps hp => hok p hp hps

section
variable {dst : Option Tmp} {op : Op} {ty : TypeId} {pos : String} {aft : Array Edge} {v : AV} {H' : List HObj}
theorem dr_end (hk : k = ops.size) (chk : chkB ops n effs.reverse = true) (hq : Q .normal ⟨n, τ, H, D⟩) : Dr P ops n τ₀ D Q opn k τ H rd ef effs fx := .nil hk chk hq
theorem dr_free (ho : ops[k]? = some ⟨dst, op, ty, pos, aft, none⟩) (hn : opn k = false) (h : ∀ H, AOp P ⟨dst, op, ty, pos, aft, none⟩ (ev τ) H v H) (hfx : FxAt k (.free v) fx) (next : Dr P ops n τ₀ D Q opn (k + 1) (put τ dst v) H rd ef (false :: effs) fx) : Dr P ops n τ₀ D Q opn k τ H rd ef effs fx :=
  .step (.free v) ho hn ⟨trivial, h⟩ trivial hfx next
theorem dr_read {j : Nat} {ob : HObj} (ho : ops[k]? = some ⟨dst, op, ty, pos, aft, none⟩) (hn : opn k = false) (hj : H[j]? = some ob) (h : ∀ (H : List HObj) (i : Nat), H[i]? = some ob → AOp P ⟨dst, op, ty, pos, aft, none⟩ (ev τ) H v H) (owe : OweE ops k ob ef) (hfx : FxAt k (.read ob v) fx)
    (next : Dr P ops n τ₀ D Q opn (k + 1) (put τ dst v) H ((k, ob) :: rd) ef (false :: effs) fx) : Dr P ops n τ₀ D Q opn k τ H rd ef effs fx :=
  .step (.read ob v) ho hn ⟨trivial, List.mem_of_getElem? hj, fun H hm => let ⟨i, hi⟩ := List.mem_iff_getElem?.1 hm; h H i hi⟩ owe hfx next
theorem dr_eff (ho : ops[k]? = some ⟨dst, op, ty, pos, aft, none⟩) (hn : opn k = false) (h : AOp P ⟨dst, op, ty, pos, aft, none⟩ (ev τ) H v H') (owe : OweR ops k H H' rd) (hfx : FxAt k (.eff v H') fx)
    (next : Dr P ops n τ₀ D Q opn (k + 1) (put τ dst v) H' rd ((k, H, H') :: ef) (true :: effs) fx) : Dr P ops n τ₀ D Q opn k τ H rd ef effs fx :=
  .step (.eff v H') ho hn ⟨trivial, h⟩ owe hfx next
theorem dr_open {R : ARes → List HObj → Prop} (fx' : List (Nat × Sp)) (ho : ops[k]? = some ⟨dst, op, ty, pos, aft, none⟩) (hn : opn k = true) (h : AOpR P ⟨dst, op, ty, pos, aft, none⟩ (ev τ) H R) (haft : allAfter ops k (fx'.map (·.1)) = true) (hne : ∃ v H', R (.val v) H') (hpan : ∀ v H', ¬ R (.panic v) H')
    (next : ∀ v H', R (.val v) H' → OweR ops k H H' rd ∧ FxAt k (.eff v H') fx ∧ Dr P ops n τ₀ D Q opn (k + 1) (put τ dst v) H' rd ((k, H, H') :: ef) (true :: effs) (fx' ++ fx)) : Dr P ops n τ₀ D Q opn k τ H rd ef effs fx :=
  .opn R fx' ho hn trivial h haft hne (fun v H' hv => (next v H' hv).1) (fun v H' hv => (next v H' hv).2.1) (fun v H' hv => (next v H' hv).2.2) (fun v H' hp => absurd hp (hpan v H'))
variable {j d : Nat} {want : Bool}
theorem dr_freeg (ho : ops[k]? = some ⟨dst, op, ty, pos, aft, some (j, want)⟩) (hn : opn k = false) (hj : (ops[j]?).bind (·.dst) = some d) (hb : τ d = .p (.bool want)) (h : ∀ H, AOp P ⟨dst, op, ty, pos, aft, some (j, want)⟩ (ev τ) H v H) (hfx : FxAt k (.free v) fx) (next : Dr P ops n τ₀ D Q opn (k + 1) (put τ dst v) H rd ef (false :: effs) fx) : Dr P ops n τ₀ D Q opn k τ H rd ef effs fx :=
  .step (.free v) ho hn ⟨⟨d, hj, hb⟩, h⟩ trivial hfx next
theorem dr_readg {i : Nat} {ob : HObj} (ho : ops[k]? = some ⟨dst, op, ty, pos, aft, some (j, want)⟩) (hn : opn k = false) (hj : (ops[j]?).bind (·.dst) = some d) (hb : τ d = .p (.bool want)) (hi : H[i]? = some ob) (h : ∀ (H : List HObj) (i : Nat), H[i]? = some ob → AOp P ⟨dst, op, ty, pos, aft, some (j, want)⟩ (ev τ) H v H) (owe : OweE ops k ob ef) (hfx : FxAt k (.read ob v) fx)
    (next : Dr P ops n τ₀ D Q opn (k + 1) (put τ dst v) H ((k, ob) :: rd) ef (false :: effs) fx) : Dr P ops n τ₀ D Q opn k τ H rd ef effs fx :=
  .step (.read ob v) ho hn ⟨⟨d, hj, hb⟩, List.mem_of_getElem? hi, fun H hm => let ⟨i, hi⟩ := List.mem_iff_getElem?.1 hm; h H i hi⟩ owe hfx next
theorem dr_skip {b : Bool} (ho : ops[k]? = some ⟨dst, op, ty, pos, aft, some (j, want)⟩) (hn : opn k = false) (hj : (ops[j]?).bind (·.dst) = some d) (hb : τ d = .p (.bool b)) (hne : (b == want) = false) (hfx : FxAt k .skip fx) (next : Dr P ops n τ₀ D Q opn (k + 1) (put τ dst (.tup [])) H rd ef (false :: effs) fx) : Dr P ops n τ₀ D Q opn k τ H rd ef effs fx :=
  .step .skip ho hn ⟨j, want, d, rfl, hj, .inl ⟨b, hb, hne⟩⟩ trivial hfx next
theorem dr_case (d : Nat) {b : Bool} (hb : τ d = .p (.bool b)) (ht : b = true → Dr P ops n τ₀ D Q opn k (put τ (some d) (.p (.bool true))) H rd ef effs fx) (hf : b = false → Dr P ops n τ₀ D Q opn k (put τ (some d) (.p (.bool false))) H rd ef effs fx) : Dr P ops n τ₀ D Q opn k τ H rd ef effs fx := by
  have e : ∀ b', b = b' → put τ (some d) (.p (.bool b')) = τ := by
    intro b' hb'
    funext t
    simp only [put]
    by_cases ht : t = d
    · subst ht; rw [Nat.beq_refl, ← hb', hb]; rfl
    · rw [beq_ne ht]; rfl
  cases b with
  | true => have := ht rfl; rwa [e true rfl] at this
  | false => have := hf rfl; rwa [e false rfl] at this
end
end
end Go.Abs
/- The abstract program logic: steps of the proof alone (what is owned becomes pure), slices that are written, append. -/
namespace Go.Abs
set_option linter.unusedVariables false
set_option linter.unusedSimpArgs false

/-- A step of the proof alone: the same memory, read in another way. -/
def Ghost (S S' : AState) : Prop := ∀ F a w, SRel F S a w → ∃ F', SRel F' S' a w ∧ Trans F S.H w F' S'.H w

theorem awp_ghost {P : Program} {r : Option Nat} {c : Code} {S S' : AState} {Q : AExit → AState → Prop} (g : Ghost S S') (h : AWp P r c S' Q) : AWp P r c S Q := by
  intro F a w hs
  obtain ⟨F', hs', ht⟩ := g F a w hs
  exact wpIn_mono (h F' a w hs') fun _ _ _ => post_trans hs.heap.bd ht

theorem al_ghost {P : Program} {r : Option Nat} {ops : Array Oper} {k : Nat} {S S' : AState} {Q : AExit → AState → Prop} (g : Ghost S S') (h : AL P r ops k S' Q) : AL P r ops k S Q := by
  intro F a w hs
  obtain ⟨F', hs', ht⟩ := g F a w hs
  exact wpOps_mono (fun _ _ _ => post_trans hs.heap.bd ht) _ _ _ (h F' a w hs')

section
variable {n : Nat} {τ : Nat → AV} {H : List HObj} {D : List ADef}

/-- A slot is read in another way. -/
theorem ghost_slot {t : Nat} {x : AV} (h : ∀ F w v, Rep F w (τ t) v → Rep F w x v) : Ghost ⟨n, τ, H, D⟩ ⟨n, put τ (some t) x, H, D⟩ := by
  intro F a w hs
  refine ⟨F, ⟨hs.size, ?_, hs.heap, hs.defs⟩, .refl⟩
  intro t'
  by_cases e : t' = t
  · subst e
    have := hs.tmp t'
    simp only [put, Nat.beq_refl, cond_true]
    exact h F w _ this
  · simp only [put, beq_ne e, cond_false]
    exact hs.tmp t'

/-- A nil slice in a slot is owned: what is appended to it is nobody else's. -/
theorem ghost_own {t sz : Nat} (h : τ t = .p .nils) : Ghost ⟨n, τ, H, D⟩ ⟨n, put τ (some t) (.vs none 0 0), .vec none sz [] 0 :: H, D⟩ := by
  intro F a w hs
  have hH : HRel F (.vec none sz [] 0 :: H) w := ⟨fun o ho b hb => by
      rcases List.mem_cons.1 ho with rfl | ho
      · cases hb
      · exact hs.heap.sub o ho b hb, by simpa [List.filterMap_cons, HObj.key] using hs.heap.nodup, fun o ho => by
      rcases List.mem_cons.1 ho with rfl | ho
      · exact ⟨rfl, rfl⟩
      · exact hs.heap.obj o ho, hs.heap.bd⟩
  refine ⟨F, ⟨hs.size, ?_, hH, hs.defs⟩, ?_⟩
  · intro t'
    by_cases e : t' = t
    · subst e
      have := hs.tmp t'
      simp only [h, Rep, PRep] at this
      simp only [put, Nat.beq_refl, cond_true, Rep]
      exact ⟨trivial, trivial, none, this⟩
    · simp only [put, beq_ne e, cond_false]
      exact hs.tmp t'
  · exact ⟨Nat.le_refl _, fun _ _ _ => rfl, fun _ h _ => h, fun _ h => .inl h, fun o ho b hb => by
      rcases List.mem_cons.1 ho with rfl | ho
      · cases hb
      · exact .inl ⟨o, ho, hb⟩, rfl, rfl, rfl⟩

/-- What is owned no more reads as pure data. -/
theorem rep_freeze {F : Nat → Prop} {w : World} {o : Option Nat} {sz c : Nat} {rows : List (List PV)} {v : Value} (hbd : ∀ b, o = some b → b < w.heap.size) (ho : ORep F w (.vec o sz rows c)) (hv : Rep F w (.vs o rows.length c) v) (F' : Nat → Prop) (st : Stable F w F' w) (hF' : ∀ b, o = some b → ¬ F' b) :
    Rep F' w (.p (.lst rows)) v := by
  cases o with
  | none =>
    simp only [Rep] at hv
    obtain ⟨_, _, a, rfl⟩ := hv
    obtain ⟨rfl, _⟩ := ho
    simp only [Rep, PRep]
    exact .inl ⟨trivial, a, 0, rfl⟩
  | some b =>
    simp only [Rep] at hv
    obtain ⟨vs, T, hb, h1, h2, h3⟩ := ho
    simp only [Rep, PRep]
    exact .inr ⟨b, 0, c, sz, hv, hF' b rfl, hbd b rfl, h2, RowsRep.mono st b sz rfl 0 rows h3⟩

def pureAt (ts : List Nat) (x : AV) (τ : Nat → AV) : Nat → AV := fun t => bif ts.any (Nat.beq t ·) then x else τ t

/-- A slice that was written becomes pure data: in the slots 'ts'. -/
theorem ghost_freeze {i sz c : Nat} {o : Option Nat} {rows : List (List PV)} (ts : List Nat) (hi : H[i]? = some (.vec o sz rows c)) (ht : ∀ t ∈ ts, τ t = .vs o rows.length c) :
    Ghost ⟨n, τ, H, D⟩ ⟨n, pureAt ts (.p (.lst rows)) τ, H.eraseIdx i, D⟩ := by
  intro F a w hs
  have hmem := List.mem_of_getElem? hi
  have hbd : ∀ b, o = some b → b < w.heap.size := fun b hb => hs.heap.bd b (hs.heap.sub _ hmem b (by rw [← hb]; rfl))
  have st : Stable F w (fun b => F b ∧ o ≠ some b) w := ⟨Nat.le_refl _, fun _ _ _ => rfl, fun _ h _ h' => h h'.1⟩
  have hne : ∀ x ∈ H.eraseIdx i, ∀ b, x.key = some b → o ≠ some b := by
    intro x hx b hb hob
    obtain ⟨j, hj⟩ := List.mem_iff_getElem?.1 hx
    rw [List.getElem?_eraseIdx] at hj
    split at hj
    · rename_i hlt
      have := nodup_key hs.heap.nodup hj hi hb (by rw [← hob]; rfl)
      omega
    · rename_i hge
      have := nodup_key hs.heap.nodup hj hi hb (by rw [← hob]; rfl)
      omega
  have hsub : (H.eraseIdx i).Sublist H := List.eraseIdx_sublist H i
  refine ⟨fun b => F b ∧ o ≠ some b, ⟨hs.size, ?_, ?_, DRep.mono st _ _ hs.defs⟩, ?_⟩
  · intro t
    simp only [pureAt]
    cases hq : ts.any (Nat.beq t ·) with
    | false => exact Rep.mono st _ _ (hs.tmp t)
    | true =>
      obtain ⟨t', ht', he⟩ := List.any_eq_true.1 hq
      have e := Nat.eq_of_beq_eq_true he
      subst e
      have hv := hs.tmp t
      simp only [ht t ht'] at hv
      exact rep_freeze hbd (hs.heap.obj _ hmem) hv _ st (fun b hb h => h.2 hb)
  · have := hs.heap.sublist hsub
    exact ⟨fun x hx b hb => ⟨this.sub x hx b hb, hne x hx b hb⟩, this.nodup, fun x hx => ORep.mono st x (fun _ _ => rfl) (this.obj x hx), fun b hb => this.bd b hb.1⟩
  · exact ⟨Nat.le_refl _, fun _ _ _ => rfl, fun b hb hn => ⟨hb, fun e => hn _ hmem (by rw [← e]; rfl)⟩, fun b hb => .inl hb.1, fun x hx b hb => .inl ⟨x, hsub.subset hx, hb⟩, rfl, rfl, rfl⟩

/-- The same, where the slice lies in a cell of a tracked box (and in the slots 'ts'). -/
theorem ghost_freeze_cell {i j q sz c b : Nat} {o : Option Nat} {rows : List (List PV)} {cs : List AV} (ts : List Nat) (hj : H[j]? = some (.box b cs)) (hq : cs[q]? = some (.vs o rows.length c)) (hi : H[i]? = some (.vec o sz rows c)) (ht : ∀ t ∈ ts, τ t = .vs o rows.length c) :
    Ghost ⟨n, τ, H, D⟩ ⟨n, pureAt ts (.p (.lst rows)) τ, (H.set j (.box b (cs.set q (.p (.lst rows))))).eraseIdx i, D⟩ := by
  intro F a w hs
  have hij : j ≠ i := fun e => by subst e; rw [hj] at hi; cases hi
  have hmem := List.mem_of_getElem? hi
  have hmemj := List.mem_of_getElem? hj
  have hbd : ∀ b, o = some b → b < w.heap.size := fun b hb => hs.heap.bd b (hs.heap.sub _ hmem b (by rw [← hb]; rfl))
  have st : Stable F w (fun b => F b ∧ o ≠ some b) w := ⟨Nat.le_refl _, fun _ _ _ => rfl, fun _ h _ h' => h h'.1⟩
  have hi' : (H.set j (.box b (cs.set q (.p (.lst rows)))))[i]? = some (.vec o sz rows c) := by rw [List.getElem?_set_ne hij]; exact hi
  have hkeys : (H.set j (.box b (cs.set q (.p (.lst rows))))).filterMap HObj.key = H.filterMap HObj.key := filterMap_set_key hj rfl
  have hsub : ((H.set j (.box b (cs.set q (.p (.lst rows))))).eraseIdx i).Sublist (H.set j (.box b (cs.set q (.p (.lst rows))))) := List.eraseIdx_sublist _ i
  have hkmem : ∀ x ∈ H.set j (.box b (cs.set q (.p (.lst rows)))), ∀ k, x.key = some k → ∃ y ∈ H, y.key = some k := by
    intro x hx k hk
    rcases mem_set_cases hx with rfl | ⟨j', _, hj'⟩
    · exact ⟨_, hmemj, hk⟩
    · exact ⟨x, List.mem_of_getElem? hj', hk⟩
  have hne : ∀ x ∈ (H.set j (.box b (cs.set q (.p (.lst rows))))).eraseIdx i, ∀ b, x.key = some b → o ≠ some b := by
    intro x hx b' hb hob
    obtain ⟨k, hk⟩ := List.mem_iff_getElem?.1 hx
    have hnd : ((H.set j (.box b (cs.set q (.p (.lst rows))))).filterMap HObj.key).Nodup := by rw [hkeys]; exact hs.heap.nodup
    rw [List.getElem?_eraseIdx] at hk
    split at hk
    · have := nodup_key hnd hk hi' hb (by rw [← hob]; rfl)
      omega
    · have := nodup_key hnd hk hi' hb (by rw [← hob]; rfl)
      omega
  refine ⟨fun b => F b ∧ o ≠ some b, ⟨hs.size, ?_, ?_, DRep.mono st _ _ hs.defs⟩, ?_⟩
  · intro t
    simp only [pureAt]
    cases hq : ts.any (Nat.beq t ·) with
    | false => exact Rep.mono st _ _ (hs.tmp t)
    | true =>
      obtain ⟨t', ht', he⟩ := List.any_eq_true.1 hq
      have e := Nat.eq_of_beq_eq_true he
      subst e
      have hv := hs.tmp t
      simp only [ht t ht'] at hv
      exact rep_freeze hbd (hs.heap.obj _ hmem) hv _ st (fun b hb h => h.2 hb)
  · refine ⟨fun x hx b' hb => ?_, ?_, fun x hx => ?_, fun b' hb => hs.heap.bd b' hb.1⟩
    · obtain ⟨y, hy, hk⟩ := hkmem x (hsub.subset hx) b' hb
      exact ⟨hs.heap.sub y hy b' hk, hne x hx b' hb⟩
    · refine (hsub.filterMap HObj.key).nodup ?_
      rw [hkeys]; exact hs.heap.nodup
    · rcases mem_set_cases (hsub.subset hx) with rfl | ⟨j', _, hj'⟩
      · obtain ⟨vs, T, hb, hl⟩ := hs.heap.obj _ hmemj
        obtain ⟨v, hv, hr⟩ := hl.get hq
        have hvs : vs.set q v = vs := by
          apply List.ext_getElem?
          intro k
          rw [List.getElem?_set]
          split
          · rename_i e; subst e; split
            · exact hv.symm
            · rename_i hge; rw [List.getElem?_eq_none (by omega)] at hv; cases hv
          · rfl
        refine ⟨vs, T, hb, ?_⟩
        have := (RepL.mono st _ _ hl).set (i := q) (rep_freeze hbd (hs.heap.obj _ hmem) hr _ st (fun b hb h => h.2 hb))
        rwa [hvs] at this
      · exact ORep.mono st x (fun _ _ => rfl) (hs.heap.obj x (List.mem_of_getElem? hj'))
  · refine ⟨Nat.le_refl _, fun _ _ _ => rfl, fun b' hb hn => ⟨hb, fun e => hn _ hmem (by rw [← e]; rfl)⟩, fun b' hb => .inl hb.1, fun x hx b' hb => .inl (hkmem x (hsub.subset hx) b' hb), rfl, rfl, rfl⟩
end

/-  A slice that is made and written -/
section
variable {P : Program} {dst : Option Tmp} {ty : TypeId} {pos : String} {aft : Array Edge} {g : Option (Nat × Bool)} {ρ : Operand → AV} {H : List HObj} {x y z : Operand} {v : AV}

def newVec (sz : Nat) (rows : List (List PV)) (H : List HObj) : ARes → List HObj → Prop
  | .val v, H' => ∃ b c, v = .vs (some b) rows.length c ∧ H' = .vec (some b) sz rows c :: H
  | .panic _, _ => False

theorem vec_turn {F : Nat → Prop} {w : World} {sz c : Nat} {rows : List (List PV)} {vs : List Value} {T : TypeId} (hH : HRel F H w) (hr : ∀ r ∈ rows, r.length = sz) (hl : RepL F w (rows.flatten.map .p) (vs.take rows.flatten.length)) (hc : c * sz ≤ vs.length) (hcl : rows.length ≤ c) :
    ∃ v H' F', newVec sz rows H (.val v) H' ∧ Trans F H w F' H' (World.push w (.cells ⟨vs⟩ T (0, 0))) ∧ HRel F' H' (World.push w (.cells ⟨vs⟩ T (0, 0))) ∧ Rep F' (World.push w (.cells ⟨vs⟩ T (0, 0))) v (.slice (some ⟨w.heap.size, 0, none⟩) rows.length c) := by
  refine ⟨.vs (some w.heap.size) rows.length c, _, _, ⟨w.heap.size, c, rfl, rfl⟩, push_trans H (.vec (some w.heap.size) sz rows c) _ (.inl rfl), ?_, by simp [Rep]⟩
  refine push_HRel hH (.vec (some w.heap.size) sz rows c) _ rfl ?_
  refine ⟨⟨vs⟩, T, push_new _, by simpa using hc, hcl, ?_⟩
  refine rowsRep_of (vs := vs.take rows.flatten.length) hr ?_ (RepL.mono (push_stable _ fun b h => h) _ _ hl)
  have := rangeAt_box (push_new (w := w) (.cells ⟨vs⟩ T (0, 0))) 0 rows.flatten.length
  simpa using this

/-- make([]T, n). -/
theorem aop_makeSlice {T e : TypeId} {sz bytes : Nat} {m : Int} {zs : List Value} {zv : Value} {zr : List PV} (hT : elOf P T = some (e, sz, bytes)) (hz : zeroOf P e = some zv) (hzs : zv.cells = ⟨zs⟩) (hsz : zs.length = sz) (hpos : 0 < sz) (hp : pures ((zs.map ofVal).map dn) = some zr)
    (hx : ρ x = .p (.int .i64 m)) (hy : ρ y = .p (.int .i64 m)) (h0 : 0 ≤ m) (hm : bytes * m ≤ 281474976710656) (hm2 : m ≤ 9223372036854775807) :
    AOpR P ⟨dst, .makeSlice T x y, ty, pos, aft, g⟩ ρ H (newVec sz (List.replicate m.toNat zr) H) :=
  aop_turn fun F w E hH hE => by
    obtain ⟨hu, i, hi, hs, hby⟩ := elOf_spec hT
    have h1 := hE x (by simp [Op.operands])
    have h2 := hE y (by simp [Op.operands])
    rw [hx] at h1
    rw [hy] at h2
    simp only [Rep, PRep] at h1 h2
    unfold zeroOf at hz
    have hz' : ∃ j, P.info? e = some j ∧ j.zero = some zv := by
      cases hq : P.info? e with
      | none => simp [hq] at hz
      | some j => exact ⟨j, rfl, by simpa [hq] using hz⟩
    obtain ⟨j, hj, hz'⟩ := hz'
    have hzv : (zeroValue e).run P w = .ok zv w := by simp [zeroValue, typeInfo, hj, hz', Sem.run_bind]
    have hzr := pures_spec hp
    have hzl : zr.length = sz := by
      have := congrArg List.length hzr
      simp at this
      omega
    have hflat : (List.replicate m.toNat zr).flatten.length = m.toNat * sz := by simp [hzl]
    have hl : RepL F w ((List.replicate m.toNat zr).flatten.map .p) ((List.replicate m.toNat zs).flatten) := by
      have := repL_replicate (F := F) (w := w) (repL_nils (repL_ofVal zs)) m.toNat
      rw [hzr] at this
      have e : (List.replicate m.toNat (zr.map AV.p)).flatten = (List.replicate m.toNat zr).flatten.map .p := by
        rw [List.map_flatten, List.map_replicate]
      rwa [e] at this
    have hlen : ((List.replicate m.toNat zs).flatten).length = m.toNat * sz := by simp [hsz]
    obtain ⟨v, H', F', h⟩ := vec_turn (T := e) (c := m.toNat) (vs := (List.replicate m.toNat zs).flatten) hH (sz := sz) (rows := List.replicate m.toNat zr) (by intro r hr; rw [(List.mem_replicate.1 hr).2]; exact hzl)
      (by rw [hflat, ← hlen, List.take_length]; exact hl) (by rw [hlen]; exact Nat.le_refl _) (by simp)
    refine ⟨_, _, v, H', F', ?_, h⟩
    have hw : IntKind.i64.wrap m = m := wrap_in (by simp [IntKind.min, IntKind.signed, IntKind.bits]; omega) (by simp [IntKind.max, IntKind.signed, IntKind.bits]; omega)
    have hti : (typeInfo e).run P w = .ok i w := by simp [typeInfo, hi]
    have hszr : (sizeOf e).run P w = .ok sz w := by simp [sizeOf, typeInfo, hi, hs]
    have hask : ∀ b : Nat, (askRoom b).run P w = .ok () w := by intro b; unfold askRoom; split <;> rfl
    have hrm := range_mod_zero zs m.toNat
    rw [hsz] at hrm
    have harr : ((Array.range (m.toNat * sz)).map fun i => zv.cells[i % zv.cells.size]!) = ⟨(List.replicate m.toNat zs).flatten⟩ := by
      rw [hzs]
      apply Array.ext'
      exact hrm
    have hcond : (decide (m < 0) || decide ((bytes : Int) * m > 2 ^ 48)) = false := by
      simp only [Bool.or_eq_false_iff, decide_eq_false_iff_not]
      constructor
      · omega
      · simp only [Int.not_lt]; exact hm
    simp only [execOp, Instr.makeSlice, Sem.run_bind, run_underlying hu, Result.andThen_ok, h1, h2, asInt, asIntOf, Sem.run_pure, hti, hby, hw]
    rw [if_neg (by simp [hcond]; omega)]
    simp only [Sem.run_bind, hask, hszr, Result.andThen_ok, pure_bind, Sem.run_pure]
    by_cases h00 : m.toNat * sz = 0
    · have hm0 : m.toNat = 0 := by
        rcases Nat.mul_eq_zero.1 h00 with h | h
        · exact h
        · omega
      rw [if_pos h00]
      have e0 : ((Array.range (m.toNat * sz)).map fun i => (#[] : Array Value)[i % (#[] : Array Value).size]!) = (⟨(List.replicate m.toNat zs).flatten⟩ : Array Value) := by
        rw [h00, hm0]; simp
      simp only [Sem.run_bind, e0, newRow, newObj, Sem.run, Result.andThen, Sem.run_pure, List.length_replicate]
      rfl
    · rw [if_neg h00]
      simp only [Sem.run_bind, hzv, Result.andThen_ok, harr, newRow, newObj, Sem.run, Result.andThen, Sem.run_pure, List.length_replicate]
      rfl

/-- An element's address, in a slice that is owned. -/
theorem aop_index_vs {T e : TypeId} {sz bytes n c b : Nat} {k : IntKind} {i : Int} (hT : elOf P T = some (e, sz, bytes)) (hx : ρ x = .vs (some b) n c) (hy : ρ y = .p (.int k i)) (h0 : 0 ≤ i) (hn : i < n) :
    AOp P ⟨dst, .indexAddr T x y, ty, pos, aft, g⟩ ρ H (.ptr b (i.toNat * sz)) H :=
  aop_pure fun F w E hH hE => by
    obtain ⟨hu, j, hj, hs1, _⟩ := elOf_spec hT
    have h1 := hE x (by simp [Op.operands])
    have h2 := hE y (by simp [Op.operands])
    rw [hx] at h1
    rw [hy] at h2
    simp only [Rep, PRep] at h1 h2
    refine ⟨.pointer (some ⟨b, 0 + i.toNat * sz, none⟩), ?_, by simp [Rep]⟩
    simp [execOp, Instr.indexAt, Sem.run_bind, run_underlying hu, h1, h2, asIntOf, h0, hn, sizeOf, typeInfo, hj, hs1, Addr.add_mid]

/-- An element of a slice that is owned: a struct. -/
theorem aop_load_vec {T : TypeId} {b i j sz c : Nat} {rows : List (List PV)} {r : List PV} (hT : tyOf P T = some (true, sz)) (hx : ρ x = .ptr b (j * sz)) (hi : H[i]? = some (.vec (some b) sz rows c)) (hr : rows[j]? = some r) :
    AOp P ⟨dst, .load T x, ty, pos, aft, g⟩ ρ H (.agg (r.map .p)) H :=
  aop_pure fun F w E hH hE => by
    obtain ⟨d, hu, hd, hz⟩ := tyOf_spec hT
    have h1 := hE x (by simp [Op.operands])
    rw [hx] at h1
    simp only [Rep] at h1
    obtain ⟨vs, T', hb, _, _, hrows⟩ := hH.obj _ (List.mem_of_getElem? hi)
    obtain ⟨hc, hl⟩ := hrows.at hr
    obtain ⟨us, u1, u2, u3⟩ := hc.vals
    rw [Nat.zero_add] at u1
    refine ⟨.agg ⟨us⟩, ?_, by simp only [Rep]; exact ⟨us, rfl, u3⟩⟩
    simp only [execOp, Instr.loadAt, h1, Instr.sureAddr, Sem.run_bind, Sem.run_pure, Result.andThen_ok, run_loadVar_agg hu hd u1 (by rw [hz, u2, hl])]

/-- An element of a slice that is owned: one cell. -/
theorem aop_load_vec1 {T : TypeId} {b i j c m : Nat} {rows : List (List PV)} {q : PV} (hT : tyOf P T = some (false, m)) (hx : ρ x = .ptr b (j * 1)) (hi : H[i]? = some (.vec (some b) 1 rows c)) (hr : rows[j]? = some [q]) :
    AOp P ⟨dst, .load T x, ty, pos, aft, g⟩ ρ H (.p q) H :=
  aop_pure fun F w E hH hE => by
    obtain ⟨d, hu, hd, hz⟩ := tyOf_spec hT
    have h1 := hE x (by simp [Op.operands])
    rw [hx] at h1
    simp only [Rep] at h1
    obtain ⟨vs, T', hb, _, _, hrows⟩ := hH.obj _ (List.mem_of_getElem? hi)
    obtain ⟨hc, hl⟩ := hrows.at hr
    simp only [CellsRep, Nat.zero_add] at hc
    obtain ⟨⟨u, hcell, hp⟩, _⟩ := hc
    refine ⟨u, ?_, by simpa only [Rep] using hp⟩
    simp only [execOp, Instr.loadAt, h1, Instr.sureAddr, Sem.run_bind, Sem.run_pure, Result.andThen_ok, run_loadVar_one hu hd hcell]

theorem cells_splice {F : Nat → Prop} {w w' : World} {b o : Nat} {us : List Value} {T : TypeId} {vs : List Value} (hb : w.heap[b]? = some (.cells ⟨vs⟩ T (0, 0))) (hb' : w'.heap[b]? = some (.cells ⟨splice vs o us⟩ T (0, 0))) (st : Stable F w F w') :
    ∀ {cs : List PV} {p : Nat}, (p + cs.length ≤ o ∨ o + us.length ≤ p) → CellsRep F w b p cs → CellsRep F w' b p cs := by
  have hget : ∀ (us vs : List Value) (o q : Nat), (q < o ∨ o + us.length ≤ q) → (splice vs o us)[q]? = vs[q]? := by
    intro us
    induction us with
    | nil => intro vs o q _; rfl
    | cons u us ih =>
      intro vs o q h
      simp only [splice]
      rw [ih _ _ _ (by simp at h ⊢; omega), List.getElem?_set_ne (by simp at h; omega)]
  intro cs
  induction cs with
  | nil => intro p _ _; simp [CellsRep]
  | cons c cs ih =>
    intro p h hc
    simp only [CellsRep] at hc ⊢
    obtain ⟨⟨v, hv, hp⟩, hr⟩ := hc
    refine ⟨⟨v, ?_, PRep.mono st _ _ hp⟩, ih (by simp at h; omega) hr⟩
    have hq := hget us vs o p (by simp at h; omega)
    simp [World.cell?, hb] at hv
    simp [World.cell?, hb', hq, hv]

theorem rows_splice {F : Nat → Prop} {w w' : World} {b o sz : Nat} {us : List Value} {T : TypeId} {vs : List Value} (hb : w.heap[b]? = some (.cells ⟨vs⟩ T (0, 0))) (hb' : w'.heap[b]? = some (.cells ⟨splice vs o us⟩ T (0, 0))) (st : Stable F w F w') (hus : us.length = sz) {r : List PV} (hr : CellsRep F w' b o r) (hrl : r.length = sz) :
    ∀ {rows : List (List PV)} {p j : Nat}, o = p + j * sz → RowsRep F w b sz p rows → RowsRep F w' b sz p (rows.set j r) := by
  intro rows
  induction rows with
  | nil => intro p j _ _; simp [RowsRep]
  | cons r' rows ih =>
    intro p j ho h
    simp only [RowsRep] at h
    cases j with
    | zero =>
      simp only [List.set_cons_zero, RowsRep]
      have : o = p := by omega
      subst this
      refine ⟨hrl, hr, ?_⟩
      have : ∀ {rows : List (List PV)} {q : Nat}, o + sz ≤ q → RowsRep F w b sz q rows → RowsRep F w' b sz q rows := by
        intro rows
        induction rows with
        | nil => intro q _ _; simp [RowsRep]
        | cons a rows ih2 =>
          intro q hq ha
          simp only [RowsRep] at ha ⊢
          exact ⟨ha.1, cells_splice hb hb' st (.inr (by omega)) ha.2.1, ih2 (by omega) ha.2.2⟩
      exact this (by omega) h.2.2
    | succ j =>
      simp only [List.set_cons_succ, RowsRep]
      rw [Nat.succ_mul] at ho
      exact ⟨h.1, cells_splice hb hb' st (.inl (by rw [h.1]; omega)) h.2.1, ih (by omega) h.2.2⟩

theorem splice_get {α : Type} : ∀ (us vs : List α) (o q : Nat) (u : α), us[q]? = some u → o + us.length ≤ vs.length → (splice vs o us)[o + q]? = some u
  | [], vs, o, q, u, h, _ => by simp at h
  | a :: us, vs, o, q, u, h, hl => by
    simp only [splice]
    cases q with
    | zero =>
      simp at h; subst h
      have hget : ∀ (us vs : List α) (o q : Nat), q < o → (splice vs o us)[q]? = vs[q]? := by
        intro us
        induction us with
        | nil => intro vs o q _; rfl
        | cons u us ih => intro vs o q h; simp only [splice]; rw [ih _ _ _ (by omega), List.getElem?_set_ne (by omega)]
      rw [hget _ _ _ _ (by omega)]
      show (vs.set o a)[o]? = some a
      rw [List.getElem?_set_self (by simp at hl; omega)]
    | succ q =>
      simp at h
      have := splice_get us (vs.set o a) (o + 1) q u h (by simp at hl ⊢; omega)
      rwa [Nat.add_assoc, Nat.add_comm 1 q] at this

/-- An element of a slice that is owned is written. -/
theorem aop_store_vec {T : TypeId} {bl : Bool} {b i j sz c : Nat} {rows : List (List PV)} {us : List AV} {r : List PV} (hT : tyOf P T = some (bl, sz)) (hpos : Nat.blt 0 sz = true) (hx : ρ x = .ptr b (j * sz)) (hi : H[i]? = some (.vec (some b) sz rows c)) (hj : j < rows.length) (hy : cellsA (ρ y) = some us) (hp : pures (us.map dn) = some r) (hrl : r.length = sz) (h1 : us.all one = true) :
    AOp P ⟨dst, .store T x y, ty, pos, aft, g⟩ ρ H (.p .any) (H.set i (.vec (some b) sz (rows.set j r) c)) :=
  aop_turn_skip fun F w E hH hE => by
    have hpos' : 0 < sz := by simpa [Nat.blt_eq] using hpos
    have e1 := hE x (by simp [Op.operands])
    have e2 := hE y (by simp [Op.operands])
    rw [hx] at e1
    simp only [Rep] at e1
    obtain ⟨vs, T', hb, hcs, hcl, hrows⟩ := hH.obj _ (List.mem_of_getElem? hi)
    obtain ⟨vs⟩ := vs
    obtain ⟨ws, hc, hl'⟩ := rep_cells e2 hy
    have hul : us.length = sz := by
      have := congrArg List.length (pures_spec hp)
      simp at this; omega
    have hlen := hl'.length
    have hw : Wrote b (.cells ⟨splice vs (j * sz) ws⟩ T' (0, 0)) w (w.setCells b (j * sz) ws) := setCells_wrote ws hb (by intro e; rw [e] at hlen; simp at hlen; omega)
    have hlt : b < w.heap.size := (Array.getElem?_eq_some_iff.1 hb).1
    have hF : F b := hH.sub _ (List.mem_of_getElem? hi) b rfl
    have hcs' : c * sz ≤ vs.length := by simpa using hcs
    have hfit : j * sz + sz ≤ vs.length := by
      have : (j + 1) * sz ≤ c * sz := Nat.mul_le_mul_right sz (by omega)
      rw [Nat.succ_mul] at this
      omega
    refine ⟨w.setCells b (j * sz) ws, _, F, ?_, ⟨rfl, rfl⟩, hw.trans hi rfl rfl, hw.HRel hH hi rfl rfl ?_⟩
    · have hst := run_storeVar_of (T := T) (v := E y) (o := j * sz) hT hb hc (by omega) hfit (repL_one hl' h1)
      simp only [execOp, Instr.storeAt, e1, Instr.sureAddr, Sem.run_bind, Sem.run_pure, Result.andThen_ok, hst]
    · have hb' := hw.self hlt
      have st := hw.stable hF
      refine ⟨⟨splice vs (j * sz) ws⟩, T', hb', by simp only [splice_length, List.size_toArray]; exact hcs', by simpa using hcl, ?_⟩
      refine rows_splice hb hb' st (by omega) (r := r) ?_ hrl (by simp) hrows
      have hln := repL_nils (RepL.mono st _ _ hl')
      rw [pures_spec hp] at hln
      refine cellsRep_of (vs := ws) ?_ hln
      intro q u hq
      have := splice_get ws vs (j * sz) q u hq (by omega)
      simp [World.cell?, hb', this]
end
end Go.Abs
