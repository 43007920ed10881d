/- Part of the proofs about metavariables: an abstract program logic, plain models and contracts of functions. -/
import Derived.Test.YtgfecpjmbgcobaaGreatPg
/- Trees with a property of every node; where the reference's count is not over. -/
namespace Go.Eu
open Go.Abs
set_option linter.unusedVariables false
set_option linter.unusedSimpArgs false
mutual
/-- Every node has the property. -/
def TP (p : Int → Int → ByteArray → List Lvl → Prop) : Tm → Prop
  | .mk k i n l ks => p k i n l ∧ TPs p ks
def TPs (p : Int → Int → ByteArray → List Lvl → Prop) : List Tm → Prop
  | [] => True
  | t :: ts => TP p t ∧ TPs p ts
end
section
variable {p q : Int → Int → ByteArray → List Lvl → Prop}
theorem TPs_append : ∀ {a b : List Tm}, TPs p (a ++ b) ↔ TPs p a ∧ TPs p b
  | [], b => by simp [TPs]
  | x :: a, b => by simp only [List.cons_append, TPs, TPs_append (a := a), and_assoc]
theorem TPs_get {ts : List Tm} {t : Tm} (h : TPs p ts) (hm : t ∈ ts) : TP p t := by
  induction ts with
  | nil => simp at hm
  | cons a ts ih =>
    rcases List.mem_cons.1 hm with rfl | hm
    · exact h.1
    · exact ih h.2 hm
mutual
theorem TP.imp (h : ∀ k i n l, p k i n l → q k i n l) : ∀ (t : Tm), TP p t → TP q t
  | .mk k i n l ks, ht => ⟨h _ _ _ _ ht.1, TPs.imp h ks ht.2⟩
theorem TPs.imp (h : ∀ k i n l, p k i n l → q k i n l) : ∀ (ts : List Tm), TPs p ts → TPs q ts
  | [], _ => trivial
  | t :: ts, ht => ⟨TP.imp h t ht.1, TPs.imp h ts ht.2⟩
end
theorem TP_spine : ∀ (t : Tm), TP p t → TP p (spine t).1 ∧ TPs p (spine t).2
  | .mk k i n l [f, a], h => by
    unfold spine
    split
    · obtain ⟨h1, h2⟩ := TP_spine f h.2.1
      exact ⟨h1, TPs_append.2 ⟨h2, h.2.2.1, trivial⟩⟩
    · exact ⟨h, trivial⟩
  | .mk k i n l [], h => by unfold spine; exact ⟨h, trivial⟩
  | .mk k i n l [a], h => by unfold spine; exact ⟨h, trivial⟩
  | .mk k i n l (a :: b :: c :: r), h => by unfold spine; exact ⟨h, trivial⟩
theorem TP_unspine (h4 : ∀ i n l, p 4 i n l) : ∀ (t : Tm), TP p (spine t).1 → TPs p (spine t).2 → TP p t
  | .mk k i n l [f, a], h1, h2 => by
    unfold spine at h1 h2
    split at h1
    · rename_i hk
      rw [if_pos hk] at h2
      have h3 := TPs_append.1 h2
      exact ⟨hk ▸ h4 _ _ _, TP_unspine h4 f h1 h3.1, h3.2.1, trivial⟩
    · exact h1
  | .mk k i n l [], h1, h2 => by unfold spine at h1; exact h1
  | .mk k i n l [a], h1, h2 => by unfold spine at h1; exact h1
  | .mk k i n l (a :: b :: c :: r), h1, h2 => by unfold spine at h1; exact h1
theorem TP_apply (h4 : p 4 0 ⟨#[]⟩ []) : ∀ (xs : List Tm) (f : Tm), TP p f → TPs p xs → TP p (apply f xs)
  | [], f, h, _ => h
  | x :: xs, f, h, hx => TP_apply h4 xs (appT f x) ⟨h4, h, hx.1, trivial⟩ hx.2
theorem TP_zero (h0 : ∀ i, p 0 i ⟨#[]⟩ []) : TP p zeroT := ⟨h0 _, trivial⟩
theorem TPs_getD (h0 : ∀ i, p 0 i ⟨#[]⟩ []) {vs : List Tm} (h : TPs p vs) (i : Nat) : TP p (vs.getD i zeroT) := by
  cases e : vs[i]? with
  | none => simp [List.getD, e]; exact TP_zero h0
  | some x => rw [getD_of e]; exact TPs_get h (List.mem_of_getElem? e)
mutual
theorem shiftW_tp (h0 : ∀ i, p 0 i ⟨#[]⟩ []) (b fr : Int) : ∀ (t : Tm) (d er : Int), TP p t → TP p (shiftW b fr d er t).1
  | .mk k i n l ks, d, er, h => by
    unfold shiftW
    split
    · split
      · exact h
      · split
        · exact h
        · exact ⟨h0 _, trivial⟩
    · exact ⟨h.1, shiftsW_tp h0 b fr k ks d 0 er h.2⟩
theorem shiftsW_tp (h0 : ∀ i, p 0 i ⟨#[]⟩ []) (b fr k : Int) : ∀ (ts : List Tm) (d : Int) (j : Nat) (er : Int), TPs p ts → TPs p (shiftsW b fr k d j er ts).1
  | [], d, j, er, h => by simp [shiftsW, TPs]
  | t :: ts, d, j, er, h => by
    simp only [shiftsW, TPs] at *
    exact ⟨shiftW_tp h0 b fr t _ er h.1, shiftsW_tp h0 b fr k ts d (j + 1) _ h.2⟩
end
mutual
theorem substW_tp (h0 : ∀ i, p 0 i ⟨#[]⟩ []) : ∀ (t : Tm) (vs : List Tm) (d er nd : Int), TP p t → TPs p vs → TP p (substW vs d er nd t).1
  | .mk k i n l ks, vs, d, er, nd, h, hv => by
    unfold substW
    split
    · exact h
    · split
      · exact shiftW_tp h0 _ _ _ _ _ (TPs_getD h0 hv _)
      · split
        · split
          · exact ⟨h0 _, trivial⟩
          · exact h
        · exact ⟨h.1, substsW_tp h0 ks vs k d 0 er _ h.2 hv⟩
theorem substsW_tp (h0 : ∀ i, p 0 i ⟨#[]⟩ []) : ∀ (ts : List Tm) (vs : List Tm) (k d : Int) (j : Nat) (er nd : Int), TPs p ts → TPs p vs → TPs p (substsW vs k d j er nd ts).1
  | [], vs, k, d, j, er, nd, h, hv => by simp [substsW, TPs]
  | t :: ts, vs, k, d, j, er, nd, h, hv => by
    simp only [substsW, TPs] at *
    exact ⟨substW_tp h0 t vs _ er nd h.1 hv, substsW_tp h0 ts vs k d (j + 1) _ _ h.2 hv⟩
end
theorem underW_tp (h0 : ∀ i, p 0 i ⟨#[]⟩ []) (t : Tm) (vs : List Tm) (d : Int) (h : TP p t) (hv : TPs p vs) : TP p (underW t vs d).1 := by
  unfold underW
  split
  · exact TP_zero h0
  · split
    · exact TP_zero h0
    · split
      · exact TP_zero h0
      · exact substW_tp h0 t vs _ _ _ h hv
end
/-- The known metavariables of a term are in D. -/
def kmP (ms : List Mv) (D : List Int) (k i : Int) (n : ByteArray) (l : List Lvl) : Prop := known ms (.mk k i n l []) = true → i ∈ D
abbrev KM (ms : List Mv) (D : List Int) : Tm → Prop := TP (kmP ms D)
abbrev KMs (ms : List Mv) (D : List Int) : List Tm → Prop := TPs (kmP ms D)
theorem kmP_app (ms : List Mv) (D : List Int) (i : Int) (n : ByteArray) (l : List Lvl) : kmP ms D 4 i n l := fun h => by simp [known] at h
theorem KM.mono {ms : List Mv} {D D' : List Int} (h : ∀ i ∈ D, i ∈ D') {t : Tm} (ht : KM ms D t) : KM ms D' t := TP.imp (fun k i n l g e => h _ (g e)) t ht
theorem KMs.mono {ms : List Mv} {D D' : List Int} (h : ∀ i ∈ D, i ∈ D') {t : List Tm} (ht : KMs ms D t) : KMs ms D' t := TPs.imp (fun k i n l g e => h _ (g e)) t ht
theorem KM.head {ms : List Mv} {D : List Int} {h : Tm} (hk : known ms h = true) (ht : KM ms D h) : h.index ∈ D := by
  obtain ⟨k, i, n, l, ks⟩ := h
  exact ht.1 hk
theorem KM.kids {ms : List Mv} {D : List Int} {h : Tm} (ht : KM ms D h) : KMs ms D h.kids := by
  obtain ⟨k, i, n, l, ks⟩ := h
  exact ht.2
/-- The filled metavariables, in the order of their filling. -/
inductive Ord (ms : List Mv) : List Int → Prop
  | nil : Ord ms []
  | snoc {D : List Int} {i : Int} : Ord ms D → i ∉ D → KM ms D (valueOf ms i) → Ord ms (D ++ [i])
theorem Ord.pre {ms : List Mv} {D : List Int} (h : Ord ms D) : ∀ i ∈ D, ∃ D', Ord ms D' ∧ (∀ j ∈ D', j ∈ D) ∧ i ∉ D' ∧ KM ms D' (valueOf ms i) := by
  induction h with
  | nil => intro i hi; simp at hi
  | @snoc D j h1 h2 h3 ih =>
    intro i hi
    rcases List.mem_append.1 hi with hi | hi
    · obtain ⟨D', a, b, c, d⟩ := ih i hi
      exact ⟨D', a, fun j hj => List.mem_append_left _ (b j hj), c, d⟩
    · simp at hi; subst hi
      exact ⟨D, h1, fun j hj => List.mem_append_left _ hj, h2, h3⟩
/-  the count -/
theorem Cnt.form_over {c : Cnt} {t : Tm} {e : Int} (h : (c.form t e).over = false) : c.over = false ∧ e = 0 ∧ sizeW t ≤ 2000 ∧ depthW t ≤ 95 := by
  simp only [Cnt.form, Bool.or_eq_false_iff, bne_eq_false_iff_eq, decide_eq_false_iff_not] at h
  obtain ⟨h1, ⟨⟨⟨⟨h2, h3⟩, h4⟩, h5⟩, h6⟩, h7⟩ := h
  exact ⟨h1, h2, by omega, by omega⟩
theorem Cnt.sized_over {c : Cnt} {t : Tm} (h : (c.sized t).over = false) : c.over = false ∧ sizeW t ≤ 2000 ∧ depthW t ≤ 95 := by
  simp only [Cnt.sized, Bool.or_eq_false_iff, decide_eq_false_iff_not] at h
  obtain ⟨h1, h6, h7⟩ := h
  exact ⟨h1, by omega, by omega⟩
theorem betaW_over : ∀ (l : List Tm) (c : Cnt) (v : Tm), (betaW c v l).1.over = false → c.over = false
  | [], c, v, h => h
  | a :: l, c, v, h => by
    unfold betaW at h
    split at h
    · rename_i hh; exact hh.2
    · exact h
def betaQ : Tm → List Tm → Tm × List Tm
  | v, [] => (v, [])
  | v, a :: l => if v.kind = 5 then betaQ (underW (v.kids.getD 1 zeroT) [a] 0).1 l else (v, a :: l)
theorem betaW_Q : ∀ (l : List Tm) (c : Cnt) (v : Tm), (betaW c v l).1.over = false → (betaW c v l).2 = betaQ v l
  | [], c, v, h => rfl
  | a :: l, c, v, h => by
    have ho := betaW_over _ _ _ h
    unfold betaW at h ⊢
    unfold betaQ
    by_cases hk : v.kind = 5
    · rw [if_pos ⟨hk, ho⟩] at h ⊢
      rw [if_pos hk]
      exact betaW_Q l _ _ h
    · rw [if_neg (fun h => hk h.1), if_neg hk]
section
variable {F F' : Cnt → Tm → Tm × Int × Cnt}
theorem fillL_over (hF : ∀ c t, (F c t).2.2.over = false → c.over = false) : ∀ (ts : List Tm) (c : Cnt), (fillL F c ts).2.2.over = false → c.over = false
  | [], c, h => h
  | t :: ts, c, h => by
    unfold fillL at h
    split at h
    · exact hF c t h
    · split at h
      · exact hF c t (fillL_over hF ts _ h)
      · exact hF c t (fillL_over hF ts _ h)
theorem fillL_zero (hF : ∀ c t, (F c t).2.2.over = false → c.over = false) : ∀ (ts : List Tm) (c : Cnt), (∀ t ∈ ts, ∀ c, (F c t).2.2.over = false → (F c t).2.1 = 0) → (fillL F c ts).2.2.over = false → (fillL F c ts).2.1 = 0
  | [], c, h0, h => rfl
  | t :: ts, c, h0, h => by
    unfold fillL at h ⊢
    split at h
    · rename_i he; exact absurd (h0 t (by simp) c h) he
    · rename_i he
      rw [if_neg he]
      split at h
      · rename_i he2; exact absurd (fillL_zero hF ts _ (fun t ht => h0 t (by simp [ht])) h) he2
      · rename_i he2; rw [if_neg he2]
theorem fillL_indep (hF : ∀ c t, (F c t).2.2.over = false → c.over = false) (hF' : ∀ c t, (F' c t).2.2.over = false → c.over = false) : ∀ (ts : List Tm) (c c' : Cnt),
    (∀ t ∈ ts, ∀ c c', (F c t).2.1 = 0 → (F c t).2.2.over = false → (F' c' t).2.1 = 0 → (F' c' t).2.2.over = false → (F c t).1 = (F' c' t).1) →
    (fillL F c ts).2.1 = 0 → (fillL F c ts).2.2.over = false → (fillL F' c' ts).2.1 = 0 → (fillL F' c' ts).2.2.over = false → (fillL F c ts).1 = (fillL F' c' ts).1
  | [], c, c', h0, _, _, _, _ => rfl
  | t :: ts, c, c', h0, h1, h2, h3, h4 => by
    unfold fillL at h1 h2 h3 h4 ⊢
    split at h1
    · rename_i he; exact absurd h1 he
    rename_i he
    rw [if_neg he] at h2
    split at h1
    · rename_i he2; exact absurd h1 he2
    rename_i he2
    rw [if_neg he2] at h2
    split at h3
    · rename_i he; exact absurd h3 he
    rename_i he'
    rw [if_neg he'] at h4
    split at h3
    · rename_i he2; exact absurd h3 he2
    rename_i he2'
    rw [if_neg he2'] at h4
    rw [if_neg he, if_neg he2, if_neg he', if_neg he2']
    have e1 := h0 t (by simp) c c' (by omega) (fillL_over hF ts _ h2) (by omega) (fillL_over hF' ts _ h4)
    have e2 := fillL_indep hF hF' ts _ _ (fun t ht => h0 t (by simp [ht])) (by omega) h2 (by omega) h4
    simp only [e1, e2]
end
/-- What the reference's fill does, case by case. -/
theorem fillW_cases {ms : List Mv} {n : Nat} {ab : List Int} {c : Cnt} {t : Tm} (q r : List Tm × Int × Cnt) (v : Tm × Int × Cnt) (s : List Tm × Int × Cnt) (b : Cnt × Tm × List Tm)
    (hq : fillL (fillW ms n ab) c (spine t).1.kids = q) (hr : fillL (fillW ms n ab) q.2.2 (spine t).2 = r)
    (hv : fillW ms n (ab ++ [(spine t).1.index]) c (valueOf ms (spine t).1.index) = v) (hs : fillL (fillW ms n ab) (v.2.2.form v.1 0) (spine t).2 = s) (hb : betaW s.2.2 v.1 s.1 = b) :
    (c.over = true ∧ fillW ms (n + 1) ab c t = (zeroT, 11, c)) ∨
    (c.over = false ∧ known ms (spine t).1 = false ∧ (
      (q.2.1 ≠ 0 ∧ fillW ms (n + 1) ab c t = (zeroT, q.2.1, q.2.2)) ∨
      (q.2.1 = 0 ∧ r.2.1 ≠ 0 ∧ fillW ms (n + 1) ab c t = (zeroT, r.2.1, r.2.2)) ∨
      (q.2.1 = 0 ∧ r.2.1 = 0 ∧ fillW ms (n + 1) ab c t = (apply (withKids (spine t).1 q.1) r.1, 0, r.2.2.sized (apply (withKids (spine t).1 q.1) r.1))))) ∨
    (c.over = false ∧ known ms (spine t).1 = true ∧ (spine t).1.index ∈ ab ∧ fillW ms (n + 1) ab c t = (zeroT, 22, c)) ∨
    (c.over = false ∧ known ms (spine t).1 = true ∧ (spine t).1.index ∉ ab ∧ (
      (v.2.1 ≠ 0 ∧ fillW ms (n + 1) ab c t = (zeroT, v.2.1, v.2.2)) ∨
      (v.2.1 = 0 ∧ s.2.1 ≠ 0 ∧ fillW ms (n + 1) ab c t = (zeroT, s.2.1, s.2.2)) ∨
      (v.2.1 = 0 ∧ s.2.1 = 0 ∧ fillW ms (n + 1) ab c t = (apply b.2.1 b.2.2, 0, b.1.form (apply b.2.1 b.2.2) 0)))) := by
  rw [fillW]
  dsimp only
  rw [hq, hr, hv, hs, hb]
  by_cases ho : c.over = true
  · exact .inl ⟨ho, if_pos ho⟩
  have ho' : c.over = false := by simpa using ho
  refine .inr ?_
  rw [if_neg ho]
  by_cases hk : known ms (spine t).1 = false
  · refine .inl ⟨ho', hk, ?_⟩
    rw [if_pos hk]
    by_cases h1 : q.2.1 = 0
    · refine .inr ?_
      rw [if_neg (by simpa using h1)]
      by_cases h2 : r.2.1 = 0
      · exact .inr ⟨h1, h2, by rw [if_neg (by simpa using h2)]⟩
      · exact .inl ⟨h1, h2, if_pos h2⟩
    · exact .inl ⟨h1, if_pos h1⟩
  · refine .inr ?_
    rw [if_neg hk]
    have hk' : known ms (spine t).1 = true := by simpa using hk
    by_cases hi : (spine t).1.index ∈ ab
    · exact .inl ⟨ho', hk', hi, if_pos hi⟩
    · refine .inr ⟨ho', hk', hi, ?_⟩
      rw [if_neg hi]
      by_cases h1 : v.2.1 = 0
      · refine .inr ?_
        rw [if_neg (by simpa using h1)]
        by_cases h2 : s.2.1 = 0
        · exact .inr ⟨h1, h2, by rw [if_neg (by simpa using h2)]⟩
        · exact .inl ⟨h1, h2, if_pos h2⟩
      · exact .inl ⟨h1, if_pos h1⟩
theorem fillW_mono {ms : List Mv} : ∀ (n : Nat) (ab : List Int) (c : Cnt) (t : Tm), (fillW ms n ab c t).2.2.over = false → c.over = false
  | 0, ab, c, t, h => h
  | n + 1, ab, c, t, h => by
    rcases fillW_cases (ms := ms) (n := n) (ab := ab) (c := c) (t := t) _ _ _ _ _ rfl rfl rfl rfl rfl with ⟨h1, e⟩ | ⟨h1, _⟩ | ⟨h1, _⟩ | ⟨h1, _⟩
    · rw [e] at h; exact h
    · exact h1
    · exact h1
    · exact h1
theorem fill_indep {ms : List Mv} : ∀ (n n' : Nat) (ab ab' : List Int) (c c' : Cnt) (t : Tm), (fillW ms n ab c t).2.1 = 0 → (fillW ms n ab c t).2.2.over = false → (fillW ms n' ab' c' t).2.1 = 0 → (fillW ms n' ab' c' t).2.2.over = false → (fillW ms n ab c t).1 = (fillW ms n' ab' c' t).1
  | 0, n', ab, ab', c, c', t, h1, h2, h3, h4 => by unfold fillW at h1; cases h1
  | n + 1, 0, ab, ab', c, c', t, h1, h2, h3, h4 => by unfold fillW at h3; cases h3
  | n + 1, n' + 1, ab, ab', c, c', t, h1, h2, h3, h4 => by
    have IH : ∀ ts : List Tm, ∀ t ∈ ts, ∀ c c', (fillW ms n ab c t).2.1 = 0 → (fillW ms n ab c t).2.2.over = false → (fillW ms n' ab' c' t).2.1 = 0 → (fillW ms n' ab' c' t).2.2.over = false → (fillW ms n ab c t).1 = (fillW ms n' ab' c' t).1 := fun ts t _ c c' => fill_indep n n' ab ab' c c' t
    have m1 := fillW_mono (ms := ms) n ab
    have m2 := fillW_mono (ms := ms) n' ab'
    rcases fillW_cases (ms := ms) (n := n) (ab := ab) (c := c) (t := t) _ _ _ _ _ rfl rfl rfl rfl rfl with ⟨_, e⟩ | ⟨_, hk, hh⟩ | ⟨_, _, _, e⟩ | ⟨_, hk, _, hh⟩
    · rw [e] at h1; cases h1
    · rcases fillW_cases (ms := ms) (n := n') (ab := ab') (c := c') (t := t) _ _ _ _ _ rfl rfl rfl rfl rfl with ⟨_, e⟩ | ⟨_, _, gg⟩ | ⟨_, hk', _⟩ | ⟨_, hk', _⟩
      · rw [e] at h3; cases h3
      · rcases hh with ⟨x, e⟩ | ⟨_, x, e⟩ | ⟨x1, x2, e⟩
        · rw [e] at h1; exact absurd h1 x
        · rw [e] at h1; exact absurd h1 x
        rcases gg with ⟨x, e'⟩ | ⟨_, x, e'⟩ | ⟨y1, y2, e'⟩
        · rw [e'] at h3; exact absurd h3 x
        · rw [e'] at h3; exact absurd h3 x
        rw [e] at h2 ⊢
        rw [e'] at h4 ⊢
        have o1 := (Cnt.sized_over h2).1
        have o2 := (Cnt.sized_over h4).1
        have k1 := fillL_indep m1 m2 _ _ _ (IH _) x1 (fillL_over m1 _ _ o1) y1 (fillL_over m2 _ _ o2)
        have k2 := fillL_indep m1 m2 _ _ _ (IH _) x2 o1 y2 o2
        simp only [k1, k2]
      · rw [hk] at hk'; cases hk'
      · rw [hk] at hk'; cases hk'
    · rw [e] at h1; cases h1
    · rcases fillW_cases (ms := ms) (n := n') (ab := ab') (c := c') (t := t) _ _ _ _ _ rfl rfl rfl rfl rfl with ⟨_, e⟩ | ⟨_, hk', _⟩ | ⟨_, _, _, e⟩ | ⟨_, _, _, gg⟩
      · rw [e] at h3; cases h3
      · rw [hk] at hk'; cases hk'
      · rw [e] at h3; cases h3
      · rcases hh with ⟨x, e⟩ | ⟨_, x, e⟩ | ⟨x1, x2, e⟩
        · rw [e] at h1; exact absurd h1 x
        · rw [e] at h1; exact absurd h1 x
        rcases gg with ⟨x, e'⟩ | ⟨_, x, e'⟩ | ⟨y1, y2, e'⟩
        · rw [e'] at h3; exact absurd h3 x
        · rw [e'] at h3; exact absurd h3 x
        rw [e] at h2 ⊢
        rw [e'] at h4 ⊢
        have o1 := (Cnt.form_over h2).1
        have o2 := (Cnt.form_over h4).1
        have p1 := betaW_over _ _ _ o1
        have p2 := betaW_over _ _ _ o2
        have r1 := (Cnt.form_over (fillL_over m1 _ _ p1)).1
        have r2 := (Cnt.form_over (fillL_over m2 _ _ p2)).1
        have k1 := fill_indep n n' _ _ _ _ _ x1 r1 y1 r2
        have k2 := fillL_indep m1 m2 _ _ _ (IH _) x2 p1 y2 p2
        have b1 := betaW_Q _ _ _ o1
        have b2 := betaW_Q _ _ _ o2
        show apply _ _ = apply _ _
        rw [b1, b2, k2, k1]
theorem no_loop {ms : List Mv} {B : Nat} (hB : 1 ≤ B) (hm : ∀ m ∈ ms, Ok B m.value) : ∀ (n : Nat) (D ab : List Int) (c : Cnt) (t : Tm), Ord ms D → KM ms D t → (∀ j ∈ D, j ∉ ab) → Wt t → size t + (B + 1) * free ms ab ≤ n → (fillW ms n ab c t).2.2.over = false → (fillW ms n ab c t).2.1 = 0
  | 0, D, ab, c, t, h1, h2, h3, h4, h5, h6 => by have := size_pos t; omega
  | n + 1, D, ab, c, t, h1, h2, h3, h4, h5, h6 => by
    have m1 := fillW_mono (ms := ms) n ab
    have ssz := spine_len_sizes t
    have hkz := size_kid (h := (spine t).1)
    obtain ⟨sw1, sw2⟩ := spine_wt t h4
    obtain ⟨sk1, sk2⟩ := TP_spine t h2
    have IH : ∀ ts : List Tm, Wts ts → KMs ms D ts → sizes ts < size t → ∀ x ∈ ts, ∀ c, (fillW ms n ab c x).2.2.over = false → (fillW ms n ab c x).2.1 = 0 := fun ts w k z x hx c ho =>
      no_loop hB hm n D ab c x h1 (TPs_get k hx) h3 (Wts_get w hx) (mk_step (t := t) h5 (fun i hi => hi) (by have := sizes_get hx; omega)) ho
    rcases fillW_cases (ms := ms) (n := n) (ab := ab) (c := c) (t := t) _ _ _ _ _ rfl rfl rfl rfl rfl with ⟨g, e⟩ | ⟨_, hk, hh⟩ | ⟨_, hk, hi, e⟩ | ⟨_, hk, hi, hh⟩
    · rw [e] at h6; rw [g] at h6; cases h6
    · have kw : Wts (spine t).1.kids := by
        generalize (spine t).1 = h at sw1
        obtain ⟨k, i, nm, l, ks⟩ := h
        exact sw1.2.2
      rcases hh with ⟨x, e⟩ | ⟨_, x, e⟩ | ⟨x1, x2, e⟩
      · rw [e] at h6; exact absurd (fillL_zero m1 _ _ (IH _ kw (KM.kids sk1) (by omega)) h6) x
      · rw [e] at h6; exact absurd (fillL_zero m1 _ _ (IH _ sw2 sk2 (by have := size_pos (spine t).1; omega)) h6) x
      · rw [e]
    · exact absurd hi (h3 _ (KM.head hk sk1))
    · obtain ⟨D', d1, d2, d3, d4⟩ := h1.pre _ (KM.head hk sk1)
      have hki := known_idx hk
      have h0 := idx_ok sw1 hki.1
      have hvo := valueOf_okP hB hm (spine t).1.index
      have hv : ∀ c, (fillW ms n (ab ++ [(spine t).1.index]) c (valueOf ms (spine t).1.index)).2.2.over = false → (fillW ms n (ab ++ [(spine t).1.index]) c (valueOf ms (spine t).1.index)).2.1 = 0 := fun c ho =>
        no_loop hB hm n D' _ c _ d1 d4 (fun j hj hc => by
          rcases List.mem_append.1 hc with hc | hc
          · exact h3 j (d2 j hj) hc
          · simp at hc; subst hc; exact d3 hj) hvo.wt (mk_val (size_pos t) h5 h0 hki.2 hi hvo.sz) ho
      rcases hh with ⟨x, e⟩ | ⟨_, x, e⟩ | ⟨x1, x2, e⟩
      · rw [e] at h6; exact absurd (hv _ h6) x
      · rw [e] at h6; exact absurd (fillL_zero m1 _ _ (IH _ sw2 sk2 (by have := size_pos (spine t).1; omega)) h6) x
      · rw [e]
end Go.Eu
/- The program's filling is the reference's, where the reference's is not over. -/
namespace Go.Eu
open Go.Abs
set_option linter.unusedVariables false
set_option linter.unusedSimpArgs false
def dom (st : FSt) : List Int := st.dn.map Prod.fst
theorem dget_none {i : Int} : ∀ {l : List (Int × Tm)}, i ∉ l.map Prod.fst → dget i l = none
  | [], _ => rfl
  | (j, x) :: r, h => by
    simp only [List.map_cons, List.mem_cons, not_or] at h
    unfold dget
    rw [if_neg (fun e => h.1 e.symm)]
    exact dget_none h.2
theorem dget_dom {i : Int} : ∀ {l : List (Int × Tm)}, i ∈ l.map Prod.fst → ∃ v, dget i l = some v
  | [], h => by simp at h
  | (j, x) :: r, h => by
    unfold dget
    by_cases e : j = i
    · exact ⟨x, if_pos e⟩
    · rw [if_neg e]
      simp only [List.map_cons, List.mem_cons] at h
      exact dget_dom (h.resolve_left fun q => e q.symm)
theorem dset_new {i : Int} {v : Tm} : ∀ {l : List (Int × Tm)}, i ∉ l.map Prod.fst → dset i v l = l ++ [(i, v)]
  | [], _ => rfl
  | (j, x) :: r, h => by
    simp only [List.map_cons, List.mem_cons, not_or] at h
    unfold dset
    rw [if_neg (fun e => h.1 e.symm), dset_new h.2]
    rfl
/-- v is what the reference makes of t. -/
def RefV (ms : List Mv) (t v : Tm) : Prop := ∃ n ab c d, fillW ms n ab c t = (v, 0, d) ∧ d.over = false
structure SInv (ms : List Mv) (ab : List Int) (st : FSt) : Prop where
  op : ∀ i, i ∈ st.op ↔ i ∈ dom st ∨ i ∈ ab
  ord : Ord ms (dom st)
  dis : ∀ i ∈ dom st, i ∉ ab
  val : ∀ p ∈ st.dn, RefV ms (valueOf ms p.1) p.2
  ok : ∀ p ∈ st.dn, Ok 4096 p.2
  w0 : 0 ≤ st.wk
def pot (ms : List Mv) (B : Nat) (st : FSt) : Int := st.wk + (B * free ms st.op : Nat)
structure Step (ms : List Mv) (B : Nat) (ab : List Int) (st st' : FSt) (s : Nat) : Prop where
  inv : SInv ms ab st'
  mono : ∀ i ∈ dom st, i ∈ dom st'
  pot : pot ms B st' ≤ pot ms B st + s
theorem Step.trans {ms : List Mv} {B : Nat} {ab : List Int} {a b c : FSt} {s s' : Nat} (h : Step ms B ab a b s) (h' : Step ms B ab b c s') : Step ms B ab a c (s + s') :=
  ⟨h'.inv, fun i hi => h'.mono i (h.mono i hi), by have := h.pot; have := h'.pot; omega⟩
theorem Step.le {ms : List Mv} {B : Nat} {ab : List Int} {a b : FSt} {s s' : Nat} (h : Step ms B ab a b s) (hs : s ≤ s') : Step ms B ab a b s' := ⟨h.inv, h.mono, by have := h.pot; omega⟩
theorem SInv.oks {ms : List Mv} {ab : List Int} {st : FSt} (h : SInv ms ab st) {B : Nat} (hp : Go.Eu.pot ms B st ≤ 8192000) : OkS ms st := ⟨h.ok, h.w0, by unfold Go.Eu.pot at hp; omega⟩
def SimT (ms : List Mv) (B : Nat) (ab : List Int) (t : Tm) (s : Nat) (st : FSt) (F : Tm × Int × Cnt) (G : Except Int (Tm × FSt)) : Prop :=
  (F.2.1 = 0 ∧ ∃ st', G = .ok (F.1, st') ∧ Step ms B ab st st' s ∧ KM ms (dom st') t) ∨ (F.2.1 = 22 ∧ F.1 = zeroT ∧ G = .error 22)
def SimL (ms : List Mv) (B : Nat) (ab : List Int) (ts : List Tm) (st : FSt) (F : List Tm × Int × Cnt) (G : Except Int (List Tm × FSt)) : Prop :=
  (F.2.1 = 0 ∧ ∃ st', G = .ok (F.1, st') ∧ Step ms B ab st st' (sizes ts) ∧ KMs ms (dom st') ts) ∨ (F.2.1 = 22 ∧ G = .error 22)
theorem fillL_sim {ms : List Mv} {B : Nat} {ab : List Int} {F : Cnt → Tm → Tm × Int × Cnt} {G : FSt → Tm → Except Int (Tm × FSt)} (hF : ∀ c t, (F c t).2.2.over = false → c.over = false) :
    ∀ (ts : List Tm) (c : Cnt) (st : FSt), (∀ t ∈ ts, ∀ c st, SInv ms ab st → pot ms B st + size t ≤ 8192000 → (F c t).2.2.over = false → SimT ms B ab t (size t) st (F c t) (G st t)) →
      SInv ms ab st → pot ms B st + sizes ts ≤ 8192000 → (fillL F c ts).2.2.over = false → SimL ms B ab ts st (fillL F c ts) (fillsX G st ts)
  | [], c, st, hs, hi, hp, ho => .inl ⟨rfl, st, rfl, ⟨hi, fun i h => h, by omega⟩, trivial⟩
  | t :: ts, c, st, hs, hi, hp, ho => by
    simp only [sizes] at hp
    have h1 := hs t (by simp) c st hi (by omega)
    unfold fillL at ho ⊢
    unfold fillsX
    by_cases e1 : (F c t).2.1 = 0
    · have e1' : ¬ (F c t).2.1 ≠ 0 := by simpa using e1
      rw [if_neg e1'] at ho ⊢
      by_cases e2 : (fillL F (F c t).2.2 ts).2.1 = 0
      · have e2' : ¬ (fillL F (F c t).2.2 ts).2.1 ≠ 0 := by simpa using e2
        rw [if_neg e2'] at ho ⊢
        rcases h1 (fillL_over hF _ _ ho) with ⟨_, st1, g1, g2, g3⟩ | ⟨x, _⟩
        · have h2 := fillL_sim hF ts (F c t).2.2 st1 (fun t ht => hs t (by simp [ht])) g2.inv (by have := g2.pot; omega) ho
          rcases h2 with ⟨_, st2, k1, k2, k3⟩ | ⟨x, _⟩
          · exact .inl ⟨rfl, st2, by rw [g1]; simp only [exThen]; rw [k1], (g2.trans k2).le (by simp [sizes]), KM.mono k2.mono g3, k3⟩
          · rw [e2] at x; cases x
        · rw [e1] at x; cases x
      · rw [if_pos e2] at ho ⊢
        rcases h1 (fillL_over hF _ _ ho) with ⟨_, st1, g1, g2, g3⟩ | ⟨x, _⟩
        · have h2 := fillL_sim hF ts (F c t).2.2 st1 (fun t ht => hs t (by simp [ht])) g2.inv (by have := g2.pot; omega) ho
          rcases h2 with ⟨x, _⟩ | ⟨x, k1⟩
          · exact absurd x e2
          · exact .inr ⟨x, by rw [g1]; simp only [exThen]; rw [k1]⟩
        · rw [e1] at x; cases x
    · rw [if_pos e1] at ho ⊢
      rcases h1 ho with ⟨x, _⟩ | ⟨x, _, g⟩
      · exact absurd x e1
      · exact .inr ⟨x, by rw [g]; rfl⟩
theorem under_small {b a : Tm} (hb : Ok 4096 b) (ha : Ok 4096 a) (he : (underW b [a] 0).2 = 0) (hd : depthW (underW b [a] 0).1 ≤ 95) : chkP (underP b [a] 0).1 (underP b [a] 0).2 = .ok (underW b [a] 0).1 ∧ Ok 4096 (underW b [a] 0).1 := by
  have V := vals_one ha
  have hs := hb.sz
  have hg := under_ok hb ha
  rw [underP_eq V hb.wt hb.vp (by omega)] at hg ⊢
  refine ⟨?_, ⟨hg.1, hg.2.1, hg.2.2.1, hg.2.2.2⟩⟩
  unfold chkP
  rw [if_neg]
  rintro (h | h)
  · exact h he
  · unfold largeB at h
    have := hg.2.2.2
    simp only [Bool.or_eq_true, decide_eq_true_eq] at h
    omega
theorem beta_sim : ∀ (l : List Tm) (c : Cnt) (v : Tm), Ok 4096 v → Oks l → (betaW c v l).1.over = false → betaP v l = .ok ((betaW c v l).2.1, (betaW c v l).2.2)
  | [], c, v, hv, hl, ho => rfl
  | a :: l, c, v, hv, hl, ho => by
    have h0 := betaW_over _ _ _ ho
    unfold betaW at ho ⊢
    unfold betaP
    by_cases hk : v.kind = 5
    · rw [if_pos (show v.kind = 5 ∧ c.over = false from ⟨hk, h0⟩)] at ho ⊢
      rw [if_pos hk]
      obtain ⟨b, hb1, hb2, hb3⟩ := lam_kid hv hk
      have hf := Cnt.form_over (betaW_over _ _ _ ho)
      rw [hb2] at ho hf ⊢
      obtain ⟨g1, g2⟩ := under_small hb3 (hl a (by simp)) hf.2.1 hf.2.2.2
      rw [g1]
      exact beta_sim l _ _ g2 (fun x hx => hl x (by simp [hx])) ho
    · rw [if_neg (fun h : v.kind = 5 ∧ c.over = false => hk h.1), if_neg hk]
theorem chk_small {x : Tm} (h : size x < 1152921504606846976) (h1 : sizeW x ≤ 2000) (h2 : depthW x ≤ 95) : chkP x 0 = .ok x := by
  rw [sizeW_eq (by omega)] at h1
  unfold chkP
  rw [if_neg]
  rintro (h | h)
  · exact h rfl
  · unfold largeB at h
    simp only [Bool.or_eq_true, decide_eq_true_eq] at h
    omega
theorem fillsX_len {F : FSt → Tm → Except Int (Tm × FSt)} {ms : List Mv} {B : Nat} (hF : FGood ms B F) {ts : List Tm} {st : FSt} {r : List Tm × FSt} (h : ∀ t ∈ ts, Ok B t) (hs : OkS ms st) (e : fillsX F st ts = .ok r) : Oks r.1 ∧ r.1.length = ts.length := by
  have := fillsX_good hF ts st r h hs e
  exact ⟨this.1, this.2.1⟩
theorem valueP_hit' {F : FSt → Tm → Except Int (Tm × FSt)} {ms : List Mv} {st : FSt} {i : Int} {v : Tm} (h : dget i st.dn = some v) : valueP F ms st i = .ok (v, st) := by
  unfold valueP; rw [h]
theorem valueP_loop' {F : FSt → Tm → Except Int (Tm × FSt)} {ms : List Mv} {st : FSt} {i : Int} (h : dget i st.dn = none) (ho : i ∈ st.op) : valueP F ms st i = .error 22 := by
  unfold valueP; rw [h]; exact if_pos ho
theorem valueP_err' {F : FSt → Tm → Except Int (Tm × FSt)} {ms : List Mv} {st : FSt} {i e : Int} (h : dget i st.dn = none) (ho : i ∉ st.op) (hf : F { st with op := st.op ++ [i] } (valueOf ms i) = .error e) : valueP F ms st i = .error e := by
  unfold valueP; rw [h]; simp only; rw [if_neg ho, hf]; rfl
theorem valueP_new' {F : FSt → Tm → Except Int (Tm × FSt)} {ms : List Mv} {st st' : FSt} {i : Int} {z : Tm} (h : dget i st.dn = none) (ho : i ∉ st.op) (hf : F { st with op := st.op ++ [i] } (valueOf ms i) = .ok (z, st')) : valueP F ms st i = .ok (z, { st' with dn := dset i z st'.dn }) := by
  unfold valueP; rw [h]; simp only; rw [if_neg ho, hf]; rfl
theorem fill_sim {ms : List Mv} {B : Nat} (hB : 1 ≤ B) (hB2 : B ≤ 1073741824) (hm : ∀ m ∈ ms, Ok B m.value) : ∀ (n : Nat) (ab : List Int) (c : Cnt) (t : Tm) (st : FSt), Ok B t → size t + (B + 1) * free ms ab ≤ n → SInv ms ab st → pot ms B st + size t ≤ 8192000 →
    (fillW ms n ab c t).2.2.over = false → SimT ms B ab t (size t) st (fillW ms n ab c t) (fillP ms n st t)
  | 0, ab, c, t, st, h1, h2, h3, h4, h5 => by have := size_pos t; omega
  | n + 1, ab, c, t, ⟨dn, op, wk⟩, h1, h2, h3, h4, h5 => by
    have m1 := fillW_mono (ms := ms) n ab
    have ssz := spine_len_sizes t
    have hkz := size_kid (h := (spine t).1)
    have hts := h1.sz
    have hsp := size_pos t
    obtain ⟨sn1, sn2⟩ := spine_nd t h1.nd
    obtain ⟨sw1, sw2⟩ := spine_wt t h1.wt
    obtain ⟨sv1, sv2⟩ := spine_vp t h1.vp
    have G := fillP_good hB hm n
    have hw : ¬ wk + 1 > 8192000 := by unfold pot at h4; simp only at h4; omega
    have hS : SInv ms ab ⟨dn, op, wk + 1⟩ := ⟨h3.op, h3.ord, h3.dis, h3.val, h3.ok, by have := h3.w0; simp only at this ⊢; omega⟩
    have hP : pot ms B ⟨dn, op, wk + 1⟩ = pot ms B ⟨dn, op, wk⟩ + 1 := by unfold pot; simp only; omega
    have h0 : Step ms B ab ⟨dn, op, wk⟩ ⟨dn, op, wk + 1⟩ 1 := ⟨hS, fun i hi => hi, by omega⟩
    have hO := hS.oks (B := B) (by omega)
    have IH : ∀ ts : List Tm, (∀ x ∈ ts, Ok B x) → sizes ts < size t → ∀ x ∈ ts, ∀ c st, SInv ms ab st → pot ms B st + size x ≤ 8192000 → (fillW ms n ab c x).2.2.over = false → SimT ms B ab x (size x) st (fillW ms n ab c x) (fillP ms n st x) := fun ts k z x hx c st g1 g2 g3 =>
      fill_sim hB hB2 hm n ab c x st (k x hx) (mk_step (t := t) h2 (fun i hi => hi) (by have := sizes_get hx; omega)) g1 g2 g3
    have ka : ∀ x ∈ (spine t).2, Ok B x := fun x hx => ⟨Nds_get sn2 hx, Vps_get sv2 hx, Wts_get sw2 hx, by have := sizes_get hx; omega⟩
    have za : sizes (spine t).2 < size t := by have := size_pos (spine t).1; omega
    generalize hh : (spine t).1 = h at *
    have hOk : Ok B h := ⟨sn1, sv1, sw1, by omega⟩
    rcases fillW_cases (ms := ms) (n := n) (ab := ab) (c := c) (t := t) _ _ _ _ _ rfl rfl rfl rfl rfl with ⟨g, e⟩ | ⟨_, hk, hc⟩ | ⟨_, hk, hi, e⟩ | ⟨_, hk, hi, hc⟩
    · rw [e] at h5; rw [g] at h5; cases h5
    · rw [hh] at hk hc
      have kk : ∀ x ∈ h.kids, Ok B x := fun x hx => by
        obtain ⟨k, i, nm, l, ks⟩ := h
        exact ⟨Nds_get sn1.2.2.2.2.1 hx, Vps_get sv1.2 hx, Wts_get sw1.2.2 hx, by have := sizes_get hx; omega⟩
      have zk : sizes h.kids < size t := by omega
      rcases hc with ⟨x, e⟩ | ⟨x1, x, e⟩ | ⟨x1, x2, e⟩
      · rw [e] at h5 ⊢
        rcases fillL_sim m1 h.kids c ⟨dn, op, wk + 1⟩ (IH _ kk zk) hS (by omega) h5 with ⟨y, _⟩ | ⟨y, g⟩
        · exact absurd y x
        · exact .inr ⟨y, rfl, fillP_e1 hw hh (headP_ne hk g)⟩
      · rw [e] at h5 ⊢
        rcases fillL_sim m1 h.kids c ⟨dn, op, wk + 1⟩ (IH _ kk zk) hS (by omega) (fillL_over m1 _ _ h5) with ⟨_, st1, g1, g2, g3⟩ | ⟨y, _⟩
        · rcases fillL_sim m1 (spine t).2 _ st1 (IH _ ka za) g2.inv (by have := g2.pot; omega) h5 with ⟨y, _⟩ | ⟨y, g⟩
          · exact absurd y x
          · exact .inr ⟨y, rfl, fillP_e2 hw hh (headP_n hk g1) g⟩
        · rw [x1] at y; cases y
      · rw [e] at h5 ⊢
        have hf := Cnt.sized_over h5
        rcases fillL_sim m1 h.kids c ⟨dn, op, wk + 1⟩ (IH _ kk zk) hS (by omega) (fillL_over m1 _ _ hf.1) with ⟨_, st1, g1, g2, g3⟩ | ⟨y, _⟩
        · have hp1 : pot ms B st1 + sizes (spine t).2 ≤ 8192000 := by have := g2.pot; omega
          rcases fillL_sim m1 (spine t).2 _ st1 (IH _ ka za) g2.inv hp1 hf.1 with ⟨_, st2, k1, k2, k3⟩ | ⟨y, _⟩
          · obtain ⟨a1, a2⟩ := fillsX_len G kk hO g1
            obtain ⟨b1, b2⟩ := fillsX_len G ka (g2.inv.oks (B := B) (by omega)) k1
            simp only at a1 a2 b1 b2
            have hwk := withKids_okP hOk a1 a2
            refine .inl ⟨rfl, st2, ?_, ((h0.trans g2).trans k2).le (by omega), ?_⟩
            · refine (fillP_n hw hh hk (headP_n hk g1) k1 (chk_small ?_ hf.2.1 hf.2.2)).trans rfl
              exact app_small (K := h.kids.length) (m := size t) (by omega) b1 (by have := spine_len t; omega) (by have := len_le_sizes h.kids; omega) (by omega)
            · refine TP_unspine (kmP_app ms _) t ?_ k3
              rw [hh]
              obtain ⟨k, i, nm, l, ks⟩ := h
              exact ⟨fun q => absurd (hk.symm.trans q) (by decide), KMs.mono k2.mono g3⟩
          · rw [x2] at y; cases y
        · rw [x1] at y; cases y
    · rw [hh] at hk hi
      rw [e] at h5 ⊢
      refine .inr ⟨rfl, rfl, fillP_e1 hw hh (headP_ke hk (valueP_loop' (dget_none fun q => h3.dis _ q hi) ((h3.op _).2 (.inr hi))))⟩
    · rw [hh] at hk hi hc
      have hki := known_idx hk
      have hi0 := idx_ok sw1 hki.1
      have hvo := valueOf_okP hB hm h.index
      have hfu := mk_val hsp h2 hi0 hki.2 hi hvo.sz
      generalize hv : fillW ms n (ab ++ [h.index]) c (valueOf ms h.index) = v at hc
      -- the value of the head
      have HD : v.2.2.over = false → SimT ms B ab h 0 ⟨dn, op, wk + 1⟩ v (headP (fillP ms n) ms ⟨dn, op, wk + 1⟩ h) ∧ (v.2.1 = 0 → Ok 4096 v.1) := by
        intro hov
        by_cases hd : h.index ∈ dom ⟨dn, op, wk + 1⟩
        · obtain ⟨w, hw1⟩ := dget_dom hd
          have hw2 := h3.val _ (dget_mem hw1)
          obtain ⟨D', d1, d2, d3, d4⟩ := h3.ord.pre _ hd
          have e0 : v.2.1 = 0 := by
            rw [← hv]
            refine no_loop hB hm n D' _ c _ d1 d4 (fun j hj hc => ?_) hvo.wt hfu (by rw [hv]; exact hov)
            rcases List.mem_append.1 hc with hc | hc
            · exact h3.dis j (d2 j hj) hc
            · simp at hc; subst hc; exact d3 hj
          obtain ⟨n', ab', c', d', f1, f2⟩ := hw2
          have e1 : v.1 = w := by
            have := fill_indep n n' (ab ++ [h.index]) ab' c c' (valueOf ms h.index) (by rw [hv]; exact e0) (by rw [hv]; exact hov) (by rw [f1]) (by rw [f1]; exact f2)
            rw [hv, f1] at this
            exact this
          refine ⟨.inl ⟨e0, ⟨dn, op, wk + 1⟩, ?_, ⟨hS, fun i hi => hi, by omega⟩, ?_⟩, fun _ => e1 ▸ h3.ok _ (dget_mem hw1)⟩
          · rw [e1]; exact headP_k hk (valueP_hit' hw1)
          · obtain ⟨k, i, nm, l, ks⟩ := h
            have hk0 : ks = [] := by
              have := sw1.1
              rw [show k = 12 from hki.1] at this
              cases ks with
              | nil => rfl
              | cons a b => simp [arity] at this; omega
            subst hk0
            exact ⟨fun _ => hd, trivial⟩
        · have hop : h.index ∉ op := fun q => ((h3.op _).1 q).elim hd hi
          have hgn : dget h.index dn = none := dget_none hd
          have hfl := free_lt hi0 hki.2 hop
          have hSi : SInv ms (ab ++ [h.index]) ⟨dn, op ++ [h.index], wk + 1⟩ := by
            refine ⟨fun i => ?_, h3.ord, fun i hi' q => ?_, h3.val, h3.ok, hS.w0⟩
            · have := h3.op i
              simp only [List.mem_append, List.mem_singleton] at this ⊢
              rw [this]
              exact or_assoc
            · rcases List.mem_append.1 q with q | q
              · exact h3.dis i hi' q
              · simp at q; subst q; exact hd hi'
          have hmul : B * free ms (op ++ [h.index]) + B ≤ B * free ms op := by
            have := Nat.mul_le_mul_left B hfl
            rw [Nat.mul_succ] at this
            exact this
          have hpi : pot ms B ⟨dn, op ++ [h.index], wk + 1⟩ + B ≤ pot ms B ⟨dn, op, wk + 1⟩ := by unfold pot; simp only; omega
          have hsz := hvo.sz
          have r := fill_sim hB hB2 hm n (ab ++ [h.index]) c (valueOf ms h.index) ⟨dn, op ++ [h.index], wk + 1⟩ hvo hfu hSi (by omega) (by rw [hv]; exact hov)
          rw [hv] at r
          rcases r with ⟨e0, st1, g1, g2, g3⟩ | ⟨e0, ez, g1⟩
          · have hnd : h.index ∉ dom st1 := fun q => g2.inv.dis _ q (by simp)
            have hv4 : Ok 4096 v.1 := (G _ _ _ hvo ⟨hSi.ok, hSi.w0, by unfold pot at hpi h4 hP; simp only at hpi h4 hP ⊢; omega⟩ g1).1
            have hdm : dom { st1 with dn := dset h.index v.1 st1.dn } = dom st1 ++ [h.index] := by
              unfold dom; simp only; rw [dset_new hnd]; simp
            refine ⟨.inl ⟨e0, { st1 with dn := dset h.index v.1 st1.dn }, headP_k hk (valueP_new' hgn hop g1), ⟨⟨fun i => ?_, ?_, fun i hi' q => ?_, fun p hp => ?_, fun p hp => ?_, g2.inv.w0⟩, fun i hi' => ?_, ?_⟩, ?_⟩, fun _ => hv4⟩
            · have := g2.inv.op i
              rw [hdm]
              simp only [List.mem_append, List.mem_singleton] at this ⊢
              rw [this]
              constructor
              · rintro (a | b | b)
                · exact .inl (.inl a)
                · exact .inr b
                · exact .inl (.inr b)
              · rintro ((a | b) | b)
                · exact .inl a
                · exact .inr (.inr b)
                · exact .inr (.inl b)
            · rw [hdm]; exact .snoc g2.inv.ord hnd g3
            · rw [hdm] at hi'
              rcases List.mem_append.1 hi' with hi' | hi'
              · exact g2.inv.dis i hi' (List.mem_append_left _ q)
              · simp at hi'; subst hi'; exact hi q
            · rcases dset_mem hp with hp | hp
              · subst hp
                exact ⟨n, ab ++ [h.index], c, v.2.2, by rw [hv]; obtain ⟨a, b, d⟩ := v; simp only at e0; subst e0; rfl, hov⟩
              · exact g2.inv.val p hp
            · rcases dset_mem hp with hp | hp
              · subst hp; exact hv4
              · exact g2.inv.ok p hp
            · rw [hdm]; exact List.mem_append_left _ (g2.mono i hi')
            · have := g2.pot
              unfold pot at this hpi ⊢
              simp only at this hpi ⊢
              omega
            · rw [hdm]
              obtain ⟨k, i, nm, l, ks⟩ := h
              have hk0 : ks = [] := by
                have := sw1.1
                rw [show k = 12 from hki.1] at this
                cases ks with
                | nil => rfl
                | cons a b => simp [arity] at this; omega
              subst hk0
              exact ⟨fun _ => List.mem_append_right _ (by simp [Tm.index]), trivial⟩
          · exact ⟨.inr ⟨e0, ez, headP_ke hk (valueP_err' hgn hop g1)⟩, fun q => by rw [e0] at q; cases q⟩
      rcases hc with ⟨x, e⟩ | ⟨x1, x, e⟩ | ⟨x1, x2, e⟩
      · rw [e] at h5 ⊢
        rcases (HD h5).1 with ⟨y, _⟩ | ⟨y, _, g⟩
        · exact absurd y x
        · exact .inr ⟨y, rfl, fillP_e1 hw hh g⟩
      · rw [e] at h5 ⊢
        have hov := (Cnt.form_over (fillL_over m1 _ _ h5)).1
        rcases (HD hov).1 with ⟨_, st1, g1, g2, g3⟩ | ⟨y, _⟩
        · rcases fillL_sim m1 (spine t).2 _ st1 (IH _ ka za) g2.inv (by have := g2.pot; omega) h5 with ⟨y, _⟩ | ⟨y, g⟩
          · exact absurd y x
          · exact .inr ⟨y, rfl, fillP_e2 hw hh g1 g⟩
        · rw [x1] at y; cases y
      · rw [e] at h5 ⊢
        have hf := Cnt.form_over h5
        have hbo := betaW_over _ _ _ hf.1
        have hov := (Cnt.form_over (fillL_over m1 _ _ hbo)).1
        have hv4 := (HD hov).2 x1
        rcases (HD hov).1 with ⟨_, st1, g1, g2, g3⟩ | ⟨y, _⟩
        · have hp1 : pot ms B st1 + sizes (spine t).2 ≤ 8192000 := by have := g2.pot; omega
          rcases fillL_sim m1 (spine t).2 _ st1 (IH _ ka za) g2.inv hp1 hbo with ⟨_, st2, k1, k2, k3⟩ | ⟨y, _⟩
          · obtain ⟨b1, b2⟩ := fillsX_len G ka (g2.inv.oks (B := B) (by omega)) k1
            simp only at b1 b2
            have hbs := beta_sim _ _ _ hv4 b1 hf.1
            obtain ⟨q1, q2, q3⟩ := betaP_good _ _ _ hv4 b1 hbs
            simp only at q1 q2 q3
            refine .inl ⟨rfl, st2, ?_, ((h0.trans g2).trans k2).le (by have := size_pos h; omega), TP_unspine (kmP_app ms _) t (by rw [hh]; exact KM.mono k2.mono g3) k3⟩
            refine (fillP_k hw hh hk g1 k1 hbs (chk_small ?_ hf.2.2.1 hf.2.2.2)).trans rfl
            exact app_small (K := 0) (m := size t) (by have := q1.sz; omega) q2 (by have := spine_len t; omega) (by omega) (by omega)
          · rw [x2] at y; cases y
        · rw [x1] at y; cases y
theorem sinv_zero (ms : List Mv) : SInv ms [] ⟨[], [], 0⟩ := ⟨fun i => by simp [dom], .nil, fun i hi => by simp [dom] at hi, fun p hp => by simp at hp, fun p hp => by simp at hp, by simp⟩
/-- The program's Fill is the reference's. -/
theorem fill_law {ms : List Mv} {B n : Nat} {t : Tm} {c : Cnt} (hB : 1 ≤ B) (hm : ∀ m ∈ ms, Ok B m.value) (ht : Ok B t) (hn : size t + (B + 1) * ms.length ≤ n) (hw : B * ms.length + B ≤ 8192000) (ho : (fillT ms n c t).2.2.over = false) :
    fillPT ms n t = ((fillT ms n c t).1, (fillT ms n c t).2.1) ∧ ((fillT ms n c t).2.1 = 0 ∨ (fillT ms n c t).2.1 = 22) := by
  have h0 : (fillW ms n [] c t).2.2.over = false := by
    unfold fillT at ho
    simp only at ho
    split at ho
    · exact (Cnt.form_over ho).1
    · exact ho
  have hp : pot ms B ⟨[], [], 0⟩ = (B * ms.length : Nat) := by unfold pot; simp only; rw [free_nil]; omega
  have hs := ht.sz
  have hB3 : B ≤ 8192000 := by omega
  unfold fillT
  simp only
  rcases fill_sim hB (by omega) hm n [] c t ⟨[], [], 0⟩ ht (by rw [free_nil]; exact hn) (sinv_zero ms) (by omega) h0 with ⟨e, st', g, _⟩ | ⟨e, ez, g⟩
  · exact ⟨by rw [fillPT_ok g, e], .inl e⟩
  · exact ⟨by rw [fillPT_err g, e, ez], .inr e⟩
theorem unk_law {ms : List Mv} {B n : Nat} {t : Tm} {c : Cnt} (hB : 1 ≤ B) (hm : ∀ m ∈ ms, Ok B m.value) (ht : Ok B t) (hn : size t + (B + 1) * ms.length ≤ n) (hw : B * ms.length + B ≤ 8192000) (ho : (fillT ms n c t).2.2.over = false) :
    unkPT ms n t = unkW ms n c t := by
  have := (fill_law hB hm ht hn hw ho).1
  unfold unkPT unkW
  rw [this]
  simp only
  by_cases h : (fillT ms n c t).2.1 = 0
  · rw [if_neg (by simpa using h), if_pos h]
  · rw [if_pos h, if_neg h]
end Go.Eu
/- A filled term has no known metavariables, and filling it again changes nothing. -/
namespace Go.Eu
open Go.Abs
set_option linter.unusedVariables false
set_option linter.unusedSimpArgs false
/-- The metavariables are in range. -/
def rgP (m : Nat) (k i : Int) (n : ByteArray) (l : List Lvl) : Prop := k = 12 → 0 ≤ i ∧ i < (m : Int)
/-- The metavariables are in range and not known; applications have no other fields. -/
def stP (ms : List Mv) (k i : Int) (n : ByteArray) (l : List Lvl) : Prop := (k = 12 → 0 ≤ i ∧ i < (ms.length : Int) ∧ known ms (.mk k i n l []) = false) ∧ (k = 4 → i = 0 ∧ n = ⟨#[]⟩ ∧ l = [])
mutual
theorem wf_rg {vars : Int} {m : Nat} : ∀ (t : Tm) (d : Int), wf vars m d t → TP (rgP m) t
  | .mk k i n l ks, d, h => by
    simp only [wf] at h
    exact ⟨fun e => h.2.2.2.2.1 e, wfs_rg ks k d 0 h.2.2.2.2.2⟩
theorem wfs_rg {vars : Int} {m : Nat} : ∀ (ts : List Tm) (k d : Int) (j : Nat), wfs vars m k d j ts → TPs (rgP m) ts
  | [], k, d, j, h => trivial
  | t :: ts, k, d, j, h => by
    simp only [wfs] at h
    exact ⟨wf_rg t _ h.1, wfs_rg ts k d (j + 1) h.2⟩
end
def FSet (ms : List Mv) (B : Nat) (F : FSt → Tm → Except Int (Tm × FSt)) : Prop := ∀ st t r, Ok B t → OkS ms st → TP (rgP ms.length) t → (∀ p ∈ st.dn, TP (stP ms) p.2) → F st t = .ok r → TP (stP ms) r.1 ∧ ∀ p ∈ r.2.dn, TP (stP ms) p.2
def FIdem (ms : List Mv) (F : FSt → Tm → Except Int (Tm × FSt)) : Prop := ∀ st t, TP (stP ms) t → F st t = .error 11 ∨ ∃ st', F st t = .ok (t, st')
def FErr (F : FSt → Tm → Except Int (Tm × FSt)) : Prop := ∀ st t e, F st t = .error e → e = 11 ∨ e = 22
mutual
theorem metasW_mem {p : Int → Int → ByteArray → List Lvl → Prop} {q : Int → Prop} (hq : ∀ i n l, p 12 i n l → q i) : ∀ (t : Tm) (l : List Int), TP p t → (∀ x ∈ l, q x) → ∀ x ∈ metasW l t, q x
  | .mk k i n ls ks, l, h, hl => by
    unfold metasW
    split
    · rename_i hk
      split
      · exact hl
      · refine metassW_mem hq ks _ h.2 fun x hx => ?_
        rcases List.mem_append.1 hx with hx | hx
        · exact hl x hx
        · simp at hx; subst hx; exact hq _ _ _ (hk ▸ h.1)
    · exact metassW_mem hq ks l h.2 hl
theorem metassW_mem {p : Int → Int → ByteArray → List Lvl → Prop} {q : Int → Prop} (hq : ∀ i n l, p 12 i n l → q i) : ∀ (ts : List Tm) (l : List Int), TPs p ts → (∀ x ∈ l, q x) → ∀ x ∈ metassW l ts, q x
  | [], l, h, hl => by unfold metassW; exact hl
  | t :: ts, l, h, hl => by
    unfold metassW
    exact metassW_mem hq ts _ h.2 (metasW_mem hq t l h.1 hl)
end
end Go.Eu
/- Terms as they come in; what the laws' checks of sizes say. -/
namespace Go.Eu
open Go.Abs
set_option linter.unusedVariables false
set_option linter.unusedSimpArgs false
/-- A bound that no list that comes in reaches. -/
abbrev wide : Nat := 9223372036854775808
structure WdL (l : Lvl) : Prop where
  vars : l.vars.length < wide
mutual
/-- The lists and names of a term are shorter than 'wide'. -/
def Wd : Tm → Prop
  | .mk k i n ls ks => n.size < wide ∧ ls.length < wide ∧ (∀ l ∈ ls, WdL l) ∧ ks.length < wide ∧ Wds ks ∧ rng k ∧ rng i
def Wds : List Tm → Prop
  | [] => True
  | t :: ts => Wd t ∧ Wds ts
end
theorem Wds_mem : ∀ {ts : List Tm} {i : Nat} {t : Tm}, Wds ts → ts[i]? = some t → Wd t
  | [], i, t, _, h => by simp at h
  | a :: ts, 0, t, hn, h => by simp at h; subst h; exact hn.1
  | a :: ts, i + 1, t, hn, h => by simp at h; exact Wds_mem hn.2 h
/-- What 'Few' has seen of a node. -/
def fewN : Tm → Prop
  | .mk k i n ls ks => n.size ≤ 200 ∧ ls.length ≤ 20 ∧ (∀ l ∈ ls, l.vars.length ≤ 20) ∧ sizes ks ≤ 200 ∧ Nds ks
theorem few_nd {t : Tm} (h : Wd t) (hf : fewN t) : Nd t := by
  obtain ⟨k, i, n, ls, ks⟩ := t
  obtain ⟨h1, h2, h3, h4, h5⟩ := hf
  have := len_le_sizes ks
  exact ⟨by simp only [big]; omega, by simp only [big]; omega, fun l hl => ⟨by have := h3 l hl; simp only [big]; omega⟩, by simp only [big]; omega, h5, h.2.2.2.2.2⟩
mutual
theorem nodesT_le : ∀ (t : Tm) (most : Int), -1152921504606846976 ≤ most → most ≤ 1152921504606846976 → (size t : Int) ≤ 1152921504606846976 → 0 ≤ nodesT t most ∧ nodesT t most < size t ∧ (nodesT t most ≤ most → nodesT t most + 1 = size t)
  | .mk k i n l ks, most, h1, h2, h3 => by
    simp only [size] at h3 ⊢
    unfold nodesT
    have := nodesL_le ks most 0 h1 h2 (by omega) (by omega)
    exact ⟨this.1, by omega, fun h => by have := this.2.2 h; omega⟩
theorem nodesL_le : ∀ (ts : List Tm) (most n : Int), -1152921504606846976 ≤ most → most ≤ 1152921504606846976 → 0 ≤ n → n + sizes ts ≤ 1152921504606846976 → n ≤ nodesL ts most n ∧ nodesL ts most n ≤ n + sizes ts ∧ (nodesL ts most n ≤ most → nodesL ts most n = n + sizes ts)
  | [], most, n, h1, h2, h3, h4 => by simp [nodesL, sizes]
  | t :: ts, most, n, h1, h2, h3, h4 => by
    simp only [sizes] at h4 ⊢
    have hp := size_pos t
    unfold nodesL
    by_cases hm : n > most
    · rw [if_pos hm]; exact ⟨by omega, by omega, by omega⟩
    · rw [if_neg hm]
      have e1 : wr (most - n) = most - n := wr_in ⟨by omega, by omega⟩
      have hT := nodesT_le t (most - n) (by omega) (by omega) (by omega)
      rw [e1]
      have e2 : wr (1 + nodesT t (most - n)) = 1 + nodesT t (most - n) := wr_in ⟨by omega, by omega⟩
      rw [e2]
      have e3 : wr (n + (1 + nodesT t (most - n))) = n + (1 + nodesT t (most - n)) := wr_in ⟨by omega, by omega⟩
      rw [e3]
      have hL := nodesL_le ts most (n + (1 + nodesT t (most - n))) h1 h2 (by omega) (by omega)
      refine ⟨by omega, by omega, fun h => ?_⟩
      have := hL.2.2 h
      have := hT.2.2 (by omega)
      omega
end
theorem few_size {t : Tm} (h : fewN t) : size t ≤ 201 := by
  obtain ⟨k, i, n, ls, ks⟩ := t
  have := h.2.2.2.1
  simp only [size]
  omega
theorem nodesL_ge : ∀ (ts : List Tm) (most n : Int), 0 ≤ most → most ≤ 1000 → 0 ≤ n → n ≤ 3000 → (∀ t ∈ ts, size t ≤ 201) → n ≤ nodesL ts most n
  | [], most, n, h1, h2, h3, h4, hs => by simp [nodesL]
  | t :: ts, most, n, h1, h2, h3, h4, hs => by
    have ht := hs t (by simp)
    unfold nodesL
    by_cases hm : n > most
    · rw [if_pos hm]; omega
    · rw [if_neg hm]
      have e1 : wr (most - n) = most - n := wr_in ⟨by omega, by omega⟩
      have hT := nodesT_le t (most - n) (by omega) (by omega) (by omega)
      rw [e1]
      have e2 : wr (1 + nodesT t (most - n)) = 1 + nodesT t (most - n) := wr_in ⟨by omega, by omega⟩
      rw [e2]
      have e3 : wr (n + (1 + nodesT t (most - n))) = n + (1 + nodesT t (most - n)) := wr_in ⟨by omega, by omega⟩
      rw [e3]
      have hge := nodesL_ge ts most (n + (1 + nodesT t (most - n))) h1 h2 (by omega) (by omega) (fun x hx => hs x (by simp [hx]))
      omega
theorem nodesL_lo : ∀ (ts : List Tm) (most n : Int), 0 ≤ most → most ≤ 1000 → 0 ≤ n → n ≤ 3000 → (∀ t ∈ ts, size t ≤ 201) → nodesL ts most n ≤ most → nodesL ts most n = n + sizes ts
  | [], most, n, h1, h2, h3, h4, hs, h => by simp [nodesL, sizes]
  | t :: ts, most, n, h1, h2, h3, h4, hs, h => by
    have ht := hs t (by simp)
    simp only [sizes]
    unfold nodesL at h ⊢
    by_cases hm : n > most
    · rw [if_pos hm] at h; omega
    · rw [if_neg hm] at h ⊢
      have e1 : wr (most - n) = most - n := wr_in ⟨by omega, by omega⟩
      have hT := nodesT_le t (most - n) (by omega) (by omega) (by omega)
      rw [e1] at h ⊢
      have e2 : wr (1 + nodesT t (most - n)) = 1 + nodesT t (most - n) := wr_in ⟨by omega, by omega⟩
      rw [e2] at h ⊢
      have e3 : wr (n + (1 + nodesT t (most - n))) = n + (1 + nodesT t (most - n)) := wr_in ⟨by omega, by omega⟩
      rw [e3] at h ⊢
      have hL := nodesL_lo ts most (n + (1 + nodesT t (most - n))) h1 h2 (by omega) (by omega) (fun x hx => hs x (by simp [hx])) h
      have hge := nodesL_ge ts most (n + (1 + nodesT t (most - n))) h1 h2 (by omega) (by omega) (fun x hx => hs x (by simp [hx]))
      have := hT.2.2 (by omega)
      omega
/-- What Few says of a list. -/
structure FewP (l : List Tm) : Prop where
  sz : sizes l ≤ 200
  nd : Nds l
theorem few_end {l : List Tm} {m : Nat} (hm : l.length ≤ m) (hw : Wds l) (hl : l.length < wide) (h : nodesL l 200 0 ≤ 200) (hc : ∀ j, j < m → ∀ t, l[j]? = some t → fewN t) : FewP l := by
  have hf : ∀ t ∈ l, fewN t := fun t ht => by
    obtain ⟨i, hi⟩ := mem_of_idx ht
    exact hc i (by have := (List.getElem?_eq_some_iff.1 hi).1; omega) t hi
  have := nodesL_lo l 200 0 (by omega) (by omega) (by omega) (by omega) (fun t ht => few_size (hf t ht)) h
  exact ⟨by omega, Nds_of fun t ht => by
    obtain ⟨i, hi⟩ := mem_of_idx ht
    exact few_nd (Wds_mem hw hi) (hf t ht)⟩
theorem nodes_small {l : List Tm} {m : Int} (hf : FewP l) (hm : 0 ≤ m ∧ m ≤ 1000) (h : nodesL l m 0 ≤ m) : (sizes l : Int) ≤ m := by
  have := hf.sz
  have := (nodesL_le l m 0 (by omega) (by omega) (by omega) (by omega)).2.2 h
  omega
theorem fewP_one {l : List Tm} (hf : FewP l) {t : Tm} (ht : t ∈ l) : Nd t ∧ size t ≤ 200 := ⟨Nds_get hf.nd ht, by have := sizes_get ht; have := hf.sz; omega⟩
/-- What Good says of the metavariables. -/
structure GoodM (m : Nat) (x : Mv) : Prop where
  n1 : Nd x.type
  n2 : Nd x.value
  sz : size x.type + size x.value ≤ 40
  w1 : wf 0 m 0 x.type
  w2 : x.known = true → wf 0 m 0 x.value
  w3 : x.known = false → x.value = zeroT
structure GoodP (l : List Mv) : Prop where
  len : l.length ≤ 8
  all : ∀ m ∈ l, GoodM l.length m
structure SmallP (m : Nat) (ctx terms : List Tm) : Prop where
  len : ctx.length ≤ 6
  s1 : sizes ctx ≤ 60
  s2 : sizes terms ≤ 60
  n1 : Nds ctx
  n2 : Nds terms
  w2 : ∀ t ∈ terms, wf ctx.length m 0 t
  w1 : ∀ (i : Nat) (t : Tm), ctx[i]? = some t → wf i m 0 t
/-- A metavariable as it comes in. -/
structure WdM (x : Mv) : Prop where
  w1 : Wd x.type
  w2 : Wd x.value
/- from the checks to the filling -/
mutual
theorem wf_vp {vars m : Int} (hv : vars ≤ 65536) : ∀ (t : Tm) (d : Int), wf vars m d t → 0 ≤ d → d + size t ≤ 1073741824 → Vp t
  | .mk k i n l ks, d, h, h0, h1 => by
    simp only [wf, size] at h h1
    exact ⟨fun e => by have := h.2.2.2.1 e; omega, wfs_vp hv ks k d 0 h.2.2.2.2.2 h0 (by omega)⟩
theorem wfs_vp {vars m : Int} (hv : vars ≤ 65536) : ∀ (ts : List Tm) (k d : Int) (j : Nat), wfs vars m k d j ts → 0 ≤ d → d + 1 + sizes ts ≤ 1073741824 → Vps ts
  | [], k, d, j, h, h0, h1 => trivial
  | t :: ts, k, d, j, h, h0, h1 => by
    have := below_le k j
    simp only [wfs, sizes] at h h1
    exact ⟨wf_vp hv t _ h.1 (by omega) (by omega), wfs_vp hv ts k d (j + 1) h.2 h0 (by omega)⟩
end
theorem ok_of {vars m : Int} {t : Tm} {B : Nat} (hv : vars ≤ 65536) (h : wf vars m 0 t) (hn : Nd t) (hs : size t ≤ B) (hB : B ≤ 1000) : Ok B t := ⟨hn, wf_vp hv t 0 h (by omega) (by omega), wf_wt t 0 h, hs⟩
theorem good_ok {l : List Mv} (h : GoodP l) : ∀ m ∈ l, Ok 60 m.value := by
  intro m hm
  have g := h.all m hm
  have := g.sz
  cases hk : m.known with
  | true => exact ok_of (by omega) (g.w2 hk) g.n2 (by omega) (by omega)
  | false => rw [g.w3 hk]; exact ok_zero (by omega)
theorem good_rg {l : List Mv} (h : GoodP l) : ∀ m ∈ l, TP (rgP l.length) m.value := by
  intro m hm
  have g := h.all m hm
  cases hk : m.known with
  | true => exact wf_rg _ 0 (g.w2 hk)
  | false => rw [g.w3 hk]; exact ⟨fun e => absurd e (by decide), trivial⟩
theorem good_ms {l : List Mv} (h : GoodP l) : MsOk 60 l := fun m hm => by
  have := good_ok h m hm
  exact ⟨this.nd, this.wt, this.sz⟩
end Go.Eu
