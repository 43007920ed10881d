/- Part of the proofs about metavariables: an abstract program logic, plain models and contracts of functions. -/
import Derived.Test.YtgfecpjmbgcobaaGreatPf
/- What the program's substitution computes. -/
namespace Go.Eu
open Go.Abs
set_option linter.unusedVariables false
mutual
/-- The variables have indices that are not negative, and not great. -/
def Vp : Tm → Prop
  | .mk k i _ _ ks => (k = 0 → 0 ≤ i ∧ i < 1099511627776) ∧ Vps ks
def Vps : List Tm → Prop
  | [] => True
  | t :: ts => Vp t ∧ Vps ts
end
theorem Vps_mem : ∀ {ts : List Tm} {i : Nat} {t : Tm}, Vps ts → ts[i]? = some t → Vp t
  | [], i, t, _, h => by simp at h
  | a :: ts, 0, t, hn, h => by simp at h; subst h; exact hn.1
  | a :: ts, i + 1, t, hn, h => by simp at h; exact Vps_mem hn.2 h
def plainT : Tm → Tm
  | .mk k i n l _ => .mk k i n l []
def movedW (i : Int) : Except Int Tm := if i > 65535 then .error 24 else .ok (varT i)
def addW (n m : Int) : Except Int Int := if wr (n + m) > 4096 then .error 5 else .ok (wr (n + m))
/-- The function that 'shifted' hands to 'variables'. -/
def shV (b fr : Int) (t : Tm) (d : Int) : Except Int Tm :=
  if t.index - d < fr then .ok (plainT t) else if b < 0 ∧ t.index - d < fr - b then .error 24 else movedW (t.index + b)
def exMap {α β : Type} (f : α → β) : Except Int α → Except Int β
  | .error e => .error e
  | .ok x => .ok (f x)
def exThen {α β : Type} (x : Except Int α) (f : α → Except Int β) : Except Int β :=
  match x with
  | .error e => .error e
  | .ok x => f x
def varV (rep : Tm → Int → Except Int Tm) (s : Unit) (t : Tm) (d : Int) : Except Int ((Tm × Bool) × Unit) :=
  if t.kind = 0 then exMap (fun x => ((x, true), ())) (rep t d) else .ok ((plainT t, false), ())
mutual
def buildW {σ : Type} (vis : σ → Tm → Int → Except Int ((Tm × Bool) × σ)) : Tm → Int → σ → Except Int (Tm × σ)
  | .mk k i n l ks, d, s => exThen (vis s (.mk k i n l ks) d) fun r =>
      if r.1.2 = true then .ok (r.1.1, r.2) else exThen (buildsW vis k 0 ks d r.2) fun q => .ok (withKids r.1.1 q.1, q.2)
def buildsW {σ : Type} (vis : σ → Tm → Int → Except Int ((Tm × Bool) × σ)) (k : Int) : Nat → List Tm → Int → σ → Except Int (List Tm × σ)
  | _, [], _, s => .ok ([], s)
  | j, t :: ts, d, s => exThen (buildW vis t (d + below k j) s) fun r => exThen (buildsW vis k (j + 1) ts d r.2) fun q => .ok (r.1 :: q.1, q.2)
end
section
variable {σ : Type} {vis : σ → Tm → Int → Except Int ((Tm × Bool) × σ)}
theorem buildW_done {t : Tm} {d : Int} {s q : σ} {o : Tm} (h : vis s t d = .ok ((o, true), q)) : buildW vis t d s = .ok (o, q) := by
  obtain ⟨k, i, n, l, ks⟩ := t
  simp [buildW, h, exThen]
theorem buildW_err {t : Tm} {d e : Int} {s : σ} (h : vis s t d = .error e) : buildW vis t d s = .error e := by
  obtain ⟨k, i, n, l, ks⟩ := t
  simp [buildW, h, exThen]
theorem buildW_kids {k i d : Int} {n : ByteArray} {l : List Lvl} {ks : List Tm} {s q q' : σ} {o : Tm} {ys : List Tm} (h : vis s (.mk k i n l ks) d = .ok ((o, false), q)) (hk : buildsW vis k 0 ks d q = .ok (ys, q')) : buildW vis (.mk k i n l ks) d s = .ok (withKids o ys, q') := by
  simp [buildW, h, exThen, hk]
theorem buildW_kerr {k i d e : Int} {n : ByteArray} {l : List Lvl} {ks : List Tm} {s q : σ} {o : Tm} (h : vis s (.mk k i n l ks) d = .ok ((o, false), q)) (hk : buildsW vis k 0 ks d q = .error e) : buildW vis (.mk k i n l ks) d s = .error e := by
  simp [buildW, h, exThen, hk]
/-- Where the walk over the kids stands: 'ys' are built. -/
def BInv (vis : σ → Tm → Int → Except Int ((Tm × Bool) × σ)) (k : Int) (ts : List Tm) (d : Int) (q0 : σ) (i : Nat) (ys : List Tm) (q : σ) : Prop :=
  ys.length = i ∧ buildsW vis k 0 ts d q0 = exThen (buildsW vis k i (ts.drop i) d q) fun r => .ok (ys ++ r.1, r.2)
theorem BInv.zero (k : Int) (ts : List Tm) (d : Int) (q0 : σ) : BInv vis k ts d q0 0 [] q0 := by
  refine ⟨rfl, ?_⟩
  simp only [List.drop_zero, List.nil_append]
  cases buildsW vis k 0 ts d q0 <;> rfl
theorem BInv.err {k d e : Int} {ts ys : List Tm} {q0 q : σ} {i : Nat} {x : Tm} (h : BInv vis k ts d q0 i ys q) (hx : ts[i]? = some x) (hb : buildW vis x (d + below k i) q = .error e) : buildsW vis k 0 ts d q0 = .error e := by
  rw [h.2, drop_at hx, buildsW, hb]; rfl
theorem BInv.succ {k d : Int} {ts ys : List Tm} {q0 q q' : σ} {i : Nat} {x y : Tm} (h : BInv vis k ts d q0 i ys q) (hx : ts[i]? = some x) (hb : buildW vis x (d + below k i) q = .ok (y, q')) : BInv vis k ts d q0 (i + 1) (ys ++ [y]) q' := by
  refine ⟨by simp [h.1], ?_⟩
  rw [h.2, drop_at hx, buildsW, hb]
  simp only [exThen]
  cases buildsW vis k (i + 1) (ts.drop (i + 1)) d q' <;> simp
theorem BInv.fin {k d : Int} {ts ys : List Tm} {q0 q : σ} {i : Nat} (h : BInv vis k ts d q0 i ys q) (hi : ts.length ≤ i) : buildsW vis k 0 ts d q0 = .ok (ys, q) := by
  rw [h.2, List.drop_eq_nil_of_le hi, buildsW]; simp [exThen]
end
theorem set_fill {ys : List Tm} {i m : Nat} {x : Tm} (h : ys.length = i) (hm : 0 < m) : (ys ++ List.replicate m zeroT).set i x = (ys ++ [x]) ++ List.replicate (m - 1) zeroT := by
  subst h
  cases m with
  | zero => omega
  | succ m => simp [List.replicate_succ]
section
variable {b fr d k i : Int} {n : ByteArray} {l : List Lvl} {ks : List Tm}
theorem shV_low (h : i - d < fr) : shV b fr (.mk k i n l ks) d = .ok (.mk k i n l []) := by simp [shV, Tm.index, plainT, h]
theorem shV_bad (h : ¬ i - d < fr) (h2 : b < 0) (h3 : i - d < fr - b) : shV b fr (.mk k i n l ks) d = .error 24 := by unfold shV; exact (if_neg h).trans (if_pos ⟨h2, h3⟩)
theorem shV_go (h : ¬ i - d < fr) (h2 : ¬ (b < 0 ∧ i - d < fr - b)) : shV b fr (.mk k i n l ks) d = movedW (i + b) := by unfold shV; exact (if_neg h).trans (if_neg h2)
variable {rep : Tm → Int → Except Int Tm} {s : Unit}
theorem varV_var {e : Int} (h : k = 0) (hr : rep (.mk k i n l ks) d = .error e) : varV rep s (.mk k i n l ks) d = .error e := by unfold varV; exact (if_pos h).trans (by rw [hr]; rfl)
theorem varV_ok {x : Tm} (h : k = 0) (hr : rep (.mk k i n l ks) d = .ok x) : varV rep s (.mk k i n l ks) d = .ok ((x, true), ()) := by unfold varV; exact (if_pos h).trans (by rw [hr]; rfl)
theorem varV_no (h : k ≠ 0) : varV rep s (.mk k i n l ks) d = .ok ((.mk k i n l [], false), ()) := by unfold varV; exact (if_neg h).trans rfl
end
def shiftP (b fr : Int) (t : Tm) : Except Int Tm := exMap Prod.fst (buildW (varV (shV b fr)) t 0 ())
theorem exMap_ok {α β : Type} {f : α → β} {x : Except Int α} {a : α} (h : x = .ok a) : exMap f x = .ok (f a) := by rw [h]; rfl
theorem exMap_err {α β : Type} {f : α → β} {x : Except Int α} {e : Int} (h : x = .error e) : exMap f x = .error e := by rw [h]; rfl
/-- The number of the value that takes the place of a variable, or -1. -/
def valI (vs : List Tm) (dp ti d : Int) : Int := if 0 ≤ wr (wr (ti - d) - dp) ∧ wr (wr (ti - d) - dp) < (vs.length : Int) then wr (wr (ti - d) - dp) else -1
theorem valI_yes {vs : List Tm} {dp ti d : Int} (h1 : 0 ≤ wr (wr (ti - d) - dp)) (h2 : wr (wr (ti - d) - dp) < (vs.length : Int)) : valI vs dp ti d = wr (wr (ti - d) - dp) := if_pos ⟨h1, h2⟩
theorem valI_no {vs : List Tm} {dp ti d : Int} (h : ¬ (0 ≤ wr (wr (ti - d) - dp) ∧ wr (wr (ti - d) - dp) < (vs.length : Int))) : valI vs dp ti d = -1 := if_neg h
theorem valI_lt {vs : List Tm} {dp ti d : Int} (h : 0 ≤ valI vs dp ti d) : valI vs dp ti d < (vs.length : Int) := by
  unfold valI at *
  split <;> omega
def cntN (vs : List Tm) (sz : List Int) (dp : Int) (t : Tm) (d : Int) : Int :=
  if t.kind = 0 ∧ 0 ≤ valI vs dp t.index d then sz.getD (valI vs dp t.index d).toNat 0 else 1
def cntV (vs : List Tm) (sz : List Int) (dp : Int) (n : Int) (t : Tm) (d : Int) : Except Int ((Tm × Bool) × Int) :=
  exMap (fun m => ((zeroT, decide (t.kind = 0)), m)) (addW n (cntN vs sz dp t d))
def repV (vs : List Tm) (dp : Int) (t : Tm) (d : Int) : Except Int Tm :=
  if 0 ≤ valI vs dp t.index d then shiftP (wr (dp + d)) 0 (vs.getD (valI vs dp t.index d).toNat zeroT)
  else if wr (t.index - d) < dp then .ok (plainT t) else movedW (wr (t.index - vs.length))
def underE (vs : List Tm) (dp : Int) (t : Tm) : Except Int Tm :=
  exThen (buildW (cntV vs (vs.map fun v => (size v : Int)) dp) t 0 0) fun _ => exMap Prod.fst (buildW (varV (repV vs dp)) t 0 ())
/-- What the program's Under returns. -/
def underP (t : Tm) (vs : List Tm) (dp : Int) : Tm × Int :=
  match underE vs dp t with
  | .error e => (zeroT, e)
  | .ok x => if depthW x > 200 then (zeroT, 7) else (x, 0)
section
variable {vs : List Tm} {sz : List Int} {dp n d k i r m e : Int} {nm : ByteArray} {l : List Lvl} {ks : List Tm}
theorem cntV_ok (hm : cntN vs sz dp (.mk k i nm l ks) d = m) (hz : addW n m = .ok r) : cntV vs sz dp n (.mk k i nm l ks) d = .ok ((zeroT, decide (k = 0)), r) := by
  subst hm; exact exMap_ok hz
theorem cntV_err (hm : cntN vs sz dp (.mk k i nm l ks) d = m) (hz : addW n m = .error e) : cntV vs sz dp n (.mk k i nm l ks) d = .error e := by
  subst hm; exact exMap_err hz
theorem cntN_yes (h : k = 0 ∧ 0 ≤ valI vs dp i d) (hx : sz[(valI vs dp i d).toNat]? = some m) : cntN vs sz dp (.mk k i nm l ks) d = m := by
  unfold cntN
  refine (if_pos h).trans ?_
  rw [List.getD_eq_getElem?_getD]
  exact (congrArg (fun o => Option.getD o 0) hx)
theorem cntN_no (h : ¬ (k = 0 ∧ 0 ≤ valI vs dp i d)) : cntN vs sz dp (.mk k i nm l ks) d = 1 := by
  unfold cntN
  exact if_neg h
theorem repV_val {v : Tm} (h : 0 ≤ valI vs dp i d) (hx : vs[(valI vs dp i d).toNat]? = some v) : repV vs dp (.mk k i nm l ks) d = shiftP (wr (dp + d)) 0 v := by
  unfold repV
  refine (if_pos h).trans ?_
  rw [List.getD_eq_getElem?_getD]
  exact (congrArg (fun o => shiftP (wr (dp + d)) 0 (Option.getD o zeroT)) hx)
theorem repV_low (h : ¬ 0 ≤ valI vs dp i d) (h2 : wr (i - d) < dp) : repV vs dp (.mk k i nm l ks) d = .ok (.mk k i nm l []) := by
  unfold repV; exact (if_neg h).trans ((if_pos h2).trans rfl)
theorem repV_mv (h : ¬ 0 ≤ valI vs dp i d) (h2 : ¬ wr (i - d) < dp) : repV vs dp (.mk k i nm l ks) d = movedW (wr (i - vs.length)) := by
  unfold repV; exact (if_neg h).trans (if_neg h2)
end
theorem underP_error {t : Tm} {vs : List Tm} {dp e : Int} (h : underE vs dp t = .error e) : underP t vs dp = (zeroT, e) := by unfold underP; rw [h]
theorem underP_deep {t x : Tm} {vs : List Tm} {dp : Int} (h : underE vs dp t = .ok x) (hd : depthW x > 200) : underP t vs dp = (zeroT, 7) := by unfold underP; rw [h]; exact if_pos hd
theorem underP_ok {t x : Tm} {vs : List Tm} {dp : Int} (h : underE vs dp t = .ok x) (hd : ¬ depthW x > 200) : underP t vs dp = (x, 0) := by unfold underP; rw [h]; exact if_neg hd
theorem underE_ok {t x : Tm} {vs : List Tm} {dp : Int} {a : Tm × Int} {b : Unit} (h1 : buildW (cntV vs (vs.map fun v => (size v : Int)) dp) t 0 0 = .ok a) (h2 : buildW (varV (repV vs dp)) t 0 () = .ok (x, b)) : underE vs dp t = .ok x := by
  unfold underE; rw [h1]; exact exMap_ok h2
theorem underE_err1 {t : Tm} {vs : List Tm} {dp e : Int} (h1 : buildW (cntV vs (vs.map fun v => (size v : Int)) dp) t 0 0 = .error e) : underE vs dp t = .error e := by
  unfold underE; rw [h1]; rfl
theorem underE_err2 {t : Tm} {vs : List Tm} {dp e : Int} {a : Tm × Int} (h1 : buildW (cntV vs (vs.map fun v => (size v : Int)) dp) t 0 0 = .ok a) (h2 : buildW (varV (repV vs dp)) t 0 () = .error e) : underE vs dp t = .error e := by
  unfold underE; rw [h1]; exact exMap_err h2
end Go.Eu
/- What the program's substitution returns is a term. -/
namespace Go.Eu
open Go.Abs
set_option linter.unusedVariables false
theorem Nds_of : ∀ {ts : List Tm}, (∀ t ∈ ts, Nd t) → Nds ts
  | [], _ => trivial
  | t :: ts, h => ⟨h t (by simp), Nds_of fun x hx => h x (by simp [hx])⟩
section
variable {σ : Type} {vis : σ → Tm → Int → Except Int ((Tm × Bool) × σ)}
mutual
theorem buildW_nd (hv : ∀ s t d r, Nd t → Vp t → vis s t d = .ok r → Nd r.1.1) : ∀ (t : Tm) (d : Int) (s : σ) (r : Tm × σ), Nd t → Vp t → buildW vis t d s = .ok r → Nd r.1
  | .mk k i n l ks, d, s, r, h1, h2, h => by
    unfold buildW exThen at h
    split at h
    · cases h
    · rename_i r1 hr
      have hn := hv _ _ _ _ h1 h2 hr
      simp only at h
      split at h
      · injection h with h; subst h; exact hn
      · split at h
        · cases h
        · rename_i q hq
          injection h with h; subst h
          obtain ⟨g1, g2⟩ := buildsW_nd hv ks k 0 d r1.2 q h1.2.2.2.2.1 h2.2 hq
          obtain ⟨⟨o, dn⟩, q1⟩ := r1
          obtain ⟨ok, oi, on, ol, os⟩ := o
          exact ⟨hn.1, hn.2.1, hn.2.2.1, by rw [g2]; exact h1.2.2.2.1, g1, hn.2.2.2.2.2⟩
theorem buildsW_nd (hv : ∀ s t d r, Nd t → Vp t → vis s t d = .ok r → Nd r.1.1) : ∀ (ts : List Tm) (k : Int) (j : Nat) (d : Int) (s : σ) (r : List Tm × σ), Nds ts → Vps ts → buildsW vis k j ts d s = .ok r → Nds r.1 ∧ r.1.length = ts.length
  | [], k, j, d, s, r, h1, h2, h => by
    unfold buildsW at h
    injection h with h; subst h; exact ⟨trivial, rfl⟩
  | t :: ts, k, j, d, s, r, h1, h2, h => by
    unfold buildsW exThen at h
    split at h
    · cases h
    · rename_i r1 hr
      simp only at h
      split at h
      · cases h
      · rename_i q hq
        injection h with h; subst h
        obtain ⟨g1, g2⟩ := buildsW_nd hv ts k (j + 1) d r1.2 q h1.2 h2.2 hq
        exact ⟨⟨buildW_nd hv t _ _ _ h1.1 h2.1 hr, g1⟩, by simp [g2]⟩
end
end
theorem nd_plain {t : Tm} (h : Nd t) : Nd (plainT t) := by
  obtain ⟨k, i, n, l, ks⟩ := t
  exact ⟨h.1, h.2.1, h.2.2.1, by decide, trivial, h.2.2.2.2.2⟩
theorem nd_moved {i : Int} {x : Tm} (hi : -9223372036854775808 ≤ i) (h : movedW i = .ok x) : Nd x := by
  unfold movedW at h
  split at h
  · cases h
  · injection h with h; subst h
    exact ⟨by decide, by decide, by simp, by decide, trivial, ⟨by decide, by decide⟩, ⟨hi, by omega⟩⟩
theorem varV_nd {rep : Tm → Int → Except Int Tm} (hr : ∀ t d x, Nd t → Vp t → t.kind = 0 → rep t d = .ok x → Nd x) : ∀ (s : Unit) (t : Tm) (d : Int) (r : (Tm × Bool) × Unit), Nd t → Vp t → varV rep s t d = .ok r → Nd r.1.1 := by
  intro s t d r h1 h2 h
  unfold varV at h
  split at h
  · rename_i hk
    unfold exMap at h
    split at h
    · cases h
    · rename_i x hx
      injection h with h; subst h
      exact hr t d x h1 h2 hk hx
  · injection h with h; subst h; exact nd_plain h1
theorem shiftP_nd {b fr : Int} {t x : Tm} (hb : rng b) (h1 : Nd t) (h2 : Vp t) (h : shiftP b fr t = .ok x) : Nd x := by
  unfold shiftP exMap at h
  split at h
  · cases h
  · rename_i r hr
    injection h with h; subst h
    refine buildW_nd (varV_nd ?_) t 0 () r h1 h2 hr
    intro t d x g1 g2 g3 g
    obtain ⟨k, i, n, l, ks⟩ := t
    have hi := g2.1 g3
    unfold shV at g
    split at g
    · injection g with g; subst g; exact nd_plain g1
    · split at g
      · cases g
      · exact nd_moved (by have := hb.1; simp only [Tm.index]; omega) g
theorem repW_nd {vs : List Tm} {dp : Int} {t x : Tm} {u : Unit} (hv : Nds vs) (hp : Vps vs) (h1 : Nd t) (h2 : Vp t) (h : buildW (varV (repV vs dp)) t 0 () = .ok (x, u)) : Nd x := by
  refine buildW_nd (varV_nd ?_) t 0 () (x, u) h1 h2 h
  intro t d x g1 g2 g3 g
  unfold repV at g
  split at g
  · rename_i h0
    have hl := valI_lt h0
    obtain ⟨v, hx⟩ := getElem?_of_lt (l := vs) (i := (valI vs dp t.index d).toNat) (by omega)
    rw [List.getD_eq_getElem?_getD, hx] at g
    exact shiftP_nd (rng_wr _) (Nds_mem hv hx) (Vps_mem hp hx) g
  · split at g
    · injection g with g; subst g; exact nd_plain g1
    · exact nd_moved (rng_wr _).1 g
theorem szfill {vs : List Tm} {i : Nat} {x : Tm} (hx : vs[i]? = some x) : (((vs.take i).map fun v => (size v : Int)) ++ List.replicate (vs.length - i) 0).set i (size x : Int) = ((vs.take (i + 1)).map fun v => (size v : Int)) ++ List.replicate (vs.length - (i + 1)) 0 := by
  have hi : i < vs.length := by
    rcases Nat.lt_or_ge i vs.length with h | h
    · exact h
    · rw [List.getElem?_eq_none h] at hx; cases hx
  obtain ⟨m, hm⟩ : ∃ m, vs.length - i = m + 1 := ⟨vs.length - i - 1, by omega⟩
  have hl : ((vs.take i).map fun v => (size v : Int)).length = i := by simp; omega
  rw [List.take_add_one, hx, hm, show vs.length - (i + 1) = m by omega, List.replicate_succ, List.set_append_right _ _ (by omega), hl]
  simp
theorem szall {vs : List Tm} {i : Nat} (h : vs.length ≤ i) : ((vs.take i).map fun v => (size v : Int)) ++ List.replicate (vs.length - i) 0 = vs.map fun v => (size v : Int) := by
  rw [List.take_of_length_le h, show vs.length - i = 0 by omega]; simp
end Go.Eu
/- The program's substitution is the reference's. -/
namespace Go.Eu
open Go.Abs
set_option linter.unusedVariables false
set_option linter.unusedSimpArgs false
theorem wt_var0 {k i : Int} {n : ByteArray} {l : List Lvl} {ks : List Tm} (h : Wt (.mk k i n l ks)) (hk : k = 0) : ks = [] := by
  have := h.1
  subst hk
  cases ks with
  | nil => rfl
  | cons a b => simp [arity] at this; omega
def exPair (x : Tm × Int) : Except Int (Tm × Unit) := if x.2 = 0 then .ok (x.1, ()) else .error x.2
def exPairs (x : List Tm × Int) : Except Int (List Tm × Unit) := if x.2 = 0 then .ok (x.1, ()) else .error x.2
theorem vfail_ne {er e : Int} (h : er ≠ 0) : vfail er e = er := by unfold vfail; rw [if_neg h]
theorem varE_ne {er i : Int} (h : er ≠ 0) : varE er i = er := by unfold varE; split <;> simp [vfail_ne h]
mutual
theorem shiftW_er (b fr : Int) : ∀ (t : Tm) (d er : Int), er ≠ 0 → (shiftW b fr d er t).2 = er
  | .mk k i n l ks, d, er, h => by
    unfold shiftW
    split
    · split
      · rfl
      · split
        · exact vfail_ne h
        · exact varE_ne h
    · exact shiftsW_er b fr k ks d 0 er h
theorem shiftsW_er (b fr k : Int) : ∀ (ts : List Tm) (d : Int) (j : Nat) (er : Int), er ≠ 0 → (shiftsW b fr k d j er ts).2 = er
  | [], d, j, er, h => rfl
  | t :: ts, d, j, er, h => by
    unfold shiftsW
    simp only
    rw [shiftW_er b fr t _ er h]
    exact shiftsW_er b fr k ts d (j + 1) er h
end
mutual
theorem shift_law (b : Int) (hb : 0 ≤ b) (hb2 : b < 4398046511104) : ∀ (t : Tm) (d : Int), Wt t → Vp t → 0 ≤ d → d + size t < 2199023255552 → buildW (varV (shV b 0)) t d () = exPair (shiftW b 0 d 0 t)
  | .mk k i n l ks, d, h1, h2, h3, h4 => by
    by_cases hk : k = 0
    · have hks := wt_var0 h1 hk
      have hi := h2.1 hk
      have e1 : wr (0 + d) = d := by rw [Int.zero_add]; exact wr_in (by unfold rng; omega)
      have e2 : wr (i + b) = i + b := wr_in (by unfold rng; omega)
      by_cases hlo : i - d < 0
      · rw [buildW_done (varV_ok hk (shV_low hlo))]
        unfold shiftW
        rw [if_pos hk, e1, if_pos (by omega)]
        subst hks
        rfl
      · have hsh : shV b 0 (.mk k i n l ks) d = movedW (i + b) := shV_go hlo (by omega)
        unfold shiftW
        rw [if_pos hk, e1, if_neg (by omega), e2, if_neg (by omega)]
        by_cases hbig : i + b > 65535
        · rw [buildW_err (varV_var hk (hsh.trans (if_pos hbig)))]
          unfold exPair varE vfail
          simp [hbig]
        · rw [buildW_done (varV_ok hk (hsh.trans (if_neg hbig)))]
          unfold exPair varE
          simp [hbig]
    · have hs : d + sizes ks < 2199023255551 := by simp only [size] at h4; omega
      have hL := shifts_law b hb hb2 k ks d 0 h1.2.2 h2.2 h3 hs
      unfold shiftW
      rw [if_neg hk]
      unfold exPairs at hL
      unfold exPair
      by_cases he : (shiftsW b 0 k d 0 0 ks).2 = 0
      · rw [if_pos he] at hL
        rw [if_pos he]
        exact buildW_kids (varV_no hk) hL
      · rw [if_neg he] at hL
        rw [if_neg he]
        exact buildW_kerr (varV_no hk) hL
theorem shifts_law (b : Int) (hb : 0 ≤ b) (hb2 : b < 4398046511104) (k : Int) : ∀ (ts : List Tm) (d : Int) (j : Nat), Wts ts → Vps ts → 0 ≤ d → d + sizes ts < 2199023255551 → buildsW (varV (shV b 0)) k j ts d () = exPairs (shiftsW b 0 k d j 0 ts)
  | [], d, j, h1, h2, h3, h4 => rfl
  | t :: ts, d, j, h1, h2, h3, h4 => by
    have hbl := below_le k j
    simp only [sizes] at h4
    have hT := shift_law b hb hb2 t (d + below k j) h1.1 h2.1 (by omega) (by omega)
    have hL := shifts_law b hb hb2 k ts d (j + 1) h1.2 h2.2 h3 (by omega)
    unfold buildsW shiftsW
    rw [hT]
    unfold exPair exPairs exThen
    by_cases he : (shiftW b 0 (d + below k j) 0 t).2 = 0
    · rw [if_pos he]
      simp only
      rw [hL, he]
      unfold exPairs
      by_cases hq : (shiftsW b 0 k d (j + 1) 0 ts).2 = 0
      · rw [if_pos hq, if_pos hq]
      · rw [if_neg hq, if_neg hq]
    · rw [if_neg he]
      simp only
      rw [shiftsW_er b 0 k ts d (j + 1) _ he, if_neg he]
end
theorem shiftP_eq {b : Int} {v : Tm} (hb : 0 ≤ b) (hb2 : b < 4398046511104) (h1 : Wt v) (h2 : Vp v) (h3 : size v < 1099511627776) : shiftP b 0 v = if (shiftW b 0 0 0 v).2 = 0 then .ok (shiftW b 0 0 0 v).1 else .error (shiftW b 0 0 0 v).2 := by
  unfold shiftP
  rw [shift_law b hb hb2 v 0 h1 h2 (by omega) (by omega)]
  unfold exPair
  split <;> rfl
section
variable {vs : List Tm} {d er nd k i : Int} {n : ByteArray} {l : List Lvl} {ks : List Tm}
theorem substW_cut {t : Tm} (h : nd > 4096) : substW vs d er nd t = (t, er, nd) := by
  obtain ⟨k, i, n, l, ks⟩ := t
  unfold substW; rw [if_pos h]
theorem substsW_cut (h : nd > 4096) : ∀ (ts : List Tm) (d : Int) (j : Nat), substsW vs k d j er nd ts = (ts, er, nd)
  | [], d, j => rfl
  | t :: ts, d, j => by unfold substsW; rw [substW_cut h]; simp only; rw [substsW_cut h ts d (j + 1)]
theorem substW_val {v : Tm} (h : nd ≤ 4096) (hk : k = 0) (h1 : i ≥ d) (h2 : i - d < (vs.length : Int)) (hv : vs[(i - d).toNat]? = some v) : substW vs d er nd (.mk k i n l ks) = ((shiftW d 0 0 er v).1, (shiftW d 0 0 er v).2, wr (nd + sizeW v)) := by
  unfold substW
  rw [if_neg (by omega), if_pos ⟨hk, h1, h2⟩, List.getD_eq_getElem?_getD, hv]
  rfl
theorem substW_up (h : nd ≤ 4096) (hk : k = 0) (h1 : i ≥ d) (h2 : ¬ i - d < (vs.length : Int)) : substW vs d er nd (.mk k i n l ks) = (varT (wr (i - vs.length)), varE er (wr (i - vs.length)), wr (nd + 1)) := by
  unfold substW
  rw [if_neg (by omega), if_neg (by omega), if_pos hk, if_pos h1]
theorem substW_low (h : nd ≤ 4096) (hk : k = 0) (h1 : ¬ i ≥ d) : substW vs d er nd (.mk k i n l ks) = (.mk k i n l ks, er, wr (nd + 1)) := by
  unfold substW
  rw [if_neg (by omega), if_neg (by omega), if_pos hk, if_neg h1]
theorem substW_node (h : nd ≤ 4096) (hk : k ≠ 0) : substW vs d er nd (.mk k i n l ks) = ((.mk k i n l (substsW vs k d 0 er (wr (nd + 1)) ks).1), (substsW vs k d 0 er (wr (nd + 1)) ks).2) := by
  unfold substW
  rw [if_neg (by omega), if_neg (by omega), if_neg hk]
end
mutual
theorem substW_er (vs : List Tm) : ∀ (t : Tm) (d er nd : Int), er ≠ 0 → (substW vs d er nd t).2.1 = er
  | .mk k i n l ks, d, er, nd, h => by
    unfold substW
    split
    · rfl
    · split
      · exact shiftW_er _ _ _ _ _ h
      · split
        · split
          · exact varE_ne h
          · rfl
        · exact substsW_er vs k ks d 0 er _ h
theorem substsW_er (vs : List Tm) (k : Int) : ∀ (ts : List Tm) (d : Int) (j : Nat) (er nd : Int), er ≠ 0 → (substsW vs k d j er nd ts).2.1 = er
  | [], d, j, er, nd, h => rfl
  | t :: ts, d, j, er, nd, h => by
    unfold substsW
    simp only
    rw [substW_er vs t _ er nd h]
    exact substsW_er vs k ts d (j + 1) er _ h
end
/-- What is said of the values. -/
structure Vals (vs : List Tm) (dp : Int) : Prop where
  wt : Wts vs
  vp : Vps vs
  sz : ∀ x ∈ vs, size x < 1099511627776
  len : vs.length < 1099511627776
  lo : 0 ≤ dp
  hi : dp ≤ 65536
theorem Vals.size {vs : List Tm} {dp : Int} (V : Vals vs dp) : ∀ x ∈ vs, (size x : Int) ≤ 1099511627776 := fun x hx => by have := V.sz x hx; omega
theorem valI_eq {vs : List Tm} {dp i d : Int} (V : Vals vs dp) (h1 : 0 ≤ i) (h2 : i < 1099511627776) (h3 : 0 ≤ d) (h4 : d < 2199023255552) : valI vs dp i d = if dp + d ≤ i ∧ i - (dp + d) < (vs.length : Int) then i - (dp + d) else -1 := by
  have := V.lo; have := V.hi
  have e1 : wr (i - d) = i - d := wr_in (by unfold rng; omega)
  have e2 : wr (i - d - dp) = i - (dp + d) := by rw [wr_in (by unfold rng; omega)]; omega
  unfold valI
  rw [e1, e2]
  by_cases h : dp + d ≤ i ∧ i - (dp + d) < (vs.length : Int)
  · rw [if_pos h, if_pos (by omega)]
  · rw [if_neg h, if_neg (by omega)]
theorem addW_eq {n m : Int} (h1 : 0 ≤ n) (h2 : n ≤ 4096) (h3 : 0 ≤ m) (h4 : m ≤ 1099511627776) : addW n m = if n + m > 4096 then .error 5 else .ok (n + m) := by
  unfold addW
  rw [show wr (n + m) = n + m from wr_in (by unfold rng; omega)]
def Cnts {α : Type} (x : Except Int (α × Int)) (m : Int) : Prop := (m > 4096 → x = .error 5) ∧ (m ≤ 4096 → ∃ z, x = .ok (z, m))
def szs (vs : List Tm) : List Int := vs.map fun v => (size v : Int)
theorem szs_get {vs : List Tm} {i : Nat} {v : Tm} (h : vs[i]? = some v) : (szs vs)[i]? = some (size v : Int) := by simp [szs, h]
mutual
theorem cnt_law {vs : List Tm} {dp : Int} (V : Vals vs dp) : ∀ (t : Tm) (d er nd : Int), Wt t → Vp t → 0 ≤ d → d + size t < 2199023255552 → 0 ≤ nd → nd ≤ 4096 → Cnts (buildW (cntV vs (szs vs) dp) t d nd) (substW vs (dp + d) er nd t).2.2
  | .mk k i n l ks, d, er, nd, h1, h2, h3, h4, h5, h6 => by
    have hone : ∀ m : Int, 0 ≤ m → m ≤ 1099511627776 → cntN vs (szs vs) dp (.mk k i n l ks) d = m → k = 0 → Cnts (buildW (cntV vs (szs vs) dp) (.mk k i n l ks) d nd) (wr (nd + m)) := by
      intro m g1 g2 g3 hk
      have ha := addW_eq h5 h6 g1 g2
      rw [show wr (nd + m) = nd + m from wr_in (by unfold rng; omega)]
      refine ⟨fun h => ?_, fun h => ?_⟩
      · rw [if_pos h] at ha
        exact buildW_err (cntV_err g3 ha)
      · rw [if_neg (by omega)] at ha
        refine ⟨zeroT, buildW_done ?_⟩
        rw [cntV_ok g3 ha, hk]
        rfl
    by_cases hk : k = 0
    · have hi := h2.1 hk
      have hd : d < 2199023255552 := by have := size_pos (Tm.mk k i n l ks); omega
      have hv := valI_eq V hi.1 hi.2 h3 hd
      by_cases hin : dp + d ≤ i ∧ i - (dp + d) < (vs.length : Int)
      · rw [if_pos hin] at hv
        obtain ⟨v, hx⟩ := getElem?_of_lt (l := vs) (i := (i - (dp + d)).toNat) (by omega)
        have hsv := V.sz v (List.mem_of_getElem? hx)
        rw [substW_val h6 hk hin.1 hin.2 hx, sizeW_eq (by omega)]
        exact hone _ (by omega) (by omega) (cntN_yes ⟨hk, by omega⟩ (by rw [hv]; exact szs_get hx)) hk
      · rw [if_neg hin] at hv
        have hc := hone 1 (by omega) (by omega) (cntN_no (by omega)) hk
        by_cases hge : i ≥ dp + d
        · rw [substW_up h6 hk hge (by omega)]; exact hc
        · rw [substW_low h6 hk hge]; exact hc
    · rw [substW_node h6 hk]
      have hs : d + sizes ks < 2199023255551 := by simp only [size] at h4; omega
      have e1 : wr (nd + 1) = nd + 1 := wr_in (by unfold rng; omega)
      have ha := addW_eq (m := 1) h5 h6 (by omega) (by omega)
      have hn : cntN vs (szs vs) dp (.mk k i n l ks) d = 1 := cntN_no (by omega)
      have hdec : decide (k = 0) = false := by simp [hk]
      simp only
      rw [e1]
      by_cases hbig : nd + 1 > 4096
      · rw [substsW_cut hbig]
        rw [if_pos hbig] at ha
        exact ⟨fun _ => buildW_err (cntV_err hn ha), fun h => by simp only at h; omega⟩
      · rw [if_neg hbig] at ha
        have hc := cntV_ok (l := l) hn ha
        rw [hdec] at hc
        obtain ⟨g1, g2⟩ := cnts_law V k ks d 0 er (nd + 1) h1.2.2 h2.2 h3 hs (by omega) (by omega)
        refine ⟨fun h => buildW_kerr hc (g1 h), fun h => ?_⟩
        obtain ⟨z, hz⟩ := g2 h
        exact ⟨_, buildW_kids hc hz⟩
theorem cnts_law {vs : List Tm} {dp : Int} (V : Vals vs dp) (k : Int) : ∀ (ts : List Tm) (d : Int) (j : Nat) (er nd : Int), Wts ts → Vps ts → 0 ≤ d → d + sizes ts < 2199023255551 → 0 ≤ nd → nd ≤ 4096 → Cnts (buildsW (cntV vs (szs vs) dp) k j ts d nd) (substsW vs k (dp + d) j er nd ts).2.2
  | [], d, j, er, nd, h1, h2, h3, h4, h5, h6 => ⟨fun h => by simp only [substsW] at h; omega, fun _ => ⟨_, rfl⟩⟩
  | t :: ts, d, j, er, nd, h1, h2, h3, h4, h5, h6 => by
    have hbl := below_le k j
    simp only [sizes] at h4
    obtain ⟨g1, g2⟩ := cnt_law V t (d + below k j) er nd h1.1 h2.1 (by omega) (by omega) h5 h6
    have hm := (substW_size 1099511627776 (by omega) (by omega) t vs (dp + d + below k j) er nd h1.1 V.wt V.size h5 (by omega)).1
    rw [show dp + (d + below k j) = dp + d + below k j by omega] at g1 g2
    unfold buildsW substsW
    simp only
    by_cases hbig : (substW vs (dp + d + below k j) er nd t).2.2 > 4096
    · rw [g1 hbig, substsW_cut hbig]
      exact ⟨fun _ => rfl, fun h => by simp only at h; omega⟩
    · obtain ⟨z, hz⟩ := g2 (by omega)
      rw [hz]
      obtain ⟨f1, f2⟩ := cnts_law V k ts d (j + 1) (substW vs (dp + d + below k j) er nd t).2.1 (substW vs (dp + d + below k j) er nd t).2.2 h1.2 h2.2 h3 (by omega) (by omega) (by omega)
      refine ⟨fun h => ?_, fun h => ?_⟩
      · simp only [exThen]; rw [f1 h]
      · obtain ⟨y, hy⟩ := f2 h
        exact ⟨z :: y, by simp only [exThen]; rw [hy]⟩
end
mutual
theorem rep_law {vs : List Tm} {dp : Int} (V : Vals vs dp) : ∀ (t : Tm) (d nd : Int), Wt t → Vp t → 0 ≤ d → d + size t < 2199023255552 → 0 ≤ nd → (substW vs (dp + d) 0 nd t).2.2 ≤ 4096 → buildW (varV (repV vs dp)) t d () = exPair ((substW vs (dp + d) 0 nd t).1, (substW vs (dp + d) 0 nd t).2.1)
  | .mk k i n l ks, d, nd, h1, h2, h3, h4, h5, h6 => by
    have h7 : nd ≤ 4096 := by
      rcases Int.lt_or_le 4096 nd with h | h
      · rw [substW_cut h] at h6; simp only at h6; omega
      · exact h
    have := V.lo; have := V.hi; have := V.len
    by_cases hk : k = 0
    · have hi := h2.1 hk
      have hks := wt_var0 h1 hk
      have hd : d < 2199023255552 := by have := size_pos (Tm.mk k i n l ks); omega
      have hv := valI_eq V hi.1 hi.2 h3 hd
      by_cases hin : dp + d ≤ i ∧ i - (dp + d) < (vs.length : Int)
      · rw [if_pos hin] at hv
        obtain ⟨v, hx⟩ := getElem?_of_lt (l := vs) (i := (i - (dp + d)).toNat) (by omega)
        have hsv := V.sz v (List.mem_of_getElem? hx)
        rw [substW_val h7 hk hin.1 hin.2 hx]
        have hr : repV vs dp (.mk k i n l ks) d = shiftP (wr (dp + d)) 0 v := repV_val (by omega) (by rw [hv]; exact hx)
        rw [show wr (dp + d) = dp + d from wr_in (by unfold rng; omega), shiftP_eq (by omega) (by omega) (Wts_mem V.wt hx) (Vps_mem V.vp hx) hsv] at hr
        unfold exPair
        by_cases he : (shiftW (dp + d) 0 0 0 v).2 = 0
        · rw [if_pos he] at hr
          rw [if_pos he]
          exact buildW_done (varV_ok hk hr)
        · rw [if_neg he] at hr
          rw [if_neg he]
          exact buildW_err (varV_var hk hr)
      · rw [if_neg hin] at hv
        have e1 : wr (i - d) = i - d := wr_in (by unfold rng; omega)
        by_cases hge : i ≥ dp + d
        · rw [substW_up h7 hk hge (by omega)]
          have hr : repV vs dp (.mk k i n l ks) d = movedW (wr (i - vs.length)) := repV_mv (by omega) (by rw [e1]; omega)
          unfold movedW at hr
          unfold exPair varE vfail
          by_cases hbig : wr (i - vs.length) > 65535
          · rw [if_pos hbig] at hr
            simp only [hbig, if_true]
            exact buildW_err (varV_var hk hr)
          · rw [if_neg hbig] at hr
            simp only [hbig, if_false, if_true]
            exact buildW_done (varV_ok hk hr)
        · rw [substW_low h7 hk hge]
          have hr : repV vs dp (.mk k i n l ks) d = .ok (.mk k i n l []) := repV_low (by omega) (by rw [e1]; omega)
          subst hks
          exact buildW_done (varV_ok hk hr)
    · rw [substW_node h7 hk] at h6 ⊢
      have hs : d + sizes ks < 2199023255551 := by simp only [size] at h4; omega
      have e1 : wr (nd + 1) = nd + 1 := wr_in (by unfold rng; omega)
      simp only at h6 ⊢
      rw [e1] at h6 ⊢
      have hL := reps_law V k ks d 0 (nd + 1) h1.2.2 h2.2 h3 hs (by omega) h6
      unfold exPairs at hL
      unfold exPair
      by_cases he : (substsW vs k (dp + d) 0 0 (nd + 1) ks).2.1 = 0
      · rw [if_pos he] at hL
        rw [if_pos he]
        exact buildW_kids (varV_no hk) hL
      · rw [if_neg he] at hL
        rw [if_neg he]
        exact buildW_kerr (varV_no hk) hL
theorem reps_law {vs : List Tm} {dp : Int} (V : Vals vs dp) (k : Int) : ∀ (ts : List Tm) (d : Int) (j : Nat) (nd : Int), Wts ts → Vps ts → 0 ≤ d → d + sizes ts < 2199023255551 → 0 ≤ nd → (substsW vs k (dp + d) j 0 nd ts).2.2 ≤ 4096 → buildsW (varV (repV vs dp)) k j ts d () = exPairs ((substsW vs k (dp + d) j 0 nd ts).1, (substsW vs k (dp + d) j 0 nd ts).2.1)
  | [], d, j, nd, h1, h2, h3, h4, h5, h6 => rfl
  | t :: ts, d, j, nd, h1, h2, h3, h4, h5, h6 => by
    have hbl := below_le k j
    simp only [sizes] at h4
    have h7 : nd ≤ 4096 := by
      rcases Int.lt_or_le 4096 nd with h | h
      · rw [substsW_cut h] at h6; simp only at h6; omega
      · exact h
    have hm := (substW_size 1099511627776 (by omega) (by omega) t vs (dp + d + below k j) 0 nd h1.1 V.wt V.size h5 (by omega))
    unfold substsW at h6
    simp only at h6
    have hm2 := (substsW_size 1099511627776 (by omega) (by omega) ts vs k (dp + d) (j + 1) (substW vs (dp + d + below k j) 0 nd t).2.1 (substW vs (dp + d + below k j) 0 nd t).2.2 h1.2 V.wt V.size (by omega) hm.2.1).1
    have hT := rep_law V t (d + below k j) nd h1.1 h2.1 (by omega) (by omega) h5 (by rw [show dp + (d + below k j) = dp + d + below k j by omega]; omega)
    rw [show dp + (d + below k j) = dp + d + below k j by omega] at hT
    unfold buildsW substsW
    rw [hT]
    simp only
    unfold exPair exPairs exThen
    by_cases he : (substW vs (dp + d + below k j) 0 nd t).2.1 = 0
    · have hL := reps_law V k ts d (j + 1) (substW vs (dp + d + below k j) 0 nd t).2.2 h1.2 h2.2 h3 (by omega) (by omega) (by rw [he] at h6; exact h6)
      simp only
      rw [if_pos he]
      simp only
      rw [hL, he]
      unfold exPairs
      by_cases hq : (substsW vs k (dp + d) (j + 1) 0 (substW vs (dp + d + below k j) 0 nd t).2.2 ts).2.1 = 0
      · simp only [hq, if_true]
      · simp only [hq, if_false]
    · simp only
      rw [if_neg he]
      simp only
      rw [substsW_er vs k ts (dp + d) (j + 1) _ _ he, if_neg he]
end
theorem underP_eq {t : Tm} {vs : List Tm} {dp : Int} (V : Vals vs dp) (h1 : Wt t) (h2 : Vp t) (h3 : size t < 1099511627776) : underP t vs dp = underW t vs dp := by
  have := V.lo; have := V.hi
  have hmin : min dp 65536 = dp := by omega
  obtain ⟨g1, g2⟩ := cnt_law V t 0 0 0 h1 h2 (by omega) (by omega) (by omega) (by omega)
  rw [Int.add_zero] at g1 g2
  unfold underW
  rw [hmin]
  by_cases hbig : (substW vs dp 0 0 t).2.2 > 4096
  · rw [if_pos hbig]
    exact underP_error (underE_err1 (g1 hbig))
  · rw [if_neg hbig]
    obtain ⟨z, hz⟩ := g2 (by omega)
    have hr := rep_law V t 0 0 h1 h2 (by omega) (by omega) (by omega) (by rw [Int.add_zero]; omega)
    rw [Int.add_zero] at hr
    unfold exPair at hr
    simp only at hr
    by_cases he : (substW vs dp 0 0 t).2.1 = 0
    · rw [if_pos he] at hr
      rw [if_neg (by omega)]
      by_cases hd : depthW (substW vs dp 0 0 t).1 > 200
      · rw [if_pos hd]; exact underP_deep (underE_ok hz hr) hd
      · rw [if_neg hd]; exact underP_ok (underE_ok hz hr) hd
    · rw [if_neg he] at hr
      rw [if_pos he]
      exact underP_error (underE_err2 hz hr)
end Go.Eu
/- Substitution keeps the indices of variables in order. -/
namespace Go.Eu
open Go.Abs
set_option linter.unusedVariables false
set_option linter.unusedSimpArgs false
theorem vp_var {i : Int} (h0 : 0 ≤ i) (h1 : i ≤ 65535) : Vp (varT i) := ⟨fun _ => ⟨h0, by omega⟩, trivial⟩
theorem vp_zero : Vp zeroT := ⟨fun _ => ⟨by omega, by omega⟩, trivial⟩
mutual
theorem shiftW_vp (b : Int) (hb : 0 ≤ b) (hb2 : b < 4398046511104) : ∀ (t : Tm) (d : Int), Vp t → 0 ≤ d → d + size t < 4398046511104 → (shiftW b 0 d 0 t).2 = 0 → Vp (shiftW b 0 d 0 t).1
  | .mk k i n l ks, d, h, hd, hd2, he => by
    by_cases hk : k = 0
    · have hi := h.1 hk
      have e1 : wr (0 + d) = d := by rw [Int.zero_add]; exact wr_in (by unfold rng; omega)
      have e2 : wr (i + b) = i + b := wr_in (by unfold rng; omega)
      unfold shiftW at he ⊢
      rw [if_pos hk, e1, e2] at he ⊢
      by_cases hlo : i < d
      · rw [if_pos hlo]; exact h
      · rw [if_neg hlo, if_neg (by omega)] at he ⊢
        unfold varE vfail at he
        by_cases hbig : i + b > 65535
        · simp [hbig] at he
        · exact vp_var (by omega) (by omega)
    · unfold shiftW at he ⊢
      rw [if_neg hk] at he ⊢
      simp only [size] at hd2
      exact ⟨fun h => absurd h hk, shiftsW_vp b hb hb2 k ks d 0 h.2 hd (by omega) he⟩
theorem shiftsW_vp (b : Int) (hb : 0 ≤ b) (hb2 : b < 4398046511104) (k : Int) : ∀ (ts : List Tm) (d : Int) (j : Nat), Vps ts → 0 ≤ d → d + sizes ts < 4398046511103 → (shiftsW b 0 k d j 0 ts).2 = 0 → Vps (shiftsW b 0 k d j 0 ts).1
  | [], d, j, h, hd, hd2, he => trivial
  | t :: ts, d, j, h, hd, hd2, he => by
    have hbl := below_le k j
    simp only [sizes] at hd2
    unfold shiftsW at he ⊢
    simp only at he ⊢
    have h0 : (shiftW b 0 (d + below k j) 0 t).2 = 0 := by
      rcases Decidable.em ((shiftW b 0 (d + below k j) 0 t).2 = 0) with h | h
      · exact h
      · rw [shiftsW_er b 0 k ts d (j + 1) _ h] at he; exact he
    rw [h0] at he ⊢
    exact ⟨shiftW_vp b hb hb2 t _ h.1 (by omega) (by omega) h0, shiftsW_vp b hb hb2 k ts d (j + 1) h.2 hd (by omega) he⟩
end
mutual
theorem substW_vp {vs : List Tm} {dp : Int} (V : Vals vs dp) : ∀ (t : Tm) (d nd : Int), Vp t → 0 ≤ d → d + size t < 2199023255552 → (substW vs (dp + d) 0 nd t).2.1 = 0 → Vp (substW vs (dp + d) 0 nd t).1
  | .mk k i n l ks, d, nd, h, h3, h4, he => by
    have := V.lo; have := V.hi; have := V.len
    rcases Int.lt_or_le 4096 nd with h7 | h7
    · rw [substW_cut h7]; exact h
    by_cases hk : k = 0
    · have hi := h.1 hk
      by_cases hin : dp + d ≤ i ∧ i - (dp + d) < (vs.length : Int)
      · obtain ⟨v, hx⟩ := getElem?_of_lt (l := vs) (i := (i - (dp + d)).toNat) (by omega)
        have hsv := V.sz v (List.mem_of_getElem? hx)
        rw [substW_val h7 hk hin.1 hin.2 hx] at he ⊢
        exact shiftW_vp _ (by omega) (by omega) v 0 (Vps_mem V.vp hx) (by omega) (by omega) he
      · by_cases hge : i ≥ dp + d
        · rw [substW_up h7 hk hge (by omega)] at he ⊢
          have e : wr (i - vs.length) = i - vs.length := wr_in (by unfold rng; omega)
          simp only [e] at he ⊢
          unfold varE vfail at he
          by_cases hbig : i - (vs.length : Int) > 65535
          · simp [hbig] at he
          · exact vp_var (by omega) (by omega)
        · rw [substW_low h7 hk hge]; exact h
    · rw [substW_node h7 hk] at he ⊢
      simp only [size] at h4
      exact ⟨fun h => absurd h hk, substsW_vp V k ks d 0 _ h.2 h3 (by omega) he⟩
theorem substsW_vp {vs : List Tm} {dp : Int} (V : Vals vs dp) (k : Int) : ∀ (ts : List Tm) (d : Int) (j : Nat) (nd : Int), Vps ts → 0 ≤ d → d + sizes ts < 2199023255551 → (substsW vs k (dp + d) j 0 nd ts).2.1 = 0 → Vps (substsW vs k (dp + d) j 0 nd ts).1
  | [], d, j, nd, h, h3, h4, he => trivial
  | t :: ts, d, j, nd, h, h3, h4, he => by
    have hbl := below_le k j
    simp only [sizes] at h4
    unfold substsW at he ⊢
    simp only at he ⊢
    have h0 : (substW vs (dp + d + below k j) 0 nd t).2.1 = 0 := by
      rcases Decidable.em ((substW vs (dp + d + below k j) 0 nd t).2.1 = 0) with h | h
      · exact h
      · rw [substsW_er vs k ts _ (j + 1) _ _ h] at he; exact he
    rw [h0] at he ⊢
    rw [show dp + d + below k j = dp + (d + below k j) by omega] at he h0 ⊢
    exact ⟨substW_vp V t _ nd h.1 (by omega) (by omega) h0, substsW_vp V k ts d (j + 1) _ h.2 h3 (by omega) he⟩
end
theorem underW_vp {vs : List Tm} {dp : Int} (V : Vals vs dp) {t : Tm} (h : Vp t) (hs : size t < 1099511627776) : Vp (underW t vs dp).1 := by
  have := V.lo; have := V.hi
  have hmin : min dp 65536 = dp := by omega
  unfold underW
  rw [hmin]
  split
  · exact vp_zero
  · split
    · exact vp_zero
    · rename_i hne
      split
      · exact vp_zero
      · have := substW_vp V t 0 0 h (by omega) (by omega) (by rw [Int.add_zero]; exact Decidable.not_not.1 hne)
        rw [Int.add_zero] at this
        exact this
end Go.Eu
/- What the program's filling of terms computes. -/
namespace Go.Eu
open Go.Abs
set_option linter.unusedVariables false
set_option linter.unusedSimpArgs false
structure FSt where
  dn : List (Int × Tm)
  op : List Int
  wk : Int
def dget (i : Int) : List (Int × Tm) → Option Tm
  | [] => none
  | (j, x) :: r => if j = i then some x else dget i r
def dset (i : Int) (v : Tm) : List (Int × Tm) → List (Int × Tm)
  | [] => [(i, v)]
  | (j, x) :: r => if j = i then (j, v) :: r else (j, x) :: dset i v r
def dnE (l : List (Int × Tm)) : List (Int × AV) := l.map fun p => (p.1, TV p.2)
theorem dn_get (i : Int) : ∀ l : List (Int × Tm), mget i (dnE l) = (dget i l).map TV
  | [] => rfl
  | (j, x) :: r => by
    simp only [dnE, List.map_cons, mget, dget]
    by_cases h : j = i
    · simp [h]
    · simp only [h, if_false]; exact dn_get i r
theorem dn_set (i : Int) (v : Tm) : ∀ l : List (Int × Tm), mset i (TV v) (dnE l) = dnE (dset i v l)
  | [] => rfl
  | (j, x) :: r => by
    simp only [dnE, List.map_cons, mset, dset]
    by_cases h : j = i
    · simp [h]
    · simp only [h, if_false, List.map_cons]; rw [← dnE, ← dnE, dn_set i v r]
theorem dset_mem {i : Int} {v : Tm} : ∀ {l : List (Int × Tm)} {p : Int × Tm}, p ∈ dset i v l → p = (i, v) ∨ p ∈ l
  | [], p, h => by simp only [dset, List.mem_singleton] at h; exact .inl h
  | (j, x) :: r, p, h => by
    unfold dset at h
    split at h
    · rename_i e
      rcases List.mem_cons.1 h with h | h
      · subst e; exact .inl h
      · exact .inr (List.mem_cons_of_mem _ h)
    · rcases List.mem_cons.1 h with h | h
      · subst h; exact .inr (List.mem_cons_self ..)
      · rcases dset_mem h with h | h
        · exact .inl h
        · exact .inr (List.mem_cons_of_mem _ h)
theorem dget_mem {i : Int} {v : Tm} : ∀ {l : List (Int × Tm)}, dget i l = some v → (i, v) ∈ l
  | [], h => by cases h
  | (j, x) :: r, h => by
    unfold dget at h
    split at h
    · rename_i e; injection h with h; subst e; subst h; exact List.mem_cons_self ..
    · exact List.mem_cons_of_mem _ (dget_mem h)
theorem dget_dset (i : Int) (v : Tm) : ∀ l : List (Int × Tm), dget i (dset i v l) = some v
  | [] => by simp [dset, dget]
  | (j, x) :: r => by
    unfold dset
    split
    · rename_i e; simp [dget, e]
    · rename_i e; simp only [dget, e, if_false]; exact dget_dset i v r
def chkP (x : Tm) (e : Int) : Except Int Tm := if e ≠ 0 ∨ largeB x = true then .error 11 else .ok x
theorem chkP_ok {x : Tm} {e : Int} {z : Tm} (h : chkP x e = .ok z) : e = 0 ∧ largeB x = false ∧ z = x := by
  unfold chkP at h
  split at h
  · cases h
  · rename_i hh
    injection h with h
    refine ⟨by omega, ?_, h.symm⟩
    cases hb : largeB x <;> simp_all
theorem largeB_size {x : Tm} (h : largeB x = false) : size x ≤ 4096 := by
  unfold largeB at h
  simp only [Bool.or_eq_false_iff, decide_eq_false_iff_not] at h
  omega
def betaP : Tm → List Tm → Except Int (Tm × List Tm)
  | v, [] => .ok (v, [])
  | v, a :: l => if v.kind = 5 then exThen (chkP (underP (v.kids.getD 1 zeroT) [a] 0).1 (underP (v.kids.getD 1 zeroT) [a] 0).2) fun x => betaP x l else .ok (v, a :: l)
def fillsX (F : FSt → Tm → Except Int (Tm × FSt)) : FSt → List Tm → Except Int (List Tm × FSt)
  | st, [] => .ok ([], st)
  | st, t :: ts => exThen (F st t) fun r => exThen (fillsX F r.2 ts) fun q => .ok (r.1 :: q.1, q.2)
def valueP (F : FSt → Tm → Except Int (Tm × FSt)) (ms : List Mv) (st : FSt) (i : Int) : Except Int (Tm × FSt) :=
  match dget i st.dn with
  | some v => .ok (v, st)
  | none => if i ∈ st.op then .error 22 else exThen (F { st with op := st.op ++ [i] } (valueOf ms i)) fun r => .ok (r.1, { r.2 with dn := dset i r.1 r.2.dn })
def headP (F : FSt → Tm → Except Int (Tm × FSt)) (ms : List Mv) (st : FSt) (h : Tm) : Except Int (Tm × FSt) :=
  if known ms h = true then valueP F ms st h.index else exMap (fun q => (withKids h q.1, q.2)) (fillsX F st h.kids)
def fillP (ms : List Mv) : Nat → FSt → Tm → Except Int (Tm × FSt)
  | 0, st, t => .error 11
  | n + 1, st, t =>
    if st.wk + 1 > 8192000 then .error 11
    else exThen (headP (fillP ms n) ms { st with wk := st.wk + 1 } (spine t).1) fun r =>
      exThen (fillsX (fillP ms n) r.2 (spine t).2) fun q =>
      exThen (if known ms (spine t).1 = true then betaP r.1 q.1 else .ok (r.1, q.1)) fun y =>
      exMap (fun z => (z, q.2)) (chkP (apply y.1 y.2) 0)
/-- A term that may be handled. -/
structure Ok (S : Nat) (t : Tm) : Prop where
  nd : Nd t
  vp : Vp t
  wt : Wt t
  sz : size t ≤ S
structure OkS (ms : List Mv) (st : FSt) : Prop where
  dn : ∀ p ∈ st.dn, Ok 4096 p.2
  w0 : 0 ≤ st.wk
  w1 : st.wk ≤ 8192000
theorem exThen_ok {α β : Type} {x : Except Int α} {f : α → Except Int β} {b : β} (h : exThen x f = .ok b) : ∃ a, x = .ok a ∧ f a = .ok b := by
  unfold exThen at h
  split at h
  · cases h
  · exact ⟨_, rfl, h⟩
theorem exMap_inv {α β : Type} {x : Except Int α} {f : α → β} {b : β} (h : exMap f x = .ok b) : ∃ a, x = .ok a ∧ f a = b := by
  unfold exMap at h
  split at h
  · cases h
  · injection h with h; exact ⟨_, rfl, h⟩
end Go.Eu
/- What the program's filling returns is in order. -/
namespace Go.Eu
open Go.Abs
set_option linter.unusedVariables false
set_option linter.unusedSimpArgs false
theorem Wts_of : ∀ {ts : List Tm}, (∀ t ∈ ts, Wt t) → Wts ts
  | [], _ => trivial
  | t :: ts, h => ⟨h t (by simp), Wts_of fun x hx => h x (by simp [hx])⟩
theorem Vps_of : ∀ {ts : List Tm}, (∀ t ∈ ts, Vp t) → Vps ts
  | [], _ => trivial
  | t :: ts, h => ⟨h t (by simp), Vps_of fun x hx => h x (by simp [hx])⟩
theorem Nds_get {ts : List Tm} {t : Tm} (h : Nds ts) (hm : t ∈ ts) : Nd t := by
  obtain ⟨i, hi⟩ := List.mem_iff_getElem?.1 hm; exact Nds_mem h hi
theorem Wts_get {ts : List Tm} {t : Tm} (h : Wts ts) (hm : t ∈ ts) : Wt t := by
  obtain ⟨i, hi⟩ := List.mem_iff_getElem?.1 hm; exact Wts_mem h hi
theorem Vps_get {ts : List Tm} {t : Tm} (h : Vps ts) (hm : t ∈ ts) : Vp t := by
  obtain ⟨i, hi⟩ := List.mem_iff_getElem?.1 hm; exact Vps_mem h hi
theorem sizes_get {ts : List Tm} {t : Tm} (hm : t ∈ ts) : size t ≤ sizes ts := by
  obtain ⟨i, hi⟩ := List.mem_iff_getElem?.1 hm; exact size_mem hi
theorem apply_vp {xs : List Tm} : ∀ {f : Tm}, Vp f → Vps xs → Vp (apply f xs) := by
  induction xs with
  | nil => intro f h _; exact h
  | cons x xs ih => intro f h hx; exact ih ⟨fun h => absurd h (by decide), h, hx.1, trivial⟩ hx.2
theorem spine_vp : ∀ (t : Tm), Vp t → Vp (spine t).1 ∧ Vps (spine t).2
  | .mk k i n l [f, a], h => by
    unfold spine
    split
    · obtain ⟨h1, h2⟩ := spine_vp f h.2.1
      refine ⟨h1, Vps_of fun x hx => ?_⟩
      rcases List.mem_append.1 hx with hx | hx
      · exact Vps_get h2 hx
      · simp at hx; subst hx; exact h.2.2.1
    · exact ⟨h, trivial⟩
  | .mk k i n l [], h => by unfold spine; exact ⟨h, trivial⟩
  | .mk k i n l [a], h => by unfold spine; exact ⟨h, trivial⟩
  | .mk k i n l (a :: b :: c :: r), h => by unfold spine; exact ⟨h, trivial⟩
abbrev Oks (l : List Tm) : Prop := ∀ x ∈ l, Ok 4096 x
theorem sizes_oks : ∀ {l : List Tm}, Oks l → sizes l ≤ 4096 * l.length
  | [], _ => by simp [sizes]
  | t :: ts, h => by
    have h1 := (h t (by simp)).sz
    have h2 := sizes_oks (l := ts) fun x hx => h x (by simp [hx])
    simp only [sizes, List.length_cons]; omega
theorem vals_one {a : Tm} (h : Ok 4096 a) : Vals [a] 0 := ⟨⟨h.wt, trivial⟩, ⟨h.vp, trivial⟩, fun x hx => by simp at hx; subst hx; have := h.sz; omega, by simp, by omega, by omega⟩
theorem lam_kid {v : Tm} (h : Ok 4096 v) (hk : v.kind = 5) : ∃ b, v.kids[1]? = some b ∧ v.kids.getD 1 zeroT = b ∧ Ok 4096 b := by
  obtain ⟨k, i, n, l, ks⟩ := v
  have hk' : k = 5 := hk
  have hl : (ks.length : Int) = arity k := h.wt.1
  rw [hk'] at hl
  have hl2 : ks.length = 2 := by simp [arity] at hl; omega
  obtain ⟨b, hb⟩ := getElem?_of_lt (l := ks) (i := 1) (by omega)
  have hs := h.sz
  have := size_mem hb
  simp only [size] at hs
  refine ⟨b, hb, ?_, Nds_mem h.nd.2.2.2.2.1 hb, Vps_mem h.vp.2 hb, Wts_mem h.wt.2.2 hb, by omega⟩
  rw [List.getD_eq_getElem?_getD]
  show Option.getD ks[1]? zeroT = b
  rw [hb]; rfl
theorem under_ok {b a : Tm} (hb : Ok 4096 b) (ha : Ok 4096 a) : Nd (underP b [a] 0).1 ∧ Vp (underP b [a] 0).1 ∧ Wt (underP b [a] 0).1 ∧ size (underP b [a] 0).1 ≤ 4096 := by
  have V := vals_one ha
  have hs := hb.sz
  rw [underP_eq V hb.wt hb.vp (by omega)]
  exact ⟨underW_nd b [a] 0 hb.nd ⟨ha.nd, trivial⟩, underW_vp V hb.vp (by omega), underW_wt b [a] 0 hb.wt V.wt, underW_size b [a] 0 hb.wt V.wt fun x hx => by have := V.sz x hx; omega⟩
theorem betaP_good : ∀ (l : List Tm) (v : Tm) (r : Tm × List Tm), Ok 4096 v → Oks l → betaP v l = .ok r → Ok 4096 r.1 ∧ Oks r.2 ∧ r.2.length ≤ l.length
  | [], v, r, hv, hl, h => by unfold betaP at h; injection h with h; subst h; exact ⟨hv, hl, Nat.le_refl _⟩
  | a :: l, v, r, hv, hl, h => by
    unfold betaP at h
    split at h
    · rename_i hk
      obtain ⟨x, hx, hr⟩ := exThen_ok h
      obtain ⟨e1, e2, e3⟩ := chkP_ok hx
      obtain ⟨b, _, hb1, hb2⟩ := lam_kid hv hk
      rw [hb1] at e3
      obtain ⟨g1, g2, g3, g4⟩ := under_ok hb2 (hl a (by simp))
      obtain ⟨f1, f2, f3⟩ := betaP_good l x r (e3 ▸ ⟨g1, g2, g3, g4⟩) (fun y hy => hl y (by simp [hy])) hr
      exact ⟨f1, f2, by simp; omega⟩
    · injection h with h; subst h; exact ⟨hv, hl, Nat.le_refl _⟩
def Mono (st st' : FSt) : Prop := ∀ i, i ∈ st.op → i ∈ st'.op
/-- A function that fills terms in order. -/
def FGood (ms : List Mv) (B : Nat) (F : FSt → Tm → Except Int (Tm × FSt)) : Prop := ∀ st t r, Ok B t → OkS ms st → F st t = .ok r → Ok 4096 r.1 ∧ OkS ms r.2 ∧ Mono st r.2
theorem fillsX_good {ms : List Mv} {B : Nat} {F : FSt → Tm → Except Int (Tm × FSt)} (hF : FGood ms B F) : ∀ (ts : List Tm) (st : FSt) (r : List Tm × FSt), (∀ t ∈ ts, Ok B t) → OkS ms st → fillsX F st ts = .ok r → Oks r.1 ∧ r.1.length = ts.length ∧ OkS ms r.2 ∧ Mono st r.2
  | [], st, r, h1, h2, h => by unfold fillsX at h; injection h with h; subst h; exact ⟨fun x hx => by simp at hx, rfl, h2, fun i hi => hi⟩
  | t :: ts, st, r, h1, h2, h => by
    unfold fillsX at h
    obtain ⟨a, ha, h⟩ := exThen_ok h
    obtain ⟨q, hq, h⟩ := exThen_ok h
    injection h with h; subst h
    obtain ⟨g1, g2, g3⟩ := hF st t a (h1 t (by simp)) h2 ha
    obtain ⟨f1, f2, f3, f4⟩ := fillsX_good hF ts a.2 q (fun x hx => h1 x (by simp [hx])) g2 hq
    refine ⟨fun x hx => ?_, by simp [f2], f3, fun i hi => f4 i (g3 i hi)⟩
    rcases List.mem_cons.1 hx with hx | hx
    · subst hx; exact g1
    · exact f1 x hx
theorem ok_zero {S : Nat} (h : 1 ≤ S) : Ok S zeroT := ⟨nd_zero, vp_zero, wt_zero, by simp [zeroT, size, sizes]; exact h⟩
theorem valueOf_okP {ms : List Mv} {S : Nat} (hS : 1 ≤ S) (hm : ∀ m ∈ ms, Ok S m.value) (i : Int) : Ok S (valueOf ms i) := by
  unfold valueOf
  split
  · rename_i m hx; exact hm m (List.mem_of_getElem? hx)
  · exact ok_zero hS
theorem valueP_good {ms : List Mv} {B : Nat} {F : FSt → Tm → Except Int (Tm × FSt)} (hF : FGood ms B F) (hB : 1 ≤ B) (hm : ∀ m ∈ ms, Ok B m.value) (st : FSt) (i : Int) (r : Tm × FSt) (h2 : OkS ms st) (h : valueP F ms st i = .ok r) : Ok 4096 r.1 ∧ OkS ms r.2 ∧ Mono st r.2 := by
  unfold valueP at h
  split at h
  · rename_i v hv
    injection h with h; subst h
    exact ⟨h2.dn _ (dget_mem hv), h2, fun i hi => hi⟩
  · split at h
    · cases h
    · obtain ⟨a, ha, h⟩ := exThen_ok h
      injection h with h; subst h
      obtain ⟨g1, g2, g3⟩ := hF _ _ a (valueOf_okP hB hm i) (show OkS ms { st with op := st.op ++ [i] } from ⟨h2.dn, h2.w0, h2.w1⟩) ha
      refine ⟨g1, ⟨fun p hp => ?_, g2.w0, g2.w1⟩, fun j hj => g3 j (by simp [hj])⟩
      rcases dset_mem hp with hp | hp
      · subst hp; exact g1
      · exact g2.dn p hp
theorem withKids_okP {h : Tm} {ks : List Tm} {B : Nat} (hh : Ok B h) (hk : Oks ks) (hl : ks.length = h.kids.length) : Nd (withKids h ks) ∧ Vp (withKids h ks) ∧ Wt (withKids h ks) ∧ size (withKids h ks) ≤ 4096 * h.kids.length + 1 := by
  obtain ⟨k, i, n, l, ks0⟩ := h
  have hl' : ks.length = ks0.length := hl
  have hs := sizes_oks hk
  refine ⟨⟨hh.nd.1, hh.nd.2.1, hh.nd.2.2.1, by rw [hl']; exact hh.nd.2.2.2.1, Nds_of fun x hx => (hk x hx).nd, hh.nd.2.2.2.2.2⟩, ⟨hh.vp.1, Vps_of fun x hx => (hk x hx).vp⟩, ⟨by rw [hl']; exact hh.wt.1, hh.wt.2.1, Wts_of fun x hx => (hk x hx).wt⟩, ?_⟩
  simp only [withKids, size, Tm.kids]
  omega
theorem headP_good {ms : List Mv} {B : Nat} {F : FSt → Tm → Except Int (Tm × FSt)} (hF : FGood ms B F) (hB : 1 ≤ B) (hm : ∀ m ∈ ms, Ok B m.value) (st : FSt) (h : Tm) (r : Tm × FSt) (h1 : Ok B h) (h2 : OkS ms st) (he : headP F ms st h = .ok r) : Nd r.1 ∧ Vp r.1 ∧ Wt r.1 ∧ size r.1 ≤ 4096 * (h.kids.length + 1) ∧ OkS ms r.2 ∧ Mono st r.2 ∧ (known ms h = true → Ok 4096 r.1) := by
  unfold headP at he
  split at he
  · obtain ⟨g1, g2, g3⟩ := valueP_good hF hB hm st h.index r h2 he
    exact ⟨g1.nd, g1.vp, g1.wt, by have := g1.sz; omega, g2, g3, fun _ => g1⟩
  · rename_i hk
    obtain ⟨q, hq, rfl⟩ := exMap_inv he
    obtain ⟨k, i, n, l, ks⟩ := h
    obtain ⟨f1, f2, f3, f4⟩ := fillsX_good hF ks st q (fun x hx => ⟨Nds_get h1.nd.2.2.2.2.1 hx, Vps_get h1.vp.2 hx, Wts_get h1.wt.2.2 hx, by have := sizes_get hx; have := h1.sz; simp only [size] at this; omega⟩) h2 hq
    obtain ⟨g1, g2, g3, g4⟩ := withKids_okP h1 f1 f2
    exact ⟨g1, g2, g3, by simp only at g4 ⊢; omega, f3, f4, fun h => absurd h hk⟩
theorem fillP_good {ms : List Mv} {B : Nat} (hB : 1 ≤ B) (hm : ∀ m ∈ ms, Ok B m.value) : ∀ n, FGood ms B (fillP ms n)
  | 0 => fun st t r h1 h2 h => by unfold fillP at h; cases h
  | n + 1 => fun st t r h1 h2 h => by
    have ih := fillP_good hB hm n
    unfold fillP at h
    split at h
    · cases h
    rename_i hw
    obtain ⟨a, ha, h⟩ := exThen_ok h
    obtain ⟨q, hq, h⟩ := exThen_ok h
    obtain ⟨y, hy, h⟩ := exThen_ok h
    obtain ⟨z, hz, rfl⟩ := exMap_inv h
    obtain ⟨sn1, sn2⟩ := spine_nd t h1.nd
    obtain ⟨sw1, sw2⟩ := spine_wt t h1.wt
    obtain ⟨sv1, sv2⟩ := spine_vp t h1.vp
    have ssz := spine_len_sizes t
    have hsz := h1.sz
    have h3 : OkS ms { st with wk := st.wk + 1 } := ⟨h2.dn, by have := h2.w0; simp only; omega, by simp only; omega⟩
    obtain ⟨g1, g2, g3, g4, g5, g6, g7⟩ := headP_good ih hB hm _ _ a ⟨sn1, sv1, sw1, by omega⟩ h3 ha
    obtain ⟨f1, f2, f3, f4⟩ := fillsX_good ih (spine t).2 a.2 q (fun x hx => ⟨Nds_get sn2 hx, Vps_get sv2 hx, Wts_get sw2 hx, by have := sizes_get hx; omega⟩) g5 hq
    obtain ⟨e1, e2, e3⟩ := chkP_ok hz
    have hy2 : Nd y.1 ∧ Vp y.1 ∧ Wt y.1 ∧ Oks y.2 := by
      split at hy
      · rename_i hk
        obtain ⟨b1, b2, b3⟩ := betaP_good q.1 a.1 y (g7 hk) f1 hy
        exact ⟨b1.nd, b1.vp, b1.wt, b2⟩
      · injection hy with hy; subst hy; exact ⟨g1, g2, g3, f1⟩
    obtain ⟨y1, y2, y3, y4⟩ := hy2
    refine ⟨?_, f3, fun i hi => f4 i (g6 i hi)⟩
    subst e3
    exact ⟨apply_nd y1 (Nds_of fun x hx => (y4 x hx).nd), apply_vp y2 (Vps_of fun x hx => (y4 x hx).vp), apply_wt y3 (Wts_of fun x hx => (y4 x hx).wt), largeB_size e2⟩
end Go.Eu
/- Cases of the program's filling. -/
namespace Go.Eu
open Go.Abs
set_option linter.unusedVariables false
set_option linter.unusedSimpArgs false
theorem dn_getD (l : List (Int × Tm)) (i : Int) : (mget i (dnE l)).getD (TV zeroT) = TV ((dget i l).getD zeroT) := by rw [dn_get]; cases dget i l <;> rfl
theorem dn_some (l : List (Int × Tm)) (i : Int) : (mget i (dnE l)).isSome = (dget i l).isSome := by rw [dn_get]; cases dget i l <;> rfl
section
variable {F : FSt → Tm → Except Int (Tm × FSt)} {ms : List Mv} {st st' : FSt} {i e : Int} {z : Tm}
theorem valueP_hit (h : (dget i st.dn).isSome = true) : valueP F ms st i = .ok ((dget i st.dn).getD zeroT, st) := by
  unfold valueP
  cases hd : dget i st.dn with
  | none => rw [hd] at h; cases h
  | some v => rfl
theorem valueP_loop (h : (dget i st.dn).isSome = false) (ho : inB st.op i = true) : valueP F ms st i = .error 22 := by
  unfold valueP
  cases hd : dget i st.dn with
  | none => simp only; rw [if_pos (by simpa [inB] using ho)]
  | some v => rw [hd] at h; cases h
theorem valueP_err (h : (dget i st.dn).isSome = false) (ho : inB st.op i = false) (hf : F { st with op := st.op ++ [i] } (valueOf ms i) = .error e) : valueP F ms st i = .error e := by
  unfold valueP
  cases hd : dget i st.dn with
  | none => simp only; rw [if_neg (by simpa [inB] using ho), hf]; rfl
  | some v => rw [hd] at h; cases h
theorem valueP_new (h : (dget i st.dn).isSome = false) (ho : inB st.op i = false) (hf : F { st with op := st.op ++ [i] } (valueOf ms i) = .ok (z, st')) : valueP F ms st i = .ok (z, { st' with dn := dset i z st'.dn }) := by
  unfold valueP
  cases hd : dget i st.dn with
  | none => simp only; rw [if_neg (by simpa [inB] using ho), hf]; rfl
  | some v => rw [hd] at h; cases h
end
theorem rep_zeroT (F : Nat → Prop) (w : World) : Rep F w (TV zeroT) (.agg ⟨[.int .i64 0, .int .i64 0, .string ⟨⟨[]⟩⟩, .slice none 0 0, .slice none 0 0]⟩) := by
  have hn : Rep F w (.p (.lst [])) (.slice none 0 0) := by
    simp only [Rep, PRep]; exact .inl ⟨trivial, _, _, rfl⟩
  exact ⟨_, rfl, _, _, rfl, by simp only [Rep, PRep], _, _, rfl, by simp only [Rep, PRep], _, _, rfl, by simp only [Rep, PRep], _, _, rfl, hn, _, _, rfl, hn, rfl⟩
end Go.Eu
/- Ways of the program's filling. -/
namespace Go.Eu
open Go.Abs
set_option linter.unusedVariables false
set_option linter.unusedSimpArgs false
theorem free_mono {ms : List Mv} {a b : List Int} (h : ∀ i, i ∈ a → i ∈ b) : free ms b ≤ free ms a := by
  unfold free
  generalize List.range ms.length = l
  induction l with
  | nil => simp
  | cons x l ih =>
    simp only [List.filter_cons]
    by_cases hb : (x : Int) ∈ b
    · by_cases ha : (x : Int) ∈ a
      · simpa [ha, hb] using ih
      · simp only [ha, hb, decide_true, decide_false, Bool.not_true, Bool.not_false, if_true, List.length_cons]
        simp only [Bool.false_eq_true, if_false]
        omega
    · have ha : (x : Int) ∉ a := fun q => hb (h _ q)
      simp only [ha, hb, decide_false, Bool.not_false, if_true, List.length_cons]
      omega
def FInv (F : FSt → Tm → Except Int (Tm × FSt)) (ts : List Tm) (q0 : FSt) (i : Nat) (ys : List Tm) (q : FSt) : Prop :=
  ys.length = i ∧ fillsX F q0 ts = exThen (fillsX F q (ts.drop i)) fun r => .ok (ys ++ r.1, r.2)
section
variable {F : FSt → Tm → Except Int (Tm × FSt)} {ts ys : List Tm} {q0 q q' : FSt} {i : Nat} {x y : Tm} {e : Int}
theorem FInv.zero (F : FSt → Tm → Except Int (Tm × FSt)) (ts : List Tm) (q0 : FSt) : FInv F ts q0 0 [] q0 := by
  refine ⟨rfl, ?_⟩
  simp only [List.drop_zero, exThen]
  cases fillsX F q0 ts <;> simp
theorem FInv.err (h : FInv F ts q0 i ys q) (hx : ts[i]? = some x) (hb : F q x = .error e) : fillsX F q0 ts = .error e := by
  rw [h.2, drop_at hx, fillsX, hb]; rfl
theorem FInv.succ (h : FInv F ts q0 i ys q) (hx : ts[i]? = some x) (hb : F q x = .ok (y, q')) : FInv F ts q0 (i + 1) (ys ++ [y]) q' := by
  refine ⟨by simp [h.1], ?_⟩
  rw [h.2, drop_at hx, fillsX, hb]
  simp only [exThen]
  cases fillsX F q' (ts.drop (i + 1)) <;> simp
theorem FInv.fin (h : FInv F ts q0 i ys q) (hi : ts.length ≤ i) : fillsX F q0 ts = .ok (ys, q) := by
  rw [h.2, List.drop_eq_nil_of_le hi, fillsX]; simp [exThen]
end
section
variable {ms : List Mv} {n : Nat} {dn : List (Int × Tm)} {op : List Int} {wk e : Int} {t v vv z h : Tm} {us ls ks : List Tm} {st1 st2 : FSt}
theorem fillP_work (hw : wk + 1 > 8192000) : fillP ms (n + 1) ⟨dn, op, wk⟩ t = .error 11 := by unfold fillP; exact if_pos hw
theorem headP_k (hk : known ms h = true) (hv : valueP (fillP ms n) ms st1 h.index = .ok (v, st2)) : headP (fillP ms n) ms st1 h = .ok (v, st2) := by unfold headP; rw [if_pos hk]; exact hv
theorem headP_ke (hk : known ms h = true) (hv : valueP (fillP ms n) ms st1 h.index = .error e) : headP (fillP ms n) ms st1 h = .error e := by unfold headP; rw [if_pos hk]; exact hv
theorem headP_n (hk : known ms h = false) (hv : fillsX (fillP ms n) st1 h.kids = .ok (ks, st2)) : headP (fillP ms n) ms st1 h = .ok (withKids h ks, st2) := by unfold headP; rw [if_neg (by simp [hk]), hv]; rfl
theorem headP_ne (hk : known ms h = false) (hv : fillsX (fillP ms n) st1 h.kids = .error e) : headP (fillP ms n) ms st1 h = .error e := by unfold headP; rw [if_neg (by simp [hk]), hv]; rfl
theorem fillP_e1 (hw : ¬ wk + 1 > 8192000) (hz : (spine t).1 = h) (hh : headP (fillP ms n) ms ⟨dn, op, wk + 1⟩ h = .error e) : fillP ms (n + 1) ⟨dn, op, wk⟩ t = .error e := by
  unfold fillP
  rw [if_neg hw]
  simp only [hz, hh]; rfl
theorem fillP_e2 (hw : ¬ wk + 1 > 8192000) (hz : (spine t).1 = h) (hh : headP (fillP ms n) ms ⟨dn, op, wk + 1⟩ h = .ok (v, st1)) (ha : fillsX (fillP ms n) st1 (spine t).2 = .error e) : fillP ms (n + 1) ⟨dn, op, wk⟩ t = .error e := by
  unfold fillP
  rw [if_neg hw]
  simp only [hz, hh, exThen, ha]
theorem fillP_e3 (hw : ¬ wk + 1 > 8192000) (hz : (spine t).1 = h) (hk : known ms h = true) (hh : headP (fillP ms n) ms ⟨dn, op, wk + 1⟩ h = .ok (v, st1)) (ha : fillsX (fillP ms n) st1 (spine t).2 = .ok (us, st2)) (hb : betaP v us = .error e) : fillP ms (n + 1) ⟨dn, op, wk⟩ t = .error e := by
  unfold fillP
  rw [if_neg hw]
  simp only [hz, hh, exThen, ha, if_pos hk, hb]
theorem fillP_k (hw : ¬ wk + 1 > 8192000) (hz : (spine t).1 = h) (hk : known ms h = true) (hh : headP (fillP ms n) ms ⟨dn, op, wk + 1⟩ h = .ok (v, st1)) (ha : fillsX (fillP ms n) st1 (spine t).2 = .ok (us, st2)) (hb : betaP v us = .ok (vv, ls)) {x : Except Int Tm} (hc : chkP (apply vv ls) 0 = x) : fillP ms (n + 1) ⟨dn, op, wk⟩ t = exMap (fun z => (z, st2)) x := by
  unfold fillP
  rw [if_neg hw]
  simp only [hz, hh, exThen, ha, if_pos hk, hb, hc]
theorem fillP_n (hw : ¬ wk + 1 > 8192000) (hz : (spine t).1 = h) (hk : known ms h = false) (hh : headP (fillP ms n) ms ⟨dn, op, wk + 1⟩ h = .ok (v, st1)) (ha : fillsX (fillP ms n) st1 (spine t).2 = .ok (us, st2)) {x : Except Int Tm} (hc : chkP (apply v us) 0 = x) : fillP ms (n + 1) ⟨dn, op, wk⟩ t = exMap (fun z => (z, st2)) x := by
  unfold fillP
  rw [if_neg hw]
  simp only [hz, hh, exThen, ha, hk, Bool.false_eq_true, if_false, hc]
theorem betaP_step {x y : Tm} (h : 0 < ls.length) (hk : v.kind = 5) (hx : v.kids[1]? = some x) (hc : chkP (underP x (ls.take 1) 0).1 (underP x (ls.take 1) 0).2 = .ok y) : betaP v ls = betaP y (ls.drop 1) := by
  obtain ⟨a, h1, h2⟩ := take_one h
  have hd : v.kids.getD 1 zeroT = x := by rw [List.getD_eq_getElem?_getD, hx]; rfl
  rw [h1] at hc
  conv => lhs; rw [h2]
  conv => lhs; unfold betaP
  rw [if_pos hk, hd, hc]
  rfl
theorem betaP_err {x : Tm} (h : 0 < ls.length) (hk : v.kind = 5) (hx : v.kids[1]? = some x) (hc : chkP (underP x (ls.take 1) 0).1 (underP x (ls.take 1) 0).2 = .error e) : betaP v ls = .error e := by
  obtain ⟨a, h1, h2⟩ := take_one h
  have hd : v.kids.getD 1 zeroT = x := by rw [List.getD_eq_getElem?_getD, hx]; rfl
  rw [h1] at hc
  conv => lhs; rw [h2]
  unfold betaP
  rw [if_pos hk, hd, hc]
  rfl
theorem betaP_stop (h : 0 < ls.length → v.kind ≠ 5) : betaP v ls = .ok (v, ls) := by
  cases ls with
  | nil => rfl
  | cons a l => unfold betaP; rw [if_neg (h (by simp))]
end
theorem known_get {ms : List Mv} {k i : Int} {n : ByteArray} {l : List Lvl} {s : List Tm} (h : known ms (.mk k i n l s) = true) : ∃ m, ms[i.toNat]? = some m := by
  simp only [known, Bool.and_eq_true, beq_iff_eq, decide_eq_true_eq] at h
  cases hm : ms[i.toNat]? with
  | none => rw [hm] at h; simp at h
  | some m => exact ⟨m, rfl⟩
theorem Oks_snoc {l : List Tm} {x : Tm} (h : Oks l) (hx : Ok 4096 x) : Oks (l ++ [x]) := fun y hy => by
  rcases List.mem_append.1 hy with hy | hy
  · exact h y hy
  · simp at hy; subst hy; exact hx
theorem Oks_drop {l : List Tm} (h : Oks l) (k : Nat) : Oks (l.drop k) := fun y hy => h y (List.mem_of_mem_drop hy)
theorem Oks_nd {l : List Tm} (h : Oks l) : Nds l := Nds_of fun x hx => (h x hx).nd
theorem Oks_take {l : List Tm} (h : Oks l) (k : Nat) : Oks (l.take k) := fun y hy => h y (List.mem_of_mem_take hy)
theorem Oks_vp {l : List Tm} (h : Oks l) : Vps l := Vps_of fun x hx => (h x hx).vp
theorem ok_get {B : Nat} {t x : Tm} {ts : List Tm} {i : Nat} (hn : Nds ts) (hv : Vps ts) (hw : Wts ts) (hs : sizes ts ≤ B) (hx : ts[i]? = some x) : Ok B x := ⟨Nds_mem hn hx, Vps_mem hv hx, Wts_mem hw hx, by have := size_mem hx; omega⟩
theorem app_small {v : Tm} {us : List Tm} {K m : Nat} (hv : size v ≤ 4096 * K + 4096) (hu : Oks us) (h1 : us.length ≤ m) (h2 : K ≤ m) (hm : m ≤ 1073741824) : size (apply v us) < 1152921504606846976 := by
  have := sizes_oks hu
  rw [apply_size]
  omega
theorem mk_step {ms : List Mv} {B n : Nat} {op : List Int} {s : Nat} {t : Tm} (h1 : s + (B + 1) * free ms op ≤ n + 1) {op' : List Int} (hm : ∀ i, i ∈ op → i ∈ op') {x : Nat} (hx : x < s) : x + (B + 1) * free ms op' ≤ n := by
  have := Nat.mul_le_mul_left (B + 1) (free_mono (ms := ms) hm)
  omega
theorem mk_val {ms : List Mv} {B n : Nat} {op : List Int} {s : Nat} (hs : 1 ≤ s) (h1 : s + (B + 1) * free ms op ≤ n + 1) {i : Int} (h0 : 0 ≤ i) (hl : i < ms.length) (hin : i ∉ op) {x : Nat} (hx : x ≤ B) : x + (B + 1) * free ms (op ++ [i]) ≤ n := by
  have hlt := free_lt h0 hl hin
  have : (B + 1) * (free ms (op ++ [i]) + 1) ≤ (B + 1) * free ms op := Nat.mul_le_mul_left _ hlt
  rw [Nat.mul_add] at this
  omega
theorem fillEnd {us : List Tm} {j m : Nat} (h : m ≤ j) : us ++ List.replicate (m - j) zeroT = us := by
  rw [show m - j = 0 by omega, List.replicate_zero, List.append_nil]
theorem lam_len {B : Nat} {k i : Int} {n : ByteArray} {l : List Lvl} {ks : List Tm} (h : Ok B (.mk k i n l ks)) (hk : k = 5) : ks.length = 2 := by
  have hl : (ks.length : Int) = arity k := h.wt.1
  rw [hk] at hl
  simp [arity] at hl; omega
theorem under_okL {x : Tm} {ls : List Tm} (hx : Ok 4096 x) (hl : Oks ls) (h : 0 < ls.length) : Nd (underP x (ls.take 1) 0).1 ∧ Vp (underP x (ls.take 1) 0).1 ∧ Wt (underP x (ls.take 1) 0).1 ∧ size (underP x (ls.take 1) 0).1 ≤ 4096 := by
  obtain ⟨a, h1, h2⟩ := take_one h
  rw [h1]
  exact under_ok hx (hl a (by rw [h2]; simp))
theorem beta_ok {k i : Int} {n : ByteArray} {l : List Lvl} {ks ls : List Tm} {x y : Tm} (hv : Ok 4096 (.mk k i n l ks)) (hk : k = 5) (h : 0 < ls.length) (hl : Oks ls) (hx : ks[1]? = some x) (hc : chkP (underP x (ls.take 1) 0).1 (underP x (ls.take 1) 0).2 = .ok y) : Ok 4096 y := by
  have hkx : Ok 4096 x := ⟨Nds_mem hv.nd.2.2.2.2.1 hx, Vps_mem hv.vp.2 hx, Wts_mem hv.wt.2.2 hx, by have := size_mem hx; have := hv.sz; simp only [size] at this; omega⟩
  obtain ⟨g1, g2, g3, g4⟩ := under_okL hkx hl h
  obtain ⟨e1, e2, e3⟩ := chkP_ok hc
  exact e3 ▸ ⟨g1, g2, g3, g4⟩
end Go.Eu
/- Calls that return a value with several objects of its own. -/
namespace Go.Abs
set_option linter.unusedVariables false
/-- What a function returns that makes new objects. -/
def newG {β : Type} (mkv : β → AV) (mkH : β → List HObj) : ARes → List HObj → Prop
  | .val v, H' => ∃ b, v = mkv b ∧ H' = mkH b
  | .panic _, _ => False
section
variable {P : Program} {ops : Array Oper} {n : Nat} {τ₀ τ : Nat → AV} {D : List ADef} {Q : AExit → AState → Prop} {opn : Nat → Bool} {k : Nat} {H : List HObj} {dst : Option Tmp} {ty : TypeId} {pos : String} {aft : Array Edge} {c : Call} {f : Operand} {fid : FuncId} {first caps A : List AV} {β : Type} {mkv : β → AV} {mkH : β → List HObj}
theorem dr_newg {rd ef effs fx} (fx' : List (Nat × Sp)) (b0 : β) (ho : ops[k]? = some ⟨dst, .call c, ty, pos, aft, none⟩) (hn : opn k = true)
    (hc : c.callee = .value f) (hf : (ev τ f = .p (.fn fid) ∧ first = [] ∧ caps = []) ∨ ev τ f = .fn (.func fid) first caps) (h : ACalls P fid A [] (newG mkv mkH)) (hA : first ++ c.args.toList.map (ev τ) ++ caps = A ∨ (first ++ c.args.toList.map (ev τ) ++ caps).map norm = A) (haft : allAfter ops k (fx'.map (·.1)) = true)
    (next : ∀ b, OweR ops k H (mkH b ++ H) rd ∧ FxAt k (.eff (mkv b) (mkH b ++ H)) fx ∧ Dr P ops n τ₀ D Q opn (k + 1) (put τ dst (mkv b)) (mkH b ++ H) rd ((k, H, mkH b ++ H) :: ef) (true :: effs) (fx' ++ fx)) : Dr P ops n τ₀ D Q opn k τ H rd ef effs fx :=
  dr_open fx' ho hn (aop_call (H := H) (Hs := []) (Hf := H) hc hf (by simp) h hA) haft ⟨_, _, _, ⟨b0, rfl, rfl⟩, rfl⟩ (fun v H' ⟨_, h, _⟩ => h.elim) (fun v H' ⟨Hs', ⟨b, h1, h2⟩, h3⟩ => by subst h1; subst h2; subst h3; exact next b)
theorem al_newg {r : Option Nat} (ho : ops[k]? = some ⟨dst, .call c, ty, pos, aft, none⟩) (hd : dstB dst n = true)
    (hc : c.callee = .value f) (hf : (ev τ f = .p (.fn fid) ∧ first = [] ∧ caps = []) ∨ ev τ f = .fn (.func fid) first caps) (h : ACalls P fid A [] (newG mkv mkH)) (hA : ArgsW (first ++ c.args.toList.map (ev τ) ++ caps) A)
    (next : ∀ b, AL P r ops (k + 1) ⟨n, put τ dst (mkv b), mkH b ++ H, D⟩ Q) : AL P r ops k ⟨n, τ, H, D⟩ Q :=
  al_call ho hd hc hf (Hs := []) (Hf := H) (by simp) (h.args hA) (.inl rfl) (fun v Hs' ⟨b, h1, h2⟩ => by subst h1; subst h2; exact next b) (fun _ _ h => h.elim)
end
end Go.Abs
/- The program's Fill. -/
namespace Go.Eu
open Go.Abs
set_option linter.unusedVariables false
set_option linter.unusedSimpArgs false
def fillPT (ms : List Mv) (n : Nat) (t : Tm) : Tm × Int :=
  match fillP ms n ⟨[], [], 0⟩ t with
  | .ok r => (r.1, 0)
  | .error e => (zeroT, e)
theorem fillPT_err {ms : List Mv} {n : Nat} {t : Tm} {e : Int} (h : fillP ms n ⟨[], [], 0⟩ t = .error e) : fillPT ms n t = (zeroT, e) := by unfold fillPT; rw [h]
theorem fillPT_ok {ms : List Mv} {n : Nat} {t : Tm} {r : Tm × FSt} (h : fillP ms n ⟨[], [], 0⟩ t = .ok r) : fillPT ms n t = (r.1, 0) := by unfold fillPT; rw [h]
theorem oks_zero (ms : List Mv) : OkS ms ⟨[], [], 0⟩ := ⟨fun p hp => by simp at hp, by decide, by decide⟩
theorem fillPT_good {ms : List Mv} {B n : Nat} {t : Tm} (hB : 1 ≤ B) (hm : ∀ m ∈ ms, Ok B m.value) (ht : Ok B t) : Ok 4096 (fillPT ms n t).1 := by
  unfold fillPT
  split
  · rename_i r h; exact (fillP_good hB hm n _ _ r ht (oks_zero ms) h).1
  · exact ok_zero (by omega)
def unkPT (ms : List Mv) (n : Nat) (t : Tm) : List Int × Int := if (fillPT ms n t).2 ≠ 0 then ([], (fillPT ms n t).2) else (metasW [] (fillPT ms n t).1, 0)
end Go.Eu
