/- Part of the proofs about metavariables: an abstract program logic, plain models and contracts of functions. -/
import Derived.Test.YtgfecpjmbgcobaaGreatPe
/- What the reference's walks over terms compute, in plain functions. -/
namespace Go.Eu
open Go.Abs
set_option linter.unusedVariables false
def varT (i : Int) : Tm := .mk 0 i ⟨#[]⟩ [] []
def zeroT : Tm := .mk 0 0 ⟨#[]⟩ [] []
def vfail (er e : Int) : Int := if er = 0 then e else er
def varE (er i : Int) : Int := if i > 65535 then vfail er 24 else er
mutual
def sizeW : Tm → Int
  | .mk _ _ _ _ ks => sizesW 1 ks
def sizesW : Int → List Tm → Int
  | n, [] => n
  | n, t :: ts => sizesW (wr (n + sizeW t)) ts
end
mutual
def depthW : Tm → Int
  | .mk _ _ _ _ ks => wr (depthsW 0 ks + 1)
def depthsW : Int → List Tm → Int
  | n, [] => n
  | n, t :: ts => depthsW (max n (depthW t)) ts
end
mutual
/-- shift: the term and the error. -/
def shiftW (b fr : Int) : Int → Int → Tm → Tm × Int
  | d, er, .mk k i n l ks =>
    if k = 0 then
      (if i < wr (fr + d) then (.mk k i n l ks, er)
       else if wr (i + b) < wr (fr + d) then (.mk k i n l ks, vfail er 24)
       else (varT (wr (i + b)), varE er (wr (i + b))))
    else ((.mk k i n l (shiftsW b fr k d 0 er ks).1), (shiftsW b fr k d 0 er ks).2)
def shiftsW (b fr k : Int) : Int → Nat → Int → List Tm → List Tm × Int
  | d, j, er, [] => ([], er)
  | d, j, er, t :: ts => ((shiftW b fr (d + below k j) er t).1 :: (shiftsW b fr k d (j + 1) (shiftW b fr (d + below k j) er t).2 ts).1, (shiftsW b fr k d (j + 1) (shiftW b fr (d + below k j) er t).2 ts).2)
end
mutual
/-- subst: the term, the error, the nodes. -/
def substW (vs : List Tm) : Int → Int → Int → Tm → Tm × Int × Int
  | d, er, nd, .mk k i n l ks =>
    if nd > 4096 then (.mk k i n l ks, er, nd)
    else if k = 0 ∧ i ≥ d ∧ i - d < (vs.length : Int) then
      ((shiftW d 0 0 er (vs.getD (i - d).toNat zeroT)).1, (shiftW d 0 0 er (vs.getD (i - d).toNat zeroT)).2, wr (nd + sizeW (vs.getD (i - d).toNat zeroT)))
    else if k = 0 then
      (if i ≥ d then (varT (wr (i - vs.length)), varE er (wr (i - vs.length)), wr (nd + 1)) else (.mk k i n l ks, er, wr (nd + 1)))
    else ((.mk k i n l (substsW vs k d 0 er (wr (nd + 1)) ks).1), (substsW vs k d 0 er (wr (nd + 1)) ks).2)
def substsW (vs : List Tm) (k : Int) : Int → Nat → Int → Int → List Tm → List Tm × Int × Int
  | d, j, er, nd, [] => ([], er, nd)
  | d, j, er, nd, t :: ts => ((substW vs (d + below k j) er nd t).1 :: (substsW vs k d (j + 1) (substW vs (d + below k j) er nd t).2.1 (substW vs (d + below k j) er nd t).2.2 ts).1,
      (substsW vs k d (j + 1) (substW vs (d + below k j) er nd t).2.1 (substW vs (d + below k j) er nd t).2.2 ts).2)
end
/-- Under, at a depth that is not negative. -/
def underW (t : Tm) (vs : List Tm) (d : Int) : Tm × Int :=
  if (substW vs (min d 65536) 0 0 t).2.2 > 4096 then (zeroT, 5)
  else if (substW vs (min d 65536) 0 0 t).2.1 ≠ 0 then (zeroT, (substW vs (min d 65536) 0 0 t).2.1)
  else if depthW (substW vs (min d 65536) 0 0 t).1 > 200 then (zeroT, 7)
  else ((substW vs (min d 65536) 0 0 t).1, 0)
structure Cnt where
  steps : Int
  nodes : Int
  forms : Int
  limit : Int
  over : Bool
  deriving Inhabited
def encC (c : Cnt) : List PV := [I c.steps, I c.nodes, I c.forms, I c.limit, .bool c.over]
def Cnt.form (c : Cnt) (t : Tm) (e : Int) : Cnt :=
  { c with forms := wr (c.forms + sizeW t), over := c.over || (e != 0 || decide (c.steps > c.limit) || decide (c.nodes > wr (2 * c.limit)) || decide (wr (c.forms + sizeW t) > wr (40 * c.limit)) || decide (sizeW t > 2000) || decide (depthW t > 95)) }
def Cnt.sized (c : Cnt) (t : Tm) : Cnt := { c with over := c.over || (decide (sizeW t > 2000) || decide (depthW t > 95)) }
def light : Cnt := ⟨0, 0, 0, 1000, false⟩
end Go.Eu
namespace Go.Eu
theorem drop_at {α : Type} {l : List α} {i : Nat} {x : α} (h : l[i]? = some x) : l.drop i = x :: l.drop (i + 1) := by
  have hlt := (List.getElem?_eq_some_iff.1 h).1
  have e : l[i] = x := (List.getElem?_eq_some_iff.1 h).2
  rw [List.drop_eq_getElem_cons hlt, e]
end Go.Eu
namespace Go.Eu
theorem getD_of {α : Type} {l : List α} {i : Nat} {x d : α} (h : l[i]? = some x) : l.getD i d = x := by simp [List.getD, h]
end Go.Eu
namespace Go.Eu
open Go.Abs
theorem rng_wr (n : Int) : rng (wr n) := by
  unfold rng wr IntKind.wrap
  have : IntKind.i64.min = -9223372036854775808 := rfl
  have : IntKind.i64.max = 9223372036854775807 := rfl
  simp [IntKind.signed, IntKind.bits]
  omega
theorem nd_var (i : Int) : Nd (varT (wr i)) := by
  have := rng_wr i
  exact ⟨by decide, by decide, by simp, by decide, trivial, ⟨by decide, by decide⟩, this⟩
theorem nd_zero : Nd zeroT := ⟨by decide, by decide, by simp, by decide, trivial, ⟨by decide, by decide⟩, ⟨by decide, by decide⟩⟩
mutual
theorem shiftW_nd (b fr : Int) : ∀ (t : Tm) (d er : Int), Nd t → Nd (shiftW b fr d er t).1
  | .mk k i n l ks, d, er, h => by
    unfold shiftW
    split
    · split
      · exact h
      · split
        · exact h
        · exact nd_var _
    · simp only [Nd] at h ⊢
      obtain ⟨h1, h2, h3, h4, h5, h6⟩ := h
      obtain ⟨e1, e2⟩ := shiftsW_nd b fr k ks d 0 er h5
      exact ⟨h1, h2, h3, by rw [e1]; exact h4, e2, h6⟩
theorem shiftsW_nd (b fr k : Int) : ∀ (ts : List Tm) (d : Int) (j : Nat) (er : Int), Nds ts → (shiftsW b fr k d j er ts).1.length = ts.length ∧ Nds (shiftsW b fr k d j er ts).1
  | [], d, j, er, h => by simp [shiftsW, Nds]
  | t :: ts, d, j, er, h => by
    simp only [shiftsW, Nds, List.length_cons] at *
    have := shiftW_nd b fr t (d + below k j) er h.1
    obtain ⟨e1, e2⟩ := shiftsW_nd b fr k ts d (j + 1) (shiftW b fr (d + below k j) er t).2 h.2
    exact ⟨by rw [e1], this, e2⟩
end
theorem nds_getD {vs : List Tm} (h : Nds vs) (i : Nat) : Nd (vs.getD i zeroT) := by
  cases e : vs[i]? with
  | none => simp [List.getD, e]; exact nd_zero
  | some x => rw [getD_of e]; exact Nds_mem h e
mutual
theorem substW_nd : ∀ (t : Tm) (vs : List Tm) (d er nd : Int), Nd t → Nds vs → Nd (substW vs d er nd t).1
  | .mk k i n l ks, vs, d, er, nd, h, hv => by
    unfold substW
    split
    · exact h
    · split
      · exact shiftW_nd _ _ _ _ _ (nds_getD hv _)
      · split
        · split
          · exact nd_var _
          · exact h
        · simp only [Nd] at h ⊢
          obtain ⟨h1, h2, h3, h4, h5, h6⟩ := h
          obtain ⟨e1, e2⟩ := substsW_nd ks vs k d 0 er (wr (nd + 1)) h5 hv
          exact ⟨h1, h2, h3, by rw [e1]; exact h4, e2, h6⟩
theorem substsW_nd : ∀ (ts : List Tm) (vs : List Tm) (k d : Int) (j : Nat) (er nd : Int), Nds ts → Nds vs → (substsW vs k d j er nd ts).1.length = ts.length ∧ Nds (substsW vs k d j er nd ts).1
  | [], vs, k, d, j, er, nd, h, hv => by simp [substsW, Nds]
  | t :: ts, vs, k, d, j, er, nd, h, hv => by
    simp only [substsW, Nds, List.length_cons] at *
    have := substW_nd t vs (d + below k j) er nd h.1 hv
    obtain ⟨e1, e2⟩ := substsW_nd ts vs k d (j + 1) (substW vs (d + below k j) er nd t).2.1 (substW vs (d + below k j) er nd t).2.2 h.2 hv
    exact ⟨by rw [e1], this, e2⟩
end
theorem underW_nd (t : Tm) (vs : List Tm) (d : Int) (h : Nd t) (hv : Nds vs) : Nd (underW t vs d).1 := by
  unfold underW
  split
  · exact nd_zero
  · split
    · exact nd_zero
    · split
      · exact nd_zero
      · exact substW_nd t vs _ _ _ h hv
end Go.Eu
namespace Go.Eu
open Go.Abs
theorem vsE_Tm {o : Option Nat} {c : Nat} (l : List Tm) {l' : List Tm} (h : l = l') : AV.vs o (encTs l).length c = .vs o (encTs l').length c := by rw [h]
theorem vsE_map {α : Type} {f : α → List PV} {o : Option Nat} {c : Nat} (l : List α) {l' : List α} (h : l = l') : AV.vs o (l.map f).length c = .vs o (l'.map f).length c := by rw [h]
theorem ovE_Tm {o : Option Nat} {sz c : Nat} (l : List Tm) {l' : List Tm} (h : l = l') : OWeak (.vec o sz (encTs l) c) (.vec o sz (encTs l') c) := oe (by rw [h])
theorem ovE_map {α : Type} {f : α → List PV} {o : Option Nat} {sz c : Nat} (l : List α) {l' : List α} (h : l = l') : OWeak (.vec o sz (l.map f) c) (.vec o sz (l'.map f) c) := oe (by rw [h])
end Go.Eu
namespace Go.Eu
open Go.Abs
theorem vsLen_Tm {o : Option Nat} {c : Nat} (l : List Tm) {l' : List Tm} (h : l.length = l'.length) : AV.vs o (encTs l).length c = .vs o (encTs l').length c := by rw [encTs_len, encTs_len, h]
theorem vsLen_map {α : Type} {f : α → List PV} {o : Option Nat} {c : Nat} (l : List α) {l' : List α} (h : l.length = l'.length) : AV.vs o (l.map f).length c = .vs o (l'.map f).length c := by rw [List.length_map, List.length_map, h]
end Go.Eu
/- What the reference's functions on metavariables compute, in plain functions. -/
namespace Go.Eu
open Go.Abs
set_option linter.unusedVariables false
mutual
def metasW : List Int → Tm → List Int
  | l, .mk k i _ _ ks => if k = 12 then (if i ∈ l then l else metassW (l ++ [i]) ks) else metassW l ks
def metassW : List Int → List Tm → List Int
  | l, [] => l
  | l, t :: ts => metassW (metasW l t) ts
end
mutual
theorem metasW_len : ∀ (t : Tm) (l : List Int), (metasW l t).length ≤ l.length + size t
  | .mk k i n ls ks, l => by
    simp only [metasW, size]
    split
    · split
      · omega
      · have := metassW_len ks (l ++ [i])
        simp at this
        omega
    · have := metassW_len ks l
      omega
theorem metassW_len : ∀ (ts : List Tm) (l : List Int), (metassW l ts).length ≤ l.length + sizes ts
  | [], l => by simp [metassW]
  | t :: ts, l => by
    simp only [metassW, sizes]
    have := metassW_len ts (metasW l t)
    have := metasW_len t l
    omega
end
def inB (l : List Int) (n : Int) : Bool := decide (n ∈ l)
theorem not_take_succ {l : List Int} {i : Nat} {x n : Int} (h : n ∉ l.take i) (hx : l[i]? = some x) (hn : x ≠ n) : n ∉ l.take (i + 1) := by
  rw [List.take_add_one, hx]
  simp
  exact ⟨by simpa using h, fun e => hn e.symm⟩
/-- Variables, from the greatest down. -/
def vdown (fr : Int) : Nat → Nat → List Tm
  | _, 0 => []
  | m, k + 1 => varT (fr + (m + k : Nat)) :: vdown fr m k
theorem vdown_snoc (fr : Int) (m : Nat) : ∀ k, vdown fr (m + 1) k ++ [varT (fr + m)] = vdown fr m (k + 1)
  | 0 => by simp [vdown]
  | k + 1 => by
    have := vdown_snoc fr m k
    rw [vdown, List.cons_append, this]
    conv => rhs; rw [vdown]
    rw [show m + 1 + k = m + (k + 1) by omega]
theorem vdown_len (fr : Int) (m : Nat) : ∀ k, (vdown fr m k).length = k
  | 0 => rfl
  | k + 1 => by simp [vdown, vdown_len fr m k]
theorem vdown_get (fr : Int) (m : Nat) : ∀ k i, i < k → (vdown fr m k)[i]? = some (varT (fr + (m + k - 1 - i : Nat)))
  | 0, i, h => by omega
  | k + 1, 0, h => by simp [vdown]
  | k + 1, i + 1, h => by
    simp only [vdown, List.getElem?_cons_succ]
    rw [vdown_get fr m k i (by omega)]
    congr 4
    omega
def varsW (n fr : Int) : List Tm := if n < 1 ∨ n > 4096 ∨ fr < 0 then [] else vdown fr 0 n.toNat
/-- The variables of a pattern. -/
def patL : List Int → List Tm → Option (List Int)
  | l, [] => some l
  | l, .mk k i _ _ _ :: ts => if k ≠ 0 ∨ i ∈ l then none else patL (l ++ [i]) ts
def patW (t : Tm) : Int × List Int × Bool :=
  if (spine t).1.kind ≠ 12 then (0, [], false)
  else match patL [] (spine t).2 with
    | none => (0, [], false)
    | some l => ((spine t).1.index, l, true)
/-- New: the list, the use, the error. -/
def newW (ms : List Mv) (ctx : List Tm) (t : Tm) (cls : Bool) : List Mv × Tm × Int :=
  if ms.length ≥ 2000 then ([], zeroT, 6)
  else if sizeW (bindsT 6 ctx t) > 4096 then ([], zeroT, 5)
  else if depthW (bindsT 6 ctx t) > 200 then ([], zeroT, 7)
  else (ms ++ [⟨bindsT 6 ctx t, false, zeroT, cls⟩], apply (.mk 12 ms.length ⟨#[]⟩ [] []) (varsW ctx.length 0), 0)
end Go.Eu
namespace Go.Eu
theorem take_add_le {ts : List Tm} {i : Nat} {t : Tm} (h : ts[i]? = some t) : sizes (ts.take i) + size t ≤ sizes ts := by
  have := sizes_take h
  have := sizes_le (ts := ts) (i + 1)
  omega
end Go.Eu
namespace Go.Eu
theorem eqB_mv {a1 b1 a3 b3 : Tm} {a2 a4 b2 b4 : Bool} : eqB (Mv.mk a1 a2 a3 a4) (Mv.mk b1 b2 b3 b4) = (((eqB a1 b1 && (a2 == b2)) && eqB a3 b3) && (a4 == b4)) := by
  by_cases h1 : a1 = b1 <;> by_cases h2 : a2 = b2 <;> by_cases h3 : a3 = b3 <;> by_cases h4 : a4 = b4 <;> simp [eqB, h1, h2, h3, h4]
end Go.Eu
namespace Go.Eu
theorem patW_no {t : Tm} (h : (spine t).1.kind ≠ 12) : patW t = (0, [], false) := by unfold patW; rw [if_pos h]
theorem patW_none {t : Tm} (h : (spine t).1.kind = 12) (hp : patL [] (spine t).2 = none) : patW t = (0, [], false) := by unfold patW; rw [if_neg (by simpa using h), hp]
theorem patW_some {t : Tm} {l : List Int} (h : (spine t).1.kind = 12) (hp : patL [] (spine t).2 = some l) : patW t = ((spine t).1.index, l, true) := by unfold patW; rw [if_neg (by simpa using h), hp]
end Go.Eu
namespace Go.Eu
open Go.Abs
theorem varsW_len (n : Nat) (f : Int) : (varsW n f).length ≤ n := by
  unfold varsW
  split
  · simp
  · rw [vdown_len]; omega
theorem bindsT_nd {k : Int} {ctx : List Tm} {t : Tm} (h : Nds ctx) (ht : Nd t) (hk : rng k := by exact ⟨by decide, by decide⟩) : Nd (bindsT k ctx t) := by
  induction ctx with
  | nil => exact ht
  | cons a ctx ih =>
    exact ⟨by decide, by decide, by simp, by simp [big], ⟨h.1, ih h.2, trivial⟩, hk, ⟨by decide, by decide⟩⟩
theorem newW_many {ms : List Mv} {ctx : List Tm} {t : Tm} {cls : Bool} (h : ms.length ≥ 2000) : newW ms ctx t cls = ([], zeroT, 6) := by unfold newW; rw [if_pos h]
theorem newW_long {ms : List Mv} {ctx : List Tm} {t : Tm} {cls : Bool} (h : ¬ ms.length ≥ 2000) (h1 : sizeW (bindsT 6 ctx t) > 4096) : newW ms ctx t cls = ([], zeroT, 5) := by unfold newW; rw [if_neg h, if_pos h1]
theorem newW_deep {ms : List Mv} {ctx : List Tm} {t : Tm} {cls : Bool} (h : ¬ ms.length ≥ 2000) (h1 : ¬ sizeW (bindsT 6 ctx t) > 4096) (h2 : depthW (bindsT 6 ctx t) > 200) : newW ms ctx t cls = ([], zeroT, 7) := by unfold newW; rw [if_neg h, if_neg h1, if_pos h2]
theorem newW_ok {ms : List Mv} {ctx : List Tm} {t : Tm} {cls : Bool} (h : ¬ ms.length ≥ 2000) (h1 : ¬ sizeW (bindsT 6 ctx t) > 4096) (h2 : ¬ depthW (bindsT 6 ctx t) > 200) : newW ms ctx t cls = (ms ++ [⟨bindsT 6 ctx t, false, zeroT, cls⟩], apply (.mk 12 ms.length ⟨#[]⟩ [] []) (varsW ctx.length 0), 0) := by unfold newW; rw [if_neg h, if_neg h1, if_neg h2]
end Go.Eu
/- The reference's filling: sizes and forms. -/
namespace Go.Eu
open Go.Abs
set_option linter.unusedVariables false
theorem wr_in {n : Int} (h : rng n) : wr n = n := wrap_in (k := .i64) h.1 h.2
mutual
theorem sizeW_eq' (B : Int) (hB : B ≤ 4611686018427387904) : ∀ (t : Tm), (size t : Int) < B → sizeW t = size t
  | .mk k i n l ks, h => by
    have h' : (1 : Int) + sizes ks < B := by rw [size] at h; omega
    show sizesW 1 ks = _
    rw [sizesW_eq' B hB ks 1 (by omega) h', size]
    omega
theorem sizesW_eq' (B : Int) (hB : B ≤ 4611686018427387904) : ∀ (ts : List Tm) (n : Int), 0 ≤ n → n + sizes ts < B → sizesW n ts = n + sizes ts
  | [], n, _, _ => by simp [sizesW, sizes]
  | t :: ts, n, h0, h => by
    simp only [sizes, sizesW] at *
    rw [sizeW_eq' B hB t (by have := size_pos t; omega), wr_in ⟨by omega, by omega⟩, sizesW_eq' B hB ts (n + size t) (by omega) (by omega)]
    omega
end
mutual
theorem depthW_eq' (B : Int) (hB : B ≤ 4611686018427387904) : ∀ (t : Tm), (depth t : Int) < B → depthW t = depth t
  | .mk k i n l ks, h => by
    have h' : (depths ks : Int) < B := by rw [depth] at h; omega
    show wr (depthsW 0 ks + 1) = _
    rw [depthsW_eq' B hB ks 0 (by omega) (by omega) h', wr_in ⟨by omega, by omega⟩, depth]
    omega
theorem depthsW_eq' (B : Int) (hB : B ≤ 4611686018427387904) : ∀ (ts : List Tm) (n : Int), 0 ≤ n → n < B → (depths ts : Int) < B → depthsW n ts = max n (depths ts)
  | [], n, _, _, _ => by simp [depthsW, depths]; omega
  | t :: ts, n, h0, h1, h => by
    simp only [depths, depthsW] at *
    rw [depthW_eq' B hB t (by omega), depthsW_eq' B hB ts _ (by omega) (by omega) (by omega)]
    omega
end
theorem sizeW_eq {t : Tm} (h : (size t : Int) < 4611686018427387904) : sizeW t = size t := sizeW_eq' _ (Int.le_refl _) t h
mutual
/-- Terms whose nodes have as many kids as their kinds want. -/
def Wt : Tm → Prop
  | .mk k i _ _ ks => (ks.length : Int) = arity k ∧ (k = 12 → 0 ≤ i) ∧ Wts ks
def Wts : List Tm → Prop
  | [] => True
  | t :: ts => Wt t ∧ Wts ts
end
theorem Wts_mem : ∀ {ts : List Tm} {i : Nat} {t : Tm}, Wts ts → ts[i]? = some t → Wt t
  | [], i, t, _, h => by simp at h
  | a :: ts, 0, t, hn, h => by simp at h; subst h; exact hn.1
  | a :: ts, i + 1, t, hn, h => by simp at h; exact Wts_mem hn.2 h
theorem Wts_append : ∀ {a b : List Tm}, Wts (a ++ b) ↔ Wts a ∧ Wts b
  | [], b => by simp [Wts]
  | x :: a, b => by simp only [List.cons_append, Wts, Wts_append (a := a), and_assoc]
theorem Nds_append : ∀ {a b : List Tm}, Nds (a ++ b) ↔ Nds a ∧ Nds b
  | [], b => by simp [Nds]
  | x :: a, b => by simp only [List.cons_append, Nds, Nds_append (a := a), and_assoc]
mutual
theorem wf_wt {vars metas : Int} : ∀ (t : Tm) (d : Int), wf vars metas d t → Wt t
  | .mk k i n l ks, d, h => by
    simp only [wf, Wt] at *
    exact ⟨h.2.2.1, fun e => (h.2.2.2.2.1 e).1, wfs_wt ks k d 0 h.2.2.2.2.2⟩
theorem wfs_wt {vars metas : Int} : ∀ (ts : List Tm) (k d : Int) (j : Nat), wfs vars metas k d j ts → Wts ts
  | [], k, d, j, h => trivial
  | t :: ts, k, d, j, h => by
    simp only [wfs, Wts] at *
    exact ⟨wf_wt t _ h.1, wfs_wt ts k d (j + 1) h.2⟩
end
/- spines -/
theorem spine_nd : ∀ (t : Tm), Nd t → Nd (spine t).1 ∧ Nds (spine t).2
  | .mk k i n l [f, a], h => by
    unfold spine
    split
    · have h' := h
      simp only [Nd, Nds] at h'
      obtain ⟨e1, e2⟩ := spine_nd f h'.2.2.2.2.1.1
      exact ⟨e1, Nds_append.2 ⟨e2, h'.2.2.2.2.1.2.1, trivial⟩⟩
    · exact ⟨h, trivial⟩
  | .mk k i n l [], h => by simp only [spine]; exact ⟨h, trivial⟩
  | .mk k i n l [_], h => by simp only [spine]; exact ⟨h, trivial⟩
  | .mk k i n l (_ :: _ :: _ :: _), h => by simp only [spine]; exact ⟨h, trivial⟩
theorem spine_wt : ∀ (t : Tm), Wt t → Wt (spine t).1 ∧ Wts (spine t).2
  | .mk k i n l [f, a], h => by
    unfold spine
    split
    · have h' := h
      simp only [Wt, Wts] at h'
      obtain ⟨e1, e2⟩ := spine_wt f h'.2.2.1
      exact ⟨e1, Wts_append.2 ⟨e2, h'.2.2.2.1, trivial⟩⟩
    · exact ⟨h, trivial⟩
  | .mk k i n l [], h => by simp only [spine]; exact ⟨h, trivial⟩
  | .mk k i n l [_], h => by simp only [spine]; exact ⟨h, trivial⟩
  | .mk k i n l (_ :: _ :: _ :: _), h => by simp only [spine]; exact ⟨h, trivial⟩
theorem apply_nd {xs : List Tm} : ∀ {f : Tm}, Nd f → Nds xs → Nd (apply f xs) := by
  induction xs with
  | nil => intro f h _; exact h
  | cons x xs ih =>
    intro f h hx
    exact ih (f := appT f x) ⟨by decide, by decide, by simp, by simp [big], ⟨h, hx.1, trivial⟩, ⟨by decide, by decide⟩, ⟨by decide, by decide⟩⟩ hx.2
theorem apply_wt {xs : List Tm} : ∀ {f : Tm}, Wt f → Wts xs → Wt (apply f xs) := by
  induction xs with
  | nil => intro f h _; exact h
  | cons x xs ih =>
    intro f h hx
    exact ih (f := appT f x) ⟨by simp [arity], by simp, h, hx.1, trivial⟩ hx.2
theorem apply_size {xs : List Tm} : ∀ (f : Tm), size (apply f xs) = size f + sizes xs + xs.length := by
  induction xs with
  | nil => intro f; simp [apply, sizes]
  | cons x xs ih =>
    intro f
    have := ih (appT f x)
    simp only [apply, List.foldl_cons, sizes, List.length_cons] at *
    rw [this]
    simp [appT, size, sizes]
    omega
theorem wt_var (i : Int) : Wt (varT i) := ⟨by simp [arity], by simp, trivial⟩
theorem wt_zero : Wt zeroT := ⟨by simp [arity], by simp, trivial⟩
mutual
theorem shiftW_wt (b fr : Int) : ∀ (t : Tm) (d er : Int), Wt t → Wt (shiftW b fr d er t).1
  | .mk k i n l ks, d, er, h => by
    unfold shiftW
    split
    · split
      · exact h
      · split
        · exact h
        · exact wt_var _
    · simp only [Wt] at h ⊢
      obtain ⟨e1, e2⟩ := shiftsW_wt b fr k ks d 0 er h.2.2
      exact ⟨by rw [e1]; exact h.1, h.2.1, e2⟩
theorem shiftsW_wt (b fr k : Int) : ∀ (ts : List Tm) (d : Int) (j : Nat) (er : Int), Wts ts → (shiftsW b fr k d j er ts).1.length = ts.length ∧ Wts (shiftsW b fr k d j er ts).1
  | [], d, j, er, h => by simp [shiftsW, Wts]
  | t :: ts, d, j, er, h => by
    simp only [shiftsW, Wts, List.length_cons] at *
    have := shiftW_wt b fr t (d + below k j) er h.1
    obtain ⟨e1, e2⟩ := shiftsW_wt b fr k ts d (j + 1) (shiftW b fr (d + below k j) er t).2 h.2
    exact ⟨by rw [e1], this, e2⟩
end
theorem wts_getD {vs : List Tm} (h : Wts vs) (i : Nat) : Wt (vs.getD i zeroT) := by
  cases e : vs[i]? with
  | none => simp [List.getD, e]; exact wt_zero
  | some x => rw [getD_of e]; exact Wts_mem h e
mutual
theorem substW_wt : ∀ (t : Tm) (vs : List Tm) (d er nd : Int), Wt t → Wts vs → Wt (substW vs d er nd t).1
  | .mk k i n l ks, vs, d, er, nd, h, hv => by
    unfold substW
    split
    · exact h
    · split
      · exact shiftW_wt _ _ _ _ _ (wts_getD hv _)
      · split
        · split
          · exact wt_var _
          · exact h
        · simp only [Wt] at h ⊢
          obtain ⟨e1, e2⟩ := substsW_wt ks vs k d 0 er (wr (nd + 1)) h.2.2 hv
          exact ⟨by rw [e1]; exact h.1, h.2.1, e2⟩
theorem substsW_wt : ∀ (ts : List Tm) (vs : List Tm) (k d : Int) (j : Nat) (er nd : Int), Wts ts → Wts vs → (substsW vs k d j er nd ts).1.length = ts.length ∧ Wts (substsW vs k d j er nd ts).1
  | [], vs, k, d, j, er, nd, h, hv => by simp [substsW, Wts]
  | t :: ts, vs, k, d, j, er, nd, h, hv => by
    simp only [substsW, Wts, List.length_cons] at *
    have := substW_wt t vs (d + below k j) er nd h.1 hv
    obtain ⟨e1, e2⟩ := substsW_wt ts vs k d (j + 1) (substW vs (d + below k j) er nd t).2.1 (substW vs (d + below k j) er nd t).2.2 h.2 hv
    exact ⟨by rw [e1], this, e2⟩
end
theorem underW_wt (t : Tm) (vs : List Tm) (d : Int) (h : Wt t) (hv : Wts vs) : Wt (underW t vs d).1 := by
  unfold underW
  split
  · exact wt_zero
  · split
    · exact wt_zero
    · split
      · exact wt_zero
      · exact substW_wt t vs _ _ _ h hv
mutual
theorem shiftW_size (b fr : Int) : ∀ (t : Tm) (d er : Int), t.kind = 0 ∧ t.kids = [] ∨ Wt t → size (shiftW b fr d er t).1 = size t
  | .mk k i n l ks, d, er, h => by
    unfold shiftW
    split
    · rename_i hk
      split
      · rfl
      · split
        · rfl
        · have : ks = [] := by
            rcases h with h | h
            · exact h.2
            · have := h.1
              subst hk
              simp [arity] at this
              exact this
          subst this
          simp [varT, size, sizes]
    · rename_i hk
      have hw : Wts ks := by
        rcases h with h | h
        · exact absurd h.1 hk
        · exact h.2.2
      simp only [size]
      rw [shiftsW_size b fr k ks d 0 er hw]
theorem shiftsW_size (b fr k : Int) : ∀ (ts : List Tm) (d : Int) (j : Nat) (er : Int), Wts ts → sizes (shiftsW b fr k d j er ts).1 = sizes ts
  | [], d, j, er, h => by simp [shiftsW]
  | t :: ts, d, j, er, h => by
    simp only [shiftsW, sizes]
    rw [shiftW_size b fr t _ _ (.inr h.1), shiftsW_size b fr k ts _ _ _ h.2]
end
end Go.Eu
namespace Go.Eu
open Go.Abs
set_option linter.unusedVariables false
mutual
theorem substW_size (V : Int) (hV : 1 ≤ V) (hV2 : V ≤ 2305843009213693952) : ∀ (t : Tm) (vs : List Tm) (d er nd : Int), Wt t → Wts vs → (∀ x ∈ vs, (size x : Int) ≤ V) → 0 ≤ nd → nd ≤ 4096 + V →
    nd ≤ (substW vs d er nd t).2.2 ∧ (substW vs d er nd t).2.2 ≤ 4096 + V ∧ ((substW vs d er nd t).2.2 ≤ 4096 → (size (substW vs d er nd t).1 : Int) = (substW vs d er nd t).2.2 - nd)
  | .mk k i n l ks, vs, d, er, nd, h, hv, hs, h0, h1 => by
    have hk0 : k = 0 → ks = [] := by
      intro e
      have := h.1
      subst e
      simp [arity] at this
      exact this
    unfold substW
    split
    · exact ⟨by simp, h1, by simp; omega⟩
    · split
      · rename_i hc
        have hlt : (i - d).toNat < vs.length := by omega
        obtain ⟨x, hx⟩ := getElem?_of_lt hlt
        have hxs := hs x (List.mem_of_getElem? hx)
        rw [getD_of hx, shiftW_size _ _ _ _ _ (.inr (Wts_mem hv hx)), sizeW_eq (by omega), wr_in ⟨by omega, by omega⟩]
        simp only
        exact ⟨by omega, by omega, by omega⟩
      · split
        · rename_i hk
          have hk := hk0 hk
          subst hk
          split
          · simp only [varT, size, sizes]
            rw [wr_in ⟨by omega, by omega⟩]
            exact ⟨by omega, by omega, by omega⟩
          · simp only [size, sizes]
            rw [wr_in ⟨by omega, by omega⟩]
            exact ⟨by omega, by omega, by omega⟩
        · rw [wr_in (n := nd + 1) ⟨by omega, by omega⟩]
          obtain ⟨e1, e2, e3⟩ := substsW_size V hV hV2 ks vs k d 0 er (nd + 1) h.2.2 hv hs (by omega) (by omega)
          simp only [size]
          exact ⟨by omega, e2, fun q => by have := e3 q; omega⟩
theorem substsW_size (V : Int) (hV : 1 ≤ V) (hV2 : V ≤ 2305843009213693952) : ∀ (ts : List Tm) (vs : List Tm) (k d : Int) (j : Nat) (er nd : Int), Wts ts → Wts vs → (∀ x ∈ vs, (size x : Int) ≤ V) → 0 ≤ nd → nd ≤ 4096 + V →
    nd ≤ (substsW vs k d j er nd ts).2.2 ∧ (substsW vs k d j er nd ts).2.2 ≤ 4096 + V ∧ ((substsW vs k d j er nd ts).2.2 ≤ 4096 → (sizes (substsW vs k d j er nd ts).1 : Int) = (substsW vs k d j er nd ts).2.2 - nd)
  | [], vs, k, d, j, er, nd, h, hv, hs, h0, h1 => by simp only [substsW, sizes]; exact ⟨by omega, h1, by omega⟩
  | t :: ts, vs, k, d, j, er, nd, h, hv, hs, h0, h1 => by
    obtain ⟨e1, e2, e3⟩ := substW_size V hV hV2 t vs (d + below k j) er nd h.1 hv hs h0 h1
    obtain ⟨f1, f2, f3⟩ := substsW_size V hV hV2 ts vs k d (j + 1) (substW vs (d + below k j) er nd t).2.1 (substW vs (d + below k j) er nd t).2.2 h.2 hv hs (by omega) e2
    simp only [substsW, sizes]
    exact ⟨by omega, f2, fun q => by have := f3 q; have := e3 (by omega); omega⟩
end
theorem underW_size (t : Tm) (vs : List Tm) (d : Int) (h : Wt t) (hv : Wts vs) (hs : ∀ x ∈ vs, (size x : Int) ≤ 2305843009213693952) : size (underW t vs d).1 ≤ 4096 := by
  have hz : size zeroT ≤ 4096 := by simp [zeroT, size, sizes]
  obtain ⟨e1, e2, e3⟩ := substW_size 2305843009213693952 (by omega) (by omega) t vs (min d 65536) 0 0 h hv hs (by omega) (by omega)
  unfold underW
  split
  · exact hz
  · rename_i hn
    have := e3 (by omega)
    split
    · exact hz
    · split
      · exact hz
      · simp only
        omega
/-  The reference's fill -/
def known (ms : List Mv) (t : Tm) : Bool :=
  match t with
  | .mk k i _ _ _ => k == 12 && (decide (i < ms.length) && (match ms[i.toNat]? with | some m => m.known | none => false))
def valueOf (ms : List Mv) (i : Int) : Tm := match ms[i.toNat]? with | some m => m.value | none => zeroT
/-- The error, or the filled terms, and the count. -/
def fillL (F : Cnt → Tm → Tm × Int × Cnt) : Cnt → List Tm → List Tm × Int × Cnt
  | c, [] => ([], 0, c)
  | c, t :: ts => if (F c t).2.1 ≠ 0 then ([], (F c t).2.1, (F c t).2.2)
    else if (fillL F (F c t).2.2 ts).2.1 ≠ 0 then ([], (fillL F (F c t).2.2 ts).2.1, (fillL F (F c t).2.2 ts).2.2)
    else ((F c t).1 :: (fillL F (F c t).2.2 ts).1, 0, (fillL F (F c t).2.2 ts).2.2)
def joinL (l : List Tm) (q : List Tm × Int × Cnt) : List Tm × Int × Cnt := if q.2.1 ≠ 0 then ([], q.2.1, q.2.2) else (l ++ q.1, 0, q.2.2)
theorem joinL_nil {F : Cnt → Tm → Tm × Int × Cnt} {c : Cnt} {ts : List Tm} : joinL [] (fillL F c ts) = fillL F c ts := by
  unfold joinL
  cases ts with
  | nil => simp [fillL]
  | cons t ts =>
    simp only [fillL]
    by_cases h1 : (F c t).2.1 = 0
    · by_cases h2 : (fillL F (F c t).2.2 ts).2.1 = 0
      · simp [h1, h2]
      · simp [h1, h2]
    · simp [h1]
theorem joinL_err {F : Cnt → Tm → Tm × Int × Cnt} {c : Cnt} {l ts : List Tm} {i : Nat} {x : Tm} (hx : ts[i]? = some x) (he : (F c x).2.1 ≠ 0) : joinL l (fillL F c (ts.drop i)) = ([], (F c x).2.1, (F c x).2.2) := by
  rw [drop_at hx]
  simp [joinL, fillL, he]
theorem joinL_ok {F : Cnt → Tm → Tm × Int × Cnt} {c : Cnt} {l ts : List Tm} {i : Nat} {x : Tm} (hx : ts[i]? = some x) (he : (F c x).2.1 = 0) : joinL (l ++ [(F c x).1]) (fillL F (F c x).2.2 (ts.drop (i + 1))) = joinL l (fillL F c (ts.drop i)) := by
  rw [drop_at hx]
  unfold joinL
  simp only [fillL, he]
  by_cases h : (fillL F (F c x).2.2 (ts.drop (i + 1))).2.1 = 0
  · simp [h]
  · simp [h]
def betaW : Cnt → Tm → List Tm → Cnt × Tm × List Tm
  | c, v, [] => (c, v, [])
  | c, v, a :: l => if v.kind = 5 ∧ c.over = false then betaW (c.form (underW (v.kids.getD 1 zeroT) [a] 0).1 (underW (v.kids.getD 1 zeroT) [a] 0).2) (underW (v.kids.getD 1 zeroT) [a] 0).1 l else (c, v, a :: l)
def withKids : Tm → List Tm → Tm
  | .mk k i n l _, ks => .mk k i n l ks
def fillW (ms : List Mv) : Nat → List Int → Cnt → Tm → Tm × Int × Cnt
  | 0, ab, c, t => (zeroT, 11, c)
  | n + 1, ab, c, t =>
    if c.over = true then (zeroT, 11, c)
    else if known ms (spine t).1 = false then
      (let q := fillL (fillW ms n ab) c (spine t).1.kids
       if q.2.1 ≠ 0 then (zeroT, q.2.1, q.2.2)
       else
        (let r := fillL (fillW ms n ab) q.2.2 (spine t).2
         if r.2.1 ≠ 0 then (zeroT, r.2.1, r.2.2)
         else (apply (withKids (spine t).1 q.1) r.1, 0, r.2.2.sized (apply (withKids (spine t).1 q.1) r.1))))
    else if (spine t).1.index ∈ ab then (zeroT, 22, c)
    else
      (let v := fillW ms n (ab ++ [(spine t).1.index]) c (valueOf ms (spine t).1.index)
       if v.2.1 ≠ 0 then (zeroT, v.2.1, v.2.2)
       else
        (let r := fillL (fillW ms n ab) (v.2.2.form v.1 0) (spine t).2
         if r.2.1 ≠ 0 then (zeroT, r.2.1, r.2.2)
         else
          (let b := betaW r.2.2 v.1 r.1
           (apply b.2.1 b.2.2, 0, b.1.form (apply b.2.1 b.2.2) 0))))
end Go.Eu
/- The reference's filling: what it returns is in order, and not too large. -/
namespace Go.Eu
open Go.Abs
set_option linter.unusedVariables false
def free (ms : List Mv) (ab : List Int) : Nat := ((List.range ms.length).filter fun i : Nat => !decide ((i : Int) ∈ ab)).length
theorem filter_lt {α : Type} {p q : α → Bool} {l : List α} (hpq : ∀ x, q x = true → p x = true) {x : α} (hx : x ∈ l) (h1 : p x = true) (h2 : q x = false) : (l.filter q).length < (l.filter p).length := by
  have le : ∀ l : List α, (l.filter q).length ≤ (l.filter p).length := by
    intro l
    induction l with
    | nil => simp
    | cons a l ih =>
      simp only [List.filter_cons]
      by_cases ha : q a = true
      · simp [ha, hpq a ha]; omega
      · simp only [ha]; cases p a <;> simp <;> omega
  induction l with
  | nil => simp at hx
  | cons a l ih =>
    simp only [List.filter_cons]
    rcases List.mem_cons.1 hx with rfl | hx
    · simp [h1, h2]; have := le l; omega
    · have := ih hx
      by_cases ha : q a = true
      · simp [ha, hpq a ha]; omega
      · simp only [ha]; cases p a <;> simp <;> omega
theorem free_lt {ms : List Mv} {ab : List Int} {i : Int} (h0 : 0 ≤ i) (h1 : i < ms.length) (h2 : i ∉ ab) : free ms (ab ++ [i]) < free ms ab := by
  unfold free
  refine filter_lt (x := i.toNat) ?_ (by simp; omega) ?_ ?_
  · intro x hx; simp at *; exact hx.1
  · have : ((i.toNat : Nat) : Int) = i := by omega
    simp [this, h2]
  · have : ((i.toNat : Nat) : Int) = i := by omega
    simp [this]
theorem free_nil (ms : List Mv) : free ms [] = ms.length := by
  have : (List.range ms.length).filter (fun _ => true) = List.range ms.length := List.filter_eq_self.2 (by simp)
  simp [free, this]
def Mb (S : Nat) : Nat → Nat
  | 0 => 0
  | k + 1 => S * (Mb S k + 2) + 4096 + Mb S k
theorem Mb_mono (S : Nat) {a b : Nat} (h : a ≤ b) : Mb S a ≤ Mb S b := by
  induction b with
  | zero => have : a = 0 := by omega
            subst this; exact Nat.le_refl _
  | succ b ih =>
    rcases Nat.lt_or_ge a (b + 1) with h' | h'
    · have := ih (by omega); simp only [Mb]; omega
    · have : a = b + 1 := by omega
      subst this; exact Nat.le_refl _
/-- The values of the metavariables are in order. -/
def MsOk (S : Nat) (ms : List Mv) : Prop := ∀ m ∈ ms, Nd m.value ∧ Wt m.value ∧ size m.value ≤ S
structure ResOk (M : Nat) (s : Nat) (r : Tm) : Prop where
  nd : Nd r
  wt : Wt r
  size : size r ≤ s * M
theorem resOk_zero {M s : Nat} (hM : 1 ≤ M) (hs : 1 ≤ s) : ResOk M s zeroT := ⟨nd_zero, wt_zero, by simp only [zeroT, size, sizes]; exact Nat.mul_le_mul hs hM⟩
theorem fillL_ok {F : Cnt → Tm → Tm × Int × Cnt} {M : Nat} : ∀ (ts : List Tm) (c : Cnt), (∀ x ∈ ts, ∀ c, ResOk M (size x) (F c x).1) → Nds (fillL F c ts).1 ∧ Wts (fillL F c ts).1 ∧ sizes (fillL F c ts).1 ≤ sizes ts * M ∧ (fillL F c ts).1.length ≤ ts.length ∧ ((fillL F c ts).2.1 = 0 → (fillL F c ts).1.length = ts.length)
  | [], c, h => by simp [fillL, Nds, Wts, sizes]
  | t :: ts, c, h => by
    obtain ⟨h1, h2, h3⟩ := h t (by simp) c
    obtain ⟨e1, e2, e3, e4, e5⟩ := fillL_ok ts (F c t).2.2 (fun x hx => h x (by simp [hx]))
    simp only [fillL]
    by_cases hc : (F c t).2.1 = 0
    · by_cases hd : (fillL F (F c t).2.2 ts).2.1 = 0
      · simp only [hc, hd, ne_eq, not_true_eq_false, if_false, sizes, Nds, Wts, List.length_cons]
        exact ⟨⟨h1, e1⟩, ⟨h2, e2⟩, by rw [Nat.add_mul]; omega, by omega, fun _ => by have := e5 hd; omega⟩
      · simp [hc, hd, Nds, Wts, sizes]
    · simp [hc, Nds, Wts, sizes]
theorem withKids_ok {h : Tm} {ks : List Tm} (hn : Nd h) (hw : Wt h) (hk : Nds ks) (hkw : Wts ks) (hl : ks.length = h.kids.length) : Nd (withKids h ks) ∧ Wt (withKids h ks) ∧ size (withKids h ks) = 1 + sizes ks := by
  obtain ⟨k, i, n, l, s⟩ := h
  simp only [Tm.kids] at hl
  simp only [withKids, Nd, Wt, size] at *
  exact ⟨⟨hn.1, hn.2.1, hn.2.2.1, by omega, hk, hn.2.2.2.2.2⟩, ⟨by rw [hl]; exact hw.1, hw.2.1, hkw⟩, trivial⟩
theorem kid_ok {v : Tm} (hn : Nd v) (hw : Wt v) (i : Nat) : Nd (v.kids.getD i zeroT) ∧ Wt (v.kids.getD i zeroT) := by
  obtain ⟨k, j, n, l, s⟩ := v
  simp only [Nd, Wt] at hn hw
  exact ⟨nds_getD hn.2.2.2.2.1 i, wts_getD hw.2.2 i⟩
theorem kids_ok {v : Tm} (hn : Nd v) (hw : Wt v) : Nds v.kids ∧ Wts v.kids := by
  obtain ⟨k, j, n, l, s⟩ := v
  simp only [Nd, Wt] at hn hw
  exact ⟨hn.2.2.2.2.1, hw.2.2⟩
theorem idx_ok {v : Tm} (hw : Wt v) (h : v.kind = 12) : 0 ≤ v.index := by
  obtain ⟨k, j, n, l, s⟩ := v
  simp only [Wt] at hw
  exact hw.2.1 h
theorem betaW_ok {A : Nat} (hA : 4096 ≤ A) : ∀ (l : List Tm) (c : Cnt) (v : Tm), Nd v → Wt v → size v ≤ A → Nds l → Wts l → (∀ x ∈ l, (size x : Int) ≤ 2305843009213693952) →
    Nd (betaW c v l).2.1 ∧ Wt (betaW c v l).2.1 ∧ size (betaW c v l).2.1 ≤ A ∧ ∃ k, (betaW c v l).2.2 = l.drop k
  | [], c, v, h1, h2, h3, _, _, _ => ⟨h1, h2, h3, 0, rfl⟩
  | a :: l, c, v, h1, h2, h3, h4, h5, h6 => by
    unfold betaW
    split
    · have k1 := kid_ok h1 h2 1
      have e1 := underW_nd (v.kids.getD 1 zeroT) [a] 0 k1.1 ⟨h4.1, trivial⟩
      have e2 := underW_wt (v.kids.getD 1 zeroT) [a] 0 k1.2 ⟨h5.1, trivial⟩
      have e3 := underW_size (v.kids.getD 1 zeroT) [a] 0 k1.2 ⟨h5.1, trivial⟩ (fun x hx => h6 x (by simp at hx; simp [hx]))
      obtain ⟨f1, f2, f3, k, f4⟩ := betaW_ok hA l (c.form (underW (v.kids.getD 1 zeroT) [a] 0).1 (underW (v.kids.getD 1 zeroT) [a] 0).2) _ e1 e2 (by omega) h4.2 h5.2 (fun x hx => h6 x (by simp [hx]))
      exact ⟨f1, f2, f3, k + 1, f4⟩
    · exact ⟨h1, h2, h3, 0, rfl⟩
theorem sizes_drop (l : List Tm) (k : Nat) : sizes (l.drop k) ≤ sizes l := by
  induction l generalizing k with
  | nil => simp
  | cons a l ih =>
    cases k with
    | zero => simp
    | succ k => simp only [List.drop_succ_cons, sizes]; have := ih k; omega
theorem Nds_drop {l : List Tm} (h : Nds l) (k : Nat) : Nds (l.drop k) := by
  induction l generalizing k with
  | nil => simp [Nds]
  | cons a l ih =>
    cases k with
    | zero => exact h
    | succ k => exact ih h.2 k
theorem Wts_drop {l : List Tm} (h : Wts l) (k : Nat) : Wts (l.drop k) := by
  induction l generalizing k with
  | nil => simp [Wts]
  | cons a l ih =>
    cases k with
    | zero => exact h
    | succ k => exact ih h.2 k
theorem mem_of_idx {α : Type} {l : List α} {x : α} (h : x ∈ l) : ∃ i : Nat, l[i]? = some x := by
  obtain ⟨i, hi, he⟩ := List.mem_iff_getElem.1 h
  exact ⟨i, by rw [List.getElem?_eq_getElem hi, he]⟩
theorem size_kid {h : Tm} : 1 + sizes h.kids = size h := by obtain ⟨k, i, n, l, s⟩ := h; rfl
theorem known_idx {ms : List Mv} {h : Tm} (hk : known ms h = true) : h.kind = 12 ∧ h.index < ms.length := by
  obtain ⟨k, i, n, l, s⟩ := h
  simp only [known, Bool.and_eq_true, beq_iff_eq, decide_eq_true_eq] at hk
  exact ⟨hk.1, hk.2.1⟩
theorem valueOf_ok {S : Nat} {ms : List Mv} (hm : MsOk S ms) (i : Int) : Nd (valueOf ms i) ∧ Wt (valueOf ms i) ∧ (size (valueOf ms i) ≤ S ∨ size (valueOf ms i) = 1) := by
  unfold valueOf
  split
  · rename_i m e
    have := hm m (List.mem_of_getElem? e)
    exact ⟨this.1, this.2.1, .inl this.2.2⟩
  · exact ⟨nd_zero, wt_zero, .inr rfl⟩
theorem fillW_ok {ms : List Mv} {S : Nat} (hS : 1 ≤ S) (hm : MsOk S ms) : ∀ (n : Nat) (ab : List Int) (c : Cnt) (t : Tm), Nd t → Wt t → size t * (Mb S (free ms ab) + 2) < 1152921504606846976 → ResOk (Mb S (free ms ab) + 2) (size t) (fillW ms n ab c t).1
  | 0, ab, c, t, hn, hw, hb => resOk_zero (by omega) (size_pos t)
  | n + 1, ab, c, t, hn, hw, hb => by
    have hz := resOk_zero (M := Mb S (free ms ab) + 2) (s := size t) (by omega) (size_pos t)
    obtain ⟨sn1, sn2⟩ := spine_nd t hn
    obtain ⟨sw1, sw2⟩ := spine_wt t hw
    have ssz := spine_len_sizes t
    have hkz := size_kid (h := (spine t).1)
    have kn : Nds (spine t).1.kids ∧ Wts (spine t).1.kids := kids_ok sn1 sw1
    generalize hM : Mb S (free ms ab) + 2 = M at *
    have hmul : ∀ s : Nat, s ≤ size t → s * M < 1152921504606846976 := fun s hs => Nat.lt_of_le_of_lt (Nat.mul_le_mul_right M hs) hb
    have IH : ∀ (l : List Tm), Nds l → Wts l → sizes l ≤ size t → ∀ x ∈ l, ∀ c, ResOk M (size x) (fillW ms n ab c x).1 := by
      intro l h1 h2 h3 x hx c
      obtain ⟨i, hi⟩ := mem_of_idx hx
      have := size_mem hi
      have r := fillW_ok hS hm n ab c x (Nds_mem h1 hi) (Wts_mem h2 hi) (by rw [hM]; exact hmul _ (by omega))
      rwa [hM] at r
    unfold fillW
    split
    · exact hz
    · split
      · -- no value
        simp only
        obtain ⟨a1, a2, a3, a4, a5⟩ := fillL_ok (F := fillW ms n ab) (M := M) (spine t).1.kids c (IH _ kn.1 kn.2 (by omega))
        split
        · exact hz
        · rename_i hq
          have hq := a5 (by simpa using hq)
          obtain ⟨b1, b2, b3, b4, b5⟩ := fillL_ok (F := fillW ms n ab) (M := M) (spine t).2 (fillL (fillW ms n ab) c (spine t).1.kids).2.2 (IH _ sn2 sw2 (by omega))
          split
          · exact hz
          · obtain ⟨w1, w2, w3⟩ := withKids_ok sn1 sw1 a1 a2 hq
            refine ⟨apply_nd w1 b1, apply_wt w2 b2, ?_⟩
            rw [apply_size, w3, ← ssz, ← hkz]
            simp only [Nat.add_mul]
            have : (spine t).2.length ≤ (spine t).2.length * M := Nat.le_mul_of_pos_right _ (by omega)
            omega
      · split
        · exact hz
        · rename_i hk hin
          have hk := known_idx (by simpa using hk)
          have h0 : 0 ≤ (spine t).1.index := idx_ok sw1 hk.1
          have hlt := free_lt h0 hk.2 hin
          obtain ⟨v1, v2, v3⟩ := valueOf_ok hm (spine t).1.index
          obtain ⟨j, hj⟩ : ∃ j, free ms ab = j + 1 := ⟨free ms ab - 1, by omega⟩
          have hMj : M = S * (Mb S j + 2) + 4096 + Mb S j + 2 := by rw [← hM, hj]; rfl
          have hmono := Mb_mono S (show free ms (ab ++ [(spine t).1.index]) ≤ j by omega)
          have hvs : size (valueOf ms (spine t).1.index) * (Mb S (free ms (ab ++ [(spine t).1.index])) + 2) ≤ S * (Mb S j + 2) := Nat.mul_le_mul (by omega) (by omega)
          have hMlt : M < 1152921504606846976 := by have := hmul 1 (size_pos t); omega
          have rv := fillW_ok hS hm n (ab ++ [(spine t).1.index]) c _ v1 v2 (by omega)
          simp only
          split
          · exact hz
          · obtain ⟨b1, b2, b3, b4, b5⟩ := fillL_ok (F := fillW ms n ab) (M := M) (spine t).2 ((fillW ms n (ab ++ [(spine t).1.index]) c (valueOf ms (spine t).1.index)).2.2.form (fillW ms n (ab ++ [(spine t).1.index]) c (valueOf ms (spine t).1.index)).1 0) (IH _ sn2 sw2 (by omega))
            split
            · exact hz
            · generalize hfl : fillL (fillW ms n ab) ((fillW ms n (ab ++ [(spine t).1.index]) c (valueOf ms (spine t).1.index)).2.2.form (fillW ms n (ab ++ [(spine t).1.index]) c (valueOf ms (spine t).1.index)).1 0) (spine t).2 = fl at *
              have hargs : sizes (spine t).2 * M < 1152921504606846976 := hmul _ (by omega)
              obtain ⟨c1, c2, c3, k, c4⟩ := betaW_ok (A := S * (Mb S j + 2) + 4096) (by omega) fl.1 fl.2.2 _ rv.nd rv.wt (by have := rv.size; omega) b1 b2 (fun x hx => by
                obtain ⟨i, hi⟩ := mem_of_idx hx
                have := size_mem hi
                omega)
              refine ⟨apply_nd c1 (by rw [c4]; exact Nds_drop b1 k), apply_wt c2 (by rw [c4]; exact Wts_drop b2 k), ?_⟩
              rw [apply_size, c4]
              have d1 := sizes_drop fl.1 k
              have d2 : (fl.1.drop k).length ≤ fl.1.length := by simp
              rw [← ssz]
              have d3 : (spine t).2.length ≤ (spine t).2.length * M := Nat.le_mul_of_pos_right _ (by omega)
              have d4 : M ≤ size (spine t).1 * M := Nat.le_mul_of_pos_left _ (size_pos _)
              simp only [Nat.add_mul]
              omega
end Go.Eu
namespace Go.Eu
open Go.Abs
set_option linter.unusedVariables false
section
variable {ms : List Mv} {n : Nat} {ab : List Int} {c : Cnt} {t : Tm} {zk zi : Int} {zn : ByteArray} {zl : List Lvl} {zs : List Tm}
theorem fillW_over (h : c.over = true) : fillW ms (n + 1) ab c t = (zeroT, 11, c) := by unfold fillW; rw [if_pos h]
theorem fillW_nk1 (h : c.over = false) (hz : (spine t).1 = .mk zk zi zn zl zs) (hk : known ms (.mk zk zi zn zl zs) = false) {e : Int} {d : Cnt} (hq : fillL (fillW ms n ab) c zs = ([], e, d)) (he : e ≠ 0) : fillW ms (n + 1) ab c t = (zeroT, e, d) := by
  unfold fillW
  rw [if_neg (by simp [h]), if_pos (by rw [hz]; exact hk), hz]
  simp only [Tm.kids, hq]
  rw [if_pos he]
theorem fillW_nk2 (h : c.over = false) (hz : (spine t).1 = .mk zk zi zn zl zs) (hk : known ms (.mk zk zi zn zl zs) = false) {ks : List Tm} {e : Int} {d d' : Cnt} (hq : fillL (fillW ms n ab) c zs = (ks, 0, d)) (hr : fillL (fillW ms n ab) d (spine t).2 = ([], e, d')) (he : e ≠ 0) : fillW ms (n + 1) ab c t = (zeroT, e, d') := by
  unfold fillW
  rw [if_neg (by simp [h]), if_pos (by rw [hz]; exact hk), hz]
  simp only [Tm.kids, hq, hr]
  rw [if_neg (by simp), if_pos he]
theorem fillW_nk3 (h : c.over = false) (hz : (spine t).1 = .mk zk zi zn zl zs) (hk : known ms (.mk zk zi zn zl zs) = false) {ks as : List Tm} {d d' : Cnt} (hq : fillL (fillW ms n ab) c zs = (ks, 0, d)) (hr : fillL (fillW ms n ab) d (spine t).2 = (as, 0, d')) : fillW ms (n + 1) ab c t = (apply (.mk zk zi zn zl ks) as, 0, d'.sized (apply (.mk zk zi zn zl ks) as)) := by
  unfold fillW
  rw [if_neg (by simp [h]), if_pos (by rw [hz]; exact hk), hz]
  simp only [Tm.kids, hq, hr]
  rw [if_neg (by simp), if_neg (by simp)]
  rfl
theorem fillW_in (h : c.over = false) (hz : (spine t).1 = .mk zk zi zn zl zs) (hk : known ms (.mk zk zi zn zl zs) = true) (hi : zi ∈ ab) : fillW ms (n + 1) ab c t = (zeroT, 22, c) := by
  unfold fillW
  rw [if_neg (by simp [h]), if_neg (by rw [hz]; simp [hk]), if_pos (by rw [hz]; exact hi)]
theorem fillW_v1 (h : c.over = false) (hz : (spine t).1 = .mk zk zi zn zl zs) (hk : known ms (.mk zk zi zn zl zs) = true) (hi : zi ∉ ab) {u : Tm} (hu : valueOf ms zi = u) (he : (fillW ms n (ab ++ [zi]) c u).2.1 ≠ 0) : fillW ms (n + 1) ab c t = (zeroT, (fillW ms n (ab ++ [zi]) c u).2.1, (fillW ms n (ab ++ [zi]) c u).2.2) := by
  conv => lhs; unfold fillW
  rw [if_neg (by simp [h]), if_neg (by rw [hz]; simp [hk]), if_neg (by rw [hz]; exact hi), hz]
  simp only [Tm.index, hu]
  rw [if_pos he]
theorem fillW_v2 (h : c.over = false) (hz : (spine t).1 = .mk zk zi zn zl zs) (hk : known ms (.mk zk zi zn zl zs) = true) (hi : zi ∉ ab) {u v : Tm} {d d' : Cnt} {e : Int} (hu : valueOf ms zi = u) (hv : fillW ms n (ab ++ [zi]) c u = (v, 0, d)) (hr : fillL (fillW ms n ab) (d.form v 0) (spine t).2 = ([], e, d')) (he : e ≠ 0) : fillW ms (n + 1) ab c t = (zeroT, e, d') := by
  unfold fillW
  rw [if_neg (by simp [h]), if_neg (by rw [hz]; simp [hk]), if_neg (by rw [hz]; exact hi), hz]
  simp only [Tm.index, hu, hv, hr]
  rw [if_neg (by simp), if_pos he]
theorem fillW_v3 (h : c.over = false) (hz : (spine t).1 = .mk zk zi zn zl zs) (hk : known ms (.mk zk zi zn zl zs) = true) (hi : zi ∉ ab) {u v v' : Tm} {as as' : List Tm} {d d' d'' : Cnt} (hu : valueOf ms zi = u) (hv : fillW ms n (ab ++ [zi]) c u = (v, 0, d)) (hr : fillL (fillW ms n ab) (d.form v 0) (spine t).2 = (as, 0, d')) (hb : betaW d' v as = (d'', v', as')) : fillW ms (n + 1) ab c t = (apply v' as', 0, d''.form (apply v' as') 0) := by
  unfold fillW
  rw [if_neg (by simp [h]), if_neg (by rw [hz]; simp [hk]), if_neg (by rw [hz]; exact hi), hz]
  simp only [Tm.index, hu, hv, hr, hb]
  rw [if_neg (by simp), if_neg (by simp)]
end
theorem joinL_done {F : Cnt → Tm → Tm × Int × Cnt} {c d : Cnt} {l ts : List Tm} {i : Nat} (hC : joinL l (fillL F d (ts.drop i)) = fillL F c ts) (hi : ts.length ≤ i) : fillL F c ts = (l, 0, d) := by
  rw [← hC, List.drop_eq_nil_of_le hi]
  simp [fillL, joinL]
end Go.Eu
namespace Go.Eu
open Go.Abs
set_option linter.unusedVariables false
theorem apply_one {f x : Tm} {us : List Tm} : apply (apply f us) [x] = apply f (us ++ [x]) := by simp [apply]
theorem val_side {n S : Nat} {ms : List Mv} {ab : List Int} {t : Tm} {zi : Int} (h1 : size t + (S + 1) * free ms ab ≤ n + 1) (h4 : ab.length + free ms ab < 1048576) (h5 : MsOk S ms) (h6 : size t * (Mb S (free ms ab) + 2) < 1152921504606846976) (h7 : 1 ≤ S) (h10 : S < 1073741824) (h0 : 0 ≤ zi) (hlt : zi < ms.length) (hin : zi ∉ ab) :
    size (valueOf ms zi) + (S + 1) * free ms (ab ++ [zi]) ≤ n ∧ Nd (valueOf ms zi) ∧ Wt (valueOf ms zi) ∧ (ab ++ [zi]).length + free ms (ab ++ [zi]) < 1048576 ∧ size (valueOf ms zi) * (Mb S (free ms (ab ++ [zi])) + 2) < 1152921504606846976 ∧ size (valueOf ms zi) < 1073741824 := by
  have hl := free_lt h0 hlt hin
  obtain ⟨v1, v2, v3⟩ := valueOf_ok h5 zi
  have hp := size_pos t
  have e1 : (S + 1) * (free ms (ab ++ [zi]) + 1) ≤ (S + 1) * free ms ab := Nat.mul_le_mul_left _ hl
  rw [Nat.mul_add] at e1
  obtain ⟨j, hj⟩ : ∃ j, free ms ab = j + 1 := ⟨free ms ab - 1, by omega⟩
  have hmono := Mb_mono S (show free ms (ab ++ [zi]) ≤ j by omega)
  have hvs : size (valueOf ms zi) * (Mb S (free ms (ab ++ [zi])) + 2) ≤ S * (Mb S j + 2) := Nat.mul_le_mul (by omega) (by omega)
  have hM : Mb S (free ms ab) + 2 ≤ size t * (Mb S (free ms ab) + 2) := Nat.le_mul_of_pos_left _ hp
  have hMj : Mb S (free ms ab) = S * (Mb S j + 2) + 4096 + Mb S j := by rw [hj]; rfl
  exact ⟨by omega, v1, v2, by simp; omega, by omega, by omega⟩
theorem take_one {α : Type} {l : List α} (h : 0 < l.length) : ∃ a, l.take 1 = [a] ∧ l = a :: l.drop 1 := by
  cases l with
  | nil => simp at h
  | cons a l => exact ⟨a, rfl, rfl⟩
theorem betaW_step {c : Cnt} {v x : Tm} {ls : List Tm} (h : 0 < ls.length) (hk : v.kind = 5) (ho : c.over = false) (hx : v.kids[1]? = some x) :
    betaW (c.form (underW x (ls.take 1) 0).1 (underW x (ls.take 1) 0).2) (underW x (ls.take 1) 0).1 (ls.drop 1) = betaW c v ls := by
  obtain ⟨a, h1, h2⟩ := take_one h
  rw [h1]
  conv => rhs; rw [h2]
  rw [betaW, if_pos ⟨hk, ho⟩, getD_of hx]
theorem betaW_stop {c : Cnt} {v : Tm} {ls : List Tm} (h : 0 < ls.length → v.kind = 5 → c.over = true) : betaW c v ls = (c, v, ls) := by
  cases ls with
  | nil => rfl
  | cons a l =>
    rw [betaW, if_neg]
    intro ⟨h1, h2⟩
    rw [h (by simp) h1] at h2
    cases h2
theorem fillL_args {ms : List Mv} {S n : Nat} {ab : List Int} {c d : Cnt} {ts ys : List Tm} {s : Nat} (hS : 1 ≤ S) (hm : MsOk S ms) (h1 : Nds ts) (h2 : Wts ts) (hs : sizes ts ≤ s) (h6 : s * (Mb S (free ms ab) + 2) < 1152921504606846976) (h : fillL (fillW ms n ab) c ts = (ys, 0, d)) : Nds ys ∧ Wts ys ∧ sizes ys < 1152921504606846976 ∧ ys.length = ts.length := by
  have := fillL_ok (F := fillW ms n ab) (M := Mb S (free ms ab) + 2) ts c (fun x hx c => by
    obtain ⟨i, hi⟩ := mem_of_idx hx
    have := size_mem hi
    exact fillW_ok hS hm n ab c x (Nds_mem h1 hi) (Wts_mem h2 hi) (Nat.lt_of_le_of_lt (Nat.mul_le_mul_right _ (by omega)) h6))
  rw [h] at this
  simp only at this
  have e := Nat.mul_le_mul_right (Mb S (free ms ab) + 2) hs
  exact ⟨this.1, this.2.1, by omega, this.2.2.2.2 trivial⟩
theorem fillW_facts {ms : List Mv} {S n : Nat} {ab : List Int} {c d : Cnt} {t v : Tm} {e : Int} (hS : 1 ≤ S) (hm : MsOk S ms) (h1 : Nd t) (h2 : Wt t) (h6 : size t * (Mb S (free ms ab) + 2) < 1152921504606846976) (h : fillW ms n ab c t = (v, e, d)) : Nd v ∧ Wt v ∧ size v < 1152921504606846976 := by
  have r := fillW_ok hS hm n ab c t h1 h2 h6
  rw [h] at r
  exact ⟨r.nd, r.wt, Nat.lt_of_le_of_lt r.size h6⟩
end Go.Eu
namespace Go.Eu
theorem Nds_take {l : List Tm} (h : Nds l) (k : Nat) : Nds (l.take k) := by
  induction l generalizing k with
  | nil => simp [Nds]
  | cons a l ih =>
    cases k with
    | zero => trivial
    | succ k => exact ⟨h.1, ih h.2 k⟩
theorem Wts_take {l : List Tm} (h : Wts l) (k : Nat) : Wts (l.take k) := by
  induction l generalizing k with
  | nil => simp [Wts]
  | cons a l ih =>
    cases k with
    | zero => trivial
    | succ k => exact ⟨h.1, ih h.2 k⟩
theorem mem_sizes {l : List Tm} {x : Tm} (h : x ∈ l) : size x ≤ sizes l := by
  obtain ⟨i, hi⟩ := mem_of_idx h
  exact size_mem hi
theorem beta_inv {v x : Tm} {ls : List Tm} (h1 : Nd v) (h2 : Wt v) (h3 : Nds ls) (h4 : Wts ls) (h5 : sizes ls < 1152921504606846976) (hx : v.kids[1]? = some x) : Nd (underW x (ls.take 1) 0).1 ∧ Wt (underW x (ls.take 1) 0).1 ∧ Nds (ls.drop 1) ∧ Wts (ls.drop 1) ∧ size (underW x (ls.take 1) 0).1 < 1152921504606846976 ∧ sizes (ls.drop 1) < 1152921504606846976 := by
  have k1 := Nds_mem (kids_ok h1 h2).1 hx
  have k2 := Wts_mem (kids_ok h1 h2).2 hx
  have e3 := underW_size x (ls.take 1) 0 k2 (Wts_take h4 1) (fun y hy => by have := mem_sizes hy; have := sizes_le (ts := ls) 1; omega)
  have := sizes_drop ls 1
  exact ⟨underW_nd _ _ _ k1 (Nds_take h3 1), underW_wt _ _ _ k2 (Wts_take h4 1), Nds_drop h3 1, Wts_drop h4 1, by omega, by omega⟩
end Go.Eu
namespace Go.Eu
def fillT (ms : List Mv) (n : Nat) (c : Cnt) (t : Tm) : Tm × Int × Cnt :=
  ((fillW ms n [] c t).1, (fillW ms n [] c t).2.1, if (fillW ms n [] c t).2.1 = 0 then (fillW ms n [] c t).2.2.form (fillW ms n [] c t).1 0 else (fillW ms n [] c t).2.2)
def unkW (ms : List Mv) (n : Nat) (c : Cnt) (t : Tm) : List Int × Int :=
  if (fillT ms n c t).2.1 = 0 then (metasW [] (fillT ms n c t).1, 0) else ([], (fillT ms n c t).2.1)
end Go.Eu
/- The abstract program logic: tracked objects that are known by a name alone; yields. -/
namespace Go.Abs
set_option linter.unusedVariables false
section
variable {P : Program} {r : Option Nat} {ops : Array Oper} {Q : AExit → AState → Prop} {k : Nat} {n : Nat} {τ : Nat → AV} {T : List HObj} {D : List ADef} {dst : Option Tmp} {op : Op} {ty : TypeId} {pos : String} {aft : Array Edge} {v : AV} {c : Call} {f : Operand} {fid : FuncId} {first caps A : List AV} {R : ARes → List HObj → Prop}
theorem al_permH {H H' : List HObj} (hp : H.Perm H') (h : AL P r ops k ⟨n, τ, H', D⟩ Q) : AL P r ops k ⟨n, τ, H, D⟩ Q := al_ghost (awp_permH (S := ⟨n, τ, H, D⟩) hp) h
/-- A call of yield: the objects T are the loop's; those ahead of them are the caller's own. -/
theorem al_yieldT (fr : List HObj) {l : Nat} (ho : ops[k]? = some ⟨dst, .call c, ty, pos, aft, none⟩) (hd : dstB dst n = true)
    (hc : c.callee = .value f) (hf : ev τ f = .fn (.yield l) [] []) (h : AYield P l A T R) (hA : c.args.toList.map (ev τ) = A)
    (next : ∀ v T', R (.val v) T' → AL P r ops (k + 1) ⟨n, put τ dst v, fr ++ T', D⟩ Q) (pan : ∀ v T', R (.panic v) T' → Q (.panic v) ⟨n, τ, T' ++ fr, D⟩) : AL P r ops k ⟨n, τ, fr ++ T, D⟩ Q :=
  al_stepR (S := ⟨n, τ, fr ++ T, D⟩) ho (by simp [Wants]) (dst_ok hd) (aop_yield hc hf List.perm_append_comm h hA) (fun v H' ⟨Hs', h1, h2⟩ => by subst h2; exact al_permH List.perm_append_comm (next v Hs' h1)) (fun v H' ⟨Hs', h1, h2⟩ => by subst h2; exact pan v Hs' h1)
/-- A call that is handed all objects but those ahead. -/
theorem al_callT (fr : List HObj) (ho : ops[k]? = some ⟨dst, .call c, ty, pos, aft, none⟩) (hd : dstB dst n = true)
    (hc : c.callee = .value f) (hf : (ev τ f = .p (.fn fid) ∧ first = [] ∧ caps = []) ∨ ev τ f = .fn (.func fid) first caps) (h : ACalls P fid A T R) (hA : ArgsW (first ++ c.args.toList.map (ev τ) ++ caps) A)
    (next : ∀ v T', R (.val v) T' → AL P r ops (k + 1) ⟨n, put τ dst v, fr ++ T', D⟩ Q) (pan : ∀ v T', R (.panic v) T' → Q (.panic v) ⟨n, τ, T' ++ fr, D⟩) : AL P r ops k ⟨n, τ, fr ++ T, D⟩ Q :=
  al_call ho hd hc hf List.perm_append_comm (h.args hA) (.inl rfl) (fun v H' h1 => al_permH List.perm_append_comm (next v H' h1)) pan
end
theorem WeakL.append : ∀ {l l' : List HObj} {T : List HObj}, WeakL l l' → WeakL (l ++ T) (l' ++ T)
  | [], l', T, h => by simp only [WeakL] at h; subst h; exact WeakL.refl T
  | o :: l, l', T, h => by
    obtain ⟨o', r', rfl, h1, h2⟩ := h
    exact ⟨o', r' ++ T, rfl, h1, WeakL.append h2⟩
theorem leT (is : List Nat) (l : List HObj) {l1 l' T : List HObj} (h : subAt is 0 l = l1) (w : WeakL l1 l') : LeH (l ++ T) (l' ++ T) := ⟨l1 ++ T, (subl h).append_right T, w.append⟩
theorem sublT (is : List Nat) (l : List HObj) {l1 T : List HObj} (h : subAt is 0 l = l1) : (l1 ++ T).Sublist (l ++ T) := (subl h).append_right T
/-- What a call returns, with what is left. -/
def retB (b : Bool) (H' : List HObj) : ARes → List HObj → Prop
  | .val v, H'' => v = .p (.bool b) ∧ H'' = H'
  | .panic _, _ => False
end Go.Abs
namespace Go.Abs
theorem ghost_eq {n : Nat} {τ : Nat → AV} {H : List HObj} {D : List ADef} {t : Nat} {x : AV} (h : τ t = x) : Ghost ⟨n, τ, H, D⟩ ⟨n, put τ (some t) x, H, D⟩ := ghost_slot fun _ _ _ hr => h ▸ hr
end Go.Abs
namespace Go.Abs
set_option linter.unusedVariables false
section
variable {P : Program} {dst : Option Tmp} {ty : TypeId} {pos : String} {aft : Array Edge} {g : Option (Nat × Bool)} {ρ : Operand → AV} {H : List HObj} {x y : Operand}
theorem info_of {e : TypeId} {bl : Bool} {sz : Nat} (ht : tyOf P e = some (bl, sz)) : ∃ inf, P.info? e = some inf ∧ inf.size = sz := by
  obtain ⟨d, _, _, h⟩ := tyOf_spec ht
  cases hi : P.info? e with
  | none => simp [hi] at h
  | some inf => simp [hi] at h; exact ⟨inf, rfl, h⟩
theorem aop_index_arr2 {T e : TypeId} {bl : Bool} {len sz b o : Nat} {k : IntKind} {i : Int} (hu : P.underlying T = some (.array len e)) (ht : tyOf P e = some (bl, sz)) (hx : ρ x = .ptr b o) (hy : ρ y = .p (.int k i)) (h0 : 0 ≤ i) (hn : i < len) :
    AOp P ⟨dst, .indexAddr T x y, ty, pos, aft, g⟩ ρ H (.ptr b (o + i.toNat * sz)) H := by
  obtain ⟨inf, h1, h2⟩ := info_of ht
  exact aop_index_arr hu h1 h2 hx hy h0 hn
theorem aop_build_arr2 {T e : TypeId} {bl : Bool} {len sz : Nat} {parts : Array (Nat × Operand)} {z : Value} {cs : List AV} (hu : P.underlying T = some (.array len e)) (ht : tyOf P e = some (bl, sz)) (hz : zeroOf P T = some z)
    (hc : fillA (fun i => some (i * sz, sz)) (z.cells.toList.map ofVal) (parts.toList.map fun p => (p.1, ρ p.2)) = some cs) : AOp P ⟨dst, .build T parts, ty, pos, aft, g⟩ ρ H (.agg cs) H := by
  obtain ⟨inf, h1, h2⟩ := info_of ht
  subst h2
  exact aop_build_arr hu h1 hz hc
end
end Go.Abs
namespace Go.Abs
set_option linter.unusedVariables false
theorem awp_rangeL {P : Program} {g : Operand} {ps : Array Tmp} {assign body : Code} {S : AState} {Q : AExit → AState → Prop} {fid : FuncId} {first caps : List AV}
    (hg : (ev S.τ g = .p (.fn fid) ∧ first = [] ∧ caps = []) ∨ ev S.τ g = .fn (.func fid) first caps)
    (h : ∀ d l (L : ALoop), L = ⟨.ready, none, S.n, S.τ, ps, assign, body⟩ → ∃ Hs Hf, (HObj.loop l L :: .dfr d :: S.H).Perm (Hs ++ Hf) ∧
      ACalls P fid (first ++ [.fn (.yield l) [] []] ++ caps) Hs (fun r H' => rangeQ P l d S Q r (H' ++ Hf))) :
    AWp P none (.rangeFunc g ps assign body) S Q := awp_range hg fun d l => h d l _ rfl
/-- How a walk over all nodes leaves the objects. -/
def retU (H' : List HObj) : ARes → List HObj → Prop
  | .val v, H'' => v = .tup [] ∧ H'' = H'
  | .panic _, _ => False
end Go.Abs
namespace Go.Abs
def retP (v : AV) (C : List HObj → Prop) : ARes → List HObj → Prop
  | .val v', H' => v' = v ∧ C H'
  | .panic _, _ => False
end Go.Abs
namespace Go.Abs
set_option linter.unusedVariables false
section
variable {P : Program} {n : Nat} {τ : Nat → AV} {H : List HObj} {D : List ADef}
theorem obw {b : Nat} {cs cs' : List AV} (h : ArgsW cs cs') : OWeak (.box b cs) (.box b cs') := ⟨rfl, fun F w hr => by
  obtain ⟨vs, T, h1, h2⟩ := hr
  exact ⟨vs, T, h1, argsW_rep h h2⟩⟩
theorem ghost_obj {i : Nat} {o o' : HObj} (hi : H[i]? = some o) (hw : OWeak o o') : Ghost ⟨n, τ, H, D⟩ ⟨n, τ, H.set i o', D⟩ := by
  intro F a w hs
  refine ⟨F, ⟨hs.size, hs.tmp, ?_, hs.defs⟩, ?_⟩
  · have hk := filterMap_set_key (x' := o') hi hw.1
    refine ⟨fun x hx c hc => ?_, by show List.Nodup _; rw [hk]; exact hs.heap.nodup, fun x hx => ?_, hs.heap.bd⟩
    · rcases mem_set_cases hx with rfl | ⟨j, _, hj⟩
      · exact hs.heap.sub _ (List.mem_of_getElem? hi) c (by rw [← hw.1]; exact hc)
      · exact hs.heap.sub _ (List.mem_of_getElem? hj) c hc
    · rcases mem_set_cases hx with rfl | ⟨j, _, hj⟩
      · exact hw.2 F w (hs.heap.obj _ (List.mem_of_getElem? hi))
      · exact hs.heap.obj _ (List.mem_of_getElem? hj)
  · refine { Trans.refl (F := F) (H := H) (w := w) with keys := fun x hx c hc => ?_ }
    rcases mem_set_cases hx with rfl | ⟨j, _, hj⟩
    · exact .inl ⟨_, List.mem_of_getElem? hi, by rw [← hw.1]; exact hc⟩
    · exact .inl ⟨_, List.mem_of_getElem? hj, hc⟩
end
section
variable {P : Program} {dst : Option Tmp} {ty : TypeId} {pos : String} {aft : Array Edge} {g : Option (Nat × Bool)} {ρ : Operand → AV} {H : List HObj} {x y : Operand}
theorem aop_lookup2 {T e : TypeId} {b i : Nat} {l : List (Int × AV)} {k : Int} {zv : Value} {za v : AV} (hT : mapOf P T = some e) (hz : zeroOf P e = some zv) (hza : ∀ F w, Rep F w za zv) (hx : ρ x = .map b) (hy : ρ y = .p (.int .i64 k)) (hi : H[i]? = some (.map b (mapE l))) (hv : (mget k l).getD za = v) :
    AOp P ⟨dst, .lookup T x y false, ty, pos, aft, g⟩ ρ H v H := by subst hv; exact aop_lookup hT hz hza hx hy hi
theorem aop_lookupOk2 {T e : TypeId} {b i : Nat} {l : List (Int × AV)} {k : Int} {zv : Value} {za v : AV} {ok : Bool} (hT : mapOf P T = some e) (hz : zeroOf P e = some zv) (hza : ∀ F w, Rep F w za zv) (hx : ρ x = .map b) (hy : ρ y = .p (.int .i64 k)) (hi : H[i]? = some (.map b (mapE l))) (hv : (mget k l).getD za = v) (hok : (mget k l).isSome = ok) :
    AOp P ⟨dst, .lookup T x y true, ty, pos, aft, g⟩ ρ H (.tup [v, .p (.bool ok)]) H := by subst hv; subst hok; exact aop_lookupOk hT hz hza hx hy hi
theorem rep_false (F : Nat → Prop) (w : World) : Rep F w (.p (.bool false)) (.bool false) := by simp [Rep, PRep]
end
end Go.Abs
namespace Go.Abs
set_option linter.unusedVariables false
set_option linter.unusedSimpArgs false
section
variable {P : Program} {dst : Option Tmp} {ty : TypeId} {pos : String} {aft : Array Edge} {g : Option (Nat × Bool)} {ρ : Operand → AV} {H : List HObj} {x y : Operand}
/-- []T{}, as a slice of one's own. -/
theorem aop_buildSlice0 {T e : TypeId} {sz bytes : Nat} (hT : elOf P T = some (e, sz, bytes)) :
    AOpR P ⟨dst, .buildSlice T 0 #[], ty, pos, aft, g⟩ ρ H (newVec sz [] H) :=
  aop_turn fun F w E hH hE => by
    obtain ⟨hu, i, hi, hs, hby⟩ := elOf_spec hT
    obtain ⟨v, H', F', h1, h2, h3, h4⟩ := vec_turn (F := F) (w := w) (sz := sz) (c := 0) (rows := []) (vs := []) (T := e) (H := H) hH (by simp) (by simp [RepL]) (by simp) (by simp)
    refine ⟨_, _, v, H', F', ?_, h1, h2, h3, h4⟩
    have hszr : (sizeOf e).run P w = .ok sz w := by simp [sizeOf, typeInfo, hi, hs]
    simp only [execOp, Instr.buildSlice, Sem.run_bind, run_underlying hu, Result.andThen_ok, hszr]
    rw [if_neg (by omega)]
    simp only [Sem.run_pure, Result.andThen_ok, Sem.run_bind, pure_bind, Nat.zero_mul, if_true]
    have e0 : (Array.map (fun x => (#[] : Array Value)[x % (#[] : Array Value).size]!) (Array.range 0)) = (⟨[]⟩ : Array Value) := by simp
    rw [e0]
    simp only [Array.map_empty, Instr.fill, newRow, newObj, Sem.run_bind, Sem.run, Result.andThen, Sem.run_pure]
    rfl
end
end Go.Abs
namespace Go.Abs
section
variable {P : Program} {dst : Option Tmp} {ty : TypeId} {pos : String} {aft : Array Edge} {g : Option (Nat × Bool)} {ρ : Operand → AV} {H : List HObj} {x y : Operand}
theorem aop_sliceNil2 {T U e : TypeId} {n1 n2 : Nat} {rows : List (List PV)} (hT : elOf P T = some (e, n1, n2)) (hx : ρ x = .p (.lst rows)) (hy : ρ y = .p .nils) : AOpR P ⟨dst, .binOp .eql T x y U, ty, pos, aft, g⟩ ρ H (keepV (fun v => ∃ b : Bool, v = .p (.bool b) ∧ (b = true → rows = [])) H) :=
  (aop_sliceNil (elOf_spec hT).1 hx hy).mono fun r H' h => by cases r <;> exact h
end
end Go.Abs
namespace Go.Abs
section
variable {P : Program} {r : Option Nat} {ops : Array Oper} {Q : AExit → AState → Prop} {k : Nat} {n : Nat} {τ : Nat → AV} {H : List HObj} {D : List ADef} {dst : Option Tmp} {ty : TypeId} {pos : String} {aft : Array Edge} {v : AV} {c : Call} {f : Operand} {fid : FuncId} {first caps A : List AV}
/-- A call that panics for sure. -/
theorem al_pcall (ho : ops[k]? = some ⟨dst, .call c, ty, pos, aft, none⟩) (hd : dstB dst n = true) (hc : c.callee = .value f) (hf : (ev τ f = .p (.fn fid) ∧ first = [] ∧ caps = []) ∨ ev τ f = .fn (.func fid) first caps) (h : ACalls P fid A [] (panicR v [])) (hA : ArgsW (first ++ c.args.toList.map (ev τ) ++ caps) A) (pan : Q (.panic v) ⟨n, τ, H, D⟩) : AL P r ops k ⟨n, τ, H, D⟩ Q :=
  al_call ho hd hc hf (Hs := []) (Hf := H) (by simp) (h.args hA) (.inl rfl) (fun _ _ h => h.elim) (fun v' H' ⟨h1, h2⟩ => by subst h1; subst h2; exact pan)
end
end Go.Abs
/- The program's walk over the nodes of a term. -/
namespace Go.Eu
open Go.Abs
set_option linter.unusedVariables false
def belowIx (k : Int) : Int := if k = 5 ∨ k = 6 ∨ k = 7 then 1 else if k = 11 then 2 else -1
theorem below_ix {k : Int} {i : Int} (h : i = belowIx k) (hi : 0 ≤ i) : below k i = 1 := by
  unfold belowIx at h
  unfold below
  split at h
  · rename_i hk; subst h; rcases hk with rfl | rfl | rfl <;> simp
  · split at h
    · rename_i hk; subst h; subst hk; simp
    · omega
theorem below_nix {k : Int} {i : Int} (h : i ≠ belowIx k) : below k i = 0 := by
  unfold belowIx at h
  unfold below
  rw [if_neg]
  simp only [Bool.or_eq_true, Bool.and_eq_true, beq_iff_eq]
  intro hc
  apply h
  rcases hc with ⟨h1, h2⟩ | ⟨h1, h2⟩
  · rw [if_pos (by rcases h2 with (h | h) | h <;> simp [h]), h1]
  · rw [if_neg (by omega), if_pos h2, h1]
theorem belowIx_out {k : Int} (h : ¬ (0 ≤ k ∧ k < 13)) : belowIx k = -1 := by
  unfold belowIx
  rw [if_neg (by omega), if_neg (by omega)]
section
variable {σ : Type}
mutual
def visitW (st : σ → Int → Tm → σ × Bool) : Tm → Int → σ → σ × Bool
  | .mk k i n l ks, d, s => if (st s d (.mk k i n l ks)).2 = false then ((st s d (.mk k i n l ks)).1, false) else visitsW st k d 0 (st s d (.mk k i n l ks)).1 ks
def visitsW (st : σ → Int → Tm → σ × Bool) (k d : Int) : Nat → σ → List Tm → σ × Bool
  | _, s, [] => (s, true)
  | j, s, t :: ts => if (visitW st t (d + below k j) s).2 = false then ((visitW st t (d + below k j) s).1, false) else visitsW st k d (j + 1) (visitW st t (d + below k j) s).1 ts
end
end
/-- The table of the kinds. -/
def useC (ix nm : Bool) (lv ks bl : Int) : List AV := [.p (.bool ix), .p (.bool nm), .p (I lv), .p (I ks), .p (I bl)]
def kindsC : List AV := [useC true false 0 0 (-1), useC false false 0 0 (-1), useC false false 1 0 (-1), useC false true (-1) 0 (-1), useC false false 0 2 (-1), useC false false 0 2 1, useC false false 0 2 1, useC false false 0 2 1, useC false false 0 3 (-1), useC false false 0 1 (-1), useC false false 0 1 (-1), useC false false 0 3 2, useC true false 0 0 (-1)].flatten
theorem kinds_at {k : Int} (h : 0 ≤ k ∧ k < 13) : kindsC[0 + k.toNat * 5 + 4]? = some (.p (I (belowIx k))) := by
  have : k = 0 ∨ k = 1 ∨ k = 2 ∨ k = 3 ∨ k = 4 ∨ k = 5 ∨ k = 6 ∨ k = 7 ∨ k = 8 ∨ k = 9 ∨ k = 10 ∨ k = 11 ∨ k = 12 := by omega
  rcases this with rfl | rfl | rfl | rfl | rfl | rfl | rfl | rfl | rfl | rfl | rfl | rfl | rfl <;> rfl
end Go.Eu
namespace Go.Eu
open Go.Abs
set_option linter.unusedVariables false
section
variable {σ : Type} {st : σ → Int → Tm → σ × Bool} {Inv : Nat → σ → Prop}
theorem visitW_stop {t : Tm} {d : Int} {s : σ} (h : (st s d t).2 = false) : visitW st t d s = ((st s d t).1, false) := by
  obtain ⟨k, i, n, l, ks⟩ := t
  rw [visitW, if_pos h]
theorem visitW_go {k i : Int} {n : ByteArray} {l : List Lvl} {ks : List Tm} {d : Int} {s : σ} (h : (st s d (.mk k i n l ks)).2 = true) : visitW st (.mk k i n l ks) d s = visitsW st k d 0 (st s d (.mk k i n l ks)).1 ks := by
  rw [visitW, if_neg (by simp [h])]
theorem visitsW_stop {k d : Int} {ts : List Tm} {i : Nat} {x : Tm} {s : σ} (hx : ts[i]? = some x) (h : (visitW st x (d + below k i) s).2 = false) : visitsW st k d i s (ts.drop i) = ((visitW st x (d + below k i) s).1, false) := by
  rw [drop_at hx, visitsW, if_pos h]
theorem visitsW_go {k d : Int} {ts : List Tm} {i : Nat} {x : Tm} {s : σ} (hx : ts[i]? = some x) (h : (visitW st x (d + below k i) s).2 = true) : visitsW st k d i s (ts.drop i) = visitsW st k d (i + 1) (visitW st x (d + below k i) s).1 (ts.drop (i + 1)) := by
  rw [drop_at hx, visitsW, if_neg (by simp [h])]
mutual
theorem visitW_inv (hI : ∀ m s d t, Inv (m + 1) s → Inv m (st s d t).1) : ∀ (t : Tm) (d : Int) (s : σ) (m : Nat), Inv (m + size t) s → (visitW st t d s).2 = true → Inv m (visitW st t d s).1
  | .mk k i n l ks, d, s, m, h, hv => by
    rw [size, show m + (1 + sizes ks) = (m + sizes ks) + 1 by omega] at h
    have h1 := hI _ _ d (.mk k i n l ks) h
    rw [visitW] at hv ⊢
    split at hv
    · cases hv
    · rename_i hc
      rw [if_neg hc]
      exact visitsW_inv hI ks k d 0 _ m h1 hv
theorem visitsW_inv (hI : ∀ m s d t, Inv (m + 1) s → Inv m (st s d t).1) : ∀ (ts : List Tm) (k d : Int) (j : Nat) (s : σ) (m : Nat), Inv (m + sizes ts) s → (visitsW st k d j s ts).2 = true → Inv m (visitsW st k d j s ts).1
  | [], k, d, j, s, m, h, hv => by simpa [visitsW, sizes] using h
  | t :: ts, k, d, j, s, m, h, hv => by
    rw [sizes, show m + (size t + sizes ts) = (m + sizes ts) + size t by omega] at h
    rw [visitsW] at hv ⊢
    split at hv
    · cases hv
    · rename_i hc
      rw [if_neg hc]
      have := visitW_inv hI t (d + below k j) s _ h (by simpa using hc)
      exact visitsW_inv hI ts k d (j + 1) _ m this hv
end
end
end Go.Eu
namespace Go.Eu
open Go.Abs
set_option linter.unusedVariables false
def szSt (s : Int) (d : Int) (t : Tm) : Int × Bool := (wr (s + 1), true)
mutual
theorem visit_sz (B : Int) (hB : B ≤ 4611686018427387904) : ∀ (t : Tm) (d s : Int), 0 ≤ s → s + size t < B → visitW szSt t d s = (s + size t, true)
  | .mk k i n l ks, d, s, h0, h => by
    rw [size] at h ⊢
    rw [visitW_go rfl]
    simp only [szSt]
    rw [wr_in ⟨by omega, by omega⟩, visits_sz B hB ks k d 0 (s + 1) (by omega) (by omega)]
    congr 1
    omega
theorem visits_sz (B : Int) (hB : B ≤ 4611686018427387904) : ∀ (ts : List Tm) (k d : Int) (j : Nat) (s : Int), 0 ≤ s → s + sizes ts < B → visitsW szSt k d j s ts = (s + sizes ts, true)
  | [], k, d, j, s, h0, h => by simp [visitsW, sizes]
  | t :: ts, k, d, j, s, h0, h => by
    rw [sizes] at h ⊢
    rw [visitsW, visit_sz B hB t _ s h0 (by omega)]
    simp only
    rw [if_neg (by simp), visits_sz B hB ts k d (j + 1) (s + size t) (by omega) (by omega)]
    congr 1
    omega
end
def mtSt (s : List Int) (d : Int) : Tm → List Int × Bool
  | .mk k i _ _ _ => (if k = 12 ∧ i ∉ s then s ++ [i] else s, true)
mutual
theorem visit_mt : ∀ (t : Tm) (d : Int) (s : List Int), Wt t → visitW mtSt t d s = (metasW s t, true)
  | .mk k i n l ks, d, s, h => by
    rw [visitW_go rfl, metasW]
    simp only [mtSt]
    by_cases hk : k = 12
    · have hks : ks = [] := by
        have := h.1
        subst hk
        simp [arity] at this
        exact this
      subst hks
      by_cases hi : i ∈ s
      · simp [hk, hi, visitsW]
      · simp [hk, hi, visitsW, metassW]
    · rw [if_neg (by simp [hk]), if_neg hk]
      exact visits_mt ks k d 0 s h.2.2
theorem visits_mt : ∀ (ts : List Tm) (k d : Int) (j : Nat) (s : List Int), Wts ts → visitsW mtSt k d j s ts = (metassW s ts, true)
  | [], k, d, j, s, h => by simp [visitsW, metassW]
  | t :: ts, k, d, j, s, h => by
    rw [visitsW, visit_mt t _ s h.1, metassW]
    simp only
    rw [if_neg (by simp), visits_mt ts k d (j + 1) _ h.2]
end
end Go.Eu
namespace Go.Eu
open Go.Abs
set_option linter.unusedVariables false
/-- A set of numbers. -/
def mtE (s : List Int) : List (Int × AV) := s.map fun i => (i, .p (.bool true))
theorem mt_get (s : List Int) (k : Int) : (mget k (mtE s)).getD (.p (.bool false)) = .p (.bool (inB s k)) := by
  induction s with
  | nil => simp [mtE, mget, inB]
  | cons a s ih =>
    by_cases h : a = k
    · simp [mtE, mget, inB, h]
    · have h' : ¬ k = a := fun e => h e.symm
      simp only [mtE, List.map_cons, mget, h, if_false]
      have : inB (a :: s) k = inB s k := by simp [inB, h']
      rw [this]
      exact ih
theorem mt_set {s : List Int} {k : Int} (h : k ∉ s) : mset k (.p (.bool true)) (mtE s) = mtE (s ++ [k]) := by
  induction s with
  | nil => simp [mtE, mset]
  | cons a s ih =>
    simp at h
    have h' : ¬ a = k := fun e => h.1 e.symm
    simp only [mtE, List.map_cons, mset, h', if_false, List.cons_append] at *
    rw [ih h.2]
theorem mtSt_new {s : List Int} {d k i : Int} {n : ByteArray} {l : List Lvl} {ks : List Tm} (h : k = 12) (hi : i ∉ s) : mtSt s d (.mk k i n l ks) = (s ++ [i], true) := by simp [mtSt, h, hi]
theorem mtSt_old {s : List Int} {d k i : Int} {n : ByteArray} {l : List Lvl} {ks : List Tm} (h : ¬ (k = 12 ∧ i ∉ s)) : mtSt s d (.mk k i n l ks) = (s, true) := by simp only [mtSt]; rw [if_neg h]
theorem mtSt_len (m : Nat) (s : List Int) (d : Int) (t : Tm) (h : s.length + (m + 1) < 1099511627776) : (mtSt s d t).1.length + m < 1099511627776 := by
  obtain ⟨k, i, n, l, ks⟩ := t
  simp only [mtSt]
  split
  · simp only [List.length_append, List.length_cons, List.length_nil]; omega
  · omega
end Go.Eu
/- The program's telescopes, in plain functions. -/
namespace Go.Eu
open Go.Abs
set_option linter.unusedVariables false
/-- The first i elements and the last i are exchanged. -/
def revAt (xs ys : List Tm) (i : Nat) : Prop := ys.length = xs.length ∧ ∀ k, k < xs.length → ys[k]? = if k < i ∨ xs.length - 1 - k < i then xs[xs.length - 1 - k]? else xs[k]?
theorem revAt_zero (xs : List Tm) : revAt xs xs 0 := ⟨rfl, fun k hk => by rw [if_neg (by omega)]⟩
theorem revAt_succ {xs ys : List Tm} {i : Nat} {a b : Tm} (h : revAt xs ys i) (hi : i < xs.length - 1 - i) (ha : ys[i]? = some a) (hb : ys[xs.length - 1 - i]? = some b) : revAt xs ((ys.set i b).set (xs.length - 1 - i) a) (i + 1) := by
  obtain ⟨hl, h⟩ := h
  refine ⟨by simp [hl], fun k hk => ?_⟩
  have e1 := h i (by omega)
  rw [if_neg (by omega), ha] at e1
  have e2 := h (xs.length - 1 - i) (by omega)
  rw [if_neg (by omega), hb] at e2
  by_cases k1 : k = xs.length - 1 - i
  · subst k1
    rw [if_pos (by omega), List.getElem?_set_self (by simp; omega), e1]
    congr 1
    omega
  · rw [List.getElem?_set_ne (fun e => k1 e.symm)]
    by_cases k2 : k = i
    · subst k2
      rw [if_pos (by omega), List.getElem?_set_self (by omega), e2]
    · rw [List.getElem?_set_ne (fun e => k2 e.symm), h k hk]
      by_cases k3 : k < i ∨ xs.length - 1 - k < i
      · rw [if_pos k3, if_pos (by omega)]
      · rw [if_neg k3, if_neg (by omega)]
theorem revAt_done {xs ys : List Tm} {i : Nat} (h : revAt xs ys i) (hi : xs.length - 1 - i ≤ i) : ys = xs.reverse := by
  obtain ⟨hl, h⟩ := h
  apply List.ext_getElem?
  intro k
  by_cases hk : k < xs.length
  · rw [h k hk, List.getElem?_reverse hk]
    by_cases k3 : k < i ∨ xs.length - 1 - k < i
    · rw [if_pos k3]
    · rw [if_neg k3]
      congr 1
      omega
  · rw [List.getElem?_eq_none (by omega), List.getElem?_eq_none (by simp; omega)]
end Go.Eu
namespace Go.Eu
open Go.Abs
set_option linter.unusedVariables false
def vpart (f : Int) (n i : Nat) : List Tm := (vdown f 0 n).take i ++ List.replicate (n - i) zeroT
theorem vpart_zero (f : Int) (n : Nat) : vpart f n 0 = List.replicate n zeroT := by simp [vpart]
theorem vpart_len (f : Int) {n i : Nat} (h : i ≤ n) : (vpart f n i).length = n := by simp [vpart, vdown_len]; omega
theorem vpart_succ (f : Int) {n i : Nat} (h : i < n) : (vpart f n i).set i (varT (f + (n - 1 - i : Nat))) = vpart f n (i + 1) := by
  unfold vpart
  have h1 : ((vdown f 0 n).take i).length = i := by simp [vdown_len]; omega
  rw [List.set_append_right _ _ (by omega), h1, Nat.sub_self, List.take_add_one, vdown_get f 0 n i h]
  obtain ⟨k, hk⟩ : ∃ k, n - i = k + 1 := ⟨n - i - 1, by omega⟩
  rw [hk, List.replicate_succ, List.set_cons_zero, show n - (i + 1) = k by omega]
  simp
theorem vpart_all (f : Int) (n : Nat) : vpart f n n = vdown f 0 n := by
  unfold vpart
  rw [Nat.sub_self, List.take_of_length_le (by simp [vdown_len])]
  simp
def largeB (t : Tm) : Bool := decide ((size t : Int) > 4096) || decide (depthW t > 200)
end Go.Eu
namespace Go.Eu
open Go.Abs
set_option linter.unusedVariables false
/-- From the last element down. -/
def bwW {σ : Type} (st : σ → Int → Tm → σ) (xs : List Tm) : Nat → σ → σ
  | 0, s => s
  | m + 1, s => bwW st xs m (st s m (xs.getD m zeroT))
theorem bwW_step {σ : Type} {st : σ → Int → Tm → σ} {xs : List Tm} {m j : Nat} {x : Tm} {s : σ} (hx : xs[j]? = some x) (hm : m = j + 1) : bwW st xs (m - 1) (st s ((m : Int) - 1) x) = bwW st xs m s := by
  subst hm
  rw [Nat.add_sub_cancel, bwW, getD_of hx]
  congr 2
  omega
def bindSt (k : Int) (t : Tm) (i : Int) (a : Tm) : Tm := .mk k 0 ⟨#[]⟩ [] [a, t]
theorem bwW_binds (k : Int) (xs : List Tm) : ∀ (m : Nat) (t : Tm), m ≤ xs.length → bwW (bindSt k) xs m t = bindsT k (xs.take m) t
  | 0, t, _ => rfl
  | m + 1, t, h => by
    obtain ⟨x, hx⟩ := getElem?_of_lt (l := xs) (i := m) (by omega)
    rw [bwW, getD_of hx, bwW_binds k xs m _ (by omega), List.take_add_one, hx]
    simp [bindsT, bindSt]
end Go.Eu
/- Calls that return a function with a variable of its own. -/
namespace Go.Abs
set_option linter.unusedVariables false
/-- What a function returns that makes a function with a variable. -/
def newC (mkv : Nat → AV) (cs : List AV) : ARes → List HObj → Prop
  | .val v, H' => ∃ b, v = mkv b ∧ H' = [.box b cs]
  | .panic _, _ => False
section
variable {P : Program} {ops : Array Oper} {n : Nat} {τ₀ τ : Nat → AV} {D : List ADef} {Q : AExit → AState → Prop} {opn : Nat → Bool} {k : Nat} {H : List HObj} {dst : Option Tmp} {ty : TypeId} {pos : String} {aft : Array Edge} {c : Call} {f : Operand} {fid : FuncId} {first caps A : List AV} {mkv : Nat → AV} {cs : List AV}
theorem dr_newc {rd ef effs fx} (fx' : List (Nat × Sp)) (ho : ops[k]? = some ⟨dst, .call c, ty, pos, aft, none⟩) (hn : opn k = true)
    (hc : c.callee = .value f) (hf : (ev τ f = .p (.fn fid) ∧ first = [] ∧ caps = []) ∨ ev τ f = .fn (.func fid) first caps) (h : ACalls P fid A [] (newC mkv cs)) (hA : first ++ c.args.toList.map (ev τ) ++ caps = A ∨ (first ++ c.args.toList.map (ev τ) ++ caps).map norm = A) (haft : allAfter ops k (fx'.map (·.1)) = true)
    (next : ∀ b, OweR ops k H (.box b cs :: H) rd ∧ FxAt k (.eff (mkv b) (.box b cs :: H)) fx ∧ Dr P ops n τ₀ D Q opn (k + 1) (put τ dst (mkv b)) (.box b cs :: H) rd ((k, H, .box b cs :: H) :: ef) (true :: effs) (fx' ++ fx)) : Dr P ops n τ₀ D Q opn k τ H rd ef effs fx :=
  dr_open fx' ho hn (aop_call (H := H) (Hs := []) (Hf := H) hc hf (by simp) h hA) haft ⟨_, _, _, ⟨0, rfl, rfl⟩, rfl⟩ (fun v H' ⟨_, h, _⟩ => h.elim) (fun v H' ⟨Hs', ⟨b, h1, h2⟩, h3⟩ => by subst h1; subst h2; subst h3; exact next b)
end
end Go.Abs
namespace Go.Abs
set_option linter.unusedVariables false
/-- The outcome of a call that returns, or panics, as a computation says; after a panic nothing is known of the objects. -/
def exR {α : Type} (mkv : α → AV) (mkp : Int → AV) (C : α → List HObj → Prop) (x : Except Int α) : ARes → List HObj → Prop
  | .val v, H' => ∃ a, x = .ok a ∧ v = mkv a ∧ C a H'
  | .panic v, _ => ∃ e, x = .error e ∧ v = mkp e
theorem AOpR.permR {P : Program} {ρ : Operand → AV} {o : Oper} {H : List HObj} {R R' : ARes → List HObj → Prop} (h : AOpR P o ρ H R) (hp : ∀ r H1, R r H1 → ∃ H2, H1.Perm H2 ∧ R' r H2) : AOpR P o ρ H R' := by
  intro r F S a w hs hH hρ hd
  have := h r F S a w hs hH hρ hd
  refine oper_mono this ?_ ?_
  · rintro a' w' ⟨v', H1, F', hR, hs', ht⟩
    obtain ⟨H2, hp, hR'⟩ := hp _ _ hR
    exact ⟨v', H2, F', hR', ⟨hs'.size, hs'.tmp, hs'.heap.perm hp, hs'.defs⟩, { ht with keys := fun o ho => ht.keys o (hp.mem_iff.2 ho) }⟩
  · rintro e a' w' ⟨v', H1, F', u, hR, h1, h2, hs', ht⟩
    obtain ⟨H2, hp, hR'⟩ := hp _ _ hR
    exact ⟨v', H2, F', u, hR', h1, h2, ⟨hs'.size, hs'.tmp, hs'.heap.perm hp, hs'.defs⟩, { ht with keys := fun o ho => ht.keys o (hp.mem_iff.2 ho) }⟩
section
variable {P : Program} {ops : Array Oper} {n : Nat} {τ₀ τ : Nat → AV} {D : List ADef} {Q : AExit → AState → Prop} {opn : Nat → Bool} {k : Nat} {T : List HObj} {dst : Option Tmp} {ty : TypeId} {pos : String} {aft : Array Edge} {c : Call} {f : Operand} {fid : FuncId} {first caps A : List AV}
  {α : Type} {mkv : α → AV} {mkp : Int → AV} {C : α → List HObj → Prop} {x : Except Int α}
theorem al_ex {r : Option Nat} (fr : List HObj) (ho : ops[k]? = some ⟨dst, .call c, ty, pos, aft, none⟩) (hd : dstB dst n = true)
    (hc : c.callee = .value f) (hf : (ev τ f = .p (.fn fid) ∧ first = [] ∧ caps = []) ∨ ev τ f = .fn (.func fid) first caps) (h : ACalls P fid A T (exR mkv mkp C x)) (hA : ArgsW (first ++ c.args.toList.map (ev τ) ++ caps) A)
    (next : ∀ a T', x = .ok a → C a T' → AL P r ops (k + 1) ⟨n, put τ dst (mkv a), fr ++ T', D⟩ Q) (pan : ∀ e T', x = .error e → Q (.panic (mkp e)) ⟨n, τ, T' ++ fr, D⟩) : AL P r ops k ⟨n, τ, fr ++ T, D⟩ Q :=
  al_callT fr ho hd hc hf h hA (fun v T' ⟨a, h1, h2, h3⟩ => by subst h2; exact next a T' h1 h3) (fun v T' ⟨e, h1, h2⟩ => by subst h2; exact pan e T' h1)
theorem dr_ex {rd ef effs fx} (fr : List HObj) (ho : ops[k]? = some ⟨dst, .call c, ty, pos, aft, none⟩) (hn : opn k = true)
    (hc : c.callee = .value f) (hf : (ev τ f = .p (.fn fid) ∧ first = [] ∧ caps = []) ∨ ev τ f = .fn (.func fid) first caps) (h : ACalls P fid A T (exR mkv mkp C x)) (hA : ArgsW (first ++ c.args.toList.map (ev τ) ++ caps) A) (haft : allAfter ops k [] = true) (chk : chkB ops n (true :: effs).reverse = true) (hfx : fxPast k fx = true) (owe : OweR ops k (fr ++ T) (fr ++ T) rd)
    (next : ∀ a T', x = .ok a → C a T' → OweR ops k (fr ++ T) (fr ++ T') rd ∧ FxAt k (.eff (mkv a) (fr ++ T')) fx ∧ Dr P ops n τ₀ D Q opn (k + 1) (put τ dst (mkv a)) (fr ++ T') rd ((k, fr ++ T, fr ++ T') :: ef) (true :: effs) fx)
    (pan : ∀ e, x = .error e → ∀ τ' T', (∀ t, (∀ (k : Nat) o, ops[k]? = some o → o.dst ≠ some t) → τ' t = τ₀ t) → Q (.panic (mkp e)) ⟨n, τ', T' ++ fr, D⟩) : Dr P ops n τ₀ D Q opn k τ (fr ++ T) rd ef effs fx := by
  have hop : AOpR P ⟨dst, .call c, ty, pos, aft, none⟩ (ev τ) (fr ++ T) (fun r H' => ∃ T', exR mkv mkp C x r T' ∧ (match r with | .val _ => H' = fr ++ T' | .panic _ => H' = T' ++ fr)) := by
    refine AOpR.permR (aop_call (H := fr ++ T) (Hs := T) (Hf := fr) hc hf List.perm_append_comm (h.args hA) (.inl rfl)) ?_
    rintro r H1 ⟨T', hR, rfl⟩
    cases r with
    | val v => exact ⟨fr ++ T', List.perm_append_comm, T', hR, rfl⟩
    | panic v => exact ⟨T' ++ fr, List.Perm.refl _, T', hR, rfl⟩
  by_cases hx : ∃ a T', x = .ok a ∧ C a T'
  · obtain ⟨a, T', hx, hC⟩ := hx
    refine Dr.opn _ [] ho hn trivial hop haft ⟨mkv a, _, T', ⟨a, hx, rfl, hC⟩, rfl⟩ ?_ ?_ ?_ ?_
    · rintro v H' ⟨T', ⟨a', h1, h2, h3⟩, rfl⟩
      exact (next a' T' h1 h3).1
    · rintro v H' ⟨T', ⟨a', h1, h2, h3⟩, rfl⟩; subst h2; exact (next a' T' h1 h3).2.1
    · rintro v H' ⟨T', ⟨a', h1, h2, h3⟩, rfl⟩
      subst h2
      exact (next a' T' h1 h3).2.2
    · rintro v H' ⟨T', ⟨e, h1, h2⟩, rfl⟩ τ' hτ
      subst h2
      exact pan e h1 τ' T' hτ
  · refine Dr.pan _ ho hn trivial hop haft chk hfx ?_ owe ?_
    · rintro v H' ⟨T', ⟨a', h1, h2, h3⟩, rfl⟩
      exact hx ⟨a', T', h1, h3⟩
    · rintro v H' ⟨T', ⟨e, h1, h2⟩, rfl⟩ τ' hτ
      subst h2
      exact pan e h1 τ' T' hτ
end
end Go.Abs
namespace Go.Abs
set_option linter.unusedVariables false
section
variable {P : Program} {ops : Array Oper} {n : Nat} {τ₀ τ : Nat → AV} {D : List ADef} {Q : AExit → AState → Prop} {opn : Nat → Bool} {k : Nat} {H Hs : List HObj} {dst : Option Tmp} {ty : TypeId} {pos : String} {aft : Array Edge} {c : Call} {f : Operand} {fid : FuncId} {first caps A : List AV}
  {α : Type} {mkv : α → AV} {mkp : Int → AV} {C : α → List HObj → Prop} {x : Except Int α}
theorem al_exS {r : Option Nat} (is : List Nat) (ho : ops[k]? = some ⟨dst, .call c, ty, pos, aft, none⟩) (hd : dstB dst n = true)
    (hc : c.callee = .value f) (hf : (ev τ f = .p (.fn fid) ∧ first = [] ∧ caps = []) ∨ ev τ f = .fn (.func fid) first caps) (h : ACalls P fid A Hs (exR mkv mkp C x)) (hg : GetAll H is Hs) (hn : is.Nodup) (hA : ArgsW (first ++ c.args.toList.map (ev τ) ++ caps) A)
    (hl : ∀ a T', C a T' → T'.length = Hs.length)
    (next : ∀ a T', x = .ok a → C a T' → AL P r ops (k + 1) ⟨n, put τ dst (mkv a), sets H is T', D⟩ Q) (pan : ∀ e H', x = .error e → Q (.panic (mkp e)) ⟨n, τ, H' ++ dropIdx is 0 H, D⟩) : AL P r ops k ⟨n, τ, H, D⟩ Q :=
  al_callS is ho hd hc hf h hg hn hA (fun v T' ⟨a, h1, h2, h3⟩ => by subst h2; exact ⟨hl a T' h3, next a T' h1 h3⟩) (fun v T' ⟨e, h1, h2⟩ => by subst h2; exact pan e T' h1)
theorem dr_exS {rd ef effs fx} (is : List Nat) (ho : ops[k]? = some ⟨dst, .call c, ty, pos, aft, none⟩) (hn : opn k = true)
    (hc : c.callee = .value f) (hf : (ev τ f = .p (.fn fid) ∧ first = [] ∧ caps = []) ∨ ev τ f = .fn (.func fid) first caps) (h : ACalls P fid A Hs (exR mkv mkp C x)) (hg : GetAll H is Hs) (hnd : is.Nodup) (hA : ArgsW (first ++ c.args.toList.map (ev τ) ++ caps) A)
    (hl : ∀ a T', C a T' → T'.length = Hs.length) (haft : allAfter ops k [] = true) (chk : chkB ops n (true :: effs).reverse = true) (hfx : fxPast k fx = true) (owe : OweR ops k H H rd)
    (next : ∀ a T', x = .ok a → C a T' → OweR ops k H (sets H is T') rd ∧ FxAt k (.eff (mkv a) (sets H is T')) fx ∧ Dr P ops n τ₀ D Q opn (k + 1) (put τ dst (mkv a)) (sets H is T') rd ((k, H, sets H is T') :: ef) (true :: effs) fx)
    (pan : ∀ e, x = .error e → ∀ τ' H', (∀ t, (∀ (k : Nat) o, ops[k]? = some o → o.dst ≠ some t) → τ' t = τ₀ t) → Q (.panic (mkp e)) ⟨n, τ', H' ++ dropIdx is 0 H, D⟩) : Dr P ops n τ₀ D Q opn k τ H rd ef effs fx := by
  have hop : AOpR P ⟨dst, .call c, ty, pos, aft, none⟩ (ev τ) H (fun r H' => ∃ T', exR mkv mkp C x r T' ∧ (match r with | .val _ => H' = sets H is T' | .panic _ => H' = T' ++ dropIdx is 0 H)) := by
    refine AOpR.permR (aop_call hc hf (getAll_perm hnd hg) (h.args hA) (.inl rfl)) ?_
    rintro r H1 ⟨T', hR, rfl⟩
    cases r with
    | val v => obtain ⟨a, h1, h2, h3⟩ := hR; exact ⟨_, (sets_perm hnd hg (hl a T' h3)).symm, T', ⟨a, h1, h2, h3⟩, rfl⟩
    | panic v => exact ⟨_, List.Perm.refl _, T', hR, rfl⟩
  by_cases hx : ∃ a T', x = .ok a ∧ C a T'
  · obtain ⟨a, T', hx, hC⟩ := hx
    refine Dr.opn _ [] ho hn trivial hop haft ⟨mkv a, _, T', ⟨a, hx, rfl, hC⟩, rfl⟩ ?_ ?_ ?_ ?_
    · rintro v H' ⟨T', ⟨a', h1, h2, h3⟩, rfl⟩
      exact (next a' T' h1 h3).1
    · rintro v H' ⟨T', ⟨a', h1, h2, h3⟩, rfl⟩; subst h2; exact (next a' T' h1 h3).2.1
    · rintro v H' ⟨T', ⟨a', h1, h2, h3⟩, rfl⟩
      subst h2
      exact (next a' T' h1 h3).2.2
    · rintro v H' ⟨T', ⟨e, h1, h2⟩, rfl⟩ τ' hτ
      subst h2
      exact pan e h1 τ' T' hτ
  · refine Dr.pan _ ho hn trivial hop haft chk hfx ?_ owe ?_
    · rintro v H' ⟨T', ⟨a', h1, h2, h3⟩, rfl⟩
      exact hx ⟨a', T', h1, h3⟩
    · rintro v H' ⟨T', ⟨e, h1, h2⟩, rfl⟩ τ' hτ
      subst h2
      exact pan e h1 τ' T' hτ
end
theorem argsW_refl : ∀ xs : List AV, ArgsW xs xs
  | [] => aw0
  | x :: xs => aw (we rfl) (argsW_refl xs)
/-- No operation writes the slot. -/
def noDst (ops : Array Oper) (t : Nat) : Bool := ops.toList.all fun o => match o.dst with | some u => !(Nat.beq u t) | none => true
theorem noDst_spec {ops : Array Oper} {t : Nat} (h : noDst ops t = true) (k : Nat) (o : Oper) (ho : ops[k]? = some o) : o.dst ≠ some t := by
  intro e
  have hm : o ∈ ops.toList := by
    rw [← Array.getElem?_toList] at ho
    exact List.mem_of_getElem? ho
  have := List.all_eq_true.1 h o hm
  simp [e] at this
theorem perm_pick {L Hs : List HObj} {is : List Nat} (X : List HObj) (hn : is.Nodup) (hg : GetAll L is Hs) : (X ++ L).Perm (Hs ++ (X ++ dropIdx is 0 L)) := by
  have h := (getAll_perm hn hg).append_left X
  refine h.trans ?_
  rw [← List.append_assoc, ← List.append_assoc]
  exact List.perm_append_comm.append_right _
theorem ADCalls.eq {P : Program} {f : FuncId} {caps : List AV} {m : AMode} {H X : List HObj} {R : List HObj → Prop} (h : ADCalls P f caps m H (fun H' => H' = X)) (hq : R X) : ADCalls P f caps m H R := by
  refine ⟨h.1, fun F w vs u hH hr hm => ?_⟩
  refine (h.2 F w vs u hH hr hm).mono ?_
  rintro e u' w' ⟨v, H', F', h1, h2, rfl, h3, h4⟩
  exact ⟨v, _, F', h1, h2, hq, h3, h4⟩
end Go.Abs
