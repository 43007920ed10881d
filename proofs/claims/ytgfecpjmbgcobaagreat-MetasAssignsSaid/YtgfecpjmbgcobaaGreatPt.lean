/- Part of the proofs about metavariables: an abstract program logic, plain models and contracts of functions. -/
import Derived.Test.YtgfecpjmbgcobaaGreatPr
import Derived.Shelf.Sort.Plain
import Derived.Shelf.Slices.In.SortNone
import Derived.Test.YtgfecpjmbgcobaaGreatPg
import Derived.Test.YtgfecpjmbgcobaaGreatPs
import Derived.Test.YtgfecpjmbgcobaaGreatPh
/- Sorting an own slice of numbers, out of the library's contract. -/
namespace Go.Eu
open Go.Abs Go.Sort
set_option linter.unusedVariables false
set_option linter.unusedSimpArgs false
theorem rows_ints {F : Nat → Prop} {w : World} {b : Nat} : ∀ (zs : List Int) (o : Nat), RowsRep F w b 1 o (zs.map encI) → ∀ j, j < zs.length → w.cell? ⟨b, o + j, none⟩ = some (.int .i64 zs[j]!)
  | [], o, h, j, hj => by simp at hj
  | z :: zs, o, h, j, hj => by
    simp only [List.map_cons, RowsRep, encI, CellsRep] at h
    obtain ⟨_, ⟨⟨v, hv, hp⟩, _⟩, hr⟩ := h
    simp only [PRep] at hp
    subst hp
    cases j with
    | zero => simpa using hv
    | succ j =>
      have := rows_ints zs (o + 1) hr j (by simpa using hj)
      rw [show o + (j + 1) = o + 1 + j by omega, this]
      simp
theorem ints_rows {F : Nat → Prop} {w : World} {b : Nat} : ∀ (zs : List Int) (o : Nat), (∀ j, j < zs.length → w.cell? ⟨b, o + j, none⟩ = some (.int .i64 zs[j]!)) → RowsRep F w b 1 o (zs.map encI)
  | [], o, h => by simp [RowsRep]
  | z :: zs, o, h => by
    simp only [List.map_cons, RowsRep, encI, CellsRep]
    refine ⟨rfl, ⟨⟨_, by have := h 0 (by simp); simpa using this, by simp only [PRep]⟩, trivial⟩, ints_rows zs (o + 1) fun j hj => ?_⟩
    have := h (j + 1) (by simp; omega)
    rw [show o + 1 + j = o + (j + 1) by omega, this]
    simp
def sortI (zs : List Int) : List Int := zs.mergeSort fun x y => decide (x ≤ y)
theorem sortI_len (zs : List Int) : (sortI zs).length = zs.length := List.length_mergeSort _
theorem sort_contract {P : Program} {f : FuncId} (hen : entersB P f = true)
    (hs : ∀ (blk off cap : Nat) (zs : List Int) (w : World), Holds (Value.int .i64) w blk off zs.toArray → blk < w.heap.size → zs.length < 4611686018427387904 →
      Calls P f #[.slice (some ⟨blk, off, none⟩) zs.length cap] w fun e w' => e = .returned (.tuple #[]) ∧ ∃ n os, w' = grow (putRow (Value.int .i64) (Sort.ahead w n) blk off (zs.mergeSort fun x y => decide (x ≤ y)).toArray) os)
    (hn : ∀ (p : Option Addr) (cap : Nat) (w : World), Calls P f #[.slice p 0 cap] w fun e w' => e = .returned (.tuple #[]) ∧ w' = w)
    (zs : List Int) (o : Option Nat) (c : Nat) (hl : zs.length < 4611686018427387904) :
    ACalls P f [.vs o (zs.map encI).length c] [.vec o 1 (zs.map encI) c] (retR (.tup []) [.vec o 1 ((sortI zs).map encI) c]) := by
  refine ⟨hen, fun F w vs hH hv => ?_⟩
  simp only [RepL] at hv
  obtain ⟨u, us, rfl, hu, rfl⟩ := hv
  have ho := hH.obj _ (List.mem_singleton.2 rfl)
  cases o with
  | none =>
    simp only [Rep] at hu
    obtain ⟨h1, h2, a, rfl⟩ := hu
    have hz : zs = [] := by cases zs with | nil => rfl | cons a b => simp at h1
    subst hz
    have hs0 : sortI [] = [] := by simp [sortI]
    rw [hs0]
    refine (hn a 0 w).mono ?_
    rintro e w' ⟨rfl, rfl⟩
    exact ⟨.val (.tup []), _, F, ⟨rfl, rfl⟩, ⟨_, rfl, [], rfl, rfl⟩, hH, Trans.refl⟩
  | some b =>
    simp only [Rep] at hu
    subst hu
    obtain ⟨cs, T, hb, h1, h2, h3⟩ := ho
    have hbs : b < w.heap.size := (Array.getElem?_eq_some_iff.1 hb).1
    have hc := rows_ints zs 0 h3
    have hH' : Holds (Value.int .i64) w b 0 zs.toArray := fun j hj => by
      have hj' : j < zs.length := by simpa using hj
      refine ⟨by rw [hc j hj']; simp, ?_⟩
      unfold World.frozen?
      simp only [hb]
      simp
    rw [List.length_map]
    refine (hs b 0 c zs w hH' hbs hl).mono ?_
    rintro e w' ⟨rfl, n, os, rfl⟩
    have hgo : ∀ k, k < w.heap.size → k ≠ b → (grow (putRow (Value.int .i64) (Sort.ahead w n) b 0 (zs.mergeSort fun x y => decide (x ≤ y)).toArray) os).heap[k]? = w.heap[k]? := fun k hk hkb => by
      rw [heap_grow_old _ _ (by simp [putRow, mapBlock, Sort.ahead, hk])]
      simp only [putRow, mapBlock, Sort.ahead, Array.getElem?_modify]
      rw [if_neg (fun e => hkb e.symm)]
    have hgb : (grow (putRow (Value.int .i64) (Sort.ahead w n) b 0 (zs.mergeSort fun x y => decide (x ≤ y)).toArray) os).heap[b]? = some (.cells (putCells (Value.int .i64) 0 (sortI zs).toArray cs) T (0, 0)) := by
      rw [heap_grow_old _ _ (by simp [putRow, mapBlock, Sort.ahead, hbs])]
      simp only [putRow, mapBlock, Sort.ahead, Array.getElem?_modify]
      rw [if_pos trivial, hb]
      rfl
    have hsz : w.heap.size ≤ (grow (putRow (Value.int .i64) (Sort.ahead w n) b 0 (zs.mergeSort fun x y => decide (x ≤ y)).toArray) os).heap.size := by simp [putRow, mapBlock, Sort.ahead]
    refine ⟨.val (.tup []), _, F, ⟨rfl, rfl⟩, ⟨_, rfl, [], rfl, rfl⟩, ⟨fun o ho b' hb' => ?_, by simp [HObj.key], fun o ho => ?_, fun b' hb' => Nat.lt_of_lt_of_le (hH.bd b' hb') hsz⟩, ⟨hsz, fun b' hb' hne => ?_, fun b' hb' hne => hb', fun b' hb' => .inl hb', fun o ho b' hb' => .inl ?_, rfl, rfl, rfl⟩⟩
    · rw [List.mem_singleton] at ho; subst ho
      exact hH.sub _ (List.mem_singleton.2 rfl) b' hb'
    · rw [List.mem_singleton] at ho; subst ho
      refine ⟨_, T, hgb, by simpa [putCells] using h1, by rw [List.length_map, sortI_len]; simpa using h2, ints_rows _ _ fun j hj => ?_⟩
      rw [sortI_len] at hj
      unfold World.cell?
      rw [hgb]
      simp only [Option.isSome_none, Bool.false_eq_true, if_false, Nat.zero_add]
      rw [putCells, Array.getElem?_mapIdx]
      have hcs : j < cs.size := by rw [List.length_map] at h2; omega
      rw [Array.getElem?_eq_getElem hcs]
      simp only [Option.map_some, Nat.zero_le, true_and, Nat.zero_add, Nat.sub_zero]
      rw [if_pos (by simp [sortI_len]; exact hj)]
      simp
    · refine hgo b' hb' fun e => ?_
      subst e
      exact hne _ (List.mem_singleton.2 rfl) rfl
    · rw [List.mem_singleton] at ho; subst ho
      exact ⟨_, List.mem_singleton.2 rfl, hb'⟩
end Go.Eu
/- A field of an element of an own slice is written. -/
namespace Go.Abs
set_option linter.unusedVariables false
theorem cells_append {F : Nat → Prop} {w : World} {b : Nat} : ∀ {a c : List PV} {o : Nat}, CellsRep F w b o (a ++ c) ↔ CellsRep F w b o a ∧ CellsRep F w b (o + a.length) c
  | [], c, o => by simp [CellsRep]
  | x :: a, c, o => by
    simp only [List.cons_append, CellsRep, cells_append (a := a), List.length_cons, and_assoc]
    rw [show o + 1 + a.length = o + (a.length + 1) by omega]
theorem rows_splice_at {F : Nat → Prop} {w w' : World} {b o sz off n : Nat} {us : List Value} {T : TypeId} {vs : List Value} (hb : w.heap[b]? = some (.cells ⟨vs⟩ T (0, 0))) (hb' : w'.heap[b]? = some (.cells ⟨splice vs o us⟩ T (0, 0))) (st : Stable F w F w') (hus : us.length = n) (hfit : off + n ≤ sz) {r : List PV} (hr : CellsRep F w' b o r) (hrl : r.length = n) :
    ∀ {rows : List (List PV)} {p j : Nat} {r0 : List PV}, o = p + j * sz + off → rows[j]? = some r0 → RowsRep F w b sz p rows → RowsRep F w' b sz p (rows.set j (r0.take off ++ (r ++ r0.drop (off + n)))) := by
  have rest : ∀ {rows : List (List PV)} {q : Nat}, o + n ≤ q → RowsRep F w b sz q rows → RowsRep F w' b sz q rows := by
    intro rows
    induction rows with
    | nil => intro q _ _; simp [RowsRep]
    | cons a rows ih2 =>
      intro q hq ha
      simp only [RowsRep] at ha ⊢
      exact ⟨ha.1, cells_splice hb hb' st (.inr (by omega)) ha.2.1, ih2 (by omega) ha.2.2⟩
  intro rows
  induction rows with
  | nil => intro p j r0 _ h0 _; simp at h0
  | cons r' rows ih =>
    intro p j r0 ho h0 h
    simp only [RowsRep] at h
    cases j with
    | zero =>
      simp at h0; subst h0
      simp only [List.set_cons_zero, RowsRep]
      have hoo : o = p + off := by omega
      have h1 := h.2.1
      rw [← List.take_append_drop off r', cells_append] at h1
      have h2 := h1.2
      rw [show r'.drop off = (r'.drop off).take n ++ (r'.drop off).drop n from (List.take_append_drop n _).symm, cells_append] at h2
      have l1 : (r'.take off).length = off := by rw [List.length_take, h.1]; omega
      have l2 : ((r'.drop off).take n).length = n := by rw [List.length_take, List.length_drop, h.1]; omega
      refine ⟨by simp only [List.length_append, List.length_take, List.length_drop, hrl, h.1]; omega, ?_, rest (by omega) h.2.2⟩
      rw [cells_append, cells_append, l1, hrl]
      refine ⟨cells_splice hb hb' st (.inl (by rw [l1]; omega)) h1.1, by rw [← hoo]; exact hr, ?_⟩
      rw [← List.drop_drop]
      have h3 := h2.2
      rw [l1, l2] at h3
      exact cells_splice hb hb' st (.inr (by omega)) h3
    | succ j =>
      simp only [List.set_cons_succ, RowsRep]
      simp at h0
      rw [Nat.succ_mul] at ho
      exact ⟨h.1, cells_splice hb hb' st (.inl (by rw [h.1]; omega)) h.2.1, ih (by omega) h0 h.2.2⟩
section
variable {P : Program} {H : List HObj} {dst : Option Tmp} {ty : TypeId} {pos : String} {aft : Array Edge} {x y : Operand} {ρ : Operand → AV} {g : Option (Nat × Bool)}
/-- A field of an element of a slice that is owned is written. -/
theorem aop_store_vecf {T : TypeId} {bl : Bool} {b i j sz c off n : Nat} {rows rows2 : List (List PV)} {us : List AV} {r r0 : List PV} (hT : tyOf P T = some (bl, n)) (hpos : Nat.blt 0 n = true) (hx : ρ x = .ptr b (j * sz + off)) (hi : H[i]? = some (.vec (some b) sz rows c)) (hr0 : rows[j]? = some r0) (hfit : Nat.ble (off + n) sz = true) (hy : cellsA (ρ y) = some us) (hp : pures (us.map dn) = some r) (hrl : r.length = n) (h1 : us.all one = true) (h2 : rows.set j (r0.take off ++ (r ++ r0.drop (off + n))) = rows2) :
    AOp P ⟨dst, .store T x y, ty, pos, aft, g⟩ ρ H (.p .any) (H.set i (.vec (some b) sz rows2 c)) :=
  aop_turn_skip fun F w E hH hE => by
    subst h2
    have hpos' : 0 < n := by simpa [Nat.blt_eq] using hpos
    have hfit' : off + n ≤ sz := by simpa using hfit
    have e1 := hE x (by simp [Op.operands])
    have e2 := hE y (by simp [Op.operands])
    rw [hx] at e1
    simp only [Rep] at e1
    obtain ⟨vs, T', hb, hcs, hcl, hrows⟩ := hH.obj _ (List.mem_of_getElem? hi)
    obtain ⟨vs⟩ := vs
    obtain ⟨ws, hc, hl'⟩ := rep_cells e2 hy
    have hul : us.length = n := by
      have := congrArg List.length (pures_spec hp)
      simp at this; omega
    have hlen := hl'.length
    have hw : Wrote b (.cells ⟨splice vs (j * sz + off) ws⟩ T' (0, 0)) w (w.setCells b (j * sz + off) ws) := setCells_wrote ws hb (by intro e; rw [e] at hlen; simp at hlen; omega)
    have hlt : b < w.heap.size := (Array.getElem?_eq_some_iff.1 hb).1
    have hF : F b := hH.sub _ (List.mem_of_getElem? hi) b rfl
    have hj : j < rows.length := (List.getElem?_eq_some_iff.1 hr0).1
    have hcs' : c * sz ≤ vs.length := by simpa using hcs
    have hfit2 : j * sz + sz ≤ vs.length := by
      have : (j + 1) * sz ≤ c * sz := Nat.mul_le_mul_right sz (by omega)
      rw [Nat.succ_mul] at this
      omega
    refine ⟨w.setCells b (j * sz + off) ws, _, F, ?_, ⟨rfl, rfl⟩, hw.trans hi rfl rfl, hw.HRel hH hi rfl rfl ?_⟩
    · have hst := run_storeVar_of (T := T) (v := E y) (o := j * sz + off) hT hb hc (by omega) (by omega) (repL_one hl' h1)
      simp only [execOp, Instr.storeAt, e1, Instr.sureAddr, Sem.run_bind, Sem.run_pure, Result.andThen_ok, hst]
    · have hb' := hw.self hlt
      have st := hw.stable hF
      refine ⟨⟨splice vs (j * sz + off) ws⟩, T', hb', by simp only [splice_length, List.size_toArray]; exact hcs', by simpa using hcl, ?_⟩
      refine rows_splice_at hb hb' st (by omega) hfit' (r := r) ?_ hrl (by simp) hr0 hrows
      have hln := repL_nils (RepL.mono st _ _ hl')
      rw [pures_spec hp] at hln
      refine cellsRep_of (vs := ws) ?_ hln
      intro q u hq
      have := splice_get ws vs (j * sz + off) q u hq (by omega)
      simp [World.cell?, hb', this]
end
end Go.Abs
/- Free variables, and the assignment of a metavariable, in plain functions. -/
namespace Go.Eu
open Go.Abs
set_option linter.unusedVariables false
set_option linter.unusedSimpArgs false
def frSt (s : List Int) (d : Int) : Tm → List Int × Bool
  | .mk k i _ _ _ => (if k = 0 ∧ i ≥ d ∧ wr (i - d) ∉ s then s ++ [wr (i - d)] else s, true)
theorem frSt_new {s : List Int} {d k i : Int} {n : ByteArray} {l : List Lvl} {ks : List Tm} (h : k = 0) (h1 : i ≥ d) (hi : wr (i - d) ∉ s) : frSt s d (.mk k i n l ks) = (s ++ [wr (i - d)], true) := by simp only [frSt]; rw [if_pos ⟨h, h1, hi⟩]
theorem frSt_old {s : List Int} {d k i : Int} {n : ByteArray} {l : List Lvl} {ks : List Tm} (h : ¬ (k = 0 ∧ i ≥ d ∧ wr (i - d) ∉ s)) : frSt s d (.mk k i n l ks) = (s, true) := by simp only [frSt]; rw [if_neg h]
theorem frSt_len (m : Nat) (s : List Int) (d : Int) (t : Tm) (h : s.length + (m + 1) < 1099511627776) : (frSt s d t).1.length + m < 1099511627776 := by
  obtain ⟨k, i, n, l, ks⟩ := t
  simp only [frSt]
  split
  · simp only [List.length_append, List.length_cons, List.length_nil]; omega
  · omega
mutual
/-- A variable occurs free below d binders. -/
def hasF : Int → Tm → Bool
  | d, .mk k i _ _ ks => (decide (k = 0) && decide (i ≥ d)) || hasFs k d 0 ks
def hasFs (k d : Int) : Nat → List Tm → Bool
  | _, [] => false
  | j, t :: ts => hasF (d + below k j) t || hasFs k d (j + 1) ts
end
theorem frSt_nil (s : List Int) (d k i : Int) (n : ByteArray) (l : List Lvl) (ks : List Tm) : (frSt s d (.mk k i n l ks)).1 = [] ↔ s = [] ∧ (decide (k = 0) && decide (i ≥ d)) = false := by
  simp only [frSt]
  split
  · rename_i h
    simp [h.1]; intro _; exact h.2.1
  · rename_i h
    constructor
    · intro e
      subst e
      refine ⟨rfl, ?_⟩
      by_cases a : k = 0
      · by_cases b : i ≥ d
        · exact absurd ⟨a, b, by simp⟩ h
        · simp [b]
      · simp [a]
    · exact fun e => e.1
mutual
theorem visit_fr : ∀ (t : Tm) (d : Int) (s : List Int), (visitW frSt t d s).2 = true ∧ ((visitW frSt t d s).1 = [] ↔ s = [] ∧ hasF d t = false)
  | .mk k i n l ks, d, s => by
    rw [visitW_go rfl]
    obtain ⟨h1, h2⟩ := visits_fr ks k d 0 (frSt s d (.mk k i n l ks)).1
    refine ⟨h1, ?_⟩
    rw [h2, frSt_nil, hasF, Bool.or_eq_false_iff, and_assoc]
theorem visits_fr : ∀ (ts : List Tm) (k d : Int) (j : Nat) (s : List Int), (visitsW frSt k d j s ts).2 = true ∧ ((visitsW frSt k d j s ts).1 = [] ↔ s = [] ∧ hasFs k d j ts = false)
  | [], k, d, j, s => by simp [visitsW, hasFs]
  | t :: ts, k, d, j, s => by
    obtain ⟨h1, h2⟩ := visit_fr t (d + below k j) s
    obtain ⟨h3, h4⟩ := visits_fr ts k d (j + 1) (visitW frSt t (d + below k j) s).1
    rw [visitsW, if_neg (by simp [h1])]
    refine ⟨h3, ?_⟩
    rw [h4, h2, hasFs, Bool.or_eq_false_iff, and_assoc]
end
theorem fr_len {t : Tm} (h : size t < 1099511627776) : (visitW frSt t 0 []).1.length < 1099511627776 := by
  have := visitW_inv (st := frSt) (Inv := fun m s => s.length + m < 1099511627776) (fun m s d t h => frSt_len m s d t h) t 0 [] 0 (by simpa using h) (visit_fr t 0 []).1
  simpa using this
theorem fr_pos {t : Tm} : 0 < (sortI (visitW frSt t 0 []).1).length ↔ hasF 0 t = true := by
  rw [sortI_len, List.length_pos_iff]
  have := (visit_fr t 0 []).2
  simp only [true_and] at this
  cases h : hasF 0 t
  · simp [this.2 h]
  · simp only [iff_true]; intro e; rw [this.1 e] at h; cases h
theorem free_wit (l : List Int) (d : Int) (t : Tm) : ∃ v, ∃ r : List Int, v = IsV r ∧ ((r = [] ↔ l = [] ∧ hasF d t = false) ∧ r.length ≤ l.length + size t) := by
  have := size_pos t
  by_cases h : l = [] ∧ hasF d t = false
  · exact ⟨_, [], rfl, ⟨fun _ => h, fun _ => rfl⟩, by simp⟩
  · exact ⟨_, [0], rfl, ⟨fun e => by simp at e, fun e => absurd e h⟩, by simp; omega⟩
theorem hasFs_at {k d : Int} {ts : List Tm} {i : Nat} {x : Tm} (h : ts[i]? = some x) : hasFs k d i (ts.drop i) = (hasF (d + below k i) x || hasFs k d (i + 1) (ts.drop (i + 1))) := by
  rw [drop_at h, hasFs]
/-- Assign, where 'q' is the filled value. -/
def asgX (ms : List Mv) (i : Int) (v : Tm) (q : Tm × Int) : List Mv × Int :=
  if i < 0 ∨ i ≥ ms.length then ([], 2)
  else match ms[i.toNat]? with
    | none => ([], 2)
    | some m => if m.known = true then ([], 8) else if hasF 0 v = true then ([], 24) else if q.2 ≠ 0 then ([], q.2) else if i ∈ metasW [] q.1 then ([], 21) else (ms.set i.toNat ⟨m.type, true, v, m.cls⟩, 0)
def asgC (ms : List Mv) (n : Nat) (c : Cnt) (i : Int) (v : Tm) : Cnt :=
  if i < 0 ∨ i ≥ ms.length then c
  else match ms[i.toNat]? with
    | none => c
    | some m => if m.known = true then c else if hasF 0 v = true then c else (fillT ms n c v).2.2
section
variable {ms : List Mv} {i : Int} {v : Tm} {q : Tm × Int} {m : Mv} {n : Nat} {c : Cnt}
theorem asgX_r (h : i < 0 ∨ i ≥ ms.length) : asgX ms i v q = ([], 2) := if_pos h
theorem asgX_k (h : ¬ (i < 0 ∨ i ≥ ms.length)) (hm : ms[i.toNat]? = some m) (hk : m.known = true) : asgX ms i v q = ([], 8) := by unfold asgX; rw [if_neg h, hm]; exact if_pos hk
theorem asgX_f (h : ¬ (i < 0 ∨ i ≥ ms.length)) (hm : ms[i.toNat]? = some m) (hk : m.known = false) (hf : hasF 0 v = true) : asgX ms i v q = ([], 24) := by unfold asgX; rw [if_neg h, hm]; simp only [hk, hf, if_true, Bool.false_eq_true, if_false]
theorem asgX_e (h : ¬ (i < 0 ∨ i ≥ ms.length)) (hm : ms[i.toNat]? = some m) (hk : m.known = false) (hf : hasF 0 v = false) (he : q.2 ≠ 0) : asgX ms i v q = ([], q.2) := by unfold asgX; rw [if_neg h, hm]; simp only [hk, hf, Bool.false_eq_true, if_false]; rw [if_pos he]
theorem asgX_o (h : ¬ (i < 0 ∨ i ≥ ms.length)) (hm : ms[i.toNat]? = some m) (hk : m.known = false) (hf : hasF 0 v = false) (he : q.2 = 0) (ho : i ∈ metasW [] q.1) : asgX ms i v q = ([], 21) := by unfold asgX; rw [if_neg h, hm]; simp only [hk, hf, Bool.false_eq_true, if_false]; rw [if_neg (by simpa using he), if_pos ho]
theorem asgX_ok (h : ¬ (i < 0 ∨ i ≥ ms.length)) (hm : ms[i.toNat]? = some m) (hk : m.known = false) (hf : hasF 0 v = false) (he : q.2 = 0) (ho : i ∉ metasW [] q.1) : asgX ms i v q = (ms.set i.toNat ⟨m.type, true, v, m.cls⟩, 0) := by unfold asgX; rw [if_neg h, hm]; simp only [hk, hf, Bool.false_eq_true, if_false]; rw [if_neg (by simpa using he), if_neg ho]
theorem asgC_r (h : i < 0 ∨ i ≥ ms.length) : asgC ms n c i v = c := if_pos h
theorem asgC_k (h : ¬ (i < 0 ∨ i ≥ ms.length)) (hm : ms[i.toNat]? = some m) (hk : m.known = true) : asgC ms n c i v = c := by unfold asgC; rw [if_neg h, hm]; exact if_pos hk
theorem asgC_f (h : ¬ (i < 0 ∨ i ≥ ms.length)) (hm : ms[i.toNat]? = some m) (hk : m.known = false) (hf : hasF 0 v = true) : asgC ms n c i v = c := by unfold asgC; rw [if_neg h, hm]; simp only [hk, hf, if_true, Bool.false_eq_true, if_false]
theorem asgC_c (h : ¬ (i < 0 ∨ i ≥ ms.length)) (hm : ms[i.toNat]? = some m) (hk : m.known = false) (hf : hasF 0 v = false) : asgC ms n c i v = (fillT ms n c v).2.2 := by unfold asgC; rw [if_neg h, hm]; simp only [hk, hf, Bool.false_eq_true, if_false]
end
/-- The program's Assign is the reference's. -/
theorem asg_law {l : List Mv} {i : Int} {v : Tm} (hg : GoodP l) (hv : Ok 60 v) (ho : (asgC l 548 light i v).over = false) : asgX l i v (fillPT l 548 v) = asgX l i v ((fillT l 548 light v).1, (fillT l 548 light v).2.1) := by
  by_cases h : i < 0 ∨ i ≥ l.length
  · rw [asgX_r h, asgX_r h]
  · obtain ⟨m, hm⟩ := getElem?_of_lt (l := l) (i := i.toNat) (by omega)
    cases hk : m.known
    · cases hf : hasF 0 v
      · rw [asgC_c h hm hk hf] at ho
        rw [(fill_agrees hg hv ho).1]
      · rw [asgX_f h hm hk hf, asgX_f h hm hk hf]
    · rw [asgX_k h hm hk, asgX_k h hm hk]
theorem asgX_nd {ms : List Mv} {i : Int} {v : Tm} {q : Tm × Int} (h : ∀ m ∈ ms, Nd m.type ∧ Nd m.value) (hv : Nd v) (hl : ms.length ≤ 8) : (∀ m ∈ (asgX ms i v q).1, Nd m.type ∧ Nd m.value) ∧ (asgX ms i v q).1.length ≤ 8 := by
  have hn : (∀ m ∈ ([] : List Mv), Nd m.type ∧ Nd m.value) ∧ ([] : List Mv).length ≤ 8 := ⟨fun m hm => by simp at hm, by simp⟩
  unfold asgX
  split
  · exact hn
  · split
    · exact hn
    · rename_i m hm
      split
      · exact hn
      · split
        · exact hn
        · split
          · exact hn
          · split
            · exact hn
            · refine ⟨fun x hx => ?_, by simpa using hl⟩
              rcases List.mem_or_eq_of_mem_set hx with hx | hx
              · exact h x hx
              · subst hx; exact ⟨(h m (List.mem_of_getElem? hm)).1, hv⟩
end Go.Eu
/- Contracts of functions of the program. -/
namespace Go.Proofs.YtgfecpjmbgcobaaGreat
open Go.Abs Go.Eu
set_option linter.unusedVariables false
set_option linter.unusedSimpArgs false
set_option maxRecDepth 100000
theorem sortP_c : ∀ (xs : List Int) (o0 : Option Nat) (c0 : Nat), xs.length < 1099511627776 → ACalls Tryz.prog 55 [.vs o0 (List.map Go.Eu.encI xs).length c0] [.vec o0 1 (List.map Go.Eu.encI xs) c0] (retR (.tup []) [.vec o0 1 (List.map Go.Eu.encI (sortI xs)) c0]) :=
  fun xs o0 c0 h => sort_contract en55 Tryz.slices_Sort_int Tryz.slices_Sort_int_none xs o0 c0 (by omega)
theorem freeP_c : ∀ (t : Tm), (Nd t) → (size t < 1099511627776) → Fun Tryz.prog 28 [.agg ((encT t).map .p)] (.p (.lst (List.map Go.Eu.encI (sortI (visitW frSt t 0 []).1)))) := by
  intro t h1 h2
  refine acalls_of_awpD Tryz.func28 rfl en28 (n := 41) rfl rfl ?_
  refine awp_seq ?_
  refine awp_region ?_
  refine al_new rfl rfl (aop_box rfl) fun b1 => ?_
  refine al_step rfl rfl (aop_assign rfl) ?_
  refine al_end rfl ?_
  refine awp_seq ?_
  refine awp_region ?_
  refine al_map rfl rfl aop_makeMap fun m8 => ?_
  refine al_new rfl rfl (aop_alloc zr87 rfl) fun b3 => ?_
  refine al_step rfl rfl (aop_store_box (i := 0) ty87 rfl rfl rfl rfl rfl rfl) ?_
  refine al_end rfl ?_
  refine awp_seq ?_
  refine awp_region ?_
  refine al_new rfl rfl (aop_alloc zr59 rfl) fun b4 => ?_
  refine al_end rfl ?_
  refine awp_seq ?_
  refine awp_seq ?_
  refine awp_region ?_
  refine al_ghost (ghost_obj (i := 0) rfl (obw (aw (weak_nil0) (aw0)))) ?_
  refine al_ghost (ghost_vec0 (sz := 1)) ?_
  refine al_step rfl rfl (aop_load_box (i := 4) ty26 rfl rfl (by simp [encT_len])) ?_
  refine al_callN [] rfl rfl rfl (.inl ⟨rfl, rfl, rfl⟩) (nodesP_c t) rfl (by simp) (aw (we rfl) aw0) ?_ (fun _ _ ⟨_, h, _⟩ => by cases h)
  rintro _ _ ⟨bn, h, rfl⟩
  cases h
  refine al_end rfl ?_
  refine awp_block ?_
  refine awp_rangeL (.inr rfl) fun dd l L hL => ?_
  refine ⟨_, _, getAll_perm (is := [2, 0, 5, 6, 4, 3]) (by decide) ⟨_, _, rfl, rfl, ⟨_, _, rfl, rfl, ⟨_, _, rfl, rfl, ⟨_, _, rfl, rfl, ⟨_, _, rfl, rfl, ⟨_, _, rfl, rfl, rfl⟩⟩⟩⟩⟩⟩, ?_⟩
  have hy : ∀ (m : Nat) (s : List Int) (d : Int) (t : Tm) (T : List HObj), Nd t → (fun m s => s.length + m < 1099511627776) (m + 1) s → (fun (_ : Bool) (s : List Int) (T : List HObj) => ∃ o cp, T = [.loop l L, .box b3 [.map m8], .map m8 (mapE (mtE s)), .box b4 [.vs o (List.map Go.Eu.encI s).length cp], .vec o 1 (List.map Go.Eu.encI s) cp]) true s T → AYield Tryz.prog l [.p (I d), TV t] T (retP (.p (.bool (frSt s d t).2)) ((fun (_ : Bool) (s : List Int) (T : List HObj) => ∃ o cp, T = [.loop l L, .box b3 [.map m8], .map m8 (mapE (mtE s)), .box b4 [.vs o (List.map Go.Eu.encI s).length cp], .vec o 1 (List.map Go.Eu.encI s) cp]) (frSt s d t).2 (frSt s d t).1)) := by
    rintro m s d tt T hnd hinv ⟨o, cp, rfl⟩
    subst hL
    refine ayield_of (i := 0) rfl rfl rfl rfl ?_
    refine awp_seq ?_
    refine awp_region ?_
    refine al_step rfl rfl (aop_assign rfl) ?_
    refine al_end rfl ?_
    refine awp_region ?_
    refine al_new rfl rfl (aop_alloc zr26 rfl) fun b6 => ?_
    refine al_step rfl rfl (aop_store_whole (i := 0) ty26 rfl rfl rfl (by simp [encT_len]) (by first | rfl | simp [encT_len]) (one_Tm _)) ?_
    refine al_end rfl ?_
    refine ⟨rfl, 1, rfl, ?_⟩
    refine awp_block ?_
    refine awp_seq ?_
    refine awp_region ?_
    refine al_step rfl rfl (aop_field_ptr fd26 rfl rfl) ?_
    obtain ⟨ttk, tti, ttn, ttl, tts⟩ := tt
    refine al_step rfl rfl (aop_load_box1 (i := 0) ty3 rfl rfl rfl) ?_
    refine al_step rfl rfl (aop_move rfl) ?_
    refine al_step rfl rfl (aop_subw rfl rfl) ?_
    refine al_step rfl rfl (aop_assign rfl) ?_
    refine al_end rfl ?_
    refine awp_seq ?_
    refine awp_meetR [3, 4, 7] 31 (fun y => y = .p (.bool ((((ttk : Int) == (0 : Int)) && (decide ((tti : Int) ≥ (d : Int)))) && (!(inB s (wr ((tti : Int) - (d : Int)))))))) ?_ ?_
    · refine awp_region ?_
      refine al_step rfl rfl (aop_field_ptr fd26 rfl rfl) ?_
      refine al_step rfl rfl (aop_load_box1 (i := 0) ty3 rfl rfl rfl) ?_
      refine al_step rfl rfl (aop_cmp rfl rfl rfl) ?_
      refine al_step rfl rfl (aop_move rfl) ?_
      refine al_case 20 rfl (fun g => ?_) (fun g => ?_)
      · (try simp only [sd, se] at g)
        refine al_stepg rfl rfl rfl rfl (aop_field_ptr fd26 rfl rfl) ?_
        refine al_stepg rfl rfl rfl rfl (aop_load_box1 (i := 0) ty3 rfl rfl rfl) ?_
        refine al_stepg rfl rfl rfl rfl (aop_move rfl) ?_
        refine al_stepg rfl rfl rfl rfl (aop_cmp rfl rfl rfl) ?_
        refine al_step rfl rfl (aop_pick rfl rfl) ?_
        refine al_step rfl rfl (aop_move rfl) ?_
        refine al_case 26 rfl (fun g1 => ?_) (fun g1 => ?_)
        · (try simp only [sd, se] at g1)
          refine al_stepg rfl rfl rfl rfl (aop_load_box1 (i := 2) ty87 rfl rfl rfl) ?_
          refine al_stepg rfl rfl rfl rfl (aop_move rfl) ?_
          refine al_stepg rfl rfl rfl rfl (aop_lookup2 (i := 3) mo87 zr4 rep_false rfl rfl rfl (mt_get _ _)) ?_
          refine al_stepg rfl rfl rfl rfl (aop_not rfl) ?_
          refine al_step rfl rfl (aop_pick rfl rfl) ?_
          refine al_end rfl ?_
          exact ⟨rfl, rfl, (by first | exact List.Sublist.refl _ | exact List.sublist_cons_self _ _), (by first | rfl | (refine pB ?_; simp_all; done) | (refine pB ?_; simp_all <;> (intros; omega))), ⟨rfl, rfl, rfl, trivial⟩⟩
        · (try simp only [sd, se] at g1)
          refine al_pass rfl rfl rfl rfl rfl ?_
          refine al_pass rfl rfl rfl rfl rfl ?_
          refine al_pass rfl rfl rfl rfl rfl ?_
          refine al_pass rfl rfl rfl rfl rfl ?_
          refine al_step rfl rfl (aop_pick rfl rfl) ?_
          refine al_end rfl ?_
          exact ⟨rfl, rfl, (by first | exact List.Sublist.refl _ | exact List.sublist_cons_self _ _), (by first | rfl | (refine pB ?_; simp_all; done) | (refine pB ?_; simp_all <;> (intros; omega))), ⟨rfl, rfl, rfl, trivial⟩⟩
      · (try simp only [sd, se] at g)
        refine al_pass rfl rfl rfl rfl rfl ?_
        refine al_pass rfl rfl rfl rfl rfl ?_
        refine al_pass rfl rfl rfl rfl rfl ?_
        refine al_pass rfl rfl rfl rfl rfl ?_
        refine al_step rfl rfl (aop_pick rfl rfl) ?_
        refine al_step rfl rfl (aop_move rfl) ?_
        refine al_pass rfl rfl rfl rfl rfl ?_
        refine al_pass rfl rfl rfl rfl rfl ?_
        refine al_pass rfl rfl rfl rfl rfl ?_
        refine al_pass rfl rfl rfl rfl rfl ?_
        refine al_step rfl rfl (aop_pick rfl rfl) ?_
        refine al_end rfl ?_
        exact ⟨rfl, rfl, (by first | exact List.Sublist.refl _ | exact List.sublist_cons_self _ _), (by first | rfl | (refine pB ?_; simp_all; done) | (refine pB ?_; simp_all <;> (intros; omega))), ⟨rfl, rfl, rfl, trivial⟩⟩
    rintro _ rfl
    refine awp_cond rfl (fun c => ?_) (fun c => ?_)
    · (try simp only [sd, se] at c)
      refine awp_seq ?_
      refine awp_region ?_
      refine al_step rfl rfl (aop_load_box1 (i := 2) ty87 rfl rfl rfl) ?_
      refine al_step rfl rfl (aop_move rfl) ?_
      refine al_step rfl rfl (aop_mapUpdate (i := 3) mo87 rfl rfl rfl rfl) ?_
      refine al_end rfl ?_
      refine awp_region ?_
      refine al_step rfl rfl (aop_load_box1 (i := 4) ty59 rfl rfl rfl) ?_
      refine al_step rfl rfl (aop_move rfl) ?_
      refine al_step rfl rfl (aop_buildSlice el59 zr3 rfl rfl rfl rfl rfl) ?_
      refine al_app rfl rfl (aop_append2 (i := 5) (rows' := List.map Go.Eu.encI [(wr ((tti : Int) - (d : Int)))]) el59 el59 zr3 rfl rfl rfl rfl rfl rfl (solid_Int _) (by simp only [encTs_len, List.length_map, List.length_cons, List.length_nil, List.nil_append, List.length_append]; omega) (vn_map (f := Go.Eu.encI) s [(wr ((tti : Int) - (d : Int)))])) fun o1 cp1 => ?_
      refine al_step rfl rfl (aop_store_box (i := 4) ty59 rfl rfl rfl rfl rfl rfl) ?_
      refine al_end rfl ?_
      refine ⟨1, _, rfl, subl (is := [1, 2, 3, 4, 5]) rfl, ?_⟩
      rw [frSt_new c.1.1 c.1.2 (by simpa [inB] using c.2)]
      exact ⟨rfl, _, _, by rw [show ((s ++ [wr (tti - d)], true) : List Int × Bool).1 = s ++ [wr (tti - d)] from rfl, ← mt_set (by simpa [inB] using c.2)]; rfl⟩
    · (try simp only [sd, se] at c)
      refine awp_skip ?_
      refine ⟨1, _, rfl, subl (is := [1, 2, 3, 4, 5]) rfl, ?_⟩
      rw [frSt_old (by simpa [inB, and_assoc] using c)]
      exact ⟨rfl, _, _, rfl⟩
  refine (nodes1_c frSt (fun m s => s.length + m < 1099511627776) (fun (_ : Bool) (s : List Int) (T : List HObj) => ∃ o cp, T = [.loop l L, .box b3 [.map m8], .map m8 (mapE (mtE s)), .box b4 [.vs o (List.map Go.Eu.encI s).length cp], .vec o 1 (List.map Go.Eu.encI s) cp]) l bn (fun m s d t h => frSt_len m s d t h) hy t [] _ 0 (h1) (by omega) (by simpa using h2) ⟨_, _, rfl⟩).mono ?_
  rintro (v | v) H' hR
  rotate_left
  · exact hR.elim
  obtain ⟨rfl, _, ⟨o, cp, rfl⟩, rfl⟩ := hR
  subst hL
  refine ⟨1, _, rfl, (by simp), ?_⟩
  refine awp_seq ?_
  refine awp_region ?_
  refine al_step rfl rfl (aop_load_box1 (i := 3) ty59 rfl rfl rfl) ?_
  refine al_step rfl rfl (aop_retn [4] rfl (.inl ⟨rfl, rfl, rfl⟩) (sortP_c ((visitW frSt t 0 []).1) o cp (fr_len h2)) ⟨_, _, rfl, rfl, rfl⟩ (by decide) rfl (.inl rfl)) ?_
  refine al_end rfl ?_
  refine awp_seq ?_
  refine awp_region ?_
  refine al_step rfl rfl (aop_load_box1 (i := 3) ty59 rfl rfl rfl) ?_
  refine al_step rfl rfl (aop_assign rfl) ?_
  refine al_end rfl ?_
  refine awp_ghost (ghost_eq (t := 2) (x := .vs o (List.map Go.Eu.encI (sortI ((visitW frSt t 0 []).1))).length cp) (vsLen_map (f := Go.Eu.encI) ((visitW frSt t 0 []).1) (l' := sortI ((visitW frSt t 0 []).1)) (by simp [sortI_len]))) ?_
  refine awp_ghost (ghost_eq (t := 38) (x := .vs o (List.map Go.Eu.encI (sortI ((visitW frSt t 0 []).1))).length cp) (vsLen_map (f := Go.Eu.encI) ((visitW frSt t 0 []).1) (l' := sortI ((visitW frSt t 0 []).1)) (by simp [sortI_len]))) ?_
  refine awp_ghost (ghost_eq (t := 40) (x := .vs o (List.map Go.Eu.encI (sortI ((visitW frSt t 0 []).1))).length cp) (vsLen_map (f := Go.Eu.encI) ((visitW frSt t 0 []).1) (l' := sortI ((visitW frSt t 0 []).1)) (by simp [sortI_len]))) ?_
  refine awp_ghost (ghost_obj (i := 3) rfl (obw (aw (we (vsLen_map (f := Go.Eu.encI) ((visitW frSt t 0 []).1) (l' := sortI ((visitW frSt t 0 []).1)) (by simp [sortI_len]))) (aw0)))) ?_
  refine awp_ghost (ghost_freeze_cell (i := 4) (j := 3) (q := 0) [2, 38, 40] rfl rfl rfl (memall ⟨rfl, rfl, rfl, trivial⟩)) ?_
  refine awp_ret ?_
  refine ⟨4, rfl, _, _, ⟨_, _, rfl, rfl, rfl⟩, (List.nil_sublist _), ?_⟩
  all_goals exact ⟨rfl, rfl⟩

theorem addR_c : ∀ (l : List Int) (n : Int), (l.length < big) → FunR Tryz.prog 77 [.p (.lst (List.map Go.Eu.encI l)), .p (I n)] (fun v => ∃ r : List Int, v = IsV r ∧ (1 ≤ r.length ∧ r.length ≤ l.length + 1)) := by
  intro l n h1
  simp only [big] at h1
  refine acalls_of_awp Tryz.func77 rfl en77 (n := 49) rfl rfl ?_
  refine awp_seq ?_
  refine awp_region ?_
  refine al_step rfl rfl (aop_assign rfl) ?_
  refine al_end rfl ?_
  refine awp_seq ?_
  refine awp_region ?_
  refine al_step rfl rfl (aop_assign rfl) ?_
  refine al_end rfl ?_
  refine awp_seq ?_
  refine awp_region ?_
  refine al_step rfl rfl (aop_assign rfl) ?_
  refine al_end rfl ?_
  refine awp_seq ?_
  refine awp_seq ?_
  refine awp_region ?_
  refine al_step rfl rfl (aop_assign rfl) ?_
  refine al_end rfl ?_
  refine awp_block ?_
  refine awp_ghost (ghost_own (t := 5) (sz := 1) rfl) ?_
  refine awp_while (α := Nat × List Int × Bool × Option Nat × Nat) (fun (i, us, dn, o, cp) => ⟨49, mk [(0, .p (.lst (List.map Go.Eu.encI l))), (1, .p (I n)), (5, .vs o (List.map Go.Eu.encI us).length cp), (6, .p (.bool dn)), (7, .p (I (i : Int)))], [.vec o 1 (List.map Go.Eu.encI us) cp], []⟩) (fun (i, us, dn, o, cp) => l.length - i) (fun (i, us, dn, o, cp) => i ≤ l.length ∧ ((dn = true → us.length = i + 1) ∧ (dn = false → us.length = i))) ⟨0, [], false, none, 0⟩ (⟨by omega, by simp, by simp⟩) ?_ ?_
  · exact le_mkW ⟨we rfl, we rfl, we rfl, we rfl, we rfl, trivial⟩ (leH (is := [0]) rfl (wl (oe rfl) (wl0)))
  rintro ⟨i, us, dn, o, cp⟩ hC
  try simp only at hC
  obtain ⟨hi, hC, hD⟩ := hC
  have hul : us.length ≤ i + 1 := by cases dn <;> simp_all
  refine awp_seq ?_
  refine awp_seq ?_
  refine awp_region ?_
  refine al_step rfl rfl (aop_move rfl) ?_
  refine al_step rfl rfl (aop_move rfl) ?_
  refine al_step rfl rfl (aop_lenE el59 rfl (List.length_map _)) ?_
  refine al_step rfl rfl (aop_cmp rfl rfl rfl) ?_
  refine al_end rfl ?_
  refine awp_cond rfl (fun c => ?_) (fun c => ?_)
  · (try simp only [sd, se] at c)
    refine awp_skip ?_
    refine awp_seq ?_
    refine awp_block ?_
    refine awp_seq ?_
    refine awp_seq ?_
    refine awp_region ?_
    refine al_step rfl rfl (aop_move rfl) ?_
    refine al_step rfl rfl (aop_move rfl) ?_
    obtain ⟨x, hx⟩ := getElem?_of_lt (l := l) (i := i) (by omega)
    refine al_step rfl rfl (aop_index_lst el59 rfl rfl (by omega) (encI_get hx) (rfl)) ?_
    refine al_step rfl rfl (aop_load_ref1 ty3 rfl) ?_
    refine al_step rfl rfl (aop_move rfl) ?_
    refine al_step rfl rfl (aop_cmp rfl rfl rfl) ?_
    refine al_end rfl ?_
    refine awp_cond rfl (fun c1 => ?_) (fun c1 => ?_)
    · (try simp only [sd, se] at c1)
      refine awp_seq ?_
      refine awp_region ?_
      refine al_step rfl rfl (aop_move rfl) ?_
      refine al_step rfl rfl (aop_assign rfl) ?_
      refine al_end rfl ?_
      refine awp_ret ?_
      refine ⟨rfl, _, [], res_tmp rfl, List.nil_sublist _, ⟨⟨_, rfl, ?_⟩, rfl⟩⟩
      have := (List.getElem?_eq_some_iff.1 hx).1
      exact ⟨by omega, by omega⟩
    · (try simp only [sd, se] at c1)
      refine awp_skip ?_
      refine awp_seq ?_
      refine awp_seq ?_
      refine awp_meetR [0, 1, 5, 6, 7] 30 (fun y => y = .p (.bool (decide (x > n) && !dn))) ?_ ?_
      · refine awp_region ?_
        refine al_step rfl rfl (aop_move rfl) ?_
        refine al_step rfl rfl (aop_move rfl) ?_
        refine al_step rfl rfl (aop_index_lst el59 rfl rfl (by omega) (encI_get hx) (rfl)) ?_
        refine al_step rfl rfl (aop_load_ref1 ty3 rfl) ?_
        refine al_step rfl rfl (aop_move rfl) ?_
        refine al_step rfl rfl (aop_cmp rfl rfl rfl) ?_
        refine al_step rfl rfl (aop_move rfl) ?_
        refine al_case 27 rfl (fun g => ?_) (fun g => ?_)
        · (try simp only [sd, se] at g)
          refine al_stepg rfl rfl rfl rfl (aop_move rfl) ?_
          refine al_stepg rfl rfl rfl rfl (aop_not rfl) ?_
          refine al_step rfl rfl (aop_pick rfl rfl) ?_
          refine al_end rfl ?_
          exact ⟨rfl, rfl, (by first | exact List.Sublist.refl _ | exact List.sublist_cons_self _ _), (by first | rfl | (refine pB ?_; simp_all; done) | (refine pB ?_; simp_all <;> (intros; omega))), ⟨rfl, rfl, rfl, rfl, rfl, trivial⟩⟩
        · (try simp only [sd, se] at g)
          refine al_pass rfl rfl rfl rfl rfl ?_
          refine al_pass rfl rfl rfl rfl rfl ?_
          refine al_step rfl rfl (aop_pick rfl rfl) ?_
          refine al_end rfl ?_
          exact ⟨rfl, rfl, (by first | exact List.Sublist.refl _ | exact List.sublist_cons_self _ _), (by first | rfl | (refine pB ?_; simp_all; done) | (refine pB ?_; simp_all <;> (intros; omega))), ⟨rfl, rfl, rfl, rfl, rfl, trivial⟩⟩
      rintro _ rfl
      refine awp_cond rfl (fun c2 => ?_) (fun c2 => ?_)
      · (try simp only [sd, se] at c2)
        refine awp_seq ?_
        refine awp_region ?_
        refine al_step rfl rfl (aop_move rfl) ?_
        refine al_step rfl rfl (aop_move rfl) ?_
        refine al_step rfl rfl (aop_buildSlice el59 zr3 rfl rfl rfl rfl rfl) ?_
        refine al_app rfl rfl (aop_append2 (i := 0) (rows' := List.map Go.Eu.encI [n]) el59 el59 zr3 rfl rfl rfl rfl rfl rfl (solid_Int _) (by simp only [List.length_map, List.length_append, List.length_cons, List.length_nil]; omega) (vn_map (f := Go.Eu.encI) us [n])) fun o1 cp1 => ?_
        refine al_step rfl rfl (aop_assign rfl) ?_
        refine al_end rfl ?_
        refine awp_region ?_
        refine al_step rfl rfl (aop_assign rfl) ?_
        refine al_end rfl ?_
        refine awp_region ?_
        refine al_step rfl rfl (aop_move rfl) ?_
        refine al_step rfl rfl (aop_move rfl) ?_
        refine al_step rfl rfl (aop_move rfl) ?_
        refine al_step rfl rfl (aop_index_lst el59 rfl rfl (by omega) (encI_get hx) (rfl)) ?_
        refine al_step rfl rfl (aop_load_ref1 ty3 rfl) ?_
        refine al_step rfl rfl (aop_buildSlice el59 zr3 rfl rfl rfl rfl rfl) ?_
        refine al_app rfl rfl (aop_append2 (i := 0) (rows' := List.map Go.Eu.encI [x]) el59 el59 zr3 rfl rfl rfl rfl rfl rfl (solid_Int _) (by simp only [List.length_map, List.length_append, List.length_cons, List.length_nil]; omega) (vn_map (f := Go.Eu.encI) (us ++ [n]) [x])) fun o2 cp2 => ?_
        refine al_step rfl rfl (aop_assign rfl) ?_
        refine al_end rfl ?_
        refine awp_region ?_
        refine al_step rfl rfl (aop_move rfl) ?_
        refine al_step rfl rfl (aop_add rfl rfl (by omega) (by omega)) ?_
        refine al_step rfl rfl (aop_assign rfl) ?_
        refine al_end rfl ?_
        refine ⟨⟨i + 1, us ++ [n] ++ [x], true, o2, cp2⟩, (by first | omega | (simp only; omega)), ⟨by omega, by first | (refine ⟨fun h => ?_, fun h => ?_⟩ <;> simp_all <;> done) | (refine ⟨fun h => ?_, fun h => ?_⟩ <;> simp_all <;> omega)⟩, le_mkW ⟨we rfl, we rfl, we rfl, we rfl, we rfl, trivial⟩ (leH (is := [0]) rfl (wl (oe rfl) (wl0)))⟩
      · (try simp only [sd, se] at c2)
        refine awp_skip ?_
        refine awp_region ?_
        refine al_step rfl rfl (aop_move rfl) ?_
        refine al_step rfl rfl (aop_move rfl) ?_
        refine al_step rfl rfl (aop_move rfl) ?_
        refine al_step rfl rfl (aop_index_lst el59 rfl rfl (by omega) (encI_get hx) (rfl)) ?_
        refine al_step rfl rfl (aop_load_ref1 ty3 rfl) ?_
        refine al_step rfl rfl (aop_buildSlice el59 zr3 rfl rfl rfl rfl rfl) ?_
        refine al_app rfl rfl (aop_append2 (i := 0) (rows' := List.map Go.Eu.encI [x]) el59 el59 zr3 rfl rfl rfl rfl rfl rfl (solid_Int _) (by simp only [List.length_map, List.length_append, List.length_cons, List.length_nil]; omega) (vn_map (f := Go.Eu.encI) us [x])) fun o1 cp1 => ?_
        refine al_step rfl rfl (aop_assign rfl) ?_
        refine al_end rfl ?_
        refine awp_region ?_
        refine al_step rfl rfl (aop_move rfl) ?_
        refine al_step rfl rfl (aop_add rfl rfl (by omega) (by omega)) ?_
        refine al_step rfl rfl (aop_assign rfl) ?_
        refine al_end rfl ?_
        refine ⟨⟨i + 1, us ++ [x], dn, o1, cp1⟩, (by first | omega | (simp only; omega)), ⟨by omega, by first | (refine ⟨fun h => ?_, fun h => ?_⟩ <;> simp_all <;> done) | (refine ⟨fun h => ?_, fun h => ?_⟩ <;> simp_all <;> omega)⟩, le_mkW ⟨we rfl, we rfl, we rfl, we rfl, we rfl, trivial⟩ (leH (is := [0]) rfl (wl (oe rfl) (wl0)))⟩
  · (try simp only [sd, se] at c)
    refine awp_exit ?_
    refine awp_seq ?_
    refine awp_seq ?_
    refine awp_region ?_
    refine al_step rfl rfl (aop_move rfl) ?_
    refine al_step rfl rfl (aop_not rfl) ?_
    refine al_end rfl ?_
    refine awp_cond rfl (fun c1 => ?_) (fun c1 => ?_)
    · (try simp only [sd, se] at c1)
      refine awp_region ?_
      refine al_step rfl rfl (aop_move rfl) ?_
      refine al_step rfl rfl (aop_move rfl) ?_
      refine al_step rfl rfl (aop_buildSlice el59 zr3 rfl rfl rfl rfl rfl) ?_
      refine al_app rfl rfl (aop_append2 (i := 0) (rows' := List.map Go.Eu.encI [n]) el59 el59 zr3 rfl rfl rfl rfl rfl rfl (solid_Int _) (by simp only [List.length_map, List.length_append, List.length_cons, List.length_nil]; omega) (vn_map (f := Go.Eu.encI) us [n])) fun o1 cp1 => ?_
      refine al_step rfl rfl (aop_assign rfl) ?_
      refine al_end rfl ?_
      refine awp_seq ?_
      refine awp_region ?_
      refine al_step rfl rfl (aop_move rfl) ?_
      refine al_step rfl rfl (aop_assign rfl) ?_
      refine al_end rfl ?_
      refine awp_ghost (ghost_freeze (i := 0) [5, 47, 48, 4] rfl (memall ⟨rfl, rfl, rfl, rfl, trivial⟩)) ?_
      refine awp_ret ?_
      refine ⟨rfl, _, [], res_tmp rfl, List.nil_sublist _, ⟨⟨_, rfl, ?_⟩, rfl⟩⟩
      have := hD (by simpa using c1)
      simp only [List.length_append, List.length_cons, List.length_nil]
      exact ⟨by omega, by omega⟩
    · (try simp only [sd, se] at c1)
      refine awp_skip ?_
      refine awp_seq ?_
      refine awp_region ?_
      refine al_step rfl rfl (aop_move rfl) ?_
      refine al_step rfl rfl (aop_assign rfl) ?_
      refine al_end rfl ?_
      refine awp_ghost (ghost_freeze (i := 0) [5, 48, 4] rfl (memall ⟨rfl, rfl, rfl, trivial⟩)) ?_
      refine awp_ret ?_
      refine ⟨rfl, _, [], res_tmp rfl, List.nil_sublist _, ⟨⟨_, rfl, ?_⟩, rfl⟩⟩
      have := hC (by simpa using c1)
      exact ⟨by omega, by omega⟩

theorem freeR_c : ∀ (n : Nat) (t : Tm) (l : List Int) (d : Int), (size t ≤ n) → (Nd t) → (0 ≤ d) → (d + n < big) → (l.length + size t < big) → FunR Tryz.prog 57 [.p (.lst (List.map Go.Eu.encI l)), .agg ((encT t).map .p), .p (I d)] (fun v => ∃ r : List Int, v = IsV r ∧ ((r = [] ↔ l = [] ∧ hasF d t = false) ∧ r.length ≤ l.length + size t)) := by
  intro n
  induction n with
  | zero => intro t l d h; cases t; simp [size] at h
  | succ n ih =>
    intro t l d h1 h2 h3 h4 h5
    simp only [big] at h4 h5
    obtain ⟨tk, ti, tn, tl, ts⟩ := t
    simp only [size] at h1 h5
    simp only [Nd, rng, big] at h2
    have hks := len_le_sizes ts
    refine acalls_of_awp Tryz.func57 rfl en57 (n := 44) rfl rfl ?_
    refine awp_seq ?_
    refine awp_region ?_
    refine al_new rfl rfl (aop_box rfl) fun b4 => ?_
    refine al_step rfl rfl (aop_assign rfl) ?_
    refine al_end rfl ?_
    refine awp_seq ?_
    refine awp_seq ?_
    refine awp_meetR [0, 2, 4] 16 (fun y => y = .p (.bool (((tk : Int) == (0 : Int)) && (decide ((ti : Int) ≥ (d : Int)))))) ?_ ?_
    · refine awp_region ?_
      refine al_step rfl rfl (aop_field_ptr fd26 rfl rfl) ?_
      refine al_step rfl rfl (aop_load_box1 (i := 0) ty3 rfl rfl rfl) ?_
      refine al_step rfl rfl (aop_cmp rfl rfl rfl) ?_
      refine al_step rfl rfl (aop_move rfl) ?_
      refine al_case 11 rfl (fun g => ?_) (fun g => ?_)
      · (try simp only [sd, se] at g)
        refine al_stepg rfl rfl rfl rfl (aop_field_ptr fd26 rfl rfl) ?_
        refine al_stepg rfl rfl rfl rfl (aop_load_box1 (i := 0) ty3 rfl rfl rfl) ?_
        refine al_stepg rfl rfl rfl rfl (aop_move rfl) ?_
        refine al_stepg rfl rfl rfl rfl (aop_cmp rfl rfl rfl) ?_
        refine al_step rfl rfl (aop_pick rfl rfl) ?_
        refine al_end rfl ?_
        exact ⟨rfl, rfl, (by first | exact List.Sublist.refl _ | exact List.sublist_cons_self _ _), (by first | rfl | (refine pB ?_; simp_all; done) | (refine pB ?_; simp_all <;> (intros; omega))), ⟨rfl, rfl, rfl, trivial⟩⟩
      · (try simp only [sd, se] at g)
        refine al_pass rfl rfl rfl rfl rfl ?_
        refine al_pass rfl rfl rfl rfl rfl ?_
        refine al_pass rfl rfl rfl rfl rfl ?_
        refine al_pass rfl rfl rfl rfl rfl ?_
        refine al_step rfl rfl (aop_pick rfl rfl) ?_
        refine al_end rfl ?_
        exact ⟨rfl, rfl, (by first | exact List.Sublist.refl _ | exact List.sublist_cons_self _ _), (by first | rfl | (refine pB ?_; simp_all; done) | (refine pB ?_; simp_all <;> (intros; omega))), ⟨rfl, rfl, rfl, trivial⟩⟩
    rintro _ rfl
    refine awp_cond rfl (fun c => ?_) (fun c => ?_)
    · (try simp only [sd, se] at c)
      refine awp_region ?_
      refine al_step rfl rfl (aop_move rfl) ?_
      refine al_step rfl rfl (aop_field_ptr fd26 rfl rfl) ?_
      refine al_step rfl rfl (aop_load_box1 (i := 0) ty3 rfl rfl rfl) ?_
      refine al_step rfl rfl (aop_move rfl) ?_
      refine al_step rfl rfl (aop_sub rfl rfl (by omega) (by omega)) ?_
      refine al_rel rfl rfl (aop_funR rfl rfl (addR_c l ((ti : Int) - (d : Int)) (by simp only [big]; omega)) (.inl rfl)) ?_
      rintro _ ⟨r, rfl, hr⟩
      refine al_step rfl rfl (aop_assign rfl) ?_
      refine al_end rfl ?_
      refine awp_seq ?_
      refine awp_seq ?_
      refine awp_region ?_
      refine al_step rfl rfl (aop_assign rfl) ?_
      refine al_end rfl ?_
      refine awp_block ?_
      refine awp_while (α := Nat × List Int) (fun (i, m) => ⟨44, mk [(0, .p (.lst (List.map Go.Eu.encI m))), (2, .p (I d)), (4, .ptr b4 0), (7, .p (I (i : Int)))], [.box b4 [.p (I tk), .p (I ti), .p (.str tn), .p (.lst (List.map encL tl)), .p (.lst (encTs ts))]], []⟩) (fun (i, m) => ts.length - i) (fun (i, m) => i ≤ ts.length ∧ ((m = [] ∧ hasFs tk d i (ts.drop i) = false ↔ l = [] ∧ hasF d (.mk tk ti tn tl ts) = false) ∧ m.length ≤ l.length + 1 + sizes (ts.take i))) ⟨0, r⟩ (⟨by omega, by constructor <;> intro h <;> simp_all [hasF], by simp; omega⟩) ?_ ?_
      · exact le_mkW ⟨we rfl, we rfl, we rfl, we rfl, trivial⟩ (leH (is := [0]) rfl (wl (oe rfl) (wl0)))
      rintro ⟨i, m⟩ hC
      try simp only at hC
      obtain ⟨hi, hC, hm⟩ := hC
      have hbl := below_le tk i
      refine awp_seq ?_
      refine awp_seq ?_
      refine awp_region ?_
      refine al_step rfl rfl (aop_move rfl) ?_
      refine al_step rfl rfl (aop_field_ptr fd26 rfl rfl) ?_
      refine al_step rfl rfl (aop_load_box1 (i := 0) ty24 rfl rfl rfl) ?_
      refine al_step rfl rfl (aop_lenE el24 rfl (encTs_len _)) ?_
      refine al_step rfl rfl (aop_cmp rfl rfl rfl) ?_
      refine al_end rfl ?_
      refine awp_cond rfl (fun c1 => ?_) (fun c1 => ?_)
      · (try simp only [sd, se] at c1)
        refine awp_skip ?_
        refine awp_seq ?_
        refine awp_block ?_
        refine awp_dr (fun k => Nat.beq k 12) mx0 ?_
        refine dr_free rfl rfl (fun _ => aop_move rfl) trivial ?_
        refine dr_free rfl rfl (fun _ => aop_field_ptr fd26 rfl rfl) trivial ?_
        refine dr_read (j := 0) rfl rfl rfl (fun H i hi => aop_load_box1 (i := i) ty24 rfl hi rfl) (by repeat' first | exact trivial | refine And.intro ?_ ?_ | ((refine Or.inr (And.intro ?_ ?_) <;> repeat (first | exact List.Mem.head _ | apply List.Mem.tail)); done) | exact Or.inl (by kernel_rfl)) trivial ?_
        refine dr_free rfl rfl (fun _ => aop_move rfl) trivial ?_
        obtain ⟨x, hx⟩ := getElem?_of_lt (l := ts) (i := i) (by omega)
        refine dr_free rfl rfl (fun _ => aop_index_lst el24 rfl rfl (by omega) (encTs_get hx) (encT_len _)) trivial ?_
        refine dr_free rfl rfl (fun _ => aop_load_ref ty26 rfl (encT_len _)) trivial ?_
        refine dr_free rfl rfl (fun _ => aop_move rfl) trivial ?_
        refine dr_free rfl rfl (fun _ => aop_field_ptr fd26 rfl rfl) trivial ?_
        refine dr_read (j := 0) rfl rfl rfl (fun H i hi => aop_load_box1 (i := i) ty3 rfl hi rfl) (by repeat' first | exact trivial | refine And.intro ?_ ?_ | ((refine Or.inr (And.intro ?_ ?_) <;> repeat (first | exact List.Mem.head _ | apply List.Mem.tail)); done) | exact Or.inl (by kernel_rfl)) trivial ?_
        refine dr_free rfl rfl (fun _ => aop_move rfl) trivial ?_
        refine dr_free rfl rfl (fun _ => aop_fun rfl rfl (below_c tk (i : Int)) rfl) trivial ?_
        refine dr_free rfl rfl (fun _ => aop_add rfl rfl (by omega) (by omega)) trivial ?_
        refine dr_rel [] rfl rfl (aop_funR rfl rfl (ih x m ((d : Int) + (below tk (i : Int) : Int)) (by have := size_mem hx; omega) (Nds_mem h2.2.2.2.2.1 hx) (by omega) (by simp only [big]; omega) (by have := size_mem hx; have h9 := take_add_le hx; simp only [big]; omega)) (.inl rfl)) (by kernel_rfl) ((free_wit m ((d : Int) + (below tk (i : Int) : Int)) x)) (by repeat' first | exact trivial | refine And.intro ?_ ?_ | ((refine Or.inr (And.intro ?_ ?_) <;> repeat (first | exact List.Mem.head _ | apply List.Mem.tail)); done) | exact Or.inl (by kernel_rfl)) ?_
        rintro _ ⟨r1, rfl, hr1⟩
        refine ⟨trivial, ?_⟩
        refine dr_free rfl rfl (fun _ => aop_assign rfl) trivial ?_
        refine dr_end rfl (by kernel_rfl) ?_
        refine awp_region ?_
        refine al_step rfl rfl (aop_move rfl) ?_
        refine al_step rfl rfl (aop_add rfl rfl (by omega) (by omega)) ?_
        refine al_step rfl rfl (aop_assign rfl) ?_
        refine al_end rfl ?_
        refine ⟨⟨i + 1, r1⟩, (by first | omega | (simp only; omega)), ⟨by omega, by have h9 := sizes_take hx; rw [hasFs_at hx] at hC; refine ⟨?_, by omega⟩; rw [← hC, Bool.or_eq_false_iff, ← and_assoc]; first | rw [hr.1] | rw [hr1.1]⟩, le_mkW ⟨we rfl, we rfl, we rfl, we rfl, trivial⟩ (leH (is := [0]) rfl (wl (oe rfl) (wl0)))⟩
      · (try simp only [sd, se] at c1)
        refine awp_exit ?_
        refine awp_seq ?_
        refine awp_region ?_
        refine al_step rfl rfl (aop_move rfl) ?_
        refine al_step rfl rfl (aop_assign rfl) ?_
        refine al_end rfl ?_
        refine awp_ret ?_
        refine ⟨rfl, _, [], res_tmp rfl, List.nil_sublist _, ⟨⟨_, rfl, ?_⟩, rfl⟩⟩
        rw [show i = ts.length by omega, List.drop_length] at hC
        exact ⟨by simpa [hasFs] using hC, by have := sizes_le (ts := ts) i; simp only [size]; omega⟩
    · (try simp only [sd, se] at c)
      refine awp_skip ?_
      refine awp_seq ?_
      refine awp_seq ?_
      refine awp_region ?_
      refine al_step rfl rfl (aop_assign rfl) ?_
      refine al_end rfl ?_
      refine awp_block ?_
      refine awp_while (α := Nat × List Int) (fun (i, m) => ⟨44, mk [(0, .p (.lst (List.map Go.Eu.encI m))), (2, .p (I d)), (4, .ptr b4 0), (7, .p (I (i : Int)))], [.box b4 [.p (I tk), .p (I ti), .p (.str tn), .p (.lst (List.map encL tl)), .p (.lst (encTs ts))]], []⟩) (fun (i, m) => ts.length - i) (fun (i, m) => i ≤ ts.length ∧ ((m = [] ∧ hasFs tk d i (ts.drop i) = false ↔ l = [] ∧ hasF d (.mk tk ti tn tl ts) = false) ∧ m.length ≤ l.length + 1 + sizes (ts.take i))) ⟨0, l⟩ (⟨by omega, by simp only [List.drop_zero, hasF]; rw [Bool.or_eq_false_iff]; constructor <;> intro h <;> simp_all, by simp; omega⟩) ?_ ?_
      · exact le_mkW ⟨we rfl, we rfl, we rfl, we rfl, trivial⟩ (leH (is := [0]) rfl (wl (oe rfl) (wl0)))
      rintro ⟨i, m⟩ hC
      try simp only at hC
      obtain ⟨hi, hC, hm⟩ := hC
      have hbl := below_le tk i
      refine awp_seq ?_
      refine awp_seq ?_
      refine awp_region ?_
      refine al_step rfl rfl (aop_move rfl) ?_
      refine al_step rfl rfl (aop_field_ptr fd26 rfl rfl) ?_
      refine al_step rfl rfl (aop_load_box1 (i := 0) ty24 rfl rfl rfl) ?_
      refine al_step rfl rfl (aop_lenE el24 rfl (encTs_len _)) ?_
      refine al_step rfl rfl (aop_cmp rfl rfl rfl) ?_
      refine al_end rfl ?_
      refine awp_cond rfl (fun c1 => ?_) (fun c1 => ?_)
      · (try simp only [sd, se] at c1)
        refine awp_skip ?_
        refine awp_seq ?_
        refine awp_block ?_
        refine awp_dr (fun k => Nat.beq k 12) mx0 ?_
        refine dr_free rfl rfl (fun _ => aop_move rfl) trivial ?_
        refine dr_free rfl rfl (fun _ => aop_field_ptr fd26 rfl rfl) trivial ?_
        refine dr_read (j := 0) rfl rfl rfl (fun H i hi => aop_load_box1 (i := i) ty24 rfl hi rfl) (by repeat' first | exact trivial | refine And.intro ?_ ?_ | ((refine Or.inr (And.intro ?_ ?_) <;> repeat (first | exact List.Mem.head _ | apply List.Mem.tail)); done) | exact Or.inl (by kernel_rfl)) trivial ?_
        refine dr_free rfl rfl (fun _ => aop_move rfl) trivial ?_
        obtain ⟨x, hx⟩ := getElem?_of_lt (l := ts) (i := i) (by omega)
        refine dr_free rfl rfl (fun _ => aop_index_lst el24 rfl rfl (by omega) (encTs_get hx) (encT_len _)) trivial ?_
        refine dr_free rfl rfl (fun _ => aop_load_ref ty26 rfl (encT_len _)) trivial ?_
        refine dr_free rfl rfl (fun _ => aop_move rfl) trivial ?_
        refine dr_free rfl rfl (fun _ => aop_field_ptr fd26 rfl rfl) trivial ?_
        refine dr_read (j := 0) rfl rfl rfl (fun H i hi => aop_load_box1 (i := i) ty3 rfl hi rfl) (by repeat' first | exact trivial | refine And.intro ?_ ?_ | ((refine Or.inr (And.intro ?_ ?_) <;> repeat (first | exact List.Mem.head _ | apply List.Mem.tail)); done) | exact Or.inl (by kernel_rfl)) trivial ?_
        refine dr_free rfl rfl (fun _ => aop_move rfl) trivial ?_
        refine dr_free rfl rfl (fun _ => aop_fun rfl rfl (below_c tk (i : Int)) rfl) trivial ?_
        refine dr_free rfl rfl (fun _ => aop_add rfl rfl (by omega) (by omega)) trivial ?_
        refine dr_rel [] rfl rfl (aop_funR rfl rfl (ih x m ((d : Int) + (below tk (i : Int) : Int)) (by have := size_mem hx; omega) (Nds_mem h2.2.2.2.2.1 hx) (by omega) (by simp only [big]; omega) (by have := size_mem hx; have h9 := take_add_le hx; simp only [big]; omega)) (.inl rfl)) (by kernel_rfl) ((free_wit m ((d : Int) + (below tk (i : Int) : Int)) x)) (by repeat' first | exact trivial | refine And.intro ?_ ?_ | ((refine Or.inr (And.intro ?_ ?_) <;> repeat (first | exact List.Mem.head _ | apply List.Mem.tail)); done) | exact Or.inl (by kernel_rfl)) ?_
        rintro _ ⟨r, rfl, hr⟩
        refine ⟨trivial, ?_⟩
        refine dr_free rfl rfl (fun _ => aop_assign rfl) trivial ?_
        refine dr_end rfl (by kernel_rfl) ?_
        refine awp_region ?_
        refine al_step rfl rfl (aop_move rfl) ?_
        refine al_step rfl rfl (aop_add rfl rfl (by omega) (by omega)) ?_
        refine al_step rfl rfl (aop_assign rfl) ?_
        refine al_end rfl ?_
        refine ⟨⟨i + 1, r⟩, (by first | omega | (simp only; omega)), ⟨by omega, by have h9 := sizes_take hx; rw [hasFs_at hx] at hC; refine ⟨?_, by omega⟩; rw [← hC, Bool.or_eq_false_iff, ← and_assoc]; first | rw [hr.1] | rw [hr1.1]⟩, le_mkW ⟨we rfl, we rfl, we rfl, we rfl, trivial⟩ (leH (is := [0]) rfl (wl (oe rfl) (wl0)))⟩
      · (try simp only [sd, se] at c1)
        refine awp_exit ?_
        refine awp_seq ?_
        refine awp_region ?_
        refine al_step rfl rfl (aop_move rfl) ?_
        refine al_step rfl rfl (aop_assign rfl) ?_
        refine al_end rfl ?_
        refine awp_ret ?_
        refine ⟨rfl, _, [], res_tmp rfl, List.nil_sublist _, ⟨⟨_, rfl, ?_⟩, rfl⟩⟩
        rw [show i = ts.length by omega, List.drop_length] at hC
        exact ⟨by simpa [hasFs] using hC, by have := sizes_le (ts := ts) i; simp only [size]; omega⟩

theorem freeT_c : ∀ (t : Tm), (Nd t) → (size t < 1000000) → FunR Tryz.prog 32 [.agg ((encT t).map .p)] (fun v => ∃ r : List Int, v = IsV r ∧ ((r = [] ↔ hasF 0 t = false) ∧ r.length ≤ size t)) := by
  intro t h1 h2
  obtain ⟨tk, ti, tn, tl, ts⟩ := t
  refine acalls_of_awp Tryz.func32 rfl en32 (n := 5) rfl rfl ?_
  refine awp_seq ?_
  refine awp_region ?_
  refine al_new rfl rfl (aop_box rfl) fun b1 => ?_
  refine al_step rfl rfl (aop_assign rfl) ?_
  refine al_end rfl ?_
  refine awp_seq ?_
  refine awp_region ?_
  refine al_step rfl rfl (aop_load_box (i := 0) ty26 rfl rfl rfl) ?_
  refine al_rel rfl rfl (aop_funR rfl rfl (freeR_c _ (.mk tk ti tn tl ts : Tm) [] 0 (Nat.le_refl _) h1 (by omega) (by simp only [big]; omega) (by simp only [big, List.length_nil]; omega)) (.inr rfl)) ?_
  rintro _ ⟨r, rfl, hr⟩
  refine al_step rfl rfl (aop_assign rfl) ?_
  refine al_end rfl ?_
  refine awp_ret ?_
  refine ⟨rfl, _, [], res_tmp rfl, List.nil_sublist _, ⟨⟨_, rfl, ?_⟩, rfl⟩⟩
  exact ⟨by simpa using hr.1, by simpa using hr.2⟩

end Go.Proofs.YtgfecpjmbgcobaaGreat
/- The metavariables of a filled term, also where the count is over. -/
namespace Go.Eu
open Go.Abs
set_option linter.unusedVariables false
set_option linter.unusedSimpArgs false
section
variable {p : Int → Int → ByteArray → List Lvl → Prop}
theorem betaW_tp (h0 : ∀ i, p 0 i ⟨#[]⟩ []) : ∀ (l : List Tm) (c : Cnt) (v : Tm), TP p v → TPs p l → TP p (betaW c v l).2.1 ∧ TPs p (betaW c v l).2.2
  | [], c, v, hv, hl => ⟨hv, trivial⟩
  | a :: l, c, v, hv, hl => by
    unfold betaW
    split
    · refine betaW_tp h0 l _ _ (underW_tp h0 _ _ _ ?_ ⟨hl.1, trivial⟩) hl.2
      obtain ⟨k, i, n, ls, ks⟩ := v
      exact TPs_getD h0 hv.2 1
    · exact ⟨hv, hl⟩
theorem fillL_tp {F : Cnt → Tm → Tm × Int × Cnt} (hF : ∀ c t, TP p t → TP p (F c t).1) : ∀ (ts : List Tm) (c : Cnt), TPs p ts → TPs p (fillL F c ts).1
  | [], c, h => by unfold fillL; trivial
  | t :: ts, c, h => by
    unfold fillL
    split
    · trivial
    · split
      · trivial
      · exact ⟨hF c t h.1, fillL_tp hF ts _ h.2⟩
theorem fillW_tp (h0 : ∀ i, p 0 i ⟨#[]⟩ []) (h4 : p 4 0 ⟨#[]⟩ []) {ms : List Mv} (hm : ∀ m ∈ ms, TP p m.value) : ∀ (n : Nat) (ab : List Int) (c : Cnt) (t : Tm), TP p t → TP p (fillW ms n ab c t).1
  | 0, ab, c, t, h => TP_zero h0
  | n + 1, ab, c, t, h => by
    have IH := fun ab c t h => fillW_tp h0 h4 hm n ab c t h
    have hz := TP_zero (p := p) h0
    obtain ⟨hs1, hs2⟩ := TP_spine t h
    have hk : TPs p (spine t).1.kids := by generalize (spine t).1 = x at hs1; obtain ⟨k, i, n, ls, ks⟩ := x; exact hs1.2
    have hval : TP p (valueOf ms (spine t).1.index) := by
      unfold valueOf
      split
      · rename_i m e; exact hm m (List.mem_of_getElem? e)
      · exact hz
    have e1 := fillL_tp (IH ab) (spine t).1.kids c hk
    rcases fillW_cases (ms := ms) (n := n) (ab := ab) (c := c) (t := t) _ _ _ _ _ rfl rfl rfl rfl rfl with ⟨_, e⟩ | ⟨_, _, ⟨_, e⟩ | ⟨_, _, e⟩ | ⟨_, _, e⟩⟩ | ⟨_, _, _, e⟩ | ⟨_, _, _, ⟨_, e⟩ | ⟨_, _, e⟩ | ⟨_, _, e⟩⟩ <;> rw [e]
    · exact hz
    · exact hz
    · exact hz
    · refine TP_apply h4 _ _ ?_ (fillL_tp (IH ab) _ _ hs2)
      revert e1
      generalize (spine t).1 = x at hs1 ⊢
      obtain ⟨k, i, n, ls, ks⟩ := x
      exact fun e1 => ⟨hs1.1, e1⟩
    · exact hz
    · exact hz
    · exact hz
    · exact TP_apply h4 _ _ (betaW_tp h0 _ _ _ (IH _ _ _ hval) (fillL_tp (IH ab) _ _ hs2)).1 (betaW_tp h0 _ _ _ (IH _ _ _ hval) (fillL_tp (IH ab) _ _ hs2)).2
end
/-- A list of different numbers below m. -/
structure RG (m : Nat) (l : List Int) : Prop where
  nd : l.Nodup
  rg : ∀ x ∈ l, 0 ≤ x ∧ x < (m : Int)
theorem RG.nil {m : Nat} : RG m [] := ⟨List.nodup_nil, fun x h => by simp at h⟩
theorem RG.len : ∀ {m : Nat} {l : List Int}, RG m l → l.length ≤ m
  | 0, [], h => by simp
  | 0, x :: l, h => by have := h.rg x (by simp); omega
  | m + 1, l, h => by
    have h1 : RG m (l.erase (m : Int)) := ⟨h.nd.erase _, fun x hx => by
      have := h.rg x (List.mem_of_mem_erase hx)
      have hne : x ≠ (m : Int) := fun e => by rw [e] at hx; exact absurd hx (h.nd.not_mem_erase)
      omega⟩
    have h2 := RG.len h1
    have h3 := List.length_erase (a := (m : Int)) (l := l)
    split at h3 <;> omega
theorem RG.snoc {m : Nat} {l : List Int} {i : Int} (h : RG m l) (hi : 0 ≤ i ∧ i < (m : Int)) (hn : i ∉ l) : RG m (l ++ [i]) := by
  refine ⟨List.nodup_append.2 ⟨h.nd, by simp, ?_⟩, fun x hx => ?_⟩
  · intro a ha b hb; simp at hb; subst hb; intro e; subst e; exact hn ha
  · rcases List.mem_append.1 hx with hx | hx
    · exact h.rg x hx
    · simp at hx; subst hx; exact hi
mutual
theorem metasW_rg {m : Nat} : ∀ (t : Tm) (l : List Int), TP (rgP m) t → RG m l → RG m (metasW l t)
  | .mk k i n ls ks, l, h, hl => by
    unfold metasW
    split
    · rename_i hk
      split
      · exact hl
      · rename_i hn; exact metassW_rg ks _ h.2 (hl.snoc (h.1 hk) hn)
    · exact metassW_rg ks l h.2 hl
theorem metassW_rg {m : Nat} : ∀ (ts : List Tm) (l : List Int), TPs (rgP m) ts → RG m l → RG m (metassW l ts)
  | [], l, h, hl => by unfold metassW; exact hl
  | t :: ts, l, h, hl => by unfold metassW; exact metassW_rg ts _ h.2 (metasW_rg t l h.1 hl)
end
theorem rg_var {m : Nat} (i : Int) : rgP m 0 i ⟨#[]⟩ [] := fun h => absurd h (by decide)
theorem rg_app {m : Nat} : rgP m 4 0 ⟨#[]⟩ [] := fun h => absurd h (by decide)
theorem mb_le {l : List Mv} {t : Tm} (h : l.length ≤ 8) (ht : size t ≤ 60) : size t * (Mb 60 l.length + 2) < 1152921504606846976 := by
  have h1 := Mb_mono 60 h
  have h2 : Mb 60 8 ≤ 14000000000000000 := by decide
  exact Nat.lt_of_le_of_lt (Nat.mul_le_mul ht (Nat.add_le_add_right (Nat.le_trans h1 h2) 2)) (by decide)
theorem free_nil0 {r : List Int} {t : Tm} (hr : r = [] ↔ hasF 0 t = false) (h : ¬ (0 : Int) < ((r.length : Nat) : Int)) : hasF 0 t = false := hr.1 (List.eq_nil_of_length_eq_zero (by omega))
theorem free_yes0 {r : List Int} {t : Tm} (hr : r = [] ↔ hasF 0 t = false) (h : (0 : Int) < ((r.length : Nat) : Int)) : hasF 0 t = true := by
  cases e : hasF 0 t
  · rw [hr.2 e] at h; simp at h
  · rfl
theorem set_get {ms : List Mv} {i : Nat} {m x : Mv} (h : ms[i]? = some x) : (ms.set i m)[i]? = some m := by
  rw [List.getElem?_set_self (List.getElem?_eq_some_iff.1 h).1]
theorem free_no {t : Tm} (h : ¬ (0 : Int) < (((sortI (visitW frSt t 0 []).1).length : Nat) : Int)) : hasF 0 t = false := by
  cases e : hasF 0 t
  · rfl
  · exact absurd (fr_pos.2 e) (by omega)
theorem set_known {ms : List Mv} {i : Nat} {m : Mv} : (List.map encM ms).set i ((encM m).take 5 ++ ([PV.bool true] ++ (encM m).drop (5 + 1))) = List.map encM (ms.set i ⟨m.type, true, m.value, m.cls⟩) := by
  rw [List.map_set]
  obtain ⟨⟨k, j, n, l, ks⟩, a, ⟨k', j', n', l', ks'⟩, b⟩ := m
  rfl
theorem set_value {ms : List Mv} {i : Nat} {m : Mv} {k j : Int} {n : ByteArray} {l : List Lvl} {ks : List Tm} : (List.map encM (ms.set i m)).set i ((encM m).take 6 ++ (encT (.mk k j n l ks) ++ (encM m).drop (6 + 5))) = List.map encM (ms.set i ⟨m.type, m.known, .mk k j n l ks, m.cls⟩) := by
  rw [List.map_set, List.set_set, List.map_set]
  obtain ⟨⟨k1, j1, n1, l1, ks1⟩, a, ⟨k', j', n', l', ks'⟩, b⟩ := m
  rfl
theorem fillT_rg {ms : List Mv} {m n : Nat} {c : Cnt} {t : Tm} (hm : ∀ x ∈ ms, TP (rgP m) x.value) (ht : TP (rgP m) t) : TP (rgP m) (fillT ms n c t).1 := fillW_tp rg_var rg_app hm n [] c t ht
end Go.Eu
/- Contracts of functions of the program. -/
namespace Go.Proofs.YtgfecpjmbgcobaaGreat
open Go.Abs Go.Eu
set_option linter.unusedVariables false
set_option linter.unusedSimpArgs false
set_option maxRecDepth 100000
theorem metasNr_c : ∀ (n : Nat) (t : Tm) (l : List Int) (o0 : Option Nat) (c0 : Nat), (size t ≤ n) → (Nd t) → (TP (rgP 8) t) → (RG 8 l) → ACalls Tryz.prog 60 [.vs o0 (List.map Go.Eu.encI l).length c0, .agg ((encT t).map .p)] [.vec o0 1 (List.map Go.Eu.encI l) c0] (ownV (fun v => v) 1 (List.map Go.Eu.encI (metasW l t))) := by
  intro n
  induction n with
  | zero => intro t l o0 c0 h; cases t; simp [size] at h
  | succ n ih =>
    intro t l o0 c0 h1 h2 h3 h4
    have hl8 := h4.len
    obtain ⟨tk, ti, tn, tl, ts⟩ := t
    simp only [size] at h1
    simp only [Nd, big] at h2
    have hks := len_le_sizes ts
    refine acalls_of_awp Tryz.func60 rfl en60 (n := 44) rfl rfl ?_
    refine awp_seq ?_
    refine awp_region ?_
    refine al_new rfl rfl (aop_box rfl) fun b3 => ?_
    refine al_step rfl rfl (aop_assign rfl) ?_
    refine al_end rfl ?_
    refine awp_seq ?_
    refine awp_seq ?_
    refine awp_region ?_
    refine al_step rfl rfl (aop_field_ptr fd26 rfl rfl) ?_
    refine al_step rfl rfl (aop_load_box1 (i := 0) ty3 rfl rfl rfl) ?_
    refine al_step rfl rfl (aop_cmp rfl rfl rfl) ?_
    refine al_end rfl ?_
    refine awp_cond rfl (fun c => ?_) (fun c => ?_)
    · (try simp only [sd, se] at c)
      refine awp_seq ?_
      refine awp_seq ?_
      refine awp_region ?_
      refine al_step rfl rfl (aop_assign rfl) ?_
      refine al_end rfl ?_
      refine awp_block ?_
      refine awp_while (α := Nat) (fun i => ⟨44, mk [(0, .vs o0 (List.map Go.Eu.encI l).length c0), (3, .ptr b3 0), (5, .p (I (i : Int)))], [.box b3 [.p (I tk), .p (I ti), .p (.str tn), .p (.lst (List.map encL tl)), .p (.lst (encTs ts))], .vec o0 1 (List.map Go.Eu.encI l) c0], []⟩) (fun i => l.length - i) (fun i => i ≤ l.length ∧ (ti ∉ l.take i)) 0 (by simp) ?_ ?_
      · exact le_mkW ⟨we rfl, we rfl, we rfl, trivial⟩ (leH (is := [0, 1]) rfl (wl (oe rfl) (wl (oe rfl) (wl0))))
      rintro i hC
      try simp only at hC
      obtain ⟨hi, hC⟩ := hC
      refine awp_seq ?_
      refine awp_seq ?_
      refine awp_region ?_
      refine al_step rfl rfl (aop_move rfl) ?_
      refine al_step rfl rfl (aop_move rfl) ?_
      refine al_step rfl rfl (aop_lenV el59 rfl (List.length_map _)) ?_
      refine al_step rfl rfl (aop_cmp rfl rfl rfl) ?_
      refine al_end rfl ?_
      refine awp_cond rfl (fun c1 => ?_) (fun c1 => ?_)
      · (try simp only [sd, se] at c1)
        refine awp_skip ?_
        refine awp_seq ?_
        refine awp_block ?_
        refine awp_seq ?_
        refine awp_some (i := 1) rfl (by simp [encTs_len]; omega) fun b hb => ?_
        subst hb
        refine awp_dr (fun k => false) mx0 ?_
        refine dr_free rfl rfl (fun _ => aop_move rfl) trivial ?_
        refine dr_free rfl rfl (fun _ => aop_move rfl) trivial ?_
        refine dr_free rfl rfl (fun _ => aop_index_vs el59 rfl rfl (by omega) (by first | (simp only [List.length_map, encTs_len]; omega) | (simp_all; done) | (simp_all; omega))) trivial ?_
        obtain ⟨y, hy⟩ := getElem?_of_lt (l := l) (i := i) (by first | omega | (simp_all; done) | (simp_all; omega))
        refine dr_read (j := 1) rfl rfl rfl (fun H i hi => aop_load_vec1 (i := i) ty3 rfl hi (encI_get hy)) (by repeat' first | exact trivial | refine And.intro ?_ ?_ | ((refine Or.inr (And.intro ?_ ?_) <;> repeat (first | exact List.Mem.head _ | apply List.Mem.tail)); done) | exact Or.inl (by kernel_rfl)) trivial ?_
        refine dr_free rfl rfl (fun _ => aop_field_ptr fd26 rfl rfl) trivial ?_
        refine dr_read (j := 0) rfl rfl rfl (fun H i hi => aop_load_box1 (i := i) ty3 rfl hi rfl) (by repeat' first | exact trivial | refine And.intro ?_ ?_ | ((refine Or.inr (And.intro ?_ ?_) <;> repeat (first | exact List.Mem.head _ | apply List.Mem.tail)); done) | exact Or.inl (by kernel_rfl)) trivial ?_
        refine dr_free rfl rfl (fun _ => aop_cmp rfl rfl rfl) trivial ?_
        refine dr_end rfl (by kernel_rfl) ?_
        refine awp_cond rfl (fun c2 => ?_) (fun c2 => ?_)
        · (try simp only [sd, se] at c2)
          refine awp_seq ?_
          refine awp_region ?_
          refine al_step rfl rfl (aop_move rfl) ?_
          refine al_step rfl rfl (aop_assign rfl) ?_
          refine al_end rfl ?_
          refine awp_ret ?_
          refine ⟨rfl, _, _, ⟨_, _, rfl, rfl, rfl⟩, (subl (is := [1]) rfl), ?_⟩
          rw [metasW, if_pos c, if_pos (by rw [← c2]; exact List.mem_of_getElem? hy)]
          all_goals exact ⟨_, _, rfl, rfl⟩
        · (try simp only [sd, se] at c2)
          refine awp_skip ?_
          refine awp_region ?_
          refine al_step rfl rfl (aop_move rfl) ?_
          refine al_step rfl rfl (aop_add rfl rfl (by omega) (by omega)) ?_
          refine al_step rfl rfl (aop_assign rfl) ?_
          refine al_end rfl ?_
          refine ⟨(i + 1), (by first | omega | (simp only; omega)), ⟨by omega, not_take_succ hC hy c2⟩, le_mkW ⟨we rfl, we rfl, we rfl, trivial⟩ (leH (is := [0, 1]) rfl (wl (oe rfl) (wl (oe rfl) (wl0))))⟩
      · (try simp only [sd, se] at c1)
        refine awp_exit ?_
        refine awp_region ?_
        refine al_step rfl rfl (aop_move rfl) ?_
        refine al_step rfl rfl (aop_field_ptr fd26 rfl rfl) ?_
        refine al_step rfl rfl (aop_load_box1 (i := 0) ty3 rfl rfl rfl) ?_
        refine al_step rfl rfl (aop_buildSlice el59 zr3 rfl rfl rfl rfl rfl) ?_
        refine al_app rfl rfl (aop_append2 (i := 1) (rows' := List.map Go.Eu.encI [ti]) el59 el59 zr3 rfl rfl rfl rfl rfl rfl (solid_Int _) (by simp only [encTs_len, List.length_map, List.length_cons, List.length_nil, List.nil_append, List.length_append]; omega) (vn_map (f := Go.Eu.encI) l [ti])) fun o cp => ?_
        refine al_step rfl rfl (aop_assign rfl) ?_
        refine al_end rfl ?_
        refine awp_seq ?_
        refine awp_seq ?_
        refine awp_region ?_
        refine al_step rfl rfl (aop_assign rfl) ?_
        refine al_end rfl ?_
        refine awp_block ?_
        refine awp_while (α := Nat × List Int × Option Nat × Nat) (fun (j, m, o1, cp1) => ⟨44, mk [(0, .vs o1 (List.map Go.Eu.encI m).length cp1), (3, .ptr b3 0), (6, .p (I (j : Int)))], [.box b3 [.p (I tk), .p (I ti), .p (.str tn), .p (.lst (List.map encL tl)), .p (.lst (encTs ts))], .vec o1 1 (List.map Go.Eu.encI m) cp1], []⟩) (fun (j, m, o1, cp1) => ts.length - j) (fun (j, m, o1, cp1) => j ≤ ts.length ∧ (metassW m (ts.drop j) = metassW (l ++ [ti]) ts ∧ RG 8 m)) ⟨0, l ++ [ti], o, cp⟩ (⟨by omega, by simp, h4.snoc (h3.1 c) (by have h9 := hC; rw [show i = l.length by omega, List.take_length] at h9; exact h9)⟩) ?_ ?_
        · exact le_mkW ⟨we rfl, we rfl, we rfl, trivial⟩ (leH (is := [0, 1]) rfl (wl (oe rfl) (wl (oe rfl) (wl0))))
        rintro ⟨j, m, o1, cp1⟩ hC1
        try simp only at hC1
        obtain ⟨hi, hD, hm⟩ := hC1
        have hm8 := hm.len
        refine awp_seq ?_
        refine awp_seq ?_
        refine awp_region ?_
        refine al_step rfl rfl (aop_move rfl) ?_
        refine al_step rfl rfl (aop_field_ptr fd26 rfl rfl) ?_
        refine al_step rfl rfl (aop_load_box1 (i := 0) ty24 rfl rfl rfl) ?_
        refine al_step rfl rfl (aop_lenE el24 rfl (encTs_len _)) ?_
        refine al_step rfl rfl (aop_cmp rfl rfl rfl) ?_
        refine al_end rfl ?_
        refine awp_cond rfl (fun c2 => ?_) (fun c2 => ?_)
        · (try simp only [sd, se] at c2)
          refine awp_skip ?_
          refine awp_seq ?_
          refine awp_block ?_
          refine awp_region ?_
          refine al_step rfl rfl (aop_move rfl) ?_
          refine al_step rfl rfl (aop_field_ptr fd26 rfl rfl) ?_
          refine al_step rfl rfl (aop_load_box1 (i := 0) ty24 rfl rfl rfl) ?_
          refine al_step rfl rfl (aop_move rfl) ?_
          obtain ⟨x, hx⟩ := getElem?_of_lt (l := ts) (i := j) (by omega)
          refine al_step rfl rfl (aop_index_lst el24 rfl rfl (by omega) (encTs_get hx) (encT_len _)) ?_
          refine al_step rfl rfl (aop_load_ref ty26 rfl (encT_len _)) ?_
          refine al_ownI 1 rfl rfl rfl (.inl ⟨rfl, rfl, rfl⟩) (ih x m o1 cp1 (by have := size_mem hx; omega) (Nds_mem h2.2.2.2.2.1 hx) (TPs_get h3.2 (List.mem_of_getElem? hx)) hm) rfl (aw (we rfl) (aw (we rfl) (aw0))) fun o2 cp2 => ?_
          refine al_step rfl rfl (aop_assign rfl) ?_
          refine al_end rfl ?_
          refine awp_region ?_
          refine al_step rfl rfl (aop_move rfl) ?_
          refine al_step rfl rfl (aop_add rfl rfl (by omega) (by omega)) ?_
          refine al_step rfl rfl (aop_assign rfl) ?_
          refine al_end rfl ?_
          refine ⟨⟨j + 1, metasW m x, o2, cp2⟩, (by first | omega | (simp only; omega)), ⟨by omega, ⟨by rw [← hD, drop_at hx]; rfl, metasW_rg _ _ (TPs_get h3.2 (List.mem_of_getElem? hx)) hm⟩⟩, le_mkW ⟨we rfl, we rfl, we rfl, trivial⟩ (leH (is := [0, 1]) rfl (wl (oe rfl) (wl (oe rfl) (wl0))))⟩
        · (try simp only [sd, se] at c2)
          refine awp_exit ?_
          refine awp_seq ?_
          refine awp_region ?_
          refine al_step rfl rfl (aop_move rfl) ?_
          refine al_step rfl rfl (aop_assign rfl) ?_
          refine al_end rfl ?_
          refine awp_ret ?_
          refine ⟨rfl, _, _, ⟨_, _, rfl, rfl, rfl⟩, (subl (is := [1]) rfl), ?_⟩
          rw [metasW, if_pos c, if_neg (by rw [show i = l.length by omega, List.take_length] at hC; exact hC), ← hD, show j = ts.length by omega, List.drop_length]
          all_goals exact ⟨_, _, rfl, rfl⟩
    · (try simp only [sd, se] at c)
      refine awp_skip ?_
      refine awp_seq ?_
      refine awp_seq ?_
      refine awp_region ?_
      refine al_step rfl rfl (aop_assign rfl) ?_
      refine al_end rfl ?_
      refine awp_block ?_
      refine awp_while (α := Nat × List Int × Option Nat × Nat) (fun (i, m, o, cp) => ⟨44, mk [(0, .vs o (List.map Go.Eu.encI m).length cp), (3, .ptr b3 0), (6, .p (I (i : Int)))], [.box b3 [.p (I tk), .p (I ti), .p (.str tn), .p (.lst (List.map encL tl)), .p (.lst (encTs ts))], .vec o 1 (List.map Go.Eu.encI m) cp], []⟩) (fun (i, m, o, cp) => ts.length - i) (fun (i, m, o, cp) => i ≤ ts.length ∧ (metassW m (ts.drop i) = metassW l ts ∧ RG 8 m)) ⟨0, l, o0, c0⟩ (⟨by omega, by simp, h4⟩) ?_ ?_
      · exact le_mkW ⟨we rfl, we rfl, we rfl, trivial⟩ (leH (is := [0, 1]) rfl (wl (oe rfl) (wl (oe rfl) (wl0))))
      rintro ⟨i, m, o, cp⟩ hC
      try simp only at hC
      obtain ⟨hi, hC, hm⟩ := hC
      have hm8 := hm.len
      refine awp_seq ?_
      refine awp_seq ?_
      refine awp_region ?_
      refine al_step rfl rfl (aop_move rfl) ?_
      refine al_step rfl rfl (aop_field_ptr fd26 rfl rfl) ?_
      refine al_step rfl rfl (aop_load_box1 (i := 0) ty24 rfl rfl rfl) ?_
      refine al_step rfl rfl (aop_lenE el24 rfl (encTs_len _)) ?_
      refine al_step rfl rfl (aop_cmp rfl rfl rfl) ?_
      refine al_end rfl ?_
      refine awp_cond rfl (fun c1 => ?_) (fun c1 => ?_)
      · (try simp only [sd, se] at c1)
        refine awp_skip ?_
        refine awp_seq ?_
        refine awp_block ?_
        refine awp_region ?_
        refine al_step rfl rfl (aop_move rfl) ?_
        refine al_step rfl rfl (aop_field_ptr fd26 rfl rfl) ?_
        refine al_step rfl rfl (aop_load_box1 (i := 0) ty24 rfl rfl rfl) ?_
        refine al_step rfl rfl (aop_move rfl) ?_
        obtain ⟨x, hx⟩ := getElem?_of_lt (l := ts) (i := i) (by omega)
        refine al_step rfl rfl (aop_index_lst el24 rfl rfl (by omega) (encTs_get hx) (encT_len _)) ?_
        refine al_step rfl rfl (aop_load_ref ty26 rfl (encT_len _)) ?_
        refine al_ownI 1 rfl rfl rfl (.inl ⟨rfl, rfl, rfl⟩) (ih x m o cp (by have := size_mem hx; omega) (Nds_mem h2.2.2.2.2.1 hx) (TPs_get h3.2 (List.mem_of_getElem? hx)) hm) rfl (aw (we rfl) (aw (we rfl) (aw0))) fun o1 cp1 => ?_
        refine al_step rfl rfl (aop_assign rfl) ?_
        refine al_end rfl ?_
        refine awp_region ?_
        refine al_step rfl rfl (aop_move rfl) ?_
        refine al_step rfl rfl (aop_add rfl rfl (by omega) (by omega)) ?_
        refine al_step rfl rfl (aop_assign rfl) ?_
        refine al_end rfl ?_
        refine ⟨⟨i + 1, metasW m x, o1, cp1⟩, (by first | omega | (simp only; omega)), ⟨by omega, ⟨by rw [← hC, drop_at hx]; rfl, metasW_rg _ _ (TPs_get h3.2 (List.mem_of_getElem? hx)) hm⟩⟩, le_mkW ⟨we rfl, we rfl, we rfl, trivial⟩ (leH (is := [0, 1]) rfl (wl (oe rfl) (wl (oe rfl) (wl0))))⟩
      · (try simp only [sd, se] at c1)
        refine awp_exit ?_
        refine awp_seq ?_
        refine awp_region ?_
        refine al_step rfl rfl (aop_move rfl) ?_
        refine al_step rfl rfl (aop_assign rfl) ?_
        refine al_end rfl ?_
        refine awp_ret ?_
        refine ⟨rfl, _, _, ⟨_, _, rfl, rfl, rfl⟩, (subl (is := [1]) rfl), ?_⟩
        rw [metasW, if_neg c, ← hC, show i = ts.length by omega, List.drop_length]
        all_goals exact ⟨_, _, rfl, rfl⟩

theorem metasNt_c : ∀ (t : Tm), (Nd t) → (TP (rgP 8) t) → Fun Tryz.prog 35 [.agg ((encT t).map .p)] (.p (.lst (List.map Go.Eu.encI (metasW [] t)))) := by
  intro t h1 h2
  refine acalls_of_awp Tryz.func35 rfl en35 (n := 5) rfl rfl ?_
  refine awp_seq ?_
  refine awp_region ?_
  refine al_new rfl rfl (aop_box rfl) fun b1 => ?_
  refine al_step rfl rfl (aop_assign rfl) ?_
  refine al_end rfl ?_
  refine awp_seq ?_
  refine awp_region ?_
  refine al_step rfl rfl (aop_load_box (i := 0) ty26 rfl rfl (by simp [encT_len])) ?_
  refine al_ghost (ghost_vec0 (sz := 1)) ?_
  refine al_ownI 0 rfl rfl rfl (.inl ⟨rfl, rfl, rfl⟩) (metasNr_c _ t [] none 0 (Nat.le_refl _) h1 h2 RG.nil) rfl (aw (weak_nil0) (aw (we rfl) (aw0))) fun o cp => ?_
  refine al_step rfl rfl (aop_assign rfl) ?_
  refine al_end rfl ?_
  refine awp_ghost (ghost_freeze (i := 0) [2, 4] rfl (memall ⟨rfl, rfl, trivial⟩)) ?_
  refine awp_ret ?_
  refine ⟨rfl, _, _, ⟨_, _, rfl, rfl, rfl⟩, (List.nil_sublist _), ?_⟩
  all_goals exact ⟨rfl, rfl⟩

end Go.Proofs.YtgfecpjmbgcobaaGreat
