/- Part of the proofs about metavariables: an abstract program logic, plain models and contracts of functions. -/
import Derived.Test.YtgfecpjmbgcobaaGreatPa
/- The abstract program logic: the rules of the operations that make and write memory. -/
namespace Go.Abs
set_option linter.unusedVariables false
set_option linter.unusedSimpArgs false

/-- The cells that a value takes up. -/
def cellsA : AV → Option (List AV)
  | .agg cs => some cs
  | .p .any => none
  | .tup _ => none
  | x => some [x]

/-- One cell can hold it. -/
def one : AV → Bool
  | .p .any | .agg _ | .tup _ => false
  | _ => true

def splice {α : Type} : List α → Nat → List α → List α
  | l, _, [] => l
  | l, o, x :: xs => splice (l.set o x) (o + 1) xs

def World.push (w : World) (o : Obj) : World := { w with heap := w.heap.push o }

section
variable {F F' : Nat → Prop} {w w' : World} {P : Program}

theorem rep_one {x : AV} {v : Value} (h : Rep F w x v) (h1 : one x = true) : v.oneCell' = true ∧ v.cells = #[v] := by
  cases x with
  | p y =>
    cases y with
    | any => simp [one] at h1
    | lst rows =>
      simp only [Rep, PRep] at h
      rcases h with ⟨_, o, c, rfl⟩ | ⟨b, o, c, sz, rfl, _⟩ <;> exact ⟨rfl, rfl⟩
    | iface t y =>
      simp only [Rep, PRep] at h
      obtain ⟨u, rfl, _⟩ := h
      exact ⟨rfl, rfl⟩
    | _ => simp only [Rep, PRep] at h; subst h; exact ⟨rfl, rfl⟩
  | ref cs => simp only [Rep] at h; obtain ⟨b, o, rfl, _⟩ := h; exact ⟨rfl, rfl⟩
  | fn f a b => simp only [Rep] at h; obtain ⟨fs, cs, rfl, _⟩ := h; exact ⟨rfl, rfl⟩
  | agg cs => simp [one] at h1
  | tup cs => simp [one] at h1
  | vs o n c =>
    cases o with
    | some b => simp only [Rep] at h; subst h; exact ⟨rfl, rfl⟩
    | none => simp only [Rep] at h; obtain ⟨_, _, a, rfl⟩ := h; exact ⟨rfl, rfl⟩
  | _ => simp only [Rep] at h; subst h; exact ⟨rfl, rfl⟩

theorem rep_cells {x : AV} {v : Value} {cs : List AV} (h : Rep F w x v) (hc : cellsA x = some cs) : ∃ vs, v.cells = ⟨vs⟩ ∧ RepL F w cs vs := by
  by_cases h1 : one x = true
  · have := rep_one h h1
    refine ⟨[v], this.2, ?_⟩
    have : cs = [x] := by
      cases x with
      | p y => cases y <;> simp_all [cellsA, one]
      | _ => simp_all [cellsA, one]
    subst this
    simp only [RepL]
    exact ⟨v, [], rfl, h, rfl⟩
  · cases x with
    | agg ds =>
      simp only [cellsA, Option.some.injEq] at hc
      subst hc
      simp only [Rep] at h
      obtain ⟨vs, rfl, hl⟩ := h
      exact ⟨vs, rfl, hl⟩
    | p y => cases y <;> simp_all [cellsA, one]
    | _ => simp_all [cellsA, one]

theorem repL_one : ∀ {xs : List AV} {vs : List Value}, RepL F w xs vs → xs.all one = true → ∀ v ∈ vs, v.oneCell' = true
  | [], vs, h, _ => by simp only [RepL] at h; subst h; simp
  | x :: xs, vs, h, h1 => by
    simp only [RepL] at h
    obtain ⟨u, us, rfl, h2, h3⟩ := h
    simp only [List.all_cons, Bool.and_eq_true] at h1
    intro v hv
    rcases List.mem_cons.1 hv with rfl | hv
    · exact (rep_one h2 h1.1).1
    · exact repL_one h3 h1.2 v hv

theorem RepL.splice : ∀ {ys xs : List AV} {us vs : List Value} {o : Nat}, RepL F w xs vs → RepL F w ys us → RepL F w (splice xs o ys) (splice vs o us)
  | [], xs, us, vs, o, h, h' => by simp only [RepL] at h'; subst h'; simpa [Abs.splice] using h
  | y :: ys, xs, us, vs, o, h, h' => by
    simp only [RepL] at h'
    obtain ⟨u, us, rfl, h1, h2⟩ := h'
    simp only [Abs.splice]
    exact RepL.splice (h.set h1) h2

theorem push_old (o : Obj) {b : Nat} (h : b < w.heap.size) : (World.push w o).heap[b]? = w.heap[b]? := by
  show (w.heap.push o)[b]? = _
  rw [Array.getElem?_push, if_neg (Nat.ne_of_lt h)]

theorem push_new (o : Obj) : (World.push w o).heap[w.heap.size]? = some o := by
  show (w.heap.push o)[w.heap.size]? = _
  simp

theorem push_stable (o : Obj) (hf : ∀ b, F' b → F b ∨ b = w.heap.size) : Stable F w F' (World.push w o) where
  size := by simp [World.push]
  same b _ hb := push_old o hb
  nf b hF hb hF' := (hf b hF').elim hF fun h => by omega

/-- A new block that is tracked. -/
theorem push_trans (H : List HObj) (x : HObj) (o : Obj) (hx : x.key = some w.heap.size ∨ x.key = none) : Trans F H w (fun b => F b ∨ b = w.heap.size) (x :: H) (World.push w o) where
  size := by simp [World.push]
  same b hb _ := push_old o hb
  keep b h _ := .inl h
  fresh b h := h.imp id fun h => by omega
  keys o' ho b hb := by
    rcases List.mem_cons.1 ho with rfl | ho
    · rcases hx with hx | hx
      · rw [hx] at hb; injection hb with hb; exact .inr (by omega)
      · rw [hx] at hb; cases hb
    · exact .inl ⟨o', ho, hb⟩
  os := rfl
  out := rfl
  tape := rfl

/-- A new block that is not tracked. -/
theorem push_trans' (H : List HObj) (o : Obj) : Trans F H w F H (World.push w o) where
  size := by simp [World.push]
  same b hb _ := push_old o hb
  keep b h _ := h
  fresh b h := .inl h
  keys o' ho b hb := .inl ⟨o', ho, hb⟩
  os := rfl
  out := rfl
  tape := rfl

theorem HRel.stable' {H : List HObj} (h : HRel F H w) (st : Stable F w F' w') (hF : ∀ b, F b → F' b) (hk : ∀ o ∈ H, ∀ b, o.key = some b → w'.heap[b]? = w.heap[b]?) (bd : ∀ b, F' b → b < w'.heap.size) : HRel F' H w' where
  sub o ho b hb := hF b (h.sub o ho b hb)
  nodup := h.nodup
  obj o ho := ORep.mono st o (hk o ho) (h.obj o ho)
  bd := bd

theorem push_HRel {H : List HObj} (h : HRel F H w) (x : HObj) (o : Obj) (hx : x.key = some w.heap.size) (hr : ORep (fun b => F b ∨ b = w.heap.size) (World.push w o) x) :
    HRel (fun b => F b ∨ b = w.heap.size) (x :: H) (World.push w o) where
  sub o' ho b hb := by
    rcases List.mem_cons.1 ho with rfl | ho
    · rw [hx] at hb; injection hb with hb; exact .inr hb.symm
    · exact .inl (h.sub o' ho b hb)
  nodup := by
    rw [List.filterMap_cons, hx]
    refine List.nodup_cons.2 ⟨?_, h.nodup⟩
    intro hm
    obtain ⟨o', ho', hk⟩ := List.mem_filterMap.1 hm
    have := h.bd _ (h.sub o' ho' _ hk)
    omega
  obj o' ho := by
    rcases List.mem_cons.1 ho with rfl | ho
    · exact hr
    · refine ORep.mono (push_stable o fun b h => h) o' ?_ (h.obj o' ho)
      exact fun b hb => push_old o (h.bd b (h.sub o' ho b hb))
  bd b hb := by
    rcases hb with hb | rfl
    · have := h.bd b hb; simp [World.push]; omega
    · simp [World.push]

theorem push_HRel' {H : List HObj} (h : HRel F H w) (o : Obj) : HRel F H (World.push w o) :=
  h.stable' (push_stable o fun b h => .inl h) (fun _ h => h) (fun o' ho b hb => push_old o (h.bd b (h.sub o' ho b hb))) (fun b hb => by have := h.bd b hb; simp [World.push]; omega)

/-- A tracked block is written in place. -/
structure Wrote (b : Nat) (o : Obj) (w w' : World) : Prop where
  heap : w'.heap = w.heap.setIfInBounds b o
  os : w'.os = w.os
  out : w'.output = w.output
  tape : w'.tape = w.tape

theorem Wrote.other {b : Nat} {o : Obj} (h : Wrote b o w w') {c : Nat} (hc : c ≠ b) : w'.heap[c]? = w.heap[c]? := by
  rw [h.heap, Array.getElem?_setIfInBounds_ne (Ne.symm hc)]

theorem Wrote.self {b : Nat} {o : Obj} (h : Wrote b o w w') (hb : b < w.heap.size) : w'.heap[b]? = some o := by
  rw [h.heap]; simp [hb]

theorem Wrote.stable {b : Nat} {o : Obj} (h : Wrote b o w w') (hF : F b) : Stable F w F w' where
  size := by rw [h.heap]; simp
  same c hc _ := h.other fun e => hc (e ▸ hF)
  nf _ h _ := h

theorem mem_set_cases {α : Type} {l : List α} {i : Nat} {a x : α} (h : x ∈ l.set i a) : (x = a) ∨ ∃ j, j ≠ i ∧ l[j]? = some x := by
  obtain ⟨j, hj⟩ := List.mem_iff_getElem?.1 h
  rw [List.getElem?_set] at hj
  split at hj
  · split at hj
    · injection hj with hj; exact .inl hj.symm
    · cases hj
  · rename_i hne
    exact .inr ⟨j, fun e => hne e.symm, hj⟩

theorem filterMap_set_key {H : List HObj} {i : Nat} {x x' : HObj} (hi : H[i]? = some x) (hk : x'.key = x.key) : (H.set i x').filterMap HObj.key = H.filterMap HObj.key := by
  induction H generalizing i with
  | nil => simp at hi
  | cons y H ih =>
    cases i with
    | zero => simp at hi; subst hi; simp [List.filterMap_cons, hk]
    | succ i => simp at hi; simp [List.filterMap_cons, ih hi]

theorem nodup_key {H : List HObj} (h : (H.filterMap HObj.key).Nodup) : ∀ {i j : Nat} {x y : HObj} {b : Nat}, H[i]? = some x → H[j]? = some y → x.key = some b → y.key = some b → i = j := by
  induction H with
  | nil => intro i j x y b hi; simp at hi
  | cons z H ih =>
    intro i j x y b hi hj hx hy
    rw [List.filterMap_cons] at h
    have hz : ∀ c, z.key = some c → ∀ (k : Nat) (u : HObj), H[k]? = some u → u.key ≠ some c := by
      intro c hc k u hu hk
      simp only [hc, List.nodup_cons] at h
      exact h.1 (List.mem_filterMap.2 ⟨u, List.mem_of_getElem? hu, hk⟩)
    have h' : (H.filterMap HObj.key).Nodup := by
      cases hq : z.key with
      | none => simpa [hq] using h
      | some c => simp only [hq, List.nodup_cons] at h; exact h.2
    cases i with
    | zero =>
      simp at hi; subst hi
      cases j with
      | zero => rfl
      | succ j => simp at hj; exact absurd hy (hz b hx j y hj)
    | succ i =>
      cases j with
      | zero => simp at hj; subst hj; simp at hi; exact absurd hx (hz b hy i x hi)
      | succ j => simp at hi hj; rw [ih h' hi hj hx hy]

theorem Wrote.HRel {H : List HObj} {b i : Nat} {x x' : HObj} {o : Obj} (h : Wrote b o w w') (hH : HRel F H w) (hi : H[i]? = some x) (hk : x.key = some b) (hk' : x'.key = some b) (hr : ORep F w' x') : HRel F (H.set i x') w' where
  sub o' ho c hc := by
    rcases mem_set_cases ho with rfl | ⟨j, _, hj⟩
    · rw [hk'] at hc; injection hc with hc; subst hc; exact hH.sub x (List.mem_of_getElem? hi) _ hk
    · exact hH.sub o' (List.mem_of_getElem? hj) c hc
  nodup := by rw [filterMap_set_key hi (by rw [hk, hk'])]; exact hH.nodup
  obj o' ho := by
    rcases mem_set_cases ho with rfl | ⟨j, hne, hj⟩
    · exact hr
    · refine ORep.mono (h.stable (hH.sub x (List.mem_of_getElem? hi) _ hk)) o' ?_ (hH.obj o' (List.mem_of_getElem? hj))
      intro c hc
      refine h.other fun e => ?_
      subst e
      exact hne (nodup_key hH.nodup hj hi hc hk)
  bd c hc := by have := hH.bd c hc; rw [h.heap]; simpa using this

theorem Wrote.trans {H : List HObj} {b i : Nat} {x x' : HObj} {o : Obj} (h : Wrote b o w w') (hi : H[i]? = some x) (hk : x.key = some b) (hk' : x'.key = some b) : Trans F H w F (H.set i x') w' where
  size := by rw [h.heap]; simp
  same c _ hn := h.other fun e => hn x (List.mem_of_getElem? hi) (by rw [hk, e])
  keep _ h _ := h
  fresh _ h := .inl h
  keys o' ho c hc := by
    rcases mem_set_cases ho with rfl | ⟨j, _, hj⟩
    · exact .inl ⟨x, List.mem_of_getElem? hi, by rw [hk, ← hk', hc]⟩
    · exact .inl ⟨o', List.mem_of_getElem? hj, hc⟩
  os := h.os
  out := h.out
  tape := h.tape

theorem setCell_wrote {b o : Nat} {c : Array Value} {T : TypeId} {fz : Nat × Nat} (hb : w.heap[b]? = some (.cells c T fz)) (v : Value) :
    Wrote b (.cells (c.setIfInBounds o v) T fz) w (w.setCell ⟨b, o, none⟩ v) where
  heap := by
    obtain ⟨hlt, hb'⟩ := Array.getElem?_eq_some_iff.1 hb
    simp only [World.setCell]
    apply Array.ext_getElem?
    intro j
    rw [Array.getElem?_modify, Array.getElem?_setIfInBounds]
    by_cases hj : b = j
    · subst hj; simp [hlt, hb']
    · simp [hj]
  os := rfl
  out := rfl
  tape := rfl

theorem setCells_wrote {b : Nat} {T : TypeId} {fz : Nat × Nat} : ∀ (us : List Value) {o : Nat} {vs : List Value} {w : World}, w.heap[b]? = some (.cells ⟨vs⟩ T fz) → us ≠ [] →
    Wrote b (.cells ⟨splice vs o us⟩ T fz) w (w.setCells b o us)
  | [], o, vs, w, _, h => absurd rfl h
  | [u], o, vs, w, hb, _ => by
    have := setCell_wrote (o := o) hb u
    simpa [World.setCells, splice] using this
  | u :: u' :: us, o, vs, w, hb, _ => by
    have h1 := setCell_wrote (o := o) hb u
    have hlt : b < w.heap.size := (Array.getElem?_eq_some_iff.1 hb).1
    have hb1 := h1.self hlt
    have e : (⟨vs⟩ : Array Value).setIfInBounds o u = ⟨vs.set o u⟩ := by apply Array.ext'; simp
    rw [e] at hb1
    have h2 := setCells_wrote (u' :: us) (o := o + 1) hb1 (by simp)
    refine ⟨?_, h2.os, h2.out, h2.tape⟩
    show ((w.setCell ⟨b, o, none⟩ u).setCells b (o + 1) (u' :: us)).heap = _
    rw [h2.heap, h1.heap]
    simp [splice]
end
end Go.Abs
/- The abstract program logic: new boxes, stores, composite literals, slices. -/
namespace Go.Abs
set_option linter.unusedVariables false
set_option linter.unusedSimpArgs false

section
variable {P : Program} {dst : Option Tmp} {ty : TypeId} {pos : String} {aft : Array Edge} {g : Option (Nat × Bool)} {ρ : Operand → AV} {H : List HObj} {x y z : Operand} {v : AV}

/-- A new box. -/
def newBox (cs : List AV) (H : List HObj) : ARes → List HObj → Prop
  | .val v, H' => ∃ b, v = .ptr b 0 ∧ H' = .box b cs :: H
  | .panic _, _ => False

theorem box_turn {F : Nat → Prop} {w : World} {cs : List AV} {vs : List Value} {T : TypeId} (hH : HRel F H w) (hl : RepL F w cs vs) :
    ∃ v H' F', newBox cs H (.val v) H' ∧ Trans F H w F' H' (World.push w (.cells ⟨vs⟩ T (0, 0))) ∧ HRel F' H' (World.push w (.cells ⟨vs⟩ T (0, 0))) ∧ Rep F' (World.push w (.cells ⟨vs⟩ T (0, 0))) v (.pointer (some ⟨w.heap.size, 0, none⟩)) := by
  refine ⟨.ptr w.heap.size 0, _, _, ⟨w.heap.size, rfl, rfl⟩, push_trans H (.box w.heap.size cs) _ (.inl rfl), ?_, by simp [Rep]⟩
  refine push_HRel hH (.box w.heap.size cs) _ rfl ?_
  exact ⟨vs, T, push_new _, RepL.mono (push_stable _ fun b h => h) cs vs hl⟩

theorem aop_box {T : TypeId} {cs : List AV} (hx : cellsA (ρ x) = some cs) : AOpR P ⟨dst, .box T x, ty, pos, aft, g⟩ ρ H (newBox cs H) :=
  aop_turn fun F w E hH hE => by
    have h1 := hE x (by simp [Op.operands])
    obtain ⟨vs, hv, hl⟩ := rep_cells h1 hx
    obtain ⟨v, H', F', h⟩ := box_turn (T := T) hH hl
    refine ⟨_, _, v, H', F', ?_, h⟩
    simp only [execOp, Instr.box, newVar, newRow, newObj, hv, Sem.run_bind, Sem.run, Result.andThen, Sem.run_pure]
    rfl

theorem repL_ofVal {F : Nat → Prop} {w : World} : ∀ (vs : List Value), RepL F w (vs.map ofVal) vs
  | [] => by simp [RepL]
  | v :: vs => by simp only [List.map_cons, RepL]; exact ⟨v, vs, rfl, rep_ofVal v, repL_ofVal vs⟩

theorem aop_alloc {T : TypeId} {z : Value} {cs : List AV} (hT : zeroOf P T = some z) (hc : z.cells.toList.map ofVal = cs) : AOpR P ⟨dst, .alloc T, ty, pos, aft, g⟩ ρ H (newBox cs H) :=
  aop_turn fun F w E hH hE => by
    have hl : RepL F w cs z.cells.toList := by subst hc; exact repL_ofVal _
    obtain ⟨v, H', F', h⟩ := box_turn (T := T) hH hl
    refine ⟨_, _, v, H', F', ?_, h⟩
    unfold zeroOf at hT
    cases hi : P.info? T with
    | none => simp [hi] at hT
    | some i =>
      have hz : i.zero = some z := by simpa [hi] using hT
      have hzv : (zeroValue T).run P w = .ok z w := by simp [zeroValue, typeInfo, hi, hz, Sem.run_bind]
      simp only [execOp, Instr.alloc, newVar, newRow, newObj, hzv, Sem.run_bind, Sem.run, Result.andThen, Sem.run_pure]
      rfl

theorem there_of {w : World} {b : Nat} {vs : List Value} {T : TypeId} (h : w.heap[b]? = some (.cells ⟨vs⟩ T (0, 0))) {o n : Nat} (hn : o + n ≤ vs.length) : w.there b o n := by
  intro j hj
  have : o + j < vs.length := by omega
  refine ⟨by simp [World.cell?, h, List.getElem?_eq_getElem this], by simp [World.frozen?, h]⟩

theorem run_storeVar_of {w : World} {b o n : Nat} {vs : List Value} {T T' : TypeId} {v : Value} {us : List Value} {bl : Bool} (hT : tyOf P T = some (bl, n)) (hb : w.heap[b]? = some (.cells ⟨vs⟩ T' (0, 0)))
    (hc : v.cells = ⟨us⟩) (hn : us.length = n) (ho : o + n ≤ vs.length) (h1 : ∀ v ∈ us, v.oneCell' = true) : (storeVar T ⟨b, o, none⟩ v).run P w = .ok () (w.setCells b o us) := by
  obtain ⟨d, hu, hd, hz⟩ := tyOf_spec hT
  have ht := there_of hb (o := o) (n := n) ho
  have := run_storeCells_cells (P := P) b o us 0 w (fun j hj => by simpa using (ht j (by omega)).1) (fun j hj => by simpa using (ht j (by omega)).2) h1
  simp only [Nat.add_zero] at this
  cases hq : P.info? T with
  | none => simp [hq] at hz
  | some i =>
    have hs : us.length = i.size := by simp [hq] at hz; omega
    simp [storeVar, sizeOf, typeInfo, hq, hc, hs, this]

/-- A store into a tracked box. -/
theorem aop_store_box {T : TypeId} {bl : Bool} {n b o i : Nat} {cs us : List AV} (hT : tyOf P T = some (bl, n + 1)) (hx : ρ x = .ptr b o) (hi : H[i]? = some (.box b cs)) (hy : cellsA (ρ y) = some us) (hn : us.length = n + 1)
    (ho : Nat.ble (o + (n + 1)) cs.length = true) (h1 : us.all one = true) : AOp P ⟨dst, .store T x y, ty, pos, aft, g⟩ ρ H (.p .any) (H.set i (.box b (splice cs o us))) :=
  aop_turn_skip fun F w E hH hE => by
    have e1 := hE x (by simp [Op.operands])
    have e2 := hE y (by simp [Op.operands])
    rw [hx] at e1
    simp only [Rep] at e1
    obtain ⟨vs, T', hb, hl⟩ := hH.obj _ (List.mem_of_getElem? hi)
    obtain ⟨ws, hc, hl'⟩ := rep_cells e2 hy
    have hlen := hl'.length
    have hw : Wrote b (.cells ⟨splice vs o ws⟩ T' (0, 0)) w (w.setCells b o ws) := setCells_wrote ws hb (by intro e; rw [e] at hlen; simp at hlen; omega)
    have hlt : b < w.heap.size := (Array.getElem?_eq_some_iff.1 hb).1
    have hF : F b := hH.sub _ (List.mem_of_getElem? hi) b rfl
    refine ⟨w.setCells b o ws, _, F, ?_, ⟨rfl, rfl⟩, hw.trans hi rfl rfl, hw.HRel hH hi rfl rfl ?_⟩
    · have hst := run_storeVar_of (T := T) (v := E y) (o := o) hT hb hc (by omega) (by rw [hl.length]; simpa [Nat.ble_eq] using ho) (repL_one hl' h1)
      simp only [execOp, Instr.storeAt, e1, Instr.sureAddr, Sem.run_bind, Sem.run_pure, Result.andThen_ok, hst]
    · exact ⟨splice vs o ws, T', hw.self hlt, RepL.splice (RepL.mono (hw.stable hF) _ _ hl) (RepL.mono (hw.stable hF) _ _ hl')⟩

/-  Composite literals -/
def fillA (place : Nat → Option (Nat × Nat)) (cells : List AV) : List (Nat × AV) → Option (List AV)
  | [] => some cells
  | (i, v) :: rest =>
    match place i, cellsA v with
    | some (off, size), some cs => if cs.length = size ∧ off + cs.length ≤ cells.length then fillA place (splice cells off cs) rest else none
    | _, _ => none

theorem splice_foldl : ∀ (us : List Value) (vs : List Value) (off k : Nat), ((us.zipIdx k).foldl (fun (cs : Array Value) (c, j) => cs.setIfInBounds (off + j) c) ⟨vs⟩ : Array Value) = ⟨splice vs (off + k) us⟩
  | [], vs, off, k => by simp [splice]
  | u :: us, vs, off, k => by
    simp only [List.zipIdx_cons, List.foldl_cons]
    have e : (⟨vs⟩ : Array Value).setIfInBounds (off + k) u = ⟨vs.set (off + k) u⟩ := by apply Array.ext'; simp
    rw [e, splice_foldl us _ off (k + 1)]
    simp [splice, Nat.add_assoc]

theorem splice_length {α : Type} : ∀ (us vs : List α) (o : Nat), (splice vs o us).length = vs.length
  | [], vs, o => rfl
  | u :: us, vs, o => by simp [splice, splice_length us]

theorem fillA_spec {F : Nat → Prop} {w : World} {place : Nat → Option (Nat × Nat)} : ∀ (parts : List (Nat × AV)) (vals : List (Nat × Value)) (cells : List AV) (vs : List Value) (r : List AV),
    parts.length = vals.length → (∀ (j : Nat) p q, parts[j]? = some p → vals[j]? = some q → p.1 = q.1 ∧ Rep F w p.2 q.2) → RepL F w cells vs → fillA place cells parts = some r →
    ∃ us : List Value, Instr.fill place ⟨vs⟩ vals = some ⟨us⟩ ∧ RepL F w r us
  | [], [], cells, vs, r, _, _, hl, h => by
    simp only [fillA, Option.some.injEq] at h
    subst h
    exact ⟨vs, rfl, hl⟩
  | (i, x) :: parts, (i', v) :: vals, cells, vs, r, hlen, hp, hl, h => by
    obtain ⟨rfl, hx⟩ := hp 0 (i, x) (i', v) rfl rfl
    simp only [fillA] at h
    simp only [Instr.fill]
    cases hpl : place i with
    | none => simp [hpl] at h
    | some os =>
      obtain ⟨off, size⟩ := os
      cases hcs : cellsA x with
      | none => simp [hpl, hcs] at h
      | some cs =>
        simp only [hpl, hcs] at h
        split at h
        · rename_i hc
          obtain ⟨us, hv, hus⟩ := rep_cells hx hcs
          have hl1 := hus.length
          have hl2 := hl.length
          rw [hv]
          have : ((!decide ((⟨us⟩ : Array Value).size = size)) || decide (off + (⟨us⟩ : Array Value).size > (⟨vs⟩ : Array Value).size)) = false := by
            simp
            omega
          have e1 : (us.zipIdx.foldl (fun (cs : Array Value) (c, j) => cs.setIfInBounds (off + j) c) ⟨vs⟩ : Array Value) = ⟨splice vs off us⟩ := by
            have := splice_foldl us vs off 0
            simpa using this
          have e2 : ((⟨us⟩ : Array Value).zipIdx.foldl (fun cs (c, j) => cs.setIfInBounds (off + j) c) ⟨vs⟩ : Array Value) = ⟨splice vs off us⟩ := by
            rw [← e1]
            simp [← Array.foldl_toList]
          have := fillA_spec parts vals (splice cells off cs) (splice vs off us) r (by simpa using hlen) (fun j p q h1 h2 => hp (j + 1) p q (by simpa using h1) (by simpa using h2)) (RepL.splice hl hus) h
          obtain ⟨ws, h1, h2⟩ := this
          refine ⟨ws, ?_, h2⟩
          simp only [ne_eq, decide_not]
          rw [if_neg (by simp at this ⊢; omega)]
          rw [e2]
          exact h1
        · cases h
  | [], _ :: _, _, _, _, h, _, _, _ => by simp at h
  | _ :: _, [], _, _, _, h, _, _, _ => by simp at h

theorem run_mapM_fields {w : World} : ∀ (fs : List Field) (lay : List (Nat × Nat)), (fs.mapM fun f => (P.info? f.type).map fun i => (f.offset, i.size)) = some lay →
    (fs.mapM fun f => do pure (f.offset, ← sizeOf f.type) : Sem (List (Nat × Nat))).run P w = .ok lay w
  | [], lay, h => by simp at h; subst h; rfl
  | f :: fs, lay, h => by
    rw [List.mapM_cons] at h
    cases hx : P.info? f.type with
    | none => simp [hx] at h
    | some i =>
      cases hl : (fs.mapM fun f => (P.info? f.type).map fun i => (f.offset, i.size)) with
      | none => simp [hx, hl] at h
      | some r =>
        simp [hx, hl] at h
        subst h
        rw [List.mapM_cons]
        have hs : (sizeOf f.type).run P w = .ok i.size w := by simp [sizeOf, typeInfo, hx]
        simp only [Sem.run_bind, hs, Result.andThen_ok, Sem.run_pure, run_mapM_fields fs r hl]

/-- A struct's literal. -/
theorem aop_build {T : TypeId} {parts : Array (Nat × Operand)} {lay : List (Nat × Nat)} {z : Value} {cs : List AV} (hT : fieldsOf P T = some lay) (hz : zeroOf P T = some z)
    (hc : fillA (lay[·]?) (z.cells.toList.map ofVal) (parts.toList.map fun p => (p.1, ρ p.2)) = some cs) : AOp P ⟨dst, .build T parts, ty, pos, aft, g⟩ ρ H (.agg cs) H :=
  aop_pure fun F w E hH hE => by
    unfold fieldsOf at hT
    unfold zeroOf at hz
    cases hu : P.underlying T with
    | none => simp [hu] at hT
    | some d =>
      cases d with
      | struct fs =>
        simp only [hu] at hT
        cases hi : P.info? T with
        | none => simp [hi] at hz
        | some i =>
          have hz' : i.zero = some z := by simpa [hi] using hz
          have hzv : (zeroValue T).run P w = .ok z w := by simp [zeroValue, typeInfo, hi, hz', Sem.run_bind]
          obtain ⟨us, hf, hr⟩ := fillA_spec (F := F) (w := w) (place := (lay[·]?)) _ (parts.toList.map fun p => (p.1, E p.2)) _ z.cells.toList _ (by simp) (by
            intro j p q h1 h2
            simp only [List.getElem?_map] at h1 h2
            cases hj : parts.toList[j]? with
            | none => simp [hj] at h1
            | some t =>
              simp [hj] at h1 h2
              subst h1; subst h2
              exact ⟨rfl, hE _ (by
                have := List.mem_of_getElem? hj
                simp only [Op.operands]
                exact List.mem_map.2 ⟨t, this, rfl⟩)⟩) (repL_ofVal _) hc
          refine ⟨.agg ⟨us⟩, ?_, by simp only [Rep]; exact ⟨us, rfl, hr⟩⟩
          have hm : (fs.mapM fun f => do pure (f.offset, ← sizeOf f.type) : Sem (Array (Nat × Nat))).run P w = .ok ⟨lay⟩ w := by
            rw [Array.mapM_eq_mapM_toList]
            simp only [map_eq_pure_bind, Sem.run_bind, run_mapM_fields _ _ hT, Result.andThen_ok, Sem.run_pure]
          have ha : ∀ i : Nat, (⟨lay⟩ : Array (Nat × Nat))[i]? = lay[i]? := fun i => by simp
          simp only [execOp, Instr.build, Sem.run_bind, hzv, Result.andThen_ok, run_underlying hu, hm, ha]
          have hf' : Instr.fill (fun x => lay[x]?) z.cells (parts.toList.map fun p => (p.1, E p.2)) = some ⟨us⟩ := hf
          simp [hf']
      | _ => simp [hu] at hT

/-  Slices -/
def pures : List AV → Option (List PV)
  | [] => some []
  | .p c :: r => (pures r).map (c :: ·)
  | _ :: _ => none

theorem pures_spec : ∀ {cs : List AV} {ps : List PV}, pures cs = some ps → cs = ps.map .p
  | [], ps, h => by simp [pures] at h; subst h; rfl
  | .p c :: r, ps, h => by
    simp only [pures, Option.map_eq_some_iff] at h
    obtain ⟨ps', h1, rfl⟩ := h
    simp [pures_spec h1]
  | .ptr _ _ :: _, ps, h => by simp [pures] at h
  | .nilp :: _, ps, h => by simp [pures] at h
  | .ref _ :: _, ps, h => by simp [pures] at h
  | .vs _ _ _ :: _, ps, h => by simp [pures] at h
  | .map _ :: _, ps, h => by simp [pures] at h
  | .fn _ _ _ :: _, ps, h => by simp [pures] at h
  | .agg _ :: _, ps, h => by simp [pures] at h
  | .tup _ :: _, ps, h => by simp [pures] at h

theorem cellsRep_of {F : Nat → Prop} {w : World} {b : Nat} : ∀ {cs : List PV} {vs : List Value} {o : Nat}, w.rangeAt b o vs → RepL F w (cs.map .p) vs → CellsRep F w b o cs
  | [], vs, o, _, _ => by simp [CellsRep]
  | c :: cs, vs, o, h, hl => by
    simp only [List.map_cons, RepL, Rep] at hl
    obtain ⟨u, us, rfl, h1, h2⟩ := hl
    simp only [CellsRep]
    refine ⟨⟨u, by simpa using h 0 u rfl, h1⟩, cellsRep_of ?_ h2⟩
    intro j v hv
    have := h (j + 1) v (by simpa using hv)
    rwa [Nat.add_assoc, Nat.add_comm 1 j]

theorem rowsRep_of {F : Nat → Prop} {w : World} {b sz : Nat} : ∀ {rows : List (List PV)} {vs : List Value} {o : Nat}, (∀ r ∈ rows, r.length = sz) → w.rangeAt b o vs → RepL F w (rows.flatten.map .p) vs → RowsRep F w b sz o rows
  | [], vs, o, _, _, _ => by simp [RowsRep]
  | r :: rows, vs, o, hr, h, hl => by
    simp only [RowsRep]
    have hlen := hr r (by simp)
    have e : (r :: rows).flatten.map AV.p = r.map .p ++ rows.flatten.map .p := by simp
    rw [e] at hl
    have h1 := hl.take r.length
    have h2 := hl.drop r.length
    rw [List.take_left' (by simp)] at h1
    rw [List.drop_left' (by simp)] at h2
    refine ⟨hlen, cellsRep_of (vs := vs.take r.length) ?_ h1, rowsRep_of (vs := vs.drop r.length) (fun r' hr' => hr r' (by simp [hr'])) ?_ h2⟩
    · intro j v hv
      rcases Nat.lt_or_ge j r.length with hj | hj
      · rw [List.getElem?_take_of_lt hj] at hv; exact h j v hv
      · rw [List.getElem?_take_eq_none hj] at hv; cases hv
    · intro j v hv
      rw [List.getElem?_drop] at hv
      have := h (r.length + j) v hv
      rwa [← Nat.add_assoc, hlen] at this

/-- The cells of a new slice: from the parts of its literal. -/
def chunks {α : Type} (sz : Nat) : Nat → List α → List (List α)
  | 0, _ => []
  | n + 1, l => l.take sz :: chunks sz n (l.drop sz)

theorem chunks_spec {α : Type} {sz : Nat} : ∀ {n : Nat} {l : List α}, l.length = n * sz → (chunks sz n l).flatten = l ∧ (∀ r ∈ chunks sz n l, r.length = sz) ∧ (chunks sz n l).length = n
  | 0, l, h => by
    have : l = [] := by simpa using h
    subst this
    simp [chunks]
  | n + 1, l, h => by
    rw [Nat.succ_mul] at h
    have := chunks_spec (sz := sz) (n := n) (l := l.drop sz) (by simp; omega)
    obtain ⟨h1, h2, h3⟩ := this
    refine ⟨by simp [chunks, h1], ?_, by simp [chunks, h3]⟩
    intro r hr
    simp only [chunks, List.mem_cons] at hr
    rcases hr with rfl | hr
    · simp; omega
    · exact h2 r hr

/-- A new array that nobody will write: a pure slice. -/
theorem push_lst {F : Nat → Prop} {w : World} {sz : Nat} {rows : List (List PV)} {vs : List Value} {T : TypeId} {c : Nat} (hbd : ∀ b, F b → b < w.heap.size) (hr : ∀ r ∈ rows, r.length = sz) (hl : RepL F w (rows.flatten.map .p) (vs.take (rows.flatten.length)))
    (hc : rows.length ≤ c) : Rep F (World.push w (.cells ⟨vs⟩ T (0, 0))) (.p (.lst rows)) (.slice (some ⟨w.heap.size, 0, none⟩) rows.length c) := by
  simp only [Rep, PRep]
  right
  refine ⟨w.heap.size, 0, c, sz, rfl, ?_, by simp [World.push], hc, ?_⟩
  · intro h
    have := hbd _ h
    omega
  · refine rowsRep_of (vs := vs.take (rows.flatten.length)) hr ?_ (RepL.mono (push_stable _ fun b h => .inl h) _ _ hl)
    have := rangeAt_box (push_new (w := w) (.cells ⟨vs⟩ T (0, 0))) 0 rows.flatten.length
    simpa using this

theorem range_mod_zero (zs : List Value) (n : Nat) : ((Array.range (n * zs.length)).map fun i => (⟨zs⟩ : Array Value)[i % (⟨zs⟩ : Array Value).size]!).toList = (List.replicate n zs).flatten := by
  induction n with
  | zero => simp
  | succ n ih =>
    rw [Nat.succ_mul, List.replicate_succ', List.flatten_append]
    simp only [Array.toList_map, Array.toList_range] at ih ⊢
    rw [List.range_add, List.map_append, ih]
    congr 1
    simp only [List.map_map, List.flatten_cons, List.flatten_nil, List.append_nil]
    apply List.ext_getElem
    · simp
    · intro i h1 h2
      simp at h1 h2
      simp [Nat.mod_eq_of_lt h1, Nat.add_mod, h1]

theorem repL_replicate {F : Nat → Prop} {w : World} {xs : List AV} {vs : List Value} (h : RepL F w xs vs) : ∀ n, RepL F w (List.replicate n xs).flatten (List.replicate n vs).flatten
  | 0 => by simp [RepL]
  | n + 1 => by
    simp only [List.replicate_succ, List.flatten_cons]
    exact h.append (repL_replicate h n)

/-- A slice's literal. -/
theorem aop_buildSlice {T e : TypeId} {len sz bytes : Nat} {parts : Array (Nat × Operand)} {z : Value} {cs : List AV} {ps : List PV} {rows : List (List PV)} (hT : elOf P T = some (e, sz, bytes)) (hz : zeroOf P e = some z) (hsz : z.cells.size = sz) (hpos : (Nat.blt 0 sz && Nat.ble (len * sz) 16777216) = true)
    (hc : fillA (fun i => some (i * sz, sz)) (List.replicate len (z.cells.toList.map ofVal)).flatten (parts.toList.map fun p => (p.1, norm (ρ p.2))) = some cs) (hp : pures cs = some ps) (hr : chunks sz len ps = rows) :
    AOp P ⟨dst, .buildSlice T len parts, ty, pos, aft, g⟩ ρ H (.p (.lst rows)) H :=
  aop_turn fun F w E hH hE => by
    obtain ⟨hu, i, hi, hs, hby⟩ := elOf_spec hT
    simp only [Bool.and_eq_true, Nat.blt_eq, Nat.ble_eq] at hpos
    unfold zeroOf at hz
    have hz' : ∃ j, P.info? e = some j ∧ j.zero = some z := by
      cases hq : P.info? e with
      | none => simp [hq] at hz
      | some j => exact ⟨j, rfl, by simpa [hq] using hz⟩
    obtain ⟨j, hj, hz'⟩ := hz'
    have hzv : (zeroValue e).run P w = .ok z w := by simp [zeroValue, typeInfo, hj, hz', Sem.run_bind]
    have hzl : RepL F w (List.replicate len (z.cells.toList.map ofVal)).flatten (List.replicate len z.cells.toList).flatten := repL_replicate (repL_ofVal _) len
    obtain ⟨us, hf, hrep⟩ := fillA_spec (F := F) (w := w) (place := fun i => some (i * sz, sz)) _ (parts.toList.map fun p => (p.1, E p.2)) _ _ _ (by simp) (by
      intro j p q h1 h2
      simp only [List.getElem?_map] at h1 h2
      cases hj : parts.toList[j]? with
      | none => simp [hj] at h1
      | some t =>
        simp [hj] at h1 h2
        subst h1; subst h2
        exact ⟨rfl, (hE _ (by
          have := List.mem_of_getElem? hj
          simp only [Op.operands]
          exact List.mem_map.2 ⟨t, this, rfl⟩)).norm⟩) hzl hc
    have hcs := pures_spec hp
    have hlen : ps.length = len * sz := by
      have h1 : cs.length = ((List.replicate len (z.cells.toList.map ofVal)).flatten).length := by
        clear hrep hp hcs hzl hf
        generalize (List.replicate len (z.cells.toList.map ofVal)).flatten = l at hc
        generalize (parts.toList.map fun p => (p.1, norm (ρ p.2))) = q at hc
        induction q generalizing l with
        | nil => simp [fillA] at hc; rw [hc]
        | cons a q ih =>
          obtain ⟨i, x⟩ := a
          simp only [fillA] at hc
          cases hx : cellsA x with
          | none => simp [hx] at hc
          | some c2 =>
            simp only [hx] at hc
            split at hc
            · rw [ih _ hc, splice_length]
            · cases hc
      rw [hcs] at h1
      simp only [List.length_map, List.length_flatten, List.map_replicate, List.sum_replicate_nat, Array.length_toList, hsz] at h1
      exact h1
    obtain ⟨c1, c2, c3⟩ := chunks_spec hlen
    rw [hr] at c1 c2 c3
    have hul : us.length = ps.length := by rw [hrep.length, hcs]; simp
    refine ⟨_, _, .p (.lst rows), H, F, ?_, ⟨rfl, rfl⟩, push_trans' H (.cells ⟨us⟩ e (0, 0)), push_HRel' hH _, push_lst (c := len) hH.bd c2 (by rw [c1, ← hul, List.take_length]; rw [hcs] at hrep; exact hrep) (by omega)⟩
    have hszr : (sizeOf e).run P w = .ok sz w := by simp [sizeOf, typeInfo, hi, hs]
    have hzc : z.cells = ⟨z.cells.toList⟩ := rfl
    have hrm := range_mod_zero z.cells.toList len
    have hsz2 : z.cells.toList.length = sz := by simpa using hsz
    rw [hsz2] at hrm
    have harr : ((Array.range (len * sz)).map fun i => z.cells[i % z.cells.size]!) = ⟨(List.replicate len z.cells.toList).flatten⟩ := by
      apply Array.ext'
      exact hrm
    simp only [execOp, Instr.buildSlice, Sem.run_bind, run_underlying hu, Result.andThen_ok, hszr]
    rw [if_neg (by omega)]
    simp only [Sem.run_pure, Result.andThen_ok, Sem.run_bind, pure_bind]
    have hf' : Instr.fill (fun i => some (i * sz, sz)) ⟨(List.replicate len z.cells.toList).flatten⟩ (parts.map fun p => (p.1, E p.2)).toList = some ⟨us⟩ := by
      rw [← hf]; simp
    by_cases h00 : len * sz = 0
    · have hl0 : len = 0 := by
        rcases Nat.mul_eq_zero.1 h00 with h | h
        · exact h
        · omega
      subst hl0
      simp only [Nat.zero_mul, if_true]
      simp only [List.replicate_zero, List.flatten_nil] at hf'
      have e0 : (Array.map (fun x => (#[] : Array Value)[x % (#[] : Array Value).size]!) (Array.range 0)) = (⟨[]⟩ : Array Value) := by simp
      rw [e0, hf']
      simp only [newRow, newObj, Sem.run_bind, Sem.run, Result.andThen, Sem.run_pure]
      rw [c3]
      rfl
    · rw [if_neg h00]
      simp only [Sem.run_bind, hzv, Result.andThen_ok]
      rw [harr, hf']
      simp only [newRow, newObj, Sem.run_bind, Sem.run, Result.andThen, Sem.run_pure]
      rw [c3]
      rfl
end
end Go.Abs
/- The abstract program logic: steps with new boxes; calls as steps; split heaps. -/
namespace Go.Abs
set_option linter.unusedVariables false
set_option linter.unusedSimpArgs false

section
variable {P : Program} {r : Option Nat} {ops : Array Oper} {Q : AExit → AState → Prop} {k : Nat} {n : Nat} {τ : Nat → AV} {H H' : List HObj} {D : List ADef} {dst : Option Tmp} {op : Op} {ty : TypeId} {pos : String} {aft : Array Edge} {g : Option (Nat × Bool)} {v : AV}

theorem al_new {cs : List AV} (ho : ops[k]? = some ⟨dst, op, ty, pos, aft, none⟩) (hd : dstB dst n = true) (h : AOpR P ⟨dst, op, ty, pos, aft, none⟩ (ev τ) H (newBox cs H))
    (next : ∀ b, AL P r ops (k + 1) ⟨n, put τ dst (.ptr b 0), .box b cs :: H, D⟩ Q) : AL P r ops k ⟨n, τ, H, D⟩ Q :=
  al_stepR (S := ⟨n, τ, H, D⟩) ho (by simp [Wants]) (dst_ok hd) h (fun v H' ⟨b, h1, h2⟩ => by subst h1; subst h2; exact next b) (fun _ _ h => h.elim)

/-- What a pure call comes to. -/
def retV (v : AV) : ARes → List HObj → Prop
  | .val v', H' => v' = v ∧ H' = []
  | .panic _, _ => False

/-- A pure function: its arguments alone decide. -/
abbrev Fun (P : Program) (f : FuncId) (args : List AV) (v : AV) : Prop := ACalls P f args [] (retV v)

/-- A call of a pure function. -/
theorem aop_fun_of {c : Call} {f : Operand} {fid : FuncId} {ρ : Operand → AV} {A : List AV} (hc : c.callee = .value f) (hf : ρ f = .p (.fn fid)) (h : Fun P fid A v) (hA : c.args.toList.map ρ = A ∨ (c.args.toList.map ρ).map norm = A) :
    AOp P ⟨dst, .call c, ty, pos, aft, g⟩ ρ H v H := by
  refine (aop_call (H := H) (Hs := []) (Hf := H) (first := []) (caps := []) hc (.inl ⟨hf, rfl, rfl⟩) (A := A) (by simp) h (by simpa using hA)).mono ?_
  rintro r H' ⟨Hs', h1, rfl⟩
  cases r with
  | val v' => obtain ⟨rfl, rfl⟩ := h1; exact ⟨rfl, rfl⟩
  | panic v' => exact h1
theorem aop_fun {c : Call} {f : Operand} {fid : FuncId} {ρ : Operand → AV} {A : List AV} (hc : c.callee = .value f) (hf : ρ f = .p (.fn fid)) (h : Fun P fid A v) (hA : c.args.toList.map ρ = A) :
    AOp P ⟨dst, .call c, ty, pos, aft, g⟩ ρ H v H := aop_fun_of hc hf h (.inl hA)
/-- A call, with what it leaves. -/
theorem al_call {c : Call} {f : Operand} {fid : FuncId} {first caps : List AV} {Hs Hf : List HObj} {A : List AV} {R : ARes → List HObj → Prop}
    (ho : ops[k]? = some ⟨dst, .call c, ty, pos, aft, none⟩) (hd : dstB dst n = true)
    (hc : c.callee = .value f) (hf : (ev τ f = .p (.fn fid) ∧ first = [] ∧ caps = []) ∨ ev τ f = .fn (.func fid) first caps) (hp : H.Perm (Hs ++ Hf)) (h : ACalls P fid A Hs R) (hA : first ++ c.args.toList.map (ev τ) ++ caps = A ∨ (first ++ c.args.toList.map (ev τ) ++ caps).map norm = A)
    (next : ∀ v H', R (.val v) H' → AL P r ops (k + 1) ⟨n, put τ dst v, H' ++ Hf, D⟩ Q) (pan : ∀ v H', R (.panic v) H' → Q (.panic v) ⟨n, τ, H' ++ Hf, D⟩) : AL P r ops k ⟨n, τ, H, D⟩ Q :=
  al_stepR (S := ⟨n, τ, H, D⟩) ho (by simp [Wants]) (dst_ok hd) (aop_call hc hf hp h hA) (fun v H' ⟨Hs', h1, h2⟩ => by subst h2; exact next v Hs' h1) (fun v H' ⟨Hs', h1, h2⟩ => by subst h2; exact pan v Hs' h1)
end

section
variable {P : Program} {dst : Option Tmp} {ty : TypeId} {pos : String} {aft : Array Edge} {g : Option (Nat × Bool)} {ρ : Operand → AV} {H : List HObj} {x y z : Operand} {v : AV}
theorem aop_add {m n : Int} {T U : TypeId} (hx : ρ x = .p (.int .i64 m)) (hy : ρ y = .p (.int .i64 n)) (h1 : -9223372036854775808 ≤ m + n) (h2 : m + n ≤ 9223372036854775807) :
    AOp P ⟨dst, .binOp .add T x y U, ty, pos, aft, g⟩ ρ H (.p (.int .i64 (m + n))) H := aop_arith hx hy rfl h1 h2
theorem aop_sub {m n : Int} {T U : TypeId} (hx : ρ x = .p (.int .i64 m)) (hy : ρ y = .p (.int .i64 n)) (h1 : -9223372036854775808 ≤ m - n) (h2 : m - n ≤ 9223372036854775807) :
    AOp P ⟨dst, .binOp .sub T x y U, ty, pos, aft, g⟩ ρ H (.p (.int .i64 (m - n))) H := aop_arith hx hy rfl h1 h2
end

section
variable {P : Program} {r : Option Nat} {ops : Array Oper} {Q : AExit → AState → Prop} {n : Nat} {τ : Nat → AV} {H : List HObj} {D : List ADef}
def Same (τ' τ : Nat → AV) : List Nat → Prop
  | [] => True
  | t :: r => τ' t = τ t ∧ Same τ' τ r

theorem same_agrees {τ' τ : Nat → AV} : ∀ {l : List Nat}, Same τ' τ l → Agrees τ' (l.map fun t => (t, τ t))
  | [], _ => trivial
  | t :: r, h => ⟨h.1, same_agrees h.2⟩

end

/-- One slot, one pure result. -/
theorem res_tmp {P : Program} {S : AState} {t : Nat} {v : AV} (h : S.τ t = v) : ResL P S [.tmp t] [v] := ⟨v, [], rfl, h, rfl⟩
end Go.Abs
/- Terms as plain data, and how they lie in memory. -/
namespace Go.Eu
open Go.Abs
structure LVar where
  index : Int
  plus : Int
  deriving DecidableEq, Inhabited
structure Lvl where
  const : Int
  vars : List LVar
  deriving DecidableEq, Inhabited
inductive Tm where
  | mk (kind index : Int) (name : ByteArray) (levels : List Lvl) (kids : List Tm)
  deriving Inhabited
def Tm.kind : Tm → Int | .mk k _ _ _ _ => k
def Tm.index : Tm → Int | .mk _ i _ _ _ => i
def Tm.name : Tm → ByteArray | .mk _ _ n _ _ => n
def Tm.levels : Tm → List Lvl | .mk _ _ _ l _ => l
def Tm.kids : Tm → List Tm | .mk _ _ _ _ k => k

abbrev I (n : Int) : PV := .int .i64 n
def encV (v : LVar) : List PV := [I v.index, I v.plus]
def encL (l : Lvl) : List PV := [I l.const, .lst (l.vars.map encV)]
mutual
def encT : Tm → List PV
  | .mk k i n l ks => [I k, I i, .str n, .lst (l.map encL), .lst (encTs ks)]
def encTs : List Tm → List (List PV)
  | [] => []
  | t :: ts => encT t :: encTs ts
end
theorem encTs_map : ∀ ts : List Tm, encTs ts = ts.map encT
  | [] => rfl
  | t :: ts => by simp [encTs, encTs_map ts]
theorem encT_len (t : Tm) : (encT t).length = 5 := by cases t; rfl
theorem encTs_len (ts : List Tm) : (encTs ts).length = ts.length := by simp [encTs_map]
theorem encTs_get {ts : List Tm} {i : Nat} {t : Tm} (h : ts[i]? = some t) : (encTs ts)[i]? = some (encT t) := by simp [encTs_map, h]
theorem encL_len (l : Lvl) : (encL l).length = 2 := rfl
theorem pI {a b : Int} (h : a = b) : AV.p (I a) = .p (I b) := by rw [h]
theorem pB {a b : Bool} (h : a = b) : AV.p (.bool a) = .p (.bool b) := by rw [h]
abbrev TV (t : Tm) : AV := .agg ((encT t).map .p)

mutual
def size : Tm → Nat
  | .mk _ _ _ _ ks => 1 + sizes ks
def sizes : List Tm → Nat
  | [] => 0
  | t :: ts => size t + sizes ts
end
theorem sizes_take {ts : List Tm} {i : Nat} {t : Tm} (h : ts[i]? = some t) : sizes (ts.take (i + 1)) = sizes (ts.take i) + size t := by
  induction ts generalizing i with
  | nil => simp at h
  | cons a ts ih =>
    cases i with
    | zero => simp at h; subst h; simp [sizes]
    | succ i => simp at h; simp only [List.take_succ_cons, sizes, ih h]; omega
theorem sizes_le {ts : List Tm} (i : Nat) : sizes (ts.take i) ≤ sizes ts := by
  induction ts generalizing i with
  | nil => simp [sizes]
  | cons a ts ih =>
    cases i with
    | zero => simp [sizes]
    | succ i => simp only [List.take_succ_cons, sizes]; have := ih i; omega
theorem size_pos (t : Tm) : 1 ≤ size t := by cases t; simp [size]
theorem len_le_sizes : ∀ (ts : List Tm), ts.length ≤ sizes ts
  | [] => by simp
  | t :: ts => by have := len_le_sizes ts; have := size_pos t; simp only [List.length_cons, sizes]; omega
theorem size_mem {ts : List Tm} {i : Nat} {t : Tm} (h : ts[i]? = some t) : size t ≤ sizes ts := by
  have := sizes_take h
  have := sizes_le (ts := ts) (i + 1)
  omega
end Go.Eu
/- The abstract program logic: a region that draws its order. -/
namespace Go.Abs
set_option linter.unusedVariables false
set_option linter.unusedSimpArgs false

inductive Sp where
  | skip
  | free (v : AV)
  | read (ob : HObj) (v : AV)
  | eff (v : AV) (H' : List HObj)

def Sp.val : Sp → AV
  | .skip => .tup []
  | .free v | .read _ v | .eff v _ => v
def Sp.isEff : Sp → Bool
  | .eff .. => true
  | _ => false

def bindOn (o : Oper) : List Nat := (o.after.toList.filter (Region.binds .any)).map (·.on)

/-- Operation j must come before operation i. -/
inductive Pred (ops : Array Oper) : Nat → Nat → Prop where
  | base {j i : Nat} {o : Oper} (ho : ops[i]? = some o) (hj : j ∈ bindOn o) : Pred ops j i
  | trans {j k i : Nat} : Pred ops j k → Pred ops k i → Pred ops j i

def looks (ops : Array Oper) (o : Oper) : List Tmp := o.looksAt ops

def τS (ops : Array Oper) (sp : List Sp) (τ₀ : Nat → AV) : Nat → Nat → AV
  | 0 => τ₀
  | k + 1 => put (τS ops sp τ₀ k) ((ops[k]?).bind (·.dst)) ((sp.getD k .skip).val)

def HAt (sp : List Sp) (H₀ : List HObj) : Nat → List HObj
  | 0 => H₀
  | k + 1 => match sp.getD k .skip with
    | .eff _ H' => H'
    | _ => HAt sp H₀ k

/-- The operation k, in the order of the text. -/
def OpOk (P : Program) (ops : Array Oper) (o : Oper) (τ : Nat → AV) (H : List HObj) : Sp → Prop
  | .skip => ∃ j want d, o.guard = some (j, want) ∧ (ops[j]?).bind (·.dst) = some d ∧ Unw (τ d) want
  | .free v => Wants ops ⟨0, τ, [], []⟩ o ∧ ∀ H, AOp P o (ev τ) H v H
  | .read ob v => Wants ops ⟨0, τ, [], []⟩ o ∧ ob ∈ H ∧ ∀ H, ob ∈ H → AOp P o (ev τ) H v H
  | .eff v H' => Wants ops ⟨0, τ, [], []⟩ o ∧ AOp P o (ev τ) H v H'

structure Draws (P : Program) (ops : Array Oper) (n : Nat) (Ex : Nat → Prop) (τ₀ : Nat → AV) (H₀ : List HObj) (sp : List Sp) : Prop where
  dst : ∀ (k : Nat) o t, ops[k]? = some o → o.dst = some t → t < n
  run : ∀ (k : Nat) o, ops[k]? = some o → Ex k → OpOk P ops o (τS ops sp τ₀ k) (HAt sp H₀ k) (sp.getD k .skip)
  c0 : ∀ (i : Nat) o j, ops[i]? = some o → j ∈ bindOn o → j < i
  c1 : ∀ (i k : Nat) o o' t, ops[i]? = some o → ops[k]? = some o' → t ∈ looks ops o → o'.dst = some t → k ≠ i → (k < i → Pred ops k i) ∧ (i < k → Pred ops i k)
  c2 : ∀ (i k : Nat) o o' t, ops[i]? = some o → ops[k]? = some o' → o.dst = some t → o'.dst = some t → i = k
  c3 : ∀ (i k : Nat), i < k → k < ops.size → (sp.getD i .skip).isEff = true → (sp.getD k .skip).isEff = true → Pred ops i k
  c4 : ∀ (i e : Nat) ob v, i < ops.size → e < ops.size → sp.getD i .skip = .read ob v → (sp.getD e .skip).isEff = true → (Pred ops e i ∨ Pred ops i e) ∨ (ob ∈ HAt sp H₀ e ∧ ob ∈ HAt sp H₀ (e + 1))

section
variable {P : Program} {r : Option Nat} {ops : Array Oper} {Q : Exit → Act → World → Prop}

/-- A relation that every operation keeps, whichever comes next. -/
theorem wpAny_inv (I : Array Bool → Act → World → Prop) (hsz : ∀ l a w, I l a w → l.size = ops.size)
    (hstep : ∀ l a w, I l a w → ∀ i ∈ Region.ready .any ops l, wpOpIn (W r) 0 P ops Q i (I (l.setIfInBounds i true)) a w)
    (hend : ∀ l a w, I l a w → Region.ready .any ops l = [] → Q .normal a w) :
    ∀ (fuel : Nat) (l : Array Bool) (a : Act) (w : World), I l a w → (l.toList.filter (!·)).length ≤ fuel → wpAnyIn (W r) 0 P .any ops Q fuel l a w := by
  intro fuel
  induction fuel with
  | zero =>
    intro l a w h hf
    have hr : Region.ready .any ops l = [] := by
      have hall : ∀ x ∈ l.toList, x = true := by
        intro x hx
        cases x with
        | true => rfl
        | false =>
          have : false ∈ l.toList.filter (!·) := List.mem_filter.2 ⟨hx, rfl⟩
          have h0 : l.toList.filter (!·) = [] := by
            apply List.eq_nil_of_length_eq_zero; omega
          rw [h0] at this
          cases this
      unfold Region.ready
      rw [List.filter_eq_nil_iff]
      intro i hi
      have hi' : i < l.size := by rw [hsz l a w h]; simpa using hi
      have hli : l[i] = true := hall _ (by simp)
      simp [hi', hli]
    exact ⟨hr, hend l a w h hr⟩
  | succ fuel ih =>
    intro l a w h hf
    refine ⟨hend l a w h, fun i hi => ?_⟩
    refine wpOpIn_mono (fun a' w' h' => ih _ a' w' h' ?_) (hstep l a w h i hi)
    have hm := (mem_ready.1 hi).1
    have hi' : i < l.size := by
      rcases Nat.lt_or_ge i l.size with h | h
      · exact h
      · simp [Array.getElem?_eq_none h] at hm
    have hfalse : l[i] = false := by simpa [hi'] using hm
    have e : (l.setIfInBounds i true).toList = l.toList.set i true := by simp
    rw [e]
    have hlt : i < l.toList.length := by simpa using hi'
    have hl : l.toList = l.toList.take i ++ false :: l.toList.drop (i + 1) := by
      have := List.take_append_drop i l.toList
      rw [List.drop_eq_getElem_cons hlt] at this
      rw [show l.toList[i] = false from by simpa using hfalse] at this
      exact this.symm
    have hs : l.toList.set i true = l.toList.take i ++ true :: l.toList.drop (i + 1) := by
      rw [List.set_eq_take_append_cons_drop, if_pos hlt]
    have h1 : (l.toList.filter (!·)).length = ((l.toList.take i ++ false :: l.toList.drop (i + 1)).filter (!·)).length := by rw [← hl]
    rw [hs]
    simp only [List.filter_append, List.length_append, List.filter_cons, Bool.not_false, Bool.not_true, if_true, List.length_cons] at h1 ⊢
    simp at h1 ⊢
    omega
end

section
variable {P : Program} {ops : Array Oper} {n : Nat} {Ex : Nat → Prop} {τ₀ : Nat → AV} {H₀ : List HObj} {sp : List Sp} {D : List ADef}

theorem Pred.lt (hd : Draws P ops n Ex τ₀ H₀ sp) {j i : Nat} (h : Pred ops j i) : j < i := by
  induction h with
  | base ho hj => exact hd.c0 _ _ _ ho hj
  | trans _ _ h1 h2 => omega

def Down (ops : Array Oper) (L : Nat → Prop) : Prop := ∀ (i : Nat) o j, ops[i]? = some o → L i → j ∈ bindOn o → L j

theorem Down.pred {L : Nat → Prop} (hL : Down ops L) {j i : Nat} (h : Pred ops j i) : L i → L j := by
  induction h with
  | base ho hj => exact fun hi => hL _ _ _ ho hi hj
  | trans _ _ h1 h2 => exact fun hi => h1 (h2 hi)

/-- The slots, where the operations of L have been carried out. -/
def TauIs (ops : Array Oper) (sp : List Sp) (τ₀ : Nat → AV) (L : Nat → Prop) (τ : Nat → AV) : Prop :=
  ∀ t, (∀ (k : Nat) o, ops[k]? = some o → o.dst = some t → L k → τ t = (sp.getD k .skip).val) ∧ ((∀ (k : Nat) o, ops[k]? = some o → o.dst = some t → ¬ L k) → τ t = τ₀ t)

theorem beq_ne {t d : Nat} (h : t ≠ d) : Nat.beq t d = false := by
  cases hq : Nat.beq t d with
  | false => rfl
  | true => exact absurd (Nat.eq_of_beq_eq_true hq) h

theorem TauIs.put (hd : Draws P ops n Ex τ₀ H₀ sp) {L : Nat → Prop} {τ : Nat → AV} (h : TauIs ops sp τ₀ L τ) {i : Nat} {o : Oper} (ho : ops[i]? = some o) :
    TauIs ops sp τ₀ (fun k => L k ∨ k = i) (Abs.put τ o.dst (sp.getD i .skip).val) := by
  intro t
  by_cases ht : o.dst = some t
  · have e : Abs.put τ o.dst (sp.getD i .skip).val t = (sp.getD i .skip).val := by
      rw [ht]; simp [Abs.put]
    refine ⟨fun k o' ho' hk _ => ?_, fun hn => absurd (.inr rfl) (hn i o ho ht)⟩
    rw [e, hd.c2 i k o o' t ho ho' ht hk]
  · have e : Abs.put τ o.dst (sp.getD i .skip).val t = τ t := by
      cases hq : o.dst with
      | none => rfl
      | some d =>
        have hne : t ≠ d := fun e => ht (by rw [hq, e])
        simp [Abs.put, beq_ne hne]
    rw [e]
    refine ⟨fun k o' ho' hk hl => ?_, fun hn => (h t).2 fun k o' ho' hk hl => hn k o' ho' hk (.inl hl)⟩
    rcases hl with hl | rfl
    · exact (h t).1 k o' ho' hk hl
    · rw [ho] at ho'; injection ho' with ho'; subst ho'; exact absurd hk ht

theorem tauS_is (hd : Draws P ops n Ex τ₀ H₀ sp) : ∀ k, k ≤ ops.size → TauIs ops sp τ₀ (fun j => j < k) (τS ops sp τ₀ k)
  | 0, _ => fun t => ⟨fun k o _ _ h => absurd h (by omega), fun _ => rfl⟩
  | k + 1, hk => by
    have ho : ops[k]? = some ops[k] := Array.getElem?_eq_getElem (by omega)
    have := (tauS_is hd k (by omega)).put hd ho
    have e : τS ops sp τ₀ (k + 1) = Abs.put (τS ops sp τ₀ k) (ops[k]).dst (sp.getD k .skip).val := by
      simp only [τS, ho, Option.bind_some]
    rw [e]
    intro t
    refine ⟨fun j o hj ht hl => (this t).1 j o hj ht (by omega), fun hn => (this t).2 fun j o hj ht hl => hn j o hj ht (by omega)⟩

theorem tau_looks (hd : Draws P ops n Ex τ₀ H₀ sp) {L : Nat → Prop} (hL : Down ops L) {τ : Nat → AV} (h : TauIs ops sp τ₀ L τ) {i : Nat} {o : Oper} (ho : ops[i]? = some o) (hi : ¬ L i) (hr : ∀ j ∈ bindOn o, L j) {t : Nat} (ht : t ∈ looks ops o) :
    τ t = τS ops sp τ₀ i t := by
  have hlt : i < ops.size := by
    rcases Nat.lt_or_ge i ops.size with h | h
    · exact h
    · simp [Array.getElem?_eq_none h] at ho
  have hS := tauS_is hd i (by omega) t
  have hpre : ∀ j, Pred ops j i → L j := by
    intro j hj
    cases hj with
    | base ho' hj =>
      rw [ho] at ho'; injection ho' with ho'; subst ho'; exact hr _ hj
    | @trans _ k _ h1 h2 =>
      have : ∀ {a b}, Pred ops a b → b = i → L a := by
        intro a b hab
        induction hab with
        | base ho' hj => intro e; subst e; rw [ho] at ho'; injection ho' with ho'; subst ho'; exact hr _ hj
        | trans p1 _ _ ih2 => intro e; exact hL.pred p1 (ih2 e)
      exact this (h1.trans h2) rfl
  by_cases hw : ∃ (k : Nat) (o' : Oper), ops[k]? = some o' ∧ o'.dst = some t
  · obtain ⟨k, o', ho', hk⟩ := hw
    by_cases hki : k = i
    · subst hki
      have h1 : τ t = τ₀ t := (h t).2 fun j oj hj hjt hlj => by rw [hd.c2 j k oj o' t hj ho' hjt hk] at hlj; exact hi hlj
      have h2 : τS ops sp τ₀ k t = τ₀ t := hS.2 fun j oj hj hjt hlj => by rw [hd.c2 j k oj o' t hj ho' hjt hk] at hlj; omega
      rw [h1, h2]
    · have hc := hd.c1 i k o o' t ho ho' ht hk hki
      rcases Nat.lt_or_ge k i with hlt' | hge
      · rw [(h t).1 k o' ho' hk (hpre k (hc.1 hlt')), hS.1 k o' ho' hk hlt']
      · have hlt' : i < k := by omega
        have hp := hc.2 hlt'
        have h1 : τ t = τ₀ t := (h t).2 fun j oj hj hjt hlj => by rw [hd.c2 j k oj o' t hj ho' hjt hk] at hlj; exact hi (hL.pred hp hlj)
        have h2 : τS ops sp τ₀ i t = τ₀ t := hS.2 fun j oj hj hjt hlj => by rw [hd.c2 j k oj o' t hj ho' hjt hk] at hlj; omega
        rw [h1, h2]
  · have hw' : ∀ (k : Nat) o', ops[k]? = some o' → o'.dst = some t → False := fun k o' h1 h2 => hw ⟨k, o', h1, h2⟩
    rw [(h t).2 fun k o' h1 h2 _ => hw' k o' h1 h2, hS.2 fun k o' h1 h2 _ => hw' k o' h1 h2]

theorem HAt_same {m : Nat} (h : (sp.getD m .skip).isEff = false) : HAt sp H₀ (m + 1) = HAt sp H₀ m := by
  simp only [HAt]
  cases hs : sp.getD m .skip <;> simp_all [Sp.isEff]

theorem HAt_down {ob : HObj} : ∀ (d m i : Nat), i = m + d → (∀ e, m ≤ e → e < i → (sp.getD e .skip).isEff = true → ob ∈ HAt sp H₀ e) → ob ∈ HAt sp H₀ i → ob ∈ HAt sp H₀ m
  | 0, m, i, h, _, hi => by subst h; exact hi
  | d + 1, m, i, h, he, hi => by
    cases hs : (sp.getD m .skip).isEff with
    | true => exact he m (by omega) (by omega) hs
    | false =>
      rw [← HAt_same hs]
      exact HAt_down d (m + 1) i (by omega) (fun e h1 h2 h3 => he e (by omega) h2 h3) hi

theorem HAt_up {ob : HObj} : ∀ (d i m : Nat), m = i + d → (∀ e, i ≤ e → e < m → (sp.getD e .skip).isEff = true → ob ∈ HAt sp H₀ (e + 1)) → ob ∈ HAt sp H₀ i → ob ∈ HAt sp H₀ m
  | 0, i, m, h, _, hi => by subst h; exact hi
  | d + 1, i, m, h, he, hi => by
    have hm : m = (i + d) + 1 := by omega
    cases hs : (sp.getD (i + d) .skip).isEff with
    | true => rw [hm]; exact he (i + d) (by omega) (by omega) hs
    | false =>
      rw [hm, HAt_same hs]
      exact HAt_up d i (i + d) rfl (fun e h1 h2 h3 => he e h1 (by omega) h3) hi

theorem HAt_const : ∀ (d m i : Nat), i = m + d → (∀ e, m ≤ e → e < i → (sp.getD e .skip).isEff = false) → HAt sp H₀ i = HAt sp H₀ m
  | 0, m, i, h, _ => by subst h; rfl
  | d + 1, m, i, h, he => by
    have hi : i = (m + d) + 1 := by omega
    rw [hi, HAt_same (he (m + d) (by omega) (by omega))]
    exact HAt_const d m (m + d) rfl fun e h1 h2 => he e h1 (by omega)
end

/-- What holds wherever the region stands: l says which operations have been carried out. -/
def DI (ops : Array Oper) (n : Nat) (D : List ADef) (τ : Nat → AV) (H : List HObj) (sp : List Sp) (F₀ : Nat → Prop) (w₀ : World) (l : Array Bool) (a : Act) (w : World) : Prop :=
  l.size = ops.size ∧ Down ops (fun i => l.getD i false = true) ∧ ∃ τ' m F, TauIs ops sp τ (fun i => l.getD i false = true) τ' ∧ m ≤ ops.size ∧
      (∀ e, e < ops.size → (sp.getD e .skip).isEff = true → (l.getD e false = true ↔ e < m)) ∧ SRel F ⟨n, τ', HAt sp H m, D⟩ a w ∧ Trans F₀ H w₀ F (HAt sp H m) w


/-- A REGION THAT DRAWS ITS ORDER: in the order of its text it comes to a state; it comes to the same state in every order. 'opn': the operations whose outcome is open; an index says which outcomes came; 'Ok': this one has come indeed. -/
theorem awp_draw {P : Program} {r : Option Nat} {ops : Array Oper} {id n : Nat} {τ : Nat → AV} {H : List HObj} {D : List ADef} {Q : AExit → AState → Prop} (hm : P.follows .mixedOrders = true) {ι : Type} {Good : ι → Prop} {Ok : ι → Nat → Prop} {Fam : ι → List Sp} {opn : Nat → Bool}
    (hR : ∃ i, Good i) (hfd : ∀ i, Good i → Draws P ops n (fun k => opn k = false ∧ ∀ p, opn p = true → Pred ops p k → Ok i p) τ H (Fam i))
    (heff : ∀ i p, Good i → opn p = true → p < ops.size → (∀ q, opn q = true → Pred ops q p → Ok i q) → ((Fam i).getD p .skip).isEff = true)
    (hop : ∀ i p o, Good i → opn p = true → ops[p]? = some o → (∀ q, opn q = true → Pred ops q p → Ok i q) → ∃ R, Wants ops ⟨0, τS ops (Fam i) τ p, [], []⟩ o ∧ AOpR P o (ev (τS ops (Fam i) τ p)) (HAt (Fam i) H p) R ∧
      (∀ v H', R (.val v) H' → ∃ i', Good i' ∧ (∀ k, k ≠ p → ¬ Pred ops p k → (Fam i').getD k .skip = (Fam i).getD k .skip ∧ (Ok i k → Ok i' k)) ∧ Ok i' p ∧ (Fam i').getD p .skip = .eff v H') ∧
      (∀ v H', R (.panic v) H' → ∀ τ', (∀ t, (∀ (k : Nat) o, ops[k]? = some o → o.dst ≠ some t) → τ' t = τ t) → Q (.panic v) ⟨n, τ', H', D⟩))
    (next : ∀ i, Good i → (∀ p, opn p = true → p < ops.size → Ok i p) → Q .normal ⟨n, τS ops (Fam i) τ ops.size, HAt (Fam i) H ops.size, D⟩) : AWp P r (.region id ops true) ⟨n, τ, H, D⟩ Q := by
  intro F₀ a₀ w₀ hs₀
  refine wpIn_region_any hm ?_
  have same : Stable F₀ w₀ F₀ { w₀ with drawn := w₀.drawn + 1 } := ⟨Nat.le_refl _, fun _ _ _ => rfl, fun _ h _ => h⟩
  have t₀ : Trans F₀ H w₀ F₀ H { w₀ with drawn := w₀.drawn + 1 } :=
    ⟨Nat.le_refl _, fun _ _ _ => rfl, fun _ h _ => h, fun _ h => .inl h, fun o ho b hb => .inl ⟨o, ho, hb⟩, rfl, rfl, rfl⟩
  have hs₁ : SRel F₀ ⟨n, τ, H, D⟩ a₀ { w₀ with drawn := w₀.drawn + 1 } :=
    ⟨hs₀.size, fun t => Rep.mono same _ _ (hs₀.tmp t), hs₀.heap.stable' same (fun _ h => h) (fun _ _ _ _ => rfl) hs₀.heap.bd, DRep.mono same _ _ hs₀.defs⟩
  refine wpAny_inv (I := fun l a w => ∃ ix, Good ix ∧ (∀ p, opn p = true → l.getD p false = true → Ok ix p) ∧ DI ops n D τ H (Fam ix) F₀ w₀ l a w) (fun l a w ⟨_, _, _, h⟩ => h.1) ?_ ?_ _ _ _ _ ?_ ?_
  · rintro l a w ⟨ix, hGix, hOkl, hsz, hdown, τ', m, F, hτ, hm', hst, hs, ht⟩ i hi
    have hd := hfd ix hGix
    have hspp := fun p => heff ix p hGix
    have hopp := fun p o => hop ix p o hGix
    generalize hsp0 : Fam ix = sp at *
    obtain ⟨hun, o, ho, hall⟩ := mem_ready.1 hi
    have hlt : i < ops.size := by
      rcases Nat.lt_or_ge i ops.size with h | h
      · exact h
      · simp [Array.getElem?_eq_none h] at ho
    have hil : i < l.size := by omega
    have hnot : ¬ (l.getD i false = true) := by
      have : l[i] = false := by simpa [hil] using hun
      simp [hil, this]
    have hr : ∀ j ∈ bindOn o, l.getD j false = true := by
      intro j hj
      simp only [bindOn, List.mem_map, List.mem_filter] at hj
      obtain ⟨e, ⟨he, hb⟩, rfl⟩ := hj
      exact hall e (by simpa using he) hb
    have hpre : ∀ j, Pred ops j i → l.getD j false = true := by
      intro j hj
      have : ∀ {a b}, Pred ops a b → b = i → l.getD a false = true := by
        intro a b hab
        induction hab with
        | base ho' hj => intro e; subst e; rw [ho] at ho'; injection ho' with ho'; subst ho'; exact hr _ hj
        | trans p1 _ _ ih2 => intro e; exact hdown.pred p1 (ih2 e)
      exact this hj rfl
    have hlook : ∀ t ∈ looks ops o, τ' t = τS ops sp τ i t := fun t ht => tau_looks hd hdown hτ ho hnot hr ht
    have hops : ∀ x ∈ o.op.operands.toList, ev τ' x = ev (τS ops sp τ i) x := by
      intro x hx
      cases x with
      | tmp t => exact hlook t (List.mem_append_left _ (List.mem_filterMap.2 ⟨.tmp t, hx, rfl⟩))
      | _ => rfl
    have hguard : ∀ j want d, o.guard = some (j, want) → (ops[j]?).bind (·.dst) = some d → τ' d = τS ops sp τ i d := by
      intro j want d hg hj
      refine hlook d (List.mem_append_right _ ?_)
      simp [hg, hj]
    have hset : ∀ k, (l.setIfInBounds i true).getD k false = true ↔ (l.getD k false = true ∨ k = i) := by
      intro k
      by_cases hk : k = i
      · subst hk; simp [hil]
      · simp [Array.getElem?_setIfInBounds_ne (Ne.symm hk), hk]
    have hdown' : Down ops (fun k => (l.setIfInBounds i true).getD k false = true) := by
      intro k o' j ho' hk hj
      rcases (hset k).1 hk with h | h
      · exact (hset j).2 (.inl (hdown k o' j ho' h hj))
      · subst h; rw [ho] at ho'; injection ho' with ho'; subst ho'; exact (hset j).2 (.inl (hr j hj))
    have hτ' : TauIs ops sp τ (fun k => (l.setIfInBounds i true).getD k false = true) (put τ' o.dst (sp.getD i .skip).val) := by
      have := hτ.put hd ho
      intro t
      exact ⟨fun k o' h1 h2 h3 => (this t).1 k o' h1 h2 ((hset k).1 h3), fun hn => (this t).2 fun k o' h1 h2 h3 => hn k o' h1 h2 ((hset k).2 h3)⟩
    have hdst := hd.dst i o
    have hrun : (opn i = false ∧ ∀ p, opn p = true → Pred ops p i → Ok ix p) → _ := hd.run i o ho
    have hsz' : (l.setIfInBounds i true).size = ops.size := by simp [hsz]
    have close : ∀ {a' w' F' m'}, m' ≤ ops.size → (∀ e, e < ops.size → (sp.getD e .skip).isEff = true → ((l.setIfInBounds i true).getD e false = true ↔ e < m')) →
        SRel F' ⟨n, put τ' o.dst (sp.getD i .skip).val, HAt sp H m', D⟩ a' w' → Trans F (HAt sp H m) w F' (HAt sp H m') w' →
        opn i = false → ∃ ix, Good ix ∧ (∀ p, opn p = true → (l.setIfInBounds i true).getD p false = true → Ok ix p) ∧ DI ops n D τ H (Fam ix) F₀ w₀ (l.setIfInBounds i true) a' w' := by
      intro a' w' F' m' h1 h2 h3 h4 hno
      refine ⟨ix, hGix, fun p hp hl => ?_, by rw [hsp0]; exact ⟨hsz', hdown', _, m', F', hτ', h1, h2, h3, ht.trans hs₀.heap.bd h4⟩⟩
      rcases (hset p).1 hl with h | h
      · exact hOkl p hp h
      · subst h; rw [hno] at hp; cases hp
    have stay : (sp.getD i .skip).isEff = false → ∀ e, e < ops.size → (sp.getD e .skip).isEff = true → ((l.setIfInBounds i true).getD e false = true ↔ e < m) := by
      intro hne e he hee
      rw [hset e, hst e he hee]
      constructor
      · rintro (h | rfl)
        · exact h
        · rw [hne] at hee; cases hee
      · exact .inl
    -- one operation that yields
    have yields : ∀ {v H'} {m'}, (sp.getD i .skip).val = v → Wants ops ⟨n, τ', HAt sp H m, D⟩ o → AOp P o (ev (τS ops sp τ i)) (HAt sp H m) v H' → H' = HAt sp H m' → m' ≤ ops.size →
        (∀ e, e < ops.size → (sp.getD e .skip).isEff = true → ((l.setIfInBounds i true).getD e false = true ↔ e < m')) →
        opn i = false → wpOpIn (W r) 0 P ops (post F₀ H w₀ Q) i (fun a w => ∃ ix, Good ix ∧ (∀ p, opn p = true → (l.setIfInBounds i true).getD p false = true → Ok ix p) ∧ DI ops n D τ H (Fam ix) F₀ w₀ (l.setIfInBounds i true) a w) a w := by
      intro v H' m' hv hwant hop hH' hm1 hst' hno
      unfold wpOpIn
      simp only [ho, wanted_of hs hwant, if_true]
      have hw := hop r F _ a w hs rfl (fun x hx => hops x hx) (fun t ht => hdst t ho ht)
      unfold Oper.wpIn at *
      refine ⟨hw.1, ?_⟩
      replace hw := hw.2
      generalize (o.semAt (W r).round a.eval).run P w = rr at *
      have fin : ∀ {a' w'}, (∃ v' H'' F', det v H' (.val v') H'' ∧ SRel F' (AState.put ⟨n, τ', HAt sp H m, D⟩ o.dst v' H'') a' w' ∧ Trans F (HAt sp H m) w F' H'' w') → ∃ ix, Good ix ∧ (∀ p, opn p = true → (l.setIfInBounds i true).getD p false = true → Ok ix p) ∧ DI ops n D τ H (Fam ix) F₀ w₀ (l.setIfInBounds i true) a' w' := by
        rintro a' w' ⟨v', H'', F', ⟨h1, h2⟩, h3, h4⟩
        subst h1; subst h2; subst hv; subst hH'
        exact close hm1 hst' h3 h4 hno
      cases rr with
      | ok nx w' =>
        cases nx <;> simp only [Oper.uponIn] at hw ⊢
        case value u => exact fin hw
        case skip => exact fin hw
        case defer d => exact fin hw
        case enter f args =>
          refine ⟨hw.1, hw.2.mono fun e w'' he => ?_⟩
          cases e with
          | returned u => exact fin he
          | panicked c => obtain ⟨_, _, _, _, h, _⟩ := he; exact h.elim
          | outgrown => obtain ⟨_, _, _, _, _, _, h, _⟩ := he; exact h.elim
        case row row args => exact ⟨hw.1, hw.2.mono fun u w'' h => fin h⟩
        case round l' f tmps assign body =>
          refine ⟨hw.1, hw.2.mono fun e w'' he => ?_⟩
          cases e with
          | returned u => exact fin he
          | panicked c => obtain ⟨_, _, _, _, h, _⟩ := he; exact h.elim
          | outgrown => obtain ⟨_, _, _, _, _, _, h, _⟩ := he; exact h.elim
      | halt x w' =>
        cases x <;> simp only [Oper.uponIn] at hw ⊢
        case panic u => obtain ⟨_, _, _, _, h, _⟩ := hw; exact h.elim
    have wants : Wants ops ⟨0, τS ops sp τ i, [], []⟩ o → Wants ops ⟨n, τ', HAt sp H m, D⟩ o := by
      intro h
      unfold Wants at *
      cases hg : o.guard with
      | none => simp [hg]
      | some jw =>
        obtain ⟨j, want⟩ := jw
        simp only [hg] at h ⊢
        obtain ⟨d, h1, h2⟩ := h
        exact ⟨d, h1, by rw [← h2]; exact hguard j want d hg h1⟩
    have hOkp : ∀ q, opn q = true → Pred ops q i → Ok ix q := fun q hq hp => hOkl q hq (hpre q hp)
    cases hip : opn i with
    | true =>
      -- an operation whose outcome is open
      have hee : (sp.getD i .skip).isEff = true := hspp i hip hlt hOkp
      have hmi : m ≤ i := by
        rcases Nat.lt_or_ge i m with h | h
        · exact absurd ((hst i hlt hee).2 h) hnot
        · exact h
      have hconst : HAt sp H i = HAt sp H m := by
        refine HAt_const (i - m) m i (by omega) fun e h1 h2 => ?_
        cases hq : (sp.getD e .skip).isEff with
        | false => rfl
        | true =>
          have hel := hpre e (hd.c3 e i h2 hlt hq hee)
          have := (hst e (by omega) hq).1 hel
          omega
      obtain ⟨R, hwant, hopi, hvals, hpans⟩ := hopp i o hip ho hOkp
      rw [hconst] at hopi
      have hLn : ∀ k, l.getD k false = true → k ≠ i ∧ ¬ Pred ops i k := by
        intro k hk
        exact ⟨fun e => by subst e; exact hnot hk, fun h => hnot (hdown.pred h hk)⟩
      unfold wpOpIn
      simp only [ho, wanted_of hs (wants hwant), if_true]
      have hw := hopi r F _ a w hs rfl (fun x hx => hops x hx) (fun t ht => hdst t ho ht)
      unfold Oper.wpIn at *
      refine ⟨hw.1, ?_⟩
      replace hw := hw.2
      generalize (o.semAt (W r).round a.eval).run P w = rr at *
      have fin : ∀ {a' w'}, (∃ v' H'' F', R (.val v') H'' ∧ SRel F' (AState.put ⟨n, τ', HAt sp H m, D⟩ o.dst v' H'') a' w' ∧ Trans F (HAt sp H m) w F' H'' w') → ∃ ix, Good ix ∧ (∀ p, opn p = true → (l.setIfInBounds i true).getD p false = true → Ok ix p) ∧ DI ops n D τ H (Fam ix) F₀ w₀ (l.setIfInBounds i true) a' w' := by
        rintro a' w' ⟨v', H'', F', h1, h3, h4⟩
        obtain ⟨ix', hG', hag', hok', hspi'⟩ := hvals v' H'' h1
        have hag : ∀ k, l.getD k false = true → (Fam ix').getD k .skip = sp.getD k .skip := fun k hk => (hag' k (hLn k hk).1 (hLn k hk).2).1
        refine ⟨ix', hG', fun p hp hl => ?_, ?_⟩
        · rcases (hset p).1 hl with h | h
          · exact (hag' p (hLn p h).1 (hLn p h).2).2 (hOkl p hp h)
          · subst h; exact hok'
        have hd' := hfd ix' hG'
        have hee' : ((Fam ix').getD i .skip).isEff = true := by rw [hspi']; rfl
        have hτ2 : TauIs ops (Fam ix') τ (fun k => l.getD k false = true) τ' := by
          intro t
          refine ⟨fun k o' a1 a2 a3 => ?_, (hτ t).2⟩
          rw [hag k a3]
          exact (hτ t).1 k o' a1 a2 a3
        have hτ3 := hτ2.put hd' ho
        have hHi : HAt (Fam ix') H (i + 1) = H'' := by simp only [HAt, hspi']
        refine ⟨hsz', hdown', put τ' o.dst v', i + 1, F', ?_, by omega, ?_, ?_, ?_⟩
        · intro t
          rw [hspi'] at hτ3
          exact ⟨fun k o' a1 a2 a3 => (hτ3 t).1 k o' a1 a2 ((hset k).1 a3), fun hn => (hτ3 t).2 fun k o' a1 a2 a3 => hn k o' a1 a2 ((hset k).2 a3)⟩
        · intro e he hq
          rw [hset e]
          constructor
          · rintro (h | rfl)
            · have hq' : (sp.getD e .skip).isEff = true := by rw [← hag e h]; exact hq
              have := (hst e he hq').1 h
              omega
            · omega
          · intro h
            by_cases hei : e = i
            · exact .inr hei
            · exact .inl (hpre e (hd'.c3 e i (by omega) hlt hq hee'))
        · rw [hHi]; exact h3
        · rw [hHi]; exact ht.trans hs₀.heap.bd h4
      have pans : ∀ {e a' w'}, (∃ v H' F' u, R (.panic v) H' ∧ e = .panic [{ v := u, recovered := false }] ∧ Rep F' w' v u ∧ SRel F' ⟨n, τ', H', D⟩ a' w' ∧ Trans F (HAt sp H m) w F' H' w') → post F₀ H w₀ Q e a' w' := by
        rintro e a' w' ⟨v, H', F', u, h1, rfl, h2, h3, h4⟩
        exact ⟨.panic v, _, F', hpans v H' h1 τ' fun t hn => (hτ t).2 fun k o' a1 a2 _ => hn k o' a1 a2, ⟨u, rfl, h2⟩, h3, ht.trans hs₀.heap.bd h4⟩
      cases rr with
      | ok nx w' =>
        cases nx <;> simp only [Oper.uponIn] at hw ⊢
        case value u => exact fin hw
        case skip => exact fin hw
        case defer d => exact fin hw
        case enter f args =>
          refine ⟨hw.1, hw.2.mono fun e w'' he => ?_⟩
          cases e with
          | returned u => exact fin he
          | panicked c => exact pans he
          | outgrown => obtain ⟨_, _, _, _, _, _, _, h, _⟩ := he; cases h
        case row row args => exact ⟨hw.1, hw.2.mono fun u w'' h => fin h⟩
        case round l' f tmps assign body =>
          refine ⟨hw.1, hw.2.mono fun e w'' he => ?_⟩
          cases e with
          | returned u => exact fin he
          | panicked c => exact pans he
          | outgrown => obtain ⟨_, _, _, _, _, _, _, h, _⟩ := he; cases h
      | halt x w' =>
        cases x <;> simp only [Oper.uponIn] at hw ⊢
        case panic u => exact pans hw
    | false =>
    replace hrun := hrun ⟨hip, hOkp⟩
    cases hsp : sp.getD i .skip with
    | skip =>
      rw [hsp] at hrun
      obtain ⟨j, want, d, hg, hj, hb⟩ := hrun
      have hw : Region.wanted o (yielded ops a.tmps) = false := unwanted (S := ⟨n, τ', HAt sp H m, D⟩) hs hg hj (by show Unw (τ' d) want; rw [hguard j want d hg hj]; exact hb)
      unfold wpOpIn
      simp only [ho, hw, Bool.false_eq_true, if_false]
      have hv : (sp.getD i .skip).val = .tup [] := by rw [hsp]; rfl
      refine ⟨fun _ _ => trivial, close hm' (stay (by rw [hsp]; rfl)) ?_ .refl hip⟩
      rw [hv]
      exact hs.put (fun t ht => hdst t ho ht) ⟨Nat.le_refl _, fun _ _ _ => rfl, fun _ h _ => h⟩ hs.heap (by simp only [Rep, RepL, undef]; exact ⟨[], rfl, rfl⟩)
    | free v =>
      rw [hsp] at hrun
      exact yields (by rw [hsp]; rfl) (wants hrun.1) (hrun.2 _) rfl hm' (stay (by rw [hsp]; rfl)) hip
    | read ob v =>
      rw [hsp] at hrun
      obtain ⟨hwant, hmem, hop⟩ := hrun
      refine yields (by rw [hsp]; rfl) (wants hwant) (hop _ ?_) rfl hm' (stay (by rw [hsp]; rfl)) hip
      have hun' : ∀ e, e < ops.size → (sp.getD e .skip).isEff = true → ¬ Pred ops e i → ¬ Pred ops i e → ob ∈ HAt sp H e ∧ ob ∈ HAt sp H (e + 1) := by
        intro e he hee h1 h2
        rcases hd.c4 i e ob v hlt he hsp hee with (h | h) | h
        · exact absurd h h1
        · exact absurd h h2
        · exact h
      rcases Nat.le_total m i with hmi | him
      · refine HAt_down (i - m) m i (by omega) (fun e h1 h2 h3 => ?_) hmem
        have hel : ¬ (l.getD e false = true) := fun h => by have := (hst e (by omega) h3).1 h; omega
        exact (hun' e (by omega) h3 (fun h => hel (hpre e h)) (fun h => by have := h.lt hd; omega)).1
      · refine HAt_up (m - i) i m (by omega) (fun e h1 h2 h3 => ?_) hmem
        have hel : l.getD e false = true := (hst e (by omega) h3).2 h2
        have hne : e ≠ i := fun h => by subst h; exact hnot hel
        exact (hun' e (by omega) h3 (fun h => by have := h.lt hd; omega) (fun h => hnot (hdown.pred h hel))).2
    | eff v H' =>
      rw [hsp] at hrun
      have hee : (sp.getD i .skip).isEff = true := by rw [hsp]; rfl
      have hmi : m ≤ i := by
        rcases Nat.lt_or_ge i m with h | h
        · exact absurd ((hst i hlt hee).2 h) hnot
        · exact h
      have hconst : HAt sp H i = HAt sp H m := by
        refine HAt_const (i - m) m i (by omega) fun e h1 h2 => ?_
        cases hq : (sp.getD e .skip).isEff with
        | false => rfl
        | true =>
          have hel := hpre e (hd.c3 e i h2 hlt hq hee)
          have := (hst e (by omega) hq).1 hel
          omega
      rw [hconst] at hrun
      refine yields (m' := i + 1) (by rw [hsp]; rfl) (wants hrun.1) hrun.2 (by show H' = (match sp.getD i .skip with | .eff _ H' => H' | _ => HAt sp H i); rw [hsp]) (by omega) ?_ hip
      intro e he hq
      rw [hset e, hst e he hq]
      constructor
      · rintro (h | rfl) <;> omega
      · intro h
        rcases Nat.lt_or_ge e m with h' | h'
        · exact .inl h'
        · by_cases hei : e = i
          · exact .inr hei
          · have hel := hpre e (hd.c3 e i (by omega) hlt hq hee)
            exact .inl ((hst e he hq).1 hel)
  · rintro l a w ⟨ix, hGix, hOkl, hsz, hdown, τ', m, F, hτ, hm', hst, hs, ht⟩ hr
    have hd := hfd ix hGix
    have next := next ix hGix
    generalize Fam ix = sp at *
    have hall : ∀ i, i < ops.size → l.getD i false = true := by
      intro i
      induction i using Nat.strongRecOn with
      | _ i ih =>
        intro hi
        cases hq : l.getD i false with
        | true => rfl
        | false =>
          have ho : ops[i]? = some ops[i] := Array.getElem?_eq_getElem hi
          have : i ∈ Region.ready .any ops l := by
            refine mem_ready.2 ⟨?_, ops[i], ho, ?_⟩
            · have : i < l.size := by omega
              simp [this] at hq ⊢; exact hq
            · intro e he hb
              have hj : e.on ∈ bindOn ops[i] := by
                simp only [bindOn, List.mem_map, List.mem_filter]
                exact ⟨e, ⟨by simpa using he, hb⟩, rfl⟩
              have hlt := hd.c0 i _ _ ho hj
              exact ih e.on hlt (by omega)
          rw [hr] at this
          cases this
    have hτe : τ' = τS ops sp τ ops.size := by
      funext t
      have h2 := tauS_is hd ops.size (Nat.le_refl _) t
      by_cases hw : ∃ (k : Nat) (o' : Oper), ops[k]? = some o' ∧ o'.dst = some t
      · obtain ⟨k, o', ho', hk⟩ := hw
        have hlt : k < ops.size := by
          rcases Nat.lt_or_ge k ops.size with h | h
          · exact h
          · simp [Array.getElem?_eq_none h] at ho'
        rw [(hτ t).1 k o' ho' hk (hall k hlt), h2.1 k o' ho' hk hlt]
      · have hw' : ∀ (k : Nat) o', ops[k]? = some o' → o'.dst = some t → False := fun k o' h1 h2 => hw ⟨k, o', h1, h2⟩
        rw [(hτ t).2 fun k o' h1 h2 _ => hw' k o' h1 h2, h2.2 fun k o' h1 h2 _ => hw' k o' h1 h2]
    have hHe : HAt sp H ops.size = HAt sp H m := by
      refine HAt_const (ops.size - m) m ops.size (by omega) fun e h1 h2 => ?_
      cases hq : (sp.getD e .skip).isEff with
      | false => rfl
      | true =>
        have := (hst e h2 hq).1 (hall e h2)
        omega
    rw [hHe, ← hτe] at next
    exact ⟨.normal, _, F, next fun p hp hlt => hOkl p hp (hall p hlt), rfl, hs, ht⟩
  · obtain ⟨ix, hGix⟩ := hR
    refine ⟨ix, hGix, fun p _ hl => ?_, by simp, ?_, τ, 0, F₀, ?_, Nat.zero_le _, ?_, hs₁, t₀⟩
    · by_cases h : p < ops.size <;> simp [h] at hl
    · intro i o j ho hi
      by_cases h : i < ops.size <;> simp [h] at hi
    · intro t
      refine ⟨fun k o ho hk hl => ?_, fun _ => rfl⟩
      by_cases h : k < ops.size <;> simp [h] at hl
    · intro e he hee
      simp [he]
  · have := List.length_filter_le (fun b : Bool => !b) (Array.replicate ops.size false).toList
    simp at this ⊢
end Go.Abs
