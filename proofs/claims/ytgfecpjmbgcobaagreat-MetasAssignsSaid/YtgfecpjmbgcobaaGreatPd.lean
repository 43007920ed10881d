/- Part of the proofs about metavariables: an abstract program logic, plain models and contracts of functions. -/
import Derived.Test.YtgfecpjmbgcobaaGreatPc
import Derived.RangeFuncLeaves
import Derived.RecoverIn
import Derived.RangeFuncNested
/- The abstract program logic: append; parts of slices; strings; calls that borrow. -/
namespace Go.Abs
set_option linter.unusedVariables false
set_option linter.unusedSimpArgs false

section
variable {P : Program} {dst : Option Tmp} {ty : TypeId} {pos : String} {aft : Array Edge} {g : Option (Nat × Bool)} {ρ : Operand → AV} {H : List HObj} {x y z : Operand} {v : AV}

theorem RowsRep.vals {F : Nat → Prop} {w : World} {b sz : Nat} : ∀ {rows : List (List PV)} {o : Nat}, RowsRep F w b sz o rows → ∃ us : List Value, w.rangeAt b o us ∧ us.length = rows.length * sz ∧ RepL F w (rows.flatten.map .p) us
  | [], o, _ => ⟨[], by intro j v h; simp at h, by simp, by simp [RepL]⟩
  | r :: rows, o, h => by
    simp only [RowsRep] at h
    obtain ⟨us, a1, a2, a3⟩ := h.2.1.vals
    obtain ⟨vs, b1, b2, b3⟩ := RowsRep.vals h.2.2
    refine ⟨us ++ vs, ?_, by simp only [List.length_append, List.length_cons, Nat.succ_mul]; rw [a2, b2, h.1]; omega, ?_⟩
    · intro j v hv
      rcases Nat.lt_or_ge j us.length with hj | hj
      · rw [List.getElem?_append_left hj] at hv; exact a1 j v hv
      · rw [List.getElem?_append_right hj] at hv
        have := b1 _ v hv
        have e : o + sz + (j - us.length) = o + j := by rw [← h.1, ← a2]; omega
        rwa [e] at this
    · rw [List.flatten_cons, List.map_append]
      exact a3.append b3

theorem nextcap_le {need c : Nat} (h : c < need) : Builtin.nextslicecap need c ≤ 2 * need := by
  unfold Builtin.nextslicecap
  split
  · omega
  · split
    · omega
    · have key : ∀ (r c : Nat), 256 ≤ c → c ≤ 2 * need → Builtin.growBy need r c ≤ 2 * need := by
        intro r
        induction r with
        | zero => intro c _ h; exact h
        | succ r ih =>
          intro c h1 h2
          unfold Builtin.growBy
          split
          · exact h2
          · exact ih _ (by omega) (by omega)
      exact key 4 c (by omega) (by omega)

def appendR (i sz : Nat) (rows : List (List PV)) (H : List HObj) : ARes → List HObj → Prop
  | .val v, H' => ∃ o c, v = .vs o rows.length c ∧ H' = H.set i (.vec o sz rows c)
  | .panic _, _ => False

theorem firstCells_lst {F : Nat → Prop} {w : World} {sz : Nat} {rows : List (List PV)} {u : Value} (h : Rep F w (.p (.lst rows)) u) (hr : ∀ r ∈ rows, r.length = sz) :
    ∃ us o c, u = .slice o rows.length c ∧ (Builtin.firstCells sz rows.length u).run P w = .ok ⟨us⟩ w ∧ us.length = rows.length * sz ∧ RepL F w (rows.flatten.map .p) us := by
  simp only [Rep, PRep] at h
  rcases h with ⟨rfl, o, c, rfl⟩ | ⟨b, o, c, sz', rfl, hF, hb, hc, hrows⟩
  · refine ⟨[], o, c, rfl, ?_, by simp, by simp [RepL]⟩
    cases o with
    | none => rfl
    | some a => simp [Builtin.firstCells, loadCells, loadCellsFrom]
  · cases rows with
    | nil =>
      refine ⟨[], some ⟨b, o, none⟩, c, rfl, ?_, by simp, by simp [RepL]⟩
      simp [Builtin.firstCells, loadCells, loadCellsFrom]
    | cons r rows =>
      have e : sz' = sz := by
        have h1 := hr r (by simp)
        simp only [RowsRep] at hrows
        omega
      subst e
      obtain ⟨us, h1, h2, h3⟩ := hrows.vals
      refine ⟨us, some ⟨b, o, none⟩, c, rfl, ?_, h2, h3⟩
      have := run_loadCells_list (P := P) w ⟨b, o, none⟩ us (fun j v hv => by rw [Addr.add_mid]; exact h1 j v hv)
      rw [h2] at this
      exact this

theorem firstCells_vec {F : Nat → Prop} {w : World} {o : Option Nat} {sz c : Nat} {rows : List (List PV)} {u : Value} (ho : ORep F w (.vec o sz rows c)) (h : Rep F w (.vs o rows.length c) u) :
    ∃ us, (Builtin.firstCells sz rows.length u).run P w = .ok ⟨us⟩ w ∧ us.length = rows.length * sz ∧ RepL F w (rows.flatten.map .p) us := by
  cases o with
  | none =>
    obtain ⟨rfl, rfl⟩ := ho
    simp only [Rep] at h
    obtain ⟨_, _, a, rfl⟩ := h
    refine ⟨[], ?_, by simp, by simp [RepL]⟩
    cases a with
    | none => rfl
    | some a => simp [Builtin.firstCells, loadCells, loadCellsFrom]
  | some b =>
    simp only [Rep] at h
    subst h
    obtain ⟨vs, T, hb, h1, h2, hrows⟩ := ho
    obtain ⟨us, a1, a2, a3⟩ := hrows.vals
    refine ⟨us, ?_, a2, a3⟩
    have := run_loadCells_list (P := P) w ⟨b, 0, none⟩ us (fun j v hv => by rw [Addr.add_mid]; exact a1 j v hv)
    rw [a2] at this
    exact this

theorem rows_append {F : Nat → Prop} {w : World} {b sz : Nat} : ∀ {rows rows' : List (List PV)} {o : Nat}, RowsRep F w b sz o rows → RowsRep F w b sz (o + rows.length * sz) rows' → RowsRep F w b sz o (rows ++ rows')
  | [], rows', o, _, h => by simpa using h
  | r :: rows, rows', o, h, h' => by
    simp only [List.cons_append, RowsRep] at h ⊢
    refine ⟨h.1, h.2.1, rows_append h.2.2 ?_⟩
    simp only [List.length_cons, Nat.succ_mul] at h'
    have e : o + sz + rows.length * sz = o + (rows.length * sz + sz) := by omega
    rw [e]; exact h'

theorem zeroCells_len (z : Array Value) (n : Nat) : (Builtin.zeroCells z n).size = n * z.size := by simp [Builtin.zeroCells]

theorem lenAll {rows : List (List PV)} {sz : Nat} (h : ∀ r ∈ rows, r.length = sz) : rows.flatten.length = rows.length * sz := by
  induction rows with
  | nil => simp
  | cons r rows ih => simp only [List.flatten_cons, List.length_append, List.length_cons, Nat.succ_mul, ih (fun r hr => h r (by simp [hr])), h r (by simp)]; omega

theorem RowsRep.lens {F : Nat → Prop} {w : World} {b sz : Nat} : ∀ {rows : List (List PV)} {o : Nat}, RowsRep F w b sz o rows → ∀ r ∈ rows, r.length = sz
  | [], _, _ => by simp
  | r :: rows, o, h => by
    simp only [RowsRep] at h
    intro r' hr'
    rcases List.mem_cons.1 hr' with rfl | hr'
    · exact h.1
    · exact RowsRep.lens h.2.2 r' hr'

theorem ORep.lens {F : Nat → Prop} {w : World} {o : Option Nat} {sz c : Nat} {rows : List (List PV)} (h : ORep F w (.vec o sz rows c)) : ∀ r ∈ rows, r.length = sz := by
  cases o with
  | none => obtain ⟨rfl, _⟩ := h; simp
  | some b => obtain ⟨_, _, _, _, _, hr⟩ := h; exact hr.lens

/-- A row of sz cells, each of which is known. -/
def Solid (sz : Nat) (r : List PV) : Prop := r.length = sz ∧ ∀ c ∈ r, c ≠ .any

theorem solid_one {rows : List (List PV)} {sz : Nat} (h : ∀ r ∈ rows, Solid sz r) : (rows.flatten.map AV.p).all one = true := by
  rw [List.all_eq_true]
  intro a ha
  obtain ⟨c, hc, rfl⟩ := List.mem_map.1 ha
  obtain ⟨r, hr, hcr⟩ := List.mem_flatten.1 hc
  have := (h r hr).2 c hcr
  cases c <;> simp_all [one]

/-- append(s, xs...) where s is owned and xs is pure. -/
theorem aop_append_of {T T2 e e2 : TypeId} {sz bytes n2 n3 c i n : Nat} {o : Option Nat} {rows rows' : List (List PV)} {zv : Value} (hT : elOf P T = some (e, sz, bytes)) (hT2 : elOf P T2 = some (e2, n2, n3)) (hz : zeroOf P e = some zv) (hzs : zv.cells.size = sz) (hb0 : (Nat.blt 0 sz && Nat.blt 0 bytes) = true)
    (hx : ∀ F w u, Rep F w (ρ x) u → Rep F w (.vs o n c) u) (hn : n = rows.length) (hi : H[i]? = some (.vec o sz rows c)) (hy : norm (ρ y) = .p (.lst rows')) (hsol : ∀ r ∈ rows', Solid sz r) (hroom : 2 * (rows.length + rows'.length) * bytes ≤ 281474976710656) :
    AOpR P ⟨dst, .call { callee := .builtin .append, args := #[x, y], argTypes := #[T, T2] }, ty, pos, aft, g⟩ ρ H (appendR i sz (rows ++ rows') H) :=
  aop_turn fun F w E hH hE => by
    subst hn
    have hr' : ∀ r ∈ rows', r.length = sz := fun r hr => (hsol r hr).1
    simp only [Bool.and_eq_true, Nat.blt_eq] at hb0
    obtain ⟨hu, inf, hinf, hs, hby⟩ := elOf_spec hT
    obtain ⟨hu2, _⟩ := elOf_spec hT2
    have h1 := hE x (by simp [Op.operands, Call.operands])
    have h2 := (hE y (by simp [Op.operands, Call.operands])).norm
    replace h1 := hx _ _ _ h1
    rw [hy] at h2
    have hobj := hH.obj _ (List.mem_of_getElem? hi)
    obtain ⟨ns, oy, cy, hEy, hns, hnsl, hnsr⟩ := firstCells_lst (P := P) h2 hr'
    obtain ⟨os, hos, hosl, hosr⟩ := firstCells_vec (P := P) hobj h1
    have hEx : ∃ base, E x = .slice base rows.length c ∧ (∀ b, o = some b → base = some ⟨b, 0, none⟩) := by
      cases o with
      | none =>
        simp only [Rep] at h1
        obtain ⟨e1, e2, a, ha⟩ := h1
        refine ⟨a, ?_, fun b hb => by cases hb⟩
        rw [ha, e1, e2]
      | some b => simp only [Rep] at h1; exact ⟨_, h1, fun b' hb => by injection hb with hb; subst hb; rfl⟩
    obtain ⟨base, hEx, hbase⟩ := hEx
    unfold zeroOf at hz
    have hz' : ∃ j, P.info? e = some j ∧ j.zero = some zv := by
      cases hq : P.info? e with
      | none => simp [hq] at hz
      | some j => exact ⟨j, rfl, by simpa [hq] using hz⟩
    obtain ⟨j, hj, hz'⟩ := hz'
    have hzv : ∀ w, (zeroValue e).run P w = .ok zv w := fun w => by simp [zeroValue, typeInfo, hj, hz', Sem.run_bind]
    have hti : ∀ w, (typeInfo e).run P w = .ok inf w := fun w => by simp [typeInfo, hinf]
    have hszr : ∀ w, (sizeOf e).run P w = .ok sz w := fun w => by simp [sizeOf, typeInfo, hinf, hs]
    have hlens := hobj.lens
    have hlall : ∀ r ∈ rows ++ rows', r.length = sz := by
      intro r hr
      rcases List.mem_append.1 hr with hr | hr
      · exact hlens r hr
      · exact hr' r hr
    have hlen : (rows ++ rows').length = rows.length + rows'.length := by simp
    have hlenof : ∀ w, (Builtin.lenOf (E y)).run P w = .ok rows'.length w := fun w => by rw [hEy]; rfl
    have hzeros : ((TypeDesc.slice e2) matches .int _) = false := rfl
    by_cases hcap : rows.length + rows'.length ≤ c
    · -- there is room
      have hrun : ∀ w', (match base with | some a => (storeCells (a.add (rows.length * sz)) ns).run P w = .ok () w' | none => w' = w) →
          (execOp E ⟨dst, .call { callee := .builtin .append, args := #[x, y], argTypes := #[T, T2] }, ty, pos, aft, g⟩).run P w = .ok (.value (.slice base (rows.length + rows'.length) c)) w' := by
        intro w' hst
        have hEx' := hEx
        simp only [execOp, resolve, invoke, builtin, Builtin.append_, hEx, Sem.run_bind, Sem.run_pure, Result.andThen_ok, List.map_toArray, List.map_cons, List.map_nil, List.getElem?_toArray, List.getElem?_cons_zero, List.getElem?_cons_succ, run_underlying hu, run_underlying hu2, hszr, pure_bind,
          Bool.false_eq_true, if_false, hlenof, Bool.not_false, if_true]
        rw [if_pos hcap]
        simp only [Sem.run_bind, hns, Result.andThen_ok]
        cases base with
        | none => simp only at hst; subst hst; simp
        | some a => simp only at hst; simp [hst]
      cases o with
      | none =>
        obtain ⟨rfl, rfl⟩ := hobj
        have hr0 : rows' = [] := by simpa using hcap
        subst hr0
        have hns0 : ns = [] := by
          apply List.eq_nil_of_length_eq_zero; simpa using hnsl
        subst hns0
        have hset : H.set i (.vec none sz ([] ++ []) 0) = H := by
          rw [List.append_nil]
          apply List.ext_getElem?
          intro k
          rw [List.getElem?_set]
          split
          · rename_i hk; subst hk; rw [hi]; split
            · rfl
            · rename_i hge; rw [List.getElem?_eq_none (by omega)] at hi; cases hi
          · rfl
        refine ⟨_, w, .vs none 0 0, H, F, hrun w ?_, ⟨none, 0, rfl, hset.symm⟩, .refl, hH, ?_⟩
        · cases base with
          | none => rfl
          | some a => rfl
        · simp only [Rep]; exact ⟨trivial, trivial, base, rfl⟩
      | some b =>
        obtain ⟨vs, T', hb, hcs, hcl, hrows⟩ := hobj
        obtain ⟨vs⟩ := vs
        have hbase' := hbase b rfl
        subst hbase'
        have hcs' : c * sz ≤ vs.length := by simpa using hcs
        have hlt : b < w.heap.size := (Array.getElem?_eq_some_iff.1 hb).1
        have hF : F b := hH.sub _ (List.mem_of_getElem? hi) b rfl
        cases hrr : rows' with
        | nil =>
          subst hrr
          have hns0 : ns = [] := by
            apply List.eq_nil_of_length_eq_zero; simpa using hnsl
          subst hns0
          have hset : H.set i (.vec (some b) sz (rows ++ []) c) = H := by
            rw [List.append_nil]
            apply List.ext_getElem?
            intro k
            rw [List.getElem?_set]
            split
            · rename_i hk; subst hk; rw [hi]; split
              · rfl
              · rename_i hge; rw [List.getElem?_eq_none (by omega)] at hi; cases hi
            · rfl
          refine ⟨_, w, .vs (some b) (rows ++ []).length c, H, F, hrun w rfl, ⟨some b, c, rfl, hset.symm⟩, .refl, hH, ?_⟩
          simp [Rep]
        | cons r0 rr =>
          rw [← hrr]
          have hnsne : ns ≠ [] := by
            intro e0; rw [e0] at hnsl; rw [hrr] at hnsl; simp [Nat.succ_mul] at hnsl; omega
          have hw : Wrote b (.cells ⟨splice vs (rows.length * sz) ns⟩ T' (0, 0)) w (w.setCells b (rows.length * sz) ns) := setCells_wrote ns hb hnsne
          have hfit : rows.length * sz + ns.length ≤ vs.length := by
            have : (rows.length + rows'.length) * sz ≤ c * sz := Nat.mul_le_mul_right sz hcap
            rw [Nat.add_mul] at this
            omega
          have st := hw.stable hF
          have hb' := hw.self hlt
          refine ⟨_, w.setCells b (rows.length * sz) ns, .vs (some b) (rows ++ rows').length c, _, F, hrun _ ?_, ⟨some b, c, rfl, rfl⟩, hw.trans hi rfl rfl, hw.HRel hH hi rfl rfl ?_, by simp [Rep]⟩
          · have ht := there_of hb (o := rows.length * sz) (n := ns.length) hfit
            have h1' : ∀ u ∈ ns, u.oneCell' = true := repL_one hnsr (solid_one hsol)
            have := run_storeCells_cells (P := P) b (rows.length * sz) ns 0 w (fun q hq => by simpa using (ht q hq).1) (fun q hq => by simpa using (ht q hq).2) h1'
            simp only [Nat.add_zero] at this
            simp only [Addr.add_mid, Nat.zero_add]
            exact this
          · refine ⟨⟨splice vs (rows.length * sz) ns⟩, T', hb', by simp only [splice_length, List.size_toArray]; exact hcs', by simp; omega, ?_⟩
            refine rows_append ?_ ?_
            · have : ∀ {rs : List (List PV)} {q : Nat}, q + rs.length * sz ≤ rows.length * sz → RowsRep F w b sz q rs → RowsRep F (w.setCells b (rows.length * sz) ns) b sz q rs := by
                intro rs
                induction rs with
                | nil => intro q _ _; simp [RowsRep]
                | cons a rs ih2 =>
                  intro q hq ha
                  simp only [RowsRep] at ha ⊢
                  simp only [List.length_cons, Nat.succ_mul] at hq
                  exact ⟨ha.1, cells_splice hb hb' st (.inl (by rw [ha.1]; omega)) ha.2.1, ih2 (by omega) ha.2.2⟩
              exact this (by omega) hrows
            · refine rowsRep_of (vs := ns) hr' ?_ (RepL.mono st _ _ hnsr)
              intro q u hq
              have := splice_get ns vs (rows.length * sz) q u hq hfit
              simp [World.cell?, hb', this]
    · -- a new array
      have hcap' : c < rows.length + rows'.length := by omega
      generalize hnc : Question.cut (.appendCap (rows.length + rows'.length) c e) (w.tape w.drawn (.appendCap (rows.length + rows'.length) c e)) = newCap
      have hncge : rows.length + rows'.length ≤ newCap := by rw [← hnc]; simp only [Question.cut]; omega
      have hnext := nextcap_le hcap'
      have hask : ∀ (b : Nat) w, (askRoom b).run P w = .ok () w := by intro b w; unfold askRoom; split <;> rfl
      let w1 : World := { w with drawn := w.drawn + 1 }
      have same : Stable F w F w1 := ⟨Nat.le_refl _, fun _ _ _ => rfl, fun _ h _ => h⟩
      have hobj' : ORep F w1 (.vec o sz rows c) := ORep.mono same _ (fun _ _ => rfl) hobj
      obtain ⟨ns', oy', cy', hEy', hns', hnsl', hnsr'⟩ := firstCells_lst (P := P) (Rep.mono same _ _ h2) hr'
      obtain ⟨os', hos', hosl', hosr'⟩ := firstCells_vec (P := P) hobj' (Rep.mono same _ _ h1)
      let vs : List Value := os' ++ ns' ++ (Builtin.zeroCells zv.cells (newCap - (rows.length + rows'.length))).toList
      have hrun : (execOp E ⟨dst, .call { callee := .builtin .append, args := #[x, y], argTypes := #[T, T2] }, ty, pos, aft, g⟩).run P w = .ok (.value (.slice (some ⟨w.heap.size, 0, none⟩) (rows.length + rows'.length) newCap)) (World.push w1 (.cells ⟨vs⟩ e (0, 0))) := by
        have hos2 := hos'
        rw [hEx] at hos2
        simp only [execOp, resolve, invoke, builtin, Builtin.append_, hEx, Sem.run_bind, Sem.run_pure, Result.andThen_ok, List.map_toArray, List.map_cons, List.map_nil, List.getElem?_toArray, List.getElem?_cons_zero, List.getElem?_cons_succ, run_underlying hu, run_underlying hu2, hszr, pure_bind,
          Bool.false_eq_true, if_false, hlenof, Bool.not_false, if_true]
        rw [if_neg hcap]
        simp only [Sem.run_bind, hti, Result.andThen_ok, hby]
        rw [if_neg (by simp; omega)]
        simp only [Sem.run_bind, Sem.run_pure, Result.andThen_ok, hti, hby, pure_bind]
        rw [if_neg (by
          have : Builtin.nextslicecap (rows.length + rows'.length) c * bytes ≤ 2 * (rows.length + rows'.length) * bytes := Nat.mul_le_mul_right bytes hnext
          simp; omega)]
        have hch : (choose (.appendCap (rows.length + rows'.length) c e)).run P w = .ok newCap w1 := by
          simp only [choose, Sem.run, Question.forced, Bool.false_eq_true, if_false, hnc]
          rfl
        simp only [Sem.run_bind, Sem.run_pure, Result.andThen_ok, pure_bind, hch, hti, hask, hos2, hns', hzv, newRow, newObj, Sem.run, Result.andThen]
        have evs : (⟨os'⟩ ++ ⟨ns'⟩ ++ Builtin.zeroCells zv.cells (newCap - (rows.length + rows'.length)) : Array Value) = ⟨vs⟩ := by
          apply Array.ext'; simp [vs]
        rw [evs]
        rfl
      have hvl : vs.length = newCap * sz := by
        simp only [vs, List.length_append, hosl', hnsl', Array.length_toList, zeroCells_len, hzs]
        rw [← Nat.add_mul, ← Nat.add_mul]
        congr 1
        omega
      have hlen2 : (rows ++ rows').flatten.length = (rows.length + rows'.length) * sz := by rw [lenAll hlall, hlen]
      have hpre : RepL F w1 ((rows ++ rows').flatten.map .p) (vs.take ((rows ++ rows').flatten.length)) := by
        have e1 : vs.take ((rows ++ rows').flatten.length) = os' ++ ns' := by
          rw [hlen2]
          have : (os' ++ ns').length = (rows.length + rows'.length) * sz := by rw [List.length_append, hosl', hnsl', Nat.add_mul]
          rw [← this]
          exact List.take_left
        rw [e1, List.flatten_append, List.map_append]
        exact hosr'.append hnsr'
      -- the tracked object lies in the new array
      have hH1 : HRel F H w1 := hH.stable' same (fun _ h => h) (fun _ _ _ _ => rfl) hH.bd
      have t1 : Trans F H w F H w1 := ⟨Nat.le_refl _, fun _ _ _ => rfl, fun _ h _ => h, fun _ h => .inl h, fun o ho b hb => .inl ⟨o, ho, hb⟩, rfl, rfl, rfl⟩
      obtain ⟨v', H', F', ⟨b', c', hv', hH'⟩, ht, hHr, hrep⟩ := vec_turn (T := e) (c := newCap) (vs := vs) (H := H) hH1 hlall hpre (by rw [hvl]; exact Nat.le_refl _) (by rw [hlen]; exact hncge)
      subst hv'
      subst hH'
      have hset : H.set i (.vec (some b') sz (rows ++ rows') c') = H.take i ++ .vec (some b') sz (rows ++ rows') c' :: H.drop (i + 1) := by
        rw [List.set_eq_take_append_cons_drop, if_pos (List.getElem?_eq_some_iff.1 hi).1]
      have hperm : (HObj.vec (some b') sz (rows ++ rows') c' :: H.eraseIdx i).Perm (H.set i (.vec (some b') sz (rows ++ rows') c')) := by
        rw [hset, List.eraseIdx_eq_take_drop_succ]
        exact List.perm_middle.symm
      have hsub : (HObj.vec (some b') sz (rows ++ rows') c' :: H.eraseIdx i).Sublist (HObj.vec (some b') sz (rows ++ rows') c' :: H) := (List.eraseIdx_sublist H i).cons_cons _
      refine ⟨_, _, .vs (some b') (rows ++ rows').length c', H.set i (.vec (some b') sz (rows ++ rows') c'), F', hrun, ⟨some b', c', rfl, rfl⟩, ?_, (hHr.sublist hsub).perm hperm, by rw [← hlen]; exact hrep⟩
      have := (t1.trans hH.bd ht).sublist hsub
      exact { this with keys := fun o ho => this.keys o (hperm.mem_iff.2 ho) }

/-- append(s, xs...) where s is owned and xs is pure. -/
theorem aop_append {T T2 e e2 : TypeId} {sz bytes n2 n3 c i n : Nat} {o : Option Nat} {rows rows' : List (List PV)} {zv : Value} (hT : elOf P T = some (e, sz, bytes)) (hT2 : elOf P T2 = some (e2, n2, n3)) (hz : zeroOf P e = some zv) (hzs : zv.cells.size = sz) (hb0 : (Nat.blt 0 sz && Nat.blt 0 bytes) = true)
    (hx : ρ x = .vs o n c) (hn : n = rows.length) (hi : H[i]? = some (.vec o sz rows c)) (hy : norm (ρ y) = .p (.lst rows')) (hsol : ∀ r ∈ rows', Solid sz r) (hroom : 2 * (rows.length + rows'.length) * bytes ≤ 281474976710656) :
    AOpR P ⟨dst, .call { callee := .builtin .append, args := #[x, y], argTypes := #[T, T2] }, ty, pos, aft, g⟩ ρ H (appendR i sz (rows ++ rows') H) :=
  aop_append_of hT hT2 hz hzs hb0 (fun _ _ _ h => by rw [hx] at h; exact h) hn hi hy hsol hroom

theorem oper_mono {o : Oper} {r : Option Nat} {a : Act} {w : World} {K K' : Act → World → Prop} {Q Q' : Exit → Act → World → Prop} (h : o.wpIn (W r) 0 P a w K Q) (hk : ∀ a w, K a w → K' a w) (hq : ∀ e a w, Q e a w → Q' e a w) : o.wpIn (W r) 0 P a w K' Q' := by
  unfold Oper.wpIn at *
  refine ⟨h.1, ?_⟩
  replace h := h.2
  generalize (o.semAt (W r).round a.eval).run P w = rr at *
  cases rr with
  | ok n w' =>
    cases n <;> simp only [Oper.uponIn] at h ⊢
    case value v => exact hk _ _ h
    case skip => exact hk _ _ h
    case defer d => exact hk _ _ h
    case enter f args =>
      refine ⟨h.1, h.2.mono fun e w'' he => ?_⟩
      cases e with
      | returned v => exact hk _ _ he
      | panicked c => exact hq _ _ _ he
      | outgrown => obtain ⟨a₀, w₀, h2⟩ := he; exact ⟨a₀, w₀, hq _ _ _ h2⟩
    case row row args => exact ⟨h.1, h.2.mono fun v w'' h => hk _ _ h⟩
    case round l' f tmps assign body =>
      refine ⟨h.1, h.2.mono fun e w'' he => ?_⟩
      cases e with
      | returned v => exact hk _ _ he
      | panicked c => exact hq _ _ _ he
      | outgrown => obtain ⟨a₀, w₀, h2⟩ := he; exact ⟨a₀, w₀, hq _ _ _ h2⟩
  | halt x w' =>
    cases x <;> simp only [Oper.uponIn] at h ⊢
    case panic v => exact hq _ _ _ h

/-- append(nil, xs...): pure data. -/
theorem aop_append_nil {T T2 e e2 : TypeId} {sz bytes n2 n3 d : Nat} {rows' : List (List PV)} {zv : Value} (hT : elOf P T = some (e, sz, bytes)) (hT2 : elOf P T2 = some (e2, n2, n3)) (hz : zeroOf P e = some zv) (hzs : zv.cells.size = sz) (hb0 : (Nat.blt 0 sz && Nat.blt 0 bytes) = true)
    (hx : ∀ F w u, Rep F w (ρ x) u → Rep F w (.vs none 0 0) u) (hy : norm (ρ y) = .p (.lst rows')) (hsol : ∀ r ∈ rows', Solid sz r) (hroom : 2 * rows'.length * bytes ≤ 281474976710656) :
    AOp P ⟨some d, .call { callee := .builtin .append, args := #[x, y], argTypes := #[T, T2] }, ty, pos, aft, g⟩ ρ H (.p (.lst rows')) H := by
  intro r F S a w hs hH hρ hd
  subst hH
  have hg : HRel F (.vec none sz [] 0 :: S.H) w := ⟨fun o ho b hb => by
      rcases List.mem_cons.1 ho with rfl | ho
      · cases hb
      · exact hs.heap.sub o ho b hb, by simpa [List.filterMap_cons, HObj.key] using hs.heap.nodup, fun o ho => by
      rcases List.mem_cons.1 ho with rfl | ho
      · exact ⟨rfl, rfl⟩
      · exact hs.heap.obj o ho, hs.heap.bd⟩
  have hs1 : SRel F ⟨S.n, S.τ, .vec none sz [] 0 :: S.H, S.D⟩ a w := ⟨hs.size, hs.tmp, hg, hs.defs⟩
  have h := aop_append_of (P := P) (dst := some d) (ty := ty) (pos := pos) (aft := aft) (g := g) (ρ := ρ) (H := .vec none sz [] 0 :: S.H) (i := 0) (o := none) (rows := []) (n := 0) (c := 0) hT hT2 hz hzs hb0 hx rfl rfl hy hsol (by simpa using hroom) r F _ a w hs1 rfl hρ hd
  refine oper_mono h ?_ ?_
  · rintro a' w' ⟨v, H', F', ⟨o, c, rfl, rfl⟩, hs', ht⟩
    simp only [List.nil_append, List.set_cons_zero, AState.put] at hs' ht
    obtain ⟨F'', hs'', ht''⟩ := ghost_freeze (n := S.n) (τ := put S.τ (some d) (.vs o rows'.length c)) (H := .vec o sz rows' c :: S.H) (D := S.D) (i := 0) [d] rfl (fun t ht => by simp at ht; subst ht; simp [put]) F' a' w' hs'
    have e : pureAt [d] (.p (.lst rows')) (put S.τ (some d) (.vs o rows'.length c)) = put S.τ (some d) (.p (.lst rows')) := by
      funext t
      simp only [pureAt, put, List.any_cons, List.any_nil, Bool.or_false]
      cases Nat.beq t d <;> rfl
    simp only [e, List.eraseIdx_cons_zero] at hs'' ht''
    have t := ht.trans hs.heap.bd ht''
    refine ⟨_, S.H, F'', ⟨rfl, rfl⟩, hs'', ⟨t.size, fun b hb hn => t.same b hb ?_, fun b hb hn => t.keep b hb ?_, t.fresh, fun o' ho b hb => ?_, t.os, t.out, t.tape⟩⟩
    · intro o' ho hk
      rcases List.mem_cons.1 ho with rfl | ho
      · cases hk
      · exact hn o' ho hk
    · intro o' ho hk
      rcases List.mem_cons.1 ho with rfl | ho
      · cases hk
      · exact hn o' ho hk
    · rcases t.keys o' ho b hb with ⟨o2, ho2, hk2⟩ | h
      · rcases List.mem_cons.1 ho2 with rfl | ho2
        · cases hk2
        · exact .inl ⟨o2, ho2, hk2⟩
      · exact .inr h
  · rintro e a' w' ⟨v, H', F', u, h, _⟩
    exact h.elim
end
end Go.Abs
/- The abstract program logic: steps with open outcomes; parts of slices; strings; panics; calls that borrow; the rest. -/
namespace Go.Abs
set_option linter.unusedVariables false
set_option linter.unusedSimpArgs false

section
variable {P : Program} {r : Option Nat} {ops : Array Oper} {Q : AExit → AState → Prop} {k : Nat} {n : Nat} {τ : Nat → AV} {H H' : List HObj} {D : List ADef} {dst : Option Tmp} {op : Op} {ty : TypeId} {pos : String} {aft : Array Edge} {v : AV}

theorem al_app {i sz : Nat} {rows : List (List PV)} (ho : ops[k]? = some ⟨dst, op, ty, pos, aft, none⟩) (hd : dstB dst n = true) (h : AOpR P ⟨dst, op, ty, pos, aft, none⟩ (ev τ) H (appendR i sz rows H))
    (next : ∀ o c, AL P r ops (k + 1) ⟨n, put τ dst (.vs o rows.length c), H.set i (.vec o sz rows c), D⟩ Q) : AL P r ops k ⟨n, τ, H, D⟩ Q :=
  al_stepR (S := ⟨n, τ, H, D⟩) ho (by simp [Wants]) (dst_ok hd) h (fun v H' ⟨o, c, h1, h2⟩ => by subst h1; subst h2; exact next o c) (fun _ _ h => h.elim)

theorem al_vec {sz : Nat} {rows : List (List PV)} (ho : ops[k]? = some ⟨dst, op, ty, pos, aft, none⟩) (hd : dstB dst n = true) (h : AOpR P ⟨dst, op, ty, pos, aft, none⟩ (ev τ) H (newVec sz rows H))
    (next : ∀ b c, AL P r ops (k + 1) ⟨n, put τ dst (.vs (some b) rows.length c), .vec (some b) sz rows c :: H, D⟩ Q) : AL P r ops k ⟨n, τ, H, D⟩ Q :=
  al_stepR (S := ⟨n, τ, H, D⟩) ho (by simp [Wants]) (dst_ok hd) h (fun v H' ⟨b, c, h1, h2⟩ => by subst h1; subst h2; exact next b c) (fun _ _ h => h.elim)

/-- An operation that ends the region by a panic. -/
def panicR (v : AV) (H : List HObj) : ARes → List HObj → Prop
  | .val _, _ => False
  | .panic v', H' => v' = v ∧ H' = H

theorem al_panic (ho : ops[k]? = some ⟨dst, op, ty, pos, aft, none⟩) (hd : dstB dst n = true) (h : AOpR P ⟨dst, op, ty, pos, aft, none⟩ (ev τ) H (panicR v H')) (pan : Q (.panic v) ⟨n, τ, H', D⟩) : AL P r ops k ⟨n, τ, H, D⟩ Q :=
  al_stepR (S := ⟨n, τ, H, D⟩) ho (by simp [Wants]) (dst_ok hd) h (fun _ _ h => h.elim) (fun v' H'' ⟨h1, h2⟩ => by subst h1; subst h2; exact pan)
end

section
variable {P : Program} {dst : Option Tmp} {ty : TypeId} {pos : String} {aft : Array Edge} {g : Option (Nat × Bool)} {ρ : Operand → AV} {H : List HObj} {x y z : Operand} {v : AV}

/-- panic(v). -/
theorem aop_panic {T : TypeId} {c : PV} (hx : ρ x = .p (.iface T c)) : AOpR P ⟨dst, .panic x, ty, pos, aft, g⟩ ρ H (panicR (.p (.iface T c)) H) := by
  intro r F S a w hs hH hρ hd
  subst hH
  refine wpIn_of rfl ?_
  have h1 : Rep F w (ρ x) (a.eval x) := by rw [← hρ x (by simp [Op.operands])]; exact hs.eval x
  rw [hx] at h1
  have h1' := h1
  simp only [Rep, PRep] at h1
  obtain ⟨u, hu, hc⟩ := h1
  have hrun : (execOp a.eval ⟨dst, .panic x, ty, pos, aft, g⟩).run P w = .halt (.panic (.iface T u)) w := by
    simp [execOp, Instr.panic, hu, goPanic, Sem.run_bind, Sem.run]
  simp only [hrun, Oper.uponIn]
  exact ⟨_, S.H, F, .iface T u, ⟨rfl, rfl⟩, rfl, by rw [hu] at h1'; exact h1', hs, .refl⟩

/-- x.(T), ok. -/
theorem aop_assert {T A : TypeId} {d : TypeDesc} {c : PV} (hu : P.underlying A = some d) (hd : (match d with | .interface _ => false | _ => true) = true) (hx : ρ x = .p (.iface A c)) : AOp P ⟨dst, .typeAssert x T A true, ty, pos, aft, g⟩ ρ H (.tup [.p c, .p (.bool true)]) H :=
  aop_pure fun F w E hH hE => by
    have h1 := hE x (by simp [Op.operands])
    rw [hx] at h1
    simp only [Rep, PRep] at h1
    obtain ⟨u, hv, hc⟩ := h1
    refine ⟨.tuple #[u, .bool true], ?_, ?_⟩
    · cases d <;> simp_all [execOp, Instr.typeAssert, Sem.run_bind, run_underlying hu]
    · simp only [Rep]
      exact ⟨[u, .bool true], rfl, by simp only [RepL, Rep, PRep]; exact ⟨u, _, rfl, hc, _, _, rfl, rfl, rfl⟩⟩

theorem eqGuard_str (op : BinOp) (t : TypeId) (a b : ByteArray) (w : World) : (eqGuard op t x y (.string a) (.string b)).run P w = .ok () w := by
  unfold eqGuard
  split <;> rfl

theorem aop_streq {T U : TypeId} {a b : ByteArray} (hx : ρ x = .p (.str a)) (hy : ρ y = .p (.str b)) : AOp P ⟨dst, .binOp .eql T x y U, ty, pos, aft, g⟩ ρ H (.p (.bool (a.toList == b.toList))) H :=
  aop_pure fun F w E hH hE => by
    have h1 := hE x (by simp [Op.operands])
    have h2 := hE y (by simp [Op.operands])
    rw [hx] at h1
    rw [hy] at h2
    simp only [Rep, PRep] at h1 h2
    refine ⟨.bool (a.toList == b.toList), ?_, by simp [Rep, PRep]⟩
    simp [execOp, Sem.run_bind, eqGuard_str, h1, h2, binOp, Op.stringOp]
theorem aop_strne {T U : TypeId} {a b : ByteArray} (hx : ρ x = .p (.str a)) (hy : ρ y = .p (.str b)) : AOp P ⟨dst, .binOp .neq T x y U, ty, pos, aft, g⟩ ρ H (.p (.bool (!(a.toList == b.toList)))) H :=
  aop_pure fun F w E hH hE => by
    have h1 := hE x (by simp [Op.operands])
    have h2 := hE y (by simp [Op.operands])
    rw [hx] at h1
    rw [hy] at h2
    simp only [Rep, PRep] at h1 h2
    refine ⟨.bool (!(a.toList == b.toList)), ?_, by simp [Rep, PRep]⟩
    simp [execOp, Sem.run_bind, eqGuard_str, h1, h2, binOp, Op.stringOp]

theorem aop_len_str {a : Operand} {T : TypeId} {s : ByteArray} (hu : P.underlying T = some .string) (hx : ρ a = .p (.str s)) :
    AOp P ⟨dst, .call { callee := .builtin .len, args := #[a], argTypes := #[T] }, ty, pos, aft, g⟩ ρ H (.p (.int .i64 s.size)) H :=
  aop_pure fun F w E hH hE => by
    have h1 := hE a (by simp [Op.operands, Call.operands])
    rw [hx] at h1
    simp only [Rep, PRep] at h1
    refine ⟨.int .i64 s.size, ?_, by simp [Rep, PRep]⟩
    simp [execOp, resolve, invoke, builtin, Builtin.len_, h1, Sem.run_bind, run_underlying hu, goInt]

theorem aop_index_str {T : TypeId} {k : IntKind} {i : Int} {s : ByteArray} {c : UInt8} (hu : P.underlying T = some .string) (hx : ρ x = .p (.str s)) (hy : ρ y = .p (.int k i)) (h0 : 0 ≤ i) (hc : s[i.toNat]? = some c) :
    AOp P ⟨dst, .index T x y, ty, pos, aft, g⟩ ρ H (.p (.int .u8 c.toNat)) H :=
  aop_pure fun F w E hH hE => by
    have h1 := hE x (by simp [Op.operands])
    have h2 := hE y (by simp [Op.operands])
    rw [hx] at h1
    rw [hy] at h2
    simp only [Rep, PRep] at h1 h2
    refine ⟨.int .u8 c.toNat, ?_, by simp [Rep, PRep]⟩
    simp [execOp, Instr.index, h1, h2, asIntOf, Sem.run_bind, run_underlying hu, h0, hc]

theorem aop_max {a b : Operand} {T T2 : TypeId} {m n : Int} (hx : ρ a = .p (.int .i64 m)) (hy : ρ b = .p (.int .i64 n)) :
    AOp P ⟨dst, .call { callee := .builtin .max, args := #[a, b], argTypes := #[T, T2] }, ty, pos, aft, g⟩ ρ H (.p (.int .i64 (max m n))) H :=
  aop_pure fun F w E hH hE => by
    have h1 := hE a (by simp [Op.operands, Call.operands])
    have h2 := hE b (by simp [Op.operands, Call.operands])
    rw [hx] at h1
    rw [hy] at h2
    simp only [Rep, PRep] at h1 h2
    refine ⟨.int .i64 (max m n), ?_, by simp [Rep, PRep]⟩
    have e : (if n > m then n else m) = max m n := by
      rw [Int.max_def]; split <;> split <;> omega
    simp [execOp, resolve, invoke, builtin, Builtin.max_, Builtin.max2, h1, h2]
    rw [← e]
theorem aop_min {a b : Operand} {T T2 : TypeId} {m n : Int} (hx : ρ a = .p (.int .i64 m)) (hy : ρ b = .p (.int .i64 n)) :
    AOp P ⟨dst, .call { callee := .builtin .min, args := #[a, b], argTypes := #[T, T2] }, ty, pos, aft, g⟩ ρ H (.p (.int .i64 (min m n))) H :=
  aop_pure fun F w E hH hE => by
    have h1 := hE a (by simp [Op.operands, Call.operands])
    have h2 := hE b (by simp [Op.operands, Call.operands])
    rw [hx] at h1
    rw [hy] at h2
    simp only [Rep, PRep] at h1 h2
    refine ⟨.int .i64 (min m n), ?_, by simp [Rep, PRep]⟩
    have e : (if n < m then n else m) = min m n := by
      rw [Int.min_def]; split <;> split <;> omega
    simp [execOp, resolve, invoke, builtin, Builtin.min_, Builtin.min2, h1, h2]
    rw [← e]

theorem RowsRep.drop {F : Nat → Prop} {w : World} {b sz : Nat} : ∀ {rows : List (List PV)} {o : Nat} (n : Nat), RowsRep F w b sz o rows → RowsRep F w b sz (o + n * sz) (rows.drop n)
  | rows, o, 0, h => by simpa using h
  | [], o, n + 1, h => by simp [RowsRep]
  | r :: rows, o, n + 1, h => by
    simp only [RowsRep] at h
    have := RowsRep.drop n h.2.2
    simp only [List.drop_succ_cons]
    have e : o + sz + n * sz = o + (n + 1) * sz := by rw [Nat.succ_mul]; omega
    rwa [e] at this
theorem RowsRep.take {F : Nat → Prop} {w : World} {b sz : Nat} : ∀ {rows : List (List PV)} {o : Nat} (n : Nat), RowsRep F w b sz o rows → RowsRep F w b sz o (rows.take n)
  | rows, o, 0, h => by simp [RowsRep]
  | [], o, n + 1, h => by simp [RowsRep]
  | r :: rows, o, n + 1, h => by
    simp only [RowsRep, List.take_succ_cons] at *
    exact ⟨h.1, h.2.1, RowsRep.take n h.2.2⟩

/-- s[lo:hi] of a pure slice. -/
theorem run_slice_lst {F : Nat → Prop} {w : World} {T e : TypeId} {sz bytes lo hi : Nat} {rows : List (List PV)} {u : Value} {lv hv : Option Value} (hT : elOf P T = some (e, sz, bytes)) (h : Rep F w (.p (.lst rows)) u) (hr : ∀ r ∈ rows, r.length = sz)
    (hl : (lv = none ∧ lo = 0) ∨ ∃ k, lv = some (.int k lo)) (hh : (hv = none ∧ hi = rows.length) ∨ ∃ k, hv = some (.int k hi)) (h1 : lo ≤ hi) (h2 : hi ≤ rows.length) :
    ∃ u', (Instr.sliceAt T u lv hv none).run P w = .ok u' w ∧ Rep F w (.p (.lst ((rows.take hi).drop lo))) u' := by
  obtain ⟨hu, j, hj, hs, _⟩ := elOf_spec hT
  have hval : ∃ o c, u = .slice o rows.length c ∧ rows.length ≤ c := by
    simp only [Rep, PRep] at h
    rcases h with ⟨rfl, o, c, rfl⟩ | ⟨b, o, c, sz', rfl, hF, hb, hc, hrows⟩
    · exact ⟨o, c, rfl, by simp⟩
    · exact ⟨_, c, rfl, hc⟩
  obtain ⟨o, c, rfl, hc⟩ := hval
  have hb : (Instr.sliceBounds true rows.length c lv hv none).run P w = .ok (lo, hi, c) w := by
    have b1 : ∀ (k : IntKind) (m y : Nat) cd, m ≤ y → (Instr.sliceBound (.int k (m : Int)) y cd).run P w = .ok m w := by
      intro k m y cd hmy
      unfold Instr.sliceBound
      simp only [asIntOf, Sem.run_bind, Sem.run_pure, Result.andThen_ok]
      rw [if_pos ⟨by omega, by omega⟩]
      simp
    unfold Instr.sliceBounds
    rcases hh with ⟨rfl, rfl⟩ | ⟨k, rfl⟩ <;> rcases hl with ⟨rfl, rfl⟩ | ⟨k', rfl⟩
    · simp
    · simp [Sem.run_bind, b1 _ _ _ _ h1]
    · simp [Sem.run_bind, b1 _ _ _ _ (by omega : hi ≤ c)]
    · simp [Sem.run_bind, b1 _ _ _ _ (by omega : hi ≤ c), b1 _ _ _ _ h1]
  have hszr : (sizeOf e).run P w = .ok sz w := by simp [sizeOf, typeInfo, hj, hs]
  refine ⟨.slice (if c = lo then o else o.map (·.add (lo * sz))) (hi - lo) (c - lo), ?_, ?_⟩
  · simp only [Instr.sliceAt, Sem.run_bind, run_underlying hu, Result.andThen_ok, Instr.slice, hb, hszr, Sem.run_pure]
  · have hlen : ((rows.take hi).drop lo).length = hi - lo := by simp; omega
    simp only [Rep, PRep] at h ⊢
    by_cases hemp : (rows.take hi).drop lo = []
    · left
      have h0 : hi - lo = 0 := by rw [hemp] at hlen; simp at hlen; omega
      exact ⟨hemp, (if c = lo then o else o.map (·.add (lo * sz))), c - lo, by rw [h0]⟩
    · rcases h with ⟨rfl, _⟩ | ⟨b, o', c', sz', hv', hF, hb', hc', hrows⟩
      · simp at hemp
      · injection hv' with e1 e2 e3
        subst e1; subst e3
        right
        have hlt : lo < hi := by
          rcases Nat.lt_or_ge lo hi with h | h
          · exact h
          · exfalso; apply hemp; apply List.eq_nil_of_length_eq_zero; omega
        have hsz' : sz' = sz := by
          cases rows with
          | nil => simp at h2; omega
          | cons r rows => have := hr r (by simp); simp only [RowsRep] at hrows; omega
        subst hsz'
        rw [if_neg (by omega)]
        refine ⟨b, o' + lo * sz', c - lo, sz', ?_, hF, hb', by omega, ?_⟩
        · rw [hlen]; simp [Addr.add_mid]
        · exact (hrows.take hi).drop lo

theorem aop_slice {T e : TypeId} {sz bytes lo hi : Nat} {rows : List (List PV)} {l h : Option Operand} (hT : elOf P T = some (e, sz, bytes)) (hx : ρ x = .p (.lst rows)) (hr : ∀ r ∈ rows, r.length = sz)
    (hl : match l with | none => lo = 0 | some y => ∃ k, ρ y = .p (.int k lo)) (hh : match h with | none => hi = rows.length | some y => ∃ k, ρ y = .p (.int k hi)) (h1 : lo ≤ hi) (h2 : hi ≤ rows.length) :
    AOp P ⟨dst, .slice T x l h none, ty, pos, aft, g⟩ ρ H (.p (.lst ((rows.take hi).drop lo))) H :=
  aop_pure fun F w E hH hE => by
    have e1 := hE x (by simp [Op.operands])
    rw [hx] at e1
    obtain ⟨u', hu', hrep⟩ := run_slice_lst (P := P) (lv := l.map E) (hv := h.map E) (lo := lo) (hi := hi) hT e1 hr (by
      cases l with
      | none => exact .inl ⟨rfl, hl⟩
      | some y =>
        obtain ⟨k, hk⟩ := hl
        have := hE y (by simp [Op.operands])
        rw [hk] at this
        simp only [Rep, PRep] at this
        exact .inr ⟨k, by simp [this]⟩) (by
      cases h with
      | none => exact .inl ⟨rfl, hh⟩
      | some y =>
        obtain ⟨k, hk⟩ := hh
        have := hE y (by simp [Op.operands])
        rw [hk] at this
        simp only [Rep, PRep] at this
        exact .inr ⟨k, by simp [this]⟩) h1 h2
    exact ⟨u', by simp only [execOp, Sem.run_bind, Option.map_none, hu', Result.andThen_ok, Sem.run_pure], hrep⟩

end

/-  A call that is handed what the caller owns, to be read alone -/
/-- Values that need no memory. -/
def bare : AV → Bool
  | .p (.bool _) | .p (.int _ _) | .p (.str _) => true
  | _ => false

theorem rep_bare {F F' : Nat → Prop} {w w' : World} {x : AV} {v : Value} (hb : bare x = true) (h : Rep F w x v) : Rep F' w' x v := by
  cases x with
  | p y => cases y <;> simp_all [bare, Rep, PRep]
  | _ => simp [bare] at hb

/-- The arguments, where those that are owned (the object i of H) are read as pure slices. -/
def lends (o : Option Nat) (n c : Nat) (rows : List (List PV)) : List AV → List AV → Prop
  | [], A => A = []
  | x :: xs, A => ∃ y ys, A = y :: ys ∧ (y = x ∨ y = norm x ∨ (x = .vs o n c ∧ y = .p (.lst rows))) ∧ lends o n c rows xs ys

section
variable {P : Program} {dst : Option Tmp} {ty : TypeId} {pos : String} {aft : Array Edge} {g : Option (Nat × Bool)} {ρ : Operand → AV} {H : List HObj} {x y z : Operand} {v : AV}

theorem repL_lends {F : Nat → Prop} {w : World} {o : Option Nat} {sz c : Nat} {rows : List (List PV)} (hbd : ∀ b, o = some b → b < w.heap.size) (ho : ORep F w (.vec o sz rows c)) (st : Stable F w (fun b => F b ∧ o ≠ some b) w) : ∀ {xs A : List AV} {vs : List Value}, lends o rows.length c rows xs A → RepL F w xs vs → RepL (fun b => F b ∧ o ≠ some b) w A vs
  | [], A, vs, h, hv => by simp only [lends] at h; subst h; simpa [RepL] using hv
  | x :: xs, A, vs, h, hv => by
    simp only [lends] at h
    obtain ⟨y, ys, rfl, hy, hys⟩ := h
    simp only [RepL] at hv ⊢
    obtain ⟨u, us, rfl, h1, h2⟩ := hv
    refine ⟨u, us, rfl, ?_, repL_lends hbd ho st hys h2⟩
    rcases hy with rfl | rfl | ⟨rfl, rfl⟩
    · exact Rep.mono st _ _ h1
    · exact (Rep.mono st _ _ h1).norm
    · exact rep_freeze hbd ho h1 _ st (fun b hb h => h.2 hb)

theorem aop_lend {c : Call} {f : Operand} {fid : FuncId} {A : List AV} {i cc sz : Nat} {o : Option Nat} {rows : List (List PV)} (hc : c.callee = .value f) (hf : ρ f = .p (.fn fid)) (hi : H[i]? = some (.vec o sz rows cc)) (h : Fun P fid A v) (hA : lends o rows.length cc rows (c.args.toList.map ρ) A) (hb : bare v = true) :
    AOp P ⟨dst, .call c, ty, pos, aft, g⟩ ρ H v H := by
  intro r F S a w hs hH hρ hd
  subst hH
  refine wpIn_of rfl ?_
  have hev : ∀ x ∈ (f :: c.args.toList), Rep F w (ρ x) (a.eval x) := by
    intro x hx
    rw [← hρ x (by simp [Op.operands, Call.operands, hc]; simpa using hx)]
    exact hs.eval x
  have hfv : a.eval f = .func (.func fid) #[] #[] := by
    have := hev f (by simp)
    rw [hf] at this
    simpa only [Rep, PRep] using this
  have hargs : RepL F w (c.args.toList.map ρ) (c.args.toList.map a.eval) := RepL.mapEval _ fun x hx => hev x (by simp [hx])
  have hrun : (execOp a.eval ⟨dst, .call c, ty, pos, aft, g⟩).run P w = .ok (.enter fid ⟨c.args.toList.map a.eval⟩) w := by
    have e : (c.args.map a.eval : Array Value) = ⟨c.args.toList.map a.eval⟩ := by
      apply Array.ext'
      simp
    simp [execOp, resolve, hc, Deferred.ofValue, hfv, invoke, run_callFunc h.1, e]
  simp only [hrun, Oper.uponIn]
  have hmem := List.mem_of_getElem? hi
  have hbd : ∀ b, o = some b → b < w.heap.size := fun b hb => hs.heap.bd b (hs.heap.sub _ hmem b (by rw [← hb]; rfl))
  have st : Stable F w (fun b => F b ∧ o ≠ some b) w := ⟨Nat.le_refl _, fun _ _ _ => rfl, fun _ h _ h' => h h'.1⟩
  have hrep := repL_lends hbd (hs.heap.obj _ hmem) st hA hargs
  have hnil : HRel (fun b => F b ∧ o ≠ some b) [] w := ⟨fun _ h => by simp at h, by simp, fun _ h => by simp at h, fun b hb => hs.heap.bd b hb.1⟩
  refine ⟨fun h => (by cases h), CallsIn.mono (inW r (h.2 _ w _ hnil hrep)) ?_⟩
  rintro e w' ⟨r, H', F', hR, he, hH2, ht⟩
  cases r with
  | panic v' => exact hR.elim
  | val v' =>
    obtain ⟨rfl, rfl⟩ := hR
    obtain ⟨u, rfl, hu⟩ := he
    have t2 : Trans F S.H w (fun b => F' b ∨ (F b ∧ b < w.heap.size)) S.H w' :=
      ⟨ht.size, fun b hb _ => ht.same b hb (fun _ h => by simp at h), fun b hb _ => .inr ⟨hb, hs.heap.bd b hb⟩, fun b hb => hb.elim (fun h => (ht.fresh b h).imp And.left id) (fun h => .inl h.1), fun o ho b hb => .inl ⟨o, ho, hb⟩, ht.os, ht.out, ht.tape⟩
    have hH3 : HRel (fun b => F' b ∨ (F b ∧ b < w.heap.size)) S.H w' := by
      refine hs.heap.stable' (t2.stable hs.heap.sub) (fun b h => .inr ⟨h, hs.heap.bd b h⟩) (fun x hx b hb => ht.same b (hs.heap.bd b (hs.heap.sub x hx b hb)) (fun _ h => by simp at h)) ?_
      intro b hb
      rcases hb with h | h
      · exact hH2.bd b h
      · exact Nat.lt_of_lt_of_le h.2 ht.size
    exact ⟨v', S.H, _, ⟨rfl, rfl⟩, hs.put hd (t2.stable hs.heap.sub) hH3 (rep_bare hb hu), t2⟩
end
end Go.Abs
/- The abstract program logic: ranges over functions; deferred calls that recover. -/
namespace Go.Abs
set_option linter.unusedVariables false
set_option linter.unusedSimpArgs false

/-- A call of yield, as a contract. -/
def AYield (P : Program) (l : Nat) (args : List AV) (H : List HObj) (R : ARes → List HObj → Prop) : Prop :=
  ∀ F w vs, HRel F H w → RepL F w args vs → ∃ f tmps assign body, (Instr.yield l ⟨vs⟩).run P w = .ok (.round l f tmps assign body) w ∧
    ∀ r, RoundIn (W r) 0 P l f tmps assign body w fun e w' => ∃ rr H' F', R rr H' ∧ EndRep F' w' rr e ∧ HRel F' H' w' ∧ Trans F H w F' H' w'

theorem aop_yield {P : Program} {dst : Option Tmp} {c : Call} {ty : TypeId} {pos : String} {aft : Array Edge} {g : Option (Nat × Bool)} {f : Operand} {l : Nat}
    {ρ : Operand → AV} {H Hs Hf : List HObj} {A : List AV} {R : ARes → List HObj → Prop}
    (hc : c.callee = .value f) (hf : ρ f = .fn (.yield l) [] []) (hp : H.Perm (Hs ++ Hf)) (h : AYield P l A Hs R) (hA : c.args.toList.map ρ = A) :
    AOpR P ⟨dst, .call c, ty, pos, aft, g⟩ ρ H (fun r H' => ∃ Hs', R r Hs' ∧ H' = Hs' ++ Hf) := by
  intro r F S a w hs hH hρ hd
  subst hH
  refine wpIn_of rfl ?_
  have hev : ∀ x ∈ (f :: c.args.toList), Rep F w (ρ x) (a.eval x) := by
    intro x hx
    rw [← hρ x (by simp [Op.operands, Call.operands, hc]; simpa using hx)]
    exact hs.eval x
  have hfv : a.eval f = .func (.yield l) #[] #[] := by
    have := hev f (by simp)
    rw [hf] at this
    simp only [Rep, RepL] at this
    obtain ⟨fs, cs, h1, rfl, rfl⟩ := this
    exact h1
  have hargs : RepL F w A (c.args.toList.map a.eval) := by rw [← hA]; exact RepL.mapEval _ fun x hx => hev x (by simp [hx])
  have hH' := hs.heap.perm hp
  have hHs : HRel F Hs w := hH'.sublist (List.sublist_append_left _ _)
  obtain ⟨f', tmps, assign, body, hy, hround⟩ := h F w _ hHs hargs
  have hrun : (execOp a.eval ⟨dst, .call c, ty, pos, aft, g⟩).run P w = .ok (.round l f' tmps assign body) w := by
    have e : (c.args.map a.eval : Array Value) = ⟨c.args.toList.map a.eval⟩ := by
      apply Array.ext'
      simp
    simp [execOp, resolve, hc, Deferred.ofValue, hfv, invoke, e, hy]
  simp only [hrun, Oper.uponIn]
  refine ⟨fun h => (by cases h), (hround r).mono ?_⟩
  rintro e w' ⟨rr, H', F', hR, he, hH2, ht⟩
  have htf := ht.frame (H := S.H) hp
  cases rr with
  | val v =>
    obtain ⟨u, rfl, hu⟩ := he
    exact ⟨v, H' ++ Hf, F', ⟨H', hR, rfl⟩, hs.put hd (htf.stable hs.heap.sub) (hH'.frame hH2 ht) hu, htf⟩
  | panic v =>
    obtain ⟨u, rfl, hu⟩ := he
    have := hs.put (d := none) (fun _ h => by cases h) (htf.stable hs.heap.sub) (hH'.frame hH2 ht) (rep_any undef)
    exact ⟨v, H' ++ Hf, F', u, ⟨H', hR, rfl⟩, rfl, hu, this, htf⟩

def putAll (τ : Nat → AV) : List Tmp → List AV → Nat → AV
  | t :: ts, x :: xs => putAll (put τ (some t) x) ts xs
  | _, _ => τ

theorem putAll_rep {F : Nat → Prop} {w : World} : ∀ (ts : List Tmp) (xs : List AV) (vs : List Value) (τ : Nat → AV) (tmps : Array Value), (∀ t ∈ ts, t < tmps.size) → (∀ t, Rep F w (τ t) (tmps.getD t undef)) → RepL F w xs vs →
    (∀ t, Rep F w (putAll τ ts xs t) (((ts.zip vs).foldl (fun (m : Array Value) p => m.setIfInBounds p.1 p.2) tmps).getD t undef)) ∧ ((ts.zip vs).foldl (fun (m : Array Value) p => m.setIfInBounds p.1 p.2) tmps).size = tmps.size
  | [], xs, vs, τ, tmps, _, h, _ => by simp only [putAll, List.zip_nil_left, List.foldl_nil]; exact ⟨h, trivial⟩
  | t :: ts, [], vs, τ, tmps, _, h, hv => by
    simp only [RepL] at hv
    subst hv
    simp only [putAll, List.zip_nil_right, List.foldl_nil]; exact ⟨h, trivial⟩
  | t :: ts, x :: xs, vs, τ, tmps, hts, h, hv => by
    simp only [RepL] at hv
    obtain ⟨u, us, rfl, h1, h2⟩ := hv
    simp only [putAll, List.zip_cons_cons, List.foldl_cons]
    have := putAll_rep ts xs us (put τ (some t) x) (tmps.setIfInBounds t u) (fun t' ht' => by simpa using hts t' (by simp [ht'])) ?_ h2
    · simpa using this
    · intro t'
      by_cases e : t' = t
      · subst e
        have hlt := hts t' (by simp)
        simp [put, hlt, h1]
      · simpa [put, beq_ne e, Array.getElem?_setIfInBounds_ne (Ne.symm e)] using h t'

/-- How a round ends. -/
def roundQ (l : Nat) (L : ALoop) (R : ARes → List HObj → Prop) : AExit → AState → Prop
  | .normal, S => ∃ i H', S.H[i]? = some (.loop l { L with state := .busy }) ∧ H'.Sublist (S.H.set i (.loop l { L with state := .ready, pending := none })) ∧ R (.val (.p (.bool true))) H'
  | .ret, S => ∃ i H', S.H[i]? = some (.loop l { L with state := .busy }) ∧ H'.Sublist (S.H.set i (.loop l { L with state := .done, pending := some .ret })) ∧ R (.val (.p (.bool false))) H'
  | .exit id, S => ∃ i H', S.H[i]? = some (.loop l { L with state := .busy }) ∧ H'.Sublist (S.H.set i (.loop l { L with state := .done, pending := some (.exit id) })) ∧ R (.val (.p (.bool false))) H'
  | .panic _, _ => False

theorem loop_wrote {F : Nat → Prop} {w : World} {H : List HObj} {l i : Nat} {L L' : ALoop} {rec rec' : Loop} (hH : HRel F H w) (hi : H[i]? = some (.loop l L)) (hr : w.heap[l]? = some (.loop rec)) (hL : L'.n = L.n ∧ L'.τ = L.τ ∧ rec'.tmps = rec.tmps ∧ rec.tmps.size = L.n ∧ (∀ t, Rep F w (L.τ t) (rec.tmps.getD t undef)) ∧ rec'.state = L'.state ∧ rec'.pending = L'.pending ∧ rec'.params = L'.params ∧ rec'.assign = L'.assign ∧ rec'.body = L'.body) :
    HRel F (H.set i (.loop l L')) (w.putObj l (.loop rec')) ∧ Trans F H w F (H.set i (.loop l L')) (w.putObj l (.loop rec')) ∧ Stable F w F (w.putObj l (.loop rec')) := by
  have hlt : l < w.heap.size := (Array.getElem?_eq_some_iff.1 hr).1
  have hF : F l := hH.sub _ (List.mem_of_getElem? hi) l rfl
  have hw : Wrote l (.loop rec') w (w.putObj l (.loop rec')) := ⟨rfl, rfl, rfl, rfl⟩
  have st := hw.stable hF
  obtain ⟨h1, h2, h3, h4, h5, h6, h7, h8, h9, h10⟩ := hL
  refine ⟨hw.HRel hH hi rfl rfl ⟨rec', hw.self hlt, h6, h7, h8, h9, h10, by rw [h3, h4, h1], fun t => ?_⟩, hw.trans hi rfl rfl, st⟩
  rw [h2, h3]
  exact Rep.mono st _ _ (h5 t)

/-- A ROUND: yield's contract out of the walk of the loop's body. -/
theorem ayield_of {P : Program} {l : Nat} {L : ALoop} {H : List HObj} {i : Nat} {A : List AV} {R : ARes → List HObj → Prop} (hi : H[i]? = some (.loop l L)) (hst : L.state = .ready) (hsz : A.length = L.params.size) (hts : (L.params.toList.all fun t => Nat.blt t L.n) = true)
    (h : AWp P (some l) L.assign ⟨L.n, putAll L.τ L.params.toList A, H, []⟩ (fun e S => e = .normal ∧ ∃ j, S.H[j]? = some (.loop l L) ∧ AWp P (some l) L.body ⟨S.n, S.τ, S.H.set j (.loop l { L with state := .busy }), S.D⟩ (roundQ l L R))) :
    AYield P l A H R := by
  intro F w vs hH hv
  obtain ⟨rec, hrec, h1, h2, h3, h4, h5, h6, h7⟩ := hH.obj _ (List.mem_of_getElem? hi)
  have hvs : (⟨vs⟩ : Array Value).size = rec.params.size := by rw [h3, ← hsz]; simpa using hv.length
  refine ⟨rec.fn, ((rec.params.zip ⟨vs⟩).foldl (fun tmps (t, a) => tmps.setIfInBounds t a) rec.tmps), rec.assign, rec.body, ?_, ?_⟩
  · exact run_yield (P := P) hrec hvs
  · intro r
    have hput := putAll_rep (F := F) (w := w) L.params.toList A vs L.τ rec.tmps (fun t ht => by
      have := List.all_eq_true.1 hts t ht
      rw [h6]; simpa [Nat.blt_eq] using this) h7 hv
    have e1 : ((rec.params.zip ⟨vs⟩).foldl (fun tmps (t, a) => tmps.setIfInBounds t a) rec.tmps) = ((L.params.toList.zip vs).foldl (fun (m : Array Value) p => m.setIfInBounds p.1 p.2) rec.tmps) := by
      rw [h3, ← Array.foldl_toList, Array.toList_zip]
    rw [e1]
    have hs0 : SRel F ⟨L.n, putAll L.τ L.params.toList A, H, []⟩ { tmps := ((L.params.toList.zip vs).foldl (fun (m : Array Value) p => m.setIfInBounds p.1 p.2) rec.tmps), defers := [] } w :=
      ⟨by rw [hput.2, h6], hput.1, hH, by simp [DRep]⟩
    rw [h4, h5]
    refine roundIn_of_wpIn (F := W r) trivial ?_
    refine wpIn_mono (h F _ w hs0) ?_
    rintro e a' w' ⟨e', S', F', ⟨rfl, j, hj, hbody⟩, he, hs', ht⟩
    obtain rfl : e = .normal := he
    obtain ⟨rec1, hrec1, g1, g2, g3, g4, g5, g6, g7⟩ := hs'.heap.obj _ (List.mem_of_getElem? hj)
    refine ⟨_, run_beginRound (P := P) hrec1 (by rw [g1, hst]), ?_⟩
    obtain ⟨q1, q2, q3⟩ := loop_wrote (L' := { L with state := .busy }) (rec' := { rec1 with state := .busy }) hs'.heap hj hrec1 ⟨rfl, rfl, rfl, g6, g7, rfl, g2, g3, g4, g5⟩
    have hs2 : SRel F' ⟨S'.n, S'.τ, S'.H.set j (.loop l { L with state := .busy }), S'.D⟩ a' (w'.putObj l (.loop { rec1 with state := .busy })) :=
      ⟨hs'.size, fun t => Rep.mono q3 _ _ (hs'.tmp t), q1, DRep.mono q3 _ _ hs'.defs⟩
    refine wpIn_mono (hbody F' a' _ hs2) ?_
    rintro e2 a2 w2 ⟨e2', S2, F2, hq, he2, hs3, ht2⟩
    have t12 := (ht.trans hH.bd q2).trans hH.bd ht2
    have fin : ∀ (k : Nat) (H' : List HObj) (jump : Option Code) (b : Bool), jump.isNone = b → S2.H[k]? = some (.loop l { L with state := .busy }) → H'.Sublist (S2.H.set k (.loop l { L with state := if jump.isNone then .ready else .done, pending := jump })) → R (.val (.p (.bool b))) H' →
        ∃ v w3, (Instr.endRound l jump).run P w2 = .ok v w3 ∧ ∃ rr H' F', R rr H' ∧ EndRep F' w3 rr (.returned v) ∧ HRel F' H' w3 ∧ Trans F H w F' H' w3 := by
      intro k H' jump b hb hk hsub hR
      obtain ⟨rec2, hrec2, k1, k2, k3, k4, k5, k6, k7⟩ := hs3.heap.obj _ (List.mem_of_getElem? hk)
      obtain ⟨p1, p2, p3⟩ := loop_wrote (L' := { L with state := if jump.isNone then .ready else .done, pending := jump }) (rec' := { rec2 with state := if jump.isNone then .ready else .done, pending := jump }) hs3.heap hk hrec2 ⟨rfl, rfl, rfl, k6, k7, rfl, rfl, k3, k4, k5⟩
      refine ⟨_, _, run_endRound (P := P) jump hrec2, _, H', F2, hR, ⟨_, rfl, by simp [Rep, PRep, hb]⟩, p1.sublist hsub, (t12.trans hH.bd p2).sublist hsub⟩
    cases e2' with
    | normal => obtain rfl : e2 = .normal := he2; obtain ⟨k, H', hk, hsub, hR⟩ := hq; exact fin k H' none true rfl hk hsub hR
    | ret => obtain rfl : e2 = .ret := he2; obtain ⟨k, H', hk, hsub, hR⟩ := hq; exact fin k H' (some .ret) false rfl hk hsub hR
    | exit id => obtain rfl : e2 = .exit id := he2; obtain ⟨k, H', hk, hsub, hR⟩ := hq; exact fin k H' (some (.exit id)) false rfl hk hsub hR
    | panic v => exact hq.elim
end Go.Abs
/- The abstract program logic: the statement 'range over a function'; a function that leaves with marks and deferred calls. -/
namespace Go.Abs
set_option linter.unusedVariables false
set_option linter.unusedSimpArgs false

theorem perm_erase {α : Type} : ∀ {l : List α} {i : Nat} {x : α}, l[i]? = some x → l.Perm (x :: l.eraseIdx i)
  | [], i, x, h => by simp at h
  | y :: l, 0, x, h => by simp at h; subst h; exact .refl _
  | y :: l, i + 1, x, h => by
    simp at h
    simp only [List.eraseIdx_cons_succ]
    exact ((perm_erase h).cons y).trans (.swap x y _)

def rangeQ (P : Program) (l d : Nat) (S : AState) (Q : AExit → AState → Prop) : ARes → List HObj → Prop
  | .val _, H' => ∃ (i : Nat) (L : ALoop), H'[i]? = some (HObj.loop l L) ∧ L.state ≠ LoopState.busy ∧
      (match L.pending with
       | none => Q .normal ⟨S.n, S.τ, H'.eraseIdx i, .mark d :: S.D⟩
       | some c => AWp P none c ⟨S.n, S.τ, H'.eraseIdx i, .mark d :: S.D⟩ Q)
  | .panic v, H' => Q (.panic v) ⟨S.n, S.τ, H', .mark d :: S.D⟩

theorem Pushed_dfr {F : Nat → Prop} {w : World} {H : List HObj} (hH : HRel F H w) : HRel (fun b => F b ∨ b = w.heap.size) (.dfr w.heap.size :: H) (w.alloc (.deferred (some []))) ∧ Trans F H w (fun b => F b ∨ b = w.heap.size) (.dfr w.heap.size :: H) (w.alloc (.deferred (some []))) := by
  have same : ∀ b, b < w.heap.size → (w.alloc (.deferred (some []))).heap[b]? = w.heap[b]? := fun b hb => by
    show (w.heap.push _)[b]? = _
    simp [Array.getElem?_push, Nat.ne_of_lt hb]
  have st : Stable F w (fun b => F b ∨ b = w.heap.size) (w.alloc (.deferred (some []))) := ⟨by simp, fun b _ hb => same b hb, fun b hf hb h => h.elim hf fun h => by omega⟩
  refine ⟨⟨?_, ?_, ?_, ?_⟩, ⟨by simp, fun b hb _ => same b hb, fun b h _ => .inl h, ?_, ?_, rfl, rfl, rfl⟩⟩
  · rintro o ho b hb
    rcases List.mem_cons.1 ho with rfl | ho
    · simp only [HObj.key, Option.some.injEq] at hb; exact .inr hb.symm
    · exact .inl (hH.sub o ho b hb)
  · simp only [List.filterMap_cons, HObj.key, List.nodup_cons]
    refine ⟨fun h => ?_, hH.nodup⟩
    obtain ⟨o, ho, hk⟩ := List.mem_filterMap.1 h
    exact Nat.lt_irrefl _ (hH.bd _ (hH.sub o ho _ hk))
  · rintro o ho
    rcases List.mem_cons.1 ho with rfl | ho
    · exact World.alloc_heap_new w _
    · exact ORep.mono st o (fun b hb => same b (hH.bd b (hH.sub o ho b hb))) (hH.obj o ho)
  · rintro b (h | rfl)
    · have := hH.bd b h; simp; omega
    · simp
  · rintro b (h | rfl)
    · exact .inl h
    · exact .inr (Nat.le_refl _)
  · rintro o ho b hb
    rcases List.mem_cons.1 ho with rfl | ho
    · simp only [HObj.key, Option.some.injEq] at hb; exact .inr (by omega)
    · exact .inl ⟨o, ho, hb⟩

theorem Pushed_loop {F : Nat → Prop} {w : World} {H : List HObj} (hH : HRel F H w) {L : ALoop} {r : Loop} (h1 : r.state = L.state) (h2 : r.pending = L.pending) (h3 : r.params = L.params) (h4 : r.assign = L.assign) (h5 : r.body = L.body) (h6 : r.tmps.size = L.n) (h7 : ∀ t, Rep F w (L.τ t) (r.tmps.getD t undef)) :
    HRel (fun b => F b ∨ b = w.heap.size) (.loop w.heap.size L :: H) (w.alloc (.loop r)) ∧ Trans F H w (fun b => F b ∨ b = w.heap.size) (.loop w.heap.size L :: H) (w.alloc (.loop r)) := by
  have same : ∀ b, b < w.heap.size → (w.alloc (.loop r)).heap[b]? = w.heap[b]? := fun b hb => by
    show (w.heap.push _)[b]? = _
    simp [Array.getElem?_push, Nat.ne_of_lt hb]
  have st : Stable F w (fun b => F b ∨ b = w.heap.size) (w.alloc (.loop r)) := ⟨by simp, fun b _ hb => same b hb, fun b hf hb h => h.elim hf fun h => by omega⟩
  refine ⟨⟨?_, ?_, ?_, ?_⟩, ⟨by simp, fun b hb _ => same b hb, fun b h _ => .inl h, ?_, ?_, rfl, rfl, rfl⟩⟩
  · rintro o ho b hb
    rcases List.mem_cons.1 ho with rfl | ho
    · simp only [HObj.key, Option.some.injEq] at hb; exact .inr hb.symm
    · exact .inl (hH.sub o ho b hb)
  · simp only [List.filterMap_cons, HObj.key, List.nodup_cons]
    refine ⟨fun h => ?_, hH.nodup⟩
    obtain ⟨o, ho, hk⟩ := List.mem_filterMap.1 h
    exact Nat.lt_irrefl _ (hH.bd _ (hH.sub o ho _ hk))
  · rintro o ho
    rcases List.mem_cons.1 ho with rfl | ho
    · exact ⟨r, World.alloc_heap_new w _, h1, h2, h3, h4, h5, h6, fun t => Rep.mono st _ _ (h7 t)⟩
    · exact ORep.mono st o (fun b hb => same b (hH.bd b (hH.sub o ho b hb))) (hH.obj o ho)
  · rintro b (h | rfl)
    · have := hH.bd b h; simp; omega
    · simp
  · rintro b (h | rfl)
    · exact .inl h
    · exact .inr (Nat.le_refl _)
  · rintro o ho b hb
    rcases List.mem_cons.1 ho with rfl | ho
    · simp only [HObj.key, Option.some.injEq] at hb; exact .inr (by omega)
    · exact .inl ⟨o, ho, hb⟩

theorem awp_range {P : Program} {g : Operand} {ps : Array Tmp} {assign body : Code} {S : AState} {Q : AExit → AState → Prop} {fid : FuncId} {first caps : List AV}
    (hg : (ev S.τ g = .p (.fn fid) ∧ first = [] ∧ caps = []) ∨ ev S.τ g = .fn (.func fid) first caps)
    (h : ∀ d l, ∃ Hs Hf, (HObj.loop l ⟨.ready, none, S.n, S.τ, ps, assign, body⟩ :: .dfr d :: S.H).Perm (Hs ++ Hf) ∧
      ACalls P fid (first ++ [.fn (.yield l) [] []] ++ caps) Hs (fun r H' => rangeQ P l d S Q r (H' ++ Hf))) :
    AWp P none (.rangeFunc g ps assign body) S Q := by
  intro F a w hs
  refine wpIn_rangeFunc ?_
  intro fn _
  obtain ⟨d, hd⟩ : ∃ d, d = w.heap.size := ⟨_, rfl⟩
  obtain ⟨p1, p2⟩ := Pushed_dfr hs.heap
  have st1 := p2.stable hs.heap.sub
  obtain ⟨rec, hrec⟩ : ∃ rec : Loop, rec = { state := .ready, pending := none, fn, tmps := a.tmps, params := ps, assign, body, defers := w.heap.size } := ⟨_, rfl⟩
  have hl : (w.alloc (.deferred (some []))).heap.size = w.heap.size + 1 := by simp
  obtain ⟨q1, q2⟩ := Pushed_loop p1 (L := ⟨.ready, none, S.n, S.τ, ps, assign, body⟩) (r := rec) (by rw [hrec]) (by rw [hrec]) (by rw [hrec]) (by rw [hrec]) (by rw [hrec]) (by rw [hrec]; exact hs.size) (fun t => by rw [hrec]; exact Rep.mono st1 _ _ (hs.tmp t))
  have st2 := q2.stable p1.sub
  have t12 := p2.trans hs.heap.bd q2
  have st12 := t12.stable hs.heap.sub
  obtain ⟨W1, hW1⟩ : ∃ W1, (w.alloc (.deferred (some []))).alloc (.loop rec) = W1 := ⟨_, rfl⟩
  rw [hW1] at q1 q2 t12 st12
  obtain ⟨F1, hF1⟩ : ∃ F1 : Nat → Prop, (fun b => (F b ∨ b = w.heap.size) ∨ b = (w.alloc (.deferred (some []))).heap.size) = F1 := ⟨_, rfl⟩
  rw [hF1] at q1 q2 t12 st12
  rw [hl] at q1 t12
  obtain ⟨Hs, Hf, hp, hc⟩ := h w.heap.size (w.heap.size + 1)
  have hgv : ∃ fs cs, a.eval g = .func (.func fid) ⟨fs⟩ ⟨cs⟩ ∧ RepL F1 W1 first fs ∧ RepL F1 W1 caps cs := by
    have := Rep.mono st12 _ _ (hs.eval g)
    rcases hg with ⟨h1, rfl, rfl⟩ | h1
    · rw [h1] at this
      simp only [Rep, PRep] at this
      exact ⟨[], [], this, by simp [RepL], by simp [RepL]⟩
    · rw [h1] at this
      simpa only [Rep] using this
  obtain ⟨fs, cs, hgv, hfs, hcs⟩ := hgv
  have hy : RepL F1 W1 [.fn (.yield (w.heap.size + 1)) [] []] [Value.func (.yield (w.heap.size + 1)) #[] #[]] := by
    simp only [RepL, Rep]
    exact ⟨_, [], rfl, ⟨[], [], rfl, rfl, rfl⟩, rfl⟩
  refine ⟨w.heap.size + 1, [{ target := .collected w.heap.size, args := #[] }], W1, { target := .fn (.func fid) ⟨cs⟩, args := ⟨fs⟩ ++ #[.func (.yield (w.heap.size + 1)) #[] #[]] }, W1, fid,
    ⟨fs ++ [Value.func (.yield (w.heap.size + 1)) #[] #[]] ++ cs⟩, W1, ?_, ?_, ?_, ?_, fun h => (by cases h), ?_⟩
  · rw [← hW1, hrec]; exact run_enterLoop_outer _ _ _ _ _
  · simp only [resolve, hgv]
    simp [go_sem, Deferred.ofValue]
  · intro f' hf'; trivial
  · have e : (⟨fs⟩ ++ #[Value.func (.yield (w.heap.size + 1)) #[] #[]] ++ ⟨cs⟩ : Array Value) = ⟨fs ++ [Value.func (.yield (w.heap.size + 1)) #[] #[]] ++ cs⟩ := by
      apply Array.ext'; simp
    simp only [invoke, e]
    exact run_callFunc hc.1 _ _
  · have hH1 := q1.perm hp
    refine CallsIn.mono (inW none (hc.2 F1 W1 _ (hH1.sublist (List.sublist_append_left _ _)) ((hfs.append hy).append hcs))) ?_
    rintro e w3 ⟨r, Hs', F', hR, he, hH2, ht⟩
    have htf := ht.frame (H := (HObj.loop (w.heap.size + 1) ⟨.ready, none, S.n, S.τ, ps, assign, body⟩ :: .dfr w.heap.size :: S.H)) hp
    have t3 := t12.trans hs.heap.bd htf
    have hH3 := hH1.frame hH2 ht
    have st3 := t3.stable hs.heap.sub
    cases r with
    | val v =>
      obtain ⟨u, rfl, hu⟩ := he
      obtain ⟨i, L, hi, hbusy, hnext⟩ := hR
      obtain ⟨rec3, hrec3, g1, g2, g3, g4, g5, g6, g7⟩ := hH3.obj _ (List.mem_of_getElem? hi)
      obtain ⟨k1, k2, k3⟩ := loop_wrote (L' := { L with state := .exhausted }) (rec' := { rec3 with state := .exhausted }) hH3 hi hrec3 ⟨rfl, rfl, rfl, g6, g7, rfl, g2, g3, g4, g5⟩
      have hsub : ((Hs' ++ Hf).eraseIdx i).Sublist ((Hs' ++ Hf).set i (.loop (w.heap.size + 1) { L with state := .exhausted })) := by
        have : (Hs' ++ Hf).eraseIdx i = ((Hs' ++ Hf).set i (.loop (w.heap.size + 1) { L with state := .exhausted })).eraseIdx i := by rw [List.eraseIdx_set_eq]
        rw [this]; exact List.eraseIdx_sublist ..
      have t4 := (t3.trans hs.heap.bd k2).sublist hsub
      have hs4 : SRel F' ⟨S.n, S.τ, (Hs' ++ Hf).eraseIdx i, .mark w.heap.size :: S.D⟩ { a with defers := [{ target := .collected w.heap.size, args := #[] }] ++ a.defers } (w3.putObj (w.heap.size + 1) (.loop { rec3 with state := .exhausted })) :=
        ⟨hs.size, fun t => Rep.mono k3 _ _ (Rep.mono st3 _ _ (hs.tmp t)), k1.sublist hsub, by simp only [DRep]; exact ⟨_, rfl, DRep.mono k3 _ _ (DRep.mono st3 _ _ hs.defs)⟩⟩
      refine ⟨rec3.pending, _, run_endLoop hrec3 (by rw [g1]; exact hbusy), ?_⟩
      generalize w3.putObj (w.heap.size + 1) (.loop { rec3 with state := .exhausted }) = W4 at *
      rw [g2]
      cases hpd : L.pending with
      | none => simp only [hpd] at hnext; exact ⟨.normal, _, F', hnext, rfl, hs4, t4⟩
      | some c =>
        simp only [hpd] at hnext
        exact wpIn_mono (hnext F' _ _ hs4) fun _ _ _ => post_trans hs.heap.bd t4
    | panic v =>
      obtain ⟨u, rfl, hu⟩ := he
      exact ⟨.panic v, ⟨S.n, S.τ, Hs' ++ Hf, .mark w.heap.size :: S.D⟩, F', hR, ⟨u, rfl, hu⟩, ⟨hs.size, fun t => Rep.mono st3 _ _ (hs.tmp t), hH3, by simp only [DRep]; exact ⟨_, rfl, DRep.mono st3 _ _ hs.defs⟩⟩, t3⟩

/-  Leaving with marks and deferred calls -/
/-- How a frame goes out: it returns; or a panic passes. -/
inductive AMode where
  | ret
  | pan (v : AV)

def MRep (F : Nat → Prop) (w : World) : AMode → FrameMode → Prop
  | .ret, u => u = .returning
  | .pan v, u => ∃ x, u = .panicking [{ v := x, recovered := false }] ∧ Rep F w v x

theorem MRep.mono {F F' : Nat → Prop} {w w' : World} (st : Stable F w F' w') : ∀ {m : AMode} {u : FrameMode}, MRep F w m u → MRep F' w' m u
  | .ret, u, h => h
  | .pan v, u, ⟨x, h, hr⟩ => ⟨x, h, Rep.mono st _ _ hr⟩

/-- The contract of a deferred closure that recovers whatever passes. -/
def ADCalls (P : Program) (f : FuncId) (caps : List AV) (m : AMode) (H : List HObj) (R : List HObj → Prop) : Prop :=
  entersB P f = true ∧ ∀ F w vs u, HRel F H w → RepL F w caps vs → MRep F w m u →
    CallsDIn (W none) 0 P f ⟨vs⟩ u w fun e u' w' => ∃ v H' F', e = .returned v ∧ settle u' = .returning ∧ R H' ∧ HRel F' H' w' ∧ Trans F H w F' H' w'

def leaveQ (P : Program) (fn : Func) (S : AState) (R : ARes → List HObj → Prop) : List ADef → AMode → List HObj → Prop
  | [], .ret, H => ∃ vs H', ResL P ⟨S.n, S.τ, H, []⟩ fn.results.toList vs ∧ H'.Sublist H ∧ R (.val (pack vs)) H'
  | [], .pan v, H => ∃ H', H'.Sublist H ∧ R (.panic v) H'
  | .mark b :: D, m, H => ∃ i, H[i]? = some (.dfr b) ∧ leaveQ P fn S R D m (H.eraseIdx i)
  | .clo f caps :: D, m, H => ∃ fid Hs Hf, f = .func fid ∧ H.Perm (Hs ++ Hf) ∧ ADCalls P fid caps m Hs (fun H' => leaveQ P fn S R D .ret (H' ++ Hf))

def bodyQD (P : Program) (fn : Func) (R : ARes → List HObj → Prop) : AExit → AState → Prop
  | .normal, S | .ret, S => leaveQ P fn S R S.D .ret S.H
  | .panic v, S => leaveQ P fn S R S.D (.pan v) S.H
  | .exit _, _ => False

theorem leaves_of {P : Program} {fn : Func} {S : AState} {R : ARes → List HObj → Prop} {tmps : Array Value} {F0 : Nat → Prop} {H0 : List HObj} {w0 : World} (bd0 : ∀ b, F0 b → b < w0.heap.size) (hsz : tmps.size = S.n) :
    ∀ (D : List ADef) (ds : List Deferred) (m : AMode) (u : FrameMode) (H : List HObj) (F : Nat → Prop) (w : World), (∀ t, Rep F w (S.τ t) (tmps.getD t undef)) → HRel F H w → DRep F w D ds → MRep F w m u → Trans F0 H0 w0 F H w → leaveQ P fn S R D m H →
      LeavesInM (W none) 0 P fn tmps (fun e w' => ∃ r H' F', R r H' ∧ EndRep F' w' r e ∧ HRel F' H' w' ∧ Trans F0 H0 w0 F' H' w') ds u w
  | [], ds, m, u, H, F, w, hτ, hH, hd, hm, ht, hq => by
    simp only [DRep] at hd
    subst hd
    cases m with
    | ret =>
      obtain rfl : u = .returning := hm
      obtain ⟨vs, H', hres, hsub, hR⟩ := hq
      have hs : SRel F ⟨S.n, S.τ, H, []⟩ { tmps, defers := [] } w := ⟨hsz, hτ, hH, by simp [DRep]⟩
      obtain ⟨v, hv, hrv⟩ := results_run hs hres
      exact ⟨v, hv, _, H', F, hR, ⟨v, rfl, hrv⟩, hH.sublist hsub, ht.sublist hsub⟩
    | pan v =>
      obtain ⟨x, rfl, hx⟩ := hm
      obtain ⟨H', hsub, hR⟩ := hq
      exact ⟨_, H', F, hR, ⟨x, rfl, hx⟩, hH.sublist hsub, ht.sublist hsub⟩
  | .mark b :: D, ds, m, u, H, F, w, hτ, hH, hd, hm, ht, hq => by
    simp only [DRep] at hd
    obtain ⟨ds', rfl, hd⟩ := hd
    obtain ⟨i, hi, hq⟩ := hq
    have hb : w.heap[b]? = some (.deferred (some [])) := hH.obj _ (List.mem_of_getElem? hi)
    have hFb : F b := hH.sub _ (List.mem_of_getElem? hi) b rfl
    have hw : Wrote b (.deferred none) w (w.putObj b (.deferred none)) := ⟨rfl, rfl, rfl, rfl⟩
    have st := hw.stable hFb
    have hk : H.Perm (.dfr b :: H.eraseIdx i) := by
      exact perm_erase hi
    have hH' := hH.perm hk
    have other : ∀ o ∈ H.eraseIdx i, ∀ k, o.key = some k → k ≠ b := by
      intro o ho k hk' e
      subst e
      have := hH'.nodup
      simp only [List.filterMap_cons, HObj.key, List.nodup_cons] at this
      exact this.1 (List.mem_filterMap.2 ⟨o, ho, hk'⟩)
    have same : ∀ k, k ≠ b → (w.putObj b (.deferred none)).heap[k]? = w.heap[k]? := fun k hk => World.putObj_heap_other hk
    have hHn : HRel F (H.eraseIdx i) (w.putObj b (.deferred none)) := by
      refine ⟨fun o ho => hH'.sub o (by simp [ho]), ?_, fun o ho => ?_, fun k hk => by simpa using hH.bd k hk⟩
      · have := hH'.nodup
        simp only [List.filterMap_cons, HObj.key, List.nodup_cons] at this
        exact this.2
      · exact ORep.mono st o (fun k hk => same k (other o ho k hk)) (hH'.obj o (by simp [ho]))
    have hT : Trans F H w F (H.eraseIdx i) (w.putObj b (.deferred none)) :=
      ⟨by simp, fun k hk hn => same k fun e => hn _ (List.mem_of_getElem? hi) (by rw [e]; rfl), fun _ h _ => h, fun _ h => .inl h, fun o ho k hk' => .inl ⟨o, hk.mem_iff.2 (by simp [ho]), hk'⟩, rfl, rfl, rfl⟩
    have hu : u ≠ .run := by
      cases m with
      | ret => obtain rfl : u = .returning := hm; simp
      | pan v => obtain ⟨x, rfl, hx⟩ := hm; simp
    refine ⟨hu, .inl ⟨b, _, rfl, run_takeDeferred hb, ?_⟩⟩
    exact leaves_of bd0 hsz D ds' m u _ F _ (fun t => Rep.mono st _ _ (hτ t)) hHn (DRep.mono st _ _ hd) (hm.mono st) (ht.trans bd0 hT) hq
  | .clo f caps :: D, ds, m, u, H, F, w, hτ, hH, hd, hm, ht, hq => by
    simp only [DRep] at hd
    obtain ⟨vs, ds', rfl, hv, hd⟩ := hd
    obtain ⟨fid, Hs, Hf, rfl, hp, hc⟩ := hq
    have hu : u ≠ .run := by
      cases m with
      | ret => obtain rfl : u = .returning := hm; simp
      | pan v => obtain ⟨x, rfl, hx⟩ := hm; simp
    have hH' := hH.perm hp
    refine ⟨hu, .inr ⟨fun h => (by cases h), .func fid, ⟨vs⟩, fid, ⟨vs⟩, rfl, ?_, fun _ _ => trivial, ?_⟩⟩
    · simp only [invoke]
      have e : (#[] ++ ⟨vs⟩ : Array Value) = ⟨vs⟩ := by apply Array.ext'; simp
      rw [e]
      exact run_callFunc hc.1 _ _
    · obtain ⟨hF, hcall⟩ := hc.2 F w vs u (hH'.sublist (List.sublist_append_left _ _)) hv hm
      refine ⟨hF, fun c cs hcu hroom => ?_⟩
      obtain ⟨e, u', w', fr, ⟨v, H', F', rfl, hset, hR, hH2, ht2⟩, hrest⟩ := hcall c cs hcu hroom
      refine ⟨.returned v, u', w', fr, ?_, hrest⟩
      have htf := ht2.frame (H := H) hp
      have st := htf.stable hH.sub
      show LeavesInM _ _ _ _ _ _ _ (settle u') w'
      rw [hset]
      exact leaves_of bd0 hsz D ds' .ret .returning _ F' w' (fun t => Rep.mono st _ _ (hτ t)) (hH'.frame hH2 ht2) (DRep.mono st _ _ hd) rfl (ht.trans bd0 htf) hR

theorem acalls_of_awpD {P : Program} {f : FuncId} {fn : Func} {c : Code} {args : List AV} {H : List HObj} {R : ARes → List HObj → Prop}
    {n : Nat} (hf : P.funcs[f]? = some fn) (hb : fn.body = some c) (he : entersB P f = true) (hn' : fn.ntmps = n) (hn : Nat.ble args.length n = true)
    (h : AWp P none c ⟨n, initτ args, H, []⟩ (bodyQD P fn R)) : ACalls P f args H R := by
  subst hn'
  rw [Nat.ble_eq] at hn
  refine ⟨he, fun F w vs hH hr => ?_⟩
  refine (callsIn_wide (n := 0)).1 ?_
  refine callsIn_of_wp_marks hf hb trivial ?_
  have hsz : (⟨vs⟩ : Array Value).size = args.length := by simpa using hr.length
  have hs : SRel F ⟨fn.ntmps, initτ args, H, []⟩ { tmps := ⟨vs⟩ ++ Array.replicate (fn.ntmps - (⟨vs⟩ : Array Value).size) undef, defers := [] } w :=
    ⟨by simp only [Array.size_append, Array.size_replicate, hsz]; omega, fun t => initτ_rep _ _ hr, hH, by simp [DRep]⟩
  refine wpIn_mono (h F _ w hs) ?_
  rintro e a' w' ⟨e', S', F', hq, hex, hs', ht⟩
  cases e' with
  | normal => obtain rfl : e = .normal := hex; exact leaves_of hH.bd hs'.size _ _ .ret .returning _ F' w' hs'.tmp hs'.heap hs'.defs rfl ht hq
  | ret => obtain rfl : e = .ret := hex; exact leaves_of hH.bd hs'.size _ _ .ret .returning _ F' w' hs'.tmp hs'.heap hs'.defs rfl ht hq
  | exit id => exact hq.elim
  | panic v => obtain ⟨u, rfl, hru⟩ := hex; exact leaves_of hH.bd hs'.size _ _ (.pan v) _ _ F' w' hs'.tmp hs'.heap hs'.defs ⟨u, rfl, hru⟩ ht hq

/-- A defer statement. -/
theorem al_defer {P : Program} {ops : Array Oper} {k n : Nat} {τ : Nat → AV} {H : List HObj} {D : List ADef} {Q : AExit → AState → Prop} {c : Call} {ty : TypeId} {pos : String} {aft : Array Edge} {x : Operand} {fid : FuncId} {caps : List AV}
    (ho : ops[k]? = some ⟨none, .defer c, ty, pos, aft, none⟩) (hc : c.callee = .value x) (ha : c.args = #[]) (hx : ev τ x = .fn (.func fid) [] caps)
    (next : AL P none ops (k + 1) ⟨n, τ, H, .clo (.func fid) caps :: D⟩ Q) : AL P none ops k ⟨n, τ, H, D⟩ Q := by
  intro F a w hs
  have hk : k < ops.size := by
    rcases Nat.lt_or_ge k ops.size with h | h
    · exact h
    · simp [Array.getElem?_eq_none h] at ho
  have hv := hs.eval x
  simp only [hx, Rep, RepL] at hv
  obtain ⟨fs, cs, hv, rfl, hcs⟩ := hv
  rw [range_step hk, wpOpsIn_cons]
  unfold wpOpIn
  simp only [ho, Region.wanted, if_true]
  have hrun : (Oper.semAt (W none).round a.eval ⟨none, .defer c, ty, pos, aft, none⟩).run P w = .ok (.defer { target := .fn (.func fid) ⟨cs⟩, args := #[] }) w := by
    rw [show (W none).round = none from rfl, Oper.semAt_none]
    simp [execOp, resolve, hc, ha, Deferred.ofValue, hv]
  refine ⟨fun _ _ => trivial, ?_⟩
  simp only [hrun, Oper.uponIn, Act.put]
  exact next F _ w ⟨hs.size, hs.tmp, hs.heap, by simp only [DRep]; exact ⟨cs, _, rfl, hcs, hs.defs⟩⟩

/-- What recover hands over. -/
def AMode.val : AMode → AV
  | .ret => .p .nilIface
  | .pan v => v

/-- A deferred closure that begins with 'x := recover()'. -/
theorem adcalls_of {P : Program} {f : FuncId} {fn : Func} {B : Code} {id t3 t2 : Nat} {ty ty' ty2 : TypeId} {pos pos' : String} {aft aft' : Array Edge} {caps : List AV} {m : AMode} {H : List HObj} {R : List HObj → Prop} {n : Nat} {aty : Array TypeId}
    (hf : P.funcs[f]? = some fn) (hb : fn.body = some (.seq (.region id #[⟨some t3, .call ⟨.builtin .recover, #[], aty⟩, ty, pos, aft, none⟩, ⟨some t2, .assign (.tmp t3), ty', pos', aft', none⟩] false) B))
    (he : entersB P f = true) (hn' : fn.ntmps = n) (hn : Nat.ble caps.length n = true) (hres : fn.results = #[]) (h3 : Nat.blt t3 n = true) (h2 : Nat.blt t2 n = true) (h23 : Nat.beq t2 t3 = false)
    (h : AWp P none B ⟨n, put (put (initτ caps) (some t3) m.val) (some t2) m.val, H, []⟩ (fun e S => (e = .normal ∨ e = .ret) ∧ S.D = [] ∧ ∃ H', H'.Sublist S.H ∧ R H')) : ADCalls P f caps m H R := by
  subst hn'
  rw [Nat.ble_eq] at hn
  rw [Nat.blt_eq] at h3 h2
  refine ⟨he, fun F w vs u hH hr hm => ?_⟩
  refine callsDIn_of_wpSIn hf hb trivial ?_
  intro c₀ cs hc0
  refine wpSIn_seq (wpSIn_region ?_)
  have hsz : (⟨vs⟩ : Array Value).size = caps.length := by simpa using hr.length
  have hs : SRel F ⟨fn.ntmps, initτ caps, H, []⟩ { tmps := ⟨vs⟩ ++ Array.replicate (fn.ntmps - (⟨vs⟩ : Array Value).size) undef, defers := [] } w :=
    ⟨by simp only [Array.size_append, Array.size_replicate, hsz]; omega, fun t => initτ_rep _ _ hr, hH, by simp [DRep]⟩
  generalize ({ tmps := ⟨vs⟩ ++ Array.replicate (fn.ntmps - (⟨vs⟩ : Array Value).size) undef, defers := [] } : Act) = a at hs ⊢
  have st : Stable F w F w := ⟨Nat.le_refl _, fun _ _ _ => rfl, fun _ h _ => h⟩
  have fin : ∀ x u', Rep F w m.val x → settle u' = .returning →
      B.wpSIn (W none) 0 P (bodyPostS P fn c₀ cs fun e u' w' => ∃ v H' F', e = .returned v ∧ settle u' = .returning ∧ R H' ∧ HRel F' H' w' ∧ Trans F H w F' H' w') ((a.put (some t3) x).put (some t2) x) ({ c₀ with mode := u' } :: cs) w := by
    intro x u' hx hset
    have hs1 := (hs.put (d := some t3) (fun t ht => by cases ht; exact h3) st hH hx)
    have hs2 := (hs1.put (d := some t2) (fun t ht => by cases ht; exact h2) st hH hx)
    refine wpSIn_of_wpIn rfl (wpIn_mono (h F _ w hs2) ?_)
    rintro e a' w' ⟨e', S', F', ⟨hee, hD, H', hsub, hR⟩, hex, hs', ht⟩
    have hd : a'.defers = [] := by have := hs'.defs; rw [hD] at this; simpa [DRep] using this
    have hr0 : (results fn a'.tmps).run P w' = .ok (.tuple #[]) w' := by
      simp [results, hres, Sem.run_bind]
    rcases hee with rfl | rfl
    · obtain rfl : e = .normal := hex
      exact ⟨hd, u', rfl, _, hr0, _, H', F', rfl, hset, hR, hs'.heap.sublist hsub, ht.sublist hsub⟩
    · obtain rfl : e = .ret := hex
      exact ⟨hd, u', rfl, _, hr0, _, H', F', rfl, hset, hR, hs'.heap.sublist hsub, ht.sublist hsub⟩
  have hasg : ∀ (x : Value), (execOp (a.put (some t3) x).eval ⟨some t2, .assign (.tmp t3), ty', pos', aft', none⟩).run P w = .ok (.value x) w := by
    intro x
    have : (a.put (some t3) x).eval (.tmp t3) = x := by
      have : t3 < a.tmps.size := by rw [hs.size]; exact h3
      simp [Act.put, Act.eval, this]
    simp [execOp, this]
  have hrec : ∀ (a : Act), (execOp a.eval ⟨some t3, .call ⟨.builtin .recover, #[], aty⟩, ty, pos, aft, none⟩).run P w = .ok .recover w := by
    intro a
    simp [execOp, resolve, invoke, Sem.run_bind]
    first | rfl | skip
  obtain ⟨o0, ho0⟩ : ∃ o : Oper, o = ⟨some t3, .call ⟨.builtin .recover, #[], aty⟩, ty, pos, aft, none⟩ := ⟨_, rfl⟩
  obtain ⟨o1, ho1⟩ : ∃ o : Oper, o = ⟨some t2, .assign (.tmp t3), ty', pos', aft', none⟩ := ⟨_, rfl⟩
  rw [← ho0, ← ho1]
  rw [← ho0] at hrec
  rw [← ho1] at hasg
  obtain ⟨ops, hops⟩ : ∃ ops : Array Oper, ops = #[o0, o1] := ⟨_, rfl⟩
  have i0 : ops[0]? = some o0 := by rw [hops]; rfl
  have i1 : ops[1]? = some o1 := by rw [hops]; rfl
  have d0 : o0.dst = some t3 := by rw [ho0]
  have d1 : o1.dst = some t2 := by rw [ho1]
  have w0 : ∀ y, Region.wanted o0 y = true := by intro y; rw [ho0]; rfl
  have w1 : ∀ y, Region.wanted o1 y = true := by intro y; rw [ho1]; rfl
  have hr2 : List.range ops.size = [0, 1] := by rw [hops]; rfl
  rw [← hops, hr2]
  simp only [wpOpsSIn, i0, i1, w0, w1, if_true, hrec, d0, d1]
  refine ⟨fun _ _ => trivial, ?_⟩
  cases m with
  | ret =>
    obtain rfl : u = .returning := hm
    simp only [recoverD, hc0, hasg]
    refine ⟨fun _ _ => trivial, ?_⟩
    have := fin .nilIface .returning (by simp [AMode.val, Rep, PRep]) rfl
    have e : ({ c₀ with mode := .returning } : Frame) = c₀ := by rw [← hc0]
    rw [e] at this
    exact this
  | pan v =>
    obtain ⟨x, rfl, hx⟩ := hm
    simp only [recoverD, hc0, hasg]
    refine ⟨fun _ _ => trivial, ?_⟩
    exact fin x _ hx rfl
end Go.Abs
