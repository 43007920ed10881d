/- Part of the proofs: an abstract program logic, plain models and contracts of functions. -/
import Derived.Test.YtapmjpihennhaaaGreatDoorPa
import Derived.RangeFuncLeaves
import Derived.RecoverIn
import Derived.RangeFuncNested
import Derived.MapKept
set_option linter.unusedVariables false
set_option linter.unusedSimpArgs false
namespace Go.Abs
section
variable {P : Program} {dst : Option Tmp} {ty : TypeId} {pos : String} {aft : Array Edge} {g : Option (Nat × Bool)} {ρ : Operand → AV} {H : List BL} {x y z : Operand} {v : AV}
theorem Bw.vals {F : Nat → Prop} {w : World} {b sz : Nat} : ∀ {rows : List (List PV)} {o : Nat}, Bw F w b sz o rows → ∃ us : List Value, w.rangeAt b o us ∧ us.length = rows.length * sz ∧ Bu F w (rows.flatten.map .p) us
 | [], o, _ => ⟨[], by intro j v h; simp at h, by simp, by simp [Bu]⟩
 | r :: rows, o, h => by
  simp only [Bw] at h
  obtain ⟨us, a1, a2, a3⟩ := h.2.1.vals
  obtain ⟨vs, b1, b2, b3⟩ := Bw.vals h.2.2
  refine ⟨us ++ vs, ?_, by simp only [List.length_append, List.length_cons, Nat.succ_mul]; rw [a2, b2, h.1]; omega, ?_⟩
  ·intro j v hv
   rcases Nat.lt_or_ge j us.length with hj | hj
   ·rw [List.getElem?_append_left hj] at hv; exact a1 j v hv
   ·rw [List.getElem?_append_right hj] at hv
    have := b1 _ v hv
    have e : o + sz + (j - us.length) = o + j := by rw [← h.1, ← a2]; omega
    rwa [e] at this
  ·rw [List.flatten_cons, List.map_append]
   exact a3.append b3
theorem L0 {need c : Nat} (h : c < need) : Builtin.nextslicecap need c ≤ 2 * need := by
 unfold Builtin.nextslicecap
 split
 ·omega
 ·split
  ·omega
  ·have key : ∀ (r c : Nat), 256 ≤ c → c ≤ 2 * need → Builtin.growBy need r c ≤ 2 * need := by
    intro r
    induction r with
    | zero => intro c _ h; exact h
    | succ r ih =>
     intro c h1 h2
     unfold Builtin.growBy
     split
     ·exact h2
     ·exact ih _ Am Am
   exact key 4 c Am Am
def KI (i sz : Nat) (rows : List (List PV)) (H : List BL) : DM → List BL → Prop
 | .val v, H' => ∃ o c, v = .vs o rows.length c ∧ H' = H.set i (.vec o sz rows c)
 | .panic _, _ => False
theorem Im {F : Nat → Prop} {w : World} {sz : Nat} {rows : List (List PV)} {u : Value} (h : CF F w (.p (.lst rows)) u) (hr : ∀ r ∈ rows, r.length = sz) :
  ∃ us o c, u = .slice o rows.length c ∧ (Builtin.firstCells sz rows.length u).run P w = .ok ⟨us⟩ w ∧ us.length = rows.length * sz ∧ Bu F w (rows.flatten.map .p) us := by
 simp only [CF, CQ] at h
 rcases h with ⟨rfl, o, c, rfl⟩ | ⟨b, o, c, sz', rfl, hF, hb, hc, hrows⟩
 ·refine ⟨[], o, c, Ao, ?_, by simp, by simp [Bu]⟩
  cases o with
  | none => rfl
  | some a => simp [Builtin.firstCells, loadCells, loadCellsFrom]
 ·cases rows with
  | nil =>
   refine ⟨[], some ⟨b, o, none⟩, c, Ao, ?_, by simp, by simp [Bu]⟩
   simp [Builtin.firstCells, loadCells, loadCellsFrom]
  | cons r rows =>
   have e : sz' = sz := by
    have h1 := hr r An
    simp only [Bw] at hrows
    omega
   subst e
   obtain ⟨us, h1, h2, h3⟩ := hrows.vals
   refine ⟨us, some ⟨b, o, none⟩, c, Ao, ?_, h2, h3⟩
   have := run_loadCells_list (P := P) w ⟨b, o, none⟩ us (fun j v hv => by rw [Addr.add_mid]; exact h1 j v hv)
   rw [h2] at this
   exact this
theorem FM {F : Nat → Prop} {w : World} {o : Option Nat} {sz c : Nat} {rows : List (List PV)} {u : Value} (ho : Fc F w (.vec o sz rows c)) (h : CF F w (.vs o rows.length c) u) :
  ∃ us, (Builtin.firstCells sz rows.length u).run P w = .ok ⟨us⟩ w ∧ us.length = rows.length * sz ∧ Bu F w (rows.flatten.map .p) us := by
 cases o with
 | none =>
  obtain ⟨rfl, rfl⟩ := ho
  simp only [CF] at h
  obtain ⟨_, _, a, rfl⟩ := h
  refine ⟨[], ?_, by simp, by simp [Bu]⟩
  cases a with
  | none => rfl
  | some a => simp [Builtin.firstCells, loadCells, loadCellsFrom]
 | some b =>
  simp only [CF] at h
  subst h
  obtain ⟨vs, T, hb, h1, h2, hrows⟩ := ho
  obtain ⟨us, a1, a2, a3⟩ := hrows.vals
  refine ⟨us, ?_, a2, a3⟩
  have := run_loadCells_list (P := P) w ⟨b, 0, none⟩ us (fun j v hv => by rw [Addr.add_mid]; exact a1 j v hv)
  rw [a2] at this
  exact this
theorem Ie {F : Nat → Prop} {w : World} {b sz : Nat} : ∀ {rows rows' : List (List PV)} {o : Nat}, Bw F w b sz o rows → Bw F w b sz (o + rows.length * sz) rows' → Bw F w b sz o (rows ++ rows')
 | [], rows', o, _, h => by simpa using h
 | r :: rows, rows', o, h, h' => by
  simp only [List.cons_append, Bw] at h ⊢
  refine ⟨h.1, h.2.1, Ie h.2.2 ?_⟩
  simp only [List.length_cons, Nat.succ_mul] at h'
  have e : o + sz + rows.length * sz = o + (rows.length * sz + sz) := by omega
  rw [e]; exact h'
theorem JY (z : Array Value) (n : Nat) : (Builtin.zeroCells z n).size = n * z.size := by simp [Builtin.zeroCells]
theorem Ss {rows : List (List PV)} {sz : Nat} (h : ∀ r ∈ rows, r.length = sz) : rows.flatten.length = rows.length * sz := by
 induction rows with
 | nil => simp
 | cons r rows ih => simp only [List.flatten_cons, List.length_append, List.length_cons, Nat.succ_mul, ih (fun r hr => h r (by simp [hr])), h r An]; omega
theorem Bw.lens {F : Nat → Prop} {w : World} {b sz : Nat} : ∀ {rows : List (List PV)} {o : Nat}, Bw F w b sz o rows → ∀ r ∈ rows, r.length = sz
 | [], _, _ => by simp
 | r :: rows, o, h => by
  simp only [Bw] at h
  intro r' hr'
  rcases List.mem_cons.1 hr' with rfl | hr'
  ·exact h.1
  ·exact Bw.lens h.2.2 r' hr'
theorem Fc.lens {F : Nat → Prop} {w : World} {o : Option Nat} {sz c : Nat} {rows : List (List PV)} (h : Fc F w (.vec o sz rows c)) : ∀ r ∈ rows, r.length = sz := by
 cases o with
 | none => obtain ⟨rfl, _⟩ := h; simp
 | some b => obtain ⟨_, _, _, _, _, hr⟩ := h; exact hr.lens
def DP (sz : Nat) (r : List PV) : Prop := r.length = sz ∧ ∀ c ∈ r, c ≠ .any
theorem Ni {rows : List (List PV)} {sz : Nat} (h : ∀ r ∈ rows, DP sz r) : (rows.flatten.map AV.p).all one = true := by
 rw [List.all_eq_true]
 intro a ha
 obtain ⟨c, hc, rfl⟩ := List.mem_map.1 ha
 obtain ⟨r, hr, hcr⟩ := List.mem_flatten.1 hc
 have := (h r hr).2 c hcr
 cases c <;> simp_all [one]
theorem M9 {T T2 e e2 : TypeId} {sz bytes n2 n3 c i n : Nat} {o : Option Nat} {rows rows' : List (List PV)} {zv : Value} (hT : E3 P T = some (e, sz, bytes)) (hT2 : E3 P T2 = some (e2, n2, n3)) (hz : zeroOf P e = some zv) (hzs : zv.cells.size = sz) (hb0 : (Nat.blt 0 sz && Nat.blt 0 bytes) = true)
  (hx : ∀ F w u, CF F w (ρ x) u → CF F w (.vs o n c) u) (hn : n = rows.length) (hi : H[i]? = some (.vec o sz rows c)) (hy : norm (ρ y) = .p (.lst rows')) (hsol : ∀ r ∈ rows', DP sz r) (hroom : 2 * (rows.length + rows'.length) * bytes ≤ 281474976710656) :
  C6 P ⟨dst, .call { callee := .builtin .append, args := #[x, y], argTypes := #[T, T2] }, ty, pos, aft, g⟩ ρ H (KI i sz (rows ++ rows') H) :=
 FW fun F w E hH hE => by
  subst hn
  have hr' : ∀ r ∈ rows', r.length = sz := fun r hr => (hsol r hr).1
  simp only [Bool.and_eq_true, Nat.blt_eq] at hb0
  obtain ⟨hu, inf, hinf, hs, hby⟩ := E1 hT
  obtain ⟨hu2, _⟩ := E1 hT2
  have h1 := hE x AU
  have h2 := (hE y AU).norm
  replace h1 := hx _ _ _ h1
  rw [hy] at h2
  have hobj := hH.obj _ (List.mem_of_getElem? hi)
  obtain ⟨ns, oy, cy, hEy, hns, hnsl, hnsr⟩ := Im (P := P) h2 hr'
  obtain ⟨os, hos, hosl, hosr⟩ := FM (P := P) hobj h1
  have hEx : ∃ base, E x = .slice base rows.length c ∧ (∀ b, o = some b → base = some ⟨b, 0, none⟩) := by
   cases o with
   | none =>
    simp only [CF] at h1
    obtain ⟨e1, e2, a, ha⟩ := h1
    refine ⟨a, ?_, fun b hb => by cases hb⟩
    rw [ha, e1, e2]
   | some b => simp only [CF] at h1; exact ⟨_, h1, fun b' hb => by injection hb with hb; subst hb; rfl⟩
  obtain ⟨base, hEx, hbase⟩ := hEx
  unfold zeroOf at hz
  have hz' : ∃ j, P.info? e = some j ∧ j.zero = some zv := by
   cases hq : P.info? e with
   | none => simp [hq] at hz
   | some j => exact ⟨j, rfl, by simpa [hq] using hz⟩
  obtain ⟨j, hj, hz'⟩ := hz'
  have hzv : ∀ w, (zeroValue e).run P w = .ok zv w := fun w => by simp [zeroValue, typeInfo, hj, hz', Sem.run_bind]
  have hti : ∀ w, (typeInfo e).run P w = .ok inf w := fun w => by simp [typeInfo, hinf]
  have hszr : ∀ w, (sizeOf e).run P w = .ok sz w := fun w => by simp [sizeOf, typeInfo, hinf, hs]
  have hlens := hobj.lens
  have hlall : ∀ r ∈ rows ++ rows', r.length = sz := by
   intro r hr
   rcases List.mem_append.1 hr with hr | hr
   ·exact hlens r hr
   ·exact hr' r hr
  have hlen : (rows ++ rows').length = rows.length + rows'.length := by simp
  have hlenof : ∀ w, (Builtin.lenOf (E y)).run P w = .ok rows'.length w := fun w => by rw [hEy]; rfl
  have hzeros : ((TypeDesc.slice e2) matches .int _) = false := rfl
  by_cases hcap : rows.length + rows'.length ≤ c
  ·-- there is room
   have hrun : ∀ w', (match base with | some a => (storeCells (a.add (rows.length * sz)) ns).run P w = .ok () w' | none => w' = w) →
     (execOp E ⟨dst, .call { callee := .builtin .append, args := #[x, y], argTypes := #[T, T2] }, ty, pos, aft, g⟩).run P w = .ok (.value (.slice base (rows.length + rows'.length) c)) w' := by
    intro w' hst
    have hEx' := hEx
    simp only [execOp, resolve, invoke, builtin, Builtin.append_, hEx, Sem.run_bind, Sem.run_pure, Result.andThen_ok, List.map_toArray, List.map_cons, List.map_nil, List.getElem?_toArray, List.getElem?_cons_zero, List.getElem?_cons_succ, run_underlying hu, run_underlying hu2, hszr, pure_bind,
     Bool.false_eq_true, if_false, hlenof, Bool.not_false, if_true]
    rw [if_pos hcap]
    simp only [Sem.run_bind, hns, Result.andThen_ok]
    cases base with
    | none => simp only at hst; subst hst; simp
    | some a => simp only at hst; simp [hst]
   cases o with
   | none =>
    obtain ⟨rfl, rfl⟩ := hobj
    have hr0 : rows' = [] := by simpa using hcap
    subst hr0
    have hns0 : ns = [] := by
     apply List.eq_nil_of_length_eq_zero; simpa using hnsl
    subst hns0
    have hset : H.set i (.vec none sz ([] ++ []) 0) = H := by
     rw [List.append_nil]
     apply List.ext_getElem?
     intro k
     rw [List.getElem?_set]
     split
     ·rename_i hk; subst hk; rw [hi]; split
      ·rfl
      ·rename_i hge; rw [List.getElem?_eq_none Am] at hi; cases hi
     ·rfl
    refine ⟨_, w, .vs none 0 0, H, F, hrun w ?_, ⟨none, 0, Ao, hset.symm⟩, .refl, hH, ?_⟩
    ·cases base with
     | none => rfl
     | some a => rfl
    ·simp only [CF]; exact ⟨trivial, trivial, base, rfl⟩
   | some b =>
    obtain ⟨vs, T', hb, hcs, hcl, hrows⟩ := hobj
    obtain ⟨vs⟩ := vs
    have hbase' := hbase b rfl
    subst hbase'
    have hcs' : c * sz ≤ vs.length := by simpa using hcs
    have hlt : b < w.heap.size := (Array.getElem?_eq_some_iff.1 hb).1
    have hF : F b := hH.sub _ (List.mem_of_getElem? hi) b rfl
    cases hrr : rows' with
    | nil =>
     subst hrr
     have hns0 : ns = [] := by
      apply List.eq_nil_of_length_eq_zero; simpa using hnsl
     subst hns0
     have hset : H.set i (.vec (some b) sz (rows ++ []) c) = H := by
      rw [List.append_nil]
      apply List.ext_getElem?
      intro k
      rw [List.getElem?_set]
      split
      ·rename_i hk; subst hk; rw [hi]; split
       ·rfl
       ·rename_i hge; rw [List.getElem?_eq_none Am] at hi; cases hi
      ·rfl
     refine ⟨_, w, .vs (some b) (rows ++ []).length c, H, F, hrun w Ao, ⟨some b, c, Ao, hset.symm⟩, .refl, hH, ?_⟩
     simp [CF]
    | cons r0 rr =>
     rw [← hrr]
     have hnsne : ns ≠ [] := by
      intro e0; rw [e0] at hnsl; rw [hrr] at hnsl; simp [Nat.succ_mul] at hnsl; omega
     have hw : E6 b (.cells ⟨splice vs (rows.length * sz) ns⟩ T' (0, 0)) w (w.setCells b (rows.length * sz) ns) := ED ns hb hnsne
     have hfit : rows.length * sz + ns.length ≤ vs.length := by
      have : (rows.length + rows'.length) * sz ≤ c * sz := Nat.mul_le_mul_right sz hcap
      rw [Nat.add_mul] at this
      omega
     have st := hw.stable hF
     have hb' := hw.self hlt
     refine ⟨_, w.setCells b (rows.length * sz) ns, .vs (some b) (rows ++ rows').length c, _, F, hrun _ ?_, ⟨some b, c, Ao, Ao⟩, hw.trans hi Ao Ao, hw.HRel hH hi Ao Ao ?_, by simp [CF]⟩
     ·have ht := MU hb (o := rows.length * sz) (n := ns.length) hfit
      have h1' : ∀ u ∈ ns, u.oneCell' = true := Hd hnsr (Ni hsol)
      have := run_storeCells_cells (P := P) b (rows.length * sz) ns 0 w (fun q hq => by simpa using (ht q hq).1) (fun q hq => by simpa using (ht q hq).2) h1'
      simp only [Nat.add_zero] at this
      simp only [Addr.add_mid, Nat.zero_add]
      exact this
     ·refine ⟨⟨splice vs (rows.length * sz) ns⟩, T', hb', by simp only [ES, List.size_toArray]; exact hcs', by simp; omega, ?_⟩
      refine Ie ?_ ?_
      ·have : ∀ {rs : List (List PV)} {q : Nat}, q + rs.length * sz ≤ rows.length * sz → Bw F w b sz q rs → Bw F (w.setCells b (rows.length * sz) ns) b sz q rs := by
        intro rs
        induction rs with
        | nil => intro q _ _; simp [Bw]
        | cons a rs ih2 =>
         intro q hq ha
         simp only [Bw] at ha ⊢
         simp only [List.length_cons, Nat.succ_mul] at hq
         exact ⟨ha.1, Gg hb hb' st (.inl (by rw [ha.1]; omega)) ha.2.1, ih2 Am ha.2.2⟩
       exact this Am hrows
      ·refine Ft (vs := ns) hr' ?_ (Bu.mono st _ _ hnsr)
       intro q u hq
       have := Hl ns vs (rows.length * sz) q u hq hfit
       simp [World.cell?, hb', this]
  ·-- a new array
   have hcap' : c < rows.length + rows'.length := by omega
   generalize hnc : Question.cut (.appendCap (rows.length + rows'.length) c e) (w.tape w.drawn (.appendCap (rows.length + rows'.length) c e)) = newCap
   have hncge : rows.length + rows'.length ≤ newCap := by rw [← hnc]; simp only [Question.cut]; omega
   have hnext := L0 hcap'
   have hask : ∀ (b : Nat) w, (askRoom b).run P w = .ok () w := by intro b w; unfold askRoom; split <;> rfl
   let w1 : World := { w with drawn := w.drawn + 1 }
   have same : C2 F w F w1 := ⟨Nat.le_refl _, fun _ _ _ => rfl, fun _ h _ => h⟩
   have hobj' : Fc F w1 (.vec o sz rows c) := Fc.mono same _ (fun _ _ => rfl) hobj
   obtain ⟨ns', oy', cy', hEy', hns', hnsl', hnsr'⟩ := Im (P := P) (CF.mono same _ _ h2) hr'
   obtain ⟨os', hos', hosl', hosr'⟩ := FM (P := P) hobj' (CF.mono same _ _ h1)
   let vs : List Value := os' ++ ns' ++ (Builtin.zeroCells zv.cells (newCap - (rows.length + rows'.length))).toList
   have hrun : (execOp E ⟨dst, .call { callee := .builtin .append, args := #[x, y], argTypes := #[T, T2] }, ty, pos, aft, g⟩).run P w = .ok (.value (.slice (some ⟨w.heap.size, 0, none⟩) (rows.length + rows'.length) newCap)) (World.push w1 (.cells ⟨vs⟩ e (0, 0))) := by
    have hos2 := hos'
    rw [hEx] at hos2
    simp only [execOp, resolve, invoke, builtin, Builtin.append_, hEx, Sem.run_bind, Sem.run_pure, Result.andThen_ok, List.map_toArray, List.map_cons, List.map_nil, List.getElem?_toArray, List.getElem?_cons_zero, List.getElem?_cons_succ, run_underlying hu, run_underlying hu2, hszr, pure_bind,
     Bool.false_eq_true, if_false, hlenof, Bool.not_false, if_true]
    rw [if_neg hcap]
    simp only [Sem.run_bind, hti, Result.andThen_ok, hby]
    rw [if_neg Ah]
    simp only [Sem.run_bind, Sem.run_pure, Result.andThen_ok, hti, hby, pure_bind]
    rw [if_neg (by
     have : Builtin.nextslicecap (rows.length + rows'.length) c * bytes ≤ 2 * (rows.length + rows'.length) * bytes := Nat.mul_le_mul_right bytes hnext
     simp; omega)]
    have hch : (choose (.appendCap (rows.length + rows'.length) c e)).run P w = .ok newCap w1 := by
     simp only [choose, Sem.run, Question.forced, Bool.false_eq_true, if_false, hnc]
     rfl
    simp only [Sem.run_bind, Sem.run_pure, Result.andThen_ok, pure_bind, hch, hti, hask, hos2, hns', hzv, newRow, newObj, Sem.run, Result.andThen]
    have evs : (⟨os'⟩ ++ ⟨ns'⟩ ++ Builtin.zeroCells zv.cells (newCap - (rows.length + rows'.length)) : Array Value) = ⟨vs⟩ := by
     apply Array.ext'; simp [vs]
    rw [evs]
    rfl
   have hvl : vs.length = newCap * sz := by
    simp only [vs, List.length_append, hosl', hnsl', Array.length_toList, JY, hzs]
    rw [← Nat.add_mul, ← Nat.add_mul]
    congr 1
    omega
   have hlen2 : (rows ++ rows').flatten.length = (rows.length + rows'.length) * sz := by rw [Ss hlall, hlen]
   have hpre : Bu F w1 ((rows ++ rows').flatten.map .p) (vs.take ((rows ++ rows').flatten.length)) := by
    have e1 : vs.take ((rows ++ rows').flatten.length) = os' ++ ns' := by
     rw [hlen2]
     have : (os' ++ ns').length = (rows.length + rows'.length) * sz := by rw [List.length_append, hosl', hnsl', Nat.add_mul]
     rw [← this]
     exact List.take_left
    rw [e1, List.flatten_append, List.map_append]
    exact hosr'.append hnsr'
   -- the tracked object lies in the new array
   have hH1 : HRel F H w1 := hH.stable' same (fun _ h => h) (fun _ _ _ _ => rfl) hH.bd
   have t1 : Trans F H w F H w1 := ⟨Nat.le_refl _, fun _ _ _ => rfl, fun _ h _ => h, fun _ h => .inl h, fun o ho b hb => .inl ⟨o, ho, hb⟩, rfl, rfl, rfl⟩
   obtain ⟨v', H', F', ⟨b', c', hv', hH'⟩, ht, hHr, hrep⟩ := PL (T := e) (c := newCap) (vs := vs) (H := H) hH1 hlall hpre (by rw [hvl]; exact Nat.le_refl _) (by rw [hlen]; exact hncge)
   subst hv'
   subst hH'
   have hset : H.set i (.vec (some b') sz (rows ++ rows') c') = H.take i ++ .vec (some b') sz (rows ++ rows') c' :: H.drop (i + 1) := by
    rw [List.set_eq_take_append_cons_drop, if_pos (List.getElem?_eq_some_iff.1 hi).1]
   have hperm : (BL.vec (some b') sz (rows ++ rows') c' :: H.eraseIdx i).Perm (H.set i (.vec (some b') sz (rows ++ rows') c')) := by
    rw [hset, List.eraseIdx_eq_take_drop_succ]
    exact List.perm_middle.symm
   have hsub : (BL.vec (some b') sz (rows ++ rows') c' :: H.eraseIdx i).Sublist (BL.vec (some b') sz (rows ++ rows') c' :: H) := (List.eraseIdx_sublist H i).cons_cons _
   refine ⟨_, _, .vs (some b') (rows ++ rows').length c', H.set i (.vec (some b') sz (rows ++ rows') c'), F', hrun, ⟨some b', c', Ao, Ao⟩, ?_, (hHr.sublist hsub).perm hperm, by rw [← hlen]; exact hrep⟩
   have := (t1.trans hH.bd ht).sublist hsub
   exact { this with keys := fun o ho => this.keys o (hperm.mem_iff.2 ho) }
theorem MF {T T2 e e2 : TypeId} {sz bytes n2 n3 c i n : Nat} {o : Option Nat} {rows rows' : List (List PV)} {zv : Value} (hT : E3 P T = some (e, sz, bytes)) (hT2 : E3 P T2 = some (e2, n2, n3)) (hz : zeroOf P e = some zv) (hzs : zv.cells.size = sz) (hb0 : (Nat.blt 0 sz && Nat.blt 0 bytes) = true)
  (hx : ρ x = .vs o n c) (hn : n = rows.length) (hi : H[i]? = some (.vec o sz rows c)) (hy : norm (ρ y) = .p (.lst rows')) (hsol : ∀ r ∈ rows', DP sz r) (hroom : 2 * (rows.length + rows'.length) * bytes ≤ 281474976710656) :
  C6 P ⟨dst, .call { callee := .builtin .append, args := #[x, y], argTypes := #[T, T2] }, ty, pos, aft, g⟩ ρ H (KI i sz (rows ++ rows') H) :=
 M9 hT hT2 hz hzs hb0 (fun _ _ _ h => by rw [hx] at h; exact h) hn hi hy hsol hroom
theorem Ko {o : Oper} {r : Option Nat} {a : Act} {w : World} {K K' : Act → World → Prop} {Q Q' : Exit → Act → World → Prop} (h : o.wpIn (W r) 0 P a w K Q) (hk : ∀ a w, K a w → K' a w) (hq : ∀ e a w, Q e a w → Q' e a w) : o.wpIn (W r) 0 P a w K' Q' := by
 unfold Oper.wpIn at *
 refine ⟨h.1, ?_⟩
 replace h := h.2
 generalize (o.semAt (W r).round a.eval).run P w = rr at *
 cases rr with
 | ok n w' =>
  cases n <;> simp only [Oper.uponIn] at h ⊢
  case value v => exact hk _ _ h
  case skip => exact hk _ _ h
  case defer d => exact hk _ _ h
  case enter f args =>
   refine ⟨h.1, h.2.mono fun e w'' he => ?_⟩
   cases e with
   | returned v => exact hk _ _ he
   | panicked c => exact hq _ _ _ he
   | outgrown => obtain ⟨a₀, w₀, h2⟩ := he; exact ⟨a₀, w₀, hq _ _ _ h2⟩
  case row row args => exact ⟨h.1, h.2.mono fun v w'' h => hk _ _ h⟩
  case round l' f tmps assign body =>
   refine ⟨h.1, h.2.mono fun e w'' he => ?_⟩
   cases e with
   | returned v => exact hk _ _ he
   | panicked c => exact hq _ _ _ he
   | outgrown => obtain ⟨a₀, w₀, h2⟩ := he; exact ⟨a₀, w₀, hq _ _ _ h2⟩
 | halt x w' =>
  cases x <;> simp only [Oper.uponIn] at h ⊢
  case panic v => exact hq _ _ _ h
end
section
variable {P : Program} {r : Option Nat} {ops : Array Oper} {Q : Ck → Bq → Prop} {k : Nat} {n : Nat} {τ : Nat → AV} {H H' : List BL} {D : List Di} {dst : Option Tmp} {op : Op} {ty : TypeId} {pos : String} {aft : Array Edge} {v : AV}
theorem V9 {i sz : Nat} {rows : List (List PV)} (ho : ops[k]? = some ⟨dst, op, ty, pos, aft, none⟩) (hd : G7 dst n = true) (h : C6 P ⟨dst, op, ty, pos, aft, none⟩ (ev τ) H (KI i sz rows H))
  (next : ∀ o c, AL P r ops (k + 1) ⟨n, put τ dst (.vs o rows.length c), H.set i (.vec o sz rows c), D⟩ Q) : AL P r ops k ⟨n, τ, H, D⟩ Q :=
 ER (S := ⟨n, τ, H, D⟩) ho Ag (Fh hd) h (fun v H' ⟨o, c, h1, h2⟩ => by subst h1; subst h2; exact next o c) (fun _ _ h => h.elim)
theorem VX {sz : Nat} {rows : List (List PV)} (ho : ops[k]? = some ⟨dst, op, ty, pos, aft, none⟩) (hd : G7 dst n = true) (h : C6 P ⟨dst, op, ty, pos, aft, none⟩ (ev τ) H (Ix sz rows H))
  (next : ∀ b c, AL P r ops (k + 1) ⟨n, put τ dst (.vs (some b) rows.length c), .vec (some b) sz rows c :: H, D⟩ Q) : AL P r ops k ⟨n, τ, H, D⟩ Q :=
 ER (S := ⟨n, τ, H, D⟩) ho Ag (Fh hd) h (fun v H' ⟨b, c, h1, h2⟩ => by subst h1; subst h2; exact next b c) (fun _ _ h => h.elim)
def Za (v : AV) (H : List BL) : DM → List BL → Prop
 | .val _, _ => False
 | .panic v', H' => v' = v ∧ H' = H
end
section
variable {P : Program} {dst : Option Tmp} {ty : TypeId} {pos : String} {aft : Array Edge} {g : Option (Nat × Bool)} {ρ : Operand → AV} {H : List BL} {x y z : Operand} {v : AV}
theorem IW (op : BinOp) (t : TypeId) (a b : ByteArray) (w : World) : (eqGuard op t x y (.string a) (.string b)).run P w = .ok () w := by
 unfold eqGuard
 split <;> rfl
theorem JJ {T U : TypeId} {a b : ByteArray} (hx : ρ x = .p (.str a)) (hy : ρ y = .p (.str b)) : DS P ⟨dst, .binOp .eql T x y U, ty, pos, aft, g⟩ ρ H (.p (.bool (a.toList == b.toList))) H :=
 CK fun F w E hH hE => by
  have h1 := hE x Ac
  have h2 := hE y Ac
  rw [hx] at h1
  rw [hy] at h2
  simp only [CF, CQ] at h1 h2
  refine ⟨.bool (a.toList == b.toList), ?_, by simp [CF, CQ]⟩
  simp [execOp, Sem.run_bind, IW, h1, h2, binOp, Op.stringOp]
theorem K1 {T U : TypeId} {a b : ByteArray} (hx : ρ x = .p (.str a)) (hy : ρ y = .p (.str b)) : DS P ⟨dst, .binOp .neq T x y U, ty, pos, aft, g⟩ ρ H (.p (.bool (!(a.toList == b.toList)))) H :=
 CK fun F w E hH hE => by
  have h1 := hE x Ac
  have h2 := hE y Ac
  rw [hx] at h1
  rw [hy] at h2
  simp only [CF, CQ] at h1 h2
  refine ⟨.bool (!(a.toList == b.toList)), ?_, by simp [CF, CQ]⟩
  simp [execOp, Sem.run_bind, IW, h1, h2, binOp, Op.stringOp]
theorem GK {a : Operand} {T : TypeId} {s : ByteArray} (hu : P.underlying T = some .string) (hx : ρ a = .p (.str s)) :
  DS P ⟨dst, .call { callee := .builtin .len, args := #[a], argTypes := #[T] }, ty, pos, aft, g⟩ ρ H (.p (.int .i64 s.size)) H :=
 CK fun F w E hH hE => by
  have h1 := hE a AU
  rw [hx] at h1
  simp only [CF, CQ] at h1
  refine ⟨.int .i64 s.size, ?_, by simp [CF, CQ]⟩
  simp [execOp, resolve, invoke, builtin, Builtin.len_, h1, Sem.run_bind, run_underlying hu, goInt]
theorem M8 {T : TypeId} {k : IntKind} {i : Int} {s : ByteArray} {c : UInt8} (hu : P.underlying T = some .string) (hx : ρ x = .p (.str s)) (hy : ρ y = .p (.int k i)) (h0 : 0 ≤ i) (hc : s[i.toNat]? = some c) :
  DS P ⟨dst, .index T x y, ty, pos, aft, g⟩ ρ H (.p (.int .u8 c.toNat)) H :=
 CK fun F w E hH hE => by
  have h1 := hE x Ac
  have h2 := hE y Ac
  rw [hx] at h1
  rw [hy] at h2
  simp only [CF, CQ] at h1 h2
  refine ⟨.int .u8 c.toNat, ?_, by simp [CF, CQ]⟩
  simp [execOp, Instr.index, h1, h2, asIntOf, Sem.run_bind, run_underlying hu, h0, hc]
theorem I3 {a b : Operand} {T T2 : TypeId} {m n : Int} (hx : ρ a = .p (.int .i64 m)) (hy : ρ b = .p (.int .i64 n)) :
  DS P ⟨dst, .call { callee := .builtin .max, args := #[a, b], argTypes := #[T, T2] }, ty, pos, aft, g⟩ ρ H (.p (.int .i64 (max m n))) H :=
 CK fun F w E hH hE => by
  have h1 := hE a AU
  have h2 := hE b AU
  rw [hx] at h1
  rw [hy] at h2
  simp only [CF, CQ] at h1 h2
  refine ⟨.int .i64 (max m n), ?_, by simp [CF, CQ]⟩
  have e : (if n > m then n else m) = max m n := by
   rw [Int.max_def]; split <;> split <;> omega
  simp [execOp, resolve, invoke, builtin, Builtin.max_, Builtin.max2, h1, h2]
  rw [← e]
theorem Ut {a b : Operand} {T T2 : TypeId} {m n : Int} (hx : ρ a = .p (.int .i64 m)) (hy : ρ b = .p (.int .i64 n)) :
  DS P ⟨dst, .call { callee := .builtin .min, args := #[a, b], argTypes := #[T, T2] }, ty, pos, aft, g⟩ ρ H (.p (.int .i64 (min m n))) H :=
 CK fun F w E hH hE => by
  have h1 := hE a AU
  have h2 := hE b AU
  rw [hx] at h1
  rw [hy] at h2
  simp only [CF, CQ] at h1 h2
  refine ⟨.int .i64 (min m n), ?_, by simp [CF, CQ]⟩
  have e : (if n < m then n else m) = min m n := by
   rw [Int.min_def]; split <;> split <;> omega
  simp [execOp, resolve, invoke, builtin, Builtin.min_, Builtin.min2, h1, h2]
  rw [← e]
theorem Bw.drop {F : Nat → Prop} {w : World} {b sz : Nat} : ∀ {rows : List (List PV)} {o : Nat} (n : Nat), Bw F w b sz o rows → Bw F w b sz (o + n * sz) (rows.drop n)
 | rows, o, 0, h => by simpa using h
 | [], o, n + 1, h => by simp [Bw]
 | r :: rows, o, n + 1, h => by
  simp only [Bw] at h
  have := Bw.drop n h.2.2
  simp only [List.drop_succ_cons]
  have e : o + sz + n * sz = o + (n + 1) * sz := by rw [Nat.succ_mul]; omega
  rwa [e] at this
theorem Bw.take {F : Nat → Prop} {w : World} {b sz : Nat} : ∀ {rows : List (List PV)} {o : Nat} (n : Nat), Bw F w b sz o rows → Bw F w b sz o (rows.take n)
 | rows, o, 0, h => by simp [Bw]
 | [], o, n + 1, h => by simp [Bw]
 | r :: rows, o, n + 1, h => by
  simp only [Bw, List.take_succ_cons] at *
  exact ⟨h.1, h.2.1, Bw.take n h.2.2⟩
theorem Mw {F : Nat → Prop} {w : World} {T e : TypeId} {sz bytes lo hi : Nat} {rows : List (List PV)} {u : Value} {lv hv : Option Value} (hT : E3 P T = some (e, sz, bytes)) (h : CF F w (.p (.lst rows)) u) (hr : ∀ r ∈ rows, r.length = sz)
  (hl : (lv = none ∧ lo = 0) ∨ ∃ k, lv = some (.int k lo)) (hh : (hv = none ∧ hi = rows.length) ∨ ∃ k, hv = some (.int k hi)) (h1 : lo ≤ hi) (h2 : hi ≤ rows.length) :
  ∃ u', (Instr.sliceAt T u lv hv none).run P w = .ok u' w ∧ CF F w (.p (.lst ((rows.take hi).drop lo))) u' := by
 obtain ⟨hu, j, hj, hs, _⟩ := E1 hT
 have hval : ∃ o c, u = .slice o rows.length c ∧ rows.length ≤ c := by
  simp only [CF, CQ] at h
  rcases h with ⟨rfl, o, c, rfl⟩ | ⟨b, o, c, sz', rfl, hF, hb, hc, hrows⟩
  ·exact ⟨o, c, Ao, by simp⟩
  ·exact ⟨_, c, Ao, hc⟩
 obtain ⟨o, c, rfl, hc⟩ := hval
 have hb : (Instr.sliceBounds true rows.length c lv hv none).run P w = .ok (lo, hi, c) w := by
  have b1 : ∀ (k : IntKind) (m y : Nat) cd, m ≤ y → (Instr.sliceBound (.int k (m : Int)) y cd).run P w = .ok m w := by
   intro k m y cd hmy
   unfold Instr.sliceBound
   simp only [asIntOf, Sem.run_bind, Sem.run_pure, Result.andThen_ok]
   rw [if_pos ⟨by omega, by omega⟩]
   simp
  unfold Instr.sliceBounds
  rcases hh with ⟨rfl, rfl⟩ | ⟨k, rfl⟩ <;> rcases hl with ⟨rfl, rfl⟩ | ⟨k', rfl⟩
  ·simp
  ·simp [Sem.run_bind, b1 _ _ _ _ h1]
  ·simp [Sem.run_bind, b1 _ _ _ _ (by omega : hi ≤ c)]
  ·simp [Sem.run_bind, b1 _ _ _ _ (by omega : hi ≤ c), b1 _ _ _ _ h1]
 have hszr : (sizeOf e).run P w = .ok sz w := by simp [sizeOf, typeInfo, hj, hs]
 refine ⟨.slice (if c = lo then o else o.map (·.add (lo * sz))) (hi - lo) (c - lo), ?_, ?_⟩
 ·simp only [Instr.sliceAt, Sem.run_bind, run_underlying hu, Result.andThen_ok, Instr.slice, hb, hszr, Sem.run_pure]
 ·have hlen : ((rows.take hi).drop lo).length = hi - lo := by simp; omega
  simp only [CF, CQ] at h ⊢
  by_cases hemp : (rows.take hi).drop lo = []
  ·left
   have h0 : hi - lo = 0 := by rw [hemp] at hlen; simp at hlen; omega
   exact ⟨hemp, (if c = lo then o else o.map (·.add (lo * sz))), c - lo, by rw [h0]⟩
  ·rcases h with ⟨rfl, _⟩ | ⟨b, o', c', sz', hv', hF, hb', hc', hrows⟩
   ·simp at hemp
   ·injection hv' with e1 e2 e3
    subst e1; subst e3
    right
    have hlt : lo < hi := by
     rcases Nat.lt_or_ge lo hi with h | h
     ·exact h
     ·exfalso; apply hemp; apply List.eq_nil_of_length_eq_zero; omega
    have hsz' : sz' = sz := by
     cases rows with
     | nil => simp at h2; omega
     | cons r rows => have := hr r An; simp only [Bw] at hrows; omega
    subst hsz'
    rw [if_neg Am]
    refine ⟨b, o' + lo * sz', c - lo, sz', ?_, hF, hb', by omega, ?_⟩
    ·rw [hlen]; simp [Addr.add_mid]
    ·exact (hrows.take hi).drop lo
theorem Rs {T e : TypeId} {sz bytes lo hi : Nat} {rows : List (List PV)} {l h : Option Operand} (hT : E3 P T = some (e, sz, bytes)) (hx : ρ x = .p (.lst rows)) (hr : ∀ r ∈ rows, r.length = sz)
  (hl : match l with | none => lo = 0 | some y => ∃ k, ρ y = .p (.int k lo)) (hh : match h with | none => hi = rows.length | some y => ∃ k, ρ y = .p (.int k hi)) (h1 : lo ≤ hi) (h2 : hi ≤ rows.length) :
  DS P ⟨dst, .slice T x l h none, ty, pos, aft, g⟩ ρ H (.p (.lst ((rows.take hi).drop lo))) H :=
 CK fun F w E hH hE => by
  have e1 := hE x Ac
  rw [hx] at e1
  obtain ⟨u', hu', hrep⟩ := Mw (P := P) (lv := l.map E) (hv := h.map E) (lo := lo) (hi := hi) hT e1 hr (by
   cases l with
   | none => exact .inl ⟨rfl, hl⟩
   | some y =>
    obtain ⟨k, hk⟩ := hl
    have := hE y Ac
    rw [hk] at this
    simp only [CF, CQ] at this
    exact .inr ⟨k, by simp [this]⟩) (by
   cases h with
   | none => exact .inl ⟨rfl, hh⟩
   | some y =>
    obtain ⟨k, hk⟩ := hh
    have := hE y Ac
    rw [hk] at this
    simp only [CF, CQ] at this
    exact .inr ⟨k, by simp [this]⟩) h1 h2
  exact ⟨u', by simp only [execOp, Sem.run_bind, Option.map_none, hu', Result.andThen_ok, Sem.run_pure], hrep⟩
end
def bare : AV → Bool
 | .p (.bool _) | .p (.int _ _) | .p (.str _) => true
 | _ => false
def YD (o : Option Nat) (n c : Nat) (rows : List (List PV)) : List AV → List AV → Prop
 | [], A => A = []
 | x :: xs, A => ∃ y ys, A = y :: ys ∧ (y = x ∨ y = norm x ∨ (x = .vs o n c ∧ y = .p (.lst rows))) ∧ YD o n c rows xs ys
section
variable {P : Program} {dst : Option Tmp} {ty : TypeId} {pos : String} {aft : Array Edge} {g : Option (Nat × Bool)} {ρ : Operand → AV} {H : List BL} {x y z : Operand} {v : AV}
end
def GZ (P : Program) (l : Nat) (args : List AV) (H : List BL) (R : DM → List BL → Prop) : Prop :=
 ∀ F w vs, HRel F H w → Bu F w args vs → ∃ f tmps assign body, (Instr.yield l ⟨vs⟩).run P w = .ok (.round l f tmps assign body) w ∧
  ∀ r, RoundIn (W r) 0 P l f tmps assign body w fun e w' => ∃ rr H' F', R rr H' ∧ OP F' w' rr e ∧ HRel F' H' w' ∧ Trans F H w F' H' w'
theorem Rm {P : Program} {dst : Option Tmp} {c : Call} {ty : TypeId} {pos : String} {aft : Array Edge} {g : Option (Nat × Bool)} {f : Operand} {l : Nat}
  {ρ : Operand → AV} {H Hs Hf : List BL} {A : List AV} {R : DM → List BL → Prop}
  (hc : c.callee = .value f) (hf : ρ f = .fn (.yield l) [] []) (hp : H.Perm (Hs ++ Hf)) (h : GZ P l A Hs R) (hA : c.args.toList.map ρ = A) :
  C6 P ⟨dst, .call c, ty, pos, aft, g⟩ ρ H (fun r H' => ∃ Hs', R r Hs' ∧ H' = Hs' ++ Hf) := by
 intro r F S a w hs hH hρ hd
 subst hH
 refine KE Ao ?_
 have hev : ∀ x ∈ (f :: c.args.toList), CF F w (ρ x) (a.eval x) := by
  intro x hx
  rw [← hρ x (by simp [Op.operands, Call.operands, hc]; simpa using hx)]
  exact hs.eval x
 have hfv : a.eval f = .func (.yield l) #[] #[] := by
  have := hev f An
  rw [hf] at this
  simp only [CF, Bu] at this
  obtain ⟨fs, cs, h1, rfl, rfl⟩ := this
  exact h1
 have hargs : Bu F w A (c.args.toList.map a.eval) := by rw [← hA]; exact Bu.mapEval _ fun x hx => hev x (by simp [hx])
 have hH' := hs.heap.perm hp
 have hHs : HRel F Hs w := hH'.sublist (List.sublist_append_left _ _)
 obtain ⟨f', tmps, assign, body, hy, hround⟩ := h F w _ hHs hargs
 have hrun : (execOp a.eval ⟨dst, .call c, ty, pos, aft, g⟩).run P w = .ok (.round l f' tmps assign body) w := by
  have e : (c.args.map a.eval : Array Value) = ⟨c.args.toList.map a.eval⟩ := by
   apply Array.ext'
   simp
  simp [execOp, resolve, hc, Deferred.ofValue, hfv, invoke, e, hy]
 simp only [hrun, Oper.uponIn]
 refine ⟨fun h => (by cases h), (hround r).mono ?_⟩
 rintro e w' ⟨rr, H', F', hR, he, hH2, ht⟩
 have htf := ht.frame (H := S.H) hp
 cases rr with
 | val v =>
  obtain ⟨u, rfl, hu⟩ := he
  exact ⟨v, H' ++ Hf, F', ⟨H', hR, Ao⟩, hs.put hd (htf.stable hs.heap.sub) (hH'.frame hH2 ht) hu, htf⟩
 | panic v =>
  obtain ⟨u, rfl, hu⟩ := he
  have := hs.put (d := none) (fun _ h => by cases h) (htf.stable hs.heap.sub) (hH'.frame hH2 ht) (J4 undef)
  exact ⟨v, H' ++ Hf, F', u, ⟨H', hR, Ao⟩, Ao, hu, this, htf⟩
def Jj (τ : Nat → AV) : List Tmp → List AV → Nat → AV
 | t :: ts, x :: xs => Jj (put τ (some t) x) ts xs
 | _, _ => τ
theorem MK {F : Nat → Prop} {w : World} : ∀ (ts : List Tmp) (xs : List AV) (vs : List Value) (τ : Nat → AV) (tmps : Array Value), (∀ t ∈ ts, t < tmps.size) → (∀ t, CF F w (τ t) (tmps.getD t undef)) → Bu F w xs vs →
  (∀ t, CF F w (Jj τ ts xs t) (((ts.zip vs).foldl (fun (m : Array Value) p => m.setIfInBounds p.1 p.2) tmps).getD t undef)) ∧ ((ts.zip vs).foldl (fun (m : Array Value) p => m.setIfInBounds p.1 p.2) tmps).size = tmps.size
 | [], xs, vs, τ, tmps, _, h, _ => by simp only [Jj, List.zip_nil_left, List.foldl_nil]; exact ⟨h, trivial⟩
 | t :: ts, [], vs, τ, tmps, _, h, hv => by
  simp only [Bu] at hv
  subst hv
  simp only [Jj, List.zip_nil_right, List.foldl_nil]; exact ⟨h, trivial⟩
 | t :: ts, x :: xs, vs, τ, tmps, hts, h, hv => by
  simp only [Bu] at hv
  obtain ⟨u, us, rfl, h1, h2⟩ := hv
  simp only [Jj, List.zip_cons_cons, List.foldl_cons]
  have := MK ts xs us (put τ (some t) x) (tmps.setIfInBounds t u) (fun t' ht' => by simpa using hts t' (by simp [ht'])) ?_ h2
  ·simpa using this
  ·intro t'
   by_cases e : t' = t
   ·subst e
    have hlt := hts t' An
    simp [put, hlt, h1]
   ·simpa [put, Ma e, Array.getElem?_setIfInBounds_ne (Ne.symm e)] using h t'
def Vt (l : Nat) (L : KA) (R : DM → List BL → Prop) : Ck → Bq → Prop
 | .normal, S => ∃ i H', S.H[i]? = some (.loop l { L with state := .busy }) ∧ H'.Sublist (S.H.set i (.loop l { L with state := .ready, pending := none })) ∧ R (.val (.p (.bool true))) H'
 | .ret, S => ∃ i H', S.H[i]? = some (.loop l { L with state := .busy }) ∧ H'.Sublist (S.H.set i (.loop l { L with state := .done, pending := some .ret })) ∧ R (.val (.p (.bool false))) H'
 | .exit id, S => ∃ i H', S.H[i]? = some (.loop l { L with state := .busy }) ∧ H'.Sublist (S.H.set i (.loop l { L with state := .done, pending := some (.exit id) })) ∧ R (.val (.p (.bool false))) H'
 | .panic _, _ => False
theorem Jo {F : Nat → Prop} {w : World} {H : List BL} {l i : Nat} {L L' : KA} {rec rec' : Loop} (hH : HRel F H w) (hi : H[i]? = some (.loop l L)) (hr : w.heap[l]? = some (.loop rec)) (hL : L'.n = L.n ∧ L'.τ = L.τ ∧ rec'.tmps = rec.tmps ∧ rec.tmps.size = L.n ∧ (∀ t, CF F w (L.τ t) (rec.tmps.getD t undef)) ∧ rec'.state = L'.state ∧ rec'.pending = L'.pending ∧ rec'.params = L'.params ∧ rec'.assign = L'.assign ∧ rec'.body = L'.body) :
  HRel F (H.set i (.loop l L')) (w.putObj l (.loop rec')) ∧ Trans F H w F (H.set i (.loop l L')) (w.putObj l (.loop rec')) ∧ C2 F w F (w.putObj l (.loop rec')) := by
 have hlt : l < w.heap.size := (Array.getElem?_eq_some_iff.1 hr).1
 have hF : F l := hH.sub _ (List.mem_of_getElem? hi) l rfl
 have hw : E6 l (.loop rec') w (w.putObj l (.loop rec')) := ⟨rfl, rfl, rfl, rfl⟩
 have st := hw.stable hF
 obtain ⟨h1, h2, h3, h4, h5, h6, h7, h8, h9, h10⟩ := hL
 refine ⟨hw.HRel hH hi Ao Ao ⟨rec', hw.self hlt, h6, h7, h8, h9, h10, by rw [h3, h4, h1], fun t => ?_⟩, hw.trans hi rfl rfl, st⟩
 rw [h2, h3]
 exact CF.mono st _ _ (h5 t)
theorem I4 {P : Program} {l : Nat} {L : KA} {H : List BL} {i : Nat} {A : List AV} {R : DM → List BL → Prop} (hi : H[i]? = some (.loop l L)) (hst : L.state = .ready) (hsz : A.length = L.params.size) (hts : (L.params.toList.all fun t => Nat.blt t L.n) = true)
  (h : Hj P (some l) L.assign ⟨L.n, Jj L.τ L.params.toList A, H, []⟩ (fun e S => e = .normal ∧ ∃ j, S.H[j]? = some (.loop l L) ∧ Hj P (some l) L.body ⟨S.n, S.τ, S.H.set j (.loop l { L with state := .busy }), S.D⟩ (Vt l L R))) :
  GZ P l A H R := by
 intro F w vs hH hv
 obtain ⟨rec, hrec, h1, h2, h3, h4, h5, h6, h7⟩ := hH.obj _ (List.mem_of_getElem? hi)
 have hvs : (⟨vs⟩ : Array Value).size = rec.params.size := by rw [h3, ← hsz]; simpa using hv.length
 refine ⟨rec.fn, ((rec.params.zip ⟨vs⟩).foldl (fun tmps (t, a) => tmps.setIfInBounds t a) rec.tmps), rec.assign, rec.body, ?_, ?_⟩
 ·exact run_yield (P := P) hrec hvs
 ·intro r
  have hput := MK (F := F) (w := w) L.params.toList A vs L.τ rec.tmps (fun t ht => by
   have := List.all_eq_true.1 hts t ht
   rw [h6]; simpa [Nat.blt_eq] using this) h7 hv
  have e1 : ((rec.params.zip ⟨vs⟩).foldl (fun tmps (t, a) => tmps.setIfInBounds t a) rec.tmps) = ((L.params.toList.zip vs).foldl (fun (m : Array Value) p => m.setIfInBounds p.1 p.2) rec.tmps) := by
   rw [h3, ← Array.foldl_toList, Array.toList_zip]
  rw [e1]
  have hs0 : DB F ⟨L.n, Jj L.τ L.params.toList A, H, []⟩ { tmps := ((L.params.toList.zip vs).foldl (fun (m : Array Value) p => m.setIfInBounds p.1 p.2) rec.tmps), defers := [] } w :=
   ⟨by rw [hput.2, h6], hput.1, hH, by simp [Eb]⟩
  rw [h4, h5]
  refine roundIn_of_wpIn (F := W r) trivial ?_
  refine wpIn_mono (h F _ w hs0) ?_
  rintro e a' w' ⟨e', S', F', ⟨rfl, j, hj, hbody⟩, he, hs', ht⟩
  obtain rfl : e = .normal := he
  obtain ⟨rec1, hrec1, g1, g2, g3, g4, g5, g6, g7⟩ := hs'.heap.obj _ (List.mem_of_getElem? hj)
  refine ⟨_, run_beginRound (P := P) hrec1 (by rw [g1, hst]), ?_⟩
  obtain ⟨q1, q2, q3⟩ := Jo (L' := { L with state := .busy }) (rec' := { rec1 with state := .busy }) hs'.heap hj hrec1 ⟨rfl, rfl, rfl, g6, g7, rfl, g2, g3, g4, g5⟩
  have hs2 : DB F' ⟨S'.n, S'.τ, S'.H.set j (.loop l { L with state := .busy }), S'.D⟩ a' (w'.putObj l (.loop { rec1 with state := .busy })) :=
   ⟨hs'.size, fun t => CF.mono q3 _ _ (hs'.tmp t), q1, Eb.mono q3 _ _ hs'.defs⟩
  refine wpIn_mono (hbody F' a' _ hs2) ?_
  rintro e2 a2 w2 ⟨e2', S2, F2, hq, he2, hs3, ht2⟩
  have t12 := (ht.trans hH.bd q2).trans hH.bd ht2
  have fin : ∀ (k : Nat) (H' : List BL) (jump : Option Code) (b : Bool), jump.isNone = b → S2.H[k]? = some (.loop l { L with state := .busy }) → H'.Sublist (S2.H.set k (.loop l { L with state := if jump.isNone then .ready else .done, pending := jump })) → R (.val (.p (.bool b))) H' →
    ∃ v w3, (Instr.endRound l jump).run P w2 = .ok v w3 ∧ ∃ rr H' F', R rr H' ∧ OP F' w3 rr (.returned v) ∧ HRel F' H' w3 ∧ Trans F H w F' H' w3 := by
   intro k H' jump b hb hk hsub hR
   obtain ⟨rec2, hrec2, k1, k2, k3, k4, k5, k6, k7⟩ := hs3.heap.obj _ (List.mem_of_getElem? hk)
   obtain ⟨p1, p2, p3⟩ := Jo (L' := { L with state := if jump.isNone then .ready else .done, pending := jump }) (rec' := { rec2 with state := if jump.isNone then .ready else .done, pending := jump }) hs3.heap hk hrec2 ⟨rfl, rfl, rfl, k6, k7, rfl, rfl, k3, k4, k5⟩
   refine ⟨_, _, run_endRound (P := P) jump hrec2, _, H', F2, hR, ⟨_, Ao, by simp [CF, CQ, hb]⟩, p1.sublist hsub, (t12.trans hH.bd p2).sublist hsub⟩
  cases e2' with
  | normal => obtain rfl : e2 = .normal := he2; obtain ⟨k, H', hk, hsub, hR⟩ := hq; exact fin k H' none true rfl hk hsub hR
  | ret => obtain rfl : e2 = .ret := he2; obtain ⟨k, H', hk, hsub, hR⟩ := hq; exact fin k H' (some .ret) false rfl hk hsub hR
  | exit id => obtain rfl : e2 = .exit id := he2; obtain ⟨k, H', hk, hsub, hR⟩ := hq; exact fin k H' (some (.exit id)) false rfl hk hsub hR
  | panic v => exact hq.elim
theorem MD {α : Type} : ∀ {l : List α} {i : Nat} {x : α}, l[i]? = some x → l.Perm (x :: l.eraseIdx i)
 | [], i, x, h => by simp at h
 | y :: l, 0, x, h => by simp at h; subst h; exact .refl _
 | y :: l, i + 1, x, h => by
  simp at h
  simp only [List.eraseIdx_cons_succ]
  exact ((MD h).cons y).trans (.swap x y _)
def OG (P : Program) (l d : Nat) (S : Bq) (Q : Ck → Bq → Prop) : DM → List BL → Prop
 | .val _, H' => ∃ (i : Nat) (L : KA), H'[i]? = some (BL.loop l L) ∧ L.state ≠ LoopState.busy ∧
   (match L.pending with
    | none => Q .normal ⟨S.n, S.τ, H'.eraseIdx i, .mark d :: S.D⟩
    | some c => Hj P none c ⟨S.n, S.τ, H'.eraseIdx i, .mark d :: S.D⟩ Q)
 | .panic v, H' => Q (.panic v) ⟨S.n, S.τ, H', .mark d :: S.D⟩
theorem P1 {F : Nat → Prop} {w : World} {H : List BL} (hH : HRel F H w) : HRel (fun b => F b ∨ b = w.heap.size) (.dfr w.heap.size :: H) (w.alloc (.deferred (some []))) ∧ Trans F H w (fun b => F b ∨ b = w.heap.size) (.dfr w.heap.size :: H) (w.alloc (.deferred (some []))) := by
 have same : ∀ b, b < w.heap.size → (w.alloc (.deferred (some []))).heap[b]? = w.heap[b]? := fun b hb => by
  show (w.heap.push _)[b]? = _
  simp [Array.getElem?_push, Nat.ne_of_lt hb]
 have st : C2 F w (fun b => F b ∨ b = w.heap.size) (w.alloc (.deferred (some []))) := ⟨by simp, fun b _ hb => same b hb, fun b hf hb h => h.elim hf fun h => by omega⟩
 refine ⟨⟨?_, ?_, ?_, ?_⟩, ⟨by simp, fun b hb _ => same b hb, fun b h _ => .inl h, ?_, ?_, rfl, rfl, rfl⟩⟩
 ·rintro o ho b hb
  rcases List.mem_cons.1 ho with rfl | ho
  ·simp only [BL.key, Option.some.injEq] at hb; exact .inr hb.symm
  ·exact .inl (hH.sub o ho b hb)
 ·simp only [List.filterMap_cons, BL.key, List.nodup_cons]
  refine ⟨fun h => ?_, hH.nodup⟩
  obtain ⟨o, ho, hk⟩ := List.mem_filterMap.1 h
  exact Nat.lt_irrefl _ (hH.bd _ (hH.sub o ho _ hk))
 ·rintro o ho
  rcases List.mem_cons.1 ho with rfl | ho
  ·exact World.alloc_heap_new w _
  ·exact Fc.mono st o (fun b hb => same b (hH.bd b (hH.sub o ho b hb))) (hH.obj o ho)
 ·rintro b (h | rfl)
  ·have := hH.bd b h; simp; omega
  ·simp
 ·rintro b (h | rfl)
  ·exact .inl h
  ·exact .inr (Nat.le_refl _)
 ·rintro o ho b hb
  rcases List.mem_cons.1 ho with rfl | ho
  ·simp only [BL.key, Option.some.injEq] at hb; exact .inr Am
  ·exact .inl ⟨o, ho, hb⟩
theorem PQ {F : Nat → Prop} {w : World} {H : List BL} (hH : HRel F H w) {L : KA} {r : Loop} (h1 : r.state = L.state) (h2 : r.pending = L.pending) (h3 : r.params = L.params) (h4 : r.assign = L.assign) (h5 : r.body = L.body) (h6 : r.tmps.size = L.n) (h7 : ∀ t, CF F w (L.τ t) (r.tmps.getD t undef)) :
  HRel (fun b => F b ∨ b = w.heap.size) (.loop w.heap.size L :: H) (w.alloc (.loop r)) ∧ Trans F H w (fun b => F b ∨ b = w.heap.size) (.loop w.heap.size L :: H) (w.alloc (.loop r)) := by
 have same : ∀ b, b < w.heap.size → (w.alloc (.loop r)).heap[b]? = w.heap[b]? := fun b hb => by
  show (w.heap.push _)[b]? = _
  simp [Array.getElem?_push, Nat.ne_of_lt hb]
 have st : C2 F w (fun b => F b ∨ b = w.heap.size) (w.alloc (.loop r)) := ⟨by simp, fun b _ hb => same b hb, fun b hf hb h => h.elim hf fun h => by omega⟩
 refine ⟨⟨?_, ?_, ?_, ?_⟩, ⟨by simp, fun b hb _ => same b hb, fun b h _ => .inl h, ?_, ?_, rfl, rfl, rfl⟩⟩
 ·rintro o ho b hb
  rcases List.mem_cons.1 ho with rfl | ho
  ·simp only [BL.key, Option.some.injEq] at hb; exact .inr hb.symm
  ·exact .inl (hH.sub o ho b hb)
 ·simp only [List.filterMap_cons, BL.key, List.nodup_cons]
  refine ⟨fun h => ?_, hH.nodup⟩
  obtain ⟨o, ho, hk⟩ := List.mem_filterMap.1 h
  exact Nat.lt_irrefl _ (hH.bd _ (hH.sub o ho _ hk))
 ·rintro o ho
  rcases List.mem_cons.1 ho with rfl | ho
  ·exact ⟨r, World.alloc_heap_new w _, h1, h2, h3, h4, h5, h6, fun t => CF.mono st _ _ (h7 t)⟩
  ·exact Fc.mono st o (fun b hb => same b (hH.bd b (hH.sub o ho b hb))) (hH.obj o ho)
 ·rintro b (h | rfl)
  ·have := hH.bd b h; simp; omega
  ·simp
 ·rintro b (h | rfl)
  ·exact .inl h
  ·exact .inr (Nat.le_refl _)
 ·rintro o ho b hb
  rcases List.mem_cons.1 ho with rfl | ho
  ·simp only [BL.key, Option.some.injEq] at hb; exact .inr Am
  ·exact .inl ⟨o, ho, hb⟩
theorem Rv {P : Program} {g : Operand} {ps : Array Tmp} {assign body : Code} {S : Bq} {Q : Ck → Bq → Prop} {fid : FuncId} {first caps : List AV}
  (hg : (ev S.τ g = .p (.fn fid) ∧ first = [] ∧ caps = []) ∨ ev S.τ g = .fn (.func fid) first caps)
  (h : ∀ d l, ∃ Hs Hf, (BL.loop l ⟨.ready, none, S.n, S.τ, ps, assign, body⟩ :: .dfr d :: S.H).Perm (Hs ++ Hf) ∧
   Bl P fid (first ++ [.fn (.yield l) [] []] ++ caps) Hs (fun r H' => OG P l d S Q r (H' ++ Hf))) :
  Hj P none (.rangeFunc g ps assign body) S Q := by
 intro F a w hs
 refine wpIn_rangeFunc ?_
 intro fn _
 obtain ⟨d, hd⟩ : ∃ d, d = w.heap.size := ⟨_, rfl⟩
 obtain ⟨p1, p2⟩ := P1 hs.heap
 have st1 := p2.stable hs.heap.sub
 obtain ⟨rec, hrec⟩ : ∃ rec : Loop, rec = { state := .ready, pending := none, fn, tmps := a.tmps, params := ps, assign, body, defers := w.heap.size } := ⟨_, rfl⟩
 have hl : (w.alloc (.deferred (some []))).heap.size = w.heap.size + 1 := by simp
 obtain ⟨q1, q2⟩ := PQ p1 (L := ⟨.ready, none, S.n, S.τ, ps, assign, body⟩) (r := rec) (by rw [hrec]) (by rw [hrec]) (by rw [hrec]) (by rw [hrec]) (by rw [hrec]) (by rw [hrec]; exact hs.size) (fun t => by rw [hrec]; exact CF.mono st1 _ _ (hs.tmp t))
 have st2 := q2.stable p1.sub
 have t12 := p2.trans hs.heap.bd q2
 have st12 := t12.stable hs.heap.sub
 obtain ⟨W1, hW1⟩ : ∃ W1, (w.alloc (.deferred (some []))).alloc (.loop rec) = W1 := ⟨_, rfl⟩
 rw [hW1] at q1 q2 t12 st12
 obtain ⟨F1, hF1⟩ : ∃ F1 : Nat → Prop, (fun b => (F b ∨ b = w.heap.size) ∨ b = (w.alloc (.deferred (some []))).heap.size) = F1 := ⟨_, rfl⟩
 rw [hF1] at q1 q2 t12 st12
 rw [hl] at q1 t12
 obtain ⟨Hs, Hf, hp, hc⟩ := h w.heap.size (w.heap.size + 1)
 have hgv : ∃ fs cs, a.eval g = .func (.func fid) ⟨fs⟩ ⟨cs⟩ ∧ Bu F1 W1 first fs ∧ Bu F1 W1 caps cs := by
  have := CF.mono st12 _ _ (hs.eval g)
  rcases hg with ⟨h1, rfl, rfl⟩ | h1
  ·rw [h1] at this
   simp only [CF, CQ] at this
   exact ⟨[], [], this, by simp [Bu], by simp [Bu]⟩
  ·rw [h1] at this
   simpa only [CF] using this
 obtain ⟨fs, cs, hgv, hfs, hcs⟩ := hgv
 have hy : Bu F1 W1 [.fn (.yield (w.heap.size + 1)) [] []] [Value.func (.yield (w.heap.size + 1)) #[] #[]] := by
  simp only [Bu, CF]
  exact ⟨_, [], Ao, ⟨[], [], Ao, Ao, Ao⟩, Ao⟩
 refine ⟨w.heap.size + 1, [{ target := .collected w.heap.size, args := #[] }], W1, { target := .fn (.func fid) ⟨cs⟩, args := ⟨fs⟩ ++ #[.func (.yield (w.heap.size + 1)) #[] #[]] }, W1, fid,
  ⟨fs ++ [Value.func (.yield (w.heap.size + 1)) #[] #[]] ++ cs⟩, W1, ?_, ?_, ?_, ?_, fun h => (by cases h), ?_⟩
 ·rw [← hW1, hrec]; exact run_enterLoop_outer _ _ _ _ _
 ·simp only [resolve, hgv]
  simp [go_sem, Deferred.ofValue]
 ·intro f' hf'; trivial
 ·have e : (⟨fs⟩ ++ #[Value.func (.yield (w.heap.size + 1)) #[] #[]] ++ ⟨cs⟩ : Array Value) = ⟨fs ++ [Value.func (.yield (w.heap.size + 1)) #[] #[]] ++ cs⟩ := by
   apply Array.ext'; simp
  simp only [invoke, e]
  exact H8 hc.1 _ _
 ·have hH1 := q1.perm hp
  refine CallsIn.mono (ar none (hc.2 F1 W1 _ (hH1.sublist (List.sublist_append_left _ _)) ((hfs.append hy).append hcs))) ?_
  rintro e w3 ⟨r, Hs', F', hR, he, hH2, ht⟩
  have htf := ht.frame (H := (BL.loop (w.heap.size + 1) ⟨.ready, none, S.n, S.τ, ps, assign, body⟩ :: .dfr w.heap.size :: S.H)) hp
  have t3 := t12.trans hs.heap.bd htf
  have hH3 := hH1.frame hH2 ht
  have st3 := t3.stable hs.heap.sub
  cases r with
  | val v =>
   obtain ⟨u, rfl, hu⟩ := he
   obtain ⟨i, L, hi, hbusy, hnext⟩ := hR
   obtain ⟨rec3, hrec3, g1, g2, g3, g4, g5, g6, g7⟩ := hH3.obj _ (List.mem_of_getElem? hi)
   obtain ⟨k1, k2, k3⟩ := Jo (L' := { L with state := .exhausted }) (rec' := { rec3 with state := .exhausted }) hH3 hi hrec3 ⟨rfl, rfl, rfl, g6, g7, rfl, g2, g3, g4, g5⟩
   have hsub : ((Hs' ++ Hf).eraseIdx i).Sublist ((Hs' ++ Hf).set i (.loop (w.heap.size + 1) { L with state := .exhausted })) := by
    have : (Hs' ++ Hf).eraseIdx i = ((Hs' ++ Hf).set i (.loop (w.heap.size + 1) { L with state := .exhausted })).eraseIdx i := by rw [List.eraseIdx_set_eq]
    rw [this]; exact List.eraseIdx_sublist ..
   have t4 := (t3.trans hs.heap.bd k2).sublist hsub
   have hs4 : DB F' ⟨S.n, S.τ, (Hs' ++ Hf).eraseIdx i, .mark w.heap.size :: S.D⟩ { a with defers := [{ target := .collected w.heap.size, args := #[] }] ++ a.defers } (w3.putObj (w.heap.size + 1) (.loop { rec3 with state := .exhausted })) :=
    ⟨hs.size, fun t => CF.mono k3 _ _ (CF.mono st3 _ _ (hs.tmp t)), k1.sublist hsub, by simp only [Eb]; exact ⟨_, rfl, Eb.mono k3 _ _ (Eb.mono st3 _ _ hs.defs)⟩⟩
   refine ⟨rec3.pending, _, run_endLoop hrec3 (by rw [g1]; exact hbusy), ?_⟩
   generalize w3.putObj (w.heap.size + 1) (.loop { rec3 with state := .exhausted }) = W4 at *
   rw [g2]
   cases hpd : L.pending with
   | none => simp only [hpd] at hnext; exact ⟨.normal, _, F', hnext, rfl, hs4, t4⟩
   | some c =>
    simp only [hpd] at hnext
    exact wpIn_mono (hnext F' _ _ hs4) fun _ _ _ => FD hs.heap.bd t4
  | panic v =>
   obtain ⟨u, rfl, hu⟩ := he
   exact ⟨.panic v, ⟨S.n, S.τ, Hs' ++ Hf, .mark w.heap.size :: S.D⟩, F', hR, ⟨u, Ao, hu⟩, ⟨hs.size, fun t => CF.mono st3 _ _ (hs.tmp t), hH3, by simp only [Eb]; exact ⟨_, rfl, Eb.mono st3 _ _ hs.defs⟩⟩, t3⟩
inductive Lj where
 | ret
 | pan (v : AV)
def R8 (F : Nat → Prop) (w : World) : Lj → FrameMode → Prop
 | .ret, u => u = .returning
 | .pan v, u => ∃ x, u = .panicking [{ v := x, recovered := false }] ∧ CF F w v x
theorem R8.mono {F F' : Nat → Prop} {w w' : World} (st : C2 F w F' w') : ∀ {m : Lj} {u : FrameMode}, R8 F w m u → R8 F' w' m u
 | .ret, u, h => h
 | .pan v, u, ⟨x, h, hr⟩ => ⟨x, h, CF.mono st _ _ hr⟩
def UP (P : Program) (f : FuncId) (caps : List AV) (m : Lj) (H : List BL) (R : List BL → Prop) : Prop :=
 BZ P f = true ∧ ∀ F w vs u, HRel F H w → Bu F w caps vs → R8 F w m u →
  CallsDIn (W none) 0 P f ⟨vs⟩ u w fun e u' w' => ∃ v H' F', e = .returned v ∧ settle u' = .returning ∧ R H' ∧ HRel F' H' w' ∧ Trans F H w F' H' w'
def IU (P : Program) (fn : Func) (S : Bq) (R : DM → List BL → Prop) : List Di → Lj → List BL → Prop
 | [], .ret, H => ∃ vs H', Mp P ⟨S.n, S.τ, H, []⟩ fn.results.toList vs ∧ H'.Sublist H ∧ R (.val (pack vs)) H'
 | [], .pan v, H => ∃ H', H'.Sublist H ∧ R (.panic v) H'
 | .mark b :: D, m, H => ∃ i, H[i]? = some (.dfr b) ∧ IU P fn S R D m (H.eraseIdx i)
 | .clo f caps :: D, m, H => ∃ fid Hs Hf, f = .func fid ∧ H.Perm (Hs ++ Hf) ∧ UP P fid caps m Hs (fun H' => IU P fn S R D .ret (H' ++ Hf))
def SW (P : Program) (fn : Func) (R : DM → List BL → Prop) : Ck → Bq → Prop
 | .normal, S | .ret, S => IU P fn S R S.D .ret S.H
 | .panic v, S => IU P fn S R S.D (.pan v) S.H
 | .exit _, _ => False
theorem Hg {P : Program} {fn : Func} {S : Bq} {R : DM → List BL → Prop} {tmps : Array Value} {F0 : Nat → Prop} {H0 : List BL} {w0 : World} (bd0 : ∀ b, F0 b → b < w0.heap.size) (hsz : tmps.size = S.n) :
  ∀ (D : List Di) (ds : List Deferred) (m : Lj) (u : FrameMode) (H : List BL) (F : Nat → Prop) (w : World), (∀ t, CF F w (S.τ t) (tmps.getD t undef)) → HRel F H w → Eb F w D ds → R8 F w m u → Trans F0 H0 w0 F H w → IU P fn S R D m H →
   LeavesInM (W none) 0 P fn tmps (fun e w' => ∃ r H' F', R r H' ∧ OP F' w' r e ∧ HRel F' H' w' ∧ Trans F0 H0 w0 F' H' w') ds u w
 | [], ds, m, u, H, F, w, hτ, hH, hd, hm, ht, hq => by
  simp only [Eb] at hd
  subst hd
  cases m with
  | ret =>
   obtain rfl : u = .returning := hm
   obtain ⟨vs, H', hres, hsub, hR⟩ := hq
   have hs : DB F ⟨S.n, S.τ, H, []⟩ { tmps, defers := [] } w := ⟨hsz, hτ, hH, by simp [Eb]⟩
   obtain ⟨v, hv, hrv⟩ := Ia hs hres
   exact ⟨v, hv, _, H', F, hR, ⟨v, Ao, hrv⟩, hH.sublist hsub, ht.sublist hsub⟩
  | pan v =>
   obtain ⟨x, rfl, hx⟩ := hm
   obtain ⟨H', hsub, hR⟩ := hq
   exact ⟨_, H', F, hR, ⟨x, Ao, hx⟩, hH.sublist hsub, ht.sublist hsub⟩
 | .mark b :: D, ds, m, u, H, F, w, hτ, hH, hd, hm, ht, hq => by
  simp only [Eb] at hd
  obtain ⟨ds', rfl, hd⟩ := hd
  obtain ⟨i, hi, hq⟩ := hq
  have hb : w.heap[b]? = some (.deferred (some [])) := hH.obj _ (List.mem_of_getElem? hi)
  have hFb : F b := hH.sub _ (List.mem_of_getElem? hi) b rfl
  have hw : E6 b (.deferred none) w (w.putObj b (.deferred none)) := ⟨rfl, rfl, rfl, rfl⟩
  have st := hw.stable hFb
  have hk : H.Perm (.dfr b :: H.eraseIdx i) := by
   exact MD hi
  have hH' := hH.perm hk
  have other : ∀ o ∈ H.eraseIdx i, ∀ k, o.key = some k → k ≠ b := by
   intro o ho k hk' e
   subst e
   have := hH'.nodup
   simp only [List.filterMap_cons, BL.key, List.nodup_cons] at this
   exact this.1 (List.mem_filterMap.2 ⟨o, ho, hk'⟩)
  have same : ∀ k, k ≠ b → (w.putObj b (.deferred none)).heap[k]? = w.heap[k]? := fun k hk => World.putObj_heap_other hk
  have hHn : HRel F (H.eraseIdx i) (w.putObj b (.deferred none)) := by
   refine ⟨fun o ho => hH'.sub o (by simp [ho]), ?_, fun o ho => ?_, fun k hk => by simpa using hH.bd k hk⟩
   ·have := hH'.nodup
    simp only [List.filterMap_cons, BL.key, List.nodup_cons] at this
    exact this.2
   ·exact Fc.mono st o (fun k hk => same k (other o ho k hk)) (hH'.obj o (by simp [ho]))
  have hT : Trans F H w F (H.eraseIdx i) (w.putObj b (.deferred none)) :=
   ⟨by simp, fun k hk hn => same k fun e => hn _ (List.mem_of_getElem? hi) (by rw [e]; rfl), fun _ h _ => h, fun _ h => .inl h, fun o ho k hk' => .inl ⟨o, hk.mem_iff.2 (by simp [ho]), hk'⟩, rfl, rfl, rfl⟩
  have hu : u ≠ .run := by
   cases m with
   | ret => obtain rfl : u = .returning := hm; simp
   | pan v => obtain ⟨x, rfl, hx⟩ := hm; simp
  refine ⟨hu, .inl ⟨b, _, Ao, run_takeDeferred hb, ?_⟩⟩
  exact Hg bd0 hsz D ds' m u _ F _ (fun t => CF.mono st _ _ (hτ t)) hHn (Eb.mono st _ _ hd) (hm.mono st) (ht.trans bd0 hT) hq
 | .clo f caps :: D, ds, m, u, H, F, w, hτ, hH, hd, hm, ht, hq => by
  simp only [Eb] at hd
  obtain ⟨vs, ds', rfl, hv, hd⟩ := hd
  obtain ⟨fid, Hs, Hf, rfl, hp, hc⟩ := hq
  have hu : u ≠ .run := by
   cases m with
   | ret => obtain rfl : u = .returning := hm; simp
   | pan v => obtain ⟨x, rfl, hx⟩ := hm; simp
  have hH' := hH.perm hp
  refine ⟨hu, .inr ⟨fun h => (by cases h), .func fid, ⟨vs⟩, fid, ⟨vs⟩, Ao, ?_, fun _ _ => trivial, ?_⟩⟩
  ·simp only [invoke]
   have e : (#[] ++ ⟨vs⟩ : Array Value) = ⟨vs⟩ := by apply Array.ext'; simp
   rw [e]
   exact H8 hc.1 _ _
  ·obtain ⟨hF, hcall⟩ := hc.2 F w vs u (hH'.sublist (List.sublist_append_left _ _)) hv hm
   refine ⟨hF, fun c cs hcu hroom => ?_⟩
   obtain ⟨e, u', w', fr, ⟨v, H', F', rfl, hset, hR, hH2, ht2⟩, hrest⟩ := hcall c cs hcu hroom
   refine ⟨.returned v, u', w', fr, ?_, hrest⟩
   have htf := ht2.frame (H := H) hp
   have st := htf.stable hH.sub
   show LeavesInM _ _ _ _ _ _ _ (settle u') w'
   rw [hset]
   exact Hg bd0 hsz D ds' .ret .returning _ F' w' (fun t => CF.mono st _ _ (hτ t)) (hH'.frame hH2 ht2) (Eb.mono st _ _ hd) Ao (ht.trans bd0 htf) hR
theorem FR {P : Program} {f : FuncId} {fn : Func} {c : Code} {args : List AV} {H : List BL} {R : DM → List BL → Prop}
  {n : Nat} (hf : P.funcs[f]? = some fn) (hb : fn.body = some c) (he : BZ P f = true) (hn' : fn.ntmps = n) (hn : Nat.ble args.length n = true)
  (h : Hj P none c ⟨n, Nv args, H, []⟩ (SW P fn R)) : Bl P f args H R := by
 subst hn'
 rw [Nat.ble_eq] at hn
 refine ⟨he, fun F w vs hH hr => ?_⟩
 refine (callsIn_wide (n := 0)).1 ?_
 refine callsIn_of_wp_marks hf hb trivial ?_
 have hsz : (⟨vs⟩ : Array Value).size = args.length := by simpa using hr.length
 have hs : DB F ⟨fn.ntmps, Nv args, H, []⟩ { tmps := ⟨vs⟩ ++ Array.replicate (fn.ntmps - (⟨vs⟩ : Array Value).size) undef, defers := [] } w :=
  ⟨by simp only [Array.size_append, Array.size_replicate, hsz]; omega, fun t => Nx _ _ hr, hH, by simp [Eb]⟩
 refine wpIn_mono (h F _ w hs) ?_
 rintro e a' w' ⟨e', S', F', hq, hex, hs', ht⟩
 cases e' with
 | normal => obtain rfl : e = .normal := hex; exact Hg hH.bd hs'.size _ _ .ret .returning _ F' w' hs'.tmp hs'.heap hs'.defs rfl ht hq
 | ret => obtain rfl : e = .ret := hex; exact Hg hH.bd hs'.size _ _ .ret .returning _ F' w' hs'.tmp hs'.heap hs'.defs rfl ht hq
 | exit id => exact hq.elim
 | panic v => obtain ⟨u, rfl, hru⟩ := hex; exact Hg hH.bd hs'.size _ _ (.pan v) _ _ F' w' hs'.tmp hs'.heap hs'.defs ⟨u, rfl, hru⟩ ht hq
def Lj.val : Lj → AV
 | .ret => .p .nilIface
 | .pan v => v
section
variable {P : Program} {ops : Array Oper} {n : Nat} {τ₀ : Nat → AV} {D : List Di} {Q : Ck → Bq → Prop} {opn : Nat → Bool} {k : Nat} {τ : Nat → AV} {H : List BL} {rd : VB} {ef : To} {effs : List Bool} {fx : List (Nat × Sp)} {dst : Option Tmp} {op : Op} {ty : TypeId} {pos : String} {aft : Array Edge} {v : AV} {H' : List BL}
theorem OW {cs : List AV} (fx' : List (Nat × Sp)) (ho : ops[k]? = some ⟨dst, op, ty, pos, aft, none⟩) (hn : opn k = true) (h : C6 P ⟨dst, op, ty, pos, aft, none⟩ (ev τ) H (Hq cs H)) (haft : Ek ops k (fx'.map (·.1)) = true)
  (next : ∀ b, Ji ops k H (.box b cs :: H) rd ∧ G6 k (.eff (.ptr b 0) (.box b cs :: H)) fx ∧ Dr P ops n τ₀ D Q opn (k + 1) (put τ dst (.ptr b 0)) (.box b cs :: H) rd ((k, H, .box b cs :: H) :: ef) (true :: effs) (fx' ++ fx)) : Dr P ops n τ₀ D Q opn k τ H rd ef effs fx :=
 KS fx' ho hn h haft ⟨_, _, 0, rfl, rfl⟩ (fun _ _ h => h.elim) (fun v H' ⟨b, h1, h2⟩ => by subst h1; subst h2; exact next b)
theorem K4 {i sz : Nat} {rows : List (List PV)} (fx' : List (Nat × Sp)) (ho : ops[k]? = some ⟨dst, op, ty, pos, aft, none⟩) (hn : opn k = true) (h : C6 P ⟨dst, op, ty, pos, aft, none⟩ (ev τ) H (KI i sz rows H)) (haft : Ek ops k (fx'.map (·.1)) = true)
  (next : ∀ o c, Ji ops k H (H.set i (.vec o sz rows c)) rd ∧ G6 k (.eff (.vs o rows.length c) (H.set i (.vec o sz rows c))) fx ∧ Dr P ops n τ₀ D Q opn (k + 1) (put τ dst (.vs o rows.length c)) (H.set i (.vec o sz rows c)) rd ((k, H, H.set i (.vec o sz rows c)) :: ef) (true :: effs) (fx' ++ fx)) : Dr P ops n τ₀ D Q opn k τ H rd ef effs fx :=
 KS fx' ho hn h haft ⟨_, _, none, 0, rfl, rfl⟩ (fun _ _ h => h.elim) (fun v H' ⟨o, c, h1, h2⟩ => by subst h1; subst h2; exact next o c)
def DG (v : AV) (H' : List BL) : DM → List BL → Prop
 | .val v', H'' => v' = v ∧ H'' = H'
 | .panic _, _ => False
theorem UK {c : Call} {g : Option (Nat × Bool)} {f : Operand} {fid : FuncId} {first caps : List AV} {ρ : Operand → AV} {Hs Hf Hs' : List BL} {A : List AV}
  (hc : c.callee = .value f) (hf : (ρ f = .p (.fn fid) ∧ first = [] ∧ caps = []) ∨ ρ f = .fn (.func fid) first caps) (hp : H.Perm (Hs ++ Hf)) (h : Bl P fid A Hs (DG v Hs')) (hA : first ++ c.args.toList.map ρ ++ caps = A ∨ (first ++ c.args.toList.map ρ ++ caps).map norm = A) :
  DS P ⟨dst, .call c, ty, pos, aft, g⟩ ρ H v (Hs' ++ Hf) := by
 refine (Gx (H := H) hc hf hp h hA).mono ?_
 rintro r H' ⟨Hs', h1, rfl⟩
 cases r with
 | val v' => obtain ⟨rfl, rfl⟩ := h1; exact ⟨rfl, rfl⟩
 | panic v' => exact h1
end
def Zi (k : Int) : List (Int × AV) → Option AV
 | [] => none
 | (j, x) :: r => if j = k then some x else Zi k r
def Yz (k : Int) (v : AV) : List (Int × AV) → List (Int × AV)
 | [] => [(k, v)]
 | (j, x) :: r => if j = k then (j, v) :: r else (j, x) :: Yz k v r
def WV (l : List (Int × AV)) : List (PV × AV) := l.map fun p => (.int .i64 p.1, p.2)
def mapOf (P : Program) (T : TypeId) : Option TypeId :=
 match P.underlying T with
 | some (.map k e) => match P.underlying k with
  | some (.int .i64) => some e
  | _ => none
 | _ => none
section
variable {F : Nat → Prop} {w : World}
end
section
variable {P : Program} {dst : Option Tmp} {ty : TypeId} {pos : String} {aft : Array Edge} {g : Option (Nat × Bool)} {ρ : Operand → AV} {H : List BL} {x y z : Operand} {v : AV}
def TX (H : List BL) : DM → List BL → Prop
 | .val v, H' => ∃ b, v = .map b ∧ H' = .map b (WV []) :: H
 | .panic _, _ => False
theorem LC {T : TypeId} : C6 P ⟨dst, .makeMap T none, ty, pos, aft, g⟩ ρ H (TX H) :=
 FW fun F w E hH hE => by
  refine ⟨.map (some w.heap.size), World.push w (.map #[] 0), .map w.heap.size, .map w.heap.size (WV []) :: H, _, ?_, ⟨_, Ao, Ao⟩, Gw H _ _ (.inl Ao), HV hH _ _ Ao ?_, by simp [CF]⟩
  ·simp [execOp, Instr.makeMap, Sem.run_bind]
   rfl
  ·exact ⟨#[], 0, GC _, Ao⟩
theorem NB {T e : TypeId} {len sz b o : Nat} {k : IntKind} {i : Int} {inf : TypeInfo} (hu : P.underlying T = some (.array len e)) (hj : P.info? e = some inf) (hs : inf.size = sz) (hx : ρ x = .ptr b o) (hy : ρ y = .p (.int k i)) (h0 : 0 ≤ i) (hn : i < len) :
  DS P ⟨dst, .indexAddr T x y, ty, pos, aft, g⟩ ρ H (.ptr b (o + i.toNat * sz)) H :=
 CK fun F w E hH hE => by
  have h1 := hE x Ac
  have h2 := hE y Ac
  rw [hx] at h1
  rw [hy] at h2
  simp only [CF, CQ] at h1 h2
  refine ⟨.pointer (some ⟨b, o + i.toNat * sz, none⟩), ?_, by simp [CF]⟩
  simp [execOp, Instr.indexAt, Sem.run_bind, run_underlying hu, h1, h2, asIntOf, h0, hn, sizeOf, typeInfo, hj, hs, Addr.add_mid, Instr.sureAddr, asAddr]
theorem M0 {T e : TypeId} {len : Nat} {parts : Array (Nat × Operand)} {z : Value} {cs : List AV} {inf : TypeInfo} (hu : P.underlying T = some (.array len e)) (hj : P.info? e = some inf) (hz : zeroOf P T = some z)
  (hc : E2 (fun i => some (i * inf.size, inf.size)) (z.cells.toList.map GJ) (parts.toList.map fun p => (p.1, ρ p.2)) = some cs) : DS P ⟨dst, .build T parts, ty, pos, aft, g⟩ ρ H (.agg cs) H :=
 CK fun F w E hH hE => by
  unfold zeroOf at hz
  cases hi : P.info? T with
  | none => simp [hi] at hz
  | some i =>
   have hz' : i.zero = some z := by simpa [hi] using hz
   have hzv : (zeroValue T).run P w = .ok z w := by simp [zeroValue, typeInfo, hi, hz', Sem.run_bind]
   have hsz : (sizeOf e).run P w = .ok inf.size w := by simp [sizeOf, typeInfo, hj]
   obtain ⟨us, hf, hr⟩ := G1 (F := F) (w := w) (place := (fun i => some (i * inf.size, inf.size))) _ (parts.toList.map fun p => (p.1, E p.2)) _ z.cells.toList _ An (by
    intro j p q h1 h2
    simp only [List.getElem?_map] at h1 h2
    cases hj : parts.toList[j]? with
    | none => simp [hj] at h1
    | some t =>
     simp [hj] at h1 h2
     subst h1; subst h2
     exact ⟨Ao, hE _ (by
      have := List.mem_of_getElem? hj
      simp only [Op.operands]
      exact List.mem_map.2 ⟨t, this, Ao⟩)⟩) (FB _) hc
   refine ⟨.agg ⟨us⟩, ?_, by simp only [CF]; exact ⟨us, rfl, hr⟩⟩
   simp only [execOp, Instr.build, Sem.run_bind, hzv, Result.andThen_ok, run_underlying hu, hsz]
   have hf' : Instr.fill (fun i => some (i * inf.size, inf.size)) z.cells (parts.toList.map fun p => (p.1, E p.2)) = some ⟨us⟩ := hf
   simp [hf']
end
def KW (P : Program) (T : TypeId) : Bool :=
 match P.underlying T with
 | some (.struct fs) => match fs.toList with
  | [f, g] => f.name != "_" && g.name != "_" && Nat.beq f.offset 0 && Nat.beq g.offset 1 && (match P.underlying f.type, P.underlying g.type with | some (.int .i64), some (.int .i64) => true | _, _ => false) && !P.stoodInHeld T && !P.eqGuardType P.depth T
  | _ => false
 | _ => false
theorem QN {P : Program} {T : TypeId} {a b c d : Int} {w : World} (h : KW P T = true) : (Op.equal T (.agg #[.int .i64 a, .int .i64 b]) (.agg #[.int .i64 c, .int .i64 d])).run P w = .ok (a == c && b == d) w := by
 unfold KW at h
 split at h
 ·rename_i fs hu
  split at h
  ·rename_i f g hfs
   obtain rfl : fs = #[f, g] := by apply Array.ext'; simpa using hfs
   simp only [Bool.and_eq_true, bne_iff_ne, ne_eq, Bool.not_eq_true'] at h
   obtain ⟨⟨⟨⟨⟨⟨h1, h2⟩, h3⟩, h4⟩, h5⟩, h6⟩, h7⟩ := h
   split at h5
   ·rename_i hf hg
    have e3 := Nat.eq_of_beq_eq_true h3
    have e4 := Nat.eq_of_beq_eq_true h4
    have hp : (program).run P w = .ok P w := rfl
    have af : (isAgg f.type).run P w = .ok false w := HO hf false rfl w
    have ag : (isAgg g.type).run P w = .ok false w := HO hg false rfl w
    have pf : ∀ x y, (part f.type #[.int .i64 x, .int .i64 y] f.offset).run P w = .ok (.int .i64 x) w := by
     intro x y; unfold part; simp [Sem.run_bind, af, e3]
    have pg : ∀ x y, (part g.type #[.int .i64 x, .int .i64 y] g.offset).run P w = .ok (.int .i64 y) w := by
     intro x y; unfold part; simp [Sem.run_bind, ag, e4]
    have qf : ∀ x y, (Op.equalIn 9999 f.type (.int .i64 x) (.int .i64 y)).run P w = .ok (x == y) w := by
     intro x y; rw [show (9999 : Nat) = 9998 + 1 from rfl]; unfold Op.equalIn; simp [Sem.run_bind, run_underlying hf]
    have qg : ∀ x y, (Op.equalIn 9999 g.type (.int .i64 x) (.int .i64 y)).run P w = .ok (x == y) w := by
     intro x y; rw [show (9999 : Nat) = 9998 + 1 from rfl]; unfold Op.equalIn; simp [Sem.run_bind, run_underlying hg]
    unfold Op.equal
    rw [show Op.maxDepth = 9999 + 1 from rfl]
    unfold Op.equalIn
    simp only [Sem.run_bind, run_underlying hu, Result.andThen_ok, hp, h6]
    simp [Sem.run_bind, h1, h2, pf, pg, qf, qg]
    cases hac : (a == c) <;> cases hbd : (b == d) <;> simp_all [Sem.run_bind, h1, h2, pf, pg, qf, qg]
   ·cases h5
  ·cases h
 ·cases h
section
variable {P : Program} {dst : Option Tmp} {ty : TypeId} {pos : String} {aft : Array Edge} {g : Option (Nat × Bool)} {ρ : Operand → AV} {H : List BL} {x y z : Operand} {v : AV}
theorem Rk {T U : TypeId} {a b c d : Int} (h : KW P T = true) (hx : ρ x = .agg [.p (.int .i64 a), .p (.int .i64 b)]) (hy : ρ y = .agg [.p (.int .i64 c), .p (.int .i64 d)]) : DS P ⟨dst, .binOp .neq T x y U, ty, pos, aft, g⟩ ρ H (.p (.bool (!(a == c && b == d)))) H :=
 CK fun F w E hH hE => by
  have e1 := hE x Ac
  have e2 := hE y Ac
  rw [hx] at e1
  rw [hy] at e2
  simp only [CF, Bu, CQ] at e1 e2
  obtain ⟨vs, e1, u1, us1, rfl, rfl, u2, us2, rfl, rfl, rfl⟩ := e1
  obtain ⟨vs', e2, v1, vs1, rfl, rfl, v2, vs2, rfl, rfl, rfl⟩ := e2
  refine ⟨.bool (!(a == c && b == d)), ?_, by simp [CF, CQ]⟩
  have hq := QN (P := P) (T := T) (a := a) (b := b) (c := c) (d := d) (w := w) h
  have h' := h
  have hg : (eqGuard .neq T x y (.agg #[.int .i64 a, .int .i64 b]) (.agg #[.int .i64 c, .int .i64 d])).run P w = .ok () w := by
   unfold KW at h'
   split at h'
   ·split at h'
    ·simp only [Bool.and_eq_true, Bool.not_eq_true'] at h'
     have h7 := h'.2
     have hp : (program).run P w = .ok P w := rfl
     unfold eqGuard
     simp [Sem.run_bind, hp, h7]
    ·cases h'
   ·cases h'
  simp [execOp, Sem.run_bind, hg, e1, e2, binOp, hq]
end
theorem HZ {P : Program} {r : Option Nat} {c : Code} {S : Bq} {Q : Ck → Bq → Prop} (N : Nat) (C : Nat → Prop) (St : Nat → Bq) (i₀ : Nat) (h₀ : i₀ ≤ N) (hC : C i₀) (l : Le S (St i₀))
  (round : ∀ i, i ≤ N → C i → Hj P r c (St i) (PZ (fun S' => i < N ∧ C (i + 1) ∧ Le S' (St (i + 1))) Q)) : Hj P r (.loop c) S Q := by
 refine PD (fun m S => ∃ i, i ≤ N ∧ m = N - i ∧ C i ∧ S = St i) (m := N - i₀) l ⟨i₀, h₀, Ao, hC, Ao⟩ ?_
 rintro m S ⟨i, hi, rfl, hc, rfl⟩
 refine (round i hi hc).mono ?_
 intro e S' h
 cases e with
 | normal =>
  obtain ⟨h1, h2, h3⟩ := h
  exact ⟨N - (i + 1), St (i + 1), by omega, h3, i + 1, by omega, rfl, h2, rfl⟩
 | exit id => exact h
 | ret => exact h
 | panic v => exact h
theorem CS {α : Type} {P : Program} {r : Option Nat} {c : Code} {S : Bq} {Q : Ck → Bq → Prop} (St : α → Bq) (μ : α → Nat) (C : α → Prop) (a₀ : α) (hC : C a₀) (l : Le S (St a₀))
  (round : ∀ a, C a → Hj P r c (St a) (PZ (fun S' => ∃ a', μ a' < μ a ∧ C a' ∧ Le S' (St a')) Q)) : Hj P r (.loop c) S Q := by
 refine PD (fun m S => ∃ a, m = μ a ∧ C a ∧ S = St a) (m := μ a₀) l ⟨a₀, Ao, hC, Ao⟩ ?_
 rintro m S ⟨a, rfl, hc, rfl⟩
 refine (round a hc).mono ?_
 intro e S' h
 cases e with
 | normal =>
  obtain ⟨a', h1, h2, h3⟩ := h
  exact ⟨μ a', St a', h1, h3, a', Ao, h2, Ao⟩
 | exit id => exact h
 | ret => exact h
 | panic v => exact h
abbrev wr (n : Int) : Int := IntKind.i64.wrap n
section
variable {P : Program} {dst : Option Tmp} {ty : TypeId} {pos : String} {aft : Array Edge} {g : Option (Nat × Bool)} {ρ : Operand → AV} {H : List BL} {x y z : Operand} {v : AV}
theorem D8 {m n : Int} {T U : TypeId} (hx : ρ x = .p (.int .i64 m)) (hy : ρ y = .p (.int .i64 n)) : DS P ⟨dst, .binOp .add T x y U, ty, pos, aft, g⟩ ρ H (.p (.int .i64 (wr (m + n)))) H :=
 CK fun F w E hH hE => by
  have e1 := hE x Ac
  have e2 := hE y Ac
  rw [hx] at e1
  rw [hy] at e2
  simp only [CF, CQ] at e1 e2
  exact ⟨.int .i64 (wr (m + n)), by simp [execOp, Sem.run_bind, HC, e1, e2, binOp, Op.intArith], by simp [CF, CQ]⟩
theorem PO {m n : Int} {T U : TypeId} (hx : ρ x = .p (.int .i64 m)) (hy : ρ y = .p (.int .i64 n)) : DS P ⟨dst, .binOp .sub T x y U, ty, pos, aft, g⟩ ρ H (.p (.int .i64 (wr (m - n)))) H :=
 CK fun F w E hH hE => by
  have e1 := hE x Ac
  have e2 := hE y Ac
  rw [hx] at e1
  rw [hy] at e2
  simp only [CF, CQ] at e1 e2
  exact ⟨.int .i64 (wr (m - n)), by simp [execOp, Sem.run_bind, HC, e1, e2, binOp, Op.intArith], by simp [CF, CQ]⟩
end
def ZU (R : AV → Prop) : DM → List BL → Prop
 | .val v, H' => R v ∧ H' = []
 | .panic _, _ => False
abbrev GX (P : Program) (f : FuncId) (args : List AV) (R : AV → Prop) : Prop := Bl P f args [] (ZU R)
theorem GX.of {P : Program} {f : FuncId} {args : List AV} {v : AV} {R : AV → Prop} (h : G5 P f args v) (hR : R v) : GX P f args R :=
 Bl.mono h fun r H hr => by
  cases r with
  | val v' => obtain ⟨rfl, rfl⟩ := hr; exact ⟨hR, rfl⟩
  | panic v' => exact hr
def Mc (R : AV → Prop) (H : List BL) : DM → List BL → Prop
 | .val v, H' => R v ∧ H' = H
 | .panic _, _ => False
section
variable {P : Program} {r : Option Nat} {ops : Array Oper} {Q : Ck → Bq → Prop} {k : Nat} {n : Nat} {τ : Nat → AV} {H H' : List BL} {D : List Di} {dst : Option Tmp} {op : Op} {ty : TypeId} {pos : String} {aft : Array Edge} {g : Option (Nat × Bool)} {v : AV}
theorem BR {c : Call} {f : Operand} {fid : FuncId} {ρ : Operand → AV} {A : List AV} {R : AV → Prop} (hc : c.callee = .value f) (hf : ρ f = .p (.fn fid)) (h : GX P fid A R) (hA : c.args.toList.map ρ = A ∨ (c.args.toList.map ρ).map norm = A) :
  C6 P ⟨dst, .call c, ty, pos, aft, g⟩ ρ H (Mc R H) := by
 refine (Gx (H := H) (Hs := []) (Hf := H) (first := []) (caps := []) hc (.inl ⟨hf, Ao, Ao⟩) (A := A) An h (by simpa using hA)).mono ?_
 rintro r H' ⟨Hs', h1, rfl⟩
 cases r with
 | val v' => obtain ⟨h1, rfl⟩ := h1; exact ⟨h1, rfl⟩
 | panic v' => exact h1
theorem GY {R : AV → Prop} (ho : ops[k]? = some ⟨dst, op, ty, pos, aft, none⟩) (hd : G7 dst n = true) (h : C6 P ⟨dst, op, ty, pos, aft, none⟩ (ev τ) H (Mc R H))
  (next : ∀ v, R v → AL P r ops (k + 1) ⟨n, put τ dst v, H, D⟩ Q) : AL P r ops k ⟨n, τ, H, D⟩ Q :=
 ER (S := ⟨n, τ, H, D⟩) ho Ag (Fh hd) h (fun v H' ⟨h1, h2⟩ => by subst h2; exact next v h1) (fun _ _ h => h.elim)
theorem J9 {R : AV → Prop} {j d : Nat} {want : Bool} (ho : ops[k]? = some ⟨dst, op, ty, pos, aft, some (j, want)⟩) (hd : G7 dst n = true) (hj : (ops[j]?).bind (·.dst) = some d) (hb : τ d = .p (.bool want)) (h : C6 P ⟨dst, op, ty, pos, aft, some (j, want)⟩ (ev τ) H (Mc R H))
  (next : ∀ v, R v → AL P r ops (k + 1) ⟨n, put τ dst v, H, D⟩ Q) : AL P r ops k ⟨n, τ, H, D⟩ Q :=
 ER (S := ⟨n, τ, H, D⟩) ho (by simp only [C4]; exact ⟨d, hj, hb⟩) (Fh hd) h (fun v H' ⟨h1, h2⟩ => by subst h2; exact next v h1) (fun _ _ h => h.elim)
end
section
variable {P : Program} {ops : Array Oper} {n : Nat} {τ₀ : Nat → AV} {D : List Di} {Q : Ck → Bq → Prop} {opn : Nat → Bool} {k : Nat} {τ : Nat → AV} {H : List BL} {rd : VB} {ef : To} {effs : List Bool} {fx : List (Nat × Sp)} {dst : Option Tmp} {op : Op} {ty : TypeId} {pos : String} {aft : Array Edge}
theorem V5 {R : AV → Prop} (fx' : List (Nat × Sp)) (ho : ops[k]? = some ⟨dst, op, ty, pos, aft, none⟩) (hn : opn k = true) (h : C6 P ⟨dst, op, ty, pos, aft, none⟩ (ev τ) H (Mc R H)) (haft : Ek ops k (fx'.map (·.1)) = true) (hne : ∃ v, R v) (owe : Ji ops k H H rd)
  (next : ∀ v, R v → G6 k (.eff v H) fx ∧ Dr P ops n τ₀ D Q opn (k + 1) (put τ dst v) H rd ((k, H, H) :: ef) (true :: effs) (fx' ++ fx)) : Dr P ops n τ₀ D Q opn k τ H rd ef effs fx :=
 KS fx' ho hn h haft (let ⟨v, hv⟩ := hne; ⟨v, H, hv, rfl⟩) (fun _ _ h => h.elim) (fun v H' ⟨h1, h2⟩ => by subst h2; exact ⟨owe, next v h1⟩)
end
theorem CB {P : Program} {r : Option Nat} {c : Code} {Q : Ck → Bq → Prop} {n : Nat} {τ : Nat → AV} {H : List BL} {D : List Di} (live : List Nat) (d : Nat) (R : AV → Prop) (h : Hj P r c ⟨n, τ, H, D⟩ (PZ (fun S' => S'.n = n ∧ S'.D = D ∧ H.Sublist S'.H ∧ R (S'.τ d) ∧ Vx S'.τ τ live) Q))
  (next : ∀ x, R x → Q .normal ⟨n, mk ((d, x) :: live.map fun t => (t, τ t)), H, D⟩) : Hj P r c ⟨n, τ, H, D⟩ Q := by
 intro F a w hs
 refine wpIn_mono (h F a w hs) ?_
 rintro e a' w' ⟨e', S', F', hq, he, hs', ht⟩
 cases e' with
 | normal =>
  obtain ⟨n', τ', H', D'⟩ := S'
  obtain ⟨h1, h3, h2, h4, h5⟩ := hq
  simp only at h1 h2 h3 h4 h5
  subst h1; subst h3
  have l : Le ⟨n', τ', H', D'⟩ ⟨n', mk ((d, τ' d) :: live.map fun t => (t, τ t)), H, D'⟩ := Gr ⟨rfl, LL h5⟩ h2
  exact ⟨.normal, _, F', next _ h4, he, hs'.le l, ht.sublist h2⟩
 | exit id => exact ⟨.exit id, S', F', hq, he, hs', ht⟩
 | ret => exact ⟨.ret, S', F', hq, he, hs', ht⟩
 | panic v => exact ⟨.panic v, S', F', hq, he, hs', ht⟩
def Lz (v : AV) : Prop := ∃ b : Bool, v = .p (.bool b)
def Xp (v : AV) : Prop := ∃ e : Int, v = .p (.int .i64 e)
end Go.Abs
namespace Go.Eu
open Go.Abs
noncomputable def NF {α : Type} (a b : α) : Bool := @decide (a = b) (Classical.propDecidable _)
theorem Dl {α : Type} {a b : α} (h : a = b) : NF a b = true := by simp [NF, h]
theorem Ds {α : Type} {a b : α} (h : a ≠ b) : NF a b = false := by simp [NF, h]
theorem Hk {α : Type} {a b : α} : NF a b = true ↔ a = b := by simp [NF]
abbrev LV (l : Eg) : AV := .agg ((Db l).map .p)
abbrev Yq (ts : List Tm) : AV := .p (.lst (BO ts))
abbrev Yp (ls : List Eg) : AV := .p (.lst (ls.map Db))
theorem FP {ts : List C7} {i : Nat} {t : C7} (h : ts[i]? = some t) : (ts.map D5)[i]? = some (D5 t) := by simp [h]
theorem IQ {ts : List Eg} {i : Nat} {t : Eg} (h : ts[i]? = some t) : (ts.map Db)[i]? = some (Db t) := by simp [h]
def agree {α : Type} (a b : List α) (i : Nat) : Prop := a.take i = b.take i
theorem IB {α : Type} (a b : List α) : agree a b 0 := by simp [agree]
theorem H6 {α : Type} {a b : List α} {i : Nat} {x : α} (h : agree a b i) (ha : a[i]? = some x) (hb : b[i]? = some x) : agree a b (i + 1) := by
 unfold agree at *
 rw [List.take_add_one, List.take_add_one, ha, hb, h]
theorem JC {α : Type} {a b : List α} {n : Nat} (h : agree a b n) (ha : a.length = n) (hb : b.length = n) : a = b := by
 unfold agree at h
 rwa [List.take_of_length_le Am, List.take_of_length_le Am] at h
theorem BM {α : Type} {l : List α} {i : Nat} (h : i < l.length) : ∃ x, l[i]? = some x := ⟨_, List.getElem?_eq_getElem h⟩
abbrev Dp : Nat := 1099511627776
def II (n : Int) : Prop := -9223372036854775808 ≤ n ∧ n ≤ 9223372036854775807
structure Ui (l : Eg) : Prop where
 vars : l.vars.length < Dp
 c : II l.const
 v : ∀ v ∈ l.vars, II v.index ∧ II v.plus
mutual
def Nd : Tm → Prop
 | .mk k i n ls ks => n.size < Dp ∧ ls.length < Dp ∧ (∀ l ∈ ls, Ui l) ∧ ks.length < Dp ∧ JS ks ∧ II k ∧ II i
def JS : List Tm → Prop
 | [] => True
 | t :: ts => Nd t ∧ JS ts
end
theorem Dn : ∀ {ts : List Tm} {i : Nat} {t : Tm}, JS ts → ts[i]? = some t → Nd t
 | [], i, t, _, h => by simp at h
 | a :: ts, 0, t, hn, h => by simp at h; subst h; exact hn.1
 | a :: ts, i + 1, t, hn, h => by simp at h; exact Dn hn.2 h
mutual
def depth : Tm → Nat
 | .mk _ _ _ _ ks => SH ks + 1
def SH : List Tm → Nat
 | [] => 0
 | t :: ts => max (depth t) (SH ts)
end
end Go.Eu
namespace Go.Eu
theorem J3 (bs : ByteArray) : ∀ (d i : Nat) (r : List UInt8), bs.size - i = d → ByteArray.toList.loop bs i r = r.reverse ++ bs.data.toList.drop i := by
 intro d
 induction d with
 | zero =>
  intro i r h
  unfold ByteArray.toList.loop
  have : ¬ i < bs.size := by omega
  simp only [this, if_false]
  rw [List.drop_eq_nil_of_le (by have : bs.data.size = bs.size := rfl; simp; omega)]; simp
 | succ d ih =>
  intro i r h
  unfold ByteArray.toList.loop
  have hi : i < bs.size := by omega
  simp only [hi, if_true]
  rw [ih (i + 1) _ Am]
  have hlt : i < bs.data.toList.length := by have : bs.data.size = bs.size := rfl; simp; omega
  rw [List.drop_eq_getElem_cons hlt]
  have : bs.get! i = bs.data.toList[i] := by
   have h2 : i < bs.data.size := by simpa using hlt
   show bs.data[i]! = _
   rw [getElem!_pos bs.data i h2]; simp
  simp [this]
theorem Dw (bs : ByteArray) : bs.toList = bs.data.toList := by
 unfold ByteArray.toList
 rw [J3 bs _ 0 [] rfl]; simp
theorem Pr {a b : ByteArray} (h : a.toList = b.toList) : a = b := by
 rw [Dw, Dw] at h
 cases a; cases b
 simp at h
 congr
end Go.Eu
namespace Go.Eu
open Go.Abs
mutual
def DZ : Tm → Int → Int
 | .mk _ _ _ _ ks, most => Dg ks most 0
def Dg : List Tm → Int → Int → Int
 | [], _, n => n
 | t :: ts, most, n => if n > most then n else Dg ts most (wr (n + wr (1 + DZ t (wr (most - n)))))
end
theorem Nj {l : List Tm} {i : Nat} {t : Tm} {most n : Int} (h : l[i]? = some t) : Dg (l.drop i) most n = if n > most then n else Dg (l.drop (i + 1)) most (wr (n + wr (1 + DZ t (wr (most - n))))) := by
 have hlt : i < l.length := (List.getElem?_eq_some_iff.1 h).1
 rw [List.drop_eq_getElem_cons hlt]
 have : l[i] = t := by simpa [List.getElem?_eq_getElem hlt] using h
 rw [this, Dg]
end Go.Eu
namespace Go.Eu
def arity (k : Int) : Int := if k = 4 ∨ k = 5 ∨ k = 6 ∨ k = 7 then 2 else if k = 8 ∨ k = 11 then 3 else if k = 9 ∨ k = 10 then 1 else 0
def below (k i : Int) : Int := if ((i == 1 && (k == 5 || k == 6 || k == 7)) || (i == 2 && k == 11)) = true then 1 else 0
def Qd : Tm → Prop
 | .mk kd _ _ _ ks => 0 ≤ kd ∧ kd < 13 ∧ (ks.length : Int) = arity kd
mutual
def wf (vars metas : Int) : Int → Tm → Prop
 | d, .mk kd ix _ _ ks => 0 ≤ kd ∧ kd < 13 ∧ (ks.length : Int) = arity kd ∧ (kd = 0 → 0 ≤ ix ∧ ix - d < vars) ∧ (kd = 12 → 0 ≤ ix ∧ ix < metas) ∧ XI vars metas kd d 0 ks
def XI (vars metas : Int) : Int → Int → Nat → List Tm → Prop
 | _, _, _, [] => True
 | kd, d, i, t :: ts => wf vars metas (d + below kd i) t ∧ XI vars metas kd d (i + 1) ts
end
theorem R7 {vars metas kd d : Int} : ∀ {ks : List Tm} {i : Nat}, (∀ j t, ks[j]? = some t → wf vars metas (d + below kd ((i + j : Nat) : Int)) t) → XI vars metas kd d i ks
 | [], i, _ => by simp [XI]
 | t :: ts, i, h => by
  simp only [XI]
  exact ⟨by have := h 0 t rfl; simpa using this, R7 fun j t' ht => by have := h (j + 1) t' (by simpa using ht); rw [show i + 1 + j = i + (j + 1) by omega]; exact this⟩
theorem Dj (k i : Int) : 0 ≤ below k i ∧ below k i ≤ 1 := by unfold below; split <;> omega
theorem FG {α : Type} {l : List α} {p : Nat → α → Prop} {i : Nat} {x : α} (h : ∀ j, j < i → ∀ t, l[j]? = some t → p j t) (hx : l[i]? = some x) (hp : p i x) : ∀ j, j < i + 1 → ∀ t, l[j]? = some t → p j t := by
 intro j hj t ht
 rcases Nat.lt_or_ge j i with h' | h'
 ·exact h j h' t ht
 ·have e : j = i := by omega
  subst e
  rw [hx] at ht
  injection ht with ht
  subst ht
  exact hp
end Go.Eu
namespace Go.Abs
section
variable {α : Type}
def K5 (is : List Nat) : Nat → List α → List α
 | _, [] => []
 | k, a :: l => bif is.any (Nat.beq k ·) then a :: K5 is (k + 1) l else K5 is (k + 1) l
theorem Ky (is : List Nat) : ∀ (k : Nat) (l : List α), (K5 is k l).Sublist l
 | _, [] => List.Sublist.refl _
 | k, a :: l => by
  simp only [K5]
  cases is.any (Nat.beq k ·)
  ·exact (Ky is (k + 1) l).cons _
  ·exact (Ky is (k + 1) l).cons_cons _
theorem Cf {is : List Nat} {l l' : List α} (h : K5 is 0 l = l') : l'.Sublist l := h ▸ Ky is 0 l
def EZ (H : List α) : List Nat → List α → Prop
 | [], xs => xs = []
 | i :: is, xs => ∃ x xs', xs = x :: xs' ∧ H[i]? = some x ∧ EZ H is xs'
def ND (H : List α) : List Nat → List α → List α
 | i :: is, x :: xs => ND (H.set i x) is xs
 | _, _ => H
def C1 (is : List Nat) : Nat → List α → List α
 | _, [] => []
 | k, a :: l => if k ∈ is then C1 is (k + 1) l else a :: C1 is (k + 1) l
theorem LN : ∀ (k : Nat) (l : List α), C1 [] k l = l
 | _, [] => rfl
 | k, a :: l => by simp [C1, LN (k + 1) l]
theorem K6 {is : List Nat} {j : Nat} : ∀ (k : Nat) (l : List α), j < k → C1 (j :: is) k l = C1 is k l
 | _, [], _ => rfl
 | k, a :: l, h => by
  have : k ≠ j := by omega
  have ih := K6 (is := is) (j := j) (k + 1) l Am
  simp [C1, this, ih]
theorem Kd {is : List Nat} {x : α} : ∀ (l : List α) (k i : Nat), l[i]? = some x → (k + i) ∉ is → (C1 is k l).Perm (x :: C1 ((k + i) :: is) k l)
 | [], k, i, h, _ => by simp at h
 | a :: l, k, 0, h, hn => by
  simp at h hn; subst h
  simp [C1, hn, K6 (k + 1) l (Nat.lt_succ_self k)]
 | a :: l, k, i + 1, h, hn => by
  simp at h
  have ih := Kd l (k + 1) i h (by rw [show k + 1 + i = k + (i + 1) by omega]; exact hn)
  rw [show k + 1 + i = k + (i + 1) by omega] at ih
  have hk : k ≠ k + (i + 1) := by omega
  simp only [C1, List.mem_cons, hk, false_or]
  split
  ·exact ih
  ·exact (ih.cons a).trans (.swap _ _ _)
theorem Cj {H : List α} : ∀ {is : List Nat} {xs : List α}, is.Nodup → EZ H is xs → H.Perm (xs ++ C1 is 0 H)
 | [], xs, _, h => by simp only [EZ] at h; subst h; simp [LN]
 | i :: is, xs, hn, h => by
  obtain ⟨x, xs', rfl, hx, hr⟩ := h
  have hn' := List.nodup_cons.1 hn
  have ih := Cj hn'.2 hr
  have := Kd (is := is) H 0 i hx (by simpa using hn'.1)
  simp only [Nat.zero_add] at this
  refine ih.trans ?_
  refine ((List.Perm.refl xs').append this).trans ?_
  exact List.perm_middle
theorem LK {is : List Nat} {y : α} : ∀ (l : List α) (k i : Nat), (k + i) ∈ is → C1 is k (l.set i y) = C1 is k l
 | [], k, i, _ => by simp
 | a :: l, k, 0, h => by simp at h; simp [C1, h]
 | a :: l, k, i + 1, h => by
  have := LK (y := y) l (k + 1) i (by rw [show k + 1 + i = k + (i + 1) by omega]; exact h)
  simp only [List.set_cons_succ, C1, this]
theorem Mi {i : Nat} {y : α} : ∀ {is : List Nat} {xs H : List α}, i ∉ is → EZ H is xs → EZ (H.set i y) is xs
 | [], xs, H, _, h => h
 | j :: is, xs, H, hn, h => by
  obtain ⟨x, xs', rfl, hx, hr⟩ := h
  simp at hn
  exact ⟨x, xs', Ao, by rw [List.getElem?_set_ne hn.1]; exact hx, Mi hn.2 hr⟩
theorem NK : ∀ {is : List Nat} {xs xs' H : List α}, is.Nodup → EZ H is xs → xs'.length = xs.length → EZ (ND H is xs') is xs' ∧ (∀ ks k, (∀ i ∈ is, k + i ∈ ks) → C1 ks k (ND H is xs') = C1 ks k H) ∧ ∀ j, j ∉ is → (ND H is xs')[j]? = H[j]?
 | [], xs, xs', H, _, h, hl => by
  simp only [EZ] at h; subst h
  have : xs' = [] := by simpa using hl
  subst this
  exact ⟨Ao, fun _ _ _ => Ao, fun _ _ => Ao⟩
 | i :: is, xs, xs', H, hn, h, hl => by
  obtain ⟨x, xr, rfl, hx, hr⟩ := h
  have hn' := List.nodup_cons.1 hn
  cases xs' with
  | nil => simp at hl
  | cons y ys =>
   have hlt : i < H.length := (List.getElem?_eq_some_iff.1 hx).1
   obtain ⟨h1, h2, h3⟩ := NK (H := H.set i y) hn'.2 (Mi hn'.1 hr) (by simpa using hl)
   refine ⟨⟨y, ys, Ao, by rw [ND, h3 i hn'.1]; simp [hlt], h1⟩, fun ks k hk => ?_, fun j hj => ?_⟩
   ·rw [ND, h2 ks k (fun q hq => hk q (by simp [hq])), LK _ _ _ (hk i An)]
   ·simp at hj
    rw [ND, h3 j hj.2, List.getElem?_set_ne (fun e => hj.1 e.symm)]
theorem Nr {is : List Nat} {xs xs' H : List α} (hn : is.Nodup) (h : EZ H is xs) (hl : xs'.length = xs.length) : (ND H is xs').Perm (xs' ++ C1 is 0 H) := by
 obtain ⟨h1, h2, _⟩ := NK hn h hl
 have := Cj hn h1
 rwa [h2 is 0 (fun i hi => by simpa using hi)] at this
end
def VN (τ : Nat → AV) (x : AV) : List Nat → Prop
 | [] => True
 | t :: r => τ t = x ∧ VN τ x r
theorem IA {τ : Nat → AV} {x : AV} : ∀ {ts : List Nat}, VN τ x ts → ∀ t ∈ ts, τ t = x
 | [], _, t, h => by simp at h
 | a :: r, h, t, ht => by
  rcases List.mem_cons.1 ht with rfl | ht
  ·exact h.1
  ·exact IA h.2 t ht
section
variable {P : Program} {S : Bq} {a T n b i : Nat} {cs : List AV} {v : AV}
theorem Bg (hT : DR P T = some (true, n)) (ha : S.τ a = .ptr b 0) (hi : S.H[i]? = some (.box b cs)) (hn : cs.length = n) : UR P S (.cell a T) (.agg cs) := by
 obtain ⟨d, h1, h2, h3⟩ := D9 hT
 exact ⟨b, cs, i, ha, hi, .inl ⟨d, h1, h2, by rw [h3, hn], rfl⟩⟩
theorem PB (hT : DR P T = some (false, n)) (ha : S.τ a = .ptr b 0) (hi : S.H[i]? = some (.box b [v])) : UR P S (.cell a T) v := by
 obtain ⟨d, h1, h2, h3⟩ := D9 hT
 exact ⟨b, [v], i, ha, hi, .inr ⟨d, h1, h2, Ao⟩⟩
end
section
variable {P : Program} {dst : Option Tmp} {ty : TypeId} {pos : String} {aft : Array Edge} {g : Option (Nat × Bool)} {ρ : Operand → AV} {H Hs Hs' : List BL} {x y z : Operand} {v : AV} {c : Call} {f : Operand} {fid : FuncId} {first caps A : List AV}
theorem C6.permD {o : Oper} {H H' H'' : List BL} (h : DS P o ρ H v H') (hp : H'.Perm H'') : DS P o ρ H v H'' := by
 intro r F S a w hs hH hρ hd
 have := h r F S a w hs hH hρ hd
 refine Ko this ?_ ?_
 ·rintro a' w' ⟨v', H1, F', ⟨rfl, rfl⟩, hs', ht⟩
  exact ⟨v', H'', F', ⟨Ao, Ao⟩, ⟨hs'.size, hs'.tmp, hs'.heap.perm hp, hs'.defs⟩, { ht with keys := fun o ho => ht.keys o (hp.mem_iff.2 ho) }⟩
 ·rintro e a' w' ⟨v', H1, F', u, h, _⟩
  exact h.elim
theorem CH (is : List Nat) (hc : c.callee = .value f) (hf : (ρ f = .p (.fn fid) ∧ first = [] ∧ caps = []) ∨ ρ f = .fn (.func fid) first caps) (h : Bl P fid A Hs (DG v Hs')) (hg : EZ H is Hs) (hn : is.Nodup) (hl : Hs'.length = Hs.length) (hA : first ++ c.args.toList.map ρ ++ caps = A ∨ (first ++ c.args.toList.map ρ ++ caps).map norm = A) :
  DS P ⟨dst, .call c, ty, pos, aft, g⟩ ρ H v (ND H is Hs') :=
 C6.permD (UK hc hf (Cj hn hg) h hA) (Nr hn hg hl).symm
theorem En {T T2 e e2 : TypeId} {sz bytes n2 n3 c i n : Nat} {o : Option Nat} {rows rows' rows2 : List (List PV)} {zv : Value} (hT : E3 P T = some (e, sz, bytes)) (hT2 : E3 P T2 = some (e2, n2, n3)) (hz : zeroOf P e = some zv) (hzs : zv.cells.size = sz) (hb0 : (Nat.blt 0 sz && Nat.blt 0 bytes) = true)
  (hx : ρ x = .vs o n c) (hn : n = rows.length) (hi : H[i]? = some (.vec o sz rows c)) (hy : norm (ρ y) = .p (.lst rows')) (hsol : ∀ r ∈ rows', DP sz r) (hroom : 2 * (rows.length + rows'.length) * bytes ≤ 281474976710656) (h2 : rows ++ rows' = rows2) :
  C6 P ⟨dst, .call { callee := .builtin .append, args := #[x, y], argTypes := #[T, T2] }, ty, pos, aft, g⟩ ρ H (KI i sz rows2 H) := by
 subst h2; exact MF hT hT2 hz hzs hb0 hx hn hi hy hsol hroom
theorem UX {F : Nat → Prop} {w : World} {u : Value} (h : CF F w (.p .nils) u) : CF F w (.vs none 0 0) u := by
 simp only [CF, CQ] at *
 exact ⟨trivial, trivial, none, h⟩
theorem QM {α : Type} : ∀ {us cs : List α}, us.length = cs.length → splice cs 0 us = us := by
 have key : ∀ (us : List α) (pre cs : List α), us.length = cs.length → splice (pre ++ cs) pre.length us = pre ++ us := by
  intro us
  induction us with
  | nil => intro pre cs h; have : cs = [] := by simpa using h.symm
           subst this; simp [splice]
  | cons u us ih =>
   intro pre cs h
   cases cs with
   | nil => simp at h
   | cons c cs =>
    simp only [splice]
    have := ih (pre ++ [u]) cs (by simpa using h)
    have e : (pre ++ c :: cs).set pre.length u = pre ++ [u] ++ cs := by simp
    rw [e]
    simpa using this
 intro us cs h
 exact key us [] cs h
theorem A1 {T : TypeId} {bl : Bool} {n b i : Nat} {cs us : List AV} (hT : DR P T = some (bl, n + 1)) (hx : ρ x = .ptr b 0) (hi : H[i]? = some (.box b cs)) (hy : EJ (ρ y) = some us) (hn : us.length = n + 1)
  (ho : cs.length = n + 1) (h1 : us.all one = true) : DS P ⟨dst, .store T x y, ty, pos, aft, g⟩ ρ H (.p .any) (H.set i (.box b us)) := by
 have := Bc (P := P) (dst := dst) (ty := ty) (pos := pos) (aft := aft) (g := g) hT hx hi hy hn (by rw [ho]; simp) h1
 rwa [QM (by rw [hn, ho])] at this
theorem FU {T : TypeId} {bl : Bool} {b i j sz c : Nat} {rows rows2 : List (List PV)} {us : List AV} {r : List PV} (hT : DR P T = some (bl, sz)) (hpos : Nat.blt 0 sz = true) (hx : ρ x = .ptr b (j * sz)) (hi : H[i]? = some (.vec (some b) sz rows c)) (hj : j < rows.length) (hy : EJ (ρ y) = some us) (hp : FX (us.map dn) = some r) (hrl : r.length = sz) (h1 : us.all one = true) (h2 : rows.set j r = rows2) :
  DS P ⟨dst, .store T x y, ty, pos, aft, g⟩ ρ H (.p .any) (H.set i (.vec (some b) sz rows2 c)) := by
 subst h2; exact Mx hT hpos hx hi hj hy hp hrl h1
theorem D0 {T e : TypeId} {sz bytes lo hi : Nat} {rows rows2 : List (List PV)} {l h : Option Operand} (hT : E3 P T = some (e, sz, bytes)) (hx : ρ x = .p (.lst rows)) (hr : ∀ r ∈ rows, r.length = sz)
  (hl : match l with | none => lo = 0 | some y => ∃ k, ρ y = .p (.int k lo)) (hh : match h with | none => hi = rows.length | some y => ∃ k, ρ y = .p (.int k hi)) (h1 : lo ≤ hi) (h2 : hi ≤ rows.length) (h3 : (rows.take hi).drop lo = rows2) :
  DS P ⟨dst, .slice T x l h none, ty, pos, aft, g⟩ ρ H (.p (.lst rows2)) H := by
 subst h3; exact Rs hT hx hr hl hh h1 h2
end
section
variable {P : Program} {r : Option Nat} {ops : Array Oper} {Q : Ck → Bq → Prop} {k : Nat} {n : Nat} {τ : Nat → AV} {H H' : List BL} {D : List Di} {dst : Option Tmp} {op : Op} {ty : TypeId} {pos : String} {aft : Array Edge} {v : AV}
theorem R9 (ho : ops[k]? = some ⟨dst, op, ty, pos, aft, none⟩) (hd : G7 dst n = true) (h : C6 P ⟨dst, op, ty, pos, aft, none⟩ (ev τ) H (TX H))
  (next : ∀ b, AL P r ops (k + 1) ⟨n, put τ dst (.map b), .map b (WV []) :: H, D⟩ Q) : AL P r ops k ⟨n, τ, H, D⟩ Q :=
 ER (S := ⟨n, τ, H, D⟩) ho Ag (Fh hd) h (fun v H' ⟨b, h1, h2⟩ => by subst h1; subst h2; exact next b) (fun _ _ h => h.elim)
end
theorem leH {is : List Nat} {H H1 H' : List BL} (h : K5 is 0 H = H1) (w : EK H1 H') : Uz H H' := ⟨H1, Cf h, w⟩
theorem Cc {x y : AV} (h : norm x = y) : Lo x y := fun _ _ _ hr => h ▸ hr.norm
theorem ET : EK [] [] := rfl
theorem wl {o o' : BL} {l l' : List BL} (h : JW o o') (r : EK l l') : EK (o :: l) (o' :: l') := ⟨o', l', rfl, h, r⟩
theorem on {b : Nat} {cs cs' : List AV} (h : cs.map dn = cs') : JW (.box b cs) (.box b cs') := ⟨rfl, fun F w hr => by
 obtain ⟨vs, T, h1, h2⟩ := hr
 exact ⟨vs, T, h1, h ▸ JG h2⟩⟩
theorem Cw {n : Nat} {τ : Nat → AV} {H : List BL} {D : List Di} {i b : Nat} {cs : List AV} (hi : H[i]? = some (.box b cs)) : F8 ⟨n, τ, H, D⟩ ⟨n, τ, H.set i (.box b (cs.map dn)), D⟩ := by
 intro F a w hs
 refine ⟨F, ⟨hs.size, hs.tmp, ?_, hs.defs⟩, ?_⟩
 ·have hk := Ee (x' := .box b (cs.map dn)) hi rfl
  refine ⟨fun o ho c hc => ?_, by show List.Nodup _; rw [hk]; exact hs.heap.nodup, fun o ho => ?_, hs.heap.bd⟩
  ·rcases C5 ho with rfl | ⟨j, _, hj⟩
   ·exact hs.heap.sub _ (List.mem_of_getElem? hi) c hc
   ·exact hs.heap.sub _ (List.mem_of_getElem? hj) c hc
  ·rcases C5 ho with rfl | ⟨j, _, hj⟩
   ·exact (on Ao).2 F w (hs.heap.obj _ (List.mem_of_getElem? hi))
   ·exact hs.heap.obj _ (List.mem_of_getElem? hj)
 ·refine { Trans.refl (F := F) (H := H) (w := w) with keys := fun o ho c hc => ?_ }
  rcases C5 ho with rfl | ⟨j, _, hj⟩
  ·exact .inl ⟨_, List.mem_of_getElem? hi, hc⟩
  ·exact .inl ⟨_, List.mem_of_getElem? hj, hc⟩
theorem EF {n : Nat} {τ : Nat → AV} {H : List BL} {D : List Di} (t : Nat) : F8 ⟨n, τ, H, D⟩ ⟨n, put τ (some t) (norm (τ t)), H, D⟩ := MA fun _ _ _ h => h.norm
theorem ob {b : Nat} {cs cs' : List AV} (h : cs = cs') : JW (.box b cs) (.box b cs') := oe (by rw [h])
def WG (mkv : AV → AV) (sz : Nat) (rows : List (List PV)) : DM → List BL → Prop
 | .val v, H' => ∃ o c, v = mkv (.vs o rows.length c) ∧ H' = [.vec o sz rows c]
 | .panic _, _ => False
section
variable {P : Program} {r : Option Nat} {ops : Array Oper} {Q : Ck → Bq → Prop} {k : Nat} {n : Nat} {τ : Nat → AV} {H H' : List BL} {D : List Di} {dst : Option Tmp} {op : Op} {ty : TypeId} {pos : String} {aft : Array Edge} {v : AV}
theorem VU {c : Call} {f : Operand} {fid : FuncId} {first caps : List AV} {A : List AV} {mkv : AV → AV} {sz : Nat} {rows : List (List PV)}
  (ho : ops[k]? = some ⟨dst, .call c, ty, pos, aft, none⟩) (hd : G7 dst n = true)
  (hc : c.callee = .value f) (hf : (ev τ f = .p (.fn fid) ∧ first = [] ∧ caps = []) ∨ ev τ f = .fn (.func fid) first caps) (h : Bl P fid A [] (WG mkv sz rows)) (hA : first ++ c.args.toList.map (ev τ) ++ caps = A ∨ (first ++ c.args.toList.map (ev τ) ++ caps).map norm = A)
  (next : ∀ o cp, AL P r ops (k + 1) ⟨n, put τ dst (mkv (.vs o rows.length cp)), .vec o sz rows cp :: H, D⟩ Q) : AL P r ops k ⟨n, τ, H, D⟩ Q :=
 KP ho hd hc hf (Hs := []) (Hf := H) An h hA (fun v H' ⟨o, cp, h1, h2⟩ => by subst h1; subst h2; exact next o cp) (fun _ _ h => h.elim)
end
theorem Pv {P : Program} {f : FuncId} {args : List AV} {pre post : List AV} {sz : Nat} {rows : List (List PV)} (h : Bl P f args [] (WG (fun v => .tup (pre ++ v :: post)) sz rows)) (hb : ∀ x ∈ pre ++ post, ∀ F F' w v, C2 F w F' w → CF F w x v → CF F' w x v) :
  G5 P f args (.tup (pre ++ .p (.lst rows) :: post)) := by
 refine ⟨h.1, fun F w vs hH ha => (h.2 F w vs hH ha).mono ?_⟩
 rintro e w' ⟨r, H', F', hR, he, hH', ht⟩
 cases r with
 | panic v => exact hR.elim
 | val v =>
  obtain ⟨o, c, rfl, rfl⟩ := hR
  obtain ⟨u, rfl, hu⟩ := he
  have hbd : ∀ b, o = some b → b < w'.heap.size := fun b hb => hH'.bd b (hH'.sub _ (List.mem_cons_self ..) b (by rw [← hb]; rfl))
  have st : C2 F' w' (fun b => F' b ∧ o ≠ some b) w' := ⟨Nat.le_refl _, fun _ _ _ => rfl, fun _ h _ h' => h h'.1⟩
  have hob := hH'.obj _ (List.mem_cons_self ..)
  refine ⟨.val (.tup (pre ++ .p (.lst rows) :: post)), [], fun b => F' b ∧ o ≠ some b, ⟨Ao, Ao⟩, ⟨u, Ao, ?_⟩, ?_, ?_⟩
  ·simp only [CF] at hu ⊢
   obtain ⟨us, hus, hr⟩ := hu
   refine ⟨us, hus, ?_⟩
   have key : ∀ (pre : List AV) (us : List Value), (∀ x ∈ pre ++ post, ∀ F F' w v, C2 F w F' w → CF F w x v → CF F' w x v) → Bu F' w' (pre ++ .vs o rows.length c :: post) us → Bu (fun b => F' b ∧ o ≠ some b) w' (pre ++ .p (.lst rows) :: post) us := by
    intro pre
    induction pre with
    | nil =>
     intro us hb hr
     simp only [List.nil_append, Bu] at hr ⊢
     obtain ⟨u, us', rfl, h1, h2⟩ := hr
     refine ⟨u, us', Ao, Hu hbd hob h1 _ st (fun b hb h => h.2 hb), ?_⟩
     exact Bu.mono st _ _ h2
    | cons x pre ih =>
     intro us hb hr
     simp only [List.cons_append, Bu] at hr ⊢
     obtain ⟨u, us', rfl, h1, h2⟩ := hr
     exact ⟨u, us', rfl, hb x An _ _ _ _ st h1, ih us' (fun y hy => hb y (by simp at hy ⊢; rcases hy with h | h <;> simp [h])) h2⟩
   exact key pre us hb hr
  ·exact ⟨fun _ h => by simp at h, by simp, fun _ h => by simp at h, fun b hb => hH'.bd b hb.1⟩
  ·refine ⟨ht.size, fun b hb hn => ht.same b hb hn, fun b hb hn => ⟨ht.keep b hb hn, ?_⟩, fun b hb => ht.fresh b hb.1, fun _ h => by simp at h, ht.os, ht.out, ht.tape⟩
   intro ho
   subst ho
   have := hH.bd b hb
   rcases ht.keys _ (List.mem_cons_self ..) b rfl with ⟨o', ho', _⟩ | h
   ·simp at ho'
   ·omega
theorem Pl (c : AV) (F F' : Nat → Prop) (w : World) (v : Value) (st : C2 F w F' w) (h : CF F w c v) : CF F' w c v := CF.mono st _ _ h
def GA : List AV → List AV → Prop
 | [], ys => ys = []
 | x :: xs, ys => ∃ y ys', ys = y :: ys' ∧ Lo x y ∧ GA xs ys'
theorem Ci : GA [] [] := rfl
theorem aw {x y : AV} {xs ys : List AV} (h : Lo x y) (r : GA xs ys) : GA (x :: xs) (y :: ys) := ⟨y, ys, rfl, h, r⟩
theorem JF {F : Nat → Prop} {w : World} : ∀ {xs ys : List AV} {vs : List Value}, GA xs ys → Bu F w xs vs → Bu F w ys vs
 | [], ys, vs, h, hr => by simp only [GA] at h; subst h; exact hr
 | x :: xs, ys, vs, h, hr => by
  obtain ⟨y, ys', rfl, h1, h2⟩ := h
  simp only [Bu] at hr ⊢
  obtain ⟨u, us, rfl, r1, r2⟩ := hr
  exact ⟨u, us, Ao, h1 F w u r1, JF h2 r2⟩
theorem FF : Lo (.p .nils) (.vs none 0 0) := fun _ _ _ h => UX h
theorem Bl.args {P : Program} {f : FuncId} {args A : List AV} {H : List BL} {R : DM → List BL → Prop} (h : Bl P f A H R) (hA : GA args A) : Bl P f args H R :=
 ⟨h.1, fun F w vs hH ha => h.2 F w vs hH (JF hA ha)⟩
section
variable {P : Program} {r : Option Nat} {ops : Array Oper} {Q : Ck → Bq → Prop} {k : Nat} {n : Nat} {τ : Nat → AV} {H Hs : List BL} {D : List Di} {dst : Option Tmp} {op : Op} {ty : TypeId} {pos : String} {aft : Array Edge} {v : AV} {c : Call} {f : Operand} {fid : FuncId} {first caps A : List AV} {R : DM → List BL → Prop}
theorem NU {S : Bq} {H' : List BL} (hp : S.H.Perm H') : F8 S ⟨S.n, S.τ, H', S.D⟩ := fun F a w hs =>
 ⟨F, ⟨hs.size, hs.tmp, hs.heap.perm hp, hs.defs⟩, { Trans.refl (F := F) (H := S.H) (w := w) with keys := fun o ho b hb => .inl ⟨o, hp.mem_iff.2 ho, hb⟩ }⟩
theorem TZ (is : List Nat) (ho : ops[k]? = some ⟨dst, .call c, ty, pos, aft, none⟩) (hd : G7 dst n = true)
  (hc : c.callee = .value f) (hf : (ev τ f = .p (.fn fid) ∧ first = [] ∧ caps = []) ∨ ev τ f = .fn (.func fid) first caps) (h : Bl P fid A Hs R) (hg : EZ H is Hs) (hn : is.Nodup) (hA : GA (first ++ c.args.toList.map (ev τ) ++ caps) A)
  (next : ∀ v Hs', R (.val v) Hs' → Hs'.length = Hs.length ∧ AL P r ops (k + 1) ⟨n, put τ dst v, ND H is Hs', D⟩ Q) (pan : ∀ v Hs', R (.panic v) Hs' → Q (.panic v) ⟨n, τ, Hs' ++ C1 is 0 H, D⟩) : AL P r ops k ⟨n, τ, H, D⟩ Q :=
 KP ho hd hc hf (Cj hn hg) (h.args hA) (.inl rfl) (fun v H' hR => by
  obtain ⟨hl, hn'⟩ := next v H' hR
  exact Cz (NU (S := ⟨n, put τ dst v, H' ++ C1 is 0 H, D⟩) (Nr hn hg hl).symm) hn') pan
theorem Lk (is : List Nat) (ho : ops[k]? = some ⟨dst, .call c, ty, pos, aft, none⟩) (hd : G7 dst n = true)
  (hc : c.callee = .value f) (hf : (ev τ f = .p (.fn fid) ∧ first = [] ∧ caps = []) ∨ ev τ f = .fn (.func fid) first caps) (h : Bl P fid A Hs R) (hg : EZ H is Hs) (hn : is.Nodup) (hA : GA (first ++ c.args.toList.map (ev τ) ++ caps) A)
  (next : ∀ v Hs', R (.val v) Hs' → AL P r ops (k + 1) ⟨n, put τ dst v, Hs' ++ C1 is 0 H, D⟩ Q) (pan : ∀ v Hs', R (.panic v) Hs' → Q (.panic v) ⟨n, τ, Hs' ++ C1 is 0 H, D⟩) : AL P r ops k ⟨n, τ, H, D⟩ Q :=
 KP ho hd hc hf (Cj hn hg) (h.args hA) (.inl rfl) next pan
theorem Fo {sz : Nat} : F8 ⟨n, τ, H, D⟩ ⟨n, τ, .vec none sz [] 0 :: H, D⟩ := by
 intro F a w hs
 have hH : HRel F (.vec none sz [] 0 :: H) w := ⟨fun o ho b hb => by
   rcases List.mem_cons.1 ho with rfl | ho
   ·cases hb
   ·exact hs.heap.sub o ho b hb, by simpa [List.filterMap_cons, BL.key] using hs.heap.nodup, fun o ho => by
   rcases List.mem_cons.1 ho with rfl | ho
   ·exact ⟨Ao, Ao⟩
   ·exact hs.heap.obj o ho, hs.heap.bd⟩
 exact ⟨F, ⟨hs.size, hs.tmp, hH, hs.defs⟩, ⟨Nat.le_refl _, fun _ _ _ => Ao, fun _ h _ => h, fun _ h => .inl h, fun o ho b hb => by
   rcases List.mem_cons.1 ho with rfl | ho
   ·cases hb
   ·exact .inl ⟨o, ho, hb⟩, Ao, Ao, Ao⟩⟩
end
section
variable {P : Program} {r : Option Nat} {ops : Array Oper} {Q : Ck → Bq → Prop} {k : Nat} {n : Nat} {τ : Nat → AV} {H : List BL} {D : List Di} {o : Option Nat} {sz cp i : Nat} {rows : List (List PV)}
theorem PE {F : Nat → Prop} {w : World} {a : Act} (hs : DB F ⟨n, τ, H, D⟩ a w) (hi : H[i]? = some (.vec o sz rows cp)) (hne : 0 < rows.length) : ∃ b, o = some b := by
 have := hs.heap.obj _ (List.mem_of_getElem? hi)
 cases o with
 | none => obtain ⟨h, _⟩ := this; simp [h] at hne
 | some b => exact ⟨b, rfl⟩
theorem Q1 (hi : H[i]? = some (.vec o sz rows cp)) (hne : 0 < rows.length) (next : ∀ b, o = some b → AL P r ops k ⟨n, τ, H, D⟩ Q) : AL P r ops k ⟨n, τ, H, D⟩ Q := fun F a w hs => by
 obtain ⟨b, hb⟩ := PE hs hi hne
 exact next b hb F a w hs
theorem Pe {c : Code} (hi : H[i]? = some (.vec o sz rows cp)) (hne : 0 < rows.length) (next : ∀ b, o = some b → Hj P r c ⟨n, τ, H, D⟩ Q) : Hj P r c ⟨n, τ, H, D⟩ Q := fun F a w hs => by
 obtain ⟨b, hb⟩ := PE hs hi hne
 exact next b hb F a w hs
end
section
variable {P : Program} {dst : Option Tmp} {ty : TypeId} {pos : String} {aft : Array Edge} {g : Option (Nat × Bool)} {ρ : Operand → AV} {H : List BL}
theorem Bx {a : Operand} {T e : TypeId} {n n1 n2 : Nat} {rows : List (List PV)} (hT : E3 P T = some (e, n1, n2)) (hx : ρ a = .p (.lst rows)) (hn : rows.length = n) :
  DS P ⟨dst, .call { callee := .builtin .len, args := #[a], argTypes := #[T] }, ty, pos, aft, g⟩ ρ H (.p (.int .i64 n)) H := Jk hT (.inl ⟨rows, hx, hn⟩)
theorem KD {a : Operand} {T e : TypeId} {m n n1 n2 c : Nat} {o : Option Nat} (hT : E3 P T = some (e, n1, n2)) (hx : ρ a = .vs o m c) (hn : m = n) :
  DS P ⟨dst, .call { callee := .builtin .len, args := #[a], argTypes := #[T] }, ty, pos, aft, g⟩ ρ H (.p (.int .i64 n)) H := Jk hT (.inr (.inl ⟨o, c, by rw [hx, hn]⟩))
end
section
variable {P : Program} {dst : Option Tmp} {ty : TypeId} {pos : String} {aft : Array Edge} {g : Option (Nat × Bool)} {ρ : Operand → AV} {H : List BL} {x y : Operand}
end
section
variable {P : Program} {ops : Array Oper} {n : Nat} {τ₀ : Nat → AV} {D : List Di} {Q : Ck → Bq → Prop} {opn : Nat → Bool} {k : Nat} {τ : Nat → AV} {H : List BL} {rd : VB} {ef : To} {effs : List Bool} {fx : List (Nat × Sp)} {dst : Option Tmp} {ty : TypeId} {pos : String} {aft : Array Edge} {c : Call} {f : Operand} {fid : FuncId} {first caps A : List AV} {mkv : AV → AV} {sz : Nat} {rows : List (List PV)}
end
section
variable {P : Program} {dst : Option Tmp} {ty : TypeId} {pos : String} {aft : Array Edge} {g : Option (Nat × Bool)} {ρ : Operand → AV} {H Hs Hs' : List BL} {v : AV} {c : Call} {f : Operand} {fid : FuncId} {first caps A : List AV}
theorem C0 (hc : c.callee = .value f) (hf : ρ f = .p (.fn fid)) (h : G5 P fid A v) (hA : GA (c.args.toList.map ρ) A) : DS P ⟨dst, .call c, ty, pos, aft, g⟩ ρ H v H := Bf hc hf (h.args hA) rfl
end
end Go.Abs
namespace Go.Eu
open Go.Abs
structure Mv where
 type : Tm
 known : Bool
 value : Tm
 cls : Bool
 deriving Inhabited
def Ca (n : Int) : List PV := [I n]
def CV (s : ByteArray) : List PV := [.str s]
def bZ (b : Bool) : List PV := [.bool b]
def XF (m : Mv) : List PV := Ba m.type ++ (.bool m.known :: (Ba m.value ++ [.bool m.cls]))
theorem D7 {ts : List Int} {i : Nat} {t : Int} (h : ts[i]? = some t) : (ts.map Ca)[i]? = some (Ca t) := by simp [h]
theorem Mr {ts : List ByteArray} {i : Nat} {t : ByteArray} (h : ts[i]? = some t) : (ts.map CV)[i]? = some (CV t) := by simp [h]
abbrev MV (m : Mv) : AV := .agg ((XF m).map .p)
abbrev bj (l : List Mv) : AV := .p (.lst (l.map XF))
abbrev bt (l : List Int) : AV := .p (.lst (l.map Ca))
def ZR (sz : Nat) {α : Type} (f : α → List PV) : Prop := ∀ a, DP sz (f a)
theorem FI {α : Type} {sz : Nat} {f : α → List PV} (h : ∀ a, DP sz (f a)) (l : List α) : ∀ r ∈ l.map f, DP sz r := by
 intro r hr
 obtain ⟨a, _, rfl⟩ := List.mem_map.1 hr
 exact h a
theorem IC (t : Tm) : DP 5 (Ba t) := by
 obtain ⟨k, i, n, l, s⟩ := t
 refine ⟨Ao, ?_⟩
 intro c hc
 simp [Ba] at hc
 rcases hc with rfl | rfl | rfl | rfl | rfl <;> simp
theorem B6 (l : List Tm) : ∀ r ∈ BO l, DP 5 r := by rw [EU]; exact FI IC l
theorem Nk (l : List Int) : ∀ r ∈ l.map Ca, DP 1 r := FI (f := Ca) (fun a => ⟨rfl, by simp [Ca]⟩) l
theorem K2 (l : List ByteArray) : ∀ r ∈ l.map CV, DP 1 r := FI (f := CV) (fun a => ⟨rfl, by simp [CV]⟩) l
theorem Ju (l : List C7) : ∀ r ∈ l.map D5, DP 2 r := FI (f := D5) (fun a => ⟨rfl, by simp [D5]⟩) l
theorem Kr (l : List Eg) : ∀ r ∈ l.map Db, DP 2 r := FI (f := Db) (fun a => ⟨rfl, by simp [Db]⟩) l
theorem Bv {sz : Nat} {rows : List (List PV)} (h : ∀ r ∈ rows, DP sz r) : ∀ r ∈ rows, r.length = sz := fun r hr => (h r hr).1
theorem NJ (a b : List Tm) : BO a ++ BO b = BO (a ++ b) := by simp [EU]
theorem IN {α : Type} {f : α → List PV} (a b : List α) : a.map f ++ b.map f = (a ++ b).map f := by simp
theorem Uy (l : List Tm) (j : Nat) (x : Tm) : (BO l).set j (Ba x) = BO (l.set j x) := by simp [EU, List.map_set]
theorem Sl {α : Type} {f : α → List PV} (l : List α) (j : Nat) (x : α) : (l.map f).set j (f x) = (l.set j x).map f := by simp [List.map_set]
theorem Xr (l : List Tm) (hi : Nat) : ((BO l).take hi).drop 0 = BO (l.take hi) := by simp [EU, List.map_take]
theorem VP {α : Type} {f : α → List PV} (l : List α) (hi : Nat) : ((l.map f).take hi).drop 0 = (l.take hi).map f := by simp [List.map_take]
theorem Ir {α : Type} {f : α → List PV} (l : List α) (lo : Nat) : ((l.map f).take (l.map f).length).drop lo = (l.drop lo).map f := by rw [List.take_length, List.map_drop]
theorem FH {sz : Nat} {r : List PV} (h : DP sz r) : (r.map AV.p).all one = true := by
 simp only [List.all_eq_true]
 intro x hx
 obtain ⟨c, hc, rfl⟩ := List.mem_map.1 hx
 have := h.2 c hc
 cases c <;> simp_all [one]
theorem B3 (t : Tm) : ((Ba t).map AV.p).all one = true := FH (IC t)
theorem O6 (t : Tm) : FX (((Ba t).map AV.p).map dn) = some (Ba t) := by obtain ⟨k, i, n, l, s⟩ := t; rfl
end Go.Eu
namespace Go.Eu
def L7 (f a : Tm) : Tm := .mk 4 0 ⟨#[]⟩ [] [f, a]
def apply (f : Tm) (xs : List Tm) : Tm := xs.foldl L7 f
theorem MM {f : Tm} {xs : List Tm} {i : Nat} {x : Tm} (h : xs[i]? = some x) : apply f (xs.take (i + 1)) = L7 (apply f (xs.take i)) x := by
 simp [apply, List.take_add_one, h]
def Bo : Tm → Tm × List Tm
 | .mk k i n l [f, a] => if k = 4 then ((Bo f).1, (Bo f).2 ++ [a]) else (.mk k i n l [f, a], [])
 | t => (t, [])
theorem Mf {k i : Int} {n : ByteArray} {l : List Eg} {ts : List Tm} (h : k ≠ 4 ∨ ((ts.length : Nat) : Int) ≠ 2) : Bo (.mk k i n l ts) = (.mk k i n l ts, []) := by
 unfold Bo
 split
 ·rename_i k' i' n' l' f a e
  injection e with e1 e2 e3 e4 e5
  subst e1 e2 e3 e4 e5
  simp at h
  rw [if_neg h]
 ·rfl
theorem NT {k i : Int} {n : ByteArray} {l : List Eg} {ts : List Tm} {x y : Tm} (h : k = 4 ∧ ((ts.length : Nat) : Int) = 2) (hx : ts[0]? = some x) (hy : ts[1]? = some y) : Bo (.mk k i n l ts) = ((Bo x).1, (Bo x).2 ++ [y]) := by
 obtain ⟨rfl, h2⟩ := h
 match ts, h2, hx, hy with
 | [a, b], _, hx, hy =>
  simp at hx hy
  subst hx hy
  simp [Bo]
theorem E8 : ∀ (t : Tm), size (Bo t).1 + By (Bo t).2 + (Bo t).2.length = size t
 | .mk k i n l [f, a] => by
  unfold Bo
  split
  ·have := E8 f
   simp [size, By] at this ⊢
   have e : ∀ (xs : List Tm) (y : Tm), By (xs ++ [y]) = By xs + size y := by
    intro xs y
    induction xs with
    | nil => simp [By]
    | cons z zs ih => simp [By, ih]; omega
   rw [e]
   omega
  ·simp [By]
 | .mk k i n l [] => by simp [Bo, By]
 | .mk k i n l [_] => by simp [Bo, By]
 | .mk k i n l (_ :: _ :: _ :: _) => by simp [Bo, By]
theorem RX (t : Tm) : (Bo t).2.length < size t := by
 have := E8 t
 have := size_pos (Bo t).1
 omega
def G3 (k : Int) (xs : List Tm) (t : Tm) : Tm := xs.foldr (fun a t => .mk k 0 ⟨#[]⟩ [] [a, t]) t
theorem PW {k : Int} {xs : List Tm} {t x : Tm} {m j : Nat} (hx : xs[j]? = some x) (hm : m = j + 1) : G3 k (xs.drop (m - 1)) t = .mk k 0 ⟨#[]⟩ [] [x, G3 k (xs.drop m) t] := by
 subst hm
 have hlt := (List.getElem?_eq_some_iff.1 hx).1
 have e : xs[j] = x := (List.getElem?_eq_some_iff.1 hx).2
 rw [Nat.add_sub_cancel, List.drop_eq_getElem_cons hlt, e]
 rfl
theorem sd : (∀ (p : Prop) [Decidable p], (decide p = true) = p) ∧ (∀ {p : Prop} [Decidable p], decide p = false ↔ ¬p) ∧ (∀ {α : Type} [BEq α] [LawfulBEq α] {a b : α}, (a == b) = true ↔ a = b) ∧ (∀ {α : Type} [BEq α] [LawfulBEq α] {a b : α}, (a != b) = true ↔ a ≠ b) ∧ (∀ {α : Type} [BEq α] [LawfulBEq α] {a b : α}, (a == b) = false ↔ a ≠ b) ∧ (∀ {α : Type} [BEq α] [LawfulBEq α] {a b : α}, (a != b) = false ↔ a = b) ∧ (∀ {α : Type} (a b : α), (a ≠ b) = ¬(a = b)) ∧ (∀ {α : Type} [LT α] {x y : α}, x > y ↔ y < x) ∧ (∀ {α : Type} [LE α] {x y : α}, x ≥ y ↔ y ≤ x) ∧ (∀ (b : Bool), (¬(b = true)) = (b = false)) ∧ (∀ (b : Bool), (¬(b = false)) = (b = true)) ∧ (∀ (b : Bool), ((!b) = true) = (b = false)) ∧ (∀ (b : Bool), ((!b) = false) = (b = true)) ∧ (∀ {a b : Int}, ¬a < b ↔ b ≤ a) ∧ (∀ {a b : Int}, ¬a ≤ b ↔ b < a) :=
 ⟨fun _ => decide_eq_true_eq, decide_eq_false_iff_not, beq_iff_eq, bne_iff_ne, beq_eq_false_iff_ne, bne_eq_false_iff_eq, ne_eq, gt_iff_lt, ge_iff_le, Bool.not_eq_true, Bool.not_eq_false, fun b => by cases b <;> simp, fun b => by cases b <;> simp, Int.not_lt, Int.not_le⟩
theorem se : (∀ (ts : List Tm), (BO ts).length = ts.length) ∧ (∀ {α β : Type} {ays : List α} {f : α → β}, (ays.map f).length = ays.length) ∧ (∀ {α : Type} {n : Nat} {a : α}, (List.replicate n a).length = n) ∧ (∀ (a b : Bool), ((a || b) = true) = (a = true ∨ b = true)) ∧ (∀ (a b : Bool), ((a && b) = true) = (a = true ∧ b = true)) ∧ (∀ {x y : Bool}, (x || y) = false ↔ x = false ∧ y = false) ∧ (∀ {x y : Bool}, (x && y) = false ↔ x = true → y = false) :=
 ⟨Bt, List.length_map _, List.length_replicate, Bool.or_eq_true, Bool.and_eq_true, Bool.or_eq_false_iff, Bool.and_eq_false_imp⟩
end Go.Eu
namespace Go.Eu
open Go.Abs
def Ra (i : Int) : Tm := .mk 0 i ⟨#[]⟩ [] []
def BQ : Tm := .mk 0 0 ⟨#[]⟩ [] []
def Me (er e : Int) : Int := if er = 0 then e else er
def RP (er i : Int) : Int := if i > 65535 then Me er 24 else er
mutual
def Jb : Tm → Int
 | .mk _ _ _ _ ks => L2 1 ks
def L2 : Int → List Tm → Int
 | n, [] => n
 | n, t :: ts => L2 (wr (n + Jb t)) ts
end
mutual
def HG : Tm → Int
 | .mk _ _ _ _ ks => wr (KQ 0 ks + 1)
def KQ : Int → List Tm → Int
 | n, [] => n
 | n, t :: ts => KQ (max n (HG t)) ts
end
mutual
def Ec (b fr : Int) : Int → Int → Tm → Tm × Int
 | d, er, .mk k i n l ks =>
  if k = 0 then
   (if i < wr (fr + d) then (.mk k i n l ks, er)
    else if wr (i + b) < wr (fr + d) then (.mk k i n l ks, Me er 24)
    else (Ra (wr (i + b)), RP er (wr (i + b))))
  else ((.mk k i n l (Fy b fr k d 0 er ks).1), (Fy b fr k d 0 er ks).2)
def Fy (b fr k : Int) : Int → Nat → Int → List Tm → List Tm × Int
 | d, j, er, [] => ([], er)
 | d, j, er, t :: ts => ((Ec b fr (d + below k j) er t).1 :: (Fy b fr k d (j + 1) (Ec b fr (d + below k j) er t).2 ts).1, (Fy b fr k d (j + 1) (Ec b fr (d + below k j) er t).2 ts).2)
end
mutual
def HI (vs : List Tm) : Int → Int → Int → Tm → Tm × Int × Int
 | d, er, nd, .mk k i n l ks =>
  if nd > 4096 then (.mk k i n l ks, er, nd)
  else if k = 0 ∧ i ≥ d ∧ i - d < (vs.length : Int) then
   ((Ec d 0 0 er (vs.getD (i - d).toNat BQ)).1, (Ec d 0 0 er (vs.getD (i - d).toNat BQ)).2, wr (nd + Jb (vs.getD (i - d).toNat BQ)))
  else if k = 0 then
   (if i ≥ d then (Ra (wr (i - vs.length)), RP er (wr (i - vs.length)), wr (nd + 1)) else (.mk k i n l ks, er, wr (nd + 1)))
  else ((.mk k i n l (LW vs k d 0 er (wr (nd + 1)) ks).1), (LW vs k d 0 er (wr (nd + 1)) ks).2)
def LW (vs : List Tm) (k : Int) : Int → Nat → Int → Int → List Tm → List Tm × Int × Int
 | d, j, er, nd, [] => ([], er, nd)
 | d, j, er, nd, t :: ts => ((HI vs (d + below k j) er nd t).1 :: (LW vs k d (j + 1) (HI vs (d + below k j) er nd t).2.1 (HI vs (d + below k j) er nd t).2.2 ts).1,
   (LW vs k d (j + 1) (HI vs (d + below k j) er nd t).2.1 (HI vs (d + below k j) er nd t).2.2 ts).2)
end
def OV (t : Tm) (vs : List Tm) (d : Int) : Tm × Int :=
 if (HI vs (min d 65536) 0 0 t).2.2 > 4096 then (BQ, 5)
 else if (HI vs (min d 65536) 0 0 t).2.1 ≠ 0 then (BQ, (HI vs (min d 65536) 0 0 t).2.1)
 else if HG (HI vs (min d 65536) 0 0 t).1 > 200 then (BQ, 7)
 else ((HI vs (min d 65536) 0 0 t).1, 0)
structure LG where
 steps : Int
 nodes : Int
 forms : Int
 limit : Int
 over : Bool
 deriving Inhabited
def bF (c : LG) : List PV := [I c.steps, I c.nodes, I c.forms, I c.limit, .bool c.over]
def LG.form (c : LG) (t : Tm) (e : Int) : LG :=
 { c with forms := wr (c.forms + Jb t), over := c.over || (e != 0 || decide (c.steps > c.limit) || decide (c.nodes > wr (2 * c.limit)) || decide (wr (c.forms + Jb t) > wr (40 * c.limit)) || decide (Jb t > 2000) || decide (HG t > 95)) }
def LG.sized (c : LG) (t : Tm) : LG := { c with over := c.over || (decide (Jb t > 2000) || decide (HG t > 95)) }
def bA : LG := ⟨0, 0, 0, 1000, false⟩
end Go.Eu
namespace Go.Eu
theorem Dc {α : Type} {l : List α} {i : Nat} {x : α} (h : l[i]? = some x) : l.drop i = x :: l.drop (i + 1) := by
 have hlt := (List.getElem?_eq_some_iff.1 h).1
 have e : l[i] = x := (List.getElem?_eq_some_iff.1 h).2
 rw [List.drop_eq_getElem_cons hlt, e]
theorem Cm {α : Type} {l : List α} {i : Nat} {x d : α} (h : l[i]? = some x) : l.getD i d = x := by simp [List.getD, h]
end Go.Eu
namespace Go.Eu
open Go.Abs
theorem VW {o : Option Nat} {c : Nat} (l : List Tm) {l' : List Tm} (h : l = l') : AV.vs o (BO l).length c = .vs o (BO l').length c := by rw [h]
theorem SF {o : Option Nat} {sz c : Nat} (l : List Tm) {l' : List Tm} (h : l = l') : JW (.vec o sz (BO l) c) (.vec o sz (BO l') c) := oe (by rw [h])
theorem Iy {o : Option Nat} {c : Nat} (l : List Tm) {l' : List Tm} (h : l.length = l'.length) : AV.vs o (BO l).length c = .vs o (BO l').length c := by rw [Bt, Bt, h]
mutual
def QH : List Int → Tm → List Int
 | l, .mk k i _ _ ks => if k = 12 then (if i ∈ l then l else OK (l ++ [i]) ks) else OK l ks
def OK : List Int → List Tm → List Int
 | l, [] => l
 | l, t :: ts => OK (QH l t) ts
end
def bu (l : List Int) (n : Int) : Bool := decide (n ∈ l)
def TG (fr : Int) : Nat → Nat → List Tm
 | _, 0 => []
 | m, k + 1 => Ra (fr + (m + k : Nat)) :: TG fr m k
def X1 (n fr : Int) : List Tm := if n < 1 ∨ n > 4096 ∨ fr < 0 then [] else TG fr 0 n.toNat
def XS : List Int → List Tm → Option (List Int)
 | l, [] => some l
 | l, .mk k i _ _ _ :: ts => if k ≠ 0 ∨ i ∈ l then none else XS (l ++ [i]) ts
def bK (t : Tm) : Int × List Int × Bool :=
 if (Bo t).1.kind ≠ 12 then (0, [], false)
 else match XS [] (Bo t).2 with
  | none => (0, [], false)
  | some l => ((Bo t).1.index, l, true)
def bD (ms : List Mv) (ctx : List Tm) (t : Tm) (cls : Bool) : List Mv × Tm × Int :=
 if ms.length ≥ 2000 then ([], BQ, 6)
 else if Jb (G3 6 ctx t) > 4096 then ([], BQ, 5)
 else if HG (G3 6 ctx t) > 200 then ([], BQ, 7)
 else (ms ++ [⟨G3 6 ctx t, false, BQ, cls⟩], apply (.mk 12 ms.length ⟨#[]⟩ [] []) (X1 ctx.length 0), 0)
end Go.Eu
namespace Go.Eu
end Go.Eu
namespace Go.Eu
open Go.Abs
theorem HU {n : Int} (h : II n) : wr n = n := OA (k := .i64) h.1 h.2
mutual
def Wt : Tm → Prop
 | .mk k i _ _ ks => (ks.length : Int) = arity k ∧ (k = 12 → 0 ≤ i) ∧ ZD ks
def ZD : List Tm → Prop
 | [] => True
 | t :: ts => Wt t ∧ ZD ts
end
theorem Lx : ∀ {a b : List Tm}, JS (a ++ b) ↔ JS a ∧ JS b
 | [], b => by simp [JS]
 | x :: a, b => by simp only [List.cons_append, JS, Lx (a := a), and_assoc]
theorem PF : ∀ (t : Tm), Nd t → Nd (Bo t).1 ∧ JS (Bo t).2
 | .mk k i n l [f, a], h => by
  unfold Bo
  split
  ·have h' := h
   simp only [Nd, JS] at h'
   obtain ⟨e1, e2⟩ := PF f h'.2.2.2.2.1.1
   exact ⟨e1, Lx.2 ⟨e2, h'.2.2.2.2.1.2.1, trivial⟩⟩
  ·exact ⟨h, trivial⟩
 | .mk k i n l [], h => by simp only [Bo]; exact ⟨h, trivial⟩
 | .mk k i n l [_], h => by simp only [Bo]; exact ⟨h, trivial⟩
 | .mk k i n l (_ :: _ :: _ :: _), h => by simp only [Bo]; exact ⟨h, trivial⟩
theorem KN {xs : List Tm} : ∀ {f : Tm}, Nd f → JS xs → Nd (apply f xs) := by
 induction xs with
 | nil => intro f h _; exact h
 | cons x xs ih =>
  intro f h hx
  exact ih (f := L7 f x) ⟨by decide, by decide, by simp, by simp [Dp], ⟨h, hx.1, trivial⟩, ⟨by decide, by decide⟩, ⟨by decide, by decide⟩⟩ hx.2
theorem Hp {xs : List Tm} : ∀ (f : Tm), size (apply f xs) = size f + By xs + xs.length := by
 induction xs with
 | nil => intro f; simp [apply, By]
 | cons x xs ih =>
  intro f
  have := ih (L7 f x)
  simp only [apply, List.foldl_cons, By, List.length_cons] at *
  rw [this]
  simp [L7, size, By]
  omega
def known (ms : List Mv) (t : Tm) : Bool :=
 match t with
 | .mk k i _ _ _ => k == 12 && (decide (i < ms.length) && (match ms[i.toNat]? with | some m => m.known | none => false))
def valueOf (ms : List Mv) (i : Int) : Tm := match ms[i.toNat]? with | some m => m.value | none => BQ
def K9 (F : LG → Tm → Tm × Int × LG) : LG → List Tm → List Tm × Int × LG
 | c, [] => ([], 0, c)
 | c, t :: ts => if (F c t).2.1 ≠ 0 then ([], (F c t).2.1, (F c t).2.2)
  else if (K9 F (F c t).2.2 ts).2.1 ≠ 0 then ([], (K9 F (F c t).2.2 ts).2.1, (K9 F (F c t).2.2 ts).2.2)
  else ((F c t).1 :: (K9 F (F c t).2.2 ts).1, 0, (K9 F (F c t).2.2 ts).2.2)
def bB (l : List Tm) (q : List Tm × Int × LG) : List Tm × Int × LG := if q.2.1 ≠ 0 then ([], q.2.1, q.2.2) else (l ++ q.1, 0, q.2.2)
def VL : LG → Tm → List Tm → LG × Tm × List Tm
 | c, v, [] => (c, v, [])
 | c, v, a :: l => if v.kind = 5 ∧ c.over = false then VL (c.form (OV (v.kids.getD 1 BQ) [a] 0).1 (OV (v.kids.getD 1 BQ) [a] 0).2) (OV (v.kids.getD 1 BQ) [a] 0).1 l else (c, v, a :: l)
def Kb : Tm → List Tm → Tm
 | .mk k i n l _, ks => .mk k i n l ks
def Ih (ms : List Mv) : Nat → List Int → LG → Tm → Tm × Int × LG
 | 0, ab, c, t => (BQ, 11, c)
 | n + 1, ab, c, t =>
  if c.over = true then (BQ, 11, c)
  else if known ms (Bo t).1 = false then
   (let q := K9 (Ih ms n ab) c (Bo t).1.kids
    if q.2.1 ≠ 0 then (BQ, q.2.1, q.2.2)
    else
     (let r := K9 (Ih ms n ab) q.2.2 (Bo t).2
      if r.2.1 ≠ 0 then (BQ, r.2.1, r.2.2)
      else (apply (Kb (Bo t).1 q.1) r.1, 0, r.2.2.sized (apply (Kb (Bo t).1 q.1) r.1))))
  else if (Bo t).1.index ∈ ab then (BQ, 22, c)
  else
   (let v := Ih ms n (ab ++ [(Bo t).1.index]) c (valueOf ms (Bo t).1.index)
    if v.2.1 ≠ 0 then (BQ, v.2.1, v.2.2)
    else
     (let r := K9 (Ih ms n ab) (v.2.2.form v.1 0) (Bo t).2
      if r.2.1 ≠ 0 then (BQ, r.2.1, r.2.2)
      else
       (let b := VL r.2.2 v.1 r.1
        (apply b.2.1 b.2.2, 0, b.1.form (apply b.2.1 b.2.2) 0))))
def free (ms : List Mv) (ab : List Int) : Nat := ((List.range ms.length).filter fun i : Nat => !decide ((i : Int) ∈ ab)).length
def Mb (S : Nat) : Nat → Nat
 | 0 => 0
 | k + 1 => S * (Mb S k + 2) + 4096 + Mb S k
def bW (S : Nat) (ms : List Mv) : Prop := ∀ m ∈ ms, Nd m.value ∧ Wt m.value ∧ size m.value ≤ S
structure ah (M : Nat) (s : Nat) (r : Tm) : Prop where
 nd : Nd r
 wt : Wt r
 size : size r ≤ s * M
theorem Fu {α : Type} {l : List α} {x : α} (h : x ∈ l) : ∃ i : Nat, l[i]? = some x := by
 obtain ⟨i, hi, he⟩ := List.mem_iff_getElem.1 h
 exact ⟨i, by rw [List.getElem?_eq_getElem hi, he]⟩
section
variable {ms : List Mv} {n : Nat} {ab : List Int} {c : LG} {t : Tm} {zk zi : Int} {zn : ByteArray} {zl : List Eg} {zs : List Tm}
end
theorem RZ {f x : Tm} {us : List Tm} : apply (apply f us) [x] = apply f (us ++ [x]) := by simp [apply]
end Go.Eu
namespace Go.Eu
theorem O2 {l : List Tm} (h : JS l) (k : Nat) : JS (l.take k) := by
 induction l generalizing k with
 | nil => simp [JS]
 | cons a l ih =>
  cases k with
  | zero => trivial
  | succ k => exact ⟨h.1, ih h.2 k⟩
def TF (ms : List Mv) (n : Nat) (c : LG) (t : Tm) : Tm × Int × LG :=
 ((Ih ms n [] c t).1, (Ih ms n [] c t).2.1, if (Ih ms n [] c t).2.1 = 0 then (Ih ms n [] c t).2.2.form (Ih ms n [] c t).1 0 else (Ih ms n [] c t).2.2)
def bf (ms : List Mv) (n : Nat) (c : LG) (t : Tm) : List Int × Int :=
 if (TF ms n c t).2.1 = 0 then (QH [] (TF ms n c t).1, 0) else ([], (TF ms n c t).2.1)
end Go.Eu
namespace Go.Abs
section
variable {P : Program} {r : Option Nat} {ops : Array Oper} {Q : Ck → Bq → Prop} {k : Nat} {n : Nat} {τ : Nat → AV} {T : List BL} {D : List Di} {dst : Option Tmp} {op : Op} {ty : TypeId} {pos : String} {aft : Array Edge} {v : AV} {c : Call} {f : Operand} {fid : FuncId} {first caps A : List AV} {R : DM → List BL → Prop}
theorem FT {H H' : List BL} (hp : H.Perm H') (h : AL P r ops k ⟨n, τ, H', D⟩ Q) : AL P r ops k ⟨n, τ, H, D⟩ Q := Cz (NU (S := ⟨n, τ, H, D⟩) hp) h
theorem JI (fr : List BL) {l : Nat} (ho : ops[k]? = some ⟨dst, .call c, ty, pos, aft, none⟩) (hd : G7 dst n = true)
  (hc : c.callee = .value f) (hf : ev τ f = .fn (.yield l) [] []) (h : GZ P l A T R) (hA : c.args.toList.map (ev τ) = A)
  (next : ∀ v T', R (.val v) T' → AL P r ops (k + 1) ⟨n, put τ dst v, fr ++ T', D⟩ Q) (pan : ∀ v T', R (.panic v) T' → Q (.panic v) ⟨n, τ, T' ++ fr, D⟩) : AL P r ops k ⟨n, τ, fr ++ T, D⟩ Q :=
 ER (S := ⟨n, τ, fr ++ T, D⟩) ho Ag (Fh hd) (Rm hc hf List.perm_append_comm h hA) (fun v H' ⟨Hs', h1, h2⟩ => by subst h2; exact FT List.perm_append_comm (next v Hs' h1)) (fun v H' ⟨Hs', h1, h2⟩ => by subst h2; exact pan v Hs' h1)
theorem GI (fr : List BL) (ho : ops[k]? = some ⟨dst, .call c, ty, pos, aft, none⟩) (hd : G7 dst n = true)
  (hc : c.callee = .value f) (hf : (ev τ f = .p (.fn fid) ∧ first = [] ∧ caps = []) ∨ ev τ f = .fn (.func fid) first caps) (h : Bl P fid A T R) (hA : GA (first ++ c.args.toList.map (ev τ) ++ caps) A)
  (next : ∀ v T', R (.val v) T' → AL P r ops (k + 1) ⟨n, put τ dst v, fr ++ T', D⟩ Q) (pan : ∀ v T', R (.panic v) T' → Q (.panic v) ⟨n, τ, T' ++ fr, D⟩) : AL P r ops k ⟨n, τ, fr ++ T, D⟩ Q :=
 KP ho hd hc hf List.perm_append_comm (h.args hA) (.inl rfl) (fun v H' h1 => FT List.perm_append_comm (next v H' h1)) pan
end
theorem EK.append : ∀ {l l' : List BL} {T : List BL}, EK l l' → EK (l ++ T) (l' ++ T)
 | [], l', T, h => by simp only [EK] at h; subst h; exact EK.refl T
 | o :: l, l', T, h => by
  obtain ⟨o', r', rfl, h1, h2⟩ := h
  exact ⟨o', r' ++ T, Ao, h1, EK.append h2⟩
theorem Oo (is : List Nat) (l : List BL) {l1 l' T : List BL} (h : K5 is 0 l = l1) (w : EK l1 l') : Uz (l ++ T) (l' ++ T) := ⟨l1 ++ T, (Cf h).append_right T, w.append⟩
theorem F9 (is : List Nat) (l : List BL) {l1 T : List BL} (h : K5 is 0 l = l1) : (l1 ++ T).Sublist (l ++ T) := (Cf h).append_right T
def bg (b : Bool) (H' : List BL) : DM → List BL → Prop
 | .val v, H'' => v = .p (.bool b) ∧ H'' = H'
 | .panic _, _ => False
theorem EC {n : Nat} {τ : Nat → AV} {H : List BL} {D : List Di} {t : Nat} {x : AV} (h : τ t = x) : F8 ⟨n, τ, H, D⟩ ⟨n, put τ (some t) x, H, D⟩ := MA fun _ _ _ hr => h ▸ hr
section
variable {P : Program} {dst : Option Tmp} {ty : TypeId} {pos : String} {aft : Array Edge} {g : Option (Nat × Bool)} {ρ : Operand → AV} {H : List BL} {x y : Operand}
theorem Q3 {e : TypeId} {bl : Bool} {sz : Nat} (ht : DR P e = some (bl, sz)) : ∃ inf, P.info? e = some inf ∧ inf.size = sz := by
 obtain ⟨d, _, _, h⟩ := D9 ht
 cases hi : P.info? e with
 | none => simp [hi] at h
 | some inf => simp [hi] at h; exact ⟨inf, rfl, h⟩
theorem Eo {T e : TypeId} {bl : Bool} {len sz b o : Nat} {k : IntKind} {i : Int} (hu : P.underlying T = some (.array len e)) (ht : DR P e = some (bl, sz)) (hx : ρ x = .ptr b o) (hy : ρ y = .p (.int k i)) (h0 : 0 ≤ i) (hn : i < len) :
  DS P ⟨dst, .indexAddr T x y, ty, pos, aft, g⟩ ρ H (.ptr b (o + i.toNat * sz)) H := by
 obtain ⟨inf, h1, h2⟩ := Q3 ht
 exact NB hu h1 h2 hx hy h0 hn
theorem I2 {T e : TypeId} {bl : Bool} {len sz : Nat} {parts : Array (Nat × Operand)} {z : Value} {cs : List AV} (hu : P.underlying T = some (.array len e)) (ht : DR P e = some (bl, sz)) (hz : zeroOf P T = some z)
  (hc : E2 (fun i => some (i * sz, sz)) (z.cells.toList.map GJ) (parts.toList.map fun p => (p.1, ρ p.2)) = some cs) : DS P ⟨dst, .build T parts, ty, pos, aft, g⟩ ρ H (.agg cs) H := by
 obtain ⟨inf, h1, h2⟩ := Q3 ht
 subst h2
 exact M0 hu h1 hz hc
end
theorem Hz {P : Program} {g : Operand} {ps : Array Tmp} {assign body : Code} {S : Bq} {Q : Ck → Bq → Prop} {fid : FuncId} {first caps : List AV}
  (hg : (ev S.τ g = .p (.fn fid) ∧ first = [] ∧ caps = []) ∨ ev S.τ g = .fn (.func fid) first caps)
  (h : ∀ d l (L : KA), L = ⟨.ready, none, S.n, S.τ, ps, assign, body⟩ → ∃ Hs Hf, (BL.loop l L :: .dfr d :: S.H).Perm (Hs ++ Hf) ∧
   Bl P fid (first ++ [.fn (.yield l) [] []] ++ caps) Hs (fun r H' => OG P l d S Q r (H' ++ Hf))) :
  Hj P none (.rangeFunc g ps assign body) S Q := Rv hg fun d l => h d l _ rfl
def bH (H' : List BL) : DM → List BL → Prop
 | .val v, H'' => v = .tup [] ∧ H'' = H'
 | .panic _, _ => False
def GB (v : AV) (C : List BL → Prop) : DM → List BL → Prop
 | .val v', H' => v' = v ∧ C H'
 | .panic _, _ => False
section
variable {P : Program} {n : Nat} {τ : Nat → AV} {H : List BL} {D : List Di}
theorem Wj {b : Nat} {cs cs' : List AV} (h : GA cs cs') : JW (.box b cs) (.box b cs') := ⟨rfl, fun F w hr => by
 obtain ⟨vs, T, h1, h2⟩ := hr
 exact ⟨vs, T, h1, JF h h2⟩⟩
theorem FK {i : Nat} {o o' : BL} (hi : H[i]? = some o) (hw : JW o o') : F8 ⟨n, τ, H, D⟩ ⟨n, τ, H.set i o', D⟩ := by
 intro F a w hs
 refine ⟨F, ⟨hs.size, hs.tmp, ?_, hs.defs⟩, ?_⟩
 ·have hk := Ee (x' := o') hi hw.1
  refine ⟨fun x hx c hc => ?_, by show List.Nodup _; rw [hk]; exact hs.heap.nodup, fun x hx => ?_, hs.heap.bd⟩
  ·rcases C5 hx with rfl | ⟨j, _, hj⟩
   ·exact hs.heap.sub _ (List.mem_of_getElem? hi) c (by rw [← hw.1]; exact hc)
   ·exact hs.heap.sub _ (List.mem_of_getElem? hj) c hc
  ·rcases C5 hx with rfl | ⟨j, _, hj⟩
   ·exact hw.2 F w (hs.heap.obj _ (List.mem_of_getElem? hi))
   ·exact hs.heap.obj _ (List.mem_of_getElem? hj)
 ·refine { Trans.refl (F := F) (H := H) (w := w) with keys := fun x hx c hc => ?_ }
  rcases C5 hx with rfl | ⟨j, _, hj⟩
  ·exact .inl ⟨_, List.mem_of_getElem? hi, by rw [← hw.1]; exact hc⟩
  ·exact .inl ⟨_, List.mem_of_getElem? hj, hc⟩
end
section
variable {P : Program} {dst : Option Tmp} {ty : TypeId} {pos : String} {aft : Array Edge} {g : Option (Nat × Bool)} {ρ : Operand → AV} {H : List BL} {x y : Operand}
end
section
variable {P : Program} {dst : Option Tmp} {ty : TypeId} {pos : String} {aft : Array Edge} {g : Option (Nat × Bool)} {ρ : Operand → AV} {H : List BL} {x y : Operand}
end
section
variable {P : Program} {dst : Option Tmp} {ty : TypeId} {pos : String} {aft : Array Edge} {g : Option (Nat × Bool)} {ρ : Operand → AV} {H : List BL} {x y : Operand}
end
section
variable {P : Program} {r : Option Nat} {ops : Array Oper} {Q : Ck → Bq → Prop} {k : Nat} {n : Nat} {τ : Nat → AV} {H : List BL} {D : List Di} {dst : Option Tmp} {ty : TypeId} {pos : String} {aft : Array Edge} {v : AV} {c : Call} {f : Operand} {fid : FuncId} {first caps A : List AV}
end
end Go.Abs
namespace Go.Eu
open Go.Abs
def HF (k : Int) : Int := if k = 5 ∨ k = 6 ∨ k = 7 then 1 else if k = 11 then 2 else -1
theorem PT {k : Int} {i : Int} (h : i = HF k) (hi : 0 ≤ i) : below k i = 1 := by
 unfold HF at h
 unfold below
 split at h
 ·rename_i hk; subst h; rcases hk with rfl | rfl | rfl <;> simp
 ·split at h
  ·rename_i hk; subst h; subst hk; simp
  ·omega
theorem Nc {k : Int} {i : Int} (h : i ≠ HF k) : below k i = 0 := by
 unfold HF at h
 unfold below
 rw [if_neg]
 simp only [Bool.or_eq_true, Bool.and_eq_true, beq_iff_eq]
 intro hc
 apply h
 rcases hc with ⟨h1, h2⟩ | ⟨h1, h2⟩
 ·rw [if_pos (by rcases h2 with (h | h) | h <;> simp [h]), h1]
 ·rw [if_neg Am, if_pos h2, h1]
theorem PA {k : Int} (h : ¬ (0 ≤ k ∧ k < 13)) : HF k = -1 := by
 unfold HF
 rw [if_neg Am, if_neg Am]
section
variable {σ : Type}
mutual
def Da (st : σ → Int → Tm → σ × Bool) : Tm → Int → σ → σ × Bool
 | .mk k i n l ks, d, s => if (st s d (.mk k i n l ks)).2 = false then ((st s d (.mk k i n l ks)).1, false) else Dd st k d 0 (st s d (.mk k i n l ks)).1 ks
def Dd (st : σ → Int → Tm → σ × Bool) (k d : Int) : Nat → σ → List Tm → σ × Bool
 | _, s, [] => (s, true)
 | j, s, t :: ts => if (Da st t (d + below k j) s).2 = false then ((Da st t (d + below k j) s).1, false) else Dd st k d (j + 1) (Da st t (d + below k j) s).1 ts
end
end
def Ks (ix nm : Bool) (lv ks bl : Int) : List AV := [.p (.bool ix), .p (.bool nm), .p (I lv), .p (I ks), .p (I bl)]
def Kn : List AV := [Ks true false 0 0 (-1), Ks false false 0 0 (-1), Ks false false 1 0 (-1), Ks false true (-1) 0 (-1), Ks false false 0 2 (-1), Ks false false 0 2 1, Ks false false 0 2 1, Ks false false 0 2 1, Ks false false 0 3 (-1), Ks false false 0 1 (-1), Ks false false 0 1 (-1), Ks false false 0 3 2, Ks true false 0 0 (-1)].flatten
theorem TJ {k : Int} (h : 0 ≤ k ∧ k < 13) : Kn[0 + k.toNat * 5 + 4]? = some (.p (I (HF k))) := by
 have : k = 0 ∨ k = 1 ∨ k = 2 ∨ k = 3 ∨ k = 4 ∨ k = 5 ∨ k = 6 ∨ k = 7 ∨ k = 8 ∨ k = 9 ∨ k = 10 ∨ k = 11 ∨ k = 12 := by omega
 rcases this with rfl | rfl | rfl | rfl | rfl | rfl | rfl | rfl | rfl | rfl | rfl | rfl | rfl <;> rfl
section
variable {σ : Type} {st : σ → Int → Tm → σ × Bool} {Inv : Nat → σ → Prop}
theorem Pn {t : Tm} {d : Int} {s : σ} (h : (st s d t).2 = false) : Da st t d s = ((st s d t).1, false) := by
 obtain ⟨k, i, n, l, ks⟩ := t
 rw [Da, if_pos h]
theorem Fq {k i : Int} {n : ByteArray} {l : List Eg} {ks : List Tm} {d : Int} {s : σ} (h : (st s d (.mk k i n l ks)).2 = true) : Da st (.mk k i n l ks) d s = Dd st k d 0 (st s d (.mk k i n l ks)).1 ks := by
 rw [Da, if_neg (by simp [h])]
theorem Gl {k d : Int} {ts : List Tm} {i : Nat} {x : Tm} {s : σ} (hx : ts[i]? = some x) (h : (Da st x (d + below k i) s).2 = false) : Dd st k d i s (ts.drop i) = ((Da st x (d + below k i) s).1, false) := by
 rw [Dc hx, Dd, if_pos h]
theorem Hv {k d : Int} {ts : List Tm} {i : Nat} {x : Tm} {s : σ} (hx : ts[i]? = some x) (h : (Da st x (d + below k i) s).2 = true) : Dd st k d i s (ts.drop i) = Dd st k d (i + 1) (Da st x (d + below k i) s).1 (ts.drop (i + 1)) := by
 rw [Dc hx, Dd, if_neg (by simp [h])]
mutual
theorem Gu (hI : ∀ m s d t, Inv (m + 1) s → Inv m (st s d t).1) : ∀ (t : Tm) (d : Int) (s : σ) (m : Nat), Inv (m + size t) s → (Da st t d s).2 = true → Inv m (Da st t d s).1
 | .mk k i n l ks, d, s, m, h, hv => by
  rw [size, show m + (1 + By ks) = (m + By ks) + 1 by omega] at h
  have h1 := hI _ _ d (.mk k i n l ks) h
  rw [Da] at hv ⊢
  split at hv
  ·cases hv
  ·rename_i hc
   rw [if_neg hc]
   exact LM hI ks k d 0 _ m h1 hv
theorem LM (hI : ∀ m s d t, Inv (m + 1) s → Inv m (st s d t).1) : ∀ (ts : List Tm) (k d : Int) (j : Nat) (s : σ) (m : Nat), Inv (m + By ts) s → (Dd st k d j s ts).2 = true → Inv m (Dd st k d j s ts).1
 | [], k, d, j, s, m, h, hv => by simpa [Dd, By] using h
 | t :: ts, k, d, j, s, m, h, hv => by
  rw [By, show m + (size t + By ts) = (m + By ts) + size t by omega] at h
  rw [Dd] at hv ⊢
  split at hv
  ·cases hv
  ·rename_i hc
   rw [if_neg hc]
   have := Gu hI t (d + below k j) s _ h (by simpa using hc)
   exact LM hI ts k d (j + 1) _ m this hv
end
end
def Qg (s : Int) (d : Int) (t : Tm) : Int × Bool := (wr (s + 1), true)
mutual
theorem PH (B : Int) (hB : B ≤ 4611686018427387904) : ∀ (t : Tm) (d s : Int), 0 ≤ s → s + size t < B → Da Qg t d s = (s + size t, true)
 | .mk k i n l ks, d, s, h0, h => by
  rw [size] at h ⊢
  rw [Fq rfl]
  simp only [Qg]
  rw [HU ⟨by omega, by omega⟩, NR B hB ks k d 0 (s + 1) Am Am]
  congr 1
  omega
theorem NR (B : Int) (hB : B ≤ 4611686018427387904) : ∀ (ts : List Tm) (k d : Int) (j : Nat) (s : Int), 0 ≤ s → s + By ts < B → Dd Qg k d j s ts = (s + By ts, true)
 | [], k, d, j, s, h0, h => by simp [Dd, By]
 | t :: ts, k, d, j, s, h0, h => by
  rw [By] at h ⊢
  rw [Dd, PH B hB t _ s h0 Am]
  simp only
  rw [if_neg An, NR B hB ts k d (j + 1) (s + size t) Am Am]
  congr 1
  omega
end
def bM (s : List Int) (d : Int) : Tm → List Int × Bool
 | .mk k i _ _ _ => (if k = 12 ∧ i ∉ s then s ++ [i] else s, true)
def bh (s : List Int) : List (Int × AV) := s.map fun i => (i, .p (.bool true))
def Ph (xs ys : List Tm) (i : Nat) : Prop := ys.length = xs.length ∧ ∀ k, k < xs.length → ys[k]? = if k < i ∨ xs.length - 1 - k < i then xs[xs.length - 1 - k]? else xs[k]?
theorem QW (xs : List Tm) : Ph xs xs 0 := ⟨rfl, fun k hk => by rw [if_neg Am]⟩
theorem QV {xs ys : List Tm} {i : Nat} {a b : Tm} (h : Ph xs ys i) (hi : i < xs.length - 1 - i) (ha : ys[i]? = some a) (hb : ys[xs.length - 1 - i]? = some b) : Ph xs ((ys.set i b).set (xs.length - 1 - i) a) (i + 1) := by
 obtain ⟨hl, h⟩ := h
 refine ⟨by simp [hl], fun k hk => ?_⟩
 have e1 := h i Am
 rw [if_neg Am, ha] at e1
 have e2 := h (xs.length - 1 - i) Am
 rw [if_neg Am, hb] at e2
 by_cases k1 : k = xs.length - 1 - i
 ·subst k1
  rw [if_pos Am, List.getElem?_set_self Ah, e1]
  congr 1
  omega
 ·rw [List.getElem?_set_ne (fun e => k1 e.symm)]
  by_cases k2 : k = i
  ·subst k2
   rw [if_pos Am, List.getElem?_set_self Am, e2]
  ·rw [List.getElem?_set_ne (fun e => k2 e.symm), h k hk]
   by_cases k3 : k < i ∨ xs.length - 1 - k < i
   ·rw [if_pos k3, if_pos Am]
   ·rw [if_neg k3, if_neg Am]
theorem QO {xs ys : List Tm} {i : Nat} (h : Ph xs ys i) (hi : xs.length - 1 - i ≤ i) : ys = xs.reverse := by
 obtain ⟨hl, h⟩ := h
 apply List.ext_getElem?
 intro k
 by_cases hk : k < xs.length
 ·rw [h k hk, List.getElem?_reverse hk]
  by_cases k3 : k < i ∨ xs.length - 1 - k < i
  ·rw [if_pos k3]
  ·rw [if_neg k3]
   congr 1
   omega
 ·rw [List.getElem?_eq_none Am, List.getElem?_eq_none Ah]
def aq (f : Int) (n i : Nat) : List Tm := (TG f 0 n).take i ++ List.replicate (n - i) BQ
def Vw (t : Tm) : Bool := decide ((size t : Int) > 4096) || decide (HG t > 200)
def bQ {σ : Type} (st : σ → Int → Tm → σ) (xs : List Tm) : Nat → σ → σ
 | 0, s => s
 | m + 1, s => bQ st xs m (st s m (xs.getD m BQ))
def ZO (k : Int) (t : Tm) (i : Int) (a : Tm) : Tm := .mk k 0 ⟨#[]⟩ [] [a, t]
end Go.Eu
