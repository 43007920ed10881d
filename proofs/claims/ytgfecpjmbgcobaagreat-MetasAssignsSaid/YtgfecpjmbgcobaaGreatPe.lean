/- Part of the proofs about metavariables: an abstract program logic, plain models and contracts of functions. -/
import Derived.Test.YtgfecpjmbgcobaaGreatPd
import Derived.MapKept
import Derived.Test.YtgfecpjmbgcobaaGreatPb
/- The abstract program logic: steps of drawn regions with open outcomes; maps; the remaining operations. -/
namespace Go.Abs
set_option linter.unusedVariables false
set_option linter.unusedSimpArgs false

section
variable {P : Program} {ops : Array Oper} {n : Nat} {τ₀ : Nat → AV} {D : List ADef} {Q : AExit → AState → Prop} {opn : Nat → Bool} {k : Nat} {τ : Nat → AV} {H : List HObj} {rd : Rds} {ef : Efs} {effs : List Bool} {fx : List (Nat × Sp)} {dst : Option Tmp} {op : Op} {ty : TypeId} {pos : String} {aft : Array Edge} {v : AV} {H' : List HObj}
theorem dr_new {cs : List AV} (fx' : List (Nat × Sp)) (ho : ops[k]? = some ⟨dst, op, ty, pos, aft, none⟩) (hn : opn k = true) (h : AOpR P ⟨dst, op, ty, pos, aft, none⟩ (ev τ) H (newBox cs H)) (haft : allAfter ops k (fx'.map (·.1)) = true)
    (next : ∀ b, OweR ops k H (.box b cs :: H) rd ∧ FxAt k (.eff (.ptr b 0) (.box b cs :: H)) fx ∧ Dr P ops n τ₀ D Q opn (k + 1) (put τ dst (.ptr b 0)) (.box b cs :: H) rd ((k, H, .box b cs :: H) :: ef) (true :: effs) (fx' ++ fx)) : Dr P ops n τ₀ D Q opn k τ H rd ef effs fx :=
  dr_open fx' ho hn h haft ⟨_, _, 0, rfl, rfl⟩ (fun _ _ h => h.elim) (fun v H' ⟨b, h1, h2⟩ => by subst h1; subst h2; exact next b)
theorem dr_app {i sz : Nat} {rows : List (List PV)} (fx' : List (Nat × Sp)) (ho : ops[k]? = some ⟨dst, op, ty, pos, aft, none⟩) (hn : opn k = true) (h : AOpR P ⟨dst, op, ty, pos, aft, none⟩ (ev τ) H (appendR i sz rows H)) (haft : allAfter ops k (fx'.map (·.1)) = true)
    (next : ∀ o c, OweR ops k H (H.set i (.vec o sz rows c)) rd ∧ FxAt k (.eff (.vs o rows.length c) (H.set i (.vec o sz rows c))) fx ∧ Dr P ops n τ₀ D Q opn (k + 1) (put τ dst (.vs o rows.length c)) (H.set i (.vec o sz rows c)) rd ((k, H, H.set i (.vec o sz rows c)) :: ef) (true :: effs) (fx' ++ fx)) : Dr P ops n τ₀ D Q opn k τ H rd ef effs fx :=
  dr_open fx' ho hn h haft ⟨_, _, none, 0, rfl, rfl⟩ (fun _ _ h => h.elim) (fun v H' ⟨o, c, h1, h2⟩ => by subst h1; subst h2; exact next o c)

/-- A call that returns for sure. -/
def retR (v : AV) (H' : List HObj) : ARes → List HObj → Prop
  | .val v', H'' => v' = v ∧ H'' = H'
  | .panic _, _ => False
/-- A call whose outcome is known. -/
theorem aop_ret {c : Call} {g : Option (Nat × Bool)} {f : Operand} {fid : FuncId} {first caps : List AV} {ρ : Operand → AV} {Hs Hf Hs' : List HObj} {A : List AV}
    (hc : c.callee = .value f) (hf : (ρ f = .p (.fn fid) ∧ first = [] ∧ caps = []) ∨ ρ f = .fn (.func fid) first caps) (hp : H.Perm (Hs ++ Hf)) (h : ACalls P fid A Hs (retR v Hs')) (hA : first ++ c.args.toList.map ρ ++ caps = A ∨ (first ++ c.args.toList.map ρ ++ caps).map norm = A) :
    AOp P ⟨dst, .call c, ty, pos, aft, g⟩ ρ H v (Hs' ++ Hf) := by
  refine (aop_call (H := H) hc hf hp h hA).mono ?_
  rintro r H' ⟨Hs', h1, rfl⟩
  cases r with
  | val v' => obtain ⟨rfl, rfl⟩ := h1; exact ⟨rfl, rfl⟩
  | panic v' => exact h1
end

/-  Maps with numbers as keys -/
def mget (k : Int) : List (Int × AV) → Option AV
  | [] => none
  | (j, x) :: r => if j = k then some x else mget k r
def mset (k : Int) (v : AV) : List (Int × AV) → List (Int × AV)
  | [] => [(k, v)]
  | (j, x) :: r => if j = k then (j, v) :: r else (j, x) :: mset k v r
def mapE (l : List (Int × AV)) : List (PV × AV) := l.map fun p => (.int .i64 p.1, p.2)
/-- A map's elements, where its keys are ints. -/
def mapOf (P : Program) (T : TypeId) : Option TypeId :=
  match P.underlying T with
  | some (.map k e) => match P.underlying k with
    | some (.int .i64) => some e
    | _ => none
  | _ => none
theorem mapOf_spec {P : Program} {T e : TypeId} (h : mapOf P T = some e) : ∃ k, P.underlying T = some (.map k e) ∧ P.underlying k = some (.int .i64) := by
  unfold mapOf at h
  split at h
  · rename_i k e' hu
    split at h
    · rename_i hk; injection h with h; subst h; exact ⟨k, hu, hk⟩
    · cases h
  · cases h

section
variable {F : Nat → Prop} {w : World}
theorem ent_find {k : Int} : ∀ {l : List (Int × AV)} {es : List MapEntry} (i : Nat), EntRep F w (mapE l) es →
    (mget k l = none ∧ Instr.findNow (.int .i64) (.int .i64 k) es i = some none) ∨ ∃ j e x, mget k l = some x ∧ Instr.findNow (.int .i64) (.int .i64 k) es i = some (some (i + j, e.val)) ∧ es[j]? = some e ∧ e.key = .int .i64 k ∧ Rep F w x e.val
  | [], es, i, h => by simp only [mapE, List.map_nil, EntRep] at h; subst h; exact .inl ⟨rfl, rfl⟩
  | (j, x) :: l, es, i, h => by
    simp only [mapE, List.map_cons, EntRep] at h
    obtain ⟨e, es', rfl, hk, hx, hr⟩ := h
    simp only [PRep] at hk
    by_cases hj : j = k
    · subst hj
      exact .inr ⟨0, e, x, by simp [mget], by simp [Instr.findNow, hk, Instr.sameNow], rfl, hk, hx⟩
    · have hne : (k == j) = false := by simp [Ne.symm hj]
      rcases ent_find (k := k) (i + 1) hr with ⟨h1, h2⟩ | ⟨q, e', x', h1, h2, h3, h4, h5⟩
      · exact .inl ⟨by simp [mget, hj, h1], by simp [Instr.findNow, hk, Instr.sameNow, hne, h2]⟩
      · exact .inr ⟨q + 1, e', x', by simp [mget, hj, h1], by simp [Instr.findNow, hk, Instr.sameNow, hne, h2]; omega, by simpa using h3, h4, h5⟩

theorem ent_push {k : Int} {v : AV} {u : Value} {c : Nat} : ∀ {l : List (Int × AV)} {es : List MapEntry}, EntRep F w (mapE l) es → mget k l = none → Rep F w v u → EntRep F w (mapE (mset k v l)) (es ++ [{ key := .int .i64 k, val := u, born := c }])
  | [], es, h, _, hv => by
    simp only [mapE, List.map_nil, EntRep] at h
    subst h
    simp only [mset, mapE, List.map_cons, List.map_nil, List.nil_append, EntRep]
    exact ⟨_, [], rfl, by simp [PRep], hv, rfl⟩
  | (j, x) :: l, es, h, hm, hv => by
    simp only [mapE, List.map_cons, EntRep] at h
    obtain ⟨e, es', rfl, hk, hx, hr⟩ := h
    by_cases hj : j = k
    · simp [mget, hj] at hm
    · simp only [mget, if_neg hj] at hm
      simp only [mset, if_neg hj, mapE, List.map_cons, List.cons_append, EntRep]
      exact ⟨e, _, rfl, hk, hx, ent_push hr hm hv⟩

theorem ent_set {k : Int} {v : AV} {u : Value} : ∀ {l : List (Int × AV)} {es : List MapEntry} {j : Nat} (i : Nat) {y : Value}, EntRep F w (mapE l) es → Instr.findNow (.int .i64) (.int .i64 k) es i = some (some (i + j, y)) → Rep F w v u → EntRep F w (mapE (mset k v l)) (es.modify j fun e => { e with key := .int .i64 k, val := u })
  | [], es, j, i, y, h, hf, _ => by simp only [mapE, List.map_nil, EntRep] at h; subst h; simp [Instr.findNow] at hf
  | (q, x) :: l, es, j, i, y, h, hf, hv => by
    simp only [mapE, List.map_cons, EntRep] at h
    obtain ⟨e, es', rfl, hk, hx, hr⟩ := h
    simp only [PRep] at hk
    by_cases hj : q = k
    · subst hj
      simp [Instr.findNow, hk, Instr.sameNow] at hf
      obtain ⟨rfl, _⟩ : j = 0 ∧ True := ⟨by omega, trivial⟩
      simp only [mset, if_true, mapE, List.map_cons, EntRep]
      exact ⟨_, es', rfl, by simp [PRep], hv, hr⟩
    · have hne : (k == q) = false := by simp [Ne.symm hj]
      simp only [Instr.findNow, hk, Instr.sameNow, if_true, hne] at hf
      cases j with
      | zero =>
        have : ∀ (es : List MapEntry) (m : Nat) (y : Value) (r : Nat), Instr.findNow (.int .i64) (.int .i64 k) es m = some (some (r, y)) → m ≤ r := by
          intro es
          induction es with
          | nil => intro m y r h; simp [Instr.findNow] at h
          | cons e es ih =>
            intro m y r h
            simp only [Instr.findNow] at h
            split at h
            · simp at h; omega
            · have := ih _ _ _ h; omega
            · cases h
        have := this _ _ _ _ hf
        omega
      | succ j =>
        simp only [mset, if_neg hj, mapE, List.map_cons, List.modify_succ_cons, EntRep]
        exact ⟨e, _, rfl, by simpa [PRep] using hk, hx, ent_set (i + 1) hr (by rw [show i + 1 + j = i + (j + 1) by omega]; exact hf) hv⟩
end

section
variable {P : Program} {dst : Option Tmp} {ty : TypeId} {pos : String} {aft : Array Edge} {g : Option (Nat × Bool)} {ρ : Operand → AV} {H : List HObj} {x y z : Operand} {v : AV}

def newMap (H : List HObj) : ARes → List HObj → Prop
  | .val v, H' => ∃ b, v = .map b ∧ H' = .map b (mapE []) :: H
  | .panic _, _ => False

theorem aop_makeMap {T : TypeId} : AOpR P ⟨dst, .makeMap T none, ty, pos, aft, g⟩ ρ H (newMap H) :=
  aop_turn fun F w E hH hE => by
    refine ⟨.map (some w.heap.size), World.push w (.map #[] 0), .map w.heap.size, .map w.heap.size (mapE []) :: H, _, ?_, ⟨_, rfl, rfl⟩, push_trans H _ _ (.inl rfl), push_HRel hH _ _ rfl ?_, by simp [Rep]⟩
    · simp [execOp, Instr.makeMap, Sem.run_bind]
      rfl
    · exact ⟨#[], 0, push_new _, rfl⟩

theorem aop_lookup {T e : TypeId} {b i : Nat} {l : List (Int × AV)} {k : Int} {zv : Value} {za : AV} (hT : mapOf P T = some e) (hz : zeroOf P e = some zv) (hza : ∀ F w, Rep F w za zv) (hx : ρ x = .map b) (hy : ρ y = .p (.int .i64 k)) (hi : H[i]? = some (.map b (mapE l))) :
    AOp P ⟨dst, .lookup T x y false, ty, pos, aft, g⟩ ρ H ((mget k l).getD za) H :=
  aop_pure fun F w E hH hE => by
    obtain ⟨kt, hu, hk⟩ := mapOf_spec hT
    have h1 := hE x (by simp [Op.operands])
    have h2 := hE y (by simp [Op.operands])
    rw [hx] at h1
    rw [hy] at h2
    simp only [Rep, PRep] at h1 h2
    obtain ⟨es, clk, hb, hr⟩ := hH.obj _ (List.mem_of_getElem? hi)
    have hzv : (zeroValue e).run P w = .ok zv w := by
      unfold zeroOf at hz
      cases hi : P.info? e with
      | none => simp [hi] at hz
      | some i => have hz' : i.zero = some zv := by simpa [hi] using hz
                  simp [zeroValue, typeInfo, hi, hz', Sem.run_bind]
    have hkey : MapKept.IsKey (.int .i64) (.int .i64 k) := rfl
    rcases ent_find (k := k) 0 hr with ⟨h3, h4⟩ | ⟨j, e', x', h3, h4, h5, h6, h7⟩
    · refine ⟨zv, ?_, by rw [h3]; exact hza F w⟩
      simp [execOp, Instr.lookup, Sem.run_bind, run_underlying hu, h1, h2, MapKept.run_getObj_map hb, MapKept.run_checkKey hk hkey, MapKept.run_findKey hk h4, hzv]
    · refine ⟨e'.val, ?_, by rw [h3]; exact h7⟩
      simp [execOp, Instr.lookup, Sem.run_bind, run_underlying hu, h1, h2, MapKept.run_getObj_map hb, MapKept.run_checkKey hk hkey, MapKept.run_findKey hk h4]

theorem aop_lookupOk {T e : TypeId} {b i : Nat} {l : List (Int × AV)} {k : Int} {zv : Value} {za : AV} (hT : mapOf P T = some e) (hz : zeroOf P e = some zv) (hza : ∀ F w, Rep F w za zv) (hx : ρ x = .map b) (hy : ρ y = .p (.int .i64 k)) (hi : H[i]? = some (.map b (mapE l))) :
    AOp P ⟨dst, .lookup T x y true, ty, pos, aft, g⟩ ρ H (.tup [(mget k l).getD za, .p (.bool (mget k l).isSome)]) H :=
  aop_pure fun F w E hH hE => by
    obtain ⟨kt, hu, hk⟩ := mapOf_spec hT
    have h1 := hE x (by simp [Op.operands])
    have h2 := hE y (by simp [Op.operands])
    rw [hx] at h1
    rw [hy] at h2
    simp only [Rep, PRep] at h1 h2
    obtain ⟨es, clk, hb, hr⟩ := hH.obj _ (List.mem_of_getElem? hi)
    have hzv : (zeroValue e).run P w = .ok zv w := by
      unfold zeroOf at hz
      cases hi : P.info? e with
      | none => simp [hi] at hz
      | some i => have hz' : i.zero = some zv := by simpa [hi] using hz
                  simp [zeroValue, typeInfo, hi, hz', Sem.run_bind]
    have hkey : MapKept.IsKey (.int .i64) (.int .i64 k) := rfl
    rcases ent_find (k := k) 0 hr with ⟨h3, h4⟩ | ⟨j, e', x', h3, h4, h5, h6, h7⟩
    · refine ⟨.tuple #[zv, .bool false], ?_, ?_⟩
      · simp [execOp, Instr.lookup, Sem.run_bind, run_underlying hu, h1, h2, MapKept.run_getObj_map hb, MapKept.run_checkKey hk hkey, MapKept.run_findKey hk h4, hzv]
      · simp only [h3, Rep, RepL, PRep]
        exact ⟨[zv, .bool false], rfl, _, _, rfl, hza F w, _, _, rfl, rfl, rfl⟩
    · refine ⟨.tuple #[e'.val, .bool true], ?_, ?_⟩
      · simp [execOp, Instr.lookup, Sem.run_bind, run_underlying hu, h1, h2, MapKept.run_getObj_map hb, MapKept.run_checkKey hk hkey, MapKept.run_findKey hk h4]
      · simp only [h3, Rep, RepL, PRep]
        exact ⟨[e'.val, .bool true], rfl, _, _, rfl, h7, _, _, rfl, rfl, rfl⟩

theorem aop_mapUpdate {T e : TypeId} {b i : Nat} {l : List (Int × AV)} {k : Int} {va : AV} (hT : mapOf P T = some e) (hx : ρ x = .map b) (hy : ρ y = .p (.int .i64 k)) (hz : ρ z = va) (hi : H[i]? = some (.map b (mapE l))) :
    AOp P ⟨dst, .mapUpdate T x y z, ty, pos, aft, g⟩ ρ H (.p .any) (H.set i (.map b (mapE (mset k va l)))) :=
  (aop_turn_skip (R := det (.p .any) (H.set i (.map b (mapE (mset k va l))))) fun F w E hH hE => by
    obtain ⟨kt, hu, hk⟩ := mapOf_spec hT
    have h1 := hE x (by simp [Op.operands])
    have h2 := hE y (by simp [Op.operands])
    have h0 := hE z (by simp [Op.operands])
    rw [hx] at h1
    rw [hy] at h2
    rw [hz] at h0
    simp only [Rep, PRep] at h1 h2
    obtain ⟨es, clk, hb, hr⟩ := hH.obj _ (List.mem_of_getElem? hi)
    have hFb : F b := hH.sub _ (List.mem_of_getElem? hi) b rfl
    have hlt := hH.bd b hFb
    have hkey : MapKept.IsKey (.int .i64) (.int .i64 k) := rfl
    have fin : ∀ (es' : Array MapEntry) (clk' : Nat), EntRep F w (mapE (mset k va l)) es'.toList → Trans F H w F (H.set i (.map b (mapE (mset k va l)))) { w with heap := w.heap.setIfInBounds b (.map es' clk') } ∧ HRel F (H.set i (.map b (mapE (mset k va l)))) { w with heap := w.heap.setIfInBounds b (.map es' clk') } := by
      intro es' clk' hr'
      have hw : Wrote b (.map es' clk') w { w with heap := w.heap.setIfInBounds b (.map es' clk') } := ⟨rfl, rfl, rfl, rfl⟩
      have st := hw.stable hFb
      exact ⟨hw.trans hi rfl rfl, hw.HRel hH hi rfl rfl ⟨es', clk', hw.self hlt, EntRep.mono st _ _ hr'⟩⟩
    rcases ent_find (k := k) 0 hr with ⟨h3, h4⟩ | ⟨j, e', x', h3, h4, h5, h6, h7⟩
    · have hr' := ent_push (c := clk) hr h3 h0
      obtain ⟨f1, f2⟩ := fin (es.push { key := .int .i64 k, val := E z, born := clk }) (clk + 1) (by simpa using hr')
      refine ⟨_, _, F, ?_, ⟨rfl, rfl⟩, f1, f2⟩
      simp [execOp, Instr.mapUpdate, Sem.run_bind, run_underlying hu, h1, h2, MapKept.run_getObj_map hb, MapKept.run_checkKey hk hkey, MapKept.run_findKey hk h4, MapKept.run_setObj_map _ hb]
    · have hr' := ent_set (v := va) (u := E z) 0 hr h4 h0
      obtain ⟨f1, f2⟩ := fin (es.modify j fun e => { e with key := .int .i64 k, val := E z }) clk (by simpa using hr')
      refine ⟨_, _, F, ?_, ⟨rfl, rfl⟩, f1, f2⟩
      have h5' : es[j]? = some e' := by simpa using h5
      simp [execOp, Instr.mapUpdate, Sem.run_bind, run_underlying hu, h1, h2, MapKept.run_getObj_map hb, MapKept.run_checkKey hk hkey, MapKept.run_findKey hk h4, MapKept.run_setObj_map _ hb, h5', h6, Instr.keyThatStays, Instr.sameBits])

/-  Further comparisons -/
theorem run_equal {T : TypeId} {d : TypeDesc} {a b : Value} {c : Bool} {w : World} (hu : P.underlying T = some d) (h : (match d, a, b with
    | .bool, .bool x, .bool y => some (x == y)
    | .interface _, .nilIface, .nilIface => some true
    | .interface _, .iface _ _, .nilIface => some false
    | .slice _, .slice none _ _, .slice none _ _ => some true
    | .slice _, .slice (some _) _ _, .slice none _ _ => some false
    | _, _, _ => none) = some c) : (Op.equal T a b).run P w = .ok c w := by
  unfold Op.equal
  rw [show Op.maxDepth = 9999 + 1 from rfl]
  unfold Op.equalIn
  simp only [Sem.run_bind, run_underlying hu, Result.andThen_ok]
  split at h <;> simp_all

theorem aop_booleq {a b : Bool} {T U : TypeId} (hu : P.underlying T = some .bool) (hx : ρ x = .p (.bool a)) (hy : ρ y = .p (.bool b)) : AOp P ⟨dst, .binOp .eql T x y U, ty, pos, aft, g⟩ ρ H (.p (.bool (a == b))) H :=
  aop_pure fun F w E hH hE => by
    have e1 := hE x (by simp [Op.operands])
    have e2 := hE y (by simp [Op.operands])
    rw [hx] at e1
    rw [hy] at e2
    simp only [Rep, PRep] at e1 e2
    refine ⟨.bool (a == b), ?_, by simp [Rep, PRep]⟩
    have hg : (eqGuard .eql T x y (.bool a) (.bool b)).run P w = .ok () w := by unfold eqGuard; rfl
    have hq : (Op.equal T (.bool a) (.bool b)).run P w = .ok (a == b) w := run_equal hu rfl
    simp [execOp, Sem.run_bind, hg, e1, e2, binOp, hq]

/-- x != nil, of an interface value. -/
theorem aop_ifaceNe {T U : TypeId} {ms : Array (String × TypeId)} {X : PV} {b : Bool} (hu : P.underlying T = some (.interface ms)) (hx : ρ x = .p X) (hy : ρ (.const .nilIface) = .p .nilIface) (hX : (match X with | .nilIface => some false | .iface _ _ => some true | _ => none) = some b) : AOp P ⟨dst, .binOp .neq T x (.const .nilIface) U, ty, pos, aft, g⟩ ρ H (.p (.bool b)) H :=
  aop_pure fun F w E hH hE => by
    have e2 := hE (.const .nilIface) (by simp [Op.operands])
    rw [hy] at e2
    simp only [Rep, PRep] at e2
    have e1 := hE x (by simp [Op.operands])
    rw [hx] at e1
    have hg : ∀ a, (eqGuard .neq T x (.const .nilIface) a .nilIface).run P w = .ok () w := by
      intro a
      unfold eqGuard
      cases a <;> simp <;> rfl
    refine ⟨.bool b, ?_, by simp [Rep, PRep]⟩
    cases X with
    | nilIface =>
      simp at hX; subst hX
      simp only [Rep, PRep] at e1
      have hq : (Op.equal T .nilIface .nilIface).run P w = .ok true w := run_equal hu rfl
      simp [execOp, Sem.run_bind, hg, e1, e2, binOp, hq]
    | iface t c =>
      simp at hX; subst hX
      simp only [Rep, PRep] at e1
      obtain ⟨u, e1, _⟩ := e1
      have hq : (Op.equal T (.iface t u) .nilIface).run P w = .ok false w := run_equal hu rfl
      simp [execOp, Sem.run_bind, hg, e1, e2, binOp, hq]
    | _ => simp at hX

/-- An array's element, by the array's address. -/
theorem aop_index_arr {T e : TypeId} {len sz b o : Nat} {k : IntKind} {i : Int} {inf : TypeInfo} (hu : P.underlying T = some (.array len e)) (hj : P.info? e = some inf) (hs : inf.size = sz) (hx : ρ x = .ptr b o) (hy : ρ y = .p (.int k i)) (h0 : 0 ≤ i) (hn : i < len) :
    AOp P ⟨dst, .indexAddr T x y, ty, pos, aft, g⟩ ρ H (.ptr b (o + i.toNat * sz)) H :=
  aop_pure fun F w E hH hE => by
    have h1 := hE x (by simp [Op.operands])
    have h2 := hE y (by simp [Op.operands])
    rw [hx] at h1
    rw [hy] at h2
    simp only [Rep, PRep] at h1 h2
    refine ⟨.pointer (some ⟨b, o + i.toNat * sz, none⟩), ?_, by simp [Rep]⟩
    simp [execOp, Instr.indexAt, Sem.run_bind, run_underlying hu, h1, h2, asIntOf, h0, hn, sizeOf, typeInfo, hj, hs, Addr.add_mid, Instr.sureAddr, asAddr]

/-- An array's literal. -/
theorem aop_build_arr {T e : TypeId} {len : Nat} {parts : Array (Nat × Operand)} {z : Value} {cs : List AV} {inf : TypeInfo} (hu : P.underlying T = some (.array len e)) (hj : P.info? e = some inf) (hz : zeroOf P T = some z)
    (hc : fillA (fun i => some (i * inf.size, inf.size)) (z.cells.toList.map ofVal) (parts.toList.map fun p => (p.1, ρ p.2)) = some cs) : AOp P ⟨dst, .build T parts, ty, pos, aft, g⟩ ρ H (.agg cs) H :=
  aop_pure fun F w E hH hE => by
    unfold zeroOf at hz
    cases hi : P.info? T with
    | none => simp [hi] at hz
    | some i =>
      have hz' : i.zero = some z := by simpa [hi] using hz
      have hzv : (zeroValue T).run P w = .ok z w := by simp [zeroValue, typeInfo, hi, hz', Sem.run_bind]
      have hsz : (sizeOf e).run P w = .ok inf.size w := by simp [sizeOf, typeInfo, hj]
      obtain ⟨us, hf, hr⟩ := fillA_spec (F := F) (w := w) (place := (fun i => some (i * inf.size, inf.size))) _ (parts.toList.map fun p => (p.1, E p.2)) _ z.cells.toList _ (by simp) (by
        intro j p q h1 h2
        simp only [List.getElem?_map] at h1 h2
        cases hj : parts.toList[j]? with
        | none => simp [hj] at h1
        | some t =>
          simp [hj] at h1 h2
          subst h1; subst h2
          exact ⟨rfl, hE _ (by
            have := List.mem_of_getElem? hj
            simp only [Op.operands]
            exact List.mem_map.2 ⟨t, this, rfl⟩)⟩) (repL_ofVal _) hc
      refine ⟨.agg ⟨us⟩, ?_, by simp only [Rep]; exact ⟨us, rfl, hr⟩⟩
      simp only [execOp, Instr.build, Sem.run_bind, hzv, Result.andThen_ok, run_underlying hu, hsz]
      have hf' : Instr.fill (fun i => some (i * inf.size, inf.size)) z.cells (parts.toList.map fun p => (p.1, E p.2)) = some ⟨us⟩ := hf
      simp [hf']

/-- s == nil, of a slice that is pure and not empty, or none. -/
theorem aop_sliceNil {T U : TypeId} {e : TypeId} {rows : List (List PV)} (hu : P.underlying T = some (.slice e)) (hx : ρ x = .p (.lst rows)) (hy : ρ y = .p .nils) : AOpR P ⟨dst, .binOp .eql T x y U, ty, pos, aft, g⟩ ρ H (fun r H' => match r with | .val v => (∃ b, v = .p (.bool b) ∧ (b = true → rows = [])) ∧ H' = H | .panic _ => False) :=
  aop_turn fun F w E hH hE => by
    have e1 := hE x (by simp [Op.operands])
    have e2 := hE y (by simp [Op.operands])
    rw [hx] at e1
    rw [hy] at e2
    simp only [Rep, PRep] at e1 e2
    have hg : ∀ o n c, (eqGuard .eql T x y (.slice o n c) (.slice none 0 0)).run P w = .ok () w := by intro o n c; unfold eqGuard; rfl
    have key : ∃ b, (execOp E ⟨dst, .binOp .eql T x y U, ty, pos, aft, g⟩).run P w = .ok (.value (.bool b)) w ∧ (b = true → rows = []) := by
      rcases e1 with ⟨rfl, o, c, h1⟩ | ⟨bb, o, c, sz, h1, _⟩
      · cases o with
        | none =>
          have hq : (Op.equal T (.slice none 0 c) (.slice none 0 0)).run P w = .ok true w := run_equal hu rfl
          exact ⟨true, by simp [execOp, Sem.run_bind, hg, h1, e2, binOp, hq], fun _ => rfl⟩
        | some a =>
          have hq : (Op.equal T (.slice (some a) 0 c) (.slice none 0 0)).run P w = .ok false w := run_equal hu rfl
          exact ⟨false, by simp [execOp, Sem.run_bind, hg, h1, e2, binOp, hq], fun _ => rfl⟩
      · have hq : (Op.equal T (.slice (some ⟨bb, o, none⟩) rows.length c) (.slice none 0 0)).run P w = .ok false w := run_equal hu rfl
        exact ⟨false, by simp [execOp, Sem.run_bind, hg, h1, e2, binOp, hq], fun h => by cases h⟩
    obtain ⟨b, hb, hr⟩ := key
    exact ⟨_, w, .p (.bool b), H, F, hb, ⟨⟨b, rfl, hr⟩, rfl⟩, .refl, hH, by simp [Rep, PRep]⟩
end
end Go.Abs
/- The abstract program logic: structs of two numbers, compared. -/
namespace Go.Abs
set_option linter.unusedVariables false
set_option linter.unusedSimpArgs false
/-- A struct of two ints. -/
def twoInts (P : Program) (T : TypeId) : Bool :=
  match P.underlying T with
  | some (.struct fs) => match fs.toList with
    | [f, g] => f.name != "_" && g.name != "_" && Nat.beq f.offset 0 && Nat.beq g.offset 1 && (match P.underlying f.type, P.underlying g.type with | some (.int .i64), some (.int .i64) => true | _, _ => false) && !P.stoodInHeld T && !P.eqGuardType P.depth T
    | _ => false
  | _ => false

theorem run_equal2 {P : Program} {T : TypeId} {a b c d : Int} {w : World} (h : twoInts P T = true) : (Op.equal T (.agg #[.int .i64 a, .int .i64 b]) (.agg #[.int .i64 c, .int .i64 d])).run P w = .ok (a == c && b == d) w := by
  unfold twoInts at h
  split at h
  · rename_i fs hu
    split at h
    · rename_i f g hfs
      obtain rfl : fs = #[f, g] := by apply Array.ext'; simpa using hfs
      simp only [Bool.and_eq_true, bne_iff_ne, ne_eq, Bool.not_eq_true'] at h
      obtain ⟨⟨⟨⟨⟨⟨h1, h2⟩, h3⟩, h4⟩, h5⟩, h6⟩, h7⟩ := h
      split at h5
      · rename_i hf hg
        have e3 := Nat.eq_of_beq_eq_true h3
        have e4 := Nat.eq_of_beq_eq_true h4
        have hp : (program).run P w = .ok P w := rfl
        have af : (isAgg f.type).run P w = .ok false w := isRow_agg hf false rfl w
        have ag : (isAgg g.type).run P w = .ok false w := isRow_agg hg false rfl w
        have pf : ∀ x y, (part f.type #[.int .i64 x, .int .i64 y] f.offset).run P w = .ok (.int .i64 x) w := by
          intro x y; unfold part; simp [Sem.run_bind, af, e3]
        have pg : ∀ x y, (part g.type #[.int .i64 x, .int .i64 y] g.offset).run P w = .ok (.int .i64 y) w := by
          intro x y; unfold part; simp [Sem.run_bind, ag, e4]
        have qf : ∀ x y, (Op.equalIn 9999 f.type (.int .i64 x) (.int .i64 y)).run P w = .ok (x == y) w := by
          intro x y; rw [show (9999 : Nat) = 9998 + 1 from rfl]; unfold Op.equalIn; simp [Sem.run_bind, run_underlying hf]
        have qg : ∀ x y, (Op.equalIn 9999 g.type (.int .i64 x) (.int .i64 y)).run P w = .ok (x == y) w := by
          intro x y; rw [show (9999 : Nat) = 9998 + 1 from rfl]; unfold Op.equalIn; simp [Sem.run_bind, run_underlying hg]
        unfold Op.equal
        rw [show Op.maxDepth = 9999 + 1 from rfl]
        unfold Op.equalIn
        simp only [Sem.run_bind, run_underlying hu, Result.andThen_ok, hp, h6]
        simp [Sem.run_bind, h1, h2, pf, pg, qf, qg]
        cases hac : (a == c) <;> cases hbd : (b == d) <;> simp_all [Sem.run_bind, h1, h2, pf, pg, qf, qg]
      · cases h5
    · cases h
  · cases h

section
variable {P : Program} {dst : Option Tmp} {ty : TypeId} {pos : String} {aft : Array Edge} {g : Option (Nat × Bool)} {ρ : Operand → AV} {H : List HObj} {x y z : Operand} {v : AV}
theorem aop_twoNe {T U : TypeId} {a b c d : Int} (h : twoInts P T = true) (hx : ρ x = .agg [.p (.int .i64 a), .p (.int .i64 b)]) (hy : ρ y = .agg [.p (.int .i64 c), .p (.int .i64 d)]) : AOp P ⟨dst, .binOp .neq T x y U, ty, pos, aft, g⟩ ρ H (.p (.bool (!(a == c && b == d)))) H :=
  aop_pure fun F w E hH hE => by
    have e1 := hE x (by simp [Op.operands])
    have e2 := hE y (by simp [Op.operands])
    rw [hx] at e1
    rw [hy] at e2
    simp only [Rep, RepL, PRep] at e1 e2
    obtain ⟨vs, e1, u1, us1, rfl, rfl, u2, us2, rfl, rfl, rfl⟩ := e1
    obtain ⟨vs', e2, v1, vs1, rfl, rfl, v2, vs2, rfl, rfl, rfl⟩ := e2
    refine ⟨.bool (!(a == c && b == d)), ?_, by simp [Rep, PRep]⟩
    have hq := run_equal2 (P := P) (T := T) (a := a) (b := b) (c := c) (d := d) (w := w) h
    have h' := h
    have hg : (eqGuard .neq T x y (.agg #[.int .i64 a, .int .i64 b]) (.agg #[.int .i64 c, .int .i64 d])).run P w = .ok () w := by
      unfold twoInts at h'
      split at h'
      · split at h'
        · simp only [Bool.and_eq_true, Bool.not_eq_true'] at h'
          have h7 := h'.2
          have hp : (program).run P w = .ok P w := rfl
          unfold eqGuard
          simp [Sem.run_bind, hp, h7]
        · cases h'
      · cases h'
    simp [execOp, Sem.run_bind, hg, e1, e2, binOp, hq]
end

/-- A loop that counts up to N, with a fact C. -/
theorem awp_forC {P : Program} {r : Option Nat} {c : Code} {S : AState} {Q : AExit → AState → Prop} (N : Nat) (C : Nat → Prop) (St : Nat → AState) (i₀ : Nat) (h₀ : i₀ ≤ N) (hC : C i₀) (l : Le S (St i₀))
    (round : ∀ i, i ≤ N → C i → AWp P r c (St i) (thenQ (fun S' => i < N ∧ C (i + 1) ∧ Le S' (St (i + 1))) Q)) : AWp P r (.loop c) S Q := by
  refine awp_loop (fun m S => ∃ i, i ≤ N ∧ m = N - i ∧ C i ∧ S = St i) (m := N - i₀) l ⟨i₀, h₀, rfl, hC, rfl⟩ ?_
  rintro m S ⟨i, hi, rfl, hc, rfl⟩
  refine (round i hi hc).mono ?_
  intro e S' h
  cases e with
  | normal =>
    obtain ⟨h1, h2, h3⟩ := h
    exact ⟨N - (i + 1), St (i + 1), by omega, h3, i + 1, by omega, rfl, h2, rfl⟩
  | exit id => exact h
  | ret => exact h
  | panic v => exact h

/-- A loop over states of a kind. -/
theorem awp_while {α : Type} {P : Program} {r : Option Nat} {c : Code} {S : AState} {Q : AExit → AState → Prop} (St : α → AState) (μ : α → Nat) (C : α → Prop) (a₀ : α) (hC : C a₀) (l : Le S (St a₀))
    (round : ∀ a, C a → AWp P r c (St a) (thenQ (fun S' => ∃ a', μ a' < μ a ∧ C a' ∧ Le S' (St a')) Q)) : AWp P r (.loop c) S Q := by
  refine awp_loop (fun m S => ∃ a, m = μ a ∧ C a ∧ S = St a) (m := μ a₀) l ⟨a₀, rfl, hC, rfl⟩ ?_
  rintro m S ⟨a, rfl, hc, rfl⟩
  refine (round a hc).mono ?_
  intro e S' h
  cases e with
  | normal =>
    obtain ⟨a', h1, h2, h3⟩ := h
    exact ⟨μ a', St a', h1, h3, a', rfl, h2, rfl⟩
  | exit id => exact h
  | ret => exact h
  | panic v => exact h

/-- Sums and differences that may wrap. -/
abbrev wr (n : Int) : Int := IntKind.i64.wrap n
section
variable {P : Program} {dst : Option Tmp} {ty : TypeId} {pos : String} {aft : Array Edge} {g : Option (Nat × Bool)} {ρ : Operand → AV} {H : List HObj} {x y z : Operand} {v : AV}
theorem aop_addw {m n : Int} {T U : TypeId} (hx : ρ x = .p (.int .i64 m)) (hy : ρ y = .p (.int .i64 n)) : AOp P ⟨dst, .binOp .add T x y U, ty, pos, aft, g⟩ ρ H (.p (.int .i64 (wr (m + n)))) H :=
  aop_pure fun F w E hH hE => by
    have e1 := hE x (by simp [Op.operands])
    have e2 := hE y (by simp [Op.operands])
    rw [hx] at e1
    rw [hy] at e2
    simp only [Rep, PRep] at e1 e2
    exact ⟨.int .i64 (wr (m + n)), by simp [execOp, Sem.run_bind, eqGuard_int, e1, e2, binOp, Op.intArith], by simp [Rep, PRep]⟩
theorem aop_subw {m n : Int} {T U : TypeId} (hx : ρ x = .p (.int .i64 m)) (hy : ρ y = .p (.int .i64 n)) : AOp P ⟨dst, .binOp .sub T x y U, ty, pos, aft, g⟩ ρ H (.p (.int .i64 (wr (m - n)))) H :=
  aop_pure fun F w E hH hE => by
    have e1 := hE x (by simp [Op.operands])
    have e2 := hE y (by simp [Op.operands])
    rw [hx] at e1
    rw [hy] at e2
    simp only [Rep, PRep] at e1 e2
    exact ⟨.int .i64 (wr (m - n)), by simp [execOp, Sem.run_bind, eqGuard_int, e1, e2, binOp, Op.intArith], by simp [Rep, PRep]⟩
end

/-  Pure calls of which not all is said -/
def relV (R : AV → Prop) : ARes → List HObj → Prop
  | .val v, H' => R v ∧ H' = []
  | .panic _, _ => False
/-- A function that returns something of R. -/
abbrev FunR (P : Program) (f : FuncId) (args : List AV) (R : AV → Prop) : Prop := ACalls P f args [] (relV R)
def keepV (R : AV → Prop) (H : List HObj) : ARes → List HObj → Prop
  | .val v, H' => R v ∧ H' = H
  | .panic _, _ => False
section
variable {P : Program} {r : Option Nat} {ops : Array Oper} {Q : AExit → AState → Prop} {k : Nat} {n : Nat} {τ : Nat → AV} {H H' : List HObj} {D : List ADef} {dst : Option Tmp} {op : Op} {ty : TypeId} {pos : String} {aft : Array Edge} {g : Option (Nat × Bool)} {v : AV}
theorem aop_funR {c : Call} {f : Operand} {fid : FuncId} {ρ : Operand → AV} {A : List AV} {R : AV → Prop} (hc : c.callee = .value f) (hf : ρ f = .p (.fn fid)) (h : FunR P fid A R) (hA : c.args.toList.map ρ = A ∨ (c.args.toList.map ρ).map norm = A) :
    AOpR P ⟨dst, .call c, ty, pos, aft, g⟩ ρ H (keepV R H) := by
  refine (aop_call (H := H) (Hs := []) (Hf := H) (first := []) (caps := []) hc (.inl ⟨hf, rfl, rfl⟩) (A := A) (by simp) h (by simpa using hA)).mono ?_
  rintro r H' ⟨Hs', h1, rfl⟩
  cases r with
  | val v' => obtain ⟨h1, rfl⟩ := h1; exact ⟨h1, rfl⟩
  | panic v' => exact h1
theorem al_rel {R : AV → Prop} (ho : ops[k]? = some ⟨dst, op, ty, pos, aft, none⟩) (hd : dstB dst n = true) (h : AOpR P ⟨dst, op, ty, pos, aft, none⟩ (ev τ) H (keepV R H))
    (next : ∀ v, R v → AL P r ops (k + 1) ⟨n, put τ dst v, H, D⟩ Q) : AL P r ops k ⟨n, τ, H, D⟩ Q :=
  al_stepR (S := ⟨n, τ, H, D⟩) ho (by simp [Wants]) (dst_ok hd) h (fun v H' ⟨h1, h2⟩ => by subst h2; exact next v h1) (fun _ _ h => h.elim)
theorem al_relg {R : AV → Prop} {j d : Nat} {want : Bool} (ho : ops[k]? = some ⟨dst, op, ty, pos, aft, some (j, want)⟩) (hd : dstB dst n = true) (hj : (ops[j]?).bind (·.dst) = some d) (hb : τ d = .p (.bool want)) (h : AOpR P ⟨dst, op, ty, pos, aft, some (j, want)⟩ (ev τ) H (keepV R H))
    (next : ∀ v, R v → AL P r ops (k + 1) ⟨n, put τ dst v, H, D⟩ Q) : AL P r ops k ⟨n, τ, H, D⟩ Q :=
  al_stepR (S := ⟨n, τ, H, D⟩) ho (by simp only [Wants]; exact ⟨d, hj, hb⟩) (dst_ok hd) h (fun v H' ⟨h1, h2⟩ => by subst h2; exact next v h1) (fun _ _ h => h.elim)
end
section
variable {P : Program} {ops : Array Oper} {n : Nat} {τ₀ : Nat → AV} {D : List ADef} {Q : AExit → AState → Prop} {opn : Nat → Bool} {k : Nat} {τ : Nat → AV} {H : List HObj} {rd : Rds} {ef : Efs} {effs : List Bool} {fx : List (Nat × Sp)} {dst : Option Tmp} {op : Op} {ty : TypeId} {pos : String} {aft : Array Edge}
theorem dr_rel {R : AV → Prop} (fx' : List (Nat × Sp)) (ho : ops[k]? = some ⟨dst, op, ty, pos, aft, none⟩) (hn : opn k = true) (h : AOpR P ⟨dst, op, ty, pos, aft, none⟩ (ev τ) H (keepV R H)) (haft : allAfter ops k (fx'.map (·.1)) = true) (hne : ∃ v, R v) (owe : OweR ops k H H rd)
    (next : ∀ v, R v → FxAt k (.eff v H) fx ∧ Dr P ops n τ₀ D Q opn (k + 1) (put τ dst v) H rd ((k, H, H) :: ef) (true :: effs) (fx' ++ fx)) : Dr P ops n τ₀ D Q opn k τ H rd ef effs fx :=
  dr_open fx' ho hn h haft (let ⟨v, hv⟩ := hne; ⟨v, H, hv, rfl⟩) (fun _ _ h => h.elim) (fun v H' ⟨h1, h2⟩ => by subst h2; exact ⟨owe, next v h1⟩)
end

/-- Code whose ways meet again behind it: of one slot something is known; the live slots are as they were. -/
theorem awp_meetR {P : Program} {r : Option Nat} {c : Code} {Q : AExit → AState → Prop} {n : Nat} {τ : Nat → AV} {H : List HObj} {D : List ADef} (live : List Nat) (d : Nat) (R : AV → Prop) (h : AWp P r c ⟨n, τ, H, D⟩ (thenQ (fun S' => S'.n = n ∧ S'.D = D ∧ H.Sublist S'.H ∧ R (S'.τ d) ∧ Same S'.τ τ live) Q))
    (next : ∀ x, R x → Q .normal ⟨n, mk ((d, x) :: live.map fun t => (t, τ t)), H, D⟩) : AWp P r c ⟨n, τ, H, D⟩ Q := by
  intro F a w hs
  refine wpIn_mono (h F a w hs) ?_
  rintro e a' w' ⟨e', S', F', hq, he, hs', ht⟩
  cases e' with
  | normal =>
    obtain ⟨n', τ', H', D'⟩ := S'
    obtain ⟨h1, h3, h2, h4, h5⟩ := hq
    simp only at h1 h2 h3 h4 h5
    subst h1; subst h3
    have l : Le ⟨n', τ', H', D'⟩ ⟨n', mk ((d, τ' d) :: live.map fun t => (t, τ t)), H, D'⟩ := le_mk ⟨rfl, same_agrees h5⟩ h2
    exact ⟨.normal, _, F', next _ h4, he, hs'.le l, ht.sublist h2⟩
  | exit id => exact ⟨.exit id, S', F', hq, he, hs', ht⟩
  | ret => exact ⟨.ret, S', F', hq, he, hs', ht⟩
  | panic v => exact ⟨.panic v, S', F', hq, he, hs', ht⟩
def someB (v : AV) : Prop := ∃ b : Bool, v = .p (.bool b)
def someI (v : AV) : Prop := ∃ e : Int, v = .p (.int .i64 e)
end Go.Abs
/- Terms as plain data: equality, depth. -/
namespace Go.Eu
open Go.Abs
noncomputable def eqB {α : Type} (a b : α) : Bool := @decide (a = b) (Classical.propDecidable _)
theorem eqB_true {α : Type} {a b : α} (h : a = b) : eqB a b = true := by simp [eqB, h]
theorem eqB_false {α : Type} {a b : α} (h : a ≠ b) : eqB a b = false := by simp [eqB, h]
theorem eqB_iff {α : Type} {a b : α} : eqB a b = true ↔ a = b := by simp [eqB]
abbrev LV (l : Lvl) : AV := .agg ((encL l).map .p)
abbrev TsV (ts : List Tm) : AV := .p (.lst (encTs ts))
abbrev LsV (ls : List Lvl) : AV := .p (.lst (ls.map encL))
theorem encV_get {ts : List LVar} {i : Nat} {t : LVar} (h : ts[i]? = some t) : (ts.map encV)[i]? = some (encV t) := by simp [h]
theorem encL_get {ts : List Lvl} {i : Nat} {t : Lvl} (h : ts[i]? = some t) : (ts.map encL)[i]? = some (encL t) := by simp [h]
/-- The first i elements agree. -/
def agree {α : Type} (a b : List α) (i : Nat) : Prop := a.take i = b.take i
theorem agree_zero {α : Type} (a b : List α) : agree a b 0 := by simp [agree]
theorem agree_succ {α : Type} {a b : List α} {i : Nat} {x : α} (h : agree a b i) (ha : a[i]? = some x) (hb : b[i]? = some x) : agree a b (i + 1) := by
  unfold agree at *
  rw [List.take_add_one, List.take_add_one, ha, hb, h]
theorem agree_all {α : Type} {a b : List α} {n : Nat} (h : agree a b n) (ha : a.length = n) (hb : b.length = n) : a = b := by
  unfold agree at h
  rwa [List.take_of_length_le (by omega), List.take_of_length_le (by omega)] at h
theorem getElem?_of_lt {α : Type} {l : List α} {i : Nat} (h : i < l.length) : ∃ x, l[i]? = some x := ⟨_, List.getElem?_eq_getElem h⟩

/-- A bound that no program comes near. -/
abbrev big : Nat := 1099511627776
/-- An int64. -/
def rng (n : Int) : Prop := -9223372036854775808 ≤ n ∧ n ≤ 9223372036854775807
structure NdL (l : Lvl) : Prop where
  vars : l.vars.length < big
mutual
/-- The lists and names of a term are shorter than 'big'. -/
def Nd : Tm → Prop
  | .mk k i n ls ks => n.size < big ∧ ls.length < big ∧ (∀ l ∈ ls, NdL l) ∧ ks.length < big ∧ Nds ks ∧ rng k ∧ rng i
def Nds : List Tm → Prop
  | [] => True
  | t :: ts => Nd t ∧ Nds ts
end
theorem Nds_mem : ∀ {ts : List Tm} {i : Nat} {t : Tm}, Nds ts → ts[i]? = some t → Nd t
  | [], i, t, _, h => by simp at h
  | a :: ts, 0, t, hn, h => by simp at h; subst h; exact hn.1
  | a :: ts, i + 1, t, hn, h => by simp at h; exact Nds_mem hn.2 h
mutual
def depth : Tm → Nat
  | .mk _ _ _ _ ks => depths ks + 1
def depths : List Tm → Nat
  | [] => 0
  | t :: ts => max (depth t) (depths ts)
end
mutual
theorem depth_le_size : ∀ t : Tm, depth t ≤ size t
  | .mk _ _ _ _ ks => by simp only [depth, size]; have := depths_le_sizes ks; omega
theorem depths_le_sizes : ∀ ts : List Tm, depths ts ≤ sizes ts
  | [] => by simp [depths]
  | t :: ts => by simp only [depths, sizes]; have := depth_le_size t; have := depths_le_sizes ts; omega
end
end Go.Eu
namespace Go.Eu
theorem bytes_toList_loop (bs : ByteArray) : ∀ (d i : Nat) (r : List UInt8), bs.size - i = d → ByteArray.toList.loop bs i r = r.reverse ++ bs.data.toList.drop i := by
  intro d
  induction d with
  | zero =>
    intro i r h
    unfold ByteArray.toList.loop
    have : ¬ i < bs.size := by omega
    simp only [this, if_false]
    rw [List.drop_eq_nil_of_le (by have : bs.data.size = bs.size := rfl; simp; omega)]; simp
  | succ d ih =>
    intro i r h
    unfold ByteArray.toList.loop
    have hi : i < bs.size := by omega
    simp only [hi, if_true]
    rw [ih (i + 1) _ (by omega)]
    have hlt : i < bs.data.toList.length := by have : bs.data.size = bs.size := rfl; simp; omega
    rw [List.drop_eq_getElem_cons hlt]
    have : bs.get! i = bs.data.toList[i] := by
      have h2 : i < bs.data.size := by simpa using hlt
      show bs.data[i]! = _
      rw [getElem!_pos bs.data i h2]; simp
    simp [this]
theorem bytes_toList (bs : ByteArray) : bs.toList = bs.data.toList := by
  unfold ByteArray.toList
  rw [bytes_toList_loop bs _ 0 [] rfl]; simp
theorem bytes_eq {a b : ByteArray} (h : a.toList = b.toList) : a = b := by
  rw [bytes_toList, bytes_toList] at h
  cases a; cases b
  simp at h
  congr
end Go.Eu

namespace Go.Eu
open Go.Abs
mutual
def nodesT : Tm → Int → Int
  | .mk _ _ _ _ ks, most => nodesL ks most 0
def nodesL : List Tm → Int → Int → Int
  | [], _, n => n
  | t :: ts, most, n => if n > most then n else nodesL ts most (wr (n + wr (1 + nodesT t (wr (most - n)))))
end
theorem nodesL_at {l : List Tm} {i : Nat} {t : Tm} {most n : Int} (h : l[i]? = some t) : nodesL (l.drop i) most n = if n > most then n else nodesL (l.drop (i + 1)) most (wr (n + wr (1 + nodesT t (wr (most - n))))) := by
  have hlt : i < l.length := (List.getElem?_eq_some_iff.1 h).1
  rw [List.drop_eq_getElem_cons hlt]
  have : l[i] = t := by simpa [List.getElem?_eq_getElem hlt] using h
  rw [this, nodesL]
end Go.Eu
namespace Go.Eu
/-- How many kids a kind has. -/
def arity (k : Int) : Int := if k = 4 ∨ k = 5 ∨ k = 6 ∨ k = 7 then 2 else if k = 8 ∨ k = 11 then 3 else if k = 9 ∨ k = 10 then 1 else 0
def below (k i : Int) : Int := if ((i == 1 && (k == 5 || k == 6 || k == 7)) || (i == 2 && k == 11)) = true then 1 else 0
end Go.Eu
namespace Go.Eu
/-- What 'form' has seen. -/
def formOk : Tm → Prop
  | .mk kd _ _ _ ks => 0 ≤ kd ∧ kd < 13 ∧ (ks.length : Int) = arity kd
end Go.Eu

namespace Go.Eu
mutual
/-- A term that 'check' accepts below 'd' binders. -/
def wf (vars metas : Int) : Int → Tm → Prop
  | d, .mk kd ix _ _ ks => 0 ≤ kd ∧ kd < 13 ∧ (ks.length : Int) = arity kd ∧ (kd = 0 → 0 ≤ ix ∧ ix - d < vars) ∧ (kd = 12 → 0 ≤ ix ∧ ix < metas) ∧ wfs vars metas kd d 0 ks
def wfs (vars metas : Int) : Int → Int → Nat → List Tm → Prop
  | _, _, _, [] => True
  | kd, d, i, t :: ts => wf vars metas (d + below kd i) t ∧ wfs vars metas kd d (i + 1) ts
end
end Go.Eu
namespace Go.Eu
theorem wfs_of {vars metas kd d : Int} : ∀ {ks : List Tm} {i : Nat}, (∀ j t, ks[j]? = some t → wf vars metas (d + below kd ((i + j : Nat) : Int)) t) → wfs vars metas kd d i ks
  | [], i, _ => by simp [wfs]
  | t :: ts, i, h => by
    simp only [wfs]
    exact ⟨by have := h 0 t rfl; simpa using this, wfs_of fun j t' ht => by have := h (j + 1) t' (by simpa using ht); rw [show i + 1 + j = i + (j + 1) by omega]; exact this⟩
theorem below_le (k i : Int) : 0 ≤ below k i ∧ below k i ≤ 1 := by unfold below; split <;> omega
end Go.Eu
namespace Go.Eu
theorem upto_succ {α : Type} {l : List α} {p : Nat → α → Prop} {i : Nat} {x : α} (h : ∀ j, j < i → ∀ t, l[j]? = some t → p j t) (hx : l[i]? = some x) (hp : p i x) : ∀ j, j < i + 1 → ∀ t, l[j]? = some t → p j t := by
  intro j hj t ht
  rcases Nat.lt_or_ge j i with h' | h'
  · exact h j h' t ht
  · have e : j = i := by omega
    subst e
    rw [hx] at ht
    injection ht with ht
    subst ht
    exact hp
end Go.Eu
/- The abstract program logic: forms of the rules for generated proofs. -/
namespace Go.Abs
set_option linter.unusedVariables false
set_option linter.unusedSimpArgs false

/-  Parts of a list by their places -/
section
variable {α : Type}
def subAt (is : List Nat) : Nat → List α → List α
  | _, [] => []
  | k, a :: l => bif is.any (Nat.beq k ·) then a :: subAt is (k + 1) l else subAt is (k + 1) l
theorem subAt_sub (is : List Nat) : ∀ (k : Nat) (l : List α), (subAt is k l).Sublist l
  | _, [] => List.Sublist.refl _
  | k, a :: l => by
    simp only [subAt]
    cases is.any (Nat.beq k ·)
    · exact (subAt_sub is (k + 1) l).cons _
    · exact (subAt_sub is (k + 1) l).cons_cons _
theorem subl {is : List Nat} {l l' : List α} (h : subAt is 0 l = l') : l'.Sublist l := h ▸ subAt_sub is 0 l

def GetAll (H : List α) : List Nat → List α → Prop
  | [], xs => xs = []
  | i :: is, xs => ∃ x xs', xs = x :: xs' ∧ H[i]? = some x ∧ GetAll H is xs'
def sets (H : List α) : List Nat → List α → List α
  | i :: is, x :: xs => sets (H.set i x) is xs
  | _, _ => H
def dropIdx (is : List Nat) : Nat → List α → List α
  | _, [] => []
  | k, a :: l => if k ∈ is then dropIdx is (k + 1) l else a :: dropIdx is (k + 1) l
theorem dropIdx_nil : ∀ (k : Nat) (l : List α), dropIdx [] k l = l
  | _, [] => rfl
  | k, a :: l => by simp [dropIdx, dropIdx_nil (k + 1) l]
theorem dropIdx_low {is : List Nat} {j : Nat} : ∀ (k : Nat) (l : List α), j < k → dropIdx (j :: is) k l = dropIdx is k l
  | _, [], _ => rfl
  | k, a :: l, h => by
    have : k ≠ j := by omega
    have ih := dropIdx_low (is := is) (j := j) (k + 1) l (by omega)
    simp [dropIdx, this, ih]
theorem dropIdx_cons {is : List Nat} {x : α} : ∀ (l : List α) (k i : Nat), l[i]? = some x → (k + i) ∉ is → (dropIdx is k l).Perm (x :: dropIdx ((k + i) :: is) k l)
  | [], k, i, h, _ => by simp at h
  | a :: l, k, 0, h, hn => by
    simp at h hn; subst h
    simp [dropIdx, hn, dropIdx_low (k + 1) l (Nat.lt_succ_self k)]
  | a :: l, k, i + 1, h, hn => by
    simp at h
    have ih := dropIdx_cons l (k + 1) i h (by rw [show k + 1 + i = k + (i + 1) by omega]; exact hn)
    rw [show k + 1 + i = k + (i + 1) by omega] at ih
    have hk : k ≠ k + (i + 1) := by omega
    simp only [dropIdx, List.mem_cons, hk, false_or]
    split
    · exact ih
    · exact (ih.cons a).trans (.swap _ _ _)
theorem getAll_perm {H : List α} : ∀ {is : List Nat} {xs : List α}, is.Nodup → GetAll H is xs → H.Perm (xs ++ dropIdx is 0 H)
  | [], xs, _, h => by simp only [GetAll] at h; subst h; simp [dropIdx_nil]
  | i :: is, xs, hn, h => by
    obtain ⟨x, xs', rfl, hx, hr⟩ := h
    have hn' := List.nodup_cons.1 hn
    have ih := getAll_perm hn'.2 hr
    have := dropIdx_cons (is := is) H 0 i hx (by simpa using hn'.1)
    simp only [Nat.zero_add] at this
    refine ih.trans ?_
    refine ((List.Perm.refl xs').append this).trans ?_
    exact List.perm_middle
theorem dropIdx_set {is : List Nat} {y : α} : ∀ (l : List α) (k i : Nat), (k + i) ∈ is → dropIdx is k (l.set i y) = dropIdx is k l
  | [], k, i, _ => by simp
  | a :: l, k, 0, h => by simp at h; simp [dropIdx, h]
  | a :: l, k, i + 1, h => by
    have := dropIdx_set (y := y) l (k + 1) i (by rw [show k + 1 + i = k + (i + 1) by omega]; exact h)
    simp only [List.set_cons_succ, dropIdx, this]
theorem getAll_set {i : Nat} {y : α} : ∀ {is : List Nat} {xs H : List α}, i ∉ is → GetAll H is xs → GetAll (H.set i y) is xs
  | [], xs, H, _, h => h
  | j :: is, xs, H, hn, h => by
    obtain ⟨x, xs', rfl, hx, hr⟩ := h
    simp at hn
    exact ⟨x, xs', rfl, by rw [List.getElem?_set_ne hn.1]; exact hx, getAll_set hn.2 hr⟩
theorem sets_spec : ∀ {is : List Nat} {xs xs' H : List α}, is.Nodup → GetAll H is xs → xs'.length = xs.length → GetAll (sets H is xs') is xs' ∧ (∀ ks k, (∀ i ∈ is, k + i ∈ ks) → dropIdx ks k (sets H is xs') = dropIdx ks k H) ∧ ∀ j, j ∉ is → (sets H is xs')[j]? = H[j]?
  | [], xs, xs', H, _, h, hl => by
    simp only [GetAll] at h; subst h
    have : xs' = [] := by simpa using hl
    subst this
    exact ⟨rfl, fun _ _ _ => rfl, fun _ _ => rfl⟩
  | i :: is, xs, xs', H, hn, h, hl => by
    obtain ⟨x, xr, rfl, hx, hr⟩ := h
    have hn' := List.nodup_cons.1 hn
    cases xs' with
    | nil => simp at hl
    | cons y ys =>
      have hlt : i < H.length := (List.getElem?_eq_some_iff.1 hx).1
      obtain ⟨h1, h2, h3⟩ := sets_spec (H := H.set i y) hn'.2 (getAll_set hn'.1 hr) (by simpa using hl)
      refine ⟨⟨y, ys, rfl, by rw [sets, h3 i hn'.1]; simp [hlt], h1⟩, fun ks k hk => ?_, fun j hj => ?_⟩
      · rw [sets, h2 ks k (fun q hq => hk q (by simp [hq])), dropIdx_set _ _ _ (hk i (by simp))]
      · simp at hj
        rw [sets, h3 j hj.2, List.getElem?_set_ne (fun e => hj.1 e.symm)]
theorem sets_perm {is : List Nat} {xs xs' H : List α} (hn : is.Nodup) (h : GetAll H is xs) (hl : xs'.length = xs.length) : (sets H is xs').Perm (xs' ++ dropIdx is 0 H) := by
  obtain ⟨h1, h2, _⟩ := sets_spec hn h hl
  have := getAll_perm hn h1
  rwa [h2 is 0 (fun i hi => by simpa using hi)] at this
end

def AllAt (τ : Nat → AV) (x : AV) : List Nat → Prop
  | [] => True
  | t :: r => τ t = x ∧ AllAt τ x r
theorem memall {τ : Nat → AV} {x : AV} : ∀ {ts : List Nat}, AllAt τ x ts → ∀ t ∈ ts, τ t = x
  | [], _, t, h => by simp at h
  | a :: r, h, t, ht => by
    rcases List.mem_cons.1 ht with rfl | ht
    · exact h.1
    · exact memall h.2 t ht

/-  Results that lie in cells -/
section
variable {P : Program} {S : AState} {a T n b i : Nat} {cs : List AV} {v : AV}
theorem resv_row (hT : tyOf P T = some (true, n)) (ha : S.τ a = .ptr b 0) (hi : S.H[i]? = some (.box b cs)) (hn : cs.length = n) : ResV P S (.cell a T) (.agg cs) := by
  obtain ⟨d, h1, h2, h3⟩ := tyOf_spec hT
  exact ⟨b, cs, i, ha, hi, .inl ⟨d, h1, h2, by rw [h3, hn], rfl⟩⟩
theorem resv_one (hT : tyOf P T = some (false, n)) (ha : S.τ a = .ptr b 0) (hi : S.H[i]? = some (.box b [v])) : ResV P S (.cell a T) v := by
  obtain ⟨d, h1, h2, h3⟩ := tyOf_spec hT
  exact ⟨b, [v], i, ha, hi, .inr ⟨d, h1, h2, rfl⟩⟩
end

/-  Calls that change tracked objects -/
section
variable {P : Program} {dst : Option Tmp} {ty : TypeId} {pos : String} {aft : Array Edge} {g : Option (Nat × Bool)} {ρ : Operand → AV} {H Hs Hs' : List HObj} {x y z : Operand} {v : AV} {c : Call} {f : Operand} {fid : FuncId} {first caps A : List AV}
theorem AOpR.permD {o : Oper} {H H' H'' : List HObj} (h : AOp P o ρ H v H') (hp : H'.Perm H'') : AOp P o ρ H v H'' := by
  intro r F S a w hs hH hρ hd
  have := h r F S a w hs hH hρ hd
  refine oper_mono this ?_ ?_
  · rintro a' w' ⟨v', H1, F', ⟨rfl, rfl⟩, hs', ht⟩
    exact ⟨v', H'', F', ⟨rfl, rfl⟩, ⟨hs'.size, hs'.tmp, hs'.heap.perm hp, hs'.defs⟩, { ht with keys := fun o ho => ht.keys o (hp.mem_iff.2 ho) }⟩
  · rintro e a' w' ⟨v', H1, F', u, h, _⟩
    exact h.elim
theorem aop_retn (is : List Nat) (hc : c.callee = .value f) (hf : (ρ f = .p (.fn fid) ∧ first = [] ∧ caps = []) ∨ ρ f = .fn (.func fid) first caps) (h : ACalls P fid A Hs (retR v Hs')) (hg : GetAll H is Hs) (hn : is.Nodup) (hl : Hs'.length = Hs.length) (hA : first ++ c.args.toList.map ρ ++ caps = A ∨ (first ++ c.args.toList.map ρ ++ caps).map norm = A) :
    AOp P ⟨dst, .call c, ty, pos, aft, g⟩ ρ H v (sets H is Hs') :=
  AOpR.permD (aop_ret hc hf (getAll_perm hn hg) h hA) (sets_perm hn hg hl).symm
theorem aop_append2 {T T2 e e2 : TypeId} {sz bytes n2 n3 c i n : Nat} {o : Option Nat} {rows rows' rows2 : List (List PV)} {zv : Value} (hT : elOf P T = some (e, sz, bytes)) (hT2 : elOf P T2 = some (e2, n2, n3)) (hz : zeroOf P e = some zv) (hzs : zv.cells.size = sz) (hb0 : (Nat.blt 0 sz && Nat.blt 0 bytes) = true)
    (hx : ρ x = .vs o n c) (hn : n = rows.length) (hi : H[i]? = some (.vec o sz rows c)) (hy : norm (ρ y) = .p (.lst rows')) (hsol : ∀ r ∈ rows', Solid sz r) (hroom : 2 * (rows.length + rows'.length) * bytes ≤ 281474976710656) (h2 : rows ++ rows' = rows2) :
    AOpR P ⟨dst, .call { callee := .builtin .append, args := #[x, y], argTypes := #[T, T2] }, ty, pos, aft, g⟩ ρ H (appendR i sz rows2 H) := by
  subst h2; exact aop_append hT hT2 hz hzs hb0 hx hn hi hy hsol hroom
theorem rep_vs0 {F : Nat → Prop} {w : World} {u : Value} (h : Rep F w (.p .nils) u) : Rep F w (.vs none 0 0) u := by
  simp only [Rep, PRep] at *
  exact ⟨trivial, trivial, none, h⟩
theorem splice_all {α : Type} : ∀ {us cs : List α}, us.length = cs.length → splice cs 0 us = us := by
  have key : ∀ (us : List α) (pre cs : List α), us.length = cs.length → splice (pre ++ cs) pre.length us = pre ++ us := by
    intro us
    induction us with
    | nil => intro pre cs h; have : cs = [] := by simpa using h.symm
             subst this; simp [splice]
    | cons u us ih =>
      intro pre cs h
      cases cs with
      | nil => simp at h
      | cons c cs =>
        simp only [splice]
        have := ih (pre ++ [u]) cs (by simpa using h)
        have e : (pre ++ c :: cs).set pre.length u = pre ++ [u] ++ cs := by simp
        rw [e]
        simpa using this
  intro us cs h
  exact key us [] cs h
theorem aop_store_whole {T : TypeId} {bl : Bool} {n b i : Nat} {cs us : List AV} (hT : tyOf P T = some (bl, n + 1)) (hx : ρ x = .ptr b 0) (hi : H[i]? = some (.box b cs)) (hy : cellsA (ρ y) = some us) (hn : us.length = n + 1)
    (ho : cs.length = n + 1) (h1 : us.all one = true) : AOp P ⟨dst, .store T x y, ty, pos, aft, g⟩ ρ H (.p .any) (H.set i (.box b us)) := by
  have := aop_store_box (P := P) (dst := dst) (ty := ty) (pos := pos) (aft := aft) (g := g) hT hx hi hy hn (by rw [ho]; simp) h1
  rwa [splice_all (by rw [hn, ho])] at this
theorem aop_store_vec2 {T : TypeId} {bl : Bool} {b i j sz c : Nat} {rows rows2 : List (List PV)} {us : List AV} {r : List PV} (hT : tyOf P T = some (bl, sz)) (hpos : Nat.blt 0 sz = true) (hx : ρ x = .ptr b (j * sz)) (hi : H[i]? = some (.vec (some b) sz rows c)) (hj : j < rows.length) (hy : cellsA (ρ y) = some us) (hp : pures (us.map dn) = some r) (hrl : r.length = sz) (h1 : us.all one = true) (h2 : rows.set j r = rows2) :
    AOp P ⟨dst, .store T x y, ty, pos, aft, g⟩ ρ H (.p .any) (H.set i (.vec (some b) sz rows2 c)) := by
  subst h2; exact aop_store_vec hT hpos hx hi hj hy hp hrl h1
theorem aop_makeSlice2 {T e : TypeId} {sz bytes : Nat} {m : Int} {zs : List Value} {zv : Value} {zr : List PV} {rows2 : List (List PV)} (hT : elOf P T = some (e, sz, bytes)) (hz : zeroOf P e = some zv) (hzs : zv.cells = ⟨zs⟩) (hsz : zs.length = sz) (hpos : 0 < sz) (hp : pures ((zs.map ofVal).map dn) = some zr)
    (hx : ρ x = .p (.int .i64 m)) (hy : ρ y = .p (.int .i64 m)) (h0 : 0 ≤ m) (hm : bytes * m ≤ 281474976710656) (hm2 : m ≤ 9223372036854775807) (h2 : List.replicate m.toNat zr = rows2) :
    AOpR P ⟨dst, .makeSlice T x y, ty, pos, aft, g⟩ ρ H (newVec sz rows2 H) := by
  subst h2; exact aop_makeSlice hT hz hzs hsz hpos hp hx hy h0 hm hm2
theorem aop_slice2 {T e : TypeId} {sz bytes lo hi : Nat} {rows rows2 : List (List PV)} {l h : Option Operand} (hT : elOf P T = some (e, sz, bytes)) (hx : ρ x = .p (.lst rows)) (hr : ∀ r ∈ rows, r.length = sz)
    (hl : match l with | none => lo = 0 | some y => ∃ k, ρ y = .p (.int k lo)) (hh : match h with | none => hi = rows.length | some y => ∃ k, ρ y = .p (.int k hi)) (h1 : lo ≤ hi) (h2 : hi ≤ rows.length) (h3 : (rows.take hi).drop lo = rows2) :
    AOp P ⟨dst, .slice T x l h none, ty, pos, aft, g⟩ ρ H (.p (.lst rows2)) H := by
  subst h3; exact aop_slice hT hx hr hl hh h1 h2
end
section
variable {P : Program} {r : Option Nat} {ops : Array Oper} {Q : AExit → AState → Prop} {k : Nat} {n : Nat} {τ : Nat → AV} {H H' : List HObj} {D : List ADef} {dst : Option Tmp} {op : Op} {ty : TypeId} {pos : String} {aft : Array Edge} {v : AV}
theorem al_map (ho : ops[k]? = some ⟨dst, op, ty, pos, aft, none⟩) (hd : dstB dst n = true) (h : AOpR P ⟨dst, op, ty, pos, aft, none⟩ (ev τ) H (newMap H))
    (next : ∀ b, AL P r ops (k + 1) ⟨n, put τ dst (.map b), .map b (mapE []) :: H, D⟩ Q) : AL P r ops k ⟨n, τ, H, D⟩ Q :=
  al_stepR (S := ⟨n, τ, H, D⟩) ho (by simp [Wants]) (dst_ok hd) h (fun v H' ⟨b, h1, h2⟩ => by subst h1; subst h2; exact next b) (fun _ _ h => h.elim)
end

/-  To forget, with weaker words -/
theorem leH {is : List Nat} {H H1 H' : List HObj} (h : subAt is 0 H = H1) (w : WeakL H1 H') : LeH H H' := ⟨H1, subl h, w⟩
theorem weak_norm {x y : AV} (h : norm x = y) : Weak x y := fun _ _ _ hr => h ▸ hr.norm
theorem wl0 : WeakL [] [] := rfl
theorem wl {o o' : HObj} {l l' : List HObj} (h : OWeak o o') (r : WeakL l l') : WeakL (o :: l) (o' :: l') := ⟨o', l', rfl, h, r⟩
theorem on {b : Nat} {cs cs' : List AV} (h : cs.map dn = cs') : OWeak (.box b cs) (.box b cs') := ⟨rfl, fun F w hr => by
  obtain ⟨vs, T, h1, h2⟩ := hr
  exact ⟨vs, T, h1, h ▸ repL_nils h2⟩⟩
theorem ghost_box {n : Nat} {τ : Nat → AV} {H : List HObj} {D : List ADef} {i b : Nat} {cs : List AV} (hi : H[i]? = some (.box b cs)) : Ghost ⟨n, τ, H, D⟩ ⟨n, τ, H.set i (.box b (cs.map dn)), D⟩ := by
  intro F a w hs
  refine ⟨F, ⟨hs.size, hs.tmp, ?_, hs.defs⟩, ?_⟩
  · have hk := filterMap_set_key (x' := .box b (cs.map dn)) hi rfl
    refine ⟨fun o ho c hc => ?_, by show List.Nodup _; rw [hk]; exact hs.heap.nodup, fun o ho => ?_, hs.heap.bd⟩
    · rcases mem_set_cases ho with rfl | ⟨j, _, hj⟩
      · exact hs.heap.sub _ (List.mem_of_getElem? hi) c hc
      · exact hs.heap.sub _ (List.mem_of_getElem? hj) c hc
    · rcases mem_set_cases ho with rfl | ⟨j, _, hj⟩
      · exact (on rfl).2 F w (hs.heap.obj _ (List.mem_of_getElem? hi))
      · exact hs.heap.obj _ (List.mem_of_getElem? hj)
  · refine { Trans.refl (F := F) (H := H) (w := w) with keys := fun o ho c hc => ?_ }
    rcases mem_set_cases ho with rfl | ⟨j, _, hj⟩
    · exact .inl ⟨_, List.mem_of_getElem? hi, hc⟩
    · exact .inl ⟨_, List.mem_of_getElem? hj, hc⟩
theorem ghost_nslot {n : Nat} {τ : Nat → AV} {H : List HObj} {D : List ADef} (t : Nat) : Ghost ⟨n, τ, H, D⟩ ⟨n, put τ (some t) (norm (τ t)), H, D⟩ := ghost_slot fun _ _ _ h => h.norm
end Go.Abs
namespace Go.Abs
set_option linter.unusedVariables false
set_option linter.unusedSimpArgs false
theorem ob {b : Nat} {cs cs' : List AV} (h : cs = cs') : OWeak (.box b cs) (.box b cs') := oe (by rw [h])
theorem om {b : Nat} {l l' : List (PV × AV)} (h : l = l') : OWeak (.map b l) (.map b l') := oe (by rw [h])
end Go.Abs
namespace Go.Abs
set_option linter.unusedVariables false
set_option linter.unusedSimpArgs false
/-  Functions that return a slice of their own -/
def ownV (mkv : AV → AV) (sz : Nat) (rows : List (List PV)) : ARes → List HObj → Prop
  | .val v, H' => ∃ o c, v = mkv (.vs o rows.length c) ∧ H' = [.vec o sz rows c]
  | .panic _, _ => False
section
variable {P : Program} {r : Option Nat} {ops : Array Oper} {Q : AExit → AState → Prop} {k : Nat} {n : Nat} {τ : Nat → AV} {H H' : List HObj} {D : List ADef} {dst : Option Tmp} {op : Op} {ty : TypeId} {pos : String} {aft : Array Edge} {v : AV}
theorem al_own {c : Call} {f : Operand} {fid : FuncId} {first caps : List AV} {A : List AV} {mkv : AV → AV} {sz : Nat} {rows : List (List PV)}
    (ho : ops[k]? = some ⟨dst, .call c, ty, pos, aft, none⟩) (hd : dstB dst n = true)
    (hc : c.callee = .value f) (hf : (ev τ f = .p (.fn fid) ∧ first = [] ∧ caps = []) ∨ ev τ f = .fn (.func fid) first caps) (h : ACalls P fid A [] (ownV mkv sz rows)) (hA : first ++ c.args.toList.map (ev τ) ++ caps = A ∨ (first ++ c.args.toList.map (ev τ) ++ caps).map norm = A)
    (next : ∀ o cp, AL P r ops (k + 1) ⟨n, put τ dst (mkv (.vs o rows.length cp)), .vec o sz rows cp :: H, D⟩ Q) : AL P r ops k ⟨n, τ, H, D⟩ Q :=
  al_call ho hd hc hf (Hs := []) (Hf := H) (by simp) h hA (fun v H' ⟨o, cp, h1, h2⟩ => by subst h1; subst h2; exact next o cp) (fun _ _ h => h.elim)
end
/-- What is returned is read as plain data. -/
theorem fun_of_own {P : Program} {f : FuncId} {args : List AV} {pre post : List AV} {sz : Nat} {rows : List (List PV)} (h : ACalls P f args [] (ownV (fun v => .tup (pre ++ v :: post)) sz rows)) (hb : ∀ x ∈ pre ++ post, ∀ F F' w v, Stable F w F' w → Rep F w x v → Rep F' w x v) :
    Fun P f args (.tup (pre ++ .p (.lst rows) :: post)) := by
  refine ⟨h.1, fun F w vs hH ha => (h.2 F w vs hH ha).mono ?_⟩
  rintro e w' ⟨r, H', F', hR, he, hH', ht⟩
  cases r with
  | panic v => exact hR.elim
  | val v =>
    obtain ⟨o, c, rfl, rfl⟩ := hR
    obtain ⟨u, rfl, hu⟩ := he
    have hbd : ∀ b, o = some b → b < w'.heap.size := fun b hb => hH'.bd b (hH'.sub _ (List.mem_cons_self ..) b (by rw [← hb]; rfl))
    have st : Stable F' w' (fun b => F' b ∧ o ≠ some b) w' := ⟨Nat.le_refl _, fun _ _ _ => rfl, fun _ h _ h' => h h'.1⟩
    have hob := hH'.obj _ (List.mem_cons_self ..)
    refine ⟨.val (.tup (pre ++ .p (.lst rows) :: post)), [], fun b => F' b ∧ o ≠ some b, ⟨rfl, rfl⟩, ⟨u, rfl, ?_⟩, ?_, ?_⟩
    · simp only [Rep] at hu ⊢
      obtain ⟨us, hus, hr⟩ := hu
      refine ⟨us, hus, ?_⟩
      have key : ∀ (pre : List AV) (us : List Value), (∀ x ∈ pre ++ post, ∀ F F' w v, Stable F w F' w → Rep F w x v → Rep F' w x v) → RepL F' w' (pre ++ .vs o rows.length c :: post) us → RepL (fun b => F' b ∧ o ≠ some b) w' (pre ++ .p (.lst rows) :: post) us := by
        intro pre
        induction pre with
        | nil =>
          intro us hb hr
          simp only [List.nil_append, RepL] at hr ⊢
          obtain ⟨u, us', rfl, h1, h2⟩ := hr
          refine ⟨u, us', rfl, rep_freeze hbd hob h1 _ st (fun b hb h => h.2 hb), ?_⟩
          exact RepL.mono st _ _ h2
        | cons x pre ih =>
          intro us hb hr
          simp only [List.cons_append, RepL] at hr ⊢
          obtain ⟨u, us', rfl, h1, h2⟩ := hr
          exact ⟨u, us', rfl, hb x (by simp) _ _ _ _ st h1, ih us' (fun y hy => hb y (by simp at hy ⊢; rcases hy with h | h <;> simp [h])) h2⟩
      exact key pre us hb hr
    · exact ⟨fun _ h => by simp at h, by simp, fun _ h => by simp at h, fun b hb => hH'.bd b hb.1⟩
    · refine ⟨ht.size, fun b hb hn => ht.same b hb hn, fun b hb hn => ⟨ht.keep b hb hn, ?_⟩, fun b hb => ht.fresh b hb.1, fun _ h => by simp at h, ht.os, ht.out, ht.tape⟩
      intro ho
      subst ho
      have := hH.bd b hb
      rcases ht.keys _ (List.mem_cons_self ..) b rfl with ⟨o', ho', _⟩ | h
      · simp at ho'
      · omega
theorem pure_stable (c : AV) (F F' : Nat → Prop) (w : World) (v : Value) (st : Stable F w F' w) (h : Rep F w c v) : Rep F' w c v := Rep.mono st _ _ h
end Go.Abs
namespace Go.Abs
set_option linter.unusedVariables false
set_option linter.unusedSimpArgs false
/-  Calls: the general form -/
def ArgsW : List AV → List AV → Prop
  | [], ys => ys = []
  | x :: xs, ys => ∃ y ys', ys = y :: ys' ∧ Weak x y ∧ ArgsW xs ys'
theorem aw0 : ArgsW [] [] := rfl
theorem aw {x y : AV} {xs ys : List AV} (h : Weak x y) (r : ArgsW xs ys) : ArgsW (x :: xs) (y :: ys) := ⟨y, ys, rfl, h, r⟩
theorem argsW_rep {F : Nat → Prop} {w : World} : ∀ {xs ys : List AV} {vs : List Value}, ArgsW xs ys → RepL F w xs vs → RepL F w ys vs
  | [], ys, vs, h, hr => by simp only [ArgsW] at h; subst h; exact hr
  | x :: xs, ys, vs, h, hr => by
    obtain ⟨y, ys', rfl, h1, h2⟩ := h
    simp only [RepL] at hr ⊢
    obtain ⟨u, us, rfl, r1, r2⟩ := hr
    exact ⟨u, us, rfl, h1 F w u r1, argsW_rep h2 r2⟩
theorem weak_nil0 : Weak (.p .nils) (.vs none 0 0) := fun _ _ _ h => rep_vs0 h
theorem ACalls.args {P : Program} {f : FuncId} {args A : List AV} {H : List HObj} {R : ARes → List HObj → Prop} (h : ACalls P f A H R) (hA : ArgsW args A) : ACalls P f args H R :=
  ⟨h.1, fun F w vs hH ha => h.2 F w vs hH (argsW_rep hA ha)⟩
section
variable {P : Program} {r : Option Nat} {ops : Array Oper} {Q : AExit → AState → Prop} {k : Nat} {n : Nat} {τ : Nat → AV} {H Hs : List HObj} {D : List ADef} {dst : Option Tmp} {op : Op} {ty : TypeId} {pos : String} {aft : Array Edge} {v : AV} {c : Call} {f : Operand} {fid : FuncId} {first caps A : List AV} {R : ARes → List HObj → Prop}
theorem awp_permH {S : AState} {H' : List HObj} (hp : S.H.Perm H') : Ghost S ⟨S.n, S.τ, H', S.D⟩ := fun F a w hs =>
  ⟨F, ⟨hs.size, hs.tmp, hs.heap.perm hp, hs.defs⟩, { Trans.refl (F := F) (H := S.H) (w := w) with keys := fun o ho b hb => .inl ⟨o, hp.mem_iff.2 ho, hb⟩ }⟩
/-- A call by its contract: the objects at 'is' are handed over, and come back changed. -/
theorem al_callS (is : List Nat) (ho : ops[k]? = some ⟨dst, .call c, ty, pos, aft, none⟩) (hd : dstB dst n = true)
    (hc : c.callee = .value f) (hf : (ev τ f = .p (.fn fid) ∧ first = [] ∧ caps = []) ∨ ev τ f = .fn (.func fid) first caps) (h : ACalls P fid A Hs R) (hg : GetAll H is Hs) (hn : is.Nodup) (hA : ArgsW (first ++ c.args.toList.map (ev τ) ++ caps) A)
    (next : ∀ v Hs', R (.val v) Hs' → Hs'.length = Hs.length ∧ AL P r ops (k + 1) ⟨n, put τ dst v, sets H is Hs', D⟩ Q) (pan : ∀ v Hs', R (.panic v) Hs' → Q (.panic v) ⟨n, τ, Hs' ++ dropIdx is 0 H, D⟩) : AL P r ops k ⟨n, τ, H, D⟩ Q :=
  al_call ho hd hc hf (getAll_perm hn hg) (h.args hA) (.inl rfl) (fun v H' hR => by
    obtain ⟨hl, hn'⟩ := next v H' hR
    exact al_ghost (awp_permH (S := ⟨n, put τ dst v, H' ++ dropIdx is 0 H, D⟩) (sets_perm hn hg hl).symm) hn') pan
/-- A call by its contract: the objects at 'is' are handed over; what comes back stands first. -/
theorem al_callN (is : List Nat) (ho : ops[k]? = some ⟨dst, .call c, ty, pos, aft, none⟩) (hd : dstB dst n = true)
    (hc : c.callee = .value f) (hf : (ev τ f = .p (.fn fid) ∧ first = [] ∧ caps = []) ∨ ev τ f = .fn (.func fid) first caps) (h : ACalls P fid A Hs R) (hg : GetAll H is Hs) (hn : is.Nodup) (hA : ArgsW (first ++ c.args.toList.map (ev τ) ++ caps) A)
    (next : ∀ v Hs', R (.val v) Hs' → AL P r ops (k + 1) ⟨n, put τ dst v, Hs' ++ dropIdx is 0 H, D⟩ Q) (pan : ∀ v Hs', R (.panic v) Hs' → Q (.panic v) ⟨n, τ, Hs' ++ dropIdx is 0 H, D⟩) : AL P r ops k ⟨n, τ, H, D⟩ Q :=
  al_call ho hd hc hf (getAll_perm hn hg) (h.args hA) (.inl rfl) next pan
/-- An owned slice is handed over; one comes back. -/
theorem al_ownI (i : Nat) {o : Option Nat} {sz0 c0 : Nat} {rows0 : List (List PV)} {mkv : AV → AV} {sz : Nat} {rows : List (List PV)} (ho : ops[k]? = some ⟨dst, .call c, ty, pos, aft, none⟩) (hd : dstB dst n = true)
    (hc : c.callee = .value f) (hf : (ev τ f = .p (.fn fid) ∧ first = [] ∧ caps = []) ∨ ev τ f = .fn (.func fid) first caps) (h : ACalls P fid A [.vec o sz0 rows0 c0] (ownV mkv sz rows)) (hi : H[i]? = some (.vec o sz0 rows0 c0)) (hA : ArgsW (first ++ c.args.toList.map (ev τ) ++ caps) A)
    (next : ∀ o cp, AL P r ops (k + 1) ⟨n, put τ dst (mkv (.vs o rows.length cp)), H.set i (.vec o sz rows cp), D⟩ Q) : AL P r ops k ⟨n, τ, H, D⟩ Q :=
  al_callS [i] ho hd hc hf h ⟨_, _, rfl, hi, rfl⟩ (by simp) hA (fun v Hs' ⟨o, cp, h1, h2⟩ => by subst h1; subst h2; exact ⟨rfl, next o cp⟩) (fun _ _ h => h.elim)
/-- A new empty slice, owned. -/
theorem ghost_vec0 {sz : Nat} : Ghost ⟨n, τ, H, D⟩ ⟨n, τ, .vec none sz [] 0 :: H, D⟩ := by
  intro F a w hs
  have hH : HRel F (.vec none sz [] 0 :: H) w := ⟨fun o ho b hb => by
      rcases List.mem_cons.1 ho with rfl | ho
      · cases hb
      · exact hs.heap.sub o ho b hb, by simpa [List.filterMap_cons, HObj.key] using hs.heap.nodup, fun o ho => by
      rcases List.mem_cons.1 ho with rfl | ho
      · exact ⟨rfl, rfl⟩
      · exact hs.heap.obj o ho, hs.heap.bd⟩
  exact ⟨F, ⟨hs.size, hs.tmp, hH, hs.defs⟩, ⟨Nat.le_refl _, fun _ _ _ => rfl, fun _ h _ => h, fun _ h => .inl h, fun o ho b hb => by
      rcases List.mem_cons.1 ho with rfl | ho
      · cases hb
      · exact .inl ⟨o, ho, hb⟩, rfl, rfl, rfl⟩⟩
end
end Go.Abs
namespace Go.Abs
set_option linter.unusedVariables false
set_option linter.unusedSimpArgs false
section
variable {P : Program} {r : Option Nat} {ops : Array Oper} {Q : AExit → AState → Prop} {k : Nat} {n : Nat} {τ : Nat → AV} {H : List HObj} {D : List ADef} {o : Option Nat} {sz cp i : Nat} {rows : List (List PV)}
theorem vec_some {F : Nat → Prop} {w : World} {a : Act} (hs : SRel F ⟨n, τ, H, D⟩ a w) (hi : H[i]? = some (.vec o sz rows cp)) (hne : 0 < rows.length) : ∃ b, o = some b := by
  have := hs.heap.obj _ (List.mem_of_getElem? hi)
  cases o with
  | none => obtain ⟨h, _⟩ := this; simp [h] at hne
  | some b => exact ⟨b, rfl⟩
theorem al_some (hi : H[i]? = some (.vec o sz rows cp)) (hne : 0 < rows.length) (next : ∀ b, o = some b → AL P r ops k ⟨n, τ, H, D⟩ Q) : AL P r ops k ⟨n, τ, H, D⟩ Q := fun F a w hs => by
  obtain ⟨b, hb⟩ := vec_some hs hi hne
  exact next b hb F a w hs
theorem awp_some {c : Code} (hi : H[i]? = some (.vec o sz rows cp)) (hne : 0 < rows.length) (next : ∀ b, o = some b → AWp P r c ⟨n, τ, H, D⟩ Q) : AWp P r c ⟨n, τ, H, D⟩ Q := fun F a w hs => by
  obtain ⟨b, hb⟩ := vec_some hs hi hne
  exact next b hb F a w hs
end
end Go.Abs
namespace Go.Abs
section
variable {P : Program} {dst : Option Tmp} {ty : TypeId} {pos : String} {aft : Array Edge} {g : Option (Nat × Bool)} {ρ : Operand → AV} {H : List HObj}
theorem aop_lenE {a : Operand} {T e : TypeId} {n n1 n2 : Nat} {rows : List (List PV)} (hT : elOf P T = some (e, n1, n2)) (hx : ρ a = .p (.lst rows)) (hn : rows.length = n) :
    AOp P ⟨dst, .call { callee := .builtin .len, args := #[a], argTypes := #[T] }, ty, pos, aft, g⟩ ρ H (.p (.int .i64 n)) H := aop_len_of hT (.inl ⟨rows, hx, hn⟩)
theorem aop_lenV {a : Operand} {T e : TypeId} {m n n1 n2 c : Nat} {o : Option Nat} (hT : elOf P T = some (e, n1, n2)) (hx : ρ a = .vs o m c) (hn : m = n) :
    AOp P ⟨dst, .call { callee := .builtin .len, args := #[a], argTypes := #[T] }, ty, pos, aft, g⟩ ρ H (.p (.int .i64 n)) H := aop_len_of hT (.inr (.inl ⟨o, c, by rw [hx, hn]⟩))
end
end Go.Abs
namespace Go.Abs
set_option linter.unusedVariables false
set_option linter.unusedSimpArgs false
section
variable {P : Program} {dst : Option Tmp} {ty : TypeId} {pos : String} {aft : Array Edge} {g : Option (Nat × Bool)} {ρ : Operand → AV} {H : List HObj} {x y : Operand}
theorem aop_mulw {m n : Int} {T U : TypeId} (hx : ρ x = .p (.int .i64 m)) (hy : ρ y = .p (.int .i64 n)) : AOp P ⟨dst, .binOp .mul T x y U, ty, pos, aft, g⟩ ρ H (.p (.int .i64 (wr (m * n)))) H :=
  aop_pure fun F w E hH hE => by
    have e1 := hE x (by simp [Op.operands])
    have e2 := hE y (by simp [Op.operands])
    rw [hx] at e1
    rw [hy] at e2
    simp only [Rep, PRep] at e1 e2
    exact ⟨.int .i64 (wr (m * n)), by simp [execOp, Sem.run_bind, eqGuard_int, e1, e2, binOp, Op.intArith], by simp [Rep, PRep]⟩
end
end Go.Abs
namespace Go.Abs
set_option linter.unusedVariables false
section
variable {P : Program} {ops : Array Oper} {n : Nat} {τ₀ : Nat → AV} {D : List ADef} {Q : AExit → AState → Prop} {opn : Nat → Bool} {k : Nat} {τ : Nat → AV} {H : List HObj} {rd : Rds} {ef : Efs} {effs : List Bool} {fx : List (Nat × Sp)} {dst : Option Tmp} {ty : TypeId} {pos : String} {aft : Array Edge} {c : Call} {f : Operand} {fid : FuncId} {first caps A : List AV} {mkv : AV → AV} {sz : Nat} {rows : List (List PV)}
theorem dr_own (fx' : List (Nat × Sp)) (ho : ops[k]? = some ⟨dst, .call c, ty, pos, aft, none⟩) (hn : opn k = true)
    (hc : c.callee = .value f) (hf : (ev τ f = .p (.fn fid) ∧ first = [] ∧ caps = []) ∨ ev τ f = .fn (.func fid) first caps) (h : ACalls P fid A [] (ownV mkv sz rows)) (hA : first ++ c.args.toList.map (ev τ) ++ caps = A ∨ (first ++ c.args.toList.map (ev τ) ++ caps).map norm = A) (haft : allAfter ops k (fx'.map (·.1)) = true)
    (next : ∀ o cp, OweR ops k H (.vec o sz rows cp :: H) rd ∧ FxAt k (.eff (mkv (.vs o rows.length cp)) (.vec o sz rows cp :: H)) fx ∧ Dr P ops n τ₀ D Q opn (k + 1) (put τ dst (mkv (.vs o rows.length cp))) (.vec o sz rows cp :: H) rd ((k, H, .vec o sz rows cp :: H) :: ef) (true :: effs) (fx' ++ fx)) : Dr P ops n τ₀ D Q opn k τ H rd ef effs fx :=
  dr_open fx' ho hn (aop_call (H := H) (Hs := []) (Hf := H) hc hf (by simp) h hA) haft ⟨_, _, _, ⟨none, 0, rfl, rfl⟩, rfl⟩ (fun v H' ⟨_, h, _⟩ => h.elim) (fun v H' ⟨Hs', ⟨o, cp, h1, h2⟩, h3⟩ => by subst h1; subst h2; subst h3; exact next o cp)
end
end Go.Abs
namespace Go.Abs
section
variable {P : Program} {dst : Option Tmp} {ty : TypeId} {pos : String} {aft : Array Edge} {g : Option (Nat × Bool)} {ρ : Operand → AV} {H Hs Hs' : List HObj} {v : AV} {c : Call} {f : Operand} {fid : FuncId} {first caps A : List AV}
theorem aop_retW (is : List Nat) (hc : c.callee = .value f) (hf : (ρ f = .p (.fn fid) ∧ first = [] ∧ caps = []) ∨ ρ f = .fn (.func fid) first caps) (h : ACalls P fid A Hs (retR v Hs')) (hg : GetAll H is Hs) (hn : is.Nodup) (hl : Hs'.length = Hs.length) (hA : ArgsW (first ++ c.args.toList.map ρ ++ caps) A) :
    AOp P ⟨dst, .call c, ty, pos, aft, g⟩ ρ H v (sets H is Hs') := aop_retn is hc hf (h.args hA) hg hn hl (.inl rfl)
theorem aop_funW (hc : c.callee = .value f) (hf : ρ f = .p (.fn fid)) (h : Fun P fid A v) (hA : ArgsW (c.args.toList.map ρ) A) : AOp P ⟨dst, .call c, ty, pos, aft, g⟩ ρ H v H := aop_fun hc hf (h.args hA) rfl
end
end Go.Abs
/- Plain data and how they lie in memory: lists, metavariables. -/
namespace Go.Eu
set_option linter.unusedVariables false
set_option linter.unusedSimpArgs false
open Go.Abs
structure Mv where
  type : Tm
  known : Bool
  value : Tm
  cls : Bool
  deriving Inhabited
def encI (n : Int) : List PV := [I n]
def encS (s : ByteArray) : List PV := [.str s]
def encB (b : Bool) : List PV := [.bool b]
def encM (m : Mv) : List PV := encT m.type ++ (.bool m.known :: (encT m.value ++ [.bool m.cls]))
theorem encM_len (m : Mv) : (encM m).length = 12 := by simp [encM, encT_len]
theorem encI_get {ts : List Int} {i : Nat} {t : Int} (h : ts[i]? = some t) : (ts.map encI)[i]? = some (encI t) := by simp [h]
theorem encM_get {ts : List Mv} {i : Nat} {t : Mv} (h : ts[i]? = some t) : (ts.map encM)[i]? = some (encM t) := by simp [h]
abbrev MV (m : Mv) : AV := .agg ((encM m).map .p)
abbrev MsV (l : List Mv) : AV := .p (.lst (l.map encM))
abbrev IsV (l : List Int) : AV := .p (.lst (l.map encI))

def SolidE (sz : Nat) {α : Type} (f : α → List PV) : Prop := ∀ a, Solid sz (f a)
theorem solid_map {α : Type} {sz : Nat} {f : α → List PV} (h : ∀ a, Solid sz (f a)) (l : List α) : ∀ r ∈ l.map f, Solid sz r := by
  intro r hr
  obtain ⟨a, _, rfl⟩ := List.mem_map.1 hr
  exact h a
theorem solidT (t : Tm) : Solid 5 (encT t) := by
  obtain ⟨k, i, n, l, s⟩ := t
  refine ⟨rfl, ?_⟩
  intro c hc
  simp [encT] at hc
  rcases hc with rfl | rfl | rfl | rfl | rfl <;> simp
theorem solidM (m : Mv) : Solid 12 (encM m) := by
  refine ⟨encM_len m, ?_⟩
  intro c hc
  simp [encM] at hc
  rcases hc with hc | rfl | hc | rfl
  · exact (solidT _).2 c hc
  · simp
  · exact (solidT _).2 c hc
  · simp
theorem solid_Tm (l : List Tm) : ∀ r ∈ encTs l, Solid 5 r := by rw [encTs_map]; exact solid_map solidT l
theorem solid_Mv (l : List Mv) : ∀ r ∈ l.map encM, Solid 12 r := solid_map solidM l
theorem solid_Int (l : List Int) : ∀ r ∈ l.map encI, Solid 1 r := solid_map (f := encI) (fun a => ⟨rfl, by simp [encI]⟩) l
theorem solid_LVar (l : List LVar) : ∀ r ∈ l.map encV, Solid 2 r := solid_map (f := encV) (fun a => ⟨rfl, by simp [encV]⟩) l
theorem solid_Lvl (l : List Lvl) : ∀ r ∈ l.map encL, Solid 2 r := solid_map (f := encL) (fun a => ⟨rfl, by simp [encL]⟩) l
theorem lens_of {sz : Nat} {rows : List (List PV)} (h : ∀ r ∈ rows, Solid sz r) : ∀ r ∈ rows, r.length = sz := fun r hr => (h r hr).1
/- append, set, replicate, take, drop pass through the encodings -/
theorem vn_Tm (a b : List Tm) : encTs a ++ encTs b = encTs (a ++ b) := by simp [encTs_map]
theorem vn_map {α : Type} {f : α → List PV} (a b : List α) : a.map f ++ b.map f = (a ++ b).map f := by simp
theorem vs_Tm (l : List Tm) (j : Nat) (x : Tm) : (encTs l).set j (encT x) = encTs (l.set j x) := by simp [encTs_map, List.map_set]
theorem vs_map {α : Type} {f : α → List PV} (l : List α) (j : Nat) (x : α) : (l.map f).set j (f x) = (l.set j x).map f := by simp [List.map_set]
theorem vr_Tm (n : Nat) (x : Tm) : List.replicate n (encT x) = encTs (List.replicate n x) := by simp [encTs_map]
theorem vr_map {α : Type} {f : α → List PV} (n : Nat) (x : α) : List.replicate n (f x) = (List.replicate n x).map f := by simp
theorem vt_Tm (l : List Tm) (hi : Nat) : ((encTs l).take hi).drop 0 = encTs (l.take hi) := by simp [encTs_map, List.map_take]
theorem vd_Tm (l : List Tm) (lo : Nat) : ((encTs l).take (encTs l).length).drop lo = encTs (l.drop lo) := by rw [List.take_length]; simp [encTs_map, List.map_drop]
theorem one_solid {sz : Nat} {r : List PV} (h : Solid sz r) : (r.map AV.p).all one = true := by
  simp only [List.all_eq_true]
  intro x hx
  obtain ⟨c, hc, rfl⟩ := List.mem_map.1 hx
  have := h.2 c hc
  cases c <;> simp_all [one]
theorem one_Tm (t : Tm) : ((encT t).map AV.p).all one = true := one_solid (solidT t)
theorem one_Mv (m : Mv) : ((encM m).map AV.p).all one = true := one_solid (solidM m)
theorem pures_Tm (t : Tm) : pures (((encT t).map AV.p).map dn) = some (encT t) := by obtain ⟨k, i, n, l, s⟩ := t; rfl
end Go.Eu
namespace Go.Eu
set_option linter.unusedVariables false
set_option linter.unusedSimpArgs false
def appT (f a : Tm) : Tm := .mk 4 0 ⟨#[]⟩ [] [f, a]
def apply (f : Tm) (xs : List Tm) : Tm := xs.foldl appT f
theorem apply_snoc {f : Tm} {xs : List Tm} {i : Nat} {x : Tm} (h : xs[i]? = some x) : apply f (xs.take (i + 1)) = appT (apply f (xs.take i)) x := by
  simp [apply, List.take_add_one, h]
end Go.Eu
namespace Go.Eu
set_option linter.unusedVariables false
set_option linter.unusedSimpArgs false
def spine : Tm → Tm × List Tm
  | .mk k i n l [f, a] => if k = 4 then ((spine f).1, (spine f).2 ++ [a]) else (.mk k i n l [f, a], [])
  | t => (t, [])
end Go.Eu
namespace Go.Eu
set_option linter.unusedVariables false
set_option linter.unusedSimpArgs false
theorem spine_atom {k i : Int} {n : ByteArray} {l : List Lvl} {ts : List Tm} (h : k ≠ 4 ∨ ((ts.length : Nat) : Int) ≠ 2) : spine (.mk k i n l ts) = (.mk k i n l ts, []) := by
  unfold spine
  split
  · rename_i k' i' n' l' f a e
    injection e with e1 e2 e3 e4 e5
    subst e1 e2 e3 e4 e5
    simp at h
    rw [if_neg h]
  · rfl
theorem spine_app {k i : Int} {n : ByteArray} {l : List Lvl} {ts : List Tm} {x y : Tm} (h : k = 4 ∧ ((ts.length : Nat) : Int) = 2) (hx : ts[0]? = some x) (hy : ts[1]? = some y) : spine (.mk k i n l ts) = ((spine x).1, (spine x).2 ++ [y]) := by
  obtain ⟨rfl, h2⟩ := h
  match ts, h2, hx, hy with
  | [a, b], _, hx, hy =>
    simp at hx hy
    subst hx hy
    simp [spine]
theorem spine_len_sizes : ∀ (t : Tm), size (spine t).1 + sizes (spine t).2 + (spine t).2.length = size t
  | .mk k i n l [f, a] => by
    unfold spine
    split
    · have := spine_len_sizes f
      simp [size, sizes] at this ⊢
      have e : ∀ (xs : List Tm) (y : Tm), sizes (xs ++ [y]) = sizes xs + size y := by
        intro xs y
        induction xs with
        | nil => simp [sizes]
        | cons z zs ih => simp [sizes, ih]; omega
      rw [e]
      omega
    · simp [sizes]
  | .mk k i n l [] => by simp [spine, sizes]
  | .mk k i n l [_] => by simp [spine, sizes]
  | .mk k i n l (_ :: _ :: _ :: _) => by simp [spine, sizes]
theorem spine_len (t : Tm) : (spine t).2.length < size t := by
  have := spine_len_sizes t
  have := size_pos (spine t).1
  omega
end Go.Eu
namespace Go.Eu
set_option linter.unusedVariables false
def bindsT (k : Int) (xs : List Tm) (t : Tm) : Tm := xs.foldr (fun a t => .mk k 0 ⟨#[]⟩ [] [a, t]) t
end Go.Eu
namespace Go.Eu
/-- What turns tests into plain words. -/
theorem sd : (∀ (p : Prop) [Decidable p], (decide p = true) = p) ∧ (∀ {p : Prop} [Decidable p], decide p = false ↔ ¬p) ∧ (∀ {α : Type} [BEq α] [LawfulBEq α] {a b : α}, (a == b) = true ↔ a = b) ∧ (∀ {α : Type} [BEq α] [LawfulBEq α] {a b : α}, (a != b) = true ↔ a ≠ b) ∧ (∀ {α : Type} [BEq α] [LawfulBEq α] {a b : α}, (a == b) = false ↔ a ≠ b) ∧ (∀ {α : Type} [BEq α] [LawfulBEq α] {a b : α}, (a != b) = false ↔ a = b) ∧ (∀ {α : Type} (a b : α), (a ≠ b) = ¬(a = b)) ∧ (∀ {α : Type} [LT α] {x y : α}, x > y ↔ y < x) ∧ (∀ {α : Type} [LE α] {x y : α}, x ≥ y ↔ y ≤ x) ∧ (∀ (b : Bool), (¬(b = true)) = (b = false)) ∧ (∀ (b : Bool), (¬(b = false)) = (b = true)) ∧ (∀ (b : Bool), ((!b) = true) = (b = false)) ∧ (∀ (b : Bool), ((!b) = false) = (b = true)) ∧ (∀ {a b : Int}, ¬a < b ↔ b ≤ a) ∧ (∀ {a b : Int}, ¬a ≤ b ↔ b < a) :=
  ⟨fun _ => decide_eq_true_eq, decide_eq_false_iff_not, beq_iff_eq, bne_iff_ne, beq_eq_false_iff_ne, bne_eq_false_iff_eq, ne_eq, gt_iff_lt, ge_iff_le, Bool.not_eq_true, Bool.not_eq_false, fun b => by cases b <;> simp, fun b => by cases b <;> simp, Int.not_lt, Int.not_le⟩
theorem se : (∀ (ts : List Tm), (encTs ts).length = ts.length) ∧ (∀ {α β : Type} {as : List α} {f : α → β}, (as.map f).length = as.length) ∧ (∀ {α : Type} {n : Nat} {a : α}, (List.replicate n a).length = n) ∧ (∀ (a b : Bool), ((a || b) = true) = (a = true ∨ b = true)) ∧ (∀ (a b : Bool), ((a && b) = true) = (a = true ∧ b = true)) ∧ (∀ {x y : Bool}, (x || y) = false ↔ x = false ∧ y = false) ∧ (∀ {x y : Bool}, (x && y) = false ↔ x = true → y = false) :=
  ⟨encTs_len, List.length_map _, List.length_replicate, Bool.or_eq_true, Bool.and_eq_true, Bool.or_eq_false_iff, Bool.and_eq_false_imp⟩
end Go.Eu
