/- Part of the proofs: an abstract program logic, plain models and contracts of functions. -/
import Derived.Test.YtapmjpihennhaaaGreatDoorPa
import Derived.MapKept
set_option linter.unusedVariables false
set_option linter.unusedSimpArgs false
namespace Go.Abs
section
variable {P : Program} {ops : Array Oper} {n : Nat} {τ₀ : Nat → AV} {D : List EB} {Q : Cy → B2 → Prop} {opn : Nat → Bool} {k : Nat} {τ : Nat → AV} {H : List BT} {rd : YB} {ef : WX} {effs : List Bool} {fx : List (Nat × Sp)} {dst : Option Tmp} {op : Op} {ty : TypeId} {pos : String} {aft : Array Edge} {v : AV} {H' : List BT}
theorem Pf {cs : List AV} (fx' : List (Nat × Sp)) (ho : ops[k]? = some ⟨dst, op, ty, pos, aft, none⟩) (hn : opn k = true) (h : DB P ⟨dst, op, ty, pos, aft, none⟩ (ev τ) H (I1 cs H)) (haft : Ev ops k (fx'.map (·.1)) = true)
  (next : ∀ b, Kr ops k H (.box b cs :: H) rd ∧ Hq k (.eff (.ptr b 0) (.box b cs :: H)) fx ∧ Dr P ops n τ₀ D Q opn (k + 1) (put τ dst (.ptr b 0)) (.box b cs :: H) rd ((k, H, .box b cs :: H) :: ef) (true :: effs) (fx' ++ fx)) : Dr P ops n τ₀ D Q opn k τ H rd ef effs fx :=
 LI fx' ho hn h haft ⟨_, _, 0, rfl, rfl⟩ (fun _ _ h => h.elim) (fun v H' ⟨b, h1, h2⟩ => by subst h1; subst h2; exact next b)
theorem JE {i sz : Nat} {rows : List (List PV)} (fx' : List (Nat × Sp)) (ho : ops[k]? = some ⟨dst, op, ty, pos, aft, none⟩) (hn : opn k = true) (h : DB P ⟨dst, op, ty, pos, aft, none⟩ (ev τ) H (Kx i sz rows H)) (haft : Ev ops k (fx'.map (·.1)) = true)
  (next : ∀ o c, Kr ops k H (H.set i (.vec o sz rows c)) rd ∧ Hq k (.eff (.vs o rows.length c) (H.set i (.vec o sz rows c))) fx ∧ Dr P ops n τ₀ D Q opn (k + 1) (put τ dst (.vs o rows.length c)) (H.set i (.vec o sz rows c)) rd ((k, H, H.set i (.vec o sz rows c)) :: ef) (true :: effs) (fx' ++ fx)) : Dr P ops n τ₀ D Q opn k τ H rd ef effs fx :=
 LI fx' ho hn h haft ⟨_, _, none, 0, rfl, rfl⟩ (fun _ _ h => h.elim) (fun v H' ⟨o, c, h1, h2⟩ => by subst h1; subst h2; exact next o c)
def DC (v : AV) (H' : List BT) : Db → List BT → Prop
 | .val v', H'' => v' = v ∧ H'' = H'
 | .panic _, _ => False
theorem Xw {c : Call} {g : Option (Nat × Bool)} {f : Operand} {fid : FuncId} {first caps : List AV} {ρ : Operand → AV} {Hs Hf Hs' : List BT} {A : List AV}
  (hc : c.callee = .value f) (hf : (ρ f = .p (.fn fid) ∧ first = [] ∧ caps = []) ∨ ρ f = .fn (.func fid) first caps) (hp : H.Perm (Hs ++ Hf)) (h : Bt P fid A Hs (DC v Hs')) (hA : first ++ c.args.toList.map ρ ++ caps = A ∨ (first ++ c.args.toList.map ρ ++ caps).map norm = A) :
  Dg P ⟨dst, .call c, ty, pos, aft, g⟩ ρ H v (Hs' ++ Hf) := by
 refine (Ho (H := H) hc hf hp h hA).mono ?_
 rintro r H' ⟨Hs', h1, rfl⟩
 cases r with
 | val v' => obtain ⟨rfl, rfl⟩ := h1; exact ⟨rfl, rfl⟩
 | panic v' => exact h1
end
def fF (k : Int) : List (Int × AV) → Option AV
 | [] => none
 | (j, x) :: r => if j = k then some x else fF k r
def fi (k : Int) (v : AV) : List (Int × AV) → List (Int × AV)
 | [] => [(k, v)]
 | (j, x) :: r => if j = k then (j, v) :: r else (j, x) :: fi k v r
def Yx (l : List (Int × AV)) : List (PV × AV) := l.map fun p => (.int .i64 p.1, p.2)
def mapOf (P : Program) (T : TypeId) : Option TypeId :=
 match P.underlying T with
 | some (.map k e) => match P.underlying k with
  | some (.int .i64) => some e
  | _ => none
 | _ => none
section
variable {F : Nat → Prop} {w : World}
end
section
variable {P : Program} {dst : Option Tmp} {ty : TypeId} {pos : String} {aft : Array Edge} {g : Option (Nat × Bool)} {ρ : Operand → AV} {H : List BT} {x y z : Operand} {v : AV}
def V8 (H : List BT) : Db → List BT → Prop
 | .val v, H' => ∃ b, v = .map b ∧ H' = .map b (Yx []) :: H
 | .panic _, _ => False
theorem MQ {T : TypeId} : DB P ⟨dst, .makeMap T none, ty, pos, aft, g⟩ ρ H (V8 H) :=
 FF fun F w E hH hE => by
  refine ⟨.map (some w.heap.size), World.push w (.map #[] 0), .map w.heap.size, .map w.heap.size (Yx []) :: H, _, ?_, ⟨_, At, At⟩, He H _ _ (.inl At), IZ hH _ _ At ?_, by simp [CR]⟩
  ·simp [execOp, Instr.makeMap, Sem.run_bind]
   rfl
  ·exact ⟨#[], 0, Gr _, At⟩
theorem Xa {m n : Int} {T U : TypeId} (hx : ρ x = .p (.int .i64 m)) (hy : ρ y = .p (.int .i64 n)) (h : n ≠ 0) : Dg P ⟨dst, .binOp .rem T x y U, ty, pos, aft, g⟩ ρ H (.p (.int .i64 (m.tmod n))) H :=
 CT fun F w E hH hE => by
  have e1 := hE x Ah
  have e2 := hE y Ah
  rw [hx] at e1
  rw [hy] at e2
  simp only [CR, CV] at e1 e2
  exact ⟨.int .i64 (m.tmod n), by simp [execOp, Sem.run_bind, Fl, e1, e2, binOp, Op.intDiv, h], by simp [CR, CV]⟩
theorem L6 {T : TypeId} {d : TypeDesc} {a b : Value} {c : Bool} {w : World} (hu : P.underlying T = some d) (h : (match d, a, b with
  | .bool, .bool x, .bool y => some (x == y)
  | .interface _, .nilIface, .nilIface => some true
  | .interface _, .iface _ _, .nilIface => some false
  | .slice _, .slice none _ _, .slice none _ _ => some true
  | .slice _, .slice (some _) _ _, .slice none _ _ => some false
  | _, _, _ => none) = some c) : (Op.equal T a b).run P w = .ok c w := by
 unfold Op.equal
 rw [show Op.maxDepth = 9999 + 1 from rfl]
 unfold Op.equalIn
 simp only [Sem.run_bind, run_underlying hu, Result.andThen_ok]
 split at h <;> simp_all
theorem OZ {T e : TypeId} {len sz b o : Nat} {k : IntKind} {i : Int} {inf : TypeInfo} (hu : P.underlying T = some (.array len e)) (hj : P.info? e = some inf) (hs : inf.size = sz) (hx : ρ x = .ptr b o) (hy : ρ y = .p (.int k i)) (h0 : 0 ≤ i) (hn : i < len) :
  Dg P ⟨dst, .indexAddr T x y, ty, pos, aft, g⟩ ρ H (.ptr b (o + i.toNat * sz)) H :=
 CT fun F w E hH hE => by
  have h1 := hE x Ah
  have h2 := hE y Ah
  rw [hx] at h1
  rw [hy] at h2
  simp only [CR, CV] at h1 h2
  refine ⟨.pointer (some ⟨b, o + i.toNat * sz, none⟩), ?_, by simp [CR]⟩
  simp [execOp, Instr.indexAt, Sem.run_bind, run_underlying hu, h1, h2, asIntOf, h0, hn, sizeOf, typeInfo, hj, hs, Addr.add_mid, Instr.sureAddr, asAddr]
theorem Oe {T e : TypeId} {len : Nat} {parts : Array (Nat × Operand)} {z : Value} {cs : List AV} {inf : TypeInfo} (hu : P.underlying T = some (.array len e)) (hj : P.info? e = some inf) (hz : zeroOf P T = some z)
  (hc : FT (fun i => some (i * inf.size, inf.size)) (z.cells.toList.map Gu) (parts.toList.map fun p => (p.1, ρ p.2)) = some cs) : Dg P ⟨dst, .build T parts, ty, pos, aft, g⟩ ρ H (.agg cs) H :=
 CT fun F w E hH hE => by
  unfold zeroOf at hz
  cases hi : P.info? T with
  | none => simp [hi] at hz
  | some i =>
   have hz' : i.zero = some z := by simpa [hi] using hz
   have hzv : (zeroValue T).run P w = .ok z w := by simp [zeroValue, typeInfo, hi, hz', Sem.run_bind]
   have hsz : (sizeOf e).run P w = .ok inf.size w := by simp [sizeOf, typeInfo, hj]
   obtain ⟨us, hf, hr⟩ := Hg (F := F) (w := w) (place := (fun i => some (i * inf.size, inf.size))) _ (parts.toList.map fun p => (p.1, E p.2)) _ z.cells.toList _ As (by
    intro j p q h1 h2
    simp only [List.getElem?_map] at h1 h2
    cases hj : parts.toList[j]? with
    | none => simp [hj] at h1
    | some t =>
     simp [hj] at h1 h2
     subst h1; subst h2
     exact ⟨At, hE _ (by
      have := List.mem_of_getElem? hj
      simp only [Op.operands]
      exact List.mem_map.2 ⟨t, this, At⟩)⟩) (Fc _) hc
   refine ⟨.agg ⟨us⟩, ?_, by simp only [CR]; exact ⟨us, rfl, hr⟩⟩
   simp only [execOp, Instr.build, Sem.run_bind, hzv, Result.andThen_ok, run_underlying hu, hsz]
   have hf' : Instr.fill (fun i => some (i * inf.size, inf.size)) z.cells (parts.toList.map fun p => (p.1, E p.2)) = some ⟨us⟩ := hf
   simp [hf']
theorem Ps {T U : TypeId} {e : TypeId} {rows : List (List PV)} (hu : P.underlying T = some (.slice e)) (hx : ρ x = .p (.lst rows)) (hy : ρ y = .p .nils) : DB P ⟨dst, .binOp .eql T x y U, ty, pos, aft, g⟩ ρ H (fun r H' => match r with | .val v => (∃ b, v = .p (.bool b) ∧ (b = true → rows = [])) ∧ H' = H | .panic _ => False) :=
 FF fun F w E hH hE => by
  have e1 := hE x Ah
  have e2 := hE y Ah
  rw [hx] at e1
  rw [hy] at e2
  simp only [CR, CV] at e1 e2
  have hg : ∀ o n c, (eqGuard .eql T x y (.slice o n c) (.slice none 0 0)).run P w = .ok () w := by intro o n c; unfold eqGuard; rfl
  have key : ∃ b, (execOp E ⟨dst, .binOp .eql T x y U, ty, pos, aft, g⟩).run P w = .ok (.value (.bool b)) w ∧ (b = true → rows = []) := by
   rcases e1 with ⟨rfl, o, c, h1⟩ | ⟨bb, o, c, sz, h1, _⟩
   ·cases o with
    | none =>
     have hq : (Op.equal T (.slice none 0 c) (.slice none 0 0)).run P w = .ok true w := L6 hu rfl
     exact ⟨true, by simp [execOp, Sem.run_bind, hg, h1, e2, binOp, hq], fun _ => rfl⟩
    | some a =>
     have hq : (Op.equal T (.slice (some a) 0 c) (.slice none 0 0)).run P w = .ok false w := L6 hu rfl
     exact ⟨false, by simp [execOp, Sem.run_bind, hg, h1, e2, binOp, hq], fun _ => rfl⟩
   ·have hq : (Op.equal T (.slice (some ⟨bb, o, none⟩) rows.length c) (.slice none 0 0)).run P w = .ok false w := L6 hu rfl
    exact ⟨false, by simp [execOp, Sem.run_bind, hg, h1, e2, binOp, hq], fun h => by cases h⟩
  obtain ⟨b, hb, hr⟩ := key
  exact ⟨_, w, .p (.bool b), H, F, hb, ⟨⟨b, At, hr⟩, At⟩, .refl, hH, by simp [CR, CV]⟩
end
def LP (P : Program) (T : TypeId) : Bool :=
 match P.underlying T with
 | some (.struct fs) => match fs.toList with
  | [f, g] => f.name != "_" && g.name != "_" && Nat.beq f.offset 0 && Nat.beq g.offset 1 && (match P.underlying f.type, P.underlying g.type with | some (.int .i64), some (.int .i64) => true | _, _ => false) && !P.stoodInHeld T && !P.eqGuardType P.depth T
  | _ => false
 | _ => false
theorem Rr {P : Program} {T : TypeId} {a b c d : Int} {w : World} (h : LP P T = true) : (Op.equal T (.agg #[.int .i64 a, .int .i64 b]) (.agg #[.int .i64 c, .int .i64 d])).run P w = .ok (a == c && b == d) w := by
 unfold LP at h
 split at h
 ·rename_i fs hu
  split at h
  ·rename_i f g hfs
   obtain rfl : fs = #[f, g] := by apply Array.ext'; simpa using hfs
   simp only [Bool.and_eq_true, bne_iff_ne, ne_eq, Bool.not_eq_true'] at h
   obtain ⟨⟨⟨⟨⟨⟨h1, h2⟩, h3⟩, h4⟩, h5⟩, h6⟩, h7⟩ := h
   split at h5
   ·rename_i hf hg
    have e3 := Nat.eq_of_beq_eq_true h3
    have e4 := Nat.eq_of_beq_eq_true h4
    have hp : (program).run P w = .ok P w := rfl
    have af : (isAgg f.type).run P w = .ok false w := IT hf false rfl w
    have ag : (isAgg g.type).run P w = .ok false w := IT hg false rfl w
    have pf : ∀ x y, (part f.type #[.int .i64 x, .int .i64 y] f.offset).run P w = .ok (.int .i64 x) w := by
     intro x y; unfold part; simp [Sem.run_bind, af, e3]
    have pg : ∀ x y, (part g.type #[.int .i64 x, .int .i64 y] g.offset).run P w = .ok (.int .i64 y) w := by
     intro x y; unfold part; simp [Sem.run_bind, ag, e4]
    have qf : ∀ x y, (Op.equalIn 9999 f.type (.int .i64 x) (.int .i64 y)).run P w = .ok (x == y) w := by
     intro x y; rw [show (9999 : Nat) = 9998 + 1 from rfl]; unfold Op.equalIn; simp [Sem.run_bind, run_underlying hf]
    have qg : ∀ x y, (Op.equalIn 9999 g.type (.int .i64 x) (.int .i64 y)).run P w = .ok (x == y) w := by
     intro x y; rw [show (9999 : Nat) = 9998 + 1 from rfl]; unfold Op.equalIn; simp [Sem.run_bind, run_underlying hg]
    unfold Op.equal
    rw [show Op.maxDepth = 9999 + 1 from rfl]
    unfold Op.equalIn
    simp only [Sem.run_bind, run_underlying hu, Result.andThen_ok, hp, h6]
    simp [Sem.run_bind, h1, h2, pf, pg, qf, qg]
    cases hac : (a == c) <;> cases hbd : (b == d) <;> simp_all [Sem.run_bind, h1, h2, pf, pg, qf, qg]
   ·cases h5
  ·cases h
 ·cases h
section
variable {P : Program} {dst : Option Tmp} {ty : TypeId} {pos : String} {aft : Array Edge} {g : Option (Nat × Bool)} {ρ : Operand → AV} {H : List BT} {x y z : Operand} {v : AV}
theorem T6 {T U : TypeId} {a b c d : Int} (h : LP P T = true) (hx : ρ x = .agg [.p (.int .i64 a), .p (.int .i64 b)]) (hy : ρ y = .agg [.p (.int .i64 c), .p (.int .i64 d)]) : Dg P ⟨dst, .binOp .neq T x y U, ty, pos, aft, g⟩ ρ H (.p (.bool (!(a == c && b == d)))) H :=
 CT fun F w E hH hE => by
  have e1 := hE x Ah
  have e2 := hE y Ah
  rw [hx] at e1
  rw [hy] at e2
  simp only [CR, B0, CV] at e1 e2
  obtain ⟨vs, e1, u1, us1, rfl, rfl, u2, us2, rfl, rfl, rfl⟩ := e1
  obtain ⟨vs', e2, v1, vs1, rfl, rfl, v2, vs2, rfl, rfl, rfl⟩ := e2
  refine ⟨.bool (!(a == c && b == d)), ?_, by simp [CR, CV]⟩
  have hq := Rr (P := P) (T := T) (a := a) (b := b) (c := c) (d := d) (w := w) h
  have h' := h
  have hg : (eqGuard .neq T x y (.agg #[.int .i64 a, .int .i64 b]) (.agg #[.int .i64 c, .int .i64 d])).run P w = .ok () w := by
   unfold LP at h'
   split at h'
   ·split at h'
    ·simp only [Bool.and_eq_true, Bool.not_eq_true'] at h'
     have h7 := h'.2
     have hp : (program).run P w = .ok P w := rfl
     unfold eqGuard
     simp [Sem.run_bind, hp, h7]
    ·cases h'
   ·cases h'
  simp [execOp, Sem.run_bind, hg, e1, e2, binOp, hq]
end
theorem IK {P : Program} {r : Option Nat} {c : Code} {S : B2} {Q : Cy → B2 → Prop} (N : Nat) (C : Nat → Prop) (St : Nat → B2) (i₀ : Nat) (h₀ : i₀ ≤ N) (hC : C i₀) (l : Le S (St i₀))
  (round : ∀ i, i ≤ N → C i → Ib P r c (St i) (RK (fun S' => i < N ∧ C (i + 1) ∧ Le S' (St (i + 1))) Q)) : Ib P r (.loop c) S Q := by
 refine RX (fun m S => ∃ i, i ≤ N ∧ m = N - i ∧ C i ∧ S = St i) (m := N - i₀) l ⟨i₀, h₀, At, hC, At⟩ ?_
 rintro m S ⟨i, hi, rfl, hc, rfl⟩
 refine (round i hi hc).mono ?_
 intro e S' h
 cases e with
 | normal =>
  obtain ⟨h1, h2, h3⟩ := h
  exact ⟨N - (i + 1), St (i + 1), by omega, h3, i + 1, by omega, rfl, h2, rfl⟩
 | exit id => exact h
 | ret => exact h
 | panic v => exact h
theorem CM {α : Type} {P : Program} {r : Option Nat} {c : Code} {S : B2} {Q : Cy → B2 → Prop} (St : α → B2) (μ : α → Nat) (C : α → Prop) (a₀ : α) (hC : C a₀) (l : Le S (St a₀))
  (round : ∀ a, C a → Ib P r c (St a) (RK (fun S' => ∃ a', μ a' < μ a ∧ C a' ∧ Le S' (St a')) Q)) : Ib P r (.loop c) S Q := by
 refine RX (fun m S => ∃ a, m = μ a ∧ C a ∧ S = St a) (m := μ a₀) l ⟨a₀, At, hC, At⟩ ?_
 rintro m S ⟨a, rfl, hc, rfl⟩
 refine (round a hc).mono ?_
 intro e S' h
 cases e with
 | normal =>
  obtain ⟨a', h1, h2, h3⟩ := h
  exact ⟨μ a', St a', h1, h3, a', At, h2, At⟩
 | exit id => exact h
 | ret => exact h
 | panic v => exact h
abbrev wr (n : Int) : Int := IntKind.i64.wrap n
section
variable {P : Program} {dst : Option Tmp} {ty : TypeId} {pos : String} {aft : Array Edge} {g : Option (Nat × Bool)} {ρ : Operand → AV} {H : List BT} {x y z : Operand} {v : AV}
theorem D7 {m n : Int} {T U : TypeId} (hx : ρ x = .p (.int .i64 m)) (hy : ρ y = .p (.int .i64 n)) : Dg P ⟨dst, .binOp .add T x y U, ty, pos, aft, g⟩ ρ H (.p (.int .i64 (wr (m + n)))) H :=
 CT fun F w E hH hE => by
  have e1 := hE x Ah
  have e2 := hE y Ah
  rw [hx] at e1
  rw [hy] at e2
  simp only [CR, CV] at e1 e2
  exact ⟨.int .i64 (wr (m + n)), by simp [execOp, Sem.run_bind, Fl, e1, e2, binOp, Op.intArith], by simp [CR, CV]⟩
theorem NZ {m n : Int} {T U : TypeId} (hx : ρ x = .p (.int .i64 m)) (hy : ρ y = .p (.int .i64 n)) : Dg P ⟨dst, .binOp .sub T x y U, ty, pos, aft, g⟩ ρ H (.p (.int .i64 (wr (m - n)))) H :=
 CT fun F w E hH hE => by
  have e1 := hE x Ah
  have e2 := hE y Ah
  rw [hx] at e1
  rw [hy] at e2
  simp only [CR, CV] at e1 e2
  exact ⟨.int .i64 (wr (m - n)), by simp [execOp, Sem.run_bind, Fl, e1, e2, binOp, Op.intArith], by simp [CR, CV]⟩
end
def dQ (R : AV → Prop) : Db → List BT → Prop
 | .val v, H' => R v ∧ H' = []
 | .panic _, _ => False
abbrev G9 (P : Program) (f : FuncId) (args : List AV) (R : AV → Prop) : Prop := Bt P f args [] (dQ R)
theorem G9.of {P : Program} {f : FuncId} {args : List AV} {v : AV} {R : AV → Prop} (h : G5 P f args v) (hR : R v) : G9 P f args R :=
 Bt.mono h fun r H hr => by
  cases r with
  | val v' => obtain ⟨rfl, rfl⟩ := hr; exact ⟨hR, rfl⟩
  | panic v' => exact hr
def KT (R : AV → Prop) (H : List BT) : Db → List BT → Prop
 | .val v, H' => R v ∧ H' = H
 | .panic _, _ => False
section
variable {P : Program} {r : Option Nat} {ops : Array Oper} {Q : Cy → B2 → Prop} {k : Nat} {n : Nat} {τ : Nat → AV} {H H' : List BT} {D : List EB} {dst : Option Tmp} {op : Op} {ty : TypeId} {pos : String} {aft : Array Edge} {g : Option (Nat × Bool)} {v : AV}
theorem Bb {c : Call} {f : Operand} {fid : FuncId} {ρ : Operand → AV} {A : List AV} {R : AV → Prop} (hc : c.callee = .value f) (hf : ρ f = .p (.fn fid)) (h : G9 P fid A R) (hA : c.args.toList.map ρ = A ∨ (c.args.toList.map ρ).map norm = A) :
  DB P ⟨dst, .call c, ty, pos, aft, g⟩ ρ H (KT R H) := by
 refine (Ho (H := H) (Hs := []) (Hf := H) (first := []) (caps := []) hc (.inl ⟨hf, At, At⟩) (A := A) As h (by simpa using hA)).mono ?_
 rintro r H' ⟨Hs', h1, rfl⟩
 cases r with
 | val v' => obtain ⟨h1, rfl⟩ := h1; exact ⟨h1, rfl⟩
 | panic v' => exact h1
theorem Ff {R : AV → Prop} (ho : ops[k]? = some ⟨dst, op, ty, pos, aft, none⟩) (hd : Ht dst n = true) (h : DB P ⟨dst, op, ty, pos, aft, none⟩ (ev τ) H (KT R H))
  (next : ∀ v, R v → AL P r ops (k + 1) ⟨n, put τ dst v, H, D⟩ Q) : AL P r ops k ⟨n, τ, H, D⟩ Q :=
 Ep (S := ⟨n, τ, H, D⟩) ho Al (GW hd) h (fun v H' ⟨h1, h2⟩ => by subst h2; exact next v h1) (fun _ _ h => h.elim)
theorem Js {R : AV → Prop} {j d : Nat} {want : Bool} (ho : ops[k]? = some ⟨dst, op, ty, pos, aft, some (j, want)⟩) (hd : Ht dst n = true) (hj : (ops[j]?).bind (·.dst) = some d) (hb : τ d = .p (.bool want)) (h : DB P ⟨dst, op, ty, pos, aft, some (j, want)⟩ (ev τ) H (KT R H))
  (next : ∀ v, R v → AL P r ops (k + 1) ⟨n, put τ dst v, H, D⟩ Q) : AL P r ops k ⟨n, τ, H, D⟩ Q :=
 Ep (S := ⟨n, τ, H, D⟩) ho (by simp only [DH]; exact ⟨d, hj, hb⟩) (GW hd) h (fun v H' ⟨h1, h2⟩ => by subst h2; exact next v h1) (fun _ _ h => h.elim)
end
section
variable {P : Program} {ops : Array Oper} {n : Nat} {τ₀ : Nat → AV} {D : List EB} {Q : Cy → B2 → Prop} {opn : Nat → Bool} {k : Nat} {τ : Nat → AV} {H : List BT} {rd : YB} {ef : WX} {effs : List Bool} {fx : List (Nat × Sp)} {dst : Option Tmp} {op : Op} {ty : TypeId} {pos : String} {aft : Array Edge}
theorem VS {R : AV → Prop} (fx' : List (Nat × Sp)) (ho : ops[k]? = some ⟨dst, op, ty, pos, aft, none⟩) (hn : opn k = true) (h : DB P ⟨dst, op, ty, pos, aft, none⟩ (ev τ) H (KT R H)) (haft : Ev ops k (fx'.map (·.1)) = true) (hne : ∃ v, R v) (owe : Kr ops k H H rd)
  (next : ∀ v, R v → Hq k (.eff v H) fx ∧ Dr P ops n τ₀ D Q opn (k + 1) (put τ dst v) H rd ((k, H, H) :: ef) (true :: effs) (fx' ++ fx)) : Dr P ops n τ₀ D Q opn k τ H rd ef effs fx :=
 LI fx' ho hn h haft (let ⟨v, hv⟩ := hne; ⟨v, H, hv, rfl⟩) (fun _ _ h => h.elim) (fun v H' ⟨h1, h2⟩ => by subst h2; exact ⟨owe, next v h1⟩)
theorem XE {R : AV → Prop} {j d : Nat} {want : Bool} (fx' : List (Nat × Sp)) (ho : ops[k]? = some ⟨dst, op, ty, pos, aft, some (j, want)⟩) (hn : opn k = true) (hj : (ops[j]?).bind (·.dst) = some d) (hb : τ d = .p (.bool want)) (h : DB P ⟨dst, op, ty, pos, aft, some (j, want)⟩ (ev τ) H (KT R H)) (haft : Ev ops k (fx'.map (·.1)) = true) (hne : ∃ v, R v) (owe : Kr ops k H H rd)
  (next : ∀ v, R v → Hq k (.eff v H) fx ∧ Dr P ops n τ₀ D Q opn (k + 1) (put τ dst v) H rd ((k, H, H) :: ef) (true :: effs) (fx' ++ fx)) : Dr P ops n τ₀ D Q opn k τ H rd ef effs fx :=
 .opn (KT R H) fx' ho hn ⟨d, hj, hb⟩ h haft (let ⟨v, hv⟩ := hne; ⟨v, H, hv, rfl⟩) (fun v H' ⟨_, h2⟩ => by subst h2; exact owe) (fun v H' ⟨h1, h2⟩ => by subst h2; exact (next v h1).1) (fun v H' ⟨h1, h2⟩ => by subst h2; exact (next v h1).2) (fun _ _ h => h.elim)
end
theorem CA {P : Program} {r : Option Nat} {c : Code} {Q : Cy → B2 → Prop} {n : Nat} {τ : Nat → AV} {H : List BT} {D : List EB} (live : List Nat) (d : Nat) (R : AV → Prop) (h : Ib P r c ⟨n, τ, H, D⟩ (RK (fun S' => S'.n = n ∧ S'.D = D ∧ H.Sublist S'.H ∧ R (S'.τ d) ∧ Y6 S'.τ τ live) Q))
  (next : ∀ x, R x → Q .normal ⟨n, mk ((d, x) :: live.map fun t => (t, τ t)), H, D⟩) : Ib P r c ⟨n, τ, H, D⟩ Q := by
 intro F a w hs
 refine wpIn_mono (h F a w hs) ?_
 rintro e a' w' ⟨e', S', F', hq, he, hs', ht⟩
 cases e' with
 | normal =>
  obtain ⟨n', τ', H', D'⟩ := S'
  obtain ⟨h1, h3, h2, h4, h5⟩ := hq
  simp only at h1 h2 h3 h4 h5
  subst h1; subst h3
  have l : Le ⟨n', τ', H', D'⟩ ⟨n', mk ((d, τ' d) :: live.map fun t => (t, τ t)), H, D'⟩ := Hk ⟨rfl, Mc h5⟩ h2
  exact ⟨.normal, _, F', next _ h4, he, hs'.le l, ht.sublist h2⟩
 | exit id => exact ⟨.exit id, S', F', hq, he, hs', ht⟩
 | ret => exact ⟨.ret, S', F', hq, he, hs', ht⟩
 | panic v => exact ⟨.panic v, S', F', hq, he, hs', ht⟩
def M9 (v : AV) : Prop := ∃ b : Bool, v = .p (.bool b)
def aP (v : AV) : Prop := ∃ e : Int, v = .p (.int .i64 e)
end Go.Abs
namespace Go.Eu
open Go.Abs
noncomputable def Mx {α : Type} (a b : α) : Bool := @decide (a = b) (Classical.propDecidable _)
theorem C3 {α : Type} {a b : α} (h : a = b) : Mx a b = true := by simp [Mx, h]
theorem DK {α : Type} {a b : α} (h : a ≠ b) : Mx a b = false := by simp [Mx, h]
theorem F9 {α : Type} {a b : α} : Mx a b = true ↔ a = b := by simp [Mx]
abbrev LV (l : FC) : AV := .agg ((Dw l).map .p)
abbrev cx (ts : List Tm) : AV := .p (.lst (BR ts))
abbrev dA (ls : List FC) : AV := .p (.lst (ls.map Dw))
theorem F3 {ts : List DJ} {i : Nat} {t : DJ} (h : ts[i]? = some t) : (ts.map Ec)[i]? = some (Ec t) := by simp [h]
theorem Jh {ts : List FC} {i : Nat} {t : FC} (h : ts[i]? = some t) : (ts.map Dw)[i]? = some (Dw t) := by simp [h]
def agree {α : Type} (a b : List α) (i : Nat) : Prop := a.take i = b.take i
theorem Is {α : Type} (a b : List α) : agree a b 0 := by simp [agree]
theorem Ij {α : Type} {a b : List α} {i : Nat} {x : α} (h : agree a b i) (ha : a[i]? = some x) (hb : b[i]? = some x) : agree a b (i + 1) := by
 unfold agree at *
 rw [List.take_add_one, List.take_add_one, ha, hb, h]
theorem Jt {α : Type} {a b : List α} {n : Nat} (h : agree a b n) (ha : a.length = n) (hb : b.length = n) : a = b := by
 unfold agree at h
 rwa [List.take_of_length_le Ar, List.take_of_length_le Ar] at h
theorem BP {α : Type} {l : List α} {i : Nat} (h : i < l.length) : ∃ x, l[i]? = some x := ⟨_, List.getElem?_eq_getElem h⟩
abbrev EC : Nat := 1099511627776
def rng (n : Int) : Prop := -9223372036854775808 ≤ n ∧ n ≤ 9223372036854775807
structure W8 (l : FC) : Prop where
 vars : l.vars.length < EC
 c : rng l.const
 v : ∀ v ∈ l.vars, rng v.index ∧ rng v.plus
mutual
def Nd : Tm → Prop
 | .mk k i n ls ks => n.size < EC ∧ ls.length < EC ∧ (∀ l ∈ ls, W8 l) ∧ ks.length < EC ∧ Ic ks ∧ rng k ∧ rng i
def Ic : List Tm → Prop
 | [] => True
 | t :: ts => Nd t ∧ Ic ts
end
theorem DY : ∀ {ts : List Tm} {i : Nat} {t : Tm}, Ic ts → ts[i]? = some t → Nd t
 | [], i, t, _, h => by simp at h
 | a :: ts, 0, t, hn, h => by simp at h; subst h; exact hn.1
 | a :: ts, i + 1, t, hn, h => by simp at h; exact DY hn.2 h
mutual
def depth : Tm → Nat
 | .mk _ _ _ _ ks => Us ks + 1
def Us : List Tm → Nat
 | [] => 0
 | t :: ts => max (depth t) (Us ts)
end
end Go.Eu
namespace Go.Eu
theorem LZ (bs : ByteArray) : ∀ (d i : Nat) (r : List UInt8), bs.size - i = d → ByteArray.toList.loop bs i r = r.reverse ++ bs.data.toList.drop i := by
 intro d
 induction d with
 | zero =>
  intro i r h
  unfold ByteArray.toList.loop
  have : ¬ i < bs.size := by omega
  simp only [this, if_false]
  rw [List.drop_eq_nil_of_le (by have : bs.data.size = bs.size := rfl; simp; omega)]; simp
 | succ d ih =>
  intro i r h
  unfold ByteArray.toList.loop
  have hi : i < bs.size := by omega
  simp only [hi, if_true]
  rw [ih (i + 1) _ Ar]
  have hlt : i < bs.data.toList.length := by have : bs.data.size = bs.size := rfl; simp; omega
  rw [List.drop_eq_getElem_cons hlt]
  have : bs.get! i = bs.data.toList[i] := by
   have h2 : i < bs.data.size := by simpa using hlt
   show bs.data[i]! = _
   rw [getElem!_pos bs.data i h2]; simp
  simp [this]
theorem EH (bs : ByteArray) : bs.toList = bs.data.toList := by
 unfold ByteArray.toList
 rw [LZ bs _ 0 [] rfl]; simp
theorem Qs {a b : ByteArray} (h : a.toList = b.toList) : a = b := by
 rw [EH, EH] at h
 cases a; cases b
 simp at h
 congr
end Go.Eu
namespace Go.Eu
open Go.Abs
mutual
def Dv : Tm → Int → Int
 | .mk _ _ _ _ ks, most => D2 ks most 0
def D2 : List Tm → Int → Int → Int
 | [], _, n => n
 | t :: ts, most, n => if n > most then n else D2 ts most (wr (n + wr (1 + Dv t (wr (most - n)))))
end
theorem PE {l : List Tm} {i : Nat} {t : Tm} {most n : Int} (h : l[i]? = some t) : D2 (l.drop i) most n = if n > most then n else D2 (l.drop (i + 1)) most (wr (n + wr (1 + Dv t (wr (most - n))))) := by
 have hlt : i < l.length := (List.getElem?_eq_some_iff.1 h).1
 rw [List.drop_eq_getElem_cons hlt]
 have : l[i] = t := by simpa [List.getElem?_eq_getElem hlt] using h
 rw [this, D2]
end Go.Eu
namespace Go.Eu
def arity (k : Int) : Int := if k = 4 ∨ k = 5 ∨ k = 6 ∨ k = 7 then 2 else if k = 8 ∨ k = 11 then 3 else if k = 9 ∨ k = 10 then 1 else 0
def below (k i : Int) : Int := if ((i == 1 && (k == 5 || k == 6 || k == 7)) || (i == 2 && k == 11)) = true then 1 else 0
def SG : Tm → Prop
 | .mk kd _ _ _ ks => 0 ≤ kd ∧ kd < 13 ∧ (ks.length : Int) = arity kd
mutual
def wf (vars metas : Int) : Int → Tm → Prop
 | d, .mk kd ix _ _ ks => 0 ≤ kd ∧ kd < 13 ∧ (ks.length : Int) = arity kd ∧ (kd = 0 → 0 ≤ ix ∧ ix - d < vars) ∧ (kd = 12 → 0 ≤ ix ∧ ix < metas) ∧ cZ vars metas kd d 0 ks
def cZ (vars metas : Int) : Int → Int → Nat → List Tm → Prop
 | _, _, _, [] => True
 | kd, d, i, t :: ts => wf vars metas (d + below kd i) t ∧ cZ vars metas kd d (i + 1) ts
end
theorem Vr {vars metas kd d : Int} : ∀ {ks : List Tm} {i : Nat}, (∀ j t, ks[j]? = some t → wf vars metas (d + below kd ((i + j : Nat) : Int)) t) → cZ vars metas kd d i ks
 | [], i, _ => by simp [cZ]
 | t :: ts, i, h => by
  simp only [cZ]
  exact ⟨by have := h 0 t rfl; simpa using this, Vr fun j t' ht => by have := h (j + 1) t' (by simpa using ht); rw [show i + 1 + j = i + (j + 1) by omega]; exact this⟩
theorem D5 (k i : Int) : 0 ≤ below k i ∧ below k i ≤ 1 := by unfold below; split <;> omega
theorem Dl {α : Type} {l : List α} {p : Nat → α → Prop} {i : Nat} {x : α} (h : ∀ j, j < i → ∀ t, l[j]? = some t → p j t) (hx : l[i]? = some x) (hp : p i x) : ∀ j, j < i + 1 → ∀ t, l[j]? = some t → p j t := by
 intro j hj t ht
 rcases Nat.lt_or_ge j i with h' | h'
 ·exact h j h' t ht
 ·have e : j = i := by omega
  subst e
  rw [hx] at ht
  injection ht with ht
  subst ht
  exact hp
end Go.Eu
namespace Go.Abs
section
variable {α : Type}
def MO (is : List Nat) : Nat → List α → List α
 | _, [] => []
 | k, a :: l => bif is.any (Nat.beq k ·) then a :: MO is (k + 1) l else MO is (k + 1) l
theorem Lv (is : List Nat) : ∀ (k : Nat) (l : List α), (MO is k l).Sublist l
 | _, [] => List.Sublist.refl _
 | k, a :: l => by
  simp only [MO]
  cases is.any (Nat.beq k ·)
  ·exact (Lv is (k + 1) l).cons _
  ·exact (Lv is (k + 1) l).cons_cons _
theorem Cj {is : List Nat} {l l' : List α} (h : MO is 0 l = l') : l'.Sublist l := h ▸ Lv is 0 l
def E4 (H : List α) : List Nat → List α → Prop
 | [], xs => xs = []
 | i :: is, xs => ∃ x xs', xs = x :: xs' ∧ H[i]? = some x ∧ E4 H is xs'
def OX (H : List α) : List Nat → List α → List α
 | i :: is, x :: xs => OX (H.set i x) is xs
 | _, _ => H
def DD (is : List Nat) : Nat → List α → List α
 | _, [] => []
 | k, a :: l => if k ∈ is then DD is (k + 1) l else a :: DD is (k + 1) l
theorem Mh : ∀ (k : Nat) (l : List α), DD [] k l = l
 | _, [] => rfl
 | k, a :: l => by simp [DD, Mh (k + 1) l]
theorem Ma {is : List Nat} {j : Nat} : ∀ (k : Nat) (l : List α), j < k → DD (j :: is) k l = DD is k l
 | _, [], _ => rfl
 | k, a :: l, h => by
  have : k ≠ j := by omega
  have ih := Ma (is := is) (j := j) (k + 1) l Ar
  simp [DD, this, ih]
theorem LF {is : List Nat} {x : α} : ∀ (l : List α) (k i : Nat), l[i]? = some x → (k + i) ∉ is → (DD is k l).Perm (x :: DD ((k + i) :: is) k l)
 | [], k, i, h, _ => by simp at h
 | a :: l, k, 0, h, hn => by
  simp at h hn; subst h
  simp [DD, hn, Ma (k + 1) l (Nat.lt_succ_self k)]
 | a :: l, k, i + 1, h, hn => by
  simp at h
  have ih := LF l (k + 1) i h (by rw [show k + 1 + i = k + (i + 1) by omega]; exact hn)
  rw [show k + 1 + i = k + (i + 1) by omega] at ih
  have hk : k ≠ k + (i + 1) := by omega
  simp only [DD, List.mem_cons, hk, false_or]
  split
  ·exact ih
  ·exact (ih.cons a).trans (.swap _ _ _)
theorem Cx {H : List α} : ∀ {is : List Nat} {xs : List α}, is.Nodup → E4 H is xs → H.Perm (xs ++ DD is 0 H)
 | [], xs, _, h => by simp only [E4] at h; subst h; simp [Mh]
 | i :: is, xs, hn, h => by
  obtain ⟨x, xs', rfl, hx, hr⟩ := h
  have hn' := List.nodup_cons.1 hn
  have ih := Cx hn'.2 hr
  have := LF (is := is) H 0 i hx (by simpa using hn'.1)
  simp only [Nat.zero_add] at this
  exact ih.trans (((List.Perm.refl xs').append this).trans List.perm_middle)
theorem MZ {is : List Nat} {y : α} : ∀ (l : List α) (k i : Nat), (k + i) ∈ is → DD is k (l.set i y) = DD is k l
 | [], k, i, _ => by simp
 | a :: l, k, 0, h => by simp at h; simp [DD, h]
 | a :: l, k, i + 1, h => by
  have := MZ (y := y) l (k + 1) i (by rw [show k + 1 + i = k + (i + 1) by omega]; exact h)
  simp only [List.set_cons_succ, DD, this]
theorem Nl {i : Nat} {y : α} : ∀ {is : List Nat} {xs H : List α}, i ∉ is → E4 H is xs → E4 (H.set i y) is xs
 | [], xs, H, _, h => h
 | j :: is, xs, H, hn, h => by
  obtain ⟨x, xs', rfl, hx, hr⟩ := h
  simp at hn
  exact ⟨x, xs', At, by rw [List.getElem?_set_ne hn.1]; exact hx, Nl hn.2 hr⟩
theorem PO : ∀ {is : List Nat} {xs xs' H : List α}, is.Nodup → E4 H is xs → xs'.length = xs.length → E4 (OX H is xs') is xs' ∧ (∀ ks k, (∀ i ∈ is, k + i ∈ ks) → DD ks k (OX H is xs') = DD ks k H) ∧ ∀ j, j ∉ is → (OX H is xs')[j]? = H[j]?
 | [], xs, xs', H, _, h, hl => by
  simp only [E4] at h; subst h
  have : xs' = [] := by simpa using hl
  subst this
  exact ⟨At, fun _ _ _ => At, fun _ _ => At⟩
 | i :: is, xs, xs', H, hn, h, hl => by
  obtain ⟨x, xr, rfl, hx, hr⟩ := h
  have hn' := List.nodup_cons.1 hn
  cases xs' with
  | nil => simp at hl
  | cons y ys =>
   have hlt : i < H.length := (List.getElem?_eq_some_iff.1 hx).1
   obtain ⟨h1, h2, h3⟩ := PO (H := H.set i y) hn'.2 (Nl hn'.1 hr) (by simpa using hl)
   refine ⟨⟨y, ys, At, by rw [OX, h3 i hn'.1]; simp [hlt], h1⟩, fun ks k hk => ?_, fun j hj => ?_⟩
   ·rw [OX, h2 ks k (fun q hq => hk q (by simp [hq])), MZ _ _ _ (hk i As)]
   ·simp at hj
    rw [OX, h3 j hj.2, List.getElem?_set_ne (fun e => hj.1 e.symm)]
theorem Pc {is : List Nat} {xs xs' H : List α} (hn : is.Nodup) (h : E4 H is xs) (hl : xs'.length = xs.length) : (OX H is xs').Perm (xs' ++ DD is 0 H) := by
 obtain ⟨h1, h2, _⟩ := PO hn h hl
 have := Cx hn h1
 rwa [h2 is 0 (fun i hi => by simpa using hi)] at this
end
def YT (τ : Nat → AV) (x : AV) : List Nat → Prop
 | [] => True
 | t :: r => τ t = x ∧ YT τ x r
theorem ID {τ : Nat → AV} {x : AV} : ∀ {ts : List Nat}, YT τ x ts → ∀ t ∈ ts, τ t = x
 | [], _, t, h => by simp at h
 | a :: r, h, t, ht => by
  rcases List.mem_cons.1 ht with rfl | ht
  ·exact h.1
  ·exact ID h.2 t ht
section
variable {P : Program} {S : B2} {a T n b i : Nat} {cs : List AV} {v : AV}
theorem Bn (hT : Di P T = some (true, n)) (ha : S.τ a = .ptr b 0) (hi : S.H[i]? = some (.box b cs)) (hn : cs.length = n) : Xu P S (.cell a T) (.agg cs) := by
 obtain ⟨d, h1, h2, h3⟩ := EY hT
 exact ⟨b, cs, i, ha, hi, .inl ⟨d, h1, h2, by rw [h3, hn], rfl⟩⟩
theorem RH (hT : Di P T = some (false, n)) (ha : S.τ a = .ptr b 0) (hi : S.H[i]? = some (.box b [v])) : Xu P S (.cell a T) v := by
 obtain ⟨d, h1, h2, h3⟩ := EY hT
 exact ⟨b, [v], i, ha, hi, .inr ⟨d, h1, h2, At⟩⟩
end
section
variable {P : Program} {dst : Option Tmp} {ty : TypeId} {pos : String} {aft : Array Edge} {g : Option (Nat × Bool)} {ρ : Operand → AV} {H Hs Hs' : List BT} {x y z : Operand} {v : AV} {c : Call} {f : Operand} {fid : FuncId} {first caps A : List AV}
theorem DB.permD {o : Oper} {H H' H'' : List BT} (h : Dg P o ρ H v H') (hp : H'.Perm H'') : Dg P o ρ H v H'' := by
 intro r F S a w hs hH hρ hd
 have := h r F S a w hs hH hρ hd
 refine L4 this ?_ ?_
 ·rintro a' w' ⟨v', H1, F', ⟨rfl, rfl⟩, hs', ht⟩
  exact ⟨v', H'', F', ⟨At, At⟩, ⟨hs'.size, hs'.tmp, hs'.heap.perm hp, hs'.defs⟩, { ht with keys := fun o ho => ht.keys o (hp.mem_iff.2 ho) }⟩
 ·rintro e a' w' ⟨v', H1, F', u, h, _⟩
  exact h.elim
theorem B6 (is : List Nat) (hc : c.callee = .value f) (hf : (ρ f = .p (.fn fid) ∧ first = [] ∧ caps = []) ∨ ρ f = .fn (.func fid) first caps) (h : Bt P fid A Hs (DC v Hs')) (hg : E4 H is Hs) (hn : is.Nodup) (hl : Hs'.length = Hs.length) (hA : first ++ c.args.toList.map ρ ++ caps = A ∨ (first ++ c.args.toList.map ρ ++ caps).map norm = A) :
  Dg P ⟨dst, .call c, ty, pos, aft, g⟩ ρ H v (OX H is Hs') :=
 DB.permD (Xw hc hf (Cx hn hg) h hA) (Pc hn hg hl).symm
theorem DX {T T2 e e2 : TypeId} {sz bytes n2 n3 c i n : Nat} {o : Option Nat} {rows rows' rows2 : List (List PV)} {zv : Value} (hT : FB P T = some (e, sz, bytes)) (hT2 : FB P T2 = some (e2, n2, n3)) (hz : zeroOf P e = some zv) (hzs : zv.cells.size = sz) (hb0 : (Nat.blt 0 sz && Nat.blt 0 bytes) = true)
  (hx : ρ x = .vs o n c) (hn : n = rows.length) (hi : H[i]? = some (.vec o sz rows c)) (hy : norm (ρ y) = .p (.lst rows')) (hsol : ∀ r ∈ rows', Dj sz r) (hroom : 2 * (rows.length + rows'.length) * bytes ≤ 281474976710656) (h2 : rows ++ rows' = rows2) :
  DB P ⟨dst, .call { callee := .builtin .append, args := #[x, y], argTypes := #[T, T2] }, ty, pos, aft, g⟩ ρ H (Kx i sz rows2 H) := by
 subst h2; exact ND hT hT2 hz hzs hb0 hx hn hi hy hsol hroom
theorem Xd {F : Nat → Prop} {w : World} {u : Value} (h : CR F w (.p .nils) u) : CR F w (.vs none 0 0) u := by
 simp only [CR, CV] at *
 exact ⟨trivial, trivial, none, h⟩
theorem R0 {α : Type} : ∀ {us cs : List α}, us.length = cs.length → splice cs 0 us = us := by
 have key : ∀ (us : List α) (pre cs : List α), us.length = cs.length → splice (pre ++ cs) pre.length us = pre ++ us := by
  intro us
  induction us with
  | nil => intro pre cs h; have : cs = [] := by simpa using h.symm
           subst this; simp [splice]
  | cons u us ih =>
   intro pre cs h
   cases cs with
   | nil => simp at h
   | cons c cs =>
    simp only [splice]
    have := ih (pre ++ [u]) cs (by simpa using h)
    have e : (pre ++ c :: cs).set pre.length u = pre ++ [u] ++ cs := by simp
    rw [e]
    simpa using this
 intro us cs h
 exact key us [] cs h
theorem A6 {T : TypeId} {bl : Bool} {n b i : Nat} {cs us : List AV} (hT : Di P T = some (bl, n + 1)) (hx : ρ x = .ptr b 0) (hi : H[i]? = some (.box b cs)) (hy : Ei (ρ y) = some us) (hn : us.length = n + 1)
  (ho : cs.length = n + 1) (h1 : us.all one = true) : Dg P ⟨dst, .store T x y, ty, pos, aft, g⟩ ρ H (.p .any) (H.set i (.box b us)) := by
 have := Bk (P := P) (dst := dst) (ty := ty) (pos := pos) (aft := aft) (g := g) hT hx hi hy hn (by rw [ho]; simp) h1
 rwa [R0 (by rw [hn, ho])] at this
theorem Fy {T : TypeId} {bl : Bool} {b i j sz c : Nat} {rows rows2 : List (List PV)} {us : List AV} {r : List PV} (hT : Di P T = some (bl, sz)) (hpos : Nat.blt 0 sz = true) (hx : ρ x = .ptr b (j * sz)) (hi : H[i]? = some (.vec (some b) sz rows c)) (hj : j < rows.length) (hy : Ei (ρ y) = some us) (hp : F8 (us.map dn) = some r) (hrl : r.length = sz) (h1 : us.all one = true) (h2 : rows.set j r = rows2) :
  Dg P ⟨dst, .store T x y, ty, pos, aft, g⟩ ρ H (.p .any) (H.set i (.vec (some b) sz rows2 c)) := by
 subst h2; exact OY hT hpos hx hi hj hy hp hrl h1
theorem EA {T e : TypeId} {sz bytes lo hi : Nat} {rows rows2 : List (List PV)} {l h : Option Operand} (hT : FB P T = some (e, sz, bytes)) (hx : ρ x = .p (.lst rows)) (hr : ∀ r ∈ rows, r.length = sz)
  (hl : match l with | none => lo = 0 | some y => ∃ k, ρ y = .p (.int k lo)) (hh : match h with | none => hi = rows.length | some y => ∃ k, ρ y = .p (.int k hi)) (h1 : lo ≤ hi) (h2 : hi ≤ rows.length) (h3 : (rows.take hi).drop lo = rows2) :
  Dg P ⟨dst, .slice T x l h none, ty, pos, aft, g⟩ ρ H (.p (.lst rows2)) H := by
 subst h3; exact Tz hT hx hr hl hh h1 h2
end
section
variable {P : Program} {r : Option Nat} {ops : Array Oper} {Q : Cy → B2 → Prop} {k : Nat} {n : Nat} {τ : Nat → AV} {H H' : List BT} {D : List EB} {dst : Option Tmp} {op : Op} {ty : TypeId} {pos : String} {aft : Array Edge} {v : AV}
theorem V1 (ho : ops[k]? = some ⟨dst, op, ty, pos, aft, none⟩) (hd : Ht dst n = true) (h : DB P ⟨dst, op, ty, pos, aft, none⟩ (ev τ) H (V8 H))
  (next : ∀ b, AL P r ops (k + 1) ⟨n, put τ dst (.map b), .map b (Yx []) :: H, D⟩ Q) : AL P r ops k ⟨n, τ, H, D⟩ Q :=
 Ep (S := ⟨n, τ, H, D⟩) ho Al (GW hd) h (fun v H' ⟨b, h1, h2⟩ => by subst h1; subst h2; exact next b) (fun _ _ h => h.elim)
end
theorem leH {is : List Nat} {H H1 H' : List BT} (h : MO is 0 H = H1) (w : Et H1 H') : YU H H' := ⟨H1, Cj h, w⟩
theorem Cq {x y : AV} (h : norm x = y) : Nn x y := fun _ _ _ hr => h ▸ hr.norm
theorem D4 : Et [] [] := rfl
theorem wl {o o' : BT} {l l' : List BT} (h : KO o o') (r : Et l l') : Et (o :: l) (o' :: l') := ⟨o', l', rfl, h, r⟩
theorem on {b : Nat} {cs cs' : List AV} (h : cs.map dn = cs') : KO (.box b cs) (.box b cs') := ⟨rfl, fun F w hr => by
 obtain ⟨vs, T, h1, h2⟩ := hr
 exact ⟨vs, T, h1, h ▸ KD h2⟩⟩
theorem C9 {n : Nat} {τ : Nat → AV} {H : List BT} {D : List EB} {i b : Nat} {cs : List AV} (hi : H[i]? = some (.box b cs)) : Gs ⟨n, τ, H, D⟩ ⟨n, τ, H.set i (.box b (cs.map dn)), D⟩ := by
 intro F a w hs
 refine ⟨F, ⟨hs.size, hs.tmp, ?_, hs.defs⟩, ?_⟩
 ·have hk := E9 (x' := .box b (cs.map dn)) hi rfl
  refine ⟨fun o ho c hc => ?_, by show List.Nodup _; rw [hk]; exact hs.heap.nodup, fun o ho => ?_, hs.heap.bd⟩
  ·rcases DG ho with rfl | ⟨j, _, hj⟩
   ·exact hs.heap.sub _ (List.mem_of_getElem? hi) c hc
   ·exact hs.heap.sub _ (List.mem_of_getElem? hj) c hc
  ·rcases DG ho with rfl | ⟨j, _, hj⟩
   ·exact (on At).2 F w (hs.heap.obj _ (List.mem_of_getElem? hi))
   ·exact hs.heap.obj _ (List.mem_of_getElem? hj)
 ·refine { Trans.refl (F := F) (H := H) (w := w) with keys := fun o ho c hc => ?_ }
  rcases DG ho with rfl | ⟨j, _, hj⟩
  ·exact .inl ⟨_, List.mem_of_getElem? hi, hc⟩
  ·exact .inl ⟨_, List.mem_of_getElem? hj, hc⟩
theorem Ef {n : Nat} {τ : Nat → AV} {H : List BT} {D : List EB} (t : Nat) : Gs ⟨n, τ, H, D⟩ ⟨n, put τ (some t) (norm (τ t)), H, D⟩ := NW fun _ _ _ h => h.norm
theorem ob {b : Nat} {cs cs' : List AV} (h : cs = cs') : KO (.box b cs) (.box b cs') := oe (by rw [h])
def Wi (mkv : AV → AV) (sz : Nat) (rows : List (List PV)) : Db → List BT → Prop
 | .val v, H' => ∃ o c, v = mkv (.vs o rows.length c) ∧ H' = [.vec o sz rows c]
 | .panic _, _ => False
section
variable {P : Program} {r : Option Nat} {ops : Array Oper} {Q : Cy → B2 → Prop} {k : Nat} {n : Nat} {τ : Nat → AV} {H H' : List BT} {D : List EB} {dst : Option Tmp} {op : Op} {ty : TypeId} {pos : String} {aft : Array Edge} {v : AV}
theorem Uj {c : Call} {f : Operand} {fid : FuncId} {first caps : List AV} {A : List AV} {mkv : AV → AV} {sz : Nat} {rows : List (List PV)}
  (ho : ops[k]? = some ⟨dst, .call c, ty, pos, aft, none⟩) (hd : Ht dst n = true)
  (hc : c.callee = .value f) (hf : (ev τ f = .p (.fn fid) ∧ first = [] ∧ caps = []) ∨ ev τ f = .fn (.func fid) first caps) (h : Bt P fid A [] (Wi mkv sz rows)) (hA : first ++ c.args.toList.map (ev τ) ++ caps = A ∨ (first ++ c.args.toList.map (ev τ) ++ caps).map norm = A)
  (next : ∀ o cp, AL P r ops (k + 1) ⟨n, put τ dst (mkv (.vs o rows.length cp)), .vec o sz rows cp :: H, D⟩ Q) : AL P r ops k ⟨n, τ, H, D⟩ Q :=
 LU ho hd hc hf (Hs := []) (Hf := H) As h hA (fun v H' ⟨o, cp, h1, h2⟩ => by subst h1; subst h2; exact next o cp) (fun _ _ h => h.elim)
end
theorem SW {P : Program} {f : FuncId} {args : List AV} {pre post : List AV} {sz : Nat} {rows : List (List PV)} (h : Bt P f args [] (Wi (fun v => .tup (pre ++ v :: post)) sz rows)) (hb : ∀ x ∈ pre ++ post, ∀ F F' w v, C7 F w F' w → CR F w x v → CR F' w x v) :
  G5 P f args (.tup (pre ++ .p (.lst rows) :: post)) := by
 refine ⟨h.1, fun F w vs hH ha => (h.2 F w vs hH ha).mono ?_⟩
 rintro e w' ⟨r, H', F', hR, he, hH', ht⟩
 cases r with
 | panic v => exact hR.elim
 | val v =>
  obtain ⟨o, c, rfl, rfl⟩ := hR
  obtain ⟨u, rfl, hu⟩ := he
  have hbd : ∀ b, o = some b → b < w'.heap.size := fun b hb => hH'.bd b (hH'.sub _ (List.mem_cons_self ..) b (by rw [← hb]; rfl))
  have st : C7 F' w' (fun b => F' b ∧ o ≠ some b) w' := ⟨Nat.le_refl _, fun _ _ _ => rfl, fun _ h _ h' => h h'.1⟩
  have hob := hH'.obj _ (List.mem_cons_self ..)
  refine ⟨.val (.tup (pre ++ .p (.lst rows) :: post)), [], fun b => F' b ∧ o ≠ some b, ⟨At, At⟩, ⟨u, At, ?_⟩, ?_, ?_⟩
  ·simp only [CR] at hu ⊢
   obtain ⟨us, hus, hr⟩ := hu
   refine ⟨us, hus, ?_⟩
   have key : ∀ (pre : List AV) (us : List Value), (∀ x ∈ pre ++ post, ∀ F F' w v, C7 F w F' w → CR F w x v → CR F' w x v) → B0 F' w' (pre ++ .vs o rows.length c :: post) us → B0 (fun b => F' b ∧ o ≠ some b) w' (pre ++ .p (.lst rows) :: post) us := by
    intro pre
    induction pre with
    | nil =>
     intro us hb hr
     simp only [List.nil_append, B0] at hr ⊢
     obtain ⟨u, us', rfl, h1, h2⟩ := hr
     refine ⟨u, us', At, HY hbd hob h1 _ st (fun b hb h => h.2 hb), ?_⟩
     exact B0.mono st _ _ h2
    | cons x pre ih =>
     intro us hb hr
     simp only [List.cons_append, B0] at hr ⊢
     obtain ⟨u, us', rfl, h1, h2⟩ := hr
     exact ⟨u, us', rfl, hb x As _ _ _ _ st h1, ih us' (fun y hy => hb y (by simp at hy ⊢; rcases hy with h | h <;> simp [h])) h2⟩
   exact key pre us hb hr
  ·exact ⟨fun _ h => by simp at h, by simp, fun _ h => by simp at h, fun b hb => hH'.bd b hb.1⟩
  ·refine ⟨ht.size, fun b hb hn => ht.same b hb hn, fun b hb hn => ⟨ht.keep b hb hn, ?_⟩, fun b hb => ht.fresh b hb.1, fun _ h => by simp at h, ht.os, ht.out, ht.tape⟩
   intro ho
   subst ho
   have := hH.bd b hb
   rcases ht.keys _ (List.mem_cons_self ..) b rfl with ⟨o', ho', _⟩ | h
   ·simp at ho'
   ·omega
theorem Qe (c : AV) (F F' : Nat → Prop) (w : World) (v : Value) (st : C7 F w F' w) (h : CR F w c v) : CR F' w c v := CR.mono st _ _ h
def G1 : List AV → List AV → Prop
 | [], ys => ys = []
 | x :: xs, ys => ∃ y ys', ys = y :: ys' ∧ Nn x y ∧ G1 xs ys'
theorem Cv : G1 [] [] := rfl
theorem aw {x y : AV} {xs ys : List AV} (h : Nn x y) (r : G1 xs ys) : G1 (x :: xs) (y :: ys) := ⟨y, ys, rfl, h, r⟩
theorem Jo {F : Nat → Prop} {w : World} : ∀ {xs ys : List AV} {vs : List Value}, G1 xs ys → B0 F w xs vs → B0 F w ys vs
 | [], ys, vs, h, hr => by simp only [G1] at h; subst h; exact hr
 | x :: xs, ys, vs, h, hr => by
  obtain ⟨y, ys', rfl, h1, h2⟩ := h
  simp only [B0] at hr ⊢
  obtain ⟨u, us, rfl, r1, r2⟩ := hr
  exact ⟨u, us, At, h1 F w u r1, Jo h2 r2⟩
theorem Fm : Nn (.p .nils) (.vs none 0 0) := fun _ _ _ h => Xd h
theorem Bt.args {P : Program} {f : FuncId} {args A : List AV} {H : List BT} {R : Db → List BT → Prop} (h : Bt P f A H R) (hA : G1 args A) : Bt P f args H R :=
 ⟨h.1, fun F w vs hH ha => h.2 F w vs hH (Jo hA ha)⟩
section
variable {P : Program} {r : Option Nat} {ops : Array Oper} {Q : Cy → B2 → Prop} {k : Nat} {n : Nat} {τ : Nat → AV} {H Hs : List BT} {D : List EB} {dst : Option Tmp} {op : Op} {ty : TypeId} {pos : String} {aft : Array Edge} {v : AV} {c : Call} {f : Operand} {fid : FuncId} {first caps A : List AV} {R : Db → List BT → Prop}
theorem O6 {S : B2} {H' : List BT} (hp : S.H.Perm H') : Gs S ⟨S.n, S.τ, H', S.D⟩ := fun F a w hs =>
 ⟨F, ⟨hs.size, hs.tmp, hs.heap.perm hp, hs.defs⟩, { Trans.refl (F := F) (H := S.H) (w := w) with keys := fun o ho b hb => .inl ⟨o, hp.mem_iff.2 ho, hb⟩ }⟩
theorem Vv (is : List Nat) (ho : ops[k]? = some ⟨dst, .call c, ty, pos, aft, none⟩) (hd : Ht dst n = true)
  (hc : c.callee = .value f) (hf : (ev τ f = .p (.fn fid) ∧ first = [] ∧ caps = []) ∨ ev τ f = .fn (.func fid) first caps) (h : Bt P fid A Hs R) (hg : E4 H is Hs) (hn : is.Nodup) (hA : G1 (first ++ c.args.toList.map (ev τ) ++ caps) A)
  (next : ∀ v Hs', R (.val v) Hs' → Hs'.length = Hs.length ∧ AL P r ops (k + 1) ⟨n, put τ dst v, OX H is Hs', D⟩ Q) (pan : ∀ v Hs', R (.panic v) Hs' → Q (.panic v) ⟨n, τ, Hs' ++ DD is 0 H, D⟩) : AL P r ops k ⟨n, τ, H, D⟩ Q :=
 LU ho hd hc hf (Cx hn hg) (h.args hA) (.inl rfl) (fun v H' hR => by
  obtain ⟨hl, hn'⟩ := next v H' hR
  exact C4 (O6 (S := ⟨n, put τ dst v, H' ++ DD is 0 H, D⟩) (Pc hn hg hl).symm) hn') pan
theorem M7 (is : List Nat) (ho : ops[k]? = some ⟨dst, .call c, ty, pos, aft, none⟩) (hd : Ht dst n = true)
  (hc : c.callee = .value f) (hf : (ev τ f = .p (.fn fid) ∧ first = [] ∧ caps = []) ∨ ev τ f = .fn (.func fid) first caps) (h : Bt P fid A Hs R) (hg : E4 H is Hs) (hn : is.Nodup) (hA : G1 (first ++ c.args.toList.map (ev τ) ++ caps) A)
  (next : ∀ v Hs', R (.val v) Hs' → AL P r ops (k + 1) ⟨n, put τ dst v, Hs' ++ DD is 0 H, D⟩ Q) (pan : ∀ v Hs', R (.panic v) Hs' → Q (.panic v) ⟨n, τ, Hs' ++ DD is 0 H, D⟩) : AL P r ops k ⟨n, τ, H, D⟩ Q :=
 LU ho hd hc hf (Cx hn hg) (h.args hA) (.inl rfl) next pan
theorem GJ {sz : Nat} : Gs ⟨n, τ, H, D⟩ ⟨n, τ, .vec none sz [] 0 :: H, D⟩ := by
 intro F a w hs
 have hH : HRel F (.vec none sz [] 0 :: H) w := ⟨fun o ho b hb => by
   rcases List.mem_cons.1 ho with rfl | ho
   ·cases hb
   ·exact hs.heap.sub o ho b hb, by simpa [List.filterMap_cons, BT.key] using hs.heap.nodup, fun o ho => by
   rcases List.mem_cons.1 ho with rfl | ho
   ·exact ⟨At, At⟩
   ·exact hs.heap.obj o ho, hs.heap.bd⟩
 exact ⟨F, ⟨hs.size, hs.tmp, hH, hs.defs⟩, ⟨Nat.le_refl _, fun _ _ _ => At, fun _ h _ => h, fun _ h => .inl h, fun o ho b hb => by
   rcases List.mem_cons.1 ho with rfl | ho
   ·cases hb
   ·exact .inl ⟨o, ho, hb⟩, At, At, At⟩⟩
end
section
variable {P : Program} {r : Option Nat} {ops : Array Oper} {Q : Cy → B2 → Prop} {k : Nat} {n : Nat} {τ : Nat → AV} {H : List BT} {D : List EB} {o : Option Nat} {sz cp i : Nat} {rows : List (List PV)}
theorem Qp {F : Nat → Prop} {w : World} {a : Act} (hs : DP F ⟨n, τ, H, D⟩ a w) (hi : H[i]? = some (.vec o sz rows cp)) (hne : 0 < rows.length) : ∃ b, o = some b := by
 have := hs.heap.obj _ (List.mem_of_getElem? hi)
 cases o with
 | none => obtain ⟨h, _⟩ := this; simp [h] at hne
 | some b => exact ⟨b, rfl⟩
theorem Pk (hi : H[i]? = some (.vec o sz rows cp)) (hne : 0 < rows.length) (next : ∀ b, o = some b → AL P r ops k ⟨n, τ, H, D⟩ Q) : AL P r ops k ⟨n, τ, H, D⟩ Q := fun F a w hs => by
 obtain ⟨b, hb⟩ := Qp hs hi hne
 exact next b hb F a w hs
theorem RB {c : Code} (hi : H[i]? = some (.vec o sz rows cp)) (hne : 0 < rows.length) (next : ∀ b, o = some b → Ib P r c ⟨n, τ, H, D⟩ Q) : Ib P r c ⟨n, τ, H, D⟩ Q := fun F a w hs => by
 obtain ⟨b, hb⟩ := Qp hs hi hne
 exact next b hb F a w hs
end
section
variable {P : Program} {dst : Option Tmp} {ty : TypeId} {pos : String} {aft : Array Edge} {g : Option (Nat × Bool)} {ρ : Operand → AV} {H : List BT}
theorem Bp {a : Operand} {T e : TypeId} {n n1 n2 : Nat} {rows : List (List PV)} (hT : FB P T = some (e, n1, n2)) (hx : ρ a = .p (.lst rows)) (hn : rows.length = n) :
  Dg P ⟨dst, .call { callee := .builtin .len, args := #[a], argTypes := #[T] }, ty, pos, aft, g⟩ ρ H (.p (.int .i64 n)) H := KY hT (.inl ⟨rows, hx, hn⟩)
theorem JO {a : Operand} {T e : TypeId} {m n n1 n2 c : Nat} {o : Option Nat} (hT : FB P T = some (e, n1, n2)) (hx : ρ a = .vs o m c) (hn : m = n) :
  Dg P ⟨dst, .call { callee := .builtin .len, args := #[a], argTypes := #[T] }, ty, pos, aft, g⟩ ρ H (.p (.int .i64 n)) H := KY hT (.inr (.inl ⟨o, c, by rw [hx, hn]⟩))
end
section
variable {P : Program} {dst : Option Tmp} {ty : TypeId} {pos : String} {aft : Array Edge} {g : Option (Nat × Bool)} {ρ : Operand → AV} {H : List BT} {x y : Operand}
theorem Ug {m n : Int} {T U : TypeId} (hx : ρ x = .p (.int .i64 m)) (hy : ρ y = .p (.int .i64 n)) : Dg P ⟨dst, .binOp .mul T x y U, ty, pos, aft, g⟩ ρ H (.p (.int .i64 (wr (m * n)))) H :=
 CT fun F w E hH hE => by
  have e1 := hE x Ah
  have e2 := hE y Ah
  rw [hx] at e1
  rw [hy] at e2
  simp only [CR, CV] at e1 e2
  exact ⟨.int .i64 (wr (m * n)), by simp [execOp, Sem.run_bind, Fl, e1, e2, binOp, Op.intArith], by simp [CR, CV]⟩
end
section
variable {P : Program} {ops : Array Oper} {n : Nat} {τ₀ : Nat → AV} {D : List EB} {Q : Cy → B2 → Prop} {opn : Nat → Bool} {k : Nat} {τ : Nat → AV} {H : List BT} {rd : YB} {ef : WX} {effs : List Bool} {fx : List (Nat × Sp)} {dst : Option Tmp} {ty : TypeId} {pos : String} {aft : Array Edge} {c : Call} {f : Operand} {fid : FuncId} {first caps A : List AV} {mkv : AV → AV} {sz : Nat} {rows : List (List PV)}
end
section
variable {P : Program} {dst : Option Tmp} {ty : TypeId} {pos : String} {aft : Array Edge} {g : Option (Nat × Bool)} {ρ : Operand → AV} {H Hs Hs' : List BT} {v : AV} {c : Call} {f : Operand} {fid : FuncId} {first caps A : List AV}
theorem DA (hc : c.callee = .value f) (hf : ρ f = .p (.fn fid)) (h : G5 P fid A v) (hA : G1 (c.args.toList.map ρ) A) : Dg P ⟨dst, .call c, ty, pos, aft, g⟩ ρ H v H := Bg hc hf (h.args hA) rfl
end
end Go.Abs
namespace Go.Eu
open Go.Abs
structure Mv where
 type : Tm
 known : Bool
 value : Tm
 cls : Bool
 deriving Inhabited
def Cf (n : Int) : List PV := [I n]
def Ch (s : ByteArray) : List PV := [.str s]
def gb (b : Bool) : List PV := [.bool b]
def aS (m : Mv) : List PV := Be m.type ++ (.bool m.known :: (Be m.value ++ [.bool m.cls]))
theorem Ds {ts : List Int} {i : Nat} {t : Int} (h : ts[i]? = some t) : (ts.map Cf)[i]? = some (Cf t) := by simp [h]
theorem Ni {ts : List ByteArray} {i : Nat} {t : ByteArray} (h : ts[i]? = some t) : (ts.map Ch)[i]? = some (Ch t) := by simp [h]
abbrev MV (m : Mv) : AV := .agg ((aS m).map .p)
abbrev gl (l : List Mv) : AV := .p (.lst (l.map aS))
abbrev gk (l : List Int) : AV := .p (.lst (l.map Cf))
def eL (sz : Nat) {α : Type} (f : α → List PV) : Prop := ∀ a, Dj sz (f a)
theorem Fi {α : Type} {sz : Nat} {f : α → List PV} (h : ∀ a, Dj sz (f a)) (l : List α) : ∀ r ∈ l.map f, Dj sz r := by
 intro r hr
 obtain ⟨a, _, rfl⟩ := List.mem_map.1 hr
 exact h a
theorem Iw (t : Tm) : Dj 5 (Be t) := by
 obtain ⟨k, i, n, l, s⟩ := t
 refine ⟨At, ?_⟩
 intro c hc
 simp [Be] at hc
 rcases hc with rfl | rfl | rfl | rfl | rfl <;> simp
theorem CC (l : List Tm) : ∀ r ∈ BR l, Dj 5 r := by rw [Ee]; exact Fi Iw l
theorem KE (l : List Int) : ∀ r ∈ l.map Cf, Dj 1 r := Fi (f := Cf) (fun a => ⟨rfl, by simp [Cf]⟩) l
theorem MG (l : List ByteArray) : ∀ r ∈ l.map Ch, Dj 1 r := Fi (f := Ch) (fun a => ⟨rfl, by simp [Ch]⟩) l
theorem Kd (l : List DJ) : ∀ r ∈ l.map Ec, Dj 2 r := Fi (f := Ec) (fun a => ⟨rfl, by simp [Ec]⟩) l
theorem Lx (l : List FC) : ∀ r ∈ l.map Dw, Dj 2 r := Fi (f := Dw) (fun a => ⟨rfl, by simp [Dw]⟩) l
theorem Bz {sz : Nat} {rows : List (List PV)} (h : ∀ r ∈ rows, Dj sz r) : ∀ r ∈ rows, r.length = sz := fun r hr => (h r hr).1
theorem Lg (a b : List Tm) : BR a ++ BR b = BR (a ++ b) := by simp [Ee]
theorem IE {α : Type} {f : α → List PV} (a b : List α) : a.map f ++ b.map f = (a ++ b).map f := by simp
theorem YQ (l : List Tm) (j : Nat) (x : Tm) : (BR l).set j (Be x) = BR (l.set j x) := by simp [Ee, List.map_set]
theorem V0 {α : Type} {f : α → List PV} (l : List α) (j : Nat) (x : α) : (l.map f).set j (f x) = (l.set j x).map f := by simp [List.map_set]
theorem YN (l : List Tm) (hi : Nat) : ((BR l).take hi).drop 0 = BR (l.take hi) := by simp [Ee, List.map_take]
theorem Y0 {α : Type} {f : α → List PV} (l : List α) (hi : Nat) : ((l.map f).take hi).drop 0 = (l.take hi).map f := by simp [List.map_take]
theorem JH {α : Type} {f : α → List PV} (l : List α) (lo : Nat) : ((l.map f).take (l.map f).length).drop lo = (l.drop lo).map f := by rw [List.take_length, List.map_drop]
theorem Fk {sz : Nat} {r : List PV} (h : Dj sz r) : (r.map AV.p).all one = true := by
 simp only [List.all_eq_true]
 intro x hx
 obtain ⟨c, hc, rfl⟩ := List.mem_map.1 hx
 have := h.2 c hc
 cases c <;> simp_all [one]
theorem CF (t : Tm) : ((Be t).map AV.p).all one = true := Fk (Iw t)
theorem Rc (t : Tm) : F8 (((Be t).map AV.p).map dn) = some (Be t) := by obtain ⟨k, i, n, l, s⟩ := t; rfl
end Go.Eu
namespace Go.Eu
def MD (f a : Tm) : Tm := .mk 4 0 ⟨#[]⟩ [] [f, a]
def apply (f : Tm) (xs : List Tm) : Tm := xs.foldl MD f
theorem OM {f : Tm} {xs : List Tm} {i : Nat} {x : Tm} (h : xs[i]? = some x) : apply f (xs.take (i + 1)) = MD (apply f (xs.take i)) x := by
 simp [apply, List.take_add_one, h]
def Bq : Tm → Tm × List Tm
 | .mk k i n l [f, a] => if k = 4 then ((Bq f).1, (Bq f).2 ++ [a]) else (.mk k i n l [f, a], [])
 | t => (t, [])
theorem OQ {k i : Int} {n : ByteArray} {l : List FC} {ts : List Tm} (h : k ≠ 4 ∨ ((ts.length : Nat) : Int) ≠ 2) : Bq (.mk k i n l ts) = (.mk k i n l ts, []) := by
 unfold Bq
 split
 ·rename_i k' i' n' l' f a e
  injection e with e1 e2 e3 e4 e5
  subst e1 e2 e3 e4 e5
  simp at h
  rw [if_neg h]
 ·rfl
theorem PX {k i : Int} {n : ByteArray} {l : List FC} {ts : List Tm} {x y : Tm} (h : k = 4 ∧ ((ts.length : Nat) : Int) = 2) (hx : ts[0]? = some x) (hy : ts[1]? = some y) : Bq (.mk k i n l ts) = ((Bq x).1, (Bq x).2 ++ [y]) := by
 obtain ⟨rfl, h2⟩ := h
 match ts, h2, hx, hy with
 | [a, b], _, hx, hy =>
  simp at hx hy
  subst hx hy
  simp [Bq]
theorem Ew : ∀ (t : Tm), size (Bq t).1 + B4 (Bq t).2 + (Bq t).2.length = size t
 | .mk k i n l [f, a] => by
  unfold Bq
  split
  ·have := Ew f
   simp [size, B4] at this ⊢
   have e : ∀ (xs : List Tm) (y : Tm), B4 (xs ++ [y]) = B4 xs + size y := by
    intro xs y
    induction xs with
    | nil => simp [B4]
    | cons z zs ih => simp [B4, ih]; omega
   rw [e]
   omega
  ·simp [B4]
 | .mk k i n l [] => by simp [Bq, B4]
 | .mk k i n l [_] => by simp [Bq, B4]
 | .mk k i n l (_ :: _ :: _ :: _) => by simp [Bq, B4]
theorem UF (t : Tm) : (Bq t).2.length < size t := by
 have := Ew t
 have := size_pos (Bq t).1
 omega
def HX (k : Int) (xs : List Tm) (t : Tm) : Tm := xs.foldr (fun a t => .mk k 0 ⟨#[]⟩ [] [a, t]) t
theorem Q6 {k : Int} {xs : List Tm} {t x : Tm} {m j : Nat} (hx : xs[j]? = some x) (hm : m = j + 1) : HX k (xs.drop (m - 1)) t = .mk k 0 ⟨#[]⟩ [] [x, HX k (xs.drop m) t] := by
 subst hm
 have hlt := (List.getElem?_eq_some_iff.1 hx).1
 have e : xs[j] = x := (List.getElem?_eq_some_iff.1 hx).2
 rw [Nat.add_sub_cancel, List.drop_eq_getElem_cons hlt, e]
 rfl
theorem sd : (∀ (p : Prop) [Decidable p], (decide p = true) = p) ∧ (∀ {p : Prop} [Decidable p], decide p = false ↔ ¬p) ∧ (∀ {α : Type} [BEq α] [LawfulBEq α] {a b : α}, (a == b) = true ↔ a = b) ∧ (∀ {α : Type} [BEq α] [LawfulBEq α] {a b : α}, (a != b) = true ↔ a ≠ b) ∧ (∀ {α : Type} [BEq α] [LawfulBEq α] {a b : α}, (a == b) = false ↔ a ≠ b) ∧ (∀ {α : Type} [BEq α] [LawfulBEq α] {a b : α}, (a != b) = false ↔ a = b) ∧ (∀ {α : Type} (a b : α), (a ≠ b) = ¬(a = b)) ∧ (∀ {α : Type} [LT α] {x y : α}, x > y ↔ y < x) ∧ (∀ {α : Type} [LE α] {x y : α}, x ≥ y ↔ y ≤ x) ∧ (∀ (b : Bool), (¬(b = true)) = (b = false)) ∧ (∀ (b : Bool), (¬(b = false)) = (b = true)) ∧ (∀ (b : Bool), ((!b) = true) = (b = false)) ∧ (∀ (b : Bool), ((!b) = false) = (b = true)) ∧ (∀ {a b : Int}, ¬a < b ↔ b ≤ a) ∧ (∀ {a b : Int}, ¬a ≤ b ↔ b < a) :=
 ⟨fun _ => decide_eq_true_eq, decide_eq_false_iff_not, beq_iff_eq, bne_iff_ne, beq_eq_false_iff_ne, bne_eq_false_iff_eq, ne_eq, gt_iff_lt, ge_iff_le, Bool.not_eq_true, Bool.not_eq_false, fun b => by cases b <;> simp, fun b => by cases b <;> simp, Int.not_lt, Int.not_le⟩
theorem se : (∀ (ts : List Tm), (BR ts).length = ts.length) ∧ (∀ {α β : Type} {ays : List α} {f : α → β}, (ays.map f).length = ays.length) ∧ (∀ {α : Type} {n : Nat} {a : α}, (List.replicate n a).length = n) ∧ (∀ (a b : Bool), ((a || b) = true) = (a = true ∨ b = true)) ∧ (∀ (a b : Bool), ((a && b) = true) = (a = true ∧ b = true)) ∧ (∀ {x y : Bool}, (x || y) = false ↔ x = false ∧ y = false) ∧ (∀ {x y : Bool}, (x && y) = false ↔ x = true → y = false) :=
 ⟨Bo, List.length_map _, List.length_replicate, Bool.or_eq_true, Bool.and_eq_true, Bool.or_eq_false_iff, Bool.and_eq_false_imp⟩
end Go.Eu
namespace Go.Eu
open Go.Abs
def Ti (i : Int) : Tm := .mk 0 i ⟨#[]⟩ [] []
def BZ : Tm := .mk 0 0 ⟨#[]⟩ [] []
def OC (er e : Int) : Int := if er = 0 then e else er
def Tg (er i : Int) : Int := if i > 65535 then OC er 24 else er
mutual
def Je : Tm → Int
 | .mk _ _ _ _ ks => Nu 1 ks
def Nu : Int → List Tm → Int
 | n, [] => n
 | n, t :: ts => Nu (wr (n + Je t)) ts
end
mutual
def Hn : Tm → Int
 | .mk _ _ _ _ ks => wr (Lh 0 ks + 1)
def Lh : Int → List Tm → Int
 | n, [] => n
 | n, t :: ts => Lh (max n (Hn t)) ts
end
mutual
def E6 (b fr : Int) : Int → Int → Tm → Tm × Int
 | d, er, .mk k i n l ks =>
  if k = 0 then
   (if i < wr (fr + d) then (.mk k i n l ks, er)
    else if wr (i + b) < wr (fr + d) then (.mk k i n l ks, OC er 24)
    else (Ti (wr (i + b)), Tg er (wr (i + b))))
  else ((.mk k i n l (Gd b fr k d 0 er ks).1), (Gd b fr k d 0 er ks).2)
def Gd (b fr k : Int) : Int → Nat → Int → List Tm → List Tm × Int
 | d, j, er, [] => ([], er)
 | d, j, er, t :: ts => ((E6 b fr (d + below k j) er t).1 :: (Gd b fr k d (j + 1) (E6 b fr (d + below k j) er t).2 ts).1, (Gd b fr k d (j + 1) (E6 b fr (d + below k j) er t).2 ts).2)
end
mutual
def IB (vs : List Tm) : Int → Int → Int → Tm → Tm × Int × Int
 | d, er, nd, .mk k i n l ks =>
  if nd > 4096 then (.mk k i n l ks, er, nd)
  else if k = 0 ∧ i ≥ d ∧ i - d < (vs.length : Int) then
   ((E6 d 0 0 er (vs.getD (i - d).toNat BZ)).1, (E6 d 0 0 er (vs.getD (i - d).toNat BZ)).2, wr (nd + Je (vs.getD (i - d).toNat BZ)))
  else if k = 0 then
   (if i ≥ d then (Ti (wr (i - vs.length)), Tg er (wr (i - vs.length)), wr (nd + 1)) else (.mk k i n l ks, er, wr (nd + 1)))
  else ((.mk k i n l (Mo vs k d 0 er (wr (nd + 1)) ks).1), (Mo vs k d 0 er (wr (nd + 1)) ks).2)
def Mo (vs : List Tm) (k : Int) : Int → Nat → Int → Int → List Tm → List Tm × Int × Int
 | d, j, er, nd, [] => ([], er, nd)
 | d, j, er, nd, t :: ts => ((IB vs (d + below k j) er nd t).1 :: (Mo vs k d (j + 1) (IB vs (d + below k j) er nd t).2.1 (IB vs (d + below k j) er nd t).2.2 ts).1,
   (Mo vs k d (j + 1) (IB vs (d + below k j) er nd t).2.1 (IB vs (d + below k j) er nd t).2.2 ts).2)
end
def P2 (t : Tm) (vs : List Tm) (d : Int) : Tm × Int :=
 if (IB vs (min d 65536) 0 0 t).2.2 > 4096 then (BZ, 5)
 else if (IB vs (min d 65536) 0 0 t).2.1 ≠ 0 then (BZ, (IB vs (min d 65536) 0 0 t).2.1)
 else if Hn (IB vs (min d 65536) 0 0 t).1 > 200 then (BZ, 7)
 else ((IB vs (min d 65536) 0 0 t).1, 0)
structure LN where
 steps : Int
 nodes : Int
 forms : Int
 limit : Int
 over : Bool
 deriving Inhabited
def gI (c : LN) : List PV := [I c.steps, I c.nodes, I c.forms, I c.limit, .bool c.over]
def LN.form (c : LN) (t : Tm) (e : Int) : LN :=
 { c with forms := wr (c.forms + Je t), over := c.over || (e != 0 || decide (c.steps > c.limit) || decide (c.nodes > wr (2 * c.limit)) || decide (wr (c.forms + Je t) > wr (40 * c.limit)) || decide (Je t > 2000) || decide (Hn t > 95)) }
def LN.sized (c : LN) (t : Tm) : LN := { c with over := c.over || (decide (Je t > 2000) || decide (Hn t > 95)) }
def gG : LN := ⟨0, 0, 0, 1000, false⟩
end Go.Eu
namespace Go.Eu
theorem Dd {α : Type} {l : List α} {i : Nat} {x : α} (h : l[i]? = some x) : l.drop i = x :: l.drop (i + 1) := by
 have hlt := (List.getElem?_eq_some_iff.1 h).1
 have e : l[i] = x := (List.getElem?_eq_some_iff.1 h).2
 rw [List.drop_eq_getElem_cons hlt, e]
theorem Cs {α : Type} {l : List α} {i : Nat} {x d : α} (h : l[i]? = some x) : l.getD i d = x := by simp [List.getD, h]
end Go.Eu
namespace Go.Eu
open Go.Abs
theorem ZX {o : Option Nat} {c : Nat} (l : List Tm) {l' : List Tm} (h : l = l') : AV.vs o (BR l).length c = .vs o (BR l').length c := by rw [h]
theorem WI {o : Option Nat} {sz c : Nat} (l : List Tm) {l' : List Tm} (h : l = l') : KO (.vec o sz (BR l) c) (.vec o sz (BR l') c) := oe (by rw [h])
theorem Jg {o : Option Nat} {c : Nat} (l : List Tm) {l' : List Tm} (h : l.length = l'.length) : AV.vs o (BR l).length c = .vs o (BR l').length c := by rw [Bo, Bo, h]
mutual
def Rk : List Int → Tm → List Int
 | l, .mk k i _ _ ks => if k = 12 then (if i ∈ l then l else QG (l ++ [i]) ks) else QG l ks
def QG : List Int → List Tm → List Int
 | l, [] => l
 | l, t :: ts => QG (Rk l t) ts
end
def gq (l : List Int) (n : Int) : Bool := decide (n ∈ l)
def WB (fr : Int) : Nat → Nat → List Tm
 | _, 0 => []
 | m, k + 1 => Ti (fr + (m + k : Nat)) :: WB fr m k
def aC (n fr : Int) : List Tm := if n < 1 ∨ n > 4096 ∨ fr < 0 then [] else WB fr 0 n.toNat
def ah : List Int → List Tm → Option (List Int)
 | l, [] => some l
 | l, .mk k i _ _ _ :: ts => if k ≠ 0 ∨ i ∈ l then none else ah (l ++ [i]) ts
def gS (t : Tm) : Int × List Int × Bool :=
 if (Bq t).1.kind ≠ 12 then (0, [], false)
 else match ah [] (Bq t).2 with
  | none => (0, [], false)
  | some l => ((Bq t).1.index, l, true)
def gT (ms : List Mv) (ctx : List Tm) (t : Tm) (cls : Bool) : List Mv × Tm × Int :=
 if ms.length ≥ 2000 then ([], BZ, 6)
 else if Je (HX 6 ctx t) > 4096 then ([], BZ, 5)
 else if Hn (HX 6 ctx t) > 200 then ([], BZ, 7)
 else (ms ++ [⟨HX 6 ctx t, false, BZ, cls⟩], apply (.mk 12 ms.length ⟨#[]⟩ [] []) (aC ctx.length 0), 0)
end Go.Eu
namespace Go.Eu
end Go.Eu
namespace Go.Eu
open Go.Abs
theorem FZ {n : Int} (h : rng n) : wr n = n := Mp (k := .i64) h.1 h.2
mutual
def Wt : Tm → Prop
 | .mk k i _ _ ks => (ks.length : Int) = arity k ∧ (k = 12 → 0 ≤ i) ∧ dz ks
def dz : List Tm → Prop
 | [] => True
 | t :: ts => Wt t ∧ dz ts
end
theorem No : ∀ {a b : List Tm}, Ic (a ++ b) ↔ Ic a ∧ Ic b
 | [], b => by simp [Ic]
 | x :: a, b => by simp only [List.cons_append, Ic, No (a := a), and_assoc]
theorem OR : ∀ (t : Tm), Nd t → Nd (Bq t).1 ∧ Ic (Bq t).2
 | .mk k i n l [f, a], h => by
  unfold Bq
  split
  ·have h' := h
   simp only [Nd, Ic] at h'
   obtain ⟨e1, e2⟩ := OR f h'.2.2.2.2.1.1
   exact ⟨e1, No.2 ⟨e2, h'.2.2.2.2.1.2.1, trivial⟩⟩
  ·exact ⟨h, trivial⟩
 | .mk k i n l [], h => by simp only [Bq]; exact ⟨h, trivial⟩
 | .mk k i n l [_], h => by simp only [Bq]; exact ⟨h, trivial⟩
 | .mk k i n l (_ :: _ :: _ :: _), h => by simp only [Bq]; exact ⟨h, trivial⟩
theorem LS {xs : List Tm} : ∀ {f : Tm}, Nd f → Ic xs → Nd (apply f xs) := by
 induction xs with
 | nil => intro f h _; exact h
 | cons x xs ih =>
  intro f h hx
  exact ih (f := MD f x) ⟨by decide, by decide, by simp, by simp [EC], ⟨h, hx.1, trivial⟩, ⟨by decide, by decide⟩, ⟨by decide, by decide⟩⟩ hx.2
theorem Ip {xs : List Tm} : ∀ (f : Tm), size (apply f xs) = size f + B4 xs + xs.length := by
 induction xs with
 | nil => intro f; simp [apply, B4]
 | cons x xs ih =>
  intro f
  have := ih (MD f x)
  simp only [apply, List.foldl_cons, B4, List.length_cons] at *
  rw [this]
  simp [MD, size, B4]
  omega
def known (ms : List Mv) (t : Tm) : Bool :=
 match t with
 | .mk k i _ _ _ => k == 12 && (decide (i < ms.length) && (match ms[i.toNat]? with | some m => m.known | none => false))
def valueOf (ms : List Mv) (i : Int) : Tm := match ms[i.toNat]? with | some m => m.value | none => BZ
def MX (F : LN → Tm → Tm × Int × LN) : LN → List Tm → List Tm × Int × LN
 | c, [] => ([], 0, c)
 | c, t :: ts => if (F c t).2.1 ≠ 0 then ([], (F c t).2.1, (F c t).2.2)
  else if (MX F (F c t).2.2 ts).2.1 ≠ 0 then ([], (MX F (F c t).2.2 ts).2.1, (MX F (F c t).2.2 ts).2.2)
  else ((F c t).1 :: (MX F (F c t).2.2 ts).1, 0, (MX F (F c t).2.2 ts).2.2)
def fk (l : List Tm) (q : List Tm × Int × LN) : List Tm × Int × LN := if q.2.1 ≠ 0 then ([], q.2.1, q.2.2) else (l ++ q.1, 0, q.2.2)
def YK : LN → Tm → List Tm → LN × Tm × List Tm
 | c, v, [] => (c, v, [])
 | c, v, a :: l => if v.kind = 5 ∧ c.over = false then YK (c.form (P2 (v.kids.getD 1 BZ) [a] 0).1 (P2 (v.kids.getD 1 BZ) [a] 0).2) (P2 (v.kids.getD 1 BZ) [a] 0).1 l else (c, v, a :: l)
def LD : Tm → List Tm → Tm
 | .mk k i n l _, ks => .mk k i n l ks
def I9 (ms : List Mv) : Nat → List Int → LN → Tm → Tm × Int × LN
 | 0, ab, c, t => (BZ, 11, c)
 | n + 1, ab, c, t =>
  if c.over = true then (BZ, 11, c)
  else if known ms (Bq t).1 = false then
   (let q := MX (I9 ms n ab) c (Bq t).1.kids
    if q.2.1 ≠ 0 then (BZ, q.2.1, q.2.2)
    else
     (let r := MX (I9 ms n ab) q.2.2 (Bq t).2
      if r.2.1 ≠ 0 then (BZ, r.2.1, r.2.2)
      else (apply (LD (Bq t).1 q.1) r.1, 0, r.2.2.sized (apply (LD (Bq t).1 q.1) r.1))))
  else if (Bq t).1.index ∈ ab then (BZ, 22, c)
  else
   (let v := I9 ms n (ab ++ [(Bq t).1.index]) c (valueOf ms (Bq t).1.index)
    if v.2.1 ≠ 0 then (BZ, v.2.1, v.2.2)
    else
     (let r := MX (I9 ms n ab) (v.2.2.form v.1 0) (Bq t).2
      if r.2.1 ≠ 0 then (BZ, r.2.1, r.2.2)
      else
       (let b := YK r.2.2 v.1 r.1
        (apply b.2.1 b.2.2, 0, b.1.form (apply b.2.1 b.2.2) 0))))
def free (ms : List Mv) (ab : List Int) : Nat := ((List.range ms.length).filter fun i : Nat => !decide ((i : Int) ∈ ab)).length
def Mb (S : Nat) : Nat → Nat
 | 0 => 0
 | k + 1 => S * (Mb S k + 2) + 4096 + Mb S k
def gR (S : Nat) (ms : List Mv) : Prop := ∀ m ∈ ms, Nd m.value ∧ Wt m.value ∧ size m.value ≤ S
structure gA (M : Nat) (s : Nat) (r : Tm) : Prop where
 nd : Nd r
 wt : Wt r
 size : size r ≤ s * M
theorem Fh {α : Type} {l : List α} {x : α} (h : x ∈ l) : ∃ i : Nat, l[i]? = some x := by
 obtain ⟨i, hi, he⟩ := List.mem_iff_getElem.1 h
 exact ⟨i, by rw [List.getElem?_eq_getElem hi, he]⟩
section
variable {ms : List Mv} {n : Nat} {ab : List Int} {c : LN} {t : Tm} {zk zi : Int} {zn : ByteArray} {zl : List FC} {zs : List Tm}
end
theorem Ts {f x : Tm} {us : List Tm} : apply (apply f us) [x] = apply f (us ++ [x]) := by simp [apply]
end Go.Eu
namespace Go.Eu
theorem RG {l : List Tm} (h : Ic l) (k : Nat) : Ic (l.take k) := by
 induction l generalizing k with
 | nil => simp [Ic]
 | cons a l ih =>
  cases k with
  | zero => trivial
  | succ k => exact ⟨h.1, ih h.2 k⟩
def V4 (ms : List Mv) (n : Nat) (c : LN) (t : Tm) : Tm × Int × LN :=
 ((I9 ms n [] c t).1, (I9 ms n [] c t).2.1, if (I9 ms n [] c t).2.1 = 0 then (I9 ms n [] c t).2.2.form (I9 ms n [] c t).1 0 else (I9 ms n [] c t).2.2)
def gd (ms : List Mv) (n : Nat) (c : LN) (t : Tm) : List Int × Int :=
 if (V4 ms n c t).2.1 = 0 then (Rk [] (V4 ms n c t).1, 0) else ([], (V4 ms n c t).2.1)
end Go.Eu
namespace Go.Abs
section
variable {P : Program} {r : Option Nat} {ops : Array Oper} {Q : Cy → B2 → Prop} {k : Nat} {n : Nat} {τ : Nat → AV} {T : List BT} {D : List EB} {dst : Option Tmp} {op : Op} {ty : TypeId} {pos : String} {aft : Array Edge} {v : AV} {c : Call} {f : Operand} {fid : FuncId} {first caps A : List AV} {R : Db → List BT → Prop}
theorem GB {H H' : List BT} (hp : H.Perm H') (h : AL P r ops k ⟨n, τ, H', D⟩ Q) : AL P r ops k ⟨n, τ, H, D⟩ Q := C4 (O6 (S := ⟨n, τ, H, D⟩) hp) h
theorem J9 (fr : List BT) {l : Nat} (ho : ops[k]? = some ⟨dst, .call c, ty, pos, aft, none⟩) (hd : Ht dst n = true)
  (hc : c.callee = .value f) (hf : ev τ f = .fn (.yield l) [] []) (h : HB P l A T R) (hA : c.args.toList.map (ev τ) = A)
  (next : ∀ v T', R (.val v) T' → AL P r ops (k + 1) ⟨n, put τ dst v, fr ++ T', D⟩ Q) (pan : ∀ v T', R (.panic v) T' → Q (.panic v) ⟨n, τ, T' ++ fr, D⟩) : AL P r ops k ⟨n, τ, fr ++ T, D⟩ Q :=
 Ep (S := ⟨n, τ, fr ++ T, D⟩) ho Al (GW hd) (UG hc hf List.perm_append_comm h hA) (fun v H' ⟨Hs', h1, h2⟩ => by subst h2; exact GB List.perm_append_comm (next v Hs' h1)) (fun v H' ⟨Hs', h1, h2⟩ => by subst h2; exact pan v Hs' h1)
theorem Gk (fr : List BT) (ho : ops[k]? = some ⟨dst, .call c, ty, pos, aft, none⟩) (hd : Ht dst n = true)
  (hc : c.callee = .value f) (hf : (ev τ f = .p (.fn fid) ∧ first = [] ∧ caps = []) ∨ ev τ f = .fn (.func fid) first caps) (h : Bt P fid A T R) (hA : G1 (first ++ c.args.toList.map (ev τ) ++ caps) A)
  (next : ∀ v T', R (.val v) T' → AL P r ops (k + 1) ⟨n, put τ dst v, fr ++ T', D⟩ Q) (pan : ∀ v T', R (.panic v) T' → Q (.panic v) ⟨n, τ, T' ++ fr, D⟩) : AL P r ops k ⟨n, τ, fr ++ T, D⟩ Q :=
 LU ho hd hc hf List.perm_append_comm (h.args hA) (.inl rfl) (fun v H' h1 => GB List.perm_append_comm (next v H' h1)) pan
end
theorem Et.append : ∀ {l l' : List BT} {T : List BT}, Et l l' → Et (l ++ T) (l' ++ T)
 | [], l', T, h => by simp only [Et] at h; subst h; exact Et.refl T
 | o :: l, l', T, h => by
  obtain ⟨o', r', rfl, h1, h2⟩ := h
  exact ⟨o', r' ++ T, At, h1, Et.append h2⟩
theorem QW (is : List Nat) (l : List BT) {l1 l' T : List BT} (h : MO is 0 l = l1) (w : Et l1 l') : YU (l ++ T) (l' ++ T) := ⟨l1 ++ T, (Cj h).append_right T, w.append⟩
theorem Gj (is : List Nat) (l : List BT) {l1 T : List BT} (h : MO is 0 l = l1) : (l1 ++ T).Sublist (l ++ T) := (Cj h).append_right T
def gH (b : Bool) (H' : List BT) : Db → List BT → Prop
 | .val v, H'' => v = .p (.bool b) ∧ H'' = H'
 | .panic _, _ => False
theorem EU {n : Nat} {τ : Nat → AV} {H : List BT} {D : List EB} {t : Nat} {x : AV} (h : τ t = x) : Gs ⟨n, τ, H, D⟩ ⟨n, put τ (some t) x, H, D⟩ := NW fun _ _ _ hr => h ▸ hr
section
variable {P : Program} {dst : Option Tmp} {ty : TypeId} {pos : String} {aft : Array Edge} {g : Option (Nat × Bool)} {ρ : Operand → AV} {H : List BT} {x y : Operand}
theorem Ss {e : TypeId} {bl : Bool} {sz : Nat} (ht : Di P e = some (bl, sz)) : ∃ inf, P.info? e = some inf ∧ inf.size = sz := by
 obtain ⟨d, _, _, h⟩ := EY ht
 cases hi : P.info? e with
 | none => simp [hi] at h
 | some inf => simp [hi] at h; exact ⟨inf, rfl, h⟩
theorem FL {T e : TypeId} {bl : Bool} {len sz b o : Nat} {k : IntKind} {i : Int} (hu : P.underlying T = some (.array len e)) (ht : Di P e = some (bl, sz)) (hx : ρ x = .ptr b o) (hy : ρ y = .p (.int k i)) (h0 : 0 ≤ i) (hn : i < len) :
  Dg P ⟨dst, .indexAddr T x y, ty, pos, aft, g⟩ ρ H (.ptr b (o + i.toNat * sz)) H := by
 obtain ⟨inf, h1, h2⟩ := Ss ht
 exact OZ hu h1 h2 hx hy h0 hn
theorem JY {T e : TypeId} {bl : Bool} {len sz : Nat} {parts : Array (Nat × Operand)} {z : Value} {cs : List AV} (hu : P.underlying T = some (.array len e)) (ht : Di P e = some (bl, sz)) (hz : zeroOf P T = some z)
  (hc : FT (fun i => some (i * sz, sz)) (z.cells.toList.map Gu) (parts.toList.map fun p => (p.1, ρ p.2)) = some cs) : Dg P ⟨dst, .build T parts, ty, pos, aft, g⟩ ρ H (.agg cs) H := by
 obtain ⟨inf, h1, h2⟩ := Ss ht
 subst h2
 exact Oe hu h1 hz hc
end
theorem Iy {P : Program} {g : Operand} {ps : Array Tmp} {assign body : Code} {S : B2} {Q : Cy → B2 → Prop} {fid : FuncId} {first caps : List AV}
  (hg : (ev S.τ g = .p (.fn fid) ∧ first = [] ∧ caps = []) ∨ ev S.τ g = .fn (.func fid) first caps)
  (h : ∀ d l (L : Lj), L = ⟨.ready, none, S.n, S.τ, ps, assign, body⟩ → ∃ Hs Hf, (BT.loop l L :: .dfr d :: S.H).Perm (Hs ++ Hf) ∧
   Bt P fid (first ++ [.fn (.yield l) [] []] ++ caps) Hs (fun r H' => P7 P l d S Q r (H' ++ Hf))) :
  Ib P none (.rangeFunc g ps assign body) S Q := Tk hg fun d l => h d l _ rfl
def gM (H' : List BT) : Db → List BT → Prop
 | .val v, H'' => v = .tup [] ∧ H'' = H'
 | .panic _, _ => False
def Gm (v : AV) (C : List BT → Prop) : Db → List BT → Prop
 | .val v', H' => v' = v ∧ C H'
 | .panic _, _ => False
section
variable {P : Program} {n : Nat} {τ : Nat → AV} {H : List BT} {D : List EB}
theorem Zv {b : Nat} {cs cs' : List AV} (h : G1 cs cs') : KO (.box b cs) (.box b cs') := ⟨rfl, fun F w hr => by
 obtain ⟨vs, T, h1, h2⟩ := hr
 exact ⟨vs, T, h1, Jo h h2⟩⟩
theorem Fj {i : Nat} {o o' : BT} (hi : H[i]? = some o) (hw : KO o o') : Gs ⟨n, τ, H, D⟩ ⟨n, τ, H.set i o', D⟩ := by
 intro F a w hs
 refine ⟨F, ⟨hs.size, hs.tmp, ?_, hs.defs⟩, ?_⟩
 ·have hk := E9 (x' := o') hi hw.1
  refine ⟨fun x hx c hc => ?_, by show List.Nodup _; rw [hk]; exact hs.heap.nodup, fun x hx => ?_, hs.heap.bd⟩
  ·rcases DG hx with rfl | ⟨j, _, hj⟩
   ·exact hs.heap.sub _ (List.mem_of_getElem? hi) c (by rw [← hw.1]; exact hc)
   ·exact hs.heap.sub _ (List.mem_of_getElem? hj) c hc
  ·rcases DG hx with rfl | ⟨j, _, hj⟩
   ·exact hw.2 F w (hs.heap.obj _ (List.mem_of_getElem? hi))
   ·exact hs.heap.obj _ (List.mem_of_getElem? hj)
 ·refine { Trans.refl (F := F) (H := H) (w := w) with keys := fun x hx c hc => ?_ }
  rcases DG hx with rfl | ⟨j, _, hj⟩
  ·exact .inl ⟨_, List.mem_of_getElem? hi, by rw [← hw.1]; exact hc⟩
  ·exact .inl ⟨_, List.mem_of_getElem? hj, hc⟩
end
section
variable {P : Program} {dst : Option Tmp} {ty : TypeId} {pos : String} {aft : Array Edge} {g : Option (Nat × Bool)} {ρ : Operand → AV} {H : List BT} {x y : Operand}
end
section
variable {P : Program} {dst : Option Tmp} {ty : TypeId} {pos : String} {aft : Array Edge} {g : Option (Nat × Bool)} {ρ : Operand → AV} {H : List BT} {x y : Operand}
theorem Mj {T e : TypeId} {sz bytes : Nat} (hT : FB P T = some (e, sz, bytes)) :
  DB P ⟨dst, .buildSlice T 0 #[], ty, pos, aft, g⟩ ρ H (Ig sz [] H) :=
 FF fun F w E hH hE => by
  obtain ⟨hu, i, hi, hs, hby⟩ := Eb hT
  obtain ⟨v, H', F', h1, h2, h3, h4⟩ := ON (F := F) (w := w) (sz := sz) (c := 0) (rows := []) (vs := []) (T := e) (H := H) hH As (by simp [B0]) As As
  refine ⟨_, _, v, H', F', ?_, h1, h2, h3, h4⟩
  have hszr : (sizeOf e).run P w = .ok sz w := by simp [sizeOf, typeInfo, hi, hs]
  simp only [execOp, Instr.buildSlice, Sem.run_bind, run_underlying hu, Result.andThen_ok, hszr]
  rw [if_neg Ar]
  simp only [Sem.run_pure, Result.andThen_ok, Sem.run_bind, pure_bind, Nat.zero_mul, if_true]
  have e0 : (Array.map (fun x => (#[] : Array Value)[x % (#[] : Array Value).size]!) (Array.range 0)) = (⟨[]⟩ : Array Value) := by simp
  rw [e0]
  simp only [Array.map_empty, Instr.fill, newRow, newObj, Sem.run_bind, Sem.run, Result.andThen, Sem.run_pure]
  rfl
end
section
variable {P : Program} {dst : Option Tmp} {ty : TypeId} {pos : String} {aft : Array Edge} {g : Option (Nat × Bool)} {ρ : Operand → AV} {H : List BT} {x y : Operand}
theorem On {T U e : TypeId} {n1 n2 : Nat} {rows : List (List PV)} (hT : FB P T = some (e, n1, n2)) (hx : ρ x = .p (.lst rows)) (hy : ρ y = .p .nils) : DB P ⟨dst, .binOp .eql T x y U, ty, pos, aft, g⟩ ρ H (KT (fun v => ∃ b : Bool, v = .p (.bool b) ∧ (b = true → rows = [])) H) :=
 (Ps (Eb hT).1 hx hy).mono fun r H' h => by cases r <;> exact h
end
section
variable {P : Program} {r : Option Nat} {ops : Array Oper} {Q : Cy → B2 → Prop} {k : Nat} {n : Nat} {τ : Nat → AV} {H : List BT} {D : List EB} {dst : Option Tmp} {ty : TypeId} {pos : String} {aft : Array Edge} {v : AV} {c : Call} {f : Operand} {fid : FuncId} {first caps A : List AV}
end
end Go.Abs
namespace Go.Eu
open Go.Abs
def H6 (k : Int) : Int := if k = 5 ∨ k = 6 ∨ k = 7 then 1 else if k = 11 then 2 else -1
theorem RQ {k : Int} {i : Int} (h : i = H6 k) (hi : 0 ≤ i) : below k i = 1 := by
 unfold H6 at h
 unfold below
 split at h
 ·rename_i hk; subst h; rcases hk with rfl | rfl | rfl <;> simp
 ·split at h
  ·rename_i hk; subst h; subst hk; simp
  ·omega
theorem O3 {k : Int} {i : Int} (h : i ≠ H6 k) : below k i = 0 := by
 unfold H6 at h
 unfold below
 rw [if_neg]
 simp only [Bool.or_eq_true, Bool.and_eq_true, beq_iff_eq]
 intro hc
 apply h
 rcases hc with ⟨h1, h2⟩ | ⟨h1, h2⟩
 ·rw [if_pos (by rcases h2 with (h | h) | h <;> simp [h]), h1]
 ·rw [if_neg Ar, if_pos h2, h1]
theorem RL {k : Int} (h : ¬ (0 ≤ k ∧ k < 13)) : H6 k = -1 := by
 unfold H6
 rw [if_neg Ar, if_neg Ar]
section
variable {σ : Type}
mutual
def Dy (st : σ → Int → Tm → σ × Bool) : Tm → Int → σ → σ × Bool
 | .mk k i n l ks, d, s => if (st s d (.mk k i n l ks)).2 = false then ((st s d (.mk k i n l ks)).1, false) else Dz st k d 0 (st s d (.mk k i n l ks)).1 ks
def Dz (st : σ → Int → Tm → σ × Bool) (k d : Int) : Nat → σ → List Tm → σ × Bool
 | _, s, [] => (s, true)
 | j, s, t :: ts => if (Dy st t (d + below k j) s).2 = false then ((Dy st t (d + below k j) s).1, false) else Dz st k d (j + 1) (Dy st t (d + below k j) s).1 ts
end
end
def Ly (ix nm : Bool) (lv ks bl : Int) : List AV := [.p (.bool ix), .p (.bool nm), .p (I lv), .p (I ks), .p (I bl)]
def L9 : List AV := [Ly true false 0 0 (-1), Ly false false 0 0 (-1), Ly false false 1 0 (-1), Ly false true (-1) 0 (-1), Ly false false 0 2 (-1), Ly false false 0 2 1, Ly false false 0 2 1, Ly false false 0 2 1, Ly false false 0 3 (-1), Ly false false 0 1 (-1), Ly false false 0 1 (-1), Ly false false 0 3 2, Ly true false 0 0 (-1)].flatten
theorem VQ {k : Int} (h : 0 ≤ k ∧ k < 13) : L9[0 + k.toNat * 5 + 4]? = some (.p (I (H6 k))) := by
 have : k = 0 ∨ k = 1 ∨ k = 2 ∨ k = 3 ∨ k = 4 ∨ k = 5 ∨ k = 6 ∨ k = 7 ∨ k = 8 ∨ k = 9 ∨ k = 10 ∨ k = 11 ∨ k = 12 := by omega
 rcases this with rfl | rfl | rfl | rfl | rfl | rfl | rfl | rfl | rfl | rfl | rfl | rfl | rfl <;> rfl
section
variable {σ : Type} {st : σ → Int → Tm → σ × Bool} {Inv : Nat → σ → Prop}
theorem Qq {t : Tm} {d : Int} {s : σ} (h : (st s d t).2 = false) : Dy st t d s = ((st s d t).1, false) := by
 obtain ⟨k, i, n, l, ks⟩ := t
 rw [Dy, if_pos h]
theorem GI {k i : Int} {n : ByteArray} {l : List FC} {ks : List Tm} {d : Int} {s : σ} (h : (st s d (.mk k i n l ks)).2 = true) : Dy st (.mk k i n l ks) d s = Dz st k d 0 (st s d (.mk k i n l ks)).1 ks := by
 rw [Dy, if_neg (by simp [h])]
theorem HE {k d : Int} {ts : List Tm} {i : Nat} {x : Tm} {s : σ} (hx : ts[i]? = some x) (h : (Dy st x (d + below k i) s).2 = false) : Dz st k d i s (ts.drop i) = ((Dy st x (d + below k i) s).1, false) := by
 rw [Dd hx, Dz, if_pos h]
theorem Ih {k d : Int} {ts : List Tm} {i : Nat} {x : Tm} {s : σ} (hx : ts[i]? = some x) (h : (Dy st x (d + below k i) s).2 = true) : Dz st k d i s (ts.drop i) = Dz st k d (i + 1) (Dy st x (d + below k i) s).1 (ts.drop (i + 1)) := by
 rw [Dd hx, Dz, if_neg (by simp [h])]
mutual
theorem HW (hI : ∀ m s d t, Inv (m + 1) s → Inv m (st s d t).1) : ∀ (t : Tm) (d : Int) (s : σ) (m : Nat), Inv (m + size t) s → (Dy st t d s).2 = true → Inv m (Dy st t d s).1
 | .mk k i n l ks, d, s, m, h, hv => by
  rw [size, show m + (1 + B4 ks) = (m + B4 ks) + 1 by omega] at h
  have h1 := hI _ _ d (.mk k i n l ks) h
  rw [Dy] at hv ⊢
  split at hv
  ·cases hv
  ·rename_i hc
   rw [if_neg hc]
   exact MR hI ks k d 0 _ m h1 hv
theorem MR (hI : ∀ m s d t, Inv (m + 1) s → Inv m (st s d t).1) : ∀ (ts : List Tm) (k d : Int) (j : Nat) (s : σ) (m : Nat), Inv (m + B4 ts) s → (Dz st k d j s ts).2 = true → Inv m (Dz st k d j s ts).1
 | [], k, d, j, s, m, h, hv => by simpa [Dz, B4] using h
 | t :: ts, k, d, j, s, m, h, hv => by
  rw [B4, show m + (size t + B4 ts) = (m + B4 ts) + size t by omega] at h
  rw [Dz] at hv ⊢
  split at hv
  ·cases hv
  ·rename_i hc
   rw [if_neg hc]
   have := HW hI t (d + below k j) s _ h (by simpa using hc)
   exact MR hI ts k d (j + 1) _ m this hv
end
end
def SQ (s : Int) (d : Int) (t : Tm) : Int × Bool := (wr (s + 1), true)
mutual
theorem QX (B : Int) (hB : B ≤ 4611686018427387904) : ∀ (t : Tm) (d s : Int), 0 ≤ s → s + size t < B → Dy SQ t d s = (s + size t, true)
 | .mk k i n l ks, d, s, h0, h => by
  rw [size] at h ⊢
  rw [GI rfl]
  simp only [SQ]
  rw [FZ ⟨by omega, by omega⟩, PU B hB ks k d 0 (s + 1) Ar Ar]
  congr 1
  omega
theorem PU (B : Int) (hB : B ≤ 4611686018427387904) : ∀ (ts : List Tm) (k d : Int) (j : Nat) (s : Int), 0 ≤ s → s + B4 ts < B → Dz SQ k d j s ts = (s + B4 ts, true)
 | [], k, d, j, s, h0, h => by simp [Dz, B4]
 | t :: ts, k, d, j, s, h0, h => by
  rw [B4] at h ⊢
  rw [Dz, QX B hB t _ s h0 Ar]
  simp only
  rw [if_neg As, PU B hB ts k d (j + 1) (s + size t) Ar Ar]
  congr 1
  omega
end
def gi (s : List Int) (d : Int) : Tm → List Int × Bool
 | .mk k i _ _ _ => (if k = 12 ∧ i ∉ s then s ++ [i] else s, true)
def gr (s : List Int) : List (Int × AV) := s.map fun i => (i, .p (.bool true))
def Qo (xs ys : List Tm) (i : Nat) : Prop := ys.length = xs.length ∧ ∀ k, k < xs.length → ys[k]? = if k < i ∨ xs.length - 1 - k < i then xs[xs.length - 1 - k]? else xs[k]?
theorem Rx (xs : List Tm) : Qo xs xs 0 := ⟨rfl, fun k hk => by rw [if_neg Ar]⟩
theorem SS {xs ys : List Tm} {i : Nat} {a b : Tm} (h : Qo xs ys i) (hi : i < xs.length - 1 - i) (ha : ys[i]? = some a) (hb : ys[xs.length - 1 - i]? = some b) : Qo xs ((ys.set i b).set (xs.length - 1 - i) a) (i + 1) := by
 obtain ⟨hl, h⟩ := h
 refine ⟨by simp [hl], fun k hk => ?_⟩
 have e1 := h i Ar
 rw [if_neg Ar, ha] at e1
 have e2 := h (xs.length - 1 - i) Ar
 rw [if_neg Ar, hb] at e2
 by_cases k1 : k = xs.length - 1 - i
 ·subst k1
  rw [if_pos Ar, List.getElem?_set_self Am, e1]
  congr 1
  omega
 ·rw [List.getElem?_set_ne (fun e => k1 e.symm)]
  by_cases k2 : k = i
  ·subst k2
   rw [if_pos Ar, List.getElem?_set_self Ar, e2]
  ·rw [List.getElem?_set_ne (fun e => k2 e.symm), h k hk]
   by_cases k3 : k < i ∨ xs.length - 1 - k < i
   ·rw [if_pos k3, if_pos Ar]
   ·rw [if_neg k3, if_neg Ar]
theorem R1 {xs ys : List Tm} {i : Nat} (h : Qo xs ys i) (hi : xs.length - 1 - i ≤ i) : ys = xs.reverse := by
 obtain ⟨hl, h⟩ := h
 apply List.ext_getElem?
 intro k
 by_cases hk : k < xs.length
 ·rw [h k hk, List.getElem?_reverse hk]
  by_cases k3 : k < i ∨ xs.length - 1 - k < i
  ·rw [if_pos k3]
  ·rw [if_neg k3]
   congr 1
   omega
 ·rw [List.getElem?_eq_none Ar, List.getElem?_eq_none Am]
def gF (f : Int) (n i : Nat) : List Tm := (WB f 0 n).take i ++ List.replicate (n - i) BZ
def Yj (t : Tm) : Bool := decide ((size t : Int) > 4096) || decide (Hn t > 200)
def gJ {σ : Type} (st : σ → Int → Tm → σ) (xs : List Tm) : Nat → σ → σ
 | 0, s => s
 | m + 1, s => gJ st xs m (st s m (xs.getD m BZ))
def dK (k : Int) (t : Tm) (i : Int) (a : Tm) : Tm := .mk k 0 ⟨#[]⟩ [] [a, t]
end Go.Eu
namespace Go.Abs
def gO (mkv : Nat → AV) (cs : List AV) : Db → List BT → Prop
 | .val v, H' => ∃ b, v = mkv b ∧ H' = [.box b cs]
 | .panic _, _ => False
section
variable {P : Program} {ops : Array Oper} {n : Nat} {τ₀ τ : Nat → AV} {D : List EB} {Q : Cy → B2 → Prop} {opn : Nat → Bool} {k : Nat} {H : List BT} {dst : Option Tmp} {ty : TypeId} {pos : String} {aft : Array Edge} {c : Call} {f : Operand} {fid : FuncId} {first caps A : List AV} {mkv : Nat → AV} {cs : List AV}
end
def gm {α : Type} (mkv : α → AV) (mkp : Int → AV) (C : α → List BT → Prop) (x : Except Int α) : Db → List BT → Prop
 | .val v, H' => ∃ a, x = .ok a ∧ v = mkv a ∧ C a H'
 | .panic v, _ => ∃ e, x = .error e ∧ v = mkp e
theorem DB.permR {P : Program} {ρ : Operand → AV} {o : Oper} {H : List BT} {R R' : Db → List BT → Prop} (h : DB P o ρ H R) (hp : ∀ r H1, R r H1 → ∃ H2, H1.Perm H2 ∧ R' r H2) : DB P o ρ H R' := by
 intro r F S a w hs hH hρ hd
 have := h r F S a w hs hH hρ hd
 refine L4 this ?_ ?_
 ·rintro a' w' ⟨v', H1, F', hR, hs', ht⟩
  obtain ⟨H2, hp, hR'⟩ := hp _ _ hR
  exact ⟨v', H2, F', hR', ⟨hs'.size, hs'.tmp, hs'.heap.perm hp, hs'.defs⟩, { ht with keys := fun o ho => ht.keys o (hp.mem_iff.2 ho) }⟩
 ·rintro e a' w' ⟨v', H1, F', u, hR, h1, h2, hs', ht⟩
  obtain ⟨H2, hp, hR'⟩ := hp _ _ hR
  exact ⟨v', H2, F', u, hR', h1, h2, ⟨hs'.size, hs'.tmp, hs'.heap.perm hp, hs'.defs⟩, { ht with keys := fun o ho => ht.keys o (hp.mem_iff.2 ho) }⟩
section
variable {P : Program} {ops : Array Oper} {n : Nat} {τ₀ τ : Nat → AV} {D : List EB} {Q : Cy → B2 → Prop} {opn : Nat → Bool} {k : Nat} {T : List BT} {dst : Option Tmp} {ty : TypeId} {pos : String} {aft : Array Edge} {c : Call} {f : Operand} {fid : FuncId} {first caps A : List AV}
 {α : Type} {mkv : α → AV} {mkp : Int → AV} {C : α → List BT → Prop} {x : Except Int α}
end
section
variable {P : Program} {ops : Array Oper} {n : Nat} {τ₀ τ : Nat → AV} {D : List EB} {Q : Cy → B2 → Prop} {opn : Nat → Bool} {k : Nat} {H Hs : List BT} {dst : Option Tmp} {ty : TypeId} {pos : String} {aft : Array Edge} {c : Call} {f : Operand} {fid : FuncId} {first caps A : List AV}
 {α : Type} {mkv : α → AV} {mkp : Int → AV} {C : α → List BT → Prop} {x : Except Int α}
end
def fm (ops : Array Oper) (t : Nat) : Bool := ops.toList.all fun o => match o.dst with | some u => !(Nat.beq u t) | none => true
end Go.Abs
namespace Go.Eu
open Go.Abs
mutual
def Vp : Tm → Prop
 | .mk k i _ _ ks => (k = 0 → 0 ≤ i ∧ i < 1099511627776) ∧ fg ks
def fg : List Tm → Prop
 | [] => True
 | t :: ts => Vp t ∧ fg ts
end
def SX : Tm → Tm
 | .mk k i n l _ => .mk k i n l []
def WR (i : Int) : Except Int Tm := if i > 65535 then .error 24 else .ok (Ti i)
def dR (n m : Int) : Except Int Int := if wr (n + m) > 4096 then .error 5 else .ok (wr (n + m))
def gj (b fr : Int) (t : Tm) (d : Int) : Except Int Tm :=
 if t.index - d < fr then .ok (SX t) else if b < 0 ∧ t.index - d < fr - b then .error 24 else WR (t.index + b)
def O9 {α β : Type} (f : α → β) : Except Int α → Except Int β
 | .error e => .error e
 | .ok x => .ok (f x)
def Ek {α β : Type} (x : Except Int α) (f : α → Except Int β) : Except Int β :=
 match x with
 | .error e => .error e
 | .ok x => f x
def cf (rep : Tm → Int → Except Int Tm) (s : Unit) (t : Tm) (d : Int) : Except Int ((Tm × Bool) × Unit) :=
 if t.kind = 0 then O9 (fun x => ((x, true), ())) (rep t d) else .ok ((SX t, false), ())
mutual
def Nb {σ : Type} (vis : σ → Tm → Int → Except Int ((Tm × Bool) × σ)) : Tm → Int → σ → Except Int (Tm × σ)
 | .mk k i n l ks, d, s => Ek (vis s (.mk k i n l ks) d) fun r =>
   if r.1.2 = true then .ok (r.1.1, r.2) else Ek (HG vis k 0 ks d r.2) fun q => .ok (LD r.1.1 q.1, q.2)
def HG {σ : Type} (vis : σ → Tm → Int → Except Int ((Tm × Bool) × σ)) (k : Int) : Nat → List Tm → Int → σ → Except Int (List Tm × σ)
 | _, [], _, s => .ok ([], s)
 | j, t :: ts, d, s => Ek (Nb vis t (d + below k j) s) fun r => Ek (HG vis k (j + 1) ts d r.2) fun q => .ok (r.1 :: q.1, q.2)
end
section
variable {σ : Type} {vis : σ → Tm → Int → Except Int ((Tm × Bool) × σ)}
def Rp (vis : σ → Tm → Int → Except Int ((Tm × Bool) × σ)) (k : Int) (ts : List Tm) (d : Int) (q0 : σ) (i : Nat) (ys : List Tm) (q : σ) : Prop :=
 ys.length = i ∧ HG vis k 0 ts d q0 = Ek (HG vis k i (ts.drop i) d q) fun r => .ok (ys ++ r.1, r.2)
theorem Rp.zero (k : Int) (ts : List Tm) (d : Int) (q0 : σ) : Rp vis k ts d q0 0 [] q0 := by
 refine ⟨At, ?_⟩
 simp only [List.drop_zero, List.nil_append]
 cases HG vis k 0 ts d q0 <;> rfl
theorem Rp.succ {k d : Int} {ts ys : List Tm} {q0 q q' : σ} {i : Nat} {x y : Tm} (h : Rp vis k ts d q0 i ys q) (hx : ts[i]? = some x) (hb : Nb vis x (d + below k i) q = .ok (y, q')) : Rp vis k ts d q0 (i + 1) (ys ++ [y]) q' := by
 refine ⟨by simp [h.1], ?_⟩
 rw [h.2, Dd hx, HG, hb]
 simp only [Ek]
 cases HG vis k (i + 1) (ts.drop (i + 1)) d q' <;> simp
theorem Rp.fin {k d : Int} {ts ys : List Tm} {q0 q : σ} {i : Nat} (h : Rp vis k ts d q0 i ys q) (hi : ts.length ≤ i) : HG vis k 0 ts d q0 = .ok (ys, q) := by
 rw [h.2, List.drop_eq_nil_of_le hi, HG]; simp [Ek]
end
section
variable {b fr d k i : Int} {n : ByteArray} {l : List FC} {ks : List Tm}
variable {rep : Tm → Int → Except Int Tm} {s : Unit}
end
def Y9 (b fr : Int) (t : Tm) : Except Int Tm := O9 Prod.fst (Nb (cf (gj b fr)) t 0 ())
def X4 (vs : List Tm) (dp ti d : Int) : Int := if 0 ≤ wr (wr (ti - d) - dp) ∧ wr (wr (ti - d) - dp) < (vs.length : Int) then wr (wr (ti - d) - dp) else -1
def ej (vs : List Tm) (sz : List Int) (dp : Int) (t : Tm) (d : Int) : Int :=
 if t.kind = 0 ∧ 0 ≤ X4 vs dp t.index d then sz.getD (X4 vs dp t.index d).toNat 0 else 1
def dj (vs : List Tm) (sz : List Int) (dp : Int) (n : Int) (t : Tm) (d : Int) : Except Int ((Tm × Bool) × Int) :=
 O9 (fun m => ((BZ, decide (t.kind = 0)), m)) (dR n (ej vs sz dp t d))
def dm (vs : List Tm) (dp : Int) (t : Tm) (d : Int) : Except Int Tm :=
 if 0 ≤ X4 vs dp t.index d then Y9 (wr (dp + d)) 0 (vs.getD (X4 vs dp t.index d).toNat BZ)
 else if wr (t.index - d) < dp then .ok (SX t) else WR (wr (t.index - vs.length))
def Y7 (vs : List Tm) (dp : Int) (t : Tm) : Except Int Tm :=
 Ek (Nb (dj vs (vs.map fun v => (size v : Int)) dp) t 0 0) fun _ => O9 Prod.fst (Nb (cf (dm vs dp)) t 0 ())
def Ub (t : Tm) (vs : List Tm) (dp : Int) : Tm × Int :=
 match Y7 vs dp t with
 | .error e => (BZ, e)
 | .ok x => if Hn x > 200 then (BZ, 7) else (x, 0)
section
variable {vs : List Tm} {sz : List Int} {dp n d k i r m e : Int} {nm : ByteArray} {l : List FC} {ks : List Tm}
end
theorem QE : ∀ {ts : List Tm}, (∀ t ∈ ts, Nd t) → Ic ts
 | [], _ => trivial
 | t :: ts, h => ⟨h t As, QE fun x hx => h x (by simp [hx])⟩
section
variable {σ : Type} {vis : σ → Tm → Int → Except Int ((Tm × Bool) × σ)}
end
def dx (x : Tm × Int) : Except Int (Tm × Unit) := if x.2 = 0 then .ok (x.1, ()) else .error x.2
def cu (x : List Tm × Int) : Except Int (List Tm × Unit) := if x.2 = 0 then .ok (x.1, ()) else .error x.2
section
variable {vs : List Tm} {d er nd k i : Int} {n : ByteArray} {l : List FC} {ks : List Tm}
end
structure aM (vs : List Tm) (dp : Int) : Prop where
 wt : dz vs
 vp : fg vs
 sz : ∀ x ∈ vs, size x < 1099511627776
 len : vs.length < 1099511627776
 lo : 0 ≤ dp
 hi : dp ≤ 65536
theorem aM.size {vs : List Tm} {dp : Int} (V : aM vs dp) : ∀ x ∈ vs, (size x : Int) ≤ 1099511627776 := fun x hx => by have := V.sz x hx; omega
def gf {α : Type} (x : Except Int (α × Int)) (m : Int) : Prop := (m > 4096 → x = .error 5) ∧ (m ≤ 4096 → ∃ z, x = .ok (z, m))
def gv (vs : List Tm) : List Int := vs.map fun v => (size v : Int)
structure HQ where
 dn : List (Int × Tm)
 op : List Int
 wk : Int
def az (i : Int) : List (Int × Tm) → Option Tm
 | [] => none
 | (j, x) :: r => if j = i then some x else az i r
def bR (i : Int) (v : Tm) : List (Int × Tm) → List (Int × Tm)
 | [] => [(i, v)]
 | (j, x) :: r => if j = i then (j, v) :: r else (j, x) :: bR i v r
def gp (l : List (Int × Tm)) : List (Int × AV) := l.map fun p => (p.1, TV p.2)
def cG (x : Tm) (e : Int) : Except Int Tm := if e ≠ 0 ∨ Yj x = true then .error 11 else .ok x
def X6 : Tm → List Tm → Except Int (Tm × List Tm)
 | v, [] => .ok (v, [])
 | v, a :: l => if v.kind = 5 then Ek (cG (Ub (v.kids.getD 1 BZ) [a] 0).1 (Ub (v.kids.getD 1 BZ) [a] 0).2) fun x => X6 x l else .ok (v, a :: l)
def H9 (F : HQ → Tm → Except Int (Tm × HQ)) : HQ → List Tm → Except Int (List Tm × HQ)
 | st, [] => .ok ([], st)
 | st, t :: ts => Ek (F st t) fun r => Ek (H9 F r.2 ts) fun q => .ok (r.1 :: q.1, q.2)
def ZJ (F : HQ → Tm → Except Int (Tm × HQ)) (ms : List Mv) (st : HQ) (i : Int) : Except Int (Tm × HQ) :=
 match az i st.dn with
 | some v => .ok (v, st)
 | none => if i ∈ st.op then .error 22 else Ek (F { st with op := st.op ++ [i] } (valueOf ms i)) fun r => .ok (r.1, { r.2 with dn := bR i r.1 r.2.dn })
def bw (F : HQ → Tm → Except Int (Tm × HQ)) (ms : List Mv) (st : HQ) (h : Tm) : Except Int (Tm × HQ) :=
 if known ms h = true then ZJ F ms st h.index else O9 (fun q => (LD h q.1, q.2)) (H9 F st h.kids)
def VF (ms : List Mv) : Nat → HQ → Tm → Except Int (Tm × HQ)
 | 0, st, t => .error 11
 | n + 1, st, t =>
  if st.wk + 1 > 8192000 then .error 11
  else Ek (bw (VF ms n) ms { st with wk := st.wk + 1 } (Bq t).1) fun r =>
   Ek (H9 (VF ms n) r.2 (Bq t).2) fun q =>
   Ek (if known ms (Bq t).1 = true then X6 r.1 q.1 else .ok (r.1, q.1)) fun y =>
   O9 (fun z => (z, q.2)) (cG (apply y.1 y.2) 0)
structure Ok (S : Nat) (t : Tm) : Prop where
 nd : Nd t
 vp : Vp t
 wt : Wt t
 sz : size t ≤ S
structure eg (ms : List Mv) (st : HQ) : Prop where
 dn : ∀ p ∈ st.dn, Ok 4096 p.2
 w0 : 0 ≤ st.wk
 w1 : st.wk ≤ 8192000
abbrev gn (l : List Tm) : Prop := ∀ x ∈ l, Ok 4096 x
def ed (st st' : HQ) : Prop := ∀ i, i ∈ st.op → i ∈ st'.op
def gC (ms : List Mv) (B : Nat) (F : HQ → Tm → Except Int (Tm × HQ)) : Prop := ∀ st t r, Ok B t → eg ms st → F st t = .ok r → Ok 4096 r.1 ∧ eg ms r.2 ∧ ed st r.2
section
variable {F : HQ → Tm → Except Int (Tm × HQ)} {ms : List Mv} {st st' : HQ} {i e : Int} {z : Tm}
end
def R7 (F : HQ → Tm → Except Int (Tm × HQ)) (ts : List Tm) (q0 : HQ) (i : Nat) (ys : List Tm) (q : HQ) : Prop :=
 ys.length = i ∧ H9 F q0 ts = Ek (H9 F q (ts.drop i)) fun r => .ok (ys ++ r.1, r.2)
section
variable {F : HQ → Tm → Except Int (Tm × HQ)} {ts ys : List Tm} {q0 q q' : HQ} {i : Nat} {x y : Tm} {e : Int}
theorem R7.zero (F : HQ → Tm → Except Int (Tm × HQ)) (ts : List Tm) (q0 : HQ) : R7 F ts q0 0 [] q0 := by
 refine ⟨At, ?_⟩
 simp only [List.drop_zero, Ek]
 cases H9 F q0 ts <;> simp
theorem R7.succ (h : R7 F ts q0 i ys q) (hx : ts[i]? = some x) (hb : F q x = .ok (y, q')) : R7 F ts q0 (i + 1) (ys ++ [y]) q' := by
 refine ⟨by simp [h.1], ?_⟩
 rw [h.2, Dd hx, H9, hb]
 simp only [Ek]
 cases H9 F q' (ts.drop (i + 1)) <;> simp
theorem R7.fin (h : R7 F ts q0 i ys q) (hi : ts.length ≤ i) : H9 F q0 ts = .ok (ys, q) := by
 rw [h.2, List.drop_eq_nil_of_le hi, H9]; simp [Ek]
end
section
variable {ms : List Mv} {n : Nat} {dn : List (Int × Tm)} {op : List Int} {wk e : Int} {t v vv z h : Tm} {us ls ks : List Tm} {st1 st2 : HQ}
end
end Go.Eu
namespace Go.Abs
def gQ {β : Type} (mkv : β → AV) (mkH : β → List BT) : Db → List BT → Prop
 | .val v, H' => ∃ b, v = mkv b ∧ H' = mkH b
 | .panic _, _ => False
section
variable {P : Program} {ops : Array Oper} {n : Nat} {τ₀ τ : Nat → AV} {D : List EB} {Q : Cy → B2 → Prop} {opn : Nat → Bool} {k : Nat} {H : List BT} {dst : Option Tmp} {ty : TypeId} {pos : String} {aft : Array Edge} {c : Call} {f : Operand} {fid : FuncId} {first caps A : List AV} {β : Type} {mkv : β → AV} {mkH : β → List BT}
end
end Go.Abs
namespace Go.Eu
open Go.Abs
def SH (ms : List Mv) (n : Nat) (t : Tm) : Tm × Int :=
 match VF ms n ⟨[], [], 0⟩ t with
 | .ok r => (r.1, 0)
 | .error e => (BZ, e)
def fo (ms : List Mv) (n : Nat) (t : Tm) : List Int × Int := if (SH ms n t).2 ≠ 0 then ([], (SH ms n t).2) else (Rk [] (SH ms n t).1, 0)
mutual
def TP (p : Int → Int → ByteArray → List FC → Prop) : Tm → Prop
 | .mk k i n l ks => p k i n l ∧ X3 p ks
def X3 (p : Int → Int → ByteArray → List FC → Prop) : List Tm → Prop
 | [] => True
 | t :: ts => TP p t ∧ X3 p ts
end
section
variable {p q : Int → Int → ByteArray → List FC → Prop}
mutual
theorem TP.imp (h : ∀ k i n l, p k i n l → q k i n l) : ∀ (t : Tm), TP p t → TP q t
 | .mk k i n l ks, ht => ⟨h _ _ _ _ ht.1, X3.imp h ks ht.2⟩
theorem X3.imp (h : ∀ k i n l, p k i n l → q k i n l) : ∀ (ts : List Tm), X3 p ts → X3 q ts
 | [], _ => trivial
 | t :: ts, ht => ⟨TP.imp h t ht.1, X3.imp h ts ht.2⟩
end
end
def gD (ms : List Mv) (D : List Int) (k i : Int) (n : ByteArray) (l : List FC) : Prop := known ms (.mk k i n l []) = true → i ∈ D
abbrev KM (ms : List Mv) (D : List Int) : Tm → Prop := TP (gD ms D)
abbrev cJ (ms : List Mv) (D : List Int) : List Tm → Prop := X3 (gD ms D)
theorem KM.mono {ms : List Mv} {D D' : List Int} (h : ∀ i ∈ D, i ∈ D') {t : Tm} (ht : KM ms D t) : KM ms D' t := TP.imp (fun k i n l g e => h _ (g e)) t ht
theorem cJ.mono {ms : List Mv} {D D' : List Int} (h : ∀ i ∈ D, i ∈ D') {t : List Tm} (ht : cJ ms D t) : cJ ms D' t := X3.imp (fun k i n l g e => h _ (g e)) t ht
theorem KM.head {ms : List Mv} {D : List Int} {h : Tm} (hk : known ms h = true) (ht : KM ms D h) : h.index ∈ D := by
 obtain ⟨k, i, n, l, ks⟩ := h
 exact ht.1 hk
theorem KM.kids {ms : List Mv} {D : List Int} {h : Tm} (ht : KM ms D h) : cJ ms D h.kids := by
 obtain ⟨k, i, n, l, ks⟩ := h
 exact ht.2
inductive Ord (ms : List Mv) : List Int → Prop
 | nil : Ord ms []
 | snoc {D : List Int} {i : Int} : Ord ms D → i ∉ D → KM ms D (valueOf ms i) → Ord ms (D ++ [i])
theorem Ord.pre {ms : List Mv} {D : List Int} (h : Ord ms D) : ∀ i ∈ D, ∃ D', Ord ms D' ∧ (∀ j ∈ D', j ∈ D) ∧ i ∉ D' ∧ KM ms D' (valueOf ms i) := by
 induction h with
 | nil => intro i hi; simp at hi
 | @snoc D j h1 h2 h3 ih =>
  intro i hi
  rcases List.mem_append.1 hi with hi | hi
  ·obtain ⟨D', a, b, c, d⟩ := ih i hi
   exact ⟨D', a, fun j hj => List.mem_append_left _ (b j hj), c, d⟩
  ·simp at hi; subst hi
   exact ⟨D, h1, fun j hj => List.mem_append_left _ hj, h2, h3⟩
theorem LN.form_over {c : LN} {t : Tm} {e : Int} (h : (c.form t e).over = false) : c.over = false ∧ e = 0 ∧ Je t ≤ 2000 ∧ Hn t ≤ 95 := by
 simp only [LN.form, Bool.or_eq_false_iff, bne_eq_false_iff_eq, decide_eq_false_iff_not] at h
 obtain ⟨h1, ⟨⟨⟨⟨h2, h3⟩, h4⟩, h5⟩, h6⟩, h7⟩ := h
 exact ⟨h1, h2, by omega, by omega⟩
def bp : Tm → List Tm → Tm × List Tm
 | v, [] => (v, [])
 | v, a :: l => if v.kind = 5 then bp (P2 (v.kids.getD 1 BZ) [a] 0).1 l else (v, a :: l)
section
variable {F F' : LN → Tm → Tm × Int × LN}
end
def Ym (st : HQ) : List Int := st.dn.map Prod.fst
def dP (ms : List Mv) (t v : Tm) : Prop := ∃ n ab c d, I9 ms n ab c t = (v, 0, d) ∧ d.over = false
structure eK (ms : List Mv) (ab : List Int) (st : HQ) : Prop where
 op : ∀ i, i ∈ st.op ↔ i ∈ Ym st ∨ i ∈ ab
 ord : Ord ms (Ym st)
 dis : ∀ i ∈ Ym st, i ∉ ab
 val : ∀ p ∈ st.dn, dP ms (valueOf ms p.1) p.2
 ok : ∀ p ∈ st.dn, Ok 4096 p.2
 w0 : 0 ≤ st.wk
def pot (ms : List Mv) (B : Nat) (st : HQ) : Int := st.wk + (B * free ms st.op : Nat)
structure Step (ms : List Mv) (B : Nat) (ab : List Int) (st st' : HQ) (s : Nat) : Prop where
 inv : eK ms ab st'
 mono : ∀ i ∈ Ym st, i ∈ Ym st'
 pot : pot ms B st' ≤ pot ms B st + s
theorem Step.trans {ms : List Mv} {B : Nat} {ab : List Int} {a b c : HQ} {s s' : Nat} (h : Step ms B ab a b s) (h' : Step ms B ab b c s') : Step ms B ab a c (s + s') :=
 ⟨h'.inv, fun i hi => h'.mono i (h.mono i hi), by have := h.pot; have := h'.pot; omega⟩
theorem Step.le {ms : List Mv} {B : Nat} {ab : List Int} {a b : HQ} {s s' : Nat} (h : Step ms B ab a b s) (hs : s ≤ s') : Step ms B ab a b s' := ⟨h.inv, h.mono, by have := h.pot; omega⟩
def gK (ms : List Mv) (B : Nat) (ab : List Int) (t : Tm) (s : Nat) (st : HQ) (F : Tm × Int × LN) (G : Except Int (Tm × HQ)) : Prop :=
 (F.2.1 = 0 ∧ ∃ st', G = .ok (F.1, st') ∧ Step ms B ab st st' s ∧ KM ms (Ym st') t) ∨ (F.2.1 = 22 ∧ F.1 = BZ ∧ G = .error 22)
def gg (ms : List Mv) (B : Nat) (ab : List Int) (ts : List Tm) (st : HQ) (F : List Tm × Int × LN) (G : Except Int (List Tm × HQ)) : Prop :=
 (F.2.1 = 0 ∧ ∃ st', G = .ok (F.1, st') ∧ Step ms B ab st st' (B4 ts) ∧ cJ ms (Ym st') ts) ∨ (F.2.1 = 22 ∧ G = .error 22)
def gY (m : Nat) (k i : Int) (n : ByteArray) (l : List FC) : Prop := k = 12 → 0 ≤ i ∧ i < (m : Int)
def cw (ms : List Mv) (k i : Int) (n : ByteArray) (l : List FC) : Prop := (k = 12 → 0 ≤ i ∧ i < (ms.length : Int) ∧ known ms (.mk k i n l []) = false) ∧ (k = 4 → i = 0 ∧ n = ⟨#[]⟩ ∧ l = [])
def gW (ms : List Mv) (B : Nat) (F : HQ → Tm → Except Int (Tm × HQ)) : Prop := ∀ st t r, Ok B t → eg ms st → TP (gY ms.length) t → (∀ p ∈ st.dn, TP (cw ms) p.2) → F st t = .ok r → TP (cw ms) r.1 ∧ ∀ p ∈ r.2.dn, TP (cw ms) p.2
def gE (ms : List Mv) (F : HQ → Tm → Except Int (Tm × HQ)) : Prop := ∀ st t, TP (cw ms) t → F st t = .error 11 ∨ ∃ st', F st t = .ok (t, st')
def gL (F : HQ → Tm → Except Int (Tm × HQ)) : Prop := ∀ st t e, F st t = .error e → e = 11 ∨ e = 22
abbrev wide : Nat := 9223372036854775808
structure Zt (l : FC) : Prop where
 vars : l.vars.length < wide
 c : rng l.const
 v : ∀ v ∈ l.vars, rng v.index ∧ rng v.plus
mutual
def Wd : Tm → Prop
 | .mk k i n ls ks => n.size < wide ∧ ls.length < wide ∧ (∀ l ∈ ls, Zt l) ∧ ks.length < wide ∧ Vt ks ∧ rng k ∧ rng i
def Vt : List Tm → Prop
 | [] => True
 | t :: ts => Wd t ∧ Vt ts
end
theorem Ms : ∀ {ts : List Tm} {i : Nat} {t : Tm}, Vt ts → ts[i]? = some t → Wd t
 | [], i, t, _, h => by simp at h
 | a :: ts, 0, t, hn, h => by simp at h; subst h; exact hn.1
 | a :: ts, i + 1, t, hn, h => by simp at h; exact Ms hn.2 h
mutual
def Fw : Tm → Prop
 | .mk k i n ls ks => n.size ≤ 200 ∧ ls.length ≤ 20 ∧ (∀ l ∈ ls, l.vars.length ≤ 20) ∧ Rg ks
def Rg : List Tm → Prop
 | [] => True
 | t :: ts => Fw t ∧ Rg ts
end
theorem WV : ∀ {ts : List Tm}, (∀ t ∈ ts, Fw t) → Rg ts
 | [], _ => trivial
 | t :: ts, h => ⟨h t As, WV fun x hx => h x (by simp [hx])⟩
theorem M1 : ∀ {ts : List Tm} {t : Tm}, Rg ts → t ∈ ts → Fw t
 | [], t, _, h => by simp at h
 | a :: ts, t, hn, h => by
  rcases List.mem_cons.1 h with rfl | h
  ·exact hn.1
  ·exact M1 hn.2 h
def Tv : Tm → Prop
 | .mk k i n ls ks => n.size ≤ 200 ∧ ls.length ≤ 20 ∧ (∀ l ∈ ls, l.vars.length ≤ 20) ∧ B4 ks ≤ 200 ∧ Ic ks ∧ Rg ks
theorem ZO {t : Tm} (h : Wd t) (hf : Tv t) : Nd t := by
 obtain ⟨k, i, n, ls, ks⟩ := t
 obtain ⟨h1, h2, h3, h4, h5⟩ := hf
 have := Iv ks
 exact ⟨by simp only [EC]; omega, by simp only [EC]; omega, fun l hl => ⟨by have := h3 l hl; simp only [EC]; omega, (h.2.2.1 l hl).c, (h.2.2.1 l hl).v⟩, by simp only [EC]; omega, h5.1, h.2.2.2.2.2⟩
mutual
theorem MK : ∀ (t : Tm) (most : Int), -1152921504606846976 ≤ most → most ≤ 1152921504606846976 → (size t : Int) ≤ 1152921504606846976 → 0 ≤ Dv t most ∧ Dv t most < size t ∧ (Dv t most ≤ most → Dv t most + 1 = size t)
 | .mk k i n l ks, most, h1, h2, h3 => by
  simp only [size] at h3 ⊢
  unfold Dv
  have := Ov ks most 0 h1 h2 Ar Ar
  exact ⟨this.1, by omega, fun h => by have := this.2.2 h; omega⟩
theorem Ov : ∀ (ts : List Tm) (most n : Int), -1152921504606846976 ≤ most → most ≤ 1152921504606846976 → 0 ≤ n → n + B4 ts ≤ 1152921504606846976 → n ≤ D2 ts most n ∧ D2 ts most n ≤ n + B4 ts ∧ (D2 ts most n ≤ most → D2 ts most n = n + B4 ts)
 | [], most, n, h1, h2, h3, h4 => by simp [D2, B4]
 | t :: ts, most, n, h1, h2, h3, h4 => by
  simp only [B4] at h4 ⊢
  have hp := size_pos t
  unfold D2
  by_cases hm : n > most
  ·rw [if_pos hm]; exact ⟨by omega, by omega, by omega⟩
  ·rw [if_neg hm]
   have e1 : wr (most - n) = most - n := FZ ⟨by omega, by omega⟩
   have hT := MK t (most - n) Ar Ar Ar
   rw [e1]
   have e2 : wr (1 + Dv t (most - n)) = 1 + Dv t (most - n) := FZ ⟨by omega, by omega⟩
   rw [e2]
   have e3 : wr (n + (1 + Dv t (most - n))) = n + (1 + Dv t (most - n)) := FZ ⟨by omega, by omega⟩
   rw [e3]
   have hL := Ov ts most (n + (1 + Dv t (most - n))) h1 h2 Ar Ar
   refine ⟨by omega, by omega, fun h => ?_⟩
   have := hL.2.2 h
   have := hT.2.2 Ar
   omega
end
theorem U9 {t : Tm} (h : Tv t) : size t ≤ 201 := by
 obtain ⟨k, i, n, ls, ks⟩ := t
 have := h.2.2.2.1
 simp only [size]
 omega
theorem O5 : ∀ (ts : List Tm) (most n : Int), 0 ≤ most → most ≤ 1000 → 0 ≤ n → n ≤ 3000 → (∀ t ∈ ts, size t ≤ 201) → n ≤ D2 ts most n
 | [], most, n, h1, h2, h3, h4, hs => by simp [D2]
 | t :: ts, most, n, h1, h2, h3, h4, hs => by
  have ht := hs t As
  unfold D2
  by_cases hm : n > most
  ·rw [if_pos hm]; omega
  ·rw [if_neg hm]
   have e1 : wr (most - n) = most - n := FZ ⟨by omega, by omega⟩
   have hT := MK t (most - n) Ar Ar Ar
   rw [e1]
   have e2 : wr (1 + Dv t (most - n)) = 1 + Dv t (most - n) := FZ ⟨by omega, by omega⟩
   rw [e2]
   have e3 : wr (n + (1 + Dv t (most - n))) = n + (1 + Dv t (most - n)) := FZ ⟨by omega, by omega⟩
   rw [e3]
   have hge := O5 ts most (n + (1 + Dv t (most - n))) h1 h2 Ar Ar (fun x hx => hs x (by simp [hx]))
   omega
theorem Ot : ∀ (ts : List Tm) (most n : Int), 0 ≤ most → most ≤ 1000 → 0 ≤ n → n ≤ 3000 → (∀ t ∈ ts, size t ≤ 201) → D2 ts most n ≤ most → D2 ts most n = n + B4 ts
 | [], most, n, h1, h2, h3, h4, hs, h => by simp [D2, B4]
 | t :: ts, most, n, h1, h2, h3, h4, hs, h => by
  have ht := hs t As
  simp only [B4]
  unfold D2 at h ⊢
  by_cases hm : n > most
  ·rw [if_pos hm] at h; omega
  ·rw [if_neg hm] at h ⊢
   have e1 : wr (most - n) = most - n := FZ ⟨by omega, by omega⟩
   have hT := MK t (most - n) Ar Ar Ar
   rw [e1] at h ⊢
   have e2 : wr (1 + Dv t (most - n)) = 1 + Dv t (most - n) := FZ ⟨by omega, by omega⟩
   rw [e2] at h ⊢
   have e3 : wr (n + (1 + Dv t (most - n))) = n + (1 + Dv t (most - n)) := FZ ⟨by omega, by omega⟩
   rw [e3] at h ⊢
   have hL := Ot ts most (n + (1 + Dv t (most - n))) h1 h2 Ar Ar (fun x hx => hs x (by simp [hx])) h
   have hge := O5 ts most (n + (1 + Dv t (most - n))) h1 h2 Ar Ar (fun x hx => hs x (by simp [hx]))
   have := hT.2.2 Ar
   omega
structure aF (l : List Tm) : Prop where
 sz : B4 l ≤ 200
 nd : Ic l
 fw : Rg l
theorem Xk {l : List Tm} {m : Nat} (hm : l.length ≤ m) (hw : Vt l) (hl : l.length < wide) (h : D2 l 200 0 ≤ 200) (hc : ∀ j, j < m → ∀ t, l[j]? = some t → Tv t) : aF l := by
 have hf : ∀ t ∈ l, Tv t := fun t ht => by
  obtain ⟨i, hi⟩ := Fh ht
  exact hc i (by have := (List.getElem?_eq_some_iff.1 hi).1; omega) t hi
 have := Ot l 200 0 Ar Ar Ar Ar (fun t ht => U9 (hf t ht)) h
 exact ⟨by omega, QE fun t ht => by
  obtain ⟨i, hi⟩ := Fh ht
  exact ZO (Ms hw hi) (hf t ht), WV fun t ht => by
  obtain ⟨k, i, n, ls, ks⟩ := t
  have h5 := hf _ ht
  exact ⟨h5.1, h5.2.1, h5.2.2.1, h5.2.2.2.2.2⟩⟩
structure bY (m : Nat) (x : Mv) : Prop where
 n1 : Nd x.type
 n2 : Nd x.value
 sz : size x.type + size x.value ≤ 40
 w1 : wf 0 m 0 x.type
 w2 : x.known = true → wf 0 m 0 x.value
 w3 : x.known = false → x.value = BZ
structure ft (l : List Mv) : Prop where
 len : l.length ≤ 8
 all : ∀ m ∈ l, bY l.length m
structure dT (m : Nat) (ctx terms : List Tm) : Prop where
 len : ctx.length ≤ 6
 s1 : B4 ctx ≤ 60
 s2 : B4 terms ≤ 60
 n1 : Ic ctx
 n2 : Ic terms
 w2 : ∀ t ∈ terms, wf ctx.length m 0 t
 w1 : ∀ (i : Nat) (t : Tm), ctx[i]? = some t → wf i m 0 t
structure gu (x : Mv) : Prop where
 w1 : Wd x.type
 w2 : Wd x.value
end Go.Eu
