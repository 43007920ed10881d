/- Part of the proofs: an abstract program logic, plain models and contracts of functions. -/
import Derived.Test.YtapmjpihennhaaaGreatDoorPa
import Derived.MapKept
set_option linter.unusedVariables false
set_option linter.unusedSimpArgs false
namespace Go.Abs
section
variable {P : Program} {ops : Array Oper} {n : Nat} {τ₀ : Nat → AV} {D : List Eb} {Q : DC → CC → Prop} {opn : Nat → Bool} {k : Nat} {τ : Nat → AV} {H : List Bc} {rd : ZX} {ef : Xi} {effs : List Bool} {fx : List (Nat × Sp)} {dst : Option Tmp} {op : Op} {ty : TypeId} {pos : String} {aft : Array Edge} {v : AV} {H' : List Bc}
theorem RT {cs : List AV} (fx' : List (Nat × Sp)) (ho : ops[k]? = some ⟨dst, op, ty, pos, aft, none⟩) (hn : opn k = true) (h : DZ P ⟨dst, op, ty, pos, aft, none⟩ (ev τ) H (Jn cs H)) (haft : FW ops k (fx'.map (·.1)) = true)
  (next : ∀ b, Lp ops k H (.box b cs :: H) rd ∧ Ik k (.eff (.ptr b 0) (.box b cs :: H)) fx ∧ Dr P ops n τ₀ D Q opn (k + 1) (put τ dst (.ptr b 0)) (.box b cs :: H) rd ((k, H, .box b cs :: H) :: ef) (true :: effs) (fx' ++ fx)) : Dr P ops n τ₀ D Q opn k τ H rd ef effs fx :=
 Ms fx' ho hn h haft ⟨_, _, 0, rfl, rfl⟩ (fun _ _ h => h.elim) (fun v H' ⟨b, h1, h2⟩ => by subst h1; subst h2; exact next b)
theorem NN {i sz : Nat} {rows : List (List PV)} (fx' : List (Nat × Sp)) (ho : ops[k]? = some ⟨dst, op, ty, pos, aft, none⟩) (hn : opn k = true) (h : DZ P ⟨dst, op, ty, pos, aft, none⟩ (ev τ) H (MN i sz rows H)) (haft : FW ops k (fx'.map (·.1)) = true)
  (next : ∀ o c, Lp ops k H (H.set i (.vec o sz rows c)) rd ∧ Ik k (.eff (.vs o rows.length c) (H.set i (.vec o sz rows c))) fx ∧ Dr P ops n τ₀ D Q opn (k + 1) (put τ dst (.vs o rows.length c)) (H.set i (.vec o sz rows c)) rd ((k, H, H.set i (.vec o sz rows c)) :: ef) (true :: effs) (fx' ++ fx)) : Dr P ops n τ₀ D Q opn k τ H rd ef effs fx :=
 Ms fx' ho hn h haft ⟨_, _, none, 0, rfl, rfl⟩ (fun _ _ h => h.elim) (fun v H' ⟨o, c, h1, h2⟩ => by subst h1; subst h2; exact next o c)
def Dq (v : AV) (H' : List Bc) : D1 → List Bc → Prop
 | .val v', H'' => v' = v ∧ H'' = H'
 | .panic _, _ => False
theorem YQ {c : Call} {g : Option (Nat × Bool)} {f : Operand} {fid : FuncId} {first caps : List AV} {ρ : Operand → AV} {Hs Hf Hs' : List Bc} {A : List AV}
  (hc : c.callee = .value f) (hf : (ρ f = .p (.fn fid) ∧ first = [] ∧ caps = []) ∨ ρ f = .fn (.func fid) first caps) (hp : H.Perm (Hs ++ Hf)) (h : B1 P fid A Hs (Dq v Hs')) (hA : first ++ c.args.toList.map ρ ++ caps = A ∨ (first ++ c.args.toList.map ρ ++ caps).map norm = A) :
  Dw P ⟨dst, .call c, ty, pos, aft, g⟩ ρ H v (Hs' ++ Hf) := by
 refine (Ig (H := H) hc hf hp h hA).mono ?_
 rintro r H' ⟨Hs', h1, rfl⟩
 cases r with
 | val v' => obtain ⟨rfl, rfl⟩ := h1; exact ⟨rfl, rfl⟩
 | panic v' => exact h1
end
def eo (k : Int) : List (Int × AV) → Option AV
 | [] => none
 | (j, x) :: r => if j = k then some x else eo k r
def ep (k : Int) (v : AV) : List (Int × AV) → List (Int × AV)
 | [] => [(k, v)]
 | (j, x) :: r => if j = k then (j, v) :: r else (j, x) :: ep k v r
def Zl (l : List (Int × AV)) : List (PV × AV) := l.map fun p => (.int .i64 p.1, p.2)
def mapOf (P : Program) (T : TypeId) : Option TypeId :=
 match P.underlying T with
 | some (.map k e) => match P.underlying k with
  | some (.int .i64) => some e
  | _ => none
 | _ => none
section
variable {F : Nat → Prop} {w : World}
end
section
variable {P : Program} {dst : Option Tmp} {ty : TypeId} {pos : String} {aft : Array Edge} {g : Option (Nat × Bool)} {ρ : Operand → AV} {H : List Bc} {x y z : Operand} {v : AV}
def V8 (H : List Bc) : D1 → List Bc → Prop
 | .val v, H' => ∃ b, v = .map b ∧ H' = .map b (Zl []) :: H
 | .panic _, _ => False
theorem Na {T : TypeId} : DZ P ⟨dst, .makeMap T none, ty, pos, aft, g⟩ ρ H (V8 H) :=
 Gq fun F w E hH hE => by
  refine ⟨.map (some w.heap.size), World.push w (.map #[] 0), .map w.heap.size, .map w.heap.size (Zl []) :: H, _, ?_, ⟨_, Ay, Ay⟩, Ih H _ _ (.inl Ay), JS hH _ _ Ay ?_, by simp [Cc]⟩
  ·simp [execOp, Instr.makeMap, Sem.run_bind]
   rfl
  exact ⟨#[], 0, Hw _, Ay⟩
theorem VI {T : TypeId} {d : TypeDesc} {a b : Value} {c : Bool} {w : World} (hu : P.underlying T = some d) (h : (match d, a, b with
  | .bool, .bool x, .bool y => some (x == y)
  | .interface _, .nilIface, .nilIface => some true
  | .interface _, .iface _ _, .nilIface => some false
  | .slice _, .slice none _ _, .slice none _ _ => some true
  | .slice _, .slice (some _) _ _, .slice none _ _ => some false
  | _, _, _ => none) = some c) : (Op.equal T a b).run P w = .ok c w := by
 unfold Op.equal
 rw [show Op.maxDepth = 9999 + 1 from rfl]
 unfold Op.equalIn
 simp only [Sem.run_bind, run_underlying hu, Result.andThen_ok]
 split at h <;> simp_all
theorem Pl {T e : TypeId} {len sz b o : Nat} {k : IntKind} {i : Int} {inf : TypeInfo} (hu : P.underlying T = some (.array len e)) (hj : P.info? e = some inf) (hs : inf.size = sz) (hx : ρ x = .ptr b o) (hy : ρ y = .p (.int k i)) (h0 : 0 ≤ i) (hn : i < len) :
  Dw P ⟨dst, .indexAddr T x y, ty, pos, aft, g⟩ ρ H (.ptr b (o + i.toNat * sz)) H :=
 Cd fun F w E hH hE => by
  have h1 := hE x Ai
  have h2 := hE y Ai
  rw [hx] at h1
  rw [hy] at h2
  simp only [Cc, Cg] at h1 h2
  refine ⟨.pointer (some ⟨b, o + i.toNat * sz, none⟩), ?_, by simp [Cc]⟩
  simp [execOp, Instr.indexAt, Sem.run_bind, run_underlying hu, h1, h2, asIntOf, h0, hn, sizeOf, typeInfo, hj, hs, Addr.add_mid, Instr.sureAddr, asAddr]
theorem Pn {T e : TypeId} {len : Nat} {parts : Array (Nat × Operand)} {z : Value} {cs : List AV} {inf : TypeInfo} (hu : P.underlying T = some (.array len e)) (hj : P.info? e = some inf) (hz : zeroOf P T = some z)
  (hc : ES (fun i => some (i * inf.size, inf.size)) (z.cells.toList.map G7) (parts.toList.map fun p => (p.1, ρ p.2)) = some cs) : Dw P ⟨dst, .build T parts, ty, pos, aft, g⟩ ρ H (.agg cs) H :=
 Cd fun F w E hH hE => by
  unfold zeroOf at hz
  cases hi : P.info? T with
  | none => simp [hi] at hz
  | some i =>
   have hz' : i.zero = some z := by simpa [hi] using hz
   have hzv : (zeroValue T).run P w = .ok z w := by simp [zeroValue, typeInfo, hi, hz', Sem.run_bind]
   have hsz : (sizeOf e).run P w = .ok inf.size w := by simp [sizeOf, typeInfo, hj]
   obtain ⟨us, hf, hr⟩ := Ii (F := F) (w := w) (place := (fun i => some (i * inf.size, inf.size))) _ (parts.toList.map fun p => (p.1, E p.2)) _ z.cells.toList _ Ax (by
    intro j p q h1 h2
    simp only [List.getElem?_map] at h1 h2
    cases hj : parts.toList[j]? with
    | none => simp [hj] at h1
    | some t =>
     simp [hj] at h1 h2
     subst h1; subst h2
     exact ⟨Ay, hE _ (by
      have := List.mem_of_getElem? hj
      simp only [Op.operands]
      exact List.mem_map.2 ⟨t, this, Ay⟩)⟩) (GW _) hc
   refine ⟨.agg ⟨us⟩, ?_, by simp only [Cc]; exact ⟨us, rfl, hr⟩⟩
   simp only [execOp, Instr.build, Sem.run_bind, hzv, Result.andThen_ok, run_underlying hu, hsz]
   have hf' : Instr.fill (fun i => some (i * inf.size, inf.size)) z.cells (parts.toList.map fun p => (p.1, E p.2)) = some ⟨us⟩ := hf
   simp [hf']
end
def L7 (P : Program) (T : TypeId) : Bool :=
 match P.underlying T with
 | some (.struct fs) => match fs.toList with
  | [f, g] => f.name != "_" && g.name != "_" && Nat.beq f.offset 0 && Nat.beq g.offset 1 && (match P.underlying f.type, P.underlying g.type with | some (.int .i64), some (.int .i64) => true | _, _ => false) && !P.stoodInHeld T && !P.eqGuardType P.depth T
  | _ => false
 | _ => false
theorem S7 {P : Program} {T : TypeId} {a b c d : Int} {w : World} (h : L7 P T = true) : (Op.equal T (.agg #[.int .i64 a, .int .i64 b]) (.agg #[.int .i64 c, .int .i64 d])).run P w = .ok (a == c && b == d) w := by
 unfold L7 at h
 split at h
 ·rename_i fs hu
  split at h
  ·rename_i f g hfs
   obtain rfl : fs = #[f, g] := by apply Array.ext'; simpa using hfs
   simp only [Bool.and_eq_true, bne_iff_ne, ne_eq, Bool.not_eq_true'] at h
   obtain ⟨⟨⟨⟨⟨⟨h1, h2⟩, h3⟩, h4⟩, h5⟩, h6⟩, h7⟩ := h
   split at h5
   ·rename_i hf hg
    have e3 := Nat.eq_of_beq_eq_true h3
    have e4 := Nat.eq_of_beq_eq_true h4
    have hp : (program).run P w = .ok P w := rfl
    have af : (isAgg f.type).run P w = .ok false w := JF hf false rfl w
    have ag : (isAgg g.type).run P w = .ok false w := JF hg false rfl w
    have pf : ∀ x y, (part f.type #[.int .i64 x, .int .i64 y] f.offset).run P w = .ok (.int .i64 x) w := by
     intro x y; unfold part; simp [Sem.run_bind, af, e3]
    have pg : ∀ x y, (part g.type #[.int .i64 x, .int .i64 y] g.offset).run P w = .ok (.int .i64 y) w := by
     intro x y; unfold part; simp [Sem.run_bind, ag, e4]
    have qf : ∀ x y, (Op.equalIn 9999 f.type (.int .i64 x) (.int .i64 y)).run P w = .ok (x == y) w := by
     intro x y; rw [show (9999 : Nat) = 9998 + 1 from rfl]; unfold Op.equalIn; simp [Sem.run_bind, run_underlying hf]
    have qg : ∀ x y, (Op.equalIn 9999 g.type (.int .i64 x) (.int .i64 y)).run P w = .ok (x == y) w := by
     intro x y; rw [show (9999 : Nat) = 9998 + 1 from rfl]; unfold Op.equalIn; simp [Sem.run_bind, run_underlying hg]
    unfold Op.equal
    rw [show Op.maxDepth = 9999 + 1 from rfl]
    unfold Op.equalIn
    simp only [Sem.run_bind, run_underlying hu, Result.andThen_ok, hp, h6]
    simp [Sem.run_bind, h1, h2, pf, pg, qf, qg]
    cases hac : (a == c) <;> cases hbd : (b == d) <;> simp_all [Sem.run_bind, h1, h2, pf, pg, qf, qg]
   cases h5
  cases h
 cases h
section
variable {P : Program} {dst : Option Tmp} {ty : TypeId} {pos : String} {aft : Array Edge} {g : Option (Nat × Bool)} {ρ : Operand → AV} {H : List Bc} {x y z : Operand} {v : AV}
theorem VK {T U : TypeId} {a b c d : Int} (h : L7 P T = true) (hx : ρ x = .agg [.p (.int .i64 a), .p (.int .i64 b)]) (hy : ρ y = .agg [.p (.int .i64 c), .p (.int .i64 d)]) : Dw P ⟨dst, .binOp .neq T x y U, ty, pos, aft, g⟩ ρ H (.p (.bool (!(a == c && b == d)))) H :=
 Cd fun F w E hH hE => by
  have e1 := hE x Ai
  have e2 := hE y Ai
  rw [hx] at e1
  rw [hy] at e2
  simp only [Cc, CF, Cg] at e1 e2
  obtain ⟨vs, e1, u1, us1, rfl, rfl, u2, us2, rfl, rfl, rfl⟩ := e1
  obtain ⟨vs', e2, v1, vs1, rfl, rfl, v2, vs2, rfl, rfl, rfl⟩ := e2
  refine ⟨.bool (!(a == c && b == d)), ?_, by simp [Cc, Cg]⟩
  have hq := S7 (P := P) (T := T) (a := a) (b := b) (c := c) (d := d) (w := w) h
  have h' := h
  have hg : (eqGuard .neq T x y (.agg #[.int .i64 a, .int .i64 b]) (.agg #[.int .i64 c, .int .i64 d])).run P w = .ok () w := by
   unfold L7 at h'
   split at h'
   ·split at h'
    ·simp only [Bool.and_eq_true, Bool.not_eq_true'] at h'
     have h7 := h'.2
     have hp : (program).run P w = .ok P w := rfl
     unfold eqGuard
     simp [Sem.run_bind, hp, h7]
    cases h'
   cases h'
  simp [execOp, Sem.run_bind, hg, e1, e2, binOp, hq]
end
theorem JY {P : Program} {r : Option Nat} {c : Code} {S : CC} {Q : DC → CC → Prop} (N : Nat) (C : Nat → Prop) (St : Nat → CC) (i₀ : Nat) (h₀ : i₀ ≤ N) (hC : C i₀) (l : Le S (St i₀))
  (round : ∀ i, i ≤ N → C i → Jd P r c (St i) (Si (fun S' => i < N ∧ C (i + 1) ∧ Le S' (St (i + 1))) Q)) : Jd P r (.loop c) S Q := by
 refine SS (fun m S => ∃ i, i ≤ N ∧ m = N - i ∧ C i ∧ S = St i) (m := N - i₀) l ⟨i₀, h₀, Ay, hC, Ay⟩ ?_
 rintro m S ⟨i, hi, rfl, hc, rfl⟩
 refine (round i hi hc).mono ?_
 intro e S' h
 cases e with
 | normal =>
  obtain ⟨h1, h2, h3⟩ := h
  exact ⟨N - (i + 1), St (i + 1), by omega, h3, i + 1, by omega, rfl, h2, rfl⟩
 | exit id => exact h
 | ret => exact h
 | panic v => exact h
theorem B4 {α : Type} {P : Program} {r : Option Nat} {c : Code} {S : CC} {Q : DC → CC → Prop} (St : α → CC) (μ : α → Nat) (C : α → Prop) (a₀ : α) (hC : C a₀) (l : Le S (St a₀))
  (round : ∀ a, C a → Jd P r c (St a) (Si (fun S' => ∃ a', μ a' < μ a ∧ C a' ∧ Le S' (St a')) Q)) : Jd P r (.loop c) S Q := by
 refine SS (fun m S => ∃ a, m = μ a ∧ C a ∧ S = St a) (m := μ a₀) l ⟨a₀, Ay, hC, Ay⟩ ?_
 rintro m S ⟨a, rfl, hc, rfl⟩
 refine (round a hc).mono ?_
 intro e S' h
 cases e with
 | normal =>
  obtain ⟨a', h1, h2, h3⟩ := h
  exact ⟨μ a', St a', h1, h3, a', Ay, h2, Ay⟩
 | exit id => exact h
 | ret => exact h
 | panic v => exact h
abbrev wr (n : Int) : Int := IntKind.i64.wrap n
section
variable {P : Program} {dst : Option Tmp} {ty : TypeId} {pos : String} {aft : Array Edge} {g : Option (Nat × Bool)} {ρ : Operand → AV} {H : List Bc} {x y z : Operand} {v : AV}
theorem EE {m n : Int} {T U : TypeId} (hx : ρ x = .p (.int .i64 m)) (hy : ρ y = .p (.int .i64 n)) : Dw P ⟨dst, .binOp .add T x y U, ty, pos, aft, g⟩ ρ H (.p (.int .i64 (wr (m + n)))) H :=
 Cd fun F w E hH hE => by
  have e1 := hE x Ai
  have e2 := hE y Ai
  rw [hx] at e1
  rw [hy] at e2
  simp only [Cc, Cg] at e1 e2
  exact ⟨.int .i64 (wr (m + n)), by simp [execOp, Sem.run_bind, Iy, e1, e2, binOp, Op.intArith], by simp [Cc, Cg]⟩
theorem PZ {m n : Int} {T U : TypeId} (hx : ρ x = .p (.int .i64 m)) (hy : ρ y = .p (.int .i64 n)) : Dw P ⟨dst, .binOp .sub T x y U, ty, pos, aft, g⟩ ρ H (.p (.int .i64 (wr (m - n)))) H :=
 Cd fun F w E hH hE => by
  have e1 := hE x Ai
  have e2 := hE y Ai
  rw [hx] at e1
  rw [hy] at e2
  simp only [Cc, Cg] at e1 e2
  exact ⟨.int .i64 (wr (m - n)), by simp [execOp, Sem.run_bind, Iy, e1, e2, binOp, Op.intArith], by simp [Cc, Cg]⟩
end
def fO (R : AV → Prop) : D1 → List Bc → Prop
 | .val v, H' => R v ∧ H' = []
 | .panic _, _ => False
abbrev E1 (P : Program) (f : FuncId) (args : List AV) (R : AV → Prop) : Prop := B1 P f args [] (fO R)
theorem E1.of {P : Program} {f : FuncId} {args : List AV} {v : AV} {R : AV → Prop} (h : IA P f args v) (hR : R v) : E1 P f args R :=
 B1.mono h fun r H hr => by
  cases r with
  | val v' => obtain ⟨rfl, rfl⟩ := hr; exact ⟨hR, rfl⟩
  | panic v' => exact hr
def Mr (R : AV → Prop) (H : List Bc) : D1 → List Bc → Prop
 | .val v, H' => R v ∧ H' = H
 | .panic _, _ => False
section
variable {P : Program} {r : Option Nat} {ops : Array Oper} {Q : DC → CC → Prop} {k : Nat} {n : Nat} {τ : Nat → AV} {H H' : List Bc} {D : List Eb} {dst : Option Tmp} {op : Op} {ty : TypeId} {pos : String} {aft : Array Edge} {g : Option (Nat × Bool)} {v : AV}
theorem Bb {c : Call} {f : Operand} {fid : FuncId} {ρ : Operand → AV} {A : List AV} {R : AV → Prop} (hc : c.callee = .value f) (hf : ρ f = .p (.fn fid)) (h : E1 P fid A R) (hA : c.args.toList.map ρ = A ∨ (c.args.toList.map ρ).map norm = A) :
  DZ P ⟨dst, .call c, ty, pos, aft, g⟩ ρ H (Mr R H) := by
 refine (Ig (H := H) (Hs := []) (Hf := H) (first := []) (caps := []) hc (.inl ⟨hf, Ay, Ay⟩) (A := A) Ax h (by simpa using hA)).mono ?_
 rintro r H' ⟨Hs', h1, rfl⟩
 cases r with
 | val v' => obtain ⟨h1, rfl⟩ := h1; exact ⟨h1, rfl⟩
 | panic v' => exact h1
theorem Du {R : AV → Prop} (ho : ops[k]? = some ⟨dst, op, ty, pos, aft, none⟩) (hd : Is dst n = true) (h : DZ P ⟨dst, op, ty, pos, aft, none⟩ (ev τ) H (Mr R H))
  (next : ∀ v, R v → AL P r ops (k + 1) ⟨n, put τ dst v, H, D⟩ Q) : AL P r ops k ⟨n, τ, H, D⟩ Q :=
 FO (S := ⟨n, τ, H, D⟩) ho Ap (HL hd) h (fun v H' ⟨h1, h2⟩ => by subst h2; exact next v h1) (fun _ _ h => h.elim)
theorem IN {R : AV → Prop} {j d : Nat} {want : Bool} (ho : ops[k]? = some ⟨dst, op, ty, pos, aft, some (j, want)⟩) (hd : Is dst n = true) (hj : (ops[j]?).bind (·.dst) = some d) (hb : τ d = .p (.bool want)) (h : DZ P ⟨dst, op, ty, pos, aft, some (j, want)⟩ (ev τ) H (Mr R H))
  (next : ∀ v, R v → AL P r ops (k + 1) ⟨n, put τ dst v, H, D⟩ Q) : AL P r ops k ⟨n, τ, H, D⟩ Q :=
 FO (S := ⟨n, τ, H, D⟩) ho (by simp only [DV]; exact ⟨d, hj, hb⟩) (HL hd) h (fun v H' ⟨h1, h2⟩ => by subst h2; exact next v h1) (fun _ _ h => h.elim)
end
section
variable {P : Program} {ops : Array Oper} {n : Nat} {τ₀ : Nat → AV} {D : List Eb} {Q : DC → CC → Prop} {opn : Nat → Bool} {k : Nat} {τ : Nat → AV} {H : List Bc} {rd : ZX} {ef : Xi} {effs : List Bool} {fx : List (Nat × Sp)} {dst : Option Tmp} {op : Op} {ty : TypeId} {pos : String} {aft : Array Edge}
theorem JD {R : AV → Prop} (fx' : List (Nat × Sp)) (ho : ops[k]? = some ⟨dst, op, ty, pos, aft, none⟩) (hn : opn k = true) (h : DZ P ⟨dst, op, ty, pos, aft, none⟩ (ev τ) H (Mr R H)) (haft : FW ops k (fx'.map (·.1)) = true) (hne : ∃ v, R v) (owe : Lp ops k H H rd)
  (next : ∀ v, R v → Ik k (.eff v H) fx ∧ Dr P ops n τ₀ D Q opn (k + 1) (put τ dst v) H rd ((k, H, H) :: ef) (true :: effs) (fx' ++ fx)) : Dr P ops n τ₀ D Q opn k τ H rd ef effs fx :=
 Ms fx' ho hn h haft (let ⟨v, hv⟩ := hne; ⟨v, H, hv, rfl⟩) (fun _ _ h => h.elim) (fun v H' ⟨h1, h2⟩ => by subst h2; exact ⟨owe, next v h1⟩)
theorem Xz {R : AV → Prop} {j d : Nat} {want : Bool} (fx' : List (Nat × Sp)) (ho : ops[k]? = some ⟨dst, op, ty, pos, aft, some (j, want)⟩) (hn : opn k = true) (hj : (ops[j]?).bind (·.dst) = some d) (hb : τ d = .p (.bool want)) (h : DZ P ⟨dst, op, ty, pos, aft, some (j, want)⟩ (ev τ) H (Mr R H)) (haft : FW ops k (fx'.map (·.1)) = true) (hne : ∃ v, R v) (owe : Lp ops k H H rd)
  (next : ∀ v, R v → Ik k (.eff v H) fx ∧ Dr P ops n τ₀ D Q opn (k + 1) (put τ dst v) H rd ((k, H, H) :: ef) (true :: effs) (fx' ++ fx)) : Dr P ops n τ₀ D Q opn k τ H rd ef effs fx :=
 .opn (Mr R H) fx' ho hn ⟨d, hj, hb⟩ h haft (let ⟨v, hv⟩ := hne; ⟨v, H, hv, rfl⟩) (fun v H' ⟨_, h2⟩ => by subst h2; exact owe) (fun v H' ⟨h1, h2⟩ => by subst h2; exact (next v h1).1) (fun v H' ⟨h1, h2⟩ => by subst h2; exact (next v h1).2) (fun _ _ h => h.elim)
end
theorem Bx {P : Program} {r : Option Nat} {c : Code} {Q : DC → CC → Prop} {n : Nat} {τ : Nat → AV} {H : List Bc} {D : List Eb} (live : List Nat) (d : Nat) (R : AV → Prop) (h : Jd P r c ⟨n, τ, H, D⟩ (Si (fun S' => S'.n = n ∧ S'.D = D ∧ H.Sublist S'.H ∧ R (S'.τ d) ∧ Z3 S'.τ τ live) Q))
  (next : ∀ x, R x → Q .normal ⟨n, mk ((d, x) :: live.map fun t => (t, τ t)), H, D⟩) : Jd P r c ⟨n, τ, H, D⟩ Q := by
 intro F a w hs
 refine wpIn_mono (h F a w hs) ?_
 rintro e a' w' ⟨e', S', F', hq, he, hs', ht⟩
 cases e' with
 | normal =>
  obtain ⟨n', τ', H', D'⟩ := S'
  obtain ⟨h1, h3, h2, h4, h5⟩ := hq
  simp only at h1 h2 h3 h4 h5
  subst h1; subst h3
  have l : Le ⟨n', τ', H', D'⟩ ⟨n', mk ((d, τ' d) :: live.map fun t => (t, τ t)), H, D'⟩ := Iq ⟨rfl, Nr h5⟩ h2
  exact ⟨.normal, _, F', next _ h4, he, hs'.le l, ht.sublist h2⟩
 | exit id => exact ⟨.exit id, S', F', hq, he, hs', ht⟩
 | ret => exact ⟨.ret, S', F', hq, he, hs', ht⟩
 | panic v => exact ⟨.panic v, S', F', hq, he, hs', ht⟩
def Dv (v : AV) : Prop := ∃ b : Bool, v = .p (.bool b)
def Lb (v : AV) : Prop := ∃ e : Int, v = .p (.int .i64 e)
end Go.Abs
namespace Go.Eu
open Go.Abs
noncomputable def QJ {α : Type} (a b : α) : Bool := @decide (a = b) (Classical.propDecidable _)
theorem FT {α : Type} {a b : α} (h : a = b) : QJ a b = true := by simp [QJ, h]
theorem Fc {α : Type} {a b : α} (h : a ≠ b) : QJ a b = false := by simp [QJ, h]
theorem LI {α : Type} {a b : α} : QJ a b = true ↔ a = b := by simp [QJ]
abbrev LV (l : Fl) : AV := .agg ((Dx l).map .p)
abbrev fj (ts : List Tm) : AV := .p (.lst (Bg ts))
abbrev ee (ls : List Fl) : AV := .p (.lst (ls.map Dx))
theorem Gm {ts : List Db} {i : Nat} {t : Db} (h : ts[i]? = some t) : (ts.map Er)[i]? = some (Er t) := by simp [h]
theorem Kv {ts : List Fl} {i : Nat} {t : Fl} (h : ts[i]? = some t) : (ts.map Dx)[i]? = some (Dx t) := by simp [h]
def agree {α : Type} (a b : List α) (i : Nat) : Prop := a.take i = b.take i
theorem J3 {α : Type} (a b : List α) : agree a b 0 := by simp [agree]
theorem Jr {α : Type} {a b : List α} {i : Nat} {x : α} (h : agree a b i) (ha : a[i]? = some x) (hb : b[i]? = some x) : agree a b (i + 1) := by
 unfold agree at *
 rw [List.take_add_one, List.take_add_one, ha, hb, h]
theorem K2 {α : Type} {a b : List α} {n : Nat} (h : agree a b n) (ha : a.length = n) (hb : b.length = n) : a = b := by
 unfold agree at h
 rwa [List.take_of_length_le Aw, List.take_of_length_le Aw] at h
theorem BO {α : Type} {l : List α} {i : Nat} (h : i < l.length) : ∃ x, l[i]? = some x := ⟨_, List.getElem?_eq_getElem h⟩
abbrev EB : Nat := 1099511627776
def Je (n : Int) : Prop := -9223372036854775808 ≤ n ∧ n ≤ 9223372036854775807
structure V3 (l : Fl) : Prop where
 vars : l.vars.length < EB
 c : Je l.const
 v : ∀ v ∈ l.vars, Je v.index ∧ Je v.plus
mutual
def Nd : Tm → Prop
 | .mk k i n ls ks => n.size < EB ∧ ls.length < EB ∧ (∀ l ∈ ls, V3 l) ∧ ks.length < EB ∧ L5 ks ∧ Je k ∧ Je i
def L5 : List Tm → Prop
 | [] => True
 | t :: ts => Nd t ∧ L5 ts
end
theorem D7 : ∀ {ts : List Tm} {i : Nat} {t : Tm}, L5 ts → ts[i]? = some t → Nd t
 | [], i, t, _, h => by simp at h
 | a :: ts, 0, t, hn, h => by simp at h; subst h; exact hn.1
 | a :: ts, i + 1, t, hn, h => by simp at h; exact D7 hn.2 h
mutual
def depth : Tm → Nat
 | .mk _ _ _ _ ks => W5 ks + 1
def W5 : List Tm → Nat
 | [] => 0
 | t :: ts => max (depth t) (W5 ts)
end
end Go.Eu
namespace Go.Eu
theorem MM (bs : ByteArray) : ∀ (d i : Nat) (r : List UInt8), bs.size - i = d → ByteArray.toList.loop bs i r = r.reverse ++ bs.data.toList.drop i := by
 intro d
 induction d with
 | zero =>
  intro i r h
  unfold ByteArray.toList.loop
  have : ¬ i < bs.size := by omega
  simp only [this, if_false]
  rw [List.drop_eq_nil_of_le (by have : bs.data.size = bs.size := rfl; simp; omega)]; simp
 | succ d ih =>
  intro i r h
  unfold ByteArray.toList.loop
  have hi : i < bs.size := by omega
  simp only [hi, if_true]
  rw [ih (i + 1) _ Aw]
  have hlt : i < bs.data.toList.length := by have : bs.data.size = bs.size := rfl; simp; omega
  rw [List.drop_eq_getElem_cons hlt]
  have : bs.get! i = bs.data.toList[i] := by
   have h2 : i < bs.data.size := by simpa using hlt
   show bs.data[i]! = _
   rw [getElem!_pos bs.data i h2]; simp
  simp [this]
theorem Em (bs : ByteArray) : bs.toList = bs.data.toList := by
 unfold ByteArray.toList
 rw [MM bs _ 0 [] rfl]; simp
theorem JX {a b : ByteArray} (h : a.toList = b.toList) : a = b := by
 rw [Em, Em] at h
 cases a; cases b
 simp at h
 congr
end Go.Eu
namespace Go.Eu
open Go.Abs
mutual
def EO : Tm → Int → Int
 | .mk _ _ _ _ ks, most => Ea ks most 0
def Ea : List Tm → Int → Int → Int
 | [], _, n => n
 | t :: ts, most, n => if n > most then n else Ea ts most (wr (n + wr (1 + EO t (wr (most - n)))))
end
theorem P5 {l : List Tm} {i : Nat} {t : Tm} {most n : Int} (h : l[i]? = some t) : Ea (l.drop i) most n = if n > most then n else Ea (l.drop (i + 1)) most (wr (n + wr (1 + EO t (wr (most - n))))) := by
 have hlt : i < l.length := (List.getElem?_eq_some_iff.1 h).1
 rw [List.drop_eq_getElem_cons hlt]
 have : l[i] = t := by simpa [List.getElem?_eq_getElem hlt] using h
 rw [this, Ea]
end Go.Eu
namespace Go.Eu
def arity (k : Int) : Int := if k = 4 ∨ k = 5 ∨ k = 6 ∨ k = 7 then 2 else if k = 8 ∨ k = 11 then 3 else if k = 9 ∨ k = 10 then 1 else 0
def below (k i : Int) : Int := if ((i == 1 && (k == 5 || k == 6 || k == 7)) || (i == 2 && k == 11)) = true then 1 else 0
def TX : Tm → Prop
 | .mk kd _ _ _ ks => 0 ≤ kd ∧ kd < 13 ∧ (ks.length : Int) = arity kd
mutual
def wf (vars metas : Int) : Int → Tm → Prop
 | d, .mk kd ix _ _ ks => 0 ≤ kd ∧ kd < 13 ∧ (ks.length : Int) = arity kd ∧ (kd = 0 → 0 ≤ ix ∧ ix - d < vars) ∧ (kd = 12 → 0 ≤ ix ∧ ix < metas) ∧ eE vars metas kd d 0 ks
def eE (vars metas : Int) : Int → Int → Nat → List Tm → Prop
 | _, _, _, [] => True
 | kd, d, i, t :: ts => wf vars metas (d + below kd i) t ∧ eE vars metas kd d (i + 1) ts
end
theorem WO {vars metas kd d : Int} : ∀ {ks : List Tm} {i : Nat}, (∀ j t, ks[j]? = some t → wf vars metas (d + below kd ((i + j : Nat) : Int)) t) → eE vars metas kd d i ks
 | [], i, _ => by simp [eE]
 | t :: ts, i, h => by
  simp only [eE]
  exact ⟨by have := h 0 t rfl; simpa using this, WO fun j t' ht => by have := h (j + 1) t' (by simpa using ht); rw [show i + 1 + j = i + (j + 1) by omega]; exact this⟩
theorem EX (k i : Int) : 0 ≤ below k i ∧ below k i ≤ 1 := by unfold below; split <;> omega
theorem D5 {α : Type} {l : List α} {p : Nat → α → Prop} {i : Nat} {x : α} (h : ∀ j, j < i → ∀ t, l[j]? = some t → p j t) (hx : l[i]? = some x) (hp : p i x) : ∀ j, j < i + 1 → ∀ t, l[j]? = some t → p j t := by
 intro j hj t ht
 rcases Nat.lt_or_ge j i with h' | h'
 ·exact h j h' t ht
 have e : j = i := by omega
 subst e
 rw [hx] at ht
 injection ht with ht
 subst ht
 exact hp
end Go.Eu
namespace Go.Abs
section
variable {α : Type}
def Nc (is : List Nat) : Nat → List α → List α
 | _, [] => []
 | k, a :: l => bif is.any (Nat.beq k ·) then a :: Nc is (k + 1) l else Nc is (k + 1) l
theorem M6 (is : List Nat) : ∀ (k : Nat) (l : List α), (Nc is k l).Sublist l
 | _, [] => List.Sublist.refl _
 | k, a :: l => by
  simp only [Nc]
  cases is.any (Nat.beq k ·)
  ·exact (M6 is (k + 1) l).cons _
  exact (M6 is (k + 1) l).cons_cons _
theorem C2 {is : List Nat} {l l' : List α} (h : Nc is 0 l = l') : l'.Sublist l := h ▸ M6 is 0 l
def Ff (H : List α) : List Nat → List α → Prop
 | [], xs => xs = []
 | i :: is, xs => ∃ x xs', xs = x :: xs' ∧ H[i]? = some x ∧ Ff H is xs'
def Pw (H : List α) : List Nat → List α → List α
 | i :: is, x :: xs => Pw (H.set i x) is xs
 | _, _ => H
def DT (is : List Nat) : Nat → List α → List α
 | _, [] => []
 | k, a :: l => if k ∈ is then DT is (k + 1) l else a :: DT is (k + 1) l
theorem Nh : ∀ (k : Nat) (l : List α), DT [] k l = l
 | _, [] => rfl
 | k, a :: l => by simp [DT, Nh (k + 1) l]
theorem Ng {is : List Nat} {j : Nat} : ∀ (k : Nat) (l : List α), j < k → DT (j :: is) k l = DT is k l
 | _, [], _ => rfl
 | k, a :: l, h => by
  have : k ≠ j := by omega
  have ih := Ng (is := is) (j := j) (k + 1) l Aw
  simp [DT, this, ih]
theorem Mz {is : List Nat} {x : α} : ∀ (l : List α) (k i : Nat), l[i]? = some x → (k + i) ∉ is → (DT is k l).Perm (x :: DT ((k + i) :: is) k l)
 | [], k, i, h, _ => by simp at h
 | a :: l, k, 0, h, hn => by
  simp at h hn; subst h
  simp [DT, hn, Ng (k + 1) l (Nat.lt_succ_self k)]
 | a :: l, k, i + 1, h, hn => by
  simp at h
  have ih := Mz l (k + 1) i h (by rw [show k + 1 + i = k + (i + 1) by omega]; exact hn)
  rw [show k + 1 + i = k + (i + 1) by omega] at ih
  have hk : k ≠ k + (i + 1) := by omega
  simp only [DT, List.mem_cons, hk, false_or]
  split
  ·exact ih
  exact (ih.cons a).trans (.swap _ _ _)
theorem DB {H : List α} : ∀ {is : List Nat} {xs : List α}, is.Nodup → Ff H is xs → H.Perm (xs ++ DT is 0 H)
 | [], xs, _, h => by simp only [Ff] at h; subst h; simp [Nh]
 | i :: is, xs, hn, h => by
  obtain ⟨x, xs', rfl, hx, hr⟩ := h
  have hn' := List.nodup_cons.1 hn
  have ih := DB hn'.2 hr
  have := Mz (is := is) H 0 i hx (by simpa using hn'.1)
  simp only [Nat.zero_add] at this
  exact ih.trans (((List.Perm.refl xs').append this).trans List.perm_middle)
theorem Nf {is : List Nat} {y : α} : ∀ (l : List α) (k i : Nat), (k + i) ∈ is → DT is k (l.set i y) = DT is k l
 | [], k, i, _ => by simp
 | a :: l, k, 0, h => by simp at h; simp [DT, h]
 | a :: l, k, i + 1, h => by
  have := Nf (y := y) l (k + 1) i (by rw [show k + 1 + i = k + (i + 1) by omega]; exact h)
  simp only [List.set_cons_succ, DT, this]
theorem PI {i : Nat} {y : α} : ∀ {is : List Nat} {xs H : List α}, i ∉ is → Ff H is xs → Ff (H.set i y) is xs
 | [], xs, H, _, h => h
 | j :: is, xs, H, hn, h => by
  obtain ⟨x, xs', rfl, hx, hr⟩ := h
  simp at hn
  exact ⟨x, xs', Ay, by rw [List.getElem?_set_ne hn.1]; exact hx, PI hn.2 hr⟩
theorem Qa : ∀ {is : List Nat} {xs xs' H : List α}, is.Nodup → Ff H is xs → xs'.length = xs.length → Ff (Pw H is xs') is xs' ∧ (∀ ks k, (∀ i ∈ is, k + i ∈ ks) → DT ks k (Pw H is xs') = DT ks k H) ∧ ∀ j, j ∉ is → (Pw H is xs')[j]? = H[j]?
 | [], xs, xs', H, _, h, hl => by
  simp only [Ff] at h; subst h
  have : xs' = [] := by simpa using hl
  subst this
  exact ⟨Ay, fun _ _ _ => Ay, fun _ _ => Ay⟩
 | i :: is, xs, xs', H, hn, h, hl => by
  obtain ⟨x, xr, rfl, hx, hr⟩ := h
  have hn' := List.nodup_cons.1 hn
  cases xs' with
  | nil => simp at hl
  | cons y ys =>
   have hlt : i < H.length := (List.getElem?_eq_some_iff.1 hx).1
   obtain ⟨h1, h2, h3⟩ := Qa (H := H.set i y) hn'.2 (PI hn'.1 hr) (by simpa using hl)
   refine ⟨⟨y, ys, Ay, by rw [Pw, h3 i hn'.1]; simp [hlt], h1⟩, fun ks k hk => ?_, fun j hj => ?_⟩
   ·rw [Pw, h2 ks k (fun q hq => hk q (by simp [hq])), Nf _ _ _ (hk i Ax)]
   simp at hj
   rw [Pw, h3 j hj.2, List.getElem?_set_ne (fun e => hj.1 e.symm)]
theorem Qe {is : List Nat} {xs xs' H : List α} (hn : is.Nodup) (h : Ff H is xs) (hl : xs'.length = xs.length) : (Pw H is xs').Perm (xs' ++ DT is 0 H) := by
 obtain ⟨h1, h2, _⟩ := Qa hn h hl
 have := DB hn h1
 rwa [h2 is 0 (fun i hi => by simpa using hi)] at this
end
def ZC (τ : Nat → AV) (x : AV) : List Nat → Prop
 | [] => True
 | t :: r => τ t = x ∧ ZC τ x r
theorem HQ {τ : Nat → AV} {x : AV} : ∀ {ts : List Nat}, ZC τ x ts → ∀ t ∈ ts, τ t = x
 | [], _, t, h => by simp at h
 | a :: r, h, t, ht => by
  rcases List.mem_cons.1 ht with rfl | ht
  ·exact h.1
  exact HQ h.2 t ht
section
variable {P : Program} {S : CC} {a T n b i : Nat} {cs : List AV} {v : AV}
theorem Bt (hT : DY P T = some (true, n)) (ha : S.τ a = .ptr b 0) (hi : S.H[i]? = some (.box b cs)) (hn : cs.length = n) : YB P S (.cell a T) (.agg cs) := by
 obtain ⟨d, h1, h2, h3⟩ := E5 hT
 exact ⟨b, cs, i, ha, hi, .inl ⟨d, h1, h2, by rw [h3, hn], rfl⟩⟩
theorem SB (hT : DY P T = some (false, n)) (ha : S.τ a = .ptr b 0) (hi : S.H[i]? = some (.box b [v])) : YB P S (.cell a T) v := by
 obtain ⟨d, h1, h2, h3⟩ := E5 hT
 exact ⟨b, [v], i, ha, hi, .inr ⟨d, h1, h2, Ay⟩⟩
end
section
variable {P : Program} {dst : Option Tmp} {ty : TypeId} {pos : String} {aft : Array Edge} {g : Option (Nat × Bool)} {ρ : Operand → AV} {H Hs Hs' : List Bc} {x y z : Operand} {v : AV} {c : Call} {f : Operand} {fid : FuncId} {first caps A : List AV}
theorem DZ.permD {o : Oper} {H H' H'' : List Bc} (h : Dw P o ρ H v H') (hp : H'.Perm H'') : Dw P o ρ H v H'' := by
 intro r F S a w hs hH hρ hd
 have := h r F S a w hs hH hρ hd
 refine M9 this ?_ ?_
 ·rintro a' w' ⟨v', H1, F', ⟨rfl, rfl⟩, hs', ht⟩
  exact ⟨v', H'', F', ⟨Ay, Ay⟩, ⟨hs'.size, hs'.tmp, hs'.heap.perm hp, hs'.defs⟩, { ht with keys := fun o ho => ht.keys o (hp.mem_iff.2 ho) }⟩
 rintro e a' w' ⟨v', H1, F', u, h, _⟩
 exact h.elim
theorem Cf (is : List Nat) (hc : c.callee = .value f) (hf : (ρ f = .p (.fn fid) ∧ first = [] ∧ caps = []) ∨ ρ f = .fn (.func fid) first caps) (h : B1 P fid A Hs (Dq v Hs')) (hg : Ff H is Hs) (hn : is.Nodup) (hl : Hs'.length = Hs.length) (hA : first ++ c.args.toList.map ρ ++ caps = A ∨ (first ++ c.args.toList.map ρ ++ caps).map norm = A) :
  Dw P ⟨dst, .call c, ty, pos, aft, g⟩ ρ H v (Pw H is Hs') :=
 DZ.permD (YQ hc hf (DB hn hg) h hA) (Qe hn hg hl).symm
theorem Df {T T2 e e2 : TypeId} {sz bytes n2 n3 c i n : Nat} {o : Option Nat} {rows rows' rows2 : List (List PV)} {zv : Value} (hT : Fk P T = some (e, sz, bytes)) (hT2 : Fk P T2 = some (e2, n2, n3)) (hz : zeroOf P e = some zv) (hzs : zv.cells.size = sz) (hb0 : (Nat.blt 0 sz && Nat.blt 0 bytes) = true)
  (hx : ρ x = .vs o n c) (hn : n = rows.length) (hi : H[i]? = some (.vec o sz rows c)) (hy : norm (ρ y) = .p (.lst rows')) (hsol : ∀ r ∈ rows', Dg sz r) (hroom : 2 * (rows.length + rows'.length) * bytes ≤ 281474976710656) (h2 : rows ++ rows' = rows2) :
  DZ P ⟨dst, .call { callee := .builtin .append, args := #[x, y], argTypes := #[T, T2] }, ty, pos, aft, g⟩ ρ H (MN i sz rows2 H) := by
 subst h2; exact Pc hT hT2 hz hzs hb0 hx hn hi hy hsol hroom
theorem Yg {F : Nat → Prop} {w : World} {u : Value} (h : Cc F w (.p .nils) u) : Cc F w (.vs none 0 0) u := by
 simp only [Cc, Cg] at *
 exact ⟨trivial, trivial, none, h⟩
theorem TN {α : Type} : ∀ {us cs : List α}, us.length = cs.length → splice cs 0 us = us := by
 have key : ∀ (us : List α) (pre cs : List α), us.length = cs.length → splice (pre ++ cs) pre.length us = pre ++ us := by
  intro us
  induction us with
  | nil => intro pre cs h; have : cs = [] := by simpa using h.symm
           subst this; simp [splice]
  | cons u us ih =>
   intro pre cs h
   cases cs with
   | nil => simp at h
   | cons c cs =>
    simp only [splice]
    have := ih (pre ++ [u]) cs (by simpa using h)
    have e : (pre ++ c :: cs).set pre.length u = pre ++ [u] ++ cs := by simp
    rw [e]
    simpa using this
 intro us cs h
 exact key us [] cs h
theorem BB {T : TypeId} {bl : Bool} {n b i : Nat} {cs us : List AV} (hT : DY P T = some (bl, n + 1)) (hx : ρ x = .ptr b 0) (hi : H[i]? = some (.box b cs)) (hy : EJ (ρ y) = some us) (hn : us.length = n + 1)
  (ho : cs.length = n + 1) (h1 : us.all one = true) : Dw P ⟨dst, .store T x y, ty, pos, aft, g⟩ ρ H (.p .any) (H.set i (.box b us)) := by
 have := Bm (P := P) (dst := dst) (ty := ty) (pos := pos) (aft := aft) (g := g) hT hx hi hy hn (by rw [ho]; simp) h1
 rwa [TN (by rw [hn, ho])] at this
theorem Gr {T : TypeId} {bl : Bool} {b i j sz c : Nat} {rows rows2 : List (List PV)} {us : List AV} {r : List PV} (hT : DY P T = some (bl, sz)) (hpos : Nat.blt 0 sz = true) (hx : ρ x = .ptr b (j * sz)) (hi : H[i]? = some (.vec (some b) sz rows c)) (hj : j < rows.length) (hy : EJ (ρ y) = some us) (hp : Gt (us.map dn) = some r) (hrl : r.length = sz) (h1 : us.all one = true) (h2 : rows.set j r = rows2) :
  Dw P ⟨dst, .store T x y, ty, pos, aft, g⟩ ρ H (.p .any) (H.set i (.vec (some b) sz rows2 c)) := by
 subst h2; exact Pk hT hpos hx hi hj hy hp hrl h1
theorem Dk {T e : TypeId} {sz bytes lo hi : Nat} {rows rows2 : List (List PV)} {l h : Option Operand} (hT : Fk P T = some (e, sz, bytes)) (hx : ρ x = .p (.lst rows)) (hr : ∀ r ∈ rows, r.length = sz)
  (hl : match l with | none => lo = 0 | some y => ∃ k, ρ y = .p (.int k lo)) (hh : match h with | none => hi = rows.length | some y => ∃ k, ρ y = .p (.int k hi)) (h1 : lo ≤ hi) (h2 : hi ≤ rows.length) (h3 : (rows.take hi).drop lo = rows2) :
  Dw P ⟨dst, .slice T x l h none, ty, pos, aft, g⟩ ρ H (.p (.lst rows2)) H := by
 subst h3; exact U7 hT hx hr hl hh h1 h2
end
section
variable {P : Program} {r : Option Nat} {ops : Array Oper} {Q : DC → CC → Prop} {k : Nat} {n : Nat} {τ : Nat → AV} {H H' : List Bc} {D : List Eb} {dst : Option Tmp} {op : Op} {ty : TypeId} {pos : String} {aft : Array Edge} {v : AV}
theorem Vm (ho : ops[k]? = some ⟨dst, op, ty, pos, aft, none⟩) (hd : Is dst n = true) (h : DZ P ⟨dst, op, ty, pos, aft, none⟩ (ev τ) H (V8 H))
  (next : ∀ b, AL P r ops (k + 1) ⟨n, put τ dst (.map b), .map b (Zl []) :: H, D⟩ Q) : AL P r ops k ⟨n, τ, H, D⟩ Q :=
 FO (S := ⟨n, τ, H, D⟩) ho Ap (HL hd) h (fun v H' ⟨b, h1, h2⟩ => by subst h1; subst h2; exact next b) (fun _ _ h => h.elim)
end
theorem leH {is : List Nat} {H H1 H' : List Bc} (h : Nc is 0 H = H1) (w : FX H1 H') : Zb H H' := ⟨H1, C2 h, w⟩
theorem Cs {x y : AV} (h : norm x = y) : OP x y := fun _ _ _ hr => h ▸ hr.norm
theorem Dc : FX [] [] := rfl
theorem wl {o o' : Bc} {l l' : List Bc} (h : Kq o o') (r : FX l l') : FX (o :: l) (o' :: l') := ⟨o', l', rfl, h, r⟩
theorem on {b : Nat} {cs cs' : List AV} (h : cs.map dn = cs') : Kq (.box b cs) (.box b cs') := ⟨rfl, fun F w hr => by
 obtain ⟨vs, T, h1, h2⟩ := hr
 exact ⟨vs, T, h1, h ▸ LN h2⟩⟩
theorem Cv {n : Nat} {τ : Nat → AV} {H : List Bc} {D : List Eb} {i b : Nat} {cs : List AV} (hi : H[i]? = some (.box b cs)) : Hn ⟨n, τ, H, D⟩ ⟨n, τ, H.set i (.box b (cs.map dn)), D⟩ := by
 intro F a w hs
 refine ⟨F, ⟨hs.size, hs.tmp, ?_, hs.defs⟩, ?_⟩
 ·have hk := Fi (x' := .box b (cs.map dn)) hi rfl
  refine ⟨fun o ho c hc => ?_, by show List.Nodup _; rw [hk]; exact hs.heap.nodup, fun o ho => ?_, hs.heap.bd⟩
  ·rcases DX ho with rfl | ⟨j, _, hj⟩
   ·exact hs.heap.sub _ (List.mem_of_getElem? hi) c hc
   exact hs.heap.sub _ (List.mem_of_getElem? hj) c hc
  rcases DX ho with rfl | ⟨j, _, hj⟩
  ·exact (on Ay).2 F w (hs.heap.obj _ (List.mem_of_getElem? hi))
  exact hs.heap.obj _ (List.mem_of_getElem? hj)
 refine { Trans.refl (F := F) (H := H) (w := w) with keys := fun o ho c hc => ?_ }
 rcases DX ho with rfl | ⟨j, _, hj⟩
 ·exact .inl ⟨_, List.mem_of_getElem? hi, hc⟩
 exact .inl ⟨_, List.mem_of_getElem? hj, hc⟩
theorem El {n : Nat} {τ : Nat → AV} {H : List Bc} {D : List Eb} (t : Nat) : Hn ⟨n, τ, H, D⟩ ⟨n, put τ (some t) (norm (τ t)), H, D⟩ := Oe fun _ _ _ h => h.norm
theorem ob {b : Nat} {cs cs' : List AV} (h : cs = cs') : Kq (.box b cs) (.box b cs') := oe (by rw [h])
def aS (mkv : AV → AV) (sz : Nat) (rows : List (List PV)) : D1 → List Bc → Prop
 | .val v, H' => ∃ o c, v = mkv (.vs o rows.length c) ∧ H' = [.vec o sz rows c]
 | .panic _, _ => False
section
variable {P : Program} {r : Option Nat} {ops : Array Oper} {Q : DC → CC → Prop} {k : Nat} {n : Nat} {τ : Nat → AV} {H H' : List Bc} {D : List Eb} {dst : Option Tmp} {op : Op} {ty : TypeId} {pos : String} {aft : Array Edge} {v : AV}
theorem aL {c : Call} {f : Operand} {fid : FuncId} {first caps : List AV} {A : List AV} {mkv : AV → AV} {sz : Nat} {rows : List (List PV)}
  (ho : ops[k]? = some ⟨dst, .call c, ty, pos, aft, none⟩) (hd : Is dst n = true)
  (hc : c.callee = .value f) (hf : (ev τ f = .p (.fn fid) ∧ first = [] ∧ caps = []) ∨ ev τ f = .fn (.func fid) first caps) (h : B1 P fid A [] (aS mkv sz rows)) (hA : first ++ c.args.toList.map (ev τ) ++ caps = A ∨ (first ++ c.args.toList.map (ev τ) ++ caps).map norm = A)
  (next : ∀ o cp, AL P r ops (k + 1) ⟨n, put τ dst (mkv (.vs o rows.length cp)), .vec o sz rows cp :: H, D⟩ Q) : AL P r ops k ⟨n, τ, H, D⟩ Q :=
 MQ ho hd hc hf (Hs := []) (Hf := H) Ax h hA (fun v H' ⟨o, cp, h1, h2⟩ => by subst h1; subst h2; exact next o cp) (fun _ _ h => h.elim)
end
theorem TU {P : Program} {f : FuncId} {args : List AV} {pre post : List AV} {sz : Nat} {rows : List (List PV)} (h : B1 P f args [] (aS (fun v => .tup (pre ++ v :: post)) sz rows)) (hb : ∀ x ∈ pre ++ post, ∀ F F' w v, DW F w F' w → Cc F w x v → Cc F' w x v) :
  IA P f args (.tup (pre ++ .p (.lst rows) :: post)) := by
 refine ⟨h.1, fun F w vs hH ha => (h.2 F w vs hH ha).mono ?_⟩
 rintro e w' ⟨r, H', F', hR, he, hH', ht⟩
 cases r with
 | panic v => exact hR.elim
 | val v =>
  obtain ⟨o, c, rfl, rfl⟩ := hR
  obtain ⟨u, rfl, hu⟩ := he
  have hbd : ∀ b, o = some b → b < w'.heap.size := fun b hb => hH'.bd b (hH'.sub _ (List.mem_cons_self ..) b (by rw [← hb]; rfl))
  have st : DW F' w' (fun b => F' b ∧ o ≠ some b) w' := ⟨Nat.le_refl _, fun _ _ _ => rfl, fun _ h _ h' => h h'.1⟩
  have hob := hH'.obj _ (List.mem_cons_self ..)
  refine ⟨.val (.tup (pre ++ .p (.lst rows) :: post)), [], fun b => F' b ∧ o ≠ some b, ⟨Ay, Ay⟩, ⟨u, Ay, ?_⟩, ?_, ?_⟩
  ·simp only [Cc] at hu ⊢
   obtain ⟨us, hus, hr⟩ := hu
   refine ⟨us, hus, ?_⟩
   have key : ∀ (pre : List AV) (us : List Value), (∀ x ∈ pre ++ post, ∀ F F' w v, DW F w F' w → Cc F w x v → Cc F' w x v) → CF F' w' (pre ++ .vs o rows.length c :: post) us → CF (fun b => F' b ∧ o ≠ some b) w' (pre ++ .p (.lst rows) :: post) us := by
    intro pre
    induction pre with
    | nil =>
     intro us hb hr
     simp only [List.nil_append, CF] at hr ⊢
     obtain ⟨u, us', rfl, h1, h2⟩ := hr
     refine ⟨u, us', Ay, J5 hbd hob h1 _ st (fun b hb h => h.2 hb), ?_⟩
     exact CF.mono st _ _ h2
    | cons x pre ih =>
     intro us hb hr
     simp only [List.cons_append, CF] at hr ⊢
     obtain ⟨u, us', rfl, h1, h2⟩ := hr
     exact ⟨u, us', rfl, hb x Ax _ _ _ _ st h1, ih us' (fun y hy => hb y (by simp at hy ⊢; rcases hy with h | h <;> simp [h])) h2⟩
   exact key pre us hb hr
  ·exact ⟨fun _ h => by simp at h, by simp, fun _ h => by simp at h, fun b hb => hH'.bd b hb.1⟩
  refine ⟨ht.size, fun b hb hn => ht.same b hb hn, fun b hb hn => ⟨ht.keep b hb hn, ?_⟩, fun b hb => ht.fresh b hb.1, fun _ h => by simp at h, ht.os, ht.out, ht.tape⟩
  intro ho
  subst ho
  have := hH.bd b hb
  rcases ht.keys _ (List.mem_cons_self ..) b rfl with ⟨o', ho', _⟩ | h
  ·simp at ho'
  omega
theorem Sj (c : AV) (F F' : Nat → Prop) (w : World) (v : Value) (st : DW F w F' w) (h : Cc F w c v) : Cc F' w c v := Cc.mono st _ _ h
def Hc : List AV → List AV → Prop
 | [], ys => ys = []
 | x :: xs, ys => ∃ y ys', ys = y :: ys' ∧ OP x y ∧ Hc xs ys'
theorem C7 : Hc [] [] := rfl
theorem aw {x y : AV} {xs ys : List AV} (h : OP x y) (r : Hc xs ys) : Hc (x :: xs) (y :: ys) := ⟨y, ys, rfl, h, r⟩
theorem K9 {F : Nat → Prop} {w : World} : ∀ {xs ys : List AV} {vs : List Value}, Hc xs ys → CF F w xs vs → CF F w ys vs
 | [], ys, vs, h, hr => by simp only [Hc] at h; subst h; exact hr
 | x :: xs, ys, vs, h, hr => by
  obtain ⟨y, ys', rfl, h1, h2⟩ := h
  simp only [CF] at hr ⊢
  obtain ⟨u, us, rfl, r1, r2⟩ := hr
  exact ⟨u, us, Ay, h1 F w u r1, K9 h2 r2⟩
theorem Gd : OP (.p .nils) (.vs none 0 0) := fun _ _ _ h => Yg h
theorem B1.args {P : Program} {f : FuncId} {args A : List AV} {H : List Bc} {R : D1 → List Bc → Prop} (h : B1 P f A H R) (hA : Hc args A) : B1 P f args H R :=
 ⟨h.1, fun F w vs hH ha => h.2 F w vs hH (K9 hA ha)⟩
section
variable {P : Program} {r : Option Nat} {ops : Array Oper} {Q : DC → CC → Prop} {k : Nat} {n : Nat} {τ : Nat → AV} {H Hs : List Bc} {D : List Eb} {dst : Option Tmp} {op : Op} {ty : TypeId} {pos : String} {aft : Array Edge} {v : AV} {c : Call} {f : Operand} {fid : FuncId} {first caps A : List AV} {R : D1 → List Bc → Prop}
theorem QC {S : CC} {H' : List Bc} (hp : S.H.Perm H') : Hn S ⟨S.n, S.τ, H', S.D⟩ := fun F a w hs =>
 ⟨F, ⟨hs.size, hs.tmp, hs.heap.perm hp, hs.defs⟩, { Trans.refl (F := F) (H := S.H) (w := w) with keys := fun o ho b hb => .inl ⟨o, hp.mem_iff.2 ho, hb⟩ }⟩
theorem ON (is : List Nat) (ho : ops[k]? = some ⟨dst, .call c, ty, pos, aft, none⟩) (hd : Is dst n = true)
  (hc : c.callee = .value f) (hf : (ev τ f = .p (.fn fid) ∧ first = [] ∧ caps = []) ∨ ev τ f = .fn (.func fid) first caps) (h : B1 P fid A Hs R) (hg : Ff H is Hs) (hn : is.Nodup) (hA : Hc (first ++ c.args.toList.map (ev τ) ++ caps) A)
  (next : ∀ v Hs', R (.val v) Hs' → Hs'.length = Hs.length ∧ AL P r ops (k + 1) ⟨n, put τ dst v, Pw H is Hs', D⟩ Q) (pan : ∀ v Hs', R (.panic v) Hs' → Q (.panic v) ⟨n, τ, Hs' ++ DT is 0 H, D⟩) : AL P r ops k ⟨n, τ, H, D⟩ Q :=
 MQ ho hd hc hf (DB hn hg) (h.args hA) (.inl rfl) (fun v H' hR => by
  obtain ⟨hl, hn'⟩ := next v H' hR
  exact DK (QC (S := ⟨n, put τ dst v, H' ++ DT is 0 H, D⟩) (Qe hn hg hl).symm) hn') pan
theorem PA (is : List Nat) (ho : ops[k]? = some ⟨dst, .call c, ty, pos, aft, none⟩) (hd : Is dst n = true)
  (hc : c.callee = .value f) (hf : (ev τ f = .p (.fn fid) ∧ first = [] ∧ caps = []) ∨ ev τ f = .fn (.func fid) first caps) (h : B1 P fid A Hs R) (hg : Ff H is Hs) (hn : is.Nodup) (hA : Hc (first ++ c.args.toList.map (ev τ) ++ caps) A)
  (next : ∀ v Hs', R (.val v) Hs' → AL P r ops (k + 1) ⟨n, put τ dst v, Hs' ++ DT is 0 H, D⟩ Q) (pan : ∀ v Hs', R (.panic v) Hs' → Q (.panic v) ⟨n, τ, Hs' ++ DT is 0 H, D⟩) : AL P r ops k ⟨n, τ, H, D⟩ Q :=
 MQ ho hd hc hf (DB hn hg) (h.args hA) (.inl rfl) next pan
theorem HF {sz : Nat} : Hn ⟨n, τ, H, D⟩ ⟨n, τ, .vec none sz [] 0 :: H, D⟩ := by
 intro F a w hs
 have hH : HRel F (.vec none sz [] 0 :: H) w := ⟨fun o ho b hb => by
   rcases List.mem_cons.1 ho with rfl | ho
   ·cases hb
   ·exact hs.heap.sub o ho b hb, by simpa [List.filterMap_cons, Bc.key] using hs.heap.nodup, fun o ho => by
   rcases List.mem_cons.1 ho with rfl | ho
   ·exact ⟨Ay, Ay⟩
   exact hs.heap.obj o ho, hs.heap.bd⟩
 exact ⟨F, ⟨hs.size, hs.tmp, hH, hs.defs⟩, ⟨Nat.le_refl _, fun _ _ _ => Ay, fun _ h _ => h, fun _ h => .inl h, fun o ho b hb => by
   rcases List.mem_cons.1 ho with rfl | ho
   ·cases hb
   exact .inl ⟨o, ho, hb⟩, Ay, Ay, Ay⟩⟩
end
section
variable {P : Program} {r : Option Nat} {ops : Array Oper} {Q : DC → CC → Prop} {k : Nat} {n : Nat} {τ : Nat → AV} {H : List Bc} {D : List Eb} {o : Option Nat} {sz cp i : Nat} {rows : List (List PV)}
theorem SV {F : Nat → Prop} {w : World} {a : Act} (hs : Dm F ⟨n, τ, H, D⟩ a w) (hi : H[i]? = some (.vec o sz rows cp)) (hne : 0 < rows.length) : ∃ b, o = some b := by
 have := hs.heap.obj _ (List.mem_of_getElem? hi)
 cases o with
 | none => obtain ⟨h, _⟩ := this; simp [h] at hne
 | some b => exact ⟨b, rfl⟩
theorem UU (hi : H[i]? = some (.vec o sz rows cp)) (hne : 0 < rows.length) (next : ∀ b, o = some b → AL P r ops k ⟨n, τ, H, D⟩ Q) : AL P r ops k ⟨n, τ, H, D⟩ Q := fun F a w hs => by
 obtain ⟨b, hb⟩ := SV hs hi hne
 exact next b hb F a w hs
theorem Rs {c : Code} (hi : H[i]? = some (.vec o sz rows cp)) (hne : 0 < rows.length) (next : ∀ b, o = some b → Jd P r c ⟨n, τ, H, D⟩ Q) : Jd P r c ⟨n, τ, H, D⟩ Q := fun F a w hs => by
 obtain ⟨b, hb⟩ := SV hs hi hne
 exact next b hb F a w hs
end
section
variable {P : Program} {dst : Option Tmp} {ty : TypeId} {pos : String} {aft : Array Edge} {g : Option (Nat × Bool)} {ρ : Operand → AV} {H : List Bc}
theorem Bo {a : Operand} {T e : TypeId} {n n1 n2 : Nat} {rows : List (List PV)} (hT : Fk P T = some (e, n1, n2)) (hx : ρ a = .p (.lst rows)) (hn : rows.length = n) :
  Dw P ⟨dst, .call { callee := .builtin .len, args := #[a], argTypes := #[T] }, ty, pos, aft, g⟩ ρ H (.p (.int .i64 n)) H := Lh hT (.inl ⟨rows, hx, hn⟩)
theorem Mm {a : Operand} {T e : TypeId} {m n n1 n2 c : Nat} {o : Option Nat} (hT : Fk P T = some (e, n1, n2)) (hx : ρ a = .vs o m c) (hn : m = n) :
  Dw P ⟨dst, .call { callee := .builtin .len, args := #[a], argTypes := #[T] }, ty, pos, aft, g⟩ ρ H (.p (.int .i64 n)) H := Lh hT (.inr (.inl ⟨o, c, by rw [hx, hn]⟩))
end
section
variable {P : Program} {dst : Option Tmp} {ty : TypeId} {pos : String} {aft : Array Edge} {g : Option (Nat × Bool)} {ρ : Operand → AV} {H : List Bc} {x y : Operand}
end
section
variable {P : Program} {ops : Array Oper} {n : Nat} {τ₀ : Nat → AV} {D : List Eb} {Q : DC → CC → Prop} {opn : Nat → Bool} {k : Nat} {τ : Nat → AV} {H : List Bc} {rd : ZX} {ef : Xi} {effs : List Bool} {fx : List (Nat × Sp)} {dst : Option Tmp} {ty : TypeId} {pos : String} {aft : Array Edge} {c : Call} {f : Operand} {fid : FuncId} {first caps A : List AV} {mkv : AV → AV} {sz : Nat} {rows : List (List PV)}
end
section
variable {P : Program} {dst : Option Tmp} {ty : TypeId} {pos : String} {aft : Array Edge} {g : Option (Nat × Bool)} {ρ : Operand → AV} {H Hs Hs' : List Bc} {v : AV} {c : Call} {f : Operand} {fid : FuncId} {first caps A : List AV}
theorem DJ (hc : c.callee = .value f) (hf : ρ f = .p (.fn fid)) (h : IA P fid A v) (hA : Hc (c.args.toList.map ρ) A) : Dw P ⟨dst, .call c, ty, pos, aft, g⟩ ρ H v H := Bp hc hf (h.args hA) rfl
end
end Go.Abs
namespace Go.Eu
open Go.Abs
structure Mv where
 type : Tm
 known : Bool
 value : Tm
 cls : Bool
 deriving Inhabited
def C0 (n : Int) : List PV := [I n]
def CZ (s : ByteArray) : List PV := [.str s]
def jN (b : Bool) : List PV := [.bool b]
def bT (m : Mv) : List PV := Bu m.type ++ (.bool m.known :: (Bu m.value ++ [.bool m.cls]))
theorem E7 {ts : List Int} {i : Nat} {t : Int} (h : ts[i]? = some t) : (ts.map C0)[i]? = some (C0 t) := by simp [h]
theorem Hv {ts : List ByteArray} {i : Nat} {t : ByteArray} (h : ts[i]? = some t) : (ts.map CZ)[i]? = some (CZ t) := by simp [h]
abbrev MV (m : Mv) : AV := .agg ((bT m).map .p)
abbrev jV (l : List Mv) : AV := .p (.lst (l.map bT))
abbrev jU (l : List Int) : AV := .p (.lst (l.map C0))
def ei (sz : Nat) {α : Type} (f : α → List PV) : Prop := ∀ a, Dg sz (f a)
theorem GZ {α : Type} {sz : Nat} {f : α → List PV} (h : ∀ a, Dg sz (f a)) (l : List α) : ∀ r ∈ l.map f, Dg sz r := by
 intro r hr
 obtain ⟨a, _, rfl⟩ := List.mem_map.1 hr
 exact h a
theorem Hz (t : Tm) : Dg 5 (Bu t) := by
 obtain ⟨k, i, n, l, s⟩ := t
 refine ⟨Ay, ?_⟩
 intro c hc
 simp [Bu] at hc
 rcases hc with rfl | rfl | rfl | rfl | rfl <;> simp
theorem CT (l : List Tm) : ∀ r ∈ Bg l, Dg 5 r := by rw [FD]; exact GZ Hz l
theorem Qc (l : List Int) : ∀ r ∈ l.map C0, Dg 1 r := GZ (f := C0) (fun a => ⟨rfl, by simp [C0]⟩) l
theorem E8 (l : List ByteArray) : ∀ r ∈ l.map CZ, Dg 1 r := GZ (f := CZ) (fun a => ⟨rfl, by simp [CZ]⟩) l
theorem Lv (l : List Db) : ∀ r ∈ l.map Er, Dg 2 r := GZ (f := Er) (fun a => ⟨rfl, by simp [Er]⟩) l
theorem NL (l : List Fl) : ∀ r ∈ l.map Dx, Dg 2 r := GZ (f := Dx) (fun a => ⟨rfl, by simp [Dx]⟩) l
theorem B9 {sz : Nat} {rows : List (List PV)} (h : ∀ r ∈ rows, Dg sz r) : ∀ r ∈ rows, r.length = sz := fun r hr => (h r hr).1
theorem OK (a b : List Tm) : Bg a ++ Bg b = Bg (a ++ b) := by simp [FD]
theorem HJ {α : Type} {f : α → List PV} (a b : List α) : a.map f ++ b.map f = (a ++ b).map f := by simp
theorem ZB (l : List Tm) (j : Nat) (x : Tm) : (Bg l).set j (Bu x) = Bg (l.set j x) := by simp [FD, List.map_set]
theorem XZ {α : Type} {f : α → List PV} (l : List α) (j : Nat) (x : α) : (l.map f).set j (f x) = (l.set j x).map f := by simp [List.map_set]
theorem bx (l : List Tm) (hi : Nat) : ((Bg l).take hi).drop 0 = Bg (l.take hi) := by simp [FD, List.map_take]
theorem Pb {α : Type} {f : α → List PV} (l : List α) (hi : Nat) : ((l.map f).take hi).drop 0 = (l.take hi).map f := by simp [List.map_take]
theorem Kl {α : Type} {f : α → List PV} (l : List α) (lo : Nat) : ((l.map f).take (l.map f).length).drop lo = (l.drop lo).map f := by rw [List.take_length, List.map_drop]
theorem Ef {sz : Nat} {r : List PV} (h : Dg sz r) : (r.map AV.p).all one = true := by
 simp only [List.all_eq_true]
 intro x hx
 obtain ⟨c, hc, rfl⟩ := List.mem_map.1 hx
 have := h.2 c hc
 cases c <;> simp_all [one]
theorem CN (t : Tm) : ((Bu t).map AV.p).all one = true := Ef (Hz t)
theorem Wl {r : List PV} (h : ∀ c ∈ r, c ≠ .nils) : (r.map AV.p).map dn = r.map .p := by
 induction r with
 | nil => rfl
 | cons c r ih =>
  simp only [List.map_cons]
  rw [ih fun d hd => h d (by simp [hd])]
  have := h c Ax
  cases c <;> simp_all [dn]
theorem Se (t : Tm) : Gt (((Bu t).map AV.p).map dn) = some (Bu t) := by obtain ⟨k, i, n, l, s⟩ := t; rfl
end Go.Eu
namespace Go.Eu
def Oi (f a : Tm) : Tm := .mk 4 0 ⟨#[]⟩ [] [f, a]
def apply (f : Tm) (xs : List Tm) : Tm := xs.foldl Oi f
theorem PH {f : Tm} {xs : List Tm} {i : Nat} {x : Tm} (h : xs[i]? = some x) : apply f (xs.take (i + 1)) = Oi (apply f (xs.take i)) x := by
 simp [apply, List.take_add_one, h]
def CA : Tm → Tm × List Tm
 | .mk k i n l [f, a] => if k = 4 then ((CA f).1, (CA f).2 ++ [a]) else (.mk k i n l [f, a], [])
 | t => (t, [])
theorem Oj {k i : Int} {n : ByteArray} {l : List Fl} {ts : List Tm} (h : k ≠ 4 ∨ ((ts.length : Nat) : Int) ≠ 2) : CA (.mk k i n l ts) = (.mk k i n l ts, []) := by
 unfold CA
 split
 ·rename_i k' i' n' l' f a e
  injection e with e1 e2 e3 e4 e5
  subst e1 e2 e3 e4 e5
  simp at h
  rw [if_neg h]
 rfl
theorem QF {k i : Int} {n : ByteArray} {l : List Fl} {ts : List Tm} {x y : Tm} (h : k = 4 ∧ ((ts.length : Nat) : Int) = 2) (hx : ts[0]? = some x) (hy : ts[1]? = some y) : CA (.mk k i n l ts) = ((CA x).1, (CA x).2 ++ [y]) := by
 obtain ⟨rfl, h2⟩ := h
 match ts, h2, hx, hy with
 | [a, b], _, hx, hy =>
  simp at hx hy
  subst hx hy
  simp [CA]
theorem GQ : ∀ (t : Tm), size (CA t).1 + CE (CA t).2 + (CA t).2.length = size t
 | .mk k i n l [f, a] => by
  unfold CA
  split
  ·have := GQ f
   simp [size, CE] at this ⊢
   have e : ∀ (xs : List Tm) (y : Tm), CE (xs ++ [y]) = CE xs + size y := by
    intro xs y
    induction xs with
    | nil => simp [CE]
    | cons z zs ih => simp [CE, ih]; omega
   rw [e]
   omega
  ·simp [CE]
 | .mk k i n l [] => by simp [CA, CE]
 | .mk k i n l [_] => by simp [CA, CE]
 | .mk k i n l (_ :: _ :: _ :: _) => by simp [CA, CE]
theorem VW (t : Tm) : (CA t).2.length < size t := by
 have := GQ t
 have := size_pos (CA t).1
 omega
def IW (k : Int) (xs : List Tm) (t : Tm) : Tm := xs.foldr (fun a t => .mk k 0 ⟨#[]⟩ [] [a, t]) t
theorem R6 {k : Int} {xs : List Tm} {t x : Tm} {m j : Nat} (hx : xs[j]? = some x) (hm : m = j + 1) : IW k (xs.drop (m - 1)) t = .mk k 0 ⟨#[]⟩ [] [x, IW k (xs.drop m) t] := by
 subst hm
 have hlt := (List.getElem?_eq_some_iff.1 hx).1
 have e : xs[j] = x := (List.getElem?_eq_some_iff.1 hx).2
 rw [Nat.add_sub_cancel, List.drop_eq_getElem_cons hlt, e]
 rfl
theorem sd : (∀ (p : Prop) [Decidable p], (decide p = true) = p) ∧ (∀ {p : Prop} [Decidable p], decide p = false ↔ ¬p) ∧ (∀ {α : Type} [BEq α] [LawfulBEq α] {a b : α}, (a == b) = true ↔ a = b) ∧ (∀ {α : Type} [BEq α] [LawfulBEq α] {a b : α}, (a != b) = true ↔ a ≠ b) ∧ (∀ {α : Type} [BEq α] [LawfulBEq α] {a b : α}, (a == b) = false ↔ a ≠ b) ∧ (∀ {α : Type} [BEq α] [LawfulBEq α] {a b : α}, (a != b) = false ↔ a = b) ∧ (∀ {α : Type} (a b : α), (a ≠ b) = ¬(a = b)) ∧ (∀ {α : Type} [LT α] {x y : α}, x > y ↔ y < x) ∧ (∀ {α : Type} [LE α] {x y : α}, x ≥ y ↔ y ≤ x) ∧ (∀ (b : Bool), (¬(b = true)) = (b = false)) ∧ (∀ (b : Bool), (¬(b = false)) = (b = true)) ∧ (∀ (b : Bool), ((!b) = true) = (b = false)) ∧ (∀ (b : Bool), ((!b) = false) = (b = true)) ∧ (∀ {a b : Int}, ¬a < b ↔ b ≤ a) ∧ (∀ {a b : Int}, ¬a ≤ b ↔ b < a) :=
 ⟨fun _ => decide_eq_true_eq, decide_eq_false_iff_not, beq_iff_eq, bne_iff_ne, beq_eq_false_iff_ne, bne_eq_false_iff_eq, ne_eq, gt_iff_lt, ge_iff_le, Bool.not_eq_true, Bool.not_eq_false, fun b => by cases b <;> simp, fun b => by cases b <;> simp, Int.not_lt, Int.not_le⟩
theorem se : (∀ (ts : List Tm), (Bg ts).length = ts.length) ∧ (∀ {α β : Type} {ays : List α} {f : α → β}, (ays.map f).length = ays.length) ∧ (∀ {α : Type} {n : Nat} {a : α}, (List.replicate n a).length = n) ∧ (∀ (a b : Bool), ((a || b) = true) = (a = true ∨ b = true)) ∧ (∀ (a b : Bool), ((a && b) = true) = (a = true ∧ b = true)) ∧ (∀ {x y : Bool}, (x || y) = false ↔ x = false ∧ y = false) ∧ (∀ {x y : Bool}, (x && y) = false ↔ x = true → y = false) :=
 ⟨B5, List.length_map _, List.length_replicate, Bool.or_eq_true, Bool.and_eq_true, Bool.or_eq_false_iff, Bool.and_eq_false_imp⟩
end Go.Eu
namespace Go.Eu
open Go.Abs
def Vc (i : Int) : Tm := .mk 0 i ⟨#[]⟩ [] []
def Be : Tm := .mk 0 0 ⟨#[]⟩ [] []
def OQ (er e : Int) : Int := if er = 0 then e else er
def VA (er i : Int) : Int := if i > 65535 then OQ er 24 else er
mutual
def Hu : Tm → Int
 | .mk _ _ _ _ ks => Jf 1 ks
def Jf : Int → List Tm → Int
 | n, [] => n
 | n, t :: ts => Jf (wr (n + Hu t)) ts
end
mutual
def H7 : Tm → Int
 | .mk _ _ _ _ ks => wr (Mc 0 ks + 1)
def Mc : Int → List Tm → Int
 | n, [] => n
 | n, t :: ts => Mc (max n (H7 t)) ts
end
mutual
def Fe (b fr : Int) : Int → Int → Tm → Tm × Int
 | d, er, .mk k i n l ks =>
  if k = 0 then
   (if i < wr (fr + d) then (.mk k i n l ks, er)
    else if wr (i + b) < wr (fr + d) then (.mk k i n l ks, OQ er 24)
    else (Vc (wr (i + b)), VA er (wr (i + b))))
  else ((.mk k i n l (Ha b fr k d 0 er ks).1), (Ha b fr k d 0 er ks).2)
def Ha (b fr k : Int) : Int → Nat → Int → List Tm → List Tm × Int
 | d, j, er, [] => ([], er)
 | d, j, er, t :: ts => ((Fe b fr (d + below k j) er t).1 :: (Ha b fr k d (j + 1) (Fe b fr (d + below k j) er t).2 ts).1, (Ha b fr k d (j + 1) (Fe b fr (d + below k j) er t).2 ts).2)
end
mutual
def I6 (vs : List Tm) : Int → Int → Int → Tm → Tm × Int × Int
 | d, er, nd, .mk k i n l ks =>
  if nd > 4096 then (.mk k i n l ks, er, nd)
  else if k = 0 ∧ i ≥ d ∧ i - d < (vs.length : Int) then
   ((Fe d 0 0 er (vs.getD (i - d).toNat Be)).1, (Fe d 0 0 er (vs.getD (i - d).toNat Be)).2, wr (nd + Hu (vs.getD (i - d).toNat Be)))
  else if k = 0 then
   (if i ≥ d then (Vc (wr (i - vs.length)), VA er (wr (i - vs.length)), wr (nd + 1)) else (.mk k i n l ks, er, wr (nd + 1)))
  else ((.mk k i n l (N3 vs k d 0 er (wr (nd + 1)) ks).1), (N3 vs k d 0 er (wr (nd + 1)) ks).2)
def N3 (vs : List Tm) (k : Int) : Int → Nat → Int → Int → List Tm → List Tm × Int × Int
 | d, j, er, nd, [] => ([], er, nd)
 | d, j, er, nd, t :: ts => ((I6 vs (d + below k j) er nd t).1 :: (N3 vs k d (j + 1) (I6 vs (d + below k j) er nd t).2.1 (I6 vs (d + below k j) er nd t).2.2 ts).1,
   (N3 vs k d (j + 1) (I6 vs (d + below k j) er nd t).2.1 (I6 vs (d + below k j) er nd t).2.2 ts).2)
end
def Q6 (t : Tm) (vs : List Tm) (d : Int) : Tm × Int :=
 if (I6 vs (min d 65536) 0 0 t).2.2 > 4096 then (Be, 5)
 else if (I6 vs (min d 65536) 0 0 t).2.1 ≠ 0 then (Be, (I6 vs (min d 65536) 0 0 t).2.1)
 else if H7 (I6 vs (min d 65536) 0 0 t).1 > 200 then (Be, 7)
 else ((I6 vs (min d 65536) 0 0 t).1, 0)
structure NU where
 steps : Int
 nodes : Int
 forms : Int
 limit : Int
 over : Bool
 deriving Inhabited
def il (c : NU) : List PV := [I c.steps, I c.nodes, I c.forms, I c.limit, .bool c.over]
def NU.form (c : NU) (t : Tm) (e : Int) : NU :=
 { c with forms := wr (c.forms + Hu t), over := c.over || (e != 0 || decide (c.steps > c.limit) || decide (c.nodes > wr (2 * c.limit)) || decide (wr (c.forms + Hu t) > wr (40 * c.limit)) || decide (Hu t > 2000) || decide (H7 t > 95)) }
def NU.sized (c : NU) (t : Tm) : NU := { c with over := c.over || (decide (Hu t > 2000) || decide (H7 t > 95)) }
def iZ : NU := ⟨0, 0, 0, 1000, false⟩
end Go.Eu
namespace Go.Eu
theorem EI {α : Type} {l : List α} {i : Nat} {x : α} (h : l[i]? = some x) : l.drop i = x :: l.drop (i + 1) := by
 have hlt := (List.getElem?_eq_some_iff.1 h).1
 have e : l[i] = x := (List.getElem?_eq_some_iff.1 h).2
 rw [List.drop_eq_getElem_cons hlt, e]
theorem DD {α : Type} {l : List α} {i : Nat} {x d : α} (h : l[i]? = some x) : l.getD i d = x := by simp [List.getD, h]
end Go.Eu
namespace Go.Eu
open Go.Abs
theorem ad {o : Option Nat} {c : Nat} (l : List Tm) {l' : List Tm} (h : l = l') : AV.vs o (Bg l).length c = .vs o (Bg l').length c := by rw [h]
theorem UE {α : Type} {f : α → List PV} {o : Option Nat} {c : Nat} (l : List α) {l' : List α} (h : l = l') : AV.vs o (l.map f).length c = .vs o (l'.map f).length c := by rw [h]
theorem WJ {o : Option Nat} {sz c : Nat} (l : List Tm) {l' : List Tm} (h : l = l') : Kq (.vec o sz (Bg l) c) (.vec o sz (Bg l') c) := oe (by rw [h])
theorem UR {α : Type} {f : α → List PV} {o : Option Nat} {sz c : Nat} (l : List α) {l' : List α} (h : l = l') : Kq (.vec o sz (l.map f) c) (.vec o sz (l'.map f) c) := oe (by rw [h])
theorem KW {o : Option Nat} {c : Nat} (l : List Tm) {l' : List Tm} (h : l.length = l'.length) : AV.vs o (Bg l).length c = .vs o (Bg l').length c := by rw [B5, B5, h]
mutual
def Ts : List Int → Tm → List Int
 | l, .mk k i _ _ ks => if k = 12 then (if i ∈ l then l else RG (l ++ [i]) ks) else RG l ks
def RG : List Int → List Tm → List Int
 | l, [] => l
 | l, t :: ts => RG (Ts l t) ts
end
def jc (l : List Int) (n : Int) : Bool := decide (n ∈ l)
def Vl (fr : Int) : Nat → Nat → List Tm
 | _, 0 => []
 | m, k + 1 => Vc (fr + (m + k : Nat)) :: Vl fr m k
def dm (n fr : Int) : List Tm := if n < 1 ∨ n > 4096 ∨ fr < 0 then [] else Vl fr 0 n.toNat
def dh : List Int → List Tm → Option (List Int)
 | l, [] => some l
 | l, .mk k i _ _ _ :: ts => if k ≠ 0 ∨ i ∈ l then none else dh (l ++ [i]) ts
def jB (t : Tm) : Int × List Int × Bool :=
 if (CA t).1.kind ≠ 12 then (0, [], false)
 else match dh [] (CA t).2 with
  | none => (0, [], false)
  | some l => ((CA t).1.index, l, true)
def jE (ms : List Mv) (ctx : List Tm) (t : Tm) (cls : Bool) : List Mv × Tm × Int :=
 if ms.length ≥ 2000 then ([], Be, 6)
 else if Hu (IW 6 ctx t) > 4096 then ([], Be, 5)
 else if H7 (IW 6 ctx t) > 200 then ([], Be, 7)
 else (ms ++ [⟨IW 6 ctx t, false, Be, cls⟩], apply (.mk 12 ms.length ⟨#[]⟩ [] []) (dm ctx.length 0), 0)
end Go.Eu
namespace Go.Eu
end Go.Eu
namespace Go.Eu
open Go.Abs
theorem I3 {n : Int} (h : Je n) : wr n = n := Rg (k := .i64) h.1 h.2
mutual
theorem P3 (B : Int) (hB : B ≤ 4611686018427387904) : ∀ (t : Tm), (size t : Int) < B → Hu t = size t
 | .mk k i n l ks, h => by
  have h' : (1 : Int) + CE ks < B := by rw [size] at h; omega
  show Jf 1 ks = _
  rw [OD B hB ks 1 Aw h', size]
  omega
theorem OD (B : Int) (hB : B ≤ 4611686018427387904) : ∀ (ts : List Tm) (n : Int), 0 ≤ n → n + CE ts < B → Jf n ts = n + CE ts
 | [], n, _, _ => by simp [Jf, CE]
 | t :: ts, n, h0, h => by
  simp only [CE, Jf] at *
  rw [P3 B hB t (by have := size_pos t; omega), I3 ⟨by omega, by omega⟩, OD B hB ts (n + size t) Aw Aw]
  omega
end
theorem Om {t : Tm} (h : (size t : Int) < 4611686018427387904) : Hu t = size t := P3 _ (Int.le_refl _) t h
mutual
def Wt : Tm → Prop
 | .mk k i _ _ ks => (ks.length : Int) = arity k ∧ (k = 12 → 0 ≤ i) ∧ ft ks
def ft : List Tm → Prop
 | [] => True
 | t :: ts => Wt t ∧ ft ts
end
theorem O8 : ∀ {a b : List Tm}, L5 (a ++ b) ↔ L5 a ∧ L5 b
 | [], b => by simp [L5]
 | x :: a, b => by simp only [List.cons_append, L5, O8 (a := a), and_assoc]
theorem Sg : ∀ (t : Tm), Nd t → Nd (CA t).1 ∧ L5 (CA t).2
 | .mk k i n l [f, a], h => by
  unfold CA
  split
  ·have h' := h
   simp only [Nd, L5] at h'
   obtain ⟨e1, e2⟩ := Sg f h'.2.2.2.2.1.1
   exact ⟨e1, O8.2 ⟨e2, h'.2.2.2.2.1.2.1, trivial⟩⟩
  ·exact ⟨h, trivial⟩
 | .mk k i n l [], h => by simp only [CA]; exact ⟨h, trivial⟩
 | .mk k i n l [_], h => by simp only [CA]; exact ⟨h, trivial⟩
 | .mk k i n l (_ :: _ :: _ :: _), h => by simp only [CA]; exact ⟨h, trivial⟩
theorem MO {xs : List Tm} : ∀ {f : Tm}, Nd f → L5 xs → Nd (apply f xs) := by
 induction xs with
 | nil => intro f h _; exact h
 | cons x xs ih =>
  intro f h hx
  exact ih (f := Oi f x) ⟨by decide, by decide, by simp, by simp [EB], ⟨h, hx.1, trivial⟩, ⟨by decide, by decide⟩, ⟨by decide, by decide⟩⟩ hx.2
theorem Jm {xs : List Tm} : ∀ (f : Tm), size (apply f xs) = size f + CE xs + xs.length := by
 induction xs with
 | nil => intro f; simp [apply, CE]
 | cons x xs ih =>
  intro f
  have := ih (Oi f x)
  simp only [apply, List.foldl_cons, CE, List.length_cons] at *
  rw [this]
  simp [Oi, size, CE]
  omega
def known (ms : List Mv) (t : Tm) : Bool :=
 match t with
 | .mk k i _ _ _ => k == 12 && (decide (i < ms.length) && (match ms[i.toNat]? with | some m => m.known | none => false))
def valueOf (ms : List Mv) (i : Int) : Tm := match ms[i.toNat]? with | some m => m.value | none => Be
def Nb (F : NU → Tm → Tm × Int × NU) : NU → List Tm → List Tm × Int × NU
 | c, [] => ([], 0, c)
 | c, t :: ts => if (F c t).2.1 ≠ 0 then ([], (F c t).2.1, (F c t).2.2)
  else if (Nb F (F c t).2.2 ts).2.1 ≠ 0 then ([], (Nb F (F c t).2.2 ts).2.1, (Nb F (F c t).2.2 ts).2.2)
  else ((F c t).1 :: (Nb F (F c t).2.2 ts).1, 0, (Nb F (F c t).2.2 ts).2.2)
def iS (l : List Tm) (q : List Tm × Int × NU) : List Tm × Int × NU := if q.2.1 ≠ 0 then ([], q.2.1, q.2.2) else (l ++ q.1, 0, q.2.2)
def Za : NU → Tm → List Tm → NU × Tm × List Tm
 | c, v, [] => (c, v, [])
 | c, v, a :: l => if v.kind = 5 ∧ c.over = false then Za (c.form (Q6 (v.kids.getD 1 Be) [a] 0).1 (Q6 (v.kids.getD 1 Be) [a] 0).2) (Q6 (v.kids.getD 1 Be) [a] 0).1 l else (c, v, a :: l)
def ME : Tm → List Tm → Tm
 | .mk k i n l _, ks => .mk k i n l ks
def Km (ms : List Mv) : Nat → List Int → NU → Tm → Tm × Int × NU
 | 0, ab, c, t => (Be, 11, c)
 | n + 1, ab, c, t =>
  if c.over = true then (Be, 11, c)
  else if known ms (CA t).1 = false then
   (let q := Nb (Km ms n ab) c (CA t).1.kids
    if q.2.1 ≠ 0 then (Be, q.2.1, q.2.2)
    else
     (let r := Nb (Km ms n ab) q.2.2 (CA t).2
      if r.2.1 ≠ 0 then (Be, r.2.1, r.2.2)
      else (apply (ME (CA t).1 q.1) r.1, 0, r.2.2.sized (apply (ME (CA t).1 q.1) r.1))))
  else if (CA t).1.index ∈ ab then (Be, 22, c)
  else
   (let v := Km ms n (ab ++ [(CA t).1.index]) c (valueOf ms (CA t).1.index)
    if v.2.1 ≠ 0 then (Be, v.2.1, v.2.2)
    else
     (let r := Nb (Km ms n ab) (v.2.2.form v.1 0) (CA t).2
      if r.2.1 ≠ 0 then (Be, r.2.1, r.2.2)
      else
       (let b := Za r.2.2 v.1 r.1
        (apply b.2.1 b.2.2, 0, b.1.form (apply b.2.1 b.2.2) 0))))
def free (ms : List Mv) (ab : List Int) : Nat := ((List.range ms.length).filter fun i : Nat => !decide ((i : Int) ∈ ab)).length
def Mb (S : Nat) : Nat → Nat
 | 0 => 0
 | k + 1 => S * (Mb S k + 2) + 4096 + Mb S k
def jP (S : Nat) (ms : List Mv) : Prop := ∀ m ∈ ms, Nd m.value ∧ Wt m.value ∧ size m.value ≤ S
structure iP (M : Nat) (s : Nat) (r : Tm) : Prop where
 nd : Nd r
 wt : Wt r
 size : size r ≤ s * M
theorem HO {α : Type} {l : List α} {x : α} (h : x ∈ l) : ∃ i : Nat, l[i]? = some x := by
 obtain ⟨i, hi, he⟩ := List.mem_iff_getElem.1 h
 exact ⟨i, by rw [List.getElem?_eq_getElem hi, he]⟩
section
variable {ms : List Mv} {n : Nat} {ab : List Int} {c : NU} {t : Tm} {zk zi : Int} {zn : ByteArray} {zl : List Fl} {zs : List Tm}
end
theorem VE {f x : Tm} {us : List Tm} : apply (apply f us) [x] = apply f (us ++ [x]) := by simp [apply]
end Go.Eu
namespace Go.Eu
theorem Rn {l : List Tm} (h : L5 l) (k : Nat) : L5 (l.take k) := by
 induction l generalizing k with
 | nil => simp [L5]
 | cons a l ih =>
  cases k with
  | zero => trivial
  | succ k => exact ⟨h.1, ih h.2 k⟩
def XY (ms : List Mv) (n : Nat) (c : NU) (t : Tm) : Tm × Int × NU :=
 ((Km ms n [] c t).1, (Km ms n [] c t).2.1, if (Km ms n [] c t).2.1 = 0 then (Km ms n [] c t).2.2.form (Km ms n [] c t).1 0 else (Km ms n [] c t).2.2)
def im (ms : List Mv) (n : Nat) (c : NU) (t : Tm) : List Int × Int :=
 if (XY ms n c t).2.1 = 0 then (Ts [] (XY ms n c t).1, 0) else ([], (XY ms n c t).2.1)
end Go.Eu
namespace Go.Abs
section
variable {P : Program} {r : Option Nat} {ops : Array Oper} {Q : DC → CC → Prop} {k : Nat} {n : Nat} {τ : Nat → AV} {T : List Bc} {D : List Eb} {dst : Option Tmp} {op : Op} {ty : TypeId} {pos : String} {aft : Array Edge} {v : AV} {c : Call} {f : Operand} {fid : FuncId} {first caps A : List AV} {R : D1 → List Bc → Prop}
theorem Gn {H H' : List Bc} (hp : H.Perm H') (h : AL P r ops k ⟨n, τ, H', D⟩ Q) : AL P r ops k ⟨n, τ, H, D⟩ Q := DK (QC (S := ⟨n, τ, H, D⟩) hp) h
theorem Gf (fr : List Bc) {l : Nat} (ho : ops[k]? = some ⟨dst, .call c, ty, pos, aft, none⟩) (hd : Is dst n = true)
  (hc : c.callee = .value f) (hf : ev τ f = .fn (.yield l) [] []) (h : H6 P l A T R) (hA : c.args.toList.map (ev τ) = A)
  (next : ∀ v T', R (.val v) T' → AL P r ops (k + 1) ⟨n, put τ dst v, fr ++ T', D⟩ Q) (pan : ∀ v T', R (.panic v) T' → Q (.panic v) ⟨n, τ, T' ++ fr, D⟩) : AL P r ops k ⟨n, τ, fr ++ T, D⟩ Q :=
 FO (S := ⟨n, τ, fr ++ T, D⟩) ho Ap (HL hd) (VS hc hf List.perm_append_comm h hA) (fun v H' ⟨Hs', h1, h2⟩ => by subst h2; exact Gn List.perm_append_comm (next v Hs' h1)) (fun v H' ⟨Hs', h1, h2⟩ => by subst h2; exact pan v Hs' h1)
theorem Gu (fr : List Bc) (ho : ops[k]? = some ⟨dst, .call c, ty, pos, aft, none⟩) (hd : Is dst n = true)
  (hc : c.callee = .value f) (hf : (ev τ f = .p (.fn fid) ∧ first = [] ∧ caps = []) ∨ ev τ f = .fn (.func fid) first caps) (h : B1 P fid A T R) (hA : Hc (first ++ c.args.toList.map (ev τ) ++ caps) A)
  (next : ∀ v T', R (.val v) T' → AL P r ops (k + 1) ⟨n, put τ dst v, fr ++ T', D⟩ Q) (pan : ∀ v T', R (.panic v) T' → Q (.panic v) ⟨n, τ, T' ++ fr, D⟩) : AL P r ops k ⟨n, τ, fr ++ T, D⟩ Q :=
 MQ ho hd hc hf List.perm_append_comm (h.args hA) (.inl rfl) (fun v H' h1 => Gn List.perm_append_comm (next v H' h1)) pan
end
theorem FX.append : ∀ {l l' : List Bc} {T : List Bc}, FX l l' → FX (l ++ T) (l' ++ T)
 | [], l', T, h => by simp only [FX] at h; subst h; exact FX.refl T
 | o :: l, l', T, h => by
  obtain ⟨o', r', rfl, h1, h2⟩ := h
  exact ⟨o', r' ++ T, Ay, h1, FX.append h2⟩
theorem Pg (is : List Nat) (l : List Bc) {l1 l' T : List Bc} (h : Nc is 0 l = l1) (w : FX l1 l') : Zb (l ++ T) (l' ++ T) := ⟨l1 ++ T, (C2 h).append_right T, w.append⟩
theorem Fu (is : List Nat) (l : List Bc) {l1 T : List Bc} (h : Nc is 0 l = l1) : (l1 ++ T).Sublist (l ++ T) := (C2 h).append_right T
def iq (b : Bool) (H' : List Bc) : D1 → List Bc → Prop
 | .val v, H'' => v = .p (.bool b) ∧ H'' = H'
 | .panic _, _ => False
theorem Eo {n : Nat} {τ : Nat → AV} {H : List Bc} {D : List Eb} {t : Nat} {x : AV} (h : τ t = x) : Hn ⟨n, τ, H, D⟩ ⟨n, put τ (some t) x, H, D⟩ := Oe fun _ _ _ hr => h ▸ hr
section
variable {P : Program} {dst : Option Tmp} {ty : TypeId} {pos : String} {aft : Array Edge} {g : Option (Nat × Bool)} {ρ : Operand → AV} {H : List Bc} {x y : Operand}
theorem T6 {e : TypeId} {bl : Bool} {sz : Nat} (ht : DY P e = some (bl, sz)) : ∃ inf, P.info? e = some inf ∧ inf.size = sz := by
 obtain ⟨d, _, _, h⟩ := E5 ht
 cases hi : P.info? e with
 | none => simp [hi] at h
 | some inf => simp [hi] at h; exact ⟨inf, rfl, h⟩
theorem Fp {T e : TypeId} {bl : Bool} {len sz b o : Nat} {k : IntKind} {i : Int} (hu : P.underlying T = some (.array len e)) (ht : DY P e = some (bl, sz)) (hx : ρ x = .ptr b o) (hy : ρ y = .p (.int k i)) (h0 : 0 ≤ i) (hn : i < len) :
  Dw P ⟨dst, .indexAddr T x y, ty, pos, aft, g⟩ ρ H (.ptr b (o + i.toNat * sz)) H := by
 obtain ⟨inf, h1, h2⟩ := T6 ht
 exact Pl hu h1 h2 hx hy h0 hn
theorem Ks {T e : TypeId} {bl : Bool} {len sz : Nat} {parts : Array (Nat × Operand)} {z : Value} {cs : List AV} (hu : P.underlying T = some (.array len e)) (ht : DY P e = some (bl, sz)) (hz : zeroOf P T = some z)
  (hc : ES (fun i => some (i * sz, sz)) (z.cells.toList.map G7) (parts.toList.map fun p => (p.1, ρ p.2)) = some cs) : Dw P ⟨dst, .build T parts, ty, pos, aft, g⟩ ρ H (.agg cs) H := by
 obtain ⟨inf, h1, h2⟩ := T6 ht
 subst h2
 exact Pn hu h1 hz hc
end
theorem J0 {P : Program} {g : Operand} {ps : Array Tmp} {assign body : Code} {S : CC} {Q : DC → CC → Prop} {fid : FuncId} {first caps : List AV}
  (hg : (ev S.τ g = .p (.fn fid) ∧ first = [] ∧ caps = []) ∨ ev S.τ g = .fn (.func fid) first caps)
  (h : ∀ d l (L : L8), L = ⟨.ready, none, S.n, S.τ, ps, assign, body⟩ → ∃ Hs Hf, (Bc.loop l L :: .dfr d :: S.H).Perm (Hs ++ Hf) ∧
   B1 P fid (first ++ [.fn (.yield l) [] []] ++ caps) Hs (fun r H' => Qz P l d S Q r (H' ++ Hf))) :
  Jd P none (.rangeFunc g ps assign body) S Q := U3 hg fun d l => h d l _ rfl
def jG (H' : List Bc) : D1 → List Bc → Prop
 | .val v, H'' => v = .tup [] ∧ H'' = H'
 | .panic _, _ => False
def Ht (v : AV) (C : List Bc → Prop) : D1 → List Bc → Prop
 | .val v', H' => v' = v ∧ C H'
 | .panic _, _ => False
section
variable {P : Program} {n : Nat} {τ : Nat → AV} {H : List Bc} {D : List Eb}
theorem bG {b : Nat} {cs cs' : List AV} (h : Hc cs cs') : Kq (.box b cs) (.box b cs') := ⟨rfl, fun F w hr => by
 obtain ⟨vs, T, h1, h2⟩ := hr
 exact ⟨vs, T, h1, K9 h h2⟩⟩
theorem Gc {i : Nat} {o o' : Bc} (hi : H[i]? = some o) (hw : Kq o o') : Hn ⟨n, τ, H, D⟩ ⟨n, τ, H.set i o', D⟩ := by
 intro F a w hs
 refine ⟨F, ⟨hs.size, hs.tmp, ?_, hs.defs⟩, ?_⟩
 ·have hk := Fi (x' := o') hi hw.1
  refine ⟨fun x hx c hc => ?_, by show List.Nodup _; rw [hk]; exact hs.heap.nodup, fun x hx => ?_, hs.heap.bd⟩
  ·rcases DX hx with rfl | ⟨j, _, hj⟩
   ·exact hs.heap.sub _ (List.mem_of_getElem? hi) c (by rw [← hw.1]; exact hc)
   exact hs.heap.sub _ (List.mem_of_getElem? hj) c hc
  rcases DX hx with rfl | ⟨j, _, hj⟩
  ·exact hw.2 F w (hs.heap.obj _ (List.mem_of_getElem? hi))
  exact hs.heap.obj _ (List.mem_of_getElem? hj)
 refine { Trans.refl (F := F) (H := H) (w := w) with keys := fun x hx c hc => ?_ }
 rcases DX hx with rfl | ⟨j, _, hj⟩
 ·exact .inl ⟨_, List.mem_of_getElem? hi, by rw [← hw.1]; exact hc⟩
 exact .inl ⟨_, List.mem_of_getElem? hj, hc⟩
end
section
variable {P : Program} {dst : Option Tmp} {ty : TypeId} {pos : String} {aft : Array Edge} {g : Option (Nat × Bool)} {ρ : Operand → AV} {H : List Bc} {x y : Operand}
end
section
variable {P : Program} {dst : Option Tmp} {ty : TypeId} {pos : String} {aft : Array Edge} {g : Option (Nat × Bool)} {ρ : Operand → AV} {H : List Bc} {x y : Operand}
end
section
variable {P : Program} {dst : Option Tmp} {ty : TypeId} {pos : String} {aft : Array Edge} {g : Option (Nat × Bool)} {ρ : Operand → AV} {H : List Bc} {x y : Operand}
end
section
variable {P : Program} {r : Option Nat} {ops : Array Oper} {Q : DC → CC → Prop} {k : Nat} {n : Nat} {τ : Nat → AV} {H : List Bc} {D : List Eb} {dst : Option Tmp} {ty : TypeId} {pos : String} {aft : Array Edge} {v : AV} {c : Call} {f : Operand} {fid : FuncId} {first caps A : List AV}
end
end Go.Abs
namespace Go.Eu
open Go.Abs
def I1 (k : Int) : Int := if k = 5 ∨ k = 6 ∨ k = 7 then 1 else if k = 11 then 2 else -1
theorem SG {k : Int} {i : Int} (h : i = I1 k) (hi : 0 ≤ i) : below k i = 1 := by
 unfold I1 at h
 unfold below
 split at h
 ·rename_i hk; subst h; rcases hk with rfl | rfl | rfl <;> simp
 split at h
 ·rename_i hk; subst h; subst hk; simp
 omega
theorem Qg {k : Int} {i : Int} (h : i ≠ I1 k) : below k i = 0 := by
 unfold I1 at h
 unfold below
 rw [if_neg]
 simp only [Bool.or_eq_true, Bool.and_eq_true, beq_iff_eq]
 intro hc
 apply h
 rcases hc with ⟨h1, h2⟩ | ⟨h1, h2⟩
 ·rw [if_pos (by rcases h2 with (h | h) | h <;> simp [h]), h1]
 rw [if_neg Aw, if_pos h2, h1]
theorem Sm {k : Int} (h : ¬ (0 ≤ k ∧ k < 13)) : I1 k = -1 := by
 unfold I1
 rw [if_neg Aw, if_neg Aw]
section
variable {σ : Type}
mutual
def EH (st : σ → Int → Tm → σ × Bool) : Tm → Int → σ → σ × Bool
 | .mk k i n l ks, d, s => if (st s d (.mk k i n l ks)).2 = false then ((st s d (.mk k i n l ks)).1, false) else EN st k d 0 (st s d (.mk k i n l ks)).1 ks
def EN (st : σ → Int → Tm → σ × Bool) (k d : Int) : Nat → σ → List Tm → σ × Bool
 | _, s, [] => (s, true)
 | j, s, t :: ts => if (EH st t (d + below k j) s).2 = false then ((EH st t (d + below k j) s).1, false) else EN st k d (j + 1) (EH st t (d + below k j) s).1 ts
end
end
def NB (ix nm : Bool) (lv ks bl : Int) : List AV := [.p (.bool ix), .p (.bool nm), .p (I lv), .p (I ks), .p (I bl)]
def M7 : List AV := [NB true false 0 0 (-1), NB false false 0 0 (-1), NB false false 1 0 (-1), NB false true (-1) 0 (-1), NB false false 0 2 (-1), NB false false 0 2 1, NB false false 0 2 1, NB false false 0 2 1, NB false false 0 3 (-1), NB false false 0 1 (-1), NB false false 0 1 (-1), NB false false 0 3 2, NB true false 0 0 (-1)].flatten
theorem Vk {k : Int} (h : 0 ≤ k ∧ k < 13) : M7[0 + k.toNat * 5 + 4]? = some (.p (I (I1 k))) := by
 have : k = 0 ∨ k = 1 ∨ k = 2 ∨ k = 3 ∨ k = 4 ∨ k = 5 ∨ k = 6 ∨ k = 7 ∨ k = 8 ∨ k = 9 ∨ k = 10 ∨ k = 11 ∨ k = 12 := by omega
 rcases this with rfl | rfl | rfl | rfl | rfl | rfl | rfl | rfl | rfl | rfl | rfl | rfl | rfl <;> rfl
section
variable {σ : Type} {st : σ → Int → Tm → σ × Bool} {Inv : Nat → σ → Prop}
theorem Ru {t : Tm} {d : Int} {s : σ} (h : (st s d t).2 = false) : EH st t d s = ((st s d t).1, false) := by
 obtain ⟨k, i, n, l, ks⟩ := t
 rw [EH, if_pos h]
theorem HC {k i : Int} {n : ByteArray} {l : List Fl} {ks : List Tm} {d : Int} {s : σ} (h : (st s d (.mk k i n l ks)).2 = true) : EH st (.mk k i n l ks) d s = EN st k d 0 (st s d (.mk k i n l ks)).1 ks := by
 rw [EH, if_neg (by simp [h])]
theorem IL {k d : Int} {ts : List Tm} {i : Nat} {x : Tm} {s : σ} (hx : ts[i]? = some x) (h : (EH st x (d + below k i) s).2 = false) : EN st k d i s (ts.drop i) = ((EH st x (d + below k i) s).1, false) := by
 rw [EI hx, EN, if_pos h]
theorem Jg {k d : Int} {ts : List Tm} {i : Nat} {x : Tm} {s : σ} (hx : ts[i]? = some x) (h : (EH st x (d + below k i) s).2 = true) : EN st k d i s (ts.drop i) = EN st k d (i + 1) (EH st x (d + below k i) s).1 (ts.drop (i + 1)) := by
 rw [EI hx, EN, if_neg (by simp [h])]
mutual
theorem Io (hI : ∀ m s d t, Inv (m + 1) s → Inv m (st s d t).1) : ∀ (t : Tm) (d : Int) (s : σ) (m : Nat), Inv (m + size t) s → (EH st t d s).2 = true → Inv m (EH st t d s).1
 | .mk k i n l ks, d, s, m, h, hv => by
  rw [size, show m + (1 + CE ks) = (m + CE ks) + 1 by omega] at h
  have h1 := hI _ _ d (.mk k i n l ks) h
  rw [EH] at hv ⊢
  split at hv
  ·cases hv
  rename_i hc
  rw [if_neg hc]
  exact Ns hI ks k d 0 _ m h1 hv
theorem Ns (hI : ∀ m s d t, Inv (m + 1) s → Inv m (st s d t).1) : ∀ (ts : List Tm) (k d : Int) (j : Nat) (s : σ) (m : Nat), Inv (m + CE ts) s → (EN st k d j s ts).2 = true → Inv m (EN st k d j s ts).1
 | [], k, d, j, s, m, h, hv => by simpa [EN, CE] using h
 | t :: ts, k, d, j, s, m, h, hv => by
  rw [CE, show m + (size t + CE ts) = (m + CE ts) + size t by omega] at h
  rw [EN] at hv ⊢
  split at hv
  ·cases hv
  rename_i hc
  rw [if_neg hc]
  have := Io hI t (d + below k j) s _ h (by simpa using hc)
  exact Ns hI ts k d (j + 1) _ m this hv
end
end
def Ti (s : Int) (d : Int) (t : Tm) : Int × Bool := (wr (s + 1), true)
mutual
theorem SQ (B : Int) (hB : B ≤ 4611686018427387904) : ∀ (t : Tm) (d s : Int), 0 ≤ s → s + size t < B → EH Ti t d s = (s + size t, true)
 | .mk k i n l ks, d, s, h0, h => by
  rw [size] at h ⊢
  rw [HC rfl]
  simp only [Ti]
  rw [I3 ⟨by omega, by omega⟩, Qp B hB ks k d 0 (s + 1) Aw Aw]
  congr 1
  omega
theorem Qp (B : Int) (hB : B ≤ 4611686018427387904) : ∀ (ts : List Tm) (k d : Int) (j : Nat) (s : Int), 0 ≤ s → s + CE ts < B → EN Ti k d j s ts = (s + CE ts, true)
 | [], k, d, j, s, h0, h => by simp [EN, CE]
 | t :: ts, k, d, j, s, h0, h => by
  rw [CE] at h ⊢
  rw [EN, SQ B hB t _ s h0 Aw]
  simp only
  rw [if_neg Ax, Qp B hB ts k d (j + 1) (s + size t) Aw Aw]
  congr 1
  omega
end
def jT (s : List Int) (d : Int) : Tm → List Int × Bool
 | .mk k i _ _ _ => (if k = 12 ∧ i ∉ s then s ++ [i] else s, true)
def jX (s : List Int) : List (Int × AV) := s.map fun i => (i, .p (.bool true))
def Sa (xs ys : List Tm) (i : Nat) : Prop := ys.length = xs.length ∧ ∀ k, k < xs.length → ys[k]? = if k < i ∨ xs.length - 1 - k < i then xs[xs.length - 1 - k]? else xs[k]?
theorem S9 (xs : List Tm) : Sa xs xs 0 := ⟨rfl, fun k hk => by rw [if_neg Aw]⟩
theorem Sz {xs ys : List Tm} {i : Nat} {a b : Tm} (h : Sa xs ys i) (hi : i < xs.length - 1 - i) (ha : ys[i]? = some a) (hb : ys[xs.length - 1 - i]? = some b) : Sa xs ((ys.set i b).set (xs.length - 1 - i) a) (i + 1) := by
 obtain ⟨hl, h⟩ := h
 refine ⟨by simp [hl], fun k hk => ?_⟩
 have e1 := h i Aw
 rw [if_neg Aw, ha] at e1
 have e2 := h (xs.length - 1 - i) Aw
 rw [if_neg Aw, hb] at e2
 by_cases k1 : k = xs.length - 1 - i
 ·subst k1
  rw [if_pos Aw, List.getElem?_set_self Aq, e1]
  congr 1
  omega
 rw [List.getElem?_set_ne (fun e => k1 e.symm)]
 by_cases k2 : k = i
 ·subst k2
  rw [if_pos Aw, List.getElem?_set_self Aw, e2]
 rw [List.getElem?_set_ne (fun e => k2 e.symm), h k hk]
 by_cases k3 : k < i ∨ xs.length - 1 - k < i
 ·rw [if_pos k3, if_pos Aw]
 rw [if_neg k3, if_neg Aw]
theorem TE {xs ys : List Tm} {i : Nat} (h : Sa xs ys i) (hi : xs.length - 1 - i ≤ i) : ys = xs.reverse := by
 obtain ⟨hl, h⟩ := h
 apply List.ext_getElem?
 intro k
 by_cases hk : k < xs.length
 ·rw [h k hk, List.getElem?_reverse hk]
  by_cases k3 : k < i ∨ xs.length - 1 - k < i
  ·rw [if_pos k3]
  rw [if_neg k3]
  congr 1
  omega
 rw [List.getElem?_eq_none Aw, List.getElem?_eq_none Aq]
def ib (f : Int) (n i : Nat) : List Tm := (Vl f 0 n).take i ++ List.replicate (n - i) Be
def Zs (t : Tm) : Bool := decide ((size t : Int) > 4096) || decide (H7 t > 200)
def jF {σ : Type} (st : σ → Int → Tm → σ) (xs : List Tm) : Nat → σ → σ
 | 0, s => s
 | m + 1, s => jF st xs m (st s m (xs.getD m Be))
def fp (k : Int) (t : Tm) (i : Int) (a : Tm) : Tm := .mk k 0 ⟨#[]⟩ [] [a, t]
end Go.Eu
namespace Go.Abs
def iu (mkv : Nat → AV) (cs : List AV) : D1 → List Bc → Prop
 | .val v, H' => ∃ b, v = mkv b ∧ H' = [.box b cs]
 | .panic _, _ => False
section
variable {P : Program} {ops : Array Oper} {n : Nat} {τ₀ τ : Nat → AV} {D : List Eb} {Q : DC → CC → Prop} {opn : Nat → Bool} {k : Nat} {H : List Bc} {dst : Option Tmp} {ty : TypeId} {pos : String} {aft : Array Edge} {c : Call} {f : Operand} {fid : FuncId} {first caps A : List AV} {mkv : Nat → AV} {cs : List AV}
end
def jf {α : Type} (mkv : α → AV) (mkp : Int → AV) (C : α → List Bc → Prop) (x : Except Int α) : D1 → List Bc → Prop
 | .val v, H' => ∃ a, x = .ok a ∧ v = mkv a ∧ C a H'
 | .panic v, _ => ∃ e, x = .error e ∧ v = mkp e
theorem DZ.permR {P : Program} {ρ : Operand → AV} {o : Oper} {H : List Bc} {R R' : D1 → List Bc → Prop} (h : DZ P o ρ H R) (hp : ∀ r H1, R r H1 → ∃ H2, H1.Perm H2 ∧ R' r H2) : DZ P o ρ H R' := by
 intro r F S a w hs hH hρ hd
 have := h r F S a w hs hH hρ hd
 refine M9 this ?_ ?_
 ·rintro a' w' ⟨v', H1, F', hR, hs', ht⟩
  obtain ⟨H2, hp, hR'⟩ := hp _ _ hR
  exact ⟨v', H2, F', hR', ⟨hs'.size, hs'.tmp, hs'.heap.perm hp, hs'.defs⟩, { ht with keys := fun o ho => ht.keys o (hp.mem_iff.2 ho) }⟩
 rintro e a' w' ⟨v', H1, F', u, hR, h1, h2, hs', ht⟩
 obtain ⟨H2, hp, hR'⟩ := hp _ _ hR
 exact ⟨v', H2, F', u, hR', h1, h2, ⟨hs'.size, hs'.tmp, hs'.heap.perm hp, hs'.defs⟩, { ht with keys := fun o ho => ht.keys o (hp.mem_iff.2 ho) }⟩
section
variable {P : Program} {ops : Array Oper} {n : Nat} {τ₀ τ : Nat → AV} {D : List Eb} {Q : DC → CC → Prop} {opn : Nat → Bool} {k : Nat} {T : List Bc} {dst : Option Tmp} {ty : TypeId} {pos : String} {aft : Array Edge} {c : Call} {f : Operand} {fid : FuncId} {first caps A : List AV}
 {α : Type} {mkv : α → AV} {mkp : Int → AV} {C : α → List Bc → Prop} {x : Except Int α}
end
section
variable {P : Program} {ops : Array Oper} {n : Nat} {τ₀ τ : Nat → AV} {D : List Eb} {Q : DC → CC → Prop} {opn : Nat → Bool} {k : Nat} {H Hs : List Bc} {dst : Option Tmp} {ty : TypeId} {pos : String} {aft : Array Edge} {c : Call} {f : Operand} {fid : FuncId} {first caps A : List AV}
 {α : Type} {mkv : α → AV} {mkp : Int → AV} {C : α → List Bc → Prop} {x : Except Int α}
end
def iU (ops : Array Oper) (t : Nat) : Bool := ops.toList.all fun o => match o.dst with | some u => !(Nat.beq u t) | none => true
end Go.Abs
namespace Go.Eu
open Go.Abs
mutual
def Vp : Tm → Prop
 | .mk k i _ _ ks => (k = 0 → 0 ≤ i ∧ i < 1099511627776) ∧ gH ks
def gH : List Tm → Prop
 | [] => True
 | t :: ts => Vp t ∧ gH ts
end
def S3 : Tm → Tm
 | .mk k i n l _ => .mk k i n l []
def Vy (i : Int) : Except Int Tm := if i > 65535 then .error 24 else .ok (Vc i)
def iM (n m : Int) : Except Int Int := if wr (n + m) > 4096 then .error 5 else .ok (wr (n + m))
def iz (b fr : Int) (t : Tm) (d : Int) : Except Int Tm :=
 if t.index - d < fr then .ok (S3 t) else if b < 0 ∧ t.index - d < fr - b then .error 24 else Vy (t.index + b)
def Qh {α β : Type} (f : α → β) : Except Int α → Except Int β
 | .error e => .error e
 | .ok x => .ok (f x)
def FG {α β : Type} (x : Except Int α) (f : α → Except Int β) : Except Int β :=
 match x with
 | .error e => .error e
 | .ok x => f x
def eG (rep : Tm → Int → Except Int Tm) (s : Unit) (t : Tm) (d : Int) : Except Int ((Tm × Bool) × Unit) :=
 if t.kind = 0 then Qh (fun x => ((x, true), ())) (rep t d) else .ok ((S3 t, false), ())
mutual
def PF {σ : Type} (vis : σ → Tm → Int → Except Int ((Tm × Bool) × σ)) : Tm → Int → σ → Except Int (Tm × σ)
 | .mk k i n l ks, d, s => FG (vis s (.mk k i n l ks) d) fun r =>
   if r.1.2 = true then .ok (r.1.1, r.2) else FG (IJ vis k 0 ks d r.2) fun q => .ok (ME r.1.1 q.1, q.2)
def IJ {σ : Type} (vis : σ → Tm → Int → Except Int ((Tm × Bool) × σ)) (k : Int) : Nat → List Tm → Int → σ → Except Int (List Tm × σ)
 | _, [], _, s => .ok ([], s)
 | j, t :: ts, d, s => FG (PF vis t (d + below k j) s) fun r => FG (IJ vis k (j + 1) ts d r.2) fun q => .ok (r.1 :: q.1, q.2)
end
section
variable {σ : Type} {vis : σ → Tm → Int → Except Int ((Tm × Bool) × σ)}
def Td (vis : σ → Tm → Int → Except Int ((Tm × Bool) × σ)) (k : Int) (ts : List Tm) (d : Int) (q0 : σ) (i : Nat) (ys : List Tm) (q : σ) : Prop :=
 ys.length = i ∧ IJ vis k 0 ts d q0 = FG (IJ vis k i (ts.drop i) d q) fun r => .ok (ys ++ r.1, r.2)
theorem Td.zero (k : Int) (ts : List Tm) (d : Int) (q0 : σ) : Td vis k ts d q0 0 [] q0 := by
 refine ⟨Ay, ?_⟩
 simp only [List.drop_zero, List.nil_append]
 cases IJ vis k 0 ts d q0 <;> rfl
theorem Td.succ {k d : Int} {ts ys : List Tm} {q0 q q' : σ} {i : Nat} {x y : Tm} (h : Td vis k ts d q0 i ys q) (hx : ts[i]? = some x) (hb : PF vis x (d + below k i) q = .ok (y, q')) : Td vis k ts d q0 (i + 1) (ys ++ [y]) q' := by
 refine ⟨by simp [h.1], ?_⟩
 rw [h.2, EI hx, IJ, hb]
 simp only [FG]
 cases IJ vis k (i + 1) (ts.drop (i + 1)) d q' <;> simp
theorem Td.fin {k d : Int} {ts ys : List Tm} {q0 q : σ} {i : Nat} (h : Td vis k ts d q0 i ys q) (hi : ts.length ≤ i) : IJ vis k 0 ts d q0 = .ok (ys, q) := by
 rw [h.2, List.drop_eq_nil_of_le hi, IJ]; simp [FG]
end
section
variable {b fr d k i : Int} {n : ByteArray} {l : List Fl} {ks : List Tm}
variable {rep : Tm → Int → Except Int Tm} {s : Unit}
end
def Zm (b fr : Int) (t : Tm) : Except Int Tm := Qh Prod.fst (PF (eG (iz b fr)) t 0 ())
def Xw (vs : List Tm) (dp ti d : Int) : Int := if 0 ≤ wr (wr (ti - d) - dp) ∧ wr (wr (ti - d) - dp) < (vs.length : Int) then wr (wr (ti - d) - dp) else -1
def ew (vs : List Tm) (sz : List Int) (dp : Int) (t : Tm) (d : Int) : Int :=
 if t.kind = 0 ∧ 0 ≤ Xw vs dp t.index d then sz.getD (Xw vs dp t.index d).toNat 0 else 1
def gL (vs : List Tm) (sz : List Int) (dp : Int) (n : Int) (t : Tm) (d : Int) : Except Int ((Tm × Bool) × Int) :=
 Qh (fun m => ((Be, decide (t.kind = 0)), m)) (iM n (ew vs sz dp t d))
def fU (vs : List Tm) (dp : Int) (t : Tm) (d : Int) : Except Int Tm :=
 if 0 ≤ Xw vs dp t.index d then Zm (wr (dp + d)) 0 (vs.getD (Xw vs dp t.index d).toNat Be)
 else if wr (t.index - d) < dp then .ok (S3 t) else Vy (wr (t.index - vs.length))
def ao (vs : List Tm) (dp : Int) (t : Tm) : Except Int Tm :=
 FG (PF (gL vs (vs.map fun v => (size v : Int)) dp) t 0 0) fun _ => Qh Prod.fst (PF (eG (fU vs dp)) t 0 ())
def WS (t : Tm) (vs : List Tm) (dp : Int) : Tm × Int :=
 match ao vs dp t with
 | .error e => (Be, e)
 | .ok x => if H7 x > 200 then (Be, 7) else (x, 0)
section
variable {vs : List Tm} {sz : List Int} {dp n d k i r m e : Int} {nm : ByteArray} {l : List Fl} {ks : List Tm}
end
theorem Qy : ∀ {ts : List Tm}, (∀ t ∈ ts, Nd t) → L5 ts
 | [], _ => trivial
 | t :: ts, h => ⟨h t Ax, Qy fun x hx => h x (by simp [hx])⟩
section
variable {σ : Type} {vis : σ → Tm → Int → Except Int ((Tm × Bool) × σ)}
end
def gT (x : Tm × Int) : Except Int (Tm × Unit) := if x.2 = 0 then .ok (x.1, ()) else .error x.2
def eb (x : List Tm × Int) : Except Int (List Tm × Unit) := if x.2 = 0 then .ok (x.1, ()) else .error x.2
section
variable {vs : List Tm} {d er nd k i : Int} {n : ByteArray} {l : List Fl} {ks : List Tm}
end
structure br (vs : List Tm) (dp : Int) : Prop where
 wt : ft vs
 vp : gH vs
 sz : ∀ x ∈ vs, size x < 1099511627776
 len : vs.length < 1099511627776
 lo : 0 ≤ dp
 hi : dp ≤ 65536
theorem br.size {vs : List Tm} {dp : Int} (V : br vs dp) : ∀ x ∈ vs, (size x : Int) ≤ 1099511627776 := fun x hx => by have := V.sz x hx; omega
def jS {α : Type} (x : Except Int (α × Int)) (m : Int) : Prop := (m > 4096 → x = .error 5) ∧ (m ≤ 4096 → ∃ z, x = .ok (z, m))
def jZ (vs : List Tm) : List Int := vs.map fun v => (size v : Int)
structure IT where
 dn : List (Int × Tm)
 op : List Int
 wk : Int
def di (i : Int) : List (Int × Tm) → Option Tm
 | [] => none
 | (j, x) :: r => if j = i then some x else di i r
def eA (i : Int) (v : Tm) : List (Int × Tm) → List (Int × Tm)
 | [] => [(i, v)]
 | (j, x) :: r => if j = i then (j, v) :: r else (j, x) :: eA i v r
def ja (l : List (Int × Tm)) : List (Int × AV) := l.map fun p => (p.1, TV p.2)
def eB (x : Tm) (e : Int) : Except Int Tm := if e ≠ 0 ∨ Zs x = true then .error 11 else .ok x
def ZQ : Tm → List Tm → Except Int (Tm × List Tm)
 | v, [] => .ok (v, [])
 | v, a :: l => if v.kind = 5 then FG (eB (WS (v.kids.getD 1 Be) [a] 0).1 (WS (v.kids.getD 1 Be) [a] 0).2) fun x => ZQ x l else .ok (v, a :: l)
def I8 (F : IT → Tm → Except Int (Tm × IT)) : IT → List Tm → Except Int (List Tm × IT)
 | st, [] => .ok ([], st)
 | st, t :: ts => FG (F st t) fun r => FG (I8 F r.2 ts) fun q => .ok (r.1 :: q.1, q.2)
def Zq (F : IT → Tm → Except Int (Tm × IT)) (ms : List Mv) (st : IT) (i : Int) : Except Int (Tm × IT) :=
 match di i st.dn with
 | some v => .ok (v, st)
 | none => if i ∈ st.op then .error 22 else FG (F { st with op := st.op ++ [i] } (valueOf ms i)) fun r => .ok (r.1, { r.2 with dn := eA i r.1 r.2.dn })
def ca (F : IT → Tm → Except Int (Tm × IT)) (ms : List Mv) (st : IT) (h : Tm) : Except Int (Tm × IT) :=
 if known ms h = true then Zq F ms st h.index else Qh (fun q => (ME h q.1, q.2)) (I8 F st h.kids)
def WY (ms : List Mv) : Nat → IT → Tm → Except Int (Tm × IT)
 | 0, st, t => .error 11
 | n + 1, st, t =>
  if st.wk + 1 > 8192000 then .error 11
  else FG (ca (WY ms n) ms { st with wk := st.wk + 1 } (CA t).1) fun r =>
   FG (I8 (WY ms n) r.2 (CA t).2) fun q =>
   FG (if known ms (CA t).1 = true then ZQ r.1 q.1 else .ok (r.1, q.1)) fun y =>
   Qh (fun z => (z, q.2)) (eB (apply y.1 y.2) 0)
structure Ok (S : Nat) (t : Tm) : Prop where
 nd : Nd t
 vp : Vp t
 wt : Wt t
 sz : size t ≤ S
structure ga (ms : List Mv) (st : IT) : Prop where
 dn : ∀ p ∈ st.dn, Ok 4096 p.2
 w0 : 0 ≤ st.wk
 w1 : st.wk ≤ 8192000
abbrev jd (l : List Tm) : Prop := ∀ x ∈ l, Ok 4096 x
def gl (st st' : IT) : Prop := ∀ i, i ∈ st.op → i ∈ st'.op
def iR (ms : List Mv) (B : Nat) (F : IT → Tm → Except Int (Tm × IT)) : Prop := ∀ st t r, Ok B t → ga ms st → F st t = .ok r → Ok 4096 r.1 ∧ ga ms r.2 ∧ gl st r.2
section
variable {F : IT → Tm → Except Int (Tm × IT)} {ms : List Mv} {st st' : IT} {i e : Int} {z : Tm}
end
def TM (F : IT → Tm → Except Int (Tm × IT)) (ts : List Tm) (q0 : IT) (i : Nat) (ys : List Tm) (q : IT) : Prop :=
 ys.length = i ∧ I8 F q0 ts = FG (I8 F q (ts.drop i)) fun r => .ok (ys ++ r.1, r.2)
section
variable {F : IT → Tm → Except Int (Tm × IT)} {ts ys : List Tm} {q0 q q' : IT} {i : Nat} {x y : Tm} {e : Int}
theorem TM.zero (F : IT → Tm → Except Int (Tm × IT)) (ts : List Tm) (q0 : IT) : TM F ts q0 0 [] q0 := by
 refine ⟨Ay, ?_⟩
 simp only [List.drop_zero, FG]
 cases I8 F q0 ts <;> simp
theorem TM.succ (h : TM F ts q0 i ys q) (hx : ts[i]? = some x) (hb : F q x = .ok (y, q')) : TM F ts q0 (i + 1) (ys ++ [y]) q' := by
 refine ⟨by simp [h.1], ?_⟩
 rw [h.2, EI hx, I8, hb]
 simp only [FG]
 cases I8 F q' (ts.drop (i + 1)) <;> simp
theorem TM.fin (h : TM F ts q0 i ys q) (hi : ts.length ≤ i) : I8 F q0 ts = .ok (ys, q) := by
 rw [h.2, List.drop_eq_nil_of_le hi, I8]; simp [FG]
end
section
variable {ms : List Mv} {n : Nat} {dn : List (Int × Tm)} {op : List Int} {wk e : Int} {t v vv z h : Tm} {us ls ks : List Tm} {st1 st2 : IT}
end
end Go.Eu
namespace Go.Abs
def iy {β : Type} (mkv : β → AV) (mkH : β → List Bc) : D1 → List Bc → Prop
 | .val v, H' => ∃ b, v = mkv b ∧ H' = mkH b
 | .panic _, _ => False
section
variable {P : Program} {ops : Array Oper} {n : Nat} {τ₀ τ : Nat → AV} {D : List Eb} {Q : DC → CC → Prop} {opn : Nat → Bool} {k : Nat} {H : List Bc} {dst : Option Tmp} {ty : TypeId} {pos : String} {aft : Array Edge} {c : Call} {f : Operand} {fid : FuncId} {first caps A : List AV} {β : Type} {mkv : β → AV} {mkH : β → List Bc}
end
end Go.Abs
namespace Go.Eu
open Go.Abs
def Ty (ms : List Mv) (n : Nat) (t : Tm) : Tm × Int :=
 match WY ms n ⟨[], [], 0⟩ t with
 | .ok r => (r.1, 0)
 | .error e => (Be, e)
def iY (ms : List Mv) (n : Nat) (t : Tm) : List Int × Int := if (Ty ms n t).2 ≠ 0 then ([], (Ty ms n t).2) else (Ts [] (Ty ms n t).1, 0)
mutual
def TP (p : Int → Int → ByteArray → List Fl → Prop) : Tm → Prop
 | .mk k i n l ks => p k i n l ∧ YK p ks
def YK (p : Int → Int → ByteArray → List Fl → Prop) : List Tm → Prop
 | [] => True
 | t :: ts => TP p t ∧ YK p ts
end
section
variable {p q : Int → Int → ByteArray → List Fl → Prop}
mutual
theorem TP.imp (h : ∀ k i n l, p k i n l → q k i n l) : ∀ (t : Tm), TP p t → TP q t
 | .mk k i n l ks, ht => ⟨h _ _ _ _ ht.1, YK.imp h ks ht.2⟩
theorem YK.imp (h : ∀ k i n l, p k i n l → q k i n l) : ∀ (ts : List Tm), YK p ts → YK q ts
 | [], _ => trivial
 | t :: ts, ht => ⟨TP.imp h t ht.1, YK.imp h ts ht.2⟩
end
end
def iT (ms : List Mv) (D : List Int) (k i : Int) (n : ByteArray) (l : List Fl) : Prop := known ms (.mk k i n l []) = true → i ∈ D
abbrev KM (ms : List Mv) (D : List Int) : Tm → Prop := TP (iT ms D)
abbrev dy (ms : List Mv) (D : List Int) : List Tm → Prop := YK (iT ms D)
theorem KM.mono {ms : List Mv} {D D' : List Int} (h : ∀ i ∈ D, i ∈ D') {t : Tm} (ht : KM ms D t) : KM ms D' t := TP.imp (fun k i n l g e => h _ (g e)) t ht
theorem dy.mono {ms : List Mv} {D D' : List Int} (h : ∀ i ∈ D, i ∈ D') {t : List Tm} (ht : dy ms D t) : dy ms D' t := YK.imp (fun k i n l g e => h _ (g e)) t ht
theorem KM.head {ms : List Mv} {D : List Int} {h : Tm} (hk : known ms h = true) (ht : KM ms D h) : h.index ∈ D := by
 obtain ⟨k, i, n, l, ks⟩ := h
 exact ht.1 hk
theorem KM.kids {ms : List Mv} {D : List Int} {h : Tm} (ht : KM ms D h) : dy ms D h.kids := by
 obtain ⟨k, i, n, l, ks⟩ := h
 exact ht.2
inductive Ord (ms : List Mv) : List Int → Prop
 | nil : Ord ms []
 | snoc {D : List Int} {i : Int} : Ord ms D → i ∉ D → KM ms D (valueOf ms i) → Ord ms (D ++ [i])
theorem Ord.pre {ms : List Mv} {D : List Int} (h : Ord ms D) : ∀ i ∈ D, ∃ D', Ord ms D' ∧ (∀ j ∈ D', j ∈ D) ∧ i ∉ D' ∧ KM ms D' (valueOf ms i) := by
 induction h with
 | nil => intro i hi; simp at hi
 | @snoc D j h1 h2 h3 ih =>
  intro i hi
  rcases List.mem_append.1 hi with hi | hi
  ·obtain ⟨D', a, b, c, d⟩ := ih i hi
   exact ⟨D', a, fun j hj => List.mem_append_left _ (b j hj), c, d⟩
  simp at hi; subst hi
  exact ⟨D, h1, fun j hj => List.mem_append_left _ hj, h2, h3⟩
def cb : Tm → List Tm → Tm × List Tm
 | v, [] => (v, [])
 | v, a :: l => if v.kind = 5 then cb (Q6 (v.kids.getD 1 Be) [a] 0).1 l else (v, a :: l)
section
variable {F F' : NU → Tm → Tm × Int × NU}
end
def Zx (st : IT) : List Int := st.dn.map Prod.fst
def gO (ms : List Mv) (t v : Tm) : Prop := ∃ n ab c d, Km ms n ab c t = (v, 0, d) ∧ d.over = false
structure gh (ms : List Mv) (ab : List Int) (st : IT) : Prop where
 op : ∀ i, i ∈ st.op ↔ i ∈ Zx st ∨ i ∈ ab
 ord : Ord ms (Zx st)
 dis : ∀ i ∈ Zx st, i ∉ ab
 val : ∀ p ∈ st.dn, gO ms (valueOf ms p.1) p.2
 ok : ∀ p ∈ st.dn, Ok 4096 p.2
 w0 : 0 ≤ st.wk
def pot (ms : List Mv) (B : Nat) (st : IT) : Int := st.wk + (B * free ms st.op : Nat)
structure Step (ms : List Mv) (B : Nat) (ab : List Int) (st st' : IT) (s : Nat) : Prop where
 inv : gh ms ab st'
 mono : ∀ i ∈ Zx st, i ∈ Zx st'
 pot : pot ms B st' ≤ pot ms B st + s
theorem Step.trans {ms : List Mv} {B : Nat} {ab : List Int} {a b c : IT} {s s' : Nat} (h : Step ms B ab a b s) (h' : Step ms B ab b c s') : Step ms B ab a c (s + s') :=
 ⟨h'.inv, fun i hi => h'.mono i (h.mono i hi), by have := h.pot; have := h'.pot; omega⟩
theorem Step.le {ms : List Mv} {B : Nat} {ab : List Int} {a b : IT} {s s' : Nat} (h : Step ms B ab a b s) (hs : s ≤ s') : Step ms B ab a b s' := ⟨h.inv, h.mono, by have := h.pot; omega⟩
def iv (ms : List Mv) (B : Nat) (ab : List Int) (t : Tm) (s : Nat) (st : IT) (F : Tm × Int × NU) (G : Except Int (Tm × IT)) : Prop :=
 (F.2.1 = 0 ∧ ∃ st', G = .ok (F.1, st') ∧ Step ms B ab st st' s ∧ KM ms (Zx st') t) ∨ (F.2.1 = 22 ∧ F.1 = Be ∧ G = .error 22)
def jH (ms : List Mv) (B : Nat) (ab : List Int) (ts : List Tm) (st : IT) (F : List Tm × Int × NU) (G : Except Int (List Tm × IT)) : Prop :=
 (F.2.1 = 0 ∧ ∃ st', G = .ok (F.1, st') ∧ Step ms B ab st st' (CE ts) ∧ dy ms (Zx st') ts) ∨ (F.2.1 = 22 ∧ G = .error 22)
def jL (m : Nat) (k i : Int) (n : ByteArray) (l : List Fl) : Prop := k = 12 → 0 ≤ i ∧ i < (m : Int)
def ec (ms : List Mv) (k i : Int) (n : ByteArray) (l : List Fl) : Prop := (k = 12 → 0 ≤ i ∧ i < (ms.length : Int) ∧ known ms (.mk k i n l []) = false) ∧ (k = 4 → i = 0 ∧ n = ⟨#[]⟩ ∧ l = [])
def jM (ms : List Mv) (B : Nat) (F : IT → Tm → Except Int (Tm × IT)) : Prop := ∀ st t r, Ok B t → ga ms st → TP (jL ms.length) t → (∀ p ∈ st.dn, TP (ec ms) p.2) → F st t = .ok r → TP (ec ms) r.1 ∧ ∀ p ∈ r.2.dn, TP (ec ms) p.2
def iW (ms : List Mv) (F : IT → Tm → Except Int (Tm × IT)) : Prop := ∀ st t, TP (ec ms) t → F st t = .error 11 ∨ ∃ st', F st t = .ok (t, st')
def jO (F : IT → Tm → Except Int (Tm × IT)) : Prop := ∀ st t e, F st t = .error e → e = 11 ∨ e = 22
abbrev wide : Nat := 9223372036854775808
structure bD (l : Fl) : Prop where
 vars : l.vars.length < wide
 c : Je l.const
 v : ∀ v ∈ l.vars, Je v.index ∧ Je v.plus
mutual
def Wd : Tm → Prop
 | .mk k i n ls ks => n.size < wide ∧ ls.length < wide ∧ (∀ l ∈ ls, bD l) ∧ ks.length < wide ∧ ZF ks ∧ Je k ∧ Je i
def ZF : List Tm → Prop
 | [] => True
 | t :: ts => Wd t ∧ ZF ts
end
theorem N5 : ∀ {ts : List Tm} {i : Nat} {t : Tm}, ZF ts → ts[i]? = some t → Wd t
 | [], i, t, _, h => by simp at h
 | a :: ts, 0, t, hn, h => by simp at h; subst h; exact hn.1
 | a :: ts, i + 1, t, hn, h => by simp at h; exact N5 hn.2 h
mutual
def Fw : Tm → Prop
 | .mk k i n ls ks => n.size ≤ 200 ∧ ls.length ≤ 20 ∧ (∀ l ∈ ls, l.vars.length ≤ 20) ∧ Su ks
def Su : List Tm → Prop
 | [] => True
 | t :: ts => Fw t ∧ Su ts
end
theorem WK : ∀ {ts : List Tm}, (∀ t ∈ ts, Fw t) → Su ts
 | [], _ => trivial
 | t :: ts, h => ⟨h t Ax, WK fun x hx => h x (by simp [hx])⟩
theorem Ny : ∀ {ts : List Tm} {t : Tm}, Su ts → t ∈ ts → Fw t
 | [], t, _, h => by simp at h
 | a :: ts, t, hn, h => by
  rcases List.mem_cons.1 h with rfl | h
  ·exact hn.1
  exact Ny hn.2 h
def Uv : Tm → Prop
 | .mk k i n ls ks => n.size ≤ 200 ∧ ls.length ≤ 20 ∧ (∀ l ∈ ls, l.vars.length ≤ 20) ∧ CE ks ≤ 200 ∧ L5 ks ∧ Su ks
theorem aa {t : Tm} (h : Wd t) (hf : Uv t) : Nd t := by
 obtain ⟨k, i, n, ls, ks⟩ := t
 obtain ⟨h1, h2, h3, h4, h5⟩ := hf
 have := Jq ks
 exact ⟨by simp only [EB]; omega, by simp only [EB]; omega, fun l hl => ⟨by have := h3 l hl; simp only [EB]; omega, (h.2.2.1 l hl).c, (h.2.2.1 l hl).v⟩, by simp only [EB]; omega, h5.1, h.2.2.2.2.2⟩
mutual
theorem NM : ∀ (t : Tm) (most : Int), -1152921504606846976 ≤ most → most ≤ 1152921504606846976 → (size t : Int) ≤ 1152921504606846976 → 0 ≤ EO t most ∧ EO t most < size t ∧ (EO t most ≤ most → EO t most + 1 = size t)
 | .mk k i n l ks, most, h1, h2, h3 => by
  simp only [size] at h3 ⊢
  unfold EO
  have := QT ks most 0 h1 h2 Aw Aw
  exact ⟨this.1, by omega, fun h => by have := this.2.2 h; omega⟩
theorem QT : ∀ (ts : List Tm) (most n : Int), -1152921504606846976 ≤ most → most ≤ 1152921504606846976 → 0 ≤ n → n + CE ts ≤ 1152921504606846976 → n ≤ Ea ts most n ∧ Ea ts most n ≤ n + CE ts ∧ (Ea ts most n ≤ most → Ea ts most n = n + CE ts)
 | [], most, n, h1, h2, h3, h4 => by simp [Ea, CE]
 | t :: ts, most, n, h1, h2, h3, h4 => by
  simp only [CE] at h4 ⊢
  have hp := size_pos t
  unfold Ea
  by_cases hm : n > most
  ·rw [if_pos hm]; exact ⟨by omega, by omega, by omega⟩
  rw [if_neg hm]
  have e1 : wr (most - n) = most - n := I3 ⟨by omega, by omega⟩
  have hT := NM t (most - n) Aw Aw Aw
  rw [e1]
  have e2 : wr (1 + EO t (most - n)) = 1 + EO t (most - n) := I3 ⟨by omega, by omega⟩
  rw [e2]
  have e3 : wr (n + (1 + EO t (most - n))) = n + (1 + EO t (most - n)) := I3 ⟨by omega, by omega⟩
  rw [e3]
  have hL := QT ts most (n + (1 + EO t (most - n))) h1 h2 Aw Aw
  refine ⟨by omega, by omega, fun h => ?_⟩
  have := hL.2.2 h
  have := hT.2.2 Aw
  omega
end
theorem WW {t : Tm} (h : Uv t) : size t ≤ 201 := by
 obtain ⟨k, i, n, ls, ks⟩ := t
 have := h.2.2.2.1
 simp only [size]
 omega
theorem QP : ∀ (ts : List Tm) (most n : Int), 0 ≤ most → most ≤ 1000 → 0 ≤ n → n ≤ 3000 → (∀ t ∈ ts, size t ≤ 201) → n ≤ Ea ts most n
 | [], most, n, h1, h2, h3, h4, hs => by simp [Ea]
 | t :: ts, most, n, h1, h2, h3, h4, hs => by
  have ht := hs t Ax
  unfold Ea
  by_cases hm : n > most
  ·rw [if_pos hm]; omega
  rw [if_neg hm]
  have e1 : wr (most - n) = most - n := I3 ⟨by omega, by omega⟩
  have hT := NM t (most - n) Aw Aw Aw
  rw [e1]
  have e2 : wr (1 + EO t (most - n)) = 1 + EO t (most - n) := I3 ⟨by omega, by omega⟩
  rw [e2]
  have e3 : wr (n + (1 + EO t (most - n))) = n + (1 + EO t (most - n)) := I3 ⟨by omega, by omega⟩
  rw [e3]
  have hge := QP ts most (n + (1 + EO t (most - n))) h1 h2 Aw Aw (fun x hx => hs x (by simp [hx]))
  omega
theorem P6 : ∀ (ts : List Tm) (most n : Int), 0 ≤ most → most ≤ 1000 → 0 ≤ n → n ≤ 3000 → (∀ t ∈ ts, size t ≤ 201) → Ea ts most n ≤ most → Ea ts most n = n + CE ts
 | [], most, n, h1, h2, h3, h4, hs, h => by simp [Ea, CE]
 | t :: ts, most, n, h1, h2, h3, h4, hs, h => by
  have ht := hs t Ax
  simp only [CE]
  unfold Ea at h ⊢
  by_cases hm : n > most
  ·rw [if_pos hm] at h; omega
  rw [if_neg hm] at h ⊢
  have e1 : wr (most - n) = most - n := I3 ⟨by omega, by omega⟩
  have hT := NM t (most - n) Aw Aw Aw
  rw [e1] at h ⊢
  have e2 : wr (1 + EO t (most - n)) = 1 + EO t (most - n) := I3 ⟨by omega, by omega⟩
  rw [e2] at h ⊢
  have e3 : wr (n + (1 + EO t (most - n))) = n + (1 + EO t (most - n)) := I3 ⟨by omega, by omega⟩
  rw [e3] at h ⊢
  have hL := P6 ts most (n + (1 + EO t (most - n))) h1 h2 Aw Aw (fun x hx => hs x (by simp [hx])) h
  have hge := QP ts most (n + (1 + EO t (most - n))) h1 h2 Aw Aw (fun x hx => hs x (by simp [hx]))
  have := hT.2.2 Aw
  omega
structure cr (l : List Tm) : Prop where
 sz : CE l ≤ 200
 nd : L5 l
 fw : Su l
theorem Xo {l : List Tm} {m : Nat} (hm : l.length ≤ m) (hw : ZF l) (hl : l.length < wide) (h : Ea l 200 0 ≤ 200) (hc : ∀ j, j < m → ∀ t, l[j]? = some t → Uv t) : cr l := by
 have hf : ∀ t ∈ l, Uv t := fun t ht => by
  obtain ⟨i, hi⟩ := HO ht
  exact hc i (by have := (List.getElem?_eq_some_iff.1 hi).1; omega) t hi
 have := P6 l 200 0 Aw Aw Aw Aw (fun t ht => WW (hf t ht)) h
 exact ⟨by omega, Qy fun t ht => by
  obtain ⟨i, hi⟩ := HO ht
  exact aa (N5 hw hi) (hf t ht), WK fun t ht => by
  obtain ⟨k, i, n, ls, ks⟩ := t
  have h5 := hf _ ht
  exact ⟨h5.1, h5.2.1, h5.2.2.1, h5.2.2.2.2.2⟩⟩
structure bU (m : Nat) (x : Mv) : Prop where
 n1 : Nd x.type
 n2 : Nd x.value
 sz : size x.type + size x.value ≤ 40
 w1 : wf 0 m 0 x.type
 w2 : x.known = true → wf 0 m 0 x.value
 w3 : x.known = false → x.value = Be
structure iO (l : List Mv) : Prop where
 len : l.length ≤ 8
 all : ∀ m ∈ l, bU l.length m
structure gY (m : Nat) (ctx terms : List Tm) : Prop where
 len : ctx.length ≤ 6
 s1 : CE ctx ≤ 60
 s2 : CE terms ≤ 60
 n1 : L5 ctx
 n2 : L5 terms
 w2 : ∀ t ∈ terms, wf ctx.length m 0 t
 w1 : ∀ (i : Nat) (t : Tm), ctx[i]? = some t → wf i m 0 t
structure jW (x : Mv) : Prop where
 w1 : Wd x.type
 w2 : Wd x.value
end Go.Eu
