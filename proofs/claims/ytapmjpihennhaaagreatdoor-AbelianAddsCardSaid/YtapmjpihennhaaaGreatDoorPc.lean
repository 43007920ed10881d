/- Part of the proofs: an abstract program logic, plain models and contracts of functions. -/
import Derived.Test.YtapmjpihennhaaaGreatDoorPb
import Derived.Test.YtapmjpihennhaaaGreatDoorProg
set_option linter.unusedVariables false
set_option linter.unusedSimpArgs false
set_option maxRecDepth 100000
namespace Go.Proofs.YtapmjpihennhaaaGreatDoor
open Go.Abs
theorem Kf : FB Tryz.prog 22 = some (9, 1, 16) := by kernel_rfl
theorem D9 : FB Tryz.prog 25 = some (3, 1, 8) := by kernel_rfl
theorem By : FB Tryz.prog 26 = some (33, 5, 80) := by kernel_rfl
theorem Hr : FB Tryz.prog 31 = some (108, 2, 32) := by kernel_rfl
theorem ZC : FB Tryz.prog 36 = some (122, 23, 360) := by kernel_rfl
theorem SJ : FB Tryz.prog 45 = some (48, 1, 1) := by kernel_rfl
theorem Em : FB Tryz.prog 88 = some (145, 2, 16) := by kernel_rfl
theorem Fq : FB Tryz.prog 106 = some (112, 2, 16) := by kernel_rfl
theorem JC : FB Tryz.prog 179 = some (87, 16, 248) := by kernel_rfl
theorem X9 : FB Tryz.prog 184 = some (5, 1, 1) := by kernel_rfl
theorem gN : Bf Tryz.prog 5 = true := by kernel_rfl
theorem ga : Bf Tryz.prog 6 = true := by kernel_rfl
theorem gZ : Bf Tryz.prog 7 = true := by kernel_rfl
theorem gP : Bf Tryz.prog 8 = true := by kernel_rfl
theorem gh : Bf Tryz.prog 9 = true := by kernel_rfl
theorem dM : Bf Tryz.prog 10 = true := by kernel_rfl
theorem de : Bf Tryz.prog 11 = true := by kernel_rfl
theorem ff : Bf Tryz.prog 12 = true := by kernel_rfl
theorem eX : Bf Tryz.prog 13 = true := by kernel_rfl
theorem e8 : Bf Tryz.prog 14 = true := by kernel_rfl
theorem en : Bf Tryz.prog 16 = true := by kernel_rfl
theorem eT : Bf Tryz.prog 18 = true := by kernel_rfl
theorem ad : Bf Tryz.prog 19 = true := by kernel_rfl
theorem db : Bf Tryz.prog 20 = true := by kernel_rfl
theorem fB : Bf Tryz.prog 21 = true := by kernel_rfl
theorem fU : Bf Tryz.prog 22 = true := by kernel_rfl
theorem ax : Bf Tryz.prog 23 = true := by kernel_rfl
theorem cE : Bf Tryz.prog 24 = true := by kernel_rfl
theorem dI : Bf Tryz.prog 25 = true := by kernel_rfl
theorem eF : Bf Tryz.prog 26 = true := by kernel_rfl
theorem cl : Bf Tryz.prog 27 = true := by kernel_rfl
theorem eQ : Bf Tryz.prog 28 = true := by kernel_rfl
theorem ew : Bf Tryz.prog 29 = true := by kernel_rfl
theorem fH : Bf Tryz.prog 30 = true := by kernel_rfl
theorem eS : Bf Tryz.prog 31 = true := by kernel_rfl
theorem dY : Bf Tryz.prog 32 = true := by kernel_rfl
theorem eJ : Bf Tryz.prog 33 = true := by kernel_rfl
theorem fh : Bf Tryz.prog 34 = true := by kernel_rfl
theorem Z6 : Bf Tryz.prog 35 = true := by kernel_rfl
theorem fD : Bf Tryz.prog 36 = true := by kernel_rfl
theorem dE : Bf Tryz.prog 37 = true := by kernel_rfl
theorem ez : Bf Tryz.prog 38 = true := by kernel_rfl
theorem eG : Bf Tryz.prog 39 = true := by kernel_rfl
theorem fZ : Bf Tryz.prog 40 = true := by kernel_rfl
theorem dW : Bf Tryz.prog 41 = true := by kernel_rfl
theorem fA : Bf Tryz.prog 44 = true := by kernel_rfl
theorem aL : Bf Tryz.prog 45 = true := by kernel_rfl
theorem dL : Bf Tryz.prog 46 = true := by kernel_rfl
theorem eY : Bf Tryz.prog 47 = true := by kernel_rfl
theorem dU : Bf Tryz.prog 49 = true := by kernel_rfl
theorem Zk : Bf Tryz.prog 50 = true := by kernel_rfl
theorem eb : Bf Tryz.prog 51 = true := by kernel_rfl
theorem et : Bf Tryz.prog 52 = true := by kernel_rfl
theorem fP : Bf Tryz.prog 53 = true := by kernel_rfl
theorem dt : Bf Tryz.prog 54 = true := by kernel_rfl
theorem fN : Bf Tryz.prog 55 = true := by kernel_rfl
theorem fK : Bf Tryz.prog 56 = true := by kernel_rfl
theorem fR : Bf Tryz.prog 57 = true := by kernel_rfl
theorem ep : Bf Tryz.prog 58 = true := by kernel_rfl
theorem dh : Bf Tryz.prog 59 = true := by kernel_rfl
theorem dN : Bf Tryz.prog 60 = true := by kernel_rfl
theorem dq : Bf Tryz.prog 61 = true := by kernel_rfl
theorem fY : Bf Tryz.prog 62 = true := by kernel_rfl
theorem fC : Bf Tryz.prog 63 = true := by kernel_rfl
theorem fe : Bf Tryz.prog 64 = true := by kernel_rfl
theorem cQ : Bf Tryz.prog 65 = true := by kernel_rfl
theorem dV : Bf Tryz.prog 66 = true := by kernel_rfl
theorem eW : Bf Tryz.prog 67 = true := by kernel_rfl
theorem fE : Bf Tryz.prog 68 = true := by kernel_rfl
theorem ee : Bf Tryz.prog 69 = true := by kernel_rfl
theorem dF : Bf Tryz.prog 70 = true := by kernel_rfl
theorem eH : Bf Tryz.prog 71 = true := by kernel_rfl
theorem eO : Bf Tryz.prog 74 = true := by kernel_rfl
theorem eM : Bf Tryz.prog 75 = true := by kernel_rfl
theorem fc : Bf Tryz.prog 76 = true := by kernel_rfl
theorem di : Bf Tryz.prog 77 = true := by kernel_rfl
theorem da : Bf Tryz.prog 78 = true := by kernel_rfl
theorem eI : Bf Tryz.prog 79 = true := by kernel_rfl
theorem dO : Bf Tryz.prog 80 = true := by kernel_rfl
theorem ec : Bf Tryz.prog 81 = true := by kernel_rfl
theorem dS : Bf Tryz.prog 82 = true := by kernel_rfl
theorem ea : Bf Tryz.prog 83 = true := by kernel_rfl
theorem e7 : Bf Tryz.prog 84 = true := by kernel_rfl
theorem cW : Bf Tryz.prog 85 = true := by kernel_rfl
theorem eZ : Bf Tryz.prog 86 = true := by kernel_rfl
theorem ei : Bf Tryz.prog 87 = true := by kernel_rfl
theorem dZ : Bf Tryz.prog 88 = true := by kernel_rfl
theorem eP : Bf Tryz.prog 89 = true := by kernel_rfl
theorem eh : Bf Tryz.prog 90 = true := by kernel_rfl
theorem dw : Bf Tryz.prog 91 = true := by kernel_rfl
theorem eR : Bf Tryz.prog 92 = true := by kernel_rfl
theorem eU : Bf Tryz.prog 93 = true := by kernel_rfl
theorem eo : Bf Tryz.prog 97 = true := by kernel_rfl
theorem fG : Bf Tryz.prog 98 = true := by kernel_rfl
theorem fJ : Bf Tryz.prog 99 = true := by kernel_rfl
theorem bg : Bf Tryz.prog 100 = true := by kernel_rfl
theorem aT : Bf Tryz.prog 101 = true := by kernel_rfl
theorem cq : Bf Tryz.prog 102 = true := by kernel_rfl
theorem bU : Bf Tryz.prog 103 = true := by kernel_rfl
theorem cO : Bf Tryz.prog 104 = true := by kernel_rfl
theorem bL : Bf Tryz.prog 111 = true := by kernel_rfl
theorem cX : Bf Tryz.prog 112 = true := by kernel_rfl
theorem ar : Bf Tryz.prog 113 = true := by kernel_rfl
theorem bG : Bf Tryz.prog 114 = true := by kernel_rfl
theorem bh : Bf Tryz.prog 115 = true := by kernel_rfl
theorem cD : Bf Tryz.prog 116 = true := by kernel_rfl
theorem aO : Bf Tryz.prog 117 = true := by kernel_rfl
theorem cU : Bf Tryz.prog 118 = true := by kernel_rfl
theorem bM : Bf Tryz.prog 119 = true := by kernel_rfl
theorem cH : Bf Tryz.prog 120 = true := by kernel_rfl
theorem a7 : Bf Tryz.prog 121 = true := by kernel_rfl
theorem Z2 : Bf Tryz.prog 122 = true := by kernel_rfl
theorem YZ : Bf Tryz.prog 123 = true := by kernel_rfl
theorem Zx : Bf Tryz.prog 124 = true := by kernel_rfl
theorem bz : Bf Tryz.prog 125 = true := by kernel_rfl
theorem bx : Bf Tryz.prog 126 = true := by kernel_rfl
theorem ao : Bf Tryz.prog 127 = true := by kernel_rfl
theorem a6 : Bf Tryz.prog 128 = true := by kernel_rfl
theorem cm : Bf Tryz.prog 129 = true := by kernel_rfl
theorem aq : Bf Tryz.prog 130 = true := by kernel_rfl
theorem aN : Bf Tryz.prog 131 = true := by kernel_rfl
theorem aH : Bf Tryz.prog 132 = true := by kernel_rfl
theorem aR : Bf Tryz.prog 133 = true := by kernel_rfl
theorem bu : Bf Tryz.prog 134 = true := by kernel_rfl
theorem aJ : Bf Tryz.prog 135 = true := by kernel_rfl
theorem Z5 : Bf Tryz.prog 140 = true := by kernel_rfl
theorem ct : Bf Tryz.prog 141 = true := by kernel_rfl
theorem au : Bf Tryz.prog 142 = true := by kernel_rfl
theorem Z8 : Bf Tryz.prog 143 = true := by kernel_rfl
theorem Z9 : Bf Tryz.prog 144 = true := by kernel_rfl
theorem aG : Bf Tryz.prog 145 = true := by kernel_rfl
theorem ca : Bf Tryz.prog 146 = true := by kernel_rfl
theorem bZ : Bf Tryz.prog 147 = true := by kernel_rfl
theorem bN : Bf Tryz.prog 148 = true := by kernel_rfl
theorem YD : Bf Tryz.prog 153 = true := by kernel_rfl
theorem bP : Bf Tryz.prog 156 = true := by kernel_rfl
theorem DU : fieldsOf Tryz.prog 24 = some [(0, 1), (1, 1), (2, 1), (3, 1), (4, 1), (5, 1), (6, 1)] := by kernel_rfl
theorem CX : fieldsOf Tryz.prog 33 = some [(0, 1), (1, 1), (2, 1), (3, 1), (4, 1)] := by kernel_rfl
theorem HL : fieldsOf Tryz.prog 81 = some [(0, 1), (1, 1), (2, 1), (3, 1)] := by kernel_rfl
theorem Hi : fieldsOf Tryz.prog 85 = some [(0, 7), (7, 1)] := by kernel_rfl
theorem Es : fieldsOf Tryz.prog 87 = some [(0, 5), (5, 5), (10, 5), (15, 1)] := by kernel_rfl
theorem Yr : fieldsOf Tryz.prog 91 = some [(0, 1), (1, 1), (2, 1), (3, 1), (4, 5)] := by kernel_rfl
theorem Hz : fieldsOf Tryz.prog 100 = some [(0, 1), (1, 1), (2, 1)] := by kernel_rfl
theorem D8 : fieldsOf Tryz.prog 108 = some [(0, 1), (1, 1)] := by kernel_rfl
theorem FX : fieldsOf Tryz.prog 112 = some [(0, 1), (1, 1)] := by kernel_rfl
theorem PW : fieldsOf Tryz.prog 122 = some [(0, 1), (1, 1), (2, 1), (3, 5), (8, 5), (13, 1), (14, 1), (15, 7), (22, 1)] := by kernel_rfl
theorem H4 : fieldsOf Tryz.prog 145 = some [(0, 1), (1, 1)] := by kernel_rfl
theorem Hy : fieldsOf Tryz.prog 175 = some [(0, 1), (1, 1), (2, 1), (3, 1), (4, 1)] := by kernel_rfl
theorem MY : fieldsOf Tryz.prog 186 = some [(0, 1), (1, 1)] := by kernel_rfl
theorem Qi : fieldsOf Tryz.prog 198 = some [(0, 1), (1, 1)] := by kernel_rfl
theorem D0 : Tryz.prog.follows .mixedOrders = true := by kernel_rfl
theorem ae : LP Tryz.prog 112 = true := by kernel_rfl
theorem De : Di Tryz.prog 3 = some (false, 1) := by kernel_rfl
theorem Wm : Di Tryz.prog 4 = some (false, 1) := by kernel_rfl
theorem FU : Di Tryz.prog 9 = some (false, 1) := by kernel_rfl
theorem Uh : Di Tryz.prog 22 = some (false, 1) := by kernel_rfl
theorem EG : Di Tryz.prog 24 = some (true, 7) := by kernel_rfl
theorem Nq : Di Tryz.prog 25 = some (false, 1) := by kernel_rfl
theorem DQ : Di Tryz.prog 26 = some (false, 1) := by kernel_rfl
theorem I7 : Di Tryz.prog 31 = some (false, 1) := by kernel_rfl
theorem BO : Di Tryz.prog 33 = some (true, 5) := by kernel_rfl
theorem dH : Di Tryz.prog 36 = some (false, 1) := by kernel_rfl
theorem XF : Di Tryz.prog 38 = some (false, 1) := by kernel_rfl
theorem Zr : Di Tryz.prog 48 = some (false, 1) := by kernel_rfl
theorem Xf : Di Tryz.prog 76 = some (false, 1) := by kernel_rfl
theorem ZQ : Di Tryz.prog 79 = some (false, 1) := by kernel_rfl
theorem IC : Di Tryz.prog 83 = some (false, 1) := by kernel_rfl
theorem Co : Di Tryz.prog 87 = some (true, 16) := by kernel_rfl
theorem bq : Di Tryz.prog 88 = some (false, 1) := by kernel_rfl
theorem Pt : Di Tryz.prog 91 = some (true, 9) := by kernel_rfl
theorem HC : Di Tryz.prog 106 = some (false, 1) := by kernel_rfl
theorem EM : Di Tryz.prog 108 = some (true, 2) := by kernel_rfl
theorem PT : Di Tryz.prog 112 = some (true, 2) := by kernel_rfl
theorem RS : Di Tryz.prog 122 = some (true, 23) := by kernel_rfl
theorem G2 : Di Tryz.prog 145 = some (true, 2) := by kernel_rfl
theorem LR : Di Tryz.prog 146 = some (false, 1) := by kernel_rfl
theorem cY : Di Tryz.prog 151 = some (true, 4) := by kernel_rfl
theorem Z4 : Di Tryz.prog 173 = some (false, 1) := by kernel_rfl
theorem YS : Di Tryz.prog 175 = some (true, 5) := by kernel_rfl
theorem UW : Di Tryz.prog 176 = some (true, 65) := by kernel_rfl
theorem PG : Di Tryz.prog 178 = some (false, 1) := by kernel_rfl
theorem TY : Di Tryz.prog 183 = some (false, 1) := by kernel_rfl
theorem Si : Di Tryz.prog 184 = some (false, 1) := by kernel_rfl
theorem Ra : Tryz.prog.underlying 151 = some (.array 4 146) := by kernel_rfl
theorem YH : Tryz.prog.underlying 176 = some (.array 13 175) := by kernel_rfl
theorem Ys : Tryz.prog.underlying 9 = some .string := by kernel_rfl
theorem S9 : zeroOf Tryz.prog 3 = some (.int .i64 0) := by kernel_rfl
theorem gU : zeroOf Tryz.prog 5 = some (.int .u8 0) := by kernel_rfl
theorem aW : zeroOf Tryz.prog 9 = some (.string { data := { toList := [] } }) := by kernel_rfl
theorem We : zeroOf Tryz.prog 24 = some (.agg { toList := [.string { data := { toList := [] } }, .string { data := { toList := [] } }, .string { data := { toList := [] } }, .string { data := { toList := [] } }, .string { data := { toList := [] } }, .string { data := { toList := [] } }, .slice none 0 0] }) := by kernel_rfl
theorem eB : zeroOf Tryz.prog 26 = some (.slice none 0 0) := by kernel_rfl
theorem B7 : zeroOf Tryz.prog 33 = some (.agg { toList := [.int .i64 0, .int .i64 0, .string { data := { toList := [] } }, .slice none 0 0, .slice none 0 0] }) := by kernel_rfl
theorem ek : zeroOf Tryz.prog 38 = some (.int .i64 0) := by kernel_rfl
theorem bC : zeroOf Tryz.prog 81 = some (.agg { toList := [.slice none 0 0, .slice none 0 0, .map none, .int .i64 0] }) := by kernel_rfl
theorem eC : zeroOf Tryz.prog 85 = some (.agg { toList := [.string { data := { toList := [] } }, .string { data := { toList := [] } }, .string { data := { toList := [] } }, .string { data := { toList := [] } }, .string { data := { toList := [] } }, .string { data := { toList := [] } }, .slice none 0 0, .pointer none] }) := by kernel_rfl
theorem Dp : zeroOf Tryz.prog 87 = some (.agg { toList := [.int .i64 0, .int .i64 0, .string { data := { toList := [] } }, .slice none 0 0, .slice none 0 0, .int .i64 0, .int .i64 0, .string { data := { toList := [] } }, .slice none 0 0, .slice none 0 0, .int .i64 0, .int .i64 0, .string { data := { toList := [] } }, .slice none 0 0, .slice none 0 0, .bool false] }) := by kernel_rfl
theorem Tu : zeroOf Tryz.prog 91 = some (.agg { toList := [.int .i64 0, .int .i64 0, .int .i64 0, .int .i64 0, .int .i64 0, .int .i64 0, .string { data := { toList := [] } }, .slice none 0 0, .slice none 0 0] }) := by kernel_rfl
theorem cb : zeroOf Tryz.prog 100 = some (.agg { toList := [.slice none 0 0, .slice none 0 0, .int .i64 0] }) := by kernel_rfl
theorem Gw : zeroOf Tryz.prog 108 = some (.agg { toList := [.int .i64 0, .slice none 0 0] }) := by kernel_rfl
theorem K7 : zeroOf Tryz.prog 112 = some (.agg { toList := [.int .i64 0, .int .i64 0] }) := by kernel_rfl
theorem TX : zeroOf Tryz.prog 122 = some (.agg { toList := [.int .i64 0, .string { data := { toList := [] } }, .int .i64 0, .int .i64 0, .int .i64 0, .string { data := { toList := [] } }, .slice none 0 0, .slice none 0 0, .int .i64 0, .int .i64 0, .string { data := { toList := [] } }, .slice none 0 0, .slice none 0 0, .int .i64 0, .slice none 0 0, .int .i64 0, .int .i64 0, .int .i64 0, .string { data := { toList := [] } }, .slice none 0 0, .slice none 0 0, .slice none 0 0, .slice none 0 0] }) := by kernel_rfl
theorem IL : zeroOf Tryz.prog 145 = some (.agg { toList := [.int .i64 0, .bool false] }) := by kernel_rfl
theorem YG : zeroOf Tryz.prog 151 = some (.agg { toList := [.nilFunc, .nilFunc, .nilFunc, .nilFunc] }) := by kernel_rfl
theorem IN : zeroOf Tryz.prog 175 = some (.agg { toList := [.bool false, .bool false, .int .i64 0, .int .i64 0, .int .i64 0] }) := by kernel_rfl
theorem V6 : zeroOf Tryz.prog 176 = some (.agg { toList := [.bool false, .bool false, .int .i64 0, .int .i64 0, .int .i64 0, .bool false, .bool false, .int .i64 0, .int .i64 0, .int .i64 0, .bool false, .bool false, .int .i64 0, .int .i64 0, .int .i64 0, .bool false, .bool false, .int .i64 0, .int .i64 0, .int .i64 0, .bool false, .bool false, .int .i64 0, .int .i64 0, .int .i64 0, .bool false, .bool false, .int .i64 0, .int .i64 0, .int .i64 0, .bool false, .bool false, .int .i64 0, .int .i64 0, .int .i64 0, .bool false, .bool false, .int .i64 0, .int .i64 0, .int .i64 0, .bool false, .bool false, .int .i64 0, .int .i64 0, .int .i64 0, .bool false, .bool false, .int .i64 0, .int .i64 0, .int .i64 0, .bool false, .bool false, .int .i64 0, .int .i64 0, .int .i64 0, .bool false, .bool false, .int .i64 0, .int .i64 0, .int .i64 0, .bool false, .bool false, .int .i64 0, .int .i64 0, .int .i64 0] }) := by kernel_rfl
theorem aA : zeroOf Tryz.prog 178 = some .nilFunc := by kernel_rfl
theorem YW : zeroOf Tryz.prog 186 = some (.agg { toList := [.pointer none, .slice none 0 0] }) := by kernel_rfl
theorem Z0 : zeroOf Tryz.prog 198 = some (.agg { toList := [.int .i64 0, .int .i64 0] }) := by kernel_rfl
end Go.Proofs.YtapmjpihennhaaaGreatDoor
namespace Go.Proofs.YtapmjpihennhaaaGreatDoor
open Go.Abs Go.Eu
theorem _root_.Go.An {α : Prop} (h : α := by kernel_rfl) : α := h
theorem _root_.Go.AB {α : Prop} (h : α := by repeat' first | exact trivial | refine And.intro ?_ ?_ | exact Or.inl (by kernel_rfl) | (refine Or.inr (And.intro ?_ ?_) <;> repeat (first | exact List.Mem.head _ | apply List.Mem.tail))) : α := h
theorem _root_.Go.J {α : Prop} (h : α := by first | exact List.Sublist.refl _ | exact .cons _ (.refl _) | exact .cons _ (.cons _ (.refl _)) | exact .cons _ (.cons _ (.cons _ (.refl _))) | exact .cons _ (.cons _ (.cons _ (.cons _ (.refl _))))) : α := h
theorem _root_.Go.Ap {α : Prop} (h : α := by simp_all) : α := h
theorem _root_.Go.AJ {α : Prop} (h : α := by first | exact List.Sublist.refl _ | exact List.sublist_cons_self _ _) : α := h
theorem XQ : ∀ (a b : FC), a.vars.length < EC → G5 Tryz.prog 69 [LV a, LV b] (.p (.bool (Mx a b))) := by
 intro a b hb
 obtain ⟨ac, av⟩ := a
 obtain ⟨bc, bv⟩ := b
 simp only [EC] at hb
 refine A8 Tryz.func69 At ee (n := 38) At At (Ax (Av (BM At At (Bh At) fun b2 => BM At At (Bh At) fun b3 => Au At At (Ay At) (Az At (Ax (Ax (CA [0, 1, 2, 3, 4, 5] 19 (fun y => y = .p (.bool (ac != bc || (av.length : Int) != bv.length))) ?_ ?_)))))))
 ·refine Av (Au At At (A1 D8 At At) (Au At At (A2 (i := 1) De At At At) (Au At At (A1 D8 At At) (Au At At (A2 (i := 0) De At At At) (Au At At (BA At At At) (Au At At (Aw At) (Bm 11 At (fun g1 => ?_) (fun g1 => ?_))))))))
  ·(try simp only [sd] at g1)
   exact A5 At At At At At (A5 At At At At At (A5 At At At At At (A5 At At At At At (A5 At At At At At (A5 At At At At At (A5 At At At At At (Au At At (A7 At At) (Az At (⟨At, At, AJ, pB Ap, ⟨At, At, At, At, At, At, trivial⟩⟩)))))))))
  ·(try simp only [sd] at g1)
   exact A3 At At At At (A1 D8 At At) (A3 At At At At (A2 (i := 1) HC At At At) (A3 At At At At (C8 Fq At) (A3 At At At At (A1 D8 At At) (A3 At At At At (A2 (i := 0) HC At At At) (A3 At At At At (C8 Fq At) (A3 At At At At (BA At At At) (Au At At (A7 At At) (Az At (⟨At, At, AJ, pB Ap, ⟨At, At, At, At, At, At, trivial⟩⟩)))))))))
 rintro _ rfl
 refine A9 At (fun c2 => ?_) (fun c2 => ?_)
 ·(try simp only [sd] at c2)
  refine Ax (Av (Au At At (Ay At) (Az At (BB ⟨At, _, [], Bu At, List.nil_sublist _, ?_⟩))))
  exact ⟨pB (DK (fun h => by simp at h; simp [h] at *)).symm, rfl⟩
 ·(try simp only [sd] at c2)
  have h1 : ac = bc ∧ av.length = bv.length := by simp at c2; omega
  refine BC (Ax (Ax (Av (Au At At (Ay At) (Az At (Ba (IK (av.length) (fun i => agree av bv i) (fun i => ⟨38, mk [(2, .ptr b2 0), (3, .ptr b3 0), (5, .p (I i))], [.box b3 ((Dw ⟨bc, bv⟩).map .p), .box b2 ((Dw ⟨ac, av⟩).map .p)], []⟩) (0) Ar (Is _ _) ?_ ?_)))))))
  ·exact Hk ⟨At, At, At, trivial⟩ J
  intro i hi hC
  refine Ax (Ax (Av (Au At At (Aw At) (Au At At (A1 D8 At At) (Au At At (A2 (i := 1) HC At At At) (Au At At (C8 Fq At) (Au At At (BA At At At) (Az At (A9 At (fun c3 => ?_) (fun c3 => ?_))))))))))
  ·(try simp only [sd] at c3)
   have hi2 : i < av.length := by simp at c3; omega
   obtain ⟨x, hx⟩ := BP hi2
   obtain ⟨y, hy⟩ := BP (l := bv) (i := i) Ar
   refine BC (Ax (Ba (Ax (CQ (fun k => false) D0 (A4 At At (fun _ => A1 D8 At At) trivial (BQ (j := 1) At At At (fun H i hi => A2 (i := i) HC At hi At) AB trivial (A4 At At (fun _ => Aw At) trivial (A4 At At (fun _ => BL Fq At At Ar (F3 hx) (At)) trivial (A4 At At (fun _ => Bi PT At (At)) trivial (A4 At At (fun _ => A1 D8 At At) trivial (BQ (j := 0) At At At (fun H i hi => A2 (i := i) HC At hi At) AB trivial ?_)))))))))))
   refine A4 At At (fun _ => Aw At) trivial (A4 At At (fun _ => BL Fq At At Ar (F3 hy) (At)) trivial (A4 At At (fun _ => Bi PT At (At)) trivial (A4 At At (fun _ => T6 ae At At) trivial (CK At An (A9 At (fun c4 => ?_) (fun c4 => ?_))))))
   ·(try simp only [sd] at c4)
    refine Ax (Av (Au At At (Ay At) (Az At (BB ⟨At, _, [], Bu At, List.nil_sublist _, ?_⟩))))
    exact ⟨pB (DK (fun h => by simp at h; obtain ⟨_, rfl⟩ := h; rw [hx] at hy; injection hy with hy; subst hy; simp_all)).symm, rfl⟩
   ·(try simp only [sd] at c4)
    have hxy : x = y := by obtain ⟨x1, x2⟩ := x; obtain ⟨y1, y2⟩ := y; simp at c4; simp [c4]
    subst hxy
    exact BC (Av (Au At At (Aw At) (Au At At (CS At At Ar Ar) (Au At At (Ay At) (Az At (⟨by omega, Ij hC hx hy, Hk ⟨rfl, rfl, rfl, trivial⟩ J⟩))))))
  ·(try simp only [sd] at c3)
   have hi2 : i = av.length := by simp at c3; omega
   refine CL (Ax (Av (Au At At (Ay At) (Az At (BB ⟨At, _, [], Bu At, List.nil_sublist _, ?_⟩)))))
   exact ⟨pB (C3 (by rw [h1.1, Jt hC Ar Ar])).symm, At⟩
theorem LL : ∀ (a b : List FC), a.length < EC → (∀ l ∈ a, W8 l) → G5 Tryz.prog 38 [dA a, dA b] (.p (.bool (Mx a b))) := by
 intro a b hb hn
 simp only [EC] at hb
 refine A8 Tryz.func38 At ez (n := 27) At At (Ax (Av (Au At At (Ay At) (Az At (Ax (Ax (Av (Au At At (Aw At) (Au At At (C8 Hr At) (Au At At (Aw At) (Au At At (C8 Hr At) ?_)))))))))))
 refine Au At At (BA At At At) (Az At (A9 At (fun c1 => ?_) (fun c1 => ?_)))
 ·(try simp only [sd] at c1)
  refine Ax (Av (Au At At (Ay At) (Az At (BB ⟨At, _, [], Bu At, List.nil_sublist _, ?_⟩))))
  exact ⟨pB (DK (fun h => by subst h; simp at *)).symm, rfl⟩
 ·(try simp only [sd] at c1)
  have h1 : a.length = b.length := by simp at c1; omega
  refine BC (Ax (Ax (Av (Au At At (Ay At) (Az At (Ba (IK (a.length) (fun i => agree a b i) (fun i => ⟨27, mk [(0, dA a), (1, dA b), (5, .p (I i))], [], []⟩) (0) Ar (Is _ _) ?_ ?_)))))))
  ·exact Hk ⟨At, At, At, trivial⟩ J
  intro i hi hC
  refine Ax (Ax (Av (Au At At (Aw At) (Au At At (Aw At) (Au At At (C8 Hr At) (Au At At (BA At At At) (Az At (A9 At (fun c2 => ?_) (fun c2 => ?_)))))))))
  ·(try simp only [sd] at c2)
   have hi2 : i < a.length := by simp at c2; omega
   obtain ⟨x, hx⟩ := BP hi2
   obtain ⟨y, hy⟩ := BP (l := b) (i := i) Ar
   refine BC (Ax (Ba (Ax (CQ (fun k => false) D0 (A4 At At (fun _ => Aw At) trivial (A4 At At (fun _ => Aw At) trivial (A4 At At (fun _ => BL Hr At At Ar (Jh hx) (LG _)) trivial (A4 At At (fun _ => Bi EM At (LG _)) trivial (A4 At At (fun _ => Aw At) trivial (A4 At At (fun _ => Aw At) trivial (A4 At At (fun _ => BL Hr At At Ar (Jh hy) (LG _)) trivial ?_)))))))))))
   refine A4 At At (fun _ => Bi EM At (LG _)) trivial (A4 At At (fun _ => Bg At At (XQ x y (hn x (List.mem_of_getElem? hx)).vars) At) trivial (A4 At At (fun _ => Cg At) trivial (CK At An (A9 At (fun c3 => ?_) (fun c3 => ?_)))))
   ·(try simp only [sd] at c3)
    refine Ax (Av (Au At At (Ay At) (Az At (BB ⟨At, _, [], Bu At, List.nil_sublist _, ?_⟩))))
    exact ⟨pB (DK (fun h => by subst h; rw [hx] at hy; injection hy with hy; subst hy; simp [C3] at *)).symm, rfl⟩
   ·(try simp only [sd] at c3)
    have hxy : x = y := F9.1 (by simpa using c3)
    subst hxy
    exact BC (Av (Au At At (Aw At) (Au At At (CS At At Ar Ar) (Au At At (Ay At) (Az At (⟨by omega, Ij hC hx hy, Hk ⟨rfl, rfl, rfl, trivial⟩ J⟩))))))
  ·(try simp only [sd] at c2)
   have hi2 : i = a.length := by simp at c2; omega
   refine CL (Ax (Av (Au At At (Ay At) (Az At (BB ⟨At, _, [], Bu At, List.nil_sublist _, ?_⟩)))))
   exact ⟨pB (C3 (Jt hC Ar Ar)).symm, At⟩
theorem Kl : ∀ (n : Nat) (a b : Tm), size a ≤ n → Nd a → G5 Tryz.prog 12 [TV a, TV b] (.p (.bool (Mx a b))) := by
 intro n
 induction n with
 | zero => intro a b h; cases a; simp [size] at h
 | succ n ih =>
  intro a b hs hnd
  obtain ⟨ak, ai, an, al, aks⟩ := a
  obtain ⟨bk, bi, bn, bl, bks⟩ := b
  simp only [size] at hs
  simp only [Nd, EC] at hnd
  obtain ⟨hn1, hn2, hn3, hn4, hn5, hn6⟩ := hnd
  refine A8 Tryz.func12 At ff (n := 61) At At (Ax (Av (BM At At (Bh At) fun b2 => BM At At (Bh At) fun b3 => Au At At (Ay At) (Az At (Ax (Ax (CA [0, 1, 2, 3, 4, 5] 41 (fun y => y = .p (.bool (ak != bk || ai != bi || !(an.toList == bn.toList) || !(Mx al bl) || (((BR aks).length : Int) != (BR bks).length)))) ?_ ?_)))))))
  ·refine Av (Au At At (A1 CX At At) (Au At At (A2 (i := 1) De At At At) (Au At At (A1 CX At At) (Au At At (A2 (i := 0) De At At At) (Au At At (BA At At At) (Au At At (Aw At) (Bm 11 At (fun g1 => ?_) (fun g1 => ?_))))))))
   ·(try simp only [sd] at g1)
    refine A5 At At At At At (A5 At At At At At (A5 At At At At At (A5 At At At At At (A5 At At At At At (Au At At (A7 At At) (Au At At (Aw At) (Bm 18 At (fun g2 => ?_) (fun g2 => ?_))))))))
    ·(try simp only [sd] at g2)
     refine A5 At At At At At (A5 At At At At At (A5 At At At At At (A5 At At At At At (A5 At At At At At (Au At At (A7 At At) (Au At At (Aw At) (Bm 25 At (fun g3 => ?_) (fun g3 => ?_))))))))
     ·(try simp only [sd] at g3)
      refine A5 At At At At At (A5 At At At At At (A5 At At At At At (A5 At At At At At (A5 At At At At At (A5 At At At At At (Au At At (A7 At At) (Au At At (Aw At) (Bm 33 At (fun g4 => ?_) (fun g4 => ?_)))))))))
      ·(try simp only [sd] at g4)
       exact A5 At At At At At (A5 At At At At At (A5 At At At At At (A5 At At At At At (A5 At At At At At (A5 At At At At At (A5 At At At At At (Au At At (A7 At At) (Az At (⟨At, At, AJ, pB Ap, ⟨At, At, At, At, At, At, trivial⟩⟩)))))))))
      ·(try simp only [sd] at g4)
       exact A3 At At At At (A1 CX At At) (A3 At At At At (A2 (i := 1) DQ At At At) (A3 At At At At (C8 By At) (A3 At At At At (A1 CX At At) (A3 At At At At (A2 (i := 0) DQ At At At) (A3 At At At At (C8 By At) (A3 At At At At (BA At At At) (Au At At (A7 At At) (Az At (⟨At, At, AJ, pB Ap, ⟨At, At, At, At, At, At, trivial⟩⟩)))))))))
     ·(try simp only [sd] at g3)
      refine A3 At At At At (A1 CX At At) (A3 At At At At (A2 (i := 1) I7 At At At) (A3 At At At At (A1 CX At At) (A3 At At At At (A2 (i := 0) I7 At At At) (A3 At At At At (Bg At At (LL al bl hn2 hn3) At) (A3 At At At At (Cg At) (Au At At (A7 At At) (Au At At (Aw At) (Bm 33 At (fun g5 => ?_) (fun g5 => ?_)))))))))
      ·(try simp only [sd] at g5)
       exact A5 At At At At At (A5 At At At At At (A5 At At At At At (A5 At At At At At (A5 At At At At At (A5 At At At At At (A5 At At At At At (Au At At (A7 At At) (Az At (⟨At, At, AJ, pB Ap, ⟨At, At, At, At, At, At, trivial⟩⟩)))))))))
      ·(try simp only [sd] at g5)
       exact A3 At At At At (A1 CX At At) (A3 At At At At (A2 (i := 1) DQ At At At) (A3 At At At At (C8 By At) (A3 At At At At (A1 CX At At) (A3 At At At At (A2 (i := 0) DQ At At At) (A3 At At At At (C8 By At) (A3 At At At At (BA At At At) (Au At At (A7 At At) (Az At (⟨At, At, AJ, pB Ap, ⟨At, At, At, At, At, At, trivial⟩⟩)))))))))
    ·(try simp only [sd] at g2)
     refine A3 At At At At (A1 CX At At) (A3 At At At At (A2 (i := 1) FU At At At) (A3 At At At At (A1 CX At At) (A3 At At At At (A2 (i := 0) FU At At At) (A3 At At At At (MB At At) (Au At At (A7 At At) (Au At At (Aw At) (Bm 25 At (fun g6 => ?_) (fun g6 => ?_))))))))
     ·(try simp only [sd] at g6)
      refine A5 At At At At At (A5 At At At At At (A5 At At At At At (A5 At At At At At (A5 At At At At At (A5 At At At At At (Au At At (A7 At At) (Au At At (Aw At) (Bm 33 At (fun g7 => ?_) (fun g7 => ?_)))))))))
      ·(try simp only [sd] at g7)
       exact A5 At At At At At (A5 At At At At At (A5 At At At At At (A5 At At At At At (A5 At At At At At (A5 At At At At At (A5 At At At At At (Au At At (A7 At At) (Az At (⟨At, At, AJ, pB Ap, ⟨At, At, At, At, At, At, trivial⟩⟩)))))))))
      ·(try simp only [sd] at g7)
       exact A3 At At At At (A1 CX At At) (A3 At At At At (A2 (i := 1) DQ At At At) (A3 At At At At (C8 By At) (A3 At At At At (A1 CX At At) (A3 At At At At (A2 (i := 0) DQ At At At) (A3 At At At At (C8 By At) (A3 At At At At (BA At At At) (Au At At (A7 At At) (Az At (⟨At, At, AJ, pB Ap, ⟨At, At, At, At, At, At, trivial⟩⟩)))))))))
     ·(try simp only [sd] at g6)
      refine A3 At At At At (A1 CX At At) (A3 At At At At (A2 (i := 1) I7 At At At) (A3 At At At At (A1 CX At At) (A3 At At At At (A2 (i := 0) I7 At At At) (A3 At At At At (Bg At At (LL al bl hn2 hn3) At) (A3 At At At At (Cg At) (Au At At (A7 At At) (Au At At (Aw At) (Bm 33 At (fun g8 => ?_) (fun g8 => ?_)))))))))
      ·(try simp only [sd] at g8)
       exact A5 At At At At At (A5 At At At At At (A5 At At At At At (A5 At At At At At (A5 At At At At At (A5 At At At At At (A5 At At At At At (Au At At (A7 At At) (Az At (⟨At, At, AJ, pB Ap, ⟨At, At, At, At, At, At, trivial⟩⟩)))))))))
      ·(try simp only [sd] at g8)
       exact A3 At At At At (A1 CX At At) (A3 At At At At (A2 (i := 1) DQ At At At) (A3 At At At At (C8 By At) (A3 At At At At (A1 CX At At) (A3 At At At At (A2 (i := 0) DQ At At At) (A3 At At At At (C8 By At) (A3 At At At At (BA At At At) (Au At At (A7 At At) (Az At (⟨At, At, AJ, pB Ap, ⟨At, At, At, At, At, At, trivial⟩⟩)))))))))
   ·(try simp only [sd] at g1)
    refine A3 At At At At (A1 CX At At) (A3 At At At At (A2 (i := 1) De At At At) (A3 At At At At (A1 CX At At) (A3 At At At At (A2 (i := 0) De At At At) (A3 At At At At (BA At At At) (Au At At (A7 At At) (Au At At (Aw At) (Bm 18 At (fun g9 => ?_) (fun g9 => ?_))))))))
    ·(try simp only [sd] at g9)
     refine A5 At At At At At (A5 At At At At At (A5 At At At At At (A5 At At At At At (A5 At At At At At (Au At At (A7 At At) (Au At At (Aw At) (Bm 25 At (fun g10 => ?_) (fun g10 => ?_))))))))
     ·(try simp only [sd] at g10)
      refine A5 At At At At At (A5 At At At At At (A5 At At At At At (A5 At At At At At (A5 At At At At At (A5 At At At At At (Au At At (A7 At At) (Au At At (Aw At) (Bm 33 At (fun g11 => ?_) (fun g11 => ?_)))))))))
      ·(try simp only [sd] at g11)
       exact A5 At At At At At (A5 At At At At At (A5 At At At At At (A5 At At At At At (A5 At At At At At (A5 At At At At At (A5 At At At At At (Au At At (A7 At At) (Az At (⟨At, At, AJ, pB Ap, ⟨At, At, At, At, At, At, trivial⟩⟩)))))))))
      ·(try simp only [sd] at g11)
       exact A3 At At At At (A1 CX At At) (A3 At At At At (A2 (i := 1) DQ At At At) (A3 At At At At (C8 By At) (A3 At At At At (A1 CX At At) (A3 At At At At (A2 (i := 0) DQ At At At) (A3 At At At At (C8 By At) (A3 At At At At (BA At At At) (Au At At (A7 At At) (Az At (⟨At, At, AJ, pB Ap, ⟨At, At, At, At, At, At, trivial⟩⟩)))))))))
     ·(try simp only [sd] at g10)
      refine A3 At At At At (A1 CX At At) (A3 At At At At (A2 (i := 1) I7 At At At) (A3 At At At At (A1 CX At At) (A3 At At At At (A2 (i := 0) I7 At At At) (A3 At At At At (Bg At At (LL al bl hn2 hn3) At) (A3 At At At At (Cg At) (Au At At (A7 At At) (Au At At (Aw At) (Bm 33 At (fun g12 => ?_) (fun g12 => ?_)))))))))
      ·(try simp only [sd] at g12)
       exact A5 At At At At At (A5 At At At At At (A5 At At At At At (A5 At At At At At (A5 At At At At At (A5 At At At At At (A5 At At At At At (Au At At (A7 At At) (Az At (⟨At, At, AJ, pB Ap, ⟨At, At, At, At, At, At, trivial⟩⟩)))))))))
      ·(try simp only [sd] at g12)
       exact A3 At At At At (A1 CX At At) (A3 At At At At (A2 (i := 1) DQ At At At) (A3 At At At At (C8 By At) (A3 At At At At (A1 CX At At) (A3 At At At At (A2 (i := 0) DQ At At At) (A3 At At At At (C8 By At) (A3 At At At At (BA At At At) (Au At At (A7 At At) (Az At (⟨At, At, AJ, pB Ap, ⟨At, At, At, At, At, At, trivial⟩⟩)))))))))
    ·(try simp only [sd] at g9)
     refine A3 At At At At (A1 CX At At) (A3 At At At At (A2 (i := 1) FU At At At) (A3 At At At At (A1 CX At At) (A3 At At At At (A2 (i := 0) FU At At At) (A3 At At At At (MB At At) (Au At At (A7 At At) (Au At At (Aw At) (Bm 25 At (fun g13 => ?_) (fun g13 => ?_))))))))
     ·(try simp only [sd] at g13)
      refine A5 At At At At At (A5 At At At At At (A5 At At At At At (A5 At At At At At (A5 At At At At At (A5 At At At At At (Au At At (A7 At At) (Au At At (Aw At) (Bm 33 At (fun g14 => ?_) (fun g14 => ?_)))))))))
      ·(try simp only [sd] at g14)
       exact A5 At At At At At (A5 At At At At At (A5 At At At At At (A5 At At At At At (A5 At At At At At (A5 At At At At At (A5 At At At At At (Au At At (A7 At At) (Az At (⟨At, At, AJ, pB Ap, ⟨At, At, At, At, At, At, trivial⟩⟩)))))))))
      ·(try simp only [sd] at g14)
       exact A3 At At At At (A1 CX At At) (A3 At At At At (A2 (i := 1) DQ At At At) (A3 At At At At (C8 By At) (A3 At At At At (A1 CX At At) (A3 At At At At (A2 (i := 0) DQ At At At) (A3 At At At At (C8 By At) (A3 At At At At (BA At At At) (Au At At (A7 At At) (Az At (⟨At, At, AJ, pB Ap, ⟨At, At, At, At, At, At, trivial⟩⟩)))))))))
     ·(try simp only [sd] at g13)
      refine A3 At At At At (A1 CX At At) (A3 At At At At (A2 (i := 1) I7 At At At) (A3 At At At At (A1 CX At At) (A3 At At At At (A2 (i := 0) I7 At At At) (A3 At At At At (Bg At At (LL al bl hn2 hn3) At) (A3 At At At At (Cg At) (Au At At (A7 At At) (Au At At (Aw At) (Bm 33 At (fun g15 => ?_) (fun g15 => ?_)))))))))
      ·(try simp only [sd] at g15)
       exact A5 At At At At At (A5 At At At At At (A5 At At At At At (A5 At At At At At (A5 At At At At At (A5 At At At At At (A5 At At At At At (Au At At (A7 At At) (Az At (⟨At, At, AJ, pB Ap, ⟨At, At, At, At, At, At, trivial⟩⟩)))))))))
      ·(try simp only [sd] at g15)
       exact A3 At At At At (A1 CX At At) (A3 At At At At (A2 (i := 1) DQ At At At) (A3 At At At At (C8 By At) (A3 At At At At (A1 CX At At) (A3 At At At At (A2 (i := 0) DQ At At At) (A3 At At At At (C8 By At) (A3 At At At At (BA At At At) (Au At At (A7 At At) (Az At (⟨At, At, AJ, pB Ap, ⟨At, At, At, At, At, At, trivial⟩⟩)))))))))
  rintro _ rfl
  refine A9 At (fun c16 => ?_) (fun c16 => ?_)
  ·(try simp only [sd] at c16)
   refine Ax (Av (Au At At (Ay At) (Az At (BB ⟨At, _, [], Bu At, List.nil_sublist _, ?_⟩))))
   exact ⟨pB (DK (fun h => by simp at h; simp [h, C3] at *)).symm, rfl⟩
  ·(try simp only [sd] at c16)
   have h1 : ak = bk ∧ ai = bi ∧ an.toList = bn.toList ∧ al = bl ∧ aks.length = bks.length := by simp [Bo, F9] at c16; obtain ⟨⟨⟨⟨e1, e2⟩, e3⟩, e4⟩, e5⟩ := c16; exact ⟨e1, e2, e3, e4, by omega⟩
   refine BC (Ax (Ax (Av (Au At At (Ay At) (Az At (Ba (IK (aks.length) (fun i => agree aks bks i) (fun i => ⟨61, mk [(2, .ptr b2 0), (3, .ptr b3 0), (5, .p (I i))], [.box b3 ((Be (.mk bk bi bn bl bks)).map .p), .box b2 ((Be (.mk ak ai an al aks)).map .p)], []⟩) (0) Ar (Is _ _) ?_ ?_)))))))
   ·exact Hk ⟨At, At, At, trivial⟩ J
   intro i hi hC
   refine Ax (Ax (Av (Au At At (Aw At) (Au At At (A1 CX At At) (Au At At (A2 (i := 1) DQ At At At) (Au At At (C8 By At) (Au At At (BA At At At) (Az At (A9 At (fun c17 => ?_) (fun c17 => ?_))))))))))
   ·(try simp only [sd] at c17)
    have hi2 : i < aks.length := by simp [Bo] at c17; omega
    obtain ⟨x, hx⟩ := BP hi2
    obtain ⟨y, hy⟩ := BP (l := bks) (i := i) Ar
    refine BC (Ax (Ba (Ax (CQ (fun k => false) D0 (A4 At At (fun _ => A1 CX At At) trivial (BQ (j := 1) At At At (fun H i hi => A2 (i := i) DQ At hi At) AB trivial (A4 At At (fun _ => Aw At) trivial (A4 At At (fun _ => BL By At At Ar (CH hx) (Bj _)) trivial (A4 At At (fun _ => Bi BO At (Bj _)) trivial (A4 At At (fun _ => A1 CX At At) trivial (BQ (j := 0) At At At (fun H i hi => A2 (i := i) DQ At hi At) AB trivial ?_)))))))))))
    refine A4 At At (fun _ => Aw At) trivial (A4 At At (fun _ => BL By At At Ar (CH hy) (Bj _)) trivial (A4 At At (fun _ => Bi BO At (Bj _)) trivial (A4 At At (fun _ => Bg At At (ih x y (by have := DE hx; omega) (DY hn5 hx)) At) trivial (A4 At At (fun _ => Cg At) trivial (CK At An (A9 At (fun c18 => ?_) (fun c18 => ?_)))))))
    ·(try simp only [sd] at c18)
     refine Ax (Av (Au At At (Ay At) (Az At (BB ⟨At, _, [], Bu At, List.nil_sublist _, ?_⟩))))
     exact ⟨pB (DK (fun h => by simp at h; obtain ⟨_, _, _, _, rfl⟩ := h; rw [hx] at hy; injection hy with hy; subst hy; simp [C3] at *)).symm, rfl⟩
    ·(try simp only [sd] at c18)
     have hxy : x = y := F9.1 (by simpa using c18)
     subst hxy
     exact BC (Av (Au At At (Aw At) (Au At At (CS At At Ar Ar) (Au At At (Ay At) (Az At (⟨by omega, Ij hC hx hy, Hk ⟨rfl, rfl, rfl, trivial⟩ J⟩))))))
   ·(try simp only [sd] at c17)
    have hi2 : i = aks.length := by simp [Bo] at c17; omega
    refine CL (Ax (Av (Au At At (Ay At) (Az At (BB ⟨At, _, [], Bu At, List.nil_sublist _, ?_⟩)))))
    exact ⟨pB (C3 (by obtain ⟨e1, e2, e3, e4, e5⟩ := h1; rw [e1, e2, e4, Qs e3, Jt hC Ar Ar])).symm, rfl⟩
theorem _root_.Go.Ai {α : Prop} (h : α := by simp_all [arity]) : α := h
theorem ZV : ∀ (k : Int), G5 Tryz.prog 132 [.p (I k)] (.p (I (arity k))) := by
 intro k
 refine A8 Tryz.func132 At aH (n := 15) At At (Ax (Av (Au At At (Ay At) (Az At (Ax (Ax (Av (Au At At (Aw At) (Az At (Ba (Ax ?_)))))))))))
 refine Ax (Av (Au At At (BA At At At) (Au At At (Ay At) (Az At (A9 At (fun c1 => ?_) (fun c1 => ?_))))))
 ·(try simp only [sd] at c1)
  refine BC (A9 At (fun c2 => ?_) (fun c2 => ?_))
  ·(try simp only [sd] at c2)
   refine Ax (Av (Au At At (Ay At) (Az At (BB ⟨At, _, [], Bu At, List.nil_sublist _, ?_⟩))))
   exact ⟨pI Ai, At⟩
  ·(try simp only [sd] at c2)
   refine Ax (Ax (Av (Au At At (BA At At At) (Au At At (Ay At) (Az At (A9 At (fun c3 => ?_) (fun c3 => ?_)))))))
   ·(try simp only [sd] at c3)
    refine BC (A9 At (fun c4 => ?_) (fun c4 => ?_))
    ·(try simp only [sd] at c4)
     refine Ax (Av (Au At At (Ay At) (Az At (BB ⟨At, _, [], Bu At, List.nil_sublist _, ?_⟩))))
     exact ⟨pI Ai, At⟩
    ·(try simp only [sd] at c4)
     refine Ax (Ax (Av (Au At At (BA At At At) (Au At At (Ay At) (Az At (A9 At (fun c5 => ?_) (fun c5 => ?_)))))))
     ·(try simp only [sd] at c5)
      refine BC (A9 At (fun c6 => ?_) (fun c6 => ?_))
      ·(try simp only [sd] at c6)
       refine Ax (Av (Au At At (Ay At) (Az At (BB ⟨At, _, [], Bu At, List.nil_sublist _, ?_⟩))))
       exact ⟨pI Ai, At⟩
      ·(try simp only [sd] at c6)
       refine BC (Ax (Av (Au At At (Ay At) (Az At (BB ⟨At, _, [], Bu At, List.nil_sublist _, ?_⟩)))))
       exact ⟨pI Ai, At⟩
     ·(try simp only [sd] at c5)
      refine Av (Au At At (BA At At At) (Au At At (Ay At) (Az At (A9 At (fun c7 => ?_) (fun c7 => ?_)))))
      ·(try simp only [sd] at c7)
       refine Ax (Av (Au At At (Ay At) (Az At (BB ⟨At, _, [], Bu At, List.nil_sublist _, ?_⟩))))
       exact ⟨pI Ai, At⟩
      ·(try simp only [sd] at c7)
       refine BC (Ax (Av (Au At At (Ay At) (Az At (BB ⟨At, _, [], Bu At, List.nil_sublist _, ?_⟩)))))
       exact ⟨pI Ai, At⟩
   ·(try simp only [sd] at c3)
    refine Av (Au At At (BA At At At) (Au At At (Ay At) (Az At (A9 At (fun c8 => ?_) (fun c8 => ?_)))))
    ·(try simp only [sd] at c8)
     refine Ax (Av (Au At At (Ay At) (Az At (BB ⟨At, _, [], Bu At, List.nil_sublist _, ?_⟩))))
     exact ⟨pI Ai, At⟩
    ·(try simp only [sd] at c8)
     refine Ax (Ax (Av (Au At At (BA At At At) (Au At At (Ay At) (Az At (A9 At (fun c9 => ?_) (fun c9 => ?_)))))))
     ·(try simp only [sd] at c9)
      refine BC (A9 At (fun c10 => ?_) (fun c10 => ?_))
      ·(try simp only [sd] at c10)
       refine Ax (Av (Au At At (Ay At) (Az At (BB ⟨At, _, [], Bu At, List.nil_sublist _, ?_⟩))))
       exact ⟨pI Ai, At⟩
      ·(try simp only [sd] at c10)
       refine BC (Ax (Av (Au At At (Ay At) (Az At (BB ⟨At, _, [], Bu At, List.nil_sublist _, ?_⟩)))))
       exact ⟨pI Ai, At⟩
     ·(try simp only [sd] at c9)
      refine Av (Au At At (BA At At At) (Au At At (Ay At) (Az At (A9 At (fun c11 => ?_) (fun c11 => ?_)))))
      ·(try simp only [sd] at c11)
       refine Ax (Av (Au At At (Ay At) (Az At (BB ⟨At, _, [], Bu At, List.nil_sublist _, ?_⟩))))
       exact ⟨pI Ai, At⟩
      ·(try simp only [sd] at c11)
       refine BC (Ax (Av (Au At At (Ay At) (Az At (BB ⟨At, _, [], Bu At, List.nil_sublist _, ?_⟩)))))
       exact ⟨pI Ai, At⟩
 ·(try simp only [sd] at c1)
  refine Ax (Av (Au At At (BA At At At) (Au At At (Ay At) (Az At (A9 At (fun c12 => ?_) (fun c12 => ?_))))))
  ·(try simp only [sd] at c12)
   refine BC (A9 At (fun c13 => ?_) (fun c13 => ?_))
   ·(try simp only [sd] at c13)
    refine Ax (Av (Au At At (Ay At) (Az At (BB ⟨At, _, [], Bu At, List.nil_sublist _, ?_⟩))))
    exact ⟨pI Ai, At⟩
   ·(try simp only [sd] at c13)
    refine Ax (Ax (Av (Au At At (BA At At At) (Au At At (Ay At) (Az At (A9 At (fun c14 => ?_) (fun c14 => ?_)))))))
    ·(try simp only [sd] at c14)
     refine BC (A9 At (fun c15 => ?_) (fun c15 => ?_))
     ·(try simp only [sd] at c15)
      refine Ax (Av (Au At At (Ay At) (Az At (BB ⟨At, _, [], Bu At, List.nil_sublist _, ?_⟩))))
      exact ⟨pI Ai, At⟩
     ·(try simp only [sd] at c15)
      refine Ax (Ax (Av (Au At At (BA At At At) (Au At At (Ay At) (Az At (A9 At (fun c16 => ?_) (fun c16 => ?_)))))))
      ·(try simp only [sd] at c16)
       refine BC (A9 At (fun c17 => ?_) (fun c17 => ?_))
       ·(try simp only [sd] at c17)
        refine Ax (Av (Au At At (Ay At) (Az At (BB ⟨At, _, [], Bu At, List.nil_sublist _, ?_⟩))))
        exact ⟨pI Ai, At⟩
       ·(try simp only [sd] at c17)
        refine BC (Ax (Av (Au At At (Ay At) (Az At (BB ⟨At, _, [], Bu At, List.nil_sublist _, ?_⟩)))))
        exact ⟨pI Ai, At⟩
      ·(try simp only [sd] at c16)
       refine Av (Au At At (BA At At At) (Au At At (Ay At) (Az At (A9 At (fun c18 => ?_) (fun c18 => ?_)))))
       ·(try simp only [sd] at c18)
        refine Ax (Av (Au At At (Ay At) (Az At (BB ⟨At, _, [], Bu At, List.nil_sublist _, ?_⟩))))
        exact ⟨pI Ai, At⟩
       ·(try simp only [sd] at c18)
        refine BC (Ax (Av (Au At At (Ay At) (Az At (BB ⟨At, _, [], Bu At, List.nil_sublist _, ?_⟩)))))
        exact ⟨pI Ai, At⟩
    ·(try simp only [sd] at c14)
     refine Av (Au At At (BA At At At) (Au At At (Ay At) (Az At (A9 At (fun c19 => ?_) (fun c19 => ?_)))))
     ·(try simp only [sd] at c19)
      refine Ax (Av (Au At At (Ay At) (Az At (BB ⟨At, _, [], Bu At, List.nil_sublist _, ?_⟩))))
      exact ⟨pI Ai, At⟩
     ·(try simp only [sd] at c19)
      refine Ax (Ax (Av (Au At At (BA At At At) (Au At At (Ay At) (Az At (A9 At (fun c20 => ?_) (fun c20 => ?_)))))))
      ·(try simp only [sd] at c20)
       refine BC (A9 At (fun c21 => ?_) (fun c21 => ?_))
       ·(try simp only [sd] at c21)
        refine Ax (Av (Au At At (Ay At) (Az At (BB ⟨At, _, [], Bu At, List.nil_sublist _, ?_⟩))))
        exact ⟨pI Ai, At⟩
       ·(try simp only [sd] at c21)
        refine BC (Ax (Av (Au At At (Ay At) (Az At (BB ⟨At, _, [], Bu At, List.nil_sublist _, ?_⟩)))))
        exact ⟨pI Ai, At⟩
      ·(try simp only [sd] at c20)
       refine Av (Au At At (BA At At At) (Au At At (Ay At) (Az At (A9 At (fun c22 => ?_) (fun c22 => ?_)))))
       ·(try simp only [sd] at c22)
        refine Ax (Av (Au At At (Ay At) (Az At (BB ⟨At, _, [], Bu At, List.nil_sublist _, ?_⟩))))
        exact ⟨pI Ai, At⟩
       ·(try simp only [sd] at c22)
        refine BC (Ax (Av (Au At At (Ay At) (Az At (BB ⟨At, _, [], Bu At, List.nil_sublist _, ?_⟩)))))
        exact ⟨pI Ai, At⟩
  ·(try simp only [sd] at c12)
   refine Ax (Av (Au At At (BA At At At) (Au At At (Ay At) (Az At (A9 At (fun c23 => ?_) (fun c23 => ?_))))))
   ·(try simp only [sd] at c23)
    refine BC (A9 At (fun c24 => ?_) (fun c24 => ?_))
    ·(try simp only [sd] at c24)
     refine Ax (Av (Au At At (Ay At) (Az At (BB ⟨At, _, [], Bu At, List.nil_sublist _, ?_⟩))))
     exact ⟨pI Ai, At⟩
    ·(try simp only [sd] at c24)
     refine Ax (Ax (Av (Au At At (BA At At At) (Au At At (Ay At) (Az At (A9 At (fun c25 => ?_) (fun c25 => ?_)))))))
     ·(try simp only [sd] at c25)
      refine BC (A9 At (fun c26 => ?_) (fun c26 => ?_))
      ·(try simp only [sd] at c26)
       refine Ax (Av (Au At At (Ay At) (Az At (BB ⟨At, _, [], Bu At, List.nil_sublist _, ?_⟩))))
       exact ⟨pI Ai, At⟩
      ·(try simp only [sd] at c26)
       refine Ax (Ax (Av (Au At At (BA At At At) (Au At At (Ay At) (Az At (A9 At (fun c27 => ?_) (fun c27 => ?_)))))))
       ·(try simp only [sd] at c27)
        refine BC (A9 At (fun c28 => ?_) (fun c28 => ?_))
        ·(try simp only [sd] at c28)
         refine Ax (Av (Au At At (Ay At) (Az At (BB ⟨At, _, [], Bu At, List.nil_sublist _, ?_⟩))))
         exact ⟨pI Ai, At⟩
        ·(try simp only [sd] at c28)
         refine BC (Ax (Av (Au At At (Ay At) (Az At (BB ⟨At, _, [], Bu At, List.nil_sublist _, ?_⟩)))))
         exact ⟨pI Ai, At⟩
       ·(try simp only [sd] at c27)
        refine Av (Au At At (BA At At At) (Au At At (Ay At) (Az At (A9 At (fun c29 => ?_) (fun c29 => ?_)))))
        ·(try simp only [sd] at c29)
         refine Ax (Av (Au At At (Ay At) (Az At (BB ⟨At, _, [], Bu At, List.nil_sublist _, ?_⟩))))
         exact ⟨pI Ai, At⟩
        ·(try simp only [sd] at c29)
         refine BC (Ax (Av (Au At At (Ay At) (Az At (BB ⟨At, _, [], Bu At, List.nil_sublist _, ?_⟩)))))
         exact ⟨pI Ai, At⟩
     ·(try simp only [sd] at c25)
      refine Av (Au At At (BA At At At) (Au At At (Ay At) (Az At (A9 At (fun c30 => ?_) (fun c30 => ?_)))))
      ·(try simp only [sd] at c30)
       refine Ax (Av (Au At At (Ay At) (Az At (BB ⟨At, _, [], Bu At, List.nil_sublist _, ?_⟩))))
       exact ⟨pI Ai, At⟩
      ·(try simp only [sd] at c30)
       refine Ax (Ax (Av (Au At At (BA At At At) (Au At At (Ay At) (Az At (A9 At (fun c31 => ?_) (fun c31 => ?_)))))))
       ·(try simp only [sd] at c31)
        refine BC (A9 At (fun c32 => ?_) (fun c32 => ?_))
        ·(try simp only [sd] at c32)
         refine Ax (Av (Au At At (Ay At) (Az At (BB ⟨At, _, [], Bu At, List.nil_sublist _, ?_⟩))))
         exact ⟨pI Ai, At⟩
        ·(try simp only [sd] at c32)
         refine BC (Ax (Av (Au At At (Ay At) (Az At (BB ⟨At, _, [], Bu At, List.nil_sublist _, ?_⟩)))))
         exact ⟨pI Ai, At⟩
       ·(try simp only [sd] at c31)
        refine Av (Au At At (BA At At At) (Au At At (Ay At) (Az At (A9 At (fun c33 => ?_) (fun c33 => ?_)))))
        ·(try simp only [sd] at c33)
         refine Ax (Av (Au At At (Ay At) (Az At (BB ⟨At, _, [], Bu At, List.nil_sublist _, ?_⟩))))
         exact ⟨pI Ai, At⟩
        ·(try simp only [sd] at c33)
         refine BC (Ax (Av (Au At At (Ay At) (Az At (BB ⟨At, _, [], Bu At, List.nil_sublist _, ?_⟩)))))
         exact ⟨pI Ai, At⟩
   ·(try simp only [sd] at c23)
    refine Av (Au At At (BA At At At) (Au At At (Ay At) (Az At (A9 At (fun c34 => ?_) (fun c34 => ?_)))))
    ·(try simp only [sd] at c34)
     refine Ax (Av (Au At At (Ay At) (Az At (BB ⟨At, _, [], Bu At, List.nil_sublist _, ?_⟩))))
     exact ⟨pI Ai, At⟩
    ·(try simp only [sd] at c34)
     refine Ax (Ax (Av (Au At At (BA At At At) (Au At At (Ay At) (Az At (A9 At (fun c35 => ?_) (fun c35 => ?_)))))))
     ·(try simp only [sd] at c35)
      refine BC (A9 At (fun c36 => ?_) (fun c36 => ?_))
      ·(try simp only [sd] at c36)
       refine Ax (Av (Au At At (Ay At) (Az At (BB ⟨At, _, [], Bu At, List.nil_sublist _, ?_⟩))))
       exact ⟨pI Ai, At⟩
      ·(try simp only [sd] at c36)
       refine Ax (Ax (Av (Au At At (BA At At At) (Au At At (Ay At) (Az At (A9 At (fun c37 => ?_) (fun c37 => ?_)))))))
       ·(try simp only [sd] at c37)
        refine BC (A9 At (fun c38 => ?_) (fun c38 => ?_))
        ·(try simp only [sd] at c38)
         refine Ax (Av (Au At At (Ay At) (Az At (BB ⟨At, _, [], Bu At, List.nil_sublist _, ?_⟩))))
         exact ⟨pI Ai, At⟩
        ·(try simp only [sd] at c38)
         refine BC (Ax (Av (Au At At (Ay At) (Az At (BB ⟨At, _, [], Bu At, List.nil_sublist _, ?_⟩)))))
         exact ⟨pI Ai, At⟩
       ·(try simp only [sd] at c37)
        refine Av (Au At At (BA At At At) (Au At At (Ay At) (Az At (A9 At (fun c39 => ?_) (fun c39 => ?_)))))
        ·(try simp only [sd] at c39)
         refine Ax (Av (Au At At (Ay At) (Az At (BB ⟨At, _, [], Bu At, List.nil_sublist _, ?_⟩))))
         exact ⟨pI Ai, At⟩
        ·(try simp only [sd] at c39)
         refine BC (Ax (Av (Au At At (Ay At) (Az At (BB ⟨At, _, [], Bu At, List.nil_sublist _, ?_⟩)))))
         exact ⟨pI Ai, At⟩
     ·(try simp only [sd] at c35)
      refine Av (Au At At (BA At At At) (Au At At (Ay At) (Az At (A9 At (fun c40 => ?_) (fun c40 => ?_)))))
      ·(try simp only [sd] at c40)
       refine Ax (Av (Au At At (Ay At) (Az At (BB ⟨At, _, [], Bu At, List.nil_sublist _, ?_⟩))))
       exact ⟨pI Ai, At⟩
      ·(try simp only [sd] at c40)
       refine Ax (Ax (Av (Au At At (BA At At At) (Au At At (Ay At) (Az At (A9 At (fun c41 => ?_) (fun c41 => ?_)))))))
       ·(try simp only [sd] at c41)
        refine BC (A9 At (fun c42 => ?_) (fun c42 => ?_))
        ·(try simp only [sd] at c42)
         refine Ax (Av (Au At At (Ay At) (Az At (BB ⟨At, _, [], Bu At, List.nil_sublist _, ?_⟩))))
         exact ⟨pI Ai, At⟩
        ·(try simp only [sd] at c42)
         refine BC (Ax (Av (Au At At (Ay At) (Az At (BB ⟨At, _, [], Bu At, List.nil_sublist _, ?_⟩)))))
         exact ⟨pI Ai, At⟩
       ·(try simp only [sd] at c41)
        refine Av (Au At At (BA At At At) (Au At At (Ay At) (Az At (A9 At (fun c43 => ?_) (fun c43 => ?_)))))
        ·(try simp only [sd] at c43)
         refine Ax (Av (Au At At (Ay At) (Az At (BB ⟨At, _, [], Bu At, List.nil_sublist _, ?_⟩))))
         exact ⟨pI Ai, At⟩
        ·(try simp only [sd] at c43)
         refine BC (Ax (Av (Au At At (Ay At) (Az At (BB ⟨At, _, [], Bu At, List.nil_sublist _, ?_⟩)))))
         exact ⟨pI Ai, At⟩
theorem S4 : ∀ (k i : Int), G5 Tryz.prog 100 [.p (I k), .p (I i)] (.p (I (below k i))) := by
 intro k i
 refine A8 Tryz.func100 At bg (n := 27) At At (Ax (Av (Au At At (Ay At) (Az At (Ax (Ax (CA [0, 1, 4] 26 (fun y => y = .p (.bool ((i == 1 && (k == 5 || k == 6 || k == 7)) || (i == 2 && k == 11)))) ?_ ?_)))))))
 ·refine Av (Au At At (Aw At) (Au At At (BA At At At) (Au At At (Aw At) (Bm 7 At (fun g1 => ?_) (fun g1 => ?_)))))
  ·(try simp only [sd] at g1)
   refine A3 At At At At (Aw At) (A3 At At At At (BA At At At) (A3 At At At At (Aw At) (Bm 10 At (fun g2 => ?_) (fun g2 => ?_))))
   ·(try simp only [sd] at g2)
    refine A5 At At At At At (A5 At At At At At (A3 At At At At (A7 At At) (A3 At At At At (Aw At) (Bm 14 At (fun g3 => ?_) (fun g3 => ?_)))))
    ·(try simp only [sd] at g3)
     refine A5 At At At At At (A5 At At At At At (A3 At At At At (A7 At At) (Au At At (A7 At At) (Au At At (Aw At) (Bm 19 At (fun g4 => ?_) (fun g4 => ?_))))))
     ·(try simp only [sd] at g4)
      exact A5 At At At At At (A5 At At At At At (A5 At At At At At (Cc At At At At (Cc At At At At (A5 At At At At At (Au At At (A7 At At) (Az At (⟨At, At, AJ, pB Ap, ⟨At, At, At, trivial⟩⟩))))))))
     ·(try simp only [sd] at g4)
      refine A3 At At At At (Aw At) (A3 At At At At (BA At At At) (A3 At At At At (Aw At) (Bm 22 At (fun g5 => ?_) (fun g5 => ?_))))
      ·(try simp only [sd] at g5)
       exact A3 At At At At (Aw At) (A3 At At At At (BA At At At) (A3 At At At At (A7 At At) (Au At At (A7 At At) (Az At (⟨At, At, AJ, pB Ap, ⟨At, At, At, trivial⟩⟩)))))
      ·(try simp only [sd] at g5)
       exact A5 At At At At At (A5 At At At At At (A3 At At At At (A7 At At) (Au At At (A7 At At) (Az At (⟨At, At, AJ, pB Ap, ⟨At, At, At, trivial⟩⟩)))))
    ·(try simp only [sd] at g3)
     refine A3 At At At At (Aw At) (A3 At At At At (BA At At At) (A3 At At At At (A7 At At) (Au At At (A7 At At) (Au At At (Aw At) (Bm 19 At (fun g6 => ?_) (fun g6 => ?_))))))
     ·(try simp only [sd] at g6)
      exact A5 At At At At At (A5 At At At At At (A5 At At At At At (Cc At At At At (Cc At At At At (A5 At At At At At (Au At At (A7 At At) (Az At (⟨At, At, AJ, pB Ap, ⟨At, At, At, trivial⟩⟩))))))))
     ·(try simp only [sd] at g6)
      refine A3 At At At At (Aw At) (A3 At At At At (BA At At At) (A3 At At At At (Aw At) (Bm 22 At (fun g7 => ?_) (fun g7 => ?_))))
      ·(try simp only [sd] at g7)
       exact A3 At At At At (Aw At) (A3 At At At At (BA At At At) (A3 At At At At (A7 At At) (Au At At (A7 At At) (Az At (⟨At, At, AJ, pB Ap, ⟨At, At, At, trivial⟩⟩)))))
      ·(try simp only [sd] at g7)
       exact A5 At At At At At (A5 At At At At At (A3 At At At At (A7 At At) (Au At At (A7 At At) (Az At (⟨At, At, AJ, pB Ap, ⟨At, At, At, trivial⟩⟩)))))
   ·(try simp only [sd] at g2)
    refine A3 At At At At (Aw At) (A3 At At At At (BA At At At) (A3 At At At At (A7 At At) (A3 At At At At (Aw At) (Bm 14 At (fun g8 => ?_) (fun g8 => ?_)))))
    ·(try simp only [sd] at g8)
     refine A5 At At At At At (A5 At At At At At (A3 At At At At (A7 At At) (Au At At (A7 At At) (Au At At (Aw At) (Bm 19 At (fun g9 => ?_) (fun g9 => ?_))))))
     ·(try simp only [sd] at g9)
      exact A5 At At At At At (A5 At At At At At (A5 At At At At At (Cc At At At At (Cc At At At At (A5 At At At At At (Au At At (A7 At At) (Az At (⟨At, At, AJ, pB Ap, ⟨At, At, At, trivial⟩⟩))))))))
     ·(try simp only [sd] at g9)
      refine A3 At At At At (Aw At) (A3 At At At At (BA At At At) (A3 At At At At (Aw At) (Bm 22 At (fun g10 => ?_) (fun g10 => ?_))))
      ·(try simp only [sd] at g10)
       exact A3 At At At At (Aw At) (A3 At At At At (BA At At At) (A3 At At At At (A7 At At) (Au At At (A7 At At) (Az At (⟨At, At, AJ, pB Ap, ⟨At, At, At, trivial⟩⟩)))))
      ·(try simp only [sd] at g10)
       exact A5 At At At At At (A5 At At At At At (A3 At At At At (A7 At At) (Au At At (A7 At At) (Az At (⟨At, At, AJ, pB Ap, ⟨At, At, At, trivial⟩⟩)))))
    ·(try simp only [sd] at g8)
     refine A3 At At At At (Aw At) (A3 At At At At (BA At At At) (A3 At At At At (A7 At At) (Au At At (A7 At At) (Au At At (Aw At) (Bm 19 At (fun g11 => ?_) (fun g11 => ?_))))))
     ·(try simp only [sd] at g11)
      exact A5 At At At At At (A5 At At At At At (A5 At At At At At (Cc At At At At (Cc At At At At (A5 At At At At At (Au At At (A7 At At) (Az At (⟨At, At, AJ, pB Ap, ⟨At, At, At, trivial⟩⟩))))))))
     ·(try simp only [sd] at g11)
      refine A3 At At At At (Aw At) (A3 At At At At (BA At At At) (A3 At At At At (Aw At) (Bm 22 At (fun g12 => ?_) (fun g12 => ?_))))
      ·(try simp only [sd] at g12)
       exact A3 At At At At (Aw At) (A3 At At At At (BA At At At) (A3 At At At At (A7 At At) (Au At At (A7 At At) (Az At (⟨At, At, AJ, pB Ap, ⟨At, At, At, trivial⟩⟩)))))
      ·(try simp only [sd] at g12)
       exact A5 At At At At At (A5 At At At At At (A3 At At At At (A7 At At) (Au At At (A7 At At) (Az At (⟨At, At, AJ, pB Ap, ⟨At, At, At, trivial⟩⟩)))))
  ·(try simp only [sd] at g1)
   refine A5 At At At At At (A5 At At At At At (A5 At At At At At (Cc At At At At (Cc At At At At (A5 At At At At At (A5 At At At At At (Cc At At At At (Cc At At At At (A5 At At At At At (Au At At (A7 At At) (Au At At (Aw At) ?_)))))))))))
   refine Bm 19 At (fun g13 => ?_) (fun g13 => ?_)
   ·(try simp only [sd] at g13)
    exact A5 At At At At At (A5 At At At At At (A5 At At At At At (Cc At At At At (Cc At At At At (A5 At At At At At (Au At At (A7 At At) (Az At (⟨At, At, AJ, pB Ap, ⟨At, At, At, trivial⟩⟩))))))))
   ·(try simp only [sd] at g13)
    refine A3 At At At At (Aw At) (A3 At At At At (BA At At At) (A3 At At At At (Aw At) (Bm 22 At (fun g14 => ?_) (fun g14 => ?_))))
    ·(try simp only [sd] at g14)
     exact A3 At At At At (Aw At) (A3 At At At At (BA At At At) (A3 At At At At (A7 At At) (Au At At (A7 At At) (Az At (⟨At, At, AJ, pB Ap, ⟨At, At, At, trivial⟩⟩)))))
    ·(try simp only [sd] at g14)
     exact A5 At At At At At (A5 At At At At At (A3 At At At At (A7 At At) (Au At At (A7 At At) (Az At (⟨At, At, AJ, pB Ap, ⟨At, At, At, trivial⟩⟩)))))
 rintro _ rfl
 refine A9 At (fun c15 => ?_) (fun c15 => ?_)
 ·(try simp only [sd] at c15)
  refine Ax (Av (Au At At (Ay At) (Az At (BB ⟨At, _, [], Bu At, List.nil_sublist _, ?_⟩))))
  exact ⟨pI (by simp only [below, *]; rfl), At⟩
 ·(try simp only [sd] at c15)
  refine BC (Ax (Av (Au At At (Ay At) (Az At (BB ⟨At, _, [], Bu At, List.nil_sublist _, ?_⟩)))))
  exact ⟨pI (by simp only [below, *]; rfl), At⟩
theorem Wy : ∀ (l : FC), W8 l → G9 Tryz.prog 134 [LV l] M9 := by
 intro l hn
 obtain ⟨lc, lv⟩ := l
 have hb := hn.vars
 simp only [EC] at hb
 refine A8 Tryz.func134 At bu (n := 67) At At (Ax (Av (BM At At (Bh At) fun b1 => Au At At (Ay At) (Az At (Ax (Ax (CA [0, 1, 2, 3, 4] 12 M9 ?_ ?_)))))))
 ·refine Av (Au At At (A1 D8 At At) (Au At At (A2 (i := 0) De At At At) (Au At At (BA At At At) (Au At At (Aw At) (Bm 8 At (fun g1 => ?_) (fun g1 => ?_))))))
  ·(try simp only [sd] at g1)
   exact A5 At At At At At (A5 At At At At At (A5 At At At At At (Au At At (A7 At At) (Az At (⟨At, At, AJ, ⟨_, At⟩, ⟨At, At, At, At, At, trivial⟩⟩)))))
  ·(try simp only [sd] at g1)
   exact A3 At At At At (A1 D8 At At) (A3 At At At At (A2 (i := 0) De At At At) (A3 At At At At (BA At At At) (Au At At (A7 At At) (Az At (⟨At, At, AJ, ⟨_, At⟩, ⟨At, At, At, At, At, trivial⟩⟩)))))
 rintro _ ⟨q1, rfl⟩
 refine A9 At (fun c2 => ?_) (fun c2 => ?_)
 ·(try simp only [sd] at c2)
  refine Ax (Av (Au At At (Ay At) (Az At (BB (⟨At, _, [], Bu At, List.nil_sublist _, ⟨⟨_, At⟩, At⟩⟩)))))
 ·(try simp only [sd] at c2)
  refine BC (Ax (Ax (Av (Au At At (Ay At) (Az At (Ba (IK (lv.length) (fun _ => True) (fun i => ⟨67, mk [(1, .ptr b1 0), (3, .p (I i))], [.box b1 ((Dw ⟨lc, lv⟩).map .p)], []⟩) (0) Ar (trivial) ?_ ?_)))))))
  ·exact Hk ⟨At, At, trivial⟩ J
  intro i hi hC
  refine Ax (Ax (Av (Au At At (Aw At) (Au At At (A1 D8 At At) (Au At At (A2 (i := 0) HC At At At) (Au At At (C8 Fq At) (Au At At (BA At At At) (Az At (A9 At (fun c3 => ?_) (fun c3 => ?_))))))))))
  ·(try simp only [sd] at c3)
   have hi2 : i < lv.length := by simp at c3; omega
   obtain ⟨v, hv⟩ := BP hi2
   obtain ⟨w, hw⟩ := BP (l := lv) (i := i - 1) Ar
   refine BC (Ax (Ba (Ax (Av (Au At At (A1 D8 At At) (Au At At (A2 (i := 0) HC At At At) (Au At At (Aw At) (Au At At (BL Fq At At Ar (F3 hv) (At)) (Au At At (Bi PT At (At)) (BM At At (BK K7 At) fun b4 => Au At At (Bk (i := 0) PT At At At At At At) ?_))))))))))
   refine Az At (Ax (Ax (CA [0, 1, 2, 3, 4] 42 M9 ?_ ?_)))
   ·refine Av (Au At At (A1 FX At At) (Au At At (A2 (i := 0) De At At At) (Au At At (BA At At At) (Au At At (Aw At) (Bm 28 At (fun g4 => ?_) (fun g4 => ?_))))))
    ·(try simp only [sd] at g4)
     refine A5 At At At At At (A5 At At At At At (A5 At At At At At (Au At At (A7 At At) (Au At At (Aw At) (Bm 33 At (fun g5 => ?_) (fun g5 => ?_))))))
     ·(try simp only [sd] at g5)
      refine A5 At At At At At (A5 At At At At At (A5 At At At At At (Au At At (A7 At At) (Au At At (Aw At) (Bm 38 At (fun g6 => ?_) (fun g6 => ?_))))))
      ·(try simp only [sd] at g6)
       exact A5 At At At At At (A5 At At At At At (A5 At At At At At (Au At At (A7 At At) (Az At (⟨At, At, AJ, ⟨_, At⟩, ⟨At, At, At, At, At, trivial⟩⟩)))))
      ·(try simp only [sd] at g6)
       exact A3 At At At At (A1 FX At At) (A3 At At At At (A2 (i := 0) De At At At) (A3 At At At At (BA At At At) (Au At At (A7 At At) (Az At (⟨At, At, AJ, ⟨_, At⟩, ⟨At, At, At, At, At, trivial⟩⟩)))))
     ·(try simp only [sd] at g5)
      refine A3 At At At At (A1 FX At At) (A3 At At At At (A2 (i := 0) De At At At) (A3 At At At At (BA At At At) (Au At At (A7 At At) (Au At At (Aw At) (Bm 38 At (fun g7 => ?_) (fun g7 => ?_))))))
      ·(try simp only [sd] at g7)
       exact A5 At At At At At (A5 At At At At At (A5 At At At At At (Au At At (A7 At At) (Az At (⟨At, At, AJ, ⟨_, At⟩, ⟨At, At, At, At, At, trivial⟩⟩)))))
      ·(try simp only [sd] at g7)
       exact A3 At At At At (A1 FX At At) (A3 At At At At (A2 (i := 0) De At At At) (A3 At At At At (BA At At At) (Au At At (A7 At At) (Az At (⟨At, At, AJ, ⟨_, At⟩, ⟨At, At, At, At, At, trivial⟩⟩)))))
    ·(try simp only [sd] at g4)
     refine A3 At At At At (A1 FX At At) (A3 At At At At (A2 (i := 0) De At At At) (A3 At At At At (BA At At At) (Au At At (A7 At At) (Au At At (Aw At) (Bm 33 At (fun g8 => ?_) (fun g8 => ?_))))))
     ·(try simp only [sd] at g8)
      refine A5 At At At At At (A5 At At At At At (A5 At At At At At (Au At At (A7 At At) (Au At At (Aw At) (Bm 38 At (fun g9 => ?_) (fun g9 => ?_))))))
      ·(try simp only [sd] at g9)
       exact A5 At At At At At (A5 At At At At At (A5 At At At At At (Au At At (A7 At At) (Az At (⟨At, At, AJ, ⟨_, At⟩, ⟨At, At, At, At, At, trivial⟩⟩)))))
      ·(try simp only [sd] at g9)
       exact A3 At At At At (A1 FX At At) (A3 At At At At (A2 (i := 0) De At At At) (A3 At At At At (BA At At At) (Au At At (A7 At At) (Az At (⟨At, At, AJ, ⟨_, At⟩, ⟨At, At, At, At, At, trivial⟩⟩)))))
     ·(try simp only [sd] at g8)
      refine A3 At At At At (A1 FX At At) (A3 At At At At (A2 (i := 0) De At At At) (A3 At At At At (BA At At At) (Au At At (A7 At At) (Au At At (Aw At) (Bm 38 At (fun g10 => ?_) (fun g10 => ?_))))))
      ·(try simp only [sd] at g10)
       exact A5 At At At At At (A5 At At At At At (A5 At At At At At (Au At At (A7 At At) (Az At (⟨At, At, AJ, ⟨_, At⟩, ⟨At, At, At, At, At, trivial⟩⟩)))))
      ·(try simp only [sd] at g10)
       exact A3 At At At At (A1 FX At At) (A3 At At At At (A2 (i := 0) De At At At) (A3 At At At At (BA At At At) (Au At At (A7 At At) (Az At (⟨At, At, AJ, ⟨_, At⟩, ⟨At, At, At, At, At, trivial⟩⟩)))))
   rintro _ ⟨q7, rfl⟩
   refine A9 At (fun c11 => ?_) (fun c11 => ?_)
   ·(try simp only [sd] at c11)
    refine Ax (Av (Au At At (Ay At) (Az At (BB (⟨At, _, [], Bu At, List.nil_sublist _, ⟨⟨_, At⟩, At⟩⟩)))))
   ·(try simp only [sd] at c11)
    refine BC (Ax (Ax (CA [0, 1, 2, 3, 4] 56 M9 ?_ ?_)))
    ·refine CQ (fun k => false) D0 (A4 At At (fun _ => Aw At) trivial (A4 At At (fun _ => BA At At At) trivial (A4 At At (fun _ => Aw At) trivial (I0 45 At (fun g12 => ?_) (fun g12 => ?_)))))
     ·(try simp only [sd] at g12)
      refine CB At At At At (fun _ => A1 D8 At At) trivial (C5 (i := 1) At At At At At (fun H i hi => A2 (i := i) HC At hi At) AB trivial (CB At At At At (fun _ => Aw At) trivial (CB At At At At (fun _ => FA At At Ar Ar) trivial ?_)))
      refine CB At At At At (fun _ => BL Fq At At (by simp_all; omega) (by rw [show ((i : Int) - 1).toNat = i - 1 by omega]; exact F3 hw) (At)) trivial ?_
      exact CB At At At At (fun _ => DF FX At At) trivial (CB At At At At (fun _ => CI De At) trivial (CB At At At At (fun _ => A1 FX At At) trivial (C5 (i := 0) At At At At At (fun H i hi => A2 (i := i) De At hi At) AB trivial (CB At At At At (fun _ => BA At At At) trivial (A4 At At (fun _ => A7 At At) trivial (CK At An (⟨At, At, AJ, ⟨_, At⟩, ⟨At, At, At, At, At, trivial⟩⟩)))))))
     ·(try simp only [sd] at g12)
      refine CN At At At At At trivial (CN At At At At At trivial (CN At At At At At trivial (CN At At At At At trivial (CN At At At At At trivial (CN At At At At At trivial (CN At At At At At trivial (CN At At At At At trivial (CN At At At At At trivial (CN At At At At At trivial (A4 At At (fun _ => A7 At At) trivial (CK At An ?_)))))))))))
      exact ⟨At, At, AJ, ⟨_, At⟩, ⟨At, At, At, At, At, trivial⟩⟩
    rintro _ ⟨q9, rfl⟩
    refine A9 At (fun c13 => ?_) (fun c13 => ?_)
    ·(try simp only [sd] at c13)
     refine Ax (Av (Au At At (Ay At) (Az At (BB (⟨At, _, [], Bu At, List.nil_sublist _, ⟨⟨_, At⟩, At⟩⟩)))))
    ·(try simp only [sd] at c13)
     refine BC (Ax (CA [0, 1, 2, 3, 4] 66 M9 ?_ ?_))
     ·refine Av (Au At At (A1 D8 At At) (Au At At (A2 (i := 1) De At At At) (Au At At (BA At At At) (Au At At (Aw At) (Bm 60 At (fun g14 => ?_) (fun g14 => ?_))))))
      ·(try simp only [sd] at g14)
       exact A3 At At At At (A1 FX At At) (A3 At At At At (A2 (i := 0) De At At At) (A3 At At At At (A1 D8 At At) (A3 At At At At (A2 (i := 1) De At At At) (A3 At At At At (BA At At At) (Au At At (A7 At At) (Az At (⟨At, At, AJ, ⟨_, At⟩, ⟨At, At, At, At, At, trivial⟩⟩)))))))
      ·(try simp only [sd] at g14)
       exact A5 At At At At At (A5 At At At At At (A5 At At At At At (A5 At At At At At (A5 At At At At At (Au At At (A7 At At) (Az At (⟨At, At, AJ, ⟨_, At⟩, ⟨At, At, At, At, At, trivial⟩⟩)))))))
     rintro _ ⟨q11, rfl⟩
     refine A9 At (fun c15 => ?_) (fun c15 => ?_)
     ·(try simp only [sd] at c15)
      refine Ax (Av (Au At At (Ay At) (Az At (BB (⟨At, _, [], Bu At, List.nil_sublist _, ⟨⟨_, At⟩, At⟩⟩)))))
     ·(try simp only [sd] at c15)
      exact BC (Av (Au At At (Aw At) (Au At At (CS At At Ar Ar) (Au At At (Ay At) (Az At (⟨by omega, trivial, Hk ⟨rfl, rfl, trivial⟩ J⟩))))))
  ·(try simp only [sd] at c3)
   refine CL (Ax (Av (Au At At (Ay At) (Az At (BB (⟨At, _, [], Bu At, List.nil_sublist _, ⟨⟨_, At⟩, At⟩⟩))))))
theorem Xs : ∀ (l : FC) (a b : Int), W8 l → G9 Tryz.prog 99 [LV l, .p (I a), .p (I b)] aP := by
 intro l pa pb hn
 have hn0 := hn
 obtain ⟨lc, lv⟩ := l
 have hb := hn.vars
 simp only [EC] at hb
 refine A8 Tryz.func99 At fJ (n := 61) At At (Ax (Av (BM At At (Bh At) fun b3 => Au At At (Ay At) (Az At (Ax (Ax (Av (Au At At (A0 (i := 0) EM At At At) (Ff At At (Bb At At (Wy _ hn0) (.inl At)) ?_)))))))))
 rintro _ ⟨q, rfl⟩
 refine Au At At (Cg At) (Az At (A9 At (fun c1 => ?_) (fun c1 => ?_)))
 ·(try simp only [sd] at c1)
  refine Ax (Av (Au At At (Ay At) (Az At (BB (⟨At, _, [], Bu At, List.nil_sublist _, ⟨⟨_, At⟩, At⟩⟩)))))
 ·(try simp only [sd] at c1)
  refine BC (Ax (Ax (Av (Au At At (Ay At) (Az At (Ba (IK (lv.length) (fun _ => True) (fun i => ⟨61, mk [(1, .p (I pa)), (2, .p (I pb)), (3, .ptr b3 0), (7, .p (I i))], [.box b3 ((Dw ⟨lc, lv⟩).map .p)], []⟩) (0) Ar (trivial) ?_ ?_)))))))
  ·exact Hk ⟨At, At, At, At, trivial⟩ J
  intro i hi hC
  refine Ax (Ax (Av (Au At At (Aw At) (Au At At (A1 D8 At At) (Au At At (A2 (i := 0) HC At At At) (Au At At (C8 Fq At) (Au At At (BA At At At) (Az At (A9 At (fun c2 => ?_) (fun c2 => ?_))))))))))
  ·(try simp only [sd] at c2)
   have hi2 : i < lv.length := by simp at c2; omega
   obtain ⟨v, hv⟩ := BP hi2
   refine BC (Ax (Ba (Ax (CA [0, 1, 2, 3, 6, 7, 8] 35 M9 ?_ ?_))))
   ·refine Av (Au At At (A1 D8 At At) (Au At At (A2 (i := 0) HC At At At) (Au At At (Aw At) (Au At At (BL Fq At At Ar (F3 hv) (At)) (Au At At (DF FX At At) (Au At At (CI De At) (Au At At (BA At At At) (Au At At (Aw At) (Bm 26 At (fun g3 => ?_) (fun g3 => ?_))))))))))
    ·(try simp only [sd] at g3)
     exact A3 At At At At (A1 D8 At At) (A3 At At At At (A2 (i := 0) HC At At At) (A3 At At At At (Aw At) (A3 At At At At (BL Fq At At Ar (F3 hv) (At)) (A3 At At At At (DF FX At At) (A3 At At At At (CI De At) (A3 At At At At (Aw At) (A3 At At At At (BA At At At) (Au At At (A7 At At) (Az At (⟨At, At, AJ, ⟨_, At⟩, ⟨At, At, At, At, At, At, At, trivial⟩⟩))))))))))
    ·(try simp only [sd] at g3)
     exact A5 At At At At At (A5 At At At At At (A5 At At At At At (A5 At At At At At (A5 At At At At At (A5 At At At At At (A5 At At At At At (A5 At At At At At (Au At At (A7 At At) (Az At (⟨At, At, AJ, ⟨_, At⟩, ⟨At, At, At, At, At, At, At, trivial⟩⟩))))))))))
   rintro _ ⟨q6, rfl⟩
   refine A9 At (fun c4 => ?_) (fun c4 => ?_)
   ·(try simp only [sd] at c4)
    refine Ax (Av (Au At At (Ay At) (Az At (BB (⟨At, _, [], Bu At, List.nil_sublist _, ⟨⟨_, At⟩, At⟩⟩)))))
   ·(try simp only [sd] at c4)
    exact BC (Av (Au At At (Aw At) (Au At At (CS At At Ar Ar) (Au At At (Ay At) (Az At (⟨by omega, trivial, Hk ⟨rfl, rfl, rfl, rfl, trivial⟩ J⟩))))))
  ·(try simp only [sd] at c2)
   refine CL (Ax (Ax (Av (Au At At (Ay At) (Az At (Ba (IK (lv.length) (fun _ => True) (fun i => ⟨61, mk [(1, .p (I pa)), (2, .p (I pb)), (3, .ptr b3 0), (8, .p (I i))], [.box b3 ((Dw ⟨lc, lv⟩).map .p)], []⟩) (0) Ar (trivial) ?_ ?_)))))))
   ·exact Hk ⟨At, At, At, At, trivial⟩ J
   intro i hi hC
   refine Ax (Ax (Av (Au At At (Aw At) (Au At At (A1 D8 At At) (Au At At (A2 (i := 0) HC At At At) (Au At At (C8 Fq At) (Au At At (BA At At At) (Az At (A9 At (fun c5 => ?_) (fun c5 => ?_))))))))))
   ·(try simp only [sd] at c5)
    have hi2 : i < lv.length := by simp at c5; omega
    obtain ⟨v, hv⟩ := BP hi2
    refine BC (Ax (Ba (Ax (CA [0, 1, 2, 3, 6, 7, 8] 60 M9 ?_ ?_))))
    ·refine Av (Au At At (A1 D8 At At) (Au At At (A2 (i := 0) HC At At At) (Au At At (Aw At) (Au At At (BL Fq At At Ar (F3 hv) (At)) (Au At At (DF FX At At) (Au At At (CI De At) (Au At At (BA At At At) (Au At At (Aw At) (Bm 50 At (fun g6 => ?_) (fun g6 => ?_))))))))))
     ·(try simp only [sd] at g6)
      exact A3 At At At At (A1 D8 At At) (A3 At At At At (A2 (i := 0) HC At At At) (A3 At At At At (Aw At) (A3 At At At At (BL Fq At At Ar (F3 hv) (At)) (A3 At At At At (DF FX At At) (A3 At At At At (CI De At) (A3 At At At At (NZ At At) (A3 At At At At (Aw At) (A3 At At At At (BA At At At) (Au At At (A7 At At) (Az At (⟨At, At, AJ, ⟨_, At⟩, ⟨At, At, At, At, At, At, At, trivial⟩⟩)))))))))))
     ·(try simp only [sd] at g6)
      exact A5 At At At At At (A5 At At At At At (A5 At At At At At (A5 At At At At At (A5 At At At At At (A5 At At At At At (A5 At At At At At (A5 At At At At At (A5 At At At At At (Au At At (A7 At At) (Az At (⟨At, At, AJ, ⟨_, At⟩, ⟨At, At, At, At, At, At, At, trivial⟩⟩)))))))))))
    rintro _ ⟨q11, rfl⟩
    refine A9 At (fun c7 => ?_) (fun c7 => ?_)
    ·(try simp only [sd] at c7)
     refine Ax (Av (Au At At (Ay At) (Az At (BB (⟨At, _, [], Bu At, List.nil_sublist _, ⟨⟨_, At⟩, At⟩⟩)))))
    ·(try simp only [sd] at c7)
     exact BC (Av (Au At At (Aw At) (Au At At (CS At At Ar Ar) (Au At At (Ay At) (Az At (⟨by omega, trivial, Hk ⟨rfl, rfl, rfl, rfl, trivial⟩ J⟩))))))
   ·(try simp only [sd] at c5)
    refine CL (Ax (Av (Au At At (Ay At) (Az At (BB (⟨At, _, [], Bu At, List.nil_sublist _, ⟨⟨_, At⟩, At⟩⟩))))))
theorem _root_.Go.Ac {α : Prop} (h : α := by first | rfl | simp [Bj]) : α := h
theorem _root_.Go.AZ {α : Prop} (h : α := by first | omega | (simp only; omega)) : α := h
theorem _root_.Go.AA {α : Prop} (h : α := by repeat' first | exact trivial | refine And.intro ?_ ?_ | ((refine Or.inr (And.intro ?_ ?_) <;> repeat (first | exact List.Mem.head _ | apply List.Mem.tail)); done) | exact Or.inl (by kernel_rfl)) : α := h
theorem _root_.Go.Ak {α : Prop} (h : α := by simp [Bj]) : α := h
theorem _root_.Go.AS {α : Prop} (h : α := by first | trivial | omega | simp | (simp; omega)) : α := h
theorem Ky : ∀ (f : Tm) (xs : List Tm), (xs.length < EC) → G5 Tryz.prog 60 [.agg ((Be f).map .p), .p (.lst (BR xs))] (.agg ((Be (apply f xs)).map .p)) := by
 intro f xs h1
 simp only [EC] at h1
 refine A8 Tryz.func60 At dN (n := 20) At At (Ax (Av (BM At At (Bh At) fun b2 => BM At At (BK B7 At) fun b4 => Az At (Ax (Ax (Av (Au At At (Ay At) (Az At (Ba ?_)))))))))
 refine CM (α := Nat) (fun i => ⟨20, mk [(1, .p (.lst (BR xs))), (2, .ptr b2 0), (4, .ptr b4 0), (5, .p (I (i : Int)))], [.box b4 [.p (I 0), .p (I 0), .p (.str ⟨#[]⟩), .p (.nils), .p (.nils)], .box b2 ((Be (apply f (xs.take i))).map .p)], []⟩) (fun i => xs.length - i) (fun i => i ≤ xs.length) 0 AS ?_ ?_
 ·exact B8 ⟨we At, we At, we At, we At, trivial⟩ (leH (is := [0, 1]) At (wl (oe At) (wl (oe At) (D4))))
 rintro i hC
 try simp only at hC
 have hi := hC
 refine Ax (Ax (Av (Au At At (Aw At) (Au At At (Aw At) (Au At At (Bp By At (Bo _)) (Au At At (BA At At At) (Az At (A9 At (fun c => ?_) (fun c => ?_)))))))))
 ·(try simp only [sd, se] at c)
  refine BC (Ax (Ba (CQ (fun k => false) D0 (BQ (j := 1) At At At (fun H i hi => A0 (i := i) BO At hi Ak) AA trivial (A4 At At (fun _ => Aw At) trivial (A4 At At (fun _ => Aw At) trivial ?_))))))
  obtain ⟨x, hx⟩ := BP (l := xs) (i := i) Ar
  refine A4 At At (fun _ => BL By At At Ar (CH hx) (Bj _)) trivial (A4 At At (fun _ => Bi BO At (Bj _)) trivial ?_)
  generalize hz : (apply f (xs.take i)) = z
  obtain ⟨zk, zi, zn, zl, zs⟩ := z
  obtain ⟨xk, xi, xn, xl, xs1⟩ := x
  refine A4 At At (fun _ => CO By B7 At At At At At) trivial (A4 At At (fun _ => Br CX B7 At) trivial (Cr At At (Bk (i := 1) BO At At At At At At) AA trivial (CK At An (Av (Au At At (Aw At) (Au At At (CS At At Ar Ar) (Au At At (Ay At) (Az At ?_))))))))
  refine ⟨(i + 1), AZ, by omega, B8 ⟨we rfl, we rfl, we rfl, we rfl, trivial⟩ (leH (is := [0, 1]) rfl (wl (oe rfl) (wl (on (by rw [OM hx, hz]; rfl)) (D4))))⟩
 ·(try simp only [sd, se] at c)
  refine CL (Ax (Av (Au At At (A0 (i := 1) BO At At Ak) (Au At At (A6 (i := 0) BO At At At Ak Ac (CF _)) (Az At (BB (⟨At, _, _, ⟨_, _, At, (Bn (i := 0) BO At At Ak), At⟩, (List.nil_sublist _), ?_⟩)))))))
  all_goals exact ⟨by show (.agg ((Be (apply f (xs.take i))).map .p) : AV) = _; rw [show i = xs.length by omega, List.take_length], rfl⟩
theorem _root_.Go.Ag {α : Prop} (h : α := by simp only [EC]; omega) : α := h
theorem _root_.Go.AI {α : Prop} (h : α := by first | rfl | (refine pB ?_; simp_all; done) | (refine pB ?_; simp_all <;> (intros; omega))) : α := h
theorem UE : ∀ (n : Nat) (t : Tm), (size t ≤ n) → (n < EC) → Bt Tryz.prog 49 [.agg ((Be t).map .p)] [] (Wi (fun v => .tup [.agg ((Be ((Bq t).1)).map .p), v]) 5 (BR ((Bq t).2))) := by
 intro n
 induction n with
 | zero => intro t h; cases t; simp [size] at h
 | succ n ih =>
  intro t h1 h2
  simp only [EC] at h2
  refine A8 Tryz.func49 At dU (n := 32) At At (Ax (Av (BM At At (Bh At) fun b1 => BM At At (BK B7 At) fun b2 => Au At At (Ay At) (Az At (Ax (Ax ?_))))))
  obtain ⟨tk, ti, tn, tl, ts⟩ := t
  simp only [size] at h1
  refine CA [1, 2] 14 (fun y => y = .p (.bool (((tk : Int) != (4 : Int)) || (((ts.length : Nat) : Int) != (2 : Int))))) ?_ ?_
  ·refine Av (Au At At (A1 CX At At) (Au At At (A2 (i := 1) De At At At) (Au At At (BA At At At) (Au At At (Aw At) (Bm 9 At (fun g => ?_) (fun g => ?_))))))
   ·(try simp only [sd, se] at g)
    exact A5 At At At At At (A5 At At At At At (A5 At At At At At (A5 At At At At At (Au At At (A7 At At) (Az At (⟨At, At, AJ, AI, ⟨At, At, trivial⟩⟩))))))
   ·(try simp only [sd, se] at g)
    exact A3 At At At At (A1 CX At At) (A3 At At At At (A2 (i := 1) DQ At At At) (A3 At At At At (Bp By At (Bo _)) (A3 At At At At (BA At At At) (Au At At (A7 At At) (Az At (⟨At, At, AJ, AI, ⟨At, At, trivial⟩⟩))))))
  rintro _ rfl
  refine A9 At (fun c => ?_) (fun c => ?_)
  ·(try simp only [sd, se] at c)
   refine Ax (Av (Au At At (A0 (i := 1) BO At At At) (Au At At (Bk (i := 0) BO At At At At At At) (Au At At (Ay At) (Az At (CG (GZ (t := 3) (sz := 5) At) (BB (⟨At, _, _, ⟨_, _, At, (Bn (i := 1) BO At At At), ⟨_, _, At, At, At⟩⟩, (Cj (is := [0]) At), ?_⟩))))))))
   rw [OQ c]
   all_goals exact ⟨_, _, rfl, rfl⟩
  ·(try simp only [sd, se] at c)
   refine BC (Ax (Av (Au At At (A1 CX At At) (Au At At (A2 (i := 1) DQ At At At) ?_))))
   obtain ⟨x, hx⟩ := BP (l := ts) (i := 0) Ar
   refine Au At At (BL By At At Ar (CH hx) (Bj _)) (Au At At (Bi BO At (Bj _)) (Uj At At At (.inl ⟨At, At, At⟩) (ih x (by have := DE hx; omega) Ag) (.inl At) fun o cp => Au At At (Aw At) (Au At At (BY At At) (Au At At (BY At At) (BM At At (BK B7 At) fun b4 => Au At At (A6 (i := 0) BO At At At Ak Ac (CF _)) (Au At At (Ay At) (Az At (Ax (CQ (fun k => Nat.beq k 7) D0 ?_)))))))))
   refine BQ (j := 0) At At At (fun H i hi => A0 (i := i) BO At hi Ak) AA trivial (A4 At At (fun _ => Aw At) trivial (A4 At At (fun _ => A1 CX At At) trivial (BQ (j := 3) At At At (fun H i hi => A2 (i := i) DQ At hi At) AA trivial ?_)))
   obtain ⟨x1, hx1⟩ := BP (l := ts) (i := 1) Ar
   refine A4 At At (fun _ => BL By At At Ar (CH hx1) (Bj _)) trivial (A4 At At (fun _ => Bi BO At (Bj _)) trivial ?_)
   obtain ⟨x1k, x1i, x1n, x1l, x1s⟩ := x1
   refine A4 At At (fun _ => CO By B7 At At At At At) trivial (JE [] At At (DX (i := 1) (rows' := BR [(.mk x1k x1i x1n x1l x1s : Tm)]) By By B7 At At At At At At (CC _) (by have := UF x; have := DE hx; simp [Bo]; omega) (Lg ((Bq x).2) [(.mk x1k x1i x1n x1l x1s : Tm)])) An fun o1 cp1 => ⟨AA, trivial, ?_⟩)
   refine Cr At At (A6 (i := 2) BO At At At Ak Ac (CF _)) AA trivial (A4 At At (fun _ => Ay At) trivial (CK At An (BB (⟨At, _, _, ⟨_, _, At, (Bn (i := 2) BO At At Ak), ⟨_, _, At, At, At⟩⟩, (Cj (is := [1]) At), ?_⟩))))
   rw [PX c hx hx1]
   all_goals exact ⟨_, _, rfl, rfl⟩
theorem M6 : ∀ (n : Nat) (t : Tm), size t ≤ n → n < EC → G5 Tryz.prog 49 [TV t] (.tup [TV (Bq t).1, cx (Bq t).2]) :=
 fun n t h1 h2 => SW (pre := [_]) (post := []) (UE n t h1 h2) (fun x _ => Qe x)
theorem Xy : ∀ (k : Int) (xs : List Tm) (t : Tm), (xs.length < EC) → G5 Tryz.prog 103 [.p (I k), .p (.lst (BR xs)), .agg ((Be t).map .p)] (.agg ((Be (HX k xs t)).map .p)) := by
 intro k xs t h1
 simp only [EC] at h1
 refine A8 Tryz.func103 At bU (n := 24) At At (Ax (Av (BM At At (Bh At) fun b5 => BM At At (BK B7 At) fun b6 => Az At (Ax (Ax (Av (Au At At (Aw At) (Au At At (Bp By At (Bo _)) (Au At At (FA At At Ar Ar) ?_)))))))))
 refine Au At At (Ay At) (Az At (Ba (CM (α := Nat) (fun m => ⟨24, mk [(0, .p (I k)), (1, .p (.lst (BR xs))), (5, .ptr b5 0), (6, .ptr b6 0), (7, .p (I ((m : Int) - 1)))], [.box b6 [.p (I 0), .p (I 0), .p (.str ⟨#[]⟩), .p (.nils), .p (.nils)], .box b5 ((Be (HX k (xs.drop m) t)).map .p)], []⟩) (fun m => m) (fun m => m ≤ xs.length) xs.length AS ?_ ?_)))
 ·exact B8 ⟨we At, we At, we At, we At, we At, trivial⟩ (leH (is := [0, 1]) At (wl (oe At) (wl (ob (by simp [HX])) (D4))))
 rintro m hC
 try simp only at hC
 refine Ax (Ax (Av (Au At At (Aw At) (Au At At (BA At At At) (Az At (A9 At (fun c => ?_) (fun c => ?_)))))))
 ·(try simp only [sd, se] at c)
  refine BC (Ax (Ba (CQ (fun k => false) D0 (A4 At At (fun _ => Aw At) trivial (A4 At At (fun _ => Aw At) trivial (A4 At At (fun _ => Aw At) trivial ?_))))))
  obtain ⟨x, hx⟩ := BP (l := xs) (i := ((m : Int) - 1 : Int).toNat) Ar
  refine A4 At At (fun _ => BL By At At Ar (CH hx) (Bj _)) trivial (A4 At At (fun _ => Bi BO At (Bj _)) trivial (BQ (j := 1) At At At (fun H i hi => A0 (i := i) BO At hi Ak) AA trivial ?_))
  obtain ⟨xk, xi, xn, xl, xs1⟩ := x
  generalize hz : HX k (xs.drop m) t = z
  obtain ⟨zk, zi, zn, zl, zs⟩ := z
  refine A4 At At (fun _ => CO By B7 At At At At At) trivial (A4 At At (fun _ => Br CX B7 At) trivial (Cr At At (Bk (i := 1) BO At At At At At At) AA trivial (CK At An (Av (Au At At (Aw At) (Au At At (FA At At Ar Ar) (Au At At (Ay At) (Az At ?_))))))))
  refine ⟨(m - 1), AZ, by first | trivial | omega | (simp only; omega) | (simp; omega), B8 ⟨we rfl, we rfl, we rfl, we rfl, we (pI Ar), trivial⟩ (leH (is := [0, 1]) rfl (wl (oe rfl) (wl (on (by rw [Q6 hx Ar, hz]; rfl)) (D4))))⟩
 ·(try simp only [sd, se] at c)
  refine CL (Ax (Av (Au At At (A0 (i := 1) BO At At Ak) (Au At At (A6 (i := 0) BO At At At Ak Ac (CF _)) (Az At (BB (⟨At, _, _, ⟨_, _, At, (Bn (i := 0) BO At At Ak), At⟩, (List.nil_sublist _), ?_⟩)))))))
  all_goals exact ⟨by show (.agg ((Be (HX k (xs.drop m) t)).map .p) : AV) = _; rw [show m = 0 by omega]; rfl, rfl⟩
theorem Zg : ∀ (xs : List Tm) (t : Tm), (xs.length < EC) → G5 Tryz.prog 63 [.p (.lst (BR xs)), .agg ((Be t).map .p)] (.agg ((Be (HX 6 xs t)).map .p)) := by
 intro xs t h1
 refine A8 Tryz.func63 At fC (n := 8) At At (Ax (Av (BM At At (Bh At) fun b3 => BM At At (BK B7 At) fun b4 => Az At (Ax (Av (Au At At (Aw At) (Au At At (A0 (i := 1) BO At At Ak) (Au At At (Bg At At (Xy 6 xs t (by first | assumption | omega)) At) (Au At At (A6 (i := 0) BO At At At Ak Ac (CF _)) ?_)))))))))
 refine Az At (BB (⟨At, _, _, ⟨_, _, At, (Bn (i := 0) BO At At Ak), At⟩, (List.nil_sublist _), ?_⟩))
 all_goals exact ⟨rfl, rfl⟩
theorem X2 : ∀ (n : Nat) (t : Tm), (size t ≤ n) → (Nd t) → G5 Tryz.prog 18 [.agg ((Be t).map .p)] (.p (I (Je t))) := by
 intro n
 induction n with
 | zero => intro t h; cases t; simp [size] at h
 | succ n ih =>
  intro t h1 h2
  obtain ⟨tk, ti, tn, tl, ts⟩ := t
  simp only [size] at h1
  simp only [Nd, EC] at h2
  refine A8 Tryz.func18 At eT (n := 21) At At (Ax (Av (BM At At (Bh At) fun b1 => Au At At (Ay At) (Az At (Ax (Av (Au At At (Ay At) (Az At (Ax (Ax ?_))))))))))
  refine Av (Au At At (Ay At) (Az At (Ba (CM (α := Nat × Int) (fun (i, m) => ⟨21, mk [(1, .ptr b1 0), (3, .p (I m)), (4, .p (I (i : Int)))], [.box b1 [.p (I tk), .p (I ti), .p (.str tn), .p (.lst (List.map Dw tl)), .p (.lst (BR ts))]], []⟩) (fun (i, m) => ts.length - i) (fun (i, m) => i ≤ ts.length ∧ (Nu m (ts.drop i) = Nu 1 ts)) ⟨0, 1⟩ As ?_ ?_))))
  ·exact B8 ⟨we At, we At, we At, trivial⟩ (leH (is := [0]) At (wl (oe At) (D4)))
  rintro ⟨i, m⟩ hC
  try simp only at hC
  obtain ⟨hi, hC⟩ := hC
  refine Ax (Ax (Av (Au At At (Aw At) (Au At At (A1 CX At At) (Au At At (A2 (i := 0) DQ At At At) (Au At At (Bp By At (Bo _)) (Au At At (BA At At At) (Az At (A9 At (fun c => ?_) (fun c => ?_))))))))))
  ·(try simp only [sd, se] at c)
   refine BC (Ax (Ba (Av (Au At At (Aw At) (Au At At (A1 CX At At) (Au At At (A2 (i := 0) DQ At At At) (Au At At (Aw At) ?_)))))))
   obtain ⟨x, hx⟩ := BP (l := ts) (i := i) Ar
   refine Au At At (BL By At At Ar (CH hx) (Bj _)) (Au At At (Bi BO At (Bj _)) (Au At At (Bg At At (ih x (by have := DE hx; omega) (DY h2.2.2.2.2.1 hx)) At) (Au At At (D7 At At) (Au At At (Ay At) (Az At (Av (Au At At (Aw At) (Au At At (CS At At Ar Ar) (Au At At (Ay At) (Az At ?_))))))))))
   refine ⟨⟨i + 1, wr (m + Je x)⟩, AZ, ⟨by omega, by rw [← hC, Dd hx]; rfl⟩, B8 ⟨we rfl, we rfl, we rfl, trivial⟩ (leH (is := [0]) rfl (wl (oe rfl) (D4)))⟩
  ·(try simp only [sd, se] at c)
   refine CL (Ax (Av (Au At At (Aw At) (Au At At (Ay At) (Az At (BB (⟨At, _, _, ⟨_, _, At, At, At⟩, (List.nil_sublist _), ?_⟩)))))))
   all_goals exact ⟨pI (by rw [show Je (.mk tk ti tn tl ts) = Nu 1 ts from rfl, ← hC, show i = ts.length by omega, List.drop_length]; rfl), rfl⟩
theorem WW : ∀ (n : Nat) (t : Tm), (size t ≤ n) → (Nd t) → G5 Tryz.prog 53 [.agg ((Be t).map .p)] (.p (I (Hn t))) := by
 intro n
 induction n with
 | zero => intro t h; cases t; simp [size] at h
 | succ n ih =>
  intro t h1 h2
  obtain ⟨tk, ti, tn, tl, ts⟩ := t
  simp only [size] at h1
  simp only [Nd, EC] at h2
  refine A8 Tryz.func53 At fP (n := 22) At At (Ax (Av (BM At At (Bh At) fun b1 => Au At At (Ay At) (Az At (Ax (Av (Au At At (Ay At) (Az At (Ax (Ax ?_))))))))))
  refine Av (Au At At (Ay At) (Az At (Ba (CM (α := Nat × Int) (fun (i, m) => ⟨22, mk [(1, .ptr b1 0), (3, .p (I m)), (4, .p (I (i : Int)))], [.box b1 [.p (I tk), .p (I ti), .p (.str tn), .p (.lst (List.map Dw tl)), .p (.lst (BR ts))]], []⟩) (fun (i, m) => ts.length - i) (fun (i, m) => i ≤ ts.length ∧ (Lh m (ts.drop i) = Lh 0 ts)) ⟨0, 0⟩ As ?_ ?_))))
  ·exact B8 ⟨we At, we At, we At, trivial⟩ (leH (is := [0]) At (wl (oe At) (D4)))
  rintro ⟨i, m⟩ hC
  try simp only at hC
  obtain ⟨hi, hC⟩ := hC
  refine Ax (Ax (Av (Au At At (Aw At) (Au At At (A1 CX At At) (Au At At (A2 (i := 0) DQ At At At) (Au At At (Bp By At (Bo _)) (Au At At (BA At At At) (Az At (A9 At (fun c => ?_) (fun c => ?_))))))))))
  ·(try simp only [sd, se] at c)
   refine BC (Ax (Ba (Av (Au At At (Aw At) (Au At At (A1 CX At At) (Au At At (A2 (i := 0) DQ At At At) (Au At At (Aw At) ?_)))))))
   obtain ⟨x, hx⟩ := BP (l := ts) (i := i) Ar
   refine Au At At (BL By At At Ar (CH hx) (Bj _)) (Au At At (Bi BO At (Bj _)) (Au At At (Bg At At (ih x (by have := DE hx; omega) (DY h2.2.2.2.2.1 hx)) At) (Au At At (Jq At At) (Au At At (Ay At) (Az At (Av (Au At At (Aw At) (Au At At (CS At At Ar Ar) (Au At At (Ay At) (Az At ?_))))))))))
   refine ⟨⟨i + 1, max m (Hn x)⟩, AZ, ⟨by omega, by rw [← hC, Dd hx]; rfl⟩, B8 ⟨we rfl, we rfl, we rfl, trivial⟩ (leH (is := [0]) rfl (wl (oe rfl) (D4)))⟩
  ·(try simp only [sd, se] at c)
   refine CL (Ax (Av (Au At At (Aw At) (Au At At (D7 At At) (Au At At (Ay At) (Az At (BB (⟨At, _, _, ⟨_, _, At, At, At⟩, (List.nil_sublist _), ?_⟩))))))))
   all_goals exact ⟨pI (by rw [show Hn (.mk tk ti tn tl ts) = wr (Lh 0 ts + 1) from rfl, ← hC, show i = ts.length by omega, List.drop_length]; rfl), rfl⟩
theorem Ue : ∀ (b : Nat) (er nd e : Int), Bt Tryz.prog 147 [.ptr b 0, .p (I e)] [.box b [.p (I er), .p (I nd)]] (DC (.tup []) [.box b [.p (I (OC er e)), .p (I nd)]]) := by
 intro b er nd e
 refine A8 Tryz.func147 At bZ (n := 13) At At (Ax (Av (Au At At (Aw At) (Au At At (Bd At) (Au At At (A1 Qi At At) (Au At At (A2 (i := 0) De At At At) (Au At At (BA At At At) (Az At (A9 At (fun c => ?_) (fun c => ?_))))))))))
 ·(try simp only [sd, se] at c)
  refine Av (Au At At (Aw At) (Au At At (Aw At) (Au At At (Bd At) (Au At At (A1 Qi At At) (Au At At (Bk (i := 0) De At At At At At At) (Az At ⟨At, _, _, At, (Cj (is := [0]) At), ?_⟩))))))
  refine ⟨At, ?_⟩
  show ([.box b [.p (I e), .p (I nd)]] : List BT) = _
  simp [OC, c]
 ·(try simp only [sd, se] at c)
  refine BC ⟨At, _, _, At, (Cj (is := [0]) At), ?_⟩
  refine ⟨At, ?_⟩
  show ([.box b [.p (I er), .p (I nd)]] : List BT) = _
  simp [OC, c]
theorem _root_.Go.Aq {α : Prop} (h : α := by decide) : α := h
theorem Ro : ∀ (b : Nat) (er nd i : Int), Bt Tryz.prog 148 [.ptr b 0, .p (I i)] [.box b [.p (I er), .p (I nd)]] (DC (.agg ((Be (Ti i)).map .p)) [.box b [.p (I (Tg er i)), .p (I nd)]]) := by
 intro b er nd i
 refine A8 Tryz.func148 At bN (n := 11) At At (Ax (Av (BM At At (BK B7 At) fun b4 => Az At (Ax (Ax (Av (Au At At (Aw At) (Au At At (BA At At At) (Az At (A9 At (fun c => ?_) (fun c => ?_)))))))))))
 ·(try simp only [sd, se] at c)
  refine Av (Au At At (Aw At) (Au At At (B6 [1] At (.inl ⟨At, At, At⟩) (Ue b er nd 24) ⟨_, _, At, At, At⟩ Aq At (.inl At)) (Az At (Ax (Av (Au At At (Aw At) (Au At At (Br CX B7 At) (Au At At (Bk (i := 0) BO At At At At At At) (Az At (CG (C9 (i := 0) At) (BB ?_)))))))))))
  refine ⟨At, _, _, ⟨_, _, At, (Bn (i := 0) BO At At At), At⟩, (Cj (is := [1]) At), ?_⟩
  refine ⟨At, ?_⟩
  show ([.box b [.p (I (OC er 24)), .p (I nd)]] : List BT) = _
  simp [Tg, show i > 65535 by omega]
 ·(try simp only [sd, se] at c)
  refine BC (Ax (Av (Au At At (Aw At) (Au At At (Br CX B7 At) (Au At At (Bk (i := 0) BO At At At At At At) (Az At (CG (C9 (i := 0) At) (BB (⟨At, _, _, ⟨_, _, At, (Bn (i := 0) BO At At At), At⟩, (Cj (is := [1]) At), ?_⟩)))))))))
  refine ⟨At, ?_⟩
  show ([.box b [.p (I er), .p (I nd)]] : List BT) = _
  simp [Tg, show ¬ i > 65535 by omega]
theorem _root_.Go.AE {α : Prop} (h : α := by simp only [Bo, List.length_map, List.length_cons, List.length_nil, List.nil_append, List.length_append]; omega) : α := h
theorem Xc : ∀ (n : Nat) (t : Tm) (b : Nat) (by' fr d er nd : Int), (size t ≤ n) → (Nd t) → (0 ≤ d) → (d + n < 2 ^ 62) → Bt Tryz.prog 135 [.ptr b 0, .agg ((Be t).map .p), .p (I by'), .p (I fr), .p (I d)] [.box b [.p (I er), .p (I nd)]] (DC (.agg ((Be ((E6 by' fr d er t).1)).map .p)) [.box b [.p (I ((E6 by' fr d er t).2)), .p (I nd)]]) := by
 intro n
 induction n with
 | zero => intro t b by' fr d er nd h; cases t; simp [size] at h
 | succ n ih =>
  intro t b by' fr d er nd h1 h2 h3 h4
  obtain ⟨tk, ti, tn, tl, ts⟩ := t
  simp only [size] at h1
  simp only [Nd, EC] at h2
  refine A8 Tryz.func135 At aJ (n := 68) At At (Ax (Av (BM At At (Bh At) fun b6 => BM At At (BK B7 At) fun b10 => Az At (Ax (Ax (Av (Au At At (A1 CX At At) (Au At At (A2 (i := 1) De At At At) (Au At At (BA At At At) ?_)))))))))
  refine Az At (A9 At (fun c => ?_) (fun c => ?_))
  ·(try simp only [sd, se] at c)
   refine Ax (Ax (Av (Au At At (A1 CX At At) (Au At At (A2 (i := 1) De At At At) (Au At At (Aw At) (Au At At (Aw At) (Au At At (D7 At At) (Au At At (BA At At At) (Az At (A9 At (fun c1 => ?_) (fun c1 => ?_)))))))))))
   ·(try simp only [sd, se] at c1)
    refine Ax (Av (Au At At (A0 (i := 1) BO At At At) (Au At At (Bk (i := 0) BO At At At At At At) (Az At (BB (⟨At, _, _, ⟨_, _, At, (Bn (i := 0) BO At At At), At⟩, (Cj (is := [2]) At), ?_⟩))))))
    refine ⟨by show (.agg [.p (I tk), .p (I ti), .p (.str tn), .p (.lst (List.map Dw tl)), .p (.lst (BR ts))] : AV) = _; rw [E6, if_pos c, if_pos c1]; rfl, ?_⟩
    show ([.box b [.p (I er), .p (I nd)]] : List BT) = _
    rw [E6, if_pos c, if_pos c1]
   ·(try simp only [sd, se] at c1)
    refine BC (Ax (Ax (Av (Au At At (A1 CX At At) (Au At At (A2 (i := 1) De At At At) (Au At At (Aw At) (Au At At (D7 At At) (Au At At (Aw At) (Au At At (Aw At) (Au At At (D7 At At) (Au At At (BA At At At) ?_)))))))))))
    refine Az At (A9 At (fun c2 => ?_) (fun c2 => ?_))
    ·(try simp only [sd, se] at c2)
     refine Ax (Av (Au At At (Aw At) (Au At At (B6 [2] At (.inl ⟨At, At, At⟩) (Ue b er nd 24) ⟨_, _, At, At, At⟩ Aq At (.inl At)) (Az At (Ax (Av (Au At At (A0 (i := 1) BO At At At) (Au At At (Bk (i := 0) BO At At At At At At) (Az At (BB (⟨At, _, _, ⟨_, _, At, (Bn (i := 0) BO At At At), At⟩, (Cj (is := [2]) At), ?_⟩)))))))))))
     refine ⟨by show (.agg [.p (I tk), .p (I ti), .p (.str tn), .p (.lst (List.map Dw tl)), .p (.lst (BR ts))] : AV) = _; rw [E6, if_pos c, if_neg Ar, if_pos c2]; rfl, ?_⟩
     show ([.box b [.p (I (OC er 24)), .p (I nd)]] : List BT) = _
     rw [E6, if_pos c, if_neg Ar, if_pos c2]
    ·(try simp only [sd, se] at c2)
     refine BC (Ax (Av (Au At At (Aw At) (Au At At (A1 CX At At) (Au At At (A2 (i := 1) De At At At) (Au At At (Aw At) (Au At At (D7 At At) (Au At At (B6 [2] At (.inl ⟨At, At, At⟩) (Ro b er nd (wr ((ti : Int) + (by' : Int)))) ⟨_, _, rfl, rfl, rfl⟩ Aq rfl (.inl rfl)) (Au At At (A6 (i := 0) BO At At At Ak Ac (CF _)) (Az At (BB ?_)))))))))))
     refine ⟨At, _, _, ⟨_, _, At, (Bn (i := 0) BO At At Ak), At⟩, (Cj (is := [2]) At), ?_⟩
     refine ⟨by show (.agg ((Be (Ti (wr ((ti : Int) + (by' : Int))))).map .p) : AV) = _; rw [E6, if_pos c, if_neg Ar, if_neg Ar], ?_⟩
     show ([.box b [.p (I (Tg er (wr ((ti : Int) + (by' : Int))))), .p (I nd)]] : List BT) = _
     rw [E6, if_pos c, if_neg Ar, if_neg Ar]
  ·(try simp only [sd, se] at c)
   refine BC (Ax (Av (Au At At (Ay At) (Az At (Ax (Ax (Av (Au At At (Ay At) (Az At (Ba (CG (GZ (t := 11) (sz := 5) At) ?_)))))))))))
   refine CM (α := Nat × List Tm × Int × Option Nat × Nat) (fun (i, ys, e, o, cp) => ⟨68, mk [(0, .ptr b 0), (2, .p (I by')), (3, .p (I fr)), (4, .p (I d)), (6, .ptr b6 0), (10, .ptr b10 0), (11, .vs o (BR ys).length cp), (12, .p (I (i : Int)))], [.vec o 5 (BR ys) cp, .box b10 [.p (I 0), .p (I 0), .p (.str ⟨#[]⟩), .p (.nils), .p (.nils)], .box b6 [.p (I tk), .p (I ti), .p (.str tn), .p (.lst (List.map Dw tl)), .p (.lst (BR ts))], .box b [.p (I e), .p (I nd)]], []⟩) (fun (i, ys, e, o, cp) => ts.length - i) (fun (i, ys, e, o, cp) => i ≤ ts.length ∧ (ys.length = i ∧ (ys ++ (Gd by' fr tk d i e (ts.drop i)).1, (Gd by' fr tk d i e (ts.drop i)).2) = Gd by' fr tk d 0 er ts)) ⟨0, [], er, none, 0⟩ As ?_ ?_
   ·exact B8 ⟨we At, we At, we At, we At, we At, we At, we At, we At, trivial⟩ (leH (is := [0, 1, 2, 3]) At (wl (oe At) (wl (oe At) (wl (oe At) (wl (oe At) (D4))))))
   rintro ⟨i, ys, e, o, cp⟩ hC
   try simp only at hC
   obtain ⟨hi, hl, hC⟩ := hC
   refine Ax (Ax (Av (Au At At (Aw At) (Au At At (A1 CX At At) (Au At At (A2 (i := 2) DQ At At At) (Au At At (Bp By At (Bo _)) (Au At At (BA At At At) (Az At (A9 At (fun c1 => ?_) (fun c1 => ?_))))))))))
   ·(try simp only [sd, se] at c1)
    refine BC (Ax (Ba (CQ (fun k => Nat.beq k 17) D0 (A4 At At (fun _ => Aw At) trivial (A4 At At (fun _ => Aw At) trivial (A4 At At (fun _ => A1 CX At At) trivial (BQ (j := 2) At At At (fun H i hi => A2 (i := i) DQ At hi At) AA trivial (A4 At At (fun _ => Aw At) trivial ?_))))))))
    obtain ⟨x, hx⟩ := BP (l := ts) (i := i) Ar
    refine A4 At At (fun _ => BL By At At Ar (CH hx) (Bj _)) trivial (A4 At At (fun _ => Bi BO At (Bj _)) trivial (A4 At At (fun _ => Aw At) trivial (A4 At At (fun _ => Aw At) trivial (A4 At At (fun _ => Aw At) trivial (A4 At At (fun _ => A1 CX At At) trivial (BQ (j := 2) At At At (fun H i hi => A2 (i := i) De At hi At) AA trivial (A4 At At (fun _ => Aw At) trivial (A4 At At (fun _ => Bg At At (S4 tk (i : Int)) At) trivial (A4 At At (fun _ => CS At At (by have := D5 tk i; omega) (by have := D5 tk i; omega)) trivial ?_)))))))))
    refine Cr At At (B6 [3] At (.inl ⟨At, At, At⟩) (ih x b by' fr ((d : Int) + (below tk (i : Int) : Int)) e nd (by have := DE hx; omega) (DY h2.2.2.2.2.1 hx) (by have := D5 tk i; omega) (by have := D5 tk i; omega)) ⟨_, _, rfl, rfl, rfl⟩ Aq rfl (.inl rfl)) AA trivial ?_
    generalize hz : (E6 by' fr ((d : Int) + (below tk (i : Int) : Int)) e x).1 = z
    obtain ⟨zk, zi, zn, zl, zs⟩ := z
    refine A4 At At (fun _ => CO By B7 At At At At At) trivial (JE [] At At (DX (i := 0) (rows' := BR [(.mk zk zi zn zl zs : Tm)]) By By B7 At At At At At At (CC _) AE (Lg ys [(.mk zk zi zn zl zs : Tm)])) An fun o1 cp1 => ⟨AA, trivial, ?_⟩)
    refine A4 At At (fun _ => Ay At) trivial (CK At An (Av (Au At At (Aw At) (Au At At (CS At At Ar Ar) (Au At At (Ay At) (Az At ?_))))))
    refine ⟨⟨i + 1, ys ++ [(E6 by' fr (d + below tk i) e x).1], (E6 by' fr (d + below tk i) e x).2, o1, cp1⟩, AZ, ⟨by omega, ⟨by simp [hl], by rw [← hC, Dd hx]; simp [Gd]⟩⟩, B8 ⟨we rfl, we rfl, we rfl, we rfl, we rfl, we rfl, we (ZX (ys ++ [(.mk zk zi zn zl zs : Tm)]) (by rw [hz])), we rfl, trivial⟩ (leH (is := [0, 1, 2, 3]) rfl (wl (WI (ys ++ [(.mk zk zi zn zl zs : Tm)]) (by rw [hz])) (wl (oe rfl) (wl (oe rfl) (wl (oe rfl) (D4))))))⟩
   ·(try simp only [sd, se] at c1)
    refine CL (Ax (Av (Au At At (Aw At) (Au At At (A1 CX At At) (C4 (HJ (i := 0) [11, 65] At (ID ⟨At, At, trivial⟩)) (Au At At (Bk (i := 1) DQ At At At At At At) (Az At (Ax (Av (Au At At (A0 (i := 1) BO At At At) (Au At At (Bk (i := 0) BO At At At At At At) ?_)))))))))))
    refine Az At (BB (⟨At, _, _, ⟨_, _, At, (Bn (i := 0) BO At At At), At⟩, (Cj (is := [2]) At), ?_⟩))
    refine ⟨by show (.agg [.p (I tk), .p (I ti), .p (.str tn), .p (.lst (List.map Dw tl)), .p (.lst (BR ys))] : AV) = _; rw [E6, if_neg c]; rw [show i = ts.length by omega, List.drop_length] at hC; rw [← hC]; simp [Gd]; rfl, ?_⟩
    show ([.box b [.p (I e), .p (I nd)]] : List BT) = _
    rw [E6, if_neg c]; rw [show i = ts.length by omega, List.drop_length] at hC; rw [← hC]; simp [Gd]
theorem _root_.Go.Ao {α : Prop} (h : α := by assumption) : α := h
theorem W6 : ∀ {σ : Type} (st : σ → Int → Tm → σ × Bool) (Inv : Nat → σ → Prop) (HP : Bool → σ → List BT → Prop) (l b2 b3 b4 : Nat) (hI : ∀ m s d t, Inv (m + 1) s → Inv m (st s d t).1) (hy : ∀ m s d t T, Nd t → Inv (m + 1) s → HP true s T → HB Tryz.prog l [.p (I d), TV t] T (Gm (.p (.bool (st s d t).2)) (HP (st s d t).2 (st s d t).1))) (n : Nat) (t : Tm) (d : Int) (s : σ) (T0 : List BT) (m : Nat), size t ≤ n → Nd t → 0 ≤ d → d + n < 4611686018427387904 → Inv (m + size t) s → HP true s T0 → Bt Tryz.prog 115 [TV t, .p (I d), .ptr b2 0, .ptr b3 0, .ptr b4 0] (.box b2 [.fn (.yield l) [] []] :: .box b3 L9 :: .box b4 [.fn (.func 115) [] [.ptr b2 0, .ptr b3 0, .ptr b4 0]] :: T0) (Gm (.p (.bool (Dy st t d s).2)) (fun H => ∃ T, HP (Dy st t d s).2 (Dy st t d s).1 T ∧ H = .box b2 [.fn (.yield l) [] []] :: .box b3 L9 :: .box b4 [.fn (.func 115) [] [.ptr b2 0, .ptr b3 0, .ptr b4 0]] :: T)) := by
 intro σ st Inv HP l b2 b3 b4 hI hy n
 induction n with
 | zero => intro t d s T0 m h; cases t; simp [size] at h
 | succ n ih =>
  intro t d s T0 m h1 h2 h3 h4 h5 h6
  obtain ⟨tk, ti, tn, tl, ts⟩ := t
  have h2' := h2
  simp only [size] at h1 h5
  simp only [Nd, rng, EC] at h2
  refine A8 Tryz.func115 At bh (n := 50) At At (Ax (Av (BM At At (Bh At) fun b5 => Au At At (Ay At) (Az At (Ax (Ax (Av (Au At At (A2 (i := 1) Z4 At At At) (Au At At (Aw At) (Au At At (A0 (i := 0) BO At At At) ?_))))))))))
  refine J9 [_, _, _, _] At At At At (hy (m + B4 ts) _ _ _ _ h2' (by rw [Nat.add_assoc, Nat.add_comm (B4 ts)]; exact h5) h6) At ?_ (fun _ _ h => h.elim)
  rintro _ T ⟨rfl, hT⟩
  refine Au At At (Cg At) (Az At (A9 At (fun c => ?_) (fun c => ?_)))
  ·(try simp only [sd, se] at c)
   refine Ax (Av (Au At At (Ay At) (Az At (BB (⟨At, _, _, ⟨_, _, At, At, At⟩, (Gj [1, 2, 3] [_, _, _, _] At), ?_⟩)))))
   rw [Qq c]
   rw [c] at hT
   exact ⟨At, _, hT, At⟩
  ·(try simp only [sd, se] at c)
   rw [c] at hT
   refine BC (Ax (Av (Au At At (Ay At) (Az At (Ax (Ax (CA [1, 3, 4, 5, 8] 24 (fun y => y = .p (.bool ((decide ((tk : Int) ≥ (0 : Int))) && (decide ((tk : Int) < (13 : Int)))))) ?_ ?_)))))))
   ·refine Av (Au At At (A1 CX At At) (Au At At (A2 (i := 0) De At At At) (Au At At (BA At At At) (Au At At (Aw At) (Bm 20 At (fun g => ?_) (fun g => ?_))))))
    ·(try simp only [sd, se] at g)
     exact A3 At At At At (A1 CX At At) (A3 At At At At (A2 (i := 0) De At At At) (A3 At At At At (BA At At At) (Au At At (A7 At At) (Az At (⟨At, At, AJ, AI, ⟨At, At, At, At, At, trivial⟩⟩)))))
    ·(try simp only [sd, se] at g)
     exact A5 At At At At At (A5 At At At At At (A5 At At At At At (Au At At (A7 At At) (Az At (⟨At, At, AJ, AI, ⟨At, At, At, At, At, trivial⟩⟩)))))
   rintro _ rfl
   refine A9 At (fun c1 => ?_) (fun c1 => ?_)
   ·(try simp only [sd, se] at c1)
    refine Av (Au At At (A1 CX At At) (Au At At (A2 (i := 0) De At At At) (Au At At (FL YH YS At At Ar Ar) (Au At At (A1 Hy At At) (Au At At (A2 (i := 2) De At At (VQ Ar)) (Au At At (Ay At) (Az At (Ax (Ax (Av (Au At At (A1 CX At At) ?_)))))))))))
    refine Au At At (A2 (i := 0) DQ At At At) (Au At At (Bp By At (Bo _)) (Au At At (Aw At) (Az At (Ba ?_))))
    refine CM (α := Nat × σ × List BT) (fun (i, q, U) => ⟨50, mk [(1, .p (I d)), (4, .ptr b4 0), (8, .p (I (H6 tk))), (31, .p (.lst (BR ts))), (32, .p (I (ts.length : Nat))), (33, .p (I (i : Int)))], (.box b2 [.fn (.yield l) [] []] :: .box b3 L9 :: .box b4 [.fn (.func 115) [] [.ptr b2 0, .ptr b3 0, .ptr b4 0]] :: U), []⟩) (fun (i, q, U) => ts.length - i) (fun (i, q, U) => i ≤ ts.length ∧ (Dz st tk d i q (ts.drop i) = Dz st tk d 0 (st s d (.mk tk ti tn tl ts)).1 ts ∧ Inv (m + B4 (ts.drop i)) q ∧ HP true q U)) ⟨0, (st s d (.mk tk ti tn tl ts)).1, T⟩ (⟨by omega, by simp, by simpa using hI _ _ _ _ (by rw [Nat.add_assoc, Nat.add_comm (B4 ts)]; exact h5), by assumption⟩) ?_ ?_
    ·exact B8 ⟨we At, we At, we At, we At, we At, we At, trivial⟩ (QW [1, 2, 3] [_, _, _, _] (l' := [_, _, _]) At (wl (oe At) (wl (oe At) (wl (oe At) (D4)))))
    rintro ⟨i, q, U⟩ hC
    try simp only at hC
    obtain ⟨hi, hC, hJ, hK⟩ := hC
    refine Ax (Av (Au At At (BA At At At) (Az At (Ax (A9 At (fun c2 => ?_) (fun c2 => ?_))))))
    ·(try simp only [sd, se] at c2)
     refine BC (Ax (Ba (Ax (Av (Au At At (Aw At) ?_)))))
     obtain ⟨x, hx⟩ := BP (l := ts) (i := i) Ar
     refine Au At At (BL By At At Ar (CH hx) (Bj _)) (Au At At (Bi BO At (Bj _)) (BM At At (BK B7 At) fun b10 => Au At At (Ay At) (Au At At (A6 (i := 0) BO At At At Ak Ac (CF _)) (Az At (Ax (Av (Au At At (Aw At) (Au At At (Ay At) (Az At (Ax ?_))))))))))
     refine Ax (Av (Au At At (Aw At) (Au At At (Aw At) (Au At At (BA At At At) (Az At (A9 At (fun c3 => ?_) (fun c3 => ?_)))))))
     ·(try simp only [sd, se] at c3)
      refine Av (Au At At (Aw At) (Au At At (CS At At Ar Ar) (Au At At (Ay At) (Az At (CG (EU (t := 11) (x := .p (I (d + below tk i))) (pI (by have := RQ (k := tk) (i := i) Ar Ar; omega))) (Ax (Av (Au At At (A2 (i := 3) PG At At At) (Au At At (A0 (i := 0) BO At At Ak) (Au At At (Aw At) (Gk [_] At At At (.inr At) (ih x (d + below tk i) q _ (m + B4 (ts.drop (i + 1))) (by have := DE hx; omega) (DY h2.2.2.2.2.1 hx) (by have := D5 tk i; omega) (by have := D5 tk i; omega) (by rw [Dd hx, B4] at hJ; rw [Nat.add_assoc, Nat.add_comm (B4 _)]; exact hJ) hK) (aw (we At) (aw (we At) (aw (we At) (aw (we At) (aw (we At) (Cv)))))) ?_ (fun _ _ h => h.elim))))))))))))
      rintro _ _ ⟨rfl, T1, hT1, rfl⟩
      refine Au At At (Cg At) (Az At (A9 At (fun c4 => ?_) (fun c4 => ?_)))
      ·(try simp only [sd, se] at c4)
       refine Ax (Av (Au At At (Ay At) (Az At (BB (⟨At, _, _, ⟨_, _, At, At, At⟩, (Gj [1, 2, 3] [_, _, _, _] At), ?_⟩)))))
       rw [GI Ao, ← hC, HE hx c4]
       rw [c4] at hT1
       exact ⟨At, _, hT1, At⟩
      ·(try simp only [sd, se] at c4)
       rw [c4] at hT1
       refine BC (Av (Au At At (CS At At Ar Ar) (Au At At (Aw At) (Az At ?_))))
       refine ⟨⟨i + 1, (Dy st x (d + below tk i) q).1, T1⟩, AZ, ⟨by omega, ⟨by rw [← hC]; exact (Ih hx Ao).symm, by rw [Dd hx, B4] at hJ; exact HW hI x _ _ _ (by rw [Nat.add_assoc, Nat.add_comm (B4 _)]; exact hJ) Ao, by assumption⟩⟩, B8 ⟨we rfl, we rfl, we rfl, we rfl, we rfl, we rfl, trivial⟩ (QW [1, 2, 3] [_, _, _, _] (l' := [_, _, _]) rfl (wl (oe rfl) (wl (oe rfl) (wl (oe rfl) (D4)))))⟩
     ·(try simp only [sd, se] at c3)
      refine BC (CG (EU (t := 11) (x := .p (I (d + below tk i))) (pI (by have := O3 (k := tk) (i := i) Ar; omega))) (Ax (Av (Au At At (A2 (i := 3) PG At At At) (Au At At (A0 (i := 0) BO At At Ak) (Au At At (Aw At) (Gk [_] At At At (.inr At) (ih x (d + below tk i) q _ (m + B4 (ts.drop (i + 1))) (by have := DE hx; omega) (DY h2.2.2.2.2.1 hx) (by have := D5 tk i; omega) (by have := D5 tk i; omega) (by rw [Dd hx, B4] at hJ; rw [Nat.add_assoc, Nat.add_comm (B4 _)]; exact hJ) hK) (aw (we At) (aw (we At) (aw (we At) (aw (we At) (aw (we At) (Cv)))))) ?_ (fun _ _ h => h.elim))))))))
      rintro _ _ ⟨rfl, T1, hT1, rfl⟩
      refine Au At At (Cg At) (Az At (A9 At (fun c4 => ?_) (fun c4 => ?_)))
      ·(try simp only [sd, se] at c4)
       refine Ax (Av (Au At At (Ay At) (Az At (BB (⟨At, _, _, ⟨_, _, At, At, At⟩, (Gj [1, 2, 3] [_, _, _, _] At), ?_⟩)))))
       rw [GI Ao, ← hC, HE hx c4]
       rw [c4] at hT1
       exact ⟨At, _, hT1, At⟩
      ·(try simp only [sd, se] at c4)
       rw [c4] at hT1
       refine BC (Av (Au At At (CS At At Ar Ar) (Au At At (Aw At) (Az At ?_))))
       refine ⟨⟨i + 1, (Dy st x (d + below tk i) q).1, T1⟩, AZ, ⟨by omega, ⟨by rw [← hC]; exact (Ih hx Ao).symm, by rw [Dd hx, B4] at hJ; exact HW hI x _ _ _ (by rw [Nat.add_assoc, Nat.add_comm (B4 _)]; exact hJ) Ao, by assumption⟩⟩, B8 ⟨we rfl, we rfl, we rfl, we rfl, we rfl, we rfl, trivial⟩ (QW [1, 2, 3] [_, _, _, _] (l' := [_, _, _]) rfl (wl (oe rfl) (wl (oe rfl) (wl (oe rfl) (D4)))))⟩
    ·(try simp only [sd, se] at c2)
     refine CL (Ax (Av (Au At At (Ay At) (Az At (BB (⟨At, _, _, ⟨_, _, At, At, At⟩, (Gj [0, 1, 2] [_, _, _] At), ?_⟩))))))
     rw [GI Ao, ← hC, show i = ts.length by omega, List.drop_length]
     exact ⟨At, _, hK, At⟩
   ·(try simp only [sd, se] at c1)
    have hbx := RL (k := tk) Ar
    refine BC (Ax (Ax (Av (Au At At (A1 CX At At) (Au At At (A2 (i := 0) DQ At At At) (Au At At (Bp By At (Bo _)) (Au At At (Aw At) (Az At (Ba ?_)))))))))
    refine CM (α := Nat × σ × List BT) (fun (i, q, U) => ⟨50, mk [(1, .p (I d)), (4, .ptr b4 0), (8, .p (I (-1))), (31, .p (.lst (BR ts))), (32, .p (I (ts.length : Nat))), (33, .p (I (i : Int)))], (.box b2 [.fn (.yield l) [] []] :: .box b3 L9 :: .box b4 [.fn (.func 115) [] [.ptr b2 0, .ptr b3 0, .ptr b4 0]] :: U), []⟩) (fun (i, q, U) => ts.length - i) (fun (i, q, U) => i ≤ ts.length ∧ (Dz st tk d i q (ts.drop i) = Dz st tk d 0 (st s d (.mk tk ti tn tl ts)).1 ts ∧ Inv (m + B4 (ts.drop i)) q ∧ HP true q U)) ⟨0, (st s d (.mk tk ti tn tl ts)).1, T⟩ (⟨by omega, by simp, by simpa using hI _ _ _ _ (by rw [Nat.add_assoc, Nat.add_comm (B4 ts)]; exact h5), by assumption⟩) ?_ ?_
    ·exact B8 ⟨we At, we At, we At, we At, we At, we At, trivial⟩ (QW [1, 2, 3] [_, _, _, _] (l' := [_, _, _]) At (wl (oe At) (wl (oe At) (wl (oe At) (D4)))))
    rintro ⟨i, q, U⟩ hC
    try simp only at hC
    obtain ⟨hi, hC, hJ, hK⟩ := hC
    refine Ax (Av (Au At At (BA At At At) (Az At (Ax (A9 At (fun c2 => ?_) (fun c2 => ?_))))))
    ·(try simp only [sd, se] at c2)
     refine BC (Ax (Ba (Ax (Av (Au At At (Aw At) ?_)))))
     obtain ⟨x, hx⟩ := BP (l := ts) (i := i) Ar
     refine Au At At (BL By At At Ar (CH hx) (Bj _)) (Au At At (Bi BO At (Bj _)) (BM At At (BK B7 At) fun b10 => Au At At (Ay At) (Au At At (A6 (i := 0) BO At At At Ak Ac (CF _)) (Az At (Ax (Av (Au At At (Aw At) (Au At At (Ay At) (Az At (Ax ?_))))))))))
     refine Ax (Av (Au At At (Aw At) (Au At At (Aw At) (Au At At (BA At At At) (Az At (A9 At (fun c3 => ?_) (fun c3 => ?_)))))))
     ·(try simp only [sd, se] at c3)
      refine Av (Au At At (Aw At) (Au At At (CS At At Ar Ar) (Au At At (Ay At) (Az At (CG (EU (t := 11) (x := .p (I (d + below tk i))) (pI (by have := RQ (k := tk) (i := i) Ar Ar; omega))) (Ax (Av (Au At At (A2 (i := 3) PG At At At) (Au At At (A0 (i := 0) BO At At Ak) (Au At At (Aw At) (Gk [_] At At At (.inr At) (ih x (d + below tk i) q _ (m + B4 (ts.drop (i + 1))) (by have := DE hx; omega) (DY h2.2.2.2.2.1 hx) (by have := D5 tk i; omega) (by have := D5 tk i; omega) (by rw [Dd hx, B4] at hJ; rw [Nat.add_assoc, Nat.add_comm (B4 _)]; exact hJ) hK) (aw (we At) (aw (we At) (aw (we At) (aw (we At) (aw (we At) (Cv)))))) ?_ (fun _ _ h => h.elim))))))))))))
      rintro _ _ ⟨rfl, T1, hT1, rfl⟩
      refine Au At At (Cg At) (Az At (A9 At (fun c4 => ?_) (fun c4 => ?_)))
      ·(try simp only [sd, se] at c4)
       refine Ax (Av (Au At At (Ay At) (Az At (BB (⟨At, _, _, ⟨_, _, At, At, At⟩, (Gj [1, 2, 3] [_, _, _, _] At), ?_⟩)))))
       rw [GI Ao, ← hC, HE hx c4]
       rw [c4] at hT1
       exact ⟨At, _, hT1, At⟩
      ·(try simp only [sd, se] at c4)
       rw [c4] at hT1
       refine BC (Av (Au At At (CS At At Ar Ar) (Au At At (Aw At) (Az At ?_))))
       refine ⟨⟨i + 1, (Dy st x (d + below tk i) q).1, T1⟩, AZ, ⟨by omega, ⟨by rw [← hC]; exact (Ih hx Ao).symm, by rw [Dd hx, B4] at hJ; exact HW hI x _ _ _ (by rw [Nat.add_assoc, Nat.add_comm (B4 _)]; exact hJ) Ao, by assumption⟩⟩, B8 ⟨we rfl, we rfl, we rfl, we rfl, we rfl, we rfl, trivial⟩ (QW [1, 2, 3] [_, _, _, _] (l' := [_, _, _]) rfl (wl (oe rfl) (wl (oe rfl) (wl (oe rfl) (D4)))))⟩
     ·(try simp only [sd, se] at c3)
      refine BC (CG (EU (t := 11) (x := .p (I (d + below tk i))) (pI (by have := O3 (k := tk) (i := i) Ar; omega))) (Ax (Av (Au At At (A2 (i := 3) PG At At At) (Au At At (A0 (i := 0) BO At At Ak) (Au At At (Aw At) (Gk [_] At At At (.inr At) (ih x (d + below tk i) q _ (m + B4 (ts.drop (i + 1))) (by have := DE hx; omega) (DY h2.2.2.2.2.1 hx) (by have := D5 tk i; omega) (by have := D5 tk i; omega) (by rw [Dd hx, B4] at hJ; rw [Nat.add_assoc, Nat.add_comm (B4 _)]; exact hJ) hK) (aw (we At) (aw (we At) (aw (we At) (aw (we At) (aw (we At) (Cv)))))) ?_ (fun _ _ h => h.elim))))))))
      rintro _ _ ⟨rfl, T1, hT1, rfl⟩
      refine Au At At (Cg At) (Az At (A9 At (fun c4 => ?_) (fun c4 => ?_)))
      ·(try simp only [sd, se] at c4)
       refine Ax (Av (Au At At (Ay At) (Az At (BB (⟨At, _, _, ⟨_, _, At, At, At⟩, (Gj [1, 2, 3] [_, _, _, _] At), ?_⟩)))))
       rw [GI Ao, ← hC, HE hx c4]
       rw [c4] at hT1
       exact ⟨At, _, hT1, At⟩
      ·(try simp only [sd, se] at c4)
       rw [c4] at hT1
       refine BC (Av (Au At At (CS At At Ar Ar) (Au At At (Aw At) (Az At ?_))))
       refine ⟨⟨i + 1, (Dy st x (d + below tk i) q).1, T1⟩, AZ, ⟨by omega, ⟨by rw [← hC]; exact (Ih hx Ao).symm, by rw [Dd hx, B4] at hJ; exact HW hI x _ _ _ (by rw [Nat.add_assoc, Nat.add_comm (B4 _)]; exact hJ) Ao, by assumption⟩⟩, B8 ⟨we rfl, we rfl, we rfl, we rfl, we rfl, we rfl, trivial⟩ (QW [1, 2, 3] [_, _, _, _] (l' := [_, _, _]) rfl (wl (oe rfl) (wl (oe rfl) (wl (oe rfl) (D4)))))⟩
    ·(try simp only [sd, se] at c2)
     refine CL (Ax (Av (Au At At (Ay At) (Az At (BB (⟨At, _, _, ⟨_, _, At, At, At⟩, (Gj [0, 1, 2] [_, _, _] At), ?_⟩))))))
     rw [GI Ao, ← hC, show i = ts.length by omega, List.drop_length]
     exact ⟨At, _, hK, At⟩
theorem Zl : G5 Tryz.prog 114 [] (.agg L9) := by
 refine A8 Tryz.func114 At bG (n := 15) At At (Ax (Av (BM At At (BK V6 At) fun b0 => Az At (Ax (Av (Au At At (Br Hy IN At) (Au At At (Br Hy IN At) (Au At At (Br Hy IN At) (Au At At (Br Hy IN At) (Au At At (Br Hy IN At) ?_))))))))))
 refine Au At At (Br Hy IN At) (Au At At (Br Hy IN At) (Au At At (Br Hy IN At) (Au At At (Br Hy IN At) (Au At At (Br Hy IN At) (Au At At (Br Hy IN At) (Au At At (Br Hy IN At) (Au At At (Br Hy IN At) (Au At At (JY YH YS V6 At) (Au At At (Bk (i := 0) UW At At At At At At) (Az At (BB ?_)))))))))))
 refine ⟨At, _, _, ⟨_, _, At, (Bn (i := 0) UW At At At), At⟩, (List.nil_sublist _), ?_⟩
 all_goals exact ⟨rfl, rfl⟩
theorem Va : ∀ (t : Tm), Bt Tryz.prog 78 [.agg ((Be t).map .p)] [] (fun r H' => ∃ b, r = .val (.fn (.func 113) [] [.ptr b 0]) ∧ H' = [.box b ((Be t).map .p)]) := by
 intro t
 refine A8 Tryz.func78 At da (n := 4) At At (Ax (Av (BM At At (Bh At) fun b1 => Au At At (Ay At) (Az At (Ax (Av (Au At At (Cw At At) (Au At At (Ay At) (Az At (BB ?_))))))))))
 refine ⟨At, _, _, ⟨_, _, At, At, At⟩, (Cj (is := [0]) At), ?_⟩
 exact ⟨_, At, At⟩
theorem Vm : ∀ {σ : Type} (st : σ → Int → Tm → σ × Bool) (Inv : Nat → σ → Prop) (HP : Bool → σ → List BT → Prop) (l b1 : Nat) (hI : ∀ m s d t, Inv (m + 1) s → Inv m (st s d t).1) (hy : ∀ m s d t T, Nd t → Inv (m + 1) s → HP true s T → HB Tryz.prog l [.p (I d), TV t] T (Gm (.p (.bool (st s d t).2)) (HP (st s d t).2 (st s d t).1))) (t : Tm) (s : σ) (T0 : List BT) (m : Nat), Nd t → size t < 4611686018427387904 → Inv (m + size t) s → HP true s T0 → Bt Tryz.prog 113 [.fn (.yield l) [] [], .ptr b1 0] (.box b1 ((Be t).map .p) :: T0) (Gm (.tup []) (fun H => ∃ T, HP (Dy st t 0 s).2 (Dy st t 0 s).1 T ∧ H = .box b1 ((Be t).map .p) :: T)) := by
 intro σ st Inv HP l b1 hI hy t s T0 m h1 h2 h3 h4
 refine A8 Tryz.func113 At ar (n := 10) At At (Ax (Av (BM At At (Bh At) fun b2 => Az At (Ax (Av (Au At At (Bg At At (Zl ) At) (BM At At (BK V6 At) fun b3 => Au At At (Bk (i := 0) UW At At At At At At) (Az At (Ax ?_)))))))))
 refine Av (BM At At (BK aA At) fun b4 => Az At (Ax (Av (Au At At (Cw At At) (Au At At (Bk (i := 0) PG At At At At At At) (Az At (Av (Au At At (A2 (i := 0) PG At At At) (Au At At (A0 (i := 3) BO At At Ak) (GB ((List.reverse_perm [_, _, _, _]).symm.append_right _) ?_))))))))))
 refine Gk [_] At At At (.inr At) (W6 st Inv HP l b2 b3 b4 hI hy _ t 0 s T0 m (Nat.le_refl _) h1 Ar Ar h3 h4) (aw (we At) (aw (we At) (aw (we At) (aw (we At) (aw (we At) (Cv)))))) ?_ (fun _ _ h => h.elim)
 rintro _ _ ⟨rfl, T, hT, rfl⟩
 refine Az At ⟨At, _, _, At, (Gj [0] [_, _, _, _] At), ?_⟩
 exact ⟨At, _, hT, At⟩
theorem TK : ∀ (t : Tm), (Nd t) → (size t < 1152921504606846976) → G5 Tryz.prog 46 [.agg ((Be t).map .p)] (.p (I (size t : Nat))) := by
 intro t h1 h2
 refine Fu Tryz.func46 At dL (n := 11) At At (Ax (Av (BM At At (Bh At) fun b1 => Au At At (Ay At) (Az At (Ax (Av (BM At At (BK S9 At) fun b3 => Au At At (Bk (i := 0) De At At At At At At) (Az At (Ax ?_)))))))))
 refine Ax (Av (Au At At (A0 (i := 1) BO At At Ak) ?_))
 refine M7 [] At At At (.inl ⟨At, At, At⟩) (Va t) At As (aw (we At) Cv) ?_ (fun _ _ ⟨_, h, _⟩ => by cases h)
 rintro _ _ ⟨bn, h, rfl⟩
 cases h
 refine Az At (Ba (Iy (.inr At) fun dd l L hL => ⟨_, _, Cx (is := [2, 0, 3]) Aq ⟨_, _, At, At, ⟨_, _, At, At, ⟨_, _, At, At, At⟩⟩⟩, ?_⟩))
 have hy : ∀ (m : Nat) (s : Int) (d : Int) (t : Tm) (T : List BT), Nd t → (fun _ _ => True) (m + 1) s → (fun (_ : Bool) (s : Int) (T : List BT) => T = [.loop l L, .box b3 [.p (I s)]]) true s T → HB Tryz.prog l [.p (I d), TV t] T (Gm (.p (.bool (SQ s d t).2)) ((fun (_ : Bool) (s : Int) (T : List BT) => T = [.loop l L, .box b3 [.p (I s)]]) (SQ s d t).2 (SQ s d t).1)) := by
  rintro m s d tt T hnd hinv rfl
  subst hL
  refine Ju (i := 0) At At At At (BC ⟨At, 0, At, ?_⟩)
  refine Ba (Av (Au At At (A2 (i := 1) De At At At) (Au At At (D7 At At) (Au At At (Bk (i := 1) De At At At At At At) (Az At ⟨0, _, At, Cj (is := [0, 1]) At, ?_⟩)))))
  exact ⟨At, At⟩
 refine (Vm SQ (fun _ _ => True) (fun (_ : Bool) (s : Int) (T : List BT) => T = [.loop l L, .box b3 [.p (I s)]]) l bn (fun _ _ _ _ _ => trivial) hy t 0 _ 0 (h1) Ar (trivial) At).mono ?_
 rintro (v | v) H' hR
 rotate_left
 ·exact hR.elim
 obtain ⟨rfl, _, rfl, rfl⟩ := hR
 subst hL
 refine ⟨1, _, At, As, ?_⟩
 refine Ax (Av (Au At At (A2 (i := 1) De At At At) (Au At At (Ay At) (Az At (BB (⟨2, At, _, _, ⟨_, _, At, At, At⟩, (List.nil_sublist _), ?_⟩))))))
 all_goals exact ⟨pI (by rw [QX 4611686018427387904 (Int.le_refl _) t 0 0 Ar Ar]; simp), rfl⟩
end Go.Proofs.YtapmjpihennhaaaGreatDoor
