/- Part of the proofs: an abstract program logic, plain models and contracts of functions. -/
import Derived.Test.YtapmjpihennhaaaGreatDoorPb
import Derived.Test.YtapmjpihennhaaaGreatDoorProg
set_option linter.unusedVariables false
set_option linter.unusedSimpArgs false
set_option maxRecDepth 100000
namespace Go.Proofs.YtapmjpihennhaaaGreatDoor
open Go.Abs
theorem EL : Fk Tryz.prog 22 = some (9, 1, 16) := by kernel_rfl
theorem GF : Fk Tryz.prog 25 = some (3, 1, 8) := by kernel_rfl
theorem CL : Fk Tryz.prog 26 = some (33, 5, 80) := by kernel_rfl
theorem IC : Fk Tryz.prog 31 = some (108, 2, 32) := by kernel_rfl
theorem Lx : Fk Tryz.prog 36 = some (122, 23, 360) := by kernel_rfl
theorem FV : Fk Tryz.prog 88 = some (145, 2, 16) := by kernel_rfl
theorem GY : Fk Tryz.prog 106 = some (112, 2, 16) := by kernel_rfl
theorem Ge : Fk Tryz.prog 117 = some (162, 6, 96) := by kernel_rfl
theorem FP : Fk Tryz.prog 120 = some (167, 15, 224) := by kernel_rfl
theorem JJ : Fk Tryz.prog 163 = some (201, 10, 144) := by kernel_rfl
theorem KJ : Fk Tryz.prog 179 = some (87, 16, 248) := by kernel_rfl
theorem ZR : Fk Tryz.prog 184 = some (5, 1, 1) := by kernel_rfl
theorem ig : Bl Tryz.prog 4 = true := by kernel_rfl
theorem jA : Bl Tryz.prog 9 = true := by kernel_rfl
theorem fy : Bl Tryz.prog 10 = true := by kernel_rfl
theorem iJ : Bl Tryz.prog 11 = true := by kernel_rfl
theorem gb : Bl Tryz.prog 12 = true := by kernel_rfl
theorem gj : Bl Tryz.prog 13 = true := by kernel_rfl
theorem iL : Bl Tryz.prog 14 = true := by kernel_rfl
theorem fI : Bl Tryz.prog 15 = true := by kernel_rfl
theorem XH : Bl Tryz.prog 16 = true := by kernel_rfl
theorem gf : Bl Tryz.prog 17 = true := by kernel_rfl
theorem gV : Bl Tryz.prog 18 = true := by kernel_rfl
theorem cX : Bl Tryz.prog 19 = true := by kernel_rfl
theorem gR : Bl Tryz.prog 21 = true := by kernel_rfl
theorem e7 : Bl Tryz.prog 22 = true := by kernel_rfl
theorem cH : Bl Tryz.prog 23 = true := by kernel_rfl
theorem dD : Bl Tryz.prog 24 = true := by kernel_rfl
theorem gA : Bl Tryz.prog 29 = true := by kernel_rfl
theorem gG : Bl Tryz.prog 30 = true := by kernel_rfl
theorem ej : Bl Tryz.prog 34 = true := by kernel_rfl
theorem bX : Bl Tryz.prog 35 = true := by kernel_rfl
theorem fo : Bl Tryz.prog 36 = true := by kernel_rfl
theorem ff : Bl Tryz.prog 37 = true := by kernel_rfl
theorem fW : Bl Tryz.prog 38 = true := by kernel_rfl
theorem iA : Bl Tryz.prog 39 = true := by kernel_rfl
theorem fg : Bl Tryz.prog 40 = true := by kernel_rfl
theorem e6 : Bl Tryz.prog 41 = true := by kernel_rfl
theorem gJ : Bl Tryz.prog 42 = true := by kernel_rfl
theorem gm : Bl Tryz.prog 43 = true := by kernel_rfl
theorem gg : Bl Tryz.prog 44 = true := by kernel_rfl
theorem eS : Bl Tryz.prog 45 = true := by kernel_rfl
theorem fX : Bl Tryz.prog 46 = true := by kernel_rfl
theorem gw : Bl Tryz.prog 47 = true := by kernel_rfl
theorem et : Bl Tryz.prog 48 = true := by kernel_rfl
theorem fh : Bl Tryz.prog 49 = true := by kernel_rfl
theorem ek : Bl Tryz.prog 52 = true := by kernel_rfl
theorem gM : Bl Tryz.prog 53 = true := by kernel_rfl
theorem iC : Bl Tryz.prog 54 = true := by kernel_rfl
theorem gk : Bl Tryz.prog 56 = true := by kernel_rfl
theorem iD : Bl Tryz.prog 57 = true := by kernel_rfl
theorem fN : Bl Tryz.prog 58 = true := by kernel_rfl
theorem fi : Bl Tryz.prog 59 = true := by kernel_rfl
theorem fQ : Bl Tryz.prog 60 = true := by kernel_rfl
theorem iB : Bl Tryz.prog 61 = true := by kernel_rfl
theorem eu : Bl Tryz.prog 62 = true := by kernel_rfl
theorem gr : Bl Tryz.prog 63 = true := by kernel_rfl
theorem gd : Bl Tryz.prog 64 = true := by kernel_rfl
theorem eQ : Bl Tryz.prog 65 = true := by kernel_rfl
theorem gX : Bl Tryz.prog 66 = true := by kernel_rfl
theorem fK : Bl Tryz.prog 67 = true := by kernel_rfl
theorem gU : Bl Tryz.prog 68 = true := by kernel_rfl
theorem iF : Bl Tryz.prog 69 = true := by kernel_rfl
theorem e9 : Bl Tryz.prog 70 = true := by kernel_rfl
theorem fZ : Bl Tryz.prog 71 = true := by kernel_rfl
theorem gF : Bl Tryz.prog 72 = true := by kernel_rfl
theorem iG : Bl Tryz.prog 73 = true := by kernel_rfl
theorem fB : Bl Tryz.prog 74 = true := by kernel_rfl
theorem gP : Bl Tryz.prog 75 = true := by kernel_rfl
theorem gW : Bl Tryz.prog 76 = true := by kernel_rfl
theorem ey : Bl Tryz.prog 77 = true := by kernel_rfl
theorem gC : Bl Tryz.prog 78 = true := by kernel_rfl
theorem fA : Bl Tryz.prog 79 = true := by kernel_rfl
theorem gS : Bl Tryz.prog 80 = true := by kernel_rfl
theorem fm : Bl Tryz.prog 81 = true := by kernel_rfl
theorem gN : Bl Tryz.prog 82 = true := by kernel_rfl
theorem fS : Bl Tryz.prog 83 = true := by kernel_rfl
theorem iI : Bl Tryz.prog 84 = true := by kernel_rfl
theorem de : Bl Tryz.prog 85 = true := by kernel_rfl
theorem gv : Bl Tryz.prog 86 = true := by kernel_rfl
theorem fk : Bl Tryz.prog 87 = true := by kernel_rfl
theorem gB : Bl Tryz.prog 88 = true := by kernel_rfl
theorem gx : Bl Tryz.prog 89 = true := by kernel_rfl
theorem hO : Bl Tryz.prog 90 = true := by kernel_rfl
theorem fq : Bl Tryz.prog 91 = true := by kernel_rfl
theorem gz : Bl Tryz.prog 92 = true := by kernel_rfl
theorem gn : Bl Tryz.prog 93 = true := by kernel_rfl
theorem gy : Bl Tryz.prog 94 = true := by kernel_rfl
theorem iK : Bl Tryz.prog 95 = true := by kernel_rfl
theorem fE : Bl Tryz.prog 96 = true := by kernel_rfl
theorem gQ : Bl Tryz.prog 97 = true := by kernel_rfl
theorem iE : Bl Tryz.prog 98 = true := by kernel_rfl
theorem hX : Bl Tryz.prog 99 = true := by kernel_rfl
theorem eN : Bl Tryz.prog 100 = true := by kernel_rfl
theorem dc : Bl Tryz.prog 101 = true := by kernel_rfl
theorem eY : Bl Tryz.prog 102 = true := by kernel_rfl
theorem bP : Bl Tryz.prog 103 = true := by kernel_rfl
theorem eZ : Bl Tryz.prog 104 = true := by kernel_rfl
theorem eO : Bl Tryz.prog 105 = true := by kernel_rfl
theorem cU : Bl Tryz.prog 106 = true := by kernel_rfl
theorem eR : Bl Tryz.prog 107 = true := by kernel_rfl
theorem dk : Bl Tryz.prog 108 = true := by kernel_rfl
theorem bV : Bl Tryz.prog 109 = true := by kernel_rfl
theorem ct : Bl Tryz.prog 110 = true := by kernel_rfl
theorem eL : Bl Tryz.prog 111 = true := by kernel_rfl
theorem bz : Bl Tryz.prog 112 = true := by kernel_rfl
theorem dY : Bl Tryz.prog 113 = true := by kernel_rfl
theorem dq : Bl Tryz.prog 114 = true := by kernel_rfl
theorem dU : Bl Tryz.prog 115 = true := by kernel_rfl
theorem dI : Bl Tryz.prog 116 = true := by kernel_rfl
theorem bh : Bl Tryz.prog 117 = true := by kernel_rfl
theorem cz : Bl Tryz.prog 118 = true := by kernel_rfl
theorem dP : Bl Tryz.prog 119 = true := by kernel_rfl
theorem dO : Bl Tryz.prog 120 = true := by kernel_rfl
theorem cZ : Bl Tryz.prog 121 = true := by kernel_rfl
theorem db : Bl Tryz.prog 122 = true := by kernel_rfl
theorem Zh : Bl Tryz.prog 123 = true := by kernel_rfl
theorem cx : Bl Tryz.prog 124 = true := by kernel_rfl
theorem bJ : Bl Tryz.prog 125 = true := by kernel_rfl
theorem bO : Bl Tryz.prog 126 = true := by kernel_rfl
theorem bL : Bl Tryz.prog 127 = true := by kernel_rfl
theorem bf : Bl Tryz.prog 128 = true := by kernel_rfl
theorem dT : Bl Tryz.prog 129 = true := by kernel_rfl
theorem bp : Bl Tryz.prog 130 = true := by kernel_rfl
theorem eF : Bl Tryz.prog 131 = true := by kernel_rfl
theorem dz : Bl Tryz.prog 132 = true := by kernel_rfl
theorem dF : Bl Tryz.prog 133 = true := by kernel_rfl
theorem bR : Bl Tryz.prog 134 = true := by kernel_rfl
theorem dt : Bl Tryz.prog 135 = true := by kernel_rfl
theorem bu : Bl Tryz.prog 136 = true := by kernel_rfl
theorem bt : Bl Tryz.prog 137 = true := by kernel_rfl
theorem cQ : Bl Tryz.prog 138 = true := by kernel_rfl
theorem cE : Bl Tryz.prog 139 = true := by kernel_rfl
theorem eV : Bl Tryz.prog 140 = true := by kernel_rfl
theorem dM : Bl Tryz.prog 141 = true := by kernel_rfl
theorem dv : Bl Tryz.prog 142 = true := by kernel_rfl
theorem dK : Bl Tryz.prog 143 = true := by kernel_rfl
theorem eC : Bl Tryz.prog 144 = true := by kernel_rfl
theorem bH : Bl Tryz.prog 145 = true := by kernel_rfl
theorem bg : Bl Tryz.prog 146 = true := by kernel_rfl
theorem bQ : Bl Tryz.prog 147 = true := by kernel_rfl
theorem dE : Bl Tryz.prog 148 = true := by kernel_rfl
theorem cK : Bl Tryz.prog 149 = true := by kernel_rfl
theorem cP : Bl Tryz.prog 150 = true := by kernel_rfl
theorem dN : Bl Tryz.prog 151 = true := by kernel_rfl
theorem cN : Bl Tryz.prog 152 = true := by kernel_rfl
theorem ZE : Bl Tryz.prog 153 = true := by kernel_rfl
theorem eM : Bl Tryz.prog 156 = true := by kernel_rfl
theorem cc : Bl Tryz.prog 157 = true := by kernel_rfl
theorem Dy : fieldsOf Tryz.prog 24 = some [(0, 1), (1, 1), (2, 1), (3, 1), (4, 1), (5, 1), (6, 1)] := by kernel_rfl
theorem CV : fieldsOf Tryz.prog 33 = some [(0, 1), (1, 1), (2, 1), (3, 1), (4, 1)] := by kernel_rfl
theorem Hy : fieldsOf Tryz.prog 81 = some [(0, 1), (1, 1), (2, 1), (3, 1)] := by kernel_rfl
theorem Il : fieldsOf Tryz.prog 85 = some [(0, 7), (7, 1)] := by kernel_rfl
theorem FR : fieldsOf Tryz.prog 87 = some [(0, 5), (5, 5), (10, 5), (15, 1)] := by kernel_rfl
theorem I7 : fieldsOf Tryz.prog 91 = some [(0, 1), (1, 1), (2, 1), (3, 1), (4, 5)] := by kernel_rfl
theorem Iu : fieldsOf Tryz.prog 100 = some [(0, 1), (1, 1), (2, 1)] := by kernel_rfl
theorem EU : fieldsOf Tryz.prog 108 = some [(0, 1), (1, 1)] := by kernel_rfl
theorem GI : fieldsOf Tryz.prog 112 = some [(0, 1), (1, 1)] := by kernel_rfl
theorem Ga : fieldsOf Tryz.prog 119 = some [(0, 1), (1, 5), (6, 1)] := by kernel_rfl
theorem CR : fieldsOf Tryz.prog 122 = some [(0, 1), (1, 1), (2, 1), (3, 5), (8, 5), (13, 1), (14, 1), (15, 7), (22, 1)] := by kernel_rfl
theorem Iv : fieldsOf Tryz.prog 145 = some [(0, 1), (1, 1)] := by kernel_rfl
theorem LY : fieldsOf Tryz.prog 162 = some [(0, 1), (1, 5)] := by kernel_rfl
theorem FE : fieldsOf Tryz.prog 165 = some [(0, 1), (1, 5), (6, 1), (7, 1)] := by kernel_rfl
theorem Jc : fieldsOf Tryz.prog 167 = some [(0, 1), (1, 5), (6, 1), (7, 8)] := by kernel_rfl
theorem Iz : fieldsOf Tryz.prog 175 = some [(0, 1), (1, 1), (2, 1), (3, 1), (4, 1)] := by kernel_rfl
theorem Nl : fieldsOf Tryz.prog 186 = some [(0, 1), (1, 1)] := by kernel_rfl
theorem Rm : fieldsOf Tryz.prog 198 = some [(0, 1), (1, 1)] := by kernel_rfl
theorem KC : fieldsOf Tryz.prog 201 = some [(0, 1), (1, 1), (2, 8)] := by kernel_rfl
theorem KD : fieldsOf Tryz.prog 203 = some [(0, 1), (1, 1), (2, 23)] := by kernel_rfl
theorem ED : Tryz.prog.follows .mixedOrders = true := by kernel_rfl
theorem bI : L7 Tryz.prog 112 = true := by kernel_rfl
theorem C9 : DY Tryz.prog 3 = some (false, 1) := by kernel_rfl
theorem Vf : DY Tryz.prog 4 = some (false, 1) := by kernel_rfl
theorem Ev : DY Tryz.prog 9 = some (false, 1) := by kernel_rfl
theorem LP : DY Tryz.prog 22 = some (false, 1) := by kernel_rfl
theorem Fo : DY Tryz.prog 24 = some (true, 7) := by kernel_rfl
theorem PB : DY Tryz.prog 25 = some (false, 1) := by kernel_rfl
theorem DG : DY Tryz.prog 26 = some (false, 1) := by kernel_rfl
theorem Ja : DY Tryz.prog 31 = some (false, 1) := by kernel_rfl
theorem BU : DY Tryz.prog 33 = some (true, 5) := by kernel_rfl
theorem XX : DY Tryz.prog 36 = some (false, 1) := by kernel_rfl
theorem YD : DY Tryz.prog 38 = some (false, 1) := by kernel_rfl
theorem YX : DY Tryz.prog 76 = some (false, 1) := by kernel_rfl
theorem aW : DY Tryz.prog 79 = some (false, 1) := by kernel_rfl
theorem JA : DY Tryz.prog 83 = some (false, 1) := by kernel_rfl
theorem Cz : DY Tryz.prog 87 = some (true, 16) := by kernel_rfl
theorem dL : DY Tryz.prog 88 = some (false, 1) := by kernel_rfl
theorem FC : DY Tryz.prog 91 = some (true, 9) := by kernel_rfl
theorem H8 : DY Tryz.prog 106 = some (false, 1) := by kernel_rfl
theorem E0 : DY Tryz.prog 108 = some (true, 2) := by kernel_rfl
theorem QK : DY Tryz.prog 112 = some (true, 2) := by kernel_rfl
theorem G0 : DY Tryz.prog 117 = some (false, 1) := by kernel_rfl
theorem Fj : DY Tryz.prog 120 = some (false, 1) := by kernel_rfl
theorem GG : DY Tryz.prog 122 = some (true, 23) := by kernel_rfl
theorem Hj : DY Tryz.prog 145 = some (true, 2) := by kernel_rfl
theorem Mu : DY Tryz.prog 146 = some (false, 1) := by kernel_rfl
theorem eT : DY Tryz.prog 151 = some (true, 4) := by kernel_rfl
theorem Zf : DY Tryz.prog 162 = some (true, 6) := by kernel_rfl
theorem JO : DY Tryz.prog 163 = some (false, 1) := by kernel_rfl
theorem Od : DY Tryz.prog 165 = some (true, 8) := by kernel_rfl
theorem ZL : DY Tryz.prog 167 = some (true, 15) := by kernel_rfl
theorem eJ : DY Tryz.prog 173 = some (false, 1) := by kernel_rfl
theorem ZY : DY Tryz.prog 175 = some (true, 5) := by kernel_rfl
theorem XO : DY Tryz.prog 176 = some (true, 65) := by kernel_rfl
theorem Ql : DY Tryz.prog 178 = some (false, 1) := by kernel_rfl
theorem Uk : DY Tryz.prog 183 = some (false, 1) := by kernel_rfl
theorem Uf : DY Tryz.prog 184 = some (false, 1) := by kernel_rfl
theorem Qf : DY Tryz.prog 201 = some (true, 10) := by kernel_rfl
theorem KB : DY Tryz.prog 203 = some (true, 25) := by kernel_rfl
theorem SM : Tryz.prog.underlying 151 = some (.array 4 146) := by kernel_rfl
theorem Zg : Tryz.prog.underlying 176 = some (.array 13 175) := by kernel_rfl
theorem jD : Tryz.prog.underlying 4 = some .bool := by kernel_rfl
theorem Ww : Tryz.prog.underlying 9 = some .string := by kernel_rfl
theorem Xj : zeroOf Tryz.prog 3 = some (.int .i64 0) := by kernel_rfl
theorem jR : zeroOf Tryz.prog 5 = some (.int .u8 0) := by kernel_rfl
theorem R9 : zeroOf Tryz.prog 9 = some (.string { data := { toList := [] } }) := by kernel_rfl
theorem a8 : zeroOf Tryz.prog 24 = some (.agg { toList := [.string { data := { toList := [] } }, .string { data := { toList := [] } }, .string { data := { toList := [] } }, .string { data := { toList := [] } }, .string { data := { toList := [] } }, .string { data := { toList := [] } }, .slice none 0 0] }) := by kernel_rfl
theorem fJ : zeroOf Tryz.prog 26 = some (.slice none 0 0) := by kernel_rfl
theorem B8 : zeroOf Tryz.prog 33 = some (.agg { toList := [.int .i64 0, .int .i64 0, .string { data := { toList := [] } }, .slice none 0 0, .slice none 0 0] }) := by kernel_rfl
theorem gK : zeroOf Tryz.prog 38 = some (.int .i64 0) := by kernel_rfl
theorem dS : zeroOf Tryz.prog 81 = some (.agg { toList := [.slice none 0 0, .slice none 0 0, .map none, .int .i64 0] }) := by kernel_rfl
theorem fc : zeroOf Tryz.prog 85 = some (.agg { toList := [.string { data := { toList := [] } }, .string { data := { toList := [] } }, .string { data := { toList := [] } }, .string { data := { toList := [] } }, .string { data := { toList := [] } }, .string { data := { toList := [] } }, .slice none 0 0, .pointer none] }) := by kernel_rfl
theorem EC : zeroOf Tryz.prog 87 = some (.agg { toList := [.int .i64 0, .int .i64 0, .string { data := { toList := [] } }, .slice none 0 0, .slice none 0 0, .int .i64 0, .int .i64 0, .string { data := { toList := [] } }, .slice none 0 0, .slice none 0 0, .int .i64 0, .int .i64 0, .string { data := { toList := [] } }, .slice none 0 0, .slice none 0 0, .bool false] }) := by kernel_rfl
theorem JB : zeroOf Tryz.prog 91 = some (.agg { toList := [.int .i64 0, .int .i64 0, .int .i64 0, .int .i64 0, .int .i64 0, .int .i64 0, .string { data := { toList := [] } }, .slice none 0 0, .slice none 0 0] }) := by kernel_rfl
theorem bw : zeroOf Tryz.prog 100 = some (.agg { toList := [.slice none 0 0, .slice none 0 0, .int .i64 0] }) := by kernel_rfl
theorem Hk : zeroOf Tryz.prog 108 = some (.agg { toList := [.int .i64 0, .slice none 0 0] }) := by kernel_rfl
theorem MD : zeroOf Tryz.prog 112 = some (.agg { toList := [.int .i64 0, .int .i64 0] }) := by kernel_rfl
theorem T7 : zeroOf Tryz.prog 122 = some (.agg { toList := [.int .i64 0, .string { data := { toList := [] } }, .int .i64 0, .int .i64 0, .int .i64 0, .string { data := { toList := [] } }, .slice none 0 0, .slice none 0 0, .int .i64 0, .int .i64 0, .string { data := { toList := [] } }, .slice none 0 0, .slice none 0 0, .int .i64 0, .slice none 0 0, .int .i64 0, .int .i64 0, .int .i64 0, .string { data := { toList := [] } }, .slice none 0 0, .slice none 0 0, .slice none 0 0, .slice none 0 0] }) := by kernel_rfl
theorem JE : zeroOf Tryz.prog 145 = some (.agg { toList := [.int .i64 0, .bool false] }) := by kernel_rfl
theorem ZZ : zeroOf Tryz.prog 151 = some (.agg { toList := [.nilFunc, .nilFunc, .nilFunc, .nilFunc] }) := by kernel_rfl
theorem eX : zeroOf Tryz.prog 162 = some (.agg { toList := [.string { data := { toList := [] } }, .int .i64 0, .int .i64 0, .string { data := { toList := [] } }, .slice none 0 0, .slice none 0 0] }) := by kernel_rfl
theorem eW : zeroOf Tryz.prog 165 = some (.agg { toList := [.int .i64 0, .int .i64 0, .int .i64 0, .string { data := { toList := [] } }, .slice none 0 0, .slice none 0 0, .int .i64 0, .slice none 0 0] }) := by kernel_rfl
theorem dW : zeroOf Tryz.prog 167 = some (.agg { toList := [.string { data := { toList := [] } }, .int .i64 0, .int .i64 0, .string { data := { toList := [] } }, .slice none 0 0, .slice none 0 0, .int .i64 0, .int .i64 0, .int .i64 0, .int .i64 0, .string { data := { toList := [] } }, .slice none 0 0, .slice none 0 0, .int .i64 0, .slice none 0 0] }) := by kernel_rfl
theorem JG : zeroOf Tryz.prog 175 = some (.agg { toList := [.bool false, .bool false, .int .i64 0, .int .i64 0, .int .i64 0] }) := by kernel_rfl
theorem Vt : zeroOf Tryz.prog 176 = some (.agg { toList := [.bool false, .bool false, .int .i64 0, .int .i64 0, .int .i64 0, .bool false, .bool false, .int .i64 0, .int .i64 0, .int .i64 0, .bool false, .bool false, .int .i64 0, .int .i64 0, .int .i64 0, .bool false, .bool false, .int .i64 0, .int .i64 0, .int .i64 0, .bool false, .bool false, .int .i64 0, .int .i64 0, .int .i64 0, .bool false, .bool false, .int .i64 0, .int .i64 0, .int .i64 0, .bool false, .bool false, .int .i64 0, .int .i64 0, .int .i64 0, .bool false, .bool false, .int .i64 0, .int .i64 0, .int .i64 0, .bool false, .bool false, .int .i64 0, .int .i64 0, .int .i64 0, .bool false, .bool false, .int .i64 0, .int .i64 0, .int .i64 0, .bool false, .bool false, .int .i64 0, .int .i64 0, .int .i64 0, .bool false, .bool false, .int .i64 0, .int .i64 0, .int .i64 0, .bool false, .bool false, .int .i64 0, .int .i64 0, .int .i64 0] }) := by kernel_rfl
theorem cw : zeroOf Tryz.prog 178 = some .nilFunc := by kernel_rfl
theorem ZI : zeroOf Tryz.prog 186 = some (.agg { toList := [.pointer none, .slice none 0 0] }) := by kernel_rfl
theorem dQ : zeroOf Tryz.prog 198 = some (.agg { toList := [.int .i64 0, .int .i64 0] }) := by kernel_rfl
theorem Wo : zeroOf Tryz.prog 201 = some (.agg { toList := [.string { data := { toList := [] } }, .bool false, .int .i64 0, .int .i64 0, .int .i64 0, .string { data := { toList := [] } }, .slice none 0 0, .slice none 0 0, .int .i64 0, .slice none 0 0] }) := by kernel_rfl
theorem ZV : zeroOf Tryz.prog 203 = some (.agg { toList := [.slice none 0 0, .slice none 0 0, .int .i64 0, .string { data := { toList := [] } }, .int .i64 0, .int .i64 0, .int .i64 0, .string { data := { toList := [] } }, .slice none 0 0, .slice none 0 0, .int .i64 0, .int .i64 0, .string { data := { toList := [] } }, .slice none 0 0, .slice none 0 0, .int .i64 0, .slice none 0 0, .int .i64 0, .int .i64 0, .int .i64 0, .string { data := { toList := [] } }, .slice none 0 0, .slice none 0 0, .slice none 0 0, .slice none 0 0] }) := by kernel_rfl
end Go.Proofs.YtapmjpihennhaaaGreatDoor
namespace Go.Proofs.YtapmjpihennhaaaGreatDoor
open Go.Abs Go.Eu
theorem _root_.Go.Ar {α : Prop} (h : α := by kernel_rfl) : α := h
theorem _root_.Go.AB {α : Prop} (h : α := by repeat' first | exact trivial | refine And.intro ?_ ?_ | exact Or.inl (by kernel_rfl) | (refine Or.inr (And.intro ?_ ?_) <;> repeat (first | exact List.Mem.head _ | apply List.Mem.tail))) : α := h
theorem _root_.Go.J {α : Prop} (h : α := by first | exact List.Sublist.refl _ | exact .cons _ (.refl _) | exact .cons _ (.cons _ (.refl _)) | exact .cons _ (.cons _ (.cons _ (.refl _))) | exact .cons _ (.cons _ (.cons _ (.cons _ (.refl _))))) : α := h
theorem _root_.Go.Au {α : Prop} (h : α := by simp_all) : α := h
theorem _root_.Go.AK {α : Prop} (h : α := by first | exact List.Sublist.refl _ | exact List.sublist_cons_self _ _) : α := h
theorem Yo : ∀ (a b : Fl), a.vars.length < EB → IA Tryz.prog 69 [LV a, LV b] (.p (.bool (QJ a b))) := by
 intro a b hb
 obtain ⟨ac, av⟩ := a
 obtain ⟨bc, bv⟩ := b
 simp only [EB] at hb
 refine BH Tryz.func69 Ay iF (n := 38) Ay Ay (A2 (A0 (BP Ay Ay (Bj Ay) fun b2 => BP Ay Ay (Bj Ay) fun b3 => Az Ay Ay (A4 Ay) (A5 Ay (A2 (A2 (Bx [0, 1, 2, 3, 4, 5] 19 (fun y => y = .p (.bool (ac != bc || (av.length : Int) != bv.length))) ?_ ?_)))))))
 ·refine A0 (Az Ay Ay (A3 EU Ay Ay) (Az Ay Ay (A9 (i := 1) C9 Ay Ay Ay) (Az Ay Ay (A3 EU Ay Ay) (Az Ay Ay (A9 (i := 0) C9 Ay Ay Ay) (Az Ay Ay (BE Ay Ay Ay) (Az Ay Ay (A1 Ay) (Br 11 Ay (fun g1 => ?_) (fun g1 => ?_))))))))
  ·(try simp only [sd] at g1)
   exact A7 Ay Ay Ay Ay Ay (A7 Ay Ay Ay Ay Ay (A7 Ay Ay Ay Ay Ay (A7 Ay Ay Ay Ay Ay (A7 Ay Ay Ay Ay Ay (A7 Ay Ay Ay Ay Ay (A7 Ay Ay Ay Ay Ay (Az Ay Ay (BC Ay Ay) (A5 Ay (⟨Ay, Ay, AK, pB Au, ⟨Ay, Ay, Ay, Ay, Ay, Ay, trivial⟩⟩)))))))))
  (try simp only [sd] at g1)
  exact A6 Ay Ay Ay Ay (A3 EU Ay Ay) (A6 Ay Ay Ay Ay (A9 (i := 1) H8 Ay Ay Ay) (A6 Ay Ay Ay Ay (DR GY Ay) (A6 Ay Ay Ay Ay (A3 EU Ay Ay) (A6 Ay Ay Ay Ay (A9 (i := 0) H8 Ay Ay Ay) (A6 Ay Ay Ay Ay (DR GY Ay) (A6 Ay Ay Ay Ay (BE Ay Ay Ay) (Az Ay Ay (BC Ay Ay) (A5 Ay (⟨Ay, Ay, AK, pB Au, ⟨Ay, Ay, Ay, Ay, Ay, Ay, trivial⟩⟩)))))))))
 rintro _ rfl
 refine BD Ay (fun c2 => ?_) (fun c2 => ?_)
 ·(try simp only [sd] at c2)
  refine A2 (A0 (Az Ay Ay (A4 Ay) (A5 Ay (BF ⟨Ay, _, [], Bz Ay, nS, ?_⟩))))
  exact ⟨pB (Fc (fun h => by simp at h; simp [h] at *)).symm, rfl⟩
 (try simp only [sd] at c2)
 have h1 : ac = bc ∧ av.length = bv.length := by simp at c2; omega
 refine BG (A2 (A2 (A0 (Az Ay Ay (A4 Ay) (A5 Ay (BT (JY (av.length) (fun i => agree av bv i) (fun i => ⟨38, mk [(2, .ptr b2 0), (3, .ptr b3 0), (5, .p (I i))], [.box b3 ((Dx ⟨bc, bv⟩).map .p), .box b2 ((Dx ⟨ac, av⟩).map .p)], []⟩) (0) Aw (J3 _ _) ?_ ?_)))))))
 ·exact Iq ⟨Ay, Ay, Ay, trivial⟩ J
 intro i hi hC
 refine A2 (A2 (A0 (Az Ay Ay (A1 Ay) (Az Ay Ay (A3 EU Ay Ay) (Az Ay Ay (A9 (i := 1) H8 Ay Ay Ay) (Az Ay Ay (DR GY Ay) (Az Ay Ay (BE Ay Ay Ay) (A5 Ay (BD Ay (fun c3 => ?_) (fun c3 => ?_))))))))))
 ·(try simp only [sd] at c3)
  have hi2 : i < av.length := by simp at c3; omega
  obtain ⟨x, hx⟩ := BO hi2
  obtain ⟨y, hy⟩ := BO (l := bv) (i := i) Aw
  refine BG (A2 (BT (A2 (CW (fun k => false) ED (BA Ay Ay (fun _ => A3 EU Ay Ay) trivial (Ba (j := 1) Ay Ay Ay (fun H i hi => A9 (i := i) H8 Ay hi Ay) AB trivial (BA Ay Ay (fun _ => A1 Ay) trivial (BA Ay Ay (fun _ => BI GY Ay Ay Aw (Gm hx) (Ay)) trivial (BA Ay Ay (fun _ => Bq QK Ay (Ay)) trivial (BA Ay Ay (fun _ => A3 EU Ay Ay) trivial (Ba (j := 0) Ay Ay Ay (fun H i hi => A9 (i := i) H8 Ay hi Ay) AB trivial (BA Ay Ay (fun _ => A1 Ay) trivial (BA Ay Ay (fun _ => BI GY Ay Ay Aw (Gm hy) (Ay)) trivial (BA Ay Ay (fun _ => Bq QK Ay (Ay)) trivial (BA Ay Ay (fun _ => VK bI Ay Ay) trivial (CP Ay Ar (BD Ay (fun c4 => ?_) (fun c4 => ?_))))))))))))))))))
  ·(try simp only [sd] at c4)
   refine A2 (A0 (Az Ay Ay (A4 Ay) (A5 Ay (BF ⟨Ay, _, [], Bz Ay, nS, ?_⟩))))
   exact ⟨pB (Fc (fun h => by simp at h; obtain ⟨_, rfl⟩ := h; rw [hx] at hy; injection hy with hy; subst hy; simp_all)).symm, rfl⟩
  (try simp only [sd] at c4)
  have hxy : x = y := by obtain ⟨x1, x2⟩ := x; obtain ⟨y1, y2⟩ := y; simp at c4; simp [c4]
  subst hxy
  exact BG (A0 (Az Ay Ay (A1 Ay) (Az Ay Ay (CH Ay Ay Aw Aw) (Az Ay Ay (A4 Ay) (A5 Ay (⟨by omega, Jr hC hx hy, Iq ⟨rfl, rfl, rfl, trivial⟩ J⟩))))))
 (try simp only [sd] at c3)
 have hi2 : i = av.length := by simp at c3; omega
 refine B7 (A2 (A0 (Az Ay Ay (A4 Ay) (A5 Ay (BF ⟨Ay, _, [], Bz Ay, nS, ?_⟩)))))
 exact ⟨pB (FT (by rw [h1.1, K2 hC Aw Aw])).symm, Ay⟩
theorem MR : ∀ (a b : List Fl), a.length < EB → (∀ l ∈ a, V3 l) → IA Tryz.prog 38 [ee a, ee b] (.p (.bool (QJ a b))) := by
 intro a b hb hn
 simp only [EB] at hb
 refine BH Tryz.func38 Ay fW (n := 27) Ay Ay (A2 (A0 (Az Ay Ay (A4 Ay) (A5 Ay (A2 (A2 (A0 (Az Ay Ay (A1 Ay) (Az Ay Ay (DR IC Ay) (Az Ay Ay (A1 Ay) (Az Ay Ay (DR IC Ay) (Az Ay Ay (BE Ay Ay Ay) (A5 Ay (BD Ay (fun c1 => ?_) (fun c1 => ?_)))))))))))))))
 ·(try simp only [sd] at c1)
  refine A2 (A0 (Az Ay Ay (A4 Ay) (A5 Ay (BF ⟨Ay, _, [], Bz Ay, nS, ?_⟩))))
  exact ⟨pB (Fc (fun h => by subst h; simp at *)).symm, rfl⟩
 (try simp only [sd] at c1)
 have h1 : a.length = b.length := by simp at c1; omega
 refine BG (A2 (A2 (A0 (Az Ay Ay (A4 Ay) (A5 Ay (BT (JY (a.length) (fun i => agree a b i) (fun i => ⟨27, mk [(0, ee a), (1, ee b), (5, .p (I i))], [], []⟩) (0) Aw (J3 _ _) ?_ ?_)))))))
 ·exact Iq ⟨Ay, Ay, Ay, trivial⟩ J
 intro i hi hC
 refine A2 (A2 (A0 (Az Ay Ay (A1 Ay) (Az Ay Ay (A1 Ay) (Az Ay Ay (DR IC Ay) (Az Ay Ay (BE Ay Ay Ay) (A5 Ay (BD Ay (fun c2 => ?_) (fun c2 => ?_)))))))))
 ·(try simp only [sd] at c2)
  have hi2 : i < a.length := by simp at c2; omega
  obtain ⟨x, hx⟩ := BO hi2
  obtain ⟨y, hy⟩ := BO (l := b) (i := i) Aw
  refine BG (A2 (BT (A2 (CW (fun k => false) ED (BA Ay Ay (fun _ => A1 Ay) trivial (BA Ay Ay (fun _ => A1 Ay) trivial (BA Ay Ay (fun _ => BI IC Ay Ay Aw (Kv hx) (MJ _)) trivial (BA Ay Ay (fun _ => Bq E0 Ay (MJ _)) trivial (BA Ay Ay (fun _ => A1 Ay) trivial (BA Ay Ay (fun _ => A1 Ay) trivial (BA Ay Ay (fun _ => BI IC Ay Ay Aw (Kv hy) (MJ _)) trivial (BA Ay Ay (fun _ => Bq E0 Ay (MJ _)) trivial (BA Ay Ay (fun _ => Bp Ay Ay (Yo x y (hn x (List.mem_of_getElem? hx)).vars) Ay) trivial (BA Ay Ay (fun _ => Cp Ay) trivial (CP Ay Ar (BD Ay (fun c3 => ?_) (fun c3 => ?_)))))))))))))))))
  ·(try simp only [sd] at c3)
   refine A2 (A0 (Az Ay Ay (A4 Ay) (A5 Ay (BF ⟨Ay, _, [], Bz Ay, nS, ?_⟩))))
   exact ⟨pB (Fc (fun h => by subst h; rw [hx] at hy; injection hy with hy; subst hy; simp [FT] at *)).symm, rfl⟩
  (try simp only [sd] at c3)
  have hxy : x = y := LI.1 (by simpa using c3)
  subst hxy
  exact BG (A0 (Az Ay Ay (A1 Ay) (Az Ay Ay (CH Ay Ay Aw Aw) (Az Ay Ay (A4 Ay) (A5 Ay (⟨by omega, Jr hC hx hy, Iq ⟨rfl, rfl, rfl, trivial⟩ J⟩))))))
 (try simp only [sd] at c2)
 have hi2 : i = a.length := by simp at c2; omega
 refine B7 (A2 (A0 (Az Ay Ay (A4 Ay) (A5 Ay (BF ⟨Ay, _, [], Bz Ay, nS, ?_⟩)))))
 exact ⟨pB (FT (K2 hC Aw Aw)).symm, Ay⟩
theorem RL : ∀ (n : Nat) (a b : Tm), size a ≤ n → Nd a → IA Tryz.prog 12 [TV a, TV b] (.p (.bool (QJ a b))) := by
 intro n
 induction n with
 | zero => intro a b h; cases a; simp [size] at h
 | succ n ih =>
  intro a b hs hnd
  obtain ⟨ak, ai, an, al, aks⟩ := a
  obtain ⟨bk, bi, bn, bl, bks⟩ := b
  simp only [size] at hs
  simp only [Nd, EB] at hnd
  obtain ⟨hn1, hn2, hn3, hn4, hn5, hn6⟩ := hnd
  refine BH Tryz.func12 Ay gb (n := 61) Ay Ay (A2 (A0 (BP Ay Ay (Bj Ay) fun b2 => BP Ay Ay (Bj Ay) fun b3 => Az Ay Ay (A4 Ay) (A5 Ay (A2 (A2 (Bx [0, 1, 2, 3, 4, 5] 41 (fun y => y = .p (.bool (ak != bk || ai != bi || !(an.toList == bn.toList) || !(QJ al bl) || (((Bg aks).length : Int) != (Bg bks).length)))) ?_ ?_)))))))
  ·refine A0 (Az Ay Ay (A3 CV Ay Ay) (Az Ay Ay (A9 (i := 1) C9 Ay Ay Ay) (Az Ay Ay (A3 CV Ay Ay) (Az Ay Ay (A9 (i := 0) C9 Ay Ay Ay) (Az Ay Ay (BE Ay Ay Ay) (Az Ay Ay (A1 Ay) (Br 11 Ay (fun g1 => ?_) (fun g1 => ?_))))))))
   ·(try simp only [sd] at g1)
    refine A7 Ay Ay Ay Ay Ay (A7 Ay Ay Ay Ay Ay (A7 Ay Ay Ay Ay Ay (A7 Ay Ay Ay Ay Ay (A7 Ay Ay Ay Ay Ay (Az Ay Ay (BC Ay Ay) (Az Ay Ay (A1 Ay) (Br 18 Ay (fun g2 => ?_) (fun g2 => ?_))))))))
    ·(try simp only [sd] at g2)
     refine A7 Ay Ay Ay Ay Ay (A7 Ay Ay Ay Ay Ay (A7 Ay Ay Ay Ay Ay (A7 Ay Ay Ay Ay Ay (A7 Ay Ay Ay Ay Ay (Az Ay Ay (BC Ay Ay) (Az Ay Ay (A1 Ay) (Br 25 Ay (fun g3 => ?_) (fun g3 => ?_))))))))
     ·(try simp only [sd] at g3)
      refine A7 Ay Ay Ay Ay Ay (A7 Ay Ay Ay Ay Ay (A7 Ay Ay Ay Ay Ay (A7 Ay Ay Ay Ay Ay (A7 Ay Ay Ay Ay Ay (A7 Ay Ay Ay Ay Ay (Az Ay Ay (BC Ay Ay) (Az Ay Ay (A1 Ay) (Br 33 Ay (fun g4 => ?_) (fun g4 => ?_)))))))))
      ·(try simp only [sd] at g4)
       exact A7 Ay Ay Ay Ay Ay (A7 Ay Ay Ay Ay Ay (A7 Ay Ay Ay Ay Ay (A7 Ay Ay Ay Ay Ay (A7 Ay Ay Ay Ay Ay (A7 Ay Ay Ay Ay Ay (A7 Ay Ay Ay Ay Ay (Az Ay Ay (BC Ay Ay) (A5 Ay (⟨Ay, Ay, AK, pB Au, ⟨Ay, Ay, Ay, Ay, Ay, Ay, trivial⟩⟩)))))))))
      (try simp only [sd] at g4)
      exact A6 Ay Ay Ay Ay (A3 CV Ay Ay) (A6 Ay Ay Ay Ay (A9 (i := 1) DG Ay Ay Ay) (A6 Ay Ay Ay Ay (DR CL Ay) (A6 Ay Ay Ay Ay (A3 CV Ay Ay) (A6 Ay Ay Ay Ay (A9 (i := 0) DG Ay Ay Ay) (A6 Ay Ay Ay Ay (DR CL Ay) (A6 Ay Ay Ay Ay (BE Ay Ay Ay) (Az Ay Ay (BC Ay Ay) (A5 Ay (⟨Ay, Ay, AK, pB Au, ⟨Ay, Ay, Ay, Ay, Ay, Ay, trivial⟩⟩)))))))))
     (try simp only [sd] at g3)
     refine A6 Ay Ay Ay Ay (A3 CV Ay Ay) (A6 Ay Ay Ay Ay (A9 (i := 1) Ja Ay Ay Ay) (A6 Ay Ay Ay Ay (A3 CV Ay Ay) (A6 Ay Ay Ay Ay (A9 (i := 0) Ja Ay Ay Ay) (A6 Ay Ay Ay Ay (Bp Ay Ay (MR al bl hn2 hn3) Ay) (A6 Ay Ay Ay Ay (Cp Ay) (Az Ay Ay (BC Ay Ay) (Az Ay Ay (A1 Ay) (Br 33 Ay (fun g5 => ?_) (fun g5 => ?_)))))))))
     ·(try simp only [sd] at g5)
      exact A7 Ay Ay Ay Ay Ay (A7 Ay Ay Ay Ay Ay (A7 Ay Ay Ay Ay Ay (A7 Ay Ay Ay Ay Ay (A7 Ay Ay Ay Ay Ay (A7 Ay Ay Ay Ay Ay (A7 Ay Ay Ay Ay Ay (Az Ay Ay (BC Ay Ay) (A5 Ay (⟨Ay, Ay, AK, pB Au, ⟨Ay, Ay, Ay, Ay, Ay, Ay, trivial⟩⟩)))))))))
     (try simp only [sd] at g5)
     exact A6 Ay Ay Ay Ay (A3 CV Ay Ay) (A6 Ay Ay Ay Ay (A9 (i := 1) DG Ay Ay Ay) (A6 Ay Ay Ay Ay (DR CL Ay) (A6 Ay Ay Ay Ay (A3 CV Ay Ay) (A6 Ay Ay Ay Ay (A9 (i := 0) DG Ay Ay Ay) (A6 Ay Ay Ay Ay (DR CL Ay) (A6 Ay Ay Ay Ay (BE Ay Ay Ay) (Az Ay Ay (BC Ay Ay) (A5 Ay (⟨Ay, Ay, AK, pB Au, ⟨Ay, Ay, Ay, Ay, Ay, Ay, trivial⟩⟩)))))))))
    (try simp only [sd] at g2)
    refine A6 Ay Ay Ay Ay (A3 CV Ay Ay) (A6 Ay Ay Ay Ay (A9 (i := 1) Ev Ay Ay Ay) (A6 Ay Ay Ay Ay (A3 CV Ay Ay) (A6 Ay Ay Ay Ay (A9 (i := 0) Ev Ay Ay Ay) (A6 Ay Ay Ay Ay (LA Ay Ay) (Az Ay Ay (BC Ay Ay) (Az Ay Ay (A1 Ay) (Br 25 Ay (fun g6 => ?_) (fun g6 => ?_))))))))
    ·(try simp only [sd] at g6)
     refine A7 Ay Ay Ay Ay Ay (A7 Ay Ay Ay Ay Ay (A7 Ay Ay Ay Ay Ay (A7 Ay Ay Ay Ay Ay (A7 Ay Ay Ay Ay Ay (A7 Ay Ay Ay Ay Ay (Az Ay Ay (BC Ay Ay) (Az Ay Ay (A1 Ay) (Br 33 Ay (fun g7 => ?_) (fun g7 => ?_)))))))))
     ·(try simp only [sd] at g7)
      exact A7 Ay Ay Ay Ay Ay (A7 Ay Ay Ay Ay Ay (A7 Ay Ay Ay Ay Ay (A7 Ay Ay Ay Ay Ay (A7 Ay Ay Ay Ay Ay (A7 Ay Ay Ay Ay Ay (A7 Ay Ay Ay Ay Ay (Az Ay Ay (BC Ay Ay) (A5 Ay (⟨Ay, Ay, AK, pB Au, ⟨Ay, Ay, Ay, Ay, Ay, Ay, trivial⟩⟩)))))))))
     (try simp only [sd] at g7)
     exact A6 Ay Ay Ay Ay (A3 CV Ay Ay) (A6 Ay Ay Ay Ay (A9 (i := 1) DG Ay Ay Ay) (A6 Ay Ay Ay Ay (DR CL Ay) (A6 Ay Ay Ay Ay (A3 CV Ay Ay) (A6 Ay Ay Ay Ay (A9 (i := 0) DG Ay Ay Ay) (A6 Ay Ay Ay Ay (DR CL Ay) (A6 Ay Ay Ay Ay (BE Ay Ay Ay) (Az Ay Ay (BC Ay Ay) (A5 Ay (⟨Ay, Ay, AK, pB Au, ⟨Ay, Ay, Ay, Ay, Ay, Ay, trivial⟩⟩)))))))))
    (try simp only [sd] at g6)
    refine A6 Ay Ay Ay Ay (A3 CV Ay Ay) (A6 Ay Ay Ay Ay (A9 (i := 1) Ja Ay Ay Ay) (A6 Ay Ay Ay Ay (A3 CV Ay Ay) (A6 Ay Ay Ay Ay (A9 (i := 0) Ja Ay Ay Ay) (A6 Ay Ay Ay Ay (Bp Ay Ay (MR al bl hn2 hn3) Ay) (A6 Ay Ay Ay Ay (Cp Ay) (Az Ay Ay (BC Ay Ay) (Az Ay Ay (A1 Ay) (Br 33 Ay (fun g8 => ?_) (fun g8 => ?_)))))))))
    ·(try simp only [sd] at g8)
     exact A7 Ay Ay Ay Ay Ay (A7 Ay Ay Ay Ay Ay (A7 Ay Ay Ay Ay Ay (A7 Ay Ay Ay Ay Ay (A7 Ay Ay Ay Ay Ay (A7 Ay Ay Ay Ay Ay (A7 Ay Ay Ay Ay Ay (Az Ay Ay (BC Ay Ay) (A5 Ay (⟨Ay, Ay, AK, pB Au, ⟨Ay, Ay, Ay, Ay, Ay, Ay, trivial⟩⟩)))))))))
    (try simp only [sd] at g8)
    exact A6 Ay Ay Ay Ay (A3 CV Ay Ay) (A6 Ay Ay Ay Ay (A9 (i := 1) DG Ay Ay Ay) (A6 Ay Ay Ay Ay (DR CL Ay) (A6 Ay Ay Ay Ay (A3 CV Ay Ay) (A6 Ay Ay Ay Ay (A9 (i := 0) DG Ay Ay Ay) (A6 Ay Ay Ay Ay (DR CL Ay) (A6 Ay Ay Ay Ay (BE Ay Ay Ay) (Az Ay Ay (BC Ay Ay) (A5 Ay (⟨Ay, Ay, AK, pB Au, ⟨Ay, Ay, Ay, Ay, Ay, Ay, trivial⟩⟩)))))))))
   (try simp only [sd] at g1)
   refine A6 Ay Ay Ay Ay (A3 CV Ay Ay) (A6 Ay Ay Ay Ay (A9 (i := 1) C9 Ay Ay Ay) (A6 Ay Ay Ay Ay (A3 CV Ay Ay) (A6 Ay Ay Ay Ay (A9 (i := 0) C9 Ay Ay Ay) (A6 Ay Ay Ay Ay (BE Ay Ay Ay) (Az Ay Ay (BC Ay Ay) (Az Ay Ay (A1 Ay) (Br 18 Ay (fun g9 => ?_) (fun g9 => ?_))))))))
   ·(try simp only [sd] at g9)
    refine A7 Ay Ay Ay Ay Ay (A7 Ay Ay Ay Ay Ay (A7 Ay Ay Ay Ay Ay (A7 Ay Ay Ay Ay Ay (A7 Ay Ay Ay Ay Ay (Az Ay Ay (BC Ay Ay) (Az Ay Ay (A1 Ay) (Br 25 Ay (fun g10 => ?_) (fun g10 => ?_))))))))
    ·(try simp only [sd] at g10)
     refine A7 Ay Ay Ay Ay Ay (A7 Ay Ay Ay Ay Ay (A7 Ay Ay Ay Ay Ay (A7 Ay Ay Ay Ay Ay (A7 Ay Ay Ay Ay Ay (A7 Ay Ay Ay Ay Ay (Az Ay Ay (BC Ay Ay) (Az Ay Ay (A1 Ay) (Br 33 Ay (fun g11 => ?_) (fun g11 => ?_)))))))))
     ·(try simp only [sd] at g11)
      exact A7 Ay Ay Ay Ay Ay (A7 Ay Ay Ay Ay Ay (A7 Ay Ay Ay Ay Ay (A7 Ay Ay Ay Ay Ay (A7 Ay Ay Ay Ay Ay (A7 Ay Ay Ay Ay Ay (A7 Ay Ay Ay Ay Ay (Az Ay Ay (BC Ay Ay) (A5 Ay (⟨Ay, Ay, AK, pB Au, ⟨Ay, Ay, Ay, Ay, Ay, Ay, trivial⟩⟩)))))))))
     (try simp only [sd] at g11)
     exact A6 Ay Ay Ay Ay (A3 CV Ay Ay) (A6 Ay Ay Ay Ay (A9 (i := 1) DG Ay Ay Ay) (A6 Ay Ay Ay Ay (DR CL Ay) (A6 Ay Ay Ay Ay (A3 CV Ay Ay) (A6 Ay Ay Ay Ay (A9 (i := 0) DG Ay Ay Ay) (A6 Ay Ay Ay Ay (DR CL Ay) (A6 Ay Ay Ay Ay (BE Ay Ay Ay) (Az Ay Ay (BC Ay Ay) (A5 Ay (⟨Ay, Ay, AK, pB Au, ⟨Ay, Ay, Ay, Ay, Ay, Ay, trivial⟩⟩)))))))))
    (try simp only [sd] at g10)
    refine A6 Ay Ay Ay Ay (A3 CV Ay Ay) (A6 Ay Ay Ay Ay (A9 (i := 1) Ja Ay Ay Ay) (A6 Ay Ay Ay Ay (A3 CV Ay Ay) (A6 Ay Ay Ay Ay (A9 (i := 0) Ja Ay Ay Ay) (A6 Ay Ay Ay Ay (Bp Ay Ay (MR al bl hn2 hn3) Ay) (A6 Ay Ay Ay Ay (Cp Ay) (Az Ay Ay (BC Ay Ay) (Az Ay Ay (A1 Ay) (Br 33 Ay (fun g12 => ?_) (fun g12 => ?_)))))))))
    ·(try simp only [sd] at g12)
     exact A7 Ay Ay Ay Ay Ay (A7 Ay Ay Ay Ay Ay (A7 Ay Ay Ay Ay Ay (A7 Ay Ay Ay Ay Ay (A7 Ay Ay Ay Ay Ay (A7 Ay Ay Ay Ay Ay (A7 Ay Ay Ay Ay Ay (Az Ay Ay (BC Ay Ay) (A5 Ay (⟨Ay, Ay, AK, pB Au, ⟨Ay, Ay, Ay, Ay, Ay, Ay, trivial⟩⟩)))))))))
    (try simp only [sd] at g12)
    exact A6 Ay Ay Ay Ay (A3 CV Ay Ay) (A6 Ay Ay Ay Ay (A9 (i := 1) DG Ay Ay Ay) (A6 Ay Ay Ay Ay (DR CL Ay) (A6 Ay Ay Ay Ay (A3 CV Ay Ay) (A6 Ay Ay Ay Ay (A9 (i := 0) DG Ay Ay Ay) (A6 Ay Ay Ay Ay (DR CL Ay) (A6 Ay Ay Ay Ay (BE Ay Ay Ay) (Az Ay Ay (BC Ay Ay) (A5 Ay (⟨Ay, Ay, AK, pB Au, ⟨Ay, Ay, Ay, Ay, Ay, Ay, trivial⟩⟩)))))))))
   (try simp only [sd] at g9)
   refine A6 Ay Ay Ay Ay (A3 CV Ay Ay) (A6 Ay Ay Ay Ay (A9 (i := 1) Ev Ay Ay Ay) (A6 Ay Ay Ay Ay (A3 CV Ay Ay) (A6 Ay Ay Ay Ay (A9 (i := 0) Ev Ay Ay Ay) (A6 Ay Ay Ay Ay (LA Ay Ay) (Az Ay Ay (BC Ay Ay) (Az Ay Ay (A1 Ay) (Br 25 Ay (fun g13 => ?_) (fun g13 => ?_))))))))
   ·(try simp only [sd] at g13)
    refine A7 Ay Ay Ay Ay Ay (A7 Ay Ay Ay Ay Ay (A7 Ay Ay Ay Ay Ay (A7 Ay Ay Ay Ay Ay (A7 Ay Ay Ay Ay Ay (A7 Ay Ay Ay Ay Ay (Az Ay Ay (BC Ay Ay) (Az Ay Ay (A1 Ay) (Br 33 Ay (fun g14 => ?_) (fun g14 => ?_)))))))))
    ·(try simp only [sd] at g14)
     exact A7 Ay Ay Ay Ay Ay (A7 Ay Ay Ay Ay Ay (A7 Ay Ay Ay Ay Ay (A7 Ay Ay Ay Ay Ay (A7 Ay Ay Ay Ay Ay (A7 Ay Ay Ay Ay Ay (A7 Ay Ay Ay Ay Ay (Az Ay Ay (BC Ay Ay) (A5 Ay (⟨Ay, Ay, AK, pB Au, ⟨Ay, Ay, Ay, Ay, Ay, Ay, trivial⟩⟩)))))))))
    (try simp only [sd] at g14)
    exact A6 Ay Ay Ay Ay (A3 CV Ay Ay) (A6 Ay Ay Ay Ay (A9 (i := 1) DG Ay Ay Ay) (A6 Ay Ay Ay Ay (DR CL Ay) (A6 Ay Ay Ay Ay (A3 CV Ay Ay) (A6 Ay Ay Ay Ay (A9 (i := 0) DG Ay Ay Ay) (A6 Ay Ay Ay Ay (DR CL Ay) (A6 Ay Ay Ay Ay (BE Ay Ay Ay) (Az Ay Ay (BC Ay Ay) (A5 Ay (⟨Ay, Ay, AK, pB Au, ⟨Ay, Ay, Ay, Ay, Ay, Ay, trivial⟩⟩)))))))))
   (try simp only [sd] at g13)
   refine A6 Ay Ay Ay Ay (A3 CV Ay Ay) (A6 Ay Ay Ay Ay (A9 (i := 1) Ja Ay Ay Ay) (A6 Ay Ay Ay Ay (A3 CV Ay Ay) (A6 Ay Ay Ay Ay (A9 (i := 0) Ja Ay Ay Ay) (A6 Ay Ay Ay Ay (Bp Ay Ay (MR al bl hn2 hn3) Ay) (A6 Ay Ay Ay Ay (Cp Ay) (Az Ay Ay (BC Ay Ay) (Az Ay Ay (A1 Ay) (Br 33 Ay (fun g15 => ?_) (fun g15 => ?_)))))))))
   ·(try simp only [sd] at g15)
    exact A7 Ay Ay Ay Ay Ay (A7 Ay Ay Ay Ay Ay (A7 Ay Ay Ay Ay Ay (A7 Ay Ay Ay Ay Ay (A7 Ay Ay Ay Ay Ay (A7 Ay Ay Ay Ay Ay (A7 Ay Ay Ay Ay Ay (Az Ay Ay (BC Ay Ay) (A5 Ay (⟨Ay, Ay, AK, pB Au, ⟨Ay, Ay, Ay, Ay, Ay, Ay, trivial⟩⟩)))))))))
   (try simp only [sd] at g15)
   exact A6 Ay Ay Ay Ay (A3 CV Ay Ay) (A6 Ay Ay Ay Ay (A9 (i := 1) DG Ay Ay Ay) (A6 Ay Ay Ay Ay (DR CL Ay) (A6 Ay Ay Ay Ay (A3 CV Ay Ay) (A6 Ay Ay Ay Ay (A9 (i := 0) DG Ay Ay Ay) (A6 Ay Ay Ay Ay (DR CL Ay) (A6 Ay Ay Ay Ay (BE Ay Ay Ay) (Az Ay Ay (BC Ay Ay) (A5 Ay (⟨Ay, Ay, AK, pB Au, ⟨Ay, Ay, Ay, Ay, Ay, Ay, trivial⟩⟩)))))))))
  rintro _ rfl
  refine BD Ay (fun c16 => ?_) (fun c16 => ?_)
  ·(try simp only [sd] at c16)
   refine A2 (A0 (Az Ay Ay (A4 Ay) (A5 Ay (BF ⟨Ay, _, [], Bz Ay, nS, ?_⟩))))
   exact ⟨pB (Fc (fun h => by simp at h; simp [h, FT] at *)).symm, rfl⟩
  (try simp only [sd] at c16)
  have h1 : ak = bk ∧ ai = bi ∧ an.toList = bn.toList ∧ al = bl ∧ aks.length = bks.length := by simp [B5, LI] at c16; obtain ⟨⟨⟨⟨e1, e2⟩, e3⟩, e4⟩, e5⟩ := c16; exact ⟨e1, e2, e3, e4, by omega⟩
  refine BG (A2 (A2 (A0 (Az Ay Ay (A4 Ay) (A5 Ay (BT (JY (aks.length) (fun i => agree aks bks i) (fun i => ⟨61, mk [(2, .ptr b2 0), (3, .ptr b3 0), (5, .p (I i))], [.box b3 ((Bu (.mk bk bi bn bl bks)).map .p), .box b2 ((Bu (.mk ak ai an al aks)).map .p)], []⟩) (0) Aw (J3 _ _) ?_ ?_)))))))
  ·exact Iq ⟨Ay, Ay, Ay, trivial⟩ J
  intro i hi hC
  refine A2 (A2 (A0 (Az Ay Ay (A1 Ay) (Az Ay Ay (A3 CV Ay Ay) (Az Ay Ay (A9 (i := 1) DG Ay Ay Ay) (Az Ay Ay (DR CL Ay) (Az Ay Ay (BE Ay Ay Ay) (A5 Ay (BD Ay (fun c17 => ?_) (fun c17 => ?_))))))))))
  ·(try simp only [sd] at c17)
   have hi2 : i < aks.length := by simp [B5] at c17; omega
   obtain ⟨x, hx⟩ := BO hi2
   obtain ⟨y, hy⟩ := BO (l := bks) (i := i) Aw
   refine BG (A2 (BT (A2 (CW (fun k => false) ED (BA Ay Ay (fun _ => A3 CV Ay Ay) trivial (Ba (j := 1) Ay Ay Ay (fun H i hi => A9 (i := i) DG Ay hi Ay) AB trivial (BA Ay Ay (fun _ => A1 Ay) trivial (BA Ay Ay (fun _ => BI CL Ay Ay Aw (CU hx) (Bd _)) trivial (BA Ay Ay (fun _ => Bq BU Ay (Bd _)) trivial (BA Ay Ay (fun _ => A3 CV Ay Ay) trivial (Ba (j := 0) Ay Ay Ay (fun H i hi => A9 (i := i) DG Ay hi Ay) AB trivial (BA Ay Ay (fun _ => A1 Ay) trivial (BA Ay Ay (fun _ => BI CL Ay Ay Aw (CU hy) (Bd _)) trivial (BA Ay Ay (fun _ => Bq BU Ay (Bd _)) trivial ?_))))))))))))))
   refine BA Ay Ay (fun _ => Bp Ay Ay (ih x y (by have := DM hx; omega) (D7 hn5 hx)) Ay) trivial (BA Ay Ay (fun _ => Cp Ay) trivial (CP Ay Ar (BD Ay (fun c18 => ?_) (fun c18 => ?_))))
   ·(try simp only [sd] at c18)
    refine A2 (A0 (Az Ay Ay (A4 Ay) (A5 Ay (BF ⟨Ay, _, [], Bz Ay, nS, ?_⟩))))
    exact ⟨pB (Fc (fun h => by simp at h; obtain ⟨_, _, _, _, rfl⟩ := h; rw [hx] at hy; injection hy with hy; subst hy; simp [FT] at *)).symm, rfl⟩
   (try simp only [sd] at c18)
   have hxy : x = y := LI.1 (by simpa using c18)
   subst hxy
   exact BG (A0 (Az Ay Ay (A1 Ay) (Az Ay Ay (CH Ay Ay Aw Aw) (Az Ay Ay (A4 Ay) (A5 Ay (⟨by omega, Jr hC hx hy, Iq ⟨rfl, rfl, rfl, trivial⟩ J⟩))))))
  (try simp only [sd] at c17)
  have hi2 : i = aks.length := by simp [B5] at c17; omega
  refine B7 (A2 (A0 (Az Ay Ay (A4 Ay) (A5 Ay (BF ⟨Ay, _, [], Bz Ay, nS, ?_⟩)))))
  exact ⟨pB (FT (by obtain ⟨e1, e2, e3, e4, e5⟩ := h1; rw [e1, e2, e4, JX e3, K2 hC Aw Aw])).symm, rfl⟩
theorem _root_.Go.Aj {α : Prop} (h : α := by simp_all [arity]) : α := h
theorem Z2 : ∀ (k : Int), IA Tryz.prog 132 [.p (I k)] (.p (I (arity k))) := by
 intro k
 refine BH Tryz.func132 Ay dz (n := 15) Ay Ay (A2 (A0 (Az Ay Ay (A4 Ay) (A5 Ay (A2 (A2 (A0 (Az Ay Ay (A1 Ay) (A5 Ay (BT (A2 (A2 (A0 (Az Ay Ay (BE Ay Ay Ay) (Az Ay Ay (A4 Ay) (A5 Ay (BD Ay (fun c1 => ?_) (fun c1 => ?_))))))))))))))))))
 ·(try simp only [sd] at c1)
  refine BG (BD Ay (fun c2 => ?_) (fun c2 => ?_))
  ·(try simp only [sd] at c2)
   refine A2 (A0 (Az Ay Ay (A4 Ay) (A5 Ay (BF ⟨Ay, _, [], Bz Ay, nS, ?_⟩))))
   exact ⟨pI Aj, Ay⟩
  (try simp only [sd] at c2)
  refine A2 (A2 (A0 (Az Ay Ay (BE Ay Ay Ay) (Az Ay Ay (A4 Ay) (A5 Ay (BD Ay (fun c3 => ?_) (fun c3 => ?_)))))))
  ·(try simp only [sd] at c3)
   refine BG (BD Ay (fun c4 => ?_) (fun c4 => ?_))
   ·(try simp only [sd] at c4)
    refine A2 (A0 (Az Ay Ay (A4 Ay) (A5 Ay (BF ⟨Ay, _, [], Bz Ay, nS, ?_⟩))))
    exact ⟨pI Aj, Ay⟩
   (try simp only [sd] at c4)
   refine A2 (A2 (A0 (Az Ay Ay (BE Ay Ay Ay) (Az Ay Ay (A4 Ay) (A5 Ay (BD Ay (fun c5 => ?_) (fun c5 => ?_)))))))
   ·(try simp only [sd] at c5)
    refine BG (BD Ay (fun c6 => ?_) (fun c6 => ?_))
    ·(try simp only [sd] at c6)
     refine A2 (A0 (Az Ay Ay (A4 Ay) (A5 Ay (BF ⟨Ay, _, [], Bz Ay, nS, ?_⟩))))
     exact ⟨pI Aj, Ay⟩
    (try simp only [sd] at c6)
    refine BG (A2 (A0 (Az Ay Ay (A4 Ay) (A5 Ay (BF ⟨Ay, _, [], Bz Ay, nS, ?_⟩)))))
    exact ⟨pI Aj, Ay⟩
   (try simp only [sd] at c5)
   refine A0 (Az Ay Ay (BE Ay Ay Ay) (Az Ay Ay (A4 Ay) (A5 Ay (BD Ay (fun c7 => ?_) (fun c7 => ?_)))))
   ·(try simp only [sd] at c7)
    refine A2 (A0 (Az Ay Ay (A4 Ay) (A5 Ay (BF ⟨Ay, _, [], Bz Ay, nS, ?_⟩))))
    exact ⟨pI Aj, Ay⟩
   (try simp only [sd] at c7)
   refine BG (A2 (A0 (Az Ay Ay (A4 Ay) (A5 Ay (BF ⟨Ay, _, [], Bz Ay, nS, ?_⟩)))))
   exact ⟨pI Aj, Ay⟩
  (try simp only [sd] at c3)
  refine A0 (Az Ay Ay (BE Ay Ay Ay) (Az Ay Ay (A4 Ay) (A5 Ay (BD Ay (fun c8 => ?_) (fun c8 => ?_)))))
  ·(try simp only [sd] at c8)
   refine A2 (A0 (Az Ay Ay (A4 Ay) (A5 Ay (BF ⟨Ay, _, [], Bz Ay, nS, ?_⟩))))
   exact ⟨pI Aj, Ay⟩
  (try simp only [sd] at c8)
  refine A2 (A2 (A0 (Az Ay Ay (BE Ay Ay Ay) (Az Ay Ay (A4 Ay) (A5 Ay (BD Ay (fun c9 => ?_) (fun c9 => ?_)))))))
  ·(try simp only [sd] at c9)
   refine BG (BD Ay (fun c10 => ?_) (fun c10 => ?_))
   ·(try simp only [sd] at c10)
    refine A2 (A0 (Az Ay Ay (A4 Ay) (A5 Ay (BF ⟨Ay, _, [], Bz Ay, nS, ?_⟩))))
    exact ⟨pI Aj, Ay⟩
   (try simp only [sd] at c10)
   refine BG (A2 (A0 (Az Ay Ay (A4 Ay) (A5 Ay (BF ⟨Ay, _, [], Bz Ay, nS, ?_⟩)))))
   exact ⟨pI Aj, Ay⟩
  (try simp only [sd] at c9)
  refine A0 (Az Ay Ay (BE Ay Ay Ay) (Az Ay Ay (A4 Ay) (A5 Ay (BD Ay (fun c11 => ?_) (fun c11 => ?_)))))
  ·(try simp only [sd] at c11)
   refine A2 (A0 (Az Ay Ay (A4 Ay) (A5 Ay (BF ⟨Ay, _, [], Bz Ay, nS, ?_⟩))))
   exact ⟨pI Aj, Ay⟩
  (try simp only [sd] at c11)
  refine BG (A2 (A0 (Az Ay Ay (A4 Ay) (A5 Ay (BF ⟨Ay, _, [], Bz Ay, nS, ?_⟩)))))
  exact ⟨pI Aj, Ay⟩
 (try simp only [sd] at c1)
 refine A2 (A0 (Az Ay Ay (BE Ay Ay Ay) (Az Ay Ay (A4 Ay) (A5 Ay (BD Ay (fun c12 => ?_) (fun c12 => ?_))))))
 ·(try simp only [sd] at c12)
  refine BG (BD Ay (fun c13 => ?_) (fun c13 => ?_))
  ·(try simp only [sd] at c13)
   refine A2 (A0 (Az Ay Ay (A4 Ay) (A5 Ay (BF ⟨Ay, _, [], Bz Ay, nS, ?_⟩))))
   exact ⟨pI Aj, Ay⟩
  (try simp only [sd] at c13)
  refine A2 (A2 (A0 (Az Ay Ay (BE Ay Ay Ay) (Az Ay Ay (A4 Ay) (A5 Ay (BD Ay (fun c14 => ?_) (fun c14 => ?_)))))))
  ·(try simp only [sd] at c14)
   refine BG (BD Ay (fun c15 => ?_) (fun c15 => ?_))
   ·(try simp only [sd] at c15)
    refine A2 (A0 (Az Ay Ay (A4 Ay) (A5 Ay (BF ⟨Ay, _, [], Bz Ay, nS, ?_⟩))))
    exact ⟨pI Aj, Ay⟩
   (try simp only [sd] at c15)
   refine A2 (A2 (A0 (Az Ay Ay (BE Ay Ay Ay) (Az Ay Ay (A4 Ay) (A5 Ay (BD Ay (fun c16 => ?_) (fun c16 => ?_)))))))
   ·(try simp only [sd] at c16)
    refine BG (BD Ay (fun c17 => ?_) (fun c17 => ?_))
    ·(try simp only [sd] at c17)
     refine A2 (A0 (Az Ay Ay (A4 Ay) (A5 Ay (BF ⟨Ay, _, [], Bz Ay, nS, ?_⟩))))
     exact ⟨pI Aj, Ay⟩
    (try simp only [sd] at c17)
    refine BG (A2 (A0 (Az Ay Ay (A4 Ay) (A5 Ay (BF ⟨Ay, _, [], Bz Ay, nS, ?_⟩)))))
    exact ⟨pI Aj, Ay⟩
   (try simp only [sd] at c16)
   refine A0 (Az Ay Ay (BE Ay Ay Ay) (Az Ay Ay (A4 Ay) (A5 Ay (BD Ay (fun c18 => ?_) (fun c18 => ?_)))))
   ·(try simp only [sd] at c18)
    refine A2 (A0 (Az Ay Ay (A4 Ay) (A5 Ay (BF ⟨Ay, _, [], Bz Ay, nS, ?_⟩))))
    exact ⟨pI Aj, Ay⟩
   (try simp only [sd] at c18)
   refine BG (A2 (A0 (Az Ay Ay (A4 Ay) (A5 Ay (BF ⟨Ay, _, [], Bz Ay, nS, ?_⟩)))))
   exact ⟨pI Aj, Ay⟩
  (try simp only [sd] at c14)
  refine A0 (Az Ay Ay (BE Ay Ay Ay) (Az Ay Ay (A4 Ay) (A5 Ay (BD Ay (fun c19 => ?_) (fun c19 => ?_)))))
  ·(try simp only [sd] at c19)
   refine A2 (A0 (Az Ay Ay (A4 Ay) (A5 Ay (BF ⟨Ay, _, [], Bz Ay, nS, ?_⟩))))
   exact ⟨pI Aj, Ay⟩
  (try simp only [sd] at c19)
  refine A2 (A2 (A0 (Az Ay Ay (BE Ay Ay Ay) (Az Ay Ay (A4 Ay) (A5 Ay (BD Ay (fun c20 => ?_) (fun c20 => ?_)))))))
  ·(try simp only [sd] at c20)
   refine BG (BD Ay (fun c21 => ?_) (fun c21 => ?_))
   ·(try simp only [sd] at c21)
    refine A2 (A0 (Az Ay Ay (A4 Ay) (A5 Ay (BF ⟨Ay, _, [], Bz Ay, nS, ?_⟩))))
    exact ⟨pI Aj, Ay⟩
   (try simp only [sd] at c21)
   refine BG (A2 (A0 (Az Ay Ay (A4 Ay) (A5 Ay (BF ⟨Ay, _, [], Bz Ay, nS, ?_⟩)))))
   exact ⟨pI Aj, Ay⟩
  (try simp only [sd] at c20)
  refine A0 (Az Ay Ay (BE Ay Ay Ay) (Az Ay Ay (A4 Ay) (A5 Ay (BD Ay (fun c22 => ?_) (fun c22 => ?_)))))
  ·(try simp only [sd] at c22)
   refine A2 (A0 (Az Ay Ay (A4 Ay) (A5 Ay (BF ⟨Ay, _, [], Bz Ay, nS, ?_⟩))))
   exact ⟨pI Aj, Ay⟩
  (try simp only [sd] at c22)
  refine BG (A2 (A0 (Az Ay Ay (A4 Ay) (A5 Ay (BF ⟨Ay, _, [], Bz Ay, nS, ?_⟩)))))
  exact ⟨pI Aj, Ay⟩
 (try simp only [sd] at c12)
 refine A2 (A0 (Az Ay Ay (BE Ay Ay Ay) (Az Ay Ay (A4 Ay) (A5 Ay (BD Ay (fun c23 => ?_) (fun c23 => ?_))))))
 ·(try simp only [sd] at c23)
  refine BG (BD Ay (fun c24 => ?_) (fun c24 => ?_))
  ·(try simp only [sd] at c24)
   refine A2 (A0 (Az Ay Ay (A4 Ay) (A5 Ay (BF ⟨Ay, _, [], Bz Ay, nS, ?_⟩))))
   exact ⟨pI Aj, Ay⟩
  (try simp only [sd] at c24)
  refine A2 (A2 (A0 (Az Ay Ay (BE Ay Ay Ay) (Az Ay Ay (A4 Ay) (A5 Ay (BD Ay (fun c25 => ?_) (fun c25 => ?_)))))))
  ·(try simp only [sd] at c25)
   refine BG (BD Ay (fun c26 => ?_) (fun c26 => ?_))
   ·(try simp only [sd] at c26)
    refine A2 (A0 (Az Ay Ay (A4 Ay) (A5 Ay (BF ⟨Ay, _, [], Bz Ay, nS, ?_⟩))))
    exact ⟨pI Aj, Ay⟩
   (try simp only [sd] at c26)
   refine A2 (A2 (A0 (Az Ay Ay (BE Ay Ay Ay) (Az Ay Ay (A4 Ay) (A5 Ay (BD Ay (fun c27 => ?_) (fun c27 => ?_)))))))
   ·(try simp only [sd] at c27)
    refine BG (BD Ay (fun c28 => ?_) (fun c28 => ?_))
    ·(try simp only [sd] at c28)
     refine A2 (A0 (Az Ay Ay (A4 Ay) (A5 Ay (BF ⟨Ay, _, [], Bz Ay, nS, ?_⟩))))
     exact ⟨pI Aj, Ay⟩
    (try simp only [sd] at c28)
    refine BG (A2 (A0 (Az Ay Ay (A4 Ay) (A5 Ay (BF ⟨Ay, _, [], Bz Ay, nS, ?_⟩)))))
    exact ⟨pI Aj, Ay⟩
   (try simp only [sd] at c27)
   refine A0 (Az Ay Ay (BE Ay Ay Ay) (Az Ay Ay (A4 Ay) (A5 Ay (BD Ay (fun c29 => ?_) (fun c29 => ?_)))))
   ·(try simp only [sd] at c29)
    refine A2 (A0 (Az Ay Ay (A4 Ay) (A5 Ay (BF ⟨Ay, _, [], Bz Ay, nS, ?_⟩))))
    exact ⟨pI Aj, Ay⟩
   (try simp only [sd] at c29)
   refine BG (A2 (A0 (Az Ay Ay (A4 Ay) (A5 Ay (BF ⟨Ay, _, [], Bz Ay, nS, ?_⟩)))))
   exact ⟨pI Aj, Ay⟩
  (try simp only [sd] at c25)
  refine A0 (Az Ay Ay (BE Ay Ay Ay) (Az Ay Ay (A4 Ay) (A5 Ay (BD Ay (fun c30 => ?_) (fun c30 => ?_)))))
  ·(try simp only [sd] at c30)
   refine A2 (A0 (Az Ay Ay (A4 Ay) (A5 Ay (BF ⟨Ay, _, [], Bz Ay, nS, ?_⟩))))
   exact ⟨pI Aj, Ay⟩
  (try simp only [sd] at c30)
  refine A2 (A2 (A0 (Az Ay Ay (BE Ay Ay Ay) (Az Ay Ay (A4 Ay) (A5 Ay (BD Ay (fun c31 => ?_) (fun c31 => ?_)))))))
  ·(try simp only [sd] at c31)
   refine BG (BD Ay (fun c32 => ?_) (fun c32 => ?_))
   ·(try simp only [sd] at c32)
    refine A2 (A0 (Az Ay Ay (A4 Ay) (A5 Ay (BF ⟨Ay, _, [], Bz Ay, nS, ?_⟩))))
    exact ⟨pI Aj, Ay⟩
   (try simp only [sd] at c32)
   refine BG (A2 (A0 (Az Ay Ay (A4 Ay) (A5 Ay (BF ⟨Ay, _, [], Bz Ay, nS, ?_⟩)))))
   exact ⟨pI Aj, Ay⟩
  (try simp only [sd] at c31)
  refine A0 (Az Ay Ay (BE Ay Ay Ay) (Az Ay Ay (A4 Ay) (A5 Ay (BD Ay (fun c33 => ?_) (fun c33 => ?_)))))
  ·(try simp only [sd] at c33)
   refine A2 (A0 (Az Ay Ay (A4 Ay) (A5 Ay (BF ⟨Ay, _, [], Bz Ay, nS, ?_⟩))))
   exact ⟨pI Aj, Ay⟩
  (try simp only [sd] at c33)
  refine BG (A2 (A0 (Az Ay Ay (A4 Ay) (A5 Ay (BF ⟨Ay, _, [], Bz Ay, nS, ?_⟩)))))
  exact ⟨pI Aj, Ay⟩
 (try simp only [sd] at c23)
 refine A0 (Az Ay Ay (BE Ay Ay Ay) (Az Ay Ay (A4 Ay) (A5 Ay (BD Ay (fun c34 => ?_) (fun c34 => ?_)))))
 ·(try simp only [sd] at c34)
  refine A2 (A0 (Az Ay Ay (A4 Ay) (A5 Ay (BF ⟨Ay, _, [], Bz Ay, nS, ?_⟩))))
  exact ⟨pI Aj, Ay⟩
 (try simp only [sd] at c34)
 refine A2 (A2 (A0 (Az Ay Ay (BE Ay Ay Ay) (Az Ay Ay (A4 Ay) (A5 Ay (BD Ay (fun c35 => ?_) (fun c35 => ?_)))))))
 ·(try simp only [sd] at c35)
  refine BG (BD Ay (fun c36 => ?_) (fun c36 => ?_))
  ·(try simp only [sd] at c36)
   refine A2 (A0 (Az Ay Ay (A4 Ay) (A5 Ay (BF ⟨Ay, _, [], Bz Ay, nS, ?_⟩))))
   exact ⟨pI Aj, Ay⟩
  (try simp only [sd] at c36)
  refine A2 (A2 (A0 (Az Ay Ay (BE Ay Ay Ay) (Az Ay Ay (A4 Ay) (A5 Ay (BD Ay (fun c37 => ?_) (fun c37 => ?_)))))))
  ·(try simp only [sd] at c37)
   refine BG (BD Ay (fun c38 => ?_) (fun c38 => ?_))
   ·(try simp only [sd] at c38)
    refine A2 (A0 (Az Ay Ay (A4 Ay) (A5 Ay (BF ⟨Ay, _, [], Bz Ay, nS, ?_⟩))))
    exact ⟨pI Aj, Ay⟩
   (try simp only [sd] at c38)
   refine BG (A2 (A0 (Az Ay Ay (A4 Ay) (A5 Ay (BF ⟨Ay, _, [], Bz Ay, nS, ?_⟩)))))
   exact ⟨pI Aj, Ay⟩
  (try simp only [sd] at c37)
  refine A0 (Az Ay Ay (BE Ay Ay Ay) (Az Ay Ay (A4 Ay) (A5 Ay (BD Ay (fun c39 => ?_) (fun c39 => ?_)))))
  ·(try simp only [sd] at c39)
   refine A2 (A0 (Az Ay Ay (A4 Ay) (A5 Ay (BF ⟨Ay, _, [], Bz Ay, nS, ?_⟩))))
   exact ⟨pI Aj, Ay⟩
  (try simp only [sd] at c39)
  refine BG (A2 (A0 (Az Ay Ay (A4 Ay) (A5 Ay (BF ⟨Ay, _, [], Bz Ay, nS, ?_⟩)))))
  exact ⟨pI Aj, Ay⟩
 (try simp only [sd] at c35)
 refine A0 (Az Ay Ay (BE Ay Ay Ay) (Az Ay Ay (A4 Ay) (A5 Ay (BD Ay (fun c40 => ?_) (fun c40 => ?_)))))
 ·(try simp only [sd] at c40)
  refine A2 (A0 (Az Ay Ay (A4 Ay) (A5 Ay (BF ⟨Ay, _, [], Bz Ay, nS, ?_⟩))))
  exact ⟨pI Aj, Ay⟩
 (try simp only [sd] at c40)
 refine A2 (A2 (A0 (Az Ay Ay (BE Ay Ay Ay) (Az Ay Ay (A4 Ay) (A5 Ay (BD Ay (fun c41 => ?_) (fun c41 => ?_)))))))
 ·(try simp only [sd] at c41)
  refine BG (BD Ay (fun c42 => ?_) (fun c42 => ?_))
  ·(try simp only [sd] at c42)
   refine A2 (A0 (Az Ay Ay (A4 Ay) (A5 Ay (BF ⟨Ay, _, [], Bz Ay, nS, ?_⟩))))
   exact ⟨pI Aj, Ay⟩
  (try simp only [sd] at c42)
  refine BG (A2 (A0 (Az Ay Ay (A4 Ay) (A5 Ay (BF ⟨Ay, _, [], Bz Ay, nS, ?_⟩)))))
  exact ⟨pI Aj, Ay⟩
 (try simp only [sd] at c41)
 refine A0 (Az Ay Ay (BE Ay Ay Ay) (Az Ay Ay (A4 Ay) (A5 Ay (BD Ay (fun c43 => ?_) (fun c43 => ?_)))))
 ·(try simp only [sd] at c43)
  refine A2 (A0 (Az Ay Ay (A4 Ay) (A5 Ay (BF ⟨Ay, _, [], Bz Ay, nS, ?_⟩))))
  exact ⟨pI Aj, Ay⟩
 (try simp only [sd] at c43)
 refine BG (A2 (A0 (Az Ay Ay (A4 Ay) (A5 Ay (BF ⟨Ay, _, [], Bz Ay, nS, ?_⟩)))))
 exact ⟨pI Aj, Ay⟩
theorem UW : ∀ (k i : Int), IA Tryz.prog 100 [.p (I k), .p (I i)] (.p (I (below k i))) := by
 intro k i
 refine BH Tryz.func100 Ay eN (n := 27) Ay Ay (A2 (A0 (Az Ay Ay (A4 Ay) (A5 Ay (A2 (A2 (Bx [0, 1, 4] 26 (fun y => y = .p (.bool ((i == 1 && (k == 5 || k == 6 || k == 7)) || (i == 2 && k == 11)))) ?_ ?_)))))))
 ·refine A0 (Az Ay Ay (A1 Ay) (Az Ay Ay (BE Ay Ay Ay) (Az Ay Ay (A1 Ay) (Br 7 Ay (fun g1 => ?_) (fun g1 => ?_)))))
  ·(try simp only [sd] at g1)
   refine A6 Ay Ay Ay Ay (A1 Ay) (A6 Ay Ay Ay Ay (BE Ay Ay Ay) (A6 Ay Ay Ay Ay (A1 Ay) (Br 10 Ay (fun g2 => ?_) (fun g2 => ?_))))
   ·(try simp only [sd] at g2)
    refine A7 Ay Ay Ay Ay Ay (A7 Ay Ay Ay Ay Ay (A6 Ay Ay Ay Ay (BC Ay Ay) (A6 Ay Ay Ay Ay (A1 Ay) (Br 14 Ay (fun g3 => ?_) (fun g3 => ?_)))))
    ·(try simp only [sd] at g3)
     refine A7 Ay Ay Ay Ay Ay (A7 Ay Ay Ay Ay Ay (A6 Ay Ay Ay Ay (BC Ay Ay) (Az Ay Ay (BC Ay Ay) (Az Ay Ay (A1 Ay) (Br 19 Ay (fun g4 => ?_) (fun g4 => ?_))))))
     ·(try simp only [sd] at g4)
      exact A7 Ay Ay Ay Ay Ay (A7 Ay Ay Ay Ay Ay (A7 Ay Ay Ay Ay Ay (CD Ay Ay Ay Ay (CD Ay Ay Ay Ay (A7 Ay Ay Ay Ay Ay (Az Ay Ay (BC Ay Ay) (A5 Ay (⟨Ay, Ay, AK, pB Au, ⟨Ay, Ay, Ay, trivial⟩⟩))))))))
     (try simp only [sd] at g4)
     refine A6 Ay Ay Ay Ay (A1 Ay) (A6 Ay Ay Ay Ay (BE Ay Ay Ay) (A6 Ay Ay Ay Ay (A1 Ay) (Br 22 Ay (fun g5 => ?_) (fun g5 => ?_))))
     ·(try simp only [sd] at g5)
      exact A6 Ay Ay Ay Ay (A1 Ay) (A6 Ay Ay Ay Ay (BE Ay Ay Ay) (A6 Ay Ay Ay Ay (BC Ay Ay) (Az Ay Ay (BC Ay Ay) (A5 Ay (⟨Ay, Ay, AK, pB Au, ⟨Ay, Ay, Ay, trivial⟩⟩)))))
     (try simp only [sd] at g5)
     exact A7 Ay Ay Ay Ay Ay (A7 Ay Ay Ay Ay Ay (A6 Ay Ay Ay Ay (BC Ay Ay) (Az Ay Ay (BC Ay Ay) (A5 Ay (⟨Ay, Ay, AK, pB Au, ⟨Ay, Ay, Ay, trivial⟩⟩)))))
    (try simp only [sd] at g3)
    refine A6 Ay Ay Ay Ay (A1 Ay) (A6 Ay Ay Ay Ay (BE Ay Ay Ay) (A6 Ay Ay Ay Ay (BC Ay Ay) (Az Ay Ay (BC Ay Ay) (Az Ay Ay (A1 Ay) (Br 19 Ay (fun g6 => ?_) (fun g6 => ?_))))))
    ·(try simp only [sd] at g6)
     exact A7 Ay Ay Ay Ay Ay (A7 Ay Ay Ay Ay Ay (A7 Ay Ay Ay Ay Ay (CD Ay Ay Ay Ay (CD Ay Ay Ay Ay (A7 Ay Ay Ay Ay Ay (Az Ay Ay (BC Ay Ay) (A5 Ay (⟨Ay, Ay, AK, pB Au, ⟨Ay, Ay, Ay, trivial⟩⟩))))))))
    (try simp only [sd] at g6)
    refine A6 Ay Ay Ay Ay (A1 Ay) (A6 Ay Ay Ay Ay (BE Ay Ay Ay) (A6 Ay Ay Ay Ay (A1 Ay) (Br 22 Ay (fun g7 => ?_) (fun g7 => ?_))))
    ·(try simp only [sd] at g7)
     exact A6 Ay Ay Ay Ay (A1 Ay) (A6 Ay Ay Ay Ay (BE Ay Ay Ay) (A6 Ay Ay Ay Ay (BC Ay Ay) (Az Ay Ay (BC Ay Ay) (A5 Ay (⟨Ay, Ay, AK, pB Au, ⟨Ay, Ay, Ay, trivial⟩⟩)))))
    (try simp only [sd] at g7)
    exact A7 Ay Ay Ay Ay Ay (A7 Ay Ay Ay Ay Ay (A6 Ay Ay Ay Ay (BC Ay Ay) (Az Ay Ay (BC Ay Ay) (A5 Ay (⟨Ay, Ay, AK, pB Au, ⟨Ay, Ay, Ay, trivial⟩⟩)))))
   (try simp only [sd] at g2)
   refine A6 Ay Ay Ay Ay (A1 Ay) (A6 Ay Ay Ay Ay (BE Ay Ay Ay) (A6 Ay Ay Ay Ay (BC Ay Ay) (A6 Ay Ay Ay Ay (A1 Ay) (Br 14 Ay (fun g8 => ?_) (fun g8 => ?_)))))
   ·(try simp only [sd] at g8)
    refine A7 Ay Ay Ay Ay Ay (A7 Ay Ay Ay Ay Ay (A6 Ay Ay Ay Ay (BC Ay Ay) (Az Ay Ay (BC Ay Ay) (Az Ay Ay (A1 Ay) (Br 19 Ay (fun g9 => ?_) (fun g9 => ?_))))))
    ·(try simp only [sd] at g9)
     exact A7 Ay Ay Ay Ay Ay (A7 Ay Ay Ay Ay Ay (A7 Ay Ay Ay Ay Ay (CD Ay Ay Ay Ay (CD Ay Ay Ay Ay (A7 Ay Ay Ay Ay Ay (Az Ay Ay (BC Ay Ay) (A5 Ay (⟨Ay, Ay, AK, pB Au, ⟨Ay, Ay, Ay, trivial⟩⟩))))))))
    (try simp only [sd] at g9)
    refine A6 Ay Ay Ay Ay (A1 Ay) (A6 Ay Ay Ay Ay (BE Ay Ay Ay) (A6 Ay Ay Ay Ay (A1 Ay) (Br 22 Ay (fun g10 => ?_) (fun g10 => ?_))))
    ·(try simp only [sd] at g10)
     exact A6 Ay Ay Ay Ay (A1 Ay) (A6 Ay Ay Ay Ay (BE Ay Ay Ay) (A6 Ay Ay Ay Ay (BC Ay Ay) (Az Ay Ay (BC Ay Ay) (A5 Ay (⟨Ay, Ay, AK, pB Au, ⟨Ay, Ay, Ay, trivial⟩⟩)))))
    (try simp only [sd] at g10)
    exact A7 Ay Ay Ay Ay Ay (A7 Ay Ay Ay Ay Ay (A6 Ay Ay Ay Ay (BC Ay Ay) (Az Ay Ay (BC Ay Ay) (A5 Ay (⟨Ay, Ay, AK, pB Au, ⟨Ay, Ay, Ay, trivial⟩⟩)))))
   (try simp only [sd] at g8)
   refine A6 Ay Ay Ay Ay (A1 Ay) (A6 Ay Ay Ay Ay (BE Ay Ay Ay) (A6 Ay Ay Ay Ay (BC Ay Ay) (Az Ay Ay (BC Ay Ay) (Az Ay Ay (A1 Ay) (Br 19 Ay (fun g11 => ?_) (fun g11 => ?_))))))
   ·(try simp only [sd] at g11)
    exact A7 Ay Ay Ay Ay Ay (A7 Ay Ay Ay Ay Ay (A7 Ay Ay Ay Ay Ay (CD Ay Ay Ay Ay (CD Ay Ay Ay Ay (A7 Ay Ay Ay Ay Ay (Az Ay Ay (BC Ay Ay) (A5 Ay (⟨Ay, Ay, AK, pB Au, ⟨Ay, Ay, Ay, trivial⟩⟩))))))))
   (try simp only [sd] at g11)
   refine A6 Ay Ay Ay Ay (A1 Ay) (A6 Ay Ay Ay Ay (BE Ay Ay Ay) (A6 Ay Ay Ay Ay (A1 Ay) (Br 22 Ay (fun g12 => ?_) (fun g12 => ?_))))
   ·(try simp only [sd] at g12)
    exact A6 Ay Ay Ay Ay (A1 Ay) (A6 Ay Ay Ay Ay (BE Ay Ay Ay) (A6 Ay Ay Ay Ay (BC Ay Ay) (Az Ay Ay (BC Ay Ay) (A5 Ay (⟨Ay, Ay, AK, pB Au, ⟨Ay, Ay, Ay, trivial⟩⟩)))))
   (try simp only [sd] at g12)
   exact A7 Ay Ay Ay Ay Ay (A7 Ay Ay Ay Ay Ay (A6 Ay Ay Ay Ay (BC Ay Ay) (Az Ay Ay (BC Ay Ay) (A5 Ay (⟨Ay, Ay, AK, pB Au, ⟨Ay, Ay, Ay, trivial⟩⟩)))))
  (try simp only [sd] at g1)
  refine A7 Ay Ay Ay Ay Ay (A7 Ay Ay Ay Ay Ay (A7 Ay Ay Ay Ay Ay (CD Ay Ay Ay Ay (CD Ay Ay Ay Ay (A7 Ay Ay Ay Ay Ay (A7 Ay Ay Ay Ay Ay (CD Ay Ay Ay Ay (CD Ay Ay Ay Ay (A7 Ay Ay Ay Ay Ay (Az Ay Ay (BC Ay Ay) (Az Ay Ay (A1 Ay) (Br 19 Ay (fun g13 => ?_) (fun g13 => ?_)))))))))))))
  ·(try simp only [sd] at g13)
   exact A7 Ay Ay Ay Ay Ay (A7 Ay Ay Ay Ay Ay (A7 Ay Ay Ay Ay Ay (CD Ay Ay Ay Ay (CD Ay Ay Ay Ay (A7 Ay Ay Ay Ay Ay (Az Ay Ay (BC Ay Ay) (A5 Ay (⟨Ay, Ay, AK, pB Au, ⟨Ay, Ay, Ay, trivial⟩⟩))))))))
  (try simp only [sd] at g13)
  refine A6 Ay Ay Ay Ay (A1 Ay) (A6 Ay Ay Ay Ay (BE Ay Ay Ay) (A6 Ay Ay Ay Ay (A1 Ay) (Br 22 Ay (fun g14 => ?_) (fun g14 => ?_))))
  ·(try simp only [sd] at g14)
   exact A6 Ay Ay Ay Ay (A1 Ay) (A6 Ay Ay Ay Ay (BE Ay Ay Ay) (A6 Ay Ay Ay Ay (BC Ay Ay) (Az Ay Ay (BC Ay Ay) (A5 Ay (⟨Ay, Ay, AK, pB Au, ⟨Ay, Ay, Ay, trivial⟩⟩)))))
  (try simp only [sd] at g14)
  exact A7 Ay Ay Ay Ay Ay (A7 Ay Ay Ay Ay Ay (A6 Ay Ay Ay Ay (BC Ay Ay) (Az Ay Ay (BC Ay Ay) (A5 Ay (⟨Ay, Ay, AK, pB Au, ⟨Ay, Ay, Ay, trivial⟩⟩)))))
 rintro _ rfl
 refine BD Ay (fun c15 => ?_) (fun c15 => ?_)
 ·(try simp only [sd] at c15)
  refine A2 (A0 (Az Ay Ay (A4 Ay) (A5 Ay (BF ⟨Ay, _, [], Bz Ay, nS, ?_⟩))))
  exact ⟨pI (by simp only [below, *]; rfl), Ay⟩
 (try simp only [sd] at c15)
 refine BG (A2 (A0 (Az Ay Ay (A4 Ay) (A5 Ay (BF ⟨Ay, _, [], Bz Ay, nS, ?_⟩)))))
 exact ⟨pI (by simp only [below, *]; rfl), Ay⟩
theorem X2 : ∀ (l : Fl), V3 l → E1 Tryz.prog 134 [LV l] Dv := by
 intro l hn
 obtain ⟨lc, lv⟩ := l
 have hb := hn.vars
 simp only [EB] at hb
 refine BH Tryz.func134 Ay bR (n := 67) Ay Ay (A2 (A0 (BP Ay Ay (Bj Ay) fun b1 => Az Ay Ay (A4 Ay) (A5 Ay (A2 (A2 (Bx [0, 1, 2, 3, 4] 12 Dv ?_ ?_)))))))
 ·refine A0 (Az Ay Ay (A3 EU Ay Ay) (Az Ay Ay (A9 (i := 0) C9 Ay Ay Ay) (Az Ay Ay (BE Ay Ay Ay) (Az Ay Ay (A1 Ay) (Br 8 Ay (fun g1 => ?_) (fun g1 => ?_))))))
  ·(try simp only [sd] at g1)
   exact A7 Ay Ay Ay Ay Ay (A7 Ay Ay Ay Ay Ay (A7 Ay Ay Ay Ay Ay (Az Ay Ay (BC Ay Ay) (A5 Ay (⟨Ay, Ay, AK, ⟨_, Ay⟩, ⟨Ay, Ay, Ay, Ay, Ay, trivial⟩⟩)))))
  (try simp only [sd] at g1)
  exact A6 Ay Ay Ay Ay (A3 EU Ay Ay) (A6 Ay Ay Ay Ay (A9 (i := 0) C9 Ay Ay Ay) (A6 Ay Ay Ay Ay (BE Ay Ay Ay) (Az Ay Ay (BC Ay Ay) (A5 Ay (⟨Ay, Ay, AK, ⟨_, Ay⟩, ⟨Ay, Ay, Ay, Ay, Ay, trivial⟩⟩)))))
 rintro _ ⟨q1, rfl⟩
 refine BD Ay (fun c2 => ?_) (fun c2 => ?_)
 ·(try simp only [sd] at c2)
  refine A2 (A0 (Az Ay Ay (A4 Ay) (A5 Ay (BF (⟨Ay, _, [], Bz Ay, nS, ⟨⟨_, Ay⟩, Ay⟩⟩)))))
 (try simp only [sd] at c2)
 refine BG (A2 (A2 (A0 (Az Ay Ay (A4 Ay) (A5 Ay (BT (JY (lv.length) (fun _ => True) (fun i => ⟨67, mk [(1, .ptr b1 0), (3, .p (I i))], [.box b1 ((Dx ⟨lc, lv⟩).map .p)], []⟩) (0) Aw (trivial) ?_ ?_)))))))
 ·exact Iq ⟨Ay, Ay, trivial⟩ J
 intro i hi hC
 refine A2 (A2 (A0 (Az Ay Ay (A1 Ay) (Az Ay Ay (A3 EU Ay Ay) (Az Ay Ay (A9 (i := 0) H8 Ay Ay Ay) (Az Ay Ay (DR GY Ay) (Az Ay Ay (BE Ay Ay Ay) (A5 Ay (BD Ay (fun c3 => ?_) (fun c3 => ?_))))))))))
 ·(try simp only [sd] at c3)
  have hi2 : i < lv.length := by simp at c3; omega
  obtain ⟨v, hv⟩ := BO hi2
  obtain ⟨w, hw⟩ := BO (l := lv) (i := i - 1) Aw
  refine BG (A2 (BT (A2 (A0 (Az Ay Ay (A3 EU Ay Ay) (Az Ay Ay (A9 (i := 0) H8 Ay Ay Ay) (Az Ay Ay (A1 Ay) (Az Ay Ay (BI GY Ay Ay Aw (Gm hv) (Ay)) (Az Ay Ay (Bq QK Ay (Ay)) (BP Ay Ay (BN MD Ay) fun b4 => Az Ay Ay (Bm (i := 0) QK Ay Ay Ay Ay Ay Ay) (A5 Ay (A2 (A2 (Bx [0, 1, 2, 3, 4] 42 Dv ?_ ?_))))))))))))))
  ·refine A0 (Az Ay Ay (A3 GI Ay Ay) (Az Ay Ay (A9 (i := 0) C9 Ay Ay Ay) (Az Ay Ay (BE Ay Ay Ay) (Az Ay Ay (A1 Ay) (Br 28 Ay (fun g4 => ?_) (fun g4 => ?_))))))
   ·(try simp only [sd] at g4)
    refine A7 Ay Ay Ay Ay Ay (A7 Ay Ay Ay Ay Ay (A7 Ay Ay Ay Ay Ay (Az Ay Ay (BC Ay Ay) (Az Ay Ay (A1 Ay) (Br 33 Ay (fun g5 => ?_) (fun g5 => ?_))))))
    ·(try simp only [sd] at g5)
     refine A7 Ay Ay Ay Ay Ay (A7 Ay Ay Ay Ay Ay (A7 Ay Ay Ay Ay Ay (Az Ay Ay (BC Ay Ay) (Az Ay Ay (A1 Ay) (Br 38 Ay (fun g6 => ?_) (fun g6 => ?_))))))
     ·(try simp only [sd] at g6)
      exact A7 Ay Ay Ay Ay Ay (A7 Ay Ay Ay Ay Ay (A7 Ay Ay Ay Ay Ay (Az Ay Ay (BC Ay Ay) (A5 Ay (⟨Ay, Ay, AK, ⟨_, Ay⟩, ⟨Ay, Ay, Ay, Ay, Ay, trivial⟩⟩)))))
     (try simp only [sd] at g6)
     exact A6 Ay Ay Ay Ay (A3 GI Ay Ay) (A6 Ay Ay Ay Ay (A9 (i := 0) C9 Ay Ay Ay) (A6 Ay Ay Ay Ay (BE Ay Ay Ay) (Az Ay Ay (BC Ay Ay) (A5 Ay (⟨Ay, Ay, AK, ⟨_, Ay⟩, ⟨Ay, Ay, Ay, Ay, Ay, trivial⟩⟩)))))
    (try simp only [sd] at g5)
    refine A6 Ay Ay Ay Ay (A3 GI Ay Ay) (A6 Ay Ay Ay Ay (A9 (i := 0) C9 Ay Ay Ay) (A6 Ay Ay Ay Ay (BE Ay Ay Ay) (Az Ay Ay (BC Ay Ay) (Az Ay Ay (A1 Ay) (Br 38 Ay (fun g7 => ?_) (fun g7 => ?_))))))
    ·(try simp only [sd] at g7)
     exact A7 Ay Ay Ay Ay Ay (A7 Ay Ay Ay Ay Ay (A7 Ay Ay Ay Ay Ay (Az Ay Ay (BC Ay Ay) (A5 Ay (⟨Ay, Ay, AK, ⟨_, Ay⟩, ⟨Ay, Ay, Ay, Ay, Ay, trivial⟩⟩)))))
    (try simp only [sd] at g7)
    exact A6 Ay Ay Ay Ay (A3 GI Ay Ay) (A6 Ay Ay Ay Ay (A9 (i := 0) C9 Ay Ay Ay) (A6 Ay Ay Ay Ay (BE Ay Ay Ay) (Az Ay Ay (BC Ay Ay) (A5 Ay (⟨Ay, Ay, AK, ⟨_, Ay⟩, ⟨Ay, Ay, Ay, Ay, Ay, trivial⟩⟩)))))
   (try simp only [sd] at g4)
   refine A6 Ay Ay Ay Ay (A3 GI Ay Ay) (A6 Ay Ay Ay Ay (A9 (i := 0) C9 Ay Ay Ay) (A6 Ay Ay Ay Ay (BE Ay Ay Ay) (Az Ay Ay (BC Ay Ay) (Az Ay Ay (A1 Ay) (Br 33 Ay (fun g8 => ?_) (fun g8 => ?_))))))
   ·(try simp only [sd] at g8)
    refine A7 Ay Ay Ay Ay Ay (A7 Ay Ay Ay Ay Ay (A7 Ay Ay Ay Ay Ay (Az Ay Ay (BC Ay Ay) (Az Ay Ay (A1 Ay) (Br 38 Ay (fun g9 => ?_) (fun g9 => ?_))))))
    ·(try simp only [sd] at g9)
     exact A7 Ay Ay Ay Ay Ay (A7 Ay Ay Ay Ay Ay (A7 Ay Ay Ay Ay Ay (Az Ay Ay (BC Ay Ay) (A5 Ay (⟨Ay, Ay, AK, ⟨_, Ay⟩, ⟨Ay, Ay, Ay, Ay, Ay, trivial⟩⟩)))))
    (try simp only [sd] at g9)
    exact A6 Ay Ay Ay Ay (A3 GI Ay Ay) (A6 Ay Ay Ay Ay (A9 (i := 0) C9 Ay Ay Ay) (A6 Ay Ay Ay Ay (BE Ay Ay Ay) (Az Ay Ay (BC Ay Ay) (A5 Ay (⟨Ay, Ay, AK, ⟨_, Ay⟩, ⟨Ay, Ay, Ay, Ay, Ay, trivial⟩⟩)))))
   (try simp only [sd] at g8)
   refine A6 Ay Ay Ay Ay (A3 GI Ay Ay) (A6 Ay Ay Ay Ay (A9 (i := 0) C9 Ay Ay Ay) (A6 Ay Ay Ay Ay (BE Ay Ay Ay) (Az Ay Ay (BC Ay Ay) (Az Ay Ay (A1 Ay) (Br 38 Ay (fun g10 => ?_) (fun g10 => ?_))))))
   ·(try simp only [sd] at g10)
    exact A7 Ay Ay Ay Ay Ay (A7 Ay Ay Ay Ay Ay (A7 Ay Ay Ay Ay Ay (Az Ay Ay (BC Ay Ay) (A5 Ay (⟨Ay, Ay, AK, ⟨_, Ay⟩, ⟨Ay, Ay, Ay, Ay, Ay, trivial⟩⟩)))))
   (try simp only [sd] at g10)
   exact A6 Ay Ay Ay Ay (A3 GI Ay Ay) (A6 Ay Ay Ay Ay (A9 (i := 0) C9 Ay Ay Ay) (A6 Ay Ay Ay Ay (BE Ay Ay Ay) (Az Ay Ay (BC Ay Ay) (A5 Ay (⟨Ay, Ay, AK, ⟨_, Ay⟩, ⟨Ay, Ay, Ay, Ay, Ay, trivial⟩⟩)))))
  rintro _ ⟨q7, rfl⟩
  refine BD Ay (fun c11 => ?_) (fun c11 => ?_)
  ·(try simp only [sd] at c11)
   refine A2 (A0 (Az Ay Ay (A4 Ay) (A5 Ay (BF (⟨Ay, _, [], Bz Ay, nS, ⟨⟨_, Ay⟩, Ay⟩⟩)))))
  (try simp only [sd] at c11)
  refine BG (A2 (A2 (Bx [0, 1, 2, 3, 4] 56 Dv ?_ ?_)))
  ·refine CW (fun k => false) ED (BA Ay Ay (fun _ => A1 Ay) trivial (BA Ay Ay (fun _ => BE Ay Ay Ay) trivial (BA Ay Ay (fun _ => A1 Ay) trivial (J1 45 Ay (fun g12 => ?_) (fun g12 => ?_)))))
   ·(try simp only [sd] at g12)
    refine CI Ay Ay Ay Ay (fun _ => A3 EU Ay Ay) trivial (Da (i := 1) Ay Ay Ay Ay Ay (fun H i hi => A9 (i := i) H8 Ay hi Ay) AB trivial (CI Ay Ay Ay Ay (fun _ => A1 Ay) trivial (CI Ay Ay Ay Ay (fun _ => FH Ay Ay Aw Aw) trivial ?_)))
    refine CI Ay Ay Ay Ay (fun _ => BI GY Ay Ay (by simp_all; omega) (by rw [show ((i : Int) - 1).toNat = i - 1 by omega]; exact Gm hw) (Ay)) trivial ?_
    exact CI Ay Ay Ay Ay (fun _ => CM GI Ay Ay) trivial (CI Ay Ay Ay Ay (fun _ => CQ C9 Ay) trivial (CI Ay Ay Ay Ay (fun _ => A3 GI Ay Ay) trivial (Da (i := 0) Ay Ay Ay Ay Ay (fun H i hi => A9 (i := i) C9 Ay hi Ay) AB trivial (CI Ay Ay Ay Ay (fun _ => BE Ay Ay Ay) trivial (BA Ay Ay (fun _ => BC Ay Ay) trivial (CP Ay Ar (⟨Ay, Ay, AK, ⟨_, Ay⟩, ⟨Ay, Ay, Ay, Ay, Ay, trivial⟩⟩)))))))
   (try simp only [sd] at g12)
   exact CY Ay Ay Ay Ay Ay trivial (CY Ay Ay Ay Ay Ay trivial (CY Ay Ay Ay Ay Ay trivial (CY Ay Ay Ay Ay Ay trivial (CY Ay Ay Ay Ay Ay trivial (CY Ay Ay Ay Ay Ay trivial (CY Ay Ay Ay Ay Ay trivial (CY Ay Ay Ay Ay Ay trivial (CY Ay Ay Ay Ay Ay trivial (CY Ay Ay Ay Ay Ay trivial (BA Ay Ay (fun _ => BC Ay Ay) trivial (CP Ay Ar (⟨Ay, Ay, AK, ⟨_, Ay⟩, ⟨Ay, Ay, Ay, Ay, Ay, trivial⟩⟩))))))))))))
  rintro _ ⟨q9, rfl⟩
  refine BD Ay (fun c13 => ?_) (fun c13 => ?_)
  ·(try simp only [sd] at c13)
   refine A2 (A0 (Az Ay Ay (A4 Ay) (A5 Ay (BF (⟨Ay, _, [], Bz Ay, nS, ⟨⟨_, Ay⟩, Ay⟩⟩)))))
  (try simp only [sd] at c13)
  refine BG (A2 (Bx [0, 1, 2, 3, 4] 66 Dv ?_ ?_))
  ·refine A0 (Az Ay Ay (A3 EU Ay Ay) (Az Ay Ay (A9 (i := 1) C9 Ay Ay Ay) (Az Ay Ay (BE Ay Ay Ay) (Az Ay Ay (A1 Ay) (Br 60 Ay (fun g14 => ?_) (fun g14 => ?_))))))
   ·(try simp only [sd] at g14)
    exact A6 Ay Ay Ay Ay (A3 GI Ay Ay) (A6 Ay Ay Ay Ay (A9 (i := 0) C9 Ay Ay Ay) (A6 Ay Ay Ay Ay (A3 EU Ay Ay) (A6 Ay Ay Ay Ay (A9 (i := 1) C9 Ay Ay Ay) (A6 Ay Ay Ay Ay (BE Ay Ay Ay) (Az Ay Ay (BC Ay Ay) (A5 Ay (⟨Ay, Ay, AK, ⟨_, Ay⟩, ⟨Ay, Ay, Ay, Ay, Ay, trivial⟩⟩)))))))
   (try simp only [sd] at g14)
   exact A7 Ay Ay Ay Ay Ay (A7 Ay Ay Ay Ay Ay (A7 Ay Ay Ay Ay Ay (A7 Ay Ay Ay Ay Ay (A7 Ay Ay Ay Ay Ay (Az Ay Ay (BC Ay Ay) (A5 Ay (⟨Ay, Ay, AK, ⟨_, Ay⟩, ⟨Ay, Ay, Ay, Ay, Ay, trivial⟩⟩)))))))
  rintro _ ⟨q11, rfl⟩
  refine BD Ay (fun c15 => ?_) (fun c15 => ?_)
  ·(try simp only [sd] at c15)
   refine A2 (A0 (Az Ay Ay (A4 Ay) (A5 Ay (BF (⟨Ay, _, [], Bz Ay, nS, ⟨⟨_, Ay⟩, Ay⟩⟩)))))
  (try simp only [sd] at c15)
  exact BG (A0 (Az Ay Ay (A1 Ay) (Az Ay Ay (CH Ay Ay Aw Aw) (Az Ay Ay (A4 Ay) (A5 Ay (⟨by omega, trivial, Iq ⟨rfl, rfl, trivial⟩ J⟩))))))
 (try simp only [sd] at c3)
 refine B7 (A2 (A0 (Az Ay Ay (A4 Ay) (A5 Ay (BF (⟨Ay, _, [], Bz Ay, nS, ⟨⟨_, Ay⟩, Ay⟩⟩))))))
theorem Y9 : ∀ (l : Fl) (a b : Int), V3 l → E1 Tryz.prog 99 [LV l, .p (I a), .p (I b)] Lb := by
 intro l pa pb hn
 have hn0 := hn
 obtain ⟨lc, lv⟩ := l
 have hb := hn.vars
 simp only [EB] at hb
 refine BH Tryz.func99 Ay hX (n := 61) Ay Ay (A2 (A0 (BP Ay Ay (Bj Ay) fun b3 => Az Ay Ay (A4 Ay) (A5 Ay (A2 (A2 (A0 (Az Ay Ay (A8 (i := 0) E0 Ay Ay Ay) (Du Ay Ay (Bb Ay Ay (X2 _ hn0) (.inl Ay)) ?_)))))))))
 rintro _ ⟨q, rfl⟩
 refine Az Ay Ay (Cp Ay) (A5 Ay (BD Ay (fun c1 => ?_) (fun c1 => ?_)))
 ·(try simp only [sd] at c1)
  refine A2 (A0 (Az Ay Ay (A4 Ay) (A5 Ay (BF (⟨Ay, _, [], Bz Ay, nS, ⟨⟨_, Ay⟩, Ay⟩⟩)))))
 (try simp only [sd] at c1)
 refine BG (A2 (A2 (A0 (Az Ay Ay (A4 Ay) (A5 Ay (BT (JY (lv.length) (fun _ => True) (fun i => ⟨61, mk [(1, .p (I pa)), (2, .p (I pb)), (3, .ptr b3 0), (7, .p (I i))], [.box b3 ((Dx ⟨lc, lv⟩).map .p)], []⟩) (0) Aw (trivial) ?_ ?_)))))))
 ·exact Iq ⟨Ay, Ay, Ay, Ay, trivial⟩ J
 intro i hi hC
 refine A2 (A2 (A0 (Az Ay Ay (A1 Ay) (Az Ay Ay (A3 EU Ay Ay) (Az Ay Ay (A9 (i := 0) H8 Ay Ay Ay) (Az Ay Ay (DR GY Ay) (Az Ay Ay (BE Ay Ay Ay) (A5 Ay (BD Ay (fun c2 => ?_) (fun c2 => ?_))))))))))
 ·(try simp only [sd] at c2)
  have hi2 : i < lv.length := by simp at c2; omega
  obtain ⟨v, hv⟩ := BO hi2
  refine BG (A2 (BT (A2 (Bx [0, 1, 2, 3, 6, 7, 8] 35 Dv ?_ ?_))))
  ·refine A0 (Az Ay Ay (A3 EU Ay Ay) (Az Ay Ay (A9 (i := 0) H8 Ay Ay Ay) (Az Ay Ay (A1 Ay) (Az Ay Ay (BI GY Ay Ay Aw (Gm hv) (Ay)) (Az Ay Ay (CM GI Ay Ay) (Az Ay Ay (CQ C9 Ay) (Az Ay Ay (BE Ay Ay Ay) (Az Ay Ay (A1 Ay) (Br 26 Ay (fun g3 => ?_) (fun g3 => ?_))))))))))
   ·(try simp only [sd] at g3)
    exact A6 Ay Ay Ay Ay (A3 EU Ay Ay) (A6 Ay Ay Ay Ay (A9 (i := 0) H8 Ay Ay Ay) (A6 Ay Ay Ay Ay (A1 Ay) (A6 Ay Ay Ay Ay (BI GY Ay Ay Aw (Gm hv) (Ay)) (A6 Ay Ay Ay Ay (CM GI Ay Ay) (A6 Ay Ay Ay Ay (CQ C9 Ay) (A6 Ay Ay Ay Ay (A1 Ay) (A6 Ay Ay Ay Ay (BE Ay Ay Ay) (Az Ay Ay (BC Ay Ay) (A5 Ay (⟨Ay, Ay, AK, ⟨_, Ay⟩, ⟨Ay, Ay, Ay, Ay, Ay, Ay, Ay, trivial⟩⟩))))))))))
   (try simp only [sd] at g3)
   exact A7 Ay Ay Ay Ay Ay (A7 Ay Ay Ay Ay Ay (A7 Ay Ay Ay Ay Ay (A7 Ay Ay Ay Ay Ay (A7 Ay Ay Ay Ay Ay (A7 Ay Ay Ay Ay Ay (A7 Ay Ay Ay Ay Ay (A7 Ay Ay Ay Ay Ay (Az Ay Ay (BC Ay Ay) (A5 Ay (⟨Ay, Ay, AK, ⟨_, Ay⟩, ⟨Ay, Ay, Ay, Ay, Ay, Ay, Ay, trivial⟩⟩))))))))))
  rintro _ ⟨q6, rfl⟩
  refine BD Ay (fun c4 => ?_) (fun c4 => ?_)
  ·(try simp only [sd] at c4)
   refine A2 (A0 (Az Ay Ay (A4 Ay) (A5 Ay (BF (⟨Ay, _, [], Bz Ay, nS, ⟨⟨_, Ay⟩, Ay⟩⟩)))))
  (try simp only [sd] at c4)
  exact BG (A0 (Az Ay Ay (A1 Ay) (Az Ay Ay (CH Ay Ay Aw Aw) (Az Ay Ay (A4 Ay) (A5 Ay (⟨by omega, trivial, Iq ⟨rfl, rfl, rfl, rfl, trivial⟩ J⟩))))))
 (try simp only [sd] at c2)
 refine B7 (A2 (A2 (A0 (Az Ay Ay (A4 Ay) (A5 Ay (BT (JY (lv.length) (fun _ => True) (fun i => ⟨61, mk [(1, .p (I pa)), (2, .p (I pb)), (3, .ptr b3 0), (8, .p (I i))], [.box b3 ((Dx ⟨lc, lv⟩).map .p)], []⟩) (0) Aw (trivial) ?_ ?_)))))))
 ·exact Iq ⟨Ay, Ay, Ay, Ay, trivial⟩ J
 intro i hi hC
 refine A2 (A2 (A0 (Az Ay Ay (A1 Ay) (Az Ay Ay (A3 EU Ay Ay) (Az Ay Ay (A9 (i := 0) H8 Ay Ay Ay) (Az Ay Ay (DR GY Ay) (Az Ay Ay (BE Ay Ay Ay) (A5 Ay (BD Ay (fun c5 => ?_) (fun c5 => ?_))))))))))
 ·(try simp only [sd] at c5)
  have hi2 : i < lv.length := by simp at c5; omega
  obtain ⟨v, hv⟩ := BO hi2
  refine BG (A2 (BT (A2 (Bx [0, 1, 2, 3, 6, 7, 8] 60 Dv ?_ ?_))))
  ·refine A0 (Az Ay Ay (A3 EU Ay Ay) (Az Ay Ay (A9 (i := 0) H8 Ay Ay Ay) (Az Ay Ay (A1 Ay) (Az Ay Ay (BI GY Ay Ay Aw (Gm hv) (Ay)) (Az Ay Ay (CM GI Ay Ay) (Az Ay Ay (CQ C9 Ay) (Az Ay Ay (BE Ay Ay Ay) (Az Ay Ay (A1 Ay) (Br 50 Ay (fun g6 => ?_) (fun g6 => ?_))))))))))
   ·(try simp only [sd] at g6)
    exact A6 Ay Ay Ay Ay (A3 EU Ay Ay) (A6 Ay Ay Ay Ay (A9 (i := 0) H8 Ay Ay Ay) (A6 Ay Ay Ay Ay (A1 Ay) (A6 Ay Ay Ay Ay (BI GY Ay Ay Aw (Gm hv) (Ay)) (A6 Ay Ay Ay Ay (CM GI Ay Ay) (A6 Ay Ay Ay Ay (CQ C9 Ay) (A6 Ay Ay Ay Ay (PZ Ay Ay) (A6 Ay Ay Ay Ay (A1 Ay) (A6 Ay Ay Ay Ay (BE Ay Ay Ay) (Az Ay Ay (BC Ay Ay) (A5 Ay (⟨Ay, Ay, AK, ⟨_, Ay⟩, ⟨Ay, Ay, Ay, Ay, Ay, Ay, Ay, trivial⟩⟩)))))))))))
   (try simp only [sd] at g6)
   exact A7 Ay Ay Ay Ay Ay (A7 Ay Ay Ay Ay Ay (A7 Ay Ay Ay Ay Ay (A7 Ay Ay Ay Ay Ay (A7 Ay Ay Ay Ay Ay (A7 Ay Ay Ay Ay Ay (A7 Ay Ay Ay Ay Ay (A7 Ay Ay Ay Ay Ay (A7 Ay Ay Ay Ay Ay (Az Ay Ay (BC Ay Ay) (A5 Ay (⟨Ay, Ay, AK, ⟨_, Ay⟩, ⟨Ay, Ay, Ay, Ay, Ay, Ay, Ay, trivial⟩⟩)))))))))))
  rintro _ ⟨q11, rfl⟩
  refine BD Ay (fun c7 => ?_) (fun c7 => ?_)
  ·(try simp only [sd] at c7)
   refine A2 (A0 (Az Ay Ay (A4 Ay) (A5 Ay (BF (⟨Ay, _, [], Bz Ay, nS, ⟨⟨_, Ay⟩, Ay⟩⟩)))))
  (try simp only [sd] at c7)
  exact BG (A0 (Az Ay Ay (A1 Ay) (Az Ay Ay (CH Ay Ay Aw Aw) (Az Ay Ay (A4 Ay) (A5 Ay (⟨by omega, trivial, Iq ⟨rfl, rfl, rfl, rfl, trivial⟩ J⟩))))))
 (try simp only [sd] at c5)
 refine B7 (A2 (A0 (Az Ay Ay (A4 Ay) (A5 Ay (BF (⟨Ay, _, [], Bz Ay, nS, ⟨⟨_, Ay⟩, Ay⟩⟩))))))
theorem _root_.Go.Ac {α : Prop} (h : α := by first | rfl | simp [Bd]) : α := h
theorem _root_.Go.AZ {α : Prop} (h : α := by first | omega | (simp only; omega)) : α := h
theorem _root_.Go.AA {α : Prop} (h : α := by repeat' first | exact trivial | refine And.intro ?_ ?_ | ((refine Or.inr (And.intro ?_ ?_) <;> repeat (first | exact List.Mem.head _ | apply List.Mem.tail)); done) | exact Or.inl (by kernel_rfl)) : α := h
theorem _root_.Go.Am {α : Prop} (h : α := by simp [Bd]) : α := h
theorem _root_.Go.AS {α : Prop} (h : α := by first | trivial | omega | simp | (simp; omega)) : α := h
theorem MG : ∀ (f : Tm) (xs : List Tm), (xs.length < EB) → IA Tryz.prog 60 [.agg ((Bu f).map .p), .p (.lst (Bg xs))] (.agg ((Bu (apply f xs)).map .p)) := by
 intro f xs h1
 simp only [EB] at h1
 refine BH Tryz.func60 Ay fQ (n := 20) Ay Ay (A2 (A0 (BP Ay Ay (Bj Ay) fun b2 => BP Ay Ay (BN B8 Ay) fun b4 => A5 Ay (A2 (A2 (A0 (Az Ay Ay (A4 Ay) (A5 Ay (BT (B4 (α := Nat) (fun i => ⟨20, mk [(1, .p (.lst (Bg xs))), (2, .ptr b2 0), (4, .ptr b4 0), (5, .p (I (i : Int)))], [.box b4 [.p (I 0), .p (I 0), .p (.str ⟨#[]⟩), .p (.nils), .p (.nils)], .box b2 ((Bu (apply f (xs.take i))).map .p)], []⟩) (fun i => xs.length - i) (fun i => i ≤ xs.length) 0 AS ?_ ?_))))))))))
 ·exact By ⟨we Ay, we Ay, we Ay, we Ay, trivial⟩ (leH (is := [0, 1]) Ay (wl (oe Ay) (wl (oe Ay) (Dc))))
 rintro i hC
 try simp only at hC
 have hi := hC
 refine A2 (A2 (A0 (Az Ay Ay (A1 Ay) (Az Ay Ay (A1 Ay) (Az Ay Ay (Bo CL Ay (B5 _)) (Az Ay Ay (BE Ay Ay Ay) (A5 Ay (BD Ay (fun c => ?_) (fun c => ?_)))))))))
 ·(try simp only [sd, se] at c)
  refine BG (A2 (BT (CW (fun k => false) ED (Ba (j := 1) Ay Ay Ay (fun H i hi => A8 (i := i) BU Ay hi Am) AA trivial (BA Ay Ay (fun _ => A1 Ay) trivial (BA Ay Ay (fun _ => A1 Ay) trivial ?_))))))
  obtain ⟨x, hx⟩ := BO (l := xs) (i := i) Aw
  refine BA Ay Ay (fun _ => BI CL Ay Ay Aw (CU hx) (Bd _)) trivial (BA Ay Ay (fun _ => Bq BU Ay (Bd _)) trivial ?_)
  generalize hz : (apply f (xs.take i)) = z
  obtain ⟨zk, zi, zn, zl, zs⟩ := z
  obtain ⟨xk, xi, xn, xl, xs1⟩ := x
  refine BA Ay Ay (fun _ => CJ CL B8 Ay Ay Ay Ay Ay) trivial (BA Ay Ay (fun _ => Bv CV B8 Ay) trivial (Cw Ay Ay (Bm (i := 1) BU Ay Ay Ay Ay Ay Ay) AA trivial (CP Ay Ar (A0 (Az Ay Ay (A1 Ay) (Az Ay Ay (CH Ay Ay Aw Aw) (Az Ay Ay (A4 Ay) (A5 Ay ?_))))))))
  refine ⟨(i + 1), AZ, by omega, By ⟨we rfl, we rfl, we rfl, we rfl, trivial⟩ (leH (is := [0, 1]) rfl (wl (oe rfl) (wl (on (by rw [PH hx, hz]; rfl)) (Dc))))⟩
 (try simp only [sd, se] at c)
 refine B7 (A2 (A0 (Az Ay Ay (A8 (i := 1) BU Ay Ay Am) (Az Ay Ay (BB (i := 0) BU Ay Ay Ay Am Ac (CN _)) (A5 Ay (BF (⟨Ay, _, _, ⟨_, _, Ay, (Bt (i := 0) BU Ay Ay Am), Ay⟩, nS, ?_⟩)))))))
 all_goals exact ⟨by show (.agg ((Bu (apply f (xs.take i))).map .p) : AV) = _; rw [show i = xs.length by omega, List.take_length], rfl⟩
theorem _root_.Go.Ah {α : Prop} (h : α := by simp only [EB]; omega) : α := h
theorem _root_.Go.AJ {α : Prop} (h : α := by first | rfl | (refine pB ?_; simp_all; done) | (refine pB ?_; simp_all <;> (intros; omega))) : α := h
theorem Uz : ∀ (n : Nat) (t : Tm), (size t ≤ n) → (n < EB) → B1 Tryz.prog 49 [.agg ((Bu t).map .p)] [] (aS (fun v => .tup [.agg ((Bu ((CA t).1)).map .p), v]) 5 (Bg ((CA t).2))) := by
 intro n
 induction n with
 | zero => intro t h; cases t; simp [size] at h
 | succ n ih =>
  intro t h1 h2
  simp only [EB] at h2
  refine BH Tryz.func49 Ay fh (n := 32) Ay Ay (A2 (A0 (BP Ay Ay (Bj Ay) fun b1 => BP Ay Ay (BN B8 Ay) fun b2 => Az Ay Ay (A4 Ay) (A5 Ay (A2 (A2 ?_))))))
  obtain ⟨tk, ti, tn, tl, ts⟩ := t
  simp only [size] at h1
  refine Bx [1, 2] 14 (fun y => y = .p (.bool (((tk : Int) != (4 : Int)) || (((ts.length : Nat) : Int) != (2 : Int))))) ?_ ?_
  ·refine A0 (Az Ay Ay (A3 CV Ay Ay) (Az Ay Ay (A9 (i := 1) C9 Ay Ay Ay) (Az Ay Ay (BE Ay Ay Ay) (Az Ay Ay (A1 Ay) (Br 9 Ay (fun g => ?_) (fun g => ?_))))))
   ·(try simp only [sd, se] at g)
    exact A7 Ay Ay Ay Ay Ay (A7 Ay Ay Ay Ay Ay (A7 Ay Ay Ay Ay Ay (A7 Ay Ay Ay Ay Ay (Az Ay Ay (BC Ay Ay) (A5 Ay (⟨Ay, Ay, AK, AJ, ⟨Ay, Ay, trivial⟩⟩))))))
   (try simp only [sd, se] at g)
   exact A6 Ay Ay Ay Ay (A3 CV Ay Ay) (A6 Ay Ay Ay Ay (A9 (i := 1) DG Ay Ay Ay) (A6 Ay Ay Ay Ay (Bo CL Ay (B5 _)) (A6 Ay Ay Ay Ay (BE Ay Ay Ay) (Az Ay Ay (BC Ay Ay) (A5 Ay (⟨Ay, Ay, AK, AJ, ⟨Ay, Ay, trivial⟩⟩))))))
  rintro _ rfl
  refine BD Ay (fun c => ?_) (fun c => ?_)
  ·(try simp only [sd, se] at c)
   refine A2 (A0 (Az Ay Ay (A8 (i := 1) BU Ay Ay Ay) (Az Ay Ay (Bm (i := 0) BU Ay Ay Ay Ay Ay Ay) (Az Ay Ay (A4 Ay) (A5 Ay (B2 (IQ (t := 3) (sz := 5) Ay) (BF (⟨Ay, _, _, ⟨_, _, Ay, (Bt (i := 1) BU Ay Ay Ay), ⟨_, _, Ay, Ay, Ay⟩⟩, (C2 (is := [0]) Ay), ?_⟩))))))))
   rw [Oj c]
   all_goals exact ⟨_, _, rfl, rfl⟩
  (try simp only [sd, se] at c)
  refine BG (A2 (A0 (Az Ay Ay (A3 CV Ay Ay) (Az Ay Ay (A9 (i := 1) DG Ay Ay Ay) ?_))))
  obtain ⟨x, hx⟩ := BO (l := ts) (i := 0) Aw
  refine Az Ay Ay (BI CL Ay Ay Aw (CU hx) (Bd _)) (Az Ay Ay (Bq BU Ay (Bd _)) (aL Ay Ay Ay (.inl ⟨Ay, Ay, Ay⟩) (ih x (by have := DM hx; omega) Ah) (.inl Ay) fun o cp => Az Ay Ay (A1 Ay) (Az Ay Ay (Bi Ay Ay) (Az Ay Ay (Bi Ay Ay) (BP Ay Ay (BN B8 Ay) fun b4 => Az Ay Ay (BB (i := 0) BU Ay Ay Ay Am Ac (CN _)) (Az Ay Ay (A4 Ay) (A5 Ay (A2 (CW (fun k => Nat.beq k 7) ED (Ba (j := 0) Ay Ay Ay (fun H i hi => A8 (i := i) BU Ay hi Am) AA trivial (BA Ay Ay (fun _ => A1 Ay) trivial (BA Ay Ay (fun _ => A3 CV Ay Ay) trivial (Ba (j := 3) Ay Ay Ay (fun H i hi => A9 (i := i) DG Ay hi Ay) AA trivial ?_)))))))))))))
  obtain ⟨x1, hx1⟩ := BO (l := ts) (i := 1) Aw
  refine BA Ay Ay (fun _ => BI CL Ay Ay Aw (CU hx1) (Bd _)) trivial (BA Ay Ay (fun _ => Bq BU Ay (Bd _)) trivial ?_)
  obtain ⟨x1k, x1i, x1n, x1l, x1s⟩ := x1
  refine BA Ay Ay (fun _ => CJ CL B8 Ay Ay Ay Ay Ay) trivial (NN [] Ay Ay (Df (i := 1) (rows' := Bg [(.mk x1k x1i x1n x1l x1s : Tm)]) CL CL B8 Ay Ay Ay Ay Ay Ay (CT _) (by have := VW x; have := DM hx; simp [B5]; omega) (OK ((CA x).2) [(.mk x1k x1i x1n x1l x1s : Tm)])) Ar fun o1 cp1 => ⟨AA, trivial, ?_⟩)
  refine Cw Ay Ay (BB (i := 2) BU Ay Ay Ay Am Ac (CN _)) AA trivial (BA Ay Ay (fun _ => A4 Ay) trivial (CP Ay Ar (BF (⟨Ay, _, _, ⟨_, _, Ay, (Bt (i := 2) BU Ay Ay Am), ⟨_, _, Ay, Ay, Ay⟩⟩, (C2 (is := [1]) Ay), ?_⟩))))
  rw [QF c hx hx1]
  all_goals exact ⟨_, _, rfl, rfl⟩
theorem WC : ∀ (n : Nat) (t : Tm), size t ≤ n → n < EB → IA Tryz.prog 49 [TV t] (.tup [TV (CA t).1, fj (CA t).2]) :=
 fun n t h1 h2 => TU (pre := [_]) (post := []) (Uz n t h1 h2) (fun x _ => Sj x)
theorem Y0 : ∀ (k : Int) (xs : List Tm) (t : Tm), (xs.length < EB) → IA Tryz.prog 103 [.p (I k), .p (.lst (Bg xs)), .agg ((Bu t).map .p)] (.agg ((Bu (IW k xs t)).map .p)) := by
 intro k xs t h1
 simp only [EB] at h1
 refine BH Tryz.func103 Ay bP (n := 24) Ay Ay (A2 (A0 (BP Ay Ay (Bj Ay) fun b5 => BP Ay Ay (BN B8 Ay) fun b6 => A5 Ay (A2 (A2 (A0 (Az Ay Ay (A1 Ay) (Az Ay Ay (Bo CL Ay (B5 _)) (Az Ay Ay (FH Ay Ay Aw Aw) (Az Ay Ay (A4 Ay) (A5 Ay (BT (B4 (α := Nat) (fun m => ⟨24, mk [(0, .p (I k)), (1, .p (.lst (Bg xs))), (5, .ptr b5 0), (6, .ptr b6 0), (7, .p (I ((m : Int) - 1)))], [.box b6 [.p (I 0), .p (I 0), .p (.str ⟨#[]⟩), .p (.nils), .p (.nils)], .box b5 ((Bu (IW k (xs.drop m) t)).map .p)], []⟩) (fun m => m) (fun m => m ≤ xs.length) xs.length AS ?_ ?_)))))))))))))
 ·exact By ⟨we Ay, we Ay, we Ay, we Ay, we Ay, trivial⟩ (leH (is := [0, 1]) Ay (wl (oe Ay) (wl (ob (by simp [IW])) (Dc))))
 rintro m hC
 try simp only at hC
 refine A2 (A2 (A0 (Az Ay Ay (A1 Ay) (Az Ay Ay (BE Ay Ay Ay) (A5 Ay (BD Ay (fun c => ?_) (fun c => ?_)))))))
 ·(try simp only [sd, se] at c)
  refine BG (A2 (BT (CW (fun k => false) ED (BA Ay Ay (fun _ => A1 Ay) trivial (BA Ay Ay (fun _ => A1 Ay) trivial (BA Ay Ay (fun _ => A1 Ay) trivial ?_))))))
  obtain ⟨x, hx⟩ := BO (l := xs) (i := ((m : Int) - 1 : Int).toNat) Aw
  refine BA Ay Ay (fun _ => BI CL Ay Ay Aw (CU hx) (Bd _)) trivial (BA Ay Ay (fun _ => Bq BU Ay (Bd _)) trivial (Ba (j := 1) Ay Ay Ay (fun H i hi => A8 (i := i) BU Ay hi Am) AA trivial ?_))
  obtain ⟨xk, xi, xn, xl, xs1⟩ := x
  generalize hz : IW k (xs.drop m) t = z
  obtain ⟨zk, zi, zn, zl, zs⟩ := z
  refine BA Ay Ay (fun _ => CJ CL B8 Ay Ay Ay Ay Ay) trivial (BA Ay Ay (fun _ => Bv CV B8 Ay) trivial (Cw Ay Ay (Bm (i := 1) BU Ay Ay Ay Ay Ay Ay) AA trivial (CP Ay Ar (A0 (Az Ay Ay (A1 Ay) (Az Ay Ay (FH Ay Ay Aw Aw) (Az Ay Ay (A4 Ay) (A5 Ay ?_))))))))
  refine ⟨(m - 1), AZ, by first | trivial | omega | (simp only; omega) | (simp; omega), By ⟨we rfl, we rfl, we rfl, we rfl, we (pI Aw), trivial⟩ (leH (is := [0, 1]) rfl (wl (oe rfl) (wl (on (by rw [R6 hx Aw, hz]; rfl)) (Dc))))⟩
 (try simp only [sd, se] at c)
 refine B7 (A2 (A0 (Az Ay Ay (A8 (i := 1) BU Ay Ay Am) (Az Ay Ay (BB (i := 0) BU Ay Ay Ay Am Ac (CN _)) (A5 Ay (BF (⟨Ay, _, _, ⟨_, _, Ay, (Bt (i := 0) BU Ay Ay Am), Ay⟩, nS, ?_⟩)))))))
 all_goals exact ⟨by show (.agg ((Bu (IW k (xs.drop m) t)).map .p) : AV) = _; rw [show m = 0 by omega]; rfl, rfl⟩
theorem ax : ∀ (xs : List Tm) (t : Tm), (xs.length < EB) → IA Tryz.prog 63 [.p (.lst (Bg xs)), .agg ((Bu t).map .p)] (.agg ((Bu (IW 6 xs t)).map .p)) := by
 intro xs t h1
 refine BH Tryz.func63 Ay gr (n := 8) Ay Ay (A2 (A0 (BP Ay Ay (Bj Ay) fun b3 => BP Ay Ay (BN B8 Ay) fun b4 => A5 Ay (A2 (A0 (Az Ay Ay (A1 Ay) (Az Ay Ay (A8 (i := 1) BU Ay Ay Am) (Az Ay Ay (Bp Ay Ay (Y0 6 xs t (by first | assumption | omega)) Ay) (Az Ay Ay (BB (i := 0) BU Ay Ay Ay Am Ac (CN _)) (A5 Ay (BF (⟨Ay, _, _, ⟨_, _, Ay, (Bt (i := 0) BU Ay Ay Am), Ay⟩, nS, ?_⟩))))))))))))
 all_goals exact ⟨rfl, rfl⟩
theorem Q8 : ∀ (n : Nat) (t : Tm), (size t ≤ n) → (Nd t) → IA Tryz.prog 18 [.agg ((Bu t).map .p)] (.p (I (Hu t))) := by
 intro n
 induction n with
 | zero => intro t h; cases t; simp [size] at h
 | succ n ih =>
  intro t h1 h2
  obtain ⟨tk, ti, tn, tl, ts⟩ := t
  simp only [size] at h1
  simp only [Nd, EB] at h2
  refine BH Tryz.func18 Ay gV (n := 21) Ay Ay (A2 (A0 (BP Ay Ay (Bj Ay) fun b1 => Az Ay Ay (A4 Ay) (A5 Ay (A2 (A0 (Az Ay Ay (A4 Ay) (A5 Ay (A2 (A2 (A0 (Az Ay Ay (A4 Ay) (A5 Ay (BT (B4 (α := Nat × Int) (fun (i, m) => ⟨21, mk [(1, .ptr b1 0), (3, .p (I m)), (4, .p (I (i : Int)))], [.box b1 [.p (I tk), .p (I ti), .p (.str tn), .p (.lst (List.map Dx tl)), .p (.lst (Bg ts))]], []⟩) (fun (i, m) => ts.length - i) (fun (i, m) => i ≤ ts.length ∧ (Jf m (ts.drop i) = Jf 1 ts)) ⟨0, 1⟩ Ax ?_ ?_)))))))))))))))
  ·exact By ⟨we Ay, we Ay, we Ay, trivial⟩ (leH (is := [0]) Ay (wl (oe Ay) (Dc)))
  rintro ⟨i, m⟩ hC
  try simp only at hC
  obtain ⟨hi, hC⟩ := hC
  refine A2 (A2 (A0 (Az Ay Ay (A1 Ay) (Az Ay Ay (A3 CV Ay Ay) (Az Ay Ay (A9 (i := 0) DG Ay Ay Ay) (Az Ay Ay (Bo CL Ay (B5 _)) (Az Ay Ay (BE Ay Ay Ay) (A5 Ay (BD Ay (fun c => ?_) (fun c => ?_))))))))))
  ·(try simp only [sd, se] at c)
   refine BG (A2 (BT (A0 (Az Ay Ay (A1 Ay) (Az Ay Ay (A3 CV Ay Ay) (Az Ay Ay (A9 (i := 0) DG Ay Ay Ay) (Az Ay Ay (A1 Ay) ?_)))))))
   obtain ⟨x, hx⟩ := BO (l := ts) (i := i) Aw
   refine Az Ay Ay (BI CL Ay Ay Aw (CU hx) (Bd _)) (Az Ay Ay (Bq BU Ay (Bd _)) (Az Ay Ay (Bp Ay Ay (ih x (by have := DM hx; omega) (D7 h2.2.2.2.2.1 hx)) Ay) (Az Ay Ay (EE Ay Ay) (Az Ay Ay (A4 Ay) (A5 Ay (A0 (Az Ay Ay (A1 Ay) (Az Ay Ay (CH Ay Ay Aw Aw) (Az Ay Ay (A4 Ay) (A5 Ay ?_))))))))))
   refine ⟨⟨i + 1, wr (m + Hu x)⟩, AZ, ⟨by omega, by rw [← hC, EI hx]; rfl⟩, By ⟨we rfl, we rfl, we rfl, trivial⟩ (leH (is := [0]) rfl (wl (oe rfl) (Dc)))⟩
  (try simp only [sd, se] at c)
  refine B7 (A2 (A0 (Az Ay Ay (A1 Ay) (Az Ay Ay (A4 Ay) (A5 Ay (BF (⟨Ay, _, _, ⟨_, _, Ay, Ay, Ay⟩, nS, ?_⟩)))))))
  all_goals exact ⟨pI (by rw [show Hu (.mk tk ti tn tl ts) = Jf 1 ts from rfl, ← hC, show i = ts.length by omega, List.drop_length]; rfl), rfl⟩
theorem Rx : ∀ (n : Nat) (t : Tm), (size t ≤ n) → (Nd t) → IA Tryz.prog 53 [.agg ((Bu t).map .p)] (.p (I (H7 t))) := by
 intro n
 induction n with
 | zero => intro t h; cases t; simp [size] at h
 | succ n ih =>
  intro t h1 h2
  obtain ⟨tk, ti, tn, tl, ts⟩ := t
  simp only [size] at h1
  simp only [Nd, EB] at h2
  refine BH Tryz.func53 Ay gM (n := 22) Ay Ay (A2 (A0 (BP Ay Ay (Bj Ay) fun b1 => Az Ay Ay (A4 Ay) (A5 Ay (A2 (A0 (Az Ay Ay (A4 Ay) (A5 Ay (A2 (A2 (A0 (Az Ay Ay (A4 Ay) (A5 Ay (BT (B4 (α := Nat × Int) (fun (i, m) => ⟨22, mk [(1, .ptr b1 0), (3, .p (I m)), (4, .p (I (i : Int)))], [.box b1 [.p (I tk), .p (I ti), .p (.str tn), .p (.lst (List.map Dx tl)), .p (.lst (Bg ts))]], []⟩) (fun (i, m) => ts.length - i) (fun (i, m) => i ≤ ts.length ∧ (Mc m (ts.drop i) = Mc 0 ts)) ⟨0, 0⟩ Ax ?_ ?_)))))))))))))))
  ·exact By ⟨we Ay, we Ay, we Ay, trivial⟩ (leH (is := [0]) Ay (wl (oe Ay) (Dc)))
  rintro ⟨i, m⟩ hC
  try simp only at hC
  obtain ⟨hi, hC⟩ := hC
  refine A2 (A2 (A0 (Az Ay Ay (A1 Ay) (Az Ay Ay (A3 CV Ay Ay) (Az Ay Ay (A9 (i := 0) DG Ay Ay Ay) (Az Ay Ay (Bo CL Ay (B5 _)) (Az Ay Ay (BE Ay Ay Ay) (A5 Ay (BD Ay (fun c => ?_) (fun c => ?_))))))))))
  ·(try simp only [sd, se] at c)
   refine BG (A2 (BT (A0 (Az Ay Ay (A1 Ay) (Az Ay Ay (A3 CV Ay Ay) (Az Ay Ay (A9 (i := 0) DG Ay Ay Ay) (Az Ay Ay (A1 Ay) ?_)))))))
   obtain ⟨x, hx⟩ := BO (l := ts) (i := i) Aw
   refine Az Ay Ay (BI CL Ay Ay Aw (CU hx) (Bd _)) (Az Ay Ay (Bq BU Ay (Bd _)) (Az Ay Ay (Bp Ay Ay (ih x (by have := DM hx; omega) (D7 h2.2.2.2.2.1 hx)) Ay) (Az Ay Ay (Jl Ay Ay) (Az Ay Ay (A4 Ay) (A5 Ay (A0 (Az Ay Ay (A1 Ay) (Az Ay Ay (CH Ay Ay Aw Aw) (Az Ay Ay (A4 Ay) (A5 Ay ?_))))))))))
   refine ⟨⟨i + 1, max m (H7 x)⟩, AZ, ⟨by omega, by rw [← hC, EI hx]; rfl⟩, By ⟨we rfl, we rfl, we rfl, trivial⟩ (leH (is := [0]) rfl (wl (oe rfl) (Dc)))⟩
  (try simp only [sd, se] at c)
  refine B7 (A2 (A0 (Az Ay Ay (A1 Ay) (Az Ay Ay (EE Ay Ay) (Az Ay Ay (A4 Ay) (A5 Ay (BF (⟨Ay, _, _, ⟨_, _, Ay, Ay, Ay⟩, nS, ?_⟩))))))))
  all_goals exact ⟨pI (by rw [show H7 (.mk tk ti tn tl ts) = wr (Mc 0 ts + 1) from rfl, ← hC, show i = ts.length by omega, List.drop_length]; rfl), rfl⟩
theorem Vs : ∀ (b : Nat) (er nd e : Int), B1 Tryz.prog 147 [.ptr b 0, .p (I e)] [.box b [.p (I er), .p (I nd)]] (Dq (.tup []) [.box b [.p (I (OQ er e)), .p (I nd)]]) := by
 intro b er nd e
 refine BH Tryz.func147 Ay bQ (n := 13) Ay Ay (A2 (A0 (Az Ay Ay (A1 Ay) (Az Ay Ay (Bn Ay) (Az Ay Ay (A3 Rm Ay Ay) (Az Ay Ay (A9 (i := 0) C9 Ay Ay Ay) (Az Ay Ay (BE Ay Ay Ay) (A5 Ay (BD Ay (fun c => ?_) (fun c => ?_))))))))))
 ·(try simp only [sd, se] at c)
  refine A0 (Az Ay Ay (A1 Ay) (Az Ay Ay (A1 Ay) (Az Ay Ay (Bn Ay) (Az Ay Ay (A3 Rm Ay Ay) (Az Ay Ay (Bm (i := 0) C9 Ay Ay Ay Ay Ay Ay) (A5 Ay ⟨Ay, _, _, Ay, (C2 (is := [0]) Ay), ?_⟩))))))
  refine ⟨Ay, ?_⟩
  show ([.box b [.p (I e), .p (I nd)]] : List Bc) = _
  simp [OQ, c]
 (try simp only [sd, se] at c)
 refine BG ⟨Ay, _, _, Ay, (C2 (is := [0]) Ay), ?_⟩
 refine ⟨Ay, ?_⟩
 show ([.box b [.p (I er), .p (I nd)]] : List Bc) = _
 simp [OQ, c]
theorem _root_.Go.Av {α : Prop} (h : α := by decide) : α := h
theorem Sx : ∀ (b : Nat) (er nd i : Int), B1 Tryz.prog 148 [.ptr b 0, .p (I i)] [.box b [.p (I er), .p (I nd)]] (Dq (.agg ((Bu (Vc i)).map .p)) [.box b [.p (I (VA er i)), .p (I nd)]]) := by
 intro b er nd i
 refine BH Tryz.func148 Ay dE (n := 11) Ay Ay (A2 (A0 (BP Ay Ay (BN B8 Ay) fun b4 => A5 Ay (A2 (A2 (A0 (Az Ay Ay (A1 Ay) (Az Ay Ay (BE Ay Ay Ay) (A5 Ay (BD Ay (fun c => ?_) (fun c => ?_)))))))))))
 ·(try simp only [sd, se] at c)
  refine A0 (Az Ay Ay (A1 Ay) (Az Ay Ay (Cf [1] Ay (.inl ⟨Ay, Ay, Ay⟩) (Vs b er nd 24) ⟨_, _, Ay, Ay, Ay⟩ Av Ay (.inl Ay)) (A5 Ay (A2 (A0 (Az Ay Ay (A1 Ay) (Az Ay Ay (Bv CV B8 Ay) (Az Ay Ay (Bm (i := 0) BU Ay Ay Ay Ay Ay Ay) (A5 Ay (B2 (Cv (i := 0) Ay) (BF (⟨Ay, _, _, ⟨_, _, Ay, (Bt (i := 0) BU Ay Ay Ay), Ay⟩, (C2 (is := [1]) Ay), ?_⟩))))))))))))
  refine ⟨Ay, ?_⟩
  show ([.box b [.p (I (OQ er 24)), .p (I nd)]] : List Bc) = _
  simp [VA, show i > 65535 by omega]
 (try simp only [sd, se] at c)
 refine BG (A2 (A0 (Az Ay Ay (A1 Ay) (Az Ay Ay (Bv CV B8 Ay) (Az Ay Ay (Bm (i := 0) BU Ay Ay Ay Ay Ay Ay) (A5 Ay (B2 (Cv (i := 0) Ay) (BF (⟨Ay, _, _, ⟨_, _, Ay, (Bt (i := 0) BU Ay Ay Ay), Ay⟩, (C2 (is := [1]) Ay), ?_⟩)))))))))
 refine ⟨Ay, ?_⟩
 show ([.box b [.p (I er), .p (I nd)]] : List Bc) = _
 simp [VA, show ¬ i > 65535 by omega]
theorem _root_.Go.AE {α : Prop} (h : α := by simp only [B5, List.length_map, List.length_cons, List.length_nil, List.nil_append, List.length_append]; omega) : α := h
theorem Yz : ∀ (n : Nat) (t : Tm) (b : Nat) (by' fr d er nd : Int), (size t ≤ n) → (Nd t) → (0 ≤ d) → (d + n < 2 ^ 62) → B1 Tryz.prog 135 [.ptr b 0, .agg ((Bu t).map .p), .p (I by'), .p (I fr), .p (I d)] [.box b [.p (I er), .p (I nd)]] (Dq (.agg ((Bu ((Fe by' fr d er t).1)).map .p)) [.box b [.p (I ((Fe by' fr d er t).2)), .p (I nd)]]) := by
 intro n
 induction n with
 | zero => intro t b by' fr d er nd h; cases t; simp [size] at h
 | succ n ih =>
  intro t b by' fr d er nd h1 h2 h3 h4
  obtain ⟨tk, ti, tn, tl, ts⟩ := t
  simp only [size] at h1
  simp only [Nd, EB] at h2
  refine BH Tryz.func135 Ay dt (n := 68) Ay Ay (A2 (A0 (BP Ay Ay (Bj Ay) fun b6 => BP Ay Ay (BN B8 Ay) fun b10 => A5 Ay (A2 (A2 (A0 (Az Ay Ay (A3 CV Ay Ay) (Az Ay Ay (A9 (i := 1) C9 Ay Ay Ay) (Az Ay Ay (BE Ay Ay Ay) (A5 Ay (BD Ay (fun c => ?_) (fun c => ?_))))))))))))
  ·(try simp only [sd, se] at c)
   refine A2 (A2 (A0 (Az Ay Ay (A3 CV Ay Ay) (Az Ay Ay (A9 (i := 1) C9 Ay Ay Ay) (Az Ay Ay (A1 Ay) (Az Ay Ay (A1 Ay) (Az Ay Ay (EE Ay Ay) (Az Ay Ay (BE Ay Ay Ay) (A5 Ay (BD Ay (fun c1 => ?_) (fun c1 => ?_)))))))))))
   ·(try simp only [sd, se] at c1)
    refine A2 (A0 (Az Ay Ay (A8 (i := 1) BU Ay Ay Ay) (Az Ay Ay (Bm (i := 0) BU Ay Ay Ay Ay Ay Ay) (A5 Ay (BF (⟨Ay, _, _, ⟨_, _, Ay, (Bt (i := 0) BU Ay Ay Ay), Ay⟩, (C2 (is := [2]) Ay), ?_⟩))))))
    refine ⟨by show (.agg [.p (I tk), .p (I ti), .p (.str tn), .p (.lst (List.map Dx tl)), .p (.lst (Bg ts))] : AV) = _; rw [Fe, if_pos c, if_pos c1]; rfl, ?_⟩
    show ([.box b [.p (I er), .p (I nd)]] : List Bc) = _
    rw [Fe, if_pos c, if_pos c1]
   (try simp only [sd, se] at c1)
   refine BG (A2 (A2 (A0 (Az Ay Ay (A3 CV Ay Ay) (Az Ay Ay (A9 (i := 1) C9 Ay Ay Ay) (Az Ay Ay (A1 Ay) (Az Ay Ay (EE Ay Ay) (Az Ay Ay (A1 Ay) (Az Ay Ay (A1 Ay) (Az Ay Ay (EE Ay Ay) (Az Ay Ay (BE Ay Ay Ay) (A5 Ay (BD Ay (fun c2 => ?_) (fun c2 => ?_))))))))))))))
   ·(try simp only [sd, se] at c2)
    refine A2 (A0 (Az Ay Ay (A1 Ay) (Az Ay Ay (Cf [2] Ay (.inl ⟨Ay, Ay, Ay⟩) (Vs b er nd 24) ⟨_, _, Ay, Ay, Ay⟩ Av Ay (.inl Ay)) (A5 Ay (A2 (A0 (Az Ay Ay (A8 (i := 1) BU Ay Ay Ay) (Az Ay Ay (Bm (i := 0) BU Ay Ay Ay Ay Ay Ay) (A5 Ay (BF (⟨Ay, _, _, ⟨_, _, Ay, (Bt (i := 0) BU Ay Ay Ay), Ay⟩, (C2 (is := [2]) Ay), ?_⟩)))))))))))
    refine ⟨by show (.agg [.p (I tk), .p (I ti), .p (.str tn), .p (.lst (List.map Dx tl)), .p (.lst (Bg ts))] : AV) = _; rw [Fe, if_pos c, if_neg Aw, if_pos c2]; rfl, ?_⟩
    show ([.box b [.p (I (OQ er 24)), .p (I nd)]] : List Bc) = _
    rw [Fe, if_pos c, if_neg Aw, if_pos c2]
   (try simp only [sd, se] at c2)
   refine BG (A2 (A0 (Az Ay Ay (A1 Ay) (Az Ay Ay (A3 CV Ay Ay) (Az Ay Ay (A9 (i := 1) C9 Ay Ay Ay) (Az Ay Ay (A1 Ay) (Az Ay Ay (EE Ay Ay) (Az Ay Ay (Cf [2] Ay (.inl ⟨Ay, Ay, Ay⟩) (Sx b er nd (wr ((ti : Int) + (by' : Int)))) ⟨_, _, rfl, rfl, rfl⟩ Av rfl (.inl rfl)) (Az Ay Ay (BB (i := 0) BU Ay Ay Ay Am Ac (CN _)) (A5 Ay (BF (⟨Ay, _, _, ⟨_, _, Ay, (Bt (i := 0) BU Ay Ay Am), Ay⟩, (C2 (is := [2]) Ay), ?_⟩))))))))))))
   refine ⟨by show (.agg ((Bu (Vc (wr ((ti : Int) + (by' : Int))))).map .p) : AV) = _; rw [Fe, if_pos c, if_neg Aw, if_neg Aw], ?_⟩
   show ([.box b [.p (I (VA er (wr ((ti : Int) + (by' : Int))))), .p (I nd)]] : List Bc) = _
   rw [Fe, if_pos c, if_neg Aw, if_neg Aw]
  (try simp only [sd, se] at c)
  refine BG (A2 (A0 (Az Ay Ay (A4 Ay) (A5 Ay (A2 (A2 (A0 (Az Ay Ay (A4 Ay) (A5 Ay (BT (B2 (IQ (t := 11) (sz := 5) Ay) ?_)))))))))))
  refine B4 (α := Nat × List Tm × Int × Option Nat × Nat) (fun (i, ys, e, o, cp) => ⟨68, mk [(0, .ptr b 0), (2, .p (I by')), (3, .p (I fr)), (4, .p (I d)), (6, .ptr b6 0), (10, .ptr b10 0), (11, .vs o (Bg ys).length cp), (12, .p (I (i : Int)))], [.vec o 5 (Bg ys) cp, .box b10 [.p (I 0), .p (I 0), .p (.str ⟨#[]⟩), .p (.nils), .p (.nils)], .box b6 [.p (I tk), .p (I ti), .p (.str tn), .p (.lst (List.map Dx tl)), .p (.lst (Bg ts))], .box b [.p (I e), .p (I nd)]], []⟩) (fun (i, ys, e, o, cp) => ts.length - i) (fun (i, ys, e, o, cp) => i ≤ ts.length ∧ (ys.length = i ∧ (ys ++ (Ha by' fr tk d i e (ts.drop i)).1, (Ha by' fr tk d i e (ts.drop i)).2) = Ha by' fr tk d 0 er ts)) ⟨0, [], er, none, 0⟩ Ax ?_ ?_
  ·exact By ⟨we Ay, we Ay, we Ay, we Ay, we Ay, we Ay, we Ay, we Ay, trivial⟩ (leH (is := [0, 1, 2, 3]) Ay (wl (oe Ay) (wl (oe Ay) (wl (oe Ay) (wl (oe Ay) (Dc))))))
  rintro ⟨i, ys, e, o, cp⟩ hC
  try simp only at hC
  obtain ⟨hi, hl, hC⟩ := hC
  refine A2 (A2 (A0 (Az Ay Ay (A1 Ay) (Az Ay Ay (A3 CV Ay Ay) (Az Ay Ay (A9 (i := 2) DG Ay Ay Ay) (Az Ay Ay (Bo CL Ay (B5 _)) (Az Ay Ay (BE Ay Ay Ay) (A5 Ay (BD Ay (fun c1 => ?_) (fun c1 => ?_))))))))))
  ·(try simp only [sd, se] at c1)
   refine BG (A2 (BT (CW (fun k => Nat.beq k 17) ED (BA Ay Ay (fun _ => A1 Ay) trivial (BA Ay Ay (fun _ => A1 Ay) trivial (BA Ay Ay (fun _ => A3 CV Ay Ay) trivial (Ba (j := 2) Ay Ay Ay (fun H i hi => A9 (i := i) DG Ay hi Ay) AA trivial (BA Ay Ay (fun _ => A1 Ay) trivial ?_))))))))
   obtain ⟨x, hx⟩ := BO (l := ts) (i := i) Aw
   refine BA Ay Ay (fun _ => BI CL Ay Ay Aw (CU hx) (Bd _)) trivial (BA Ay Ay (fun _ => Bq BU Ay (Bd _)) trivial (BA Ay Ay (fun _ => A1 Ay) trivial (BA Ay Ay (fun _ => A1 Ay) trivial (BA Ay Ay (fun _ => A1 Ay) trivial (BA Ay Ay (fun _ => A3 CV Ay Ay) trivial (Ba (j := 2) Ay Ay Ay (fun H i hi => A9 (i := i) C9 Ay hi Ay) AA trivial (BA Ay Ay (fun _ => A1 Ay) trivial (BA Ay Ay (fun _ => Bp Ay Ay (UW tk (i : Int)) Ay) trivial (BA Ay Ay (fun _ => CH Ay Ay (by have := EX tk i; omega) (by have := EX tk i; omega)) trivial ?_)))))))))
   refine Cw Ay Ay (Cf [3] Ay (.inl ⟨Ay, Ay, Ay⟩) (ih x b by' fr ((d : Int) + (below tk (i : Int) : Int)) e nd (by have := DM hx; omega) (D7 h2.2.2.2.2.1 hx) (by have := EX tk i; omega) (by have := EX tk i; omega)) ⟨_, _, rfl, rfl, rfl⟩ Av rfl (.inl rfl)) AA trivial ?_
   generalize hz : (Fe by' fr ((d : Int) + (below tk (i : Int) : Int)) e x).1 = z
   obtain ⟨zk, zi, zn, zl, zs⟩ := z
   refine BA Ay Ay (fun _ => CJ CL B8 Ay Ay Ay Ay Ay) trivial (NN [] Ay Ay (Df (i := 0) (rows' := Bg [(.mk zk zi zn zl zs : Tm)]) CL CL B8 Ay Ay Ay Ay Ay Ay (CT _) AE (OK ys [(.mk zk zi zn zl zs : Tm)])) Ar fun o1 cp1 => ⟨AA, trivial, ?_⟩)
   refine BA Ay Ay (fun _ => A4 Ay) trivial (CP Ay Ar (A0 (Az Ay Ay (A1 Ay) (Az Ay Ay (CH Ay Ay Aw Aw) (Az Ay Ay (A4 Ay) (A5 Ay ?_))))))
   refine ⟨⟨i + 1, ys ++ [(Fe by' fr (d + below tk i) e x).1], (Fe by' fr (d + below tk i) e x).2, o1, cp1⟩, AZ, ⟨by omega, ⟨by simp [hl], by rw [← hC, EI hx]; simp [Ha]⟩⟩, By ⟨we rfl, we rfl, we rfl, we rfl, we rfl, we rfl, we (ad (ys ++ [(.mk zk zi zn zl zs : Tm)]) (by rw [hz])), we rfl, trivial⟩ (leH (is := [0, 1, 2, 3]) rfl (wl (WJ (ys ++ [(.mk zk zi zn zl zs : Tm)]) (by rw [hz])) (wl (oe rfl) (wl (oe rfl) (wl (oe rfl) (Dc))))))⟩
  (try simp only [sd, se] at c1)
  refine B7 (A2 (A0 (Az Ay Ay (A1 Ay) (Az Ay Ay (A3 CV Ay Ay) (DK (FI (i := 0) [11, 65] Ay (HQ ⟨Ay, Ay, trivial⟩)) (Az Ay Ay (Bm (i := 1) DG Ay Ay Ay Ay Ay Ay) (A5 Ay (A2 (A0 (Az Ay Ay (A8 (i := 1) BU Ay Ay Ay) (Az Ay Ay (Bm (i := 0) BU Ay Ay Ay Ay Ay Ay) (A5 Ay (BF (⟨Ay, _, _, ⟨_, _, Ay, (Bt (i := 0) BU Ay Ay Ay), Ay⟩, (C2 (is := [2]) Ay), ?_⟩))))))))))))))
  refine ⟨by show (.agg [.p (I tk), .p (I ti), .p (.str tn), .p (.lst (List.map Dx tl)), .p (.lst (Bg ys))] : AV) = _; rw [Fe, if_neg c]; rw [show i = ts.length by omega, List.drop_length] at hC; rw [← hC]; simp [Ha]; rfl, ?_⟩
  show ([.box b [.p (I e), .p (I nd)]] : List Bc) = _
  rw [Fe, if_neg c]; rw [show i = ts.length by omega, List.drop_length] at hC; rw [← hC]; simp [Ha]
theorem _root_.Go.As {α : Prop} (h : α := by assumption) : α := h
theorem Y4 : ∀ {σ : Type} (st : σ → Int → Tm → σ × Bool) (Inv : Nat → σ → Prop) (HP : Bool → σ → List Bc → Prop) (l b2 b3 b4 : Nat) (hI : ∀ m s d t, Inv (m + 1) s → Inv m (st s d t).1) (hy : ∀ m s d t T, Nd t → Inv (m + 1) s → HP true s T → H6 Tryz.prog l [.p (I d), TV t] T (Ht (.p (.bool (st s d t).2)) (HP (st s d t).2 (st s d t).1))) (n : Nat) (t : Tm) (d : Int) (s : σ) (T0 : List Bc) (m : Nat), size t ≤ n → Nd t → 0 ≤ d → d + n < 4611686018427387904 → Inv (m + size t) s → HP true s T0 → B1 Tryz.prog 115 [TV t, .p (I d), .ptr b2 0, .ptr b3 0, .ptr b4 0] (.box b2 [.fn (.yield l) [] []] :: .box b3 M7 :: .box b4 [.fn (.func 115) [] [.ptr b2 0, .ptr b3 0, .ptr b4 0]] :: T0) (Ht (.p (.bool (EH st t d s).2)) (fun H => ∃ T, HP (EH st t d s).2 (EH st t d s).1 T ∧ H = .box b2 [.fn (.yield l) [] []] :: .box b3 M7 :: .box b4 [.fn (.func 115) [] [.ptr b2 0, .ptr b3 0, .ptr b4 0]] :: T)) := by
 intro σ st Inv HP l b2 b3 b4 hI hy n
 induction n with
 | zero => intro t d s T0 m h; cases t; simp [size] at h
 | succ n ih =>
  intro t d s T0 m h1 h2 h3 h4 h5 h6
  obtain ⟨tk, ti, tn, tl, ts⟩ := t
  have h2' := h2
  simp only [size] at h1 h5
  simp only [Nd, Je, EB] at h2
  refine BH Tryz.func115 Ay dU (n := 50) Ay Ay (A2 (A0 (BP Ay Ay (Bj Ay) fun b5 => Az Ay Ay (A4 Ay) (A5 Ay (A2 (A2 (A0 (Az Ay Ay (A9 (i := 1) eJ Ay Ay Ay) (Az Ay Ay (A1 Ay) (Az Ay Ay (A8 (i := 0) BU Ay Ay Ay) (Gf [_, _, _, _] Ay Ay Ay Ay (hy (m + CE ts) _ _ _ _ h2' (by rw [Nat.add_assoc, Nat.add_comm (CE ts)]; exact h5) h6) Ay ?_ (fun _ _ h => h.elim))))))))))))
  rintro _ T ⟨rfl, hT⟩
  refine Az Ay Ay (Cp Ay) (A5 Ay (BD Ay (fun c => ?_) (fun c => ?_)))
  ·(try simp only [sd, se] at c)
   refine A2 (A0 (Az Ay Ay (A4 Ay) (A5 Ay (BF (⟨Ay, _, _, ⟨_, _, Ay, Ay, Ay⟩, (Fu [1, 2, 3] [_, _, _, _] Ay), ?_⟩)))))
   rw [Ru c]
   rw [c] at hT
   exact ⟨Ay, _, hT, Ay⟩
  (try simp only [sd, se] at c)
  rw [c] at hT
  refine BG (A2 (A0 (Az Ay Ay (A4 Ay) (A5 Ay (A2 (A2 (Bx [1, 3, 4, 5, 8] 24 (fun y => y = .p (.bool ((decide ((tk : Int) ≥ (0 : Int))) && (decide ((tk : Int) < (13 : Int)))))) ?_ ?_)))))))
  ·refine A0 (Az Ay Ay (A3 CV Ay Ay) (Az Ay Ay (A9 (i := 0) C9 Ay Ay Ay) (Az Ay Ay (BE Ay Ay Ay) (Az Ay Ay (A1 Ay) (Br 20 Ay (fun g => ?_) (fun g => ?_))))))
   ·(try simp only [sd, se] at g)
    exact A6 Ay Ay Ay Ay (A3 CV Ay Ay) (A6 Ay Ay Ay Ay (A9 (i := 0) C9 Ay Ay Ay) (A6 Ay Ay Ay Ay (BE Ay Ay Ay) (Az Ay Ay (BC Ay Ay) (A5 Ay (⟨Ay, Ay, AK, AJ, ⟨Ay, Ay, Ay, Ay, Ay, trivial⟩⟩)))))
   (try simp only [sd, se] at g)
   exact A7 Ay Ay Ay Ay Ay (A7 Ay Ay Ay Ay Ay (A7 Ay Ay Ay Ay Ay (Az Ay Ay (BC Ay Ay) (A5 Ay (⟨Ay, Ay, AK, AJ, ⟨Ay, Ay, Ay, Ay, Ay, trivial⟩⟩)))))
  rintro _ rfl
  refine BD Ay (fun c1 => ?_) (fun c1 => ?_)
  ·(try simp only [sd, se] at c1)
   refine A0 (Az Ay Ay (A3 CV Ay Ay) (Az Ay Ay (A9 (i := 0) C9 Ay Ay Ay) (Az Ay Ay (Fp Zg ZY Ay Ay Aw Aw) (Az Ay Ay (A3 Iz Ay Ay) (Az Ay Ay (A9 (i := 2) C9 Ay Ay (Vk Aw)) (Az Ay Ay (A4 Ay) (A5 Ay (A2 (A2 (A0 (Az Ay Ay (A3 CV Ay Ay) (Az Ay Ay (A9 (i := 0) DG Ay Ay Ay) (Az Ay Ay (Bo CL Ay (B5 _)) (Az Ay Ay (A1 Ay) (A5 Ay (BT ?_))))))))))))))))
   refine B4 (α := Nat × σ × List Bc) (fun (i, q, U) => ⟨50, mk [(1, .p (I d)), (4, .ptr b4 0), (8, .p (I (I1 tk))), (31, .p (.lst (Bg ts))), (32, .p (I (ts.length : Nat))), (33, .p (I (i : Int)))], (.box b2 [.fn (.yield l) [] []] :: .box b3 M7 :: .box b4 [.fn (.func 115) [] [.ptr b2 0, .ptr b3 0, .ptr b4 0]] :: U), []⟩) (fun (i, q, U) => ts.length - i) (fun (i, q, U) => i ≤ ts.length ∧ (EN st tk d i q (ts.drop i) = EN st tk d 0 (st s d (.mk tk ti tn tl ts)).1 ts ∧ Inv (m + CE (ts.drop i)) q ∧ HP true q U)) ⟨0, (st s d (.mk tk ti tn tl ts)).1, T⟩ (⟨by omega, by simp, by simpa using hI _ _ _ _ (by rw [Nat.add_assoc, Nat.add_comm (CE ts)]; exact h5), by assumption⟩) ?_ ?_
   ·exact By ⟨we Ay, we Ay, we Ay, we Ay, we Ay, we Ay, trivial⟩ (Pg [1, 2, 3] [_, _, _, _] (l' := [_, _, _]) Ay (wl (oe Ay) (wl (oe Ay) (wl (oe Ay) (Dc)))))
   rintro ⟨i, q, U⟩ hC
   try simp only at hC
   obtain ⟨hi, hC, hJ, hK⟩ := hC
   refine A2 (A0 (Az Ay Ay (BE Ay Ay Ay) (A5 Ay (A2 (BD Ay (fun c2 => ?_) (fun c2 => ?_))))))
   ·(try simp only [sd, se] at c2)
    refine BG (A2 (BT (A2 (A0 (Az Ay Ay (A1 Ay) ?_)))))
    obtain ⟨x, hx⟩ := BO (l := ts) (i := i) Aw
    refine Az Ay Ay (BI CL Ay Ay Aw (CU hx) (Bd _)) (Az Ay Ay (Bq BU Ay (Bd _)) (BP Ay Ay (BN B8 Ay) fun b10 => Az Ay Ay (A4 Ay) (Az Ay Ay (BB (i := 0) BU Ay Ay Ay Am Ac (CN _)) (A5 Ay (A2 (A0 (Az Ay Ay (A1 Ay) (Az Ay Ay (A4 Ay) (A5 Ay (A2 (A2 (A0 (Az Ay Ay (A1 Ay) (Az Ay Ay (A1 Ay) (Az Ay Ay (BE Ay Ay Ay) (A5 Ay (BD Ay (fun c3 => ?_) (fun c3 => ?_))))))))))))))))))
    ·(try simp only [sd, se] at c3)
     refine A0 (Az Ay Ay (A1 Ay) (Az Ay Ay (CH Ay Ay Aw Aw) (Az Ay Ay (A4 Ay) (A5 Ay (B2 (Eo (t := 11) (x := .p (I (d + below tk i))) (pI (by have := SG (k := tk) (i := i) Aw Aw; omega))) (A2 (A0 (Az Ay Ay (A9 (i := 3) Ql Ay Ay Ay) (Az Ay Ay (A8 (i := 0) BU Ay Ay Am) (Az Ay Ay (A1 Ay) (Gu [_] Ay Ay Ay (.inr Ay) (ih x (d + below tk i) q _ (m + CE (ts.drop (i + 1))) (by have := DM hx; omega) (D7 h2.2.2.2.2.1 hx) (by have := EX tk i; omega) (by have := EX tk i; omega) (by rw [EI hx, CE] at hJ; rw [Nat.add_assoc, Nat.add_comm (CE _)]; exact hJ) hK) (aw (we Ay) (aw (we Ay) (aw (we Ay) (aw (we Ay) (aw (we Ay) (C7)))))) ?_ (fun _ _ h => h.elim))))))))))))
     rintro _ _ ⟨rfl, T1, hT1, rfl⟩
     refine Az Ay Ay (Cp Ay) (A5 Ay (BD Ay (fun c4 => ?_) (fun c4 => ?_)))
     ·(try simp only [sd, se] at c4)
      refine A2 (A0 (Az Ay Ay (A4 Ay) (A5 Ay (BF (⟨Ay, _, _, ⟨_, _, Ay, Ay, Ay⟩, (Fu [1, 2, 3] [_, _, _, _] Ay), ?_⟩)))))
      rw [HC As, ← hC, IL hx c4]
      rw [c4] at hT1
      exact ⟨Ay, _, hT1, Ay⟩
     (try simp only [sd, se] at c4)
     rw [c4] at hT1
     refine BG (A0 (Az Ay Ay (CH Ay Ay Aw Aw) (Az Ay Ay (A1 Ay) (A5 Ay ?_))))
     refine ⟨⟨i + 1, (EH st x (d + below tk i) q).1, T1⟩, AZ, ⟨by omega, ⟨by rw [← hC]; exact (Jg hx As).symm, by rw [EI hx, CE] at hJ; exact Io hI x _ _ _ (by rw [Nat.add_assoc, Nat.add_comm (CE _)]; exact hJ) As, by assumption⟩⟩, By ⟨we rfl, we rfl, we rfl, we rfl, we rfl, we rfl, trivial⟩ (Pg [1, 2, 3] [_, _, _, _] (l' := [_, _, _]) rfl (wl (oe rfl) (wl (oe rfl) (wl (oe rfl) (Dc)))))⟩
    (try simp only [sd, se] at c3)
    refine BG (B2 (Eo (t := 11) (x := .p (I (d + below tk i))) (pI (by have := Qg (k := tk) (i := i) Aw; omega))) (A2 (A0 (Az Ay Ay (A9 (i := 3) Ql Ay Ay Ay) (Az Ay Ay (A8 (i := 0) BU Ay Ay Am) (Az Ay Ay (A1 Ay) (Gu [_] Ay Ay Ay (.inr Ay) (ih x (d + below tk i) q _ (m + CE (ts.drop (i + 1))) (by have := DM hx; omega) (D7 h2.2.2.2.2.1 hx) (by have := EX tk i; omega) (by have := EX tk i; omega) (by rw [EI hx, CE] at hJ; rw [Nat.add_assoc, Nat.add_comm (CE _)]; exact hJ) hK) (aw (we Ay) (aw (we Ay) (aw (we Ay) (aw (we Ay) (aw (we Ay) (C7)))))) ?_ (fun _ _ h => h.elim))))))))
    rintro _ _ ⟨rfl, T1, hT1, rfl⟩
    refine Az Ay Ay (Cp Ay) (A5 Ay (BD Ay (fun c4 => ?_) (fun c4 => ?_)))
    ·(try simp only [sd, se] at c4)
     refine A2 (A0 (Az Ay Ay (A4 Ay) (A5 Ay (BF (⟨Ay, _, _, ⟨_, _, Ay, Ay, Ay⟩, (Fu [1, 2, 3] [_, _, _, _] Ay), ?_⟩)))))
     rw [HC As, ← hC, IL hx c4]
     rw [c4] at hT1
     exact ⟨Ay, _, hT1, Ay⟩
    (try simp only [sd, se] at c4)
    rw [c4] at hT1
    refine BG (A0 (Az Ay Ay (CH Ay Ay Aw Aw) (Az Ay Ay (A1 Ay) (A5 Ay ?_))))
    refine ⟨⟨i + 1, (EH st x (d + below tk i) q).1, T1⟩, AZ, ⟨by omega, ⟨by rw [← hC]; exact (Jg hx As).symm, by rw [EI hx, CE] at hJ; exact Io hI x _ _ _ (by rw [Nat.add_assoc, Nat.add_comm (CE _)]; exact hJ) As, by assumption⟩⟩, By ⟨we rfl, we rfl, we rfl, we rfl, we rfl, we rfl, trivial⟩ (Pg [1, 2, 3] [_, _, _, _] (l' := [_, _, _]) rfl (wl (oe rfl) (wl (oe rfl) (wl (oe rfl) (Dc)))))⟩
   (try simp only [sd, se] at c2)
   refine B7 (A2 (A0 (Az Ay Ay (A4 Ay) (A5 Ay (BF (⟨Ay, _, _, ⟨_, _, Ay, Ay, Ay⟩, (Fu [0, 1, 2] [_, _, _] Ay), ?_⟩))))))
   rw [HC As, ← hC, show i = ts.length by omega, List.drop_length]
   exact ⟨Ay, _, hK, Ay⟩
  (try simp only [sd, se] at c1)
  have hbx := Sm (k := tk) Aw
  refine BG (A2 (A2 (A0 (Az Ay Ay (A3 CV Ay Ay) (Az Ay Ay (A9 (i := 0) DG Ay Ay Ay) (Az Ay Ay (Bo CL Ay (B5 _)) (Az Ay Ay (A1 Ay) (A5 Ay (BT ?_)))))))))
  refine B4 (α := Nat × σ × List Bc) (fun (i, q, U) => ⟨50, mk [(1, .p (I d)), (4, .ptr b4 0), (8, .p (I (-1))), (31, .p (.lst (Bg ts))), (32, .p (I (ts.length : Nat))), (33, .p (I (i : Int)))], (.box b2 [.fn (.yield l) [] []] :: .box b3 M7 :: .box b4 [.fn (.func 115) [] [.ptr b2 0, .ptr b3 0, .ptr b4 0]] :: U), []⟩) (fun (i, q, U) => ts.length - i) (fun (i, q, U) => i ≤ ts.length ∧ (EN st tk d i q (ts.drop i) = EN st tk d 0 (st s d (.mk tk ti tn tl ts)).1 ts ∧ Inv (m + CE (ts.drop i)) q ∧ HP true q U)) ⟨0, (st s d (.mk tk ti tn tl ts)).1, T⟩ (⟨by omega, by simp, by simpa using hI _ _ _ _ (by rw [Nat.add_assoc, Nat.add_comm (CE ts)]; exact h5), by assumption⟩) ?_ ?_
  ·exact By ⟨we Ay, we Ay, we Ay, we Ay, we Ay, we Ay, trivial⟩ (Pg [1, 2, 3] [_, _, _, _] (l' := [_, _, _]) Ay (wl (oe Ay) (wl (oe Ay) (wl (oe Ay) (Dc)))))
  rintro ⟨i, q, U⟩ hC
  try simp only at hC
  obtain ⟨hi, hC, hJ, hK⟩ := hC
  refine A2 (A0 (Az Ay Ay (BE Ay Ay Ay) (A5 Ay (A2 (BD Ay (fun c2 => ?_) (fun c2 => ?_))))))
  ·(try simp only [sd, se] at c2)
   refine BG (A2 (BT (A2 (A0 (Az Ay Ay (A1 Ay) ?_)))))
   obtain ⟨x, hx⟩ := BO (l := ts) (i := i) Aw
   refine Az Ay Ay (BI CL Ay Ay Aw (CU hx) (Bd _)) (Az Ay Ay (Bq BU Ay (Bd _)) (BP Ay Ay (BN B8 Ay) fun b10 => Az Ay Ay (A4 Ay) (Az Ay Ay (BB (i := 0) BU Ay Ay Ay Am Ac (CN _)) (A5 Ay (A2 (A0 (Az Ay Ay (A1 Ay) (Az Ay Ay (A4 Ay) (A5 Ay (A2 (A2 (A0 (Az Ay Ay (A1 Ay) (Az Ay Ay (A1 Ay) (Az Ay Ay (BE Ay Ay Ay) (A5 Ay (BD Ay (fun c3 => ?_) (fun c3 => ?_))))))))))))))))))
   ·(try simp only [sd, se] at c3)
    refine A0 (Az Ay Ay (A1 Ay) (Az Ay Ay (CH Ay Ay Aw Aw) (Az Ay Ay (A4 Ay) (A5 Ay (B2 (Eo (t := 11) (x := .p (I (d + below tk i))) (pI (by have := SG (k := tk) (i := i) Aw Aw; omega))) (A2 (A0 (Az Ay Ay (A9 (i := 3) Ql Ay Ay Ay) (Az Ay Ay (A8 (i := 0) BU Ay Ay Am) (Az Ay Ay (A1 Ay) (Gu [_] Ay Ay Ay (.inr Ay) (ih x (d + below tk i) q _ (m + CE (ts.drop (i + 1))) (by have := DM hx; omega) (D7 h2.2.2.2.2.1 hx) (by have := EX tk i; omega) (by have := EX tk i; omega) (by rw [EI hx, CE] at hJ; rw [Nat.add_assoc, Nat.add_comm (CE _)]; exact hJ) hK) (aw (we Ay) (aw (we Ay) (aw (we Ay) (aw (we Ay) (aw (we Ay) (C7)))))) ?_ (fun _ _ h => h.elim))))))))))))
    rintro _ _ ⟨rfl, T1, hT1, rfl⟩
    refine Az Ay Ay (Cp Ay) (A5 Ay (BD Ay (fun c4 => ?_) (fun c4 => ?_)))
    ·(try simp only [sd, se] at c4)
     refine A2 (A0 (Az Ay Ay (A4 Ay) (A5 Ay (BF (⟨Ay, _, _, ⟨_, _, Ay, Ay, Ay⟩, (Fu [1, 2, 3] [_, _, _, _] Ay), ?_⟩)))))
     rw [HC As, ← hC, IL hx c4]
     rw [c4] at hT1
     exact ⟨Ay, _, hT1, Ay⟩
    (try simp only [sd, se] at c4)
    rw [c4] at hT1
    refine BG (A0 (Az Ay Ay (CH Ay Ay Aw Aw) (Az Ay Ay (A1 Ay) (A5 Ay ?_))))
    refine ⟨⟨i + 1, (EH st x (d + below tk i) q).1, T1⟩, AZ, ⟨by omega, ⟨by rw [← hC]; exact (Jg hx As).symm, by rw [EI hx, CE] at hJ; exact Io hI x _ _ _ (by rw [Nat.add_assoc, Nat.add_comm (CE _)]; exact hJ) As, by assumption⟩⟩, By ⟨we rfl, we rfl, we rfl, we rfl, we rfl, we rfl, trivial⟩ (Pg [1, 2, 3] [_, _, _, _] (l' := [_, _, _]) rfl (wl (oe rfl) (wl (oe rfl) (wl (oe rfl) (Dc)))))⟩
   (try simp only [sd, se] at c3)
   refine BG (B2 (Eo (t := 11) (x := .p (I (d + below tk i))) (pI (by have := Qg (k := tk) (i := i) Aw; omega))) (A2 (A0 (Az Ay Ay (A9 (i := 3) Ql Ay Ay Ay) (Az Ay Ay (A8 (i := 0) BU Ay Ay Am) (Az Ay Ay (A1 Ay) (Gu [_] Ay Ay Ay (.inr Ay) (ih x (d + below tk i) q _ (m + CE (ts.drop (i + 1))) (by have := DM hx; omega) (D7 h2.2.2.2.2.1 hx) (by have := EX tk i; omega) (by have := EX tk i; omega) (by rw [EI hx, CE] at hJ; rw [Nat.add_assoc, Nat.add_comm (CE _)]; exact hJ) hK) (aw (we Ay) (aw (we Ay) (aw (we Ay) (aw (we Ay) (aw (we Ay) (C7)))))) ?_ (fun _ _ h => h.elim))))))))
   rintro _ _ ⟨rfl, T1, hT1, rfl⟩
   refine Az Ay Ay (Cp Ay) (A5 Ay (BD Ay (fun c4 => ?_) (fun c4 => ?_)))
   ·(try simp only [sd, se] at c4)
    refine A2 (A0 (Az Ay Ay (A4 Ay) (A5 Ay (BF (⟨Ay, _, _, ⟨_, _, Ay, Ay, Ay⟩, (Fu [1, 2, 3] [_, _, _, _] Ay), ?_⟩)))))
    rw [HC As, ← hC, IL hx c4]
    rw [c4] at hT1
    exact ⟨Ay, _, hT1, Ay⟩
   (try simp only [sd, se] at c4)
   rw [c4] at hT1
   refine BG (A0 (Az Ay Ay (CH Ay Ay Aw Aw) (Az Ay Ay (A1 Ay) (A5 Ay ?_))))
   refine ⟨⟨i + 1, (EH st x (d + below tk i) q).1, T1⟩, AZ, ⟨by omega, ⟨by rw [← hC]; exact (Jg hx As).symm, by rw [EI hx, CE] at hJ; exact Io hI x _ _ _ (by rw [Nat.add_assoc, Nat.add_comm (CE _)]; exact hJ) As, by assumption⟩⟩, By ⟨we rfl, we rfl, we rfl, we rfl, we rfl, we rfl, trivial⟩ (Pg [1, 2, 3] [_, _, _, _] (l' := [_, _, _]) rfl (wl (oe rfl) (wl (oe rfl) (wl (oe rfl) (Dc)))))⟩
  (try simp only [sd, se] at c2)
  refine B7 (A2 (A0 (Az Ay Ay (A4 Ay) (A5 Ay (BF (⟨Ay, _, _, ⟨_, _, Ay, Ay, Ay⟩, (Fu [0, 1, 2] [_, _, _] Ay), ?_⟩))))))
  rw [HC As, ← hC, show i = ts.length by omega, List.drop_length]
  exact ⟨Ay, _, hK, Ay⟩
theorem aQ : IA Tryz.prog 114 [] (.agg M7) := by
 refine BH Tryz.func114 Ay dq (n := 15) Ay Ay (A2 (A0 (BP Ay Ay (BN Vt Ay) fun b0 => A5 Ay (A2 (A0 (Az Ay Ay (Bv Iz JG Ay) (Az Ay Ay (Bv Iz JG Ay) (Az Ay Ay (Bv Iz JG Ay) (Az Ay Ay (Bv Iz JG Ay) (Az Ay Ay (Bv Iz JG Ay) (Az Ay Ay (Bv Iz JG Ay) (Az Ay Ay (Bv Iz JG Ay) (Az Ay Ay (Bv Iz JG Ay) (Az Ay Ay (Bv Iz JG Ay) (Az Ay Ay (Bv Iz JG Ay) (Az Ay Ay (Bv Iz JG Ay) (Az Ay Ay (Bv Iz JG Ay) (Az Ay Ay (Bv Iz JG Ay) (Az Ay Ay (Ks Zg ZY Vt Ay) (Az Ay Ay (Bm (i := 0) XO Ay Ay Ay Ay Ay Ay) (A5 Ay (BF ?_))))))))))))))))))))))
 refine ⟨Ay, _, _, ⟨_, _, Ay, (Bt (i := 0) XO Ay Ay Ay), Ay⟩, nS, ?_⟩
 all_goals exact ⟨rfl, rfl⟩
theorem WD : ∀ (t : Tm), B1 Tryz.prog 78 [.agg ((Bu t).map .p)] [] (fun r H' => ∃ b, r = .val (.fn (.func 113) [] [.ptr b 0]) ∧ H' = [.box b ((Bu t).map .p)]) := by
 intro t
 refine BH Tryz.func78 Ay gC (n := 4) Ay Ay (A2 (A0 (BP Ay Ay (Bj Ay) fun b1 => Az Ay Ay (A4 Ay) (A5 Ay (A2 (A0 (Az Ay Ay (DQ Ay Ay) (Az Ay Ay (A4 Ay) (A5 Ay (BF (⟨Ay, _, _, ⟨_, _, Ay, Ay, Ay⟩, (C2 (is := [0]) Ay), ?_⟩)))))))))))
 exact ⟨_, Ay, Ay⟩
theorem Vj : ∀ {σ : Type} (st : σ → Int → Tm → σ × Bool) (Inv : Nat → σ → Prop) (HP : Bool → σ → List Bc → Prop) (l b1 : Nat) (hI : ∀ m s d t, Inv (m + 1) s → Inv m (st s d t).1) (hy : ∀ m s d t T, Nd t → Inv (m + 1) s → HP true s T → H6 Tryz.prog l [.p (I d), TV t] T (Ht (.p (.bool (st s d t).2)) (HP (st s d t).2 (st s d t).1))) (t : Tm) (s : σ) (T0 : List Bc) (m : Nat), Nd t → size t < 4611686018427387904 → Inv (m + size t) s → HP true s T0 → B1 Tryz.prog 113 [.fn (.yield l) [] [], .ptr b1 0] (.box b1 ((Bu t).map .p) :: T0) (Ht (.tup []) (fun H => ∃ T, HP (EH st t 0 s).2 (EH st t 0 s).1 T ∧ H = .box b1 ((Bu t).map .p) :: T)) := by
 intro σ st Inv HP l b1 hI hy t s T0 m h1 h2 h3 h4
 refine BH Tryz.func113 Ay dY (n := 10) Ay Ay (A2 (A0 (BP Ay Ay (Bj Ay) fun b2 => A5 Ay (A2 (A0 (Az Ay Ay (Bp Ay Ay (aQ ) Ay) (BP Ay Ay (BN Vt Ay) fun b3 => Az Ay Ay (Bm (i := 0) XO Ay Ay Ay Ay Ay Ay) (A5 Ay (A2 (A0 (BP Ay Ay (BN cw Ay) fun b4 => A5 Ay (A2 (A0 (Az Ay Ay (DQ Ay Ay) (Az Ay Ay (Bm (i := 0) Ql Ay Ay Ay Ay Ay Ay) (A5 Ay (A0 (Az Ay Ay (A9 (i := 0) Ql Ay Ay Ay) (Az Ay Ay (A8 (i := 3) BU Ay Ay Am) (Gn ((List.reverse_perm [_, _, _, _]).symm.append_right _) ?_))))))))))))))))))))
 refine Gu [_] Ay Ay Ay (.inr Ay) (Y4 st Inv HP l b2 b3 b4 hI hy _ t 0 s T0 m (Nat.le_refl _) h1 Aw Aw h3 h4) (aw (we Ay) (aw (we Ay) (aw (we Ay) (aw (we Ay) (aw (we Ay) (C7)))))) ?_ (fun _ _ h => h.elim)
 rintro _ _ ⟨rfl, T, hT, rfl⟩
 refine A5 Ay ⟨Ay, _, _, Ay, (Fu [0] [_, _, _, _] Ay), ?_⟩
 exact ⟨Ay, _, hT, Ay⟩
theorem RM : ∀ (t : Tm), (Nd t) → (size t < 1152921504606846976) → IA Tryz.prog 46 [.agg ((Bu t).map .p)] (.p (I (size t : Nat))) := by
 intro t h1 h2
 refine Gv Tryz.func46 Ay fX (n := 11) Ay Ay (A2 (A0 (BP Ay Ay (Bj Ay) fun b1 => Az Ay Ay (A4 Ay) (A5 Ay (A2 (A0 (BP Ay Ay (BN Xj Ay) fun b3 => Az Ay Ay (Bm (i := 0) C9 Ay Ay Ay Ay Ay Ay) (A5 Ay (A2 (A2 (A0 (Az Ay Ay (A8 (i := 1) BU Ay Ay Am) ?_))))))))))))
 refine PA [] Ay Ay Ay (.inl ⟨Ay, Ay, Ay⟩) (WD t) Ay Ax (aw (we Ay) C7) ?_ (fun _ _ ⟨_, h, _⟩ => by cases h)
 rintro _ _ ⟨bn, h, rfl⟩
 cases h
 refine A5 Ay (BT (J0 (.inr Ay) fun dd l L hL => ⟨_, _, DB (is := [2, 0, 3]) Av ⟨_, _, Ay, Ay, ⟨_, _, Ay, Ay, ⟨_, _, Ay, Ay, Ay⟩⟩⟩, ?_⟩))
 have hy : ∀ (m : Nat) (s : Int) (d : Int) (t : Tm) (T : List Bc), Nd t → (fun _ _ => True) (m + 1) s → (fun (_ : Bool) (s : Int) (T : List Bc) => T = [.loop l L, .box b3 [.p (I s)]]) true s T → H6 Tryz.prog l [.p (I d), TV t] T (Ht (.p (.bool (Ti s d t).2)) ((fun (_ : Bool) (s : Int) (T : List Bc) => T = [.loop l L, .box b3 [.p (I s)]]) (Ti s d t).2 (Ti s d t).1)) := by
  rintro m s d tt T hnd hinv rfl
  subst hL
  refine LK (i := 0) Ay Ay Ay Ay (BG ⟨Ay, 0, Ay, ?_⟩)
  refine BT (A0 (Az Ay Ay (A9 (i := 1) C9 Ay Ay Ay) (Az Ay Ay (EE Ay Ay) (Az Ay Ay (Bm (i := 1) C9 Ay Ay Ay Ay Ay Ay) (A5 Ay ⟨0, _, Ay, C2 (is := [0, 1]) Ay, ?_⟩)))))
  exact ⟨Ay, Ay⟩
 refine (Vj Ti (fun _ _ => True) (fun (_ : Bool) (s : Int) (T : List Bc) => T = [.loop l L, .box b3 [.p (I s)]]) l bn (fun _ _ _ _ _ => trivial) hy t 0 _ 0 (h1) Aw (trivial) Ay).mono ?_
 rintro (v | v) H' hR
 rotate_left
 ·exact hR.elim
 obtain ⟨rfl, _, rfl, rfl⟩ := hR
 subst hL
 refine ⟨1, _, Ay, Ax, ?_⟩
 refine A2 (A0 (Az Ay Ay (A9 (i := 1) C9 Ay Ay Ay) (Az Ay Ay (A4 Ay) (A5 Ay (BF (⟨2, Ay, _, _, ⟨_, _, Ay, Ay, Ay⟩, nS, ?_⟩))))))
 all_goals exact ⟨pI (by rw [SQ 4611686018427387904 (Int.le_refl _) t 0 0 Aw Aw]; simp), rfl⟩
end Go.Proofs.YtapmjpihennhaaaGreatDoor
