/- Part of the proofs about metavariables: an abstract program logic, plain models and contracts of functions. -/
import Derived.Test.YtgfecpjmbgcobaaGreatPe
import Derived.Test.YtgfecpjmbgcobaaGreatProg
import Derived.Test.YtgfecpjmbgcobaaGreatPh
/- Closed facts on the types and functions of the program. -/
namespace Go.Proofs.YtgfecpjmbgcobaaGreat
open Go.Abs
theorem el22 : elOf Tryz.prog 22 = some (44, 12, 176) := by kernel_rfl
theorem el23 : elOf Tryz.prog 23 = some (49, 2, 32) := by kernel_rfl
theorem el24 : elOf Tryz.prog 24 = some (26, 5, 80) := by kernel_rfl
theorem el47 : elOf Tryz.prog 47 = some (101, 2, 16) := by kernel_rfl
theorem el59 : elOf Tryz.prog 59 = some (3, 1, 8) := by kernel_rfl
theorem en3 : entersB Tryz.prog 3 = true := by kernel_rfl
theorem en4 : entersB Tryz.prog 4 = true := by kernel_rfl
theorem en5 : entersB Tryz.prog 5 = true := by kernel_rfl
theorem en6 : entersB Tryz.prog 6 = true := by kernel_rfl
theorem en7 : entersB Tryz.prog 7 = true := by kernel_rfl
theorem en8 : entersB Tryz.prog 8 = true := by kernel_rfl
theorem en9 : entersB Tryz.prog 9 = true := by kernel_rfl
theorem en10 : entersB Tryz.prog 10 = true := by kernel_rfl
theorem en11 : entersB Tryz.prog 11 = true := by kernel_rfl
theorem en12 : entersB Tryz.prog 12 = true := by kernel_rfl
theorem en13 : entersB Tryz.prog 13 = true := by kernel_rfl
theorem en14 : entersB Tryz.prog 14 = true := by kernel_rfl
theorem en15 : entersB Tryz.prog 15 = true := by kernel_rfl
theorem en16 : entersB Tryz.prog 16 = true := by kernel_rfl
theorem en17 : entersB Tryz.prog 17 = true := by kernel_rfl
theorem en18 : entersB Tryz.prog 18 = true := by kernel_rfl
theorem en19 : entersB Tryz.prog 19 = true := by kernel_rfl
theorem en20 : entersB Tryz.prog 20 = true := by kernel_rfl
theorem en21 : entersB Tryz.prog 21 = true := by kernel_rfl
theorem en22 : entersB Tryz.prog 22 = true := by kernel_rfl
theorem en23 : entersB Tryz.prog 23 = true := by kernel_rfl
theorem en24 : entersB Tryz.prog 24 = true := by kernel_rfl
theorem en25 : entersB Tryz.prog 25 = true := by kernel_rfl
theorem en26 : entersB Tryz.prog 26 = true := by kernel_rfl
theorem en27 : entersB Tryz.prog 27 = true := by kernel_rfl
theorem en28 : entersB Tryz.prog 28 = true := by kernel_rfl
theorem en29 : entersB Tryz.prog 29 = true := by kernel_rfl
theorem en30 : entersB Tryz.prog 30 = true := by kernel_rfl
theorem en31 : entersB Tryz.prog 31 = true := by kernel_rfl
theorem en32 : entersB Tryz.prog 32 = true := by kernel_rfl
theorem en33 : entersB Tryz.prog 33 = true := by kernel_rfl
theorem en34 : entersB Tryz.prog 34 = true := by kernel_rfl
theorem en35 : entersB Tryz.prog 35 = true := by kernel_rfl
theorem en36 : entersB Tryz.prog 36 = true := by kernel_rfl
theorem en37 : entersB Tryz.prog 37 = true := by kernel_rfl
theorem en38 : entersB Tryz.prog 38 = true := by kernel_rfl
theorem en39 : entersB Tryz.prog 39 = true := by kernel_rfl
theorem en40 : entersB Tryz.prog 40 = true := by kernel_rfl
theorem en41 : entersB Tryz.prog 41 = true := by kernel_rfl
theorem en42 : entersB Tryz.prog 42 = true := by kernel_rfl
theorem en43 : entersB Tryz.prog 43 = true := by kernel_rfl
theorem en44 : entersB Tryz.prog 44 = true := by kernel_rfl
theorem en45 : entersB Tryz.prog 45 = true := by kernel_rfl
theorem en46 : entersB Tryz.prog 46 = true := by kernel_rfl
theorem en47 : entersB Tryz.prog 47 = true := by kernel_rfl
theorem en48 : entersB Tryz.prog 48 = true := by kernel_rfl
theorem en49 : entersB Tryz.prog 49 = true := by kernel_rfl
theorem en50 : entersB Tryz.prog 50 = true := by kernel_rfl
theorem en51 : entersB Tryz.prog 51 = true := by kernel_rfl
theorem en52 : entersB Tryz.prog 52 = true := by kernel_rfl
theorem en53 : entersB Tryz.prog 53 = true := by kernel_rfl
theorem en54 : entersB Tryz.prog 54 = true := by kernel_rfl
theorem en55 : entersB Tryz.prog 55 = true := by kernel_rfl
theorem en56 : entersB Tryz.prog 56 = true := by kernel_rfl
theorem en57 : entersB Tryz.prog 57 = true := by kernel_rfl
theorem en58 : entersB Tryz.prog 58 = true := by kernel_rfl
theorem en59 : entersB Tryz.prog 59 = true := by kernel_rfl
theorem en60 : entersB Tryz.prog 60 = true := by kernel_rfl
theorem en61 : entersB Tryz.prog 61 = true := by kernel_rfl
theorem en62 : entersB Tryz.prog 62 = true := by kernel_rfl
theorem en63 : entersB Tryz.prog 63 = true := by kernel_rfl
theorem en64 : entersB Tryz.prog 64 = true := by kernel_rfl
theorem en65 : entersB Tryz.prog 65 = true := by kernel_rfl
theorem en66 : entersB Tryz.prog 66 = true := by kernel_rfl
theorem en67 : entersB Tryz.prog 67 = true := by kernel_rfl
theorem en68 : entersB Tryz.prog 68 = true := by kernel_rfl
theorem en69 : entersB Tryz.prog 69 = true := by kernel_rfl
theorem en70 : entersB Tryz.prog 70 = true := by kernel_rfl
theorem en71 : entersB Tryz.prog 71 = true := by kernel_rfl
theorem en72 : entersB Tryz.prog 72 = true := by kernel_rfl
theorem en73 : entersB Tryz.prog 73 = true := by kernel_rfl
theorem en74 : entersB Tryz.prog 74 = true := by kernel_rfl
theorem en77 : entersB Tryz.prog 77 = true := by kernel_rfl
theorem en78 : entersB Tryz.prog 78 = true := by kernel_rfl
theorem en79 : entersB Tryz.prog 79 = true := by kernel_rfl
theorem en80 : entersB Tryz.prog 80 = true := by kernel_rfl
theorem en81 : entersB Tryz.prog 81 = true := by kernel_rfl
theorem en82 : entersB Tryz.prog 82 = true := by kernel_rfl
theorem en83 : entersB Tryz.prog 83 = true := by kernel_rfl
theorem en84 : entersB Tryz.prog 84 = true := by kernel_rfl
theorem en96 : entersB Tryz.prog 96 = true := by kernel_rfl
theorem en97 : entersB Tryz.prog 97 = true := by kernel_rfl
theorem en98 : entersB Tryz.prog 98 = true := by kernel_rfl
theorem en99 : entersB Tryz.prog 99 = true := by kernel_rfl
theorem en100 : entersB Tryz.prog 100 = true := by kernel_rfl
theorem en101 : entersB Tryz.prog 101 = true := by kernel_rfl
theorem en102 : entersB Tryz.prog 102 = true := by kernel_rfl
theorem en103 : entersB Tryz.prog 103 = true := by kernel_rfl
theorem en104 : entersB Tryz.prog 104 = true := by kernel_rfl
theorem en105 : entersB Tryz.prog 105 = true := by kernel_rfl
theorem en106 : entersB Tryz.prog 106 = true := by kernel_rfl
theorem en107 : entersB Tryz.prog 107 = true := by kernel_rfl
theorem en108 : entersB Tryz.prog 108 = true := by kernel_rfl
theorem en115 : entersB Tryz.prog 115 = true := by kernel_rfl
theorem en116 : entersB Tryz.prog 116 = true := by kernel_rfl
theorem en117 : entersB Tryz.prog 117 = true := by kernel_rfl
theorem en118 : entersB Tryz.prog 118 = true := by kernel_rfl
theorem en119 : entersB Tryz.prog 119 = true := by kernel_rfl
theorem en121 : entersB Tryz.prog 121 = true := by kernel_rfl
theorem en122 : entersB Tryz.prog 122 = true := by kernel_rfl
theorem en123 : entersB Tryz.prog 123 = true := by kernel_rfl
theorem en124 : entersB Tryz.prog 124 = true := by kernel_rfl
theorem fd26 : fieldsOf Tryz.prog 26 = some [(0, 1), (1, 1), (2, 1), (3, 1), (4, 1)] := by kernel_rfl
theorem fd40 : fieldsOf Tryz.prog 40 = some [(0, 1), (1, 1), (2, 1), (3, 1), (4, 1)] := by kernel_rfl
theorem fd44 : fieldsOf Tryz.prog 44 = some [(0, 5), (5, 1), (6, 5), (11, 1)] := by kernel_rfl
theorem fd49 : fieldsOf Tryz.prog 49 = some [(0, 1), (1, 1)] := by kernel_rfl
theorem fd101 : fieldsOf Tryz.prog 101 = some [(0, 1), (1, 1)] := by kernel_rfl
theorem fd112 : fieldsOf Tryz.prog 112 = some [(0, 1), (1, 1), (2, 1), (3, 1), (4, 1)] := by kernel_rfl
theorem fd140 : fieldsOf Tryz.prog 140 = some [(0, 1)] := by kernel_rfl
theorem fd144 : fieldsOf Tryz.prog 144 = some [(0, 1)] := by kernel_rfl
theorem fd163 : fieldsOf Tryz.prog 163 = some [(0, 1), (1, 1)] := by kernel_rfl
theorem mo87 : mapOf Tryz.prog 87 = some 4 := by kernel_rfl
theorem mo103 : mapOf Tryz.prog 103 = some 26 := by kernel_rfl
theorem mx0 : Tryz.prog.follows .mixedOrders = true := by kernel_rfl
theorem tw101 : twoInts Tryz.prog 101 = true := by kernel_rfl
theorem ty3 : tyOf Tryz.prog 3 = some (false, 1) := by kernel_rfl
theorem ty4 : tyOf Tryz.prog 4 = some (false, 1) := by kernel_rfl
theorem ty9 : tyOf Tryz.prog 9 = some (false, 1) := by kernel_rfl
theorem ty22 : tyOf Tryz.prog 22 = some (false, 1) := by kernel_rfl
theorem ty23 : tyOf Tryz.prog 23 = some (false, 1) := by kernel_rfl
theorem ty24 : tyOf Tryz.prog 24 = some (false, 1) := by kernel_rfl
theorem ty26 : tyOf Tryz.prog 26 = some (true, 5) := by kernel_rfl
theorem ty32 : tyOf Tryz.prog 32 = some (false, 1) := by kernel_rfl
theorem ty44 : tyOf Tryz.prog 44 = some (true, 12) := by kernel_rfl
theorem ty47 : tyOf Tryz.prog 47 = some (false, 1) := by kernel_rfl
theorem ty49 : tyOf Tryz.prog 49 = some (true, 2) := by kernel_rfl
theorem ty53 : tyOf Tryz.prog 53 = some (false, 1) := by kernel_rfl
theorem ty56 : tyOf Tryz.prog 56 = some (false, 1) := by kernel_rfl
theorem ty59 : tyOf Tryz.prog 59 = some (false, 1) := by kernel_rfl
theorem ty87 : tyOf Tryz.prog 87 = some (false, 1) := by kernel_rfl
theorem ty101 : tyOf Tryz.prog 101 = some (true, 2) := by kernel_rfl
theorem ty103 : tyOf Tryz.prog 103 = some (false, 1) := by kernel_rfl
theorem ty110 : tyOf Tryz.prog 110 = some (false, 1) := by kernel_rfl
theorem ty112 : tyOf Tryz.prog 112 = some (true, 5) := by kernel_rfl
theorem ty113 : tyOf Tryz.prog 113 = some (true, 65) := by kernel_rfl
theorem ty115 : tyOf Tryz.prog 115 = some (false, 1) := by kernel_rfl
theorem ty137 : tyOf Tryz.prog 137 = some (false, 1) := by kernel_rfl
theorem ty138 : tyOf Tryz.prog 138 = some (false, 1) := by kernel_rfl
theorem ty142 : tyOf Tryz.prog 142 = some (false, 1) := by kernel_rfl
theorem ty144 : tyOf Tryz.prog 144 = some (true, 1) := by kernel_rfl
theorem ty145 : tyOf Tryz.prog 145 = some (false, 1) := by kernel_rfl
theorem ua113 : Tryz.prog.underlying 113 = some (.array 13 112) := by kernel_rfl
theorem ui20 : Tryz.prog.underlying 20 = some (.interface #[]) := by kernel_rfl
theorem um32 : Tryz.prog.underlying 32 = some (.int .i64) := by kernel_rfl
theorem um156 : Tryz.prog.underlying 156 = some (.int .i64) := by kernel_rfl
theorem un4 : Tryz.prog.underlying 4 = some .bool := by kernel_rfl
theorem us9 : Tryz.prog.underlying 9 = some .string := by kernel_rfl
theorem zr3 : zeroOf Tryz.prog 3 = some (.int .i64 0) := by kernel_rfl
theorem zr4 : zeroOf Tryz.prog 4 = some (.bool false) := by kernel_rfl
theorem zr26 : zeroOf Tryz.prog 26 = some (.agg { toList := [.int .i64 0, .int .i64 0, .string { data := { toList := [] } }, .slice none 0 0, .slice none 0 0] }) := by kernel_rfl
theorem zr32 : zeroOf Tryz.prog 32 = some (.int .i64 0) := by kernel_rfl
theorem zr40 : zeroOf Tryz.prog 40 = some (.agg { toList := [.int .i64 0, .int .i64 0, .int .i64 0, .int .i64 0, .bool false] }) := by kernel_rfl
theorem zr44 : zeroOf Tryz.prog 44 = some (.agg { toList := [.int .i64 0, .int .i64 0, .string { data := { toList := [] } }, .slice none 0 0, .slice none 0 0, .bool false, .int .i64 0, .int .i64 0, .string { data := { toList := [] } }, .slice none 0 0, .slice none 0 0, .bool false] }) := by kernel_rfl
theorem zr49 : zeroOf Tryz.prog 49 = some (.agg { toList := [.int .i64 0, .slice none 0 0] }) := by kernel_rfl
theorem zr53 : zeroOf Tryz.prog 53 = some .nilFunc := by kernel_rfl
theorem zr56 : zeroOf Tryz.prog 56 = some .nilFunc := by kernel_rfl
theorem zr59 : zeroOf Tryz.prog 59 = some (.slice none 0 0) := by kernel_rfl
theorem zr87 : zeroOf Tryz.prog 87 = some (.map none) := by kernel_rfl
theorem zr101 : zeroOf Tryz.prog 101 = some (.agg { toList := [.int .i64 0, .int .i64 0] }) := by kernel_rfl
theorem zr103 : zeroOf Tryz.prog 103 = some (.map none) := by kernel_rfl
theorem zr112 : zeroOf Tryz.prog 112 = some (.agg { toList := [.bool false, .bool false, .int .i64 0, .int .i64 0, .int .i64 0] }) := by kernel_rfl
theorem zr113 : zeroOf Tryz.prog 113 = some (.agg { toList := [.bool false, .bool false, .int .i64 0, .int .i64 0, .int .i64 0, .bool false, .bool false, .int .i64 0, .int .i64 0, .int .i64 0, .bool false, .bool false, .int .i64 0, .int .i64 0, .int .i64 0, .bool false, .bool false, .int .i64 0, .int .i64 0, .int .i64 0, .bool false, .bool false, .int .i64 0, .int .i64 0, .int .i64 0, .bool false, .bool false, .int .i64 0, .int .i64 0, .int .i64 0, .bool false, .bool false, .int .i64 0, .int .i64 0, .int .i64 0, .bool false, .bool false, .int .i64 0, .int .i64 0, .int .i64 0, .bool false, .bool false, .int .i64 0, .int .i64 0, .int .i64 0, .bool false, .bool false, .int .i64 0, .int .i64 0, .int .i64 0, .bool false, .bool false, .int .i64 0, .int .i64 0, .int .i64 0, .bool false, .bool false, .int .i64 0, .int .i64 0, .int .i64 0, .bool false, .bool false, .int .i64 0, .int .i64 0, .int .i64 0] }) := by kernel_rfl
theorem zr115 : zeroOf Tryz.prog 115 = some .nilFunc := by kernel_rfl
theorem zr137 : zeroOf Tryz.prog 137 = some .nilFunc := by kernel_rfl
theorem zr138 : zeroOf Tryz.prog 138 = some (.pointer none) := by kernel_rfl
theorem zr140 : zeroOf Tryz.prog 140 = some (.agg { toList := [.int .i64 0] }) := by kernel_rfl
theorem zr144 : zeroOf Tryz.prog 144 = some (.agg { toList := [.nilFunc] }) := by kernel_rfl
theorem zr163 : zeroOf Tryz.prog 163 = some (.agg { toList := [.int .i64 0, .int .i64 0] }) := by kernel_rfl
end Go.Proofs.YtgfecpjmbgcobaaGreat
