/- Part of the proofs about metavariables: an abstract program logic, plain models and contracts of functions. -/
import Derived.Test.YtgfecpjmbgcobaaPe
import Derived.Test.YtgfecpjmbgcobaaProg
import Derived.Test.YtgfecpjmbgcobaaPh
/- Closed facts on the types and functions of the program. -/
namespace Go.Proofs.Ytgfecpjmbgcobaa
open Go.Abs
theorem el22 : elOf Try.prog 22 = some (52, 12, 176) := by kernel_rfl
theorem el23 : elOf Try.prog 23 = some (64, 2, 32) := by kernel_rfl
theorem el24 : elOf Try.prog 24 = some (26, 5, 80) := by kernel_rfl
theorem el35 : elOf Try.prog 35 = some (3, 1, 8) := by kernel_rfl
theorem el62 : elOf Try.prog 62 = some (112, 2, 16) := by kernel_rfl
theorem en3 : entersB Try.prog 3 = true := by kernel_rfl
theorem en4 : entersB Try.prog 4 = true := by kernel_rfl
theorem en5 : entersB Try.prog 5 = true := by kernel_rfl
theorem en6 : entersB Try.prog 6 = true := by kernel_rfl
theorem en7 : entersB Try.prog 7 = true := by kernel_rfl
theorem en8 : entersB Try.prog 8 = true := by kernel_rfl
theorem en9 : entersB Try.prog 9 = true := by kernel_rfl
theorem en10 : entersB Try.prog 10 = true := by kernel_rfl
theorem en11 : entersB Try.prog 11 = true := by kernel_rfl
theorem en12 : entersB Try.prog 12 = true := by kernel_rfl
theorem en13 : entersB Try.prog 13 = true := by kernel_rfl
theorem en14 : entersB Try.prog 14 = true := by kernel_rfl
theorem en15 : entersB Try.prog 15 = true := by kernel_rfl
theorem en16 : entersB Try.prog 16 = true := by kernel_rfl
theorem en17 : entersB Try.prog 17 = true := by kernel_rfl
theorem en18 : entersB Try.prog 18 = true := by kernel_rfl
theorem en19 : entersB Try.prog 19 = true := by kernel_rfl
theorem en20 : entersB Try.prog 20 = true := by kernel_rfl
theorem en21 : entersB Try.prog 21 = true := by kernel_rfl
theorem en22 : entersB Try.prog 22 = true := by kernel_rfl
theorem en23 : entersB Try.prog 23 = true := by kernel_rfl
theorem en24 : entersB Try.prog 24 = true := by kernel_rfl
theorem en25 : entersB Try.prog 25 = true := by kernel_rfl
theorem en26 : entersB Try.prog 26 = true := by kernel_rfl
theorem en27 : entersB Try.prog 27 = true := by kernel_rfl
theorem en28 : entersB Try.prog 28 = true := by kernel_rfl
theorem en29 : entersB Try.prog 29 = true := by kernel_rfl
theorem en30 : entersB Try.prog 30 = true := by kernel_rfl
theorem en31 : entersB Try.prog 31 = true := by kernel_rfl
theorem en32 : entersB Try.prog 32 = true := by kernel_rfl
theorem en33 : entersB Try.prog 33 = true := by kernel_rfl
theorem en34 : entersB Try.prog 34 = true := by kernel_rfl
theorem en35 : entersB Try.prog 35 = true := by kernel_rfl
theorem en36 : entersB Try.prog 36 = true := by kernel_rfl
theorem en37 : entersB Try.prog 37 = true := by kernel_rfl
theorem en38 : entersB Try.prog 38 = true := by kernel_rfl
theorem en39 : entersB Try.prog 39 = true := by kernel_rfl
theorem en40 : entersB Try.prog 40 = true := by kernel_rfl
theorem en41 : entersB Try.prog 41 = true := by kernel_rfl
theorem en42 : entersB Try.prog 42 = true := by kernel_rfl
theorem en43 : entersB Try.prog 43 = true := by kernel_rfl
theorem en44 : entersB Try.prog 44 = true := by kernel_rfl
theorem en45 : entersB Try.prog 45 = true := by kernel_rfl
theorem en46 : entersB Try.prog 46 = true := by kernel_rfl
theorem en47 : entersB Try.prog 47 = true := by kernel_rfl
theorem en48 : entersB Try.prog 48 = true := by kernel_rfl
theorem en49 : entersB Try.prog 49 = true := by kernel_rfl
theorem en50 : entersB Try.prog 50 = true := by kernel_rfl
theorem en51 : entersB Try.prog 51 = true := by kernel_rfl
theorem en52 : entersB Try.prog 52 = true := by kernel_rfl
theorem en53 : entersB Try.prog 53 = true := by kernel_rfl
theorem en54 : entersB Try.prog 54 = true := by kernel_rfl
theorem en55 : entersB Try.prog 55 = true := by kernel_rfl
theorem en56 : entersB Try.prog 56 = true := by kernel_rfl
theorem en57 : entersB Try.prog 57 = true := by kernel_rfl
theorem en58 : entersB Try.prog 58 = true := by kernel_rfl
theorem en59 : entersB Try.prog 59 = true := by kernel_rfl
theorem en60 : entersB Try.prog 60 = true := by kernel_rfl
theorem en61 : entersB Try.prog 61 = true := by kernel_rfl
theorem en62 : entersB Try.prog 62 = true := by kernel_rfl
theorem en63 : entersB Try.prog 63 = true := by kernel_rfl
theorem en64 : entersB Try.prog 64 = true := by kernel_rfl
theorem en65 : entersB Try.prog 65 = true := by kernel_rfl
theorem en66 : entersB Try.prog 66 = true := by kernel_rfl
theorem en67 : entersB Try.prog 67 = true := by kernel_rfl
theorem en68 : entersB Try.prog 68 = true := by kernel_rfl
theorem en69 : entersB Try.prog 69 = true := by kernel_rfl
theorem en70 : entersB Try.prog 70 = true := by kernel_rfl
theorem en71 : entersB Try.prog 71 = true := by kernel_rfl
theorem en72 : entersB Try.prog 72 = true := by kernel_rfl
theorem en73 : entersB Try.prog 73 = true := by kernel_rfl
theorem en74 : entersB Try.prog 74 = true := by kernel_rfl
theorem en75 : entersB Try.prog 75 = true := by kernel_rfl
theorem en76 : entersB Try.prog 76 = true := by kernel_rfl
theorem en77 : entersB Try.prog 77 = true := by kernel_rfl
theorem en78 : entersB Try.prog 78 = true := by kernel_rfl
theorem en79 : entersB Try.prog 79 = true := by kernel_rfl
theorem en80 : entersB Try.prog 80 = true := by kernel_rfl
theorem en81 : entersB Try.prog 81 = true := by kernel_rfl
theorem en82 : entersB Try.prog 82 = true := by kernel_rfl
theorem en83 : entersB Try.prog 83 = true := by kernel_rfl
theorem en84 : entersB Try.prog 84 = true := by kernel_rfl
theorem en85 : entersB Try.prog 85 = true := by kernel_rfl
theorem en86 : entersB Try.prog 86 = true := by kernel_rfl
theorem en87 : entersB Try.prog 87 = true := by kernel_rfl
theorem en88 : entersB Try.prog 88 = true := by kernel_rfl
theorem en89 : entersB Try.prog 89 = true := by kernel_rfl
theorem en90 : entersB Try.prog 90 = true := by kernel_rfl
theorem en91 : entersB Try.prog 91 = true := by kernel_rfl
theorem en92 : entersB Try.prog 92 = true := by kernel_rfl
theorem en93 : entersB Try.prog 93 = true := by kernel_rfl
theorem en94 : entersB Try.prog 94 = true := by kernel_rfl
theorem en95 : entersB Try.prog 95 = true := by kernel_rfl
theorem en96 : entersB Try.prog 96 = true := by kernel_rfl
theorem en97 : entersB Try.prog 97 = true := by kernel_rfl
theorem en98 : entersB Try.prog 98 = true := by kernel_rfl
theorem en99 : entersB Try.prog 99 = true := by kernel_rfl
theorem en100 : entersB Try.prog 100 = true := by kernel_rfl
theorem en101 : entersB Try.prog 101 = true := by kernel_rfl
theorem en102 : entersB Try.prog 102 = true := by kernel_rfl
theorem en103 : entersB Try.prog 103 = true := by kernel_rfl
theorem en104 : entersB Try.prog 104 = true := by kernel_rfl
theorem en105 : entersB Try.prog 105 = true := by kernel_rfl
theorem en106 : entersB Try.prog 106 = true := by kernel_rfl
theorem en107 : entersB Try.prog 107 = true := by kernel_rfl
theorem fd26 : fieldsOf Try.prog 26 = some [(0, 1), (1, 1), (2, 1), (3, 1), (4, 1)] := by kernel_rfl
theorem fd43 : fieldsOf Try.prog 43 = some [(0, 1), (1, 1), (2, 1), (3, 1), (4, 1)] := by kernel_rfl
theorem fd52 : fieldsOf Try.prog 52 = some [(0, 5), (5, 1), (6, 5), (11, 1)] := by kernel_rfl
theorem fd64 : fieldsOf Try.prog 64 = some [(0, 1), (1, 1)] := by kernel_rfl
theorem fd112 : fieldsOf Try.prog 112 = some [(0, 1), (1, 1)] := by kernel_rfl
theorem fd116 : fieldsOf Try.prog 116 = some [(0, 1), (1, 1), (2, 1), (3, 1), (4, 1)] := by kernel_rfl
theorem fd125 : fieldsOf Try.prog 125 = some [(0, 1)] := by kernel_rfl
theorem fd129 : fieldsOf Try.prog 129 = some [(0, 1)] := by kernel_rfl
theorem fd138 : fieldsOf Try.prog 138 = some [(0, 1), (1, 1)] := by kernel_rfl
theorem mo94 : mapOf Try.prog 94 = some 26 := by kernel_rfl
theorem mo95 : mapOf Try.prog 95 = some 4 := by kernel_rfl
theorem mx0 : Try.prog.follows .mixedOrders = true := by kernel_rfl
theorem tw112 : twoInts Try.prog 112 = true := by kernel_rfl
theorem ty3 : tyOf Try.prog 3 = some (false, 1) := by kernel_rfl
theorem ty4 : tyOf Try.prog 4 = some (false, 1) := by kernel_rfl
theorem ty9 : tyOf Try.prog 9 = some (false, 1) := by kernel_rfl
theorem ty22 : tyOf Try.prog 22 = some (false, 1) := by kernel_rfl
theorem ty23 : tyOf Try.prog 23 = some (false, 1) := by kernel_rfl
theorem ty24 : tyOf Try.prog 24 = some (false, 1) := by kernel_rfl
theorem ty26 : tyOf Try.prog 26 = some (true, 5) := by kernel_rfl
theorem ty32 : tyOf Try.prog 32 = some (false, 1) := by kernel_rfl
theorem ty35 : tyOf Try.prog 35 = some (false, 1) := by kernel_rfl
theorem ty52 : tyOf Try.prog 52 = some (true, 12) := by kernel_rfl
theorem ty62 : tyOf Try.prog 62 = some (false, 1) := by kernel_rfl
theorem ty64 : tyOf Try.prog 64 = some (true, 2) := by kernel_rfl
theorem ty68 : tyOf Try.prog 68 = some (false, 1) := by kernel_rfl
theorem ty71 : tyOf Try.prog 71 = some (false, 1) := by kernel_rfl
theorem ty94 : tyOf Try.prog 94 = some (false, 1) := by kernel_rfl
theorem ty95 : tyOf Try.prog 95 = some (false, 1) := by kernel_rfl
theorem ty112 : tyOf Try.prog 112 = some (true, 2) := by kernel_rfl
theorem ty114 : tyOf Try.prog 114 = some (false, 1) := by kernel_rfl
theorem ty116 : tyOf Try.prog 116 = some (true, 5) := by kernel_rfl
theorem ty117 : tyOf Try.prog 117 = some (true, 65) := by kernel_rfl
theorem ty119 : tyOf Try.prog 119 = some (false, 1) := by kernel_rfl
theorem ty122 : tyOf Try.prog 122 = some (false, 1) := by kernel_rfl
theorem ty123 : tyOf Try.prog 123 = some (false, 1) := by kernel_rfl
theorem ty127 : tyOf Try.prog 127 = some (false, 1) := by kernel_rfl
theorem ty129 : tyOf Try.prog 129 = some (true, 1) := by kernel_rfl
theorem ty130 : tyOf Try.prog 130 = some (false, 1) := by kernel_rfl
theorem ua117 : Try.prog.underlying 117 = some (.array 13 116) := by kernel_rfl
theorem ui20 : Try.prog.underlying 20 = some (.interface #[]) := by kernel_rfl
theorem um32 : Try.prog.underlying 32 = some (.int .i64) := by kernel_rfl
theorem um134 : Try.prog.underlying 134 = some (.int .i64) := by kernel_rfl
theorem un4 : Try.prog.underlying 4 = some .bool := by kernel_rfl
theorem us9 : Try.prog.underlying 9 = some .string := by kernel_rfl
theorem zr3 : zeroOf Try.prog 3 = some (.int .i64 0) := by kernel_rfl
theorem zr4 : zeroOf Try.prog 4 = some (.bool false) := by kernel_rfl
theorem zr26 : zeroOf Try.prog 26 = some (.agg { toList := [.int .i64 0, .int .i64 0, .string { data := { toList := [] } }, .slice none 0 0, .slice none 0 0] }) := by kernel_rfl
theorem zr32 : zeroOf Try.prog 32 = some (.int .i64 0) := by kernel_rfl
theorem zr35 : zeroOf Try.prog 35 = some (.slice none 0 0) := by kernel_rfl
theorem zr43 : zeroOf Try.prog 43 = some (.agg { toList := [.int .i64 0, .int .i64 0, .int .i64 0, .int .i64 0, .bool false] }) := by kernel_rfl
theorem zr52 : zeroOf Try.prog 52 = some (.agg { toList := [.int .i64 0, .int .i64 0, .string { data := { toList := [] } }, .slice none 0 0, .slice none 0 0, .bool false, .int .i64 0, .int .i64 0, .string { data := { toList := [] } }, .slice none 0 0, .slice none 0 0, .bool false] }) := by kernel_rfl
theorem zr64 : zeroOf Try.prog 64 = some (.agg { toList := [.int .i64 0, .slice none 0 0] }) := by kernel_rfl
theorem zr68 : zeroOf Try.prog 68 = some .nilFunc := by kernel_rfl
theorem zr71 : zeroOf Try.prog 71 = some .nilFunc := by kernel_rfl
theorem zr94 : zeroOf Try.prog 94 = some (.map none) := by kernel_rfl
theorem zr95 : zeroOf Try.prog 95 = some (.map none) := by kernel_rfl
theorem zr112 : zeroOf Try.prog 112 = some (.agg { toList := [.int .i64 0, .int .i64 0] }) := by kernel_rfl
theorem zr116 : zeroOf Try.prog 116 = some (.agg { toList := [.bool false, .bool false, .int .i64 0, .int .i64 0, .int .i64 0] }) := by kernel_rfl
theorem zr117 : zeroOf Try.prog 117 = some (.agg { toList := [.bool false, .bool false, .int .i64 0, .int .i64 0, .int .i64 0, .bool false, .bool false, .int .i64 0, .int .i64 0, .int .i64 0, .bool false, .bool false, .int .i64 0, .int .i64 0, .int .i64 0, .bool false, .bool false, .int .i64 0, .int .i64 0, .int .i64 0, .bool false, .bool false, .int .i64 0, .int .i64 0, .int .i64 0, .bool false, .bool false, .int .i64 0, .int .i64 0, .int .i64 0, .bool false, .bool false, .int .i64 0, .int .i64 0, .int .i64 0, .bool false, .bool false, .int .i64 0, .int .i64 0, .int .i64 0, .bool false, .bool false, .int .i64 0, .int .i64 0, .int .i64 0, .bool false, .bool false, .int .i64 0, .int .i64 0, .int .i64 0, .bool false, .bool false, .int .i64 0, .int .i64 0, .int .i64 0, .bool false, .bool false, .int .i64 0, .int .i64 0, .int .i64 0, .bool false, .bool false, .int .i64 0, .int .i64 0, .int .i64 0] }) := by kernel_rfl
theorem zr119 : zeroOf Try.prog 119 = some .nilFunc := by kernel_rfl
theorem zr122 : zeroOf Try.prog 122 = some .nilFunc := by kernel_rfl
theorem zr123 : zeroOf Try.prog 123 = some (.pointer none) := by kernel_rfl
theorem zr125 : zeroOf Try.prog 125 = some (.agg { toList := [.int .i64 0] }) := by kernel_rfl
theorem zr129 : zeroOf Try.prog 129 = some (.agg { toList := [.nilFunc] }) := by kernel_rfl
theorem zr138 : zeroOf Try.prog 138 = some (.agg { toList := [.int .i64 0, .int .i64 0] }) := by kernel_rfl
end Go.Proofs.Ytgfecpjmbgcobaa
/- Contracts of functions of the program. -/
namespace Go.Proofs.Ytgfecpjmbgcobaa
open Go.Abs Go.Eu
set_option linter.unusedVariables false
set_option linter.unusedSimpArgs false
set_option maxRecDepth 100000
theorem sameL_c : ∀ (a b : Lvl), a.vars.length < big → Fun Try.prog 71 [LV a, LV b] (.p (.bool (eqB a b))) := by
  intro a b hb
  obtain ⟨ac, av⟩ := a
  obtain ⟨bc, bv⟩ := b
  simp only [big] at hb
  refine acalls_of_awp Try.func71 rfl en71 (n := 38) rfl rfl ?_
  refine awp_seq ?_
  refine awp_region ?_
  refine al_new rfl rfl (aop_box rfl) fun b2 => ?_
  refine al_new rfl rfl (aop_box rfl) fun b3 => ?_
  refine al_step rfl rfl (aop_assign rfl) ?_
  refine al_end rfl ?_
  refine awp_seq ?_
  refine awp_seq ?_
  refine awp_meetR [0, 1, 2, 3, 4, 5] 19 (fun y => y = .p (.bool (ac != bc || (av.length : Int) != bv.length))) ?_ ?_
  · refine awp_region ?_
    refine al_step rfl rfl (aop_field_ptr fd64 rfl rfl) ?_
    refine al_step rfl rfl (aop_load_box1 (i := 1) ty3 rfl rfl rfl) ?_
    refine al_step rfl rfl (aop_field_ptr fd64 rfl rfl) ?_
    refine al_step rfl rfl (aop_load_box1 (i := 0) ty3 rfl rfl rfl) ?_
    refine al_step rfl rfl (aop_cmp rfl rfl rfl) ?_
    refine al_step rfl rfl (aop_move rfl) ?_
    refine al_case 11 rfl (fun g1 => ?_) (fun g1 => ?_)
    · (try simp only [sd] at g1)
      refine al_pass rfl rfl rfl rfl rfl ?_
      refine al_pass rfl rfl rfl rfl rfl ?_
      refine al_pass rfl rfl rfl rfl rfl ?_
      refine al_pass rfl rfl rfl rfl rfl ?_
      refine al_pass rfl rfl rfl rfl rfl ?_
      refine al_pass rfl rfl rfl rfl rfl ?_
      refine al_pass rfl rfl rfl rfl rfl ?_
      refine al_step rfl rfl (aop_pick rfl rfl) ?_
      refine al_end rfl ?_
      exact ⟨rfl, rfl, (by first | exact List.Sublist.refl _ | exact List.sublist_cons_self _ _), pB (by simp_all), ⟨rfl, rfl, rfl, rfl, rfl, rfl, trivial⟩⟩
    · (try simp only [sd] at g1)
      refine al_stepg rfl rfl rfl rfl (aop_field_ptr fd64 rfl rfl) ?_
      refine al_stepg rfl rfl rfl rfl (aop_load_box1 (i := 1) ty62 rfl rfl rfl) ?_
      refine al_stepg rfl rfl rfl rfl (aop_len el62 rfl) ?_
      refine al_stepg rfl rfl rfl rfl (aop_field_ptr fd64 rfl rfl) ?_
      refine al_stepg rfl rfl rfl rfl (aop_load_box1 (i := 0) ty62 rfl rfl rfl) ?_
      refine al_stepg rfl rfl rfl rfl (aop_len el62 rfl) ?_
      refine al_stepg rfl rfl rfl rfl (aop_cmp rfl rfl rfl) ?_
      refine al_step rfl rfl (aop_pick rfl rfl) ?_
      refine al_end rfl ?_
      exact ⟨rfl, rfl, (by first | exact List.Sublist.refl _ | exact List.sublist_cons_self _ _), pB (by simp_all), ⟨rfl, rfl, rfl, rfl, rfl, rfl, trivial⟩⟩
  rintro _ rfl
  refine awp_cond rfl (fun c2 => ?_) (fun c2 => ?_)
  · (try simp only [sd] at c2)
    refine awp_seq ?_
    refine awp_region ?_
    refine al_step rfl rfl (aop_assign rfl) ?_
    refine al_end rfl ?_
    refine awp_ret ?_
    refine ⟨rfl, _, [], res_tmp rfl, List.nil_sublist _, ?_⟩
    exact ⟨pB (eqB_false (fun h => by simp at h; simp [h] at *)).symm, rfl⟩
  · (try simp only [sd] at c2)
    have h1 : ac = bc ∧ av.length = bv.length := by simp at c2; omega
    refine awp_skip ?_
    refine awp_seq ?_
    refine awp_seq ?_
    refine awp_region ?_
    refine al_step rfl rfl (aop_assign rfl) ?_
    refine al_end rfl ?_
    refine awp_block ?_
    refine awp_forC (av.length) (fun i => agree av bv i) (fun i => ⟨38, mk [(2, .ptr b2 0), (3, .ptr b3 0), (5, .p (I i))], [.box b3 ((encL ⟨bc, bv⟩).map .p), .box b2 ((encL ⟨ac, av⟩).map .p)], []⟩) (0) (by omega) (agree_zero _ _) ?_ ?_
    · exact le_mk ⟨rfl, rfl, rfl, trivial⟩ (by first | exact List.Sublist.refl _ | exact .cons _ (.refl _) | exact .cons _ (.cons _ (.refl _)) | exact .cons _ (.cons _ (.cons _ (.refl _))) | exact .cons _ (.cons _ (.cons _ (.cons _ (.refl _)))))
    intro i hi hC
    refine awp_seq ?_
    refine awp_seq ?_
    refine awp_region ?_
    refine al_step rfl rfl (aop_move rfl) ?_
    refine al_step rfl rfl (aop_field_ptr fd64 rfl rfl) ?_
    refine al_step rfl rfl (aop_load_box1 (i := 1) ty62 rfl rfl rfl) ?_
    refine al_step rfl rfl (aop_len el62 rfl) ?_
    refine al_step rfl rfl (aop_cmp rfl rfl rfl) ?_
    refine al_end rfl ?_
    refine awp_cond rfl (fun c3 => ?_) (fun c3 => ?_)
    · (try simp only [sd] at c3)
      have hi2 : i < av.length := by simp at c3; omega
      obtain ⟨x, hx⟩ := getElem?_of_lt hi2
      obtain ⟨y, hy⟩ := getElem?_of_lt (l := bv) (i := i) (by omega)
      refine awp_skip ?_
      refine awp_seq ?_
      refine awp_block ?_
      refine awp_seq ?_
      refine awp_dr (fun k => false) mx0 ?_
      refine dr_free rfl rfl (fun _ => aop_field_ptr fd64 rfl rfl) trivial ?_
      refine dr_read (j := 1) rfl rfl rfl (fun H i hi => aop_load_box1 (i := i) ty62 rfl hi rfl) (by repeat' first | exact trivial | refine And.intro ?_ ?_ | exact Or.inl (by kernel_rfl) | (refine Or.inr (And.intro ?_ ?_) <;> repeat (first | exact List.Mem.head _ | apply List.Mem.tail))) trivial ?_
      refine dr_free rfl rfl (fun _ => aop_move rfl) trivial ?_
      refine dr_free rfl rfl (fun _ => aop_index_lst el62 rfl rfl (by omega) (encV_get hx) (rfl)) trivial ?_
      refine dr_free rfl rfl (fun _ => aop_load_ref ty112 rfl (rfl)) trivial ?_
      refine dr_free rfl rfl (fun _ => aop_field_ptr fd64 rfl rfl) trivial ?_
      refine dr_read (j := 0) rfl rfl rfl (fun H i hi => aop_load_box1 (i := i) ty62 rfl hi rfl) (by repeat' first | exact trivial | refine And.intro ?_ ?_ | exact Or.inl (by kernel_rfl) | (refine Or.inr (And.intro ?_ ?_) <;> repeat (first | exact List.Mem.head _ | apply List.Mem.tail))) trivial ?_
      refine dr_free rfl rfl (fun _ => aop_move rfl) trivial ?_
      refine dr_free rfl rfl (fun _ => aop_index_lst el62 rfl rfl (by omega) (encV_get hy) (rfl)) trivial ?_
      refine dr_free rfl rfl (fun _ => aop_load_ref ty112 rfl (rfl)) trivial ?_
      refine dr_free rfl rfl (fun _ => aop_twoNe tw112 rfl rfl) trivial ?_
      refine dr_end rfl (by kernel_rfl) ?_
      refine awp_cond rfl (fun c4 => ?_) (fun c4 => ?_)
      · (try simp only [sd] at c4)
        refine awp_seq ?_
        refine awp_region ?_
        refine al_step rfl rfl (aop_assign rfl) ?_
        refine al_end rfl ?_
        refine awp_ret ?_
        refine ⟨rfl, _, [], res_tmp rfl, List.nil_sublist _, ?_⟩
        exact ⟨pB (eqB_false (fun h => by simp at h; obtain ⟨_, rfl⟩ := h; rw [hx] at hy; injection hy with hy; subst hy; simp_all)).symm, rfl⟩
      · (try simp only [sd] at c4)
        have hxy : x = y := by obtain ⟨x1, x2⟩ := x; obtain ⟨y1, y2⟩ := y; simp at c4; simp [c4]
        subst hxy
        refine awp_skip ?_
        refine awp_region ?_
        refine al_step rfl rfl (aop_move rfl) ?_
        refine al_step rfl rfl (aop_add rfl rfl (by omega) (by omega)) ?_
        refine al_step rfl rfl (aop_assign rfl) ?_
        refine al_end rfl ?_
        exact ⟨by omega, agree_succ hC hx hy, le_mk ⟨rfl, rfl, rfl, trivial⟩ (by first | exact List.Sublist.refl _ | exact .cons _ (.refl _) | exact .cons _ (.cons _ (.refl _)) | exact .cons _ (.cons _ (.cons _ (.refl _))) | exact .cons _ (.cons _ (.cons _ (.cons _ (.refl _)))))⟩
    · (try simp only [sd] at c3)
      have hi2 : i = av.length := by simp at c3; omega
      refine awp_exit ?_
      refine awp_seq ?_
      refine awp_region ?_
      refine al_step rfl rfl (aop_assign rfl) ?_
      refine al_end rfl ?_
      refine awp_ret ?_
      refine ⟨rfl, _, [], res_tmp rfl, List.nil_sublist _, ?_⟩
      exact ⟨pB (eqB_true (by rw [h1.1, agree_all hC (by omega) (by omega)])).symm, rfl⟩

theorem sameLs_c : ∀ (a b : List Lvl), a.length < big → (∀ l ∈ a, NdL l) → Fun Try.prog 40 [LsV a, LsV b] (.p (.bool (eqB a b))) := by
  intro a b hb hn
  simp only [big] at hb
  refine acalls_of_awp Try.func40 rfl en40 (n := 27) rfl rfl ?_
  refine awp_seq ?_
  refine awp_region ?_
  refine al_step rfl rfl (aop_assign rfl) ?_
  refine al_end rfl ?_
  refine awp_seq ?_
  refine awp_seq ?_
  refine awp_region ?_
  refine al_step rfl rfl (aop_move rfl) ?_
  refine al_step rfl rfl (aop_len el23 rfl) ?_
  refine al_step rfl rfl (aop_move rfl) ?_
  refine al_step rfl rfl (aop_len el23 rfl) ?_
  refine al_step rfl rfl (aop_cmp rfl rfl rfl) ?_
  refine al_end rfl ?_
  refine awp_cond rfl (fun c1 => ?_) (fun c1 => ?_)
  · (try simp only [sd] at c1)
    refine awp_seq ?_
    refine awp_region ?_
    refine al_step rfl rfl (aop_assign rfl) ?_
    refine al_end rfl ?_
    refine awp_ret ?_
    refine ⟨rfl, _, [], res_tmp rfl, List.nil_sublist _, ?_⟩
    exact ⟨pB (eqB_false (fun h => by subst h; simp at *)).symm, rfl⟩
  · (try simp only [sd] at c1)
    have h1 : a.length = b.length := by simp at c1; omega
    refine awp_skip ?_
    refine awp_seq ?_
    refine awp_seq ?_
    refine awp_region ?_
    refine al_step rfl rfl (aop_assign rfl) ?_
    refine al_end rfl ?_
    refine awp_block ?_
    refine awp_forC (a.length) (fun i => agree a b i) (fun i => ⟨27, mk [(0, LsV a), (1, LsV b), (5, .p (I i))], [], []⟩) (0) (by omega) (agree_zero _ _) ?_ ?_
    · exact le_mk ⟨rfl, rfl, rfl, trivial⟩ (by first | exact List.Sublist.refl _ | exact .cons _ (.refl _) | exact .cons _ (.cons _ (.refl _)) | exact .cons _ (.cons _ (.cons _ (.refl _))) | exact .cons _ (.cons _ (.cons _ (.cons _ (.refl _)))))
    intro i hi hC
    refine awp_seq ?_
    refine awp_seq ?_
    refine awp_region ?_
    refine al_step rfl rfl (aop_move rfl) ?_
    refine al_step rfl rfl (aop_move rfl) ?_
    refine al_step rfl rfl (aop_len el23 rfl) ?_
    refine al_step rfl rfl (aop_cmp rfl rfl rfl) ?_
    refine al_end rfl ?_
    refine awp_cond rfl (fun c2 => ?_) (fun c2 => ?_)
    · (try simp only [sd] at c2)
      have hi2 : i < a.length := by simp at c2; omega
      obtain ⟨x, hx⟩ := getElem?_of_lt hi2
      obtain ⟨y, hy⟩ := getElem?_of_lt (l := b) (i := i) (by omega)
      refine awp_skip ?_
      refine awp_seq ?_
      refine awp_block ?_
      refine awp_seq ?_
      refine awp_dr (fun k => false) mx0 ?_
      refine dr_free rfl rfl (fun _ => aop_move rfl) trivial ?_
      refine dr_free rfl rfl (fun _ => aop_move rfl) trivial ?_
      refine dr_free rfl rfl (fun _ => aop_index_lst el23 rfl rfl (by omega) (encL_get hx) (encL_len _)) trivial ?_
      refine dr_free rfl rfl (fun _ => aop_load_ref ty64 rfl (encL_len _)) trivial ?_
      refine dr_free rfl rfl (fun _ => aop_move rfl) trivial ?_
      refine dr_free rfl rfl (fun _ => aop_move rfl) trivial ?_
      refine dr_free rfl rfl (fun _ => aop_index_lst el23 rfl rfl (by omega) (encL_get hy) (encL_len _)) trivial ?_
      refine dr_free rfl rfl (fun _ => aop_load_ref ty64 rfl (encL_len _)) trivial ?_
      refine dr_free rfl rfl (fun _ => aop_fun rfl rfl (sameL_c x y (hn x (List.mem_of_getElem? hx)).vars) rfl) trivial ?_
      refine dr_free rfl rfl (fun _ => aop_not rfl) trivial ?_
      refine dr_end rfl (by kernel_rfl) ?_
      refine awp_cond rfl (fun c3 => ?_) (fun c3 => ?_)
      · (try simp only [sd] at c3)
        refine awp_seq ?_
        refine awp_region ?_
        refine al_step rfl rfl (aop_assign rfl) ?_
        refine al_end rfl ?_
        refine awp_ret ?_
        refine ⟨rfl, _, [], res_tmp rfl, List.nil_sublist _, ?_⟩
        exact ⟨pB (eqB_false (fun h => by subst h; rw [hx] at hy; injection hy with hy; subst hy; simp [eqB_true] at *)).symm, rfl⟩
      · (try simp only [sd] at c3)
        have hxy : x = y := eqB_iff.1 (by simpa using c3)
        subst hxy
        refine awp_skip ?_
        refine awp_region ?_
        refine al_step rfl rfl (aop_move rfl) ?_
        refine al_step rfl rfl (aop_add rfl rfl (by omega) (by omega)) ?_
        refine al_step rfl rfl (aop_assign rfl) ?_
        refine al_end rfl ?_
        exact ⟨by omega, agree_succ hC hx hy, le_mk ⟨rfl, rfl, rfl, trivial⟩ (by first | exact List.Sublist.refl _ | exact .cons _ (.refl _) | exact .cons _ (.cons _ (.refl _)) | exact .cons _ (.cons _ (.cons _ (.refl _))) | exact .cons _ (.cons _ (.cons _ (.cons _ (.refl _)))))⟩
    · (try simp only [sd] at c2)
      have hi2 : i = a.length := by simp at c2; omega
      refine awp_exit ?_
      refine awp_seq ?_
      refine awp_region ?_
      refine al_step rfl rfl (aop_assign rfl) ?_
      refine al_end rfl ?_
      refine awp_ret ?_
      refine ⟨rfl, _, [], res_tmp rfl, List.nil_sublist _, ?_⟩
      exact ⟨pB (eqB_true (agree_all hC (by omega) (by omega))).symm, rfl⟩

theorem same_c : ∀ (n : Nat) (a b : Tm), size a ≤ n → Nd a → Fun Try.prog 16 [TV a, TV b] (.p (.bool (eqB a b))) := by
  intro n
  induction n with
  | zero => intro a b h; cases a; simp [size] at h
  | succ n ih =>
    intro a b hs hnd
    obtain ⟨ak, ai, an, al, aks⟩ := a
    obtain ⟨bk, bi, bn, bl, bks⟩ := b
    simp only [size] at hs
    simp only [Nd, big] at hnd
    obtain ⟨hn1, hn2, hn3, hn4, hn5, hn6⟩ := hnd
    refine acalls_of_awp Try.func16 rfl en16 (n := 61) rfl rfl ?_
    refine awp_seq ?_
    refine awp_region ?_
    refine al_new rfl rfl (aop_box rfl) fun b2 => ?_
    refine al_new rfl rfl (aop_box rfl) fun b3 => ?_
    refine al_step rfl rfl (aop_assign rfl) ?_
    refine al_end rfl ?_
    refine awp_seq ?_
    refine awp_seq ?_
    refine awp_meetR [0, 1, 2, 3, 4, 5] 41 (fun y => y = .p (.bool (ak != bk || ai != bi || !(an.toList == bn.toList) || !(eqB al bl) || (((encTs aks).length : Int) != (encTs bks).length)))) ?_ ?_
    · refine awp_region ?_
      refine al_step rfl rfl (aop_field_ptr fd26 rfl rfl) ?_
      refine al_step rfl rfl (aop_load_box1 (i := 1) ty3 rfl rfl rfl) ?_
      refine al_step rfl rfl (aop_field_ptr fd26 rfl rfl) ?_
      refine al_step rfl rfl (aop_load_box1 (i := 0) ty3 rfl rfl rfl) ?_
      refine al_step rfl rfl (aop_cmp rfl rfl rfl) ?_
      refine al_step rfl rfl (aop_move rfl) ?_
      refine al_case 11 rfl (fun g1 => ?_) (fun g1 => ?_)
      · (try simp only [sd] at g1)
        refine al_pass rfl rfl rfl rfl rfl ?_
        refine al_pass rfl rfl rfl rfl rfl ?_
        refine al_pass rfl rfl rfl rfl rfl ?_
        refine al_pass rfl rfl rfl rfl rfl ?_
        refine al_pass rfl rfl rfl rfl rfl ?_
        refine al_step rfl rfl (aop_pick rfl rfl) ?_
        refine al_step rfl rfl (aop_move rfl) ?_
        refine al_case 18 rfl (fun g2 => ?_) (fun g2 => ?_)
        · (try simp only [sd] at g2)
          refine al_pass rfl rfl rfl rfl rfl ?_
          refine al_pass rfl rfl rfl rfl rfl ?_
          refine al_pass rfl rfl rfl rfl rfl ?_
          refine al_pass rfl rfl rfl rfl rfl ?_
          refine al_pass rfl rfl rfl rfl rfl ?_
          refine al_step rfl rfl (aop_pick rfl rfl) ?_
          refine al_step rfl rfl (aop_move rfl) ?_
          refine al_case 25 rfl (fun g3 => ?_) (fun g3 => ?_)
          · (try simp only [sd] at g3)
            refine al_pass rfl rfl rfl rfl rfl ?_
            refine al_pass rfl rfl rfl rfl rfl ?_
            refine al_pass rfl rfl rfl rfl rfl ?_
            refine al_pass rfl rfl rfl rfl rfl ?_
            refine al_pass rfl rfl rfl rfl rfl ?_
            refine al_pass rfl rfl rfl rfl rfl ?_
            refine al_step rfl rfl (aop_pick rfl rfl) ?_
            refine al_step rfl rfl (aop_move rfl) ?_
            refine al_case 33 rfl (fun g4 => ?_) (fun g4 => ?_)
            · (try simp only [sd] at g4)
              refine al_pass rfl rfl rfl rfl rfl ?_
              refine al_pass rfl rfl rfl rfl rfl ?_
              refine al_pass rfl rfl rfl rfl rfl ?_
              refine al_pass rfl rfl rfl rfl rfl ?_
              refine al_pass rfl rfl rfl rfl rfl ?_
              refine al_pass rfl rfl rfl rfl rfl ?_
              refine al_pass rfl rfl rfl rfl rfl ?_
              refine al_step rfl rfl (aop_pick rfl rfl) ?_
              refine al_end rfl ?_
              exact ⟨rfl, rfl, (by first | exact List.Sublist.refl _ | exact List.sublist_cons_self _ _), pB (by simp_all), ⟨rfl, rfl, rfl, rfl, rfl, rfl, trivial⟩⟩
            · (try simp only [sd] at g4)
              refine al_stepg rfl rfl rfl rfl (aop_field_ptr fd26 rfl rfl) ?_
              refine al_stepg rfl rfl rfl rfl (aop_load_box1 (i := 1) ty24 rfl rfl rfl) ?_
              refine al_stepg rfl rfl rfl rfl (aop_len el24 rfl) ?_
              refine al_stepg rfl rfl rfl rfl (aop_field_ptr fd26 rfl rfl) ?_
              refine al_stepg rfl rfl rfl rfl (aop_load_box1 (i := 0) ty24 rfl rfl rfl) ?_
              refine al_stepg rfl rfl rfl rfl (aop_len el24 rfl) ?_
              refine al_stepg rfl rfl rfl rfl (aop_cmp rfl rfl rfl) ?_
              refine al_step rfl rfl (aop_pick rfl rfl) ?_
              refine al_end rfl ?_
              exact ⟨rfl, rfl, (by first | exact List.Sublist.refl _ | exact List.sublist_cons_self _ _), pB (by simp_all), ⟨rfl, rfl, rfl, rfl, rfl, rfl, trivial⟩⟩
          · (try simp only [sd] at g3)
            refine al_stepg rfl rfl rfl rfl (aop_field_ptr fd26 rfl rfl) ?_
            refine al_stepg rfl rfl rfl rfl (aop_load_box1 (i := 1) ty23 rfl rfl rfl) ?_
            refine al_stepg rfl rfl rfl rfl (aop_field_ptr fd26 rfl rfl) ?_
            refine al_stepg rfl rfl rfl rfl (aop_load_box1 (i := 0) ty23 rfl rfl rfl) ?_
            refine al_stepg rfl rfl rfl rfl (aop_fun rfl rfl (sameLs_c al bl hn2 hn3) rfl) ?_
            refine al_stepg rfl rfl rfl rfl (aop_not rfl) ?_
            refine al_step rfl rfl (aop_pick rfl rfl) ?_
            refine al_step rfl rfl (aop_move rfl) ?_
            refine al_case 33 rfl (fun g5 => ?_) (fun g5 => ?_)
            · (try simp only [sd] at g5)
              refine al_pass rfl rfl rfl rfl rfl ?_
              refine al_pass rfl rfl rfl rfl rfl ?_
              refine al_pass rfl rfl rfl rfl rfl ?_
              refine al_pass rfl rfl rfl rfl rfl ?_
              refine al_pass rfl rfl rfl rfl rfl ?_
              refine al_pass rfl rfl rfl rfl rfl ?_
              refine al_pass rfl rfl rfl rfl rfl ?_
              refine al_step rfl rfl (aop_pick rfl rfl) ?_
              refine al_end rfl ?_
              exact ⟨rfl, rfl, (by first | exact List.Sublist.refl _ | exact List.sublist_cons_self _ _), pB (by simp_all), ⟨rfl, rfl, rfl, rfl, rfl, rfl, trivial⟩⟩
            · (try simp only [sd] at g5)
              refine al_stepg rfl rfl rfl rfl (aop_field_ptr fd26 rfl rfl) ?_
              refine al_stepg rfl rfl rfl rfl (aop_load_box1 (i := 1) ty24 rfl rfl rfl) ?_
              refine al_stepg rfl rfl rfl rfl (aop_len el24 rfl) ?_
              refine al_stepg rfl rfl rfl rfl (aop_field_ptr fd26 rfl rfl) ?_
              refine al_stepg rfl rfl rfl rfl (aop_load_box1 (i := 0) ty24 rfl rfl rfl) ?_
              refine al_stepg rfl rfl rfl rfl (aop_len el24 rfl) ?_
              refine al_stepg rfl rfl rfl rfl (aop_cmp rfl rfl rfl) ?_
              refine al_step rfl rfl (aop_pick rfl rfl) ?_
              refine al_end rfl ?_
              exact ⟨rfl, rfl, (by first | exact List.Sublist.refl _ | exact List.sublist_cons_self _ _), pB (by simp_all), ⟨rfl, rfl, rfl, rfl, rfl, rfl, trivial⟩⟩
        · (try simp only [sd] at g2)
          refine al_stepg rfl rfl rfl rfl (aop_field_ptr fd26 rfl rfl) ?_
          refine al_stepg rfl rfl rfl rfl (aop_load_box1 (i := 1) ty9 rfl rfl rfl) ?_
          refine al_stepg rfl rfl rfl rfl (aop_field_ptr fd26 rfl rfl) ?_
          refine al_stepg rfl rfl rfl rfl (aop_load_box1 (i := 0) ty9 rfl rfl rfl) ?_
          refine al_stepg rfl rfl rfl rfl (aop_strne rfl rfl) ?_
          refine al_step rfl rfl (aop_pick rfl rfl) ?_
          refine al_step rfl rfl (aop_move rfl) ?_
          refine al_case 25 rfl (fun g6 => ?_) (fun g6 => ?_)
          · (try simp only [sd] at g6)
            refine al_pass rfl rfl rfl rfl rfl ?_
            refine al_pass rfl rfl rfl rfl rfl ?_
            refine al_pass rfl rfl rfl rfl rfl ?_
            refine al_pass rfl rfl rfl rfl rfl ?_
            refine al_pass rfl rfl rfl rfl rfl ?_
            refine al_pass rfl rfl rfl rfl rfl ?_
            refine al_step rfl rfl (aop_pick rfl rfl) ?_
            refine al_step rfl rfl (aop_move rfl) ?_
            refine al_case 33 rfl (fun g7 => ?_) (fun g7 => ?_)
            · (try simp only [sd] at g7)
              refine al_pass rfl rfl rfl rfl rfl ?_
              refine al_pass rfl rfl rfl rfl rfl ?_
              refine al_pass rfl rfl rfl rfl rfl ?_
              refine al_pass rfl rfl rfl rfl rfl ?_
              refine al_pass rfl rfl rfl rfl rfl ?_
              refine al_pass rfl rfl rfl rfl rfl ?_
              refine al_pass rfl rfl rfl rfl rfl ?_
              refine al_step rfl rfl (aop_pick rfl rfl) ?_
              refine al_end rfl ?_
              exact ⟨rfl, rfl, (by first | exact List.Sublist.refl _ | exact List.sublist_cons_self _ _), pB (by simp_all), ⟨rfl, rfl, rfl, rfl, rfl, rfl, trivial⟩⟩
            · (try simp only [sd] at g7)
              refine al_stepg rfl rfl rfl rfl (aop_field_ptr fd26 rfl rfl) ?_
              refine al_stepg rfl rfl rfl rfl (aop_load_box1 (i := 1) ty24 rfl rfl rfl) ?_
              refine al_stepg rfl rfl rfl rfl (aop_len el24 rfl) ?_
              refine al_stepg rfl rfl rfl rfl (aop_field_ptr fd26 rfl rfl) ?_
              refine al_stepg rfl rfl rfl rfl (aop_load_box1 (i := 0) ty24 rfl rfl rfl) ?_
              refine al_stepg rfl rfl rfl rfl (aop_len el24 rfl) ?_
              refine al_stepg rfl rfl rfl rfl (aop_cmp rfl rfl rfl) ?_
              refine al_step rfl rfl (aop_pick rfl rfl) ?_
              refine al_end rfl ?_
              exact ⟨rfl, rfl, (by first | exact List.Sublist.refl _ | exact List.sublist_cons_self _ _), pB (by simp_all), ⟨rfl, rfl, rfl, rfl, rfl, rfl, trivial⟩⟩
          · (try simp only [sd] at g6)
            refine al_stepg rfl rfl rfl rfl (aop_field_ptr fd26 rfl rfl) ?_
            refine al_stepg rfl rfl rfl rfl (aop_load_box1 (i := 1) ty23 rfl rfl rfl) ?_
            refine al_stepg rfl rfl rfl rfl (aop_field_ptr fd26 rfl rfl) ?_
            refine al_stepg rfl rfl rfl rfl (aop_load_box1 (i := 0) ty23 rfl rfl rfl) ?_
            refine al_stepg rfl rfl rfl rfl (aop_fun rfl rfl (sameLs_c al bl hn2 hn3) rfl) ?_
            refine al_stepg rfl rfl rfl rfl (aop_not rfl) ?_
            refine al_step rfl rfl (aop_pick rfl rfl) ?_
            refine al_step rfl rfl (aop_move rfl) ?_
            refine al_case 33 rfl (fun g8 => ?_) (fun g8 => ?_)
            · (try simp only [sd] at g8)
              refine al_pass rfl rfl rfl rfl rfl ?_
              refine al_pass rfl rfl rfl rfl rfl ?_
              refine al_pass rfl rfl rfl rfl rfl ?_
              refine al_pass rfl rfl rfl rfl rfl ?_
              refine al_pass rfl rfl rfl rfl rfl ?_
              refine al_pass rfl rfl rfl rfl rfl ?_
              refine al_pass rfl rfl rfl rfl rfl ?_
              refine al_step rfl rfl (aop_pick rfl rfl) ?_
              refine al_end rfl ?_
              exact ⟨rfl, rfl, (by first | exact List.Sublist.refl _ | exact List.sublist_cons_self _ _), pB (by simp_all), ⟨rfl, rfl, rfl, rfl, rfl, rfl, trivial⟩⟩
            · (try simp only [sd] at g8)
              refine al_stepg rfl rfl rfl rfl (aop_field_ptr fd26 rfl rfl) ?_
              refine al_stepg rfl rfl rfl rfl (aop_load_box1 (i := 1) ty24 rfl rfl rfl) ?_
              refine al_stepg rfl rfl rfl rfl (aop_len el24 rfl) ?_
              refine al_stepg rfl rfl rfl rfl (aop_field_ptr fd26 rfl rfl) ?_
              refine al_stepg rfl rfl rfl rfl (aop_load_box1 (i := 0) ty24 rfl rfl rfl) ?_
              refine al_stepg rfl rfl rfl rfl (aop_len el24 rfl) ?_
              refine al_stepg rfl rfl rfl rfl (aop_cmp rfl rfl rfl) ?_
              refine al_step rfl rfl (aop_pick rfl rfl) ?_
              refine al_end rfl ?_
              exact ⟨rfl, rfl, (by first | exact List.Sublist.refl _ | exact List.sublist_cons_self _ _), pB (by simp_all), ⟨rfl, rfl, rfl, rfl, rfl, rfl, trivial⟩⟩
      · (try simp only [sd] at g1)
        refine al_stepg rfl rfl rfl rfl (aop_field_ptr fd26 rfl rfl) ?_
        refine al_stepg rfl rfl rfl rfl (aop_load_box1 (i := 1) ty3 rfl rfl rfl) ?_
        refine al_stepg rfl rfl rfl rfl (aop_field_ptr fd26 rfl rfl) ?_
        refine al_stepg rfl rfl rfl rfl (aop_load_box1 (i := 0) ty3 rfl rfl rfl) ?_
        refine al_stepg rfl rfl rfl rfl (aop_cmp rfl rfl rfl) ?_
        refine al_step rfl rfl (aop_pick rfl rfl) ?_
        refine al_step rfl rfl (aop_move rfl) ?_
        refine al_case 18 rfl (fun g9 => ?_) (fun g9 => ?_)
        · (try simp only [sd] at g9)
          refine al_pass rfl rfl rfl rfl rfl ?_
          refine al_pass rfl rfl rfl rfl rfl ?_
          refine al_pass rfl rfl rfl rfl rfl ?_
          refine al_pass rfl rfl rfl rfl rfl ?_
          refine al_pass rfl rfl rfl rfl rfl ?_
          refine al_step rfl rfl (aop_pick rfl rfl) ?_
          refine al_step rfl rfl (aop_move rfl) ?_
          refine al_case 25 rfl (fun g10 => ?_) (fun g10 => ?_)
          · (try simp only [sd] at g10)
            refine al_pass rfl rfl rfl rfl rfl ?_
            refine al_pass rfl rfl rfl rfl rfl ?_
            refine al_pass rfl rfl rfl rfl rfl ?_
            refine al_pass rfl rfl rfl rfl rfl ?_
            refine al_pass rfl rfl rfl rfl rfl ?_
            refine al_pass rfl rfl rfl rfl rfl ?_
            refine al_step rfl rfl (aop_pick rfl rfl) ?_
            refine al_step rfl rfl (aop_move rfl) ?_
            refine al_case 33 rfl (fun g11 => ?_) (fun g11 => ?_)
            · (try simp only [sd] at g11)
              refine al_pass rfl rfl rfl rfl rfl ?_
              refine al_pass rfl rfl rfl rfl rfl ?_
              refine al_pass rfl rfl rfl rfl rfl ?_
              refine al_pass rfl rfl rfl rfl rfl ?_
              refine al_pass rfl rfl rfl rfl rfl ?_
              refine al_pass rfl rfl rfl rfl rfl ?_
              refine al_pass rfl rfl rfl rfl rfl ?_
              refine al_step rfl rfl (aop_pick rfl rfl) ?_
              refine al_end rfl ?_
              exact ⟨rfl, rfl, (by first | exact List.Sublist.refl _ | exact List.sublist_cons_self _ _), pB (by simp_all), ⟨rfl, rfl, rfl, rfl, rfl, rfl, trivial⟩⟩
            · (try simp only [sd] at g11)
              refine al_stepg rfl rfl rfl rfl (aop_field_ptr fd26 rfl rfl) ?_
              refine al_stepg rfl rfl rfl rfl (aop_load_box1 (i := 1) ty24 rfl rfl rfl) ?_
              refine al_stepg rfl rfl rfl rfl (aop_len el24 rfl) ?_
              refine al_stepg rfl rfl rfl rfl (aop_field_ptr fd26 rfl rfl) ?_
              refine al_stepg rfl rfl rfl rfl (aop_load_box1 (i := 0) ty24 rfl rfl rfl) ?_
              refine al_stepg rfl rfl rfl rfl (aop_len el24 rfl) ?_
              refine al_stepg rfl rfl rfl rfl (aop_cmp rfl rfl rfl) ?_
              refine al_step rfl rfl (aop_pick rfl rfl) ?_
              refine al_end rfl ?_
              exact ⟨rfl, rfl, (by first | exact List.Sublist.refl _ | exact List.sublist_cons_self _ _), pB (by simp_all), ⟨rfl, rfl, rfl, rfl, rfl, rfl, trivial⟩⟩
          · (try simp only [sd] at g10)
            refine al_stepg rfl rfl rfl rfl (aop_field_ptr fd26 rfl rfl) ?_
            refine al_stepg rfl rfl rfl rfl (aop_load_box1 (i := 1) ty23 rfl rfl rfl) ?_
            refine al_stepg rfl rfl rfl rfl (aop_field_ptr fd26 rfl rfl) ?_
            refine al_stepg rfl rfl rfl rfl (aop_load_box1 (i := 0) ty23 rfl rfl rfl) ?_
            refine al_stepg rfl rfl rfl rfl (aop_fun rfl rfl (sameLs_c al bl hn2 hn3) rfl) ?_
            refine al_stepg rfl rfl rfl rfl (aop_not rfl) ?_
            refine al_step rfl rfl (aop_pick rfl rfl) ?_
            refine al_step rfl rfl (aop_move rfl) ?_
            refine al_case 33 rfl (fun g12 => ?_) (fun g12 => ?_)
            · (try simp only [sd] at g12)
              refine al_pass rfl rfl rfl rfl rfl ?_
              refine al_pass rfl rfl rfl rfl rfl ?_
              refine al_pass rfl rfl rfl rfl rfl ?_
              refine al_pass rfl rfl rfl rfl rfl ?_
              refine al_pass rfl rfl rfl rfl rfl ?_
              refine al_pass rfl rfl rfl rfl rfl ?_
              refine al_pass rfl rfl rfl rfl rfl ?_
              refine al_step rfl rfl (aop_pick rfl rfl) ?_
              refine al_end rfl ?_
              exact ⟨rfl, rfl, (by first | exact List.Sublist.refl _ | exact List.sublist_cons_self _ _), pB (by simp_all), ⟨rfl, rfl, rfl, rfl, rfl, rfl, trivial⟩⟩
            · (try simp only [sd] at g12)
              refine al_stepg rfl rfl rfl rfl (aop_field_ptr fd26 rfl rfl) ?_
              refine al_stepg rfl rfl rfl rfl (aop_load_box1 (i := 1) ty24 rfl rfl rfl) ?_
              refine al_stepg rfl rfl rfl rfl (aop_len el24 rfl) ?_
              refine al_stepg rfl rfl rfl rfl (aop_field_ptr fd26 rfl rfl) ?_
              refine al_stepg rfl rfl rfl rfl (aop_load_box1 (i := 0) ty24 rfl rfl rfl) ?_
              refine al_stepg rfl rfl rfl rfl (aop_len el24 rfl) ?_
              refine al_stepg rfl rfl rfl rfl (aop_cmp rfl rfl rfl) ?_
              refine al_step rfl rfl (aop_pick rfl rfl) ?_
              refine al_end rfl ?_
              exact ⟨rfl, rfl, (by first | exact List.Sublist.refl _ | exact List.sublist_cons_self _ _), pB (by simp_all), ⟨rfl, rfl, rfl, rfl, rfl, rfl, trivial⟩⟩
        · (try simp only [sd] at g9)
          refine al_stepg rfl rfl rfl rfl (aop_field_ptr fd26 rfl rfl) ?_
          refine al_stepg rfl rfl rfl rfl (aop_load_box1 (i := 1) ty9 rfl rfl rfl) ?_
          refine al_stepg rfl rfl rfl rfl (aop_field_ptr fd26 rfl rfl) ?_
          refine al_stepg rfl rfl rfl rfl (aop_load_box1 (i := 0) ty9 rfl rfl rfl) ?_
          refine al_stepg rfl rfl rfl rfl (aop_strne rfl rfl) ?_
          refine al_step rfl rfl (aop_pick rfl rfl) ?_
          refine al_step rfl rfl (aop_move rfl) ?_
          refine al_case 25 rfl (fun g13 => ?_) (fun g13 => ?_)
          · (try simp only [sd] at g13)
            refine al_pass rfl rfl rfl rfl rfl ?_
            refine al_pass rfl rfl rfl rfl rfl ?_
            refine al_pass rfl rfl rfl rfl rfl ?_
            refine al_pass rfl rfl rfl rfl rfl ?_
            refine al_pass rfl rfl rfl rfl rfl ?_
            refine al_pass rfl rfl rfl rfl rfl ?_
            refine al_step rfl rfl (aop_pick rfl rfl) ?_
            refine al_step rfl rfl (aop_move rfl) ?_
            refine al_case 33 rfl (fun g14 => ?_) (fun g14 => ?_)
            · (try simp only [sd] at g14)
              refine al_pass rfl rfl rfl rfl rfl ?_
              refine al_pass rfl rfl rfl rfl rfl ?_
              refine al_pass rfl rfl rfl rfl rfl ?_
              refine al_pass rfl rfl rfl rfl rfl ?_
              refine al_pass rfl rfl rfl rfl rfl ?_
              refine al_pass rfl rfl rfl rfl rfl ?_
              refine al_pass rfl rfl rfl rfl rfl ?_
              refine al_step rfl rfl (aop_pick rfl rfl) ?_
              refine al_end rfl ?_
              exact ⟨rfl, rfl, (by first | exact List.Sublist.refl _ | exact List.sublist_cons_self _ _), pB (by simp_all), ⟨rfl, rfl, rfl, rfl, rfl, rfl, trivial⟩⟩
            · (try simp only [sd] at g14)
              refine al_stepg rfl rfl rfl rfl (aop_field_ptr fd26 rfl rfl) ?_
              refine al_stepg rfl rfl rfl rfl (aop_load_box1 (i := 1) ty24 rfl rfl rfl) ?_
              refine al_stepg rfl rfl rfl rfl (aop_len el24 rfl) ?_
              refine al_stepg rfl rfl rfl rfl (aop_field_ptr fd26 rfl rfl) ?_
              refine al_stepg rfl rfl rfl rfl (aop_load_box1 (i := 0) ty24 rfl rfl rfl) ?_
              refine al_stepg rfl rfl rfl rfl (aop_len el24 rfl) ?_
              refine al_stepg rfl rfl rfl rfl (aop_cmp rfl rfl rfl) ?_
              refine al_step rfl rfl (aop_pick rfl rfl) ?_
              refine al_end rfl ?_
              exact ⟨rfl, rfl, (by first | exact List.Sublist.refl _ | exact List.sublist_cons_self _ _), pB (by simp_all), ⟨rfl, rfl, rfl, rfl, rfl, rfl, trivial⟩⟩
          · (try simp only [sd] at g13)
            refine al_stepg rfl rfl rfl rfl (aop_field_ptr fd26 rfl rfl) ?_
            refine al_stepg rfl rfl rfl rfl (aop_load_box1 (i := 1) ty23 rfl rfl rfl) ?_
            refine al_stepg rfl rfl rfl rfl (aop_field_ptr fd26 rfl rfl) ?_
            refine al_stepg rfl rfl rfl rfl (aop_load_box1 (i := 0) ty23 rfl rfl rfl) ?_
            refine al_stepg rfl rfl rfl rfl (aop_fun rfl rfl (sameLs_c al bl hn2 hn3) rfl) ?_
            refine al_stepg rfl rfl rfl rfl (aop_not rfl) ?_
            refine al_step rfl rfl (aop_pick rfl rfl) ?_
            refine al_step rfl rfl (aop_move rfl) ?_
            refine al_case 33 rfl (fun g15 => ?_) (fun g15 => ?_)
            · (try simp only [sd] at g15)
              refine al_pass rfl rfl rfl rfl rfl ?_
              refine al_pass rfl rfl rfl rfl rfl ?_
              refine al_pass rfl rfl rfl rfl rfl ?_
              refine al_pass rfl rfl rfl rfl rfl ?_
              refine al_pass rfl rfl rfl rfl rfl ?_
              refine al_pass rfl rfl rfl rfl rfl ?_
              refine al_pass rfl rfl rfl rfl rfl ?_
              refine al_step rfl rfl (aop_pick rfl rfl) ?_
              refine al_end rfl ?_
              exact ⟨rfl, rfl, (by first | exact List.Sublist.refl _ | exact List.sublist_cons_self _ _), pB (by simp_all), ⟨rfl, rfl, rfl, rfl, rfl, rfl, trivial⟩⟩
            · (try simp only [sd] at g15)
              refine al_stepg rfl rfl rfl rfl (aop_field_ptr fd26 rfl rfl) ?_
              refine al_stepg rfl rfl rfl rfl (aop_load_box1 (i := 1) ty24 rfl rfl rfl) ?_
              refine al_stepg rfl rfl rfl rfl (aop_len el24 rfl) ?_
              refine al_stepg rfl rfl rfl rfl (aop_field_ptr fd26 rfl rfl) ?_
              refine al_stepg rfl rfl rfl rfl (aop_load_box1 (i := 0) ty24 rfl rfl rfl) ?_
              refine al_stepg rfl rfl rfl rfl (aop_len el24 rfl) ?_
              refine al_stepg rfl rfl rfl rfl (aop_cmp rfl rfl rfl) ?_
              refine al_step rfl rfl (aop_pick rfl rfl) ?_
              refine al_end rfl ?_
              exact ⟨rfl, rfl, (by first | exact List.Sublist.refl _ | exact List.sublist_cons_self _ _), pB (by simp_all), ⟨rfl, rfl, rfl, rfl, rfl, rfl, trivial⟩⟩
    rintro _ rfl
    refine awp_cond rfl (fun c16 => ?_) (fun c16 => ?_)
    · (try simp only [sd] at c16)
      refine awp_seq ?_
      refine awp_region ?_
      refine al_step rfl rfl (aop_assign rfl) ?_
      refine al_end rfl ?_
      refine awp_ret ?_
      refine ⟨rfl, _, [], res_tmp rfl, List.nil_sublist _, ?_⟩
      exact ⟨pB (eqB_false (fun h => by simp at h; simp [h, eqB_true] at *)).symm, rfl⟩
    · (try simp only [sd] at c16)
      have h1 : ak = bk ∧ ai = bi ∧ an.toList = bn.toList ∧ al = bl ∧ aks.length = bks.length := by simp [encTs_len, eqB_iff] at c16; obtain ⟨⟨⟨⟨e1, e2⟩, e3⟩, e4⟩, e5⟩ := c16; exact ⟨e1, e2, e3, e4, by omega⟩
      refine awp_skip ?_
      refine awp_seq ?_
      refine awp_seq ?_
      refine awp_region ?_
      refine al_step rfl rfl (aop_assign rfl) ?_
      refine al_end rfl ?_
      refine awp_block ?_
      refine awp_forC (aks.length) (fun i => agree aks bks i) (fun i => ⟨61, mk [(2, .ptr b2 0), (3, .ptr b3 0), (5, .p (I i))], [.box b3 ((encT (.mk bk bi bn bl bks)).map .p), .box b2 ((encT (.mk ak ai an al aks)).map .p)], []⟩) (0) (by omega) (agree_zero _ _) ?_ ?_
      · exact le_mk ⟨rfl, rfl, rfl, trivial⟩ (by first | exact List.Sublist.refl _ | exact .cons _ (.refl _) | exact .cons _ (.cons _ (.refl _)) | exact .cons _ (.cons _ (.cons _ (.refl _))) | exact .cons _ (.cons _ (.cons _ (.cons _ (.refl _)))))
      intro i hi hC
      refine awp_seq ?_
      refine awp_seq ?_
      refine awp_region ?_
      refine al_step rfl rfl (aop_move rfl) ?_
      refine al_step rfl rfl (aop_field_ptr fd26 rfl rfl) ?_
      refine al_step rfl rfl (aop_load_box1 (i := 1) ty24 rfl rfl rfl) ?_
      refine al_step rfl rfl (aop_len el24 rfl) ?_
      refine al_step rfl rfl (aop_cmp rfl rfl rfl) ?_
      refine al_end rfl ?_
      refine awp_cond rfl (fun c17 => ?_) (fun c17 => ?_)
      · (try simp only [sd] at c17)
        have hi2 : i < aks.length := by simp [encTs_len] at c17; omega
        obtain ⟨x, hx⟩ := getElem?_of_lt hi2
        obtain ⟨y, hy⟩ := getElem?_of_lt (l := bks) (i := i) (by omega)
        refine awp_skip ?_
        refine awp_seq ?_
        refine awp_block ?_
        refine awp_seq ?_
        refine awp_dr (fun k => false) mx0 ?_
        refine dr_free rfl rfl (fun _ => aop_field_ptr fd26 rfl rfl) trivial ?_
        refine dr_read (j := 1) rfl rfl rfl (fun H i hi => aop_load_box1 (i := i) ty24 rfl hi rfl) (by repeat' first | exact trivial | refine And.intro ?_ ?_ | exact Or.inl (by kernel_rfl) | (refine Or.inr (And.intro ?_ ?_) <;> repeat (first | exact List.Mem.head _ | apply List.Mem.tail))) trivial ?_
        refine dr_free rfl rfl (fun _ => aop_move rfl) trivial ?_
        refine dr_free rfl rfl (fun _ => aop_index_lst el24 rfl rfl (by omega) (encTs_get hx) (encT_len _)) trivial ?_
        refine dr_free rfl rfl (fun _ => aop_load_ref ty26 rfl (encT_len _)) trivial ?_
        refine dr_free rfl rfl (fun _ => aop_field_ptr fd26 rfl rfl) trivial ?_
        refine dr_read (j := 0) rfl rfl rfl (fun H i hi => aop_load_box1 (i := i) ty24 rfl hi rfl) (by repeat' first | exact trivial | refine And.intro ?_ ?_ | exact Or.inl (by kernel_rfl) | (refine Or.inr (And.intro ?_ ?_) <;> repeat (first | exact List.Mem.head _ | apply List.Mem.tail))) trivial ?_
        refine dr_free rfl rfl (fun _ => aop_move rfl) trivial ?_
        refine dr_free rfl rfl (fun _ => aop_index_lst el24 rfl rfl (by omega) (encTs_get hy) (encT_len _)) trivial ?_
        refine dr_free rfl rfl (fun _ => aop_load_ref ty26 rfl (encT_len _)) trivial ?_
        refine dr_free rfl rfl (fun _ => aop_fun rfl rfl (ih x y (by have := size_mem hx; omega) (Nds_mem hn5 hx)) rfl) trivial ?_
        refine dr_free rfl rfl (fun _ => aop_not rfl) trivial ?_
        refine dr_end rfl (by kernel_rfl) ?_
        refine awp_cond rfl (fun c18 => ?_) (fun c18 => ?_)
        · (try simp only [sd] at c18)
          refine awp_seq ?_
          refine awp_region ?_
          refine al_step rfl rfl (aop_assign rfl) ?_
          refine al_end rfl ?_
          refine awp_ret ?_
          refine ⟨rfl, _, [], res_tmp rfl, List.nil_sublist _, ?_⟩
          exact ⟨pB (eqB_false (fun h => by simp at h; obtain ⟨_, _, _, _, rfl⟩ := h; rw [hx] at hy; injection hy with hy; subst hy; simp [eqB_true] at *)).symm, rfl⟩
        · (try simp only [sd] at c18)
          have hxy : x = y := eqB_iff.1 (by simpa using c18)
          subst hxy
          refine awp_skip ?_
          refine awp_region ?_
          refine al_step rfl rfl (aop_move rfl) ?_
          refine al_step rfl rfl (aop_add rfl rfl (by omega) (by omega)) ?_
          refine al_step rfl rfl (aop_assign rfl) ?_
          refine al_end rfl ?_
          exact ⟨by omega, agree_succ hC hx hy, le_mk ⟨rfl, rfl, rfl, trivial⟩ (by first | exact List.Sublist.refl _ | exact .cons _ (.refl _) | exact .cons _ (.cons _ (.refl _)) | exact .cons _ (.cons _ (.cons _ (.refl _))) | exact .cons _ (.cons _ (.cons _ (.cons _ (.refl _)))))⟩
      · (try simp only [sd] at c17)
        have hi2 : i = aks.length := by simp [encTs_len] at c17; omega
        refine awp_exit ?_
        refine awp_seq ?_
        refine awp_region ?_
        refine al_step rfl rfl (aop_assign rfl) ?_
        refine al_end rfl ?_
        refine awp_ret ?_
        refine ⟨rfl, _, [], res_tmp rfl, List.nil_sublist _, ?_⟩
        exact ⟨pB (eqB_true (by obtain ⟨e1, e2, e3, e4, e5⟩ := h1; rw [e1, e2, e4, bytes_eq e3, agree_all hC (by omega) (by omega)])).symm, rfl⟩

end Go.Proofs.Ytgfecpjmbgcobaa
