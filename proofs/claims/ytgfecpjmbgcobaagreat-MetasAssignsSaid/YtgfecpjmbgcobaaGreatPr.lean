/- Part of the proofs about metavariables: an abstract program logic, plain models and contracts of functions. -/
import Derived.Test.YtgfecpjmbgcobaaGreatPq
import Derived.Test.YtgfecpjmbgcobaaGreatPh
/- Contracts of functions of the program. -/
namespace Go.Proofs.YtgfecpjmbgcobaaGreat
open Go.Abs Go.Eu
set_option linter.unusedVariables false
set_option linter.unusedSimpArgs false
set_option maxRecDepth 100000
set_option maxHeartbeats 2000000 in
theorem awake_c : Fun Tryz.prog 8 [] (.p (.bool true)) := by
  obtain ⟨x, hx⟩ := getElem?_of_lt (l := awMore) (i := 2) (by decide)
  obtain ⟨xy, xn, xv, xc⟩ := x
  obtain ⟨xyk, xyi, xyn, xyl, xys⟩ := xy
  obtain ⟨xvk, xvi, xvn, xvl, xvs⟩ := xv
  refine acalls_of_awp Tryz.func8 rfl en8 (n := 169) rfl rfl ?_
  refine awp_seq ?_
  refine awp_le (M := ⟨169, mk [], [], []⟩) (le_mk trivial (List.Sublist.refl _)) ?_
  refine awp_region ?_
  refine al_step rfl rfl (aop_assign rfl) ?_
  refine al_end rfl ?_
  refine awp_seq ?_
  refine awp_le (M := ⟨169, mk [], [], []⟩) (le_mk trivial (List.Sublist.refl _)) ?_
  refine awp_region ?_
  refine al_step rfl rfl (aop_assign rfl) ?_
  refine al_end rfl ?_
  refine awp_seq ?_
  refine awp_le (M := ⟨169, mk [(1, .p (.fn 19))], [], []⟩) (le_mk ⟨rfl, trivial⟩ (List.Sublist.refl _)) ?_
  refine awp_region ?_
  refine al_step rfl rfl (aop_assign rfl) ?_
  refine al_end rfl ?_
  refine awp_seq ?_
  refine awp_le (M := ⟨169, mk [(1, .p (.fn 19)), (2, .p (.fn 20))], [], []⟩) (le_mk ⟨rfl, rfl, trivial⟩ (List.Sublist.refl _)) ?_
  refine awp_region ?_
  refine al_step rfl rfl (aop_build fd26 zr26 rfl) ?_
  refine al_new rfl rfl (aop_alloc zr26 rfl) fun b3 => ?_
  refine al_step rfl rfl (aop_store_box (i := 0) ty26 rfl rfl rfl rfl rfl rfl) ?_
  refine al_end rfl ?_
  refine awp_seq ?_
  refine awp_le (M := ⟨169, mk [(1, .p (.fn 19)), (2, .p (.fn 20)), (3, .ptr b3 0)], [.box b3 [.p (I 3), .p (I 0), .p (.str ⟨#[78, 97, 116]⟩), .p (.nils), .p (.nils)]], []⟩) (le_mk ⟨rfl, rfl, rfl, trivial⟩ (List.Sublist.refl _)) ?_
  refine awp_region ?_
  refine al_step rfl rfl (aop_assign rfl) ?_
  refine al_end rfl ?_
  refine awp_seq ?_
  refine awp_le (M := ⟨169, mk [(1, .p (.fn 19)), (2, .p (.fn 20)), (3, .ptr b3 0), (4, .p (.fn 22))], [.box b3 [.p (I 3), .p (I 0), .p (.str ⟨#[78, 97, 116]⟩), .p (.nils), .p (.nils)]], []⟩) (le_mk ⟨rfl, rfl, rfl, rfl, trivial⟩ (List.Sublist.refl _)) ?_
  refine awp_dr (fun k => false) mx0 ?_
  refine dr_read (j := 0) rfl rfl rfl (fun H i hi => aop_load_box (i := i) ty26 rfl hi rfl) (by repeat' first | exact trivial | refine And.intro ?_ ?_ | ((refine Or.inr (And.intro ?_ ?_) <;> repeat (first | exact List.Mem.head _ | apply List.Mem.tail)); done) | exact Or.inl (by kernel_rfl)) trivial ?_
  refine dr_read (j := 0) rfl rfl rfl (fun H i hi => aop_load_box (i := i) ty26 rfl hi rfl) (by repeat' first | exact trivial | refine And.intro ?_ ?_ | ((refine Or.inr (And.intro ?_ ?_) <;> repeat (first | exact List.Mem.head _ | apply List.Mem.tail)); done) | exact Or.inl (by kernel_rfl)) trivial ?_
  refine dr_free rfl rfl (fun _ => aop_move rfl) trivial ?_
  refine dr_free rfl rfl (fun _ => aop_move rfl) trivial ?_
  refine dr_free rfl rfl (fun _ => aop_move rfl) trivial ?_
  refine dr_free rfl rfl (fun _ => aop_fun rfl rfl (aw1_c 0) rfl) trivial ?_
  refine dr_free rfl rfl (fun _ => aop_buildSlice el24 zr26 rfl rfl rfl rfl rfl) trivial ?_
  refine dr_free rfl rfl (fun _ => aop_fun rfl rfl (mt1_0_c ) rfl) trivial ?_
  refine dr_free rfl rfl (fun _ => aop_fun rfl rfl (sc1_0_c ) rfl) trivial ?_
  refine dr_free rfl rfl (fun _ => aop_buildSlice el24 zr26 rfl rfl rfl rfl rfl) trivial ?_
  refine dr_free rfl rfl (fun _ => aop_build fd26 zr26 rfl) trivial ?_
  refine dr_free rfl rfl (fun _ => aop_build fd44 zr44 rfl) trivial ?_
  refine dr_read (j := 0) rfl rfl rfl (fun H i hi => aop_load_box (i := i) ty26 rfl hi rfl) (by repeat' first | exact trivial | refine And.intro ?_ ?_ | ((refine Or.inr (And.intro ?_ ?_) <;> repeat (first | exact List.Mem.head _ | apply List.Mem.tail)); done) | exact Or.inl (by kernel_rfl)) trivial ?_
  refine dr_free rfl rfl (fun _ => aop_build fd44 zr44 rfl) trivial ?_
  refine dr_free rfl rfl (fun _ => aop_buildSlice el22 zr44 rfl rfl rfl rfl rfl) trivial ?_
  refine dr_free rfl rfl (fun _ => aop_assign rfl) trivial ?_
  refine dr_end rfl (by kernel_rfl) ?_
  refine awp_seq ?_
  refine awp_le (M := ⟨169, mk [(1, .p (.fn 19)), (2, .p (.fn 20)), (4, .p (.fn 22)), (5, .p (.lst (List.map encM ([(Mv.mk (.mk 3 0 ⟨#[78, 97, 116]⟩ [] [] : Tm) true (.mk 5 0 ⟨#[]⟩ [] ([(.mk 3 0 ⟨#[78, 97, 116]⟩ [] [] : Tm), (.mk 4 0 ⟨#[]⟩ [] ([(.mk 3 0 ⟨#[115, 117, 99, 99]⟩ [] [] : Tm), (.mk 4 0 ⟨#[]⟩ [] [(.mk 12 1 ⟨#[]⟩ [] [] : Tm), (.mk 0 0 ⟨#[]⟩ [] [] : Tm)] : Tm)]) : Tm)]) : Tm) false), (Mv.mk (.mk 3 0 ⟨#[78, 97, 116]⟩ [] [] : Tm) false (.mk 0 0 ⟨#[]⟩ [] [] : Tm) false)]))))], [.box b3 [.p (I 3), .p (I 0), .p (.str ⟨#[78, 97, 116]⟩), .p (.nils), .p (.nils)]], []⟩) (le_mk ⟨rfl, rfl, rfl, rfl, trivial⟩ (List.Sublist.refl _)) ?_
  refine awp_region ?_
  refine al_step rfl rfl (aop_move rfl) ?_
  refine al_step rfl rfl (aop_move rfl) ?_
  refine al_step rfl rfl (aop_move rfl) ?_
  refine al_step rfl rfl (aop_fun rfl rfl (aw1_c 3) rfl) ?_
  refine al_step rfl rfl (aop_buildSlice el24 zr26 rfl rfl rfl rfl rfl) ?_
  refine al_step rfl rfl (aop_fun rfl rfl (mt0_3_c ) rfl) ?_
  refine al_step rfl rfl (aop_fun rfl rfl (fillAw_c ) rfl) ?_
  refine al_step rfl rfl (aop_move rfl) ?_
  refine al_step rfl rfl (aop_extract rfl rfl) ?_
  refine al_step rfl rfl (aop_extract rfl rfl) ?_
  refine al_new rfl rfl (aop_alloc zr26 rfl) fun b6 => ?_
  refine al_step rfl rfl (aop_store_whole (i := 0) ty26 rfl rfl rfl (by simp [encT_len]) (by first | rfl | simp [encT_len]) (one_Tm _)) ?_
  refine al_step rfl rfl (aop_assign rfl) ?_
  refine al_end rfl ?_
  refine awp_seq ?_
  refine awp_le (M := ⟨169, mk [(1, .p (.fn 19)), (2, .p (.fn 20)), (4, .p (.fn 22)), (5, .p (.lst (List.map encM ([(Mv.mk (.mk 3 0 ⟨#[78, 97, 116]⟩ [] [] : Tm) true (.mk 5 0 ⟨#[]⟩ [] ([(.mk 3 0 ⟨#[78, 97, 116]⟩ [] [] : Tm), (.mk 4 0 ⟨#[]⟩ [] ([(.mk 3 0 ⟨#[115, 117, 99, 99]⟩ [] [] : Tm), (.mk 4 0 ⟨#[]⟩ [] [(.mk 12 1 ⟨#[]⟩ [] [] : Tm), (.mk 0 0 ⟨#[]⟩ [] [] : Tm)] : Tm)]) : Tm)]) : Tm) false), (Mv.mk (.mk 3 0 ⟨#[78, 97, 116]⟩ [] [] : Tm) false (.mk 0 0 ⟨#[]⟩ [] [] : Tm) false)])))), (6, .ptr b6 0), (7, .p (I 0))], [.box b6 ((encT awR).map .p), .box b3 [.p (I 3), .p (I 0), .p (.str ⟨#[78, 97, 116]⟩), .p (.nils), .p (.nils)]], []⟩) (le_mk ⟨rfl, rfl, rfl, rfl, rfl, rfl, trivial⟩ (List.Sublist.refl _)) ?_
  refine awp_region ?_
  refine al_step rfl rfl (aop_move rfl) ?_
  refine al_step rfl rfl (aop_move rfl) ?_
  refine al_step rfl rfl (aop_move rfl) ?_
  refine al_step rfl rfl (aop_fun rfl rfl (aw1_c 3) rfl) ?_
  refine al_step rfl rfl (aop_buildSlice el24 zr26 rfl rfl rfl rfl rfl) ?_
  refine al_step rfl rfl (aop_fun rfl rfl (mt0_3_c ) rfl) ?_
  refine al_step rfl rfl (aop_fun rfl rfl (unkAw_c ) rfl) ?_
  refine al_step rfl rfl (aop_move rfl) ?_
  refine al_step rfl rfl (aop_extract rfl rfl) ?_
  refine al_step rfl rfl (aop_extract rfl rfl) ?_
  refine al_step rfl rfl (aop_assign rfl) ?_
  refine al_step rfl rfl (aop_assign rfl) ?_
  refine al_end rfl ?_
  refine awp_seq ?_
  refine awp_le (M := ⟨169, mk [(1, .p (.fn 19)), (2, .p (.fn 20)), (4, .p (.fn 22)), (5, .p (.lst (List.map encM ([(Mv.mk (.mk 3 0 ⟨#[78, 97, 116]⟩ [] [] : Tm) true (.mk 5 0 ⟨#[]⟩ [] ([(.mk 3 0 ⟨#[78, 97, 116]⟩ [] [] : Tm), (.mk 4 0 ⟨#[]⟩ [] ([(.mk 3 0 ⟨#[115, 117, 99, 99]⟩ [] [] : Tm), (.mk 4 0 ⟨#[]⟩ [] [(.mk 12 1 ⟨#[]⟩ [] [] : Tm), (.mk 0 0 ⟨#[]⟩ [] [] : Tm)] : Tm)]) : Tm)]) : Tm) false), (Mv.mk (.mk 3 0 ⟨#[78, 97, 116]⟩ [] [] : Tm) false (.mk 0 0 ⟨#[]⟩ [] [] : Tm) false)])))), (6, .ptr b6 0), (7, .p (I 0)), (8, .p (.lst (List.map encI [1]))), (9, .p (I 0))], [.box b6 ((encT awR).map .p), .box b3 [.p (I 3), .p (I 0), .p (.str ⟨#[78, 97, 116]⟩), .p (.nils), .p (.nils)]], []⟩) (le_mk ⟨rfl, rfl, rfl, rfl, rfl, rfl, rfl, rfl, trivial⟩ (List.Sublist.refl _)) ?_
  refine awp_region ?_
  refine al_step rfl rfl (aop_move rfl) ?_
  refine al_step rfl rfl (aop_move rfl) ?_
  refine al_step rfl rfl (aop_fun rfl rfl (aw1_c 0) rfl) ?_
  refine al_step rfl rfl (aop_move rfl) ?_
  refine al_step rfl rfl (aop_fun rfl rfl (aw1_c 2) rfl) ?_
  refine al_step rfl rfl (aop_buildSlice el24 zr26 rfl rfl rfl rfl rfl) ?_
  refine al_step rfl rfl (aop_fun rfl rfl (mt1_02_c ) rfl) ?_
  refine al_step rfl rfl (aop_fun rfl rfl (pat1Aw_c ) rfl) ?_
  refine al_step rfl rfl (aop_move rfl) ?_
  refine al_step rfl rfl (aop_extract rfl rfl) ?_
  refine al_step rfl rfl (aop_extract rfl rfl) ?_
  refine al_step rfl rfl (aop_extract rfl rfl) ?_
  refine al_step rfl rfl (aop_assign rfl) ?_
  refine al_step rfl rfl (aop_assign rfl) ?_
  refine al_step rfl rfl (aop_assign rfl) ?_
  refine al_end rfl ?_
  refine awp_seq ?_
  refine awp_le (M := ⟨169, mk [(1, .p (.fn 19)), (2, .p (.fn 20)), (4, .p (.fn 22)), (5, .p (.lst (List.map encM ([(Mv.mk (.mk 3 0 ⟨#[78, 97, 116]⟩ [] [] : Tm) true (.mk 5 0 ⟨#[]⟩ [] ([(.mk 3 0 ⟨#[78, 97, 116]⟩ [] [] : Tm), (.mk 4 0 ⟨#[]⟩ [] ([(.mk 3 0 ⟨#[115, 117, 99, 99]⟩ [] [] : Tm), (.mk 4 0 ⟨#[]⟩ [] [(.mk 12 1 ⟨#[]⟩ [] [] : Tm), (.mk 0 0 ⟨#[]⟩ [] [] : Tm)] : Tm)]) : Tm)]) : Tm) false), (Mv.mk (.mk 3 0 ⟨#[78, 97, 116]⟩ [] [] : Tm) false (.mk 0 0 ⟨#[]⟩ [] [] : Tm) false)])))), (6, .ptr b6 0), (7, .p (I 0)), (8, .p (.lst (List.map encI [1]))), (9, .p (I 0)), (10, .p (I 1)), (11, .p (.lst (List.map encI [0, 2]))), (12, .p (.bool true))], [.box b6 ((encT awR).map .p), .box b3 [.p (I 3), .p (I 0), .p (.str ⟨#[78, 97, 116]⟩), .p (.nils), .p (.nils)]], []⟩) (le_mk ⟨rfl, rfl, rfl, rfl, rfl, rfl, rfl, rfl, rfl, rfl, rfl, trivial⟩ (List.Sublist.refl _)) ?_
  refine awp_region ?_
  refine al_step rfl rfl (aop_move rfl) ?_
  refine al_step rfl rfl (aop_move rfl) ?_
  refine al_step rfl rfl (aop_fun rfl rfl (aw1_c 0) rfl) ?_
  refine al_step rfl rfl (aop_move rfl) ?_
  refine al_step rfl rfl (aop_fun rfl rfl (aw1_c 0) rfl) ?_
  refine al_step rfl rfl (aop_buildSlice el24 zr26 rfl rfl rfl rfl rfl) ?_
  refine al_step rfl rfl (aop_fun rfl rfl (mt1_00_c ) rfl) ?_
  refine al_step rfl rfl (aop_fun rfl rfl (pat2Aw_c ) rfl) ?_
  refine al_step rfl rfl (aop_move rfl) ?_
  refine al_step rfl rfl (aop_extract rfl rfl) ?_
  refine al_step rfl rfl (aop_extract rfl rfl) ?_
  refine al_step rfl rfl (aop_extract rfl rfl) ?_
  refine al_step rfl rfl (aop_assign rfl) ?_
  refine al_step rfl rfl (aop_assign rfl) ?_
  refine al_step rfl rfl (aop_assign rfl) ?_
  refine al_end rfl ?_
  refine awp_seq ?_
  refine awp_le (M := ⟨169, mk [(1, .p (.fn 19)), (2, .p (.fn 20)), (4, .p (.fn 22)), (5, .p (.lst (List.map encM ([(Mv.mk (.mk 3 0 ⟨#[78, 97, 116]⟩ [] [] : Tm) true (.mk 5 0 ⟨#[]⟩ [] ([(.mk 3 0 ⟨#[78, 97, 116]⟩ [] [] : Tm), (.mk 4 0 ⟨#[]⟩ [] ([(.mk 3 0 ⟨#[115, 117, 99, 99]⟩ [] [] : Tm), (.mk 4 0 ⟨#[]⟩ [] [(.mk 12 1 ⟨#[]⟩ [] [] : Tm), (.mk 0 0 ⟨#[]⟩ [] [] : Tm)] : Tm)]) : Tm)]) : Tm) false), (Mv.mk (.mk 3 0 ⟨#[78, 97, 116]⟩ [] [] : Tm) false (.mk 0 0 ⟨#[]⟩ [] [] : Tm) false)])))), (6, .ptr b6 0), (7, .p (I 0)), (8, .p (.lst (List.map encI [1]))), (9, .p (I 0)), (10, .p (I 1)), (11, .p (.lst (List.map encI [0, 2]))), (12, .p (.bool true)), (15, .p (.bool false))], [.box b6 ((encT awR).map .p), .box b3 [.p (I 3), .p (I 0), .p (.str ⟨#[78, 97, 116]⟩), .p (.nils), .p (.nils)]], []⟩) (le_mk ⟨rfl, rfl, rfl, rfl, rfl, rfl, rfl, rfl, rfl, rfl, rfl, rfl, trivial⟩ (List.Sublist.refl _)) ?_
  refine awp_region ?_
  refine al_step rfl rfl (aop_build fd49 zr49 rfl) ?_
  refine al_step rfl rfl (aop_buildSlice el23 zr49 rfl rfl rfl rfl rfl) ?_
  refine al_step rfl rfl (aop_build fd26 zr26 rfl) ?_
  refine al_new rfl rfl (aop_alloc zr26 rfl) fun b16 => ?_
  refine al_step rfl rfl (aop_store_box (i := 0) ty26 rfl rfl rfl rfl rfl rfl) ?_
  refine al_end rfl ?_
  refine awp_seq ?_
  refine awp_le (M := ⟨169, mk [(1, .p (.fn 19)), (2, .p (.fn 20)), (4, .p (.fn 22)), (5, .p (.lst (List.map encM ([(Mv.mk (.mk 3 0 ⟨#[78, 97, 116]⟩ [] [] : Tm) true (.mk 5 0 ⟨#[]⟩ [] ([(.mk 3 0 ⟨#[78, 97, 116]⟩ [] [] : Tm), (.mk 4 0 ⟨#[]⟩ [] ([(.mk 3 0 ⟨#[115, 117, 99, 99]⟩ [] [] : Tm), (.mk 4 0 ⟨#[]⟩ [] [(.mk 12 1 ⟨#[]⟩ [] [] : Tm), (.mk 0 0 ⟨#[]⟩ [] [] : Tm)] : Tm)]) : Tm)]) : Tm) false), (Mv.mk (.mk 3 0 ⟨#[78, 97, 116]⟩ [] [] : Tm) false (.mk 0 0 ⟨#[]⟩ [] [] : Tm) false)])))), (6, .ptr b6 0), (7, .p (I 0)), (8, .p (.lst (List.map encI [1]))), (9, .p (I 0)), (10, .p (I 1)), (11, .p (.lst (List.map encI [0, 2]))), (12, .p (.bool true)), (15, .p (.bool false)), (16, .ptr b16 0)], [.box b16 [.p (I 2), .p (I 0), .p (.str ⟨#[]⟩), .p (.lst (List.map encL ([(Lvl.mk 0 [])]))), .p (.nils)], .box b6 ((encT awR).map .p), .box b3 [.p (I 3), .p (I 0), .p (.str ⟨#[78, 97, 116]⟩), .p (.nils), .p (.nils)]], []⟩) (le_mk ⟨rfl, rfl, rfl, rfl, rfl, rfl, rfl, rfl, rfl, rfl, rfl, rfl, rfl, trivial⟩ (List.Sublist.refl _)) ?_
  refine awp_dr (fun k => Nat.beq k 12) mx0 ?_
  refine dr_free rfl rfl (fun _ => aop_move rfl) trivial ?_
  refine dr_read (j := 0) rfl rfl rfl (fun H i hi => aop_load_box (i := i) ty26 rfl hi rfl) (by repeat' first | exact trivial | refine And.intro ?_ ?_ | ((refine Or.inr (And.intro ?_ ?_) <;> repeat (first | exact List.Mem.head _ | apply List.Mem.tail)); done) | exact Or.inl (by kernel_rfl)) trivial ?_
  refine dr_free rfl rfl (fun _ => aop_move rfl) trivial ?_
  refine dr_free rfl rfl (fun _ => aop_fun rfl rfl (aw1_c 0) rfl) trivial ?_
  refine dr_free rfl rfl (fun _ => aop_buildSlice el24 zr26 rfl rfl rfl rfl rfl) trivial ?_
  refine dr_free rfl rfl (fun _ => aop_move rfl) trivial ?_
  refine dr_free rfl rfl (fun _ => aop_fun rfl rfl (aw1_c 1) rfl) trivial ?_
  refine dr_free rfl rfl (fun _ => aop_fun rfl rfl (newAw_c ) rfl) trivial ?_
  refine dr_free rfl rfl (fun _ => aop_move rfl) trivial ?_
  refine dr_free rfl rfl (fun _ => aop_extract rfl rfl) trivial ?_
  refine dr_free rfl rfl (fun _ => aop_extract rfl rfl) trivial ?_
  refine dr_free rfl rfl (fun _ => aop_extract rfl rfl) trivial ?_
  refine dr_new [] rfl rfl (aop_alloc zr26 rfl) (by kernel_rfl) fun b18 => ⟨(by repeat' first | exact trivial | refine And.intro ?_ ?_ | ((refine Or.inr (And.intro ?_ ?_) <;> repeat (first | exact List.Mem.head _ | apply List.Mem.tail)); done) | exact Or.inl (by kernel_rfl)), trivial, ?_⟩
  refine dr_free rfl rfl (fun _ => aop_assign rfl) trivial ?_
  refine dr_eff rfl rfl (aop_store_whole (i := 0) ty26 rfl rfl rfl (by simp [encT_len]) (by first | rfl | simp [encT_len]) (one_Tm _)) (by repeat' first | exact trivial | refine And.intro ?_ ?_ | ((refine Or.inr (And.intro ?_ ?_) <;> repeat (first | exact List.Mem.head _ | apply List.Mem.tail)); done) | exact Or.inl (by kernel_rfl)) trivial ?_
  refine dr_free rfl rfl (fun _ => aop_assign rfl) trivial ?_
  refine dr_end rfl (by kernel_rfl) ?_
  refine awp_seq ?_
  refine awp_seq ?_
  refine awp_le (M := ⟨169, mk [(1, .p (.fn 19)), (2, .p (.fn 20)), (4, .p (.fn 22)), (6, .ptr b6 0), (7, .p (I 0)), (8, .p (.lst (List.map encI [1]))), (9, .p (I 0)), (10, .p (I 1)), (11, .p (.lst (List.map encI [0, 2]))), (12, .p (.bool true)), (15, .p (.bool false)), (16, .ptr b16 0), (17, .p (.lst (List.map encM awMore))), (18, .ptr b18 0), (19, .p (I 0))], [.box b18 ((encT awUse).map .p), .box b16 [.p (I 2), .p (I 0), .p (.str ⟨#[]⟩), .p (.lst (List.map encL ([(Lvl.mk 0 [])]))), .p (.nils)], .box b6 ((encT awR).map .p), .box b3 [.p (I 3), .p (I 0), .p (.str ⟨#[78, 97, 116]⟩), .p (.nils), .p (.nils)]], []⟩) (le_mk ⟨rfl, rfl, rfl, rfl, rfl, rfl, rfl, rfl, rfl, rfl, rfl, rfl, rfl, rfl, rfl, trivial⟩ (List.Sublist.refl _)) ?_
  refine awp_region ?_
  refine al_step rfl rfl (aop_move rfl) ?_
  refine al_step rfl rfl (aop_lenE el22 rfl (List.length_map _)) ?_
  refine al_step rfl rfl (aop_cmp rfl rfl rfl) ?_
  refine al_end rfl ?_
  refine awp_cond rfl (fun c => ?_) (fun c => ?_)
  · (try simp only [sd, se] at c)
    exact absurd c (by decide)
  · (try simp only [sd, se] at c)
    refine awp_skip ?_
    refine awp_seq ?_
    refine awp_le (M := ⟨169, mk [(1, .p (.fn 19)), (2, .p (.fn 20)), (4, .p (.fn 22)), (6, .ptr b6 0), (7, .p (I 0)), (8, .p (.lst (List.map encI [1]))), (9, .p (I 0)), (10, .p (I 1)), (11, .p (.lst (List.map encI [0, 2]))), (12, .p (.bool true)), (15, .p (.bool false)), (16, .ptr b16 0), (17, .p (.lst (List.map encM awMore))), (18, .ptr b18 0), (19, .p (I 0))], [.box b18 ((encT awUse).map .p), .box b16 [.p (I 2), .p (I 0), .p (.str ⟨#[]⟩), .p (.lst (List.map encL ([(Lvl.mk 0 [])]))), .p (.nils)], .box b6 ((encT awR).map .p), .box b3 [.p (I 3), .p (I 0), .p (.str ⟨#[78, 97, 116]⟩), .p (.nils), .p (.nils)]], []⟩) (le_mk ⟨rfl, rfl, rfl, rfl, rfl, rfl, rfl, rfl, rfl, rfl, rfl, rfl, rfl, rfl, rfl, trivial⟩ (List.Sublist.refl _)) ?_
    refine awp_dr (fun k => Nat.beq k 9) mx0 ?_
    refine dr_read (j := 1) rfl rfl rfl (fun H i hi => aop_load_box (i := i) ty26 rfl hi rfl) (by repeat' first | exact trivial | refine And.intro ?_ ?_ | ((refine Or.inr (And.intro ?_ ?_) <;> repeat (first | exact List.Mem.head _ | apply List.Mem.tail)); done) | exact Or.inl (by kernel_rfl)) trivial ?_
    refine dr_free rfl rfl (fun _ => aop_move rfl) trivial ?_
    refine dr_free rfl rfl (fun _ => aop_fun rfl rfl (aw1_c 0) rfl) trivial ?_
    refine dr_free rfl rfl (fun _ => aop_move rfl) trivial ?_
    refine dr_free rfl rfl (fun _ => aop_fun rfl rfl (aw1_c 1) rfl) trivial ?_
    refine dr_free rfl rfl (fun _ => aop_buildSlice el24 zr26 rfl rfl rfl rfl rfl) trivial ?_
    refine dr_free rfl rfl (fun _ => aop_build fd26 zr26 rfl) trivial ?_
    refine dr_free rfl rfl (fun _ => aop_buildSlice el24 zr26 rfl rfl rfl rfl rfl) trivial ?_
    refine dr_free rfl rfl (fun _ => aop_build fd26 zr26 rfl) trivial ?_
    refine dr_new [] rfl rfl (aop_alloc zr26 rfl) (by kernel_rfl) fun b20 => ⟨(by repeat' first | exact trivial | refine And.intro ?_ ?_ | ((refine Or.inr (And.intro ?_ ?_) <;> repeat (first | exact List.Mem.head _ | apply List.Mem.tail)); done) | exact Or.inl (by kernel_rfl)), trivial, ?_⟩
    refine dr_eff rfl rfl (aop_store_box (i := 0) ty26 rfl rfl rfl rfl rfl rfl) (by repeat' first | exact trivial | refine And.intro ?_ ?_ | ((refine Or.inr (And.intro ?_ ?_) <;> repeat (first | exact List.Mem.head _ | apply List.Mem.tail)); done) | exact Or.inl (by kernel_rfl)) trivial ?_
    refine dr_end rfl (by kernel_rfl) ?_
    refine awp_seq ?_
    refine awp_le (M := ⟨169, mk [(1, .p (.fn 19)), (2, .p (.fn 20)), (4, .p (.fn 22)), (6, .ptr b6 0), (7, .p (I 0)), (8, .p (.lst (List.map encI [1]))), (9, .p (I 0)), (10, .p (I 1)), (11, .p (.lst (List.map encI [0, 2]))), (12, .p (.bool true)), (15, .p (.bool false)), (17, .p (.lst (List.map encM awMore))), (18, .ptr b18 0), (19, .p (I 0)), (20, .ptr b20 0)], [.box b20 [.p (I 6), .p (I 0), .p (.str ⟨#[]⟩), .p (.nils), .p (.lst (encTs ([(.mk 2 0 ⟨#[]⟩ ([(Lvl.mk 0 [])]) [] : Tm), (.mk 6 0 ⟨#[]⟩ [] ([(.mk 0 0 ⟨#[]⟩ [] [] : Tm), (.mk 0 1 ⟨#[]⟩ [] [] : Tm)]) : Tm)])))], .box b18 ((encT awUse).map .p), .box b16 [.p (I 2), .p (I 0), .p (.str ⟨#[]⟩), .p (.lst (List.map encL ([(Lvl.mk 0 [])]))), .p (.nils)], .box b6 ((encT awR).map .p), .box b3 [.p (I 3), .p (I 0), .p (.str ⟨#[78, 97, 116]⟩), .p (.nils), .p (.nils)]], []⟩) (le_mk ⟨rfl, rfl, rfl, rfl, rfl, rfl, rfl, rfl, rfl, rfl, rfl, rfl, rfl, rfl, rfl, trivial⟩ (List.Sublist.refl _)) ?_
    refine awp_dr (fun k => false) mx0 ?_
    refine dr_free rfl rfl (fun _ => aop_move rfl) trivial ?_
    refine dr_free rfl rfl (fun _ => aop_cmp rfl rfl rfl) trivial ?_
    refine dr_free rfl rfl (fun _ => aop_move rfl) trivial ?_
    refine dr_readg (i := 3) rfl rfl rfl rfl rfl (fun H i hi => aop_load_box (i := i) ty26 rfl hi (by simp [encT_len])) (by repeat' first | exact trivial | refine And.intro ?_ ?_ | ((refine Or.inr (And.intro ?_ ?_) <;> repeat (first | exact List.Mem.head _ | apply List.Mem.tail)); done) | exact Or.inl (by kernel_rfl)) trivial ?_
    refine dr_freeg rfl rfl rfl rfl (fun _ => aop_move rfl) trivial ?_
    refine dr_freeg rfl rfl rfl rfl (fun _ => aop_move rfl) trivial ?_
    refine dr_freeg rfl rfl rfl rfl (fun _ => aop_move rfl) trivial ?_
    refine dr_freeg rfl rfl rfl rfl (fun _ => aop_fun rfl rfl (aw1_c 3) rfl) trivial ?_
    refine dr_freeg rfl rfl rfl rfl (fun _ => aop_buildSlice el24 zr26 rfl rfl rfl rfl rfl) trivial ?_
    refine dr_freeg rfl rfl rfl rfl (fun _ => aop_fun rfl rfl (mt1_3_c ) rfl) trivial ?_
    refine dr_freeg rfl rfl rfl rfl (fun _ => aop_fun rfl rfl (sc1_3_c ) rfl) trivial ?_
    refine dr_freeg rfl rfl rfl rfl (fun _ => aop_fun rfl rfl (same1Aw_c ) rfl) trivial ?_
    refine dr_free rfl rfl (fun _ => aop_pick rfl rfl) trivial ?_
    refine dr_free rfl rfl (fun _ => aop_move rfl) trivial ?_
    refine dr_freeg rfl rfl rfl rfl (fun _ => aop_move rfl) trivial ?_
    refine dr_freeg rfl rfl rfl rfl (fun _ => aop_cmp rfl rfl rfl) trivial ?_
    refine dr_free rfl rfl (fun _ => aop_pick rfl rfl) trivial ?_
    refine dr_free rfl rfl (fun _ => aop_move rfl) trivial ?_
    refine dr_freeg rfl rfl rfl rfl (fun _ => aop_move rfl) trivial ?_
    refine dr_freeg rfl rfl rfl rfl (fun _ => aop_buildSlice el59 zr3 rfl rfl rfl rfl rfl) trivial ?_
    refine dr_freeg rfl rfl rfl rfl (fun _ => aop_fun rfl rfl (eq1Aw_c ) rfl) trivial ?_
    refine dr_free rfl rfl (fun _ => aop_pick rfl rfl) trivial ?_
    refine dr_free rfl rfl (fun _ => aop_move rfl) trivial ?_
    refine dr_freeg rfl rfl rfl rfl (fun _ => aop_move rfl) trivial ?_
    refine dr_free rfl rfl (fun _ => aop_pick rfl rfl) trivial ?_
    refine dr_free rfl rfl (fun _ => aop_move rfl) trivial ?_
    refine dr_freeg rfl rfl rfl rfl (fun _ => aop_move rfl) trivial ?_
    refine dr_freeg rfl rfl rfl rfl (fun _ => aop_not rfl) trivial ?_
    refine dr_free rfl rfl (fun _ => aop_pick rfl rfl) trivial ?_
    refine dr_free rfl rfl (fun _ => aop_move rfl) trivial ?_
    refine dr_freeg rfl rfl rfl rfl (fun _ => aop_move rfl) trivial ?_
    refine dr_freeg rfl rfl rfl rfl (fun _ => aop_cmp rfl rfl rfl) trivial ?_
    refine dr_free rfl rfl (fun _ => aop_pick rfl rfl) trivial ?_
    refine dr_free rfl rfl (fun _ => aop_move rfl) trivial ?_
    refine dr_freeg rfl rfl rfl rfl (fun _ => aop_move rfl) trivial ?_
    refine dr_freeg rfl rfl rfl rfl (fun _ => aop_buildSlice el59 zr3 rfl rfl rfl rfl rfl) trivial ?_
    refine dr_freeg rfl rfl rfl rfl (fun _ => aop_fun rfl rfl (eq2Aw_c ) rfl) trivial ?_
    refine dr_free rfl rfl (fun _ => aop_pick rfl rfl) trivial ?_
    refine dr_free rfl rfl (fun _ => aop_move rfl) trivial ?_
    refine dr_freeg rfl rfl rfl rfl (fun _ => aop_move rfl) trivial ?_
    refine dr_freeg rfl rfl rfl rfl (fun _ => aop_cmp rfl rfl rfl) trivial ?_
    refine dr_free rfl rfl (fun _ => aop_pick rfl rfl) trivial ?_
    refine dr_free rfl rfl (fun _ => aop_move rfl) trivial ?_
    refine dr_readg (i := 1) rfl rfl rfl rfl rfl (fun H i hi => aop_load_box (i := i) ty26 rfl hi (by simp [encT_len])) (by repeat' first | exact trivial | refine And.intro ?_ ?_ | ((refine Or.inr (And.intro ?_ ?_) <;> repeat (first | exact List.Mem.head _ | apply List.Mem.tail)); done) | exact Or.inl (by kernel_rfl)) trivial ?_
    refine dr_freeg rfl rfl rfl rfl (fun _ => aop_move rfl) trivial ?_
    refine dr_freeg rfl rfl rfl rfl (fun _ => aop_move rfl) trivial ?_
    refine dr_freeg rfl rfl rfl rfl (fun _ => aop_fun rfl rfl (aw1_c 1) rfl) trivial ?_
    refine dr_freeg rfl rfl rfl rfl (fun _ => aop_move rfl) trivial ?_
    refine dr_freeg rfl rfl rfl rfl (fun _ => aop_fun rfl rfl (aw1_c 0) rfl) trivial ?_
    refine dr_freeg rfl rfl rfl rfl (fun _ => aop_buildSlice el24 zr26 rfl rfl rfl rfl rfl) trivial ?_
    refine dr_freeg rfl rfl rfl rfl (fun _ => aop_fun rfl rfl (mt2_10_c ) rfl) trivial ?_
    refine dr_freeg rfl rfl rfl rfl (fun _ => aop_fun rfl rfl (same2Aw_c ) rfl) trivial ?_
    refine dr_free rfl rfl (fun _ => aop_pick rfl rfl) trivial ?_
    refine dr_free rfl rfl (fun _ => aop_move rfl) trivial ?_
    refine dr_freeg rfl rfl rfl rfl (fun _ => aop_move rfl) trivial ?_
    refine dr_freeg rfl rfl rfl rfl (fun _ => aop_index_lst el22 rfl rfl (by omega) (encM_get hx) (encM_len _)) trivial ?_
    refine dr_freeg rfl rfl rfl rfl (fun _ => aop_field_ref fd44 rfl rfl) trivial ?_
    refine dr_freeg rfl rfl rfl rfl (fun _ => aop_load_ref_of (cs := [I xyk, I xyi, .str xyn, .lst (List.map encL xyl), .lst (encTs xys)]) ty26 rfl rfl rfl) trivial ?_
    refine dr_readg (i := 0) rfl rfl rfl rfl rfl (fun H i hi => aop_load_box (i := i) ty26 rfl hi rfl) (by repeat' first | exact trivial | refine And.intro ?_ ?_ | ((refine Or.inr (And.intro ?_ ?_) <;> repeat (first | exact List.Mem.head _ | apply List.Mem.tail)); done) | exact Or.inl (by kernel_rfl)) trivial ?_
    refine dr_freeg rfl rfl rfl rfl (fun _ => aop_funW rfl rfl (same_c _ (.mk xyk xyi xyn xyl xys : Tm) (.mk 6 0 ⟨#[]⟩ [] ([(.mk 2 0 ⟨#[]⟩ ([(Lvl.mk 0 [])]) [] : Tm), (.mk 6 0 ⟨#[]⟩ [] ([(.mk 0 0 ⟨#[]⟩ [] [] : Tm), (.mk 0 1 ⟨#[]⟩ [] [] : Tm)]) : Tm)]) : Tm) (Nat.le_refl _) (aw_last hx ▸ aw_nd.2.2.1)) (aw (we rfl) (aw (weak_norm rfl) (aw0)))) trivial ?_
    refine dr_free rfl rfl (fun _ => aop_pick rfl rfl) trivial ?_
    refine dr_free rfl rfl (fun _ => aop_assign rfl) trivial ?_
    refine dr_end rfl (by kernel_rfl) ?_
    refine awp_ret ?_
    refine ⟨rfl, _, _, ⟨_, _, rfl, rfl, rfl⟩, (List.nil_sublist _), ?_⟩
    all_goals exact ⟨pB (eqB_true (aw_last hx).symm), rfl⟩

end Go.Proofs.YtgfecpjmbgcobaaGreat
/- Contracts of functions of the program. -/
namespace Go.Proofs.YtgfecpjmbgcobaaGreat
open Go.Abs Go.Eu
set_option linter.unusedVariables false
set_option linter.unusedSimpArgs false
set_option maxRecDepth 100000
theorem nodesw_c : ∀ (n : Nat) (l : List Tm) (most : Int), sizes l ≤ n → Wds l → l.length < wide → Fun Tryz.prog 5 [.p (I most), TsV l] (.p (I (nodesL l most 0))) := by
  intro n
  induction n using Nat.strongRecOn with
  | ind n ih =>
    intro l most hs hnd hlen
    simp only [wide] at hlen
    refine acalls_of_awp Tryz.func5 rfl en5 (n := 29) rfl rfl ?_
    refine awp_seq ?_
    refine awp_region ?_
    refine al_step rfl rfl (aop_assign rfl) ?_
    refine al_end rfl ?_
    refine awp_seq ?_
    refine awp_region ?_
    refine al_step rfl rfl (aop_assign rfl) ?_
    refine al_end rfl ?_
    refine awp_seq ?_
    refine awp_seq ?_
    refine awp_region ?_
    refine al_step rfl rfl (aop_move rfl) ?_
    refine al_step rfl rfl (aop_len el24 rfl) ?_
    refine al_step rfl rfl (aop_move rfl) ?_
    refine al_end rfl ?_
    refine awp_block ?_
    refine awp_while (α := Nat × Int) (fun s => ⟨29, mk [(0, .p (I most)), (5, .p (I s.2)), (8, TsV l), (9, .p (I (encTs l).length)), (10, .p (I s.1))], [], []⟩) (fun s => l.length - s.1) (fun s => s.1 ≤ l.length ∧ nodesL (l.drop s.1) most s.2 = nodesL l most 0) ((0, 0)) (by simp) ?_ ?_
    · exact le_mk ⟨rfl, rfl, rfl, rfl, rfl, trivial⟩ (by first | exact List.Sublist.refl _ | exact .cons _ (.refl _) | exact .cons _ (.cons _ (.refl _)) | exact .cons _ (.cons _ (.cons _ (.refl _))) | exact .cons _ (.cons _ (.cons _ (.cons _ (.refl _)))))
    rintro ⟨i, m⟩ ⟨hi, hC⟩
    simp only at hi hC
    refine awp_seq ?_
    refine awp_region ?_
    refine al_step rfl rfl (aop_cmp rfl rfl rfl) ?_
    refine al_end rfl ?_
    refine awp_seq ?_
    refine awp_cond rfl (fun c1 => ?_) (fun c1 => ?_)
    · (try simp only [sd] at c1)
      have hi2 : i < l.length := by rw [encTs_len] at c1; omega
      obtain ⟨t, hk⟩ := getElem?_of_lt hi2
      have hks := size_mem hk
      obtain ⟨kd, ix, nm, ls, ks⟩ := t
      have hnt := Wds_mem hnd hk
      simp only [Wd] at hnt
      simp only [size] at hks
      refine awp_skip ?_
      refine awp_seq ?_
      refine awp_block ?_
      refine awp_seq ?_
      refine awp_region ?_
      refine al_step rfl rfl (aop_index_lst el24 rfl rfl (by omega) (encTs_get hk) (encT_len _)) ?_
      refine al_step rfl rfl (aop_load_ref ty26 rfl (encT_len _)) ?_
      refine al_new rfl rfl (aop_alloc zr26 rfl) fun b7 => ?_
      refine al_step rfl rfl (aop_store_box (i := 0) ty26 rfl rfl rfl rfl rfl rfl) ?_
      refine al_end rfl ?_
      refine awp_seq ?_
      refine awp_seq ?_
      refine awp_region ?_
      refine al_step rfl rfl (aop_move rfl) ?_
      refine al_step rfl rfl (aop_move rfl) ?_
      refine al_step rfl rfl (aop_cmp rfl rfl rfl) ?_
      refine al_end rfl ?_
      refine awp_cond rfl (fun c2 => ?_) (fun c2 => ?_)
      · (try simp only [sd] at c2)
        refine awp_seq ?_
        refine awp_region ?_
        refine al_step rfl rfl (aop_move rfl) ?_
        refine al_step rfl rfl (aop_assign rfl) ?_
        refine al_end rfl ?_
        refine awp_ret ?_
        refine ⟨rfl, _, [], res_tmp rfl, List.nil_sublist _, ?_⟩
        exact ⟨pI (by rw [← hC, nodesL_at hk, if_pos (by omega)]), rfl⟩
      · (try simp only [sd] at c2)
        refine awp_skip ?_
        refine awp_region ?_
        refine al_step rfl rfl (aop_move rfl) ?_
        refine al_step rfl rfl (aop_move rfl) ?_
        refine al_step rfl rfl (aop_move rfl) ?_
        refine al_step rfl rfl (aop_subw rfl rfl) ?_
        refine al_step rfl rfl (aop_field_ptr fd26 rfl rfl) ?_
        refine al_step rfl rfl (aop_load_box1 (i := 0) ty24 rfl rfl rfl) ?_
        refine al_step rfl rfl (aop_fun rfl rfl (ih (sizes ks) (by omega) ks _ (Nat.le_refl _) hnt.2.2.2.2.1 hnt.2.2.2.1) rfl) ?_
        refine al_step rfl rfl (aop_addw rfl rfl) ?_
        refine al_step rfl rfl (aop_addw rfl rfl) ?_
        refine al_step rfl rfl (aop_assign rfl) ?_
        refine al_end rfl ?_
        refine awp_region ?_
        refine al_step rfl rfl (aop_add rfl rfl (by omega) (by omega)) ?_
        refine al_step rfl rfl (aop_move rfl) ?_
        refine al_end rfl ?_
        exact ⟨(i + 1, wr (m + wr (1 + nodesL ks (wr (most - m)) 0))), (by simp; omega), ⟨by omega, by rw [← hC, nodesL_at hk, if_neg (by omega), nodesT]⟩, le_mk ⟨rfl, rfl, rfl, rfl, rfl, trivial⟩ (by first | exact List.Sublist.refl _ | exact .cons _ (.refl _) | exact .cons _ (.cons _ (.refl _)) | exact .cons _ (.cons _ (.cons _ (.refl _))) | exact .cons _ (.cons _ (.cons _ (.cons _ (.refl _)))))⟩
    · (try simp only [sd] at c1)
      have hi2 : i = l.length := by rw [encTs_len] at c1; omega
      refine awp_exit ?_
      refine awp_seq ?_
      refine awp_region ?_
      refine al_step rfl rfl (aop_move rfl) ?_
      refine al_step rfl rfl (aop_assign rfl) ?_
      refine al_end rfl ?_
      refine awp_ret ?_
      refine ⟨rfl, _, [], res_tmp rfl, List.nil_sublist _, ?_⟩
      exact ⟨pI (by rw [← hC, hi2, List.drop_length]; rfl), rfl⟩

end Go.Proofs.YtgfecpjmbgcobaaGreat
/- Contracts of functions of the program. -/
namespace Go.Proofs.YtgfecpjmbgcobaaGreat
open Go.Abs Go.Eu
set_option linter.unusedVariables false
set_option linter.unusedSimpArgs false
set_option maxRecDepth 100000
theorem few1_c : ∀ (x : Lvl), (WdL x) → Fun Tryz.prog 15 [.agg ((encL x).map .p)] (.p (.bool (decide ((x.vars.length : Int) > 20)))) := by
  intro x h1
  refine acalls_of_awp Tryz.func15 rfl en15 (n := 7) rfl rfl ?_
  refine awp_seq ?_
  refine awp_region ?_
  refine al_new rfl rfl (aop_box rfl) fun b1 => ?_
  refine al_step rfl rfl (aop_assign rfl) ?_
  refine al_end rfl ?_
  refine awp_seq ?_
  refine awp_region ?_
  refine al_step rfl rfl (aop_field_ptr fd49 rfl rfl) ?_
  refine al_step rfl rfl (aop_load_box1 (i := 0) ty47 rfl rfl rfl) ?_
  refine al_step rfl rfl (aop_lenE el47 rfl (List.length_map _)) ?_
  refine al_step rfl rfl (aop_cmp rfl rfl rfl) ?_
  refine al_step rfl rfl (aop_assign rfl) ?_
  refine al_end rfl ?_
  refine awp_ret ?_
  refine ⟨rfl, _, _, ⟨_, _, rfl, rfl, rfl⟩, (List.nil_sublist _), ?_⟩
  all_goals exact ⟨rfl, rfl⟩

theorem idxF_c : ∀ (l : List Lvl), (l.length < wide) → (∀ x ∈ l, WdL x) → FunR Tryz.prog 40 [.p (.lst (List.map encL l)), .p (.fn 15)] (fun v => ∃ r : Int, v = .p (I r) ∧ (r < 0 → ∀ x ∈ l, x.vars.length ≤ 20)) := by
  intro l h1 h2
  simp only [wide] at h1
  refine acalls_of_awp Tryz.func40 rfl en40 (n := 19) rfl rfl ?_
  refine awp_seq ?_
  refine awp_region ?_
  refine al_step rfl rfl (aop_assign rfl) ?_
  refine al_end rfl ?_
  refine awp_seq ?_
  refine awp_seq ?_
  refine awp_region ?_
  refine al_step rfl rfl (aop_move rfl) ?_
  refine al_step rfl rfl (aop_lenE el23 rfl (List.length_map _)) ?_
  refine al_step rfl rfl (aop_move rfl) ?_
  refine al_end rfl ?_
  refine awp_block ?_
  refine awp_while (α := Nat) (fun i => ⟨19, mk [(0, .p (.lst (List.map encL l))), (1, .p (.fn 15)), (7, .p (I (l.length : Nat))), (8, .p (I (i : Int)))], [], []⟩) (fun i => l.length - i) (fun i => i ≤ l.length ∧ (∀ j, j < i → ∀ x, l[j]? = some x → x.vars.length ≤ 20)) 0 (⟨by omega, fun j h => by omega⟩) ?_ ?_
  · exact le_mkW ⟨we rfl, we rfl, we rfl, we rfl, trivial⟩ (leH (is := []) rfl (wl0))
  rintro i hC
  try simp only at hC
  obtain ⟨hi, hC⟩ := hC
  refine awp_seq ?_
  refine awp_region ?_
  refine al_step rfl rfl (aop_cmp rfl rfl rfl) ?_
  refine al_end rfl ?_
  refine awp_seq ?_
  refine awp_cond rfl (fun c => ?_) (fun c => ?_)
  · (try simp only [sd, se] at c)
    refine awp_skip ?_
    refine awp_seq ?_
    refine awp_block ?_
    refine awp_seq ?_
    refine awp_region ?_
    refine al_step rfl rfl (aop_move rfl) ?_
    refine al_step rfl rfl (aop_assign rfl) ?_
    refine al_end rfl ?_
    refine awp_seq ?_
    refine awp_region ?_
    refine al_step rfl rfl (aop_move rfl) ?_
    refine al_step rfl rfl (aop_move rfl) ?_
    refine al_step rfl rfl (aop_move rfl) ?_
    obtain ⟨x, hx⟩ := getElem?_of_lt (l := l) (i := i) (by omega)
    refine al_step rfl rfl (aop_index_lst el23 rfl rfl (by omega) (encL_get hx) (rfl)) ?_
    refine al_step rfl rfl (aop_load_ref ty49 rfl (rfl)) ?_
    refine al_step rfl rfl (aop_fun rfl rfl (few1_c x (h2 x (List.mem_of_getElem? hx))) rfl) ?_
    refine al_end rfl ?_
    refine awp_cond rfl (fun c1 => ?_) (fun c1 => ?_)
    · (try simp only [sd, se] at c1)
      refine awp_seq ?_
      refine awp_region ?_
      refine al_step rfl rfl (aop_move rfl) ?_
      refine al_step rfl rfl (aop_assign rfl) ?_
      refine al_end rfl ?_
      refine awp_ret ?_
      refine ⟨rfl, _, [], res_tmp rfl, List.nil_sublist _, ⟨⟨_, rfl, ?_⟩, rfl⟩⟩
      exact fun h => by omega
    · (try simp only [sd, se] at c1)
      refine awp_skip ?_
      refine awp_region ?_
      refine al_step rfl rfl (aop_add rfl rfl (by omega) (by omega)) ?_
      refine al_step rfl rfl (aop_move rfl) ?_
      refine al_end rfl ?_
      refine ⟨(i + 1), (by first | omega | (simp only; omega)), ⟨by omega, upto_succ hC hx (by omega)⟩, le_mkW ⟨we rfl, we rfl, we rfl, we rfl, trivial⟩ (leH (is := []) rfl (wl0))⟩
  · (try simp only [sd, se] at c)
    refine awp_exit ?_
    refine awp_seq ?_
    refine awp_region ?_
    refine al_step rfl rfl (aop_assign rfl) ?_
    refine al_end rfl ?_
    refine awp_ret ?_
    refine ⟨rfl, _, [], res_tmp rfl, List.nil_sublist _, ⟨⟨_, rfl, ?_⟩, rfl⟩⟩
    exact fun _ x hx => by obtain ⟨j, hj⟩ := mem_of_idx hx; exact hC j (by have := (List.getElem?_eq_some_iff.1 hj).1; omega) x hj

theorem contF_c : ∀ (l : List Lvl), (l.length < wide) → (∀ x ∈ l, WdL x) → FunR Tryz.prog 14 [.p (.lst (List.map encL l)), .p (.fn 15)] (fun v => ∃ b : Bool, v = .p (.bool b) ∧ (b = false → ∀ x ∈ l, x.vars.length ≤ 20)) := by
  intro l h1 h2
  refine acalls_of_awp Tryz.func14 rfl en14 (n := 9) rfl rfl ?_
  refine awp_seq ?_
  refine awp_region ?_
  refine al_step rfl rfl (aop_assign rfl) ?_
  refine al_end rfl ?_
  refine awp_seq ?_
  refine awp_region ?_
  refine al_step rfl rfl (aop_move rfl) ?_
  refine al_step rfl rfl (aop_move rfl) ?_
  refine al_rel rfl rfl (aop_funR rfl rfl (idxF_c l h1 h2) (.inl rfl)) ?_
  rintro _ ⟨r, rfl, hr⟩
  refine al_step rfl rfl (aop_cmp rfl rfl rfl) ?_
  refine al_step rfl rfl (aop_assign rfl) ?_
  refine al_end rfl ?_
  refine awp_ret ?_
  refine ⟨rfl, _, [], res_tmp rfl, List.nil_sublist _, ⟨⟨_, rfl, ?_⟩, rfl⟩⟩
  exact fun h => hr (by simp at h; omega)

theorem few_c : ∀ (n : Nat) (l : List Tm), (sizes l ≤ n) → (Wds l) → (l.length < wide) → FunR Tryz.prog 6 [.p (.lst (encTs l))] (fun v => ∃ b : Bool, v = .p (.bool b) ∧ (b = true → FewP l)) := by
  intro n
  induction n using Nat.strongRecOn with
  | ind n ih =>
    intro l h1 h2 h3
    have h3b := h3
    simp only [wide] at h3b
    refine acalls_of_awp Tryz.func6 rfl en6 (n := 36) rfl rfl ?_
    refine awp_seq ?_
    refine awp_region ?_
    refine al_step rfl rfl (aop_assign rfl) ?_
    refine al_end rfl ?_
    refine awp_seq ?_
    refine awp_seq ?_
    refine awp_region ?_
    refine al_step rfl rfl (aop_move rfl) ?_
    refine al_step rfl rfl (aop_fun rfl rfl (nodesw_c _ l 200 (Nat.le_refl _) h2 h3) rfl) ?_
    refine al_step rfl rfl (aop_cmp rfl rfl rfl) ?_
    refine al_end rfl ?_
    refine awp_cond rfl (fun c => ?_) (fun c => ?_)
    · have cR := c
      (try simp only [sd, se] at c)
      refine awp_seq ?_
      refine awp_region ?_
      refine al_step rfl rfl (aop_assign rfl) ?_
      refine al_end rfl ?_
      refine awp_ret ?_
      refine ⟨rfl, _, [], res_tmp rfl, List.nil_sublist _, ⟨⟨_, rfl, ?_⟩, rfl⟩⟩
      exact fun h => absurd h (by decide)
    · have cR := c
      (try simp only [sd, se] at c)
      refine awp_skip ?_
      refine awp_seq ?_
      refine awp_seq ?_
      refine awp_region ?_
      refine al_step rfl rfl (aop_move rfl) ?_
      refine al_step rfl rfl (aop_lenE el24 rfl (encTs_len _)) ?_
      refine al_step rfl rfl (aop_move rfl) ?_
      refine al_end rfl ?_
      refine awp_block ?_
      refine awp_while (α := Nat) (fun i => ⟨36, mk [(8, .p (.lst (encTs l))), (9, .p (I (l.length : Nat))), (10, .p (I (i : Int)))], [], []⟩) (fun i => l.length - i) (fun i => i ≤ l.length ∧ (∀ j, j < i → ∀ x, l[j]? = some x → fewN x)) 0 (⟨by omega, fun j h => by omega⟩) ?_ ?_
      · exact le_mkW ⟨we rfl, we rfl, we rfl, trivial⟩ (leH (is := []) rfl (wl0))
      rintro i hC
      try simp only at hC
      obtain ⟨hi, hC⟩ := hC
      refine awp_seq ?_
      refine awp_region ?_
      refine al_step rfl rfl (aop_cmp rfl rfl rfl) ?_
      refine al_end rfl ?_
      refine awp_seq ?_
      refine awp_cond rfl (fun c1 => ?_) (fun c1 => ?_)
      · have c1R := c1
        (try simp only [sd, se] at c1)
        refine awp_skip ?_
        refine awp_seq ?_
        refine awp_block ?_
        refine awp_seq ?_
        refine awp_region ?_
        obtain ⟨t, ht⟩ := getElem?_of_lt (l := l) (i := i) (by omega)
        refine al_step rfl rfl (aop_index_lst el24 rfl rfl (by omega) (encTs_get ht) (encT_len _)) ?_
        refine al_step rfl rfl (aop_load_ref ty26 rfl (encT_len _)) ?_
        refine al_new rfl rfl (aop_alloc zr26 rfl) fun b4 => ?_
        refine al_step rfl rfl (aop_store_whole (i := 0) ty26 rfl rfl rfl (by simp [encT_len]) (by first | rfl | simp [encT_len]) (one_Tm _)) ?_
        refine al_end rfl ?_
        refine awp_seq ?_
        obtain ⟨tk, ti, tn, tl, ts⟩ := t
        have hnt := Wds_mem h2 ht
        simp only [Wd] at hnt
        have hks := size_mem ht
        simp only [size] at hks
        refine awp_meetR [8, 9, 10] 34 (fun y => ∃ b : Bool, y = .p (.bool b) ∧ (b = false → fewN (.mk tk ti tn tl ts))) ?_ ?_
        · refine awp_region ?_
          refine al_step rfl rfl (aop_field_ptr fd26 rfl rfl) ?_
          refine al_step rfl rfl (aop_load_box1 (i := 0) ty9 rfl rfl rfl) ?_
          refine al_step rfl rfl (aop_len_str us9 rfl) ?_
          refine al_step rfl rfl (aop_cmp rfl rfl rfl) ?_
          refine al_step rfl rfl (aop_move rfl) ?_
          refine al_case 18 rfl (fun g => ?_) (fun g => ?_)
          · (try simp only [sd, se] at g)
            refine al_pass rfl rfl rfl rfl rfl ?_
            refine al_pass rfl rfl rfl rfl rfl ?_
            refine al_pass rfl rfl rfl rfl rfl ?_
            refine al_pass rfl rfl rfl rfl rfl ?_
            refine al_step rfl rfl (aop_pick rfl rfl) ?_
            refine al_step rfl rfl (aop_move rfl) ?_
            refine al_pass rfl rfl rfl rfl rfl ?_
            refine al_pass rfl rfl rfl rfl rfl ?_
            refine al_pass rfl rfl rfl rfl rfl ?_
            refine al_step rfl rfl (aop_pick rfl rfl) ?_
            refine al_step rfl rfl (aop_move rfl) ?_
            refine al_pass rfl rfl rfl rfl rfl ?_
            refine al_pass rfl rfl rfl rfl rfl ?_
            refine al_pass rfl rfl rfl rfl rfl ?_
            refine al_pass rfl rfl rfl rfl rfl ?_
            refine al_step rfl rfl (aop_pick rfl rfl) ?_
            refine al_end rfl ?_
            exact ⟨rfl, rfl, (by first | exact List.Sublist.refl _ | exact List.sublist_cons_self _ _), (by first | exact ⟨_, rfl, fun h => absurd h (by decide)⟩ | exact ⟨_, rfl, fun h => by simp only [Bool.not_eq_false'] at h; exact ⟨by omega, by omega, hb (by assumption), (hb1 h).sz, (hb1 h).nd⟩⟩), ⟨rfl, rfl, rfl, trivial⟩⟩
          · (try simp only [sd, se] at g)
            refine al_stepg rfl rfl rfl rfl (aop_field_ptr fd26 rfl rfl) ?_
            refine al_stepg rfl rfl rfl rfl (aop_load_box1 (i := 0) ty23 rfl rfl rfl) ?_
            refine al_stepg rfl rfl rfl rfl (aop_lenE el23 rfl (List.length_map _)) ?_
            refine al_stepg rfl rfl rfl rfl (aop_cmp rfl rfl rfl) ?_
            refine al_step rfl rfl (aop_pick rfl rfl) ?_
            refine al_step rfl rfl (aop_move rfl) ?_
            refine al_case 24 rfl (fun g1 => ?_) (fun g1 => ?_)
            · (try simp only [sd, se] at g1)
              refine al_pass rfl rfl rfl rfl rfl ?_
              refine al_pass rfl rfl rfl rfl rfl ?_
              refine al_pass rfl rfl rfl rfl rfl ?_
              refine al_step rfl rfl (aop_pick rfl rfl) ?_
              refine al_step rfl rfl (aop_move rfl) ?_
              refine al_pass rfl rfl rfl rfl rfl ?_
              refine al_pass rfl rfl rfl rfl rfl ?_
              refine al_pass rfl rfl rfl rfl rfl ?_
              refine al_pass rfl rfl rfl rfl rfl ?_
              refine al_step rfl rfl (aop_pick rfl rfl) ?_
              refine al_end rfl ?_
              exact ⟨rfl, rfl, (by first | exact List.Sublist.refl _ | exact List.sublist_cons_self _ _), (by first | exact ⟨_, rfl, fun h => absurd h (by decide)⟩ | exact ⟨_, rfl, fun h => by simp only [Bool.not_eq_false'] at h; exact ⟨by omega, by omega, hb (by assumption), (hb1 h).sz, (hb1 h).nd⟩⟩), ⟨rfl, rfl, rfl, trivial⟩⟩
            · (try simp only [sd, se] at g1)
              refine al_stepg rfl rfl rfl rfl (aop_field_ptr fd26 rfl rfl) ?_
              refine al_stepg rfl rfl rfl rfl (aop_load_box1 (i := 0) ty23 rfl rfl rfl) ?_
              refine al_relg rfl rfl rfl rfl (aop_funR rfl rfl (contF_c tl hnt.2.1 hnt.2.2.1) (.inl rfl)) ?_
              rintro _ ⟨b, rfl, hb⟩
              refine al_step rfl rfl (aop_pick rfl rfl) ?_
              refine al_step rfl rfl (aop_move rfl) ?_
              refine al_case 29 rfl (fun g2 => ?_) (fun g2 => ?_)
              · (try simp only [sd, se] at g2)
                refine al_pass rfl rfl rfl rfl rfl ?_
                refine al_pass rfl rfl rfl rfl rfl ?_
                refine al_pass rfl rfl rfl rfl rfl ?_
                refine al_pass rfl rfl rfl rfl rfl ?_
                refine al_step rfl rfl (aop_pick rfl rfl) ?_
                refine al_end rfl ?_
                exact ⟨rfl, rfl, (by first | exact List.Sublist.refl _ | exact List.sublist_cons_self _ _), (by first | exact ⟨_, rfl, fun h => absurd h (by decide)⟩ | exact ⟨_, rfl, fun h => by simp only [Bool.not_eq_false'] at h; exact ⟨by omega, by omega, hb (by assumption), (hb1 h).sz, (hb1 h).nd⟩⟩), ⟨rfl, rfl, rfl, trivial⟩⟩
              · (try simp only [sd, se] at g2)
                refine al_stepg rfl rfl rfl rfl (aop_field_ptr fd26 rfl rfl) ?_
                refine al_stepg rfl rfl rfl rfl (aop_load_box1 (i := 0) ty24 rfl rfl rfl) ?_
                refine al_relg rfl rfl rfl rfl (aop_funR rfl rfl (ih (sizes ts) (by omega) ts (Nat.le_refl _) hnt.2.2.2.2.1 hnt.2.2.2.1) (.inl rfl)) ?_
                rintro _ ⟨b1, rfl, hb1⟩
                refine al_stepg rfl rfl rfl rfl (aop_not rfl) ?_
                refine al_step rfl rfl (aop_pick rfl rfl) ?_
                refine al_end rfl ?_
                exact ⟨rfl, rfl, (by first | exact List.Sublist.refl _ | exact List.sublist_cons_self _ _), (by first | exact ⟨_, rfl, fun h => absurd h (by decide)⟩ | exact ⟨_, rfl, fun h => by simp only [Bool.not_eq_false'] at h; exact ⟨by omega, by omega, hb (by assumption), (hb1 h).sz, (hb1 h).nd⟩⟩), ⟨rfl, rfl, rfl, trivial⟩⟩
        rintro _ ⟨q, rfl, hq⟩
        refine awp_cond rfl (fun c2 => ?_) (fun c2 => ?_)
        · have c2R := c2
          (try simp only [sd, se] at c2)
          refine awp_seq ?_
          refine awp_region ?_
          refine al_step rfl rfl (aop_assign rfl) ?_
          refine al_end rfl ?_
          refine awp_ret ?_
          refine ⟨rfl, _, [], res_tmp rfl, List.nil_sublist _, ⟨⟨_, rfl, ?_⟩, rfl⟩⟩
          exact fun h => absurd h (by decide)
        · have c2R := c2
          (try simp only [sd, se] at c2)
          refine awp_skip ?_
          refine awp_region ?_
          refine al_step rfl rfl (aop_add rfl rfl (by omega) (by omega)) ?_
          refine al_step rfl rfl (aop_move rfl) ?_
          refine al_end rfl ?_
          refine ⟨(i + 1), (by first | omega | (simp only; omega)), ⟨by omega, upto_succ hC ht (hq (by simpa using c2))⟩, le_mkW ⟨we rfl, we rfl, we rfl, trivial⟩ (leH (is := []) rfl (wl0))⟩
      · have c1R := c1
        (try simp only [sd, se] at c1)
        refine awp_exit ?_
        refine awp_seq ?_
        refine awp_region ?_
        refine al_step rfl rfl (aop_assign rfl) ?_
        refine al_end rfl ?_
        refine awp_ret ?_
        refine ⟨rfl, _, [], res_tmp rfl, List.nil_sublist _, ⟨⟨_, rfl, ?_⟩, rfl⟩⟩
        exact fun _ => few_end (m := i) (by omega) h2 h3 (by omega) hC

end Go.Proofs.YtgfecpjmbgcobaaGreat
/- Contracts of functions of the program. -/
namespace Go.Proofs.YtgfecpjmbgcobaaGreat
open Go.Abs Go.Eu
set_option linter.unusedVariables false
set_option linter.unusedSimpArgs false
set_option maxRecDepth 100000
theorem check3_c : ∀ (t : Tm) (vars params metas levels : Int), (Nd t) → (size t < 1000000) → FunR Tryz.prog 7 [.agg ((encT t).map .p), .p (I vars), .p (I params), .p (I metas), .p (I levels)] (fun v => ∃ e : Int, v = .p (I e) ∧ (e = 0 → wf (max vars 0) metas 0 t)) := by
  intro t vars params metas levels h1 h2
  refine acalls_of_awp Tryz.func7 rfl en7 (n := 28) rfl rfl ?_
  refine awp_seq ?_
  refine awp_region ?_
  refine al_new rfl rfl (aop_box rfl) fun b5 => ?_
  refine al_step rfl rfl (aop_assign rfl) ?_
  refine al_end rfl ?_
  refine awp_seq ?_
  refine awp_seq ?_
  refine awp_region ?_
  refine al_step rfl rfl (aop_load_box (i := 0) ty26 rfl rfl (by simp [encT_len])) ?_
  refine al_step rfl rfl (aop_move rfl) ?_
  refine al_step rfl rfl (aop_max rfl rfl) ?_
  refine al_step rfl rfl (aop_move rfl) ?_
  refine al_step rfl rfl (aop_move rfl) ?_
  refine al_step rfl rfl (aop_move rfl) ?_
  refine al_rel rfl rfl (aop_funR rfl rfl (check_c _ t 0 (max (vars : Int) (0 : Int)) params metas levels (Nat.le_refl _) h1 (by omega) (by simp only [big]; omega)) (.inl rfl)) ?_
  rintro _ ⟨e, rfl, he⟩
  refine al_step rfl rfl (aop_assign rfl) ?_
  refine al_end rfl ?_
  refine awp_seq ?_
  refine awp_region ?_
  refine al_step rfl rfl (aop_move rfl) ?_
  refine al_step rfl rfl (aop_cmp rfl rfl rfl) ?_
  refine al_end rfl ?_
  refine awp_cond rfl (fun c => ?_) (fun c => ?_)
  · (try simp only [sd, se] at c)
    refine awp_seq ?_
    refine awp_region ?_
    refine al_step rfl rfl (aop_move rfl) ?_
    refine al_step rfl rfl (aop_assign rfl) ?_
    refine al_end rfl ?_
    refine awp_ret ?_
    refine ⟨rfl, _, [], res_tmp rfl, List.nil_sublist _, ⟨⟨_, rfl, ?_⟩, rfl⟩⟩
    exact fun h => absurd h (by assumption)
  · (try simp only [sd, se] at c)
    refine awp_skip ?_
    refine awp_seq ?_
    refine awp_seq ?_
    refine awp_region ?_
    refine al_step rfl rfl (aop_load_box (i := 0) ty26 rfl rfl (by simp [encT_len])) ?_
    refine al_step rfl rfl (aop_fun rfl rfl (sizeR_c _ t (Nat.le_refl _) h1) rfl) ?_
    refine al_step rfl rfl (aop_cmp rfl rfl rfl) ?_
    refine al_end rfl ?_
    refine awp_cond rfl (fun c1 => ?_) (fun c1 => ?_)
    · (try simp only [sd, se] at c1)
      refine awp_seq ?_
      refine awp_region ?_
      refine al_step rfl rfl (aop_assign rfl) ?_
      refine al_end rfl ?_
      refine awp_ret ?_
      refine ⟨rfl, _, [], res_tmp rfl, List.nil_sublist _, ⟨⟨_, rfl, ?_⟩, rfl⟩⟩
      exact fun h => absurd h (by decide)
    · (try simp only [sd, se] at c1)
      refine awp_skip ?_
      refine awp_seq ?_
      refine awp_seq ?_
      refine awp_region ?_
      refine al_step rfl rfl (aop_load_box (i := 0) ty26 rfl rfl (by simp [encT_len])) ?_
      refine al_step rfl rfl (aop_fun rfl rfl (depthR_c _ t (Nat.le_refl _) h1) rfl) ?_
      refine al_step rfl rfl (aop_cmp rfl rfl rfl) ?_
      refine al_end rfl ?_
      refine awp_cond rfl (fun c2 => ?_) (fun c2 => ?_)
      · (try simp only [sd, se] at c2)
        refine awp_seq ?_
        refine awp_region ?_
        refine al_step rfl rfl (aop_assign rfl) ?_
        refine al_end rfl ?_
        refine awp_ret ?_
        refine ⟨rfl, _, [], res_tmp rfl, List.nil_sublist _, ⟨⟨_, rfl, ?_⟩, rfl⟩⟩
        exact fun h => absurd h (by decide)
      · (try simp only [sd, se] at c2)
        refine awp_skip ?_
        refine awp_seq ?_
        refine awp_region ?_
        refine al_step rfl rfl (aop_assign rfl) ?_
        refine al_end rfl ?_
        refine awp_ret ?_
        refine ⟨rfl, _, [], res_tmp rfl, List.nil_sublist _, ⟨⟨_, rfl, ?_⟩, rfl⟩⟩
        exact fun _ => he (by omega)

theorem good_c : ∀ (l : List Mv), (l.length < wide) → (∀ x ∈ l, WdM x) → FunR Tryz.prog 4 [.p (.lst (List.map encM l))] (fun v => ∃ b : Bool, v = .p (.bool b) ∧ (b = true → GoodP l)) := by
  intro l h1 h2
  simp only [wide] at h1
  refine acalls_of_awp Tryz.func4 rfl en4 (n := 61) rfl rfl ?_
  refine awp_seq ?_
  refine awp_region ?_
  refine al_step rfl rfl (aop_assign rfl) ?_
  refine al_end rfl ?_
  refine awp_seq ?_
  refine awp_seq ?_
  refine awp_region ?_
  refine al_step rfl rfl (aop_move rfl) ?_
  refine al_step rfl rfl (aop_lenE el22 rfl (List.length_map _)) ?_
  refine al_step rfl rfl (aop_cmp rfl rfl rfl) ?_
  refine al_end rfl ?_
  refine awp_cond rfl (fun c => ?_) (fun c => ?_)
  · have cR := c
    (try simp only [sd, se] at c)
    refine awp_seq ?_
    refine awp_region ?_
    refine al_step rfl rfl (aop_assign rfl) ?_
    refine al_end rfl ?_
    refine awp_ret ?_
    refine ⟨rfl, _, [], res_tmp rfl, List.nil_sublist _, ⟨⟨_, rfl, ?_⟩, rfl⟩⟩
    exact fun h => absurd h (by decide)
  · have cR := c
    (try simp only [sd, se] at c)
    refine awp_skip ?_
    refine awp_seq ?_
    refine awp_seq ?_
    refine awp_region ?_
    refine al_step rfl rfl (aop_move rfl) ?_
    refine al_step rfl rfl (aop_lenE el22 rfl (List.length_map _)) ?_
    refine al_step rfl rfl (aop_move rfl) ?_
    refine al_end rfl ?_
    refine awp_block ?_
    refine awp_while (α := Nat) (fun i => ⟨61, mk [(0, .p (.lst (List.map encM l))), (8, .p (.lst (List.map encM l))), (9, .p (I (l.length : Nat))), (10, .p (I (i : Int)))], [], []⟩) (fun i => l.length - i) (fun i => i ≤ l.length ∧ (∀ j, j < i → ∀ x, l[j]? = some x → GoodM l.length x)) 0 (⟨by omega, fun j h => by omega⟩) ?_ ?_
    · exact le_mkW ⟨we rfl, we rfl, we rfl, we rfl, trivial⟩ (leH (is := []) rfl (wl0))
    rintro i hC
    try simp only at hC
    obtain ⟨hi, hC⟩ := hC
    refine awp_seq ?_
    refine awp_region ?_
    refine al_step rfl rfl (aop_cmp rfl rfl rfl) ?_
    refine al_end rfl ?_
    refine awp_seq ?_
    refine awp_cond rfl (fun c1 => ?_) (fun c1 => ?_)
    · have c1R := c1
      (try simp only [sd, se] at c1)
      refine awp_skip ?_
      refine awp_seq ?_
      refine awp_block ?_
      refine awp_seq ?_
      refine awp_region ?_
      obtain ⟨m, hm⟩ := getElem?_of_lt (l := l) (i := i) (by omega)
      refine al_step rfl rfl (aop_index_lst el22 rfl rfl (by omega) (encM_get hm) (encM_len _)) ?_
      refine al_step rfl rfl (aop_load_ref ty44 rfl (encM_len _)) ?_
      refine al_new rfl rfl (aop_alloc zr44 rfl) fun b4 => ?_
      refine al_step rfl rfl (aop_store_whole (i := 0) ty44 rfl rfl rfl (by simp [encM_len]) (by first | rfl | simp [encM_len]) (one_Mv _)) ?_
      refine al_end rfl ?_
      refine awp_seq ?_
      refine awp_seq ?_
      obtain ⟨my, mn, mv, mc⟩ := m
      obtain ⟨myk, myi, myn, myl, mys⟩ := my
      obtain ⟨mvk, mvi, mvn, mvl, mvs⟩ := mv
      have hmw := h2 _ (List.mem_of_getElem? hm)
      have hY := hmw.w1
      have hV := hmw.w2
      simp only at hY hV
      refine awp_meetR [0, 4, 8, 9, 10] 37 (fun y => ∃ b : Bool, y = .p (.bool b) ∧ (b = false → nodesL [(.mk myk myi myn myl mys : Tm), (.mk mvk mvi mvn mvl mvs : Tm)] 40 0 ≤ 40 ∧ FewP [(.mk myk myi myn myl mys : Tm), (.mk mvk mvi mvn mvl mvs : Tm)] ∧ wf 0 l.length 0 (.mk myk myi myn myl mys : Tm))) ?_ ?_
      · refine awp_region ?_
        refine al_step rfl rfl (aop_field_ptr fd44 rfl rfl) ?_
        refine al_step rfl rfl (aop_load_box_of (i := 0) ty26 rfl rfl rfl rfl) ?_
        refine al_step rfl rfl (aop_field_ptr fd44 rfl rfl) ?_
        refine al_step rfl rfl (aop_load_box_of (i := 0) ty26 rfl rfl rfl rfl) ?_
        refine al_step rfl rfl (aop_buildSlice el24 zr26 rfl rfl rfl rfl rfl) ?_
        refine al_step rfl rfl (aop_fun rfl rfl (nodesw_c _ [(.mk myk myi myn myl mys : Tm), (.mk mvk mvi mvn mvl mvs : Tm)] 40 (Nat.le_refl _) ⟨hY, hV, trivial⟩ (by simp [wide])) rfl) ?_
        refine al_step rfl rfl (aop_cmp rfl rfl rfl) ?_
        refine al_step rfl rfl (aop_move rfl) ?_
        refine al_case 21 rfl (fun g => ?_) (fun g => ?_)
        · (try simp only [sd, se] at g)
          refine al_pass rfl rfl rfl rfl rfl ?_
          refine al_pass rfl rfl rfl rfl rfl ?_
          refine al_pass rfl rfl rfl rfl rfl ?_
          refine al_pass rfl rfl rfl rfl rfl ?_
          refine al_pass rfl rfl rfl rfl rfl ?_
          refine al_pass rfl rfl rfl rfl rfl ?_
          refine al_pass rfl rfl rfl rfl rfl ?_
          refine al_step rfl rfl (aop_pick rfl rfl) ?_
          refine al_step rfl rfl (aop_move rfl) ?_
          refine al_pass rfl rfl rfl rfl rfl ?_
          refine al_pass rfl rfl rfl rfl rfl ?_
          refine al_pass rfl rfl rfl rfl rfl ?_
          refine al_pass rfl rfl rfl rfl rfl ?_
          refine al_pass rfl rfl rfl rfl rfl ?_
          refine al_pass rfl rfl rfl rfl rfl ?_
          refine al_step rfl rfl (aop_pick rfl rfl) ?_
          refine al_end rfl ?_
          exact ⟨rfl, rfl, (by first | exact List.Sublist.refl _ | exact List.sublist_cons_self _ _), (by first | exact ⟨_, rfl, fun h => absurd h (by decide)⟩ | exact ⟨_, rfl, fun h => ⟨by omega, hF, he (by simpa using h)⟩⟩), ⟨rfl, rfl, rfl, rfl, rfl, trivial⟩⟩
        · (try simp only [sd, se] at g)
          refine al_stepg rfl rfl rfl rfl (aop_field_ptr fd44 rfl rfl) ?_
          refine al_stepg rfl rfl rfl rfl (aop_load_box_of (i := 0) ty26 rfl rfl rfl rfl) ?_
          refine al_stepg rfl rfl rfl rfl (aop_field_ptr fd44 rfl rfl) ?_
          refine al_stepg rfl rfl rfl rfl (aop_load_box_of (i := 0) ty26 rfl rfl rfl rfl) ?_
          refine al_stepg rfl rfl rfl rfl (aop_buildSlice el24 zr26 rfl rfl rfl rfl rfl) ?_
          refine al_relg rfl rfl rfl rfl (aop_funR rfl rfl (few_c _ [(.mk myk myi myn myl mys : Tm), (.mk mvk mvi mvn mvl mvs : Tm)] (Nat.le_refl _) ⟨hY, hV, trivial⟩ (by simp [wide])) (.inl rfl)) ?_
          rintro _ ⟨b, rfl, hb⟩
          refine al_stepg rfl rfl rfl rfl (aop_not rfl) ?_
          refine al_step rfl rfl (aop_pick rfl rfl) ?_
          refine al_step rfl rfl (aop_move rfl) ?_
          refine al_case 30 rfl (fun g1 => ?_) (fun g1 => ?_)
          · (try simp only [sd, se] at g1)
            
            refine al_pass rfl rfl rfl rfl rfl ?_
            refine al_pass rfl rfl rfl rfl rfl ?_
            refine al_pass rfl rfl rfl rfl rfl ?_
            refine al_pass rfl rfl rfl rfl rfl ?_
            refine al_pass rfl rfl rfl rfl rfl ?_
            refine al_pass rfl rfl rfl rfl rfl ?_
            refine al_step rfl rfl (aop_pick rfl rfl) ?_
            refine al_end rfl ?_
            exact ⟨rfl, rfl, (by first | exact List.Sublist.refl _ | exact List.sublist_cons_self _ _), (by first | exact ⟨_, rfl, fun h => absurd h (by decide)⟩ | exact ⟨_, rfl, fun h => ⟨by omega, hF, he (by simpa using h)⟩⟩), ⟨rfl, rfl, rfl, rfl, rfl, trivial⟩⟩
          · (try simp only [sd, se] at g1)
            have hF := hb (by simpa using g1)
            refine al_stepg rfl rfl rfl rfl (aop_field_ptr fd44 rfl rfl) ?_
            refine al_stepg rfl rfl rfl rfl (aop_load_box_of (i := 0) ty26 rfl rfl rfl rfl) ?_
            refine al_stepg rfl rfl rfl rfl (aop_move rfl) ?_
            refine al_stepg rfl rfl rfl rfl (aop_lenE el22 rfl (List.length_map _)) ?_
            refine al_relg rfl rfl rfl rfl (aop_funR rfl rfl (check3_c (.mk myk myi myn myl mys : Tm) 0 8 (l.length : Nat) 65536 (fewP_one hF (by simp)).1 (by have := (fewP_one hF (t := (.mk myk myi myn myl mys : Tm)) (by simp)).2; omega)) (.inl rfl)) ?_
            rintro _ ⟨e, rfl, he⟩
            refine al_stepg rfl rfl rfl rfl (aop_cmp rfl rfl rfl) ?_
            refine al_step rfl rfl (aop_pick rfl rfl) ?_
            refine al_end rfl ?_
            exact ⟨rfl, rfl, (by first | exact List.Sublist.refl _ | exact List.sublist_cons_self _ _), (by first | exact ⟨_, rfl, fun h => absurd h (by decide)⟩ | exact ⟨_, rfl, fun h => ⟨by omega, hF, he (by simpa using h)⟩⟩), ⟨rfl, rfl, rfl, rfl, rfl, trivial⟩⟩
      rintro _ ⟨q, rfl, hq⟩
      refine awp_cond rfl (fun c2 => ?_) (fun c2 => ?_)
      · have c2R := c2
        (try simp only [sd, se] at c2)
        refine awp_seq ?_
        refine awp_region ?_
        refine al_step rfl rfl (aop_assign rfl) ?_
        refine al_end rfl ?_
        refine awp_ret ?_
        refine ⟨rfl, _, [], res_tmp rfl, List.nil_sublist _, ⟨⟨_, rfl, ?_⟩, rfl⟩⟩
        exact fun h => absurd h (by decide)
      · have c2R := c2
        (try simp only [sd, se] at c2)
        obtain ⟨hq1, hF, hq3⟩ := hq (by simpa using c2)
        refine awp_skip ?_
        refine awp_seq ?_
        refine awp_meetR [0, 8, 9, 10] 59 (fun y => ∃ b : Bool, y = .p (.bool b) ∧ (b = false → (mn = true → wf 0 l.length 0 (.mk mvk mvi mvn mvl mvs : Tm)) ∧ (mn = false → (.mk mvk mvi mvn mvl mvs : Tm) = zeroT))) ?_ ?_
        · refine awp_region ?_
          refine al_step rfl rfl (aop_field_ptr fd44 rfl rfl) ?_
          refine al_step rfl rfl (aop_load_box1 (i := 0) ty4 rfl rfl rfl) ?_
          refine al_step rfl rfl (aop_move rfl) ?_
          refine al_case 40 rfl (fun g => ?_) (fun g => ?_)
          · (try simp only [sd, se] at g)
            refine al_stepg rfl rfl rfl rfl (aop_field_ptr fd44 rfl rfl) ?_
            refine al_stepg rfl rfl rfl rfl (aop_load_box_of (i := 0) ty26 rfl rfl rfl rfl) ?_
            refine al_stepg rfl rfl rfl rfl (aop_move rfl) ?_
            refine al_stepg rfl rfl rfl rfl (aop_lenE el22 rfl (List.length_map _)) ?_
            refine al_relg rfl rfl rfl rfl (aop_funR rfl rfl (check3_c (.mk mvk mvi mvn mvl mvs : Tm) 0 8 (l.length : Nat) 65536 (fewP_one hF (by simp)).1 (by have := (fewP_one hF (t := (.mk mvk mvi mvn mvl mvs : Tm)) (by simp)).2; omega)) (.inl rfl)) ?_
            rintro _ ⟨e, rfl, he⟩
            refine al_stepg rfl rfl rfl rfl (aop_cmp rfl rfl rfl) ?_
            refine al_step rfl rfl (aop_pick rfl rfl) ?_
            refine al_step rfl rfl (aop_move rfl) ?_
            refine al_case 48 rfl (fun g1 => ?_) (fun g1 => ?_)
            · (try simp only [sd, se] at g1)
              refine al_pass rfl rfl rfl rfl rfl ?_
              refine al_pass rfl rfl rfl rfl rfl ?_
              refine al_pass rfl rfl rfl rfl rfl ?_
              refine al_pass rfl rfl rfl rfl rfl ?_
              refine al_pass0 rfl rfl rfl rfl ?_
              refine al_pass0 rfl rfl rfl rfl ?_
              refine al_pass0 rfl rfl rfl rfl ?_
              refine al_pass0 rfl rfl rfl rfl ?_
              refine al_pass0 rfl rfl rfl rfl ?_
              refine al_pass rfl rfl rfl rfl rfl ?_
              refine al_step rfl rfl (aop_pick rfl rfl) ?_
              refine al_end rfl ?_
              exact ⟨rfl, rfl, (by first | exact List.Sublist.refl _ | exact List.sublist_cons_self _ _), (by first | exact ⟨_, rfl, fun h => absurd h (by decide)⟩ | exact ⟨_, rfl, fun h => ⟨fun k => by first | exact he (by simp_all) | simp_all, fun k => by first | (simp_all; done) | exact (eqB_iff (b := (.mk 0 0 ⟨#[]⟩ [] [] : Tm))).1 (by simpa using h)⟩⟩), ⟨rfl, rfl, rfl, rfl, trivial⟩⟩
            · (try simp only [sd, se] at g1)
              refine al_stepg rfl rfl rfl rfl (aop_field_ptr fd44 rfl rfl) ?_
              refine al_stepg rfl rfl rfl rfl (aop_load_box1 (i := 0) ty4 rfl rfl rfl) ?_
              refine al_stepg rfl rfl rfl rfl (aop_not rfl) ?_
              refine al_stepg rfl rfl rfl rfl (aop_move rfl) ?_
              refine al_case 52 rfl (fun g2 => ?_) (fun g2 => ?_)
              · (try simp only [sd, se] at g2)
                refine al_stepg rfl rfl rfl rfl (aop_field_ptr fd44 rfl rfl) ?_
                refine al_stepg rfl rfl rfl rfl (aop_load_box_of (i := 0) ty26 rfl rfl rfl rfl) ?_
                refine al_stepg rfl rfl rfl rfl (aop_build fd26 zr26 rfl) ?_
                refine al_stepg rfl rfl rfl rfl (aop_funW rfl rfl (same_c _ (.mk mvk mvi mvn mvl mvs : Tm) (.mk 0 0 ⟨#[]⟩ [] [] : Tm) (Nat.le_refl _) (fewP_one hF (t := (.mk mvk mvi mvn mvl mvs : Tm)) (by simp)).1) (aw (we rfl) (aw (weak_norm rfl) (aw0)))) ?_
                refine al_stepg rfl rfl rfl rfl (aop_not rfl) ?_
                refine al_stepg rfl rfl rfl rfl (aop_pick rfl rfl) ?_
                refine al_step rfl rfl (aop_pick rfl rfl) ?_
                refine al_end rfl ?_
                exact ⟨rfl, rfl, (by first | exact List.Sublist.refl _ | exact List.sublist_cons_self _ _), (by first | exact ⟨_, rfl, fun h => absurd h (by decide)⟩ | exact ⟨_, rfl, fun h => ⟨fun k => by first | exact he (by simp_all) | simp_all, fun k => by first | (simp_all; done) | exact (eqB_iff (b := (.mk 0 0 ⟨#[]⟩ [] [] : Tm))).1 (by simpa using h)⟩⟩), ⟨rfl, rfl, rfl, rfl, trivial⟩⟩
              · (try simp only [sd, se] at g2)
                refine al_pass rfl rfl rfl rfl rfl ?_
                refine al_pass rfl rfl rfl rfl rfl ?_
                refine al_pass rfl rfl rfl rfl rfl ?_
                refine al_pass rfl rfl rfl rfl rfl ?_
                refine al_pass rfl rfl rfl rfl rfl ?_
                refine al_stepg rfl rfl rfl rfl (aop_pick rfl rfl) ?_
                refine al_step rfl rfl (aop_pick rfl rfl) ?_
                refine al_end rfl ?_
                exact ⟨rfl, rfl, (by first | exact List.Sublist.refl _ | exact List.sublist_cons_self _ _), (by first | exact ⟨_, rfl, fun h => absurd h (by decide)⟩ | exact ⟨_, rfl, fun h => ⟨fun k => by first | exact he (by simp_all) | simp_all, fun k => by first | (simp_all; done) | exact (eqB_iff (b := (.mk 0 0 ⟨#[]⟩ [] [] : Tm))).1 (by simpa using h)⟩⟩), ⟨rfl, rfl, rfl, rfl, trivial⟩⟩
          · (try simp only [sd, se] at g)
            refine al_pass rfl rfl rfl rfl rfl ?_
            refine al_pass rfl rfl rfl rfl rfl ?_
            refine al_pass rfl rfl rfl rfl rfl ?_
            refine al_pass rfl rfl rfl rfl rfl ?_
            refine al_pass rfl rfl rfl rfl rfl ?_
            refine al_pass rfl rfl rfl rfl rfl ?_
            refine al_step rfl rfl (aop_pick rfl rfl) ?_
            refine al_step rfl rfl (aop_move rfl) ?_
            refine al_stepg rfl rfl rfl rfl (aop_field_ptr fd44 rfl rfl) ?_
            refine al_stepg rfl rfl rfl rfl (aop_load_box1 (i := 0) ty4 rfl rfl rfl) ?_
            refine al_stepg rfl rfl rfl rfl (aop_not rfl) ?_
            refine al_stepg rfl rfl rfl rfl (aop_move rfl) ?_
            refine al_case 52 rfl (fun g1 => ?_) (fun g1 => ?_)
            · (try simp only [sd, se] at g1)
              refine al_stepg rfl rfl rfl rfl (aop_field_ptr fd44 rfl rfl) ?_
              refine al_stepg rfl rfl rfl rfl (aop_load_box_of (i := 0) ty26 rfl rfl rfl rfl) ?_
              refine al_stepg rfl rfl rfl rfl (aop_build fd26 zr26 rfl) ?_
              refine al_stepg rfl rfl rfl rfl (aop_funW rfl rfl (same_c _ (.mk mvk mvi mvn mvl mvs : Tm) (.mk 0 0 ⟨#[]⟩ [] [] : Tm) (Nat.le_refl _) (fewP_one hF (t := (.mk mvk mvi mvn mvl mvs : Tm)) (by simp)).1) (aw (we rfl) (aw (weak_norm rfl) (aw0)))) ?_
              refine al_stepg rfl rfl rfl rfl (aop_not rfl) ?_
              refine al_stepg rfl rfl rfl rfl (aop_pick rfl rfl) ?_
              refine al_step rfl rfl (aop_pick rfl rfl) ?_
              refine al_end rfl ?_
              exact ⟨rfl, rfl, (by first | exact List.Sublist.refl _ | exact List.sublist_cons_self _ _), (by first | exact ⟨_, rfl, fun h => absurd h (by decide)⟩ | exact ⟨_, rfl, fun h => ⟨fun k => by first | exact he (by simp_all) | simp_all, fun k => by first | (simp_all; done) | exact (eqB_iff (b := (.mk 0 0 ⟨#[]⟩ [] [] : Tm))).1 (by simpa using h)⟩⟩), ⟨rfl, rfl, rfl, rfl, trivial⟩⟩
            · (try simp only [sd, se] at g1)
              refine al_pass rfl rfl rfl rfl rfl ?_
              refine al_pass rfl rfl rfl rfl rfl ?_
              refine al_pass rfl rfl rfl rfl rfl ?_
              refine al_pass rfl rfl rfl rfl rfl ?_
              refine al_pass rfl rfl rfl rfl rfl ?_
              refine al_stepg rfl rfl rfl rfl (aop_pick rfl rfl) ?_
              refine al_step rfl rfl (aop_pick rfl rfl) ?_
              refine al_end rfl ?_
              exact ⟨rfl, rfl, (by first | exact List.Sublist.refl _ | exact List.sublist_cons_self _ _), (by first | exact ⟨_, rfl, fun h => absurd h (by decide)⟩ | exact ⟨_, rfl, fun h => ⟨fun k => by first | exact he (by simp_all) | simp_all, fun k => by first | (simp_all; done) | exact (eqB_iff (b := (.mk 0 0 ⟨#[]⟩ [] [] : Tm))).1 (by simpa using h)⟩⟩), ⟨rfl, rfl, rfl, rfl, trivial⟩⟩
        rintro _ ⟨r, rfl, hr⟩
        refine awp_cond rfl (fun c3 => ?_) (fun c3 => ?_)
        · have c3R := c3
          (try simp only [sd, se] at c3)
          refine awp_seq ?_
          refine awp_region ?_
          refine al_step rfl rfl (aop_assign rfl) ?_
          refine al_end rfl ?_
          refine awp_ret ?_
          refine ⟨rfl, _, [], res_tmp rfl, List.nil_sublist _, ⟨⟨_, rfl, ?_⟩, rfl⟩⟩
          exact fun h => absurd h (by decide)
        · have c3R := c3
          (try simp only [sd, se] at c3)
          obtain ⟨hr1, hr2⟩ := hr (by simpa using c3)
          refine awp_skip ?_
          refine awp_region ?_
          refine al_step rfl rfl (aop_add rfl rfl (by omega) (by omega)) ?_
          refine al_step rfl rfl (aop_move rfl) ?_
          refine al_end rfl ?_
          refine ⟨(i + 1), (by first | omega | (simp only; omega)), ⟨by omega, upto_succ hC hm ⟨(fewP_one hF (by simp)).1, (fewP_one hF (by simp)).1, (by have := nodes_small hF (by omega) hq1; simp only [sizes] at this; simp only; omega), hq3, hr1, hr2⟩⟩, le_mkW ⟨we rfl, we rfl, we rfl, we rfl, trivial⟩ (leH (is := []) rfl (wl0))⟩
    · have c1R := c1
      (try simp only [sd, se] at c1)
      refine awp_exit ?_
      refine awp_seq ?_
      refine awp_region ?_
      refine al_step rfl rfl (aop_assign rfl) ?_
      refine al_end rfl ?_
      refine awp_ret ?_
      refine ⟨rfl, _, [], res_tmp rfl, List.nil_sublist _, ⟨⟨_, rfl, ?_⟩, rfl⟩⟩
      exact fun _ => ⟨by omega, fun m hm => by obtain ⟨j, hj⟩ := mem_of_idx hm; exact hC j (by have := (List.getElem?_eq_some_iff.1 hj).1; omega) m hj⟩

theorem same28_c : ∀ (a b : List Mv), (a.length < big) → (∀ m ∈ a, Nd m.type ∧ Nd m.value) → Fun Tryz.prog 12 [.p (.lst (List.map encM a)), .p (.lst (List.map encM b))] (.p (.bool (eqB a b))) := by
  intro a b h1 h2
  refine acalls_of_awp Tryz.func12 rfl en12 (n := 8) rfl rfl ?_
  refine awp_seq ?_
  refine awp_region ?_
  refine al_step rfl rfl (aop_assign rfl) ?_
  refine al_end rfl ?_
  refine awp_seq ?_
  refine awp_region ?_
  refine al_step rfl rfl (aop_move rfl) ?_
  refine al_step rfl rfl (aop_move rfl) ?_
  refine al_step rfl rfl (aop_fun rfl rfl (equalM_c a b h1 h2) rfl) ?_
  refine al_step rfl rfl (aop_assign rfl) ?_
  refine al_end rfl ?_
  refine awp_ret ?_
  refine ⟨rfl, _, _, ⟨_, _, rfl, rfl, rfl⟩, (List.nil_sublist _), ?_⟩
  all_goals exact ⟨rfl, rfl⟩

end Go.Proofs.YtgfecpjmbgcobaaGreat
/- What the laws on metavariables need. -/
namespace Go.Eu
open Go.Abs
set_option linter.unusedVariables false
set_option linter.unusedSimpArgs false
theorem good_nd {l : List Mv} (h : GoodP l) : ∀ m ∈ l, Nd m.type ∧ Nd m.value := fun m hm => ⟨(h.all m hm).n1, (h.all m hm).n2⟩
theorem fill_agrees {l : List Mv} {t : Tm} (h : GoodP l) (ht : Ok 60 t) (ho : (fillT l 548 light t).2.2.over = false) : fillPT l 548 t = ((fillT l 548 light t).1, (fillT l 548 light t).2.1) ∧ unkPT l 548 t = unkW l 548 light t := by
  have := h.len
  have := ht.sz
  exact ⟨(fill_law (by omega) (good_ok h) ht (by omega) (by omega) ho).1, unk_law (by omega) (good_ok h) ht (by omega) (by omega) ho⟩
end Go.Eu
/- Contracts of functions of the program. -/
namespace Go.Proofs.YtgfecpjmbgcobaaGreat
open Go.Abs Go.Eu
set_option linter.unusedVariables false
set_option linter.unusedSimpArgs false
set_option maxRecDepth 100000
theorem lightG_c : ACalls Tryz.prog 10 [] [] (newG (fun b : Nat => .ptr b 0) (fun b => [.box b ((encC light).map .p)])) := by
  refine acalls_of_awp Tryz.func10 rfl en10 (n := 3) rfl rfl ?_
  refine awp_seq ?_
  refine awp_region ?_
  refine al_step rfl rfl (aop_assign rfl) ?_
  refine al_end rfl ?_
  refine awp_seq ?_
  refine awp_region ?_
  refine al_step rfl rfl (aop_build fd40 zr40 rfl) ?_
  refine al_new rfl rfl (aop_box rfl) fun b2 => ?_
  refine al_step rfl rfl (aop_assign rfl) ?_
  refine al_end rfl ?_
  refine awp_ret ?_
  refine ⟨rfl, _, _, ⟨_, _, rfl, rfl, rfl⟩, (subl (is := [0]) rfl), ?_⟩
  exact ⟨_, rfl, rfl⟩

theorem fillTR2_c : ∀ (n : Nat) (t : Tm) (ms : List Mv) (S : Nat) (b : Nat) (c : Cnt), (size t + (S + 1) * ms.length ≤ n) → (Nd t) → (Wt t) → (ms.length < 1048576) → (MsOk S ms) → (size t * (Mb S ms.length + 2) < 1152921504606846976) → (1 ≤ S) → (size t < 1073741824) → (S < 1073741824) → ACalls Tryz.prog 33 [.p (.lst (List.map encM ms)), .agg ((encT t).map .p), .ptr b 0] [.box b ((encC c).map .p)] (retR (.tup [.agg ((encT ((fillT ms n c t).1)).map .p), .p (I ((fillT ms n c t).2.1))]) [.box b ((encC ((fillT ms n c t).2.2)).map .p)]) := by
  intro n t ms S b c h1 h2 h3 h4 h5 h6 h7 h8 h9
  refine acalls_of_awp Tryz.func33 rfl en33 (n := 24) rfl rfl ?_
  refine awp_seq ?_
  refine awp_region ?_
  refine al_new rfl rfl (aop_box rfl) fun b4 => ?_
  refine al_new rfl rfl (aop_alloc zr26 rfl) fun b6 => ?_
  refine al_step rfl rfl (aop_assign rfl) ?_
  refine al_end rfl ?_
  refine awp_seq ?_
  refine awp_region ?_
  refine al_step rfl rfl (aop_move rfl) ?_
  refine al_step rfl rfl (aop_load_box (i := 1) ty26 rfl rfl (by simp [encT_len])) ?_
  refine al_step rfl rfl (aop_move rfl) ?_
  refine al_step rfl rfl (aop_retW [2] rfl (.inl ⟨rfl, rfl, rfl⟩) (fillR_c n t ms _ [] b c (by rw [free_nil]; exact h1) h2 h3 (by rw [free_nil]; simpa using h4) h5 (by rw [free_nil]; exact h6) h7 (by simp only [big]; omega) h8 h9) ⟨_, _, rfl, rfl, rfl⟩ (by decide) rfl (aw (we rfl) (aw (we rfl) (aw (weak_norm rfl) (aw (we rfl) (aw0)))))) ?_
  refine al_step rfl rfl (aop_move rfl) ?_
  refine al_step rfl rfl (aop_extract rfl rfl) ?_
  refine al_step rfl rfl (aop_extract rfl rfl) ?_
  refine al_new rfl rfl (aop_alloc zr26 rfl) fun b8 => ?_
  refine al_step rfl rfl (aop_store_whole (i := 0) ty26 rfl rfl rfl (by simp [encT_len]) (by first | rfl | simp [encT_len]) (one_Tm _)) ?_
  refine al_step rfl rfl (aop_assign rfl) ?_
  refine al_end rfl ?_
  refine awp_seq ?_
  refine awp_seq ?_
  refine awp_region ?_
  refine al_step rfl rfl (aop_move rfl) ?_
  refine al_step rfl rfl (aop_cmp rfl rfl rfl) ?_
  refine al_end rfl ?_
  refine awp_cond rfl (fun c1 => ?_) (fun c1 => ?_)
  · (try simp only [sd, se] at c1)
    refine awp_region ?_
    refine al_step rfl rfl (aop_move rfl) ?_
    refine al_step rfl rfl (aop_load_box (i := 0) ty26 rfl rfl (by simp [encT_len])) ?_
    refine al_step rfl rfl (aop_retn [3] rfl (.inl ⟨rfl, rfl, rfl⟩) (formC_c b ((fillW ms n [] c t).2.2) ((fillW ms n [] c t).1) 0 (fillW_ok h7 h5 n [] c t h2 h3 (by rw [free_nil]; exact h6)).nd) ⟨_, _, rfl, rfl, rfl⟩ (by decide) rfl (.inl rfl)) ?_
    refine al_end rfl ?_
    refine awp_seq ?_
    refine awp_region ?_
    refine al_step rfl rfl (aop_load_box (i := 0) ty26 rfl rfl (by simp [encT_len])) ?_
    refine al_step rfl rfl (aop_move rfl) ?_
    refine al_step rfl rfl (aop_store_whole (i := 1) ty26 rfl rfl rfl (by simp [encT_len]) (by first | rfl | simp [encT_len]) (one_Tm _)) ?_
    refine al_step rfl rfl (aop_assign rfl) ?_
    refine al_end rfl ?_
    refine awp_ret ?_
    refine ⟨rfl, _, _, ⟨_, _, rfl, (resv_row (i := 1) ty26 rfl rfl (by simp [encT_len])), ⟨_, _, rfl, rfl, rfl⟩⟩, (subl (is := [3]) rfl), ?_⟩
    refine ⟨rfl, ?_⟩
    show ([.box b ((encC (((fillW ms n [] c t).2.2).form ((fillW ms n [] c t).1) 0)).map .p)] : List HObj) = _
    simp only [fillT]; rw [if_pos c1]
  · (try simp only [sd, se] at c1)
    refine awp_skip ?_
    refine awp_seq ?_
    refine awp_region ?_
    refine al_step rfl rfl (aop_load_box (i := 0) ty26 rfl rfl (by simp [encT_len])) ?_
    refine al_step rfl rfl (aop_move rfl) ?_
    refine al_step rfl rfl (aop_store_whole (i := 1) ty26 rfl rfl rfl (by simp [encT_len]) (by first | rfl | simp [encT_len]) (one_Tm _)) ?_
    refine al_step rfl rfl (aop_assign rfl) ?_
    refine al_end rfl ?_
    refine awp_ret ?_
    refine ⟨rfl, _, _, ⟨_, _, rfl, (resv_row (i := 1) ty26 rfl rfl (by simp [encT_len])), ⟨_, _, rfl, rfl, rfl⟩⟩, (subl (is := [3]) rfl), ?_⟩
    refine ⟨rfl, ?_⟩
    show ([.box b ((encC ((fillW ms n [] c t).2.2)).map .p)] : List HObj) = _
    simp only [fillT]; rw [if_neg c1]

end Go.Proofs.YtgfecpjmbgcobaaGreat
