/- Part of the proofs about metavariables: an abstract program logic, plain models and contracts of functions. -/
import Derived.Test.YtgfecpjmbgcobaaGreatPe
import Derived.Test.YtgfecpjmbgcobaaGreatPi
/- Contracts of functions of the program. -/
namespace Go.Proofs.YtgfecpjmbgcobaaGreat
open Go.Abs Go.Eu
set_option linter.unusedVariables false
set_option linter.unusedSimpArgs false
set_option maxRecDepth 100000
theorem sameL_c : ∀ (a b : Lvl), a.vars.length < big → Fun Tryz.prog 61 [LV a, LV b] (.p (.bool (eqB a b))) := by
  intro a b hb
  obtain ⟨ac, av⟩ := a
  obtain ⟨bc, bv⟩ := b
  simp only [big] at hb
  refine acalls_of_awp Tryz.func61 rfl en61 (n := 38) rfl rfl ?_
  refine awp_seq ?_
  refine awp_region ?_
  refine al_new rfl rfl (aop_box rfl) fun b2 => ?_
  refine al_new rfl rfl (aop_box rfl) fun b3 => ?_
  refine al_step rfl rfl (aop_assign rfl) ?_
  refine al_end rfl ?_
  refine awp_seq ?_
  refine awp_seq ?_
  refine awp_meetR [0, 1, 2, 3, 4, 5] 19 (fun y => y = .p (.bool (ac != bc || (av.length : Int) != bv.length))) ?_ ?_
  · refine awp_region ?_
    refine al_step rfl rfl (aop_field_ptr fd49 rfl rfl) ?_
    refine al_step rfl rfl (aop_load_box1 (i := 1) ty3 rfl rfl rfl) ?_
    refine al_step rfl rfl (aop_field_ptr fd49 rfl rfl) ?_
    refine al_step rfl rfl (aop_load_box1 (i := 0) ty3 rfl rfl rfl) ?_
    refine al_step rfl rfl (aop_cmp rfl rfl rfl) ?_
    refine al_step rfl rfl (aop_move rfl) ?_
    refine al_case 11 rfl (fun g1 => ?_) (fun g1 => ?_)
    · (try simp only [sd] at g1)
      refine al_pass rfl rfl rfl rfl rfl ?_
      refine al_pass rfl rfl rfl rfl rfl ?_
      refine al_pass rfl rfl rfl rfl rfl ?_
      refine al_pass rfl rfl rfl rfl rfl ?_
      refine al_pass rfl rfl rfl rfl rfl ?_
      refine al_pass rfl rfl rfl rfl rfl ?_
      refine al_pass rfl rfl rfl rfl rfl ?_
      refine al_step rfl rfl (aop_pick rfl rfl) ?_
      refine al_end rfl ?_
      exact ⟨rfl, rfl, (by first | exact List.Sublist.refl _ | exact List.sublist_cons_self _ _), pB (by simp_all), ⟨rfl, rfl, rfl, rfl, rfl, rfl, trivial⟩⟩
    · (try simp only [sd] at g1)
      refine al_stepg rfl rfl rfl rfl (aop_field_ptr fd49 rfl rfl) ?_
      refine al_stepg rfl rfl rfl rfl (aop_load_box1 (i := 1) ty47 rfl rfl rfl) ?_
      refine al_stepg rfl rfl rfl rfl (aop_len el47 rfl) ?_
      refine al_stepg rfl rfl rfl rfl (aop_field_ptr fd49 rfl rfl) ?_
      refine al_stepg rfl rfl rfl rfl (aop_load_box1 (i := 0) ty47 rfl rfl rfl) ?_
      refine al_stepg rfl rfl rfl rfl (aop_len el47 rfl) ?_
      refine al_stepg rfl rfl rfl rfl (aop_cmp rfl rfl rfl) ?_
      refine al_step rfl rfl (aop_pick rfl rfl) ?_
      refine al_end rfl ?_
      exact ⟨rfl, rfl, (by first | exact List.Sublist.refl _ | exact List.sublist_cons_self _ _), pB (by simp_all), ⟨rfl, rfl, rfl, rfl, rfl, rfl, trivial⟩⟩
  rintro _ rfl
  refine awp_cond rfl (fun c2 => ?_) (fun c2 => ?_)
  · (try simp only [sd] at c2)
    refine awp_seq ?_
    refine awp_region ?_
    refine al_step rfl rfl (aop_assign rfl) ?_
    refine al_end rfl ?_
    refine awp_ret ?_
    refine ⟨rfl, _, [], res_tmp rfl, List.nil_sublist _, ?_⟩
    exact ⟨pB (eqB_false (fun h => by simp at h; simp [h] at *)).symm, rfl⟩
  · (try simp only [sd] at c2)
    have h1 : ac = bc ∧ av.length = bv.length := by simp at c2; omega
    refine awp_skip ?_
    refine awp_seq ?_
    refine awp_seq ?_
    refine awp_region ?_
    refine al_step rfl rfl (aop_assign rfl) ?_
    refine al_end rfl ?_
    refine awp_block ?_
    refine awp_forC (av.length) (fun i => agree av bv i) (fun i => ⟨38, mk [(2, .ptr b2 0), (3, .ptr b3 0), (5, .p (I i))], [.box b3 ((encL ⟨bc, bv⟩).map .p), .box b2 ((encL ⟨ac, av⟩).map .p)], []⟩) (0) (by omega) (agree_zero _ _) ?_ ?_
    · exact le_mk ⟨rfl, rfl, rfl, trivial⟩ (by first | exact List.Sublist.refl _ | exact .cons _ (.refl _) | exact .cons _ (.cons _ (.refl _)) | exact .cons _ (.cons _ (.cons _ (.refl _))) | exact .cons _ (.cons _ (.cons _ (.cons _ (.refl _)))))
    intro i hi hC
    refine awp_seq ?_
    refine awp_seq ?_
    refine awp_region ?_
    refine al_step rfl rfl (aop_move rfl) ?_
    refine al_step rfl rfl (aop_field_ptr fd49 rfl rfl) ?_
    refine al_step rfl rfl (aop_load_box1 (i := 1) ty47 rfl rfl rfl) ?_
    refine al_step rfl rfl (aop_len el47 rfl) ?_
    refine al_step rfl rfl (aop_cmp rfl rfl rfl) ?_
    refine al_end rfl ?_
    refine awp_cond rfl (fun c3 => ?_) (fun c3 => ?_)
    · (try simp only [sd] at c3)
      have hi2 : i < av.length := by simp at c3; omega
      obtain ⟨x, hx⟩ := getElem?_of_lt hi2
      obtain ⟨y, hy⟩ := getElem?_of_lt (l := bv) (i := i) (by omega)
      refine awp_skip ?_
      refine awp_seq ?_
      refine awp_block ?_
      refine awp_seq ?_
      refine awp_dr (fun k => false) mx0 ?_
      refine dr_free rfl rfl (fun _ => aop_field_ptr fd49 rfl rfl) trivial ?_
      refine dr_read (j := 1) rfl rfl rfl (fun H i hi => aop_load_box1 (i := i) ty47 rfl hi rfl) (by repeat' first | exact trivial | refine And.intro ?_ ?_ | exact Or.inl (by kernel_rfl) | (refine Or.inr (And.intro ?_ ?_) <;> repeat (first | exact List.Mem.head _ | apply List.Mem.tail))) trivial ?_
      refine dr_free rfl rfl (fun _ => aop_move rfl) trivial ?_
      refine dr_free rfl rfl (fun _ => aop_index_lst el47 rfl rfl (by omega) (encV_get hx) (rfl)) trivial ?_
      refine dr_free rfl rfl (fun _ => aop_load_ref ty101 rfl (rfl)) trivial ?_
      refine dr_free rfl rfl (fun _ => aop_field_ptr fd49 rfl rfl) trivial ?_
      refine dr_read (j := 0) rfl rfl rfl (fun H i hi => aop_load_box1 (i := i) ty47 rfl hi rfl) (by repeat' first | exact trivial | refine And.intro ?_ ?_ | exact Or.inl (by kernel_rfl) | (refine Or.inr (And.intro ?_ ?_) <;> repeat (first | exact List.Mem.head _ | apply List.Mem.tail))) trivial ?_
      refine dr_free rfl rfl (fun _ => aop_move rfl) trivial ?_
      refine dr_free rfl rfl (fun _ => aop_index_lst el47 rfl rfl (by omega) (encV_get hy) (rfl)) trivial ?_
      refine dr_free rfl rfl (fun _ => aop_load_ref ty101 rfl (rfl)) trivial ?_
      refine dr_free rfl rfl (fun _ => aop_twoNe tw101 rfl rfl) trivial ?_
      refine dr_end rfl (by kernel_rfl) ?_
      refine awp_cond rfl (fun c4 => ?_) (fun c4 => ?_)
      · (try simp only [sd] at c4)
        refine awp_seq ?_
        refine awp_region ?_
        refine al_step rfl rfl (aop_assign rfl) ?_
        refine al_end rfl ?_
        refine awp_ret ?_
        refine ⟨rfl, _, [], res_tmp rfl, List.nil_sublist _, ?_⟩
        exact ⟨pB (eqB_false (fun h => by simp at h; obtain ⟨_, rfl⟩ := h; rw [hx] at hy; injection hy with hy; subst hy; simp_all)).symm, rfl⟩
      · (try simp only [sd] at c4)
        have hxy : x = y := by obtain ⟨x1, x2⟩ := x; obtain ⟨y1, y2⟩ := y; simp at c4; simp [c4]
        subst hxy
        refine awp_skip ?_
        refine awp_region ?_
        refine al_step rfl rfl (aop_move rfl) ?_
        refine al_step rfl rfl (aop_add rfl rfl (by omega) (by omega)) ?_
        refine al_step rfl rfl (aop_assign rfl) ?_
        refine al_end rfl ?_
        exact ⟨by omega, agree_succ hC hx hy, le_mk ⟨rfl, rfl, rfl, trivial⟩ (by first | exact List.Sublist.refl _ | exact .cons _ (.refl _) | exact .cons _ (.cons _ (.refl _)) | exact .cons _ (.cons _ (.cons _ (.refl _))) | exact .cons _ (.cons _ (.cons _ (.cons _ (.refl _)))))⟩
    · (try simp only [sd] at c3)
      have hi2 : i = av.length := by simp at c3; omega
      refine awp_exit ?_
      refine awp_seq ?_
      refine awp_region ?_
      refine al_step rfl rfl (aop_assign rfl) ?_
      refine al_end rfl ?_
      refine awp_ret ?_
      refine ⟨rfl, _, [], res_tmp rfl, List.nil_sublist _, ?_⟩
      exact ⟨pB (eqB_true (by rw [h1.1, agree_all hC (by omega) (by omega)])).symm, rfl⟩

theorem sameLs_c : ∀ (a b : List Lvl), a.length < big → (∀ l ∈ a, NdL l) → Fun Tryz.prog 39 [LsV a, LsV b] (.p (.bool (eqB a b))) := by
  intro a b hb hn
  simp only [big] at hb
  refine acalls_of_awp Tryz.func39 rfl en39 (n := 27) rfl rfl ?_
  refine awp_seq ?_
  refine awp_region ?_
  refine al_step rfl rfl (aop_assign rfl) ?_
  refine al_end rfl ?_
  refine awp_seq ?_
  refine awp_seq ?_
  refine awp_region ?_
  refine al_step rfl rfl (aop_move rfl) ?_
  refine al_step rfl rfl (aop_len el23 rfl) ?_
  refine al_step rfl rfl (aop_move rfl) ?_
  refine al_step rfl rfl (aop_len el23 rfl) ?_
  refine al_step rfl rfl (aop_cmp rfl rfl rfl) ?_
  refine al_end rfl ?_
  refine awp_cond rfl (fun c1 => ?_) (fun c1 => ?_)
  · (try simp only [sd] at c1)
    refine awp_seq ?_
    refine awp_region ?_
    refine al_step rfl rfl (aop_assign rfl) ?_
    refine al_end rfl ?_
    refine awp_ret ?_
    refine ⟨rfl, _, [], res_tmp rfl, List.nil_sublist _, ?_⟩
    exact ⟨pB (eqB_false (fun h => by subst h; simp at *)).symm, rfl⟩
  · (try simp only [sd] at c1)
    have h1 : a.length = b.length := by simp at c1; omega
    refine awp_skip ?_
    refine awp_seq ?_
    refine awp_seq ?_
    refine awp_region ?_
    refine al_step rfl rfl (aop_assign rfl) ?_
    refine al_end rfl ?_
    refine awp_block ?_
    refine awp_forC (a.length) (fun i => agree a b i) (fun i => ⟨27, mk [(0, LsV a), (1, LsV b), (5, .p (I i))], [], []⟩) (0) (by omega) (agree_zero _ _) ?_ ?_
    · exact le_mk ⟨rfl, rfl, rfl, trivial⟩ (by first | exact List.Sublist.refl _ | exact .cons _ (.refl _) | exact .cons _ (.cons _ (.refl _)) | exact .cons _ (.cons _ (.cons _ (.refl _))) | exact .cons _ (.cons _ (.cons _ (.cons _ (.refl _)))))
    intro i hi hC
    refine awp_seq ?_
    refine awp_seq ?_
    refine awp_region ?_
    refine al_step rfl rfl (aop_move rfl) ?_
    refine al_step rfl rfl (aop_move rfl) ?_
    refine al_step rfl rfl (aop_len el23 rfl) ?_
    refine al_step rfl rfl (aop_cmp rfl rfl rfl) ?_
    refine al_end rfl ?_
    refine awp_cond rfl (fun c2 => ?_) (fun c2 => ?_)
    · (try simp only [sd] at c2)
      have hi2 : i < a.length := by simp at c2; omega
      obtain ⟨x, hx⟩ := getElem?_of_lt hi2
      obtain ⟨y, hy⟩ := getElem?_of_lt (l := b) (i := i) (by omega)
      refine awp_skip ?_
      refine awp_seq ?_
      refine awp_block ?_
      refine awp_seq ?_
      refine awp_dr (fun k => false) mx0 ?_
      refine dr_free rfl rfl (fun _ => aop_move rfl) trivial ?_
      refine dr_free rfl rfl (fun _ => aop_move rfl) trivial ?_
      refine dr_free rfl rfl (fun _ => aop_index_lst el23 rfl rfl (by omega) (encL_get hx) (encL_len _)) trivial ?_
      refine dr_free rfl rfl (fun _ => aop_load_ref ty49 rfl (encL_len _)) trivial ?_
      refine dr_free rfl rfl (fun _ => aop_move rfl) trivial ?_
      refine dr_free rfl rfl (fun _ => aop_move rfl) trivial ?_
      refine dr_free rfl rfl (fun _ => aop_index_lst el23 rfl rfl (by omega) (encL_get hy) (encL_len _)) trivial ?_
      refine dr_free rfl rfl (fun _ => aop_load_ref ty49 rfl (encL_len _)) trivial ?_
      refine dr_free rfl rfl (fun _ => aop_fun rfl rfl (sameL_c x y (hn x (List.mem_of_getElem? hx)).vars) rfl) trivial ?_
      refine dr_free rfl rfl (fun _ => aop_not rfl) trivial ?_
      refine dr_end rfl (by kernel_rfl) ?_
      refine awp_cond rfl (fun c3 => ?_) (fun c3 => ?_)
      · (try simp only [sd] at c3)
        refine awp_seq ?_
        refine awp_region ?_
        refine al_step rfl rfl (aop_assign rfl) ?_
        refine al_end rfl ?_
        refine awp_ret ?_
        refine ⟨rfl, _, [], res_tmp rfl, List.nil_sublist _, ?_⟩
        exact ⟨pB (eqB_false (fun h => by subst h; rw [hx] at hy; injection hy with hy; subst hy; simp [eqB_true] at *)).symm, rfl⟩
      · (try simp only [sd] at c3)
        have hxy : x = y := eqB_iff.1 (by simpa using c3)
        subst hxy
        refine awp_skip ?_
        refine awp_region ?_
        refine al_step rfl rfl (aop_move rfl) ?_
        refine al_step rfl rfl (aop_add rfl rfl (by omega) (by omega)) ?_
        refine al_step rfl rfl (aop_assign rfl) ?_
        refine al_end rfl ?_
        exact ⟨by omega, agree_succ hC hx hy, le_mk ⟨rfl, rfl, rfl, trivial⟩ (by first | exact List.Sublist.refl _ | exact .cons _ (.refl _) | exact .cons _ (.cons _ (.refl _)) | exact .cons _ (.cons _ (.cons _ (.refl _))) | exact .cons _ (.cons _ (.cons _ (.cons _ (.refl _)))))⟩
    · (try simp only [sd] at c2)
      have hi2 : i = a.length := by simp at c2; omega
      refine awp_exit ?_
      refine awp_seq ?_
      refine awp_region ?_
      refine al_step rfl rfl (aop_assign rfl) ?_
      refine al_end rfl ?_
      refine awp_ret ?_
      refine ⟨rfl, _, [], res_tmp rfl, List.nil_sublist _, ?_⟩
      exact ⟨pB (eqB_true (agree_all hC (by omega) (by omega))).symm, rfl⟩

theorem same_c : ∀ (n : Nat) (a b : Tm), size a ≤ n → Nd a → Fun Tryz.prog 13 [TV a, TV b] (.p (.bool (eqB a b))) := by
  intro n
  induction n with
  | zero => intro a b h; cases a; simp [size] at h
  | succ n ih =>
    intro a b hs hnd
    obtain ⟨ak, ai, an, al, aks⟩ := a
    obtain ⟨bk, bi, bn, bl, bks⟩ := b
    simp only [size] at hs
    simp only [Nd, big] at hnd
    obtain ⟨hn1, hn2, hn3, hn4, hn5, hn6⟩ := hnd
    refine acalls_of_awp Tryz.func13 rfl en13 (n := 61) rfl rfl ?_
    refine awp_seq ?_
    refine awp_region ?_
    refine al_new rfl rfl (aop_box rfl) fun b2 => ?_
    refine al_new rfl rfl (aop_box rfl) fun b3 => ?_
    refine al_step rfl rfl (aop_assign rfl) ?_
    refine al_end rfl ?_
    refine awp_seq ?_
    refine awp_seq ?_
    refine awp_meetR [0, 1, 2, 3, 4, 5] 41 (fun y => y = .p (.bool (ak != bk || ai != bi || !(an.toList == bn.toList) || !(eqB al bl) || (((encTs aks).length : Int) != (encTs bks).length)))) ?_ ?_
    · refine awp_region ?_
      refine al_step rfl rfl (aop_field_ptr fd26 rfl rfl) ?_
      refine al_step rfl rfl (aop_load_box1 (i := 1) ty3 rfl rfl rfl) ?_
      refine al_step rfl rfl (aop_field_ptr fd26 rfl rfl) ?_
      refine al_step rfl rfl (aop_load_box1 (i := 0) ty3 rfl rfl rfl) ?_
      refine al_step rfl rfl (aop_cmp rfl rfl rfl) ?_
      refine al_step rfl rfl (aop_move rfl) ?_
      refine al_case 11 rfl (fun g1 => ?_) (fun g1 => ?_)
      · (try simp only [sd] at g1)
        refine al_pass rfl rfl rfl rfl rfl ?_
        refine al_pass rfl rfl rfl rfl rfl ?_
        refine al_pass rfl rfl rfl rfl rfl ?_
        refine al_pass rfl rfl rfl rfl rfl ?_
        refine al_pass rfl rfl rfl rfl rfl ?_
        refine al_step rfl rfl (aop_pick rfl rfl) ?_
        refine al_step rfl rfl (aop_move rfl) ?_
        refine al_case 18 rfl (fun g2 => ?_) (fun g2 => ?_)
        · (try simp only [sd] at g2)
          refine al_pass rfl rfl rfl rfl rfl ?_
          refine al_pass rfl rfl rfl rfl rfl ?_
          refine al_pass rfl rfl rfl rfl rfl ?_
          refine al_pass rfl rfl rfl rfl rfl ?_
          refine al_pass rfl rfl rfl rfl rfl ?_
          refine al_step rfl rfl (aop_pick rfl rfl) ?_
          refine al_step rfl rfl (aop_move rfl) ?_
          refine al_case 25 rfl (fun g3 => ?_) (fun g3 => ?_)
          · (try simp only [sd] at g3)
            refine al_pass rfl rfl rfl rfl rfl ?_
            refine al_pass rfl rfl rfl rfl rfl ?_
            refine al_pass rfl rfl rfl rfl rfl ?_
            refine al_pass rfl rfl rfl rfl rfl ?_
            refine al_pass rfl rfl rfl rfl rfl ?_
            refine al_pass rfl rfl rfl rfl rfl ?_
            refine al_step rfl rfl (aop_pick rfl rfl) ?_
            refine al_step rfl rfl (aop_move rfl) ?_
            refine al_case 33 rfl (fun g4 => ?_) (fun g4 => ?_)
            · (try simp only [sd] at g4)
              refine al_pass rfl rfl rfl rfl rfl ?_
              refine al_pass rfl rfl rfl rfl rfl ?_
              refine al_pass rfl rfl rfl rfl rfl ?_
              refine al_pass rfl rfl rfl rfl rfl ?_
              refine al_pass rfl rfl rfl rfl rfl ?_
              refine al_pass rfl rfl rfl rfl rfl ?_
              refine al_pass rfl rfl rfl rfl rfl ?_
              refine al_step rfl rfl (aop_pick rfl rfl) ?_
              refine al_end rfl ?_
              exact ⟨rfl, rfl, (by first | exact List.Sublist.refl _ | exact List.sublist_cons_self _ _), pB (by simp_all), ⟨rfl, rfl, rfl, rfl, rfl, rfl, trivial⟩⟩
            · (try simp only [sd] at g4)
              refine al_stepg rfl rfl rfl rfl (aop_field_ptr fd26 rfl rfl) ?_
              refine al_stepg rfl rfl rfl rfl (aop_load_box1 (i := 1) ty24 rfl rfl rfl) ?_
              refine al_stepg rfl rfl rfl rfl (aop_len el24 rfl) ?_
              refine al_stepg rfl rfl rfl rfl (aop_field_ptr fd26 rfl rfl) ?_
              refine al_stepg rfl rfl rfl rfl (aop_load_box1 (i := 0) ty24 rfl rfl rfl) ?_
              refine al_stepg rfl rfl rfl rfl (aop_len el24 rfl) ?_
              refine al_stepg rfl rfl rfl rfl (aop_cmp rfl rfl rfl) ?_
              refine al_step rfl rfl (aop_pick rfl rfl) ?_
              refine al_end rfl ?_
              exact ⟨rfl, rfl, (by first | exact List.Sublist.refl _ | exact List.sublist_cons_self _ _), pB (by simp_all), ⟨rfl, rfl, rfl, rfl, rfl, rfl, trivial⟩⟩
          · (try simp only [sd] at g3)
            refine al_stepg rfl rfl rfl rfl (aop_field_ptr fd26 rfl rfl) ?_
            refine al_stepg rfl rfl rfl rfl (aop_load_box1 (i := 1) ty23 rfl rfl rfl) ?_
            refine al_stepg rfl rfl rfl rfl (aop_field_ptr fd26 rfl rfl) ?_
            refine al_stepg rfl rfl rfl rfl (aop_load_box1 (i := 0) ty23 rfl rfl rfl) ?_
            refine al_stepg rfl rfl rfl rfl (aop_fun rfl rfl (sameLs_c al bl hn2 hn3) rfl) ?_
            refine al_stepg rfl rfl rfl rfl (aop_not rfl) ?_
            refine al_step rfl rfl (aop_pick rfl rfl) ?_
            refine al_step rfl rfl (aop_move rfl) ?_
            refine al_case 33 rfl (fun g5 => ?_) (fun g5 => ?_)
            · (try simp only [sd] at g5)
              refine al_pass rfl rfl rfl rfl rfl ?_
              refine al_pass rfl rfl rfl rfl rfl ?_
              refine al_pass rfl rfl rfl rfl rfl ?_
              refine al_pass rfl rfl rfl rfl rfl ?_
              refine al_pass rfl rfl rfl rfl rfl ?_
              refine al_pass rfl rfl rfl rfl rfl ?_
              refine al_pass rfl rfl rfl rfl rfl ?_
              refine al_step rfl rfl (aop_pick rfl rfl) ?_
              refine al_end rfl ?_
              exact ⟨rfl, rfl, (by first | exact List.Sublist.refl _ | exact List.sublist_cons_self _ _), pB (by simp_all), ⟨rfl, rfl, rfl, rfl, rfl, rfl, trivial⟩⟩
            · (try simp only [sd] at g5)
              refine al_stepg rfl rfl rfl rfl (aop_field_ptr fd26 rfl rfl) ?_
              refine al_stepg rfl rfl rfl rfl (aop_load_box1 (i := 1) ty24 rfl rfl rfl) ?_
              refine al_stepg rfl rfl rfl rfl (aop_len el24 rfl) ?_
              refine al_stepg rfl rfl rfl rfl (aop_field_ptr fd26 rfl rfl) ?_
              refine al_stepg rfl rfl rfl rfl (aop_load_box1 (i := 0) ty24 rfl rfl rfl) ?_
              refine al_stepg rfl rfl rfl rfl (aop_len el24 rfl) ?_
              refine al_stepg rfl rfl rfl rfl (aop_cmp rfl rfl rfl) ?_
              refine al_step rfl rfl (aop_pick rfl rfl) ?_
              refine al_end rfl ?_
              exact ⟨rfl, rfl, (by first | exact List.Sublist.refl _ | exact List.sublist_cons_self _ _), pB (by simp_all), ⟨rfl, rfl, rfl, rfl, rfl, rfl, trivial⟩⟩
        · (try simp only [sd] at g2)
          refine al_stepg rfl rfl rfl rfl (aop_field_ptr fd26 rfl rfl) ?_
          refine al_stepg rfl rfl rfl rfl (aop_load_box1 (i := 1) ty9 rfl rfl rfl) ?_
          refine al_stepg rfl rfl rfl rfl (aop_field_ptr fd26 rfl rfl) ?_
          refine al_stepg rfl rfl rfl rfl (aop_load_box1 (i := 0) ty9 rfl rfl rfl) ?_
          refine al_stepg rfl rfl rfl rfl (aop_strne rfl rfl) ?_
          refine al_step rfl rfl (aop_pick rfl rfl) ?_
          refine al_step rfl rfl (aop_move rfl) ?_
          refine al_case 25 rfl (fun g6 => ?_) (fun g6 => ?_)
          · (try simp only [sd] at g6)
            refine al_pass rfl rfl rfl rfl rfl ?_
            refine al_pass rfl rfl rfl rfl rfl ?_
            refine al_pass rfl rfl rfl rfl rfl ?_
            refine al_pass rfl rfl rfl rfl rfl ?_
            refine al_pass rfl rfl rfl rfl rfl ?_
            refine al_pass rfl rfl rfl rfl rfl ?_
            refine al_step rfl rfl (aop_pick rfl rfl) ?_
            refine al_step rfl rfl (aop_move rfl) ?_
            refine al_case 33 rfl (fun g7 => ?_) (fun g7 => ?_)
            · (try simp only [sd] at g7)
              refine al_pass rfl rfl rfl rfl rfl ?_
              refine al_pass rfl rfl rfl rfl rfl ?_
              refine al_pass rfl rfl rfl rfl rfl ?_
              refine al_pass rfl rfl rfl rfl rfl ?_
              refine al_pass rfl rfl rfl rfl rfl ?_
              refine al_pass rfl rfl rfl rfl rfl ?_
              refine al_pass rfl rfl rfl rfl rfl ?_
              refine al_step rfl rfl (aop_pick rfl rfl) ?_
              refine al_end rfl ?_
              exact ⟨rfl, rfl, (by first | exact List.Sublist.refl _ | exact List.sublist_cons_self _ _), pB (by simp_all), ⟨rfl, rfl, rfl, rfl, rfl, rfl, trivial⟩⟩
            · (try simp only [sd] at g7)
              refine al_stepg rfl rfl rfl rfl (aop_field_ptr fd26 rfl rfl) ?_
              refine al_stepg rfl rfl rfl rfl (aop_load_box1 (i := 1) ty24 rfl rfl rfl) ?_
              refine al_stepg rfl rfl rfl rfl (aop_len el24 rfl) ?_
              refine al_stepg rfl rfl rfl rfl (aop_field_ptr fd26 rfl rfl) ?_
              refine al_stepg rfl rfl rfl rfl (aop_load_box1 (i := 0) ty24 rfl rfl rfl) ?_
              refine al_stepg rfl rfl rfl rfl (aop_len el24 rfl) ?_
              refine al_stepg rfl rfl rfl rfl (aop_cmp rfl rfl rfl) ?_
              refine al_step rfl rfl (aop_pick rfl rfl) ?_
              refine al_end rfl ?_
              exact ⟨rfl, rfl, (by first | exact List.Sublist.refl _ | exact List.sublist_cons_self _ _), pB (by simp_all), ⟨rfl, rfl, rfl, rfl, rfl, rfl, trivial⟩⟩
          · (try simp only [sd] at g6)
            refine al_stepg rfl rfl rfl rfl (aop_field_ptr fd26 rfl rfl) ?_
            refine al_stepg rfl rfl rfl rfl (aop_load_box1 (i := 1) ty23 rfl rfl rfl) ?_
            refine al_stepg rfl rfl rfl rfl (aop_field_ptr fd26 rfl rfl) ?_
            refine al_stepg rfl rfl rfl rfl (aop_load_box1 (i := 0) ty23 rfl rfl rfl) ?_
            refine al_stepg rfl rfl rfl rfl (aop_fun rfl rfl (sameLs_c al bl hn2 hn3) rfl) ?_
            refine al_stepg rfl rfl rfl rfl (aop_not rfl) ?_
            refine al_step rfl rfl (aop_pick rfl rfl) ?_
            refine al_step rfl rfl (aop_move rfl) ?_
            refine al_case 33 rfl (fun g8 => ?_) (fun g8 => ?_)
            · (try simp only [sd] at g8)
              refine al_pass rfl rfl rfl rfl rfl ?_
              refine al_pass rfl rfl rfl rfl rfl ?_
              refine al_pass rfl rfl rfl rfl rfl ?_
              refine al_pass rfl rfl rfl rfl rfl ?_
              refine al_pass rfl rfl rfl rfl rfl ?_
              refine al_pass rfl rfl rfl rfl rfl ?_
              refine al_pass rfl rfl rfl rfl rfl ?_
              refine al_step rfl rfl (aop_pick rfl rfl) ?_
              refine al_end rfl ?_
              exact ⟨rfl, rfl, (by first | exact List.Sublist.refl _ | exact List.sublist_cons_self _ _), pB (by simp_all), ⟨rfl, rfl, rfl, rfl, rfl, rfl, trivial⟩⟩
            · (try simp only [sd] at g8)
              refine al_stepg rfl rfl rfl rfl (aop_field_ptr fd26 rfl rfl) ?_
              refine al_stepg rfl rfl rfl rfl (aop_load_box1 (i := 1) ty24 rfl rfl rfl) ?_
              refine al_stepg rfl rfl rfl rfl (aop_len el24 rfl) ?_
              refine al_stepg rfl rfl rfl rfl (aop_field_ptr fd26 rfl rfl) ?_
              refine al_stepg rfl rfl rfl rfl (aop_load_box1 (i := 0) ty24 rfl rfl rfl) ?_
              refine al_stepg rfl rfl rfl rfl (aop_len el24 rfl) ?_
              refine al_stepg rfl rfl rfl rfl (aop_cmp rfl rfl rfl) ?_
              refine al_step rfl rfl (aop_pick rfl rfl) ?_
              refine al_end rfl ?_
              exact ⟨rfl, rfl, (by first | exact List.Sublist.refl _ | exact List.sublist_cons_self _ _), pB (by simp_all), ⟨rfl, rfl, rfl, rfl, rfl, rfl, trivial⟩⟩
      · (try simp only [sd] at g1)
        refine al_stepg rfl rfl rfl rfl (aop_field_ptr fd26 rfl rfl) ?_
        refine al_stepg rfl rfl rfl rfl (aop_load_box1 (i := 1) ty3 rfl rfl rfl) ?_
        refine al_stepg rfl rfl rfl rfl (aop_field_ptr fd26 rfl rfl) ?_
        refine al_stepg rfl rfl rfl rfl (aop_load_box1 (i := 0) ty3 rfl rfl rfl) ?_
        refine al_stepg rfl rfl rfl rfl (aop_cmp rfl rfl rfl) ?_
        refine al_step rfl rfl (aop_pick rfl rfl) ?_
        refine al_step rfl rfl (aop_move rfl) ?_
        refine al_case 18 rfl (fun g9 => ?_) (fun g9 => ?_)
        · (try simp only [sd] at g9)
          refine al_pass rfl rfl rfl rfl rfl ?_
          refine al_pass rfl rfl rfl rfl rfl ?_
          refine al_pass rfl rfl rfl rfl rfl ?_
          refine al_pass rfl rfl rfl rfl rfl ?_
          refine al_pass rfl rfl rfl rfl rfl ?_
          refine al_step rfl rfl (aop_pick rfl rfl) ?_
          refine al_step rfl rfl (aop_move rfl) ?_
          refine al_case 25 rfl (fun g10 => ?_) (fun g10 => ?_)
          · (try simp only [sd] at g10)
            refine al_pass rfl rfl rfl rfl rfl ?_
            refine al_pass rfl rfl rfl rfl rfl ?_
            refine al_pass rfl rfl rfl rfl rfl ?_
            refine al_pass rfl rfl rfl rfl rfl ?_
            refine al_pass rfl rfl rfl rfl rfl ?_
            refine al_pass rfl rfl rfl rfl rfl ?_
            refine al_step rfl rfl (aop_pick rfl rfl) ?_
            refine al_step rfl rfl (aop_move rfl) ?_
            refine al_case 33 rfl (fun g11 => ?_) (fun g11 => ?_)
            · (try simp only [sd] at g11)
              refine al_pass rfl rfl rfl rfl rfl ?_
              refine al_pass rfl rfl rfl rfl rfl ?_
              refine al_pass rfl rfl rfl rfl rfl ?_
              refine al_pass rfl rfl rfl rfl rfl ?_
              refine al_pass rfl rfl rfl rfl rfl ?_
              refine al_pass rfl rfl rfl rfl rfl ?_
              refine al_pass rfl rfl rfl rfl rfl ?_
              refine al_step rfl rfl (aop_pick rfl rfl) ?_
              refine al_end rfl ?_
              exact ⟨rfl, rfl, (by first | exact List.Sublist.refl _ | exact List.sublist_cons_self _ _), pB (by simp_all), ⟨rfl, rfl, rfl, rfl, rfl, rfl, trivial⟩⟩
            · (try simp only [sd] at g11)
              refine al_stepg rfl rfl rfl rfl (aop_field_ptr fd26 rfl rfl) ?_
              refine al_stepg rfl rfl rfl rfl (aop_load_box1 (i := 1) ty24 rfl rfl rfl) ?_
              refine al_stepg rfl rfl rfl rfl (aop_len el24 rfl) ?_
              refine al_stepg rfl rfl rfl rfl (aop_field_ptr fd26 rfl rfl) ?_
              refine al_stepg rfl rfl rfl rfl (aop_load_box1 (i := 0) ty24 rfl rfl rfl) ?_
              refine al_stepg rfl rfl rfl rfl (aop_len el24 rfl) ?_
              refine al_stepg rfl rfl rfl rfl (aop_cmp rfl rfl rfl) ?_
              refine al_step rfl rfl (aop_pick rfl rfl) ?_
              refine al_end rfl ?_
              exact ⟨rfl, rfl, (by first | exact List.Sublist.refl _ | exact List.sublist_cons_self _ _), pB (by simp_all), ⟨rfl, rfl, rfl, rfl, rfl, rfl, trivial⟩⟩
          · (try simp only [sd] at g10)
            refine al_stepg rfl rfl rfl rfl (aop_field_ptr fd26 rfl rfl) ?_
            refine al_stepg rfl rfl rfl rfl (aop_load_box1 (i := 1) ty23 rfl rfl rfl) ?_
            refine al_stepg rfl rfl rfl rfl (aop_field_ptr fd26 rfl rfl) ?_
            refine al_stepg rfl rfl rfl rfl (aop_load_box1 (i := 0) ty23 rfl rfl rfl) ?_
            refine al_stepg rfl rfl rfl rfl (aop_fun rfl rfl (sameLs_c al bl hn2 hn3) rfl) ?_
            refine al_stepg rfl rfl rfl rfl (aop_not rfl) ?_
            refine al_step rfl rfl (aop_pick rfl rfl) ?_
            refine al_step rfl rfl (aop_move rfl) ?_
            refine al_case 33 rfl (fun g12 => ?_) (fun g12 => ?_)
            · (try simp only [sd] at g12)
              refine al_pass rfl rfl rfl rfl rfl ?_
              refine al_pass rfl rfl rfl rfl rfl ?_
              refine al_pass rfl rfl rfl rfl rfl ?_
              refine al_pass rfl rfl rfl rfl rfl ?_
              refine al_pass rfl rfl rfl rfl rfl ?_
              refine al_pass rfl rfl rfl rfl rfl ?_
              refine al_pass rfl rfl rfl rfl rfl ?_
              refine al_step rfl rfl (aop_pick rfl rfl) ?_
              refine al_end rfl ?_
              exact ⟨rfl, rfl, (by first | exact List.Sublist.refl _ | exact List.sublist_cons_self _ _), pB (by simp_all), ⟨rfl, rfl, rfl, rfl, rfl, rfl, trivial⟩⟩
            · (try simp only [sd] at g12)
              refine al_stepg rfl rfl rfl rfl (aop_field_ptr fd26 rfl rfl) ?_
              refine al_stepg rfl rfl rfl rfl (aop_load_box1 (i := 1) ty24 rfl rfl rfl) ?_
              refine al_stepg rfl rfl rfl rfl (aop_len el24 rfl) ?_
              refine al_stepg rfl rfl rfl rfl (aop_field_ptr fd26 rfl rfl) ?_
              refine al_stepg rfl rfl rfl rfl (aop_load_box1 (i := 0) ty24 rfl rfl rfl) ?_
              refine al_stepg rfl rfl rfl rfl (aop_len el24 rfl) ?_
              refine al_stepg rfl rfl rfl rfl (aop_cmp rfl rfl rfl) ?_
              refine al_step rfl rfl (aop_pick rfl rfl) ?_
              refine al_end rfl ?_
              exact ⟨rfl, rfl, (by first | exact List.Sublist.refl _ | exact List.sublist_cons_self _ _), pB (by simp_all), ⟨rfl, rfl, rfl, rfl, rfl, rfl, trivial⟩⟩
        · (try simp only [sd] at g9)
          refine al_stepg rfl rfl rfl rfl (aop_field_ptr fd26 rfl rfl) ?_
          refine al_stepg rfl rfl rfl rfl (aop_load_box1 (i := 1) ty9 rfl rfl rfl) ?_
          refine al_stepg rfl rfl rfl rfl (aop_field_ptr fd26 rfl rfl) ?_
          refine al_stepg rfl rfl rfl rfl (aop_load_box1 (i := 0) ty9 rfl rfl rfl) ?_
          refine al_stepg rfl rfl rfl rfl (aop_strne rfl rfl) ?_
          refine al_step rfl rfl (aop_pick rfl rfl) ?_
          refine al_step rfl rfl (aop_move rfl) ?_
          refine al_case 25 rfl (fun g13 => ?_) (fun g13 => ?_)
          · (try simp only [sd] at g13)
            refine al_pass rfl rfl rfl rfl rfl ?_
            refine al_pass rfl rfl rfl rfl rfl ?_
            refine al_pass rfl rfl rfl rfl rfl ?_
            refine al_pass rfl rfl rfl rfl rfl ?_
            refine al_pass rfl rfl rfl rfl rfl ?_
            refine al_pass rfl rfl rfl rfl rfl ?_
            refine al_step rfl rfl (aop_pick rfl rfl) ?_
            refine al_step rfl rfl (aop_move rfl) ?_
            refine al_case 33 rfl (fun g14 => ?_) (fun g14 => ?_)
            · (try simp only [sd] at g14)
              refine al_pass rfl rfl rfl rfl rfl ?_
              refine al_pass rfl rfl rfl rfl rfl ?_
              refine al_pass rfl rfl rfl rfl rfl ?_
              refine al_pass rfl rfl rfl rfl rfl ?_
              refine al_pass rfl rfl rfl rfl rfl ?_
              refine al_pass rfl rfl rfl rfl rfl ?_
              refine al_pass rfl rfl rfl rfl rfl ?_
              refine al_step rfl rfl (aop_pick rfl rfl) ?_
              refine al_end rfl ?_
              exact ⟨rfl, rfl, (by first | exact List.Sublist.refl _ | exact List.sublist_cons_self _ _), pB (by simp_all), ⟨rfl, rfl, rfl, rfl, rfl, rfl, trivial⟩⟩
            · (try simp only [sd] at g14)
              refine al_stepg rfl rfl rfl rfl (aop_field_ptr fd26 rfl rfl) ?_
              refine al_stepg rfl rfl rfl rfl (aop_load_box1 (i := 1) ty24 rfl rfl rfl) ?_
              refine al_stepg rfl rfl rfl rfl (aop_len el24 rfl) ?_
              refine al_stepg rfl rfl rfl rfl (aop_field_ptr fd26 rfl rfl) ?_
              refine al_stepg rfl rfl rfl rfl (aop_load_box1 (i := 0) ty24 rfl rfl rfl) ?_
              refine al_stepg rfl rfl rfl rfl (aop_len el24 rfl) ?_
              refine al_stepg rfl rfl rfl rfl (aop_cmp rfl rfl rfl) ?_
              refine al_step rfl rfl (aop_pick rfl rfl) ?_
              refine al_end rfl ?_
              exact ⟨rfl, rfl, (by first | exact List.Sublist.refl _ | exact List.sublist_cons_self _ _), pB (by simp_all), ⟨rfl, rfl, rfl, rfl, rfl, rfl, trivial⟩⟩
          · (try simp only [sd] at g13)
            refine al_stepg rfl rfl rfl rfl (aop_field_ptr fd26 rfl rfl) ?_
            refine al_stepg rfl rfl rfl rfl (aop_load_box1 (i := 1) ty23 rfl rfl rfl) ?_
            refine al_stepg rfl rfl rfl rfl (aop_field_ptr fd26 rfl rfl) ?_
            refine al_stepg rfl rfl rfl rfl (aop_load_box1 (i := 0) ty23 rfl rfl rfl) ?_
            refine al_stepg rfl rfl rfl rfl (aop_fun rfl rfl (sameLs_c al bl hn2 hn3) rfl) ?_
            refine al_stepg rfl rfl rfl rfl (aop_not rfl) ?_
            refine al_step rfl rfl (aop_pick rfl rfl) ?_
            refine al_step rfl rfl (aop_move rfl) ?_
            refine al_case 33 rfl (fun g15 => ?_) (fun g15 => ?_)
            · (try simp only [sd] at g15)
              refine al_pass rfl rfl rfl rfl rfl ?_
              refine al_pass rfl rfl rfl rfl rfl ?_
              refine al_pass rfl rfl rfl rfl rfl ?_
              refine al_pass rfl rfl rfl rfl rfl ?_
              refine al_pass rfl rfl rfl rfl rfl ?_
              refine al_pass rfl rfl rfl rfl rfl ?_
              refine al_pass rfl rfl rfl rfl rfl ?_
              refine al_step rfl rfl (aop_pick rfl rfl) ?_
              refine al_end rfl ?_
              exact ⟨rfl, rfl, (by first | exact List.Sublist.refl _ | exact List.sublist_cons_self _ _), pB (by simp_all), ⟨rfl, rfl, rfl, rfl, rfl, rfl, trivial⟩⟩
            · (try simp only [sd] at g15)
              refine al_stepg rfl rfl rfl rfl (aop_field_ptr fd26 rfl rfl) ?_
              refine al_stepg rfl rfl rfl rfl (aop_load_box1 (i := 1) ty24 rfl rfl rfl) ?_
              refine al_stepg rfl rfl rfl rfl (aop_len el24 rfl) ?_
              refine al_stepg rfl rfl rfl rfl (aop_field_ptr fd26 rfl rfl) ?_
              refine al_stepg rfl rfl rfl rfl (aop_load_box1 (i := 0) ty24 rfl rfl rfl) ?_
              refine al_stepg rfl rfl rfl rfl (aop_len el24 rfl) ?_
              refine al_stepg rfl rfl rfl rfl (aop_cmp rfl rfl rfl) ?_
              refine al_step rfl rfl (aop_pick rfl rfl) ?_
              refine al_end rfl ?_
              exact ⟨rfl, rfl, (by first | exact List.Sublist.refl _ | exact List.sublist_cons_self _ _), pB (by simp_all), ⟨rfl, rfl, rfl, rfl, rfl, rfl, trivial⟩⟩
    rintro _ rfl
    refine awp_cond rfl (fun c16 => ?_) (fun c16 => ?_)
    · (try simp only [sd] at c16)
      refine awp_seq ?_
      refine awp_region ?_
      refine al_step rfl rfl (aop_assign rfl) ?_
      refine al_end rfl ?_
      refine awp_ret ?_
      refine ⟨rfl, _, [], res_tmp rfl, List.nil_sublist _, ?_⟩
      exact ⟨pB (eqB_false (fun h => by simp at h; simp [h, eqB_true] at *)).symm, rfl⟩
    · (try simp only [sd] at c16)
      have h1 : ak = bk ∧ ai = bi ∧ an.toList = bn.toList ∧ al = bl ∧ aks.length = bks.length := by simp [encTs_len, eqB_iff] at c16; obtain ⟨⟨⟨⟨e1, e2⟩, e3⟩, e4⟩, e5⟩ := c16; exact ⟨e1, e2, e3, e4, by omega⟩
      refine awp_skip ?_
      refine awp_seq ?_
      refine awp_seq ?_
      refine awp_region ?_
      refine al_step rfl rfl (aop_assign rfl) ?_
      refine al_end rfl ?_
      refine awp_block ?_
      refine awp_forC (aks.length) (fun i => agree aks bks i) (fun i => ⟨61, mk [(2, .ptr b2 0), (3, .ptr b3 0), (5, .p (I i))], [.box b3 ((encT (.mk bk bi bn bl bks)).map .p), .box b2 ((encT (.mk ak ai an al aks)).map .p)], []⟩) (0) (by omega) (agree_zero _ _) ?_ ?_
      · exact le_mk ⟨rfl, rfl, rfl, trivial⟩ (by first | exact List.Sublist.refl _ | exact .cons _ (.refl _) | exact .cons _ (.cons _ (.refl _)) | exact .cons _ (.cons _ (.cons _ (.refl _))) | exact .cons _ (.cons _ (.cons _ (.cons _ (.refl _)))))
      intro i hi hC
      refine awp_seq ?_
      refine awp_seq ?_
      refine awp_region ?_
      refine al_step rfl rfl (aop_move rfl) ?_
      refine al_step rfl rfl (aop_field_ptr fd26 rfl rfl) ?_
      refine al_step rfl rfl (aop_load_box1 (i := 1) ty24 rfl rfl rfl) ?_
      refine al_step rfl rfl (aop_len el24 rfl) ?_
      refine al_step rfl rfl (aop_cmp rfl rfl rfl) ?_
      refine al_end rfl ?_
      refine awp_cond rfl (fun c17 => ?_) (fun c17 => ?_)
      · (try simp only [sd] at c17)
        have hi2 : i < aks.length := by simp [encTs_len] at c17; omega
        obtain ⟨x, hx⟩ := getElem?_of_lt hi2
        obtain ⟨y, hy⟩ := getElem?_of_lt (l := bks) (i := i) (by omega)
        refine awp_skip ?_
        refine awp_seq ?_
        refine awp_block ?_
        refine awp_seq ?_
        refine awp_dr (fun k => false) mx0 ?_
        refine dr_free rfl rfl (fun _ => aop_field_ptr fd26 rfl rfl) trivial ?_
        refine dr_read (j := 1) rfl rfl rfl (fun H i hi => aop_load_box1 (i := i) ty24 rfl hi rfl) (by repeat' first | exact trivial | refine And.intro ?_ ?_ | exact Or.inl (by kernel_rfl) | (refine Or.inr (And.intro ?_ ?_) <;> repeat (first | exact List.Mem.head _ | apply List.Mem.tail))) trivial ?_
        refine dr_free rfl rfl (fun _ => aop_move rfl) trivial ?_
        refine dr_free rfl rfl (fun _ => aop_index_lst el24 rfl rfl (by omega) (encTs_get hx) (encT_len _)) trivial ?_
        refine dr_free rfl rfl (fun _ => aop_load_ref ty26 rfl (encT_len _)) trivial ?_
        refine dr_free rfl rfl (fun _ => aop_field_ptr fd26 rfl rfl) trivial ?_
        refine dr_read (j := 0) rfl rfl rfl (fun H i hi => aop_load_box1 (i := i) ty24 rfl hi rfl) (by repeat' first | exact trivial | refine And.intro ?_ ?_ | exact Or.inl (by kernel_rfl) | (refine Or.inr (And.intro ?_ ?_) <;> repeat (first | exact List.Mem.head _ | apply List.Mem.tail))) trivial ?_
        refine dr_free rfl rfl (fun _ => aop_move rfl) trivial ?_
        refine dr_free rfl rfl (fun _ => aop_index_lst el24 rfl rfl (by omega) (encTs_get hy) (encT_len _)) trivial ?_
        refine dr_free rfl rfl (fun _ => aop_load_ref ty26 rfl (encT_len _)) trivial ?_
        refine dr_free rfl rfl (fun _ => aop_fun rfl rfl (ih x y (by have := size_mem hx; omega) (Nds_mem hn5 hx)) rfl) trivial ?_
        refine dr_free rfl rfl (fun _ => aop_not rfl) trivial ?_
        refine dr_end rfl (by kernel_rfl) ?_
        refine awp_cond rfl (fun c18 => ?_) (fun c18 => ?_)
        · (try simp only [sd] at c18)
          refine awp_seq ?_
          refine awp_region ?_
          refine al_step rfl rfl (aop_assign rfl) ?_
          refine al_end rfl ?_
          refine awp_ret ?_
          refine ⟨rfl, _, [], res_tmp rfl, List.nil_sublist _, ?_⟩
          exact ⟨pB (eqB_false (fun h => by simp at h; obtain ⟨_, _, _, _, rfl⟩ := h; rw [hx] at hy; injection hy with hy; subst hy; simp [eqB_true] at *)).symm, rfl⟩
        · (try simp only [sd] at c18)
          have hxy : x = y := eqB_iff.1 (by simpa using c18)
          subst hxy
          refine awp_skip ?_
          refine awp_region ?_
          refine al_step rfl rfl (aop_move rfl) ?_
          refine al_step rfl rfl (aop_add rfl rfl (by omega) (by omega)) ?_
          refine al_step rfl rfl (aop_assign rfl) ?_
          refine al_end rfl ?_
          exact ⟨by omega, agree_succ hC hx hy, le_mk ⟨rfl, rfl, rfl, trivial⟩ (by first | exact List.Sublist.refl _ | exact .cons _ (.refl _) | exact .cons _ (.cons _ (.refl _)) | exact .cons _ (.cons _ (.cons _ (.refl _))) | exact .cons _ (.cons _ (.cons _ (.cons _ (.refl _)))))⟩
      · (try simp only [sd] at c17)
        have hi2 : i = aks.length := by simp [encTs_len] at c17; omega
        refine awp_exit ?_
        refine awp_seq ?_
        refine awp_region ?_
        refine al_step rfl rfl (aop_assign rfl) ?_
        refine al_end rfl ?_
        refine awp_ret ?_
        refine ⟨rfl, _, [], res_tmp rfl, List.nil_sublist _, ?_⟩
        exact ⟨pB (eqB_true (by obtain ⟨e1, e2, e3, e4, e5⟩ := h1; rw [e1, e2, e4, bytes_eq e3, agree_all hC (by omega) (by omega)])).symm, rfl⟩

end Go.Proofs.YtgfecpjmbgcobaaGreat
