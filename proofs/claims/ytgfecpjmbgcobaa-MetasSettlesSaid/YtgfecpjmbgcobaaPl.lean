/- Part of the proofs about metavariables: an abstract program logic, plain models and contracts of functions. -/
import Derived.Test.YtgfecpjmbgcobaaPk
/- Contracts of functions of the program. -/
namespace Go.Proofs.Ytgfecpjmbgcobaa
open Go.Abs Go.Eu
set_option linter.unusedVariables false
set_option linter.unusedSimpArgs false
set_option maxRecDepth 100000
theorem subst_c : ∀ (n : Nat) (t : Tm) (vs : List Tm) (b : Nat) (d er nd : Int), (size t ≤ n) → (Nd t) → (Nds vs) → (sizes vs + d + n < 2 ^ 62) → (0 ≤ d) → ACalls Try.prog 104 [.ptr b 0, .agg ((encT t).map .p), .p (.lst (encTs vs)), .p (I d)] [.box b [.p (I er), .p (I nd)]] (retR (.agg ((encT ((substW vs d er nd t).1)).map .p)) [.box b [.p (I ((substW vs d er nd t).2.1)), .p (I ((substW vs d er nd t).2.2))]]) := by
  intro n
  induction n with
  | zero => intro t vs b d er nd h; cases t; simp [size] at h
  | succ n ih =>
    intro t vs b d er nd h1 h2 h3 h4 h5
    obtain ⟨tk, ti, tn, tl, ts⟩ := t
    simp only [size] at h1
    simp only [Nd, rng, big] at h2
    have hvl := len_le_sizes vs
    refine acalls_of_awp Try.func104 rfl en104 (n := 105) rfl rfl ?_
    refine awp_seq ?_
    refine awp_region ?_
    refine al_new rfl rfl (aop_box rfl) fun b5 => ?_
    refine al_new rfl rfl (aop_alloc zr26 rfl) fun b8 => ?_
    refine al_end rfl ?_
    refine awp_seq ?_
    refine awp_seq ?_
    refine awp_region ?_
    refine al_step rfl rfl (aop_move rfl) ?_
    refine al_step rfl rfl (aop_nilCheck rfl) ?_
    refine al_step rfl rfl (aop_field_ptr fd138 rfl rfl) ?_
    refine al_step rfl rfl (aop_load_box1 (i := 2) ty3 rfl rfl rfl) ?_
    refine al_step rfl rfl (aop_cmp rfl rfl rfl) ?_
    refine al_end rfl ?_
    refine awp_cond rfl (fun c => ?_) (fun c => ?_)
    · (try simp only [sd, se] at c)
      refine awp_seq ?_
      refine awp_region ?_
      refine al_step rfl rfl (aop_load_box (i := 1) ty26 rfl rfl rfl) ?_
      refine al_step rfl rfl (aop_store_box (i := 0) ty26 rfl rfl rfl rfl rfl rfl) ?_
      refine al_end rfl ?_
      refine awp_ret ?_
      refine ⟨rfl, _, _, ⟨_, _, rfl, (resv_row (i := 0) ty26 rfl rfl rfl), rfl⟩, (subl (is := [2]) rfl), ?_⟩
      refine ⟨by show (.agg [.p (I tk), .p (I ti), .p (.str tn), .p (.lst (List.map encL tl)), .p (.lst (encTs ts))] : AV) = _; rw [substW, if_pos (by omega)]; rfl, ?_⟩
      show ([.box b [.p (I er), .p (I nd)]] : List HObj) = _
      rw [substW, if_pos (by omega)]
    · (try simp only [sd, se] at c)
      refine awp_skip ?_
      refine awp_seq ?_
      refine awp_seq ?_
      refine awp_meetR [0, 2, 3, 5, 8] 35 (fun y => y = .p (.bool ((((tk : Int) == (0 : Int)) && (decide ((ti : Int) ≥ (d : Int)))) && (decide (((ti : Int) - (d : Int) : Int) < ((vs.length : Nat) : Int)))))) ?_ ?_
      · refine awp_region ?_
        refine al_step rfl rfl (aop_field_ptr fd26 rfl rfl) ?_
        refine al_step rfl rfl (aop_load_box1 (i := 1) ty3 rfl rfl rfl) ?_
        refine al_step rfl rfl (aop_cmp rfl rfl rfl) ?_
        refine al_step rfl rfl (aop_move rfl) ?_
        refine al_case 21 rfl (fun g => ?_) (fun g => ?_)
        · (try simp only [sd, se] at g)
          refine al_stepg rfl rfl rfl rfl (aop_field_ptr fd26 rfl rfl) ?_
          refine al_stepg rfl rfl rfl rfl (aop_load_box1 (i := 1) ty3 rfl rfl rfl) ?_
          refine al_stepg rfl rfl rfl rfl (aop_move rfl) ?_
          refine al_stepg rfl rfl rfl rfl (aop_cmp rfl rfl rfl) ?_
          refine al_step rfl rfl (aop_pick rfl rfl) ?_
          refine al_step rfl rfl (aop_move rfl) ?_
          refine al_case 27 rfl (fun g1 => ?_) (fun g1 => ?_)
          · (try simp only [sd, se] at g1)
            refine al_stepg rfl rfl rfl rfl (aop_field_ptr fd26 rfl rfl) ?_
            refine al_stepg rfl rfl rfl rfl (aop_load_box1 (i := 1) ty3 rfl rfl rfl) ?_
            refine al_stepg rfl rfl rfl rfl (aop_move rfl) ?_
            refine al_stepg rfl rfl rfl rfl (aop_sub rfl rfl (by omega) (by omega)) ?_
            refine al_stepg rfl rfl rfl rfl (aop_move rfl) ?_
            refine al_stepg rfl rfl rfl rfl (aop_lenE el24 rfl (encTs_len _)) ?_
            refine al_stepg rfl rfl rfl rfl (aop_cmp rfl rfl rfl) ?_
            refine al_step rfl rfl (aop_pick rfl rfl) ?_
            refine al_end rfl ?_
            exact ⟨rfl, rfl, (by first | exact List.Sublist.refl _ | exact List.sublist_cons_self _ _), (by first | rfl | (refine pB ?_; simp_all; done) | (refine pB ?_; simp_all <;> (intros; omega))), ⟨rfl, rfl, rfl, rfl, rfl, trivial⟩⟩
          · (try simp only [sd, se] at g1)
            refine al_pass rfl rfl rfl rfl rfl ?_
            refine al_pass rfl rfl rfl rfl rfl ?_
            refine al_pass rfl rfl rfl rfl rfl ?_
            refine al_pass rfl rfl rfl rfl rfl ?_
            refine al_pass rfl rfl rfl rfl rfl ?_
            refine al_pass rfl rfl rfl rfl rfl ?_
            refine al_pass rfl rfl rfl rfl rfl ?_
            refine al_step rfl rfl (aop_pick rfl rfl) ?_
            refine al_end rfl ?_
            exact ⟨rfl, rfl, (by first | exact List.Sublist.refl _ | exact List.sublist_cons_self _ _), (by first | rfl | (refine pB ?_; simp_all; done) | (refine pB ?_; simp_all <;> (intros; omega))), ⟨rfl, rfl, rfl, rfl, rfl, trivial⟩⟩
        · (try simp only [sd, se] at g)
          refine al_pass rfl rfl rfl rfl rfl ?_
          refine al_pass rfl rfl rfl rfl rfl ?_
          refine al_pass rfl rfl rfl rfl rfl ?_
          refine al_pass rfl rfl rfl rfl rfl ?_
          refine al_step rfl rfl (aop_pick rfl rfl) ?_
          refine al_step rfl rfl (aop_move rfl) ?_
          refine al_pass rfl rfl rfl rfl rfl ?_
          refine al_pass rfl rfl rfl rfl rfl ?_
          refine al_pass rfl rfl rfl rfl rfl ?_
          refine al_pass rfl rfl rfl rfl rfl ?_
          refine al_pass rfl rfl rfl rfl rfl ?_
          refine al_pass rfl rfl rfl rfl rfl ?_
          refine al_pass rfl rfl rfl rfl rfl ?_
          refine al_step rfl rfl (aop_pick rfl rfl) ?_
          refine al_end rfl ?_
          exact ⟨rfl, rfl, (by first | exact List.Sublist.refl _ | exact List.sublist_cons_self _ _), (by first | rfl | (refine pB ?_; simp_all; done) | (refine pB ?_; simp_all <;> (intros; omega))), ⟨rfl, rfl, rfl, rfl, rfl, trivial⟩⟩
      rintro _ rfl
      refine awp_cond rfl (fun c1 => ?_) (fun c1 => ?_)
      · (try simp only [sd, se] at c1)
        refine awp_seq ?_
        refine awp_region ?_
        refine al_step rfl rfl (aop_move rfl) ?_
        refine al_step rfl rfl (aop_field_ptr fd26 rfl rfl) ?_
        refine al_step rfl rfl (aop_load_box1 (i := 1) ty3 rfl rfl rfl) ?_
        refine al_step rfl rfl (aop_move rfl) ?_
        refine al_step rfl rfl (aop_sub rfl rfl (by omega) (by omega)) ?_
        obtain ⟨x, hx⟩ := getElem?_of_lt (l := vs) (i := ((ti : Int) - (d : Int) : Int).toNat) (by omega)
        refine al_step rfl rfl (aop_index_lst el24 rfl rfl (by omega) (encTs_get hx) (encT_len _)) ?_
        refine al_step rfl rfl (aop_load_ref ty26 rfl (encT_len _)) ?_
        refine al_new rfl rfl (aop_alloc zr26 rfl) fun b9 => ?_
        refine al_step rfl rfl (aop_store_whole (i := 0) ty26 rfl rfl rfl (by simp [encT_len]) (by first | rfl | simp [encT_len]) (one_Tm _)) ?_
        refine al_end rfl ?_
        refine awp_seq ?_
        refine awp_dr (fun k => false) mx0 ?_
        refine dr_free rfl rfl (fun _ => aop_move rfl) trivial ?_
        refine dr_free rfl rfl (fun _ => aop_nilCheck rfl) trivial ?_
        refine dr_free rfl rfl (fun _ => aop_field_ptr fd138 rfl rfl) trivial ?_
        refine dr_read (j := 3) rfl rfl rfl (fun H i hi => aop_load_box1 (i := i) ty3 rfl hi rfl) (by repeat' first | exact trivial | refine And.intro ?_ ?_ | ((refine Or.inr (And.intro ?_ ?_) <;> repeat (first | exact List.Mem.head _ | apply List.Mem.tail)); done) | exact Or.inl (by kernel_rfl)) trivial ?_
        refine dr_read (j := 0) rfl rfl rfl (fun H i hi => aop_load_box (i := i) ty26 rfl hi (by simp [encT_len])) (by repeat' first | exact trivial | refine And.intro ?_ ?_ | ((refine Or.inr (And.intro ?_ ?_) <;> repeat (first | exact List.Mem.head _ | apply List.Mem.tail)); done) | exact Or.inl (by kernel_rfl)) trivial ?_
        refine dr_free rfl rfl (fun _ => aop_fun rfl rfl (sizeR_c _ x (Nat.le_refl _) (Nds_mem h3 hx)) rfl) trivial ?_
        refine dr_free rfl rfl (fun _ => aop_addw rfl rfl) trivial ?_
        refine dr_free rfl rfl (fun _ => aop_nilCheck rfl) trivial ?_
        refine dr_free rfl rfl (fun _ => aop_field_ptr fd138 rfl rfl) trivial ?_
        refine dr_eff rfl rfl (aop_store_box (i := 3) ty3 rfl rfl rfl rfl rfl rfl) (by repeat' first | exact trivial | refine And.intro ?_ ?_ | ((refine Or.inr (And.intro ?_ ?_) <;> repeat (first | exact List.Mem.head _ | apply List.Mem.tail)); done) | exact Or.inl (by kernel_rfl)) trivial ?_
        refine dr_end rfl (by kernel_rfl) ?_
        refine awp_seq ?_
        refine awp_region ?_
        refine al_step rfl rfl (aop_move rfl) ?_
        refine al_step rfl rfl (aop_load_box (i := 0) ty26 rfl rfl (by simp [encT_len])) ?_
        refine al_step rfl rfl (aop_move rfl) ?_
        refine al_step rfl rfl (aop_retn [3] rfl (.inl ⟨rfl, rfl, rfl⟩) (shift_c _ x b d 0 0 er (wr ((nd : Int) + (sizeW x : Int))) (Nat.le_refl _) (Nds_mem h3 hx) (by omega) (by have := size_mem hx; omega)) ⟨_, _, rfl, rfl, rfl⟩ (by decide) rfl (.inl rfl)) ?_
        refine al_step rfl rfl (aop_store_whole (i := 1) ty26 rfl rfl rfl (by simp [encT_len]) (by first | rfl | simp [encT_len]) (one_Tm _)) ?_
        refine al_end rfl ?_
        refine awp_ret ?_
        refine ⟨rfl, _, _, ⟨_, _, rfl, (resv_row (i := 1) ty26 rfl rfl (by simp [encT_len])), rfl⟩, (subl (is := [3]) rfl), ?_⟩
        refine ⟨by show (.agg ((encT ((shiftW d 0 0 er x).1)).map .p) : AV) = _; rw [substW, if_neg (by omega), if_pos (by omega), getD_of hx], ?_⟩
        show ([.box b [.p (I ((shiftW d 0 0 er x).2)), .p (I (wr ((nd : Int) + (sizeW x : Int))))]] : List HObj) = _
        rw [substW, if_neg (by omega), if_pos (by omega), getD_of hx]
      · (try simp only [sd, se] at c1)
        refine awp_skip ?_
        refine awp_seq ?_
        refine awp_region ?_
        refine al_step rfl rfl (aop_move rfl) ?_
        refine al_step rfl rfl (aop_nilCheck rfl) ?_
        refine al_step rfl rfl (aop_field_ptr fd138 rfl rfl) ?_
        refine al_step rfl rfl (aop_load_box1 (i := 2) ty3 rfl rfl rfl) ?_
        refine al_step rfl rfl (aop_addw rfl rfl) ?_
        refine al_step rfl rfl (aop_nilCheck rfl) ?_
        refine al_step rfl rfl (aop_field_ptr fd138 rfl rfl) ?_
        refine al_step rfl rfl (aop_store_box (i := 2) ty3 rfl rfl rfl rfl rfl rfl) ?_
        refine al_end rfl ?_
        refine awp_seq ?_
        refine awp_seq ?_
        refine awp_region ?_
        refine al_step rfl rfl (aop_field_ptr fd26 rfl rfl) ?_
        refine al_step rfl rfl (aop_load_box1 (i := 1) ty3 rfl rfl rfl) ?_
        refine al_step rfl rfl (aop_cmp rfl rfl rfl) ?_
        refine al_end rfl ?_
        refine awp_cond rfl (fun c2 => ?_) (fun c2 => ?_)
        · (try simp only [sd, se] at c2)
          refine awp_seq ?_
          refine awp_seq ?_
          refine awp_region ?_
          refine al_step rfl rfl (aop_field_ptr fd26 rfl rfl) ?_
          refine al_step rfl rfl (aop_load_box1 (i := 1) ty3 rfl rfl rfl) ?_
          refine al_step rfl rfl (aop_move rfl) ?_
          refine al_step rfl rfl (aop_cmp rfl rfl rfl) ?_
          refine al_end rfl ?_
          refine awp_cond rfl (fun c3 => ?_) (fun c3 => ?_)
          · (try simp only [sd, se] at c3)
            refine awp_seq ?_
            refine awp_region ?_
            refine al_step rfl rfl (aop_move rfl) ?_
            refine al_step rfl rfl (aop_field_ptr fd26 rfl rfl) ?_
            refine al_step rfl rfl (aop_load_box1 (i := 1) ty3 rfl rfl rfl) ?_
            refine al_step rfl rfl (aop_move rfl) ?_
            refine al_step rfl rfl (aop_lenE el24 rfl (encTs_len _)) ?_
            refine al_step rfl rfl (aop_subw rfl rfl) ?_
            refine al_step rfl rfl (aop_retn [2] rfl (.inl ⟨rfl, rfl, rfl⟩) (variable_c b er (wr ((nd : Int) + (1 : Int))) (wr ((ti : Int) - ((vs.length : Nat) : Int)))) ⟨_, _, rfl, rfl, rfl⟩ (by decide) rfl (.inl rfl)) ?_
            refine al_step rfl rfl (aop_store_whole (i := 0) ty26 rfl rfl rfl (by simp [encT_len]) (by first | rfl | simp [encT_len]) (one_Tm _)) ?_
            refine al_end rfl ?_
            refine awp_ret ?_
            refine ⟨rfl, _, _, ⟨_, _, rfl, (resv_row (i := 0) ty26 rfl rfl (by simp [encT_len])), rfl⟩, (subl (is := [2]) rfl), ?_⟩
            refine ⟨by show (.agg ((encT (varT (wr ((ti : Int) - ((vs.length : Nat) : Int))))).map .p) : AV) = _; rw [substW, if_neg (by omega), if_neg (by omega), if_pos (by omega), if_pos (by omega)], ?_⟩
            show ([.box b [.p (I (varE er (wr ((ti : Int) - ((vs.length : Nat) : Int))))), .p (I (wr ((nd : Int) + (1 : Int))))]] : List HObj) = _
            rw [substW, if_neg (by omega), if_neg (by omega), if_pos (by omega), if_pos (by omega)]
          · (try simp only [sd, se] at c3)
            refine awp_skip ?_
            refine awp_seq ?_
            refine awp_region ?_
            refine al_step rfl rfl (aop_load_box (i := 1) ty26 rfl rfl rfl) ?_
            refine al_step rfl rfl (aop_store_box (i := 0) ty26 rfl rfl rfl rfl rfl rfl) ?_
            refine al_end rfl ?_
            refine awp_ret ?_
            refine ⟨rfl, _, _, ⟨_, _, rfl, (resv_row (i := 0) ty26 rfl rfl rfl), rfl⟩, (subl (is := [2]) rfl), ?_⟩
            refine ⟨by show (.agg [.p (I tk), .p (I ti), .p (.str tn), .p (.lst (List.map encL tl)), .p (.lst (encTs ts))] : AV) = _; rw [substW, if_neg (by omega), if_neg (by omega), if_pos (by omega), if_neg (by omega)]; rfl, ?_⟩
            show ([.box b [.p (I er), .p (I (wr ((nd : Int) + (1 : Int))))]] : List HObj) = _
            rw [substW, if_neg (by omega), if_neg (by omega), if_pos (by omega), if_neg (by omega)]
        · (try simp only [sd, se] at c2)
          refine awp_skip ?_
          refine awp_seq ?_
          refine awp_region ?_
          refine al_step rfl rfl (aop_assign rfl) ?_
          refine al_end rfl ?_
          refine awp_seq ?_
          refine awp_seq ?_
          refine awp_region ?_
          refine al_step rfl rfl (aop_assign rfl) ?_
          refine al_end rfl ?_
          refine awp_block ?_
          refine awp_ghost (ghost_own (t := 10) (sz := 5) rfl) ?_
          refine awp_while (α := Nat × List Tm × Int × Int × Option Nat × Nat) (fun (i, ys, e, m, o, cp) => ⟨105, mk [(0, .ptr b 0), (2, .p (.lst (encTs vs))), (3, .p (I d)), (5, .ptr b5 0), (8, .ptr b8 0), (10, .vs o (encTs ys).length cp), (11, .p (I (i : Int)))], [.vec o 5 (encTs ys) cp, .box b8 [.p (I 0), .p (I 0), .p (.str ⟨#[]⟩), .p (.nils), .p (.nils)], .box b5 [.p (I tk), .p (I ti), .p (.str tn), .p (.lst (List.map encL tl)), .p (.lst (encTs ts))], .box b [.p (I e), .p (I m)]], []⟩) (fun (i, ys, e, m, o, cp) => ts.length - i) (fun (i, ys, e, m, o, cp) => i ≤ ts.length ∧ (ys.length = i ∧ (ys ++ (substsW vs tk d i e m (ts.drop i)).1, (substsW vs tk d i e m (ts.drop i)).2) = substsW vs tk d 0 er (wr (nd + 1)) ts)) ⟨0, [], er, wr (nd + 1), none, 0⟩ (by simp) ?_ ?_
          · exact le_mkW ⟨we rfl, we rfl, we rfl, we rfl, we rfl, we rfl, we rfl, trivial⟩ (leH (is := [0, 1, 2, 3]) rfl (wl (oe rfl) (wl (oe rfl) (wl (oe rfl) (wl (oe rfl) (wl0))))))
          rintro ⟨i, ys, e, m, o, cp⟩ hC
          try simp only at hC
          obtain ⟨hi, hl, hC⟩ := hC
          refine awp_seq ?_
          refine awp_seq ?_
          refine awp_region ?_
          refine al_step rfl rfl (aop_move rfl) ?_
          refine al_step rfl rfl (aop_field_ptr fd26 rfl rfl) ?_
          refine al_step rfl rfl (aop_load_box1 (i := 2) ty24 rfl rfl rfl) ?_
          refine al_step rfl rfl (aop_lenE el24 rfl (encTs_len _)) ?_
          refine al_step rfl rfl (aop_cmp rfl rfl rfl) ?_
          refine al_end rfl ?_
          refine awp_cond rfl (fun c3 => ?_) (fun c3 => ?_)
          · (try simp only [sd, se] at c3)
            refine awp_skip ?_
            refine awp_seq ?_
            refine awp_block ?_
            refine awp_dr (fun k => Nat.beq k 16) mx0 ?_
            refine dr_free rfl rfl (fun _ => aop_move rfl) trivial ?_
            refine dr_free rfl rfl (fun _ => aop_move rfl) trivial ?_
            refine dr_free rfl rfl (fun _ => aop_field_ptr fd26 rfl rfl) trivial ?_
            refine dr_read (j := 2) rfl rfl rfl (fun H i hi => aop_load_box1 (i := i) ty24 rfl hi rfl) (by repeat' first | exact trivial | refine And.intro ?_ ?_ | ((refine Or.inr (And.intro ?_ ?_) <;> repeat (first | exact List.Mem.head _ | apply List.Mem.tail)); done) | exact Or.inl (by kernel_rfl)) trivial ?_
            refine dr_free rfl rfl (fun _ => aop_move rfl) trivial ?_
            obtain ⟨x, hx⟩ := getElem?_of_lt (l := ts) (i := i) (by omega)
            refine dr_free rfl rfl (fun _ => aop_index_lst el24 rfl rfl (by omega) (encTs_get hx) (encT_len _)) trivial ?_
            refine dr_free rfl rfl (fun _ => aop_load_ref ty26 rfl (encT_len _)) trivial ?_
            refine dr_free rfl rfl (fun _ => aop_move rfl) trivial ?_
            refine dr_free rfl rfl (fun _ => aop_move rfl) trivial ?_
            refine dr_free rfl rfl (fun _ => aop_field_ptr fd26 rfl rfl) trivial ?_
            refine dr_read (j := 2) rfl rfl rfl (fun H i hi => aop_load_box1 (i := i) ty3 rfl hi rfl) (by repeat' first | exact trivial | refine And.intro ?_ ?_ | ((refine Or.inr (And.intro ?_ ?_) <;> repeat (first | exact List.Mem.head _ | apply List.Mem.tail)); done) | exact Or.inl (by kernel_rfl)) trivial ?_
            refine dr_free rfl rfl (fun _ => aop_move rfl) trivial ?_
            refine dr_free rfl rfl (fun _ => aop_fun rfl rfl (below_c tk (i : Int)) rfl) trivial ?_
            refine dr_free rfl rfl (fun _ => aop_add rfl rfl (by have := below_le tk i; omega) (by have := below_le tk i; omega)) trivial ?_
            refine dr_eff rfl rfl (aop_retn [3] rfl (.inl ⟨rfl, rfl, rfl⟩) (ih x vs b ((d : Int) + (below tk (i : Int) : Int)) e m (by have := size_mem hx; omega) (Nds_mem h2.2.2.2.2.1 hx) h3 (by have := below_le tk i; omega) (by have := below_le tk i; omega)) ⟨_, _, rfl, rfl, rfl⟩ (by decide) rfl (.inl rfl)) (by repeat' first | exact trivial | refine And.intro ?_ ?_ | ((refine Or.inr (And.intro ?_ ?_) <;> repeat (first | exact List.Mem.head _ | apply List.Mem.tail)); done) | exact Or.inl (by kernel_rfl)) trivial ?_
            generalize hz : (substW vs ((d : Int) + (below tk (i : Int) : Int)) e m x).1 = z
            obtain ⟨zk, zi, zn, zl, zs⟩ := z
            refine dr_free rfl rfl (fun _ => aop_buildSlice el24 zr26 rfl rfl rfl rfl rfl) trivial ?_
            refine dr_app [] rfl rfl (aop_append2 (i := 0) (rows' := encTs [(.mk zk zi zn zl zs : Tm)]) el24 el24 zr26 rfl rfl rfl rfl rfl rfl (solid_Tm _) (by simp only [encTs_len, List.length_map, List.length_cons, List.length_nil, List.nil_append, List.length_append]; omega) (vn_Tm ys [(.mk zk zi zn zl zs : Tm)])) (by kernel_rfl) fun o1 cp1 => ⟨(by repeat' first | exact trivial | refine And.intro ?_ ?_ | ((refine Or.inr (And.intro ?_ ?_) <;> repeat (first | exact List.Mem.head _ | apply List.Mem.tail)); done) | exact Or.inl (by kernel_rfl)), trivial, ?_⟩
            refine dr_free rfl rfl (fun _ => aop_assign rfl) trivial ?_
            refine dr_end rfl (by kernel_rfl) ?_
            refine awp_region ?_
            refine al_step rfl rfl (aop_move rfl) ?_
            refine al_step rfl rfl (aop_add rfl rfl (by omega) (by omega)) ?_
            refine al_step rfl rfl (aop_assign rfl) ?_
            refine al_end rfl ?_
            refine ⟨⟨i + 1, ys ++ [(substW vs (d + below tk i) e m x).1], (substW vs (d + below tk i) e m x).2.1, (substW vs (d + below tk i) e m x).2.2, o1, cp1⟩, (by first | omega | (simp only; omega)), ⟨by omega, ⟨by simp [hl], by rw [← hC, drop_at hx]; simp [substsW]⟩⟩, le_mkW ⟨we rfl, we rfl, we rfl, we rfl, we rfl, we (vsE_Tm (ys ++ [(.mk zk zi zn zl zs : Tm)]) (by rw [hz])), we rfl, trivial⟩ (leH (is := [0, 1, 2, 3]) rfl (wl (ovE_Tm (ys ++ [(.mk zk zi zn zl zs : Tm)]) (by rw [hz])) (wl (oe rfl) (wl (oe rfl) (wl (oe rfl) (wl0))))))⟩
          · (try simp only [sd, se] at c3)
            refine awp_exit ?_
            refine awp_seq ?_
            refine awp_region ?_
            refine al_step rfl rfl (aop_move rfl) ?_
            refine al_step rfl rfl (aop_field_ptr fd26 rfl rfl) ?_
            refine al_ghost (ghost_freeze (i := 0) [10, 102] rfl (memall ⟨rfl, rfl, trivial⟩)) ?_
            refine al_step rfl rfl (aop_store_box (i := 1) ty24 rfl rfl rfl rfl rfl rfl) ?_
            refine al_end rfl ?_
            refine awp_seq ?_
            refine awp_region ?_
            refine al_step rfl rfl (aop_load_box (i := 1) ty26 rfl rfl rfl) ?_
            refine al_step rfl rfl (aop_store_box (i := 0) ty26 rfl rfl rfl rfl rfl rfl) ?_
            refine al_end rfl ?_
            refine awp_ret ?_
            refine ⟨rfl, _, _, ⟨_, _, rfl, (resv_row (i := 0) ty26 rfl rfl rfl), rfl⟩, (subl (is := [2]) rfl), ?_⟩
            refine ⟨by show (.agg [.p (I tk), .p (I ti), .p (.str tn), .p (.lst (List.map encL tl)), .p (.lst (encTs ys))] : AV) = _; rw [substW, if_neg (by omega), if_neg (by omega), if_neg (by omega)]; rw [show i = ts.length by omega, List.drop_length] at hC; rw [← hC]; simp [substsW]; rfl, ?_⟩
            show ([.box b [.p (I e), .p (I m)]] : List HObj) = _
            rw [substW, if_neg (by omega), if_neg (by omega), if_neg (by omega)]; rw [show i = ts.length by omega, List.drop_length] at hC; rw [← hC]; simp [substsW]

theorem underR_c : ∀ (t : Tm) (vs : List Tm) (d : Int), (size t < 2 ^ 60) → (Nd t) → (Nds vs) → (sizes vs < 2 ^ 60) → (0 ≤ d) → Fun Try.prog 98 [.agg ((encT t).map .p), .p (.lst (encTs vs)), .p (I d)] (.tup [.agg ((encT ((underW t vs d).1)).map .p), .p (I ((underW t vs d).2))]) := by
  intro t vs d h1 h2 h3 h4 h5
  generalize hr : substW vs (min d 65536) 0 0 t = r
  refine acalls_of_awp Try.func98 rfl en98 (n := 42) rfl rfl ?_
  refine awp_seq ?_
  refine awp_region ?_
  refine al_new rfl rfl (aop_box rfl) fun b3 => ?_
  refine al_new rfl rfl (aop_alloc zr26 rfl) fun b6 => ?_
  refine al_step rfl rfl (aop_assign rfl) ?_
  refine al_end rfl ?_
  refine awp_seq ?_
  refine awp_seq ?_
  refine awp_region ?_
  refine al_step rfl rfl (aop_move rfl) ?_
  refine al_step rfl rfl (aop_cmp rfl rfl rfl) ?_
  refine al_end rfl ?_
  refine awp_cond rfl (fun c => ?_) (fun c => ?_)
  · (try simp only [sd, se] at c)
    refine awp_seq ?_
    refine awp_region ?_
    refine al_step rfl rfl (aop_build fd26 zr26 rfl) ?_
    refine al_step rfl rfl (aop_store_box (i := 0) ty26 rfl rfl rfl rfl rfl rfl) ?_
    refine al_step rfl rfl (aop_assign rfl) ?_
    refine al_end rfl ?_
    refine awp_ghost (ghost_box (i := 0) rfl) ?_
    refine awp_ret ?_
    exact absurd c (by omega)
  · (try simp only [sd, se] at c)
    refine awp_skip ?_
    refine awp_seq ?_
    refine awp_region ?_
    refine al_step rfl rfl (aop_build fd138 zr138 rfl) ?_
    refine al_new rfl rfl (aop_box rfl) fun b14 => ?_
    refine al_step rfl rfl (aop_assign rfl) ?_
    refine al_end rfl ?_
    refine awp_seq ?_
    refine awp_region ?_
    refine al_step rfl rfl (aop_move rfl) ?_
    refine al_step rfl rfl (aop_load_box (i := 2) ty26 rfl rfl (by simp [encT_len])) ?_
    refine al_step rfl rfl (aop_move rfl) ?_
    refine al_step rfl rfl (aop_move rfl) ?_
    refine al_step rfl rfl (aop_min rfl rfl) ?_
    refine al_step rfl rfl (aop_retn [0] rfl (.inl ⟨rfl, rfl, rfl⟩) (subst_c _ t vs b14 (min (d : Int) (65536 : Int)) 0 0 (Nat.le_refl _) h2 h3 (by omega) (by omega)) ⟨_, _, rfl, rfl, rfl⟩ (by decide) rfl (.inl rfl)) ?_
    refine al_new rfl rfl (aop_alloc zr26 rfl) fun b9 => ?_
    refine al_step rfl rfl (aop_store_whole (i := 0) ty26 rfl rfl rfl (by simp [encT_len]) (by first | rfl | simp [encT_len]) (one_Tm _)) ?_
    refine al_end rfl ?_
    refine awp_seq ?_
    refine awp_seq ?_
    refine awp_region ?_
    refine al_step rfl rfl (aop_move rfl) ?_
    refine al_step rfl rfl (aop_nilCheck rfl) ?_
    refine al_step rfl rfl (aop_field_ptr fd138 rfl rfl) ?_
    refine al_step rfl rfl (aop_load_box1 (i := 1) ty3 rfl rfl rfl) ?_
    refine al_step rfl rfl (aop_cmp rfl rfl rfl) ?_
    refine al_end rfl ?_
    refine awp_cond rfl (fun c1 => ?_) (fun c1 => ?_)
    · (try simp only [sd, se] at c1)
      refine awp_seq ?_
      refine awp_region ?_
      refine al_step rfl rfl (aop_build fd26 zr26 rfl) ?_
      refine al_step rfl rfl (aop_store_box (i := 2) ty26 rfl rfl rfl rfl rfl rfl) ?_
      refine al_step rfl rfl (aop_assign rfl) ?_
      refine al_end rfl ?_
      refine awp_ghost (ghost_box (i := 2) rfl) ?_
      refine awp_ret ?_
      refine ⟨rfl, _, _, ⟨_, _, rfl, (resv_row (i := 2) ty26 rfl rfl rfl), ⟨_, _, rfl, rfl, rfl⟩⟩, (List.nil_sublist _), ?_⟩
      unfold underW
      rw [if_pos (by simpa using c1)]
      all_goals exact ⟨rfl, rfl⟩
    · (try simp only [sd, se] at c1)
      refine awp_skip ?_
      refine awp_seq ?_
      refine awp_seq ?_
      refine awp_region ?_
      refine al_step rfl rfl (aop_move rfl) ?_
      refine al_step rfl rfl (aop_nilCheck rfl) ?_
      refine al_step rfl rfl (aop_field_ptr fd138 rfl rfl) ?_
      refine al_step rfl rfl (aop_load_box1 (i := 1) ty3 rfl rfl rfl) ?_
      refine al_step rfl rfl (aop_cmp rfl rfl rfl) ?_
      refine al_end rfl ?_
      refine awp_cond rfl (fun c2 => ?_) (fun c2 => ?_)
      · (try simp only [sd, se] at c2)
        refine awp_seq ?_
        refine awp_dr (fun k => false) mx0 ?_
        refine dr_free rfl rfl (fun _ => aop_build fd26 zr26 rfl) trivial ?_
        refine dr_free rfl rfl (fun _ => aop_move rfl) trivial ?_
        refine dr_free rfl rfl (fun _ => aop_nilCheck rfl) trivial ?_
        refine dr_free rfl rfl (fun _ => aop_field_ptr fd138 rfl rfl) trivial ?_
        refine dr_read (j := 1) rfl rfl rfl (fun H i hi => aop_load_box1 (i := i) ty3 rfl hi rfl) (by repeat' first | exact trivial | refine And.intro ?_ ?_ | ((refine Or.inr (And.intro ?_ ?_) <;> repeat (first | exact List.Mem.head _ | apply List.Mem.tail)); done) | exact Or.inl (by kernel_rfl)) trivial ?_
        refine dr_eff rfl rfl (aop_store_box (i := 2) ty26 rfl rfl rfl rfl rfl rfl) (by repeat' first | exact trivial | refine And.intro ?_ ?_ | ((refine Or.inr (And.intro ?_ ?_) <;> repeat (first | exact List.Mem.head _ | apply List.Mem.tail)); done) | exact Or.inl (by kernel_rfl)) trivial ?_
        refine dr_free rfl rfl (fun _ => aop_assign rfl) trivial ?_
        refine dr_end rfl (by kernel_rfl) ?_
        refine awp_ghost (ghost_box (i := 2) rfl) ?_
        refine awp_ret ?_
        refine ⟨rfl, _, _, ⟨_, _, rfl, (resv_row (i := 2) ty26 rfl rfl rfl), ⟨_, _, rfl, rfl, rfl⟩⟩, (List.nil_sublist _), ?_⟩
        unfold underW
        rw [if_neg (by omega), if_pos c2]
        all_goals exact ⟨rfl, rfl⟩
      · (try simp only [sd, se] at c2)
        refine awp_skip ?_
        refine awp_seq ?_
        refine awp_seq ?_
        refine awp_region ?_
        refine al_step rfl rfl (aop_load_box (i := 0) ty26 rfl rfl (by simp [encT_len])) ?_
        refine al_step rfl rfl (aop_fun rfl rfl (depthR_c _ ((substW vs (min (d : Int) (65536 : Int)) 0 0 t).1) (Nat.le_refl _) (substW_nd t vs _ _ _ h2 h3)) rfl) ?_
        refine al_step rfl rfl (aop_cmp rfl rfl rfl) ?_
        refine al_end rfl ?_
        refine awp_cond rfl (fun c3 => ?_) (fun c3 => ?_)
        · (try simp only [sd, se] at c3)
          refine awp_seq ?_
          refine awp_region ?_
          refine al_step rfl rfl (aop_build fd26 zr26 rfl) ?_
          refine al_step rfl rfl (aop_store_box (i := 2) ty26 rfl rfl rfl rfl rfl rfl) ?_
          refine al_step rfl rfl (aop_assign rfl) ?_
          refine al_end rfl ?_
          refine awp_ghost (ghost_box (i := 2) rfl) ?_
          refine awp_ret ?_
          refine ⟨rfl, _, _, ⟨_, _, rfl, (resv_row (i := 2) ty26 rfl rfl rfl), ⟨_, _, rfl, rfl, rfl⟩⟩, (List.nil_sublist _), ?_⟩
          unfold underW
          rw [if_neg (by omega), if_neg (by simpa using c2), if_pos c3]
          all_goals exact ⟨rfl, rfl⟩
        · (try simp only [sd, se] at c3)
          refine awp_skip ?_
          refine awp_seq ?_
          refine awp_region ?_
          refine al_step rfl rfl (aop_load_box (i := 0) ty26 rfl rfl (by simp [encT_len])) ?_
          refine al_step rfl rfl (aop_store_whole (i := 2) ty26 rfl rfl rfl (by simp [encT_len]) (by first | rfl | simp [encT_len]) (one_Tm _)) ?_
          refine al_step rfl rfl (aop_assign rfl) ?_
          refine al_end rfl ?_
          refine awp_ret ?_
          refine ⟨rfl, _, _, ⟨_, _, rfl, (resv_row (i := 2) ty26 rfl rfl (by simp [encT_len])), ⟨_, _, rfl, rfl, rfl⟩⟩, (List.nil_sublist _), ?_⟩
          unfold underW
          rw [if_neg (by omega), if_neg (by simpa using c2), if_neg (by omega)]
          all_goals exact ⟨rfl, rfl⟩

theorem substR_c : ∀ (t : Tm) (vs : List Tm), (size t < 2 ^ 60) → (Nd t) → (Nds vs) → (sizes vs < 2 ^ 60) → Fun Try.prog 84 [.agg ((encT t).map .p), .p (.lst (encTs vs))] (.tup [.agg ((encT ((underW t vs 0).1)).map .p), .p (I ((underW t vs 0).2))]) := by
  intro t vs h1 h2 h3 h4
  refine acalls_of_awp Try.func84 rfl en84 (n := 11) rfl rfl ?_
  refine awp_seq ?_
  refine awp_region ?_
  refine al_new rfl rfl (aop_box rfl) fun b2 => ?_
  refine al_new rfl rfl (aop_alloc zr26 rfl) fun b4 => ?_
  refine al_step rfl rfl (aop_assign rfl) ?_
  refine al_end rfl ?_
  refine awp_seq ?_
  refine awp_region ?_
  refine al_step rfl rfl (aop_load_box (i := 1) ty26 rfl rfl (by simp [encT_len])) ?_
  refine al_step rfl rfl (aop_move rfl) ?_
  refine al_step rfl rfl (aop_fun rfl rfl (underR_c t vs 0 h1 h2 h3 h4 (by omega)) rfl) ?_
  refine al_step rfl rfl (aop_extract rfl rfl) ?_
  refine al_step rfl rfl (aop_extract rfl rfl) ?_
  refine al_step rfl rfl (aop_store_whole (i := 0) ty26 rfl rfl rfl (by simp [encT_len]) (by first | rfl | simp [encT_len]) (one_Tm _)) ?_
  refine al_step rfl rfl (aop_assign rfl) ?_
  refine al_end rfl ?_
  refine awp_ret ?_
  refine ⟨rfl, _, _, ⟨_, _, rfl, (resv_row (i := 0) ty26 rfl rfl (by simp [encT_len])), ⟨_, _, rfl, rfl, rfl⟩⟩, (List.nil_sublist _), ?_⟩
  all_goals exact ⟨rfl, rfl⟩

theorem formC_c : ∀ (b : Nat) (c : Cnt) (t : Tm) (e : Int), (Nd t) → ACalls Try.prog 39 [.ptr b 0, .agg ((encT t).map .p), .p (I e)] [.box b ((encC c).map .p)] (retR (.tup []) [.box b ((encC (c.form t e)).map .p)]) := by
  intro b c t e h1
  refine acalls_of_awp Try.func39 rfl en39 (n := 65) rfl rfl ?_
  refine awp_seq ?_
  refine awp_region ?_
  refine al_new rfl rfl (aop_box rfl) fun b4 => ?_
  refine al_end rfl ?_
  refine awp_seq ?_
  refine awp_dr (fun k => false) mx0 ?_
  refine dr_free rfl rfl (fun _ => aop_move rfl) trivial ?_
  refine dr_free rfl rfl (fun _ => aop_nilCheck rfl) trivial ?_
  refine dr_free rfl rfl (fun _ => aop_field_ptr fd43 rfl rfl) trivial ?_
  refine dr_read (j := 1) rfl rfl rfl (fun H i hi => aop_load_box1 (i := i) ty3 rfl hi rfl) (by repeat' first | exact trivial | refine And.intro ?_ ?_ | ((refine Or.inr (And.intro ?_ ?_) <;> repeat (first | exact List.Mem.head _ | apply List.Mem.tail)); done) | exact Or.inl (by kernel_rfl)) trivial ?_
  refine dr_read (j := 0) rfl rfl rfl (fun H i hi => aop_load_box (i := i) ty26 rfl hi (by simp [encT_len])) (by repeat' first | exact trivial | refine And.intro ?_ ?_ | ((refine Or.inr (And.intro ?_ ?_) <;> repeat (first | exact List.Mem.head _ | apply List.Mem.tail)); done) | exact Or.inl (by kernel_rfl)) trivial ?_
  refine dr_free rfl rfl (fun _ => aop_fun rfl rfl (sizeR_c _ t (Nat.le_refl _) h1) rfl) trivial ?_
  refine dr_free rfl rfl (fun _ => aop_addw rfl rfl) trivial ?_
  refine dr_free rfl rfl (fun _ => aop_nilCheck rfl) trivial ?_
  refine dr_free rfl rfl (fun _ => aop_field_ptr fd43 rfl rfl) trivial ?_
  refine dr_eff rfl rfl (aop_store_box (i := 1) ty3 rfl rfl rfl rfl rfl rfl) (by repeat' first | exact trivial | refine And.intro ?_ ?_ | ((refine Or.inr (And.intro ?_ ?_) <;> repeat (first | exact List.Mem.head _ | apply List.Mem.tail)); done) | exact Or.inl (by kernel_rfl)) trivial ?_
  refine dr_end rfl (by kernel_rfl) ?_
  refine awp_seq ?_
  refine awp_meetR [0] 61 (fun y => y = .p (.bool (((((((e : Int) != (0 : Int)) || (decide ((c.steps : Int) > (c.limit : Int)))) || (decide ((c.nodes : Int) > (wr ((2 : Int) * (c.limit : Int)) : Int)))) || (decide ((wr ((c.forms : Int) + (sizeW t : Int)) : Int) > (wr ((40 : Int) * (c.limit : Int)) : Int)))) || (decide ((sizeW t : Int) > (2000 : Int)))) || (decide ((depthW t : Int) > (95 : Int)))))) ?_ ?_
  · refine awp_dr (fun k => false) mx0 ?_
    refine dr_free rfl rfl (fun _ => aop_move rfl) trivial ?_
    refine dr_free rfl rfl (fun _ => aop_cmp rfl rfl rfl) trivial ?_
    refine dr_free rfl rfl (fun _ => aop_move rfl) trivial ?_
    refine dr_case 17 rfl (fun g => ?_) (fun g => ?_)
    · (try simp only [sd, se] at g)
      refine dr_skip rfl rfl rfl rfl rfl trivial ?_
      refine dr_skip rfl rfl rfl rfl rfl trivial ?_
      refine dr_skip rfl rfl rfl rfl rfl trivial ?_
      refine dr_skip rfl rfl rfl rfl rfl trivial ?_
      refine dr_skip rfl rfl rfl rfl rfl trivial ?_
      refine dr_skip rfl rfl rfl rfl rfl trivial ?_
      refine dr_skip rfl rfl rfl rfl rfl trivial ?_
      refine dr_skip rfl rfl rfl rfl rfl trivial ?_
      refine dr_skip rfl rfl rfl rfl rfl trivial ?_
      refine dr_free rfl rfl (fun _ => aop_pick rfl rfl) trivial ?_
      refine dr_free rfl rfl (fun _ => aop_move rfl) trivial ?_
      refine dr_skip rfl rfl rfl rfl rfl trivial ?_
      refine dr_skip rfl rfl rfl rfl rfl trivial ?_
      refine dr_skip rfl rfl rfl rfl rfl trivial ?_
      refine dr_skip rfl rfl rfl rfl rfl trivial ?_
      refine dr_skip rfl rfl rfl rfl rfl trivial ?_
      refine dr_skip rfl rfl rfl rfl rfl trivial ?_
      refine dr_skip rfl rfl rfl rfl rfl trivial ?_
      refine dr_skip rfl rfl rfl rfl rfl trivial ?_
      refine dr_skip rfl rfl rfl rfl rfl trivial ?_
      refine dr_skip rfl rfl rfl rfl rfl trivial ?_
      refine dr_free rfl rfl (fun _ => aop_pick rfl rfl) trivial ?_
      refine dr_free rfl rfl (fun _ => aop_move rfl) trivial ?_
      refine dr_skip rfl rfl rfl rfl rfl trivial ?_
      refine dr_skip rfl rfl rfl rfl rfl trivial ?_
      refine dr_skip rfl rfl rfl rfl rfl trivial ?_
      refine dr_skip rfl rfl rfl rfl rfl trivial ?_
      refine dr_skip rfl rfl rfl rfl rfl trivial ?_
      refine dr_skip rfl rfl rfl rfl rfl trivial ?_
      refine dr_skip rfl rfl rfl rfl rfl trivial ?_
      refine dr_skip rfl rfl rfl rfl rfl trivial ?_
      refine dr_skip rfl rfl rfl rfl rfl trivial ?_
      refine dr_skip rfl rfl rfl rfl rfl trivial ?_
      refine dr_free rfl rfl (fun _ => aop_pick rfl rfl) trivial ?_
      refine dr_free rfl rfl (fun _ => aop_move rfl) trivial ?_
      refine dr_skip rfl rfl rfl rfl rfl trivial ?_
      refine dr_skip rfl rfl rfl rfl rfl trivial ?_
      refine dr_skip rfl rfl rfl rfl rfl trivial ?_
      refine dr_free rfl rfl (fun _ => aop_pick rfl rfl) trivial ?_
      refine dr_free rfl rfl (fun _ => aop_move rfl) trivial ?_
      refine dr_skip rfl rfl rfl rfl rfl trivial ?_
      refine dr_skip rfl rfl rfl rfl rfl trivial ?_
      refine dr_skip rfl rfl rfl rfl rfl trivial ?_
      refine dr_free rfl rfl (fun _ => aop_pick rfl rfl) trivial ?_
      refine dr_end rfl (by kernel_rfl) ?_
      exact ⟨rfl, rfl, (by first | exact List.Sublist.refl _ | exact List.sublist_cons_self _ _), (by first | rfl | (refine pB ?_; simp_all; done) | (refine pB ?_; simp_all <;> (intros; omega))), ⟨rfl, trivial⟩⟩
    · (try simp only [sd, se] at g)
      refine dr_freeg rfl rfl rfl rfl (fun _ => aop_move rfl) trivial ?_
      refine dr_freeg rfl rfl rfl rfl (fun _ => aop_nilCheck rfl) trivial ?_
      refine dr_freeg rfl rfl rfl rfl (fun _ => aop_field_ptr fd43 rfl rfl) trivial ?_
      refine dr_readg (i := 1) rfl rfl rfl rfl rfl (fun H i hi => aop_load_box1 (i := i) ty3 rfl hi rfl) (by repeat' first | exact trivial | refine And.intro ?_ ?_ | ((refine Or.inr (And.intro ?_ ?_) <;> repeat (first | exact List.Mem.head _ | apply List.Mem.tail)); done) | exact Or.inl (by kernel_rfl)) trivial ?_
      refine dr_freeg rfl rfl rfl rfl (fun _ => aop_move rfl) trivial ?_
      refine dr_freeg rfl rfl rfl rfl (fun _ => aop_nilCheck rfl) trivial ?_
      refine dr_freeg rfl rfl rfl rfl (fun _ => aop_field_ptr fd43 rfl rfl) trivial ?_
      refine dr_readg (i := 1) rfl rfl rfl rfl rfl (fun H i hi => aop_load_box1 (i := i) ty3 rfl hi rfl) (by repeat' first | exact trivial | refine And.intro ?_ ?_ | ((refine Or.inr (And.intro ?_ ?_) <;> repeat (first | exact List.Mem.head _ | apply List.Mem.tail)); done) | exact Or.inl (by kernel_rfl)) trivial ?_
      refine dr_freeg rfl rfl rfl rfl (fun _ => aop_cmp rfl rfl rfl) trivial ?_
      refine dr_free rfl rfl (fun _ => aop_pick rfl rfl) trivial ?_
      refine dr_free rfl rfl (fun _ => aop_move rfl) trivial ?_
      refine dr_case 28 rfl (fun g1 => ?_) (fun g1 => ?_)
      · (try simp only [sd, se] at g1)
        refine dr_skip rfl rfl rfl rfl rfl trivial ?_
        refine dr_skip rfl rfl rfl rfl rfl trivial ?_
        refine dr_skip rfl rfl rfl rfl rfl trivial ?_
        refine dr_skip rfl rfl rfl rfl rfl trivial ?_
        refine dr_skip rfl rfl rfl rfl rfl trivial ?_
        refine dr_skip rfl rfl rfl rfl rfl trivial ?_
        refine dr_skip rfl rfl rfl rfl rfl trivial ?_
        refine dr_skip rfl rfl rfl rfl rfl trivial ?_
        refine dr_skip rfl rfl rfl rfl rfl trivial ?_
        refine dr_skip rfl rfl rfl rfl rfl trivial ?_
        refine dr_free rfl rfl (fun _ => aop_pick rfl rfl) trivial ?_
        refine dr_free rfl rfl (fun _ => aop_move rfl) trivial ?_
        refine dr_skip rfl rfl rfl rfl rfl trivial ?_
        refine dr_skip rfl rfl rfl rfl rfl trivial ?_
        refine dr_skip rfl rfl rfl rfl rfl trivial ?_
        refine dr_skip rfl rfl rfl rfl rfl trivial ?_
        refine dr_skip rfl rfl rfl rfl rfl trivial ?_
        refine dr_skip rfl rfl rfl rfl rfl trivial ?_
        refine dr_skip rfl rfl rfl rfl rfl trivial ?_
        refine dr_skip rfl rfl rfl rfl rfl trivial ?_
        refine dr_skip rfl rfl rfl rfl rfl trivial ?_
        refine dr_skip rfl rfl rfl rfl rfl trivial ?_
        refine dr_free rfl rfl (fun _ => aop_pick rfl rfl) trivial ?_
        refine dr_free rfl rfl (fun _ => aop_move rfl) trivial ?_
        refine dr_skip rfl rfl rfl rfl rfl trivial ?_
        refine dr_skip rfl rfl rfl rfl rfl trivial ?_
        refine dr_skip rfl rfl rfl rfl rfl trivial ?_
        refine dr_free rfl rfl (fun _ => aop_pick rfl rfl) trivial ?_
        refine dr_free rfl rfl (fun _ => aop_move rfl) trivial ?_
        refine dr_skip rfl rfl rfl rfl rfl trivial ?_
        refine dr_skip rfl rfl rfl rfl rfl trivial ?_
        refine dr_skip rfl rfl rfl rfl rfl trivial ?_
        refine dr_free rfl rfl (fun _ => aop_pick rfl rfl) trivial ?_
        refine dr_end rfl (by kernel_rfl) ?_
        exact ⟨rfl, rfl, (by first | exact List.Sublist.refl _ | exact List.sublist_cons_self _ _), (by first | rfl | (refine pB ?_; simp_all; done) | (refine pB ?_; simp_all <;> (intros; omega))), ⟨rfl, trivial⟩⟩
      · (try simp only [sd, se] at g1)
        refine dr_freeg rfl rfl rfl rfl (fun _ => aop_move rfl) trivial ?_
        refine dr_freeg rfl rfl rfl rfl (fun _ => aop_nilCheck rfl) trivial ?_
        refine dr_freeg rfl rfl rfl rfl (fun _ => aop_field_ptr fd43 rfl rfl) trivial ?_
        refine dr_readg (i := 1) rfl rfl rfl rfl rfl (fun H i hi => aop_load_box1 (i := i) ty3 rfl hi rfl) (by repeat' first | exact trivial | refine And.intro ?_ ?_ | ((refine Or.inr (And.intro ?_ ?_) <;> repeat (first | exact List.Mem.head _ | apply List.Mem.tail)); done) | exact Or.inl (by kernel_rfl)) trivial ?_
        refine dr_freeg rfl rfl rfl rfl (fun _ => aop_move rfl) trivial ?_
        refine dr_freeg rfl rfl rfl rfl (fun _ => aop_nilCheck rfl) trivial ?_
        refine dr_freeg rfl rfl rfl rfl (fun _ => aop_field_ptr fd43 rfl rfl) trivial ?_
        refine dr_readg (i := 1) rfl rfl rfl rfl rfl (fun H i hi => aop_load_box1 (i := i) ty3 rfl hi rfl) (by repeat' first | exact trivial | refine And.intro ?_ ?_ | ((refine Or.inr (And.intro ?_ ?_) <;> repeat (first | exact List.Mem.head _ | apply List.Mem.tail)); done) | exact Or.inl (by kernel_rfl)) trivial ?_
        refine dr_freeg rfl rfl rfl rfl (fun _ => aop_mulw rfl rfl) trivial ?_
        refine dr_freeg rfl rfl rfl rfl (fun _ => aop_cmp rfl rfl rfl) trivial ?_
        refine dr_free rfl rfl (fun _ => aop_pick rfl rfl) trivial ?_
        refine dr_free rfl rfl (fun _ => aop_move rfl) trivial ?_
        refine dr_case 40 rfl (fun g2 => ?_) (fun g2 => ?_)
        · (try simp only [sd, se] at g2)
          refine dr_skip rfl rfl rfl rfl rfl trivial ?_
          refine dr_skip rfl rfl rfl rfl rfl trivial ?_
          refine dr_skip rfl rfl rfl rfl rfl trivial ?_
          refine dr_skip rfl rfl rfl rfl rfl trivial ?_
          refine dr_skip rfl rfl rfl rfl rfl trivial ?_
          refine dr_skip rfl rfl rfl rfl rfl trivial ?_
          refine dr_skip rfl rfl rfl rfl rfl trivial ?_
          refine dr_skip rfl rfl rfl rfl rfl trivial ?_
          refine dr_skip rfl rfl rfl rfl rfl trivial ?_
          refine dr_skip rfl rfl rfl rfl rfl trivial ?_
          refine dr_free rfl rfl (fun _ => aop_pick rfl rfl) trivial ?_
          refine dr_free rfl rfl (fun _ => aop_move rfl) trivial ?_
          refine dr_skip rfl rfl rfl rfl rfl trivial ?_
          refine dr_skip rfl rfl rfl rfl rfl trivial ?_
          refine dr_skip rfl rfl rfl rfl rfl trivial ?_
          refine dr_free rfl rfl (fun _ => aop_pick rfl rfl) trivial ?_
          refine dr_free rfl rfl (fun _ => aop_move rfl) trivial ?_
          refine dr_skip rfl rfl rfl rfl rfl trivial ?_
          refine dr_skip rfl rfl rfl rfl rfl trivial ?_
          refine dr_skip rfl rfl rfl rfl rfl trivial ?_
          refine dr_free rfl rfl (fun _ => aop_pick rfl rfl) trivial ?_
          refine dr_end rfl (by kernel_rfl) ?_
          exact ⟨rfl, rfl, (by first | exact List.Sublist.refl _ | exact List.sublist_cons_self _ _), (by first | rfl | (refine pB ?_; simp_all; done) | (refine pB ?_; simp_all <;> (intros; omega))), ⟨rfl, trivial⟩⟩
        · (try simp only [sd, se] at g2)
          refine dr_freeg rfl rfl rfl rfl (fun _ => aop_move rfl) trivial ?_
          refine dr_freeg rfl rfl rfl rfl (fun _ => aop_nilCheck rfl) trivial ?_
          refine dr_freeg rfl rfl rfl rfl (fun _ => aop_field_ptr fd43 rfl rfl) trivial ?_
          refine dr_readg (i := 1) rfl rfl rfl rfl rfl (fun H i hi => aop_load_box1 (i := i) ty3 rfl hi rfl) (by repeat' first | exact trivial | refine And.intro ?_ ?_ | ((refine Or.inr (And.intro ?_ ?_) <;> repeat (first | exact List.Mem.head _ | apply List.Mem.tail)); done) | exact Or.inl (by kernel_rfl)) trivial ?_
          refine dr_freeg rfl rfl rfl rfl (fun _ => aop_move rfl) trivial ?_
          refine dr_freeg rfl rfl rfl rfl (fun _ => aop_nilCheck rfl) trivial ?_
          refine dr_freeg rfl rfl rfl rfl (fun _ => aop_field_ptr fd43 rfl rfl) trivial ?_
          refine dr_readg (i := 1) rfl rfl rfl rfl rfl (fun H i hi => aop_load_box1 (i := i) ty3 rfl hi rfl) (by repeat' first | exact trivial | refine And.intro ?_ ?_ | ((refine Or.inr (And.intro ?_ ?_) <;> repeat (first | exact List.Mem.head _ | apply List.Mem.tail)); done) | exact Or.inl (by kernel_rfl)) trivial ?_
          refine dr_freeg rfl rfl rfl rfl (fun _ => aop_mulw rfl rfl) trivial ?_
          refine dr_freeg rfl rfl rfl rfl (fun _ => aop_cmp rfl rfl rfl) trivial ?_
          refine dr_free rfl rfl (fun _ => aop_pick rfl rfl) trivial ?_
          refine dr_free rfl rfl (fun _ => aop_move rfl) trivial ?_
          refine dr_case 52 rfl (fun g3 => ?_) (fun g3 => ?_)
          · (try simp only [sd, se] at g3)
            refine dr_skip rfl rfl rfl rfl rfl trivial ?_
            refine dr_skip rfl rfl rfl rfl rfl trivial ?_
            refine dr_skip rfl rfl rfl rfl rfl trivial ?_
            refine dr_free rfl rfl (fun _ => aop_pick rfl rfl) trivial ?_
            refine dr_free rfl rfl (fun _ => aop_move rfl) trivial ?_
            refine dr_skip rfl rfl rfl rfl rfl trivial ?_
            refine dr_skip rfl rfl rfl rfl rfl trivial ?_
            refine dr_skip rfl rfl rfl rfl rfl trivial ?_
            refine dr_free rfl rfl (fun _ => aop_pick rfl rfl) trivial ?_
            refine dr_end rfl (by kernel_rfl) ?_
            exact ⟨rfl, rfl, (by first | exact List.Sublist.refl _ | exact List.sublist_cons_self _ _), (by first | rfl | (refine pB ?_; simp_all; done) | (refine pB ?_; simp_all <;> (intros; omega))), ⟨rfl, trivial⟩⟩
          · (try simp only [sd, se] at g3)
            refine dr_readg (i := 0) rfl rfl rfl rfl rfl (fun H i hi => aop_load_box (i := i) ty26 rfl hi (by simp [encT_len])) (by repeat' first | exact trivial | refine And.intro ?_ ?_ | ((refine Or.inr (And.intro ?_ ?_) <;> repeat (first | exact List.Mem.head _ | apply List.Mem.tail)); done) | exact Or.inl (by kernel_rfl)) trivial ?_
            refine dr_freeg rfl rfl rfl rfl (fun _ => aop_fun rfl rfl (sizeR_c _ t (Nat.le_refl _) h1) rfl) trivial ?_
            refine dr_freeg rfl rfl rfl rfl (fun _ => aop_cmp rfl rfl rfl) trivial ?_
            refine dr_free rfl rfl (fun _ => aop_pick rfl rfl) trivial ?_
            refine dr_free rfl rfl (fun _ => aop_move rfl) trivial ?_
            refine dr_case 57 rfl (fun g4 => ?_) (fun g4 => ?_)
            · (try simp only [sd, se] at g4)
              refine dr_skip rfl rfl rfl rfl rfl trivial ?_
              refine dr_skip rfl rfl rfl rfl rfl trivial ?_
              refine dr_skip rfl rfl rfl rfl rfl trivial ?_
              refine dr_free rfl rfl (fun _ => aop_pick rfl rfl) trivial ?_
              refine dr_end rfl (by kernel_rfl) ?_
              exact ⟨rfl, rfl, (by first | exact List.Sublist.refl _ | exact List.sublist_cons_self _ _), (by first | rfl | (refine pB ?_; simp_all; done) | (refine pB ?_; simp_all <;> (intros; omega))), ⟨rfl, trivial⟩⟩
            · (try simp only [sd, se] at g4)
              refine dr_readg (i := 0) rfl rfl rfl rfl rfl (fun H i hi => aop_load_box (i := i) ty26 rfl hi (by simp [encT_len])) (by repeat' first | exact trivial | refine And.intro ?_ ?_ | ((refine Or.inr (And.intro ?_ ?_) <;> repeat (first | exact List.Mem.head _ | apply List.Mem.tail)); done) | exact Or.inl (by kernel_rfl)) trivial ?_
              refine dr_freeg rfl rfl rfl rfl (fun _ => aop_fun rfl rfl (depthR_c _ t (Nat.le_refl _) h1) rfl) trivial ?_
              refine dr_freeg rfl rfl rfl rfl (fun _ => aop_cmp rfl rfl rfl) trivial ?_
              refine dr_free rfl rfl (fun _ => aop_pick rfl rfl) trivial ?_
              refine dr_end rfl (by kernel_rfl) ?_
              exact ⟨rfl, rfl, (by first | exact List.Sublist.refl _ | exact List.sublist_cons_self _ _), (by first | rfl | (refine pB ?_; simp_all; done) | (refine pB ?_; simp_all <;> (intros; omega))), ⟨rfl, trivial⟩⟩
  rintro _ rfl
  refine awp_cond rfl (fun c1 => ?_) (fun c1 => ?_)
  · have c1R := c1
    (try simp only [sd, se] at c1)
    refine awp_region ?_
    refine al_step rfl rfl (aop_move rfl) ?_
    refine al_step rfl rfl (aop_nilCheck rfl) ?_
    refine al_step rfl rfl (aop_field_ptr fd43 rfl rfl) ?_
    refine al_step rfl rfl (aop_store_box (i := 1) ty4 rfl rfl rfl rfl rfl rfl) ?_
    refine al_end rfl ?_
    refine ⟨rfl, _, _, rfl, (subl (is := [1]) rfl), ?_⟩
    refine ⟨rfl, ?_⟩
    show ([.box b [.p (I c.steps), .p (I c.nodes), .p (I (wr ((c.forms : Int) + (sizeW t : Int)))), .p (I c.limit), .p (.bool true)]] : List HObj) = _
    simp only [Cnt.form, encC, List.map_cons, List.map_nil]; rw [c1R]; simp
  · have c1R := c1
    (try simp only [sd, se] at c1)
    refine awp_skip ?_
    refine ⟨rfl, _, _, rfl, (subl (is := [1]) rfl), ?_⟩
    refine ⟨rfl, ?_⟩
    show ([.box b [.p (I c.steps), .p (I c.nodes), .p (I (wr ((c.forms : Int) + (sizeW t : Int)))), .p (I c.limit), .p (.bool c.over)]] : List HObj) = _
    simp only [Cnt.form, encC, List.map_cons, List.map_nil]; rw [c1R]; simp

theorem sized_c : ∀ (b : Nat) (c : Cnt) (t : Tm), (Nd t) → ACalls Try.prog 69 [.agg ((encT t).map .p), .ptr b 0] [.box b ((encC c).map .p)] (retR (.agg ((encT t).map .p)) [.box b ((encC (c.sized t)).map .p)]) := by
  intro b c t h1
  refine acalls_of_awp Try.func69 rfl en69 (n := 17) rfl rfl ?_
  refine awp_seq ?_
  refine awp_region ?_
  refine al_new rfl rfl (aop_box rfl) fun b2 => ?_
  refine al_new rfl rfl (aop_alloc zr26 rfl) fun b4 => ?_
  refine al_end rfl ?_
  refine awp_seq ?_
  refine awp_seq ?_
  refine awp_meetR [1, 2, 4] 12 (fun y => y = .p (.bool ((decide ((sizeW t : Int) > (2000 : Int))) || (decide ((depthW t : Int) > (95 : Int)))))) ?_ ?_
  · refine awp_region ?_
    refine al_step rfl rfl (aop_load_box (i := 1) ty26 rfl rfl (by simp [encT_len])) ?_
    refine al_step rfl rfl (aop_fun rfl rfl (sizeR_c _ t (Nat.le_refl _) h1) rfl) ?_
    refine al_step rfl rfl (aop_cmp rfl rfl rfl) ?_
    refine al_step rfl rfl (aop_move rfl) ?_
    refine al_case 8 rfl (fun g => ?_) (fun g => ?_)
    · (try simp only [sd, se] at g)
      refine al_pass rfl rfl rfl rfl rfl ?_
      refine al_pass rfl rfl rfl rfl rfl ?_
      refine al_pass rfl rfl rfl rfl rfl ?_
      refine al_step rfl rfl (aop_pick rfl rfl) ?_
      refine al_end rfl ?_
      exact ⟨rfl, rfl, (by first | exact List.Sublist.refl _ | exact List.sublist_cons_self _ _), (by first | rfl | (refine pB ?_; simp_all; done) | (refine pB ?_; simp_all <;> (intros; omega))), ⟨rfl, rfl, rfl, trivial⟩⟩
    · (try simp only [sd, se] at g)
      refine al_stepg rfl rfl rfl rfl (aop_load_box (i := 1) ty26 rfl rfl (by simp [encT_len])) ?_
      refine al_stepg rfl rfl rfl rfl (aop_fun rfl rfl (depthR_c _ t (Nat.le_refl _) h1) rfl) ?_
      refine al_stepg rfl rfl rfl rfl (aop_cmp rfl rfl rfl) ?_
      refine al_step rfl rfl (aop_pick rfl rfl) ?_
      refine al_end rfl ?_
      exact ⟨rfl, rfl, (by first | exact List.Sublist.refl _ | exact List.sublist_cons_self _ _), (by first | rfl | (refine pB ?_; simp_all; done) | (refine pB ?_; simp_all <;> (intros; omega))), ⟨rfl, rfl, rfl, trivial⟩⟩
  rintro _ rfl
  refine awp_cond rfl (fun c1 => ?_) (fun c1 => ?_)
  · have c1R := c1
    (try simp only [sd, se] at c1)
    refine awp_region ?_
    refine al_step rfl rfl (aop_move rfl) ?_
    refine al_step rfl rfl (aop_nilCheck rfl) ?_
    refine al_step rfl rfl (aop_field_ptr fd43 rfl rfl) ?_
    refine al_step rfl rfl (aop_store_box (i := 2) ty4 rfl rfl rfl rfl rfl rfl) ?_
    refine al_end rfl ?_
    refine awp_seq ?_
    refine awp_region ?_
    refine al_step rfl rfl (aop_load_box (i := 1) ty26 rfl rfl (by simp [encT_len])) ?_
    refine al_step rfl rfl (aop_store_whole (i := 0) ty26 rfl rfl rfl (by simp [encT_len]) (by first | rfl | simp [encT_len]) (one_Tm _)) ?_
    refine al_end rfl ?_
    refine awp_ret ?_
    refine ⟨rfl, _, _, ⟨_, _, rfl, (resv_row (i := 0) ty26 rfl rfl (by simp [encT_len])), rfl⟩, (subl (is := [2]) rfl), ?_⟩
    refine ⟨rfl, ?_⟩
    show ([.box b [.p (I c.steps), .p (I c.nodes), .p (I c.forms), .p (I c.limit), .p (.bool true)]] : List HObj) = _
    simp only [Cnt.sized, encC, List.map_cons, List.map_nil]; rw [c1R]; simp
  · have c1R := c1
    (try simp only [sd, se] at c1)
    refine awp_skip ?_
    refine awp_seq ?_
    refine awp_region ?_
    refine al_step rfl rfl (aop_load_box (i := 1) ty26 rfl rfl (by simp [encT_len])) ?_
    refine al_step rfl rfl (aop_store_whole (i := 0) ty26 rfl rfl rfl (by simp [encT_len]) (by first | rfl | simp [encT_len]) (one_Tm _)) ?_
    refine al_end rfl ?_
    refine awp_ret ?_
    refine ⟨rfl, _, _, ⟨_, _, rfl, (resv_row (i := 0) ty26 rfl rfl (by simp [encT_len])), rfl⟩, (subl (is := [2]) rfl), ?_⟩
    refine ⟨rfl, ?_⟩
    show ([.box b [.p (I c.steps), .p (I c.nodes), .p (I c.forms), .p (I c.limit), .p (.bool c.over)]] : List HObj) = _
    simp only [Cnt.sized, encC, List.map_cons, List.map_nil]; rw [c1R]; simp

theorem csubst_c : ∀ (b : Nat) (c : Cnt) (t : Tm) (vs : List Tm), (size t < 2 ^ 60) → (Nd t) → (Nds vs) → (sizes vs < 2 ^ 60) → ACalls Try.prog 70 [.ptr b 0, .agg ((encT t).map .p), .p (.lst (encTs vs))] [.box b ((encC c).map .p)] (retR (.agg ((encT ((underW t vs 0).1)).map .p)) [.box b ((encC (c.form (underW t vs 0).1 (underW t vs 0).2)).map .p)]) := by
  intro b c t vs h1 h2 h3 h4
  refine acalls_of_awp Try.func70 rfl en70 (n := 20) rfl rfl ?_
  refine awp_seq ?_
  refine awp_region ?_
  refine al_new rfl rfl (aop_box rfl) fun b4 => ?_
  refine al_new rfl rfl (aop_alloc zr26 rfl) fun b6 => ?_
  refine al_end rfl ?_
  refine awp_seq ?_
  refine awp_region ?_
  refine al_step rfl rfl (aop_load_box (i := 1) ty26 rfl rfl (by simp [encT_len])) ?_
  refine al_step rfl rfl (aop_move rfl) ?_
  refine al_step rfl rfl (aop_fun rfl rfl (substR_c t vs h1 h2 h3 h4) rfl) ?_
  refine al_step rfl rfl (aop_move rfl) ?_
  refine al_step rfl rfl (aop_extract rfl rfl) ?_
  refine al_step rfl rfl (aop_extract rfl rfl) ?_
  refine al_new rfl rfl (aop_alloc zr26 rfl) fun b7 => ?_
  refine al_step rfl rfl (aop_store_whole (i := 0) ty26 rfl rfl rfl (by simp [encT_len]) (by first | rfl | simp [encT_len]) (one_Tm _)) ?_
  refine al_step rfl rfl (aop_assign rfl) ?_
  refine al_end rfl ?_
  refine awp_seq ?_
  refine awp_region ?_
  refine al_step rfl rfl (aop_move rfl) ?_
  refine al_step rfl rfl (aop_load_box (i := 0) ty26 rfl rfl (by simp [encT_len])) ?_
  refine al_step rfl rfl (aop_move rfl) ?_
  refine al_step rfl rfl (aop_retn [3] rfl (.inl ⟨rfl, rfl, rfl⟩) (formC_c b c ((underW t vs 0).1) ((underW t vs 0).2) (underW_nd t vs 0 h2 h3)) ⟨_, _, rfl, rfl, rfl⟩ (by decide) rfl (.inl rfl)) ?_
  refine al_end rfl ?_
  refine awp_seq ?_
  refine awp_region ?_
  refine al_step rfl rfl (aop_load_box (i := 0) ty26 rfl rfl (by simp [encT_len])) ?_
  refine al_step rfl rfl (aop_store_whole (i := 1) ty26 rfl rfl rfl (by simp [encT_len]) (by first | rfl | simp [encT_len]) (one_Tm _)) ?_
  refine al_end rfl ?_
  refine awp_ret ?_
  refine ⟨rfl, _, _, ⟨_, _, rfl, (resv_row (i := 1) ty26 rfl rfl (by simp [encT_len])), rfl⟩, (subl (is := [3]) rfl), ?_⟩
  all_goals exact ⟨rfl, rfl⟩

end Go.Proofs.Ytgfecpjmbgcobaa
