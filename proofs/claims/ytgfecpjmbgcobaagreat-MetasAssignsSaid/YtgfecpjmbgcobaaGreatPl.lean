/- Part of the proofs about metavariables: an abstract program logic, plain models and contracts of functions. -/
import Derived.Test.YtgfecpjmbgcobaaGreatPj
import Derived.Test.YtgfecpjmbgcobaaGreatPk
import Derived.Test.YtgfecpjmbgcobaaGreatPf
/- Contracts of functions of the program. -/
namespace Go.Proofs.YtgfecpjmbgcobaaGreat
open Go.Abs Go.Eu
set_option linter.unusedVariables false
set_option linter.unusedSimpArgs false
set_option maxRecDepth 100000
theorem applyR_c : ∀ (f : Tm) (xs : List Tm), (xs.length < big) → Fun Tryz.prog 21 [.agg ((encT f).map .p), .p (.lst (encTs xs))] (.agg ((encT (apply f xs)).map .p)) := by
  intro f xs h1
  simp only [big] at h1
  refine acalls_of_awp Tryz.func21 rfl en21 (n := 20) rfl rfl ?_
  refine awp_seq ?_
  refine awp_region ?_
  refine al_new rfl rfl (aop_box rfl) fun b2 => ?_
  refine al_new rfl rfl (aop_alloc zr26 rfl) fun b4 => ?_
  refine al_end rfl ?_
  refine awp_seq ?_
  refine awp_seq ?_
  refine awp_region ?_
  refine al_step rfl rfl (aop_assign rfl) ?_
  refine al_end rfl ?_
  refine awp_block ?_
  refine awp_while (α := Nat) (fun i => ⟨20, mk [(1, .p (.lst (encTs xs))), (2, .ptr b2 0), (4, .ptr b4 0), (5, .p (I (i : Int)))], [.box b4 [.p (I 0), .p (I 0), .p (.str ⟨#[]⟩), .p (.nils), .p (.nils)], .box b2 ((encT (apply f (xs.take i))).map .p)], []⟩) (fun i => xs.length - i) (fun i => i ≤ xs.length) 0 (by first | trivial | omega | simp | (simp; omega)) ?_ ?_
  · exact le_mkW ⟨we rfl, we rfl, we rfl, we rfl, trivial⟩ (leH (is := [0, 1]) rfl (wl (oe rfl) (wl (oe rfl) (wl0))))
  rintro i hC
  try simp only at hC
  have hi := hC
  refine awp_seq ?_
  refine awp_seq ?_
  refine awp_region ?_
  refine al_step rfl rfl (aop_move rfl) ?_
  refine al_step rfl rfl (aop_move rfl) ?_
  refine al_step rfl rfl (aop_lenE el24 rfl (encTs_len _)) ?_
  refine al_step rfl rfl (aop_cmp rfl rfl rfl) ?_
  refine al_end rfl ?_
  refine awp_cond rfl (fun c => ?_) (fun c => ?_)
  · (try simp only [sd, se] at c)
    refine awp_skip ?_
    refine awp_seq ?_
    refine awp_block ?_
    refine awp_dr (fun k => false) mx0 ?_
    refine dr_read (j := 1) rfl rfl rfl (fun H i hi => aop_load_box (i := i) ty26 rfl hi (by simp [encT_len])) (by repeat' first | exact trivial | refine And.intro ?_ ?_ | ((refine Or.inr (And.intro ?_ ?_) <;> repeat (first | exact List.Mem.head _ | apply List.Mem.tail)); done) | exact Or.inl (by kernel_rfl)) trivial ?_
    refine dr_free rfl rfl (fun _ => aop_move rfl) trivial ?_
    refine dr_free rfl rfl (fun _ => aop_move rfl) trivial ?_
    obtain ⟨x, hx⟩ := getElem?_of_lt (l := xs) (i := i) (by omega)
    refine dr_free rfl rfl (fun _ => aop_index_lst el24 rfl rfl (by omega) (encTs_get hx) (encT_len _)) trivial ?_
    refine dr_free rfl rfl (fun _ => aop_load_ref ty26 rfl (encT_len _)) trivial ?_
    generalize hz : (apply f (xs.take i)) = z
    obtain ⟨zk, zi, zn, zl, zs⟩ := z
    obtain ⟨xk, xi, xn, xl, xs1⟩ := x
    refine dr_free rfl rfl (fun _ => aop_buildSlice el24 zr26 rfl rfl rfl rfl rfl) trivial ?_
    refine dr_free rfl rfl (fun _ => aop_build fd26 zr26 rfl) trivial ?_
    refine dr_eff rfl rfl (aop_store_box (i := 1) ty26 rfl rfl rfl rfl rfl rfl) (by repeat' first | exact trivial | refine And.intro ?_ ?_ | ((refine Or.inr (And.intro ?_ ?_) <;> repeat (first | exact List.Mem.head _ | apply List.Mem.tail)); done) | exact Or.inl (by kernel_rfl)) trivial ?_
    refine dr_end rfl (by kernel_rfl) ?_
    refine awp_region ?_
    refine al_step rfl rfl (aop_move rfl) ?_
    refine al_step rfl rfl (aop_add rfl rfl (by omega) (by omega)) ?_
    refine al_step rfl rfl (aop_assign rfl) ?_
    refine al_end rfl ?_
    refine ⟨(i + 1), (by first | omega | (simp only; omega)), by omega, le_mkW ⟨we rfl, we rfl, we rfl, we rfl, trivial⟩ (leH (is := [0, 1]) rfl (wl (oe rfl) (wl (on (by rw [apply_snoc hx, hz]; rfl)) (wl0))))⟩
  · (try simp only [sd, se] at c)
    refine awp_exit ?_
    refine awp_seq ?_
    refine awp_region ?_
    refine al_step rfl rfl (aop_load_box (i := 1) ty26 rfl rfl (by simp [encT_len])) ?_
    refine al_step rfl rfl (aop_store_whole (i := 0) ty26 rfl rfl rfl (by simp [encT_len]) (by first | rfl | simp [encT_len]) (one_Tm _)) ?_
    refine al_end rfl ?_
    refine awp_ret ?_
    refine ⟨rfl, _, _, ⟨_, _, rfl, (resv_row (i := 0) ty26 rfl rfl (by simp [encT_len])), rfl⟩, (List.nil_sublist _), ?_⟩
    all_goals exact ⟨by show (.agg ((encT (apply f (xs.take i))).map .p) : AV) = _; rw [show i = xs.length by omega, List.take_length], rfl⟩

theorem spineRo_c : ∀ (n : Nat) (t : Tm), (size t ≤ n) → (n < big) → ACalls Tryz.prog 78 [.agg ((encT t).map .p)] [] (ownV (fun v => .tup [.agg ((encT ((spine t).1)).map .p), v]) 5 (encTs ((spine t).2))) := by
  intro n
  induction n with
  | zero => intro t h; cases t; simp [size] at h
  | succ n ih =>
    intro t h1 h2
    simp only [big] at h2
    refine acalls_of_awp Tryz.func78 rfl en78 (n := 32) rfl rfl ?_
    refine awp_seq ?_
    refine awp_region ?_
    refine al_new rfl rfl (aop_box rfl) fun b1 => ?_
    refine al_new rfl rfl (aop_alloc zr26 rfl) fun b2 => ?_
    refine al_step rfl rfl (aop_assign rfl) ?_
    refine al_end rfl ?_
    refine awp_seq ?_
    refine awp_seq ?_
    obtain ⟨tk, ti, tn, tl, ts⟩ := t
    simp only [size] at h1
    refine awp_meetR [1, 2] 14 (fun y => y = .p (.bool (((tk : Int) != (4 : Int)) || (((ts.length : Nat) : Int) != (2 : Int))))) ?_ ?_
    · refine awp_region ?_
      refine al_step rfl rfl (aop_field_ptr fd26 rfl rfl) ?_
      refine al_step rfl rfl (aop_load_box1 (i := 1) ty3 rfl rfl rfl) ?_
      refine al_step rfl rfl (aop_cmp rfl rfl rfl) ?_
      refine al_step rfl rfl (aop_move rfl) ?_
      refine al_case 9 rfl (fun g => ?_) (fun g => ?_)
      · (try simp only [sd, se] at g)
        refine al_pass rfl rfl rfl rfl rfl ?_
        refine al_pass rfl rfl rfl rfl rfl ?_
        refine al_pass rfl rfl rfl rfl rfl ?_
        refine al_pass rfl rfl rfl rfl rfl ?_
        refine al_step rfl rfl (aop_pick rfl rfl) ?_
        refine al_end rfl ?_
        exact ⟨rfl, rfl, (by first | exact List.Sublist.refl _ | exact List.sublist_cons_self _ _), (by first | rfl | (refine pB ?_; simp_all; done) | (refine pB ?_; simp_all <;> (intros; omega))), ⟨rfl, rfl, trivial⟩⟩
      · (try simp only [sd, se] at g)
        refine al_stepg rfl rfl rfl rfl (aop_field_ptr fd26 rfl rfl) ?_
        refine al_stepg rfl rfl rfl rfl (aop_load_box1 (i := 1) ty24 rfl rfl rfl) ?_
        refine al_stepg rfl rfl rfl rfl (aop_lenE el24 rfl (encTs_len _)) ?_
        refine al_stepg rfl rfl rfl rfl (aop_cmp rfl rfl rfl) ?_
        refine al_step rfl rfl (aop_pick rfl rfl) ?_
        refine al_end rfl ?_
        exact ⟨rfl, rfl, (by first | exact List.Sublist.refl _ | exact List.sublist_cons_self _ _), (by first | rfl | (refine pB ?_; simp_all; done) | (refine pB ?_; simp_all <;> (intros; omega))), ⟨rfl, rfl, trivial⟩⟩
    rintro _ rfl
    refine awp_cond rfl (fun c => ?_) (fun c => ?_)
    · (try simp only [sd, se] at c)
      refine awp_seq ?_
      refine awp_region ?_
      refine al_step rfl rfl (aop_load_box (i := 1) ty26 rfl rfl rfl) ?_
      refine al_step rfl rfl (aop_store_box (i := 0) ty26 rfl rfl rfl rfl rfl rfl) ?_
      refine al_step rfl rfl (aop_assign rfl) ?_
      refine al_end rfl ?_
      refine awp_ghost (ghost_own (t := 3) (sz := 5) rfl) ?_
      refine awp_ret ?_
      refine ⟨rfl, _, _, ⟨_, _, rfl, (resv_row (i := 1) ty26 rfl rfl rfl), ⟨_, _, rfl, rfl, rfl⟩⟩, (subl (is := [0]) rfl), ?_⟩
      rw [spine_atom c]
      all_goals exact ⟨_, _, rfl, rfl⟩
    · (try simp only [sd, se] at c)
      refine awp_skip ?_
      refine awp_seq ?_
      refine awp_region ?_
      refine al_step rfl rfl (aop_field_ptr fd26 rfl rfl) ?_
      refine al_step rfl rfl (aop_load_box1 (i := 1) ty24 rfl rfl rfl) ?_
      obtain ⟨x, hx⟩ := getElem?_of_lt (l := ts) (i := 0) (by omega)
      refine al_step rfl rfl (aop_index_lst el24 rfl rfl (by omega) (encTs_get hx) (encT_len _)) ?_
      refine al_step rfl rfl (aop_load_ref ty26 rfl (encT_len _)) ?_
      refine al_own rfl rfl rfl (.inl ⟨rfl, rfl, rfl⟩) (ih x (by have := size_mem hx; omega) (by simp only [big]; omega)) (.inl rfl) fun o cp => ?_
      refine al_step rfl rfl (aop_move rfl) ?_
      refine al_step rfl rfl (aop_extract rfl rfl) ?_
      refine al_step rfl rfl (aop_extract rfl rfl) ?_
      refine al_new rfl rfl (aop_alloc zr26 rfl) fun b4 => ?_
      refine al_step rfl rfl (aop_store_whole (i := 0) ty26 rfl rfl rfl (by simp [encT_len]) (by first | rfl | simp [encT_len]) (one_Tm _)) ?_
      refine al_step rfl rfl (aop_assign rfl) ?_
      refine al_end rfl ?_
      refine awp_seq ?_
      refine awp_dr (fun k => Nat.beq k 7) mx0 ?_
      refine dr_read (j := 0) rfl rfl rfl (fun H i hi => aop_load_box (i := i) ty26 rfl hi (by simp [encT_len])) (by repeat' first | exact trivial | refine And.intro ?_ ?_ | ((refine Or.inr (And.intro ?_ ?_) <;> repeat (first | exact List.Mem.head _ | apply List.Mem.tail)); done) | exact Or.inl (by kernel_rfl)) trivial ?_
      refine dr_free rfl rfl (fun _ => aop_move rfl) trivial ?_
      refine dr_free rfl rfl (fun _ => aop_field_ptr fd26 rfl rfl) trivial ?_
      refine dr_read (j := 3) rfl rfl rfl (fun H i hi => aop_load_box1 (i := i) ty24 rfl hi rfl) (by repeat' first | exact trivial | refine And.intro ?_ ?_ | ((refine Or.inr (And.intro ?_ ?_) <;> repeat (first | exact List.Mem.head _ | apply List.Mem.tail)); done) | exact Or.inl (by kernel_rfl)) trivial ?_
      obtain ⟨x1, hx1⟩ := getElem?_of_lt (l := ts) (i := 1) (by omega)
      refine dr_free rfl rfl (fun _ => aop_index_lst el24 rfl rfl (by omega) (encTs_get hx1) (encT_len _)) trivial ?_
      refine dr_free rfl rfl (fun _ => aop_load_ref ty26 rfl (encT_len _)) trivial ?_
      obtain ⟨x1k, x1i, x1n, x1l, x1s⟩ := x1
      refine dr_free rfl rfl (fun _ => aop_buildSlice el24 zr26 rfl rfl rfl rfl rfl) trivial ?_
      refine dr_app [] rfl rfl (aop_append2 (i := 1) (rows' := encTs [(.mk x1k x1i x1n x1l x1s : Tm)]) el24 el24 zr26 rfl rfl rfl rfl rfl rfl (solid_Tm _) (by have := spine_len x; have := size_mem hx; simp [encTs_len]; omega) (vn_Tm ((spine x).2) [(.mk x1k x1i x1n x1l x1s : Tm)])) (by kernel_rfl) fun o1 cp1 => ⟨(by repeat' first | exact trivial | refine And.intro ?_ ?_ | ((refine Or.inr (And.intro ?_ ?_) <;> repeat (first | exact List.Mem.head _ | apply List.Mem.tail)); done) | exact Or.inl (by kernel_rfl)), trivial, ?_⟩
      refine dr_eff rfl rfl (aop_store_whole (i := 2) ty26 rfl rfl rfl (by simp [encT_len]) (by first | rfl | simp [encT_len]) (one_Tm _)) (by repeat' first | exact trivial | refine And.intro ?_ ?_ | ((refine Or.inr (And.intro ?_ ?_) <;> repeat (first | exact List.Mem.head _ | apply List.Mem.tail)); done) | exact Or.inl (by kernel_rfl)) trivial ?_
      refine dr_free rfl rfl (fun _ => aop_assign rfl) trivial ?_
      refine dr_end rfl (by kernel_rfl) ?_
      refine awp_ret ?_
      refine ⟨rfl, _, _, ⟨_, _, rfl, (resv_row (i := 2) ty26 rfl rfl (by simp [encT_len])), ⟨_, _, rfl, rfl, rfl⟩⟩, (subl (is := [1]) rfl), ?_⟩
      rw [spine_app c hx hx1]
      all_goals exact ⟨_, _, rfl, rfl⟩

theorem spineR_c : ∀ (n : Nat) (t : Tm), size t ≤ n → n < big → Fun Tryz.prog 78 [TV t] (.tup [TV (spine t).1, TsV (spine t).2]) :=
  fun n t h1 h2 => fun_of_own (pre := [_]) (post := []) (spineRo_c n t h1 h2) (fun x _ => pure_stable x)
end Go.Proofs.YtgfecpjmbgcobaaGreat
/- Contracts of functions of the program. -/
namespace Go.Proofs.YtgfecpjmbgcobaaGreat
open Go.Abs Go.Eu
set_option linter.unusedVariables false
set_option linter.unusedSimpArgs false
set_option maxRecDepth 100000
theorem sizeR_c : ∀ (n : Nat) (t : Tm), (size t ≤ n) → (Nd t) → Fun Tryz.prog 17 [.agg ((encT t).map .p)] (.p (I (sizeW t))) := by
  intro n
  induction n with
  | zero => intro t h; cases t; simp [size] at h
  | succ n ih =>
    intro t h1 h2
    obtain ⟨tk, ti, tn, tl, ts⟩ := t
    simp only [size] at h1
    simp only [Nd, big] at h2
    refine acalls_of_awp Tryz.func17 rfl en17 (n := 21) rfl rfl ?_
    refine awp_seq ?_
    refine awp_region ?_
    refine al_new rfl rfl (aop_box rfl) fun b1 => ?_
    refine al_step rfl rfl (aop_assign rfl) ?_
    refine al_end rfl ?_
    refine awp_seq ?_
    refine awp_region ?_
    refine al_step rfl rfl (aop_assign rfl) ?_
    refine al_end rfl ?_
    refine awp_seq ?_
    refine awp_seq ?_
    refine awp_region ?_
    refine al_step rfl rfl (aop_assign rfl) ?_
    refine al_end rfl ?_
    refine awp_block ?_
    refine awp_while (α := Nat × Int) (fun (i, m) => ⟨21, mk [(1, .ptr b1 0), (3, .p (I m)), (4, .p (I (i : Int)))], [.box b1 [.p (I tk), .p (I ti), .p (.str tn), .p (.lst (List.map encL tl)), .p (.lst (encTs ts))]], []⟩) (fun (i, m) => ts.length - i) (fun (i, m) => i ≤ ts.length ∧ (sizesW m (ts.drop i) = sizesW 1 ts)) ⟨0, 1⟩ (by simp) ?_ ?_
    · exact le_mkW ⟨we rfl, we rfl, we rfl, trivial⟩ (leH (is := [0]) rfl (wl (oe rfl) (wl0)))
    rintro ⟨i, m⟩ hC
    try simp only at hC
    obtain ⟨hi, hC⟩ := hC
    refine awp_seq ?_
    refine awp_seq ?_
    refine awp_region ?_
    refine al_step rfl rfl (aop_move rfl) ?_
    refine al_step rfl rfl (aop_field_ptr fd26 rfl rfl) ?_
    refine al_step rfl rfl (aop_load_box1 (i := 0) ty24 rfl rfl rfl) ?_
    refine al_step rfl rfl (aop_lenE el24 rfl (encTs_len _)) ?_
    refine al_step rfl rfl (aop_cmp rfl rfl rfl) ?_
    refine al_end rfl ?_
    refine awp_cond rfl (fun c => ?_) (fun c => ?_)
    · (try simp only [sd, se] at c)
      refine awp_skip ?_
      refine awp_seq ?_
      refine awp_block ?_
      refine awp_region ?_
      refine al_step rfl rfl (aop_move rfl) ?_
      refine al_step rfl rfl (aop_field_ptr fd26 rfl rfl) ?_
      refine al_step rfl rfl (aop_load_box1 (i := 0) ty24 rfl rfl rfl) ?_
      refine al_step rfl rfl (aop_move rfl) ?_
      obtain ⟨x, hx⟩ := getElem?_of_lt (l := ts) (i := i) (by omega)
      refine al_step rfl rfl (aop_index_lst el24 rfl rfl (by omega) (encTs_get hx) (encT_len _)) ?_
      refine al_step rfl rfl (aop_load_ref ty26 rfl (encT_len _)) ?_
      refine al_step rfl rfl (aop_fun rfl rfl (ih x (by have := size_mem hx; omega) (Nds_mem h2.2.2.2.2.1 hx)) rfl) ?_
      refine al_step rfl rfl (aop_addw rfl rfl) ?_
      refine al_step rfl rfl (aop_assign rfl) ?_
      refine al_end rfl ?_
      refine awp_region ?_
      refine al_step rfl rfl (aop_move rfl) ?_
      refine al_step rfl rfl (aop_add rfl rfl (by omega) (by omega)) ?_
      refine al_step rfl rfl (aop_assign rfl) ?_
      refine al_end rfl ?_
      refine ⟨⟨i + 1, wr (m + sizeW x)⟩, (by first | omega | (simp only; omega)), ⟨by omega, by rw [← hC, drop_at hx]; rfl⟩, le_mkW ⟨we rfl, we rfl, we rfl, trivial⟩ (leH (is := [0]) rfl (wl (oe rfl) (wl0)))⟩
    · (try simp only [sd, se] at c)
      refine awp_exit ?_
      refine awp_seq ?_
      refine awp_region ?_
      refine al_step rfl rfl (aop_move rfl) ?_
      refine al_step rfl rfl (aop_assign rfl) ?_
      refine al_end rfl ?_
      refine awp_ret ?_
      refine ⟨rfl, _, _, ⟨_, _, rfl, rfl, rfl⟩, (List.nil_sublist _), ?_⟩
      all_goals exact ⟨pI (by rw [show sizeW (.mk tk ti tn tl ts) = sizesW 1 ts from rfl, ← hC, show i = ts.length by omega, List.drop_length]; rfl), rfl⟩

theorem depthR_c : ∀ (n : Nat) (t : Tm), (size t ≤ n) → (Nd t) → Fun Tryz.prog 18 [.agg ((encT t).map .p)] (.p (I (depthW t))) := by
  intro n
  induction n with
  | zero => intro t h; cases t; simp [size] at h
  | succ n ih =>
    intro t h1 h2
    obtain ⟨tk, ti, tn, tl, ts⟩ := t
    simp only [size] at h1
    simp only [Nd, big] at h2
    refine acalls_of_awp Tryz.func18 rfl en18 (n := 22) rfl rfl ?_
    refine awp_seq ?_
    refine awp_region ?_
    refine al_new rfl rfl (aop_box rfl) fun b1 => ?_
    refine al_step rfl rfl (aop_assign rfl) ?_
    refine al_end rfl ?_
    refine awp_seq ?_
    refine awp_region ?_
    refine al_step rfl rfl (aop_assign rfl) ?_
    refine al_end rfl ?_
    refine awp_seq ?_
    refine awp_seq ?_
    refine awp_region ?_
    refine al_step rfl rfl (aop_assign rfl) ?_
    refine al_end rfl ?_
    refine awp_block ?_
    refine awp_while (α := Nat × Int) (fun (i, m) => ⟨22, mk [(1, .ptr b1 0), (3, .p (I m)), (4, .p (I (i : Int)))], [.box b1 [.p (I tk), .p (I ti), .p (.str tn), .p (.lst (List.map encL tl)), .p (.lst (encTs ts))]], []⟩) (fun (i, m) => ts.length - i) (fun (i, m) => i ≤ ts.length ∧ (depthsW m (ts.drop i) = depthsW 0 ts)) ⟨0, 0⟩ (by simp) ?_ ?_
    · exact le_mkW ⟨we rfl, we rfl, we rfl, trivial⟩ (leH (is := [0]) rfl (wl (oe rfl) (wl0)))
    rintro ⟨i, m⟩ hC
    try simp only at hC
    obtain ⟨hi, hC⟩ := hC
    refine awp_seq ?_
    refine awp_seq ?_
    refine awp_region ?_
    refine al_step rfl rfl (aop_move rfl) ?_
    refine al_step rfl rfl (aop_field_ptr fd26 rfl rfl) ?_
    refine al_step rfl rfl (aop_load_box1 (i := 0) ty24 rfl rfl rfl) ?_
    refine al_step rfl rfl (aop_lenE el24 rfl (encTs_len _)) ?_
    refine al_step rfl rfl (aop_cmp rfl rfl rfl) ?_
    refine al_end rfl ?_
    refine awp_cond rfl (fun c => ?_) (fun c => ?_)
    · (try simp only [sd, se] at c)
      refine awp_skip ?_
      refine awp_seq ?_
      refine awp_block ?_
      refine awp_region ?_
      refine al_step rfl rfl (aop_move rfl) ?_
      refine al_step rfl rfl (aop_field_ptr fd26 rfl rfl) ?_
      refine al_step rfl rfl (aop_load_box1 (i := 0) ty24 rfl rfl rfl) ?_
      refine al_step rfl rfl (aop_move rfl) ?_
      obtain ⟨x, hx⟩ := getElem?_of_lt (l := ts) (i := i) (by omega)
      refine al_step rfl rfl (aop_index_lst el24 rfl rfl (by omega) (encTs_get hx) (encT_len _)) ?_
      refine al_step rfl rfl (aop_load_ref ty26 rfl (encT_len _)) ?_
      refine al_step rfl rfl (aop_fun rfl rfl (ih x (by have := size_mem hx; omega) (Nds_mem h2.2.2.2.2.1 hx)) rfl) ?_
      refine al_step rfl rfl (aop_max rfl rfl) ?_
      refine al_step rfl rfl (aop_assign rfl) ?_
      refine al_end rfl ?_
      refine awp_region ?_
      refine al_step rfl rfl (aop_move rfl) ?_
      refine al_step rfl rfl (aop_add rfl rfl (by omega) (by omega)) ?_
      refine al_step rfl rfl (aop_assign rfl) ?_
      refine al_end rfl ?_
      refine ⟨⟨i + 1, max m (depthW x)⟩, (by first | omega | (simp only; omega)), ⟨by omega, by rw [← hC, drop_at hx]; rfl⟩, le_mkW ⟨we rfl, we rfl, we rfl, trivial⟩ (leH (is := [0]) rfl (wl (oe rfl) (wl0)))⟩
    · (try simp only [sd, se] at c)
      refine awp_exit ?_
      refine awp_seq ?_
      refine awp_region ?_
      refine al_step rfl rfl (aop_move rfl) ?_
      refine al_step rfl rfl (aop_addw rfl rfl) ?_
      refine al_step rfl rfl (aop_assign rfl) ?_
      refine al_end rfl ?_
      refine awp_ret ?_
      refine ⟨rfl, _, _, ⟨_, _, rfl, rfl, rfl⟩, (List.nil_sublist _), ?_⟩
      all_goals exact ⟨pI (by rw [show depthW (.mk tk ti tn tl ts) = wr (depthsW 0 ts + 1) from rfl, ← hC, show i = ts.length by omega, List.drop_length]; rfl), rfl⟩

theorem fail_c : ∀ (b : Nat) (er nd e : Int), ACalls Tryz.prog 124 [.ptr b 0, .p (I e)] [.box b [.p (I er), .p (I nd)]] (retR (.tup []) [.box b [.p (I (vfail er e)), .p (I nd)]]) := by
  intro b er nd e
  refine acalls_of_awp Tryz.func124 rfl en124 (n := 13) rfl rfl ?_
  refine awp_seq ?_
  refine awp_region ?_
  refine al_step rfl rfl (aop_move rfl) ?_
  refine al_step rfl rfl (aop_nilCheck rfl) ?_
  refine al_step rfl rfl (aop_field_ptr fd163 rfl rfl) ?_
  refine al_step rfl rfl (aop_load_box1 (i := 0) ty3 rfl rfl rfl) ?_
  refine al_step rfl rfl (aop_cmp rfl rfl rfl) ?_
  refine al_end rfl ?_
  refine awp_cond rfl (fun c => ?_) (fun c => ?_)
  · (try simp only [sd, se] at c)
    refine awp_region ?_
    refine al_step rfl rfl (aop_move rfl) ?_
    refine al_step rfl rfl (aop_move rfl) ?_
    refine al_step rfl rfl (aop_nilCheck rfl) ?_
    refine al_step rfl rfl (aop_field_ptr fd163 rfl rfl) ?_
    refine al_step rfl rfl (aop_store_box (i := 0) ty3 rfl rfl rfl rfl rfl rfl) ?_
    refine al_end rfl ?_
    refine ⟨rfl, _, _, rfl, (subl (is := [0]) rfl), ?_⟩
    refine ⟨rfl, ?_⟩
    show ([.box b [.p (I e), .p (I nd)]] : List HObj) = _
    simp [vfail, c]
  · (try simp only [sd, se] at c)
    refine awp_skip ?_
    refine ⟨rfl, _, _, rfl, (subl (is := [0]) rfl), ?_⟩
    refine ⟨rfl, ?_⟩
    show ([.box b [.p (I er), .p (I nd)]] : List HObj) = _
    simp [vfail, c]

theorem variable_c : ∀ (b : Nat) (er nd i : Int), ACalls Tryz.prog 123 [.ptr b 0, .p (I i)] [.box b [.p (I er), .p (I nd)]] (retR (.agg ((encT (varT i)).map .p)) [.box b [.p (I (varE er i)), .p (I nd)]]) := by
  intro b er nd i
  refine acalls_of_awp Tryz.func123 rfl en123 (n := 11) rfl rfl ?_
  refine awp_seq ?_
  refine awp_region ?_
  refine al_new rfl rfl (aop_alloc zr26 rfl) fun b4 => ?_
  refine al_end rfl ?_
  refine awp_seq ?_
  refine awp_seq ?_
  refine awp_region ?_
  refine al_step rfl rfl (aop_move rfl) ?_
  refine al_step rfl rfl (aop_cmp rfl rfl rfl) ?_
  refine al_end rfl ?_
  refine awp_cond rfl (fun c => ?_) (fun c => ?_)
  · (try simp only [sd, se] at c)
    refine awp_region ?_
    refine al_step rfl rfl (aop_move rfl) ?_
    refine al_step rfl rfl (aop_retn [1] rfl (.inl ⟨rfl, rfl, rfl⟩) (fail_c b er nd 24) ⟨_, _, rfl, rfl, rfl⟩ (by decide) rfl (.inl rfl)) ?_
    refine al_end rfl ?_
    refine awp_seq ?_
    refine awp_region ?_
    refine al_step rfl rfl (aop_move rfl) ?_
    refine al_step rfl rfl (aop_build fd26 zr26 rfl) ?_
    refine al_step rfl rfl (aop_store_box (i := 0) ty26 rfl rfl rfl rfl rfl rfl) ?_
    refine al_end rfl ?_
    refine awp_ghost (ghost_box (i := 0) rfl) ?_
    refine awp_ret ?_
    refine ⟨rfl, _, _, ⟨_, _, rfl, (resv_row (i := 0) ty26 rfl rfl rfl), rfl⟩, (subl (is := [1]) rfl), ?_⟩
    refine ⟨rfl, ?_⟩
    show ([.box b [.p (I (vfail er 24)), .p (I nd)]] : List HObj) = _
    simp [varE, show i > 65535 by omega]
  · (try simp only [sd, se] at c)
    refine awp_skip ?_
    refine awp_seq ?_
    refine awp_region ?_
    refine al_step rfl rfl (aop_move rfl) ?_
    refine al_step rfl rfl (aop_build fd26 zr26 rfl) ?_
    refine al_step rfl rfl (aop_store_box (i := 0) ty26 rfl rfl rfl rfl rfl rfl) ?_
    refine al_end rfl ?_
    refine awp_ghost (ghost_box (i := 0) rfl) ?_
    refine awp_ret ?_
    refine ⟨rfl, _, _, ⟨_, _, rfl, (resv_row (i := 0) ty26 rfl rfl rfl), rfl⟩, (subl (is := [1]) rfl), ?_⟩
    refine ⟨rfl, ?_⟩
    show ([.box b [.p (I er), .p (I nd)]] : List HObj) = _
    simp [varE, show ¬ i > 65535 by omega]

theorem shift_c : ∀ (n : Nat) (t : Tm) (b : Nat) (by' fr d er nd : Int), (size t ≤ n) → (Nd t) → (0 ≤ d) → (d + n < 2 ^ 62) → ACalls Tryz.prog 122 [.ptr b 0, .agg ((encT t).map .p), .p (I by'), .p (I fr), .p (I d)] [.box b [.p (I er), .p (I nd)]] (retR (.agg ((encT ((shiftW by' fr d er t).1)).map .p)) [.box b [.p (I ((shiftW by' fr d er t).2)), .p (I nd)]]) := by
  intro n
  induction n with
  | zero => intro t b by' fr d er nd h; cases t; simp [size] at h
  | succ n ih =>
    intro t b by' fr d er nd h1 h2 h3 h4
    obtain ⟨tk, ti, tn, tl, ts⟩ := t
    simp only [size] at h1
    simp only [Nd, big] at h2
    refine acalls_of_awp Tryz.func122 rfl en122 (n := 68) rfl rfl ?_
    refine awp_seq ?_
    refine awp_region ?_
    refine al_new rfl rfl (aop_box rfl) fun b6 => ?_
    refine al_new rfl rfl (aop_alloc zr26 rfl) fun b10 => ?_
    refine al_end rfl ?_
    refine awp_seq ?_
    refine awp_seq ?_
    refine awp_region ?_
    refine al_step rfl rfl (aop_field_ptr fd26 rfl rfl) ?_
    refine al_step rfl rfl (aop_load_box1 (i := 1) ty3 rfl rfl rfl) ?_
    refine al_step rfl rfl (aop_cmp rfl rfl rfl) ?_
    refine al_end rfl ?_
    refine awp_cond rfl (fun c => ?_) (fun c => ?_)
    · (try simp only [sd, se] at c)
      refine awp_seq ?_
      refine awp_seq ?_
      refine awp_region ?_
      refine al_step rfl rfl (aop_field_ptr fd26 rfl rfl) ?_
      refine al_step rfl rfl (aop_load_box1 (i := 1) ty3 rfl rfl rfl) ?_
      refine al_step rfl rfl (aop_move rfl) ?_
      refine al_step rfl rfl (aop_move rfl) ?_
      refine al_step rfl rfl (aop_addw rfl rfl) ?_
      refine al_step rfl rfl (aop_cmp rfl rfl rfl) ?_
      refine al_end rfl ?_
      refine awp_cond rfl (fun c1 => ?_) (fun c1 => ?_)
      · (try simp only [sd, se] at c1)
        refine awp_seq ?_
        refine awp_region ?_
        refine al_step rfl rfl (aop_load_box (i := 1) ty26 rfl rfl rfl) ?_
        refine al_step rfl rfl (aop_store_box (i := 0) ty26 rfl rfl rfl rfl rfl rfl) ?_
        refine al_end rfl ?_
        refine awp_ret ?_
        refine ⟨rfl, _, _, ⟨_, _, rfl, (resv_row (i := 0) ty26 rfl rfl rfl), rfl⟩, (subl (is := [2]) rfl), ?_⟩
        refine ⟨by show (.agg [.p (I tk), .p (I ti), .p (.str tn), .p (.lst (List.map encL tl)), .p (.lst (encTs ts))] : AV) = _; rw [shiftW, if_pos c, if_pos c1]; rfl, ?_⟩
        show ([.box b [.p (I er), .p (I nd)]] : List HObj) = _
        rw [shiftW, if_pos c, if_pos c1]
      · (try simp only [sd, se] at c1)
        refine awp_skip ?_
        refine awp_seq ?_
        refine awp_seq ?_
        refine awp_region ?_
        refine al_step rfl rfl (aop_field_ptr fd26 rfl rfl) ?_
        refine al_step rfl rfl (aop_load_box1 (i := 1) ty3 rfl rfl rfl) ?_
        refine al_step rfl rfl (aop_move rfl) ?_
        refine al_step rfl rfl (aop_addw rfl rfl) ?_
        refine al_step rfl rfl (aop_move rfl) ?_
        refine al_step rfl rfl (aop_move rfl) ?_
        refine al_step rfl rfl (aop_addw rfl rfl) ?_
        refine al_step rfl rfl (aop_cmp rfl rfl rfl) ?_
        refine al_end rfl ?_
        refine awp_cond rfl (fun c2 => ?_) (fun c2 => ?_)
        · (try simp only [sd, se] at c2)
          refine awp_seq ?_
          refine awp_region ?_
          refine al_step rfl rfl (aop_move rfl) ?_
          refine al_step rfl rfl (aop_retn [2] rfl (.inl ⟨rfl, rfl, rfl⟩) (fail_c b er nd 24) ⟨_, _, rfl, rfl, rfl⟩ (by decide) rfl (.inl rfl)) ?_
          refine al_end rfl ?_
          refine awp_seq ?_
          refine awp_region ?_
          refine al_step rfl rfl (aop_load_box (i := 1) ty26 rfl rfl rfl) ?_
          refine al_step rfl rfl (aop_store_box (i := 0) ty26 rfl rfl rfl rfl rfl rfl) ?_
          refine al_end rfl ?_
          refine awp_ret ?_
          refine ⟨rfl, _, _, ⟨_, _, rfl, (resv_row (i := 0) ty26 rfl rfl rfl), rfl⟩, (subl (is := [2]) rfl), ?_⟩
          refine ⟨by show (.agg [.p (I tk), .p (I ti), .p (.str tn), .p (.lst (List.map encL tl)), .p (.lst (encTs ts))] : AV) = _; rw [shiftW, if_pos c, if_neg (by omega), if_pos c2]; rfl, ?_⟩
          show ([.box b [.p (I (vfail er 24)), .p (I nd)]] : List HObj) = _
          rw [shiftW, if_pos c, if_neg (by omega), if_pos c2]
        · (try simp only [sd, se] at c2)
          refine awp_skip ?_
          refine awp_seq ?_
          refine awp_region ?_
          refine al_step rfl rfl (aop_move rfl) ?_
          refine al_step rfl rfl (aop_field_ptr fd26 rfl rfl) ?_
          refine al_step rfl rfl (aop_load_box1 (i := 1) ty3 rfl rfl rfl) ?_
          refine al_step rfl rfl (aop_move rfl) ?_
          refine al_step rfl rfl (aop_addw rfl rfl) ?_
          refine al_step rfl rfl (aop_retn [2] rfl (.inl ⟨rfl, rfl, rfl⟩) (variable_c b er nd (wr ((ti : Int) + (by' : Int)))) ⟨_, _, rfl, rfl, rfl⟩ (by decide) rfl (.inl rfl)) ?_
          refine al_step rfl rfl (aop_store_whole (i := 0) ty26 rfl rfl rfl (by simp [encT_len]) (by first | rfl | simp [encT_len]) (one_Tm _)) ?_
          refine al_end rfl ?_
          refine awp_ret ?_
          refine ⟨rfl, _, _, ⟨_, _, rfl, (resv_row (i := 0) ty26 rfl rfl (by simp [encT_len])), rfl⟩, (subl (is := [2]) rfl), ?_⟩
          refine ⟨by show (.agg ((encT (varT (wr ((ti : Int) + (by' : Int))))).map .p) : AV) = _; rw [shiftW, if_pos c, if_neg (by omega), if_neg (by omega)], ?_⟩
          show ([.box b [.p (I (varE er (wr ((ti : Int) + (by' : Int))))), .p (I nd)]] : List HObj) = _
          rw [shiftW, if_pos c, if_neg (by omega), if_neg (by omega)]
    · (try simp only [sd, se] at c)
      refine awp_skip ?_
      refine awp_seq ?_
      refine awp_region ?_
      refine al_step rfl rfl (aop_assign rfl) ?_
      refine al_end rfl ?_
      refine awp_seq ?_
      refine awp_seq ?_
      refine awp_region ?_
      refine al_step rfl rfl (aop_assign rfl) ?_
      refine al_end rfl ?_
      refine awp_block ?_
      refine awp_ghost (ghost_own (t := 11) (sz := 5) rfl) ?_
      refine awp_while (α := Nat × List Tm × Int × Option Nat × Nat) (fun (i, ys, e, o, cp) => ⟨68, mk [(0, .ptr b 0), (2, .p (I by')), (3, .p (I fr)), (4, .p (I d)), (6, .ptr b6 0), (10, .ptr b10 0), (11, .vs o (encTs ys).length cp), (12, .p (I (i : Int)))], [.vec o 5 (encTs ys) cp, .box b10 [.p (I 0), .p (I 0), .p (.str ⟨#[]⟩), .p (.nils), .p (.nils)], .box b6 [.p (I tk), .p (I ti), .p (.str tn), .p (.lst (List.map encL tl)), .p (.lst (encTs ts))], .box b [.p (I e), .p (I nd)]], []⟩) (fun (i, ys, e, o, cp) => ts.length - i) (fun (i, ys, e, o, cp) => i ≤ ts.length ∧ (ys.length = i ∧ (ys ++ (shiftsW by' fr tk d i e (ts.drop i)).1, (shiftsW by' fr tk d i e (ts.drop i)).2) = shiftsW by' fr tk d 0 er ts)) ⟨0, [], er, none, 0⟩ (by simp) ?_ ?_
      · exact le_mkW ⟨we rfl, we rfl, we rfl, we rfl, we rfl, we rfl, we rfl, we rfl, trivial⟩ (leH (is := [0, 1, 2, 3]) rfl (wl (oe rfl) (wl (oe rfl) (wl (oe rfl) (wl (oe rfl) (wl0))))))
      rintro ⟨i, ys, e, o, cp⟩ hC
      try simp only at hC
      obtain ⟨hi, hl, hC⟩ := hC
      refine awp_seq ?_
      refine awp_seq ?_
      refine awp_region ?_
      refine al_step rfl rfl (aop_move rfl) ?_
      refine al_step rfl rfl (aop_field_ptr fd26 rfl rfl) ?_
      refine al_step rfl rfl (aop_load_box1 (i := 2) ty24 rfl rfl rfl) ?_
      refine al_step rfl rfl (aop_lenE el24 rfl (encTs_len _)) ?_
      refine al_step rfl rfl (aop_cmp rfl rfl rfl) ?_
      refine al_end rfl ?_
      refine awp_cond rfl (fun c1 => ?_) (fun c1 => ?_)
      · (try simp only [sd, se] at c1)
        refine awp_skip ?_
        refine awp_seq ?_
        refine awp_block ?_
        refine awp_dr (fun k => Nat.beq k 17) mx0 ?_
        refine dr_free rfl rfl (fun _ => aop_move rfl) trivial ?_
        refine dr_free rfl rfl (fun _ => aop_move rfl) trivial ?_
        refine dr_free rfl rfl (fun _ => aop_field_ptr fd26 rfl rfl) trivial ?_
        refine dr_read (j := 2) rfl rfl rfl (fun H i hi => aop_load_box1 (i := i) ty24 rfl hi rfl) (by repeat' first | exact trivial | refine And.intro ?_ ?_ | ((refine Or.inr (And.intro ?_ ?_) <;> repeat (first | exact List.Mem.head _ | apply List.Mem.tail)); done) | exact Or.inl (by kernel_rfl)) trivial ?_
        refine dr_free rfl rfl (fun _ => aop_move rfl) trivial ?_
        obtain ⟨x, hx⟩ := getElem?_of_lt (l := ts) (i := i) (by omega)
        refine dr_free rfl rfl (fun _ => aop_index_lst el24 rfl rfl (by omega) (encTs_get hx) (encT_len _)) trivial ?_
        refine dr_free rfl rfl (fun _ => aop_load_ref ty26 rfl (encT_len _)) trivial ?_
        refine dr_free rfl rfl (fun _ => aop_move rfl) trivial ?_
        refine dr_free rfl rfl (fun _ => aop_move rfl) trivial ?_
        refine dr_free rfl rfl (fun _ => aop_move rfl) trivial ?_
        refine dr_free rfl rfl (fun _ => aop_field_ptr fd26 rfl rfl) trivial ?_
        refine dr_read (j := 2) rfl rfl rfl (fun H i hi => aop_load_box1 (i := i) ty3 rfl hi rfl) (by repeat' first | exact trivial | refine And.intro ?_ ?_ | ((refine Or.inr (And.intro ?_ ?_) <;> repeat (first | exact List.Mem.head _ | apply List.Mem.tail)); done) | exact Or.inl (by kernel_rfl)) trivial ?_
        refine dr_free rfl rfl (fun _ => aop_move rfl) trivial ?_
        refine dr_free rfl rfl (fun _ => aop_fun rfl rfl (below_c tk (i : Int)) rfl) trivial ?_
        refine dr_free rfl rfl (fun _ => aop_add rfl rfl (by have := below_le tk i; omega) (by have := below_le tk i; omega)) trivial ?_
        refine dr_eff rfl rfl (aop_retn [3] rfl (.inl ⟨rfl, rfl, rfl⟩) (ih x b by' fr ((d : Int) + (below tk (i : Int) : Int)) e nd (by have := size_mem hx; omega) (Nds_mem h2.2.2.2.2.1 hx) (by have := below_le tk i; omega) (by have := below_le tk i; omega)) ⟨_, _, rfl, rfl, rfl⟩ (by decide) rfl (.inl rfl)) (by repeat' first | exact trivial | refine And.intro ?_ ?_ | ((refine Or.inr (And.intro ?_ ?_) <;> repeat (first | exact List.Mem.head _ | apply List.Mem.tail)); done) | exact Or.inl (by kernel_rfl)) trivial ?_
        generalize hz : (shiftW by' fr ((d : Int) + (below tk (i : Int) : Int)) e x).1 = z
        obtain ⟨zk, zi, zn, zl, zs⟩ := z
        refine dr_free rfl rfl (fun _ => aop_buildSlice el24 zr26 rfl rfl rfl rfl rfl) trivial ?_
        refine dr_app [] rfl rfl (aop_append2 (i := 0) (rows' := encTs [(.mk zk zi zn zl zs : Tm)]) el24 el24 zr26 rfl rfl rfl rfl rfl rfl (solid_Tm _) (by simp only [encTs_len, List.length_map, List.length_cons, List.length_nil, List.nil_append, List.length_append]; omega) (vn_Tm ys [(.mk zk zi zn zl zs : Tm)])) (by kernel_rfl) fun o1 cp1 => ⟨(by repeat' first | exact trivial | refine And.intro ?_ ?_ | ((refine Or.inr (And.intro ?_ ?_) <;> repeat (first | exact List.Mem.head _ | apply List.Mem.tail)); done) | exact Or.inl (by kernel_rfl)), trivial, ?_⟩
        refine dr_free rfl rfl (fun _ => aop_assign rfl) trivial ?_
        refine dr_end rfl (by kernel_rfl) ?_
        refine awp_region ?_
        refine al_step rfl rfl (aop_move rfl) ?_
        refine al_step rfl rfl (aop_add rfl rfl (by omega) (by omega)) ?_
        refine al_step rfl rfl (aop_assign rfl) ?_
        refine al_end rfl ?_
        refine ⟨⟨i + 1, ys ++ [(shiftW by' fr (d + below tk i) e x).1], (shiftW by' fr (d + below tk i) e x).2, o1, cp1⟩, (by first | omega | (simp only; omega)), ⟨by omega, ⟨by simp [hl], by rw [← hC, drop_at hx]; simp [shiftsW]⟩⟩, le_mkW ⟨we rfl, we rfl, we rfl, we rfl, we rfl, we rfl, we (vsE_Tm (ys ++ [(.mk zk zi zn zl zs : Tm)]) (by rw [hz])), we rfl, trivial⟩ (leH (is := [0, 1, 2, 3]) rfl (wl (ovE_Tm (ys ++ [(.mk zk zi zn zl zs : Tm)]) (by rw [hz])) (wl (oe rfl) (wl (oe rfl) (wl (oe rfl) (wl0))))))⟩
      · (try simp only [sd, se] at c1)
        refine awp_exit ?_
        refine awp_seq ?_
        refine awp_region ?_
        refine al_step rfl rfl (aop_move rfl) ?_
        refine al_step rfl rfl (aop_field_ptr fd26 rfl rfl) ?_
        refine al_ghost (ghost_freeze (i := 0) [11, 65] rfl (memall ⟨rfl, rfl, trivial⟩)) ?_
        refine al_step rfl rfl (aop_store_box (i := 1) ty24 rfl rfl rfl rfl rfl rfl) ?_
        refine al_end rfl ?_
        refine awp_seq ?_
        refine awp_region ?_
        refine al_step rfl rfl (aop_load_box (i := 1) ty26 rfl rfl rfl) ?_
        refine al_step rfl rfl (aop_store_box (i := 0) ty26 rfl rfl rfl rfl rfl rfl) ?_
        refine al_end rfl ?_
        refine awp_ret ?_
        refine ⟨rfl, _, _, ⟨_, _, rfl, (resv_row (i := 0) ty26 rfl rfl rfl), rfl⟩, (subl (is := [2]) rfl), ?_⟩
        refine ⟨by show (.agg [.p (I tk), .p (I ti), .p (.str tn), .p (.lst (List.map encL tl)), .p (.lst (encTs ys))] : AV) = _; rw [shiftW, if_neg c]; rw [show i = ts.length by omega, List.drop_length] at hC; rw [← hC]; simp [shiftsW]; rfl, ?_⟩
        show ([.box b [.p (I e), .p (I nd)]] : List HObj) = _
        rw [shiftW, if_neg c]; rw [show i = ts.length by omega, List.drop_length] at hC; rw [← hC]; simp [shiftsW]

end Go.Proofs.YtgfecpjmbgcobaaGreat
/- Contracts of functions of the program. -/
namespace Go.Proofs.YtgfecpjmbgcobaaGreat
open Go.Abs Go.Eu
set_option linter.unusedVariables false
set_option linter.unusedSimpArgs false
set_option maxRecDepth 100000
theorem subst_c : ∀ (n : Nat) (t : Tm) (vs : List Tm) (b : Nat) (d er nd : Int), (size t ≤ n) → (Nd t) → (Nds vs) → (sizes vs + d + n < 2 ^ 62) → (0 ≤ d) → ACalls Tryz.prog 121 [.ptr b 0, .agg ((encT t).map .p), .p (.lst (encTs vs)), .p (I d)] [.box b [.p (I er), .p (I nd)]] (retR (.agg ((encT ((substW vs d er nd t).1)).map .p)) [.box b [.p (I ((substW vs d er nd t).2.1)), .p (I ((substW vs d er nd t).2.2))]]) := by
  intro n
  induction n with
  | zero => intro t vs b d er nd h; cases t; simp [size] at h
  | succ n ih =>
    intro t vs b d er nd h1 h2 h3 h4 h5
    obtain ⟨tk, ti, tn, tl, ts⟩ := t
    simp only [size] at h1
    simp only [Nd, rng, big] at h2
    have hvl := len_le_sizes vs
    refine acalls_of_awp Tryz.func121 rfl en121 (n := 105) rfl rfl ?_
    refine awp_seq ?_
    refine awp_region ?_
    refine al_new rfl rfl (aop_box rfl) fun b5 => ?_
    refine al_new rfl rfl (aop_alloc zr26 rfl) fun b8 => ?_
    refine al_end rfl ?_
    refine awp_seq ?_
    refine awp_seq ?_
    refine awp_region ?_
    refine al_step rfl rfl (aop_move rfl) ?_
    refine al_step rfl rfl (aop_nilCheck rfl) ?_
    refine al_step rfl rfl (aop_field_ptr fd163 rfl rfl) ?_
    refine al_step rfl rfl (aop_load_box1 (i := 2) ty3 rfl rfl rfl) ?_
    refine al_step rfl rfl (aop_cmp rfl rfl rfl) ?_
    refine al_end rfl ?_
    refine awp_cond rfl (fun c => ?_) (fun c => ?_)
    · (try simp only [sd, se] at c)
      refine awp_seq ?_
      refine awp_region ?_
      refine al_step rfl rfl (aop_load_box (i := 1) ty26 rfl rfl rfl) ?_
      refine al_step rfl rfl (aop_store_box (i := 0) ty26 rfl rfl rfl rfl rfl rfl) ?_
      refine al_end rfl ?_
      refine awp_ret ?_
      refine ⟨rfl, _, _, ⟨_, _, rfl, (resv_row (i := 0) ty26 rfl rfl rfl), rfl⟩, (subl (is := [2]) rfl), ?_⟩
      refine ⟨by show (.agg [.p (I tk), .p (I ti), .p (.str tn), .p (.lst (List.map encL tl)), .p (.lst (encTs ts))] : AV) = _; rw [substW, if_pos (by omega)]; rfl, ?_⟩
      show ([.box b [.p (I er), .p (I nd)]] : List HObj) = _
      rw [substW, if_pos (by omega)]
    · (try simp only [sd, se] at c)
      refine awp_skip ?_
      refine awp_seq ?_
      refine awp_seq ?_
      refine awp_meetR [0, 2, 3, 5, 8] 35 (fun y => y = .p (.bool ((((tk : Int) == (0 : Int)) && (decide ((ti : Int) ≥ (d : Int)))) && (decide (((ti : Int) - (d : Int) : Int) < ((vs.length : Nat) : Int)))))) ?_ ?_
      · refine awp_region ?_
        refine al_step rfl rfl (aop_field_ptr fd26 rfl rfl) ?_
        refine al_step rfl rfl (aop_load_box1 (i := 1) ty3 rfl rfl rfl) ?_
        refine al_step rfl rfl (aop_cmp rfl rfl rfl) ?_
        refine al_step rfl rfl (aop_move rfl) ?_
        refine al_case 21 rfl (fun g => ?_) (fun g => ?_)
        · (try simp only [sd, se] at g)
          refine al_stepg rfl rfl rfl rfl (aop_field_ptr fd26 rfl rfl) ?_
          refine al_stepg rfl rfl rfl rfl (aop_load_box1 (i := 1) ty3 rfl rfl rfl) ?_
          refine al_stepg rfl rfl rfl rfl (aop_move rfl) ?_
          refine al_stepg rfl rfl rfl rfl (aop_cmp rfl rfl rfl) ?_
          refine al_step rfl rfl (aop_pick rfl rfl) ?_
          refine al_step rfl rfl (aop_move rfl) ?_
          refine al_case 27 rfl (fun g1 => ?_) (fun g1 => ?_)
          · (try simp only [sd, se] at g1)
            refine al_stepg rfl rfl rfl rfl (aop_field_ptr fd26 rfl rfl) ?_
            refine al_stepg rfl rfl rfl rfl (aop_load_box1 (i := 1) ty3 rfl rfl rfl) ?_
            refine al_stepg rfl rfl rfl rfl (aop_move rfl) ?_
            refine al_stepg rfl rfl rfl rfl (aop_sub rfl rfl (by omega) (by omega)) ?_
            refine al_stepg rfl rfl rfl rfl (aop_move rfl) ?_
            refine al_stepg rfl rfl rfl rfl (aop_lenE el24 rfl (encTs_len _)) ?_
            refine al_stepg rfl rfl rfl rfl (aop_cmp rfl rfl rfl) ?_
            refine al_step rfl rfl (aop_pick rfl rfl) ?_
            refine al_end rfl ?_
            exact ⟨rfl, rfl, (by first | exact List.Sublist.refl _ | exact List.sublist_cons_self _ _), (by first | rfl | (refine pB ?_; simp_all; done) | (refine pB ?_; simp_all <;> (intros; omega))), ⟨rfl, rfl, rfl, rfl, rfl, trivial⟩⟩
          · (try simp only [sd, se] at g1)
            refine al_pass rfl rfl rfl rfl rfl ?_
            refine al_pass rfl rfl rfl rfl rfl ?_
            refine al_pass rfl rfl rfl rfl rfl ?_
            refine al_pass rfl rfl rfl rfl rfl ?_
            refine al_pass rfl rfl rfl rfl rfl ?_
            refine al_pass rfl rfl rfl rfl rfl ?_
            refine al_pass rfl rfl rfl rfl rfl ?_
            refine al_step rfl rfl (aop_pick rfl rfl) ?_
            refine al_end rfl ?_
            exact ⟨rfl, rfl, (by first | exact List.Sublist.refl _ | exact List.sublist_cons_self _ _), (by first | rfl | (refine pB ?_; simp_all; done) | (refine pB ?_; simp_all <;> (intros; omega))), ⟨rfl, rfl, rfl, rfl, rfl, trivial⟩⟩
        · (try simp only [sd, se] at g)
          refine al_pass rfl rfl rfl rfl rfl ?_
          refine al_pass rfl rfl rfl rfl rfl ?_
          refine al_pass rfl rfl rfl rfl rfl ?_
          refine al_pass rfl rfl rfl rfl rfl ?_
          refine al_step rfl rfl (aop_pick rfl rfl) ?_
          refine al_step rfl rfl (aop_move rfl) ?_
          refine al_pass rfl rfl rfl rfl rfl ?_
          refine al_pass rfl rfl rfl rfl rfl ?_
          refine al_pass rfl rfl rfl rfl rfl ?_
          refine al_pass rfl rfl rfl rfl rfl ?_
          refine al_pass rfl rfl rfl rfl rfl ?_
          refine al_pass rfl rfl rfl rfl rfl ?_
          refine al_pass rfl rfl rfl rfl rfl ?_
          refine al_step rfl rfl (aop_pick rfl rfl) ?_
          refine al_end rfl ?_
          exact ⟨rfl, rfl, (by first | exact List.Sublist.refl _ | exact List.sublist_cons_self _ _), (by first | rfl | (refine pB ?_; simp_all; done) | (refine pB ?_; simp_all <;> (intros; omega))), ⟨rfl, rfl, rfl, rfl, rfl, trivial⟩⟩
      rintro _ rfl
      refine awp_cond rfl (fun c1 => ?_) (fun c1 => ?_)
      · (try simp only [sd, se] at c1)
        refine awp_seq ?_
        refine awp_region ?_
        refine al_step rfl rfl (aop_move rfl) ?_
        refine al_step rfl rfl (aop_field_ptr fd26 rfl rfl) ?_
        refine al_step rfl rfl (aop_load_box1 (i := 1) ty3 rfl rfl rfl) ?_
        refine al_step rfl rfl (aop_move rfl) ?_
        refine al_step rfl rfl (aop_sub rfl rfl (by omega) (by omega)) ?_
        obtain ⟨x, hx⟩ := getElem?_of_lt (l := vs) (i := ((ti : Int) - (d : Int) : Int).toNat) (by omega)
        refine al_step rfl rfl (aop_index_lst el24 rfl rfl (by omega) (encTs_get hx) (encT_len _)) ?_
        refine al_step rfl rfl (aop_load_ref ty26 rfl (encT_len _)) ?_
        refine al_new rfl rfl (aop_alloc zr26 rfl) fun b9 => ?_
        refine al_step rfl rfl (aop_store_whole (i := 0) ty26 rfl rfl rfl (by simp [encT_len]) (by first | rfl | simp [encT_len]) (one_Tm _)) ?_
        refine al_end rfl ?_
        refine awp_seq ?_
        refine awp_dr (fun k => false) mx0 ?_
        refine dr_free rfl rfl (fun _ => aop_move rfl) trivial ?_
        refine dr_free rfl rfl (fun _ => aop_nilCheck rfl) trivial ?_
        refine dr_free rfl rfl (fun _ => aop_field_ptr fd163 rfl rfl) trivial ?_
        refine dr_read (j := 3) rfl rfl rfl (fun H i hi => aop_load_box1 (i := i) ty3 rfl hi rfl) (by repeat' first | exact trivial | refine And.intro ?_ ?_ | ((refine Or.inr (And.intro ?_ ?_) <;> repeat (first | exact List.Mem.head _ | apply List.Mem.tail)); done) | exact Or.inl (by kernel_rfl)) trivial ?_
        refine dr_read (j := 0) rfl rfl rfl (fun H i hi => aop_load_box (i := i) ty26 rfl hi (by simp [encT_len])) (by repeat' first | exact trivial | refine And.intro ?_ ?_ | ((refine Or.inr (And.intro ?_ ?_) <;> repeat (first | exact List.Mem.head _ | apply List.Mem.tail)); done) | exact Or.inl (by kernel_rfl)) trivial ?_
        refine dr_free rfl rfl (fun _ => aop_fun rfl rfl (sizeR_c _ x (Nat.le_refl _) (Nds_mem h3 hx)) rfl) trivial ?_
        refine dr_free rfl rfl (fun _ => aop_addw rfl rfl) trivial ?_
        refine dr_free rfl rfl (fun _ => aop_nilCheck rfl) trivial ?_
        refine dr_free rfl rfl (fun _ => aop_field_ptr fd163 rfl rfl) trivial ?_
        refine dr_eff rfl rfl (aop_store_box (i := 3) ty3 rfl rfl rfl rfl rfl rfl) (by repeat' first | exact trivial | refine And.intro ?_ ?_ | ((refine Or.inr (And.intro ?_ ?_) <;> repeat (first | exact List.Mem.head _ | apply List.Mem.tail)); done) | exact Or.inl (by kernel_rfl)) trivial ?_
        refine dr_end rfl (by kernel_rfl) ?_
        refine awp_seq ?_
        refine awp_region ?_
        refine al_step rfl rfl (aop_move rfl) ?_
        refine al_step rfl rfl (aop_load_box (i := 0) ty26 rfl rfl (by simp [encT_len])) ?_
        refine al_step rfl rfl (aop_move rfl) ?_
        refine al_step rfl rfl (aop_retn [3] rfl (.inl ⟨rfl, rfl, rfl⟩) (shift_c _ x b d 0 0 er (wr ((nd : Int) + (sizeW x : Int))) (Nat.le_refl _) (Nds_mem h3 hx) (by omega) (by have := size_mem hx; omega)) ⟨_, _, rfl, rfl, rfl⟩ (by decide) rfl (.inl rfl)) ?_
        refine al_step rfl rfl (aop_store_whole (i := 1) ty26 rfl rfl rfl (by simp [encT_len]) (by first | rfl | simp [encT_len]) (one_Tm _)) ?_
        refine al_end rfl ?_
        refine awp_ret ?_
        refine ⟨rfl, _, _, ⟨_, _, rfl, (resv_row (i := 1) ty26 rfl rfl (by simp [encT_len])), rfl⟩, (subl (is := [3]) rfl), ?_⟩
        refine ⟨by show (.agg ((encT ((shiftW d 0 0 er x).1)).map .p) : AV) = _; rw [substW, if_neg (by omega), if_pos (by omega), getD_of hx], ?_⟩
        show ([.box b [.p (I ((shiftW d 0 0 er x).2)), .p (I (wr ((nd : Int) + (sizeW x : Int))))]] : List HObj) = _
        rw [substW, if_neg (by omega), if_pos (by omega), getD_of hx]
      · (try simp only [sd, se] at c1)
        refine awp_skip ?_
        refine awp_seq ?_
        refine awp_region ?_
        refine al_step rfl rfl (aop_move rfl) ?_
        refine al_step rfl rfl (aop_nilCheck rfl) ?_
        refine al_step rfl rfl (aop_field_ptr fd163 rfl rfl) ?_
        refine al_step rfl rfl (aop_load_box1 (i := 2) ty3 rfl rfl rfl) ?_
        refine al_step rfl rfl (aop_addw rfl rfl) ?_
        refine al_step rfl rfl (aop_nilCheck rfl) ?_
        refine al_step rfl rfl (aop_field_ptr fd163 rfl rfl) ?_
        refine al_step rfl rfl (aop_store_box (i := 2) ty3 rfl rfl rfl rfl rfl rfl) ?_
        refine al_end rfl ?_
        refine awp_seq ?_
        refine awp_seq ?_
        refine awp_region ?_
        refine al_step rfl rfl (aop_field_ptr fd26 rfl rfl) ?_
        refine al_step rfl rfl (aop_load_box1 (i := 1) ty3 rfl rfl rfl) ?_
        refine al_step rfl rfl (aop_cmp rfl rfl rfl) ?_
        refine al_end rfl ?_
        refine awp_cond rfl (fun c2 => ?_) (fun c2 => ?_)
        · (try simp only [sd, se] at c2)
          refine awp_seq ?_
          refine awp_seq ?_
          refine awp_region ?_
          refine al_step rfl rfl (aop_field_ptr fd26 rfl rfl) ?_
          refine al_step rfl rfl (aop_load_box1 (i := 1) ty3 rfl rfl rfl) ?_
          refine al_step rfl rfl (aop_move rfl) ?_
          refine al_step rfl rfl (aop_cmp rfl rfl rfl) ?_
          refine al_end rfl ?_
          refine awp_cond rfl (fun c3 => ?_) (fun c3 => ?_)
          · (try simp only [sd, se] at c3)
            refine awp_seq ?_
            refine awp_region ?_
            refine al_step rfl rfl (aop_move rfl) ?_
            refine al_step rfl rfl (aop_field_ptr fd26 rfl rfl) ?_
            refine al_step rfl rfl (aop_load_box1 (i := 1) ty3 rfl rfl rfl) ?_
            refine al_step rfl rfl (aop_move rfl) ?_
            refine al_step rfl rfl (aop_lenE el24 rfl (encTs_len _)) ?_
            refine al_step rfl rfl (aop_subw rfl rfl) ?_
            refine al_step rfl rfl (aop_retn [2] rfl (.inl ⟨rfl, rfl, rfl⟩) (variable_c b er (wr ((nd : Int) + (1 : Int))) (wr ((ti : Int) - ((vs.length : Nat) : Int)))) ⟨_, _, rfl, rfl, rfl⟩ (by decide) rfl (.inl rfl)) ?_
            refine al_step rfl rfl (aop_store_whole (i := 0) ty26 rfl rfl rfl (by simp [encT_len]) (by first | rfl | simp [encT_len]) (one_Tm _)) ?_
            refine al_end rfl ?_
            refine awp_ret ?_
            refine ⟨rfl, _, _, ⟨_, _, rfl, (resv_row (i := 0) ty26 rfl rfl (by simp [encT_len])), rfl⟩, (subl (is := [2]) rfl), ?_⟩
            refine ⟨by show (.agg ((encT (varT (wr ((ti : Int) - ((vs.length : Nat) : Int))))).map .p) : AV) = _; rw [substW, if_neg (by omega), if_neg (by omega), if_pos (by omega), if_pos (by omega)], ?_⟩
            show ([.box b [.p (I (varE er (wr ((ti : Int) - ((vs.length : Nat) : Int))))), .p (I (wr ((nd : Int) + (1 : Int))))]] : List HObj) = _
            rw [substW, if_neg (by omega), if_neg (by omega), if_pos (by omega), if_pos (by omega)]
          · (try simp only [sd, se] at c3)
            refine awp_skip ?_
            refine awp_seq ?_
            refine awp_region ?_
            refine al_step rfl rfl (aop_load_box (i := 1) ty26 rfl rfl rfl) ?_
            refine al_step rfl rfl (aop_store_box (i := 0) ty26 rfl rfl rfl rfl rfl rfl) ?_
            refine al_end rfl ?_
            refine awp_ret ?_
            refine ⟨rfl, _, _, ⟨_, _, rfl, (resv_row (i := 0) ty26 rfl rfl rfl), rfl⟩, (subl (is := [2]) rfl), ?_⟩
            refine ⟨by show (.agg [.p (I tk), .p (I ti), .p (.str tn), .p (.lst (List.map encL tl)), .p (.lst (encTs ts))] : AV) = _; rw [substW, if_neg (by omega), if_neg (by omega), if_pos (by omega), if_neg (by omega)]; rfl, ?_⟩
            show ([.box b [.p (I er), .p (I (wr ((nd : Int) + (1 : Int))))]] : List HObj) = _
            rw [substW, if_neg (by omega), if_neg (by omega), if_pos (by omega), if_neg (by omega)]
        · (try simp only [sd, se] at c2)
          refine awp_skip ?_
          refine awp_seq ?_
          refine awp_region ?_
          refine al_step rfl rfl (aop_assign rfl) ?_
          refine al_end rfl ?_
          refine awp_seq ?_
          refine awp_seq ?_
          refine awp_region ?_
          refine al_step rfl rfl (aop_assign rfl) ?_
          refine al_end rfl ?_
          refine awp_block ?_
          refine awp_ghost (ghost_own (t := 10) (sz := 5) rfl) ?_
          refine awp_while (α := Nat × List Tm × Int × Int × Option Nat × Nat) (fun (i, ys, e, m, o, cp) => ⟨105, mk [(0, .ptr b 0), (2, .p (.lst (encTs vs))), (3, .p (I d)), (5, .ptr b5 0), (8, .ptr b8 0), (10, .vs o (encTs ys).length cp), (11, .p (I (i : Int)))], [.vec o 5 (encTs ys) cp, .box b8 [.p (I 0), .p (I 0), .p (.str ⟨#[]⟩), .p (.nils), .p (.nils)], .box b5 [.p (I tk), .p (I ti), .p (.str tn), .p (.lst (List.map encL tl)), .p (.lst (encTs ts))], .box b [.p (I e), .p (I m)]], []⟩) (fun (i, ys, e, m, o, cp) => ts.length - i) (fun (i, ys, e, m, o, cp) => i ≤ ts.length ∧ (ys.length = i ∧ (ys ++ (substsW vs tk d i e m (ts.drop i)).1, (substsW vs tk d i e m (ts.drop i)).2) = substsW vs tk d 0 er (wr (nd + 1)) ts)) ⟨0, [], er, wr (nd + 1), none, 0⟩ (by simp) ?_ ?_
          · exact le_mkW ⟨we rfl, we rfl, we rfl, we rfl, we rfl, we rfl, we rfl, trivial⟩ (leH (is := [0, 1, 2, 3]) rfl (wl (oe rfl) (wl (oe rfl) (wl (oe rfl) (wl (oe rfl) (wl0))))))
          rintro ⟨i, ys, e, m, o, cp⟩ hC
          try simp only at hC
          obtain ⟨hi, hl, hC⟩ := hC
          refine awp_seq ?_
          refine awp_seq ?_
          refine awp_region ?_
          refine al_step rfl rfl (aop_move rfl) ?_
          refine al_step rfl rfl (aop_field_ptr fd26 rfl rfl) ?_
          refine al_step rfl rfl (aop_load_box1 (i := 2) ty24 rfl rfl rfl) ?_
          refine al_step rfl rfl (aop_lenE el24 rfl (encTs_len _)) ?_
          refine al_step rfl rfl (aop_cmp rfl rfl rfl) ?_
          refine al_end rfl ?_
          refine awp_cond rfl (fun c3 => ?_) (fun c3 => ?_)
          · (try simp only [sd, se] at c3)
            refine awp_skip ?_
            refine awp_seq ?_
            refine awp_block ?_
            refine awp_dr (fun k => Nat.beq k 16) mx0 ?_
            refine dr_free rfl rfl (fun _ => aop_move rfl) trivial ?_
            refine dr_free rfl rfl (fun _ => aop_move rfl) trivial ?_
            refine dr_free rfl rfl (fun _ => aop_field_ptr fd26 rfl rfl) trivial ?_
            refine dr_read (j := 2) rfl rfl rfl (fun H i hi => aop_load_box1 (i := i) ty24 rfl hi rfl) (by repeat' first | exact trivial | refine And.intro ?_ ?_ | ((refine Or.inr (And.intro ?_ ?_) <;> repeat (first | exact List.Mem.head _ | apply List.Mem.tail)); done) | exact Or.inl (by kernel_rfl)) trivial ?_
            refine dr_free rfl rfl (fun _ => aop_move rfl) trivial ?_
            obtain ⟨x, hx⟩ := getElem?_of_lt (l := ts) (i := i) (by omega)
            refine dr_free rfl rfl (fun _ => aop_index_lst el24 rfl rfl (by omega) (encTs_get hx) (encT_len _)) trivial ?_
            refine dr_free rfl rfl (fun _ => aop_load_ref ty26 rfl (encT_len _)) trivial ?_
            refine dr_free rfl rfl (fun _ => aop_move rfl) trivial ?_
            refine dr_free rfl rfl (fun _ => aop_move rfl) trivial ?_
            refine dr_free rfl rfl (fun _ => aop_field_ptr fd26 rfl rfl) trivial ?_
            refine dr_read (j := 2) rfl rfl rfl (fun H i hi => aop_load_box1 (i := i) ty3 rfl hi rfl) (by repeat' first | exact trivial | refine And.intro ?_ ?_ | ((refine Or.inr (And.intro ?_ ?_) <;> repeat (first | exact List.Mem.head _ | apply List.Mem.tail)); done) | exact Or.inl (by kernel_rfl)) trivial ?_
            refine dr_free rfl rfl (fun _ => aop_move rfl) trivial ?_
            refine dr_free rfl rfl (fun _ => aop_fun rfl rfl (below_c tk (i : Int)) rfl) trivial ?_
            refine dr_free rfl rfl (fun _ => aop_add rfl rfl (by have := below_le tk i; omega) (by have := below_le tk i; omega)) trivial ?_
            refine dr_eff rfl rfl (aop_retn [3] rfl (.inl ⟨rfl, rfl, rfl⟩) (ih x vs b ((d : Int) + (below tk (i : Int) : Int)) e m (by have := size_mem hx; omega) (Nds_mem h2.2.2.2.2.1 hx) h3 (by have := below_le tk i; omega) (by have := below_le tk i; omega)) ⟨_, _, rfl, rfl, rfl⟩ (by decide) rfl (.inl rfl)) (by repeat' first | exact trivial | refine And.intro ?_ ?_ | ((refine Or.inr (And.intro ?_ ?_) <;> repeat (first | exact List.Mem.head _ | apply List.Mem.tail)); done) | exact Or.inl (by kernel_rfl)) trivial ?_
            generalize hz : (substW vs ((d : Int) + (below tk (i : Int) : Int)) e m x).1 = z
            obtain ⟨zk, zi, zn, zl, zs⟩ := z
            refine dr_free rfl rfl (fun _ => aop_buildSlice el24 zr26 rfl rfl rfl rfl rfl) trivial ?_
            refine dr_app [] rfl rfl (aop_append2 (i := 0) (rows' := encTs [(.mk zk zi zn zl zs : Tm)]) el24 el24 zr26 rfl rfl rfl rfl rfl rfl (solid_Tm _) (by simp only [encTs_len, List.length_map, List.length_cons, List.length_nil, List.nil_append, List.length_append]; omega) (vn_Tm ys [(.mk zk zi zn zl zs : Tm)])) (by kernel_rfl) fun o1 cp1 => ⟨(by repeat' first | exact trivial | refine And.intro ?_ ?_ | ((refine Or.inr (And.intro ?_ ?_) <;> repeat (first | exact List.Mem.head _ | apply List.Mem.tail)); done) | exact Or.inl (by kernel_rfl)), trivial, ?_⟩
            refine dr_free rfl rfl (fun _ => aop_assign rfl) trivial ?_
            refine dr_end rfl (by kernel_rfl) ?_
            refine awp_region ?_
            refine al_step rfl rfl (aop_move rfl) ?_
            refine al_step rfl rfl (aop_add rfl rfl (by omega) (by omega)) ?_
            refine al_step rfl rfl (aop_assign rfl) ?_
            refine al_end rfl ?_
            refine ⟨⟨i + 1, ys ++ [(substW vs (d + below tk i) e m x).1], (substW vs (d + below tk i) e m x).2.1, (substW vs (d + below tk i) e m x).2.2, o1, cp1⟩, (by first | omega | (simp only; omega)), ⟨by omega, ⟨by simp [hl], by rw [← hC, drop_at hx]; simp [substsW]⟩⟩, le_mkW ⟨we rfl, we rfl, we rfl, we rfl, we rfl, we (vsE_Tm (ys ++ [(.mk zk zi zn zl zs : Tm)]) (by rw [hz])), we rfl, trivial⟩ (leH (is := [0, 1, 2, 3]) rfl (wl (ovE_Tm (ys ++ [(.mk zk zi zn zl zs : Tm)]) (by rw [hz])) (wl (oe rfl) (wl (oe rfl) (wl (oe rfl) (wl0))))))⟩
          · (try simp only [sd, se] at c3)
            refine awp_exit ?_
            refine awp_seq ?_
            refine awp_region ?_
            refine al_step rfl rfl (aop_move rfl) ?_
            refine al_step rfl rfl (aop_field_ptr fd26 rfl rfl) ?_
            refine al_ghost (ghost_freeze (i := 0) [10, 102] rfl (memall ⟨rfl, rfl, trivial⟩)) ?_
            refine al_step rfl rfl (aop_store_box (i := 1) ty24 rfl rfl rfl rfl rfl rfl) ?_
            refine al_end rfl ?_
            refine awp_seq ?_
            refine awp_region ?_
            refine al_step rfl rfl (aop_load_box (i := 1) ty26 rfl rfl rfl) ?_
            refine al_step rfl rfl (aop_store_box (i := 0) ty26 rfl rfl rfl rfl rfl rfl) ?_
            refine al_end rfl ?_
            refine awp_ret ?_
            refine ⟨rfl, _, _, ⟨_, _, rfl, (resv_row (i := 0) ty26 rfl rfl rfl), rfl⟩, (subl (is := [2]) rfl), ?_⟩
            refine ⟨by show (.agg [.p (I tk), .p (I ti), .p (.str tn), .p (.lst (List.map encL tl)), .p (.lst (encTs ys))] : AV) = _; rw [substW, if_neg (by omega), if_neg (by omega), if_neg (by omega)]; rw [show i = ts.length by omega, List.drop_length] at hC; rw [← hC]; simp [substsW]; rfl, ?_⟩
            show ([.box b [.p (I e), .p (I m)]] : List HObj) = _
            rw [substW, if_neg (by omega), if_neg (by omega), if_neg (by omega)]; rw [show i = ts.length by omega, List.drop_length] at hC; rw [← hC]; simp [substsW]

theorem underR_c : ∀ (t : Tm) (vs : List Tm) (d : Int), (size t < 2 ^ 60) → (Nd t) → (Nds vs) → (sizes vs < 2 ^ 60) → (0 ≤ d) → Fun Tryz.prog 115 [.agg ((encT t).map .p), .p (.lst (encTs vs)), .p (I d)] (.tup [.agg ((encT ((underW t vs d).1)).map .p), .p (I ((underW t vs d).2))]) := by
  intro t vs d h1 h2 h3 h4 h5
  generalize hr : substW vs (min d 65536) 0 0 t = r
  refine acalls_of_awp Tryz.func115 rfl en115 (n := 42) rfl rfl ?_
  refine awp_seq ?_
  refine awp_region ?_
  refine al_new rfl rfl (aop_box rfl) fun b3 => ?_
  refine al_new rfl rfl (aop_alloc zr26 rfl) fun b6 => ?_
  refine al_step rfl rfl (aop_assign rfl) ?_
  refine al_end rfl ?_
  refine awp_seq ?_
  refine awp_seq ?_
  refine awp_region ?_
  refine al_step rfl rfl (aop_move rfl) ?_
  refine al_step rfl rfl (aop_cmp rfl rfl rfl) ?_
  refine al_end rfl ?_
  refine awp_cond rfl (fun c => ?_) (fun c => ?_)
  · (try simp only [sd, se] at c)
    refine awp_seq ?_
    refine awp_region ?_
    refine al_step rfl rfl (aop_build fd26 zr26 rfl) ?_
    refine al_step rfl rfl (aop_store_box (i := 0) ty26 rfl rfl rfl rfl rfl rfl) ?_
    refine al_step rfl rfl (aop_assign rfl) ?_
    refine al_end rfl ?_
    refine awp_ghost (ghost_box (i := 0) rfl) ?_
    refine awp_ret ?_
    exact absurd c (by omega)
  · (try simp only [sd, se] at c)
    refine awp_skip ?_
    refine awp_seq ?_
    refine awp_region ?_
    refine al_step rfl rfl (aop_build fd163 zr163 rfl) ?_
    refine al_new rfl rfl (aop_box rfl) fun b14 => ?_
    refine al_step rfl rfl (aop_assign rfl) ?_
    refine al_end rfl ?_
    refine awp_seq ?_
    refine awp_region ?_
    refine al_step rfl rfl (aop_move rfl) ?_
    refine al_step rfl rfl (aop_load_box (i := 2) ty26 rfl rfl (by simp [encT_len])) ?_
    refine al_step rfl rfl (aop_move rfl) ?_
    refine al_step rfl rfl (aop_move rfl) ?_
    refine al_step rfl rfl (aop_min rfl rfl) ?_
    refine al_step rfl rfl (aop_retn [0] rfl (.inl ⟨rfl, rfl, rfl⟩) (subst_c _ t vs b14 (min (d : Int) (65536 : Int)) 0 0 (Nat.le_refl _) h2 h3 (by omega) (by omega)) ⟨_, _, rfl, rfl, rfl⟩ (by decide) rfl (.inl rfl)) ?_
    refine al_new rfl rfl (aop_alloc zr26 rfl) fun b9 => ?_
    refine al_step rfl rfl (aop_store_whole (i := 0) ty26 rfl rfl rfl (by simp [encT_len]) (by first | rfl | simp [encT_len]) (one_Tm _)) ?_
    refine al_end rfl ?_
    refine awp_seq ?_
    refine awp_seq ?_
    refine awp_region ?_
    refine al_step rfl rfl (aop_move rfl) ?_
    refine al_step rfl rfl (aop_nilCheck rfl) ?_
    refine al_step rfl rfl (aop_field_ptr fd163 rfl rfl) ?_
    refine al_step rfl rfl (aop_load_box1 (i := 1) ty3 rfl rfl rfl) ?_
    refine al_step rfl rfl (aop_cmp rfl rfl rfl) ?_
    refine al_end rfl ?_
    refine awp_cond rfl (fun c1 => ?_) (fun c1 => ?_)
    · (try simp only [sd, se] at c1)
      refine awp_seq ?_
      refine awp_region ?_
      refine al_step rfl rfl (aop_build fd26 zr26 rfl) ?_
      refine al_step rfl rfl (aop_store_box (i := 2) ty26 rfl rfl rfl rfl rfl rfl) ?_
      refine al_step rfl rfl (aop_assign rfl) ?_
      refine al_end rfl ?_
      refine awp_ghost (ghost_box (i := 2) rfl) ?_
      refine awp_ret ?_
      refine ⟨rfl, _, _, ⟨_, _, rfl, (resv_row (i := 2) ty26 rfl rfl rfl), ⟨_, _, rfl, rfl, rfl⟩⟩, (List.nil_sublist _), ?_⟩
      unfold underW
      rw [if_pos (by simpa using c1)]
      all_goals exact ⟨rfl, rfl⟩
    · (try simp only [sd, se] at c1)
      refine awp_skip ?_
      refine awp_seq ?_
      refine awp_seq ?_
      refine awp_region ?_
      refine al_step rfl rfl (aop_move rfl) ?_
      refine al_step rfl rfl (aop_nilCheck rfl) ?_
      refine al_step rfl rfl (aop_field_ptr fd163 rfl rfl) ?_
      refine al_step rfl rfl (aop_load_box1 (i := 1) ty3 rfl rfl rfl) ?_
      refine al_step rfl rfl (aop_cmp rfl rfl rfl) ?_
      refine al_end rfl ?_
      refine awp_cond rfl (fun c2 => ?_) (fun c2 => ?_)
      · (try simp only [sd, se] at c2)
        refine awp_seq ?_
        refine awp_dr (fun k => false) mx0 ?_
        refine dr_free rfl rfl (fun _ => aop_build fd26 zr26 rfl) trivial ?_
        refine dr_free rfl rfl (fun _ => aop_move rfl) trivial ?_
        refine dr_free rfl rfl (fun _ => aop_nilCheck rfl) trivial ?_
        refine dr_free rfl rfl (fun _ => aop_field_ptr fd163 rfl rfl) trivial ?_
        refine dr_read (j := 1) rfl rfl rfl (fun H i hi => aop_load_box1 (i := i) ty3 rfl hi rfl) (by repeat' first | exact trivial | refine And.intro ?_ ?_ | ((refine Or.inr (And.intro ?_ ?_) <;> repeat (first | exact List.Mem.head _ | apply List.Mem.tail)); done) | exact Or.inl (by kernel_rfl)) trivial ?_
        refine dr_eff rfl rfl (aop_store_box (i := 2) ty26 rfl rfl rfl rfl rfl rfl) (by repeat' first | exact trivial | refine And.intro ?_ ?_ | ((refine Or.inr (And.intro ?_ ?_) <;> repeat (first | exact List.Mem.head _ | apply List.Mem.tail)); done) | exact Or.inl (by kernel_rfl)) trivial ?_
        refine dr_free rfl rfl (fun _ => aop_assign rfl) trivial ?_
        refine dr_end rfl (by kernel_rfl) ?_
        refine awp_ghost (ghost_box (i := 2) rfl) ?_
        refine awp_ret ?_
        refine ⟨rfl, _, _, ⟨_, _, rfl, (resv_row (i := 2) ty26 rfl rfl rfl), ⟨_, _, rfl, rfl, rfl⟩⟩, (List.nil_sublist _), ?_⟩
        unfold underW
        rw [if_neg (by omega), if_pos c2]
        all_goals exact ⟨rfl, rfl⟩
      · (try simp only [sd, se] at c2)
        refine awp_skip ?_
        refine awp_seq ?_
        refine awp_seq ?_
        refine awp_region ?_
        refine al_step rfl rfl (aop_load_box (i := 0) ty26 rfl rfl (by simp [encT_len])) ?_
        refine al_step rfl rfl (aop_fun rfl rfl (depthR_c _ ((substW vs (min (d : Int) (65536 : Int)) 0 0 t).1) (Nat.le_refl _) (substW_nd t vs _ _ _ h2 h3)) rfl) ?_
        refine al_step rfl rfl (aop_cmp rfl rfl rfl) ?_
        refine al_end rfl ?_
        refine awp_cond rfl (fun c3 => ?_) (fun c3 => ?_)
        · (try simp only [sd, se] at c3)
          refine awp_seq ?_
          refine awp_region ?_
          refine al_step rfl rfl (aop_build fd26 zr26 rfl) ?_
          refine al_step rfl rfl (aop_store_box (i := 2) ty26 rfl rfl rfl rfl rfl rfl) ?_
          refine al_step rfl rfl (aop_assign rfl) ?_
          refine al_end rfl ?_
          refine awp_ghost (ghost_box (i := 2) rfl) ?_
          refine awp_ret ?_
          refine ⟨rfl, _, _, ⟨_, _, rfl, (resv_row (i := 2) ty26 rfl rfl rfl), ⟨_, _, rfl, rfl, rfl⟩⟩, (List.nil_sublist _), ?_⟩
          unfold underW
          rw [if_neg (by omega), if_neg (by simpa using c2), if_pos c3]
          all_goals exact ⟨rfl, rfl⟩
        · (try simp only [sd, se] at c3)
          refine awp_skip ?_
          refine awp_seq ?_
          refine awp_region ?_
          refine al_step rfl rfl (aop_load_box (i := 0) ty26 rfl rfl (by simp [encT_len])) ?_
          refine al_step rfl rfl (aop_store_whole (i := 2) ty26 rfl rfl rfl (by simp [encT_len]) (by first | rfl | simp [encT_len]) (one_Tm _)) ?_
          refine al_step rfl rfl (aop_assign rfl) ?_
          refine al_end rfl ?_
          refine awp_ret ?_
          refine ⟨rfl, _, _, ⟨_, _, rfl, (resv_row (i := 2) ty26 rfl rfl (by simp [encT_len])), ⟨_, _, rfl, rfl, rfl⟩⟩, (List.nil_sublist _), ?_⟩
          unfold underW
          rw [if_neg (by omega), if_neg (by simpa using c2), if_neg (by omega)]
          all_goals exact ⟨rfl, rfl⟩

theorem substR_c : ∀ (t : Tm) (vs : List Tm), (size t < 2 ^ 60) → (Nd t) → (Nds vs) → (sizes vs < 2 ^ 60) → Fun Tryz.prog 96 [.agg ((encT t).map .p), .p (.lst (encTs vs))] (.tup [.agg ((encT ((underW t vs 0).1)).map .p), .p (I ((underW t vs 0).2))]) := by
  intro t vs h1 h2 h3 h4
  refine acalls_of_awp Tryz.func96 rfl en96 (n := 11) rfl rfl ?_
  refine awp_seq ?_
  refine awp_region ?_
  refine al_new rfl rfl (aop_box rfl) fun b2 => ?_
  refine al_new rfl rfl (aop_alloc zr26 rfl) fun b4 => ?_
  refine al_step rfl rfl (aop_assign rfl) ?_
  refine al_end rfl ?_
  refine awp_seq ?_
  refine awp_region ?_
  refine al_step rfl rfl (aop_load_box (i := 1) ty26 rfl rfl (by simp [encT_len])) ?_
  refine al_step rfl rfl (aop_move rfl) ?_
  refine al_step rfl rfl (aop_fun rfl rfl (underR_c t vs 0 h1 h2 h3 h4 (by omega)) rfl) ?_
  refine al_step rfl rfl (aop_extract rfl rfl) ?_
  refine al_step rfl rfl (aop_extract rfl rfl) ?_
  refine al_step rfl rfl (aop_store_whole (i := 0) ty26 rfl rfl rfl (by simp [encT_len]) (by first | rfl | simp [encT_len]) (one_Tm _)) ?_
  refine al_step rfl rfl (aop_assign rfl) ?_
  refine al_end rfl ?_
  refine awp_ret ?_
  refine ⟨rfl, _, _, ⟨_, _, rfl, (resv_row (i := 0) ty26 rfl rfl (by simp [encT_len])), ⟨_, _, rfl, rfl, rfl⟩⟩, (List.nil_sublist _), ?_⟩
  all_goals exact ⟨rfl, rfl⟩

theorem formC_c : ∀ (b : Nat) (c : Cnt) (t : Tm) (e : Int), (Nd t) → ACalls Tryz.prog 59 [.ptr b 0, .agg ((encT t).map .p), .p (I e)] [.box b ((encC c).map .p)] (retR (.tup []) [.box b ((encC (c.form t e)).map .p)]) := by
  intro b c t e h1
  refine acalls_of_awp Tryz.func59 rfl en59 (n := 65) rfl rfl ?_
  refine awp_seq ?_
  refine awp_region ?_
  refine al_new rfl rfl (aop_box rfl) fun b4 => ?_
  refine al_end rfl ?_
  refine awp_seq ?_
  refine awp_dr (fun k => false) mx0 ?_
  refine dr_free rfl rfl (fun _ => aop_move rfl) trivial ?_
  refine dr_free rfl rfl (fun _ => aop_nilCheck rfl) trivial ?_
  refine dr_free rfl rfl (fun _ => aop_field_ptr fd40 rfl rfl) trivial ?_
  refine dr_read (j := 1) rfl rfl rfl (fun H i hi => aop_load_box1 (i := i) ty3 rfl hi rfl) (by repeat' first | exact trivial | refine And.intro ?_ ?_ | ((refine Or.inr (And.intro ?_ ?_) <;> repeat (first | exact List.Mem.head _ | apply List.Mem.tail)); done) | exact Or.inl (by kernel_rfl)) trivial ?_
  refine dr_read (j := 0) rfl rfl rfl (fun H i hi => aop_load_box (i := i) ty26 rfl hi (by simp [encT_len])) (by repeat' first | exact trivial | refine And.intro ?_ ?_ | ((refine Or.inr (And.intro ?_ ?_) <;> repeat (first | exact List.Mem.head _ | apply List.Mem.tail)); done) | exact Or.inl (by kernel_rfl)) trivial ?_
  refine dr_free rfl rfl (fun _ => aop_fun rfl rfl (sizeR_c _ t (Nat.le_refl _) h1) rfl) trivial ?_
  refine dr_free rfl rfl (fun _ => aop_addw rfl rfl) trivial ?_
  refine dr_free rfl rfl (fun _ => aop_nilCheck rfl) trivial ?_
  refine dr_free rfl rfl (fun _ => aop_field_ptr fd40 rfl rfl) trivial ?_
  refine dr_eff rfl rfl (aop_store_box (i := 1) ty3 rfl rfl rfl rfl rfl rfl) (by repeat' first | exact trivial | refine And.intro ?_ ?_ | ((refine Or.inr (And.intro ?_ ?_) <;> repeat (first | exact List.Mem.head _ | apply List.Mem.tail)); done) | exact Or.inl (by kernel_rfl)) trivial ?_
  refine dr_end rfl (by kernel_rfl) ?_
  refine awp_seq ?_
  refine awp_meetR [0] 61 (fun y => y = .p (.bool (((((((e : Int) != (0 : Int)) || (decide ((c.steps : Int) > (c.limit : Int)))) || (decide ((c.nodes : Int) > (wr ((2 : Int) * (c.limit : Int)) : Int)))) || (decide ((wr ((c.forms : Int) + (sizeW t : Int)) : Int) > (wr ((40 : Int) * (c.limit : Int)) : Int)))) || (decide ((sizeW t : Int) > (2000 : Int)))) || (decide ((depthW t : Int) > (95 : Int)))))) ?_ ?_
  · refine awp_dr (fun k => false) mx0 ?_
    refine dr_free rfl rfl (fun _ => aop_move rfl) trivial ?_
    refine dr_free rfl rfl (fun _ => aop_cmp rfl rfl rfl) trivial ?_
    refine dr_free rfl rfl (fun _ => aop_move rfl) trivial ?_
    refine dr_case 17 rfl (fun g => ?_) (fun g => ?_)
    · (try simp only [sd, se] at g)
      refine dr_skip rfl rfl rfl rfl rfl trivial ?_
      refine dr_skip rfl rfl rfl rfl rfl trivial ?_
      refine dr_skip rfl rfl rfl rfl rfl trivial ?_
      refine dr_skip rfl rfl rfl rfl rfl trivial ?_
      refine dr_skip rfl rfl rfl rfl rfl trivial ?_
      refine dr_skip rfl rfl rfl rfl rfl trivial ?_
      refine dr_skip rfl rfl rfl rfl rfl trivial ?_
      refine dr_skip rfl rfl rfl rfl rfl trivial ?_
      refine dr_skip rfl rfl rfl rfl rfl trivial ?_
      refine dr_free rfl rfl (fun _ => aop_pick rfl rfl) trivial ?_
      refine dr_free rfl rfl (fun _ => aop_move rfl) trivial ?_
      refine dr_skip rfl rfl rfl rfl rfl trivial ?_
      refine dr_skip rfl rfl rfl rfl rfl trivial ?_
      refine dr_skip rfl rfl rfl rfl rfl trivial ?_
      refine dr_skip rfl rfl rfl rfl rfl trivial ?_
      refine dr_skip rfl rfl rfl rfl rfl trivial ?_
      refine dr_skip rfl rfl rfl rfl rfl trivial ?_
      refine dr_skip rfl rfl rfl rfl rfl trivial ?_
      refine dr_skip rfl rfl rfl rfl rfl trivial ?_
      refine dr_skip rfl rfl rfl rfl rfl trivial ?_
      refine dr_skip rfl rfl rfl rfl rfl trivial ?_
      refine dr_free rfl rfl (fun _ => aop_pick rfl rfl) trivial ?_
      refine dr_free rfl rfl (fun _ => aop_move rfl) trivial ?_
      refine dr_skip rfl rfl rfl rfl rfl trivial ?_
      refine dr_skip rfl rfl rfl rfl rfl trivial ?_
      refine dr_skip rfl rfl rfl rfl rfl trivial ?_
      refine dr_skip rfl rfl rfl rfl rfl trivial ?_
      refine dr_skip rfl rfl rfl rfl rfl trivial ?_
      refine dr_skip rfl rfl rfl rfl rfl trivial ?_
      refine dr_skip rfl rfl rfl rfl rfl trivial ?_
      refine dr_skip rfl rfl rfl rfl rfl trivial ?_
      refine dr_skip rfl rfl rfl rfl rfl trivial ?_
      refine dr_skip rfl rfl rfl rfl rfl trivial ?_
      refine dr_free rfl rfl (fun _ => aop_pick rfl rfl) trivial ?_
      refine dr_free rfl rfl (fun _ => aop_move rfl) trivial ?_
      refine dr_skip rfl rfl rfl rfl rfl trivial ?_
      refine dr_skip rfl rfl rfl rfl rfl trivial ?_
      refine dr_skip rfl rfl rfl rfl rfl trivial ?_
      refine dr_free rfl rfl (fun _ => aop_pick rfl rfl) trivial ?_
      refine dr_free rfl rfl (fun _ => aop_move rfl) trivial ?_
      refine dr_skip rfl rfl rfl rfl rfl trivial ?_
      refine dr_skip rfl rfl rfl rfl rfl trivial ?_
      refine dr_skip rfl rfl rfl rfl rfl trivial ?_
      refine dr_free rfl rfl (fun _ => aop_pick rfl rfl) trivial ?_
      refine dr_end rfl (by kernel_rfl) ?_
      exact ⟨rfl, rfl, (by first | exact List.Sublist.refl _ | exact List.sublist_cons_self _ _), (by first | rfl | (refine pB ?_; simp_all; done) | (refine pB ?_; simp_all <;> (intros; omega))), ⟨rfl, trivial⟩⟩
    · (try simp only [sd, se] at g)
      refine dr_freeg rfl rfl rfl rfl (fun _ => aop_move rfl) trivial ?_
      refine dr_freeg rfl rfl rfl rfl (fun _ => aop_nilCheck rfl) trivial ?_
      refine dr_freeg rfl rfl rfl rfl (fun _ => aop_field_ptr fd40 rfl rfl) trivial ?_
      refine dr_readg (i := 1) rfl rfl rfl rfl rfl (fun H i hi => aop_load_box1 (i := i) ty3 rfl hi rfl) (by repeat' first | exact trivial | refine And.intro ?_ ?_ | ((refine Or.inr (And.intro ?_ ?_) <;> repeat (first | exact List.Mem.head _ | apply List.Mem.tail)); done) | exact Or.inl (by kernel_rfl)) trivial ?_
      refine dr_freeg rfl rfl rfl rfl (fun _ => aop_move rfl) trivial ?_
      refine dr_freeg rfl rfl rfl rfl (fun _ => aop_nilCheck rfl) trivial ?_
      refine dr_freeg rfl rfl rfl rfl (fun _ => aop_field_ptr fd40 rfl rfl) trivial ?_
      refine dr_readg (i := 1) rfl rfl rfl rfl rfl (fun H i hi => aop_load_box1 (i := i) ty3 rfl hi rfl) (by repeat' first | exact trivial | refine And.intro ?_ ?_ | ((refine Or.inr (And.intro ?_ ?_) <;> repeat (first | exact List.Mem.head _ | apply List.Mem.tail)); done) | exact Or.inl (by kernel_rfl)) trivial ?_
      refine dr_freeg rfl rfl rfl rfl (fun _ => aop_cmp rfl rfl rfl) trivial ?_
      refine dr_free rfl rfl (fun _ => aop_pick rfl rfl) trivial ?_
      refine dr_free rfl rfl (fun _ => aop_move rfl) trivial ?_
      refine dr_case 28 rfl (fun g1 => ?_) (fun g1 => ?_)
      · (try simp only [sd, se] at g1)
        refine dr_skip rfl rfl rfl rfl rfl trivial ?_
        refine dr_skip rfl rfl rfl rfl rfl trivial ?_
        refine dr_skip rfl rfl rfl rfl rfl trivial ?_
        refine dr_skip rfl rfl rfl rfl rfl trivial ?_
        refine dr_skip rfl rfl rfl rfl rfl trivial ?_
        refine dr_skip rfl rfl rfl rfl rfl trivial ?_
        refine dr_skip rfl rfl rfl rfl rfl trivial ?_
        refine dr_skip rfl rfl rfl rfl rfl trivial ?_
        refine dr_skip rfl rfl rfl rfl rfl trivial ?_
        refine dr_skip rfl rfl rfl rfl rfl trivial ?_
        refine dr_free rfl rfl (fun _ => aop_pick rfl rfl) trivial ?_
        refine dr_free rfl rfl (fun _ => aop_move rfl) trivial ?_
        refine dr_skip rfl rfl rfl rfl rfl trivial ?_
        refine dr_skip rfl rfl rfl rfl rfl trivial ?_
        refine dr_skip rfl rfl rfl rfl rfl trivial ?_
        refine dr_skip rfl rfl rfl rfl rfl trivial ?_
        refine dr_skip rfl rfl rfl rfl rfl trivial ?_
        refine dr_skip rfl rfl rfl rfl rfl trivial ?_
        refine dr_skip rfl rfl rfl rfl rfl trivial ?_
        refine dr_skip rfl rfl rfl rfl rfl trivial ?_
        refine dr_skip rfl rfl rfl rfl rfl trivial ?_
        refine dr_skip rfl rfl rfl rfl rfl trivial ?_
        refine dr_free rfl rfl (fun _ => aop_pick rfl rfl) trivial ?_
        refine dr_free rfl rfl (fun _ => aop_move rfl) trivial ?_
        refine dr_skip rfl rfl rfl rfl rfl trivial ?_
        refine dr_skip rfl rfl rfl rfl rfl trivial ?_
        refine dr_skip rfl rfl rfl rfl rfl trivial ?_
        refine dr_free rfl rfl (fun _ => aop_pick rfl rfl) trivial ?_
        refine dr_free rfl rfl (fun _ => aop_move rfl) trivial ?_
        refine dr_skip rfl rfl rfl rfl rfl trivial ?_
        refine dr_skip rfl rfl rfl rfl rfl trivial ?_
        refine dr_skip rfl rfl rfl rfl rfl trivial ?_
        refine dr_free rfl rfl (fun _ => aop_pick rfl rfl) trivial ?_
        refine dr_end rfl (by kernel_rfl) ?_
        exact ⟨rfl, rfl, (by first | exact List.Sublist.refl _ | exact List.sublist_cons_self _ _), (by first | rfl | (refine pB ?_; simp_all; done) | (refine pB ?_; simp_all <;> (intros; omega))), ⟨rfl, trivial⟩⟩
      · (try simp only [sd, se] at g1)
        refine dr_freeg rfl rfl rfl rfl (fun _ => aop_move rfl) trivial ?_
        refine dr_freeg rfl rfl rfl rfl (fun _ => aop_nilCheck rfl) trivial ?_
        refine dr_freeg rfl rfl rfl rfl (fun _ => aop_field_ptr fd40 rfl rfl) trivial ?_
        refine dr_readg (i := 1) rfl rfl rfl rfl rfl (fun H i hi => aop_load_box1 (i := i) ty3 rfl hi rfl) (by repeat' first | exact trivial | refine And.intro ?_ ?_ | ((refine Or.inr (And.intro ?_ ?_) <;> repeat (first | exact List.Mem.head _ | apply List.Mem.tail)); done) | exact Or.inl (by kernel_rfl)) trivial ?_
        refine dr_freeg rfl rfl rfl rfl (fun _ => aop_move rfl) trivial ?_
        refine dr_freeg rfl rfl rfl rfl (fun _ => aop_nilCheck rfl) trivial ?_
        refine dr_freeg rfl rfl rfl rfl (fun _ => aop_field_ptr fd40 rfl rfl) trivial ?_
        refine dr_readg (i := 1) rfl rfl rfl rfl rfl (fun H i hi => aop_load_box1 (i := i) ty3 rfl hi rfl) (by repeat' first | exact trivial | refine And.intro ?_ ?_ | ((refine Or.inr (And.intro ?_ ?_) <;> repeat (first | exact List.Mem.head _ | apply List.Mem.tail)); done) | exact Or.inl (by kernel_rfl)) trivial ?_
        refine dr_freeg rfl rfl rfl rfl (fun _ => aop_mulw rfl rfl) trivial ?_
        refine dr_freeg rfl rfl rfl rfl (fun _ => aop_cmp rfl rfl rfl) trivial ?_
        refine dr_free rfl rfl (fun _ => aop_pick rfl rfl) trivial ?_
        refine dr_free rfl rfl (fun _ => aop_move rfl) trivial ?_
        refine dr_case 40 rfl (fun g2 => ?_) (fun g2 => ?_)
        · (try simp only [sd, se] at g2)
          refine dr_skip rfl rfl rfl rfl rfl trivial ?_
          refine dr_skip rfl rfl rfl rfl rfl trivial ?_
          refine dr_skip rfl rfl rfl rfl rfl trivial ?_
          refine dr_skip rfl rfl rfl rfl rfl trivial ?_
          refine dr_skip rfl rfl rfl rfl rfl trivial ?_
          refine dr_skip rfl rfl rfl rfl rfl trivial ?_
          refine dr_skip rfl rfl rfl rfl rfl trivial ?_
          refine dr_skip rfl rfl rfl rfl rfl trivial ?_
          refine dr_skip rfl rfl rfl rfl rfl trivial ?_
          refine dr_skip rfl rfl rfl rfl rfl trivial ?_
          refine dr_free rfl rfl (fun _ => aop_pick rfl rfl) trivial ?_
          refine dr_free rfl rfl (fun _ => aop_move rfl) trivial ?_
          refine dr_skip rfl rfl rfl rfl rfl trivial ?_
          refine dr_skip rfl rfl rfl rfl rfl trivial ?_
          refine dr_skip rfl rfl rfl rfl rfl trivial ?_
          refine dr_free rfl rfl (fun _ => aop_pick rfl rfl) trivial ?_
          refine dr_free rfl rfl (fun _ => aop_move rfl) trivial ?_
          refine dr_skip rfl rfl rfl rfl rfl trivial ?_
          refine dr_skip rfl rfl rfl rfl rfl trivial ?_
          refine dr_skip rfl rfl rfl rfl rfl trivial ?_
          refine dr_free rfl rfl (fun _ => aop_pick rfl rfl) trivial ?_
          refine dr_end rfl (by kernel_rfl) ?_
          exact ⟨rfl, rfl, (by first | exact List.Sublist.refl _ | exact List.sublist_cons_self _ _), (by first | rfl | (refine pB ?_; simp_all; done) | (refine pB ?_; simp_all <;> (intros; omega))), ⟨rfl, trivial⟩⟩
        · (try simp only [sd, se] at g2)
          refine dr_freeg rfl rfl rfl rfl (fun _ => aop_move rfl) trivial ?_
          refine dr_freeg rfl rfl rfl rfl (fun _ => aop_nilCheck rfl) trivial ?_
          refine dr_freeg rfl rfl rfl rfl (fun _ => aop_field_ptr fd40 rfl rfl) trivial ?_
          refine dr_readg (i := 1) rfl rfl rfl rfl rfl (fun H i hi => aop_load_box1 (i := i) ty3 rfl hi rfl) (by repeat' first | exact trivial | refine And.intro ?_ ?_ | ((refine Or.inr (And.intro ?_ ?_) <;> repeat (first | exact List.Mem.head _ | apply List.Mem.tail)); done) | exact Or.inl (by kernel_rfl)) trivial ?_
          refine dr_freeg rfl rfl rfl rfl (fun _ => aop_move rfl) trivial ?_
          refine dr_freeg rfl rfl rfl rfl (fun _ => aop_nilCheck rfl) trivial ?_
          refine dr_freeg rfl rfl rfl rfl (fun _ => aop_field_ptr fd40 rfl rfl) trivial ?_
          refine dr_readg (i := 1) rfl rfl rfl rfl rfl (fun H i hi => aop_load_box1 (i := i) ty3 rfl hi rfl) (by repeat' first | exact trivial | refine And.intro ?_ ?_ | ((refine Or.inr (And.intro ?_ ?_) <;> repeat (first | exact List.Mem.head _ | apply List.Mem.tail)); done) | exact Or.inl (by kernel_rfl)) trivial ?_
          refine dr_freeg rfl rfl rfl rfl (fun _ => aop_mulw rfl rfl) trivial ?_
          refine dr_freeg rfl rfl rfl rfl (fun _ => aop_cmp rfl rfl rfl) trivial ?_
          refine dr_free rfl rfl (fun _ => aop_pick rfl rfl) trivial ?_
          refine dr_free rfl rfl (fun _ => aop_move rfl) trivial ?_
          refine dr_case 52 rfl (fun g3 => ?_) (fun g3 => ?_)
          · (try simp only [sd, se] at g3)
            refine dr_skip rfl rfl rfl rfl rfl trivial ?_
            refine dr_skip rfl rfl rfl rfl rfl trivial ?_
            refine dr_skip rfl rfl rfl rfl rfl trivial ?_
            refine dr_free rfl rfl (fun _ => aop_pick rfl rfl) trivial ?_
            refine dr_free rfl rfl (fun _ => aop_move rfl) trivial ?_
            refine dr_skip rfl rfl rfl rfl rfl trivial ?_
            refine dr_skip rfl rfl rfl rfl rfl trivial ?_
            refine dr_skip rfl rfl rfl rfl rfl trivial ?_
            refine dr_free rfl rfl (fun _ => aop_pick rfl rfl) trivial ?_
            refine dr_end rfl (by kernel_rfl) ?_
            exact ⟨rfl, rfl, (by first | exact List.Sublist.refl _ | exact List.sublist_cons_self _ _), (by first | rfl | (refine pB ?_; simp_all; done) | (refine pB ?_; simp_all <;> (intros; omega))), ⟨rfl, trivial⟩⟩
          · (try simp only [sd, se] at g3)
            refine dr_readg (i := 0) rfl rfl rfl rfl rfl (fun H i hi => aop_load_box (i := i) ty26 rfl hi (by simp [encT_len])) (by repeat' first | exact trivial | refine And.intro ?_ ?_ | ((refine Or.inr (And.intro ?_ ?_) <;> repeat (first | exact List.Mem.head _ | apply List.Mem.tail)); done) | exact Or.inl (by kernel_rfl)) trivial ?_
            refine dr_freeg rfl rfl rfl rfl (fun _ => aop_fun rfl rfl (sizeR_c _ t (Nat.le_refl _) h1) rfl) trivial ?_
            refine dr_freeg rfl rfl rfl rfl (fun _ => aop_cmp rfl rfl rfl) trivial ?_
            refine dr_free rfl rfl (fun _ => aop_pick rfl rfl) trivial ?_
            refine dr_free rfl rfl (fun _ => aop_move rfl) trivial ?_
            refine dr_case 57 rfl (fun g4 => ?_) (fun g4 => ?_)
            · (try simp only [sd, se] at g4)
              refine dr_skip rfl rfl rfl rfl rfl trivial ?_
              refine dr_skip rfl rfl rfl rfl rfl trivial ?_
              refine dr_skip rfl rfl rfl rfl rfl trivial ?_
              refine dr_free rfl rfl (fun _ => aop_pick rfl rfl) trivial ?_
              refine dr_end rfl (by kernel_rfl) ?_
              exact ⟨rfl, rfl, (by first | exact List.Sublist.refl _ | exact List.sublist_cons_self _ _), (by first | rfl | (refine pB ?_; simp_all; done) | (refine pB ?_; simp_all <;> (intros; omega))), ⟨rfl, trivial⟩⟩
            · (try simp only [sd, se] at g4)
              refine dr_readg (i := 0) rfl rfl rfl rfl rfl (fun H i hi => aop_load_box (i := i) ty26 rfl hi (by simp [encT_len])) (by repeat' first | exact trivial | refine And.intro ?_ ?_ | ((refine Or.inr (And.intro ?_ ?_) <;> repeat (first | exact List.Mem.head _ | apply List.Mem.tail)); done) | exact Or.inl (by kernel_rfl)) trivial ?_
              refine dr_freeg rfl rfl rfl rfl (fun _ => aop_fun rfl rfl (depthR_c _ t (Nat.le_refl _) h1) rfl) trivial ?_
              refine dr_freeg rfl rfl rfl rfl (fun _ => aop_cmp rfl rfl rfl) trivial ?_
              refine dr_free rfl rfl (fun _ => aop_pick rfl rfl) trivial ?_
              refine dr_end rfl (by kernel_rfl) ?_
              exact ⟨rfl, rfl, (by first | exact List.Sublist.refl _ | exact List.sublist_cons_self _ _), (by first | rfl | (refine pB ?_; simp_all; done) | (refine pB ?_; simp_all <;> (intros; omega))), ⟨rfl, trivial⟩⟩
  rintro _ rfl
  refine awp_cond rfl (fun c1 => ?_) (fun c1 => ?_)
  · have c1R := c1
    (try simp only [sd, se] at c1)
    refine awp_region ?_
    refine al_step rfl rfl (aop_move rfl) ?_
    refine al_step rfl rfl (aop_nilCheck rfl) ?_
    refine al_step rfl rfl (aop_field_ptr fd40 rfl rfl) ?_
    refine al_step rfl rfl (aop_store_box (i := 1) ty4 rfl rfl rfl rfl rfl rfl) ?_
    refine al_end rfl ?_
    refine ⟨rfl, _, _, rfl, (subl (is := [1]) rfl), ?_⟩
    refine ⟨rfl, ?_⟩
    show ([.box b [.p (I c.steps), .p (I c.nodes), .p (I (wr ((c.forms : Int) + (sizeW t : Int)))), .p (I c.limit), .p (.bool true)]] : List HObj) = _
    simp only [Cnt.form, encC, List.map_cons, List.map_nil]; rw [c1R]; simp
  · have c1R := c1
    (try simp only [sd, se] at c1)
    refine awp_skip ?_
    refine ⟨rfl, _, _, rfl, (subl (is := [1]) rfl), ?_⟩
    refine ⟨rfl, ?_⟩
    show ([.box b [.p (I c.steps), .p (I c.nodes), .p (I (wr ((c.forms : Int) + (sizeW t : Int)))), .p (I c.limit), .p (.bool c.over)]] : List HObj) = _
    simp only [Cnt.form, encC, List.map_cons, List.map_nil]; rw [c1R]; simp

theorem sized_c : ∀ (b : Nat) (c : Cnt) (t : Tm), (Nd t) → ACalls Tryz.prog 79 [.agg ((encT t).map .p), .ptr b 0] [.box b ((encC c).map .p)] (retR (.agg ((encT t).map .p)) [.box b ((encC (c.sized t)).map .p)]) := by
  intro b c t h1
  refine acalls_of_awp Tryz.func79 rfl en79 (n := 17) rfl rfl ?_
  refine awp_seq ?_
  refine awp_region ?_
  refine al_new rfl rfl (aop_box rfl) fun b2 => ?_
  refine al_new rfl rfl (aop_alloc zr26 rfl) fun b4 => ?_
  refine al_end rfl ?_
  refine awp_seq ?_
  refine awp_seq ?_
  refine awp_meetR [1, 2, 4] 12 (fun y => y = .p (.bool ((decide ((sizeW t : Int) > (2000 : Int))) || (decide ((depthW t : Int) > (95 : Int)))))) ?_ ?_
  · refine awp_region ?_
    refine al_step rfl rfl (aop_load_box (i := 1) ty26 rfl rfl (by simp [encT_len])) ?_
    refine al_step rfl rfl (aop_fun rfl rfl (sizeR_c _ t (Nat.le_refl _) h1) rfl) ?_
    refine al_step rfl rfl (aop_cmp rfl rfl rfl) ?_
    refine al_step rfl rfl (aop_move rfl) ?_
    refine al_case 8 rfl (fun g => ?_) (fun g => ?_)
    · (try simp only [sd, se] at g)
      refine al_pass rfl rfl rfl rfl rfl ?_
      refine al_pass rfl rfl rfl rfl rfl ?_
      refine al_pass rfl rfl rfl rfl rfl ?_
      refine al_step rfl rfl (aop_pick rfl rfl) ?_
      refine al_end rfl ?_
      exact ⟨rfl, rfl, (by first | exact List.Sublist.refl _ | exact List.sublist_cons_self _ _), (by first | rfl | (refine pB ?_; simp_all; done) | (refine pB ?_; simp_all <;> (intros; omega))), ⟨rfl, rfl, rfl, trivial⟩⟩
    · (try simp only [sd, se] at g)
      refine al_stepg rfl rfl rfl rfl (aop_load_box (i := 1) ty26 rfl rfl (by simp [encT_len])) ?_
      refine al_stepg rfl rfl rfl rfl (aop_fun rfl rfl (depthR_c _ t (Nat.le_refl _) h1) rfl) ?_
      refine al_stepg rfl rfl rfl rfl (aop_cmp rfl rfl rfl) ?_
      refine al_step rfl rfl (aop_pick rfl rfl) ?_
      refine al_end rfl ?_
      exact ⟨rfl, rfl, (by first | exact List.Sublist.refl _ | exact List.sublist_cons_self _ _), (by first | rfl | (refine pB ?_; simp_all; done) | (refine pB ?_; simp_all <;> (intros; omega))), ⟨rfl, rfl, rfl, trivial⟩⟩
  rintro _ rfl
  refine awp_cond rfl (fun c1 => ?_) (fun c1 => ?_)
  · have c1R := c1
    (try simp only [sd, se] at c1)
    refine awp_region ?_
    refine al_step rfl rfl (aop_move rfl) ?_
    refine al_step rfl rfl (aop_nilCheck rfl) ?_
    refine al_step rfl rfl (aop_field_ptr fd40 rfl rfl) ?_
    refine al_step rfl rfl (aop_store_box (i := 2) ty4 rfl rfl rfl rfl rfl rfl) ?_
    refine al_end rfl ?_
    refine awp_seq ?_
    refine awp_region ?_
    refine al_step rfl rfl (aop_load_box (i := 1) ty26 rfl rfl (by simp [encT_len])) ?_
    refine al_step rfl rfl (aop_store_whole (i := 0) ty26 rfl rfl rfl (by simp [encT_len]) (by first | rfl | simp [encT_len]) (one_Tm _)) ?_
    refine al_end rfl ?_
    refine awp_ret ?_
    refine ⟨rfl, _, _, ⟨_, _, rfl, (resv_row (i := 0) ty26 rfl rfl (by simp [encT_len])), rfl⟩, (subl (is := [2]) rfl), ?_⟩
    refine ⟨rfl, ?_⟩
    show ([.box b [.p (I c.steps), .p (I c.nodes), .p (I c.forms), .p (I c.limit), .p (.bool true)]] : List HObj) = _
    simp only [Cnt.sized, encC, List.map_cons, List.map_nil]; rw [c1R]; simp
  · have c1R := c1
    (try simp only [sd, se] at c1)
    refine awp_skip ?_
    refine awp_seq ?_
    refine awp_region ?_
    refine al_step rfl rfl (aop_load_box (i := 1) ty26 rfl rfl (by simp [encT_len])) ?_
    refine al_step rfl rfl (aop_store_whole (i := 0) ty26 rfl rfl rfl (by simp [encT_len]) (by first | rfl | simp [encT_len]) (one_Tm _)) ?_
    refine al_end rfl ?_
    refine awp_ret ?_
    refine ⟨rfl, _, _, ⟨_, _, rfl, (resv_row (i := 0) ty26 rfl rfl (by simp [encT_len])), rfl⟩, (subl (is := [2]) rfl), ?_⟩
    refine ⟨rfl, ?_⟩
    show ([.box b [.p (I c.steps), .p (I c.nodes), .p (I c.forms), .p (I c.limit), .p (.bool c.over)]] : List HObj) = _
    simp only [Cnt.sized, encC, List.map_cons, List.map_nil]; rw [c1R]; simp

theorem csubst_c : ∀ (b : Nat) (c : Cnt) (t : Tm) (vs : List Tm), (size t < 2 ^ 60) → (Nd t) → (Nds vs) → (sizes vs < 2 ^ 60) → ACalls Tryz.prog 80 [.ptr b 0, .agg ((encT t).map .p), .p (.lst (encTs vs))] [.box b ((encC c).map .p)] (retR (.agg ((encT ((underW t vs 0).1)).map .p)) [.box b ((encC (c.form (underW t vs 0).1 (underW t vs 0).2)).map .p)]) := by
  intro b c t vs h1 h2 h3 h4
  refine acalls_of_awp Tryz.func80 rfl en80 (n := 20) rfl rfl ?_
  refine awp_seq ?_
  refine awp_region ?_
  refine al_new rfl rfl (aop_box rfl) fun b4 => ?_
  refine al_new rfl rfl (aop_alloc zr26 rfl) fun b6 => ?_
  refine al_end rfl ?_
  refine awp_seq ?_
  refine awp_region ?_
  refine al_step rfl rfl (aop_load_box (i := 1) ty26 rfl rfl (by simp [encT_len])) ?_
  refine al_step rfl rfl (aop_move rfl) ?_
  refine al_step rfl rfl (aop_fun rfl rfl (substR_c t vs h1 h2 h3 h4) rfl) ?_
  refine al_step rfl rfl (aop_move rfl) ?_
  refine al_step rfl rfl (aop_extract rfl rfl) ?_
  refine al_step rfl rfl (aop_extract rfl rfl) ?_
  refine al_new rfl rfl (aop_alloc zr26 rfl) fun b7 => ?_
  refine al_step rfl rfl (aop_store_whole (i := 0) ty26 rfl rfl rfl (by simp [encT_len]) (by first | rfl | simp [encT_len]) (one_Tm _)) ?_
  refine al_step rfl rfl (aop_assign rfl) ?_
  refine al_end rfl ?_
  refine awp_seq ?_
  refine awp_region ?_
  refine al_step rfl rfl (aop_move rfl) ?_
  refine al_step rfl rfl (aop_load_box (i := 0) ty26 rfl rfl (by simp [encT_len])) ?_
  refine al_step rfl rfl (aop_move rfl) ?_
  refine al_step rfl rfl (aop_retn [3] rfl (.inl ⟨rfl, rfl, rfl⟩) (formC_c b c ((underW t vs 0).1) ((underW t vs 0).2) (underW_nd t vs 0 h2 h3)) ⟨_, _, rfl, rfl, rfl⟩ (by decide) rfl (.inl rfl)) ?_
  refine al_end rfl ?_
  refine awp_seq ?_
  refine awp_region ?_
  refine al_step rfl rfl (aop_load_box (i := 0) ty26 rfl rfl (by simp [encT_len])) ?_
  refine al_step rfl rfl (aop_store_whole (i := 1) ty26 rfl rfl rfl (by simp [encT_len]) (by first | rfl | simp [encT_len]) (one_Tm _)) ?_
  refine al_end rfl ?_
  refine awp_ret ?_
  refine ⟨rfl, _, _, ⟨_, _, rfl, (resv_row (i := 1) ty26 rfl rfl (by simp [encT_len])), rfl⟩, (subl (is := [3]) rfl), ?_⟩
  all_goals exact ⟨rfl, rfl⟩

end Go.Proofs.YtgfecpjmbgcobaaGreat
