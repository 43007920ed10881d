/- Part of the proofs about metavariables: an abstract program logic, plain models and contracts of functions. -/
import Derived.Test.YtgfecpjmbgcobaaGreatPl
import Derived.Test.YtgfecpjmbgcobaaGreatPf
/- Contracts of functions of the program. -/
namespace Go.Proofs.YtgfecpjmbgcobaaGreat
open Go.Abs Go.Eu
set_option linter.unusedVariables false
set_option linter.unusedSimpArgs false
set_option maxRecDepth 100000
theorem metasR_c : ∀ (n : Nat) (t : Tm) (l : List Int) (o0 : Option Nat) (c0 : Nat), (size t ≤ n) → (Nd t) → (l.length + size t < big) → ACalls Tryz.prog 60 [.vs o0 (List.map encI l).length c0, .agg ((encT t).map .p)] [.vec o0 1 (List.map encI l) c0] (ownV (fun v => v) 1 (List.map encI (metasW l t))) := by
  intro n
  induction n with
  | zero => intro t l o0 c0 h; cases t; simp [size] at h
  | succ n ih =>
    intro t l o0 c0 h1 h2 h3
    simp only [big] at h3
    obtain ⟨tk, ti, tn, tl, ts⟩ := t
    simp only [size] at h1 h3
    simp only [Nd, big] at h2
    have hks := len_le_sizes ts
    refine acalls_of_awp Tryz.func60 rfl en60 (n := 44) rfl rfl ?_
    refine awp_seq ?_
    refine awp_region ?_
    refine al_new rfl rfl (aop_box rfl) fun b3 => ?_
    refine al_step rfl rfl (aop_assign rfl) ?_
    refine al_end rfl ?_
    refine awp_seq ?_
    refine awp_seq ?_
    refine awp_region ?_
    refine al_step rfl rfl (aop_field_ptr fd26 rfl rfl) ?_
    refine al_step rfl rfl (aop_load_box1 (i := 0) ty3 rfl rfl rfl) ?_
    refine al_step rfl rfl (aop_cmp rfl rfl rfl) ?_
    refine al_end rfl ?_
    refine awp_cond rfl (fun c => ?_) (fun c => ?_)
    · (try simp only [sd, se] at c)
      refine awp_seq ?_
      refine awp_seq ?_
      refine awp_region ?_
      refine al_step rfl rfl (aop_assign rfl) ?_
      refine al_end rfl ?_
      refine awp_block ?_
      refine awp_while (α := Nat) (fun i => ⟨44, mk [(0, .vs o0 (List.map encI l).length c0), (3, .ptr b3 0), (5, .p (I (i : Int)))], [.box b3 [.p (I tk), .p (I ti), .p (.str tn), .p (.lst (List.map encL tl)), .p (.lst (encTs ts))], .vec o0 1 (List.map encI l) c0], []⟩) (fun i => l.length - i) (fun i => i ≤ l.length ∧ (ti ∉ l.take i)) 0 (by simp) ?_ ?_
      · exact le_mkW ⟨we rfl, we rfl, we rfl, trivial⟩ (leH (is := [0, 1]) rfl (wl (oe rfl) (wl (oe rfl) (wl0))))
      rintro i hC
      try simp only at hC
      obtain ⟨hi, hC⟩ := hC
      refine awp_seq ?_
      refine awp_seq ?_
      refine awp_region ?_
      refine al_step rfl rfl (aop_move rfl) ?_
      refine al_step rfl rfl (aop_move rfl) ?_
      refine al_step rfl rfl (aop_lenV el59 rfl (List.length_map _)) ?_
      refine al_step rfl rfl (aop_cmp rfl rfl rfl) ?_
      refine al_end rfl ?_
      refine awp_cond rfl (fun c1 => ?_) (fun c1 => ?_)
      · (try simp only [sd, se] at c1)
        refine awp_skip ?_
        refine awp_seq ?_
        refine awp_block ?_
        refine awp_seq ?_
        refine awp_some (i := 1) rfl (by simp [encTs_len]; omega) fun b hb => ?_
        subst hb
        refine awp_dr (fun k => false) mx0 ?_
        refine dr_free rfl rfl (fun _ => aop_move rfl) trivial ?_
        refine dr_free rfl rfl (fun _ => aop_move rfl) trivial ?_
        refine dr_free rfl rfl (fun _ => aop_index_vs el59 rfl rfl (by omega) (by first | (simp only [List.length_map, encTs_len]; omega) | (simp_all; done) | (simp_all; omega))) trivial ?_
        obtain ⟨y, hy⟩ := getElem?_of_lt (l := l) (i := i) (by first | omega | (simp_all; done) | (simp_all; omega))
        refine dr_read (j := 1) rfl rfl rfl (fun H i hi => aop_load_vec1 (i := i) ty3 rfl hi (encI_get hy)) (by repeat' first | exact trivial | refine And.intro ?_ ?_ | ((refine Or.inr (And.intro ?_ ?_) <;> repeat (first | exact List.Mem.head _ | apply List.Mem.tail)); done) | exact Or.inl (by kernel_rfl)) trivial ?_
        refine dr_free rfl rfl (fun _ => aop_field_ptr fd26 rfl rfl) trivial ?_
        refine dr_read (j := 0) rfl rfl rfl (fun H i hi => aop_load_box1 (i := i) ty3 rfl hi rfl) (by repeat' first | exact trivial | refine And.intro ?_ ?_ | ((refine Or.inr (And.intro ?_ ?_) <;> repeat (first | exact List.Mem.head _ | apply List.Mem.tail)); done) | exact Or.inl (by kernel_rfl)) trivial ?_
        refine dr_free rfl rfl (fun _ => aop_cmp rfl rfl rfl) trivial ?_
        refine dr_end rfl (by kernel_rfl) ?_
        refine awp_cond rfl (fun c2 => ?_) (fun c2 => ?_)
        · (try simp only [sd, se] at c2)
          refine awp_seq ?_
          refine awp_region ?_
          refine al_step rfl rfl (aop_move rfl) ?_
          refine al_step rfl rfl (aop_assign rfl) ?_
          refine al_end rfl ?_
          refine awp_ret ?_
          refine ⟨rfl, _, _, ⟨_, _, rfl, rfl, rfl⟩, (subl (is := [1]) rfl), ?_⟩
          rw [metasW, if_pos c, if_pos (by rw [← c2]; exact List.mem_of_getElem? hy)]
          all_goals exact ⟨_, _, rfl, rfl⟩
        · (try simp only [sd, se] at c2)
          refine awp_skip ?_
          refine awp_region ?_
          refine al_step rfl rfl (aop_move rfl) ?_
          refine al_step rfl rfl (aop_add rfl rfl (by omega) (by omega)) ?_
          refine al_step rfl rfl (aop_assign rfl) ?_
          refine al_end rfl ?_
          refine ⟨(i + 1), (by first | omega | (simp only; omega)), ⟨by omega, not_take_succ hC hy c2⟩, le_mkW ⟨we rfl, we rfl, we rfl, trivial⟩ (leH (is := [0, 1]) rfl (wl (oe rfl) (wl (oe rfl) (wl0))))⟩
      · (try simp only [sd, se] at c1)
        refine awp_exit ?_
        refine awp_region ?_
        refine al_step rfl rfl (aop_move rfl) ?_
        refine al_step rfl rfl (aop_field_ptr fd26 rfl rfl) ?_
        refine al_step rfl rfl (aop_load_box1 (i := 0) ty3 rfl rfl rfl) ?_
        refine al_step rfl rfl (aop_buildSlice el59 zr3 rfl rfl rfl rfl rfl) ?_
        refine al_app rfl rfl (aop_append2 (i := 1) (rows' := List.map encI [ti]) el59 el59 zr3 rfl rfl rfl rfl rfl rfl (solid_Int _) (by simp only [encTs_len, List.length_map, List.length_cons, List.length_nil, List.nil_append, List.length_append]; omega) (vn_map (f := encI) l [ti])) fun o cp => ?_
        refine al_step rfl rfl (aop_assign rfl) ?_
        refine al_end rfl ?_
        refine awp_seq ?_
        refine awp_seq ?_
        refine awp_region ?_
        refine al_step rfl rfl (aop_assign rfl) ?_
        refine al_end rfl ?_
        refine awp_block ?_
        refine awp_while (α := Nat × List Int × Option Nat × Nat) (fun (j, m, o1, cp1) => ⟨44, mk [(0, .vs o1 (List.map encI m).length cp1), (3, .ptr b3 0), (6, .p (I (j : Int)))], [.box b3 [.p (I tk), .p (I ti), .p (.str tn), .p (.lst (List.map encL tl)), .p (.lst (encTs ts))], .vec o1 1 (List.map encI m) cp1], []⟩) (fun (j, m, o1, cp1) => ts.length - j) (fun (j, m, o1, cp1) => j ≤ ts.length ∧ (metassW m (ts.drop j) = metassW (l ++ [ti]) ts ∧ m.length ≤ l.length + 1 + sizes (ts.take j))) ⟨0, l ++ [ti], o, cp⟩ (by simp) ?_ ?_
        · exact le_mkW ⟨we rfl, we rfl, we rfl, trivial⟩ (leH (is := [0, 1]) rfl (wl (oe rfl) (wl (oe rfl) (wl0))))
        rintro ⟨j, m, o1, cp1⟩ hC1
        try simp only at hC1
        obtain ⟨hi, hD, hm⟩ := hC1
        refine awp_seq ?_
        refine awp_seq ?_
        refine awp_region ?_
        refine al_step rfl rfl (aop_move rfl) ?_
        refine al_step rfl rfl (aop_field_ptr fd26 rfl rfl) ?_
        refine al_step rfl rfl (aop_load_box1 (i := 0) ty24 rfl rfl rfl) ?_
        refine al_step rfl rfl (aop_lenE el24 rfl (encTs_len _)) ?_
        refine al_step rfl rfl (aop_cmp rfl rfl rfl) ?_
        refine al_end rfl ?_
        refine awp_cond rfl (fun c2 => ?_) (fun c2 => ?_)
        · (try simp only [sd, se] at c2)
          refine awp_skip ?_
          refine awp_seq ?_
          refine awp_block ?_
          refine awp_region ?_
          refine al_step rfl rfl (aop_move rfl) ?_
          refine al_step rfl rfl (aop_field_ptr fd26 rfl rfl) ?_
          refine al_step rfl rfl (aop_load_box1 (i := 0) ty24 rfl rfl rfl) ?_
          refine al_step rfl rfl (aop_move rfl) ?_
          obtain ⟨x, hx⟩ := getElem?_of_lt (l := ts) (i := j) (by omega)
          refine al_step rfl rfl (aop_index_lst el24 rfl rfl (by omega) (encTs_get hx) (encT_len _)) ?_
          refine al_step rfl rfl (aop_load_ref ty26 rfl (encT_len _)) ?_
          refine al_ownI 1 rfl rfl rfl (.inl ⟨rfl, rfl, rfl⟩) (ih x m o1 cp1 (by have := size_mem hx; omega) (Nds_mem h2.2.2.2.2.1 hx) (by have := size_mem hx; have h9 := take_add_le hx; simp only [big]; omega)) rfl (aw (we rfl) (aw (we rfl) (aw0))) fun o2 cp2 => ?_
          refine al_step rfl rfl (aop_assign rfl) ?_
          refine al_end rfl ?_
          refine awp_region ?_
          refine al_step rfl rfl (aop_move rfl) ?_
          refine al_step rfl rfl (aop_add rfl rfl (by omega) (by omega)) ?_
          refine al_step rfl rfl (aop_assign rfl) ?_
          refine al_end rfl ?_
          refine ⟨⟨j + 1, metasW m x, o2, cp2⟩, (by first | omega | (simp only; omega)), ⟨by omega, ⟨by rw [← hD, drop_at hx]; rfl, by have := metasW_len x m; have := sizes_take hx; omega⟩⟩, le_mkW ⟨we rfl, we rfl, we rfl, trivial⟩ (leH (is := [0, 1]) rfl (wl (oe rfl) (wl (oe rfl) (wl0))))⟩
        · (try simp only [sd, se] at c2)
          refine awp_exit ?_
          refine awp_seq ?_
          refine awp_region ?_
          refine al_step rfl rfl (aop_move rfl) ?_
          refine al_step rfl rfl (aop_assign rfl) ?_
          refine al_end rfl ?_
          refine awp_ret ?_
          refine ⟨rfl, _, _, ⟨_, _, rfl, rfl, rfl⟩, (subl (is := [1]) rfl), ?_⟩
          rw [metasW, if_pos c, if_neg (by rw [show i = l.length by omega, List.take_length] at hC; exact hC), ← hD, show j = ts.length by omega, List.drop_length]
          all_goals exact ⟨_, _, rfl, rfl⟩
    · (try simp only [sd, se] at c)
      refine awp_skip ?_
      refine awp_seq ?_
      refine awp_seq ?_
      refine awp_region ?_
      refine al_step rfl rfl (aop_assign rfl) ?_
      refine al_end rfl ?_
      refine awp_block ?_
      refine awp_while (α := Nat × List Int × Option Nat × Nat) (fun (i, m, o, cp) => ⟨44, mk [(0, .vs o (List.map encI m).length cp), (3, .ptr b3 0), (6, .p (I (i : Int)))], [.box b3 [.p (I tk), .p (I ti), .p (.str tn), .p (.lst (List.map encL tl)), .p (.lst (encTs ts))], .vec o 1 (List.map encI m) cp], []⟩) (fun (i, m, o, cp) => ts.length - i) (fun (i, m, o, cp) => i ≤ ts.length ∧ (metassW m (ts.drop i) = metassW l ts ∧ m.length ≤ l.length + sizes (ts.take i))) ⟨0, l, o0, c0⟩ (by simp) ?_ ?_
      · exact le_mkW ⟨we rfl, we rfl, we rfl, trivial⟩ (leH (is := [0, 1]) rfl (wl (oe rfl) (wl (oe rfl) (wl0))))
      rintro ⟨i, m, o, cp⟩ hC
      try simp only at hC
      obtain ⟨hi, hC, hm⟩ := hC
      refine awp_seq ?_
      refine awp_seq ?_
      refine awp_region ?_
      refine al_step rfl rfl (aop_move rfl) ?_
      refine al_step rfl rfl (aop_field_ptr fd26 rfl rfl) ?_
      refine al_step rfl rfl (aop_load_box1 (i := 0) ty24 rfl rfl rfl) ?_
      refine al_step rfl rfl (aop_lenE el24 rfl (encTs_len _)) ?_
      refine al_step rfl rfl (aop_cmp rfl rfl rfl) ?_
      refine al_end rfl ?_
      refine awp_cond rfl (fun c1 => ?_) (fun c1 => ?_)
      · (try simp only [sd, se] at c1)
        refine awp_skip ?_
        refine awp_seq ?_
        refine awp_block ?_
        refine awp_region ?_
        refine al_step rfl rfl (aop_move rfl) ?_
        refine al_step rfl rfl (aop_field_ptr fd26 rfl rfl) ?_
        refine al_step rfl rfl (aop_load_box1 (i := 0) ty24 rfl rfl rfl) ?_
        refine al_step rfl rfl (aop_move rfl) ?_
        obtain ⟨x, hx⟩ := getElem?_of_lt (l := ts) (i := i) (by omega)
        refine al_step rfl rfl (aop_index_lst el24 rfl rfl (by omega) (encTs_get hx) (encT_len _)) ?_
        refine al_step rfl rfl (aop_load_ref ty26 rfl (encT_len _)) ?_
        refine al_ownI 1 rfl rfl rfl (.inl ⟨rfl, rfl, rfl⟩) (ih x m o cp (by have := size_mem hx; omega) (Nds_mem h2.2.2.2.2.1 hx) (by have := size_mem hx; have h9 := take_add_le hx; simp only [big]; omega)) rfl (aw (we rfl) (aw (we rfl) (aw0))) fun o1 cp1 => ?_
        refine al_step rfl rfl (aop_assign rfl) ?_
        refine al_end rfl ?_
        refine awp_region ?_
        refine al_step rfl rfl (aop_move rfl) ?_
        refine al_step rfl rfl (aop_add rfl rfl (by omega) (by omega)) ?_
        refine al_step rfl rfl (aop_assign rfl) ?_
        refine al_end rfl ?_
        refine ⟨⟨i + 1, metasW m x, o1, cp1⟩, (by first | omega | (simp only; omega)), ⟨by omega, ⟨by rw [← hC, drop_at hx]; rfl, by have := metasW_len x m; have := sizes_take hx; omega⟩⟩, le_mkW ⟨we rfl, we rfl, we rfl, trivial⟩ (leH (is := [0, 1]) rfl (wl (oe rfl) (wl (oe rfl) (wl0))))⟩
      · (try simp only [sd, se] at c1)
        refine awp_exit ?_
        refine awp_seq ?_
        refine awp_region ?_
        refine al_step rfl rfl (aop_move rfl) ?_
        refine al_step rfl rfl (aop_assign rfl) ?_
        refine al_end rfl ?_
        refine awp_ret ?_
        refine ⟨rfl, _, _, ⟨_, _, rfl, rfl, rfl⟩, (subl (is := [1]) rfl), ?_⟩
        rw [metasW, if_neg c, ← hC, show i = ts.length by omega, List.drop_length]
        all_goals exact ⟨_, _, rfl, rfl⟩

theorem inR_c : ∀ (l : List Int) (n : Int), (l.length < big) → Fun Tryz.prog 34 [.p (.lst (List.map encI l)), .p (I n)] (.p (.bool (inB l n))) := by
  intro l n h1
  simp only [big] at h1
  refine acalls_of_awp Tryz.func34 rfl en34 (n := 18) rfl rfl ?_
  refine awp_seq ?_
  refine awp_region ?_
  refine al_step rfl rfl (aop_assign rfl) ?_
  refine al_end rfl ?_
  refine awp_seq ?_
  refine awp_seq ?_
  refine awp_region ?_
  refine al_step rfl rfl (aop_assign rfl) ?_
  refine al_end rfl ?_
  refine awp_block ?_
  refine awp_while (α := Nat) (fun i => ⟨18, mk [(0, .p (.lst (List.map encI l))), (1, .p (I n)), (5, .p (I (i : Int)))], [], []⟩) (fun i => l.length - i) (fun i => i ≤ l.length ∧ (n ∉ l.take i)) 0 (by simp) ?_ ?_
  · exact le_mkW ⟨we rfl, we rfl, we rfl, trivial⟩ (leH (is := []) rfl (wl0))
  rintro i hC
  try simp only at hC
  obtain ⟨hi, hC⟩ := hC
  refine awp_seq ?_
  refine awp_seq ?_
  refine awp_region ?_
  refine al_step rfl rfl (aop_move rfl) ?_
  refine al_step rfl rfl (aop_move rfl) ?_
  refine al_step rfl rfl (aop_lenE el59 rfl (List.length_map _)) ?_
  refine al_step rfl rfl (aop_cmp rfl rfl rfl) ?_
  refine al_end rfl ?_
  refine awp_cond rfl (fun c => ?_) (fun c => ?_)
  · (try simp only [sd, se] at c)
    refine awp_skip ?_
    refine awp_seq ?_
    refine awp_block ?_
    refine awp_seq ?_
    refine awp_region ?_
    refine al_step rfl rfl (aop_move rfl) ?_
    refine al_step rfl rfl (aop_move rfl) ?_
    obtain ⟨x, hx⟩ := getElem?_of_lt (l := l) (i := i) (by omega)
    refine al_step rfl rfl (aop_index_lst el59 rfl rfl (by omega) (encI_get hx) (rfl)) ?_
    refine al_step rfl rfl (aop_load_ref1 ty3 rfl) ?_
    refine al_step rfl rfl (aop_move rfl) ?_
    refine al_step rfl rfl (aop_cmp rfl rfl rfl) ?_
    refine al_end rfl ?_
    refine awp_cond rfl (fun c1 => ?_) (fun c1 => ?_)
    · (try simp only [sd, se] at c1)
      refine awp_seq ?_
      refine awp_region ?_
      refine al_step rfl rfl (aop_assign rfl) ?_
      refine al_end rfl ?_
      refine awp_ret ?_
      refine ⟨rfl, _, _, ⟨_, _, rfl, rfl, rfl⟩, (List.nil_sublist _), ?_⟩
      all_goals exact ⟨by show (.p (.bool true) : AV) = _; rw [inB, decide_eq_true]; rw [← c1]; exact List.mem_of_getElem? hx, rfl⟩
    · (try simp only [sd, se] at c1)
      refine awp_skip ?_
      refine awp_region ?_
      refine al_step rfl rfl (aop_move rfl) ?_
      refine al_step rfl rfl (aop_add rfl rfl (by omega) (by omega)) ?_
      refine al_step rfl rfl (aop_assign rfl) ?_
      refine al_end rfl ?_
      refine ⟨(i + 1), (by first | omega | (simp only; omega)), ⟨by omega, not_take_succ hC hx c1⟩, le_mkW ⟨we rfl, we rfl, we rfl, trivial⟩ (leH (is := []) rfl (wl0))⟩
  · (try simp only [sd, se] at c)
    refine awp_exit ?_
    refine awp_seq ?_
    refine awp_region ?_
    refine al_step rfl rfl (aop_assign rfl) ?_
    refine al_end rfl ?_
    refine awp_ret ?_
    refine ⟨rfl, _, _, ⟨_, _, rfl, rfl, rfl⟩, (List.nil_sublist _), ?_⟩
    all_goals exact ⟨by show (.p (.bool false) : AV) = _; rw [inB, decide_eq_false]; rw [show i = l.length by omega, List.take_length] at hC; exact hC, rfl⟩

theorem copyRo_c : ∀ (l : List Mv), (l.length < 2 ^ 38) → ACalls Tryz.prog 36 [.p (.lst (List.map encM l))] [] (ownV (fun v => v) 12 (List.map encM l)) := by
  intro l h1
  refine acalls_of_awp Tryz.func36 rfl en36 (n := 7) rfl rfl ?_
  refine awp_seq ?_
  refine awp_region ?_
  refine al_step rfl rfl (aop_assign rfl) ?_
  refine al_end rfl ?_
  refine awp_seq ?_
  refine awp_region ?_
  refine al_step rfl rfl (aop_assign rfl) ?_
  refine al_ghost (ghost_own (t := 3) (sz := 12) rfl) ?_
  refine al_end rfl ?_
  refine awp_seq ?_
  refine awp_region ?_
  refine al_step rfl rfl (aop_move rfl) ?_
  refine al_step rfl rfl (aop_move rfl) ?_
  refine al_app rfl rfl (aop_append2 (i := 0) (rows' := List.map encM l) el22 el22 zr44 rfl rfl rfl rfl rfl rfl (solid_Mv _) (by simp only [encTs_len, List.length_map, List.length_cons, List.length_nil, List.nil_append, List.length_append]; omega) (vn_map (f := encM) [] l)) fun o cp => ?_
  refine al_step rfl rfl (aop_assign rfl) ?_
  refine al_end rfl ?_
  refine awp_ret ?_
  refine ⟨rfl, _, _, ⟨_, _, rfl, rfl, rfl⟩, (subl (is := [0]) rfl), ?_⟩
  simp only [List.nil_append]
  all_goals exact ⟨_, _, rfl, rfl⟩

theorem sameMeta_c : ∀ (a b : Mv), (Nd a.type) → (Nd a.value) → Fun Tryz.prog 38 [.agg ((encM a).map .p), .agg ((encM b).map .p)] (.p (.bool (eqB a b))) := by
  intro a b h1 h2
  obtain ⟨ay, an, av, ac⟩ := a
  obtain ⟨ayk, ayi, ayn, ayl, ays⟩ := ay
  obtain ⟨avk, avi, avn, avl, avs⟩ := av
  simp only at h1 h2
  obtain ⟨by1, bn, bv, bc⟩ := b
  obtain ⟨by1k, by1i, by1n, by1l, by1s⟩ := by1
  obtain ⟨bvk, bvi, bvn, bvl, bvs⟩ := bv
  refine acalls_of_awp Tryz.func38 rfl en38 (n := 31) rfl rfl ?_
  refine awp_seq ?_
  refine awp_region ?_
  refine al_new rfl rfl (aop_box rfl) fun b2 => ?_
  refine al_new rfl rfl (aop_box rfl) fun b3 => ?_
  refine al_step rfl rfl (aop_assign rfl) ?_
  refine al_end rfl ?_
  refine awp_seq ?_
  refine awp_meetR [] 4 (fun y => y = .p (.bool ((((eqB (.mk ayk ayi ayn ayl ays : Tm) (.mk by1k by1i by1n by1l by1s : Tm)) && (an == bn)) && (eqB (.mk avk avi avn avl avs : Tm) (.mk bvk bvi bvn bvl bvs : Tm))) && (ac == bc)))) ?_ ?_
  · refine awp_region ?_
    refine al_step rfl rfl (aop_field_ptr fd44 rfl rfl) ?_
    refine al_step rfl rfl (aop_load_box_of (i := 1) ty26 rfl rfl rfl rfl) ?_
    refine al_step rfl rfl (aop_field_ptr fd44 rfl rfl) ?_
    refine al_step rfl rfl (aop_load_box_of (i := 0) ty26 rfl rfl rfl rfl) ?_
    refine al_step rfl rfl (aop_fun rfl rfl (same_c _ (.mk ayk ayi ayn ayl ays : Tm) (.mk by1k by1i by1n by1l by1s : Tm) (Nat.le_refl _) h1) rfl) ?_
    refine al_step rfl rfl (aop_move rfl) ?_
    refine al_case 10 rfl (fun g => ?_) (fun g => ?_)
    · (try simp only [sd, se] at g)
      refine al_stepg rfl rfl rfl rfl (aop_field_ptr fd44 rfl rfl) ?_
      refine al_stepg rfl rfl rfl rfl (aop_load_box1 (i := 1) ty4 rfl rfl rfl) ?_
      refine al_stepg rfl rfl rfl rfl (aop_field_ptr fd44 rfl rfl) ?_
      refine al_stepg rfl rfl rfl rfl (aop_load_box1 (i := 0) ty4 rfl rfl rfl) ?_
      refine al_stepg rfl rfl rfl rfl (aop_booleq un4 rfl rfl) ?_
      refine al_step rfl rfl (aop_pick rfl rfl) ?_
      refine al_step rfl rfl (aop_move rfl) ?_
      refine al_case 17 rfl (fun g1 => ?_) (fun g1 => ?_)
      · (try simp only [sd, se] at g1)
        refine al_stepg rfl rfl rfl rfl (aop_field_ptr fd44 rfl rfl) ?_
        refine al_stepg rfl rfl rfl rfl (aop_load_box_of (i := 1) ty26 rfl rfl rfl rfl) ?_
        refine al_stepg rfl rfl rfl rfl (aop_field_ptr fd44 rfl rfl) ?_
        refine al_stepg rfl rfl rfl rfl (aop_load_box_of (i := 0) ty26 rfl rfl rfl rfl) ?_
        refine al_stepg rfl rfl rfl rfl (aop_fun rfl rfl (same_c _ (.mk avk avi avn avl avs : Tm) (.mk bvk bvi bvn bvl bvs : Tm) (Nat.le_refl _) h2) rfl) ?_
        refine al_step rfl rfl (aop_pick rfl rfl) ?_
        refine al_step rfl rfl (aop_move rfl) ?_
        refine al_case 24 rfl (fun g2 => ?_) (fun g2 => ?_)
        · (try simp only [sd, se] at g2)
          refine al_stepg rfl rfl rfl rfl (aop_field_ptr fd44 rfl rfl) ?_
          refine al_stepg rfl rfl rfl rfl (aop_load_box1 (i := 1) ty4 rfl rfl rfl) ?_
          refine al_stepg rfl rfl rfl rfl (aop_field_ptr fd44 rfl rfl) ?_
          refine al_stepg rfl rfl rfl rfl (aop_load_box1 (i := 0) ty4 rfl rfl rfl) ?_
          refine al_stepg rfl rfl rfl rfl (aop_booleq un4 rfl rfl) ?_
          refine al_step rfl rfl (aop_pick rfl rfl) ?_
          refine al_step rfl rfl (aop_assign rfl) ?_
          refine al_end rfl ?_
          exact ⟨rfl, rfl, (by first | exact List.Sublist.refl _ | exact List.sublist_cons_self _ _), (by first | rfl | (refine pB ?_; simp_all; done) | (refine pB ?_; simp_all <;> (intros; omega))), trivial⟩
        · (try simp only [sd, se] at g2)
          refine al_pass rfl rfl rfl rfl rfl ?_
          refine al_pass rfl rfl rfl rfl rfl ?_
          refine al_pass rfl rfl rfl rfl rfl ?_
          refine al_pass rfl rfl rfl rfl rfl ?_
          refine al_pass rfl rfl rfl rfl rfl ?_
          refine al_step rfl rfl (aop_pick rfl rfl) ?_
          refine al_step rfl rfl (aop_assign rfl) ?_
          refine al_end rfl ?_
          exact ⟨rfl, rfl, (by first | exact List.Sublist.refl _ | exact List.sublist_cons_self _ _), (by first | rfl | (refine pB ?_; simp_all; done) | (refine pB ?_; simp_all <;> (intros; omega))), trivial⟩
      · (try simp only [sd, se] at g1)
        refine al_pass rfl rfl rfl rfl rfl ?_
        refine al_pass rfl rfl rfl rfl rfl ?_
        refine al_pass rfl rfl rfl rfl rfl ?_
        refine al_pass rfl rfl rfl rfl rfl ?_
        refine al_pass rfl rfl rfl rfl rfl ?_
        refine al_step rfl rfl (aop_pick rfl rfl) ?_
        refine al_step rfl rfl (aop_move rfl) ?_
        refine al_pass rfl rfl rfl rfl rfl ?_
        refine al_pass rfl rfl rfl rfl rfl ?_
        refine al_pass rfl rfl rfl rfl rfl ?_
        refine al_pass rfl rfl rfl rfl rfl ?_
        refine al_pass rfl rfl rfl rfl rfl ?_
        refine al_step rfl rfl (aop_pick rfl rfl) ?_
        refine al_step rfl rfl (aop_assign rfl) ?_
        refine al_end rfl ?_
        exact ⟨rfl, rfl, (by first | exact List.Sublist.refl _ | exact List.sublist_cons_self _ _), (by first | rfl | (refine pB ?_; simp_all; done) | (refine pB ?_; simp_all <;> (intros; omega))), trivial⟩
    · (try simp only [sd, se] at g)
      refine al_pass rfl rfl rfl rfl rfl ?_
      refine al_pass rfl rfl rfl rfl rfl ?_
      refine al_pass rfl rfl rfl rfl rfl ?_
      refine al_pass rfl rfl rfl rfl rfl ?_
      refine al_pass rfl rfl rfl rfl rfl ?_
      refine al_step rfl rfl (aop_pick rfl rfl) ?_
      refine al_step rfl rfl (aop_move rfl) ?_
      refine al_pass rfl rfl rfl rfl rfl ?_
      refine al_pass rfl rfl rfl rfl rfl ?_
      refine al_pass rfl rfl rfl rfl rfl ?_
      refine al_pass rfl rfl rfl rfl rfl ?_
      refine al_pass rfl rfl rfl rfl rfl ?_
      refine al_step rfl rfl (aop_pick rfl rfl) ?_
      refine al_step rfl rfl (aop_move rfl) ?_
      refine al_pass rfl rfl rfl rfl rfl ?_
      refine al_pass rfl rfl rfl rfl rfl ?_
      refine al_pass rfl rfl rfl rfl rfl ?_
      refine al_pass rfl rfl rfl rfl rfl ?_
      refine al_pass rfl rfl rfl rfl rfl ?_
      refine al_step rfl rfl (aop_pick rfl rfl) ?_
      refine al_step rfl rfl (aop_assign rfl) ?_
      refine al_end rfl ?_
      exact ⟨rfl, rfl, (by first | exact List.Sublist.refl _ | exact List.sublist_cons_self _ _), (by first | rfl | (refine pB ?_; simp_all; done) | (refine pB ?_; simp_all <;> (intros; omega))), trivial⟩
  rintro _ rfl
  refine awp_ret ?_
  refine ⟨rfl, _, _, ⟨_, _, rfl, rfl, rfl⟩, (List.nil_sublist _), ?_⟩
  all_goals exact ⟨by show (.p (.bool ((((eqB (.mk ayk ayi ayn ayl ays : Tm) (.mk by1k by1i by1n by1l by1s : Tm)) && (an == bn)) && (eqB (.mk avk avi avn avl avs : Tm) (.mk bvk bvi bvn bvl bvs : Tm))) && (ac == bc))) : AV) = _; rw [eqB_mv], rfl⟩

end Go.Proofs.YtgfecpjmbgcobaaGreat
/- Contracts of functions of the program. -/
namespace Go.Proofs.YtgfecpjmbgcobaaGreat
open Go.Abs Go.Eu
set_option linter.unusedVariables false
set_option linter.unusedSimpArgs false
set_option maxRecDepth 100000

end Go.Proofs.YtgfecpjmbgcobaaGreat
/- Contracts of functions of the program. -/
namespace Go.Proofs.YtgfecpjmbgcobaaGreat
open Go.Abs Go.Eu
set_option linter.unusedVariables false
set_option linter.unusedSimpArgs false
set_option maxRecDepth 100000
set_option maxHeartbeats 4000000 in
theorem fillR_c : ∀ (n : Nat) (t : Tm) (ms : List Mv) (S : Nat) (ab : List Int) (b : Nat) (c : Cnt), (size t + (S + 1) * free ms ab ≤ n) → (Nd t) → (Wt t) → (ab.length + free ms ab < 1048576) → (MsOk S ms) → (size t * (Mb S (free ms ab) + 2) < 1152921504606846976) → (1 ≤ S) → (ms.length < big) → (size t < 1073741824) → (S < 1073741824) → ACalls Tryz.prog 58 [.p (.lst (List.map encM ms)), .agg ((encT t).map .p), .p (.lst (List.map encI ab)), .ptr b 0] [.box b ((encC c).map .p)] (retR (.tup [.agg ((encT ((fillW ms n ab c t).1)).map .p), .p (I ((fillW ms n ab c t).2.1))]) [.box b ((encC ((fillW ms n ab c t).2.2)).map .p)]) := by
  intro n
  induction n with
  | zero => intro t ms S ab b c h1; have := size_pos t; omega
  | succ n ih =>
    intro t ms S ab b c h1 h2 h3 h4 h5 h6 h7 h8 h9 h10
    simp only [big] at h8
    have hsl := spine_len_sizes t
    have hsn := spine_nd t h2
    have hsw := spine_wt t h3
    refine acalls_of_awp Tryz.func58 rfl en58 (n := 210) rfl rfl ?_
    refine awp_seq ?_
    refine awp_region ?_
    refine al_new rfl rfl (aop_box rfl) fun b5 => ?_
    refine al_new rfl rfl (aop_alloc zr26 rfl) fun b8 => ?_
    refine al_step rfl rfl (aop_assign rfl) ?_
    refine al_end rfl ?_
    refine awp_seq ?_
    refine awp_seq ?_
    refine awp_region ?_
    refine al_step rfl rfl (aop_move rfl) ?_
    refine al_step rfl rfl (aop_nilCheck rfl) ?_
    refine al_step rfl rfl (aop_field_ptr fd40 rfl rfl) ?_
    refine al_step rfl rfl (aop_load_box1 (i := 2) ty4 rfl rfl rfl) ?_
    refine al_end rfl ?_
    refine awp_cond rfl (fun c1 => ?_) (fun c1 => ?_)
    · have c1R := c1
      (try simp only [sd, se] at c1)
      refine awp_seq ?_
      refine awp_region ?_
      refine al_step rfl rfl (aop_build fd26 zr26 rfl) ?_
      refine al_step rfl rfl (aop_store_box (i := 0) ty26 rfl rfl rfl rfl rfl rfl) ?_
      refine al_step rfl rfl (aop_assign rfl) ?_
      refine al_end rfl ?_
      refine awp_ghost (ghost_box (i := 0) rfl) ?_
      refine awp_ret ?_
      refine ⟨rfl, _, _, ⟨_, _, rfl, (resv_row (i := 0) ty26 rfl rfl rfl), ⟨_, _, rfl, rfl, rfl⟩⟩, (subl (is := [2]) rfl), ?_⟩
      rw [fillW_over c1]
      all_goals exact ⟨rfl, rfl⟩
    · have c1R := c1
      (try simp only [sd, se] at c1)
      have hov : c.over = false := by simpa using c1
      refine awp_skip ?_
      refine awp_seq ?_
      refine awp_region ?_
      refine al_step rfl rfl (aop_load_box (i := 1) ty26 rfl rfl (by simp [encT_len])) ?_
      refine al_step rfl rfl (aop_fun rfl rfl (spineR_c _ t (Nat.le_refl _) (by simp only [big]; omega)) rfl) ?_
      refine al_step rfl rfl (aop_move rfl) ?_
      refine al_step rfl rfl (aop_extract rfl rfl) ?_
      refine al_step rfl rfl (aop_extract rfl rfl) ?_
      refine al_new rfl rfl (aop_alloc zr26 rfl) fun b10 => ?_
      refine al_step rfl rfl (aop_store_whole (i := 0) ty26 rfl rfl rfl (by simp [encT_len]) (by first | rfl | simp [encT_len]) (one_Tm _)) ?_
      refine al_step rfl rfl (aop_assign rfl) ?_
      refine al_end rfl ?_
      refine awp_seq ?_
      refine awp_region ?_
      refine al_step rfl rfl (aop_assign rfl) ?_
      refine al_end rfl ?_
      refine awp_seq ?_
      refine awp_seq ?_
      generalize hz : (spine t).1 = z
      obtain ⟨zk, zi, zn, zl, zs⟩ := z
      have hkn := kids_ok (hz ▸ hsn.1) (hz ▸ hsw.1)
      simp only [Tm.kids] at hkn
      have hz12 : zk = 12 → 0 ≤ zi := fun e => idx_ok (v := .mk zk zi zn zl zs) (hz ▸ hsw.1) e
      rw [hz] at hsl
      simp only [size] at hsl
      have hzl : zs.length < 1099511627776 := by have := len_le_sizes zs; omega
      refine awp_meetR [0, 2, 3, 8, 10, 11, 12] 54 (fun y => y = .p (.bool (!(known ms (.mk zk zi zn zl zs))))) ?_ ?_
      · refine awp_region ?_
        refine al_step rfl rfl (aop_field_ptr fd26 rfl rfl) ?_
        refine al_step rfl rfl (aop_load_box1 (i := 0) ty3 rfl rfl rfl) ?_
        refine al_step rfl rfl (aop_cmp rfl rfl rfl) ?_
        refine al_step rfl rfl (aop_move rfl) ?_
        refine al_case 39 rfl (fun g => ?_) (fun g => ?_)
        · (try simp only [sd, se] at g)
          refine al_pass rfl rfl rfl rfl rfl ?_
          refine al_pass rfl rfl rfl rfl rfl ?_
          refine al_pass rfl rfl rfl rfl rfl ?_
          refine al_pass rfl rfl rfl rfl rfl ?_
          refine al_pass rfl rfl rfl rfl rfl ?_
          refine al_step rfl rfl (aop_pick rfl rfl) ?_
          refine al_step rfl rfl (aop_move rfl) ?_
          refine al_pass rfl rfl rfl rfl rfl ?_
          refine al_pass rfl rfl rfl rfl rfl ?_
          refine al_pass rfl rfl rfl rfl rfl ?_
          refine al_pass rfl rfl rfl rfl rfl ?_
          refine al_pass rfl rfl rfl rfl rfl ?_
          refine al_pass rfl rfl rfl rfl rfl ?_
          refine al_pass rfl rfl rfl rfl rfl ?_
          refine al_step rfl rfl (aop_pick rfl rfl) ?_
          refine al_end rfl ?_
          exact ⟨rfl, rfl, (by first | exact List.Sublist.refl _ | exact List.sublist_cons_self _ _), (by refine pB ?_; simp_all [known]), ⟨rfl, rfl, rfl, rfl, rfl, rfl, rfl, trivial⟩⟩
        · (try simp only [sd, se] at g)
          refine al_stepg rfl rfl rfl rfl (aop_field_ptr fd26 rfl rfl) ?_
          refine al_stepg rfl rfl rfl rfl (aop_load_box1 (i := 0) ty3 rfl rfl rfl) ?_
          refine al_stepg rfl rfl rfl rfl (aop_move rfl) ?_
          refine al_stepg rfl rfl rfl rfl (aop_lenE el22 rfl (List.length_map _)) ?_
          refine al_stepg rfl rfl rfl rfl (aop_cmp rfl rfl rfl) ?_
          refine al_step rfl rfl (aop_pick rfl rfl) ?_
          refine al_step rfl rfl (aop_move rfl) ?_
          refine al_case 46 rfl (fun g1 => ?_) (fun g1 => ?_)
          · (try simp only [sd, se] at g1)
            refine al_pass rfl rfl rfl rfl rfl ?_
            refine al_pass rfl rfl rfl rfl rfl ?_
            refine al_pass rfl rfl rfl rfl rfl ?_
            refine al_pass rfl rfl rfl rfl rfl ?_
            refine al_pass rfl rfl rfl rfl rfl ?_
            refine al_pass rfl rfl rfl rfl rfl ?_
            refine al_pass rfl rfl rfl rfl rfl ?_
            refine al_step rfl rfl (aop_pick rfl rfl) ?_
            refine al_end rfl ?_
            exact ⟨rfl, rfl, (by first | exact List.Sublist.refl _ | exact List.sublist_cons_self _ _), (by refine pB ?_; simp_all [known]), ⟨rfl, rfl, rfl, rfl, rfl, rfl, rfl, trivial⟩⟩
          · (try simp only [sd, se] at g1)
            refine al_stepg rfl rfl rfl rfl (aop_move rfl) ?_
            refine al_stepg rfl rfl rfl rfl (aop_field_ptr fd26 rfl rfl) ?_
            refine al_stepg rfl rfl rfl rfl (aop_load_box1 (i := 0) ty3 rfl rfl rfl) ?_
            obtain ⟨mv, hmv⟩ := getElem?_of_lt (l := ms) (i := (zi : Int).toNat) (by omega)
            refine al_stepg rfl rfl rfl rfl (aop_index_lst el22 rfl rfl (by omega) (encM_get hmv) (encM_len _)) ?_
            obtain ⟨mvy, mvn, mvv, mvc⟩ := mv
            obtain ⟨mvyk, mvyi, mvyn, mvyl, mvys⟩ := mvy
            obtain ⟨mvvk, mvvi, mvvn, mvvl, mvvs⟩ := mvv
            refine al_stepg rfl rfl rfl rfl (aop_field_ref fd44 rfl rfl) ?_
            refine al_stepg rfl rfl rfl rfl (aop_load_ref1 ty4 rfl) ?_
            refine al_stepg rfl rfl rfl rfl (aop_not rfl) ?_
            refine al_step rfl rfl (aop_pick rfl rfl) ?_
            refine al_end rfl ?_
            exact ⟨rfl, rfl, (by first | exact List.Sublist.refl _ | exact List.sublist_cons_self _ _), (by refine pB ?_; simp_all [known]), ⟨rfl, rfl, rfl, rfl, rfl, rfl, rfl, trivial⟩⟩
      rintro _ rfl
      refine awp_cond rfl (fun c2 => ?_) (fun c2 => ?_)
      · have c2R := c2
        (try simp only [sd, se] at c2)
        have hk : known ms (.mk zk zi zn zl zs) = false := by simpa using c2R
        refine awp_seq ?_
        refine awp_seq ?_
        refine awp_region ?_
        refine al_step rfl rfl (aop_assign rfl) ?_
        refine al_end rfl ?_
        refine awp_block ?_
        refine awp_ghost (ghost_own (t := 12) (sz := 5) rfl) ?_
        refine awp_while (α := Nat × List Tm × Cnt × Option Nat × Nat) (fun (i, ys, d, o, cp) => ⟨210, mk [(0, .p (.lst (List.map encM ms))), (2, .p (.lst (List.map encI ab))), (3, .ptr b 0), (8, .ptr b8 0), (10, .ptr b10 0), (11, .p (.lst (encTs ((spine t).2)))), (12, .vs o (encTs ys).length cp), (13, .p (I (i : Int)))], [.vec o 5 (encTs ys) cp, .box b10 [.p (I zk), .p (I zi), .p (.str zn), .p (.lst (List.map encL zl)), .p (.lst (encTs zs))], .box b8 [.p (I 0), .p (I 0), .p (.str ⟨#[]⟩), .p (.nils), .p (.nils)], .box b ((encC d).map .p)], []⟩) (fun (i, ys, d, o, cp) => zs.length - i) (fun (i, ys, d, o, cp) => i ≤ zs.length ∧ (joinL ys (fillL (fillW ms n ab) d (zs.drop i)) = fillL (fillW ms n ab) c zs ∧ ys.length = i)) ⟨0, [], c, none, 0⟩ (by simp [joinL_nil]) ?_ ?_
        · exact le_mkW ⟨we rfl, we rfl, we rfl, we rfl, we rfl, we rfl, we rfl, we rfl, trivial⟩ (leH (is := [0, 1, 2, 4]) rfl (wl (oe rfl) (wl (oe rfl) (wl (oe rfl) (wl (oe rfl) (wl0))))))
        rintro ⟨i, ys, d, o, cp⟩ hC
        try simp only at hC
        obtain ⟨hi, hC, hl⟩ := hC
        refine awp_seq ?_
        refine awp_seq ?_
        refine awp_region ?_
        refine al_step rfl rfl (aop_move rfl) ?_
        refine al_step rfl rfl (aop_field_ptr fd26 rfl rfl) ?_
        refine al_step rfl rfl (aop_load_box1 (i := 1) ty24 rfl rfl rfl) ?_
        refine al_step rfl rfl (aop_lenE el24 rfl (encTs_len _)) ?_
        refine al_step rfl rfl (aop_cmp rfl rfl rfl) ?_
        refine al_end rfl ?_
        refine awp_cond rfl (fun c3 => ?_) (fun c3 => ?_)
        · have c3R := c3
          (try simp only [sd, se] at c3)
          refine awp_skip ?_
          refine awp_seq ?_
          refine awp_block ?_
          refine awp_seq ?_
          refine awp_region ?_
          refine al_step rfl rfl (aop_move rfl) ?_
          refine al_step rfl rfl (aop_field_ptr fd26 rfl rfl) ?_
          refine al_step rfl rfl (aop_load_box1 (i := 1) ty24 rfl rfl rfl) ?_
          refine al_step rfl rfl (aop_move rfl) ?_
          obtain ⟨x, hx⟩ := getElem?_of_lt (l := zs) (i := i) (by omega)
          refine al_step rfl rfl (aop_index_lst el24 rfl rfl (by omega) (encTs_get hx) (encT_len _)) ?_
          refine al_step rfl rfl (aop_load_ref ty26 rfl (encT_len _)) ?_
          refine al_step rfl rfl (aop_move rfl) ?_
          refine al_step rfl rfl (aop_move rfl) ?_
          refine al_step rfl rfl (aop_retn [3] rfl (.inl ⟨rfl, rfl, rfl⟩) (ih x ms _ ab b d (by have := size_mem hx; omega) (Nds_mem hkn.1 hx) (Wts_mem hkn.2 hx) h4 h5 (Nat.lt_of_le_of_lt (Nat.mul_le_mul_right _ (by have := size_mem hx; omega)) h6) h7 (by simp only [big]; omega) (by have := size_mem hx; omega) h10) ⟨_, _, rfl, rfl, rfl⟩ (by decide) rfl (.inl rfl)) ?_
          refine al_step rfl rfl (aop_move rfl) ?_
          refine al_step rfl rfl (aop_extract rfl rfl) ?_
          refine al_step rfl rfl (aop_extract rfl rfl) ?_
          refine al_new rfl rfl (aop_alloc zr26 rfl) fun b14 => ?_
          refine al_step rfl rfl (aop_store_whole (i := 0) ty26 rfl rfl rfl (by simp [encT_len]) (by first | rfl | simp [encT_len]) (one_Tm _)) ?_
          refine al_step rfl rfl (aop_assign rfl) ?_
          refine al_end rfl ?_
          refine awp_seq ?_
          refine awp_seq ?_
          refine awp_region ?_
          refine al_step rfl rfl (aop_move rfl) ?_
          refine al_step rfl rfl (aop_cmp rfl rfl rfl) ?_
          refine al_end rfl ?_
          refine awp_cond rfl (fun c4 => ?_) (fun c4 => ?_)
          · have c4R := c4
            (try simp only [sd, se] at c4)
            refine awp_seq ?_
            refine awp_region ?_
            refine al_step rfl rfl (aop_build fd26 zr26 rfl) ?_
            refine al_step rfl rfl (aop_move rfl) ?_
            refine al_step rfl rfl (aop_store_box (i := 3) ty26 rfl rfl rfl rfl rfl rfl) ?_
            refine al_step rfl rfl (aop_assign rfl) ?_
            refine al_end rfl ?_
            refine awp_ghost (ghost_box (i := 3) rfl) ?_
            refine awp_ret ?_
            refine ⟨rfl, _, _, ⟨_, _, rfl, (resv_row (i := 3) ty26 rfl rfl rfl), ⟨_, _, rfl, rfl, rfl⟩⟩, (subl (is := [4]) rfl), ?_⟩
            rw [fillW_nk1 hov hz hk (by rw [← hC, joinL_err hx c4]) c4]
            all_goals exact ⟨rfl, rfl⟩
          · have c4R := c4
            (try simp only [sd, se] at c4)
            refine awp_skip ?_
            refine awp_region ?_
            refine al_step rfl rfl (aop_move rfl) ?_
            refine al_step rfl rfl (aop_load_box (i := 0) ty26 rfl rfl (by simp [encT_len])) ?_
            generalize hz1 : (fillW ms n ab d x).1 = z1
            obtain ⟨z1k, z1i, z1n, z1l, z1s⟩ := z1
            refine al_step rfl rfl (aop_buildSlice el24 zr26 rfl rfl rfl rfl rfl) ?_
            refine al_app rfl rfl (aop_append2 (i := 1) (rows' := encTs [(.mk z1k z1i z1n z1l z1s : Tm)]) el24 el24 zr26 rfl rfl rfl rfl rfl rfl (solid_Tm _) (by simp only [encTs_len, List.length_map, List.length_cons, List.length_nil, List.nil_append, List.length_append]; omega) (vn_Tm ys [(.mk z1k z1i z1n z1l z1s : Tm)])) fun o1 cp1 => ?_
            refine al_step rfl rfl (aop_assign rfl) ?_
            refine al_end rfl ?_
            refine awp_region ?_
            refine al_step rfl rfl (aop_move rfl) ?_
            refine al_step rfl rfl (aop_add rfl rfl (by omega) (by omega)) ?_
            refine al_step rfl rfl (aop_assign rfl) ?_
            refine al_end rfl ?_
            refine ⟨⟨i + 1, ys ++ [(fillW ms n ab d x).1], (fillW ms n ab d x).2.2, o1, cp1⟩, (by first | omega | (simp only; omega)), ⟨by omega, ⟨(joinL_ok hx (by omega)).trans hC, by simp; omega⟩⟩, le_mkW ⟨we rfl, we rfl, we rfl, we rfl, we rfl, we rfl, we (vsE_Tm (ys ++ [(.mk z1k z1i z1n z1l z1s : Tm)]) (by rw [hz1])), we rfl, trivial⟩ (leH (is := [1, 2, 3, 4]) rfl (wl (ovE_Tm (ys ++ [(.mk z1k z1i z1n z1l z1s : Tm)]) (by rw [hz1])) (wl (oe rfl) (wl (oe rfl) (wl (oe rfl) (wl0))))))⟩
        · have c3R := c3
          (try simp only [sd, se] at c3)
          have hq : fillL (fillW ms n ab) c zs = (ys, 0, d) := joinL_done hC (by omega)
          have hqa := fillL_args h7 h5 hkn.1 hkn.2 (s := size t) (by omega) h6 hq
          refine awp_exit ?_
          refine awp_seq ?_
          refine awp_region ?_
          refine al_step rfl rfl (aop_move rfl) ?_
          refine al_step rfl rfl (aop_field_ptr fd26 rfl rfl) ?_
          refine al_ghost (ghost_freeze (i := 0) [12, 82] rfl (memall ⟨rfl, rfl, trivial⟩)) ?_
          refine al_step rfl rfl (aop_store_box (i := 0) ty24 rfl rfl rfl rfl rfl rfl) ?_
          refine al_end rfl ?_
          refine awp_seq ?_
          refine awp_seq ?_
          refine awp_region ?_
          refine al_step rfl rfl (aop_assign rfl) ?_
          refine al_end rfl ?_
          refine awp_block ?_
          refine awp_while (α := Nat × List Tm × Cnt) (fun (j, us, f) => ⟨210, mk [(0, .p (.lst (List.map encM ms))), (2, .p (.lst (List.map encI ab))), (3, .ptr b 0), (8, .ptr b8 0), (10, .ptr b10 0), (11, .p (.lst (encTs ((spine t).2)))), (16, .p (I (j : Int)))], [.box b10 ((encT (apply (.mk zk zi zn zl ys) us)).map .p), .box b8 [.p (I 0), .p (I 0), .p (.str ⟨#[]⟩), .p (.nils), .p (.nils)], .box b ((encC f).map .p)], []⟩) (fun (j, us, f) => (spine t).2.length - j) (fun (j, us, f) => j ≤ (spine t).2.length ∧ (joinL us (fillL (fillW ms n ab) f ((spine t).2.drop j)) = fillL (fillW ms n ab) d (spine t).2 ∧ us.length = j)) ⟨0, [], d⟩ (by simp [joinL_nil]) ?_ ?_
          · exact le_mkW ⟨we rfl, we rfl, we rfl, we rfl, we rfl, we rfl, we rfl, trivial⟩ (leH (is := [0, 1, 2]) rfl (wl (oe rfl) (wl (oe rfl) (wl (oe rfl) (wl0)))))
          rintro ⟨j, us, f⟩ hC1
          try simp only at hC1
          obtain ⟨hi, hD, hl2⟩ := hC1
          refine awp_seq ?_
          refine awp_seq ?_
          refine awp_region ?_
          refine al_step rfl rfl (aop_move rfl) ?_
          refine al_step rfl rfl (aop_move rfl) ?_
          refine al_step rfl rfl (aop_lenE el24 rfl (encTs_len _)) ?_
          refine al_step rfl rfl (aop_cmp rfl rfl rfl) ?_
          refine al_end rfl ?_
          refine awp_cond rfl (fun c4 => ?_) (fun c4 => ?_)
          · have c4R := c4
            (try simp only [sd, se] at c4)
            refine awp_skip ?_
            refine awp_seq ?_
            refine awp_block ?_
            refine awp_seq ?_
            refine awp_region ?_
            refine al_step rfl rfl (aop_move rfl) ?_
            refine al_step rfl rfl (aop_move rfl) ?_
            refine al_step rfl rfl (aop_move rfl) ?_
            obtain ⟨x, hx⟩ := getElem?_of_lt (l := (spine t).2) (i := j) (by omega)
            refine al_step rfl rfl (aop_index_lst el24 rfl rfl (by omega) (encTs_get hx) (encT_len _)) ?_
            refine al_step rfl rfl (aop_load_ref ty26 rfl (encT_len _)) ?_
            refine al_step rfl rfl (aop_move rfl) ?_
            refine al_step rfl rfl (aop_move rfl) ?_
            refine al_step rfl rfl (aop_retn [2] rfl (.inl ⟨rfl, rfl, rfl⟩) (ih x ms _ ab b f (by have := size_mem hx; omega) (Nds_mem hsn.2 hx) (Wts_mem hsw.2 hx) h4 h5 (Nat.lt_of_le_of_lt (Nat.mul_le_mul_right _ (by have := size_mem hx; omega)) h6) h7 (by simp only [big]; omega) (by have := size_mem hx; omega) h10) ⟨_, _, rfl, rfl, rfl⟩ (by decide) rfl (.inl rfl)) ?_
            refine al_step rfl rfl (aop_move rfl) ?_
            refine al_step rfl rfl (aop_extract rfl rfl) ?_
            refine al_step rfl rfl (aop_extract rfl rfl) ?_
            refine al_new rfl rfl (aop_alloc zr26 rfl) fun b17 => ?_
            refine al_step rfl rfl (aop_store_whole (i := 0) ty26 rfl rfl rfl (by simp [encT_len]) (by first | rfl | simp [encT_len]) (one_Tm _)) ?_
            refine al_step rfl rfl (aop_assign rfl) ?_
            refine al_end rfl ?_
            refine awp_seq ?_
            refine awp_seq ?_
            refine awp_region ?_
            refine al_step rfl rfl (aop_move rfl) ?_
            refine al_step rfl rfl (aop_cmp rfl rfl rfl) ?_
            refine al_end rfl ?_
            refine awp_cond rfl (fun c5 => ?_) (fun c5 => ?_)
            · have c5R := c5
              (try simp only [sd, se] at c5)
              refine awp_seq ?_
              refine awp_region ?_
              refine al_step rfl rfl (aop_build fd26 zr26 rfl) ?_
              refine al_step rfl rfl (aop_move rfl) ?_
              refine al_step rfl rfl (aop_store_box (i := 2) ty26 rfl rfl rfl rfl rfl rfl) ?_
              refine al_step rfl rfl (aop_assign rfl) ?_
              refine al_end rfl ?_
              refine awp_ghost (ghost_box (i := 2) rfl) ?_
              refine awp_ret ?_
              refine ⟨rfl, _, _, ⟨_, _, rfl, (resv_row (i := 2) ty26 rfl rfl rfl), ⟨_, _, rfl, rfl, rfl⟩⟩, (subl (is := [3]) rfl), ?_⟩
              rw [fillW_nk2 hov hz hk hq (by rw [← hD, joinL_err hx c5]) c5]
              all_goals exact ⟨rfl, rfl⟩
            · have c5R := c5
              (try simp only [sd, se] at c5)
              refine awp_skip ?_
              refine awp_region ?_
              refine al_step rfl rfl (aop_load_box (i := 1) ty26 rfl rfl (by simp [encT_len])) ?_
              refine al_step rfl rfl (aop_load_box (i := 0) ty26 rfl rfl (by simp [encT_len])) ?_
              generalize hz1 : (fillW ms n ab f x).1 = z1
              obtain ⟨z1k, z1i, z1n, z1l, z1s⟩ := z1
              refine al_step rfl rfl (aop_buildSlice el24 zr26 rfl rfl rfl rfl rfl) ?_
              refine al_step rfl rfl (aop_fun rfl rfl (applyR_c (apply (.mk zk zi zn zl ys) us) [(.mk z1k z1i z1n z1l z1s : Tm)] (by simp [big])) rfl) ?_
              refine al_step rfl rfl (aop_store_whole (i := 1) ty26 rfl rfl rfl (by simp [encT_len]) (by first | rfl | simp [encT_len]) (one_Tm _)) ?_
              refine al_end rfl ?_
              refine awp_region ?_
              refine al_step rfl rfl (aop_move rfl) ?_
              refine al_step rfl rfl (aop_add rfl rfl (by omega) (by omega)) ?_
              refine al_step rfl rfl (aop_assign rfl) ?_
              refine al_end rfl ?_
              refine ⟨⟨j + 1, us ++ [(fillW ms n ab f x).1], (fillW ms n ab f x).2.2⟩, (by first | omega | (simp only; omega)), ⟨by omega, ⟨(joinL_ok hx (by omega)).trans hD, by simp; omega⟩⟩, le_mkW ⟨we rfl, we rfl, we rfl, we rfl, we rfl, we rfl, we rfl, trivial⟩ (leH (is := [1, 2, 3]) rfl (wl (ob (by rw [apply_one, hz1])) (wl (oe rfl) (wl (oe rfl) (wl0)))))⟩
          · have c4R := c4
            (try simp only [sd, se] at c4)
            have hr : fillL (fillW ms n ab) d (spine t).2 = (us, 0, f) := joinL_done hD (by omega)
            have hra := fillL_args h7 h5 hsn.2 hsw.2 (s := size t) (by omega) h6 hr
            refine awp_exit ?_
            refine awp_seq ?_
            refine awp_region ?_
            refine al_step rfl rfl (aop_load_box (i := 0) ty26 rfl rfl (by simp [encT_len])) ?_
            refine al_step rfl rfl (aop_move rfl) ?_
            refine al_step rfl rfl (aop_retn [2] rfl (.inl ⟨rfl, rfl, rfl⟩) (sized_c b f (apply (.mk zk zi zn zl ys) us) (apply_nd (withKids_ok (h := .mk zk zi zn zl zs) (hz ▸ hsn.1) (hz ▸ hsw.1) hqa.1 hqa.2.1 hqa.2.2.2).1 hra.1)) ⟨_, _, rfl, rfl, rfl⟩ (by decide) rfl (.inl rfl)) ?_
            refine al_step rfl rfl (aop_store_whole (i := 1) ty26 rfl rfl rfl (by simp [encT_len]) (by first | rfl | simp [encT_len]) (one_Tm _)) ?_
            refine al_step rfl rfl (aop_assign rfl) ?_
            refine al_end rfl ?_
            refine awp_ret ?_
            refine ⟨rfl, _, _, ⟨_, _, rfl, (resv_row (i := 1) ty26 rfl rfl (by simp [encT_len])), ⟨_, _, rfl, rfl, rfl⟩⟩, (subl (is := [2]) rfl), ?_⟩
            rw [fillW_nk3 hov hz hk hq hr]
            all_goals exact ⟨rfl, rfl⟩
      · have c2R := c2
        (try simp only [sd, se] at c2)
        have hk : known ms (.mk zk zi zn zl zs) = true := by simpa using c2R
        have hki := known_idx hk
        simp only [Tm.kind, Tm.index] at hki
        refine awp_skip ?_
        refine awp_seq ?_
        refine awp_seq ?_
        refine awp_region ?_
        refine al_step rfl rfl (aop_assign rfl) ?_
        refine al_end rfl ?_
        refine awp_block ?_
        refine awp_while (α := Nat) (fun i => ⟨210, mk [(0, .p (.lst (List.map encM ms))), (2, .p (.lst (List.map encI ab))), (3, .ptr b 0), (8, .ptr b8 0), (10, .ptr b10 0), (11, .p (.lst (encTs ((spine t).2)))), (12, .p (.nils)), (19, .p (I (i : Int)))], [.box b10 [.p (I zk), .p (I zi), .p (.str zn), .p (.lst (List.map encL zl)), .p (.lst (encTs zs))], .box b8 [.p (I 0), .p (I 0), .p (.str ⟨#[]⟩), .p (.nils), .p (.nils)], .box b [.p (I c.steps), .p (I c.nodes), .p (I c.forms), .p (I c.limit), .p (.bool c.over)]], []⟩) (fun i => ab.length - i) (fun i => i ≤ ab.length ∧ (zi ∉ ab.take i)) 0 (by simp) ?_ ?_
        · exact le_mkW ⟨we rfl, we rfl, we rfl, we rfl, we rfl, we rfl, we rfl, we rfl, trivial⟩ (leH (is := [0, 1, 3]) rfl (wl (oe rfl) (wl (oe rfl) (wl (oe rfl) (wl0)))))
        rintro i hC
        try simp only at hC
        obtain ⟨hi, hC⟩ := hC
        refine awp_seq ?_
        refine awp_seq ?_
        refine awp_region ?_
        refine al_step rfl rfl (aop_move rfl) ?_
        refine al_step rfl rfl (aop_move rfl) ?_
        refine al_step rfl rfl (aop_lenE el59 rfl (List.length_map _)) ?_
        refine al_step rfl rfl (aop_cmp rfl rfl rfl) ?_
        refine al_end rfl ?_
        refine awp_cond rfl (fun c3 => ?_) (fun c3 => ?_)
        · have c3R := c3
          (try simp only [sd, se] at c3)
          refine awp_skip ?_
          refine awp_seq ?_
          refine awp_block ?_
          refine awp_seq ?_
          refine awp_dr (fun k => false) mx0 ?_
          refine dr_free rfl rfl (fun _ => aop_move rfl) trivial ?_
          refine dr_free rfl rfl (fun _ => aop_move rfl) trivial ?_
          obtain ⟨x, hx⟩ := getElem?_of_lt (l := ab) (i := i) (by omega)
          refine dr_free rfl rfl (fun _ => aop_index_lst el59 rfl rfl (by omega) (encI_get hx) (rfl)) trivial ?_
          refine dr_free rfl rfl (fun _ => aop_load_ref1 ty3 rfl) trivial ?_
          refine dr_free rfl rfl (fun _ => aop_field_ptr fd26 rfl rfl) trivial ?_
          refine dr_read (j := 0) rfl rfl rfl (fun H i hi => aop_load_box1 (i := i) ty3 rfl hi rfl) (by repeat' first | exact trivial | refine And.intro ?_ ?_ | ((refine Or.inr (And.intro ?_ ?_) <;> repeat (first | exact List.Mem.head _ | apply List.Mem.tail)); done) | exact Or.inl (by kernel_rfl)) trivial ?_
          refine dr_free rfl rfl (fun _ => aop_cmp rfl rfl rfl) trivial ?_
          refine dr_end rfl (by kernel_rfl) ?_
          refine awp_cond rfl (fun c4 => ?_) (fun c4 => ?_)
          · have c4R := c4
            (try simp only [sd, se] at c4)
            refine awp_seq ?_
            refine awp_region ?_
            refine al_step rfl rfl (aop_build fd26 zr26 rfl) ?_
            refine al_step rfl rfl (aop_store_box (i := 1) ty26 rfl rfl rfl rfl rfl rfl) ?_
            refine al_step rfl rfl (aop_assign rfl) ?_
            refine al_end rfl ?_
            refine awp_ghost (ghost_box (i := 1) rfl) ?_
            refine awp_ret ?_
            refine ⟨rfl, _, _, ⟨_, _, rfl, (resv_row (i := 1) ty26 rfl rfl rfl), ⟨_, _, rfl, rfl, rfl⟩⟩, (subl (is := [2]) rfl), ?_⟩
            rw [fillW_in hov hz hk (by rw [← c4]; exact List.mem_of_getElem? hx)]
            all_goals exact ⟨rfl, rfl⟩
          · have c4R := c4
            (try simp only [sd, se] at c4)
            refine awp_skip ?_
            refine awp_region ?_
            refine al_step rfl rfl (aop_move rfl) ?_
            refine al_step rfl rfl (aop_add rfl rfl (by omega) (by omega)) ?_
            refine al_step rfl rfl (aop_assign rfl) ?_
            refine al_end rfl ?_
            refine ⟨(i + 1), (by first | omega | (simp only; omega)), ⟨by omega, not_take_succ hC hx (by omega)⟩, le_mkW ⟨we rfl, we rfl, we rfl, we rfl, we rfl, we rfl, we rfl, we rfl, trivial⟩ (leH (is := [0, 1, 2]) rfl (wl (oe rfl) (wl (oe rfl) (wl (oe rfl) (wl0)))))⟩
        · have c3R := c3
          (try simp only [sd, se] at c3)
          have hin : zi ∉ ab := by rw [show i = ab.length by omega, List.take_length] at hC; exact hC
          refine awp_exit ?_
          refine awp_seq ?_
          refine awp_region ?_
          refine al_step rfl rfl (aop_assign rfl) ?_
          refine al_ghost (ghost_own (t := 20) (sz := 1) rfl) ?_
          refine al_end rfl ?_
          refine awp_seq ?_
          refine awp_dr (fun k => Nat.beq k 2 || Nat.beq k 6) mx0 ?_
          refine dr_free rfl rfl (fun _ => aop_move rfl) trivial ?_
          refine dr_free rfl rfl (fun _ => aop_move rfl) trivial ?_
          refine dr_app [(3, .free (.ptr b10 1)), (4, .read (.box b10 [.p (I zk), .p (I zi), .p (.str zn), .p (.lst (List.map encL zl)), .p (.lst (encTs zs))]) (.p (I zi))), (5, .free (.p (.lst (List.map encI [zi]))))] rfl rfl (aop_append2 (i := 0) (rows' := List.map encI ab) el59 el59 zr3 rfl rfl rfl rfl rfl rfl (solid_Int _) (by simp only [encTs_len, List.length_map, List.length_cons, List.length_nil, List.nil_append, List.length_append]; omega) (vn_map (f := encI) [] ab)) (by kernel_rfl) fun o cp => ⟨(by repeat' first | exact trivial | refine And.intro ?_ ?_ | ((refine Or.inr (And.intro ?_ ?_) <;> repeat (first | exact List.Mem.head _ | apply List.Mem.tail)); done) | exact Or.inl (by kernel_rfl)), trivial, ?_⟩
          refine dr_free rfl rfl (fun _ => aop_field_ptr fd26 rfl rfl) (by repeat' first | exact trivial | rfl | refine And.intro ?_ ?_) ?_
          refine dr_read (j := 1) rfl rfl rfl (fun H i hi => aop_load_box1 (i := i) ty3 rfl hi rfl) (by repeat' first | exact trivial | refine And.intro ?_ ?_ | ((refine Or.inr (And.intro ?_ ?_) <;> repeat (first | exact List.Mem.head _ | apply List.Mem.tail)); done) | exact Or.inl (by kernel_rfl)) (by repeat' first | exact trivial | rfl | refine And.intro ?_ ?_) ?_
          refine dr_free rfl rfl (fun _ => aop_buildSlice el59 zr3 rfl rfl rfl rfl rfl) (by repeat' first | exact trivial | rfl | refine And.intro ?_ ?_) ?_
          refine dr_app [] rfl rfl (aop_append2 (i := 0) (rows' := List.map encI [zi]) el59 el59 zr3 rfl rfl rfl rfl rfl rfl (solid_Int _) (by simp only [encTs_len, List.length_map, List.length_cons, List.length_nil, List.nil_append, List.length_append]; omega) (vn_map (f := encI) ab [zi])) (by kernel_rfl) fun o1 cp1 => ⟨(by repeat' first | exact trivial | refine And.intro ?_ ?_ | ((refine Or.inr (And.intro ?_ ?_) <;> repeat (first | exact List.Mem.head _ | apply List.Mem.tail)); done) | exact Or.inl (by kernel_rfl)), (by repeat' first | exact trivial | rfl | refine And.intro ?_ ?_), ?_⟩
          refine dr_free rfl rfl (fun _ => aop_assign rfl) (by repeat' first | exact trivial | rfl | refine And.intro ?_ ?_) ?_
          refine dr_end rfl (by kernel_rfl) ?_
          refine awp_seq ?_
          refine awp_region ?_
          refine al_step rfl rfl (aop_move rfl) ?_
          refine al_step rfl rfl (aop_move rfl) ?_
          refine al_step rfl rfl (aop_field_ptr fd26 rfl rfl) ?_
          refine al_step rfl rfl (aop_load_box1 (i := 1) ty3 rfl rfl rfl) ?_
          obtain ⟨mv, hmv⟩ := getElem?_of_lt (l := ms) (i := (zi : Int).toNat) (by omega)
          refine al_step rfl rfl (aop_index_lst el22 rfl rfl (by omega) (encM_get hmv) (encM_len _)) ?_
          obtain ⟨mvy, mvn, mvv, mvc⟩ := mv
          obtain ⟨mvyk, mvyi, mvyn, mvyl, mvys⟩ := mvy
          obtain ⟨mvvk, mvvi, mvvn, mvvl, mvvs⟩ := mvv
          refine al_step rfl rfl (aop_field_ref fd44 rfl rfl) ?_
          refine al_step rfl rfl (aop_load_ref_of (cs := [I mvvk, I mvvi, .str mvvn, .lst (List.map encL mvvl), .lst (encTs mvvs)]) ty26 rfl rfl rfl) ?_
          refine al_step rfl rfl (aop_move rfl) ?_
          refine al_step rfl rfl (aop_move rfl) ?_
          refine al_ghost (ghost_freeze (i := 0) [20, 132, 141] rfl (memall ⟨rfl, rfl, rfl, trivial⟩)) ?_
          have hu : valueOf ms zi = (.mk mvvk mvvi mvvn mvvl mvvs : Tm) := by simp [valueOf, hmv]
          have hvs := val_side h1 h4 h5 h6 h7 h10 (hz12 hki.1) hki.2 hin
          rw [hu] at hvs
          refine al_step rfl rfl (aop_retn [2] rfl (.inl ⟨rfl, rfl, rfl⟩) (ih (.mk mvvk mvvi mvvn mvvl mvvs : Tm) ms _ (ab ++ [zi]) b (Cnt.mk c.steps c.nodes c.forms c.limit c.over) hvs.1 hvs.2.1 hvs.2.2.1 hvs.2.2.2.1 h5 hvs.2.2.2.2.1 h7 (by simp only [big]; omega) hvs.2.2.2.2.2 h10) ⟨_, _, rfl, rfl, rfl⟩ (by decide) rfl (.inl rfl)) ?_
          generalize hq : fillW ms n (ab ++ [zi]) (Cnt.mk c.steps c.nodes c.forms c.limit c.over) (.mk mvvk mvvi mvvn mvvl mvvs : Tm) = q
          refine al_step rfl rfl (aop_move rfl) ?_
          refine al_step rfl rfl (aop_extract rfl rfl) ?_
          refine al_step rfl rfl (aop_extract rfl rfl) ?_
          refine al_new rfl rfl (aop_alloc zr26 rfl) fun b21 => ?_
          refine al_step rfl rfl (aop_store_whole (i := 0) ty26 rfl rfl rfl (by simp [encT_len]) (by first | rfl | simp [encT_len]) (one_Tm _)) ?_
          refine al_step rfl rfl (aop_assign rfl) ?_
          refine al_end rfl ?_
          refine awp_seq ?_
          refine awp_seq ?_
          refine awp_region ?_
          refine al_step rfl rfl (aop_move rfl) ?_
          refine al_step rfl rfl (aop_cmp rfl rfl rfl) ?_
          refine al_end rfl ?_
          refine awp_cond rfl (fun c4 => ?_) (fun c4 => ?_)
          · have c4R := c4
            (try simp only [sd, se] at c4)
            refine awp_seq ?_
            refine awp_region ?_
            refine al_step rfl rfl (aop_build fd26 zr26 rfl) ?_
            refine al_step rfl rfl (aop_move rfl) ?_
            refine al_step rfl rfl (aop_store_box (i := 2) ty26 rfl rfl rfl rfl rfl rfl) ?_
            refine al_step rfl rfl (aop_assign rfl) ?_
            refine al_end rfl ?_
            refine awp_ghost (ghost_box (i := 2) rfl) ?_
            refine awp_ret ?_
            refine ⟨rfl, _, _, ⟨_, _, rfl, (resv_row (i := 2) ty26 rfl rfl rfl), ⟨_, _, rfl, rfl, rfl⟩⟩, (subl (is := [3]) rfl), ?_⟩
            rw [fillW_v1 hov hz hk hin hu (by rw [hq]; exact c4), hq]
            all_goals exact ⟨rfl, rfl⟩
          · have c4R := c4
            (try simp only [sd, se] at c4)
            have hvf := fillW_facts h7 h5 hvs.2.1 hvs.2.2.1 hvs.2.2.2.2.1 hq
            have hq0 : fillW ms n (ab ++ [zi]) c (.mk mvvk mvvi mvvn mvvl mvvs) = (q.1, 0, q.2.2) := by rw [hq, ← c4]
            refine awp_skip ?_
            refine awp_seq ?_
            refine awp_region ?_
            refine al_step rfl rfl (aop_move rfl) ?_
            refine al_step rfl rfl (aop_load_box (i := 0) ty26 rfl rfl (by simp [encT_len])) ?_
            refine al_step rfl rfl (aop_retn [3] rfl (.inl ⟨rfl, rfl, rfl⟩) (formC_c b q.2.2 q.1 0 hvf.1) ⟨_, _, rfl, rfl, rfl⟩ (by decide) rfl (.inl rfl)) ?_
            refine al_end rfl ?_
            refine awp_seq ?_
            refine awp_seq ?_
            refine awp_region ?_
            refine al_step rfl rfl (aop_assign rfl) ?_
            refine al_end rfl ?_
            refine awp_block ?_
            refine awp_ghost (ghost_own (t := 12) (sz := 5) rfl) ?_
            refine awp_while (α := Nat × List Tm × Cnt × Option Nat × Nat) (fun (j, us, f, o2, cp2) => ⟨210, mk [(0, .p (.lst (List.map encM ms))), (2, .p (.lst (List.map encI ab))), (3, .ptr b 0), (8, .ptr b8 0), (11, .p (.lst (encTs ((spine t).2)))), (12, .vs o2 (encTs us).length cp2), (21, .ptr b21 0), (23, .p (I (j : Int)))], [.vec o2 5 (encTs us) cp2, .box b21 ((encT q.1).map .p), .box b8 [.p (I 0), .p (I 0), .p (.str ⟨#[]⟩), .p (.nils), .p (.nils)], .box b ((encC f).map .p)], []⟩) (fun (j, us, f, o2, cp2) => (spine t).2.length - j) (fun (j, us, f, o2, cp2) => j ≤ (spine t).2.length ∧ (joinL us (fillL (fillW ms n ab) f ((spine t).2.drop j)) = fillL (fillW ms n ab) (q.2.2.form q.1 0) (spine t).2 ∧ us.length = j)) ⟨0, [], q.2.2.form q.1 0, none, 0⟩ (by simp [joinL_nil]) ?_ ?_
            · exact le_mkW ⟨we rfl, we rfl, we rfl, we rfl, we rfl, we rfl, we rfl, we rfl, trivial⟩ (leH (is := [0, 1, 3, 4]) rfl (wl (oe rfl) (wl (oe rfl) (wl (oe rfl) (wl (oe rfl) (wl0))))))
            rintro ⟨j, us, f, o2, cp2⟩ hC1
            try simp only at hC1
            obtain ⟨hi, hD, hl2⟩ := hC1
            refine awp_seq ?_
            refine awp_seq ?_
            refine awp_region ?_
            refine al_step rfl rfl (aop_move rfl) ?_
            refine al_step rfl rfl (aop_move rfl) ?_
            refine al_step rfl rfl (aop_lenE el24 rfl (encTs_len _)) ?_
            refine al_step rfl rfl (aop_cmp rfl rfl rfl) ?_
            refine al_end rfl ?_
            refine awp_cond rfl (fun c5 => ?_) (fun c5 => ?_)
            · have c5R := c5
              (try simp only [sd, se] at c5)
              refine awp_skip ?_
              refine awp_seq ?_
              refine awp_block ?_
              refine awp_seq ?_
              refine awp_region ?_
              refine al_step rfl rfl (aop_move rfl) ?_
              refine al_step rfl rfl (aop_move rfl) ?_
              refine al_step rfl rfl (aop_move rfl) ?_
              obtain ⟨x, hx⟩ := getElem?_of_lt (l := (spine t).2) (i := j) (by omega)
              refine al_step rfl rfl (aop_index_lst el24 rfl rfl (by omega) (encTs_get hx) (encT_len _)) ?_
              refine al_step rfl rfl (aop_load_ref ty26 rfl (encT_len _)) ?_
              refine al_step rfl rfl (aop_move rfl) ?_
              refine al_step rfl rfl (aop_move rfl) ?_
              refine al_step rfl rfl (aop_retn [3] rfl (.inl ⟨rfl, rfl, rfl⟩) (ih x ms _ ab b f (by have := size_mem hx; omega) (Nds_mem hsn.2 hx) (Wts_mem hsw.2 hx) h4 h5 (Nat.lt_of_le_of_lt (Nat.mul_le_mul_right _ (by have := size_mem hx; omega)) h6) h7 (by simp only [big]; omega) (by have := size_mem hx; omega) h10) ⟨_, _, rfl, rfl, rfl⟩ (by decide) rfl (.inl rfl)) ?_
              refine al_step rfl rfl (aop_move rfl) ?_
              refine al_step rfl rfl (aop_extract rfl rfl) ?_
              refine al_step rfl rfl (aop_extract rfl rfl) ?_
              refine al_new rfl rfl (aop_alloc zr26 rfl) fun b24 => ?_
              refine al_step rfl rfl (aop_store_whole (i := 0) ty26 rfl rfl rfl (by simp [encT_len]) (by first | rfl | simp [encT_len]) (one_Tm _)) ?_
              refine al_step rfl rfl (aop_assign rfl) ?_
              refine al_end rfl ?_
              refine awp_seq ?_
              refine awp_seq ?_
              refine awp_region ?_
              refine al_step rfl rfl (aop_move rfl) ?_
              refine al_step rfl rfl (aop_cmp rfl rfl rfl) ?_
              refine al_end rfl ?_
              refine awp_cond rfl (fun c6 => ?_) (fun c6 => ?_)
              · have c6R := c6
                (try simp only [sd, se] at c6)
                refine awp_seq ?_
                refine awp_region ?_
                refine al_step rfl rfl (aop_build fd26 zr26 rfl) ?_
                refine al_step rfl rfl (aop_move rfl) ?_
                refine al_step rfl rfl (aop_store_box (i := 3) ty26 rfl rfl rfl rfl rfl rfl) ?_
                refine al_step rfl rfl (aop_assign rfl) ?_
                refine al_end rfl ?_
                refine awp_ghost (ghost_box (i := 3) rfl) ?_
                refine awp_ret ?_
                refine ⟨rfl, _, _, ⟨_, _, rfl, (resv_row (i := 3) ty26 rfl rfl rfl), ⟨_, _, rfl, rfl, rfl⟩⟩, (subl (is := [4]) rfl), ?_⟩
                rw [fillW_v2 hov hz hk hin hu hq0 (by rw [← hD, joinL_err hx c6]) c6]
                all_goals exact ⟨rfl, rfl⟩
              · have c6R := c6
                (try simp only [sd, se] at c6)
                refine awp_skip ?_
                refine awp_region ?_
                refine al_step rfl rfl (aop_move rfl) ?_
                refine al_step rfl rfl (aop_load_box (i := 0) ty26 rfl rfl (by simp [encT_len])) ?_
                generalize hz1 : (fillW ms n ab f x).1 = z1
                obtain ⟨z1k, z1i, z1n, z1l, z1s⟩ := z1
                refine al_step rfl rfl (aop_buildSlice el24 zr26 rfl rfl rfl rfl rfl) ?_
                refine al_app rfl rfl (aop_append2 (i := 1) (rows' := encTs [(.mk z1k z1i z1n z1l z1s : Tm)]) el24 el24 zr26 rfl rfl rfl rfl rfl rfl (solid_Tm _) (by simp only [encTs_len, List.length_map, List.length_cons, List.length_nil, List.nil_append, List.length_append]; omega) (vn_Tm us [(.mk z1k z1i z1n z1l z1s : Tm)])) fun o3 cp3 => ?_
                refine al_step rfl rfl (aop_assign rfl) ?_
                refine al_end rfl ?_
                refine awp_region ?_
                refine al_step rfl rfl (aop_move rfl) ?_
                refine al_step rfl rfl (aop_add rfl rfl (by omega) (by omega)) ?_
                refine al_step rfl rfl (aop_assign rfl) ?_
                refine al_end rfl ?_
                refine ⟨⟨j + 1, us ++ [(fillW ms n ab f x).1], (fillW ms n ab f x).2.2, o3, cp3⟩, (by first | omega | (simp only; omega)), ⟨by omega, ⟨(joinL_ok hx (by omega)).trans hD, by simp; omega⟩⟩, le_mkW ⟨we rfl, we rfl, we rfl, we rfl, we rfl, we (vsE_Tm (us ++ [(.mk z1k z1i z1n z1l z1s : Tm)]) (by rw [hz1])), we rfl, we rfl, trivial⟩ (leH (is := [1, 2, 3, 4]) rfl (wl (ovE_Tm (us ++ [(.mk z1k z1i z1n z1l z1s : Tm)]) (by rw [hz1])) (wl (oe rfl) (wl (oe rfl) (wl (oe rfl) (wl0))))))⟩
            · have c5R := c5
              (try simp only [sd, se] at c5)
              have hr : fillL (fillW ms n ab) (q.2.2.form q.1 0) (spine t).2 = (us, 0, f) := joinL_done hD (by omega)
              have hra := fillL_args h7 h5 hsn.2 hsw.2 (s := size t) (by omega) h6 hr
              refine awp_exit ?_
              refine awp_seq ?_
              refine awp_block ?_
              refine awp_ghost (ghost_freeze (i := 0) [12] rfl (memall ⟨rfl, trivial⟩)) ?_
              refine awp_while (α := Tm × List Tm × Cnt) (fun (vv, ls, g) => ⟨210, mk [(3, .ptr b 0), (8, .ptr b8 0), (12, .p (.lst (encTs ls))), (21, .ptr b21 0)], [.box b21 ((encT vv).map .p), .box b8 [.p (I 0), .p (I 0), .p (.str ⟨#[]⟩), .p (.nils), .p (.nils)], .box b ((encC g).map .p)], []⟩) (fun (vv, ls, g) => ls.length) (fun (vv, ls, g) => betaW g vv ls = betaW f q.1 us ∧ Nd vv ∧ Wt vv ∧ Nds ls ∧ Wts ls ∧ size vv < 1152921504606846976 ∧ sizes ls < 1152921504606846976 ∧ ls.length < 1099511627776) ⟨q.1, us, f⟩ (⟨rfl, hvf.1, hvf.2.1, hra.1, hra.2.1, hvf.2.2, hra.2.2.1, by have := hra.2.2.2; omega⟩) ?_ ?_
              · exact le_mkW ⟨we rfl, we rfl, we rfl, we rfl, trivial⟩ (leH (is := [0, 1, 2]) rfl (wl (oe rfl) (wl (oe rfl) (wl (oe rfl) (wl0)))))
              rintro ⟨vv, ls, g⟩ hC2
              try simp only at hC2
              obtain ⟨hB, hv1, hv2, hl1, hl2, hs1, hs2, hs3⟩ := hC2
              refine awp_seq ?_
              refine awp_seq ?_
              obtain ⟨vvk, vvi, vvn, vvl, vvs⟩ := vv
              have hvl : vvk = 5 → vvs.length = 2 := fun e => by have := hv2.1; rw [e] at this; simp [arity] at this; omega
              simp only [size] at hs1
              refine awp_meetR [3, 8, 12, 21] 192 (fun y => y = .p (.bool (((decide (((ls.length : Nat) : Int) > (0 : Int))) && ((vvk : Int) == (5 : Int))) && (!g.over)))) ?_ ?_
              · refine awp_region ?_
                refine al_step rfl rfl (aop_move rfl) ?_
                refine al_step rfl rfl (aop_lenE el24 rfl (encTs_len _)) ?_
                refine al_step rfl rfl (aop_cmp rfl rfl rfl) ?_
                refine al_step rfl rfl (aop_move rfl) ?_
                refine al_case 181 rfl (fun g1 => ?_) (fun g1 => ?_)
                · (try simp only [sd, se] at g1)
                  refine al_stepg rfl rfl rfl rfl (aop_field_ptr fd26 rfl rfl) ?_
                  refine al_stepg rfl rfl rfl rfl (aop_load_box1 (i := 0) ty3 rfl rfl rfl) ?_
                  refine al_stepg rfl rfl rfl rfl (aop_cmp rfl rfl rfl) ?_
                  refine al_step rfl rfl (aop_pick rfl rfl) ?_
                  refine al_step rfl rfl (aop_move rfl) ?_
                  refine al_case 186 rfl (fun g2 => ?_) (fun g2 => ?_)
                  · (try simp only [sd, se] at g2)
                    refine al_stepg rfl rfl rfl rfl (aop_move rfl) ?_
                    refine al_stepg rfl rfl rfl rfl (aop_nilCheck rfl) ?_
                    refine al_stepg rfl rfl rfl rfl (aop_field_ptr fd40 rfl rfl) ?_
                    refine al_stepg rfl rfl rfl rfl (aop_load_box1 (i := 2) ty4 rfl rfl rfl) ?_
                    refine al_stepg rfl rfl rfl rfl (aop_not rfl) ?_
                    refine al_step rfl rfl (aop_pick rfl rfl) ?_
                    refine al_end rfl ?_
                    exact ⟨rfl, rfl, (by first | exact List.Sublist.refl _ | exact List.sublist_cons_self _ _), (by first | rfl | (refine pB ?_; simp_all; done) | (refine pB ?_; simp_all <;> (intros; omega))), ⟨rfl, rfl, rfl, rfl, trivial⟩⟩
                  · (try simp only [sd, se] at g2)
                    refine al_pass rfl rfl rfl rfl rfl ?_
                    refine al_pass rfl rfl rfl rfl rfl ?_
                    refine al_pass rfl rfl rfl rfl rfl ?_
                    refine al_pass rfl rfl rfl rfl rfl ?_
                    refine al_pass rfl rfl rfl rfl rfl ?_
                    refine al_step rfl rfl (aop_pick rfl rfl) ?_
                    refine al_end rfl ?_
                    exact ⟨rfl, rfl, (by first | exact List.Sublist.refl _ | exact List.sublist_cons_self _ _), (by first | rfl | (refine pB ?_; simp_all; done) | (refine pB ?_; simp_all <;> (intros; omega))), ⟨rfl, rfl, rfl, rfl, trivial⟩⟩
                · (try simp only [sd, se] at g1)
                  refine al_pass rfl rfl rfl rfl rfl ?_
                  refine al_pass rfl rfl rfl rfl rfl ?_
                  refine al_pass rfl rfl rfl rfl rfl ?_
                  refine al_step rfl rfl (aop_pick rfl rfl) ?_
                  refine al_step rfl rfl (aop_move rfl) ?_
                  refine al_pass rfl rfl rfl rfl rfl ?_
                  refine al_pass rfl rfl rfl rfl rfl ?_
                  refine al_pass rfl rfl rfl rfl rfl ?_
                  refine al_pass rfl rfl rfl rfl rfl ?_
                  refine al_pass rfl rfl rfl rfl rfl ?_
                  refine al_step rfl rfl (aop_pick rfl rfl) ?_
                  refine al_end rfl ?_
                  exact ⟨rfl, rfl, (by first | exact List.Sublist.refl _ | exact List.sublist_cons_self _ _), (by first | rfl | (refine pB ?_; simp_all; done) | (refine pB ?_; simp_all <;> (intros; omega))), ⟨rfl, rfl, rfl, rfl, trivial⟩⟩
              rintro _ rfl
              refine awp_cond rfl (fun c6 => ?_) (fun c6 => ?_)
              · have c6R := c6
                (try simp only [sd, se] at c6)
                refine awp_skip ?_
                refine awp_block ?_
                refine awp_seq ?_
                refine awp_dr (fun k => false) mx0 ?_
                refine dr_free rfl rfl (fun _ => aop_move rfl) trivial ?_
                refine dr_free rfl rfl (fun _ => aop_field_ptr fd26 rfl rfl) trivial ?_
                refine dr_read (j := 0) rfl rfl rfl (fun H i hi => aop_load_box1 (i := i) ty24 rfl hi rfl) (by repeat' first | exact trivial | refine And.intro ?_ ?_ | ((refine Or.inr (And.intro ?_ ?_) <;> repeat (first | exact List.Mem.head _ | apply List.Mem.tail)); done) | exact Or.inl (by kernel_rfl)) trivial ?_
                obtain ⟨x, hx⟩ := getElem?_of_lt (l := vvs) (i := 1) (by omega)
                refine dr_free rfl rfl (fun _ => aop_index_lst el24 rfl rfl (by omega) (encTs_get hx) (encT_len _)) trivial ?_
                refine dr_free rfl rfl (fun _ => aop_load_ref ty26 rfl (encT_len _)) trivial ?_
                refine dr_free rfl rfl (fun _ => aop_move rfl) trivial ?_
                refine dr_free rfl rfl (fun _ => aop_slice2 (lo := 0) (hi := 1) el24 rfl (lens_of (solid_Tm _)) rfl ⟨_, rfl⟩ (Nat.zero_le _) (by simp only [encTs_len, List.length_map]; omega) (vt_Tm ls 1)) trivial ?_
                refine dr_eff rfl rfl (aop_retn [2] rfl (.inl ⟨rfl, rfl, rfl⟩) (csubst_c b (Cnt.mk g.steps g.nodes g.forms g.limit g.over) x (ls.take 1) (by have := size_mem hx; omega) (Nds_mem (kids_ok hv1 hv2).1 hx) (Nds_take hl1 1) (by have := sizes_le (ts := ls) 1; omega)) ⟨_, _, rfl, rfl, rfl⟩ (by decide) rfl (.inl rfl)) (by repeat' first | exact trivial | refine And.intro ?_ ?_ | ((refine Or.inr (And.intro ?_ ?_) <;> repeat (first | exact List.Mem.head _ | apply List.Mem.tail)); done) | exact Or.inl (by kernel_rfl)) trivial ?_
                refine dr_eff rfl rfl (aop_store_whole (i := 0) ty26 rfl rfl rfl (by simp [encT_len]) (by first | rfl | simp [encT_len]) (one_Tm _)) (by repeat' first | exact trivial | refine And.intro ?_ ?_ | ((refine Or.inr (And.intro ?_ ?_) <;> repeat (first | exact List.Mem.head _ | apply List.Mem.tail)); done) | exact Or.inl (by kernel_rfl)) trivial ?_
                refine dr_end rfl (by kernel_rfl) ?_
                refine awp_region ?_
                refine al_step rfl rfl (aop_move rfl) ?_
                refine al_step rfl rfl (aop_slice2 (lo := 1) el24 rfl (lens_of (solid_Tm _)) ⟨_, rfl⟩ rfl (by simp only [encTs_len, List.length_map]; omega) (Nat.le_refl _) (vd_Tm ls 1)) ?_
                refine al_step rfl rfl (aop_assign rfl) ?_
                refine al_end rfl ?_
                refine ⟨⟨(underW x (ls.take 1) 0).1, ls.drop 1, g.form (underW x (ls.take 1) 0).1 (underW x (ls.take 1) 0).2⟩, (by simp; omega), ⟨(betaW_step (v := .mk vvk vvi vvn vvl vvs) (by omega) c6.1.2 c6.2 hx).trans hB, (by have hbi := beta_inv hv1 hv2 hl1 hl2 hs2 hx; exact ⟨hbi.1, hbi.2.1, hbi.2.2.1, hbi.2.2.2.1, hbi.2.2.2.2.1, hbi.2.2.2.2.2, by simp; omega⟩)⟩, le_mkW ⟨we rfl, we rfl, we rfl, we rfl, trivial⟩ (leH (is := [0, 1, 2]) rfl (wl (oe rfl) (wl (oe rfl) (wl (oe rfl) (wl0)))))⟩
              · have c6R := c6
                (try simp only [sd, se] at c6)
                refine awp_exit ?_
                refine awp_seq ?_
                refine awp_region ?_
                refine al_step rfl rfl (aop_load_box (i := 0) ty26 rfl rfl rfl) ?_
                refine al_step rfl rfl (aop_move rfl) ?_
                refine al_step rfl rfl (aop_fun rfl rfl (applyR_c (.mk vvk vvi vvn vvl vvs : Tm) ls (by simp only [big]; omega)) rfl) ?_
                refine al_step rfl rfl (aop_store_whole (i := 0) ty26 rfl rfl rfl (by simp [encT_len]) (by first | rfl | simp [encT_len]) (one_Tm _)) ?_
                refine al_end rfl ?_
                refine awp_seq ?_
                refine awp_region ?_
                refine al_step rfl rfl (aop_move rfl) ?_
                refine al_step rfl rfl (aop_load_box (i := 0) ty26 rfl rfl (by simp [encT_len])) ?_
                refine al_step rfl rfl (aop_retn [2] rfl (.inl ⟨rfl, rfl, rfl⟩) (formC_c b (Cnt.mk g.steps g.nodes g.forms g.limit g.over) (apply (.mk vvk vvi vvn vvl vvs : Tm) ls) 0 (apply_nd hv1 hl1)) ⟨_, _, rfl, rfl, rfl⟩ (by decide) rfl (.inl rfl)) ?_
                refine al_end rfl ?_
                refine awp_seq ?_
                refine awp_region ?_
                refine al_step rfl rfl (aop_load_box (i := 0) ty26 rfl rfl (by simp [encT_len])) ?_
                refine al_step rfl rfl (aop_store_whole (i := 1) ty26 rfl rfl rfl (by simp [encT_len]) (by first | rfl | simp [encT_len]) (one_Tm _)) ?_
                refine al_step rfl rfl (aop_assign rfl) ?_
                refine al_end rfl ?_
                refine awp_ret ?_
                refine ⟨rfl, _, _, ⟨_, _, rfl, (resv_row (i := 1) ty26 rfl rfl (by simp [encT_len])), ⟨_, _, rfl, rfl, rfl⟩⟩, (subl (is := [2]) rfl), ?_⟩
                rw [fillW_v3 hov hz hk hin hu hq0 hr (hB.symm.trans (betaW_stop (fun a b => by simp only [Tm.kind] at b; simpa [a, b] using c6R)))]
                all_goals exact ⟨rfl, rfl⟩

end Go.Proofs.YtgfecpjmbgcobaaGreat
/- Contracts of functions of the program. -/
namespace Go.Proofs.YtgfecpjmbgcobaaGreat
open Go.Abs Go.Eu
set_option linter.unusedVariables false
set_option linter.unusedSimpArgs false
set_option maxRecDepth 100000
end Go.Proofs.YtgfecpjmbgcobaaGreat
