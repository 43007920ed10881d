/- Part of the proofs about metavariables: an abstract program logic, plain models and contracts of functions. -/
import Derived.Test.YtgfecpjmbgcobaaPl
import Derived.Test.YtgfecpjmbgcobaaPf
/- Contracts of functions of the program. -/
namespace Go.Proofs.Ytgfecpjmbgcobaa
open Go.Abs Go.Eu
set_option linter.unusedVariables false
set_option linter.unusedSimpArgs false
set_option maxRecDepth 100000
theorem metasR_c : ∀ (n : Nat) (t : Tm) (l : List Int) (o0 : Option Nat) (c0 : Nat), (size t ≤ n) → (Nd t) → (l.length + size t < big) → ACalls Try.prog 42 [.vs o0 (List.map encI l).length c0, .agg ((encT t).map .p)] [.vec o0 1 (List.map encI l) c0] (ownV (fun v => v) 1 (List.map encI (metasW l t))) := by
  intro n
  induction n with
  | zero => intro t l o0 c0 h; cases t; simp [size] at h
  | succ n ih =>
    intro t l o0 c0 h1 h2 h3
    simp only [big] at h3
    obtain ⟨tk, ti, tn, tl, ts⟩ := t
    simp only [size] at h1 h3
    simp only [Nd, big] at h2
    have hks := len_le_sizes ts
    refine acalls_of_awp Try.func42 rfl en42 (n := 44) rfl rfl ?_
    refine awp_seq ?_
    refine awp_region ?_
    refine al_new rfl rfl (aop_box rfl) fun b3 => ?_
    refine al_step rfl rfl (aop_assign rfl) ?_
    refine al_end rfl ?_
    refine awp_seq ?_
    refine awp_seq ?_
    refine awp_region ?_
    refine al_step rfl rfl (aop_field_ptr fd26 rfl rfl) ?_
    refine al_step rfl rfl (aop_load_box1 (i := 0) ty3 rfl rfl rfl) ?_
    refine al_step rfl rfl (aop_cmp rfl rfl rfl) ?_
    refine al_end rfl ?_
    refine awp_cond rfl (fun c => ?_) (fun c => ?_)
    · (try simp only [sd, se] at c)
      refine awp_seq ?_
      refine awp_seq ?_
      refine awp_region ?_
      refine al_step rfl rfl (aop_assign rfl) ?_
      refine al_end rfl ?_
      refine awp_block ?_
      refine awp_while (α := Nat) (fun i => ⟨44, mk [(0, .vs o0 (List.map encI l).length c0), (3, .ptr b3 0), (5, .p (I (i : Int)))], [.box b3 [.p (I tk), .p (I ti), .p (.str tn), .p (.lst (List.map encL tl)), .p (.lst (encTs ts))], .vec o0 1 (List.map encI l) c0], []⟩) (fun i => l.length - i) (fun i => i ≤ l.length ∧ (ti ∉ l.take i)) 0 (by simp) ?_ ?_
      · exact le_mkW ⟨we rfl, we rfl, we rfl, trivial⟩ (leH (is := [0, 1]) rfl (wl (oe rfl) (wl (oe rfl) (wl0))))
      rintro i hC
      try simp only at hC
      obtain ⟨hi, hC⟩ := hC
      refine awp_seq ?_
      refine awp_seq ?_
      refine awp_region ?_
      refine al_step rfl rfl (aop_move rfl) ?_
      refine al_step rfl rfl (aop_move rfl) ?_
      refine al_step rfl rfl (aop_lenV el35 rfl (List.length_map _)) ?_
      refine al_step rfl rfl (aop_cmp rfl rfl rfl) ?_
      refine al_end rfl ?_
      refine awp_cond rfl (fun c1 => ?_) (fun c1 => ?_)
      · (try simp only [sd, se] at c1)
        refine awp_skip ?_
        refine awp_seq ?_
        refine awp_block ?_
        refine awp_seq ?_
        refine awp_some (i := 1) rfl (by simp [encTs_len]; omega) fun b hb => ?_
        subst hb
        refine awp_dr (fun k => false) mx0 ?_
        refine dr_free rfl rfl (fun _ => aop_move rfl) trivial ?_
        refine dr_free rfl rfl (fun _ => aop_move rfl) trivial ?_
        refine dr_free rfl rfl (fun _ => aop_index_vs el35 rfl rfl (by omega) (by first | (simp only [List.length_map, encTs_len]; omega) | (simp_all; done) | (simp_all; omega))) trivial ?_
        obtain ⟨y, hy⟩ := getElem?_of_lt (l := l) (i := i) (by first | omega | (simp_all; done) | (simp_all; omega))
        refine dr_read (j := 1) rfl rfl rfl (fun H i hi => aop_load_vec1 (i := i) ty3 rfl hi (encI_get hy)) (by repeat' first | exact trivial | refine And.intro ?_ ?_ | ((refine Or.inr (And.intro ?_ ?_) <;> repeat (first | exact List.Mem.head _ | apply List.Mem.tail)); done) | exact Or.inl (by kernel_rfl)) trivial ?_
        refine dr_free rfl rfl (fun _ => aop_field_ptr fd26 rfl rfl) trivial ?_
        refine dr_read (j := 0) rfl rfl rfl (fun H i hi => aop_load_box1 (i := i) ty3 rfl hi rfl) (by repeat' first | exact trivial | refine And.intro ?_ ?_ | ((refine Or.inr (And.intro ?_ ?_) <;> repeat (first | exact List.Mem.head _ | apply List.Mem.tail)); done) | exact Or.inl (by kernel_rfl)) trivial ?_
        refine dr_free rfl rfl (fun _ => aop_cmp rfl rfl rfl) trivial ?_
        refine dr_end rfl (by kernel_rfl) ?_
        refine awp_cond rfl (fun c2 => ?_) (fun c2 => ?_)
        · (try simp only [sd, se] at c2)
          refine awp_seq ?_
          refine awp_region ?_
          refine al_step rfl rfl (aop_move rfl) ?_
          refine al_step rfl rfl (aop_assign rfl) ?_
          refine al_end rfl ?_
          refine awp_ret ?_
          refine ⟨rfl, _, _, ⟨_, _, rfl, rfl, rfl⟩, (subl (is := [1]) rfl), ?_⟩
          rw [metasW, if_pos c, if_pos (by rw [← c2]; exact List.mem_of_getElem? hy)]
          all_goals exact ⟨_, _, rfl, rfl⟩
        · (try simp only [sd, se] at c2)
          refine awp_skip ?_
          refine awp_region ?_
          refine al_step rfl rfl (aop_move rfl) ?_
          refine al_step rfl rfl (aop_add rfl rfl (by omega) (by omega)) ?_
          refine al_step rfl rfl (aop_assign rfl) ?_
          refine al_end rfl ?_
          refine ⟨(i + 1), (by first | omega | (simp only; omega)), ⟨by omega, not_take_succ hC hy c2⟩, le_mkW ⟨we rfl, we rfl, we rfl, trivial⟩ (leH (is := [0, 1]) rfl (wl (oe rfl) (wl (oe rfl) (wl0))))⟩
      · (try simp only [sd, se] at c1)
        refine awp_exit ?_
        refine awp_region ?_
        refine al_step rfl rfl (aop_move rfl) ?_
        refine al_step rfl rfl (aop_field_ptr fd26 rfl rfl) ?_
        refine al_step rfl rfl (aop_load_box1 (i := 0) ty3 rfl rfl rfl) ?_
        refine al_step rfl rfl (aop_buildSlice el35 zr3 rfl rfl rfl rfl rfl) ?_
        refine al_app rfl rfl (aop_append2 (i := 1) (rows' := List.map encI [ti]) el35 el35 zr3 rfl rfl rfl rfl rfl rfl (solid_Int _) (by simp only [encTs_len, List.length_map, List.length_cons, List.length_nil, List.nil_append, List.length_append]; omega) (vn_map (f := encI) l [ti])) fun o cp => ?_
        refine al_step rfl rfl (aop_assign rfl) ?_
        refine al_end rfl ?_
        refine awp_seq ?_
        refine awp_seq ?_
        refine awp_region ?_
        refine al_step rfl rfl (aop_assign rfl) ?_
        refine al_end rfl ?_
        refine awp_block ?_
        refine awp_while (α := Nat × List Int × Option Nat × Nat) (fun (j, m, o1, cp1) => ⟨44, mk [(0, .vs o1 (List.map encI m).length cp1), (3, .ptr b3 0), (6, .p (I (j : Int)))], [.box b3 [.p (I tk), .p (I ti), .p (.str tn), .p (.lst (List.map encL tl)), .p (.lst (encTs ts))], .vec o1 1 (List.map encI m) cp1], []⟩) (fun (j, m, o1, cp1) => ts.length - j) (fun (j, m, o1, cp1) => j ≤ ts.length ∧ (metassW m (ts.drop j) = metassW (l ++ [ti]) ts ∧ m.length ≤ l.length + 1 + sizes (ts.take j))) ⟨0, l ++ [ti], o, cp⟩ (by simp) ?_ ?_
        · exact le_mkW ⟨we rfl, we rfl, we rfl, trivial⟩ (leH (is := [0, 1]) rfl (wl (oe rfl) (wl (oe rfl) (wl0))))
        rintro ⟨j, m, o1, cp1⟩ hC1
        try simp only at hC1
        obtain ⟨hi, hD, hm⟩ := hC1
        refine awp_seq ?_
        refine awp_seq ?_
        refine awp_region ?_
        refine al_step rfl rfl (aop_move rfl) ?_
        refine al_step rfl rfl (aop_field_ptr fd26 rfl rfl) ?_
        refine al_step rfl rfl (aop_load_box1 (i := 0) ty24 rfl rfl rfl) ?_
        refine al_step rfl rfl (aop_lenE el24 rfl (encTs_len _)) ?_
        refine al_step rfl rfl (aop_cmp rfl rfl rfl) ?_
        refine al_end rfl ?_
        refine awp_cond rfl (fun c2 => ?_) (fun c2 => ?_)
        · (try simp only [sd, se] at c2)
          refine awp_skip ?_
          refine awp_seq ?_
          refine awp_block ?_
          refine awp_region ?_
          refine al_step rfl rfl (aop_move rfl) ?_
          refine al_step rfl rfl (aop_field_ptr fd26 rfl rfl) ?_
          refine al_step rfl rfl (aop_load_box1 (i := 0) ty24 rfl rfl rfl) ?_
          refine al_step rfl rfl (aop_move rfl) ?_
          obtain ⟨x, hx⟩ := getElem?_of_lt (l := ts) (i := j) (by omega)
          refine al_step rfl rfl (aop_index_lst el24 rfl rfl (by omega) (encTs_get hx) (encT_len _)) ?_
          refine al_step rfl rfl (aop_load_ref ty26 rfl (encT_len _)) ?_
          refine al_ownI 1 rfl rfl rfl (.inl ⟨rfl, rfl, rfl⟩) (ih x m o1 cp1 (by have := size_mem hx; omega) (Nds_mem h2.2.2.2.2.1 hx) (by have := size_mem hx; have h9 := take_add_le hx; simp only [big]; omega)) rfl (aw (we rfl) (aw (we rfl) (aw0))) fun o2 cp2 => ?_
          refine al_step rfl rfl (aop_assign rfl) ?_
          refine al_end rfl ?_
          refine awp_region ?_
          refine al_step rfl rfl (aop_move rfl) ?_
          refine al_step rfl rfl (aop_add rfl rfl (by omega) (by omega)) ?_
          refine al_step rfl rfl (aop_assign rfl) ?_
          refine al_end rfl ?_
          refine ⟨⟨j + 1, metasW m x, o2, cp2⟩, (by first | omega | (simp only; omega)), ⟨by omega, ⟨by rw [← hD, drop_at hx]; rfl, by have := metasW_len x m; have := sizes_take hx; omega⟩⟩, le_mkW ⟨we rfl, we rfl, we rfl, trivial⟩ (leH (is := [0, 1]) rfl (wl (oe rfl) (wl (oe rfl) (wl0))))⟩
        · (try simp only [sd, se] at c2)
          refine awp_exit ?_
          refine awp_seq ?_
          refine awp_region ?_
          refine al_step rfl rfl (aop_move rfl) ?_
          refine al_step rfl rfl (aop_assign rfl) ?_
          refine al_end rfl ?_
          refine awp_ret ?_
          refine ⟨rfl, _, _, ⟨_, _, rfl, rfl, rfl⟩, (subl (is := [1]) rfl), ?_⟩
          rw [metasW, if_pos c, if_neg (by rw [show i = l.length by omega, List.take_length] at hC; exact hC), ← hD, show j = ts.length by omega, List.drop_length]
          all_goals exact ⟨_, _, rfl, rfl⟩
    · (try simp only [sd, se] at c)
      refine awp_skip ?_
      refine awp_seq ?_
      refine awp_seq ?_
      refine awp_region ?_
      refine al_step rfl rfl (aop_assign rfl) ?_
      refine al_end rfl ?_
      refine awp_block ?_
      refine awp_while (α := Nat × List Int × Option Nat × Nat) (fun (i, m, o, cp) => ⟨44, mk [(0, .vs o (List.map encI m).length cp), (3, .ptr b3 0), (6, .p (I (i : Int)))], [.box b3 [.p (I tk), .p (I ti), .p (.str tn), .p (.lst (List.map encL tl)), .p (.lst (encTs ts))], .vec o 1 (List.map encI m) cp], []⟩) (fun (i, m, o, cp) => ts.length - i) (fun (i, m, o, cp) => i ≤ ts.length ∧ (metassW m (ts.drop i) = metassW l ts ∧ m.length ≤ l.length + sizes (ts.take i))) ⟨0, l, o0, c0⟩ (by simp) ?_ ?_
      · exact le_mkW ⟨we rfl, we rfl, we rfl, trivial⟩ (leH (is := [0, 1]) rfl (wl (oe rfl) (wl (oe rfl) (wl0))))
      rintro ⟨i, m, o, cp⟩ hC
      try simp only at hC
      obtain ⟨hi, hC, hm⟩ := hC
      refine awp_seq ?_
      refine awp_seq ?_
      refine awp_region ?_
      refine al_step rfl rfl (aop_move rfl) ?_
      refine al_step rfl rfl (aop_field_ptr fd26 rfl rfl) ?_
      refine al_step rfl rfl (aop_load_box1 (i := 0) ty24 rfl rfl rfl) ?_
      refine al_step rfl rfl (aop_lenE el24 rfl (encTs_len _)) ?_
      refine al_step rfl rfl (aop_cmp rfl rfl rfl) ?_
      refine al_end rfl ?_
      refine awp_cond rfl (fun c1 => ?_) (fun c1 => ?_)
      · (try simp only [sd, se] at c1)
        refine awp_skip ?_
        refine awp_seq ?_
        refine awp_block ?_
        refine awp_region ?_
        refine al_step rfl rfl (aop_move rfl) ?_
        refine al_step rfl rfl (aop_field_ptr fd26 rfl rfl) ?_
        refine al_step rfl rfl (aop_load_box1 (i := 0) ty24 rfl rfl rfl) ?_
        refine al_step rfl rfl (aop_move rfl) ?_
        obtain ⟨x, hx⟩ := getElem?_of_lt (l := ts) (i := i) (by omega)
        refine al_step rfl rfl (aop_index_lst el24 rfl rfl (by omega) (encTs_get hx) (encT_len _)) ?_
        refine al_step rfl rfl (aop_load_ref ty26 rfl (encT_len _)) ?_
        refine al_ownI 1 rfl rfl rfl (.inl ⟨rfl, rfl, rfl⟩) (ih x m o cp (by have := size_mem hx; omega) (Nds_mem h2.2.2.2.2.1 hx) (by have := size_mem hx; have h9 := take_add_le hx; simp only [big]; omega)) rfl (aw (we rfl) (aw (we rfl) (aw0))) fun o1 cp1 => ?_
        refine al_step rfl rfl (aop_assign rfl) ?_
        refine al_end rfl ?_
        refine awp_region ?_
        refine al_step rfl rfl (aop_move rfl) ?_
        refine al_step rfl rfl (aop_add rfl rfl (by omega) (by omega)) ?_
        refine al_step rfl rfl (aop_assign rfl) ?_
        refine al_end rfl ?_
        refine ⟨⟨i + 1, metasW m x, o1, cp1⟩, (by first | omega | (simp only; omega)), ⟨by omega, ⟨by rw [← hC, drop_at hx]; rfl, by have := metasW_len x m; have := sizes_take hx; omega⟩⟩, le_mkW ⟨we rfl, we rfl, we rfl, trivial⟩ (leH (is := [0, 1]) rfl (wl (oe rfl) (wl (oe rfl) (wl0))))⟩
      · (try simp only [sd, se] at c1)
        refine awp_exit ?_
        refine awp_seq ?_
        refine awp_region ?_
        refine al_step rfl rfl (aop_move rfl) ?_
        refine al_step rfl rfl (aop_assign rfl) ?_
        refine al_end rfl ?_
        refine awp_ret ?_
        refine ⟨rfl, _, _, ⟨_, _, rfl, rfl, rfl⟩, (subl (is := [1]) rfl), ?_⟩
        rw [metasW, if_neg c, ← hC, show i = ts.length by omega, List.drop_length]
        all_goals exact ⟨_, _, rfl, rfl⟩

theorem metasT_c : ∀ (t : Tm), (Nd t) → (size t < big) → Fun Try.prog 19 [.agg ((encT t).map .p)] (.p (.lst (List.map encI (metasW [] t)))) := by
  intro t h1 h2
  refine acalls_of_awp Try.func19 rfl en19 (n := 5) rfl rfl ?_
  refine awp_seq ?_
  refine awp_region ?_
  refine al_new rfl rfl (aop_box rfl) fun b1 => ?_
  refine al_step rfl rfl (aop_assign rfl) ?_
  refine al_end rfl ?_
  refine awp_seq ?_
  refine awp_region ?_
  refine al_step rfl rfl (aop_load_box (i := 0) ty26 rfl rfl (by simp [encT_len])) ?_
  refine al_ghost (ghost_vec0 (sz := 1)) ?_
  refine al_ownI 0 rfl rfl rfl (.inl ⟨rfl, rfl, rfl⟩) (metasR_c _ t [] none 0 (Nat.le_refl _) h1 (by simpa using h2)) rfl (aw (weak_nil0) (aw (we rfl) (aw0))) fun o cp => ?_
  refine al_step rfl rfl (aop_assign rfl) ?_
  refine al_end rfl ?_
  refine awp_ghost (ghost_freeze (i := 0) [2, 4] rfl (memall ⟨rfl, rfl, trivial⟩)) ?_
  refine awp_ret ?_
  refine ⟨rfl, _, _, ⟨_, _, rfl, rfl, rfl⟩, (List.nil_sublist _), ?_⟩
  all_goals exact ⟨rfl, rfl⟩

theorem inR_c : ∀ (l : List Int) (n : Int), (l.length < big) → Fun Try.prog 55 [.p (.lst (List.map encI l)), .p (I n)] (.p (.bool (inB l n))) := by
  intro l n h1
  simp only [big] at h1
  refine acalls_of_awp Try.func55 rfl en55 (n := 18) rfl rfl ?_
  refine awp_seq ?_
  refine awp_region ?_
  refine al_step rfl rfl (aop_assign rfl) ?_
  refine al_end rfl ?_
  refine awp_seq ?_
  refine awp_seq ?_
  refine awp_region ?_
  refine al_step rfl rfl (aop_assign rfl) ?_
  refine al_end rfl ?_
  refine awp_block ?_
  refine awp_while (α := Nat) (fun i => ⟨18, mk [(0, .p (.lst (List.map encI l))), (1, .p (I n)), (5, .p (I (i : Int)))], [], []⟩) (fun i => l.length - i) (fun i => i ≤ l.length ∧ (n ∉ l.take i)) 0 (by simp) ?_ ?_
  · exact le_mkW ⟨we rfl, we rfl, we rfl, trivial⟩ (leH (is := []) rfl (wl0))
  rintro i hC
  try simp only at hC
  obtain ⟨hi, hC⟩ := hC
  refine awp_seq ?_
  refine awp_seq ?_
  refine awp_region ?_
  refine al_step rfl rfl (aop_move rfl) ?_
  refine al_step rfl rfl (aop_move rfl) ?_
  refine al_step rfl rfl (aop_lenE el35 rfl (List.length_map _)) ?_
  refine al_step rfl rfl (aop_cmp rfl rfl rfl) ?_
  refine al_end rfl ?_
  refine awp_cond rfl (fun c => ?_) (fun c => ?_)
  · (try simp only [sd, se] at c)
    refine awp_skip ?_
    refine awp_seq ?_
    refine awp_block ?_
    refine awp_seq ?_
    refine awp_region ?_
    refine al_step rfl rfl (aop_move rfl) ?_
    refine al_step rfl rfl (aop_move rfl) ?_
    obtain ⟨x, hx⟩ := getElem?_of_lt (l := l) (i := i) (by omega)
    refine al_step rfl rfl (aop_index_lst el35 rfl rfl (by omega) (encI_get hx) (rfl)) ?_
    refine al_step rfl rfl (aop_load_ref1 ty3 rfl) ?_
    refine al_step rfl rfl (aop_move rfl) ?_
    refine al_step rfl rfl (aop_cmp rfl rfl rfl) ?_
    refine al_end rfl ?_
    refine awp_cond rfl (fun c1 => ?_) (fun c1 => ?_)
    · (try simp only [sd, se] at c1)
      refine awp_seq ?_
      refine awp_region ?_
      refine al_step rfl rfl (aop_assign rfl) ?_
      refine al_end rfl ?_
      refine awp_ret ?_
      refine ⟨rfl, _, _, ⟨_, _, rfl, rfl, rfl⟩, (List.nil_sublist _), ?_⟩
      all_goals exact ⟨by show (.p (.bool true) : AV) = _; rw [inB, decide_eq_true]; rw [← c1]; exact List.mem_of_getElem? hx, rfl⟩
    · (try simp only [sd, se] at c1)
      refine awp_skip ?_
      refine awp_region ?_
      refine al_step rfl rfl (aop_move rfl) ?_
      refine al_step rfl rfl (aop_add rfl rfl (by omega) (by omega)) ?_
      refine al_step rfl rfl (aop_assign rfl) ?_
      refine al_end rfl ?_
      refine ⟨(i + 1), (by first | omega | (simp only; omega)), ⟨by omega, not_take_succ hC hx c1⟩, le_mkW ⟨we rfl, we rfl, we rfl, trivial⟩ (leH (is := []) rfl (wl0))⟩
  · (try simp only [sd, se] at c)
    refine awp_exit ?_
    refine awp_seq ?_
    refine awp_region ?_
    refine al_step rfl rfl (aop_assign rfl) ?_
    refine al_end rfl ?_
    refine awp_ret ?_
    refine ⟨rfl, _, _, ⟨_, _, rfl, rfl, rfl⟩, (List.nil_sublist _), ?_⟩
    all_goals exact ⟨by show (.p (.bool false) : AV) = _; rw [inB, decide_eq_false]; rw [show i = l.length by omega, List.take_length] at hC; exact hC, rfl⟩

theorem copyRo_c : ∀ (l : List Mv), (l.length < 2 ^ 38) → ACalls Try.prog 51 [.p (.lst (List.map encM l))] [] (ownV (fun v => v) 12 (List.map encM l)) := by
  intro l h1
  refine acalls_of_awp Try.func51 rfl en51 (n := 7) rfl rfl ?_
  refine awp_seq ?_
  refine awp_region ?_
  refine al_step rfl rfl (aop_assign rfl) ?_
  refine al_end rfl ?_
  refine awp_seq ?_
  refine awp_region ?_
  refine al_step rfl rfl (aop_assign rfl) ?_
  refine al_ghost (ghost_own (t := 3) (sz := 12) rfl) ?_
  refine al_end rfl ?_
  refine awp_seq ?_
  refine awp_region ?_
  refine al_step rfl rfl (aop_move rfl) ?_
  refine al_step rfl rfl (aop_move rfl) ?_
  refine al_app rfl rfl (aop_append2 (i := 0) (rows' := List.map encM l) el22 el22 zr52 rfl rfl rfl rfl rfl rfl (solid_Mv _) (by simp only [encTs_len, List.length_map, List.length_cons, List.length_nil, List.nil_append, List.length_append]; omega) (vn_map (f := encM) [] l)) fun o cp => ?_
  refine al_step rfl rfl (aop_assign rfl) ?_
  refine al_end rfl ?_
  refine awp_ret ?_
  refine ⟨rfl, _, _, ⟨_, _, rfl, rfl, rfl⟩, (subl (is := [0]) rfl), ?_⟩
  simp only [List.nil_append]
  all_goals exact ⟨_, _, rfl, rfl⟩

theorem varsRo_c : ∀ (n f : Int), (f < 2 ^ 60) → Fun Try.prog 50 [.p (I n), .p (I f)] (.p (.lst (encTs (varsW n f)))) := by
  intro n f h1
  refine acalls_of_awp Try.func50 rfl en50 (n := 31) rfl rfl ?_
  refine awp_seq ?_
  refine awp_region ?_
  refine al_step rfl rfl (aop_assign rfl) ?_
  refine al_end rfl ?_
  refine awp_seq ?_
  refine awp_seq ?_
  refine awp_meetR [0, 1] 16 (fun y => y = .p (.bool (((decide ((n : Int) < (1 : Int))) || (decide ((n : Int) > (4096 : Int)))) || (decide ((f : Int) < (0 : Int)))))) ?_ ?_
  · refine awp_region ?_
    refine al_step rfl rfl (aop_move rfl) ?_
    refine al_step rfl rfl (aop_cmp rfl rfl rfl) ?_
    refine al_step rfl rfl (aop_move rfl) ?_
    refine al_case 9 rfl (fun g => ?_) (fun g => ?_)
    · (try simp only [sd, se] at g)
      refine al_pass rfl rfl rfl rfl rfl ?_
      refine al_pass rfl rfl rfl rfl rfl ?_
      refine al_step rfl rfl (aop_pick rfl rfl) ?_
      refine al_step rfl rfl (aop_move rfl) ?_
      refine al_pass rfl rfl rfl rfl rfl ?_
      refine al_pass rfl rfl rfl rfl rfl ?_
      refine al_step rfl rfl (aop_pick rfl rfl) ?_
      refine al_end rfl ?_
      exact ⟨rfl, rfl, (by first | exact List.Sublist.refl _ | exact List.sublist_cons_self _ _), (by first | rfl | (refine pB ?_; simp_all; done) | (refine pB ?_; simp_all <;> (intros; omega))), ⟨rfl, rfl, trivial⟩⟩
    · (try simp only [sd, se] at g)
      refine al_stepg rfl rfl rfl rfl (aop_move rfl) ?_
      refine al_stepg rfl rfl rfl rfl (aop_cmp rfl rfl rfl) ?_
      refine al_step rfl rfl (aop_pick rfl rfl) ?_
      refine al_step rfl rfl (aop_move rfl) ?_
      refine al_case 13 rfl (fun g1 => ?_) (fun g1 => ?_)
      · (try simp only [sd, se] at g1)
        refine al_pass rfl rfl rfl rfl rfl ?_
        refine al_pass rfl rfl rfl rfl rfl ?_
        refine al_step rfl rfl (aop_pick rfl rfl) ?_
        refine al_end rfl ?_
        exact ⟨rfl, rfl, (by first | exact List.Sublist.refl _ | exact List.sublist_cons_self _ _), (by first | rfl | (refine pB ?_; simp_all; done) | (refine pB ?_; simp_all <;> (intros; omega))), ⟨rfl, rfl, trivial⟩⟩
      · (try simp only [sd, se] at g1)
        refine al_stepg rfl rfl rfl rfl (aop_move rfl) ?_
        refine al_stepg rfl rfl rfl rfl (aop_cmp rfl rfl rfl) ?_
        refine al_step rfl rfl (aop_pick rfl rfl) ?_
        refine al_end rfl ?_
        exact ⟨rfl, rfl, (by first | exact List.Sublist.refl _ | exact List.sublist_cons_self _ _), (by first | rfl | (refine pB ?_; simp_all; done) | (refine pB ?_; simp_all <;> (intros; omega))), ⟨rfl, rfl, trivial⟩⟩
  rintro _ rfl
  refine awp_cond rfl (fun c => ?_) (fun c => ?_)
  · (try simp only [sd, se] at c)
    refine awp_seq ?_
    refine awp_region ?_
    refine al_step rfl rfl (aop_assign rfl) ?_
    refine al_end rfl ?_
    refine awp_ghost (ghost_nslot 4) ?_
    refine awp_ret ?_
    refine ⟨rfl, _, _, ⟨_, _, rfl, rfl, rfl⟩, (List.nil_sublist _), ?_⟩
    all_goals exact ⟨by show (.p (.lst (encTs [])) : AV) = _; unfold varsW; rw [if_pos (by omega)], rfl⟩
  · (try simp only [sd, se] at c)
    refine awp_skip ?_
    refine awp_seq ?_
    refine awp_region ?_
    refine al_step rfl rfl (aop_assign rfl) ?_
    refine al_end rfl ?_
    refine awp_seq ?_
    refine awp_seq ?_
    refine awp_region ?_
    refine al_step rfl rfl (aop_move rfl) ?_
    refine al_step rfl rfl (aop_sub rfl rfl (by omega) (by omega)) ?_
    refine al_step rfl rfl (aop_assign rfl) ?_
    refine al_end rfl ?_
    refine awp_block ?_
    refine awp_ghost (ghost_own (t := 5) (sz := 5) rfl) ?_
    refine awp_while (α := Nat × Option Nat × Nat) (fun (m, o, cp) => ⟨31, mk [(1, .p (I f)), (5, .vs o (encTs (vdown f m (n.toNat - m))).length cp), (6, .p (I ((m : Int) - 1)))], [.vec o 5 (encTs (vdown f m (n.toNat - m))) cp], []⟩) (fun (m, o, cp) => m) (fun (m, o, cp) => m ≤ n.toNat) ⟨n.toNat, none, 0⟩ (by first | trivial | omega | simp | (simp; omega)) ?_ ?_
    · exact le_mkW ⟨we rfl, we (vsE_Tm [] (by simp [vdown])), we (pI (by omega)), trivial⟩ (leH (is := [0]) rfl (wl (ovE_Tm [] (by simp [vdown])) (wl0)))
    rintro ⟨m, o, cp⟩ hC
    try simp only at hC
    refine awp_seq ?_
    refine awp_seq ?_
    refine awp_region ?_
    refine al_step rfl rfl (aop_move rfl) ?_
    refine al_step rfl rfl (aop_cmp rfl rfl rfl) ?_
    refine al_end rfl ?_
    refine awp_cond rfl (fun c1 => ?_) (fun c1 => ?_)
    · (try simp only [sd, se] at c1)
      refine awp_skip ?_
      refine awp_seq ?_
      refine awp_block ?_
      refine awp_region ?_
      refine al_step rfl rfl (aop_move rfl) ?_
      refine al_step rfl rfl (aop_move rfl) ?_
      refine al_step rfl rfl (aop_move rfl) ?_
      refine al_step rfl rfl (aop_add rfl rfl (by omega) (by omega)) ?_
      refine al_step rfl rfl (aop_build fd26 zr26 rfl) ?_
      refine al_step rfl rfl (aop_buildSlice el24 zr26 rfl rfl rfl rfl rfl) ?_
      refine al_app rfl rfl (aop_append2 (i := 0) (rows' := encTs ([(.mk 0 ((f : Int) + ((m : Int) - 1 : Int)) ⟨#[]⟩ [] [] : Tm)])) el24 el24 zr26 rfl rfl rfl rfl rfl rfl (solid_Tm _) (by simp only [encTs_len, vdown_len, List.length_cons, List.length_nil]; omega) (vn_Tm (vdown f m (n.toNat - m)) ([(.mk 0 ((f : Int) + ((m : Int) - 1 : Int)) ⟨#[]⟩ [] [] : Tm)]))) fun o1 cp1 => ?_
      refine al_step rfl rfl (aop_assign rfl) ?_
      refine al_end rfl ?_
      refine awp_region ?_
      refine al_step rfl rfl (aop_move rfl) ?_
      refine al_step rfl rfl (aop_sub rfl rfl (by omega) (by omega)) ?_
      refine al_step rfl rfl (aop_assign rfl) ?_
      refine al_end rfl ?_
      refine ⟨⟨m - 1, o1, cp1⟩, (by first | omega | (simp only; omega)), by first | trivial | omega | (simp only; omega) | (simp; omega), le_mkW ⟨we rfl, we (vsE_Tm (vdown f m (n.toNat - m) ++ ([(.mk 0 ((f : Int) + ((m : Int) - 1 : Int)) ⟨#[]⟩ [] [] : Tm)])) (by obtain ⟨q, rfl⟩ : ∃ q, m = q + 1 := ⟨m - 1, by omega⟩; rw [show n.toNat - (q + 1 - 1) = (n.toNat - (q + 1)) + 1 by omega, Nat.add_sub_cancel, ← vdown_snoc, show ((q + 1 : Nat) : Int) - 1 = q by omega]; rfl)), we (pI (by omega)), trivial⟩ (leH (is := [0]) rfl (wl (ovE_Tm (vdown f m (n.toNat - m) ++ ([(.mk 0 ((f : Int) + ((m : Int) - 1 : Int)) ⟨#[]⟩ [] [] : Tm)])) (by obtain ⟨q, rfl⟩ : ∃ q, m = q + 1 := ⟨m - 1, by omega⟩; rw [show n.toNat - (q + 1 - 1) = (n.toNat - (q + 1)) + 1 by omega, Nat.add_sub_cancel, ← vdown_snoc, show ((q + 1 : Nat) : Int) - 1 = q by omega]; rfl)) (wl0)))⟩
    · (try simp only [sd, se] at c1)
      refine awp_exit ?_
      refine awp_seq ?_
      refine awp_region ?_
      refine al_step rfl rfl (aop_move rfl) ?_
      refine al_step rfl rfl (aop_assign rfl) ?_
      refine al_end rfl ?_
      refine awp_ghost (ghost_freeze (i := 0) [5, 30, 4] rfl (memall ⟨rfl, rfl, rfl, trivial⟩)) ?_
      refine awp_ret ?_
      refine ⟨rfl, _, _, ⟨_, _, rfl, rfl, rfl⟩, (List.nil_sublist _), ?_⟩
      all_goals exact ⟨by show (.p (.lst (encTs (vdown f m (n.toNat - m)))) : AV) = _; unfold varsW; rw [if_neg (by omega), show m = 0 by omega]; rfl, rfl⟩

theorem sameMeta_c : ∀ (a b : Mv), (Nd a.type) → (Nd a.value) → Fun Try.prog 57 [.agg ((encM a).map .p), .agg ((encM b).map .p)] (.p (.bool (eqB a b))) := by
  intro a b h1 h2
  obtain ⟨ay, an, av, ac⟩ := a
  obtain ⟨ayk, ayi, ayn, ayl, ays⟩ := ay
  obtain ⟨avk, avi, avn, avl, avs⟩ := av
  simp only at h1 h2
  obtain ⟨by1, bn, bv, bc⟩ := b
  obtain ⟨by1k, by1i, by1n, by1l, by1s⟩ := by1
  obtain ⟨bvk, bvi, bvn, bvl, bvs⟩ := bv
  refine acalls_of_awp Try.func57 rfl en57 (n := 31) rfl rfl ?_
  refine awp_seq ?_
  refine awp_region ?_
  refine al_new rfl rfl (aop_box rfl) fun b2 => ?_
  refine al_new rfl rfl (aop_box rfl) fun b3 => ?_
  refine al_step rfl rfl (aop_assign rfl) ?_
  refine al_end rfl ?_
  refine awp_seq ?_
  refine awp_meetR [] 4 (fun y => y = .p (.bool ((((eqB (.mk ayk ayi ayn ayl ays : Tm) (.mk by1k by1i by1n by1l by1s : Tm)) && (an == bn)) && (eqB (.mk avk avi avn avl avs : Tm) (.mk bvk bvi bvn bvl bvs : Tm))) && (ac == bc)))) ?_ ?_
  · refine awp_region ?_
    refine al_step rfl rfl (aop_field_ptr fd52 rfl rfl) ?_
    refine al_step rfl rfl (aop_load_box_of (i := 1) ty26 rfl rfl rfl rfl) ?_
    refine al_step rfl rfl (aop_field_ptr fd52 rfl rfl) ?_
    refine al_step rfl rfl (aop_load_box_of (i := 0) ty26 rfl rfl rfl rfl) ?_
    refine al_step rfl rfl (aop_fun rfl rfl (same_c _ (.mk ayk ayi ayn ayl ays : Tm) (.mk by1k by1i by1n by1l by1s : Tm) (Nat.le_refl _) h1) rfl) ?_
    refine al_step rfl rfl (aop_move rfl) ?_
    refine al_case 10 rfl (fun g => ?_) (fun g => ?_)
    · (try simp only [sd, se] at g)
      refine al_stepg rfl rfl rfl rfl (aop_field_ptr fd52 rfl rfl) ?_
      refine al_stepg rfl rfl rfl rfl (aop_load_box1 (i := 1) ty4 rfl rfl rfl) ?_
      refine al_stepg rfl rfl rfl rfl (aop_field_ptr fd52 rfl rfl) ?_
      refine al_stepg rfl rfl rfl rfl (aop_load_box1 (i := 0) ty4 rfl rfl rfl) ?_
      refine al_stepg rfl rfl rfl rfl (aop_booleq un4 rfl rfl) ?_
      refine al_step rfl rfl (aop_pick rfl rfl) ?_
      refine al_step rfl rfl (aop_move rfl) ?_
      refine al_case 17 rfl (fun g1 => ?_) (fun g1 => ?_)
      · (try simp only [sd, se] at g1)
        refine al_stepg rfl rfl rfl rfl (aop_field_ptr fd52 rfl rfl) ?_
        refine al_stepg rfl rfl rfl rfl (aop_load_box_of (i := 1) ty26 rfl rfl rfl rfl) ?_
        refine al_stepg rfl rfl rfl rfl (aop_field_ptr fd52 rfl rfl) ?_
        refine al_stepg rfl rfl rfl rfl (aop_load_box_of (i := 0) ty26 rfl rfl rfl rfl) ?_
        refine al_stepg rfl rfl rfl rfl (aop_fun rfl rfl (same_c _ (.mk avk avi avn avl avs : Tm) (.mk bvk bvi bvn bvl bvs : Tm) (Nat.le_refl _) h2) rfl) ?_
        refine al_step rfl rfl (aop_pick rfl rfl) ?_
        refine al_step rfl rfl (aop_move rfl) ?_
        refine al_case 24 rfl (fun g2 => ?_) (fun g2 => ?_)
        · (try simp only [sd, se] at g2)
          refine al_stepg rfl rfl rfl rfl (aop_field_ptr fd52 rfl rfl) ?_
          refine al_stepg rfl rfl rfl rfl (aop_load_box1 (i := 1) ty4 rfl rfl rfl) ?_
          refine al_stepg rfl rfl rfl rfl (aop_field_ptr fd52 rfl rfl) ?_
          refine al_stepg rfl rfl rfl rfl (aop_load_box1 (i := 0) ty4 rfl rfl rfl) ?_
          refine al_stepg rfl rfl rfl rfl (aop_booleq un4 rfl rfl) ?_
          refine al_step rfl rfl (aop_pick rfl rfl) ?_
          refine al_step rfl rfl (aop_assign rfl) ?_
          refine al_end rfl ?_
          exact ⟨rfl, rfl, (by first | exact List.Sublist.refl _ | exact List.sublist_cons_self _ _), (by first | rfl | (refine pB ?_; simp_all; done) | (refine pB ?_; simp_all <;> (intros; omega))), trivial⟩
        · (try simp only [sd, se] at g2)
          refine al_pass rfl rfl rfl rfl rfl ?_
          refine al_pass rfl rfl rfl rfl rfl ?_
          refine al_pass rfl rfl rfl rfl rfl ?_
          refine al_pass rfl rfl rfl rfl rfl ?_
          refine al_pass rfl rfl rfl rfl rfl ?_
          refine al_step rfl rfl (aop_pick rfl rfl) ?_
          refine al_step rfl rfl (aop_assign rfl) ?_
          refine al_end rfl ?_
          exact ⟨rfl, rfl, (by first | exact List.Sublist.refl _ | exact List.sublist_cons_self _ _), (by first | rfl | (refine pB ?_; simp_all; done) | (refine pB ?_; simp_all <;> (intros; omega))), trivial⟩
      · (try simp only [sd, se] at g1)
        refine al_pass rfl rfl rfl rfl rfl ?_
        refine al_pass rfl rfl rfl rfl rfl ?_
        refine al_pass rfl rfl rfl rfl rfl ?_
        refine al_pass rfl rfl rfl rfl rfl ?_
        refine al_pass rfl rfl rfl rfl rfl ?_
        refine al_step rfl rfl (aop_pick rfl rfl) ?_
        refine al_step rfl rfl (aop_move rfl) ?_
        refine al_pass rfl rfl rfl rfl rfl ?_
        refine al_pass rfl rfl rfl rfl rfl ?_
        refine al_pass rfl rfl rfl rfl rfl ?_
        refine al_pass rfl rfl rfl rfl rfl ?_
        refine al_pass rfl rfl rfl rfl rfl ?_
        refine al_step rfl rfl (aop_pick rfl rfl) ?_
        refine al_step rfl rfl (aop_assign rfl) ?_
        refine al_end rfl ?_
        exact ⟨rfl, rfl, (by first | exact List.Sublist.refl _ | exact List.sublist_cons_self _ _), (by first | rfl | (refine pB ?_; simp_all; done) | (refine pB ?_; simp_all <;> (intros; omega))), trivial⟩
    · (try simp only [sd, se] at g)
      refine al_pass rfl rfl rfl rfl rfl ?_
      refine al_pass rfl rfl rfl rfl rfl ?_
      refine al_pass rfl rfl rfl rfl rfl ?_
      refine al_pass rfl rfl rfl rfl rfl ?_
      refine al_pass rfl rfl rfl rfl rfl ?_
      refine al_step rfl rfl (aop_pick rfl rfl) ?_
      refine al_step rfl rfl (aop_move rfl) ?_
      refine al_pass rfl rfl rfl rfl rfl ?_
      refine al_pass rfl rfl rfl rfl rfl ?_
      refine al_pass rfl rfl rfl rfl rfl ?_
      refine al_pass rfl rfl rfl rfl rfl ?_
      refine al_pass rfl rfl rfl rfl rfl ?_
      refine al_step rfl rfl (aop_pick rfl rfl) ?_
      refine al_step rfl rfl (aop_move rfl) ?_
      refine al_pass rfl rfl rfl rfl rfl ?_
      refine al_pass rfl rfl rfl rfl rfl ?_
      refine al_pass rfl rfl rfl rfl rfl ?_
      refine al_pass rfl rfl rfl rfl rfl ?_
      refine al_pass rfl rfl rfl rfl rfl ?_
      refine al_step rfl rfl (aop_pick rfl rfl) ?_
      refine al_step rfl rfl (aop_assign rfl) ?_
      refine al_end rfl ?_
      exact ⟨rfl, rfl, (by first | exact List.Sublist.refl _ | exact List.sublist_cons_self _ _), (by first | rfl | (refine pB ?_; simp_all; done) | (refine pB ?_; simp_all <;> (intros; omega))), trivial⟩
  rintro _ rfl
  refine awp_ret ?_
  refine ⟨rfl, _, _, ⟨_, _, rfl, rfl, rfl⟩, (List.nil_sublist _), ?_⟩
  all_goals exact ⟨by show (.p (.bool ((((eqB (.mk ayk ayi ayn ayl ays : Tm) (.mk by1k by1i by1n by1l by1s : Tm)) && (an == bn)) && (eqB (.mk avk avi avn avl avs : Tm) (.mk bvk bvi bvn bvl bvs : Tm))) && (ac == bc))) : AV) = _; rw [eqB_mv], rfl⟩

theorem patternR_c : ∀ (t : Tm), (Nd t) → (size t < big) → Fun Try.prog 23 [.agg ((encT t).map .p)] (.tup [.p (I ((patW t).1)), .p (.lst (List.map encI ((patW t).2.1))), .p (.bool ((patW t).2.2))]) := by
  intro t h1 h2
  have hsl := spine_len t
  simp only [big] at h2
  refine acalls_of_awp Try.func23 rfl en23 (n := 49) rfl rfl ?_
  refine awp_seq ?_
  refine awp_region ?_
  refine al_new rfl rfl (aop_box rfl) fun b1 => ?_
  refine al_step rfl rfl (aop_assign rfl) ?_
  refine al_step rfl rfl (aop_assign rfl) ?_
  refine al_step rfl rfl (aop_assign rfl) ?_
  refine al_end rfl ?_
  refine awp_seq ?_
  refine awp_region ?_
  refine al_step rfl rfl (aop_load_box (i := 0) ty26 rfl rfl (by simp [encT_len])) ?_
  refine al_step rfl rfl (aop_fun rfl rfl (spineR_c _ t (Nat.le_refl _) h2) rfl) ?_
  refine al_step rfl rfl (aop_move rfl) ?_
  refine al_step rfl rfl (aop_extract rfl rfl) ?_
  refine al_step rfl rfl (aop_extract rfl rfl) ?_
  refine al_new rfl rfl (aop_alloc zr26 rfl) fun b5 => ?_
  refine al_step rfl rfl (aop_store_whole (i := 0) ty26 rfl rfl rfl (by simp [encT_len]) (by first | rfl | simp [encT_len]) (one_Tm _)) ?_
  refine al_step rfl rfl (aop_assign rfl) ?_
  refine al_end rfl ?_
  refine awp_seq ?_
  refine awp_seq ?_
  refine awp_region ?_
  refine al_step rfl rfl (aop_field_ptr fd26 rfl rfl) ?_
  generalize hz : (spine t).1 = z
  obtain ⟨zk, zi, zn, zl, zs⟩ := z
  refine al_step rfl rfl (aop_load_box1 (i := 0) ty3 rfl rfl rfl) ?_
  refine al_step rfl rfl (aop_cmp rfl rfl rfl) ?_
  refine al_end rfl ?_
  refine awp_cond rfl (fun c => ?_) (fun c => ?_)
  · (try simp only [sd, se] at c)
    refine awp_seq ?_
    refine awp_region ?_
    refine al_step rfl rfl (aop_assign rfl) ?_
    refine al_step rfl rfl (aop_assign rfl) ?_
    refine al_step rfl rfl (aop_assign rfl) ?_
    refine al_end rfl ?_
    refine awp_ghost (ghost_nslot 3) ?_
    refine awp_ret ?_
    refine ⟨rfl, _, _, ⟨_, _, rfl, rfl, ⟨_, _, rfl, rfl, ⟨_, _, rfl, rfl, rfl⟩⟩⟩, (List.nil_sublist _), ?_⟩
    rw [patW_no (by rw [hz]; exact c)]
    all_goals exact ⟨rfl, rfl⟩
  · (try simp only [sd, se] at c)
    refine awp_skip ?_
    refine awp_seq ?_
    refine awp_region ?_
    refine al_step rfl rfl (aop_assign rfl) ?_
    refine al_end rfl ?_
    refine awp_seq ?_
    refine awp_seq ?_
    refine awp_region ?_
    refine al_step rfl rfl (aop_assign rfl) ?_
    refine al_end rfl ?_
    refine awp_block ?_
    refine awp_ghost (ghost_own (t := 7) (sz := 1) rfl) ?_
    refine awp_while (α := Nat × List Int × Option Nat × Nat) (fun (i, l, o, cp) => ⟨49, mk [(5, .ptr b5 0), (6, .p (.lst (encTs ((spine t).2)))), (7, .vs o (List.map encI l).length cp), (8, .p (I (i : Int)))], [.vec o 1 (List.map encI l) cp, .box b5 [.p (I zk), .p (I zi), .p (.str zn), .p (.lst (List.map encL zl)), .p (.lst (encTs zs))]], []⟩) (fun (i, l, o, cp) => (spine t).2.length - i) (fun (i, l, o, cp) => i ≤ (spine t).2.length ∧ (patL l ((spine t).2.drop i) = patL [] (spine t).2 ∧ l.length ≤ i)) ⟨0, [], none, 0⟩ (by simp) ?_ ?_
    · exact le_mkW ⟨we rfl, we rfl, we rfl, we rfl, trivial⟩ (leH (is := [0, 1]) rfl (wl (oe rfl) (wl (oe rfl) (wl0))))
    rintro ⟨i, l, o, cp⟩ hC
    try simp only at hC
    obtain ⟨hi, hC, hl⟩ := hC
    refine awp_seq ?_
    refine awp_seq ?_
    refine awp_region ?_
    refine al_step rfl rfl (aop_move rfl) ?_
    refine al_step rfl rfl (aop_move rfl) ?_
    refine al_step rfl rfl (aop_lenE el24 rfl (encTs_len _)) ?_
    refine al_step rfl rfl (aop_cmp rfl rfl rfl) ?_
    refine al_end rfl ?_
    refine awp_cond rfl (fun c1 => ?_) (fun c1 => ?_)
    · (try simp only [sd, se] at c1)
      refine awp_skip ?_
      refine awp_seq ?_
      refine awp_block ?_
      refine awp_seq ?_
      refine awp_seq ?_
      refine awp_region ?_
      refine al_step rfl rfl (aop_move rfl) ?_
      refine al_step rfl rfl (aop_move rfl) ?_
      obtain ⟨x, hx⟩ := getElem?_of_lt (l := (spine t).2) (i := i) (by omega)
      refine al_step rfl rfl (aop_index_lst el24 rfl rfl (by omega) (encTs_get hx) (encT_len _)) ?_
      obtain ⟨xk, xi, xn, xl, xs⟩ := x
      refine al_step rfl rfl (aop_field_ref fd26 rfl rfl) ?_
      refine al_step rfl rfl (aop_load_ref1 ty3 rfl) ?_
      refine al_step rfl rfl (aop_cmp rfl rfl rfl) ?_
      refine al_step rfl rfl (aop_move rfl) ?_
      refine al_case 29 rfl (fun g => ?_) (fun g => ?_)
      · (try simp only [sd, se] at g)
        refine al_pass rfl rfl rfl rfl rfl ?_
        refine al_pass rfl rfl rfl rfl rfl ?_
        refine al_pass rfl rfl rfl rfl rfl ?_
        refine al_pass rfl rfl rfl rfl rfl ?_
        refine al_pass rfl rfl rfl rfl rfl ?_
        refine al_pass rfl rfl rfl rfl rfl ?_
        refine al_pass rfl rfl rfl rfl rfl ?_
        refine al_step rfl rfl (aop_pick rfl rfl) ?_
        refine al_end rfl ?_
        refine awp_cond rfl (fun c2 => ?_) (fun c2 => by cases c2)
        refine awp_seq ?_
        refine awp_region ?_
        refine al_step rfl rfl (aop_assign rfl) ?_
        refine al_step rfl rfl (aop_assign rfl) ?_
        refine al_step rfl rfl (aop_assign rfl) ?_
        refine al_end rfl ?_
        refine awp_ghost (ghost_nslot 3) ?_
        refine awp_ret ?_
        refine ⟨rfl, _, _, ⟨_, _, rfl, rfl, ⟨_, _, rfl, rfl, ⟨_, _, rfl, rfl, rfl⟩⟩⟩, (List.nil_sublist _), ?_⟩
        rw [patW_none (by rw [hz]; exact c) (by rw [← hC, drop_at hx, patL, if_pos (.inl g)])]
        all_goals exact ⟨rfl, rfl⟩
      · (try simp only [sd, se] at g)
        refine al_stepg rfl rfl rfl rfl (aop_move rfl) ?_
        refine al_stepg rfl rfl rfl rfl (aop_move rfl) ?_
        refine al_stepg rfl rfl rfl rfl (aop_move rfl) ?_
        refine al_stepg rfl rfl rfl rfl (aop_index_lst el24 rfl rfl (by omega) (encTs_get hx) (encT_len _)) ?_
        refine al_stepg rfl rfl rfl rfl (aop_field_ref fd26 rfl rfl) ?_
        refine al_stepg rfl rfl rfl rfl (aop_load_ref1 ty3 rfl) ?_
        refine al_stepg rfl rfl rfl rfl (aop_lend (i := 0) rfl rfl rfl (inR_c l xi (by simp only [big]; omega)) ⟨_, _, rfl, .inr (.inr ⟨rfl, rfl⟩), ⟨_, _, rfl, .inl rfl, rfl⟩⟩ rfl) ?_
        refine al_step rfl rfl (aop_pick rfl rfl) ?_
        refine al_end rfl ?_
        refine awp_cond rfl (fun c2 => ?_) (fun c2 => ?_)
        · (try simp only [sd, se] at c2)
          refine awp_seq ?_
          refine awp_region ?_
          refine al_step rfl rfl (aop_assign rfl) ?_
          refine al_step rfl rfl (aop_assign rfl) ?_
          refine al_step rfl rfl (aop_assign rfl) ?_
          refine al_end rfl ?_
          refine awp_ghost (ghost_nslot 3) ?_
          refine awp_ret ?_
          refine ⟨rfl, _, _, ⟨_, _, rfl, rfl, ⟨_, _, rfl, rfl, ⟨_, _, rfl, rfl, rfl⟩⟩⟩, (List.nil_sublist _), ?_⟩
          rw [patW_none (by rw [hz]; exact c) (by rw [← hC, drop_at hx, patL, if_pos (.inr (by simpa [inB] using c2))])]
          all_goals exact ⟨rfl, rfl⟩
        · (try simp only [sd, se] at c2)
          refine awp_skip ?_
          refine awp_region ?_
          refine al_step rfl rfl (aop_move rfl) ?_
          refine al_step rfl rfl (aop_move rfl) ?_
          refine al_step rfl rfl (aop_move rfl) ?_
          refine al_step rfl rfl (aop_index_lst el24 rfl rfl (by omega) (encTs_get hx) (encT_len _)) ?_
          refine al_step rfl rfl (aop_field_ref fd26 rfl rfl) ?_
          refine al_step rfl rfl (aop_load_ref1 ty3 rfl) ?_
          refine al_step rfl rfl (aop_buildSlice el35 zr3 rfl rfl rfl rfl rfl) ?_
          refine al_app rfl rfl (aop_append2 (i := 0) (rows' := List.map encI [xi]) el35 el35 zr3 rfl rfl rfl rfl rfl rfl (solid_Int _) (by simp only [encTs_len, List.length_map, List.length_cons, List.length_nil, List.nil_append, List.length_append]; omega) (vn_map (f := encI) l [xi])) fun o1 cp1 => ?_
          refine al_step rfl rfl (aop_assign rfl) ?_
          refine al_end rfl ?_
          refine awp_region ?_
          refine al_step rfl rfl (aop_move rfl) ?_
          refine al_step rfl rfl (aop_add rfl rfl (by omega) (by omega)) ?_
          refine al_step rfl rfl (aop_assign rfl) ?_
          refine al_end rfl ?_
          refine ⟨⟨i + 1, l ++ [xi], o1, cp1⟩, (by first | omega | (simp only; omega)), ⟨by omega, ⟨by rw [← hC, drop_at hx, patL, if_neg (by simp only [inB, decide_eq_false_iff_not] at c2; simp [g, c2])], by simp; omega⟩⟩, le_mkW ⟨we rfl, we rfl, we rfl, we rfl, trivial⟩ (leH (is := [0, 1]) rfl (wl (oe rfl) (wl (oe rfl) (wl0))))⟩
    · (try simp only [sd, se] at c1)
      refine awp_exit ?_
      refine awp_seq ?_
      refine awp_region ?_
      refine al_step rfl rfl (aop_field_ptr fd26 rfl rfl) ?_
      refine al_step rfl rfl (aop_load_box1 (i := 1) ty3 rfl rfl rfl) ?_
      refine al_step rfl rfl (aop_move rfl) ?_
      refine al_step rfl rfl (aop_assign rfl) ?_
      refine al_step rfl rfl (aop_assign rfl) ?_
      refine al_step rfl rfl (aop_assign rfl) ?_
      refine al_end rfl ?_
      refine awp_ghost (ghost_freeze (i := 0) [7, 48, 3] rfl (memall ⟨rfl, rfl, rfl, trivial⟩)) ?_
      refine awp_ret ?_
      refine ⟨rfl, _, _, ⟨_, _, rfl, rfl, ⟨_, _, rfl, rfl, ⟨_, _, rfl, rfl, rfl⟩⟩⟩, (List.nil_sublist _), ?_⟩
      rw [patW_some (l := l) (by rw [hz]; exact c) (by rw [← hC, show i = (spine t).2.length by omega, List.drop_length]; rfl), hz]
      all_goals exact ⟨rfl, rfl⟩

end Go.Proofs.Ytgfecpjmbgcobaa
/- Contracts of functions of the program. -/
namespace Go.Proofs.Ytgfecpjmbgcobaa
open Go.Abs Go.Eu
set_option linter.unusedVariables false
set_option linter.unusedSimpArgs false
set_option maxRecDepth 100000
theorem newR_c : ∀ (ms : List Mv) (ctx : List Tm) (t : Tm) (cl : Bool), (ms.length < 2 ^ 37) → (Nds ctx) → (Nd t) → (ctx.length < big) → Fun Try.prog 21 [.p (.lst (List.map encM ms)), .p (.lst (encTs ctx)), .agg ((encT t).map .p), .p (.bool cl)] (.tup [.p (.lst (List.map encM ((newW ms ctx t cl).1))), .agg ((encT ((newW ms ctx t cl).2.1)).map .p), .p (I ((newW ms ctx t cl).2.2))]) := by
  intro ms ctx t cl h1 h2 h3 h4
  simp only [big] at h4
  have hvl := varsW_len ctx.length 0
  refine acalls_of_awp Try.func21 rfl en21 (n := 43) rfl rfl ?_
  refine awp_seq ?_
  refine awp_region ?_
  refine al_new rfl rfl (aop_box rfl) fun b6 => ?_
  refine al_step rfl rfl (aop_assign rfl) ?_
  refine al_new rfl rfl (aop_alloc zr26 rfl) fun b9 => ?_
  refine al_step rfl rfl (aop_assign rfl) ?_
  refine al_end rfl ?_
  refine awp_seq ?_
  refine awp_seq ?_
  refine awp_region ?_
  refine al_step rfl rfl (aop_move rfl) ?_
  refine al_step rfl rfl (aop_lenE el22 rfl (List.length_map _)) ?_
  refine al_step rfl rfl (aop_cmp rfl rfl rfl) ?_
  refine al_end rfl ?_
  refine awp_cond rfl (fun c => ?_) (fun c => ?_)
  · (try simp only [sd, se] at c)
    refine awp_seq ?_
    refine awp_region ?_
    refine al_step rfl rfl (aop_build fd26 zr26 rfl) ?_
    refine al_step rfl rfl (aop_assign rfl) ?_
    refine al_step rfl rfl (aop_store_box (i := 0) ty26 rfl rfl rfl rfl rfl rfl) ?_
    refine al_step rfl rfl (aop_assign rfl) ?_
    refine al_end rfl ?_
    refine awp_ghost (ghost_nslot 8) ?_
    refine awp_ghost (ghost_box (i := 0) rfl) ?_
    refine awp_ret ?_
    refine ⟨rfl, _, _, ⟨_, _, rfl, rfl, ⟨_, _, rfl, (resv_row (i := 0) ty26 rfl rfl rfl), ⟨_, _, rfl, rfl, rfl⟩⟩⟩, (List.nil_sublist _), ?_⟩
    rw [newW_many (by omega)]
    all_goals exact ⟨rfl, rfl⟩
  · (try simp only [sd, se] at c)
    refine awp_skip ?_
    refine awp_seq ?_
    refine awp_region ?_
    refine al_step rfl rfl (aop_move rfl) ?_
    refine al_step rfl rfl (aop_load_box (i := 1) ty26 rfl rfl (by simp [encT_len])) ?_
    refine al_step rfl rfl (aop_fun rfl rfl (pisR_c ctx t h4) rfl) ?_
    refine al_new rfl rfl (aop_alloc zr26 rfl) fun b11 => ?_
    refine al_step rfl rfl (aop_store_whole (i := 0) ty26 rfl rfl rfl (by simp [encT_len]) (by first | rfl | simp [encT_len]) (one_Tm _)) ?_
    refine al_end rfl ?_
    refine awp_seq ?_
    refine awp_seq ?_
    refine awp_region ?_
    refine al_step rfl rfl (aop_load_box (i := 0) ty26 rfl rfl (by simp [encT_len])) ?_
    refine al_step rfl rfl (aop_fun rfl rfl (sizeR_c _ (bindsT 6 ctx t) (Nat.le_refl _) (bindsT_nd h2 h3)) rfl) ?_
    refine al_step rfl rfl (aop_cmp rfl rfl rfl) ?_
    refine al_end rfl ?_
    refine awp_cond rfl (fun c1 => ?_) (fun c1 => ?_)
    · (try simp only [sd, se] at c1)
      refine awp_seq ?_
      refine awp_region ?_
      refine al_step rfl rfl (aop_build fd26 zr26 rfl) ?_
      refine al_step rfl rfl (aop_assign rfl) ?_
      refine al_step rfl rfl (aop_store_box (i := 1) ty26 rfl rfl rfl rfl rfl rfl) ?_
      refine al_step rfl rfl (aop_assign rfl) ?_
      refine al_end rfl ?_
      refine awp_ghost (ghost_nslot 8) ?_
      refine awp_ghost (ghost_box (i := 1) rfl) ?_
      refine awp_ret ?_
      refine ⟨rfl, _, _, ⟨_, _, rfl, rfl, ⟨_, _, rfl, (resv_row (i := 1) ty26 rfl rfl rfl), ⟨_, _, rfl, rfl, rfl⟩⟩⟩, (List.nil_sublist _), ?_⟩
      rw [newW_long (by omega) (by omega)]
      all_goals exact ⟨rfl, rfl⟩
    · (try simp only [sd, se] at c1)
      refine awp_skip ?_
      refine awp_seq ?_
      refine awp_seq ?_
      refine awp_region ?_
      refine al_step rfl rfl (aop_load_box (i := 0) ty26 rfl rfl (by simp [encT_len])) ?_
      refine al_step rfl rfl (aop_fun rfl rfl (depthR_c _ (bindsT 6 ctx t) (Nat.le_refl _) (bindsT_nd h2 h3)) rfl) ?_
      refine al_step rfl rfl (aop_cmp rfl rfl rfl) ?_
      refine al_end rfl ?_
      refine awp_cond rfl (fun c2 => ?_) (fun c2 => ?_)
      · (try simp only [sd, se] at c2)
        refine awp_seq ?_
        refine awp_region ?_
        refine al_step rfl rfl (aop_build fd26 zr26 rfl) ?_
        refine al_step rfl rfl (aop_assign rfl) ?_
        refine al_step rfl rfl (aop_store_box (i := 1) ty26 rfl rfl rfl rfl rfl rfl) ?_
        refine al_step rfl rfl (aop_assign rfl) ?_
        refine al_end rfl ?_
        refine awp_ghost (ghost_nslot 8) ?_
        refine awp_ghost (ghost_box (i := 1) rfl) ?_
        refine awp_ret ?_
        refine ⟨rfl, _, _, ⟨_, _, rfl, rfl, ⟨_, _, rfl, (resv_row (i := 1) ty26 rfl rfl rfl), ⟨_, _, rfl, rfl, rfl⟩⟩⟩, (List.nil_sublist _), ?_⟩
        rw [newW_deep (by omega) (by omega) (by omega)]
        all_goals exact ⟨rfl, rfl⟩
      · (try simp only [sd, se] at c2)
        refine awp_skip ?_
        refine awp_seq ?_
        refine awp_region ?_
        refine al_step rfl rfl (aop_move rfl) ?_
        refine al_step rfl rfl (aop_lenE el22 rfl (List.length_map _)) ?_
        refine al_step rfl rfl (aop_build fd26 zr26 rfl) ?_
        refine al_step rfl rfl (aop_move rfl) ?_
        refine al_step rfl rfl (aop_lenE el24 rfl (encTs_len _)) ?_
        refine al_step rfl rfl (aop_fun rfl rfl (varsRo_c (ctx.length : Nat) 0 (by omega)) rfl) ?_
        refine al_step rfl rfl (aop_funW rfl rfl (applyR_c (.mk 12 (ms.length : Nat) ⟨#[]⟩ [] [] : Tm) (varsW (ctx.length : Nat) 0) (by simp only [big]; omega)) (aw (weak_norm rfl) (aw (we rfl) (aw0)))) ?_
        refine al_new rfl rfl (aop_alloc zr26 rfl) fun b12 => ?_
        refine al_step rfl rfl (aop_store_whole (i := 0) ty26 rfl rfl rfl (by simp [encT_len]) (by first | rfl | simp [encT_len]) (one_Tm _)) ?_
        refine al_end rfl ?_
        refine awp_seq ?_
        refine awp_dr (fun k => Nat.beq k 1 || Nat.beq k 6) mx0 ?_
        refine dr_free rfl rfl (fun _ => aop_move rfl) trivial ?_
        generalize hz : (bindsT 6 ctx t) = z
        obtain ⟨zk, zi, zn, zl, zs⟩ := z
        refine dr_own [(2, .read (.box b11 [.p (I zk), .p (I zi), .p (.str zn), .p (.lst (List.map encL zl)), .p (.lst (encTs zs))]) (.agg [.p (I zk), .p (I zi), .p (.str zn), .p (.lst (List.map encL zl)), .p (.lst (encTs zs))])), (3, .free (.p (.bool cl))), (4, .free (.agg [.p (I zk), .p (I zi), .p (.str zn), .p (.lst (List.map encL zl)), .p (.lst (encTs zs)), .p (.bool false), .p (I 0), .p (I 0), .p (.str ⟨#[]⟩), .p (.nils), .p (.nils), .p (.bool cl)])), (5, .free (.p (.lst (List.map encM ([(Mv.mk (.mk zk zi zn zl zs : Tm) false (.mk 0 0 ⟨#[]⟩ [] [] : Tm) cl)]))))), (7, .read (.box b12 ((encT (apply (.mk 12 (ms.length : Nat) ⟨#[]⟩ [] [] : Tm) (varsW (ctx.length : Nat) 0))).map .p)) (.agg ((encT (apply (.mk 12 (ms.length : Nat) ⟨#[]⟩ [] [] : Tm) (varsW (ctx.length : Nat) 0))).map .p)))] rfl rfl rfl (.inl ⟨rfl, rfl, rfl⟩) (copyRo_c ms (by omega)) (.inl rfl) (by kernel_rfl) fun o cp => ⟨(by repeat' first | exact trivial | refine And.intro ?_ ?_ | ((refine Or.inr (And.intro ?_ ?_) <;> repeat (first | exact List.Mem.head _ | apply List.Mem.tail)); done) | exact Or.inl (by kernel_rfl)), trivial, ?_⟩
        refine dr_read (j := 2) rfl rfl rfl (fun H i hi => aop_load_box (i := i) ty26 rfl hi rfl) (by repeat' first | exact trivial | refine And.intro ?_ ?_ | ((refine Or.inr (And.intro ?_ ?_) <;> repeat (first | exact List.Mem.head _ | apply List.Mem.tail)); done) | exact Or.inl (by kernel_rfl)) (by repeat' first | exact trivial | rfl | refine And.intro ?_ ?_) ?_
        refine dr_free rfl rfl (fun _ => aop_move rfl) (by repeat' first | exact trivial | rfl | refine And.intro ?_ ?_) ?_
        refine dr_free rfl rfl (fun _ => aop_build fd52 zr52 rfl) (by repeat' first | exact trivial | rfl | refine And.intro ?_ ?_) ?_
        refine dr_free rfl rfl (fun _ => aop_buildSlice el22 zr52 rfl rfl rfl rfl rfl) (by repeat' first | exact trivial | rfl | refine And.intro ?_ ?_) ?_
        refine dr_app [(7, .read (.box b12 ((encT (apply (.mk 12 (ms.length : Nat) ⟨#[]⟩ [] [] : Tm) (varsW (ctx.length : Nat) 0))).map .p)) (.agg ((encT (apply (.mk 12 (ms.length : Nat) ⟨#[]⟩ [] [] : Tm) (varsW (ctx.length : Nat) 0))).map .p)))] rfl rfl (aop_append2 (i := 0) (rows' := List.map encM ([(Mv.mk (.mk zk zi zn zl zs : Tm) false (.mk 0 0 ⟨#[]⟩ [] [] : Tm) cl)])) el22 el22 zr52 rfl rfl rfl rfl rfl rfl (solid_Mv _) (by simp only [encTs_len, List.length_map, List.length_cons, List.length_nil, List.nil_append, List.length_append]; omega) (vn_map (f := encM) ms ([(Mv.mk (.mk zk zi zn zl zs : Tm) false (.mk 0 0 ⟨#[]⟩ [] [] : Tm) cl)]))) (by kernel_rfl) fun o1 cp1 => ⟨(by repeat' first | exact trivial | refine And.intro ?_ ?_ | ((refine Or.inr (And.intro ?_ ?_) <;> repeat (first | exact List.Mem.head _ | apply List.Mem.tail)); done) | exact Or.inl (by kernel_rfl)), (by repeat' first | exact trivial | rfl | refine And.intro ?_ ?_), ?_⟩
        refine dr_read (j := 1) rfl rfl rfl (fun H i hi => aop_load_box (i := i) ty26 rfl hi (by simp [encT_len])) (by repeat' first | exact trivial | refine And.intro ?_ ?_ | ((refine Or.inr (And.intro ?_ ?_) <;> repeat (first | exact List.Mem.head _ | apply List.Mem.tail)); done) | exact Or.inl (by kernel_rfl)) (by repeat' first | exact trivial | rfl | refine And.intro ?_ ?_) ?_
        refine dr_free rfl rfl (fun _ => aop_assign rfl) (by repeat' first | exact trivial | rfl | refine And.intro ?_ ?_) ?_
        refine dr_eff rfl rfl (aop_store_whole (i := 3) ty26 rfl rfl rfl (by simp [encT_len]) (by first | rfl | simp [encT_len]) (one_Tm _)) (by repeat' first | exact trivial | refine And.intro ?_ ?_ | ((refine Or.inr (And.intro ?_ ?_) <;> repeat (first | exact List.Mem.head _ | apply List.Mem.tail)); done) | exact Or.inl (by kernel_rfl)) (by repeat' first | exact trivial | rfl | refine And.intro ?_ ?_) ?_
        refine dr_free rfl rfl (fun _ => aop_assign rfl) (by repeat' first | exact trivial | rfl | refine And.intro ?_ ?_) ?_
        refine dr_end rfl (by kernel_rfl) ?_
        refine awp_ghost (ghost_freeze (i := 0) [8, 41] rfl (memall ⟨rfl, rfl, trivial⟩)) ?_
        refine awp_ret ?_
        refine ⟨rfl, _, _, ⟨_, _, rfl, rfl, ⟨_, _, rfl, (resv_row (i := 2) ty26 rfl rfl (by simp [encT_len])), ⟨_, _, rfl, rfl, rfl⟩⟩⟩, (List.nil_sublist _), ?_⟩
        rw [newW_ok (by omega) (by omega) (by omega), hz]
        all_goals exact ⟨rfl, rfl⟩

end Go.Proofs.Ytgfecpjmbgcobaa
