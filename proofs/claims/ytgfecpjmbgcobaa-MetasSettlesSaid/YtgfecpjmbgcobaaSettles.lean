/- MetasSettles: a filled term has no known metavariables, and filling it again changes nothing, for every input. -/
import Derived.Test.YtgfecpjmbgcobaaPt
namespace Go.Proofs.Ytgfecpjmbgcobaa
open Go.Abs Go.Eu
set_option linter.unusedVariables false
set_option linter.unusedSimpArgs false
set_option maxRecDepth 100000
set_option maxHeartbeats 1000000 in
theorem settles_c : ∀ (l : List Mv) (t : Tm), (l.length < wide) → (∀ x ∈ l, WdM x) → (Wd t) → Fun Try.prog 4 [.p (.lst (List.map encM l)), .agg ((encT t).map .p)] (.p (.bool true)) := by
  intro l t h1 h2 h3
  obtain ⟨tk, ti, tn, tl, ts⟩ := t
  refine acalls_of_awp Try.func4 rfl en4 (n := 103) rfl rfl ?_
  refine awp_seq ?_
  refine awp_region ?_
  refine al_new rfl rfl (aop_box rfl) fun b3 => ?_
  refine al_step rfl rfl (aop_assign rfl) ?_
  refine al_end rfl ?_
  refine awp_seq ?_
  refine awp_seq ?_
  refine awp_meetR [0, 3] 22 (fun y => ∃ b : Bool, y = .p (.bool b) ∧ (b = false → GoodP l ∧ SmallP l.length [] [(.mk tk ti tn tl ts : Tm)])) ?_ ?_
  · refine awp_region ?_
    refine al_step rfl rfl (aop_move rfl) ?_
    refine al_rel rfl rfl (aop_funR rfl rfl (good_c l h1 h2) (.inl rfl)) ?_
    rintro _ ⟨b, rfl, hb⟩
    refine al_step rfl rfl (aop_not rfl) ?_
    refine al_step rfl rfl (aop_move rfl) ?_
    refine al_case 16 rfl (fun g => ?_) (fun g => ?_)
    · (try simp only [sd, se] at g)
      
      refine al_pass rfl rfl rfl rfl rfl ?_
      refine al_pass rfl rfl rfl rfl rfl ?_
      refine al_pass rfl rfl rfl rfl rfl ?_
      refine al_pass rfl rfl rfl rfl rfl ?_
      refine al_pass rfl rfl rfl rfl rfl ?_
      refine al_step rfl rfl (aop_pick rfl rfl) ?_
      refine al_end rfl ?_
      exact ⟨rfl, rfl, (by first | exact List.Sublist.refl _ | exact List.sublist_cons_self _ _), (by first | exact ⟨_, rfl, fun h => absurd h (by decide)⟩ | exact ⟨_, rfl, fun h => ⟨hG, hb1 (by simpa using h)⟩⟩), ⟨rfl, rfl, trivial⟩⟩
    · (try simp only [sd, se] at g)
      have hG := hb (by simpa using g)
      refine al_stepg rfl rfl rfl rfl (aop_move rfl) ?_
      refine al_stepg rfl rfl rfl rfl (aop_load_box (i := 0) ty26 rfl rfl rfl) ?_
      refine al_stepg rfl rfl rfl rfl (aop_buildSlice el24 zr26 rfl rfl rfl rfl rfl) ?_
      refine al_relg rfl rfl rfl rfl (aop_funR rfl rfl (small_c l [] [(.mk tk ti tn tl ts : Tm)] hG.len (by simp [wide]) trivial (by simp [wide]) ⟨h3, trivial⟩) (.inr rfl)) ?_
      rintro _ ⟨b1, rfl, hb1⟩
      refine al_stepg rfl rfl rfl rfl (aop_not rfl) ?_
      refine al_step rfl rfl (aop_pick rfl rfl) ?_
      refine al_end rfl ?_
      exact ⟨rfl, rfl, (by first | exact List.Sublist.refl _ | exact List.sublist_cons_self _ _), (by first | exact ⟨_, rfl, fun h => absurd h (by decide)⟩ | exact ⟨_, rfl, fun h => ⟨hG, hb1 (by simpa using h)⟩⟩), ⟨rfl, rfl, trivial⟩⟩
  rintro _ ⟨q, rfl, hq⟩
  refine awp_cond rfl (fun c => ?_) (fun c => ?_)
  · have cR := c
    (try simp only [sd, se] at c)
    refine awp_seq ?_
    refine awp_region ?_
    refine al_step rfl rfl (aop_fun rfl rfl (awake_c ) rfl) ?_
    refine al_step rfl rfl (aop_assign rfl) ?_
    refine al_end rfl ?_
    refine awp_ret ?_
    refine ⟨rfl, _, _, ⟨_, _, rfl, rfl, rfl⟩, (List.nil_sublist _), ?_⟩
    all_goals exact ⟨rfl, rfl⟩
  · have cR := c
    (try simp only [sd, se] at c)
    obtain ⟨hg, hs⟩ := hq (by simpa using c)
    have hsz : size (.mk tk ti tn tl ts : Tm) ≤ 60 := by have := hs.s2; simp only [sizes] at this; omega
    have hwf := hs.w2 _ (List.mem_singleton.2 rfl)
    have hok : Ok 60 (.mk tk ti tn tl ts : Tm) := ok_of (by simp) hwf hs.n2.1 hsz (by omega)
    have hgl := hg.len
    have hka : Ok 4096 (fillPT l 548 (.mk tk ti tn tl ts : Tm)).1 := fillPT_good (by omega) (good_ok hg) hok
    have hm4 : ∀ m ∈ l, Ok 4096 m.value := fun m hm => (good_ok hg m hm).mono (by omega)
    refine awp_skip ?_
    refine awp_seq ?_
    refine awp_region ?_
    refine al_step rfl rfl (aop_move rfl) ?_
    refine al_step rfl rfl (aop_load_box (i := 0) ty26 rfl rfl rfl) ?_
    refine al_step rfl rfl (aop_fun rfl rfl (fillPc_c l (.mk tk ti tn tl ts : Tm) 60 548 (by omega) (by omega) (good_ok hg) (by omega) hok (by omega)) rfl) ?_
    refine al_step rfl rfl (aop_move rfl) ?_
    refine al_step rfl rfl (aop_extract rfl rfl) ?_
    refine al_step rfl rfl (aop_extract rfl rfl) ?_
    refine al_new rfl rfl (aop_alloc zr26 rfl) fun b5 => ?_
    refine al_step rfl rfl (aop_store_whole (i := 0) ty26 rfl rfl rfl (by simp [encT_len]) (by first | rfl | simp [encT_len]) (one_Tm _)) ?_
    refine al_step rfl rfl (aop_assign rfl) ?_
    refine al_end rfl ?_
    refine awp_seq ?_
    refine awp_seq ?_
    refine awp_region ?_
    refine al_step rfl rfl (aop_move rfl) ?_
    refine al_step rfl rfl (aop_cmp rfl rfl rfl) ?_
    refine al_end rfl ?_
    refine awp_cond rfl (fun c1 => ?_) (fun c1 => ?_)
    · have c1R := c1
      (try simp only [sd, se] at c1)
      have hE := fillPT_errs c1
      refine awp_seq ?_
      refine awp_meetR [] 4 (fun y => y = .p (.bool true)) ?_ ?_
      · refine awp_region ?_
        refine al_step rfl rfl (aop_move rfl) ?_
        refine al_step rfl rfl (aop_cmp rfl rfl rfl) ?_
        refine al_step rfl rfl (aop_move rfl) ?_
        refine al_case 34 rfl (fun g => ?_) (fun g => ?_)
        · (try simp only [sd, se] at g)
          refine al_pass rfl rfl rfl rfl rfl ?_
          refine al_pass rfl rfl rfl rfl rfl ?_
          refine al_step rfl rfl (aop_pick rfl rfl) ?_
          refine al_step rfl rfl (aop_move rfl) ?_
          refine al_stepg rfl rfl rfl rfl (aop_fun rfl rfl (awake_c ) rfl) ?_
          refine al_step rfl rfl (aop_pick rfl rfl) ?_
          refine al_step rfl rfl (aop_assign rfl) ?_
          refine al_end rfl ?_
          exact ⟨rfl, rfl, (by first | exact List.Sublist.refl _ | exact List.sublist_cons_self _ _), (by first | rfl | (refine pB ?_; rcases hE with hE | hE <;> simp_all; done)), trivial⟩
        · (try simp only [sd, se] at g)
          refine al_stepg rfl rfl rfl rfl (aop_move rfl) ?_
          refine al_stepg rfl rfl rfl rfl (aop_cmp rfl rfl rfl) ?_
          refine al_step rfl rfl (aop_pick rfl rfl) ?_
          refine al_step rfl rfl (aop_move rfl) ?_
          refine al_case 38 rfl (fun g1 => ?_) (fun g1 => ?_)
          · (try simp only [sd, se] at g1)
            refine al_stepg rfl rfl rfl rfl (aop_fun rfl rfl (awake_c ) rfl) ?_
            refine al_step rfl rfl (aop_pick rfl rfl) ?_
            refine al_step rfl rfl (aop_assign rfl) ?_
            refine al_end rfl ?_
            exact ⟨rfl, rfl, (by first | exact List.Sublist.refl _ | exact List.sublist_cons_self _ _), (by first | rfl | (refine pB ?_; rcases hE with hE | hE <;> simp_all; done)), trivial⟩
          · (try simp only [sd, se] at g1)
            refine al_pass rfl rfl rfl rfl rfl ?_
            refine al_step rfl rfl (aop_pick rfl rfl) ?_
            refine al_step rfl rfl (aop_assign rfl) ?_
            refine al_end rfl ?_
            exact ⟨rfl, rfl, (by first | exact List.Sublist.refl _ | exact List.sublist_cons_self _ _), (by first | rfl | (refine pB ?_; rcases hE with hE | hE <;> simp_all; done)), trivial⟩
      rintro _ rfl
      refine awp_ret ?_
      refine ⟨rfl, _, _, ⟨_, _, rfl, rfl, rfl⟩, (List.nil_sublist _), ?_⟩
      all_goals exact ⟨rfl, rfl⟩
    · have c1R := c1
      (try simp only [sd, se] at c1)
      have hset := fillPT_st (by omega) (good_ok hg) (good_rg hg) hok (wf_rg _ 0 hwf) (by simpa using c1)
      have hun := unk_settled (ms := l) (n := 548) (t := (.mk tk ti tn tl ts : Tm)) (by simpa using c1)
      have hid := fillPT_idem (n := 36872) hset
      have hml : (metasW [] (fillPT l 548 (.mk tk ti tn tl ts : Tm)).1).length ≤ 4096 := by have := metasW_len (fillPT l 548 (.mk tk ti tn tl ts : Tm)).1 []; have := hka.sz; simp only [List.length_nil] at *; omega
      refine awp_skip ?_
      refine awp_seq ?_
      refine awp_seq ?_
      refine awp_region ?_
      refine al_step rfl rfl (aop_load_box (i := 0) ty26 rfl rfl (by simp [encT_len])) ?_
      refine al_step rfl rfl (aop_fun rfl rfl (metasT_c ((fillPT l 548 (.mk tk ti tn tl ts : Tm)).1) hka.nd (by have := hka.sz; simp only [big]; omega)) rfl) ?_
      refine al_step rfl rfl (aop_lenE el35 rfl (List.length_map _)) ?_
      refine al_step rfl rfl (aop_move rfl) ?_
      refine al_end rfl ?_
      refine awp_block ?_
      refine awp_while (α := Nat) (fun i => ⟨103, mk [(0, .p (.lst (List.map encM l))), (3, .ptr b3 0), (5, .ptr b5 0), (42, .p (.lst (List.map encI (metasW [] ((fillPT l 548 (.mk tk ti tn tl ts : Tm)).1))))), (43, .p (I ((metasW [] ((fillPT l 548 (.mk tk ti tn tl ts : Tm)).1)).length : Nat))), (44, .p (I (i : Int)))], [.box b5 ((encT ((fillPT l 548 (.mk tk ti tn tl ts : Tm)).1)).map .p), .box b3 [.p (I tk), .p (I ti), .p (.str tn), .p (.lst (List.map encL tl)), .p (.lst (encTs ts))]], []⟩) (fun i => (metasW [] (fillPT l 548 (.mk tk ti tn tl ts : Tm)).1).length - i) (fun i => i ≤ (metasW [] (fillPT l 548 (.mk tk ti tn tl ts : Tm)).1).length) 0 (by first | trivial | omega | simp | (simp; omega)) ?_ ?_
      · exact le_mkW ⟨we rfl, we rfl, we rfl, we rfl, we rfl, we rfl, trivial⟩ (leH (is := [0, 1]) rfl (wl (oe rfl) (wl (oe rfl) (wl0))))
      rintro i hC
      try simp only at hC
      have hi := hC
      refine awp_seq ?_
      refine awp_region ?_
      refine al_step rfl rfl (aop_cmp rfl rfl rfl) ?_
      refine al_end rfl ?_
      refine awp_seq ?_
      refine awp_cond rfl (fun c2 => ?_) (fun c2 => ?_)
      · have c2R := c2
        (try simp only [sd, se] at c2)
        refine awp_skip ?_
        refine awp_seq ?_
        refine awp_block ?_
        refine awp_seq ?_
        refine awp_region ?_
        obtain ⟨x, hx⟩ := getElem?_of_lt (l := metasW [] ((fillPT l 548 (.mk tk ti tn tl ts : Tm)).1)) (i := i) (by omega)
        obtain ⟨hk1, hk2, hk3⟩ := st_idx hset hx
        refine al_step rfl rfl (aop_index_lst el35 rfl rfl (by omega) (encI_get hx) (rfl)) ?_
        refine al_step rfl rfl (aop_load_ref1 ty3 rfl) ?_
        refine al_step rfl rfl (aop_assign rfl) ?_
        refine al_end rfl ?_
        refine awp_seq ?_
        refine awp_meetR [0, 3, 5, 42, 43, 44] 62 (fun y => y = .p (.bool false)) ?_ ?_
        · refine awp_region ?_
          refine al_step rfl rfl (aop_move rfl) ?_
          refine al_step rfl rfl (aop_cmp rfl rfl rfl) ?_
          refine al_step rfl rfl (aop_move rfl) ?_
          refine al_case 50 rfl (fun g => ?_) (fun g => ?_)
          · (try simp only [sd, se] at g)
            refine al_pass rfl rfl rfl rfl rfl ?_
            refine al_pass rfl rfl rfl rfl rfl ?_
            refine al_pass rfl rfl rfl rfl rfl ?_
            refine al_pass rfl rfl rfl rfl rfl ?_
            refine al_step rfl rfl (aop_pick rfl rfl) ?_
            refine al_step rfl rfl (aop_move rfl) ?_
            refine al_pass rfl rfl rfl rfl rfl ?_
            refine al_pass rfl rfl rfl rfl rfl ?_
            refine al_pass rfl rfl rfl rfl rfl ?_
            refine al_pass rfl rfl rfl rfl rfl ?_
            refine al_pass rfl rfl rfl rfl rfl ?_
            refine al_step rfl rfl (aop_pick rfl rfl) ?_
            refine al_end rfl ?_
            exact ⟨rfl, rfl, (by first | exact List.Sublist.refl _ | exact List.sublist_cons_self _ _), (by first | rfl | (exfalso; omega) | exact pB (hk3 _ hm)), ⟨rfl, rfl, rfl, rfl, rfl, rfl, trivial⟩⟩
          · (try simp only [sd, se] at g)
            refine al_stepg rfl rfl rfl rfl (aop_move rfl) ?_
            refine al_stepg rfl rfl rfl rfl (aop_move rfl) ?_
            refine al_stepg rfl rfl rfl rfl (aop_lenE el22 rfl (List.length_map _)) ?_
            refine al_stepg rfl rfl rfl rfl (aop_cmp rfl rfl rfl) ?_
            refine al_step rfl rfl (aop_pick rfl rfl) ?_
            refine al_step rfl rfl (aop_move rfl) ?_
            refine al_case 56 rfl (fun g1 => ?_) (fun g1 => ?_)
            · (try simp only [sd, se] at g1)
              refine al_pass rfl rfl rfl rfl rfl ?_
              refine al_pass rfl rfl rfl rfl rfl ?_
              refine al_pass rfl rfl rfl rfl rfl ?_
              refine al_pass rfl rfl rfl rfl rfl ?_
              refine al_pass rfl rfl rfl rfl rfl ?_
              refine al_step rfl rfl (aop_pick rfl rfl) ?_
              refine al_end rfl ?_
              exact ⟨rfl, rfl, (by first | exact List.Sublist.refl _ | exact List.sublist_cons_self _ _), (by first | rfl | (exfalso; omega) | exact pB (hk3 _ hm)), ⟨rfl, rfl, rfl, rfl, rfl, rfl, trivial⟩⟩
            · (try simp only [sd, se] at g1)
              refine al_stepg rfl rfl rfl rfl (aop_move rfl) ?_
              refine al_stepg rfl rfl rfl rfl (aop_move rfl) ?_
              obtain ⟨m, hm⟩ := getElem?_of_lt (l := l) (i := (x : Int).toNat) (by omega)
              refine al_stepg rfl rfl rfl rfl (aop_index_lst el22 rfl rfl (by omega) (encM_get hm) (encM_len _)) ?_
              obtain ⟨my, mn, mv, mc⟩ := m
              obtain ⟨myk, myi, myn, myl, mys⟩ := my
              obtain ⟨mvk, mvi, mvn, mvl, mvs⟩ := mv
              refine al_stepg rfl rfl rfl rfl (aop_field_ref fd52 rfl rfl) ?_
              refine al_stepg rfl rfl rfl rfl (aop_load_ref1 ty4 rfl) ?_
              refine al_step rfl rfl (aop_pick rfl rfl) ?_
              refine al_end rfl ?_
              exact ⟨rfl, rfl, (by first | exact List.Sublist.refl _ | exact List.sublist_cons_self _ _), (by first | rfl | (exfalso; omega) | exact pB (hk3 _ hm)), ⟨rfl, rfl, rfl, rfl, rfl, rfl, trivial⟩⟩
        rintro _ rfl
        refine awp_cond rfl (fun c3 => by cases c3) (fun c3 => ?_)
        refine awp_skip ?_
        refine awp_region ?_
        refine al_step rfl rfl (aop_add rfl rfl (by omega) (by omega)) ?_
        refine al_step rfl rfl (aop_move rfl) ?_
        refine al_end rfl ?_
        refine ⟨(i + 1), (by first | omega | (simp only; omega)), by omega, le_mkW ⟨we rfl, we rfl, we rfl, we rfl, we rfl, we rfl, trivial⟩ (leH (is := [0, 1]) rfl (wl (oe rfl) (wl (oe rfl) (wl0))))⟩
      · have c2R := c2
        (try simp only [sd, se] at c2)
        refine awp_exit ?_
        refine awp_seq ?_
        refine awp_region ?_
        refine al_step rfl rfl (aop_move rfl) ?_
        refine al_step rfl rfl (aop_load_box (i := 0) ty26 rfl rfl (by simp [encT_len])) ?_
        refine al_step rfl rfl (aop_fun rfl rfl (fillPc_c l ((fillPT l 548 (.mk tk ti tn tl ts : Tm)).1) 4096 36872 (by omega) (by omega) hm4 (by omega) hka (by have := hka.sz; omega)) rfl) ?_
        refine al_step rfl rfl (aop_move rfl) ?_
        refine al_step rfl rfl (aop_extract rfl rfl) ?_
        refine al_step rfl rfl (aop_extract rfl rfl) ?_
        refine al_new rfl rfl (aop_alloc zr26 rfl) fun b9 => ?_
        refine al_step rfl rfl (aop_store_whole (i := 0) ty26 rfl rfl rfl (by simp [encT_len]) (by first | rfl | simp [encT_len]) (one_Tm _)) ?_
        refine al_step rfl rfl (aop_assign rfl) ?_
        refine al_end rfl ?_
        refine awp_seq ?_
        refine awp_region ?_
        refine al_step rfl rfl (aop_move rfl) ?_
        refine al_step rfl rfl (aop_load_box (i := 2) ty26 rfl rfl rfl) ?_
        refine al_step rfl rfl (aop_fun rfl rfl (unkPc_c l (.mk tk ti tn tl ts : Tm) 60 548 (by omega) (by omega) (good_ok hg) (by omega) hok (by omega)) rfl) ?_
        refine al_step rfl rfl (aop_move rfl) ?_
        refine al_step rfl rfl (aop_extract rfl rfl) ?_
        refine al_step rfl rfl (aop_extract rfl rfl) ?_
        refine al_step rfl rfl (aop_assign rfl) ?_
        refine al_step rfl rfl (aop_assign rfl) ?_
        refine al_end rfl ?_
        refine awp_seq ?_
        refine awp_seq ?_
        refine awp_meetR [5, 9, 10, 11, 12] 81 (fun y => y = .p (.bool ((((fillPT l 36872 ((fillPT l 548 (.mk tk ti tn tl ts : Tm)).1)).2 : Int) == (11 : Int)) || (((unkPT l 548 (.mk tk ti tn tl ts : Tm)).2 : Int) == (11 : Int))))) ?_ ?_
        · refine awp_region ?_
          refine al_step rfl rfl (aop_move rfl) ?_
          refine al_step rfl rfl (aop_cmp rfl rfl rfl) ?_
          refine al_step rfl rfl (aop_move rfl) ?_
          refine al_case 78 rfl (fun g => ?_) (fun g => ?_)
          · (try simp only [sd, se] at g)
            refine al_pass rfl rfl rfl rfl rfl ?_
            refine al_pass rfl rfl rfl rfl rfl ?_
            refine al_step rfl rfl (aop_pick rfl rfl) ?_
            refine al_end rfl ?_
            exact ⟨rfl, rfl, (by first | exact List.Sublist.refl _ | exact List.sublist_cons_self _ _), (by first | rfl | (refine pB ?_; simp_all; done) | (refine pB ?_; simp_all <;> (intros; omega))), ⟨rfl, rfl, rfl, rfl, rfl, trivial⟩⟩
          · (try simp only [sd, se] at g)
            refine al_stepg rfl rfl rfl rfl (aop_move rfl) ?_
            refine al_stepg rfl rfl rfl rfl (aop_cmp rfl rfl rfl) ?_
            refine al_step rfl rfl (aop_pick rfl rfl) ?_
            refine al_end rfl ?_
            exact ⟨rfl, rfl, (by first | exact List.Sublist.refl _ | exact List.sublist_cons_self _ _), (by first | rfl | (refine pB ?_; simp_all; done) | (refine pB ?_; simp_all <;> (intros; omega))), ⟨rfl, rfl, rfl, rfl, rfl, trivial⟩⟩
        rintro _ rfl
        refine awp_cond rfl (fun c3 => ?_) (fun c3 => ?_)
        · have c3R := c3
          (try simp only [sd, se] at c3)
          refine awp_seq ?_
          refine awp_region ?_
          refine al_step rfl rfl (aop_fun rfl rfl (awake_c ) rfl) ?_
          refine al_step rfl rfl (aop_assign rfl) ?_
          refine al_end rfl ?_
          refine awp_ret ?_
          refine ⟨rfl, _, _, ⟨_, _, rfl, rfl, rfl⟩, (List.nil_sublist _), ?_⟩
          all_goals exact ⟨rfl, rfl⟩
        · have c3R := c3
          (try simp only [sd, se] at c3)
          have hid2 := hid.resolve_left c3.1
          refine awp_skip ?_
          refine awp_seq ?_
          refine awp_meetR [] 4 (fun y => y = .p (.bool true)) ?_ ?_
          · refine awp_region ?_
            refine al_step rfl rfl (aop_move rfl) ?_
            refine al_step rfl rfl (aop_cmp rfl rfl rfl) ?_
            refine al_step rfl rfl (aop_move rfl) ?_
            refine al_case 85 rfl (fun g => ?_) (fun g => ?_)
            · (try simp only [sd, se] at g)
              refine al_stepg rfl rfl rfl rfl (aop_move rfl) ?_
              refine al_stepg rfl rfl rfl rfl (aop_cmp rfl rfl rfl) ?_
              refine al_step rfl rfl (aop_pick rfl rfl) ?_
              refine al_step rfl rfl (aop_move rfl) ?_
              refine al_case 89 rfl (fun g1 => ?_) (fun g1 => ?_)
              · (try simp only [sd, se] at g1)
                refine al_stepg rfl rfl rfl rfl (aop_load_box (i := 1) ty26 rfl rfl (by simp [encT_len])) ?_
                refine al_stepg rfl rfl rfl rfl (aop_load_box (i := 0) ty26 rfl rfl (by simp [encT_len])) ?_
                refine al_stepg rfl rfl rfl rfl (aop_fun rfl rfl (same_c _ ((fillPT l 548 (.mk tk ti tn tl ts : Tm)).1) ((fillPT l 36872 ((fillPT l 548 (.mk tk ti tn tl ts : Tm)).1)).1) (Nat.le_refl _) hka.nd) rfl) ?_
                refine al_step rfl rfl (aop_pick rfl rfl) ?_
                refine al_step rfl rfl (aop_move rfl) ?_
                refine al_case 94 rfl (fun g2 => ?_) (fun g2 => ?_)
                · (try simp only [sd, se] at g2)
                  refine al_stepg rfl rfl rfl rfl (aop_move rfl) ?_
                  refine al_stepg rfl rfl rfl rfl (aop_load_box (i := 1) ty26 rfl rfl (by simp [encT_len])) ?_
                  refine al_stepg rfl rfl rfl rfl (aop_fun rfl rfl (metasT_c ((fillPT l 548 (.mk tk ti tn tl ts : Tm)).1) hka.nd (by have := hka.sz; simp only [big]; omega)) rfl) ?_
                  refine al_stepg rfl rfl rfl rfl (aop_fun rfl rfl (equalI_c ((unkPT l 548 (.mk tk ti tn tl ts : Tm)).1) (metasW [] ((fillPT l 548 (.mk tk ti tn tl ts : Tm)).1)) (by have := unkPT_len (n := 548) (by omega) (good_ok hg) hok; simp only [big]; omega)) rfl) ?_
                  refine al_step rfl rfl (aop_pick rfl rfl) ?_
                  refine al_step rfl rfl (aop_move rfl) ?_
                  refine al_case 100 rfl (fun g3 => ?_) (fun g3 => ?_)
                  · (try simp only [sd, se] at g3)
                    refine al_stepg rfl rfl rfl rfl (aop_fun rfl rfl (awake_c ) rfl) ?_
                    refine al_step rfl rfl (aop_pick rfl rfl) ?_
                    refine al_step rfl rfl (aop_assign rfl) ?_
                    refine al_end rfl ?_
                    exact ⟨rfl, rfl, (by first | exact List.Sublist.refl _ | exact List.sublist_cons_self _ _), (by first | rfl | (refine absurd g ?_; simp [hid2, hun, eqB]; done) | (refine absurd g1 ?_; simp [hid2, hun, eqB]; done) | (refine absurd g2 ?_; simp [hid2, hun, eqB]; done) | (refine absurd g3 ?_; simp [hid2, hun, eqB]; done) | (refine absurd g4 ?_; simp [hid2, hun, eqB]; done)), trivial⟩
                  · (try simp only [sd, se] at g3)
                    refine al_pass rfl rfl rfl rfl rfl ?_
                    refine al_step rfl rfl (aop_pick rfl rfl) ?_
                    refine al_step rfl rfl (aop_assign rfl) ?_
                    refine al_end rfl ?_
                    exact ⟨rfl, rfl, (by first | exact List.Sublist.refl _ | exact List.sublist_cons_self _ _), (by first | rfl | (refine absurd g ?_; simp [hid2, hun, eqB]; done) | (refine absurd g1 ?_; simp [hid2, hun, eqB]; done) | (refine absurd g2 ?_; simp [hid2, hun, eqB]; done) | (refine absurd g3 ?_; simp [hid2, hun, eqB]; done) | (refine absurd g4 ?_; simp [hid2, hun, eqB]; done)), trivial⟩
                · (try simp only [sd, se] at g2)
                  refine al_pass rfl rfl rfl rfl rfl ?_
                  refine al_pass rfl rfl rfl rfl rfl ?_
                  refine al_pass rfl rfl rfl rfl rfl ?_
                  refine al_pass rfl rfl rfl rfl rfl ?_
                  refine al_step rfl rfl (aop_pick rfl rfl) ?_
                  refine al_step rfl rfl (aop_move rfl) ?_
                  refine al_pass rfl rfl rfl rfl rfl ?_
                  refine al_step rfl rfl (aop_pick rfl rfl) ?_
                  refine al_step rfl rfl (aop_assign rfl) ?_
                  refine al_end rfl ?_
                  exact ⟨rfl, rfl, (by first | exact List.Sublist.refl _ | exact List.sublist_cons_self _ _), (by first | rfl | (refine absurd g ?_; simp [hid2, hun, eqB]; done) | (refine absurd g1 ?_; simp [hid2, hun, eqB]; done) | (refine absurd g2 ?_; simp [hid2, hun, eqB]; done) | (refine absurd g3 ?_; simp [hid2, hun, eqB]; done) | (refine absurd g4 ?_; simp [hid2, hun, eqB]; done)), trivial⟩
              · (try simp only [sd, se] at g1)
                refine al_pass rfl rfl rfl rfl rfl ?_
                refine al_pass rfl rfl rfl rfl rfl ?_
                refine al_pass rfl rfl rfl rfl rfl ?_
                refine al_step rfl rfl (aop_pick rfl rfl) ?_
                refine al_step rfl rfl (aop_move rfl) ?_
                refine al_pass rfl rfl rfl rfl rfl ?_
                refine al_pass rfl rfl rfl rfl rfl ?_
                refine al_pass rfl rfl rfl rfl rfl ?_
                refine al_pass rfl rfl rfl rfl rfl ?_
                refine al_step rfl rfl (aop_pick rfl rfl) ?_
                refine al_step rfl rfl (aop_move rfl) ?_
                refine al_pass rfl rfl rfl rfl rfl ?_
                refine al_step rfl rfl (aop_pick rfl rfl) ?_
                refine al_step rfl rfl (aop_assign rfl) ?_
                refine al_end rfl ?_
                exact ⟨rfl, rfl, (by first | exact List.Sublist.refl _ | exact List.sublist_cons_self _ _), (by first | rfl | (refine absurd g ?_; simp [hid2, hun, eqB]; done) | (refine absurd g1 ?_; simp [hid2, hun, eqB]; done) | (refine absurd g2 ?_; simp [hid2, hun, eqB]; done) | (refine absurd g3 ?_; simp [hid2, hun, eqB]; done) | (refine absurd g4 ?_; simp [hid2, hun, eqB]; done)), trivial⟩
            · (try simp only [sd, se] at g)
              refine al_pass rfl rfl rfl rfl rfl ?_
              refine al_pass rfl rfl rfl rfl rfl ?_
              refine al_step rfl rfl (aop_pick rfl rfl) ?_
              refine al_step rfl rfl (aop_move rfl) ?_
              refine al_pass rfl rfl rfl rfl rfl ?_
              refine al_pass rfl rfl rfl rfl rfl ?_
              refine al_pass rfl rfl rfl rfl rfl ?_
              refine al_step rfl rfl (aop_pick rfl rfl) ?_
              refine al_step rfl rfl (aop_move rfl) ?_
              refine al_pass rfl rfl rfl rfl rfl ?_
              refine al_pass rfl rfl rfl rfl rfl ?_
              refine al_pass rfl rfl rfl rfl rfl ?_
              refine al_pass rfl rfl rfl rfl rfl ?_
              refine al_step rfl rfl (aop_pick rfl rfl) ?_
              refine al_step rfl rfl (aop_move rfl) ?_
              refine al_pass rfl rfl rfl rfl rfl ?_
              refine al_step rfl rfl (aop_pick rfl rfl) ?_
              refine al_step rfl rfl (aop_assign rfl) ?_
              refine al_end rfl ?_
              exact ⟨rfl, rfl, (by first | exact List.Sublist.refl _ | exact List.sublist_cons_self _ _), (by first | rfl | (refine absurd g ?_; simp [hid2, hun, eqB]; done) | (refine absurd g1 ?_; simp [hid2, hun, eqB]; done) | (refine absurd g2 ?_; simp [hid2, hun, eqB]; done) | (refine absurd g3 ?_; simp [hid2, hun, eqB]; done) | (refine absurd g4 ?_; simp [hid2, hun, eqB]; done)), trivial⟩
          rintro _ rfl
          refine awp_ret ?_
          refine ⟨rfl, _, _, ⟨_, _, rfl, rfl, rfl⟩, (List.nil_sublist _), ?_⟩
          all_goals exact ⟨rfl, rfl⟩

end Go.Proofs.Ytgfecpjmbgcobaa
namespace Go.Proofs.Ytgfecpjmbgcobaa
open Go.Abs Go.Eu Go.ChangeShapes Go.WideShapes Go.ChangeAt Go.RowKit
set_option linter.unusedVariables false
theorem par4 : ∀ t ∈ Try.f4.params.toList, Try.prog.readableRec t = true ∧ t < Try.prog.types.size := by
  rw [Try.params4]
  intro t ht
  simp only [List.mem_cons, List.not_mem_nil, or_false] at ht
  rcases ht with rfl | rfl
  · exact ⟨by kernel_rfl, of_decide_eq_true (by kernel_rfl)⟩
  · exact ⟨by kernel_rfl, of_decide_eq_true (by kernel_rfl)⟩
set_option maxRecDepth 100000 in
theorem metasSettles_lifted (os : Os) (started : os.Started) (H : Type) (enc : TypeId × Value → H) :
    ReturnsInHanded {} Try.checked os 4 .any (Rows.metasSettlesSpec.pre6 enc Try.prog Try.f4 Rows.metasSettlesRow.domain false) (Rows.metasSettlesSpec.post enc Try.prog Try.f4 false true false false) := by
  refine returnsInHanded_of_change (C := Try.checked) own started (by kernel_rfl) Try.func4
    (ChangeSpec.witness6 (enc := enc) (C := Try.checked) false ⟨#[], #[.slice none 0 0, .agg #[.int .i64 0, .int .i64 0, .string ⟨#[]⟩, .slice none 0 0, .slice none 0 0]], []⟩ 8 (by kernel_rfl) (by kernel_rfl) (by kernel_rfl) (by kernel_rfl)) ?_
  intro W base args ds gs before hval0 hW hcnd _
  have hval : ∀ (j : Nat) t v, Try.f4.params[j]? = some t → args[j]? = some v → Value.okWide Try.prog W .any base t v := hval0
  have hW' := hW
  obtain ⟨p, q, hA0, hV, hps, hfz, hnd⟩ := hW
  have hA : DataW.TrodAll enc Try.prog W 0 (fun _ => true) true Try.f4.params.toList args.toList ds p := hA0
  rw [Try.params4] at hA hval
  obtain ⟨v0, vs0, d0, ds0, p0, q0, hargs, hds, hp0, h0, r0⟩ := trodAll_cons hA
  obtain ⟨v1, vs1, d1, ds1, p1, q1, rfl, rfl, hp1, h1, r1⟩ := trodAll_cons r0
  obtain ⟨rfl, rfl, _⟩ := trodAll_nil r1
  obtain rfl : args = #[v0, v1] := by cases args; simp_all
  subst hds
  obtain ⟨rfl, _⟩ := trodVars_none hV
  obtain ⟨l0, a0, b0, c0⟩ := arg_Ms eut eum (hval 0 22 v0 rfl rfl) h0
  obtain ⟨l1, b1, c1⟩ := arg_T eut (hval 1 26 v1 rfl rfl) h1
  refine (true_calls (settles_c l0 l1 a0 b0 b1) (w := W) (vs := [v0, v1]) ⟨_, _, rfl, c0, ⟨_, _, rfl, c1, rfl⟩⟩).mono fun e W' ⟨he, hb⟩ => ?_
  subst he
  exact ⟨_, rfl, post_below laidOut (tB := 4) (by kernel_rfl) (by kernel_rfl) rfl (par4) hW' rfl rfl rfl hb⟩
theorem metasSettles_holds : Rows.MetasSettlesSaid :=
  OpenClaim.holds_of_wide 4 Try.f4 rfl rfl rfl rfl rfl rfl rfl ⟨rfl, rfl, rfl, rfl, rfl⟩ rfl rfl rfl rfl rfl (by kernel_rfl) Try.func4 (by kernel_rfl)
    (of_decide_eq_true (by kernel_rfl)) (by unfold Func.isWrapper; first | (rw [if_pos (by decide +kernel)]; kernel_rfl) | (rw [if_neg (by decide +kernel)]; exact ⟨rfl, rfl⟩))
    (fun os started H enc _ => metasSettles_lifted os started H enc)
end Go.Proofs.Ytgfecpjmbgcobaa
