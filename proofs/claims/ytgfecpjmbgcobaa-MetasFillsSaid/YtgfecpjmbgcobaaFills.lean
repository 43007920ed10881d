/- MetasFills: Fill and Unknown agree with the reference, for every input. -/
import Derived.Test.YtgfecpjmbgcobaaPt
namespace Go.Proofs.Ytgfecpjmbgcobaa
open Go.Abs Go.Eu
set_option linter.unusedVariables false
set_option linter.unusedSimpArgs false
set_option maxRecDepth 100000
set_option maxHeartbeats 1000000 in
theorem fills_c : ∀ (l : List Mv) (t : Tm), (l.length < wide) → (∀ x ∈ l, WdM x) → (Wd t) → Fun Try.prog 3 [.p (.lst (List.map encM l)), .agg ((encT t).map .p)] (.p (.bool true)) := by
  intro l t h1 h2 h3
  obtain ⟨tk, ti, tn, tl, ts⟩ := t
  refine acalls_of_awp Try.func3 rfl en3 (n := 90) rfl rfl ?_
  refine awp_seq ?_
  refine awp_region ?_
  refine al_new rfl rfl (aop_box rfl) fun b3 => ?_
  refine al_step rfl rfl (aop_assign rfl) ?_
  refine al_end rfl ?_
  refine awp_seq ?_
  refine awp_seq ?_
  refine awp_meetR [0, 3] 35 (fun y => ∃ b : Bool, y = .p (.bool b) ∧ (b = false → GoodP l ∧ nodesL [(.mk tk ti tn tl ts : Tm)] 60 0 ≤ 60 ∧ FewP [(.mk tk ti tn tl ts : Tm)] ∧ wf 65536 l.length 0 (.mk tk ti tn tl ts : Tm))) ?_ ?_
  · refine awp_region ?_
    refine al_step rfl rfl (aop_move rfl) ?_
    refine al_rel rfl rfl (aop_funR rfl rfl (good_c l h1 h2) (.inl rfl)) ?_
    rintro _ ⟨b, rfl, hb⟩
    refine al_step rfl rfl (aop_not rfl) ?_
    refine al_step rfl rfl (aop_move rfl) ?_
    refine al_case 17 rfl (fun g => ?_) (fun g => ?_)
    · (try simp only [sd, se] at g)
      refine al_pass rfl rfl rfl rfl rfl ?_
      refine al_pass rfl rfl rfl rfl rfl ?_
      refine al_pass rfl rfl rfl rfl rfl ?_
      refine al_pass rfl rfl rfl rfl rfl ?_
      refine al_step rfl rfl (aop_pick rfl rfl) ?_
      refine al_step rfl rfl (aop_move rfl) ?_
      refine al_pass rfl rfl rfl rfl rfl ?_
      refine al_pass rfl rfl rfl rfl rfl ?_
      refine al_pass rfl rfl rfl rfl rfl ?_
      refine al_pass rfl rfl rfl rfl rfl ?_
      refine al_step rfl rfl (aop_pick rfl rfl) ?_
      refine al_step rfl rfl (aop_move rfl) ?_
      refine al_pass rfl rfl rfl rfl rfl ?_
      refine al_pass rfl rfl rfl rfl rfl ?_
      refine al_pass rfl rfl rfl rfl rfl ?_
      refine al_pass rfl rfl rfl rfl rfl ?_
      refine al_pass rfl rfl rfl rfl rfl ?_
      refine al_step rfl rfl (aop_pick rfl rfl) ?_
      refine al_end rfl ?_
      exact ⟨rfl, rfl, (by first | exact List.Sublist.refl _ | exact List.sublist_cons_self _ _), (by first | exact ⟨_, rfl, fun h => absurd h (by decide)⟩ | exact ⟨_, rfl, fun h => ⟨hb (by simp_all), by omega, hF, he (by simpa using h)⟩⟩), ⟨rfl, rfl, trivial⟩⟩
    · (try simp only [sd, se] at g)
      refine al_stepg rfl rfl rfl rfl (aop_load_box (i := 0) ty26 rfl rfl rfl) ?_
      refine al_stepg rfl rfl rfl rfl (aop_buildSlice el24 zr26 rfl rfl rfl rfl rfl) ?_
      refine al_stepg rfl rfl rfl rfl (aop_fun rfl rfl (nodesw_c _ [(.mk tk ti tn tl ts : Tm)] 60 (Nat.le_refl _) ⟨h3, trivial⟩ (by simp [wide])) rfl) ?_
      refine al_stepg rfl rfl rfl rfl (aop_cmp rfl rfl rfl) ?_
      refine al_step rfl rfl (aop_pick rfl rfl) ?_
      refine al_step rfl rfl (aop_move rfl) ?_
      refine al_case 23 rfl (fun g1 => ?_) (fun g1 => ?_)
      · (try simp only [sd, se] at g1)
        refine al_pass rfl rfl rfl rfl rfl ?_
        refine al_pass rfl rfl rfl rfl rfl ?_
        refine al_pass rfl rfl rfl rfl rfl ?_
        refine al_pass rfl rfl rfl rfl rfl ?_
        refine al_step rfl rfl (aop_pick rfl rfl) ?_
        refine al_step rfl rfl (aop_move rfl) ?_
        refine al_pass rfl rfl rfl rfl rfl ?_
        refine al_pass rfl rfl rfl rfl rfl ?_
        refine al_pass rfl rfl rfl rfl rfl ?_
        refine al_pass rfl rfl rfl rfl rfl ?_
        refine al_pass rfl rfl rfl rfl rfl ?_
        refine al_step rfl rfl (aop_pick rfl rfl) ?_
        refine al_end rfl ?_
        exact ⟨rfl, rfl, (by first | exact List.Sublist.refl _ | exact List.sublist_cons_self _ _), (by first | exact ⟨_, rfl, fun h => absurd h (by decide)⟩ | exact ⟨_, rfl, fun h => ⟨hb (by simp_all), by omega, hF, he (by simpa using h)⟩⟩), ⟨rfl, rfl, trivial⟩⟩
      · (try simp only [sd, se] at g1)
        refine al_stepg rfl rfl rfl rfl (aop_load_box (i := 0) ty26 rfl rfl rfl) ?_
        refine al_stepg rfl rfl rfl rfl (aop_buildSlice el24 zr26 rfl rfl rfl rfl rfl) ?_
        refine al_relg rfl rfl rfl rfl (aop_funR rfl rfl (few_c _ [(.mk tk ti tn tl ts : Tm)] (Nat.le_refl _) ⟨h3, trivial⟩ (by simp [wide])) (.inl rfl)) ?_
        rintro _ ⟨b1, rfl, hb1⟩
        refine al_stepg rfl rfl rfl rfl (aop_not rfl) ?_
        refine al_step rfl rfl (aop_pick rfl rfl) ?_
        refine al_step rfl rfl (aop_move rfl) ?_
        refine al_case 29 rfl (fun g2 => ?_) (fun g2 => ?_)
        · (try simp only [sd, se] at g2)
          
          refine al_pass rfl rfl rfl rfl rfl ?_
          refine al_pass rfl rfl rfl rfl rfl ?_
          refine al_pass rfl rfl rfl rfl rfl ?_
          refine al_pass rfl rfl rfl rfl rfl ?_
          refine al_pass rfl rfl rfl rfl rfl ?_
          refine al_step rfl rfl (aop_pick rfl rfl) ?_
          refine al_end rfl ?_
          exact ⟨rfl, rfl, (by first | exact List.Sublist.refl _ | exact List.sublist_cons_self _ _), (by first | exact ⟨_, rfl, fun h => absurd h (by decide)⟩ | exact ⟨_, rfl, fun h => ⟨hb (by simp_all), by omega, hF, he (by simpa using h)⟩⟩), ⟨rfl, rfl, trivial⟩⟩
        · (try simp only [sd, se] at g2)
          have hF := hb1 (by simpa using g2)
          refine al_stepg rfl rfl rfl rfl (aop_load_box (i := 0) ty26 rfl rfl rfl) ?_
          refine al_stepg rfl rfl rfl rfl (aop_move rfl) ?_
          refine al_stepg rfl rfl rfl rfl (aop_lenE el22 rfl (List.length_map _)) ?_
          refine al_relg rfl rfl rfl rfl (aop_funR rfl rfl (check3_c (.mk tk ti tn tl ts : Tm) 65536 8 (l.length : Nat) 65536 (fewP_one hF (by simp)).1 (by have := (fewP_one hF (t := (.mk tk ti tn tl ts : Tm)) (by simp)).2; omega)) (.inl rfl)) ?_
          rintro _ ⟨e, rfl, he⟩
          refine al_stepg rfl rfl rfl rfl (aop_cmp rfl rfl rfl) ?_
          refine al_step rfl rfl (aop_pick rfl rfl) ?_
          refine al_end rfl ?_
          exact ⟨rfl, rfl, (by first | exact List.Sublist.refl _ | exact List.sublist_cons_self _ _), (by first | exact ⟨_, rfl, fun h => absurd h (by decide)⟩ | exact ⟨_, rfl, fun h => ⟨hb (by simp_all), by omega, hF, he (by simpa using h)⟩⟩), ⟨rfl, rfl, trivial⟩⟩
  rintro _ ⟨q, rfl, hq⟩
  refine awp_cond rfl (fun c => ?_) (fun c => ?_)
  · have cR := c
    (try simp only [sd, se] at c)
    refine awp_seq ?_
    refine awp_region ?_
    refine al_step rfl rfl (aop_fun rfl rfl (awake_c ) rfl) ?_
    refine al_step rfl rfl (aop_assign rfl) ?_
    refine al_end rfl ?_
    refine awp_ret ?_
    refine ⟨rfl, _, _, ⟨_, _, rfl, rfl, rfl⟩, (List.nil_sublist _), ?_⟩
    all_goals exact ⟨rfl, rfl⟩
  · have cR := c
    (try simp only [sd, se] at c)
    obtain ⟨hg, hq2, hF, hw⟩ := hq (by simpa using c)
    have hsz : size (.mk tk ti tn tl ts : Tm) ≤ 60 := by have := nodes_small hF (by omega) hq2; simp only [sizes] at this; omega
    have hok : Ok 60 (.mk tk ti tn tl ts : Tm) := ok_of (by omega) hw hF.nd.1 hsz (by omega)
    have hgl := hg.len
    refine awp_skip ?_
    refine awp_seq ?_
    refine awp_region ?_
    refine al_step rfl rfl (aop_move rfl) ?_
    refine al_step rfl rfl (aop_load_box (i := 0) ty26 rfl rfl rfl) ?_
    refine al_step rfl rfl (aop_fun rfl rfl (fillPc_c l (.mk tk ti tn tl ts : Tm) 60 548 (by omega) (by omega) (good_ok hg) (by omega) hok (by omega)) rfl) ?_
    refine al_step rfl rfl (aop_move rfl) ?_
    refine al_step rfl rfl (aop_extract rfl rfl) ?_
    refine al_step rfl rfl (aop_extract rfl rfl) ?_
    refine al_new rfl rfl (aop_alloc zr26 rfl) fun b5 => ?_
    refine al_step rfl rfl (aop_store_whole (i := 0) ty26 rfl rfl rfl (by simp [encT_len]) (by first | rfl | simp [encT_len]) (one_Tm _)) ?_
    refine al_step rfl rfl (aop_assign rfl) ?_
    refine al_end rfl ?_
    refine awp_seq ?_
    refine awp_region ?_
    refine al_step rfl rfl (aop_move rfl) ?_
    refine al_step rfl rfl (aop_load_box (i := 1) ty26 rfl rfl rfl) ?_
    refine al_step rfl rfl (aop_fun rfl rfl (unkPc_c l (.mk tk ti tn tl ts : Tm) 60 548 (by omega) (by omega) (good_ok hg) (by omega) hok (by omega)) rfl) ?_
    refine al_step rfl rfl (aop_move rfl) ?_
    refine al_step rfl rfl (aop_extract rfl rfl) ?_
    refine al_step rfl rfl (aop_extract rfl rfl) ?_
    refine al_step rfl rfl (aop_assign rfl) ?_
    refine al_step rfl rfl (aop_assign rfl) ?_
    refine al_end rfl ?_
    refine awp_seq ?_
    refine awp_region ?_
    refine al_newg rfl rfl rfl (.inl ⟨rfl, rfl, rfl⟩) lightG_c (argsW_refl _) fun bc => ?_
    refine al_step rfl rfl (aop_assign rfl) ?_
    refine al_end rfl ?_
    refine awp_seq ?_
    refine awp_region ?_
    refine al_step rfl rfl (aop_move rfl) ?_
    refine al_step rfl rfl (aop_load_box (i := 2) ty26 rfl rfl rfl) ?_
    refine al_step rfl rfl (aop_move rfl) ?_
    refine al_step rfl rfl (aop_retn [0] rfl (.inl ⟨rfl, rfl, rfl⟩) (fillTR2_c 548 (.mk tk ti tn tl ts : Tm) l 60 bc light (by omega) hok.nd hok.wt (by omega) (good_ms hg) (good_mb hg hok.sz) (by omega) (by omega) (by omega)) ⟨_, _, rfl, rfl, rfl⟩ (by decide) rfl (.inl rfl)) ?_
    refine al_step rfl rfl (aop_move rfl) ?_
    refine al_step rfl rfl (aop_extract rfl rfl) ?_
    refine al_step rfl rfl (aop_extract rfl rfl) ?_
    refine al_new rfl rfl (aop_alloc zr26 rfl) fun b10 => ?_
    refine al_step rfl rfl (aop_store_whole (i := 0) ty26 rfl rfl rfl (by simp [encT_len]) (by first | rfl | simp [encT_len]) (one_Tm _)) ?_
    refine al_step rfl rfl (aop_assign rfl) ?_
    refine al_end rfl ?_
    refine awp_seq ?_
    refine awp_seq ?_
    refine awp_region ?_
    refine al_step rfl rfl (aop_move rfl) ?_
    refine al_step rfl rfl (aop_nilCheck rfl) ?_
    refine al_step rfl rfl (aop_field_ptr fd43 rfl rfl) ?_
    refine al_step rfl rfl (aop_load_box1 (i := 1) ty4 rfl rfl rfl) ?_
    refine al_end rfl ?_
    refine awp_cond rfl (fun c1 => ?_) (fun c1 => ?_)
    · have c1R := c1
      (try simp only [sd, se] at c1)
      refine awp_seq ?_
      refine awp_region ?_
      refine al_step rfl rfl (aop_fun rfl rfl (awake_c ) rfl) ?_
      refine al_step rfl rfl (aop_assign rfl) ?_
      refine al_end rfl ?_
      refine awp_ret ?_
      refine ⟨rfl, _, _, ⟨_, _, rfl, rfl, rfl⟩, (List.nil_sublist _), ?_⟩
      all_goals exact ⟨rfl, rfl⟩
    · have c1R := c1
      (try simp only [sd, se] at c1)
      have ho : (fillT l 548 light (.mk tk ti tn tl ts : Tm)).2.2.over = false := by simpa using c1R
      obtain ⟨hfa, hua⟩ := fill_agrees hg hok ho
      refine awp_skip ?_
      refine awp_seq ?_
      refine awp_dr (fun k => Nat.beq k 2) mx0 ?_
      refine dr_free rfl rfl (fun _ => aop_move rfl) trivial ?_
      refine dr_read (j := 3) rfl rfl rfl (fun H i hi => aop_load_box (i := i) ty26 rfl hi rfl) (by repeat' first | exact trivial | refine And.intro ?_ ?_ | ((refine Or.inr (And.intro ?_ ?_) <;> repeat (first | exact List.Mem.head _ | apply List.Mem.tail)); done) | exact Or.inl (by kernel_rfl)) trivial ?_
      refine dr_newg [] 0 rfl rfl rfl (.inl ⟨rfl, rfl, rfl⟩) lightG_c (.inl rfl) (by kernel_rfl) fun bc1 => ⟨(by repeat' first | exact trivial | refine And.intro ?_ ?_ | ((refine Or.inr (And.intro ?_ ?_) <;> repeat (first | exact List.Mem.head _ | apply List.Mem.tail)); done) | exact Or.inl (by kernel_rfl)), trivial, ?_⟩
      refine dr_eff rfl rfl (aop_retn [0] rfl (.inl ⟨rfl, rfl, rfl⟩) (unkR2_c 548 (.mk tk ti tn tl ts : Tm) l 60 bc1 light (by omega) hok.nd hok.wt (by omega) (good_ms hg) (good_mb hg hok.sz) (by omega) (by omega) (by omega) ho) ⟨_, _, rfl, rfl, rfl⟩ (by decide) rfl (.inl rfl)) (by repeat' first | exact trivial | refine And.intro ?_ ?_ | ((refine Or.inr (And.intro ?_ ?_) <;> repeat (first | exact List.Mem.head _ | apply List.Mem.tail)); done) | exact Or.inl (by kernel_rfl)) trivial ?_
      refine dr_free rfl rfl (fun _ => aop_move rfl) trivial ?_
      refine dr_free rfl rfl (fun _ => aop_extract rfl rfl) trivial ?_
      refine dr_free rfl rfl (fun _ => aop_extract rfl rfl) trivial ?_
      refine dr_free rfl rfl (fun _ => aop_assign rfl) trivial ?_
      refine dr_free rfl rfl (fun _ => aop_assign rfl) trivial ?_
      refine dr_end rfl (by kernel_rfl) ?_
      refine awp_seq ?_
      refine awp_meetR [] 4 (fun y => y = .p (.bool true)) ?_ ?_
      · refine awp_region ?_
        refine al_step rfl rfl (aop_load_box (i := 3) ty26 rfl rfl (by simp [encT_len])) ?_
        refine al_step rfl rfl (aop_load_box (i := 1) ty26 rfl rfl (by simp [encT_len])) ?_
        refine al_step rfl rfl (aop_fun rfl rfl (same_c _ ((fillPT l 548 (.mk tk ti tn tl ts : Tm)).1) ((fillT l 548 light (.mk tk ti tn tl ts : Tm)).1) (Nat.le_refl _) (fillPT_good (by omega) (good_ok hg) hok).nd) rfl) ?_
        refine al_step rfl rfl (aop_move rfl) ?_
        refine al_case 72 rfl (fun g => ?_) (fun g => ?_)
        · (try simp only [sd, se] at g)
          refine al_stepg rfl rfl rfl rfl (aop_move rfl) ?_
          refine al_stepg rfl rfl rfl rfl (aop_move rfl) ?_
          refine al_stepg rfl rfl rfl rfl (aop_cmp rfl rfl rfl) ?_
          refine al_step rfl rfl (aop_pick rfl rfl) ?_
          refine al_step rfl rfl (aop_move rfl) ?_
          refine al_case 77 rfl (fun g1 => ?_) (fun g1 => ?_)
          · (try simp only [sd, se] at g1)
            refine al_stepg rfl rfl rfl rfl (aop_move rfl) ?_
            refine al_stepg rfl rfl rfl rfl (aop_move rfl) ?_
            refine al_stepg rfl rfl rfl rfl (aop_fun rfl rfl (equalI_c ((unkPT l 548 (.mk tk ti tn tl ts : Tm)).1) ((unkW l 548 light (.mk tk ti tn tl ts : Tm)).1) (by have := unkPT_len (n := 548) (by omega) (good_ok hg) hok; simp only [big]; omega)) rfl) ?_
            refine al_step rfl rfl (aop_pick rfl rfl) ?_
            refine al_step rfl rfl (aop_move rfl) ?_
            refine al_case 82 rfl (fun g2 => ?_) (fun g2 => ?_)
            · (try simp only [sd, se] at g2)
              refine al_stepg rfl rfl rfl rfl (aop_move rfl) ?_
              refine al_stepg rfl rfl rfl rfl (aop_move rfl) ?_
              refine al_stepg rfl rfl rfl rfl (aop_cmp rfl rfl rfl) ?_
              refine al_step rfl rfl (aop_pick rfl rfl) ?_
              refine al_step rfl rfl (aop_move rfl) ?_
              refine al_case 87 rfl (fun g3 => ?_) (fun g3 => ?_)
              · (try simp only [sd, se] at g3)
                refine al_stepg rfl rfl rfl rfl (aop_fun rfl rfl (awake_c ) rfl) ?_
                refine al_step rfl rfl (aop_pick rfl rfl) ?_
                refine al_step rfl rfl (aop_assign rfl) ?_
                refine al_end rfl ?_
                exact ⟨rfl, rfl, (by first | exact List.Sublist.refl _ | exact List.sublist_cons_self _ _), (by first | rfl | (refine pB ?_; simp_all [eqB]; done)), trivial⟩
              · (try simp only [sd, se] at g3)
                refine al_pass rfl rfl rfl rfl rfl ?_
                refine al_step rfl rfl (aop_pick rfl rfl) ?_
                refine al_step rfl rfl (aop_assign rfl) ?_
                refine al_end rfl ?_
                exact ⟨rfl, rfl, (by first | exact List.Sublist.refl _ | exact List.sublist_cons_self _ _), (by first | rfl | (refine pB ?_; simp_all [eqB]; done)), trivial⟩
            · (try simp only [sd, se] at g2)
              refine al_pass rfl rfl rfl rfl rfl ?_
              refine al_pass rfl rfl rfl rfl rfl ?_
              refine al_pass rfl rfl rfl rfl rfl ?_
              refine al_step rfl rfl (aop_pick rfl rfl) ?_
              refine al_step rfl rfl (aop_move rfl) ?_
              refine al_pass rfl rfl rfl rfl rfl ?_
              refine al_step rfl rfl (aop_pick rfl rfl) ?_
              refine al_step rfl rfl (aop_assign rfl) ?_
              refine al_end rfl ?_
              exact ⟨rfl, rfl, (by first | exact List.Sublist.refl _ | exact List.sublist_cons_self _ _), (by first | rfl | (refine pB ?_; simp_all [eqB]; done)), trivial⟩
          · (try simp only [sd, se] at g1)
            refine al_pass rfl rfl rfl rfl rfl ?_
            refine al_pass rfl rfl rfl rfl rfl ?_
            refine al_pass rfl rfl rfl rfl rfl ?_
            refine al_step rfl rfl (aop_pick rfl rfl) ?_
            refine al_step rfl rfl (aop_move rfl) ?_
            refine al_pass rfl rfl rfl rfl rfl ?_
            refine al_pass rfl rfl rfl rfl rfl ?_
            refine al_pass rfl rfl rfl rfl rfl ?_
            refine al_step rfl rfl (aop_pick rfl rfl) ?_
            refine al_step rfl rfl (aop_move rfl) ?_
            refine al_pass rfl rfl rfl rfl rfl ?_
            refine al_step rfl rfl (aop_pick rfl rfl) ?_
            refine al_step rfl rfl (aop_assign rfl) ?_
            refine al_end rfl ?_
            exact ⟨rfl, rfl, (by first | exact List.Sublist.refl _ | exact List.sublist_cons_self _ _), (by first | rfl | (refine pB ?_; simp_all [eqB]; done)), trivial⟩
        · (try simp only [sd, se] at g)
          refine al_pass rfl rfl rfl rfl rfl ?_
          refine al_pass rfl rfl rfl rfl rfl ?_
          refine al_pass rfl rfl rfl rfl rfl ?_
          refine al_step rfl rfl (aop_pick rfl rfl) ?_
          refine al_step rfl rfl (aop_move rfl) ?_
          refine al_pass rfl rfl rfl rfl rfl ?_
          refine al_pass rfl rfl rfl rfl rfl ?_
          refine al_pass rfl rfl rfl rfl rfl ?_
          refine al_step rfl rfl (aop_pick rfl rfl) ?_
          refine al_step rfl rfl (aop_move rfl) ?_
          refine al_pass rfl rfl rfl rfl rfl ?_
          refine al_pass rfl rfl rfl rfl rfl ?_
          refine al_pass rfl rfl rfl rfl rfl ?_
          refine al_step rfl rfl (aop_pick rfl rfl) ?_
          refine al_step rfl rfl (aop_move rfl) ?_
          refine al_pass rfl rfl rfl rfl rfl ?_
          refine al_step rfl rfl (aop_pick rfl rfl) ?_
          refine al_step rfl rfl (aop_assign rfl) ?_
          refine al_end rfl ?_
          exact ⟨rfl, rfl, (by first | exact List.Sublist.refl _ | exact List.sublist_cons_self _ _), (by first | rfl | (refine pB ?_; simp_all [eqB]; done)), trivial⟩
      rintro _ rfl
      refine awp_ret ?_
      refine ⟨rfl, _, _, ⟨_, _, rfl, rfl, rfl⟩, (List.nil_sublist _), ?_⟩
      all_goals exact ⟨rfl, rfl⟩

end Go.Proofs.Ytgfecpjmbgcobaa
namespace Go.Proofs.Ytgfecpjmbgcobaa
open Go.Abs Go.Eu Go.ChangeShapes Go.WideShapes Go.ChangeAt Go.RowKit
set_option linter.unusedVariables false
theorem par3 : ∀ t ∈ Try.f3.params.toList, Try.prog.readableRec t = true ∧ t < Try.prog.types.size := by
  rw [Try.params3]
  intro t ht
  simp only [List.mem_cons, List.not_mem_nil, or_false] at ht
  rcases ht with rfl | rfl
  · exact ⟨by kernel_rfl, of_decide_eq_true (by kernel_rfl)⟩
  · exact ⟨by kernel_rfl, of_decide_eq_true (by kernel_rfl)⟩
set_option maxRecDepth 100000 in
theorem metasFills_lifted (os : Os) (started : os.Started) (H : Type) (enc : TypeId × Value → H) :
    ReturnsInHanded {} Try.checked os 3 .any (Rows.metasFillsSpec.pre6 enc Try.prog Try.f3 Rows.metasFillsRow.domain false) (Rows.metasFillsSpec.post enc Try.prog Try.f3 false true false false) := by
  refine returnsInHanded_of_change (C := Try.checked) own started (by kernel_rfl) Try.func3
    (ChangeSpec.witness6 (enc := enc) (C := Try.checked) false ⟨#[], #[.slice none 0 0, .agg #[.int .i64 0, .int .i64 0, .string ⟨#[]⟩, .slice none 0 0, .slice none 0 0]], []⟩ 8 (by kernel_rfl) (by kernel_rfl) (by kernel_rfl) (by kernel_rfl)) ?_
  intro W base args ds gs before hval0 hW hcnd _
  have hval : ∀ (j : Nat) t v, Try.f3.params[j]? = some t → args[j]? = some v → Value.okWide Try.prog W .any base t v := hval0
  have hW' := hW
  obtain ⟨p, q, hA0, hV, hps, hfz, hnd⟩ := hW
  have hA : DataW.TrodAll enc Try.prog W 0 (fun _ => true) true Try.f3.params.toList args.toList ds p := hA0
  rw [Try.params3] at hA hval
  obtain ⟨v0, vs0, d0, ds0, p0, q0, hargs, hds, hp0, h0, r0⟩ := trodAll_cons hA
  obtain ⟨v1, vs1, d1, ds1, p1, q1, rfl, rfl, hp1, h1, r1⟩ := trodAll_cons r0
  obtain ⟨rfl, rfl, _⟩ := trodAll_nil r1
  obtain rfl : args = #[v0, v1] := by cases args; simp_all
  subst hds
  obtain ⟨rfl, _⟩ := trodVars_none hV
  obtain ⟨l0, a0, b0, c0⟩ := arg_Ms eut eum (hval 0 22 v0 rfl rfl) h0
  obtain ⟨l1, b1, c1⟩ := arg_T eut (hval 1 26 v1 rfl rfl) h1
  refine (true_calls (fills_c l0 l1 a0 b0 b1) (w := W) (vs := [v0, v1]) ⟨_, _, rfl, c0, ⟨_, _, rfl, c1, rfl⟩⟩).mono fun e W' ⟨he, hb⟩ => ?_
  subst he
  exact ⟨_, rfl, post_below laidOut (tB := 4) (by kernel_rfl) (by kernel_rfl) rfl (par3) hW' rfl rfl rfl hb⟩
theorem metasFills_holds : Rows.MetasFillsSaid :=
  OpenClaim.holds_of_wide 3 Try.f3 rfl rfl rfl rfl rfl rfl rfl ⟨rfl, rfl, rfl, rfl, rfl⟩ rfl rfl rfl rfl rfl (by kernel_rfl) Try.func3 (by kernel_rfl)
    (of_decide_eq_true (by kernel_rfl)) (by unfold Func.isWrapper; first | (rw [if_pos (by decide +kernel)]; kernel_rfl) | (rw [if_neg (by decide +kernel)]; exact ⟨rfl, rfl⟩))
    (fun os started H enc _ => metasFills_lifted os started H enc)
end Go.Proofs.Ytgfecpjmbgcobaa
