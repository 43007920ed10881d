/- MetasCreates: New and Pattern agree with the reference, for every input. -/
import Derived.Test.YtgfecpjmbgcobaaPt
namespace Go.Proofs.Ytgfecpjmbgcobaa
open Go.Abs Go.Eu
set_option linter.unusedVariables false
set_option linter.unusedSimpArgs false
set_option maxRecDepth 100000
set_option maxHeartbeats 1000000 in
theorem creates_c : ∀ (l : List Mv) (ctx : List Tm) (t : Tm), (l.length < wide) → (∀ x ∈ l, WdM x) → (ctx.length < wide) → (Wds ctx) → (Wd t) → Fun Try.prog 5 [.p (.lst (List.map encM l)), .p (.lst (encTs ctx)), .agg ((encT t).map .p)] (.p (.bool true)) := by
  intro l ctx t h1 h2 h3 h4 h5
  obtain ⟨tk, ti, tn, tl, ts⟩ := t
  refine acalls_of_awp Try.func5 rfl en5 (n := 97) rfl rfl ?_
  refine awp_seq ?_
  refine awp_region ?_
  refine al_new rfl rfl (aop_box rfl) fun b5 => ?_
  refine al_step rfl rfl (aop_assign rfl) ?_
  refine al_end rfl ?_
  refine awp_seq ?_
  refine awp_seq ?_
  refine awp_meetR [0, 1, 5] 30 (fun y => ∃ b : Bool, y = .p (.bool b) ∧ (b = false → GoodP l ∧ SmallP l.length ctx [(.mk tk ti tn tl ts : Tm)])) ?_ ?_
  · refine awp_region ?_
    refine al_step rfl rfl (aop_move rfl) ?_
    refine al_rel rfl rfl (aop_funR rfl rfl (good_c l h1 h2) (.inl rfl)) ?_
    rintro _ ⟨b, rfl, hb⟩
    refine al_step rfl rfl (aop_not rfl) ?_
    refine al_step rfl rfl (aop_move rfl) ?_
    refine al_case 23 rfl (fun g => ?_) (fun g => ?_)
    · (try simp only [sd, se] at g)
      
      refine al_pass rfl rfl rfl rfl rfl ?_
      refine al_pass rfl rfl rfl rfl rfl ?_
      refine al_pass rfl rfl rfl rfl rfl ?_
      refine al_pass rfl rfl rfl rfl rfl ?_
      refine al_pass rfl rfl rfl rfl rfl ?_
      refine al_pass rfl rfl rfl rfl rfl ?_
      refine al_step rfl rfl (aop_pick rfl rfl) ?_
      refine al_end rfl ?_
      exact ⟨rfl, rfl, (by first | exact List.Sublist.refl _ | exact List.sublist_cons_self _ _), (by first | exact ⟨_, rfl, fun h => absurd h (by decide)⟩ | exact ⟨_, rfl, fun h => ⟨hG, hb1 (by simpa using h)⟩⟩), ⟨rfl, rfl, rfl, trivial⟩⟩
    · (try simp only [sd, se] at g)
      have hG := hb (by simpa using g)
      refine al_stepg rfl rfl rfl rfl (aop_move rfl) ?_
      refine al_stepg rfl rfl rfl rfl (aop_move rfl) ?_
      refine al_stepg rfl rfl rfl rfl (aop_load_box (i := 0) ty26 rfl rfl rfl) ?_
      refine al_stepg rfl rfl rfl rfl (aop_buildSlice el24 zr26 rfl rfl rfl rfl rfl) ?_
      refine al_relg rfl rfl rfl rfl (aop_funR rfl rfl (small_c l ctx [(.mk tk ti tn tl ts : Tm)] hG.len h3 h4 (by simp [wide]) ⟨h5, trivial⟩) (.inl rfl)) ?_
      rintro _ ⟨b1, rfl, hb1⟩
      refine al_stepg rfl rfl rfl rfl (aop_not rfl) ?_
      refine al_step rfl rfl (aop_pick rfl rfl) ?_
      refine al_end rfl ?_
      exact ⟨rfl, rfl, (by first | exact List.Sublist.refl _ | exact List.sublist_cons_self _ _), (by first | exact ⟨_, rfl, fun h => absurd h (by decide)⟩ | exact ⟨_, rfl, fun h => ⟨hG, hb1 (by simpa using h)⟩⟩), ⟨rfl, rfl, rfl, trivial⟩⟩
  rintro _ ⟨q, rfl, hq⟩
  refine awp_cond rfl (fun c => ?_) (fun c => ?_)
  · have cR := c
    (try simp only [sd, se] at c)
    refine awp_seq ?_
    refine awp_region ?_
    refine al_step rfl rfl (aop_fun rfl rfl (awake_c ) rfl) ?_
    refine al_step rfl rfl (aop_assign rfl) ?_
    refine al_end rfl ?_
    refine awp_ret ?_
    refine ⟨rfl, _, _, ⟨_, _, rfl, rfl, rfl⟩, (List.nil_sublist _), ?_⟩
    all_goals exact ⟨rfl, rfl⟩
  · have cR := c
    (try simp only [sd, se] at c)
    obtain ⟨hg, hs⟩ := hq (by simpa using c)
    have hsz : size (.mk tk ti tn tl ts : Tm) ≤ 60 := by have := hs.s2; simp only [sizes] at this; omega
    have hnw := fun cl => newW_nd (cl := cl) (good_nd hg) hg.len hs.n1 (by have := hs.len; omega) hs.n2.1
    refine awp_skip ?_
    refine awp_seq ?_
    refine awp_region ?_
    refine al_step rfl rfl (aop_move rfl) ?_
    refine al_step rfl rfl (aop_lenE el24 rfl (encTs_len _)) ?_
    refine al_step rfl rfl (aop_rem rfl rfl (by decide)) ?_
    refine al_step rfl rfl (aop_cmp rfl rfl rfl) ?_
    refine al_step rfl rfl (aop_assign rfl) ?_
    refine al_end rfl ?_
    refine awp_seq ?_
    refine awp_region ?_
    refine al_step rfl rfl (aop_move rfl) ?_
    refine al_step rfl rfl (aop_move rfl) ?_
    refine al_step rfl rfl (aop_load_box (i := 0) ty26 rfl rfl rfl) ?_
    refine al_step rfl rfl (aop_move rfl) ?_
    refine al_step rfl rfl (aop_fun rfl rfl (newP_c l ctx (.mk tk ti tn tl ts : Tm) (((((ctx.length : Nat) : Int)).tmod (2 : Int) : Int) == (1 : Int)) (by have := hg.len; omega) hs.n1 hs.n2.1 (by have := hs.len; simp only [big]; omega) (by rw [binds_size]; have := hs.len; have := hs.s1; have := hs.s2; simp only [sizes] at this; omega)) rfl) ?_
    refine al_step rfl rfl (aop_move rfl) ?_
    refine al_step rfl rfl (aop_extract rfl rfl) ?_
    refine al_step rfl rfl (aop_extract rfl rfl) ?_
    refine al_step rfl rfl (aop_extract rfl rfl) ?_
    refine al_new rfl rfl (aop_alloc zr26 rfl) fun b9 => ?_
    refine al_step rfl rfl (aop_assign rfl) ?_
    refine al_step rfl rfl (aop_store_whole (i := 0) ty26 rfl rfl rfl (by simp [encT_len]) (by first | rfl | simp [encT_len]) (one_Tm _)) ?_
    refine al_step rfl rfl (aop_assign rfl) ?_
    refine al_end rfl ?_
    refine awp_seq ?_
    refine awp_region ?_
    refine al_step rfl rfl (aop_move rfl) ?_
    refine al_step rfl rfl (aop_move rfl) ?_
    refine al_step rfl rfl (aop_load_box (i := 1) ty26 rfl rfl rfl) ?_
    refine al_step rfl rfl (aop_move rfl) ?_
    refine al_step rfl rfl (aop_fun rfl rfl (newR_c l ctx (.mk tk ti tn tl ts : Tm) (((((ctx.length : Nat) : Int)).tmod (2 : Int) : Int) == (1 : Int)) (by have := hg.len; omega) hs.n1 hs.n2.1 (by have := hs.len; simp only [big]; omega)) rfl) ?_
    refine al_step rfl rfl (aop_move rfl) ?_
    refine al_step rfl rfl (aop_extract rfl rfl) ?_
    refine al_step rfl rfl (aop_extract rfl rfl) ?_
    refine al_step rfl rfl (aop_extract rfl rfl) ?_
    refine al_new rfl rfl (aop_alloc zr26 rfl) fun b12 => ?_
    refine al_step rfl rfl (aop_assign rfl) ?_
    refine al_step rfl rfl (aop_store_whole (i := 0) ty26 rfl rfl rfl (by simp [encT_len]) (by first | rfl | simp [encT_len]) (one_Tm _)) ?_
    refine al_step rfl rfl (aop_assign rfl) ?_
    refine al_end rfl ?_
    refine awp_seq ?_
    refine awp_region ?_
    refine al_step rfl rfl (aop_load_box (i := 2) ty26 rfl rfl rfl) ?_
    refine al_step rfl rfl (aop_fun rfl rfl (patternP_c (.mk tk ti tn tl ts : Tm) hs.n2.1 (by simp only [big]; omega)) rfl) ?_
    refine al_step rfl rfl (aop_move rfl) ?_
    refine al_step rfl rfl (aop_extract rfl rfl) ?_
    refine al_step rfl rfl (aop_extract rfl rfl) ?_
    refine al_step rfl rfl (aop_extract rfl rfl) ?_
    refine al_step rfl rfl (aop_assign rfl) ?_
    refine al_step rfl rfl (aop_assign rfl) ?_
    refine al_step rfl rfl (aop_assign rfl) ?_
    refine al_end rfl ?_
    refine awp_seq ?_
    refine awp_region ?_
    refine al_step rfl rfl (aop_load_box (i := 2) ty26 rfl rfl rfl) ?_
    refine al_step rfl rfl (aop_fun rfl rfl (patternR_c (.mk tk ti tn tl ts : Tm) hs.n2.1 (by simp only [big]; omega)) rfl) ?_
    refine al_step rfl rfl (aop_move rfl) ?_
    refine al_step rfl rfl (aop_extract rfl rfl) ?_
    refine al_step rfl rfl (aop_extract rfl rfl) ?_
    refine al_step rfl rfl (aop_extract rfl rfl) ?_
    refine al_step rfl rfl (aop_assign rfl) ?_
    refine al_step rfl rfl (aop_assign rfl) ?_
    refine al_step rfl rfl (aop_assign rfl) ?_
    refine al_end rfl ?_
    refine awp_seq ?_
    refine awp_meetR [] 6 (fun y => y = .p (.bool true)) ?_ ?_
    · refine awp_region ?_
      refine al_step rfl rfl (aop_move rfl) ?_
      refine al_step rfl rfl (aop_move rfl) ?_
      refine al_step rfl rfl (aop_fun rfl rfl (same28_c ((newW l ctx (.mk tk ti tn tl ts : Tm) (((((ctx.length : Nat) : Int)).tmod (2 : Int) : Int) == (1 : Int))).1) ((newW l ctx (.mk tk ti tn tl ts : Tm) (((((ctx.length : Nat) : Int)).tmod (2 : Int) : Int) == (1 : Int))).1) (by simp only [big]; exact Nat.lt_of_le_of_lt (hnw _).2.1 (by decide)) (hnw _).1) rfl) ?_
      refine al_step rfl rfl (aop_move rfl) ?_
      refine al_case 69 rfl (fun g => ?_) (fun g => ?_)
      · (try simp only [sd, se] at g)
        refine al_stepg rfl rfl rfl rfl (aop_load_box (i := 1) ty26 rfl rfl (by simp [encT_len])) ?_
        refine al_stepg rfl rfl rfl rfl (aop_load_box (i := 0) ty26 rfl rfl (by simp [encT_len])) ?_
        refine al_stepg rfl rfl rfl rfl (aop_fun rfl rfl (same_c _ ((newW l ctx (.mk tk ti tn tl ts : Tm) (((((ctx.length : Nat) : Int)).tmod (2 : Int) : Int) == (1 : Int))).2.1) ((newW l ctx (.mk tk ti tn tl ts : Tm) (((((ctx.length : Nat) : Int)).tmod (2 : Int) : Int) == (1 : Int))).2.1) (Nat.le_refl _) (hnw _).2.2) rfl) ?_
        refine al_step rfl rfl (aop_pick rfl rfl) ?_
        refine al_step rfl rfl (aop_move rfl) ?_
        refine al_case 74 rfl (fun g1 => ?_) (fun g1 => ?_)
        · (try simp only [sd, se] at g1)
          refine al_stepg rfl rfl rfl rfl (aop_move rfl) ?_
          refine al_stepg rfl rfl rfl rfl (aop_move rfl) ?_
          refine al_stepg rfl rfl rfl rfl (aop_cmp rfl rfl rfl) ?_
          refine al_step rfl rfl (aop_pick rfl rfl) ?_
          refine al_step rfl rfl (aop_move rfl) ?_
          refine al_case 79 rfl (fun g2 => ?_) (fun g2 => ?_)
          · (try simp only [sd, se] at g2)
            refine al_stepg rfl rfl rfl rfl (aop_move rfl) ?_
            refine al_stepg rfl rfl rfl rfl (aop_move rfl) ?_
            refine al_stepg rfl rfl rfl rfl (aop_cmp rfl rfl rfl) ?_
            refine al_step rfl rfl (aop_pick rfl rfl) ?_
            refine al_step rfl rfl (aop_move rfl) ?_
            refine al_case 84 rfl (fun g3 => ?_) (fun g3 => ?_)
            · (try simp only [sd, se] at g3)
              refine al_stepg rfl rfl rfl rfl (aop_move rfl) ?_
              refine al_stepg rfl rfl rfl rfl (aop_move rfl) ?_
              refine al_stepg rfl rfl rfl rfl (aop_fun rfl rfl (equalI_c ((patW (.mk tk ti tn tl ts : Tm)).2.1) ((patW (.mk tk ti tn tl ts : Tm)).2.1) (by have := patW_len (.mk tk ti tn tl ts : Tm); have := spine_len (.mk tk ti tn tl ts : Tm); simp only [big]; omega)) rfl) ?_
              refine al_step rfl rfl (aop_pick rfl rfl) ?_
              refine al_step rfl rfl (aop_move rfl) ?_
              refine al_case 89 rfl (fun g4 => ?_) (fun g4 => ?_)
              · (try simp only [sd, se] at g4)
                refine al_stepg rfl rfl rfl rfl (aop_move rfl) ?_
                refine al_stepg rfl rfl rfl rfl (aop_move rfl) ?_
                refine al_stepg rfl rfl rfl rfl (aop_booleq un4 rfl rfl) ?_
                refine al_step rfl rfl (aop_pick rfl rfl) ?_
                refine al_step rfl rfl (aop_move rfl) ?_
                refine al_case 94 rfl (fun g5 => ?_) (fun g5 => ?_)
                · (try simp only [sd, se] at g5)
                  refine al_stepg rfl rfl rfl rfl (aop_fun rfl rfl (awake_c ) rfl) ?_
                  refine al_step rfl rfl (aop_pick rfl rfl) ?_
                  refine al_step rfl rfl (aop_assign rfl) ?_
                  refine al_end rfl ?_
                  exact ⟨rfl, rfl, (by first | exact List.Sublist.refl _ | exact List.sublist_cons_self _ _), (by first | rfl | (refine absurd g ?_; simp [eqB]; done) | (refine absurd g1 ?_; simp [eqB]; done) | (refine absurd g2 ?_; simp [eqB]; done) | (refine absurd g3 ?_; simp [eqB]; done) | (refine absurd g4 ?_; simp [eqB]; done) | (refine absurd g5 ?_; simp [eqB]; done) | (refine absurd g6 ?_; simp [eqB]; done)), trivial⟩
                · (try simp only [sd, se] at g5)
                  refine al_pass rfl rfl rfl rfl rfl ?_
                  refine al_step rfl rfl (aop_pick rfl rfl) ?_
                  refine al_step rfl rfl (aop_assign rfl) ?_
                  refine al_end rfl ?_
                  exact ⟨rfl, rfl, (by first | exact List.Sublist.refl _ | exact List.sublist_cons_self _ _), (by first | rfl | (refine absurd g ?_; simp [eqB]; done) | (refine absurd g1 ?_; simp [eqB]; done) | (refine absurd g2 ?_; simp [eqB]; done) | (refine absurd g3 ?_; simp [eqB]; done) | (refine absurd g4 ?_; simp [eqB]; done) | (refine absurd g5 ?_; simp [eqB]; done) | (refine absurd g6 ?_; simp [eqB]; done)), trivial⟩
              · (try simp only [sd, se] at g4)
                refine al_pass rfl rfl rfl rfl rfl ?_
                refine al_pass rfl rfl rfl rfl rfl ?_
                refine al_pass rfl rfl rfl rfl rfl ?_
                refine al_step rfl rfl (aop_pick rfl rfl) ?_
                refine al_step rfl rfl (aop_move rfl) ?_
                refine al_pass rfl rfl rfl rfl rfl ?_
                refine al_step rfl rfl (aop_pick rfl rfl) ?_
                refine al_step rfl rfl (aop_assign rfl) ?_
                refine al_end rfl ?_
                exact ⟨rfl, rfl, (by first | exact List.Sublist.refl _ | exact List.sublist_cons_self _ _), (by first | rfl | (refine absurd g ?_; simp [eqB]; done) | (refine absurd g1 ?_; simp [eqB]; done) | (refine absurd g2 ?_; simp [eqB]; done) | (refine absurd g3 ?_; simp [eqB]; done) | (refine absurd g4 ?_; simp [eqB]; done) | (refine absurd g5 ?_; simp [eqB]; done) | (refine absurd g6 ?_; simp [eqB]; done)), trivial⟩
            · (try simp only [sd, se] at g3)
              refine al_pass rfl rfl rfl rfl rfl ?_
              refine al_pass rfl rfl rfl rfl rfl ?_
              refine al_pass rfl rfl rfl rfl rfl ?_
              refine al_step rfl rfl (aop_pick rfl rfl) ?_
              refine al_step rfl rfl (aop_move rfl) ?_
              refine al_pass rfl rfl rfl rfl rfl ?_
              refine al_pass rfl rfl rfl rfl rfl ?_
              refine al_pass rfl rfl rfl rfl rfl ?_
              refine al_step rfl rfl (aop_pick rfl rfl) ?_
              refine al_step rfl rfl (aop_move rfl) ?_
              refine al_pass rfl rfl rfl rfl rfl ?_
              refine al_step rfl rfl (aop_pick rfl rfl) ?_
              refine al_step rfl rfl (aop_assign rfl) ?_
              refine al_end rfl ?_
              exact ⟨rfl, rfl, (by first | exact List.Sublist.refl _ | exact List.sublist_cons_self _ _), (by first | rfl | (refine absurd g ?_; simp [eqB]; done) | (refine absurd g1 ?_; simp [eqB]; done) | (refine absurd g2 ?_; simp [eqB]; done) | (refine absurd g3 ?_; simp [eqB]; done) | (refine absurd g4 ?_; simp [eqB]; done) | (refine absurd g5 ?_; simp [eqB]; done) | (refine absurd g6 ?_; simp [eqB]; done)), trivial⟩
          · (try simp only [sd, se] at g2)
            refine al_pass rfl rfl rfl rfl rfl ?_
            refine al_pass rfl rfl rfl rfl rfl ?_
            refine al_pass rfl rfl rfl rfl rfl ?_
            refine al_step rfl rfl (aop_pick rfl rfl) ?_
            refine al_step rfl rfl (aop_move rfl) ?_
            refine al_pass rfl rfl rfl rfl rfl ?_
            refine al_pass rfl rfl rfl rfl rfl ?_
            refine al_pass rfl rfl rfl rfl rfl ?_
            refine al_step rfl rfl (aop_pick rfl rfl) ?_
            refine al_step rfl rfl (aop_move rfl) ?_
            refine al_pass rfl rfl rfl rfl rfl ?_
            refine al_pass rfl rfl rfl rfl rfl ?_
            refine al_pass rfl rfl rfl rfl rfl ?_
            refine al_step rfl rfl (aop_pick rfl rfl) ?_
            refine al_step rfl rfl (aop_move rfl) ?_
            refine al_pass rfl rfl rfl rfl rfl ?_
            refine al_step rfl rfl (aop_pick rfl rfl) ?_
            refine al_step rfl rfl (aop_assign rfl) ?_
            refine al_end rfl ?_
            exact ⟨rfl, rfl, (by first | exact List.Sublist.refl _ | exact List.sublist_cons_self _ _), (by first | rfl | (refine absurd g ?_; simp [eqB]; done) | (refine absurd g1 ?_; simp [eqB]; done) | (refine absurd g2 ?_; simp [eqB]; done) | (refine absurd g3 ?_; simp [eqB]; done) | (refine absurd g4 ?_; simp [eqB]; done) | (refine absurd g5 ?_; simp [eqB]; done) | (refine absurd g6 ?_; simp [eqB]; done)), trivial⟩
        · (try simp only [sd, se] at g1)
          refine al_pass rfl rfl rfl rfl rfl ?_
          refine al_pass rfl rfl rfl rfl rfl ?_
          refine al_pass rfl rfl rfl rfl rfl ?_
          refine al_step rfl rfl (aop_pick rfl rfl) ?_
          refine al_step rfl rfl (aop_move rfl) ?_
          refine al_pass rfl rfl rfl rfl rfl ?_
          refine al_pass rfl rfl rfl rfl rfl ?_
          refine al_pass rfl rfl rfl rfl rfl ?_
          refine al_step rfl rfl (aop_pick rfl rfl) ?_
          refine al_step rfl rfl (aop_move rfl) ?_
          refine al_pass rfl rfl rfl rfl rfl ?_
          refine al_pass rfl rfl rfl rfl rfl ?_
          refine al_pass rfl rfl rfl rfl rfl ?_
          refine al_step rfl rfl (aop_pick rfl rfl) ?_
          refine al_step rfl rfl (aop_move rfl) ?_
          refine al_pass rfl rfl rfl rfl rfl ?_
          refine al_pass rfl rfl rfl rfl rfl ?_
          refine al_pass rfl rfl rfl rfl rfl ?_
          refine al_step rfl rfl (aop_pick rfl rfl) ?_
          refine al_step rfl rfl (aop_move rfl) ?_
          refine al_pass rfl rfl rfl rfl rfl ?_
          refine al_step rfl rfl (aop_pick rfl rfl) ?_
          refine al_step rfl rfl (aop_assign rfl) ?_
          refine al_end rfl ?_
          exact ⟨rfl, rfl, (by first | exact List.Sublist.refl _ | exact List.sublist_cons_self _ _), (by first | rfl | (refine absurd g ?_; simp [eqB]; done) | (refine absurd g1 ?_; simp [eqB]; done) | (refine absurd g2 ?_; simp [eqB]; done) | (refine absurd g3 ?_; simp [eqB]; done) | (refine absurd g4 ?_; simp [eqB]; done) | (refine absurd g5 ?_; simp [eqB]; done) | (refine absurd g6 ?_; simp [eqB]; done)), trivial⟩
      · (try simp only [sd, se] at g)
        refine al_pass rfl rfl rfl rfl rfl ?_
        refine al_pass rfl rfl rfl rfl rfl ?_
        refine al_pass rfl rfl rfl rfl rfl ?_
        refine al_step rfl rfl (aop_pick rfl rfl) ?_
        refine al_step rfl rfl (aop_move rfl) ?_
        refine al_pass rfl rfl rfl rfl rfl ?_
        refine al_pass rfl rfl rfl rfl rfl ?_
        refine al_pass rfl rfl rfl rfl rfl ?_
        refine al_step rfl rfl (aop_pick rfl rfl) ?_
        refine al_step rfl rfl (aop_move rfl) ?_
        refine al_pass rfl rfl rfl rfl rfl ?_
        refine al_pass rfl rfl rfl rfl rfl ?_
        refine al_pass rfl rfl rfl rfl rfl ?_
        refine al_step rfl rfl (aop_pick rfl rfl) ?_
        refine al_step rfl rfl (aop_move rfl) ?_
        refine al_pass rfl rfl rfl rfl rfl ?_
        refine al_pass rfl rfl rfl rfl rfl ?_
        refine al_pass rfl rfl rfl rfl rfl ?_
        refine al_step rfl rfl (aop_pick rfl rfl) ?_
        refine al_step rfl rfl (aop_move rfl) ?_
        refine al_pass rfl rfl rfl rfl rfl ?_
        refine al_pass rfl rfl rfl rfl rfl ?_
        refine al_pass rfl rfl rfl rfl rfl ?_
        refine al_step rfl rfl (aop_pick rfl rfl) ?_
        refine al_step rfl rfl (aop_move rfl) ?_
        refine al_pass rfl rfl rfl rfl rfl ?_
        refine al_step rfl rfl (aop_pick rfl rfl) ?_
        refine al_step rfl rfl (aop_assign rfl) ?_
        refine al_end rfl ?_
        exact ⟨rfl, rfl, (by first | exact List.Sublist.refl _ | exact List.sublist_cons_self _ _), (by first | rfl | (refine absurd g ?_; simp [eqB]; done) | (refine absurd g1 ?_; simp [eqB]; done) | (refine absurd g2 ?_; simp [eqB]; done) | (refine absurd g3 ?_; simp [eqB]; done) | (refine absurd g4 ?_; simp [eqB]; done) | (refine absurd g5 ?_; simp [eqB]; done) | (refine absurd g6 ?_; simp [eqB]; done)), trivial⟩
    rintro _ rfl
    refine awp_ret ?_
    refine ⟨rfl, _, _, ⟨_, _, rfl, rfl, rfl⟩, (List.nil_sublist _), ?_⟩
    all_goals exact ⟨rfl, rfl⟩

end Go.Proofs.Ytgfecpjmbgcobaa
namespace Go.Proofs.Ytgfecpjmbgcobaa
open Go.Abs Go.Eu Go.ChangeShapes Go.WideShapes Go.ChangeAt Go.RowKit
set_option linter.unusedVariables false
theorem par5 : ∀ t ∈ Try.f5.params.toList, Try.prog.readableRec t = true ∧ t < Try.prog.types.size := by
  rw [Try.params5]
  intro t ht
  simp only [List.mem_cons, List.not_mem_nil, or_false] at ht
  rcases ht with rfl | rfl | rfl
  · exact ⟨by kernel_rfl, of_decide_eq_true (by kernel_rfl)⟩
  · exact ⟨by kernel_rfl, of_decide_eq_true (by kernel_rfl)⟩
  · exact ⟨by kernel_rfl, of_decide_eq_true (by kernel_rfl)⟩
set_option maxRecDepth 100000 in
theorem metasCreates_lifted (os : Os) (started : os.Started) (H : Type) (enc : TypeId × Value → H) :
    ReturnsInHanded {} Try.checked os 5 .any (Rows.metasCreatesSpec.pre6 enc Try.prog Try.f5 Rows.metasCreatesRow.domain false) (Rows.metasCreatesSpec.post enc Try.prog Try.f5 false true false false) := by
  refine returnsInHanded_of_change (C := Try.checked) own started (by kernel_rfl) Try.func5
    (ChangeSpec.witness6 (enc := enc) (C := Try.checked) false ⟨#[], #[.slice none 0 0, .slice none 0 0, .agg #[.int .i64 0, .int .i64 0, .string ⟨#[]⟩, .slice none 0 0, .slice none 0 0]], []⟩ 8 (by kernel_rfl) (by kernel_rfl) (by kernel_rfl) (by kernel_rfl)) ?_
  intro W base args ds gs before hval0 hW hcnd _
  have hval : ∀ (j : Nat) t v, Try.f5.params[j]? = some t → args[j]? = some v → Value.okWide Try.prog W .any base t v := hval0
  have hW' := hW
  obtain ⟨p, q, hA0, hV, hps, hfz, hnd⟩ := hW
  have hA : DataW.TrodAll enc Try.prog W 0 (fun _ => true) true Try.f5.params.toList args.toList ds p := hA0
  rw [Try.params5] at hA hval
  obtain ⟨v0, vs0, d0, ds0, p0, q0, hargs, hds, hp0, h0, r0⟩ := trodAll_cons hA
  obtain ⟨v1, vs1, d1, ds1, p1, q1, rfl, rfl, hp1, h1, r1⟩ := trodAll_cons r0
  obtain ⟨v2, vs2, d2, ds2, p2, q2, rfl, rfl, hp2, h2, r2⟩ := trodAll_cons r1
  obtain ⟨rfl, rfl, _⟩ := trodAll_nil r2
  obtain rfl : args = #[v0, v1, v2] := by cases args; simp_all
  subst hds
  obtain ⟨rfl, _⟩ := trodVars_none hV
  obtain ⟨l0, a0, b0, c0⟩ := arg_Ms eut eum (hval 0 22 v0 rfl rfl) h0
  obtain ⟨l1, a1, b1, c1⟩ := arg_Ts eut (hval 1 24 v1 rfl rfl) h1
  obtain ⟨l2, b2, c2⟩ := arg_T eut (hval 2 26 v2 rfl rfl) h2
  refine (true_calls (creates_c l0 l1 l2 a0 b0 a1 b1 b2) (w := W) (vs := [v0, v1, v2]) ⟨_, _, rfl, c0, ⟨_, _, rfl, c1, ⟨_, _, rfl, c2, rfl⟩⟩⟩).mono fun e W' ⟨he, hb⟩ => ?_
  subst he
  exact ⟨_, rfl, post_below laidOut (tB := 4) (by kernel_rfl) (by kernel_rfl) rfl (par5) hW' rfl rfl rfl hb⟩
theorem metasCreates_holds : Rows.MetasCreatesSaid :=
  OpenClaim.holds_of_wide 5 Try.f5 rfl rfl rfl rfl rfl rfl rfl ⟨rfl, rfl, rfl, rfl, rfl⟩ rfl rfl rfl rfl rfl (by kernel_rfl) Try.func5 (by kernel_rfl)
    (of_decide_eq_true (by kernel_rfl)) (by unfold Func.isWrapper; first | (rw [if_pos (by decide +kernel)]; kernel_rfl) | (rw [if_neg (by decide +kernel)]; exact ⟨rfl, rfl⟩))
    (fun os started H enc _ => metasCreates_lifted os started H enc)
end Go.Proofs.Ytgfecpjmbgcobaa
