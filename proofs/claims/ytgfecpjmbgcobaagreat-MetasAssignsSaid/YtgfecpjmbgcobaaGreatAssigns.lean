/- MetasAssigns: for every input the law returns true. -/
import Derived.Test.YtgfecpjmbgcobaaGreatPu
import Derived.Test.YtgfecpjmbgcobaaGreatRows
namespace Go.Proofs.YtgfecpjmbgcobaaGreat
open Go.Abs Go.Eu
set_option linter.unusedVariables false
set_option linter.unusedSimpArgs false
set_option maxRecDepth 100000
set_option maxHeartbeats 20000000 in
theorem assigns_c : ∀ (l : List Mv) (i : Int) (t : Tm), (l.length < wide) → (∀ x ∈ l, WdM x) → (Wd t) → Fun Tryz.prog 3 [.p (.lst (List.map encM l)), .p (I i), .agg ((encT t).map .p)] (.p (.bool true)) := by
  intro l i t h1 h2 h3
  obtain ⟨tk, ti, tn, tl, ts⟩ := t
  refine acalls_of_awp Tryz.func3 rfl en3 (n := 68) rfl rfl ?_
  refine awp_seq ?_
  refine awp_region ?_
  refine al_new rfl rfl (aop_box rfl) fun b5 => ?_
  refine al_step rfl rfl (aop_assign rfl) ?_
  refine al_end rfl ?_
  refine awp_seq ?_
  refine awp_seq ?_
  refine awp_meetR [0, 1, 5] 33 (fun y => ∃ b : Bool, y = .p (.bool b) ∧ (b = false → GoodP l ∧ nodesL [(.mk tk ti tn tl ts : Tm)] 60 0 ≤ 60 ∧ FewP [(.mk tk ti tn tl ts : Tm)] ∧ wf 65536 l.length 0 (.mk tk ti tn tl ts : Tm))) ?_ ?_
  · refine awp_region ?_
    refine al_step rfl rfl (aop_move rfl) ?_
    refine al_rel rfl rfl (aop_funR rfl rfl (good_c l h1 h2) (.inl rfl)) ?_
    rintro _ ⟨b, rfl, hb⟩
    refine al_step rfl rfl (aop_not rfl) ?_
    refine al_step rfl rfl (aop_move rfl) ?_
    refine al_case 15 rfl (fun g => ?_) (fun g => ?_)
    · (try simp only [sd, se] at g)
      refine al_pass rfl rfl rfl rfl rfl ?_
      refine al_pass rfl rfl rfl rfl rfl ?_
      refine al_pass rfl rfl rfl rfl rfl ?_
      refine al_pass rfl rfl rfl rfl rfl ?_
      refine al_step rfl rfl (aop_pick rfl rfl) ?_
      refine al_step rfl rfl (aop_move rfl) ?_
      refine al_pass rfl rfl rfl rfl rfl ?_
      refine al_pass rfl rfl rfl rfl rfl ?_
      refine al_pass rfl rfl rfl rfl rfl ?_
      refine al_pass rfl rfl rfl rfl rfl ?_
      refine al_step rfl rfl (aop_pick rfl rfl) ?_
      refine al_step rfl rfl (aop_move rfl) ?_
      refine al_pass rfl rfl rfl rfl rfl ?_
      refine al_pass rfl rfl rfl rfl rfl ?_
      refine al_pass rfl rfl rfl rfl rfl ?_
      refine al_pass rfl rfl rfl rfl rfl ?_
      refine al_pass rfl rfl rfl rfl rfl ?_
      refine al_step rfl rfl (aop_pick rfl rfl) ?_
      refine al_end rfl ?_
      exact ⟨rfl, rfl, (by first | exact List.Sublist.refl _ | exact List.sublist_cons_self _ _), (by first | exact ⟨_, rfl, fun h => absurd h (by decide)⟩ | exact ⟨_, rfl, fun h => ⟨hb (by simp_all), by omega, hF, he (by simpa using h)⟩⟩), ⟨rfl, rfl, rfl, trivial⟩⟩
    · (try simp only [sd, se] at g)
      refine al_stepg rfl rfl rfl rfl (aop_load_box (i := 0) ty26 rfl rfl rfl) ?_
      refine al_stepg rfl rfl rfl rfl (aop_buildSlice el24 zr26 rfl rfl rfl rfl rfl) ?_
      refine al_stepg rfl rfl rfl rfl (aop_fun rfl rfl (nodesw_c _ [(.mk tk ti tn tl ts : Tm)] 60 (Nat.le_refl _) ⟨h3, trivial⟩ (by simp [wide])) rfl) ?_
      refine al_stepg rfl rfl rfl rfl (aop_cmp rfl rfl rfl) ?_
      refine al_step rfl rfl (aop_pick rfl rfl) ?_
      refine al_step rfl rfl (aop_move rfl) ?_
      refine al_case 21 rfl (fun g1 => ?_) (fun g1 => ?_)
      · (try simp only [sd, se] at g1)
        refine al_pass rfl rfl rfl rfl rfl ?_
        refine al_pass rfl rfl rfl rfl rfl ?_
        refine al_pass rfl rfl rfl rfl rfl ?_
        refine al_pass rfl rfl rfl rfl rfl ?_
        refine al_step rfl rfl (aop_pick rfl rfl) ?_
        refine al_step rfl rfl (aop_move rfl) ?_
        refine al_pass rfl rfl rfl rfl rfl ?_
        refine al_pass rfl rfl rfl rfl rfl ?_
        refine al_pass rfl rfl rfl rfl rfl ?_
        refine al_pass rfl rfl rfl rfl rfl ?_
        refine al_pass rfl rfl rfl rfl rfl ?_
        refine al_step rfl rfl (aop_pick rfl rfl) ?_
        refine al_end rfl ?_
        exact ⟨rfl, rfl, (by first | exact List.Sublist.refl _ | exact List.sublist_cons_self _ _), (by first | exact ⟨_, rfl, fun h => absurd h (by decide)⟩ | exact ⟨_, rfl, fun h => ⟨hb (by simp_all), by omega, hF, he (by simpa using h)⟩⟩), ⟨rfl, rfl, rfl, trivial⟩⟩
      · (try simp only [sd, se] at g1)
        refine al_stepg rfl rfl rfl rfl (aop_load_box (i := 0) ty26 rfl rfl rfl) ?_
        refine al_stepg rfl rfl rfl rfl (aop_buildSlice el24 zr26 rfl rfl rfl rfl rfl) ?_
        refine al_relg rfl rfl rfl rfl (aop_funR rfl rfl (few_c _ [(.mk tk ti tn tl ts : Tm)] (Nat.le_refl _) ⟨h3, trivial⟩ (by simp [wide])) (.inl rfl)) ?_
        rintro _ ⟨b1, rfl, hb1⟩
        refine al_stepg rfl rfl rfl rfl (aop_not rfl) ?_
        refine al_step rfl rfl (aop_pick rfl rfl) ?_
        refine al_step rfl rfl (aop_move rfl) ?_
        refine al_case 27 rfl (fun g2 => ?_) (fun g2 => ?_)
        · (try simp only [sd, se] at g2)
          
          refine al_pass rfl rfl rfl rfl rfl ?_
          refine al_pass rfl rfl rfl rfl rfl ?_
          refine al_pass rfl rfl rfl rfl rfl ?_
          refine al_pass rfl rfl rfl rfl rfl ?_
          refine al_pass rfl rfl rfl rfl rfl ?_
          refine al_step rfl rfl (aop_pick rfl rfl) ?_
          refine al_end rfl ?_
          exact ⟨rfl, rfl, (by first | exact List.Sublist.refl _ | exact List.sublist_cons_self _ _), (by first | exact ⟨_, rfl, fun h => absurd h (by decide)⟩ | exact ⟨_, rfl, fun h => ⟨hb (by simp_all), by omega, hF, he (by simpa using h)⟩⟩), ⟨rfl, rfl, rfl, trivial⟩⟩
        · (try simp only [sd, se] at g2)
          have hF := hb1 (by simpa using g2)
          refine al_stepg rfl rfl rfl rfl (aop_load_box (i := 0) ty26 rfl rfl rfl) ?_
          refine al_stepg rfl rfl rfl rfl (aop_move rfl) ?_
          refine al_stepg rfl rfl rfl rfl (aop_lenE el22 rfl (List.length_map _)) ?_
          refine al_relg rfl rfl rfl rfl (aop_funR rfl rfl (check3_c (.mk tk ti tn tl ts : Tm) 65536 8 (l.length : Nat) 65536 (fewP_one hF (by simp)).1 (by have := (fewP_one hF (t := (.mk tk ti tn tl ts : Tm)) (by simp)).2; omega)) (.inl rfl)) ?_
          rintro _ ⟨e, rfl, he⟩
          refine al_stepg rfl rfl rfl rfl (aop_cmp rfl rfl rfl) ?_
          refine al_step rfl rfl (aop_pick rfl rfl) ?_
          refine al_end rfl ?_
          exact ⟨rfl, rfl, (by first | exact List.Sublist.refl _ | exact List.sublist_cons_self _ _), (by first | exact ⟨_, rfl, fun h => absurd h (by decide)⟩ | exact ⟨_, rfl, fun h => ⟨hb (by simp_all), by omega, hF, he (by simpa using h)⟩⟩), ⟨rfl, rfl, rfl, trivial⟩⟩
  rintro _ ⟨q, rfl, hq⟩
  refine awp_cond rfl (fun c => ?_) (fun c => ?_)
  · have cR := c
    (try simp only [sd, se] at c)
    refine awp_seq ?_
    refine awp_region ?_
    refine al_step rfl rfl (aop_fun rfl rfl (awake_c ) rfl) ?_
    refine al_step rfl rfl (aop_assign rfl) ?_
    refine al_end rfl ?_
    refine awp_ret ?_
    refine ⟨rfl, _, _, ⟨_, _, rfl, rfl, rfl⟩, (List.nil_sublist _), ?_⟩
    all_goals exact ⟨rfl, rfl⟩
  · have cR := c
    (try simp only [sd, se] at c)
    obtain ⟨hg, hq2, hF, hw⟩ := hq (by simpa using c)
    have hsz : size (.mk tk ti tn tl ts : Tm) ≤ 60 := by have := nodes_small hF (by omega) hq2; simp only [sizes] at this; omega
    have hok : Ok 60 (.mk tk ti tn tl ts : Tm) := ok_of (by omega) hw hF.nd.1 hsz (by omega)
    have hgl := hg.len
    have hrt := wf_rg _ 0 hw
    have hnd := asgX_nd (i := i) (q := fillPT l 548 (.mk tk ti tn tl ts : Tm)) (good_nd hg) hok.nd hgl
    refine awp_skip ?_
    refine awp_seq ?_
    refine awp_region ?_
    refine al_step rfl rfl (aop_move rfl) ?_
    refine al_step rfl rfl (aop_move rfl) ?_
    refine al_step rfl rfl (aop_load_box (i := 0) ty26 rfl rfl rfl) ?_
    refine al_step rfl rfl (aop_fun rfl rfl (assignP_c l i (.mk tk ti tn tl ts : Tm) 548 (good_ok hg) (by omega) hok (by omega)) rfl) ?_
    refine al_step rfl rfl (aop_move rfl) ?_
    refine al_step rfl rfl (aop_extract rfl rfl) ?_
    refine al_step rfl rfl (aop_extract rfl rfl) ?_
    refine al_step rfl rfl (aop_assign rfl) ?_
    refine al_step rfl rfl (aop_assign rfl) ?_
    refine al_end rfl ?_
    refine awp_seq ?_
    refine awp_region ?_
    refine al_newg rfl rfl rfl (.inl ⟨rfl, rfl, rfl⟩) lightG_c (argsW_refl _) fun bc => ?_
    refine al_step rfl rfl (aop_assign rfl) ?_
    refine al_end rfl ?_
    refine awp_seq ?_
    refine awp_region ?_
    refine al_step rfl rfl (aop_move rfl) ?_
    refine al_step rfl rfl (aop_move rfl) ?_
    refine al_step rfl rfl (aop_load_box (i := 1) ty26 rfl rfl rfl) ?_
    refine al_step rfl rfl (aop_move rfl) ?_
    refine al_step rfl rfl (aop_retn [0] rfl (.inl ⟨rfl, rfl, rfl⟩) (assignR_c 548 (.mk tk ti tn tl ts : Tm) i l bc light (by omega) hok.nd hok.wt hgl (good_ms hg) hok.sz (TP.imp (fun k i n l h e => ⟨(h e).1, by have := (h e).2; omega⟩) _ hrt) (fun m hm => TP.imp (fun k i n l h e => ⟨(h e).1, by have := (h e).2; omega⟩) _ (good_rg hg m hm))) ⟨_, _, rfl, rfl, rfl⟩ (by decide) rfl (.inl rfl)) ?_
    refine al_step rfl rfl (aop_move rfl) ?_
    refine al_step rfl rfl (aop_extract rfl rfl) ?_
    refine al_step rfl rfl (aop_extract rfl rfl) ?_
    refine al_step rfl rfl (aop_assign rfl) ?_
    refine al_step rfl rfl (aop_assign rfl) ?_
    refine al_end rfl ?_
    refine awp_seq ?_
    refine awp_meetR [] 6 (fun y => y = .p (.bool true)) ?_ ?_
    · refine awp_region ?_
      refine al_step rfl rfl (aop_move rfl) ?_
      refine al_step rfl rfl (aop_nilCheck rfl) ?_
      refine al_step rfl rfl (aop_field_ptr fd40 rfl rfl) ?_
      refine al_step rfl rfl (aop_load_box1 (i := 0) ty4 rfl rfl rfl) ?_
      refine al_step rfl rfl (aop_move rfl) ?_
      refine al_case 55 rfl (fun g => ?_) (fun g => ?_)
      · (try simp only [sd, se] at g)
        
        refine al_pass rfl rfl rfl rfl rfl ?_
        refine al_pass rfl rfl rfl rfl rfl ?_
        refine al_pass rfl rfl rfl rfl rfl ?_
        refine al_pass rfl rfl rfl rfl rfl ?_
        refine al_pass0 rfl rfl rfl rfl ?_
        refine al_pass0 rfl rfl rfl rfl ?_
        refine al_pass0 rfl rfl rfl rfl ?_
        refine al_pass rfl rfl rfl rfl rfl ?_
        refine al_step rfl rfl (aop_pick rfl rfl) ?_
        refine al_step rfl rfl (aop_move rfl) ?_
        refine al_stepg rfl rfl rfl rfl (aop_fun rfl rfl (awake_c ) rfl) ?_
        refine al_step rfl rfl (aop_pick rfl rfl) ?_
        refine al_step rfl rfl (aop_assign rfl) ?_
        refine al_end rfl ?_
        exact ⟨rfl, rfl, (by first | exact List.Sublist.refl _ | exact List.sublist_cons_self _ _), (by first | rfl | (refine absurd g1 ?_; simp [he, eqB]; done) | (refine absurd g2 ?_; simp [he, eqB]; done) | (refine pB ?_; simp_all [eqB]; done)), trivial⟩
      · (try simp only [sd, se] at g)
        have he := asg_law (i := i) hg hok (by simpa using g)
        refine al_stepg rfl rfl rfl rfl (aop_move rfl) ?_
        refine al_stepg rfl rfl rfl rfl (aop_move rfl) ?_
        refine al_stepg rfl rfl rfl rfl (aop_fun rfl rfl (same28_c ((asgX l i (.mk tk ti tn tl ts : Tm) (fillPT l 548 (.mk tk ti tn tl ts : Tm))).1) ((asgX l i (.mk tk ti tn tl ts : Tm) ((fillT l 548 light (.mk tk ti tn tl ts : Tm)).1, (fillT l 548 light (.mk tk ti tn tl ts : Tm)).2.1)).1) (by simp only [big]; exact Nat.lt_of_le_of_lt hnd.2 (by decide)) hnd.1) rfl) ?_
        refine al_stepg rfl rfl rfl rfl (aop_move rfl) ?_
        refine al_case 59 rfl (fun g1 => ?_) (fun g1 => ?_)
        · (try simp only [sd, se] at g1)
          refine al_stepg rfl rfl rfl rfl (aop_move rfl) ?_
          refine al_stepg rfl rfl rfl rfl (aop_move rfl) ?_
          refine al_stepg rfl rfl rfl rfl (aop_cmp rfl rfl rfl) ?_
          refine al_stepg rfl rfl rfl rfl (aop_pick rfl rfl) ?_
          refine al_step rfl rfl (aop_pick rfl rfl) ?_
          refine al_step rfl rfl (aop_move rfl) ?_
          refine al_case 65 rfl (fun g2 => ?_) (fun g2 => ?_)
          · (try simp only [sd, se] at g2)
            refine al_stepg rfl rfl rfl rfl (aop_fun rfl rfl (awake_c ) rfl) ?_
            refine al_step rfl rfl (aop_pick rfl rfl) ?_
            refine al_step rfl rfl (aop_assign rfl) ?_
            refine al_end rfl ?_
            exact ⟨rfl, rfl, (by first | exact List.Sublist.refl _ | exact List.sublist_cons_self _ _), (by first | rfl | (refine absurd g1 ?_; simp [he, eqB]; done) | (refine absurd g2 ?_; simp [he, eqB]; done) | (refine pB ?_; simp_all [eqB]; done)), trivial⟩
          · (try simp only [sd, se] at g2)
            refine al_pass rfl rfl rfl rfl rfl ?_
            refine al_step rfl rfl (aop_pick rfl rfl) ?_
            refine al_step rfl rfl (aop_assign rfl) ?_
            refine al_end rfl ?_
            exact ⟨rfl, rfl, (by first | exact List.Sublist.refl _ | exact List.sublist_cons_self _ _), (by first | rfl | (refine absurd g1 ?_; simp [he, eqB]; done) | (refine absurd g2 ?_; simp [he, eqB]; done) | (refine pB ?_; simp_all [eqB]; done)), trivial⟩
        · (try simp only [sd, se] at g1)
          refine al_pass rfl rfl rfl rfl rfl ?_
          refine al_pass rfl rfl rfl rfl rfl ?_
          refine al_pass rfl rfl rfl rfl rfl ?_
          refine al_stepg rfl rfl rfl rfl (aop_pick rfl rfl) ?_
          refine al_step rfl rfl (aop_pick rfl rfl) ?_
          refine al_step rfl rfl (aop_move rfl) ?_
          refine al_pass rfl rfl rfl rfl rfl ?_
          refine al_step rfl rfl (aop_pick rfl rfl) ?_
          refine al_step rfl rfl (aop_assign rfl) ?_
          refine al_end rfl ?_
          exact ⟨rfl, rfl, (by first | exact List.Sublist.refl _ | exact List.sublist_cons_self _ _), (by first | rfl | (refine absurd g1 ?_; simp [he, eqB]; done) | (refine absurd g2 ?_; simp [he, eqB]; done) | (refine pB ?_; simp_all [eqB]; done)), trivial⟩
    rintro _ rfl
    refine awp_ret ?_
    refine ⟨rfl, _, _, ⟨_, _, rfl, rfl, rfl⟩, (List.nil_sublist _), ?_⟩
    all_goals exact ⟨rfl, rfl⟩

end Go.Proofs.YtgfecpjmbgcobaaGreat
namespace Go.Proofs.YtgfecpjmbgcobaaGreat
open Go.Eu
theorem own : ownKnob Tryz.prog.godebug = none := by kernel_rfl
theorem laidOut : laidOutB Tryz.prog = true := by kernel_rfl
theorem eut : EuTypes Tryz.prog 3 9 101 47 49 23 26 24 := ⟨by kernel_rfl, by kernel_rfl, by kernel_rfl, by kernel_rfl, by kernel_rfl, by kernel_rfl, by kernel_rfl, by kernel_rfl, by kernel_rfl, by kernel_rfl, by kernel_rfl, by kernel_rfl, by kernel_rfl, by kernel_rfl, by kernel_rfl, by kernel_rfl⟩
theorem eum : EuMetas Tryz.prog 4 26 44 22 := ⟨by kernel_rfl, by kernel_rfl, by kernel_rfl, by kernel_rfl, by kernel_rfl⟩
end Go.Proofs.YtgfecpjmbgcobaaGreat
namespace Go.Proofs.YtgfecpjmbgcobaaGreat
open Go.Abs Go.Eu Go.ChangeShapes Go.WideShapes Go.ChangeAt Go.RowKit
set_option linter.unusedVariables false
theorem par3 : ∀ t ∈ Tryz.f3.params.toList, Tryz.prog.readableRec t = true ∧ t < Tryz.prog.types.size := by
  rw [Tryz.params3]
  intro t ht
  simp only [List.mem_cons, List.not_mem_nil, or_false] at ht
  rcases ht with rfl | rfl | rfl
  · exact ⟨by kernel_rfl, of_decide_eq_true (by kernel_rfl)⟩
  · exact ⟨by kernel_rfl, of_decide_eq_true (by kernel_rfl)⟩
  · exact ⟨by kernel_rfl, of_decide_eq_true (by kernel_rfl)⟩
set_option maxRecDepth 100000 in
theorem metasAssigns_lifted (os : Os) (started : os.Started) (H : Type) (enc : TypeId × Value → H) :
    ReturnsInHanded {} Tryz.checked os 3 .any (Rows.metasAssignsSpec.pre6 enc Tryz.prog Tryz.f3 Rows.metasAssignsRow.domain false) (Rows.metasAssignsSpec.post enc Tryz.prog Tryz.f3 false true false false) := by
  refine returnsInHanded_of_change (C := Tryz.checked) own started (by kernel_rfl) Tryz.func3
    (ChangeSpec.witness6 (enc := enc) (C := Tryz.checked) false ⟨#[], #[.slice none 0 0, .int .i64 0, .agg #[.int .i64 0, .int .i64 0, .string ⟨#[]⟩, .slice none 0 0, .slice none 0 0]], []⟩ 8 (by kernel_rfl) (by kernel_rfl) (by kernel_rfl) (by kernel_rfl)) ?_
  intro W base args ds gs before hval0 hW hcnd _
  have hval : ∀ (j : Nat) t v, Tryz.f3.params[j]? = some t → args[j]? = some v → Value.okWide Tryz.prog W .any base t v := hval0
  have hW' := hW
  obtain ⟨p, q, hA0, hV, hps, hfz, hnd⟩ := hW
  have hA : DataW.TrodAll enc Tryz.prog W 0 (fun _ => true) true Tryz.f3.params.toList args.toList ds p := hA0
  rw [Tryz.params3] at hA hval
  obtain ⟨v0, vs0, d0, ds0, p0, q0, hargs, hds, hp0, h0, r0⟩ := trodAll_cons hA
  obtain ⟨v1, vs1, d1, ds1, p1, q1, rfl, rfl, hp1, h1, r1⟩ := trodAll_cons r0
  obtain ⟨v2, vs2, d2, ds2, p2, q2, rfl, rfl, hp2, h2, r2⟩ := trodAll_cons r1
  obtain ⟨rfl, rfl, _⟩ := trodAll_nil r2
  obtain rfl : args = #[v0, v1, v2] := by cases args; simp_all
  subst hds
  obtain ⟨rfl, _⟩ := trodVars_none hV
  obtain ⟨l0, a0, b0, c0⟩ := arg_Ms eut eum (hval 0 22 v0 rfl rfl) h0
  obtain ⟨l1, b1, c1⟩ := arg_I eut (hval 1 3 v1 rfl rfl) h1
  obtain ⟨l2, b2, c2⟩ := arg_T eut (hval 2 26 v2 rfl rfl) h2
  refine (true_calls (assigns_c l0 l1 l2 a0 b0  b2) (w := W) (vs := [v0, v1, v2]) ⟨_, _, rfl, c0, ⟨_, _, rfl, c1, ⟨_, _, rfl, c2, rfl⟩⟩⟩).mono fun e W' ⟨he, hb⟩ => ?_
  subst he
  exact ⟨_, rfl, post_below laidOut (tB := 4) (by kernel_rfl) (by kernel_rfl) rfl (par3) hW' rfl rfl rfl hb⟩
theorem metasAssigns_holds : Rows.MetasAssignsSaid :=
  OpenClaim.holds_of_wide 3 Tryz.f3 rfl rfl rfl rfl rfl rfl rfl ⟨rfl, rfl, rfl, rfl, rfl⟩ rfl rfl rfl rfl rfl (by kernel_rfl) Tryz.func3 (by kernel_rfl)
    (of_decide_eq_true (by kernel_rfl)) (by unfold Func.isWrapper; first | (rw [if_pos (by decide +kernel)]; kernel_rfl) | (rw [if_neg (by decide +kernel)]; exact ⟨rfl, rfl⟩))
    (fun os started H enc _ => metasAssigns_lifted os started H enc)
end Go.Proofs.YtgfecpjmbgcobaaGreat
