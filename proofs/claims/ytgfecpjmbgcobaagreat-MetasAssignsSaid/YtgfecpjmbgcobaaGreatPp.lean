/- Part of the proofs about metavariables: an abstract program logic, plain models and contracts of functions. -/
import Derived.Test.YtgfecpjmbgcobaaGreatPo
import Derived.Test.YtgfecpjmbgcobaaGreatPg
/- Contracts of functions of the program. -/
namespace Go.Proofs.YtgfecpjmbgcobaaGreat
open Go.Abs Go.Eu
set_option linter.unusedVariables false
set_option linter.unusedSimpArgs false
set_option maxRecDepth 100000
theorem under3S_c : ∀ (t : Tm) (d : Int) (bv bc bs bd bvs cb : Nat) (dp n : Int) (vs : List Tm) (sz : List Int), (sz.length = vs.length) → ACalls Tryz.prog 100 [.agg ((encT t).map .p), .p (I d), .ptr bv 0, .ptr bc 0, .ptr bs 0] [.box bv [.fn (.func 99) [] [.ptr bd 0, .ptr bvs 0]], .box bc [.ptr cb 0], .box bs [.p (.lst (List.map encI sz))], .box bd [.p (I dp)], .box bvs [.p (.lst (encTs vs))], .box cb [.p (I n)]] (exR (fun (r : (Tm × Bool) × Int) => .tup [TV r.1.1, .p (.bool r.1.2)]) (fun e => .p (.iface 156 (I e))) (fun r H' => H' = [.box bv [.fn (.func 99) [] [.ptr bd 0, .ptr bvs 0]], .box bc [.ptr cb 0], .box bs [.p (.lst (List.map encI sz))], .box bd [.p (I dp)], .box bvs [.p (.lst (encTs vs))], .box cb [.p (I r.2)]]) (cntV vs sz dp n t d)) := by
  intro t d bv bc bs bd bvs cb dp n vs sz h1
  obtain ⟨tk, ti, tn, tl, ts⟩ := t
  refine acalls_of_awp Tryz.func100 rfl en100 (n := 33) rfl rfl ?_
  refine awp_seq ?_
  refine awp_region ?_
  refine al_new rfl rfl (aop_box rfl) fun b5 => ?_
  refine al_new rfl rfl (aop_alloc zr26 rfl) fun b7 => ?_
  refine al_step rfl rfl (aop_assign rfl) ?_
  refine al_end rfl ?_
  refine awp_seq ?_
  refine awp_seq ?_
  refine awp_region ?_
  refine al_step rfl rfl (aop_load_box1 (i := 2) ty137 rfl rfl rfl) ?_
  refine al_step rfl rfl (aop_load_box (i := 1) ty26 rfl rfl rfl) ?_
  refine al_step rfl rfl (aop_move rfl) ?_
  refine al_step rfl rfl (aop_retn [5, 6] rfl (.inr rfl) (under2S_c (.mk tk ti tn tl ts : Tm) d bd bvs dp vs) ⟨_, _, rfl, rfl, ⟨_, _, rfl, rfl, rfl⟩⟩ (by decide) rfl (.inl rfl)) ?_
  refine al_step rfl rfl (aop_assign rfl) ?_
  refine al_end rfl ?_
  refine awp_seq ?_
  refine awp_meetR [3, 4, 5, 7, 9] 20 (fun y => y = .p (.bool (((tk : Int) == (0 : Int)) && (decide ((valI vs dp (.mk tk ti tn tl ts : Tm).index d : Int) ≥ (0 : Int)))))) ?_ ?_
  · refine awp_region ?_
    refine al_step rfl rfl (aop_field_ptr fd26 rfl rfl) ?_
    refine al_step rfl rfl (aop_load_box1 (i := 1) ty3 rfl rfl rfl) ?_
    refine al_step rfl rfl (aop_cmp rfl rfl rfl) ?_
    refine al_step rfl rfl (aop_move rfl) ?_
    refine al_case 17 rfl (fun g => ?_) (fun g => ?_)
    · (try simp only [sd, se] at g)
      refine al_stepg rfl rfl rfl rfl (aop_move rfl) ?_
      refine al_stepg rfl rfl rfl rfl (aop_cmp rfl rfl rfl) ?_
      refine al_step rfl rfl (aop_pick rfl rfl) ?_
      refine al_end rfl ?_
      exact ⟨rfl, rfl, (by first | exact List.Sublist.refl _ | exact List.sublist_cons_self _ _), (by first | rfl | (refine pB ?_; simp_all; done) | (refine pB ?_; simp_all <;> (intros; omega))), ⟨rfl, rfl, rfl, rfl, rfl, trivial⟩⟩
    · (try simp only [sd, se] at g)
      refine al_pass rfl rfl rfl rfl rfl ?_
      refine al_pass rfl rfl rfl rfl rfl ?_
      refine al_step rfl rfl (aop_pick rfl rfl) ?_
      refine al_end rfl ?_
      exact ⟨rfl, rfl, (by first | exact List.Sublist.refl _ | exact List.sublist_cons_self _ _), (by first | rfl | (refine pB ?_; simp_all; done) | (refine pB ?_; simp_all <;> (intros; omega))), ⟨rfl, rfl, rfl, rfl, rfl, trivial⟩⟩
  rintro _ rfl
  refine awp_cond rfl (fun c => ?_) (fun c => ?_)
  · (try simp only [sd, se] at c)
    have hvl := valI_lt (vs := vs) (dp := dp) (ti := (Tm.mk tk ti tn tl ts).index) (d := d) c.2
    refine awp_dr (fun k => Nat.beq k 5) mx0 ?_
    refine dr_read (j := 3) rfl rfl rfl (fun H i hi => aop_load_box1 (i := i) ty138 rfl hi rfl) (by repeat' first | exact trivial | refine And.intro ?_ ?_ | ((refine Or.inr (And.intro ?_ ?_) <;> repeat (first | exact List.Mem.head _ | apply List.Mem.tail)); done) | exact Or.inl (by kernel_rfl)) trivial ?_
    refine dr_read (j := 4) rfl rfl rfl (fun H i hi => aop_load_box1 (i := i) ty59 rfl hi rfl) (by repeat' first | exact trivial | refine And.intro ?_ ?_ | ((refine Or.inr (And.intro ?_ ?_) <;> repeat (first | exact List.Mem.head _ | apply List.Mem.tail)); done) | exact Or.inl (by kernel_rfl)) trivial ?_
    refine dr_free rfl rfl (fun _ => aop_move rfl) trivial ?_
    obtain ⟨x, hx⟩ := getElem?_of_lt (l := sz) (i := (valI vs dp (.mk tk ti tn tl ts : Tm).index d : Int).toNat) (by omega)
    refine dr_free rfl rfl (fun _ => aop_index_lst el59 rfl rfl (by omega) (encI_get hx) (rfl)) trivial ?_
    refine dr_free rfl rfl (fun _ => aop_load_ref1 ty3 rfl) trivial ?_
    refine dr_exS [7] rfl rfl rfl (.inl ⟨rfl, rfl, rfl⟩) (addP_c cb n x) ⟨_, _, rfl, rfl, rfl⟩ (by decide) (aw (we rfl) (aw (we rfl) (aw0))) (fun _ _ h => (congrArg List.length h).trans rfl) (by kernel_rfl) (by kernel_rfl) rfl (by repeat' first | exact trivial | refine And.intro ?_ ?_ | ((refine Or.inr (And.intro ?_ ?_) <;> repeat (first | exact List.Mem.head _ | apply List.Mem.tail)); done) | exact Or.inl (by kernel_rfl)) ?_ ?_
    rotate_left
    · intro e he _ _ hτ
      exact ⟨rfl, _, List.nil_sublist _, ⟨_, cntV_err (cntN_yes c hx) he, rfl⟩⟩
    rintro r _ hz rfl
    refine ⟨(by repeat' first | exact trivial | refine And.intro ?_ ?_ | ((refine Or.inr (And.intro ?_ ?_) <;> repeat (first | exact List.Mem.head _ | apply List.Mem.tail)); done) | exact Or.inl (by kernel_rfl)), trivial, ?_⟩
    refine dr_end rfl (by kernel_rfl) ?_
    refine awp_seq ?_
    refine awp_dr (fun k => false) mx0 ?_
    refine dr_free rfl rfl (fun _ => aop_build fd26 zr26 rfl) trivial ?_
    refine dr_free rfl rfl (fun _ => aop_field_ptr fd26 rfl rfl) trivial ?_
    refine dr_read (j := 1) rfl rfl rfl (fun H i hi => aop_load_box1 (i := i) ty3 rfl hi rfl) (by repeat' first | exact trivial | refine And.intro ?_ ?_ | ((refine Or.inr (And.intro ?_ ?_) <;> repeat (first | exact List.Mem.head _ | apply List.Mem.tail)); done) | exact Or.inl (by kernel_rfl)) trivial ?_
    refine dr_free rfl rfl (fun _ => aop_cmp rfl rfl rfl) trivial ?_
    refine dr_eff rfl rfl (aop_store_box (i := 0) ty26 rfl rfl rfl rfl rfl rfl) (by repeat' first | exact trivial | refine And.intro ?_ ?_ | ((refine Or.inr (And.intro ?_ ?_) <;> repeat (first | exact List.Mem.head _ | apply List.Mem.tail)); done) | exact Or.inl (by kernel_rfl)) trivial ?_
    refine dr_free rfl rfl (fun _ => aop_assign rfl) trivial ?_
    refine dr_end rfl (by kernel_rfl) ?_
    refine awp_ghost (ghost_box (i := 0) rfl) ?_
    refine awp_ret ?_
    refine ⟨rfl, _, _, ⟨_, _, rfl, (resv_row (i := 0) ty26 rfl rfl rfl), ⟨_, _, rfl, rfl, rfl⟩⟩, (subl (is := [2, 3, 4, 5, 6, 7]) rfl), ?_⟩
    exact ⟨⟨⟨zeroT, decide (tk = 0)⟩, r⟩, cntV_ok (cntN_yes c hx) hz, rfl, rfl⟩
  · (try simp only [sd, se] at c)
    refine awp_region ?_
    refine al_step rfl rfl (aop_load_box1 (i := 3) ty138 rfl rfl rfl) ?_
    refine al_exS [7] rfl rfl rfl (.inl ⟨rfl, rfl, rfl⟩) (addP_c cb n 1) ⟨_, _, rfl, rfl, rfl⟩ (by decide) (aw (we rfl) (aw (we rfl) (aw0))) (fun _ _ h => (congrArg List.length h).trans rfl) ?_ ?_
    rotate_left
    · intro e _ he
      exact ⟨rfl, _, List.nil_sublist _, ⟨_, cntV_err (cntN_no (by simp_all [Tm.index])) he, rfl⟩⟩
    rintro r _ hz rfl
    refine al_end rfl ?_
    refine awp_seq ?_
    refine awp_dr (fun k => false) mx0 ?_
    refine dr_free rfl rfl (fun _ => aop_build fd26 zr26 rfl) trivial ?_
    refine dr_free rfl rfl (fun _ => aop_field_ptr fd26 rfl rfl) trivial ?_
    refine dr_read (j := 1) rfl rfl rfl (fun H i hi => aop_load_box1 (i := i) ty3 rfl hi rfl) (by repeat' first | exact trivial | refine And.intro ?_ ?_ | ((refine Or.inr (And.intro ?_ ?_) <;> repeat (first | exact List.Mem.head _ | apply List.Mem.tail)); done) | exact Or.inl (by kernel_rfl)) trivial ?_
    refine dr_free rfl rfl (fun _ => aop_cmp rfl rfl rfl) trivial ?_
    refine dr_eff rfl rfl (aop_store_box (i := 0) ty26 rfl rfl rfl rfl rfl rfl) (by repeat' first | exact trivial | refine And.intro ?_ ?_ | ((refine Or.inr (And.intro ?_ ?_) <;> repeat (first | exact List.Mem.head _ | apply List.Mem.tail)); done) | exact Or.inl (by kernel_rfl)) trivial ?_
    refine dr_free rfl rfl (fun _ => aop_assign rfl) trivial ?_
    refine dr_end rfl (by kernel_rfl) ?_
    refine awp_ghost (ghost_box (i := 0) rfl) ?_
    refine awp_ret ?_
    refine ⟨rfl, _, _, ⟨_, _, rfl, (resv_row (i := 0) ty26 rfl rfl rfl), ⟨_, _, rfl, rfl, rfl⟩⟩, (subl (is := [2, 3, 4, 5, 6, 7]) rfl), ?_⟩
    exact ⟨⟨⟨zeroT, decide (tk = 0)⟩, r⟩, cntV_ok (cntN_no (by simp_all [Tm.index])) hz, rfl, rfl⟩

end Go.Proofs.YtgfecpjmbgcobaaGreat
/- Contracts of functions of the program. -/
namespace Go.Proofs.YtgfecpjmbgcobaaGreat
open Go.Abs Go.Eu
set_option linter.unusedVariables false
set_option linter.unusedSimpArgs false
set_option maxRecDepth 100000
theorem under4S_c : ∀ (t : Tm) (d : Int) (bv bvs bd : Nat) (dp : Int) (vs : List Tm), (Nd t) → (Vp t) → (t.kind = 0) → (0 ≤ d) → (d < big) → (Nds vs) → (Vps vs) → (∀ v ∈ vs, size v < big) → (0 ≤ dp ∧ dp ≤ 65536) → (vs.length < big) → ACalls Tryz.prog 104 [.agg ((encT t).map .p), .p (I d), .ptr bv 0, .ptr bvs 0, .ptr bd 0] [.box bv [.fn (.func 99) [] [.ptr bd 0, .ptr bvs 0]], .box bvs [.p (.lst (encTs vs))], .box bd [.p (I dp)]] (exR (fun (r : Tm) => TV r) (fun e => .p (.iface 156 (I e))) (fun r H' => H' = [.box bv [.fn (.func 99) [] [.ptr bd 0, .ptr bvs 0]], .box bvs [.p (.lst (encTs vs))], .box bd [.p (I dp)]]) (repV vs dp t d)) := by
  intro t d bv bvs bd dp vs h1 h2 h3 h4 h5 h6 h7 h8 h9 h10
  obtain ⟨tk, ti, tn, tl, ts⟩ := t
  have hti := h2.1 h3
  simp only [big] at h5
  have hw : wr (dp + d) = dp + d := wr_in (by unfold rng; omega)
  refine acalls_of_awp Tryz.func104 rfl en104 (n := 37) rfl rfl ?_
  refine awp_seq ?_
  refine awp_region ?_
  refine al_new rfl rfl (aop_box rfl) fun b5 => ?_
  refine al_new rfl rfl (aop_alloc zr26 rfl) fun b7 => ?_
  refine al_end rfl ?_
  refine awp_seq ?_
  refine awp_seq ?_
  refine awp_region ?_
  refine al_step rfl rfl (aop_load_box1 (i := 2) ty137 rfl rfl rfl) ?_
  refine al_step rfl rfl (aop_load_box (i := 1) ty26 rfl rfl rfl) ?_
  refine al_step rfl rfl (aop_move rfl) ?_
  refine al_step rfl rfl (aop_retn [4, 3] rfl (.inr rfl) (under2S_c (.mk tk ti tn tl ts : Tm) d bd bvs dp vs) ⟨_, _, rfl, rfl, ⟨_, _, rfl, rfl, rfl⟩⟩ (by decide) rfl (.inl rfl)) ?_
  refine al_step rfl rfl (aop_assign rfl) ?_
  refine al_end rfl ?_
  refine awp_seq ?_
  refine awp_region ?_
  refine al_step rfl rfl (aop_move rfl) ?_
  refine al_step rfl rfl (aop_cmp rfl rfl rfl) ?_
  refine al_end rfl ?_
  refine awp_cond rfl (fun c => ?_) (fun c => ?_)
  · (try simp only [sd, se] at c)
    have hvl := valI_lt (vs := vs) (dp := dp) (ti := (Tm.mk tk ti tn tl ts).index) (d := d) c
    refine awp_seq ?_
    refine awp_dr (fun k => Nat.beq k 7) mx0 ?_
    refine dr_read (j := 3) rfl rfl rfl (fun H i hi => aop_load_box1 (i := i) ty24 rfl hi rfl) (by repeat' first | exact trivial | refine And.intro ?_ ?_ | ((refine Or.inr (And.intro ?_ ?_) <;> repeat (first | exact List.Mem.head _ | apply List.Mem.tail)); done) | exact Or.inl (by kernel_rfl)) trivial ?_
    refine dr_free rfl rfl (fun _ => aop_move rfl) trivial ?_
    obtain ⟨x, hx⟩ := getElem?_of_lt (l := vs) (i := (valI vs dp (.mk tk ti tn tl ts : Tm).index d : Int).toNat) (by omega)
    refine dr_free rfl rfl (fun _ => aop_index_lst el24 rfl rfl (by omega) (encTs_get hx) (encT_len _)) trivial ?_
    refine dr_free rfl rfl (fun _ => aop_load_ref ty26 rfl (encT_len _)) trivial ?_
    refine dr_read (j := 4) rfl rfl rfl (fun H i hi => aop_load_box1 (i := i) ty3 rfl hi rfl) (by repeat' first | exact trivial | refine And.intro ?_ ?_ | ((refine Or.inr (And.intro ?_ ?_) <;> repeat (first | exact List.Mem.head _ | apply List.Mem.tail)); done) | exact Or.inl (by kernel_rfl)) trivial ?_
    refine dr_free rfl rfl (fun _ => aop_move rfl) trivial ?_
    refine dr_free rfl rfl (fun _ => aop_addw rfl rfl) trivial ?_
    refine dr_exS [] rfl rfl rfl (.inl ⟨rfl, rfl, rfl⟩) (shiftedP_c x (wr ((dp : Int) + (d : Int))) 0 (Nds_mem h6 hx) (Vps_mem h7 hx) (h8 x (List.mem_of_getElem? hx)) (by rw [hw]; omega) (by omega)) rfl (by decide) (aw (we rfl) (aw (we rfl) (aw (we rfl) (aw0)))) (fun _ _ h => (congrArg List.length h).trans rfl) (by kernel_rfl) (by kernel_rfl) rfl (by repeat' first | exact trivial | refine And.intro ?_ ?_ | ((refine Or.inr (And.intro ?_ ?_) <;> repeat (first | exact List.Mem.head _ | apply List.Mem.tail)); done) | exact Or.inl (by kernel_rfl)) ?_ ?_
    rotate_left
    · intro e he _ _ hτ
      exact ⟨rfl, _, List.nil_sublist _, ⟨_, (repV_val (i := ti) c hx).trans he, rfl⟩⟩
    rintro z _ hz rfl
    refine ⟨(by repeat' first | exact trivial | refine And.intro ?_ ?_ | ((refine Or.inr (And.intro ?_ ?_) <;> repeat (first | exact List.Mem.head _ | apply List.Mem.tail)); done) | exact Or.inl (by kernel_rfl)), trivial, ?_⟩
    refine dr_eff rfl rfl (aop_store_whole (i := 0) ty26 rfl rfl rfl (by simp [encT_len]) (by first | rfl | simp [encT_len]) (one_Tm _)) (by repeat' first | exact trivial | refine And.intro ?_ ?_ | ((refine Or.inr (And.intro ?_ ?_) <;> repeat (first | exact List.Mem.head _ | apply List.Mem.tail)); done) | exact Or.inl (by kernel_rfl)) trivial ?_
    refine dr_end rfl (by kernel_rfl) ?_
    refine awp_ret ?_
    refine ⟨rfl, _, _, ⟨_, _, rfl, (resv_row (i := 0) ty26 rfl rfl (by simp [encT_len])), rfl⟩, (subl (is := [2, 3, 4]) rfl), ?_⟩
    exact ⟨z, (repV_val (i := ti) c hx).trans hz, rfl, rfl⟩
  · (try simp only [sd, se] at c)
    refine awp_skip ?_
    refine awp_seq ?_
    refine awp_seq ?_
    refine awp_region ?_
    refine al_step rfl rfl (aop_field_ptr fd26 rfl rfl) ?_
    refine al_step rfl rfl (aop_load_box1 (i := 1) ty3 rfl rfl rfl) ?_
    refine al_step rfl rfl (aop_move rfl) ?_
    refine al_step rfl rfl (aop_subw rfl rfl) ?_
    refine al_step rfl rfl (aop_load_box1 (i := 4) ty3 rfl rfl rfl) ?_
    refine al_step rfl rfl (aop_cmp rfl rfl rfl) ?_
    refine al_end rfl ?_
    refine awp_cond rfl (fun c1 => ?_) (fun c1 => ?_)
    · (try simp only [sd, se] at c1)
      refine awp_seq ?_
      refine awp_region ?_
      refine al_step rfl rfl (aop_load_box (i := 1) ty26 rfl rfl rfl) ?_
      refine al_step rfl rfl (aop_fun rfl rfl (plainP_c (.mk tk ti tn tl ts : Tm) h1) rfl) ?_
      refine al_step rfl rfl (aop_store_whole (i := 0) ty26 rfl rfl rfl (by simp [encT_len]) (by first | rfl | simp [encT_len]) (one_Tm _)) ?_
      refine al_end rfl ?_
      refine awp_ret ?_
      refine ⟨rfl, _, _, ⟨_, _, rfl, (resv_row (i := 0) ty26 rfl rfl (by simp [encT_len])), rfl⟩, (subl (is := [2, 3, 4]) rfl), ?_⟩
      exact ⟨(.mk tk ti tn tl []), repV_low (by simpa [Tm.index] using c) (by omega), rfl, rfl⟩
    · (try simp only [sd, se] at c1)
      refine awp_skip ?_
      refine awp_seq ?_
      refine awp_region ?_
      refine al_step rfl rfl (aop_field_ptr fd26 rfl rfl) ?_
      refine al_step rfl rfl (aop_load_box1 (i := 1) ty3 rfl rfl rfl) ?_
      refine al_step rfl rfl (aop_load_box1 (i := 3) ty24 rfl rfl rfl) ?_
      refine al_step rfl rfl (aop_lenE el24 rfl (encTs_len _)) ?_
      refine al_step rfl rfl (aop_subw rfl rfl) ?_
      refine al_exS [] rfl rfl rfl (.inl ⟨rfl, rfl, rfl⟩) (movedP_c (wr ((ti : Int) - ((vs.length : Nat) : Int)))) rfl (by decide) (aw (we rfl) (aw0)) (fun _ _ h => (congrArg List.length h).trans rfl) ?_ ?_
      rotate_left
      · intro e _ he
        exact ⟨rfl, _, List.nil_sublist _, ⟨_, by rw [repV_mv (by simpa [Tm.index] using c) (by omega), he], rfl⟩⟩
      rintro z _ hz rfl
      refine al_step rfl rfl (aop_store_whole (i := 0) ty26 rfl rfl rfl (by simp [encT_len]) (by first | rfl | simp [encT_len]) (one_Tm _)) ?_
      refine al_end rfl ?_
      refine awp_ret ?_
      refine ⟨rfl, _, _, ⟨_, _, rfl, (resv_row (i := 0) ty26 rfl rfl (by simp [encT_len])), rfl⟩, (subl (is := [2, 3, 4]) rfl), ?_⟩
      exact ⟨z, by rw [repV_mv (by simpa [Tm.index] using c) (by omega), hz], rfl, rfl⟩

end Go.Proofs.YtgfecpjmbgcobaaGreat
/- Contracts of functions of the program. -/
namespace Go.Proofs.YtgfecpjmbgcobaaGreat
open Go.Abs Go.Eu
set_option linter.unusedVariables false
set_option linter.unusedSimpArgs false
set_option maxRecDepth 100000
set_option maxHeartbeats 2000000 in
theorem underPc_c : ∀ (t : Tm) (vs : List Tm) (dp : Int), (Nd t) → (Vp t) → (size t < 1099511627776) → (Nds vs) → (Vps vs) → (∀ v ∈ vs, size v < big) → (0 ≤ dp ∧ dp ≤ 65536) → (vs.length < big) → Fun Tryz.prog 82 [.agg ((encT t).map .p), .p (.lst (encTs vs)), .p (I dp)] (.tup [.agg ((encT ((underP t vs dp).1)).map .p), .p (I ((underP t vs dp).2))]) := by
  intro t vs dp h1 h2 h3 h4 h5 h6 h7 h8
  have h8b := h8
  simp only [big] at h8b
  refine acalls_of_awpD Tryz.func82 rfl en82 (n := 49) rfl rfl ?_
  refine awp_seq ?_
  refine awp_region ?_
  refine al_new rfl rfl (aop_box rfl) fun b3 => ?_
  refine al_new rfl rfl (aop_box rfl) fun b4 => ?_
  refine al_new rfl rfl (aop_box rfl) fun b5 => ?_
  refine al_new rfl rfl (aop_alloc zr26 rfl) fun b6 => ?_
  refine al_new rfl rfl (aop_alloc zr32 rfl) fun b7 => ?_
  refine al_end rfl ?_
  refine awp_seq ?_
  refine awp_seq ?_
  refine awp_region ?_
  refine al_step rfl rfl (aop_load_box1 (i := 2) ty3 rfl rfl rfl) ?_
  refine al_step rfl rfl (aop_cmp rfl rfl rfl) ?_
  refine al_end rfl ?_
  refine awp_cond rfl (fun c => ?_) (fun c => ?_)
  · (try simp only [sd, se] at c)
    exact absurd c (by omega)
  · (try simp only [sd, se] at c)
    refine awp_skip ?_
    refine awp_seq ?_
    refine awp_region ?_
    refine al_step rfl rfl (aop_makeFunc rfl rfl) ?_
    refine al_defer rfl rfl rfl rfl ?_
    refine al_end rfl ?_
    refine awp_seq ?_
    refine awp_region ?_
    refine al_step rfl rfl (aop_makeFunc rfl rfl) ?_
    refine al_new rfl rfl (aop_alloc zr137 rfl) fun b8 => ?_
    refine al_step rfl rfl (aop_store_box (i := 0) ty137 rfl rfl rfl rfl rfl rfl) ?_
    refine al_end rfl ?_
    refine awp_seq ?_
    refine awp_region ?_
    refine al_step rfl rfl (aop_load_box1 (i := 4) ty24 rfl rfl rfl) ?_
    refine al_step rfl rfl (aop_lenE el24 rfl (encTs_len _)) ?_
    refine al_vec rfl rfl (aop_makeSlice2 el59 zr3 rfl rfl (by decide) rfl rfl rfl (by omega) (by omega) (by omega) (vr_map (f := encI) (((vs.length : Nat) : Int).toNat) 0)) fun b20 cp => ?_
    refine al_new rfl rfl (aop_alloc zr59 rfl) fun b9 => ?_
    refine al_step rfl rfl (aop_store_box (i := 0) ty59 rfl rfl rfl rfl rfl rfl) ?_
    refine al_end rfl ?_
    refine awp_seq ?_
    refine awp_seq ?_
    refine awp_region ?_
    refine al_step rfl rfl (aop_load_box1 (i := 6) ty24 rfl rfl rfl) ?_
    refine al_step rfl rfl (aop_lenE el24 rfl (encTs_len _)) ?_
    refine al_step rfl rfl (aop_move rfl) ?_
    refine al_end rfl ?_
    refine awp_block ?_
    refine awp_while (α := Nat × Option Nat × Nat) (fun (i, o, cp1) => ⟨49, mk [(3, .ptr b3 0), (4, .ptr b4 0), (5, .ptr b5 0), (6, .ptr b6 0), (7, .ptr b7 0), (8, .ptr b8 0), (9, .ptr b9 0), (21, .p (.lst (encTs vs))), (22, .p (I (vs.length : Nat))), (23, .p (I (i : Int)))], [.box b9 [.vs o (List.map encI (((vs.take i).map fun v => (size v : Int)) ++ List.replicate (vs.length - i) 0)).length cp1], .vec o 1 (List.map encI (((vs.take i).map fun v => (size v : Int)) ++ List.replicate (vs.length - i) 0)) cp1, .box b8 [.fn (.func 99) [] [.ptr b5 0, .ptr b4 0]], .box b7 [.p (I 0)], .box b6 [.p (I 0), .p (I 0), .p (.str ⟨#[]⟩), .p (.nils), .p (.nils)], .box b5 [.p (I dp)], .box b4 [.p (.lst (encTs vs))], .box b3 ((encT t).map .p)], [.clo (.func 97) [.ptr b6 0, .ptr b7 0]]⟩) (fun (i, o, cp1) => vs.length - i) (fun (i, o, cp1) => i ≤ vs.length) ⟨0, (some b20), cp⟩ (by first | trivial | omega | simp | (simp; omega)) ?_ ?_
    · exact le_mkW ⟨we rfl, we rfl, we rfl, we rfl, we rfl, we rfl, we rfl, we rfl, we rfl, we rfl, trivial⟩ (leH (is := [0, 1, 2, 3, 4, 5, 6, 7]) rfl (wl (obw (aw (we (vsE_map (f := encI) (List.replicate (((vs.length : Nat) : Int).toNat) 0) (by simp))) (aw0))) (wl (ovE_map (f := encI) (List.replicate (((vs.length : Nat) : Int).toNat) 0) (by simp)) (wl (oe rfl) (wl (oe rfl) (wl (oe rfl) (wl (oe rfl) (wl (oe rfl) (wl (oe rfl) (wl0))))))))))
    rintro ⟨i, o, cp1⟩ hC
    try simp only at hC
    have hi := hC
    refine awp_seq ?_
    refine awp_region ?_
    refine al_step rfl rfl (aop_cmp rfl rfl rfl) ?_
    refine al_end rfl ?_
    refine awp_seq ?_
    refine awp_cond rfl (fun c1 => ?_) (fun c1 => ?_)
    · (try simp only [sd, se] at c1)
      refine awp_skip ?_
      refine awp_seq ?_
      refine awp_block ?_
      refine awp_seq ?_
      refine awp_region ?_
      refine al_step rfl rfl (aop_move rfl) ?_
      obtain ⟨x, hx⟩ := getElem?_of_lt (l := vs) (i := i) (by omega)
      refine al_step rfl rfl (aop_index_lst el24 rfl rfl (by omega) (encTs_get hx) (encT_len _)) ?_
      refine al_step rfl rfl (aop_load_ref ty26 rfl (encT_len _)) ?_
      refine al_new rfl rfl (aop_alloc zr26 rfl) fun b11 => ?_
      refine al_step rfl rfl (aop_assign rfl) ?_
      refine al_step rfl rfl (aop_store_whole (i := 0) ty26 rfl rfl rfl (by simp [encT_len]) (by first | rfl | simp [encT_len]) (one_Tm _)) ?_
      refine al_end rfl ?_
      refine awp_some (i := 2) rfl (by simp [encTs_len]; omega) fun b hb => ?_
      subst hb
      refine awp_dr (fun k => false) mx0 ?_
      refine dr_read (j := 1) rfl rfl rfl (fun H i hi => aop_load_box1 (i := i) ty59 rfl hi rfl) (by repeat' first | exact trivial | refine And.intro ?_ ?_ | ((refine Or.inr (And.intro ?_ ?_) <;> repeat (first | exact List.Mem.head _ | apply List.Mem.tail)); done) | exact Or.inl (by kernel_rfl)) trivial ?_
      refine dr_free rfl rfl (fun _ => aop_move rfl) trivial ?_
      refine dr_read (j := 0) rfl rfl rfl (fun H i hi => aop_load_box (i := i) ty26 rfl hi (by simp [encT_len])) (by repeat' first | exact trivial | refine And.intro ?_ ?_ | ((refine Or.inr (And.intro ?_ ?_) <;> repeat (first | exact List.Mem.head _ | apply List.Mem.tail)); done) | exact Or.inl (by kernel_rfl)) trivial ?_
      refine dr_free rfl rfl (fun _ => aop_fun rfl rfl (sizeP_c x (Nds_mem h4 hx) (by have := h6 x (List.mem_of_getElem? hx); simp only [big] at this; omega)) rfl) trivial ?_
      refine dr_free rfl rfl (fun _ => aop_index_vs el59 rfl rfl (by omega) (by simp only [List.length_append, List.length_map, List.length_take, List.length_replicate]; omega)) trivial ?_
      refine dr_eff rfl rfl (aop_store_vec2 (i := 2) (j := i) ty3 rfl rfl rfl (by simp only [List.length_append, List.length_map, List.length_take, List.length_replicate]; omega) rfl rfl rfl rfl (vs_map (f := encI) (((vs.take i).map fun v => (size v : Int)) ++ List.replicate (vs.length - i) 0) i (size x : Nat))) (by repeat' first | exact trivial | refine And.intro ?_ ?_ | ((refine Or.inr (And.intro ?_ ?_) <;> repeat (first | exact List.Mem.head _ | apply List.Mem.tail)); done) | exact Or.inl (by kernel_rfl)) trivial ?_
      refine dr_end rfl (by kernel_rfl) ?_
      refine awp_region ?_
      refine al_step rfl rfl (aop_add rfl rfl (by omega) (by omega)) ?_
      refine al_step rfl rfl (aop_move rfl) ?_
      refine al_end rfl ?_
      refine ⟨⟨i + 1, (some b), cp1⟩, (by first | omega | (simp only; omega)), by omega, le_mkW ⟨we rfl, we rfl, we rfl, we rfl, we rfl, we rfl, we rfl, we rfl, we rfl, we rfl, trivial⟩ (leH (is := [1, 2, 3, 4, 5, 6, 7, 8]) rfl (wl (obw (aw (we (vsLen_map (f := encI) (((vs.take i).map fun v => (size v : Int)) ++ List.replicate (vs.length - i) 0) (by simp; omega))) (aw0))) (wl (ovE_map (f := encI) ((((vs.take i).map fun v => (size v : Int)) ++ List.replicate (vs.length - i) 0).set i (size x : Nat)) (szfill hx)) (wl (oe rfl) (wl (oe rfl) (wl (oe rfl) (wl (oe rfl) (wl (oe rfl) (wl (oe rfl) (wl0))))))))))⟩
    · (try simp only [sd, se] at c1)
      refine awp_exit ?_
      refine awp_seq ?_
      refine awp_region ?_
      rw [szall (vs := vs) (i := i) (by omega)]
      refine al_ghost (ghost_freeze_cell (i := 1) (j := 0) (q := 0) [] rfl rfl rfl (memall trivial)) ?_
      refine al_step rfl rfl (aop_build fd140 zr140 rfl) ?_
      refine al_new rfl rfl (aop_box rfl) fun b35 => ?_
      refine al_new rfl rfl (aop_alloc zr138 rfl) fun b12 => ?_
      refine al_step rfl rfl (aop_store_box (i := 0) ty138 rfl rfl rfl rfl rfl rfl) ?_
      refine al_end rfl ?_
      refine awp_seq ?_
      refine awp_region ?_
      refine al_step rfl rfl (aop_makeFunc rfl rfl) ?_
      refine al_step rfl rfl (aop_build fd144 zr144 rfl) ?_
      refine al_step rfl rfl (aop_load_box (i := 8) ty26 rfl rfl (by simp [encT_len])) ?_
      refine al_exS [3, 0, 2, 6, 7, 1] rfl rfl rfl (.inl ⟨rfl, rfl, rfl⟩) (buildP_c (cntV vs (vs.map fun v => (size v : Int)) dp) (fun n T => T = [.box b8 [.fn (.func 99) [] [.ptr b5 0, .ptr b4 0]], .box b12 [.ptr b35 0], .box b9 [.p (.lst (List.map encI (vs.map fun v => (size v : Int))))], .box b5 [.p (I dp)], .box b4 [.p (.lst (encTs vs))], .box b35 [.p (I n)]]) 100 [.ptr b8 0, .ptr b12 0, .ptr b9 0] (fun n t d T hn hp h0 hb hT => by subst hT; exact under3S_c t d b8 b12 b9 b5 b4 b35 dp n vs (vs.map fun v => (size v : Int)) (by simp)) _ t 0 0 _ (Nat.le_refl _) h1 h2 (by omega) (by simp only [big]; omega) rfl) ⟨_, _, rfl, rfl, ⟨_, _, rfl, rfl, ⟨_, _, rfl, rfl, ⟨_, _, rfl, rfl, ⟨_, _, rfl, rfl, ⟨_, _, rfl, rfl, rfl⟩⟩⟩⟩⟩⟩ (by decide) (argsW_refl _) (fun _ _ h => (congrArg List.length h).trans rfl) ?_ ?_
      rotate_left
      · intro e _ he
        refine ⟨_, _, _, rfl, perm_pick (is := [1, 0]) _ (by decide) ⟨_, _, rfl, rfl, ⟨_, _, rfl, rfl, rfl⟩⟩, ADCalls.eq (under1P_c b6 b7 _) ?_⟩
        refine ⟨_, [], ⟨_, _, rfl, (resv_row (i := 0) ty26 rfl rfl rfl), ⟨_, _, rfl, (resv_one (i := 1) ty32 rfl rfl), rfl⟩⟩, (List.nil_sublist _), ?_⟩
        rw [underP_error (underE_err1 he)]
        exact ⟨rfl, rfl⟩
        
      rintro ⟨z, n1⟩ _ hz rfl
      refine al_end rfl ?_
      refine awp_seq ?_
      refine awp_dr (fun k => Nat.beq k 1 || Nat.beq k 3) mx0 ?_
      refine dr_free rfl rfl (fun _ => aop_makeFunc rfl rfl) trivial ?_
      refine dr_newc [(2, .read (.box b3 ((encT t).map .p)) (.agg ((encT t).map .p)))] rfl rfl rfl (.inl ⟨rfl, rfl, rfl⟩) (varsS_c 104 [.ptr b8 0, .ptr b4 0, .ptr b5 0]) (.inl rfl) (by kernel_rfl) fun bn => ⟨(by repeat' first | exact trivial | refine And.intro ?_ ?_ | ((refine Or.inr (And.intro ?_ ?_) <;> repeat (first | exact List.Mem.head _ | apply List.Mem.tail)); done) | exact Or.inl (by kernel_rfl)), trivial, ?_⟩
      refine dr_read (j := 9) rfl rfl rfl (fun H i hi => aop_load_box (i := i) ty26 rfl hi (by simp [encT_len])) (by repeat' first | exact trivial | refine And.intro ?_ ?_ | ((refine Or.inr (And.intro ?_ ?_) <;> repeat (first | exact List.Mem.head _ | apply List.Mem.tail)); done) | exact Or.inl (by kernel_rfl)) (by repeat' first | exact trivial | rfl | refine And.intro ?_ ?_) ?_
      refine dr_exS [0, 4, 8, 7] rfl rfl rfl (.inl ⟨rfl, rfl, rfl⟩) (buildP_c (varV (repV vs dp)) (fun _ T => T = [.box bn [.fn (.func 104) [] [.ptr b8 0, .ptr b4 0, .ptr b5 0]], .box b8 [.fn (.func 99) [] [.ptr b5 0, .ptr b4 0]], .box b4 [.p (.lst (encTs vs))], .box b5 [.p (I dp)]]) 118 [.ptr bn 0] (fun s t d T hn hp h0 hb hT => by subst hT; exact vars1S_c (repV vs dp) 104 [.ptr b8 0, .ptr b4 0, .ptr b5 0] [.box b8 [.fn (.func 99) [] [.ptr b5 0, .ptr b4 0]], .box b4 [.p (.lst (encTs vs))], .box b5 [.p (I dp)]] (fun t d g1 g2 g3 g4 g5 => under4S_c t d b8 b4 b5 dp vs g1 g2 g3 g4 g5 h4 h5 h6 h7 h8) bn s t d hn hp h0 hb) _ t 0 () _ (Nat.le_refl _) h1 h2 (by omega) (by simp only [big]; omega) rfl) ⟨_, _, rfl, rfl, ⟨_, _, rfl, rfl, ⟨_, _, rfl, rfl, ⟨_, _, rfl, rfl, rfl⟩⟩⟩⟩ (by decide) (argsW_refl _) (fun _ _ h => (congrArg List.length h).trans rfl) (by kernel_rfl) (by kernel_rfl) rfl (by repeat' first | exact trivial | refine And.intro ?_ ?_ | ((refine Or.inr (And.intro ?_ ?_) <;> repeat (first | exact List.Mem.head _ | apply List.Mem.tail)); done) | exact Or.inl (by kernel_rfl)) ?_ ?_
      rotate_left
      · intro e he _ _ hτ
        refine ⟨_, _, _, rfl, perm_pick (is := [4, 3]) _ (by decide) ⟨_, _, rfl, rfl, ⟨_, _, rfl, rfl, rfl⟩⟩, ADCalls.eq (under1P_c b6 b7 _) ?_⟩
        refine ⟨_, [], ⟨_, _, rfl, (resv_row (i := 0) ty26 (hτ 6 (noDst_spec (by kernel_rfl))) rfl rfl), ⟨_, _, rfl, (resv_one (i := 1) ty32 (hτ 7 (noDst_spec (by kernel_rfl))) rfl), rfl⟩⟩, (List.nil_sublist _), ?_⟩
        rw [underP_error (underE_err2 hz he)]
        exact ⟨rfl, rfl⟩
        
      rintro ⟨z1, _⟩ _ hz1 rfl
      refine ⟨(by repeat' first | exact trivial | refine And.intro ?_ ?_ | ((refine Or.inr (And.intro ?_ ?_) <;> repeat (first | exact List.Mem.head _ | apply List.Mem.tail)); done) | exact Or.inl (by kernel_rfl)), (by repeat' first | exact trivial | rfl | refine And.intro ?_ ?_), ?_⟩
      refine dr_eff rfl rfl (aop_store_whole (i := 6) ty26 rfl rfl rfl (by simp [encT_len]) (by first | rfl | simp [encT_len]) (one_Tm _)) (by repeat' first | exact trivial | refine And.intro ?_ ?_ | ((refine Or.inr (And.intro ?_ ?_) <;> repeat (first | exact List.Mem.head _ | apply List.Mem.tail)); done) | exact Or.inl (by kernel_rfl)) (by repeat' first | exact trivial | rfl | refine And.intro ?_ ?_) ?_
      refine dr_end rfl (by kernel_rfl) ?_
      refine awp_seq ?_
      refine awp_seq ?_
      refine awp_region ?_
      refine al_step rfl rfl (aop_load_box (i := 6) ty26 rfl rfl (by simp [encT_len])) ?_
      refine al_step rfl rfl (aop_fun rfl rfl (depthP_c _ z1 (Nat.le_refl _) (repW_nd h4 h5 h1 h2 hz1)) rfl) ?_
      refine al_step rfl rfl (aop_cmp rfl rfl rfl) ?_
      refine al_end rfl ?_
      refine awp_cond rfl (fun c2 => ?_) (fun c2 => ?_)
      · (try simp only [sd, se] at c2)
        refine awp_seq ?_
        refine awp_region ?_
        refine al_step rfl rfl (aop_build fd26 zr26 rfl) ?_
        obtain ⟨z1k, z1i, z1n, z1l, z1s⟩ := z1
        refine al_step rfl rfl (aop_store_box (i := 6) ty26 rfl rfl rfl rfl rfl rfl) ?_
        refine al_step rfl rfl (aop_store_box (i := 5) ty32 rfl rfl rfl rfl rfl rfl) ?_
        refine al_end rfl ?_
        refine awp_ghost (ghost_box (i := 6) rfl) ?_
        refine awp_ret ?_
        refine ⟨_, _, _, rfl, getAll_perm (is := [6, 5]) (by decide) ⟨_, _, rfl, rfl, ⟨_, _, rfl, rfl, rfl⟩⟩, ADCalls.eq (under1R_c b6 b7 _ _) ?_⟩
        refine ⟨_, _, ⟨_, _, rfl, (resv_row (i := 0) ty26 rfl rfl rfl), ⟨_, _, rfl, (resv_one (i := 1) ty32 rfl rfl), rfl⟩⟩, (List.nil_sublist _), ?_⟩
        rw [underP_deep (underE_ok hz hz1) (by omega)]
        all_goals exact ⟨rfl, rfl⟩
      · (try simp only [sd, se] at c2)
        refine awp_skip ?_
        refine awp_seq ?_
        refine awp_region ?_
        refine al_step rfl rfl (aop_load_box (i := 6) ty26 rfl rfl (by simp [encT_len])) ?_
        refine al_step rfl rfl (aop_store_whole (i := 6) ty26 rfl rfl rfl (by simp [encT_len]) (by first | rfl | simp [encT_len]) (one_Tm _)) ?_
        refine al_step rfl rfl (aop_store_box (i := 5) ty32 rfl rfl rfl rfl rfl rfl) ?_
        refine al_end rfl ?_
        refine awp_ret ?_
        refine ⟨_, _, _, rfl, getAll_perm (is := [6, 5]) (by decide) ⟨_, _, rfl, rfl, ⟨_, _, rfl, rfl, rfl⟩⟩, ADCalls.eq (under1R_c b6 b7 _ _) ?_⟩
        refine ⟨_, _, ⟨_, _, rfl, (resv_row (i := 0) ty26 rfl rfl (by simp [encT_len])), ⟨_, _, rfl, (resv_one (i := 1) ty32 rfl rfl), rfl⟩⟩, (List.nil_sublist _), ?_⟩
        rw [underP_ok (underE_ok hz hz1) (by omega)]
        all_goals exact ⟨rfl, rfl⟩

end Go.Proofs.YtgfecpjmbgcobaaGreat
/- Contracts of functions of the program. -/
namespace Go.Proofs.YtgfecpjmbgcobaaGreat
open Go.Abs Go.Eu
set_option linter.unusedVariables false
set_option linter.unusedSimpArgs false
set_option maxRecDepth 100000
theorem substPc_c : ∀ (t : Tm) (vs : List Tm), (Nd t) → (Vp t) → (size t < 1099511627776) → (Nds vs) → (Vps vs) → (∀ v ∈ vs, size v < big) → (vs.length < big) → Fun Tryz.prog 69 [.agg ((encT t).map .p), .p (.lst (encTs vs))] (.tup [.agg ((encT ((underP t vs 0).1)).map .p), .p (I ((underP t vs 0).2))]) := by
  intro t vs h1 h2 h3 h4 h5 h6 h7
  refine acalls_of_awp Tryz.func69 rfl en69 (n := 11) rfl rfl ?_
  refine awp_seq ?_
  refine awp_region ?_
  refine al_new rfl rfl (aop_box rfl) fun b2 => ?_
  refine al_new rfl rfl (aop_alloc zr26 rfl) fun b4 => ?_
  refine al_step rfl rfl (aop_assign rfl) ?_
  refine al_end rfl ?_
  refine awp_seq ?_
  refine awp_region ?_
  refine al_step rfl rfl (aop_load_box (i := 1) ty26 rfl rfl (by simp [encT_len])) ?_
  refine al_step rfl rfl (aop_move rfl) ?_
  refine al_step rfl rfl (aop_fun rfl rfl (underPc_c t vs 0 h1 h2 h3 h4 h5 h6 (by omega) h7) rfl) ?_
  refine al_step rfl rfl (aop_extract rfl rfl) ?_
  refine al_step rfl rfl (aop_extract rfl rfl) ?_
  refine al_step rfl rfl (aop_store_whole (i := 0) ty26 rfl rfl rfl (by simp [encT_len]) (by first | rfl | simp [encT_len]) (one_Tm _)) ?_
  refine al_step rfl rfl (aop_assign rfl) ?_
  refine al_end rfl ?_
  refine awp_ret ?_
  refine ⟨rfl, _, _, ⟨_, _, rfl, (resv_row (i := 0) ty26 rfl rfl (by simp [encT_len])), ⟨_, _, rfl, rfl, rfl⟩⟩, (List.nil_sublist _), ?_⟩
  all_goals exact ⟨rfl, rfl⟩

end Go.Proofs.YtgfecpjmbgcobaaGreat
/- Contracts of functions of the program. -/
namespace Go.Proofs.YtgfecpjmbgcobaaGreat
open Go.Abs Go.Eu
set_option linter.unusedVariables false
set_option linter.unusedSimpArgs false
set_option maxRecDepth 100000
set_option maxHeartbeats 4000000 in
theorem value1_c : ∀ (F : FSt → Tm → Except Int (Tm × FSt)) (ms : List Mv) (bd md bo mo bw bm bv bf : Nat) (dn : List (Int × Tm)) (op : List Int) (wk : Int) (i : Int) (m : Mv) (hf : i ∉ op → ACalls Tryz.prog 67 [TV (valueOf ms i), .ptr bw 0, .ptr bm 0, .ptr bv 0, .ptr bf 0] [.box bd [.map md], .map md (mapE (dnE dn)), .box bo [.map mo], .map mo (mapE (mtE (op ++ [i]))), .box bw [.p (I wk)], .box bm [.p (.lst (List.map encM ms))], .box bv [.fn (.func 65) [] [.ptr bd 0, .ptr bo 0, .ptr bf 0, .ptr bm 0]], .box bf [.fn (.func 67) [] [.ptr bw 0, .ptr bm 0, .ptr bv 0, .ptr bf 0]]] (exR (fun (r : Tm × FSt) => TV r.1) (fun e => .p (.iface 32 (I e))) (fun r H' => H' = [.box bd [.map md], .map md (mapE (dnE r.2.dn)), .box bo [.map mo], .map mo (mapE (mtE r.2.op)), .box bw [.p (I r.2.wk)], .box bm [.p (.lst (List.map encM ms))], .box bv [.fn (.func 65) [] [.ptr bd 0, .ptr bo 0, .ptr bf 0, .ptr bm 0]], .box bf [.fn (.func 67) [] [.ptr bw 0, .ptr bm 0, .ptr bv 0, .ptr bf 0]]]) (F ⟨dn, op ++ [i], wk⟩ (valueOf ms i)))), 0 ≤ i → ms[i.toNat]? = some m → ms.length < big → ACalls Tryz.prog 65 [.p (I i), .ptr bd 0, .ptr bo 0, .ptr bf 0, .ptr bm 0] [.box bd [.map md], .map md (mapE (dnE dn)), .box bo [.map mo], .map mo (mapE (mtE op)), .box bw [.p (I wk)], .box bm [.p (.lst (List.map encM ms))], .box bv [.fn (.func 65) [] [.ptr bd 0, .ptr bo 0, .ptr bf 0, .ptr bm 0]], .box bf [.fn (.func 67) [] [.ptr bw 0, .ptr bm 0, .ptr bv 0, .ptr bf 0]]] (exR (fun (r : Tm × FSt) => TV r.1) (fun e => .p (.iface 32 (I e))) (fun r H' => H' = [.box bd [.map md], .map md (mapE (dnE r.2.dn)), .box bo [.map mo], .map mo (mapE (mtE r.2.op)), .box bw [.p (I r.2.wk)], .box bm [.p (.lst (List.map encM ms))], .box bv [.fn (.func 65) [] [.ptr bd 0, .ptr bo 0, .ptr bf 0, .ptr bm 0]], .box bf [.fn (.func 67) [] [.ptr bw 0, .ptr bm 0, .ptr bv 0, .ptr bf 0]]]) (valueP F ms ⟨dn, op, wk⟩ i)) := by
  intro F ms bd md bo mo bw bm bv bf dn op wk i m hf h1 h2 h3
  have hvo : valueOf ms i = m.value := by unfold valueOf; rw [h2]
  have hil := (List.getElem?_eq_some_iff.1 h2).1
  refine acalls_of_awp Tryz.func65 rfl en65 (n := 35) rfl rfl ?_
  refine awp_seq ?_
  refine awp_region ?_
  refine al_new rfl rfl (aop_alloc zr26 rfl) fun b6 => ?_
  refine al_end rfl ?_
  refine awp_seq ?_
  refine awp_seq ?_
  refine awp_region ?_
  refine al_step rfl rfl (aop_load_box1 (i := 1) ty103 rfl rfl rfl) ?_
  refine al_step rfl rfl (aop_move rfl) ?_
  refine al_step rfl rfl (aop_lookupOk2 (i := 2) mo103 zr26 rep_zeroT rfl rfl rfl (dn_getD _ _) (dn_some _ _)) ?_
  refine al_step rfl rfl (aop_move rfl) ?_
  refine al_step rfl rfl (aop_extract rfl rfl) ?_
  refine al_step rfl rfl (aop_extract rfl rfl) ?_
  refine al_new rfl rfl (aop_alloc zr26 rfl) fun b7 => ?_
  refine al_step rfl rfl (aop_store_whole (i := 0) ty26 rfl rfl rfl (by simp [encT_len]) (by first | rfl | simp [encT_len]) (one_Tm _)) ?_
  refine al_step rfl rfl (aop_assign rfl) ?_
  refine al_end rfl ?_
  refine awp_seq ?_
  refine awp_region ?_
  refine al_step rfl rfl (aop_move rfl) ?_
  refine al_end rfl ?_
  refine awp_cond rfl (fun c => ?_) (fun c => ?_)
  · (try simp only [sd, se] at c)
    refine awp_seq ?_
    refine awp_region ?_
    refine al_step rfl rfl (aop_load_box (i := 0) ty26 rfl rfl (by simp [encT_len])) ?_
    refine al_step rfl rfl (aop_store_whole (i := 1) ty26 rfl rfl rfl (by simp [encT_len]) (by first | rfl | simp [encT_len]) (one_Tm _)) ?_
    refine al_end rfl ?_
    refine awp_ret ?_
    refine ⟨rfl, _, _, ⟨_, _, rfl, (resv_row (i := 1) ty26 rfl rfl (by simp [encT_len])), rfl⟩, (subl (is := [2, 3, 4, 5, 6, 7, 8, 9]) rfl), ?_⟩
    exact ⟨⟨(dget i dn).getD zeroT, ⟨dn, op, wk⟩⟩, valueP_hit c, rfl, rfl⟩
  · (try simp only [sd, se] at c)
    refine awp_skip ?_
    refine awp_seq ?_
    refine awp_seq ?_
    refine awp_region ?_
    refine al_step rfl rfl (aop_load_box1 (i := 4) ty87 rfl rfl rfl) ?_
    refine al_step rfl rfl (aop_move rfl) ?_
    refine al_step rfl rfl (aop_lookup2 (i := 5) mo87 zr4 rep_false rfl rfl rfl (mt_get _ _)) ?_
    refine al_end rfl ?_
    refine awp_cond rfl (fun c1 => ?_) (fun c1 => ?_)
    · (try simp only [sd, se] at c1)
      refine awp_region ?_
      refine al_pcall rfl rfl rfl (.inl ⟨rfl, rfl, rfl⟩) (stopM_c 22) (aw (we rfl) (aw0)) ?_
      exact ⟨rfl, _, List.nil_sublist _, ⟨_, valueP_loop c c1, rfl⟩⟩
    · (try simp only [sd, se] at c1)
      refine awp_skip ?_
      refine awp_seq ?_
      refine awp_region ?_
      refine al_step rfl rfl (aop_load_box1 (i := 4) ty87 rfl rfl rfl) ?_
      refine al_step rfl rfl (aop_move rfl) ?_
      refine al_step rfl rfl (aop_mapUpdate (i := 5) mo87 rfl rfl rfl rfl) ?_
      refine al_end rfl ?_
      refine awp_seq ?_
      refine awp_ghost (ghost_obj (i := 5) rfl (om (congrArg mapE (mt_set (s := op) (k := i) (by simpa [inB] using c1))))) ?_
      refine awp_dr (fun k => Nat.beq k 8) mx0 ?_
      refine dr_read (j := 2) rfl rfl rfl (fun H i hi => aop_load_box1 (i := i) ty103 rfl hi rfl) (by repeat' first | exact trivial | refine And.intro ?_ ?_ | ((refine Or.inr (And.intro ?_ ?_) <;> repeat (first | exact List.Mem.head _ | apply List.Mem.tail)); done) | exact Or.inl (by kernel_rfl)) trivial ?_
      refine dr_free rfl rfl (fun _ => aop_move rfl) trivial ?_
      refine dr_read (j := 9) rfl rfl rfl (fun H i hi => aop_load_box1 (i := i) ty56 rfl hi rfl) (by repeat' first | exact trivial | refine And.intro ?_ ?_ | ((refine Or.inr (And.intro ?_ ?_) <;> repeat (first | exact List.Mem.head _ | apply List.Mem.tail)); done) | exact Or.inl (by kernel_rfl)) trivial ?_
      refine dr_read (j := 7) rfl rfl rfl (fun H i hi => aop_load_box1 (i := i) ty22 rfl hi rfl) (by repeat' first | exact trivial | refine And.intro ?_ ?_ | ((refine Or.inr (And.intro ?_ ?_) <;> repeat (first | exact List.Mem.head _ | apply List.Mem.tail)); done) | exact Or.inl (by kernel_rfl)) trivial ?_
      refine dr_free rfl rfl (fun _ => aop_move rfl) trivial ?_
      obtain ⟨x, hx⟩ := getElem?_of_lt (l := ms) (i := (i : Int).toNat) (by omega)
      refine dr_free rfl rfl (fun _ => aop_index_lst el22 rfl rfl (by omega) (encM_get hx) (encM_len _)) trivial ?_
      obtain ⟨xy, xn, xv, xc⟩ := x
      obtain ⟨xyk, xyi, xyn, xyl, xys⟩ := xy
      obtain ⟨xvk, xvi, xvn, xvl, xvs⟩ := xv
      refine dr_free rfl rfl (fun _ => aop_field_ref fd44 rfl rfl) trivial ?_
      refine dr_free rfl rfl (fun _ => aop_load_ref_of (cs := [I xvk, I xvi, .str xvn, .lst (List.map encL xvl), .lst (encTs xvs)]) ty26 rfl rfl rfl) trivial ?_
      have hvx : valueOf ms i = .mk xvk xvi xvn xvl xvs := by unfold valueOf; rw [hx]
      refine dr_exS [2, 3, 4, 5, 6, 7, 8, 9] rfl rfl rfl (.inr rfl) (hf (by simpa [inB] using c1)) ⟨_, _, rfl, rfl, ⟨_, _, rfl, rfl, ⟨_, _, rfl, rfl, ⟨_, _, rfl, rfl, ⟨_, _, rfl, rfl, ⟨_, _, rfl, rfl, ⟨_, _, rfl, rfl, ⟨_, _, rfl, rfl, rfl⟩⟩⟩⟩⟩⟩⟩⟩ (by decide) (by rw [hvx]; exact argsW_refl _) (fun _ _ h => (congrArg List.length h).trans rfl) (by kernel_rfl) (by kernel_rfl) rfl (by repeat' first | exact trivial | refine And.intro ?_ ?_ | ((refine Or.inr (And.intro ?_ ?_) <;> repeat (first | exact List.Mem.head _ | apply List.Mem.tail)); done) | exact Or.inl (by kernel_rfl)) ?_ ?_
      rotate_left
      · intro e he _ _ hτ
        exact ⟨rfl, _, List.nil_sublist _, ⟨_, valueP_err (st := ⟨dn, op, wk⟩) c c1 he, rfl⟩⟩
      rintro ⟨z, ⟨dn1, op1, wk1⟩⟩ _ hz rfl
      refine ⟨(by repeat' first | exact trivial | refine And.intro ?_ ?_ | ((refine Or.inr (And.intro ?_ ?_) <;> repeat (first | exact List.Mem.head _ | apply List.Mem.tail)); done) | exact Or.inl (by kernel_rfl)), trivial, ?_⟩
      refine dr_eff rfl rfl (aop_mapUpdate (i := 3) mo103 rfl rfl rfl rfl) (by repeat' first | exact trivial | refine And.intro ?_ ?_ | ((refine Or.inr (And.intro ?_ ?_) <;> repeat (first | exact List.Mem.head _ | apply List.Mem.tail)); done) | exact Or.inl (by kernel_rfl)) trivial ?_
      refine dr_end rfl (by kernel_rfl) ?_
      refine awp_seq ?_
      refine awp_region ?_
      refine al_ghost (ghost_obj (i := 3) rfl (om (congrArg mapE (dn_set i z dn1)))) ?_
      refine al_step rfl rfl (aop_load_box1 (i := 2) ty103 rfl rfl rfl) ?_
      refine al_step rfl rfl (aop_move rfl) ?_
      refine al_step rfl rfl (aop_lookup2 (i := 3) mo103 zr26 rep_zeroT rfl rfl rfl (dn_getD (dset i z dn1) i)) ?_
      refine al_step rfl rfl (aop_store_whole (i := 1) ty26 rfl rfl rfl (by simp [encT_len]) (by first | rfl | simp [encT_len]) (one_Tm _)) ?_
      refine al_end rfl ?_
      refine awp_ret ?_
      refine ⟨rfl, _, _, ⟨_, _, rfl, (resv_row (i := 1) ty26 rfl rfl (by simp [encT_len])), rfl⟩, (subl (is := [2, 3, 4, 5, 6, 7, 8, 9]) rfl), ?_⟩
      exact ⟨⟨(dget i (dset i z dn1)).getD zeroT, ⟨dset i z dn1, op1, wk1⟩⟩, by rw [dget_dset]; exact valueP_new (F := F) (ms := ms) (st := ⟨dn, op, wk⟩) (i := i) (z := z) c c1 hz, rfl, rfl⟩

theorem checkedE_c : ∀ (t : Tm) (e : Int), (Nd t) → (size t < 1152921504606846976) → ACalls Tryz.prog 68 [.agg ((encT t).map .p), .p (I e)] [] (exR (fun (r : Tm) => TV r) (fun e => .p (.iface 32 (I e))) (fun r H' => H' = []) (chkP t e)) := by
  intro t e h1 h2
  refine acalls_of_awp Tryz.func68 rfl en68 (n := 13) rfl rfl ?_
  refine awp_seq ?_
  refine awp_region ?_
  refine al_new rfl rfl (aop_box rfl) fun b2 => ?_
  refine al_new rfl rfl (aop_alloc zr26 rfl) fun b4 => ?_
  refine al_end rfl ?_
  refine awp_seq ?_
  refine awp_seq ?_
  refine awp_meetR [2, 4] 10 (fun y => y = .p (.bool (((e : Int) != (0 : Int)) || (largeB t)))) ?_ ?_
  · refine awp_region ?_
    refine al_step rfl rfl (aop_move rfl) ?_
    refine al_step rfl rfl (aop_cmp rfl rfl rfl) ?_
    refine al_step rfl rfl (aop_move rfl) ?_
    refine al_case 7 rfl (fun g => ?_) (fun g => ?_)
    · (try simp only [sd, se] at g)
      refine al_pass rfl rfl rfl rfl rfl ?_
      refine al_pass rfl rfl rfl rfl rfl ?_
      refine al_step rfl rfl (aop_pick rfl rfl) ?_
      refine al_end rfl ?_
      exact ⟨rfl, rfl, (by first | exact List.Sublist.refl _ | exact List.sublist_cons_self _ _), (by first | rfl | (refine pB ?_; simp_all; done) | (refine pB ?_; simp_all <;> (intros; omega))), ⟨rfl, rfl, trivial⟩⟩
    · (try simp only [sd, se] at g)
      refine al_stepg rfl rfl rfl rfl (aop_load_box (i := 1) ty26 rfl rfl (by simp [encT_len])) ?_
      refine al_stepg rfl rfl rfl rfl (aop_fun rfl rfl (largeP_c t h1 h2) rfl) ?_
      refine al_step rfl rfl (aop_pick rfl rfl) ?_
      refine al_end rfl ?_
      exact ⟨rfl, rfl, (by first | exact List.Sublist.refl _ | exact List.sublist_cons_self _ _), (by first | rfl | (refine pB ?_; simp_all; done) | (refine pB ?_; simp_all <;> (intros; omega))), ⟨rfl, rfl, trivial⟩⟩
  rintro _ rfl
  refine awp_cond rfl (fun c => ?_) (fun c => ?_)
  · have cR := c
    (try simp only [sd, se] at c)
    refine awp_region ?_
    refine al_pcall rfl rfl rfl (.inl ⟨rfl, rfl, rfl⟩) (stopM_c 11) (aw (we rfl) (aw0)) ?_
    exact ⟨rfl, _, List.nil_sublist _, ⟨_, by unfold chkP; rw [if_pos (by simp_all)], rfl⟩⟩
  · have cR := c
    (try simp only [sd, se] at c)
    refine awp_skip ?_
    refine awp_seq ?_
    refine awp_region ?_
    refine al_step rfl rfl (aop_load_box (i := 1) ty26 rfl rfl (by simp [encT_len])) ?_
    refine al_step rfl rfl (aop_store_whole (i := 0) ty26 rfl rfl rfl (by simp [encT_len]) (by first | rfl | simp [encT_len]) (one_Tm _)) ?_
    refine al_end rfl ?_
    refine awp_ret ?_
    refine ⟨rfl, _, _, ⟨_, _, rfl, (resv_row (i := 0) ty26 rfl rfl (by simp [encT_len])), rfl⟩, (List.nil_sublist _), ?_⟩
    exact ⟨t, by unfold chkP; rw [if_neg (by simp_all)], rfl, rfl⟩

end Go.Proofs.YtgfecpjmbgcobaaGreat
