/- Part of the proofs about metavariables: an abstract program logic, plain models and contracts of functions. -/
import Derived.Test.YtgfecpjmbgcobaaGreatPt
import Derived.Test.YtgfecpjmbgcobaaGreatPg
import Derived.Test.YtgfecpjmbgcobaaGreatPh
import Derived.Test.YtgfecpjmbgcobaaGreatPr
import Derived.ProofKit
/- Contracts of functions of the program. -/
namespace Go.Proofs.YtgfecpjmbgcobaaGreat
open Go.Abs Go.Eu
set_option linter.unusedVariables false
set_option linter.unusedSimpArgs false
set_option maxRecDepth 100000
set_option maxHeartbeats 2000000 in
theorem assignP_c : ∀ (ms : List Mv) (i : Int) (v : Tm) (n : Nat), (∀ m ∈ ms, Ok 60 m.value) → (ms.length < 1048576) → (Ok 60 v) → (size v + 61 * ms.length ≤ n) → Fun Tryz.prog 9 [.p (.lst (List.map encM ms)), .p (I i), .agg ((encT v).map .p)] (.tup [.p (.lst (List.map encM ((asgX ms i v (fillPT ms n v)).1))), .p (I ((asgX ms i v (fillPT ms n v)).2))]) := by
  intro ms i v n h1 h2 h3 h4
  have hok := fillPT_good (by omega) h1 h3 (n := n)
  obtain ⟨vk, vi, vn, vl, vs⟩ := v
  refine acalls_of_awp Tryz.func9 rfl en9 (n := 56) rfl rfl ?_
  refine awp_seq ?_
  refine awp_region ?_
  refine al_new rfl rfl (aop_box rfl) fun b5 => ?_
  refine al_step rfl rfl (aop_assign rfl) ?_
  refine al_step rfl rfl (aop_assign rfl) ?_
  refine al_end rfl ?_
  refine awp_seq ?_
  refine awp_block ?_
  refine awp_seq ?_
  refine awp_meetR [0, 1, 5] 11 (fun y => y = .p (.bool ((decide ((i : Int) < (0 : Int))) || (decide ((i : Int) ≥ ((ms.length : Nat) : Int)))))) ?_ ?_
  · refine awp_region ?_
    refine al_step rfl rfl (aop_move rfl) ?_
    refine al_step rfl rfl (aop_cmp rfl rfl rfl) ?_
    refine al_step rfl rfl (aop_move rfl) ?_
    refine al_case 14 rfl (fun g => ?_) (fun g => ?_)
    · (try simp only [sd, se] at g)
      refine al_pass rfl rfl rfl rfl rfl ?_
      refine al_pass rfl rfl rfl rfl rfl ?_
      refine al_pass rfl rfl rfl rfl rfl ?_
      refine al_pass rfl rfl rfl rfl rfl ?_
      refine al_step rfl rfl (aop_pick rfl rfl) ?_
      refine al_step rfl rfl (aop_assign rfl) ?_
      refine al_end rfl ?_
      exact ⟨rfl, rfl, (by first | exact List.Sublist.refl _ | exact List.sublist_cons_self _ _), (by first | rfl | (refine pB ?_; simp_all; done) | (refine pB ?_; simp_all <;> (intros; omega))), ⟨rfl, rfl, rfl, trivial⟩⟩
    · (try simp only [sd, se] at g)
      refine al_stepg rfl rfl rfl rfl (aop_move rfl) ?_
      refine al_stepg rfl rfl rfl rfl (aop_move rfl) ?_
      refine al_stepg rfl rfl rfl rfl (aop_lenE el22 rfl (List.length_map _)) ?_
      refine al_stepg rfl rfl rfl rfl (aop_cmp rfl rfl rfl) ?_
      refine al_step rfl rfl (aop_pick rfl rfl) ?_
      refine al_step rfl rfl (aop_assign rfl) ?_
      refine al_end rfl ?_
      exact ⟨rfl, rfl, (by first | exact List.Sublist.refl _ | exact List.sublist_cons_self _ _), (by first | rfl | (refine pB ?_; simp_all; done) | (refine pB ?_; simp_all <;> (intros; omega))), ⟨rfl, rfl, rfl, trivial⟩⟩
  rintro _ rfl
  refine awp_cond rfl (fun c => ?_) (fun c => ?_)
  · have cR := c
    (try simp only [sd, se] at c)
    refine awp_seq ?_
    refine awp_region ?_
    refine al_step rfl rfl (aop_assign rfl) ?_
    refine al_step rfl rfl (aop_assign rfl) ?_
    refine al_end rfl ?_
    refine awp_ghost (ghost_nslot 6) ?_
    refine awp_ret ?_
    refine ⟨rfl, _, _, ⟨_, _, rfl, rfl, ⟨_, _, rfl, rfl, rfl⟩⟩, (List.nil_sublist _), ?_⟩
    rw [asgX_r (q := fillPT ms n (.mk vk vi vn vl vs : Tm)) (by simpa using c)]
    all_goals exact ⟨rfl, rfl⟩
  · have cR := c
    (try simp only [sd, se] at c)
    refine awp_seq ?_
    refine awp_region ?_
    refine al_step rfl rfl (aop_move rfl) ?_
    refine al_step rfl rfl (aop_move rfl) ?_
    obtain ⟨x, hx⟩ := getElem?_of_lt (l := ms) (i := (i : Int).toNat) (by omega)
    refine al_step rfl rfl (aop_index_lst el22 rfl rfl (by omega) (encM_get hx) (encM_len _)) ?_
    obtain ⟨xy, xn, xv, xc⟩ := x
    obtain ⟨xyk, xyi, xyn, xyl, xys⟩ := xy
    obtain ⟨xvk, xvi, xvn, xvl, xvs⟩ := xv
    refine al_step rfl rfl (aop_field_ref fd44 rfl rfl) ?_
    refine al_step rfl rfl (aop_load_ref1 ty4 rfl) ?_
    refine al_step rfl rfl (aop_assign rfl) ?_
    refine al_end rfl ?_
    refine awp_cond rfl (fun c1 => ?_) (fun c1 => ?_)
    · have c1R := c1
      (try simp only [sd, se] at c1)
      refine awp_seq ?_
      refine awp_region ?_
      refine al_step rfl rfl (aop_assign rfl) ?_
      refine al_step rfl rfl (aop_assign rfl) ?_
      refine al_end rfl ?_
      refine awp_ghost (ghost_nslot 6) ?_
      refine awp_ret ?_
      refine ⟨rfl, _, _, ⟨_, _, rfl, rfl, ⟨_, _, rfl, rfl, rfl⟩⟩, (List.nil_sublist _), ?_⟩
      rw [asgX_k (q := fillPT ms n (.mk vk vi vn vl vs : Tm)) (by simpa using c) hx (by simpa using c1)]
      all_goals exact ⟨rfl, rfl⟩
    · have c1R := c1
      (try simp only [sd, se] at c1)
      refine awp_seq ?_
      refine awp_region ?_
      refine al_step rfl rfl (aop_load_box (i := 0) ty26 rfl rfl rfl) ?_
      refine al_step rfl rfl (aop_fun rfl rfl (freeP_c (.mk vk vi vn vl vs : Tm) h3.nd (by have := h3.sz; omega)) rfl) ?_
      refine al_step rfl rfl (aop_lenE el59 rfl (List.length_map _)) ?_
      refine al_step rfl rfl (aop_cmp rfl rfl rfl) ?_
      refine al_step rfl rfl (aop_assign rfl) ?_
      refine al_end rfl ?_
      refine awp_cond rfl (fun c2 => ?_) (fun c2 => ?_)
      · have c2R := c2
        (try simp only [sd, se] at c2)
        refine awp_seq ?_
        refine awp_region ?_
        refine al_step rfl rfl (aop_assign rfl) ?_
        refine al_step rfl rfl (aop_assign rfl) ?_
        refine al_end rfl ?_
        refine awp_ghost (ghost_nslot 6) ?_
        refine awp_ret ?_
        refine ⟨rfl, _, _, ⟨_, _, rfl, rfl, ⟨_, _, rfl, rfl, rfl⟩⟩, (List.nil_sublist _), ?_⟩
        rw [asgX_f (q := fillPT ms n (.mk vk vi vn vl vs : Tm)) (by simpa using c) hx (by simpa using c1) (fr_pos.1 (by omega))]
        all_goals exact ⟨rfl, rfl⟩
      · have c2R := c2
        (try simp only [sd, se] at c2)
        refine awp_skip ?_
        refine awp_seq ?_
        refine awp_region ?_
        refine al_step rfl rfl (aop_move rfl) ?_
        refine al_step rfl rfl (aop_load_box (i := 0) ty26 rfl rfl rfl) ?_
        refine al_step rfl rfl (aop_fun rfl rfl (fillPc_c ms (.mk vk vi vn vl vs : Tm) 60 n (by omega) (by omega) h1 h2 h3 h4) rfl) ?_
        refine al_step rfl rfl (aop_move rfl) ?_
        refine al_step rfl rfl (aop_extract rfl rfl) ?_
        refine al_step rfl rfl (aop_extract rfl rfl) ?_
        refine al_new rfl rfl (aop_alloc zr26 rfl) fun b8 => ?_
        refine al_step rfl rfl (aop_store_whole (i := 0) ty26 rfl rfl rfl (by simp [encT_len]) (by first | rfl | simp [encT_len]) (one_Tm _)) ?_
        refine al_step rfl rfl (aop_assign rfl) ?_
        refine al_end rfl ?_
        refine awp_seq ?_
        refine awp_seq ?_
        refine awp_region ?_
        refine al_step rfl rfl (aop_move rfl) ?_
        refine al_step rfl rfl (aop_cmp rfl rfl rfl) ?_
        refine al_end rfl ?_
        refine awp_cond rfl (fun c3 => ?_) (fun c3 => ?_)
        · have c3R := c3
          (try simp only [sd, se] at c3)
          refine awp_seq ?_
          refine awp_region ?_
          refine al_step rfl rfl (aop_move rfl) ?_
          refine al_step rfl rfl (aop_assign rfl) ?_
          refine al_step rfl rfl (aop_assign rfl) ?_
          refine al_end rfl ?_
          refine awp_ghost (ghost_nslot 6) ?_
          refine awp_ret ?_
          refine ⟨rfl, _, _, ⟨_, _, rfl, rfl, ⟨_, _, rfl, rfl, rfl⟩⟩, (List.nil_sublist _), ?_⟩
          rw [asgX_e (q := fillPT ms n (.mk vk vi vn vl vs : Tm)) (by simpa using c) hx (by simpa using c1) (free_no (by omega)) (by simpa using c3)]
          all_goals exact ⟨rfl, rfl⟩
        · have c3R := c3
          (try simp only [sd, se] at c3)
          refine awp_skip ?_
          refine awp_seq ?_
          refine awp_seq ?_
          refine awp_region ?_
          refine al_step rfl rfl (aop_load_box (i := 0) ty26 rfl rfl (by simp [encT_len])) ?_
          refine al_step rfl rfl (aop_fun rfl rfl (metasP_c ((fillPT ms n (.mk vk vi vn vl vs : Tm)).1) hok.nd hok.wt (by have := hok.sz; omega)) rfl) ?_
          refine al_step rfl rfl (aop_move rfl) ?_
          refine al_step rfl rfl (aop_fun rfl rfl (containsI_c (metasW [] ((fillPT ms n (.mk vk vi vn vl vs : Tm)).1)) i (by have := hok.sz; have := metasW_len (fillPT ms n (.mk vk vi vn vl vs : Tm)).1 []; simp only [List.length_nil, big] at *; omega)) rfl) ?_
          refine al_end rfl ?_
          refine awp_cond rfl (fun c4 => ?_) (fun c4 => ?_)
          · have c4R := c4
            (try simp only [sd, se] at c4)
            refine awp_seq ?_
            refine awp_region ?_
            refine al_step rfl rfl (aop_assign rfl) ?_
            refine al_step rfl rfl (aop_assign rfl) ?_
            refine al_end rfl ?_
            refine awp_ghost (ghost_nslot 6) ?_
            refine awp_ret ?_
            refine ⟨rfl, _, _, ⟨_, _, rfl, rfl, ⟨_, _, rfl, rfl, rfl⟩⟩, (List.nil_sublist _), ?_⟩
            rw [asgX_o (q := fillPT ms n (.mk vk vi vn vl vs : Tm)) (by simpa using c) hx (by simpa using c1) (free_no (by omega)) (by simpa using c3) (by simpa [inB] using c4)]
            all_goals exact ⟨rfl, rfl⟩
          · have c4R := c4
            (try simp only [sd, se] at c4)
            refine awp_skip ?_
            refine awp_seq ?_
            refine awp_region ?_
            refine al_step rfl rfl (aop_move rfl) ?_
            refine al_own rfl rfl rfl (.inl ⟨rfl, rfl, rfl⟩) (cloneM_c ms (by omega)) (.inl rfl) fun o cp => ?_
            refine al_step rfl rfl (aop_assign rfl) ?_
            refine al_end rfl ?_
            refine awp_seq ?_
            refine awp_some (i := 0) rfl (by simp [encTs_len]; omega) fun b hb => ?_
            subst hb
            refine awp_dr (fun k => false) mx0 ?_
            refine dr_free rfl rfl (fun _ => aop_move rfl) trivial ?_
            refine dr_free rfl rfl (fun _ => aop_move rfl) trivial ?_
            refine dr_free rfl rfl (fun _ => aop_move rfl) trivial ?_
            refine dr_free rfl rfl (fun _ => aop_move rfl) trivial ?_
            refine dr_read (j := 2) rfl rfl rfl (fun H i hi => aop_load_box (i := i) ty26 rfl hi rfl) (by repeat' first | exact trivial | refine And.intro ?_ ?_ | ((refine Or.inr (And.intro ?_ ?_) <;> repeat (first | exact List.Mem.head _ | apply List.Mem.tail)); done) | exact Or.inl (by kernel_rfl)) trivial ?_
            refine dr_free rfl rfl (fun _ => aop_index_vs el22 rfl rfl (by omega) (by first | (simp only [List.length_map, encTs_len]; omega) | (simp_all; done) | (simp_all; omega))) trivial ?_
            refine dr_free rfl rfl (fun _ => aop_field_ptr fd44 rfl rfl) trivial ?_
            refine dr_eff rfl rfl (aop_store_vecf (i := 0) (j := ((i : Int).toNat)) (off := 5) ty4 rfl rfl rfl (encM_get hx) rfl rfl rfl rfl rfl (set_known)) (by repeat' first | exact trivial | refine And.intro ?_ ?_ | ((refine Or.inr (And.intro ?_ ?_) <;> repeat (first | exact List.Mem.head _ | apply List.Mem.tail)); done) | exact Or.inl (by kernel_rfl)) trivial ?_
            refine dr_free rfl rfl (fun _ => aop_index_vs el22 rfl rfl (by omega) (by first | (simp only [List.length_map, encTs_len]; omega) | (simp_all; done) | (simp_all; omega))) trivial ?_
            refine dr_free rfl rfl (fun _ => aop_field_ptr fd44 rfl rfl) trivial ?_
            refine dr_eff rfl rfl (aop_store_vecf (i := 0) (j := ((i : Int).toNat)) (off := 6) ty26 rfl rfl rfl (encM_get (set_get hx)) rfl rfl rfl rfl rfl (set_value)) (by repeat' first | exact trivial | refine And.intro ?_ ?_ | ((refine Or.inr (And.intro ?_ ?_) <;> repeat (first | exact List.Mem.head _ | apply List.Mem.tail)); done) | exact Or.inl (by kernel_rfl)) trivial ?_
            refine dr_end rfl (by kernel_rfl) ?_
            refine awp_seq ?_
            refine awp_region ?_
            refine al_step rfl rfl (aop_move rfl) ?_
            refine al_step rfl rfl (aop_assign rfl) ?_
            refine al_step rfl rfl (aop_assign rfl) ?_
            refine al_end rfl ?_
            refine awp_ghost (ghost_eq (t := 6) (x := .vs (some b) (List.map encM (ms.set i.toNat ⟨(.mk xyk xyi xyn xyl xys : Tm), true, (.mk vk vi vn vl vs : Tm), xc⟩)).length cp) (vsLen_map (f := encM) ms (l' := ms.set i.toNat ⟨(.mk xyk xyi xyn xyl xys : Tm), true, (.mk vk vi vn vl vs : Tm), xc⟩) (by simp))) ?_
            refine awp_ghost (ghost_eq (t := 45) (x := .vs (some b) (List.map encM (ms.set i.toNat ⟨(.mk xyk xyi xyn xyl xys : Tm), true, (.mk vk vi vn vl vs : Tm), xc⟩)).length cp) (vsLen_map (f := encM) ms (l' := ms.set i.toNat ⟨(.mk xyk xyi xyn xyl xys : Tm), true, (.mk vk vi vn vl vs : Tm), xc⟩) (by simp))) ?_
            refine awp_ghost (ghost_eq (t := 10) (x := .vs (some b) (List.map encM (ms.set i.toNat ⟨(.mk xyk xyi xyn xyl xys : Tm), true, (.mk vk vi vn vl vs : Tm), xc⟩)).length cp) (vsLen_map (f := encM) ms (l' := ms.set i.toNat ⟨(.mk xyk xyi xyn xyl xys : Tm), true, (.mk vk vi vn vl vs : Tm), xc⟩) (by simp))) ?_
            refine awp_ghost (ghost_eq (t := 46) (x := .vs (some b) (List.map encM (ms.set i.toNat ⟨(.mk xyk xyi xyn xyl xys : Tm), true, (.mk vk vi vn vl vs : Tm), xc⟩)).length cp) (vsLen_map (f := encM) ms (l' := ms.set i.toNat ⟨(.mk xyk xyi xyn xyl xys : Tm), true, (.mk vk vi vn vl vs : Tm), xc⟩) (by simp))) ?_
            refine awp_ghost (ghost_eq (t := 48) (x := .vs (some b) (List.map encM (ms.set i.toNat ⟨(.mk xyk xyi xyn xyl xys : Tm), true, (.mk vk vi vn vl vs : Tm), xc⟩)).length cp) (vsLen_map (f := encM) ms (l' := ms.set i.toNat ⟨(.mk xyk xyi xyn xyl xys : Tm), true, (.mk vk vi vn vl vs : Tm), xc⟩) (by simp))) ?_
            refine awp_ghost (ghost_eq (t := 55) (x := .vs (some b) (List.map encM (ms.set i.toNat ⟨(.mk xyk xyi xyn xyl xys : Tm), true, (.mk vk vi vn vl vs : Tm), xc⟩)).length cp) (vsLen_map (f := encM) ms (l' := ms.set i.toNat ⟨(.mk xyk xyi xyn xyl xys : Tm), true, (.mk vk vi vn vl vs : Tm), xc⟩) (by simp))) ?_
            refine awp_ghost (ghost_freeze (i := 0) [6, 45, 10, 46, 48, 55] rfl (memall ⟨rfl, rfl, rfl, rfl, rfl, rfl, trivial⟩)) ?_
            refine awp_ret ?_
            refine ⟨rfl, _, _, ⟨_, _, rfl, rfl, ⟨_, _, rfl, rfl, rfl⟩⟩, (List.nil_sublist _), ?_⟩
            rw [asgX_ok (q := fillPT ms n (.mk vk vi vn vl vs : Tm)) (by simpa using c) hx (by simpa using c1) (free_no (by omega)) (by simpa using c3) (by simpa [inB] using c4)]
            all_goals exact ⟨rfl, rfl⟩

end Go.Proofs.YtgfecpjmbgcobaaGreat
/- Contracts of functions of the program. -/
namespace Go.Proofs.YtgfecpjmbgcobaaGreat
open Go.Abs Go.Eu
set_option linter.unusedVariables false
set_option linter.unusedSimpArgs false
set_option maxRecDepth 100000
set_option maxHeartbeats 20000000 in
theorem assignR_c : ∀ (n : Nat) (v : Tm) (i : Int) (ms : List Mv) (b : Nat) (c : Cnt), (size v + 61 * ms.length ≤ n) → (Nd v) → (Wt v) → (ms.length ≤ 8) → (MsOk 60 ms) → (size v ≤ 60) → (TP (rgP 8) v) → (∀ m ∈ ms, TP (rgP 8) m.value) → ACalls Tryz.prog 11 [.p (.lst (List.map encM ms)), .p (I i), .agg ((encT v).map .p), .ptr b 0] [.box b ((encC c).map .p)] (retR (.tup [.p (.lst (List.map encM ((asgX ms i v ((fillT ms n c v).1, (fillT ms n c v).2.1)).1))), .p (I ((asgX ms i v ((fillT ms n c v).1, (fillT ms n c v).2.1)).2))]) [.box b ((encC (asgC ms n c i v)).map .p)]) := by
  intro n v i ms b c h1 h2 h3 h4 h5 h6 h7 h8
  have hB := mb_le h4 h6
  have hok := fillW_ok (by omega) h5 n [] c v h2 h3 (by rw [free_nil]; exact hB)
  have hrg := fillT_rg (n := n) (c := c) h8 h7
  have hml := (metasW_rg _ _ hrg RG.nil).len
  obtain ⟨vk, vi, vn, vl, vs⟩ := v
  refine acalls_of_awp Tryz.func11 rfl en11 (n := 56) rfl rfl ?_
  refine awp_seq ?_
  refine awp_region ?_
  refine al_new rfl rfl (aop_box rfl) fun b6 => ?_
  refine al_step rfl rfl (aop_assign rfl) ?_
  refine al_step rfl rfl (aop_assign rfl) ?_
  refine al_end rfl ?_
  refine awp_seq ?_
  refine awp_seq ?_
  refine awp_meetR [0, 1, 3, 6] 20 (fun y => y = .p (.bool ((decide ((i : Int) < (0 : Int))) || (decide ((i : Int) ≥ ((ms.length : Nat) : Int)))))) ?_ ?_
  · refine awp_region ?_
    refine al_step rfl rfl (aop_move rfl) ?_
    refine al_step rfl rfl (aop_cmp rfl rfl rfl) ?_
    refine al_step rfl rfl (aop_move rfl) ?_
    refine al_case 15 rfl (fun g => ?_) (fun g => ?_)
    · (try simp only [sd, se] at g)
      refine al_pass rfl rfl rfl rfl rfl ?_
      refine al_pass rfl rfl rfl rfl rfl ?_
      refine al_pass rfl rfl rfl rfl rfl ?_
      refine al_pass rfl rfl rfl rfl rfl ?_
      refine al_step rfl rfl (aop_pick rfl rfl) ?_
      refine al_end rfl ?_
      exact ⟨rfl, rfl, (by first | exact List.Sublist.refl _ | exact List.sublist_cons_self _ _), (by first | rfl | (refine pB ?_; simp_all; done) | (refine pB ?_; simp_all <;> (intros; omega))), ⟨rfl, rfl, rfl, rfl, trivial⟩⟩
    · (try simp only [sd, se] at g)
      refine al_stepg rfl rfl rfl rfl (aop_move rfl) ?_
      refine al_stepg rfl rfl rfl rfl (aop_move rfl) ?_
      refine al_stepg rfl rfl rfl rfl (aop_lenE el22 rfl (List.length_map _)) ?_
      refine al_stepg rfl rfl rfl rfl (aop_cmp rfl rfl rfl) ?_
      refine al_step rfl rfl (aop_pick rfl rfl) ?_
      refine al_end rfl ?_
      exact ⟨rfl, rfl, (by first | exact List.Sublist.refl _ | exact List.sublist_cons_self _ _), (by first | rfl | (refine pB ?_; simp_all; done) | (refine pB ?_; simp_all <;> (intros; omega))), ⟨rfl, rfl, rfl, rfl, trivial⟩⟩
  rintro _ rfl
  refine awp_cond rfl (fun c1 => ?_) (fun c1 => ?_)
  · (try simp only [sd, se] at c1)
    refine awp_seq ?_
    refine awp_region ?_
    refine al_step rfl rfl (aop_assign rfl) ?_
    refine al_step rfl rfl (aop_assign rfl) ?_
    refine al_end rfl ?_
    refine awp_ghost (ghost_nslot 8) ?_
    refine awp_ret ?_
    refine ⟨rfl, _, _, ⟨_, _, rfl, rfl, ⟨_, _, rfl, rfl, rfl⟩⟩, (subl (is := [1]) rfl), ?_⟩
    rw [asgX_r (q := ((fillT ms n c (.mk vk vi vn vl vs : Tm)).1, (fillT ms n c (.mk vk vi vn vl vs : Tm)).2.1)) (by simpa using c1), asgC_r (by simpa using c1)]
    all_goals exact ⟨rfl, rfl⟩
  · (try simp only [sd, se] at c1)
    refine awp_skip ?_
    refine awp_seq ?_
    refine awp_seq ?_
    refine awp_region ?_
    refine al_step rfl rfl (aop_move rfl) ?_
    refine al_step rfl rfl (aop_move rfl) ?_
    obtain ⟨x, hx⟩ := getElem?_of_lt (l := ms) (i := (i : Int).toNat) (by omega)
    refine al_step rfl rfl (aop_index_lst el22 rfl rfl (by omega) (encM_get hx) (encM_len _)) ?_
    obtain ⟨xy, xn, xv, xc⟩ := x
    obtain ⟨xyk, xyi, xyn, xyl, xys⟩ := xy
    obtain ⟨xvk, xvi, xvn, xvl, xvs⟩ := xv
    refine al_step rfl rfl (aop_field_ref fd44 rfl rfl) ?_
    refine al_step rfl rfl (aop_load_ref1 ty4 rfl) ?_
    refine al_end rfl ?_
    refine awp_cond rfl (fun c2 => ?_) (fun c2 => ?_)
    · (try simp only [sd, se] at c2)
      refine awp_seq ?_
      refine awp_region ?_
      refine al_step rfl rfl (aop_assign rfl) ?_
      refine al_step rfl rfl (aop_assign rfl) ?_
      refine al_end rfl ?_
      refine awp_ghost (ghost_nslot 8) ?_
      refine awp_ret ?_
      refine ⟨rfl, _, _, ⟨_, _, rfl, rfl, ⟨_, _, rfl, rfl, rfl⟩⟩, (subl (is := [1]) rfl), ?_⟩
      rw [asgX_k (q := ((fillT ms n c (.mk vk vi vn vl vs : Tm)).1, (fillT ms n c (.mk vk vi vn vl vs : Tm)).2.1)) (by simpa using c1) hx (by simpa using c2), asgC_k (by simpa using c1) hx (by simpa using c2)]
      all_goals exact ⟨rfl, rfl⟩
    · (try simp only [sd, se] at c2)
      refine awp_skip ?_
      refine awp_seq ?_
      refine awp_seq ?_
      refine awp_region ?_
      refine al_step rfl rfl (aop_load_box (i := 0) ty26 rfl rfl rfl) ?_
      refine al_rel rfl rfl (aop_funR rfl rfl (freeT_c (.mk vk vi vn vl vs : Tm) h2 (by omega)) (.inl rfl)) ?_
      rintro _ ⟨r, rfl, hr⟩
      refine al_step rfl rfl (aop_lenE el59 rfl (List.length_map _)) ?_
      refine al_step rfl rfl (aop_cmp rfl rfl rfl) ?_
      refine al_end rfl ?_
      refine awp_cond rfl (fun c3 => ?_) (fun c3 => ?_)
      · (try simp only [sd, se] at c3)
        refine awp_seq ?_
        refine awp_region ?_
        refine al_step rfl rfl (aop_assign rfl) ?_
        refine al_step rfl rfl (aop_assign rfl) ?_
        refine al_end rfl ?_
        refine awp_ghost (ghost_nslot 8) ?_
        refine awp_ret ?_
        refine ⟨rfl, _, _, ⟨_, _, rfl, rfl, ⟨_, _, rfl, rfl, rfl⟩⟩, (subl (is := [1]) rfl), ?_⟩
        rw [asgX_f (q := ((fillT ms n c (.mk vk vi vn vl vs : Tm)).1, (fillT ms n c (.mk vk vi vn vl vs : Tm)).2.1)) (by simpa using c1) hx (by simpa using c2) (free_yes0 hr.1 (by omega)), asgC_f (by simpa using c1) hx (by simpa using c2) (free_yes0 hr.1 (by omega))]
        all_goals exact ⟨rfl, rfl⟩
      · (try simp only [sd, se] at c3)
        refine awp_skip ?_
        refine awp_seq ?_
        refine awp_region ?_
        refine al_step rfl rfl (aop_move rfl) ?_
        refine al_step rfl rfl (aop_load_box (i := 0) ty26 rfl rfl rfl) ?_
        refine al_step rfl rfl (aop_move rfl) ?_
        refine al_step rfl rfl (aop_retn [1] rfl (.inl ⟨rfl, rfl, rfl⟩) (fillTR2_c n (.mk vk vi vn vl vs : Tm) ms 60 b c h1 h2 h3 (by omega) h5 hB (by omega) (by omega) (by omega)) ⟨_, _, rfl, rfl, rfl⟩ (by decide) rfl (.inl rfl)) ?_
        refine al_step rfl rfl (aop_move rfl) ?_
        refine al_step rfl rfl (aop_extract rfl rfl) ?_
        refine al_step rfl rfl (aop_extract rfl rfl) ?_
        refine al_new rfl rfl (aop_alloc zr26 rfl) fun b10 => ?_
        refine al_step rfl rfl (aop_store_whole (i := 0) ty26 rfl rfl rfl (by simp [encT_len]) (by first | rfl | simp [encT_len]) (one_Tm _)) ?_
        refine al_step rfl rfl (aop_assign rfl) ?_
        refine al_end rfl ?_
        refine awp_seq ?_
        refine awp_seq ?_
        refine awp_region ?_
        refine al_step rfl rfl (aop_move rfl) ?_
        refine al_step rfl rfl (aop_cmp rfl rfl rfl) ?_
        refine al_end rfl ?_
        refine awp_cond rfl (fun c4 => ?_) (fun c4 => ?_)
        · (try simp only [sd, se] at c4)
          refine awp_seq ?_
          refine awp_region ?_
          refine al_step rfl rfl (aop_move rfl) ?_
          refine al_step rfl rfl (aop_assign rfl) ?_
          refine al_step rfl rfl (aop_assign rfl) ?_
          refine al_end rfl ?_
          refine awp_ghost (ghost_nslot 8) ?_
          refine awp_ret ?_
          refine ⟨rfl, _, _, ⟨_, _, rfl, rfl, ⟨_, _, rfl, rfl, rfl⟩⟩, (subl (is := [2]) rfl), ?_⟩
          rw [asgX_e (q := ((fillT ms n c (.mk vk vi vn vl vs : Tm)).1, (fillT ms n c (.mk vk vi vn vl vs : Tm)).2.1)) (by simpa using c1) hx (by simpa using c2) (free_nil0 hr.1 (by omega)) (by simpa using c4), asgC_c (by simpa using c1) hx (by simpa using c2) (free_nil0 hr.1 (by omega))]
          all_goals exact ⟨rfl, rfl⟩
        · (try simp only [sd, se] at c4)
          refine awp_skip ?_
          refine awp_seq ?_
          refine awp_seq ?_
          refine awp_region ?_
          refine al_step rfl rfl (aop_load_box (i := 0) ty26 rfl rfl (by simp [encT_len])) ?_
          refine al_step rfl rfl (aop_fun rfl rfl (metasNt_c ((fillT ms n c (.mk vk vi vn vl vs : Tm)).1) hok.nd hrg) rfl) ?_
          refine al_step rfl rfl (aop_move rfl) ?_
          refine al_step rfl rfl (aop_fun rfl rfl (inR_c (metasW [] ((fillT ms n c (.mk vk vi vn vl vs : Tm)).1)) i (by simp only [big]; omega)) rfl) ?_
          refine al_end rfl ?_
          refine awp_cond rfl (fun c5 => ?_) (fun c5 => ?_)
          · (try simp only [sd, se] at c5)
            refine awp_seq ?_
            refine awp_region ?_
            refine al_step rfl rfl (aop_assign rfl) ?_
            refine al_step rfl rfl (aop_assign rfl) ?_
            refine al_end rfl ?_
            refine awp_ghost (ghost_nslot 8) ?_
            refine awp_ret ?_
            refine ⟨rfl, _, _, ⟨_, _, rfl, rfl, ⟨_, _, rfl, rfl, rfl⟩⟩, (subl (is := [2]) rfl), ?_⟩
            rw [asgX_o (q := ((fillT ms n c (.mk vk vi vn vl vs : Tm)).1, (fillT ms n c (.mk vk vi vn vl vs : Tm)).2.1)) (by simpa using c1) hx (by simpa using c2) (free_nil0 hr.1 (by omega)) (by simpa using c4) (by simpa [inB] using c5), asgC_c (by simpa using c1) hx (by simpa using c2) (free_nil0 hr.1 (by omega))]
            all_goals exact ⟨rfl, rfl⟩
          · (try simp only [sd, se] at c5)
            refine awp_skip ?_
            refine awp_seq ?_
            refine awp_region ?_
            refine al_step rfl rfl (aop_move rfl) ?_
            refine al_own rfl rfl rfl (.inl ⟨rfl, rfl, rfl⟩) (copyRo_c ms (by omega)) (.inl rfl) fun o cp => ?_
            refine al_step rfl rfl (aop_assign rfl) ?_
            refine al_end rfl ?_
            refine awp_seq ?_
            refine awp_region ?_
            refine al_step rfl rfl (aop_move rfl) ?_
            refine al_step rfl rfl (aop_move rfl) ?_
            refine al_some (i := 0) rfl (by simp [encTs_len]; omega) fun b1 hb => ?_
            subst hb
            refine al_step rfl rfl (aop_index_vs el22 rfl rfl (by omega) (by first | (simp only [List.length_map, encTs_len]; omega) | (simp_all; done) | (simp_all; omega))) ?_
            refine al_step rfl rfl (aop_field_ptr fd44 rfl rfl) ?_
            refine al_step rfl rfl (aop_store_vecf (i := 0) (j := ((i : Int).toNat)) (off := 5) ty4 rfl rfl rfl (encM_get hx) rfl rfl rfl rfl rfl (set_known)) ?_
            refine al_end rfl ?_
            refine awp_seq ?_
            refine awp_region ?_
            refine al_step rfl rfl (aop_move rfl) ?_
            refine al_step rfl rfl (aop_move rfl) ?_
            refine al_step rfl rfl (aop_load_box (i := 2) ty26 rfl rfl rfl) ?_
            refine al_step rfl rfl (aop_index_vs el22 rfl rfl (by omega) (by first | (simp only [List.length_map, encTs_len]; omega) | (simp_all; done) | (simp_all; omega))) ?_
            refine al_step rfl rfl (aop_field_ptr fd44 rfl rfl) ?_
            refine al_step rfl rfl (aop_store_vecf (i := 0) (j := ((i : Int).toNat)) (off := 6) ty26 rfl rfl rfl (encM_get (set_get hx)) rfl rfl rfl rfl rfl (set_value)) ?_
            refine al_end rfl ?_
            refine awp_seq ?_
            refine awp_region ?_
            refine al_step rfl rfl (aop_move rfl) ?_
            refine al_step rfl rfl (aop_assign rfl) ?_
            refine al_step rfl rfl (aop_assign rfl) ?_
            refine al_end rfl ?_
            refine awp_ghost (ghost_eq (t := 8) (x := .vs (some b1) (List.map encM (ms.set i.toNat ⟨(.mk xyk xyi xyn xyl xys : Tm), true, (.mk vk vi vn vl vs : Tm), xc⟩)).length cp) (vsLen_map (f := encM) ms (l' := ms.set i.toNat ⟨(.mk xyk xyi xyn xyl xys : Tm), true, (.mk vk vi vn vl vs : Tm), xc⟩) (by simp))) ?_
            refine awp_ghost (ghost_eq (t := 45) (x := .vs (some b1) (List.map encM (ms.set i.toNat ⟨(.mk xyk xyi xyn xyl xys : Tm), true, (.mk vk vi vn vl vs : Tm), xc⟩)).length cp) (vsLen_map (f := encM) ms (l' := ms.set i.toNat ⟨(.mk xyk xyi xyn xyl xys : Tm), true, (.mk vk vi vn vl vs : Tm), xc⟩) (by simp))) ?_
            refine awp_ghost (ghost_eq (t := 12) (x := .vs (some b1) (List.map encM (ms.set i.toNat ⟨(.mk xyk xyi xyn xyl xys : Tm), true, (.mk vk vi vn vl vs : Tm), xc⟩)).length cp) (vsLen_map (f := encM) ms (l' := ms.set i.toNat ⟨(.mk xyk xyi xyn xyl xys : Tm), true, (.mk vk vi vn vl vs : Tm), xc⟩) (by simp))) ?_
            refine awp_ghost (ghost_eq (t := 46) (x := .vs (some b1) (List.map encM (ms.set i.toNat ⟨(.mk xyk xyi xyn xyl xys : Tm), true, (.mk vk vi vn vl vs : Tm), xc⟩)).length cp) (vsLen_map (f := encM) ms (l' := ms.set i.toNat ⟨(.mk xyk xyi xyn xyl xys : Tm), true, (.mk vk vi vn vl vs : Tm), xc⟩) (by simp))) ?_
            refine awp_ghost (ghost_eq (t := 50) (x := .vs (some b1) (List.map encM (ms.set i.toNat ⟨(.mk xyk xyi xyn xyl xys : Tm), true, (.mk vk vi vn vl vs : Tm), xc⟩)).length cp) (vsLen_map (f := encM) ms (l' := ms.set i.toNat ⟨(.mk xyk xyi xyn xyl xys : Tm), true, (.mk vk vi vn vl vs : Tm), xc⟩) (by simp))) ?_
            refine awp_ghost (ghost_eq (t := 55) (x := .vs (some b1) (List.map encM (ms.set i.toNat ⟨(.mk xyk xyi xyn xyl xys : Tm), true, (.mk vk vi vn vl vs : Tm), xc⟩)).length cp) (vsLen_map (f := encM) ms (l' := ms.set i.toNat ⟨(.mk xyk xyi xyn xyl xys : Tm), true, (.mk vk vi vn vl vs : Tm), xc⟩) (by simp))) ?_
            refine awp_ghost (ghost_freeze (i := 0) [8, 45, 12, 46, 50, 55] rfl (memall ⟨rfl, rfl, rfl, rfl, rfl, rfl, trivial⟩)) ?_
            refine awp_ret ?_
            refine ⟨rfl, _, _, ⟨_, _, rfl, rfl, ⟨_, _, rfl, rfl, rfl⟩⟩, (subl (is := [2]) rfl), ?_⟩
            rw [asgX_ok (q := ((fillT ms n c (.mk vk vi vn vl vs : Tm)).1, (fillT ms n c (.mk vk vi vn vl vs : Tm)).2.1)) (by simpa using c1) hx (by simpa using c2) (free_nil0 hr.1 (by omega)) (by simpa using c4) (by simpa [inB] using c5), asgC_c (by simpa using c1) hx (by simpa using c2) (free_nil0 hr.1 (by omega))]
            all_goals exact ⟨rfl, rfl⟩

end Go.Proofs.YtgfecpjmbgcobaaGreat
/- From the readings of a row's arguments to plain data, and back. -/
namespace Go.Eu
open Go.Abs Go.RowKit Go.ChangeShapes Go.ChangeAt Go.WideShapes
set_option linter.unusedVariables false
set_option linter.unusedSimpArgs false
theorem Wds_of : ∀ {ts : List Tm}, (∀ t ∈ ts, Wd t) → Wds ts
  | [], _ => trivial
  | t :: ts, h => ⟨h t (by simp), Wds_of fun x hx => h x (by simp [hx])⟩
abbrev F0 : Nat → Prop := fun _ => False
/-- Cells that hold pure data. -/
def PReps (w : World) : List PV → List Value → Prop
  | [], cs => cs = []
  | p :: ps, cs => ∃ c cs', cs = c :: cs' ∧ PRep F0 w p c ∧ PReps w ps cs'
theorem PReps.length {w : World} : ∀ {ps : List PV} {cs : List Value}, PReps w ps cs → ps.length = cs.length
  | [], cs, h => by simp only [PReps] at h; subst h; rfl
  | p :: ps, cs, h => by
    obtain ⟨c, cs', rfl, _, h⟩ := h
    simp [PReps.length h]
theorem PReps.append {w : World} : ∀ {a b : List PV} {x y : List Value}, PReps w a x → PReps w b y → PReps w (a ++ b) (x ++ y)
  | [], b, x, y, h, h' => by simp only [PReps] at h; subst h; exact h'
  | p :: a, b, x, y, h, h' => by
    obtain ⟨c, cs', rfl, h1, h⟩ := h
    exact ⟨c, cs' ++ y, rfl, h1, PReps.append h h'⟩
theorem PReps.one {w : World} {p : PV} {c : Value} (h : PRep F0 w p c) : PReps w [p] [c] := ⟨c, [], rfl, h, rfl⟩
theorem PReps.repL {w : World} : ∀ {ps : List PV} {cs : List Value}, PReps w ps cs → RepL F0 w (ps.map .p) cs
  | [], cs, h => by simp only [PReps] at h; subst h; exact rfl
  | p :: ps, cs, h => by
    obtain ⟨c, cs', rfl, h1, h⟩ := h
    exact ⟨c, cs', rfl, by simp only [Rep]; exact h1, PReps.repL h⟩
theorem cells_rep {w : World} {b : Nat} : ∀ (r : List PV) (cs : List Value) (o : Nat), PReps w r cs → (∀ j, j < cs.length → w.cell? ⟨b, o + j, none⟩ = cs[j]?) → CellsRep F0 w b o r
  | [], cs, o, h, hc => by simp [CellsRep]
  | p :: r, cs, o, h, hc => by
    obtain ⟨c, cs', rfl, h1, h⟩ := h
    refine ⟨⟨c, by have := hc 0 (by simp); simpa using this, h1⟩, cells_rep r cs' (o + 1) h fun j hj => ?_⟩
    have := hc (j + 1) (by simp; omega)
    rw [show o + 1 + j = o + (j + 1) by omega]
    simpa using this
theorem cells_get {w : World} {base : Nat} {a : Addr} {n : Nat} {cs : List Value} (h : w.cells? base a n = some cs) : cs.length = n ∧ ∀ j, j < n → w.cell? (a.add j) = cs[j]? := by
  unfold World.cells? at h
  split at h
  · exact ⟨by simpa using mapM_some_length h, fun j hj => mapM_some_get h j j (by simp [hj])⟩
  · cases h
section
variable {H : Type} {enc : TypeId × Value → H} {P : Program} {w : World} {base : Nat} {sp : Nat → Bool} {hd : Bool} {n : Nat}
theorem open_slice {α : Type} {e t C : Nat} (ut : P.underlying t = some (.slice e)) (hC : P.cellsOf e = C) (hC1 : 1 ≤ C) (f : α → List PV) (Q : α → Prop)
    (he : ∀ m cs y, m < n → DataW.trod enc P w base sp hd m e cs = some y → ∃ a, PReps w (f a) cs ∧ Q a) {cs : List Value} {y : DataW H × List MemPlace} (h : DataW.trod enc P w base sp hd n t cs = some y) :
    ∃ l : List α, l.length < wide ∧ (∀ a ∈ l, Q a) ∧ ∃ v, cs = [v] ∧ PRep F0 w (.lst (l.map f)) v := by
  rcases DataW.trod_slice ut h with ⟨rfl, _⟩ | ⟨a, len, cap, elems, rest, m, rfl, rfl, _, hb, hl, hc, hel, hget, _, _⟩
  · exact ⟨[], by simp [wide], fun a ha => by simp at ha, _, rfl, by simp only [PRep]; exact .inl ⟨rfl, none, 0, rfl⟩⟩
  rw [hC] at hget
  have hml : maxLen < wide := by decide
  rcases Nat.eq_zero_or_pos len with h0 | h0
  · subst h0
    exact ⟨[], by simp [wide], fun a ha => by simp at ha, _, rfl, by simp only [PRep]; exact .inl ⟨rfl, some a, cap, rfl⟩⟩
  have hone : ∀ i, i < len → ∃ ci y, w.cells? base (a.add (i * C)) C = some ci ∧ DataW.trod enc P w base sp hd m e ci = some y := fun i hi => by
    have := hget i hi
    rw [List.getElem?_eq_getElem (by omega)] at this
    obtain ⟨ci, h1, h2⟩ := Option.bind_eq_some_iff.1 this
    exact ⟨ci, _, h1, h2⟩
  obtain ⟨c0, y0, hc0, _⟩ := hone 0 h0
  obtain ⟨hl0, hg0⟩ := cells_get hc0
  have hcell : ∃ v, w.cell? a = some v := by
    have := hg0 0 (by omega)
    rw [Nat.zero_mul, Addr.add, if_pos rfl, Addr.add, if_pos rfl] at this
    rw [List.getElem?_eq_getElem (by omega)] at this
    exact ⟨_, this⟩
  obtain ⟨v0, hv0⟩ := hcell
  obtain ⟨blk, off, spot⟩ := a
  have hspot : spot = none := by
    unfold World.cell? at hv0
    simp only at hv0
    split at hv0
    · cases spot with
      | none => rfl
      | some s => simp at hv0
    · cases hv0
  subst hspot
  have hblk : blk < w.heap.size := by
    unfold World.cell? at hv0
    simp only at hv0
    split at hv0
    · rename_i hh; exact (Array.getElem?_eq_some_iff.1 hh).1
    · cases hv0
  have hadd : ∀ k, (⟨blk, off, none⟩ : Addr).add k = ⟨blk, off + k, none⟩ := fun k => by
    unfold Addr.add
    split
    · rename_i e; subst e; rfl
    · rfl
  have hadd2 : ∀ o k, (⟨blk, o, none⟩ : Addr).add k = ⟨blk, o + k, none⟩ := fun o k => by
    unfold Addr.add
    split
    · rename_i e; subst e; rfl
    · rfl
  have hrows : ∀ k, k ≤ len → ∃ l : List α, l.length = k ∧ (∀ x ∈ l, Q x) ∧ RowsRep F0 w blk C (off + (len - k) * C) (l.map f) := by
    intro k
    induction k with
    | zero => exact fun _ => ⟨[], rfl, fun a ha => by simp at ha, by simp [RowsRep]⟩
    | succ k ih =>
      intro hk
      obtain ⟨l, h1, h2, h3⟩ := ih (by omega)
      obtain ⟨ci, y, hci, ht⟩ := hone (len - (k + 1)) (by omega)
      obtain ⟨g1, g2⟩ := cells_get hci
      obtain ⟨x, hx, hq⟩ := he m ci y (by omega) ht
      refine ⟨x :: l, by simp [h1], fun z hz => ?_, ?_⟩
      · rcases List.mem_cons.1 hz with rfl | hz
        · exact hq
        · exact h2 z hz
      · refine ⟨by rw [hx.length, g1], cells_rep _ ci _ hx fun j hj => ?_, ?_⟩
        · have := g2 j (by omega)
          rw [hadd, hadd2] at this
          exact this
        · rw [show off + (len - (k + 1)) * C + C = off + (len - k) * C by rw [Nat.add_assoc, ← Nat.succ_mul]; congr 2; omega]
          exact h3
  obtain ⟨l, h1, h2, h3⟩ := hrows len (Nat.le_refl _)
  rw [Nat.sub_self, Nat.zero_mul, Nat.add_zero] at h3
  refine ⟨l, by omega, h2, _, rfl, ?_⟩
  simp only [PRep]
  refine .inr ⟨blk, off, cap, C, by rw [List.length_map, h1], fun h => h, hblk, by rw [List.length_map]; omega, h3⟩
/-- The fields of a struct: types and places. -/
def flds (P : Program) (t : TypeId) : Option (List (Nat × Nat)) :=
  match P.underlying t with
  | some (.struct fs) => some (fs.toList.map fun f => (f.type, f.offset))
  | _ => none
theorem fld_get {t : TypeId} {l : List (Nat × Nat)} (hf : flds P t = some l) {cs : List Value} {y : DataW H × List MemPlace} (h : DataW.trod enc P w base sp hd n t cs = some y) :
    ∃ m, n = m + 1 ∧ cs.length = P.cellsOf t ∧ ∀ (i : Nat) (p : Nat × Nat), l[i]? = some p → ∃ z, DataW.trod enc P w base sp hd m p.1 ((cs.drop p.2).take (P.cellsOf p.1)) = some z := by
  unfold flds at hf
  split at hf
  · rename_i fs hu
    injection hf with hf
    subst hf
    obtain ⟨xs, m, h1, _, h2, h3, h4⟩ := DataW.trod_struct hu h
    refine ⟨m, h1, h2, fun i p hp => ?_⟩
    rw [List.getElem?_map] at hp
    obtain ⟨fl, hfl, rfl⟩ := Option.map_eq_some_iff.1 hp
    have hi : fs[i]? = some fl := by simpa using hfl
    have := h4 i fl hi
    have hlt : i < xs.length := by rw [h3]; exact (Array.getElem?_eq_some_iff.1 hi).1
    rw [List.getElem?_eq_getElem hlt] at this
    exact ⟨_, this⟩
  · cases hf
end
/-- The types of terms in a program. -/
structure EuTypes (P : Program) (tI tS tV tVs tL tLs tT tTs : TypeId) : Prop where
  uI : P.underlying tI = some (.int .i64)
  uS : P.underlying tS = some .string
  uVs : P.underlying tVs = some (.slice tV)
  uLs : P.underlying tLs = some (.slice tL)
  uTs : P.underlying tTs = some (.slice tT)
  fV : flds P tV = some [(tI, 0), (tI, 1)]
  fL : flds P tL = some [(tI, 0), (tVs, 1)]
  fT : flds P tT = some [(tI, 0), (tI, 1), (tS, 2), (tLs, 3), (tTs, 4)]
  cI : P.cellsOf tI = 1
  cS : P.cellsOf tS = 1
  cVs : P.cellsOf tVs = 1
  cLs : P.cellsOf tLs = 1
  cTs : P.cellsOf tTs = 1
  cV : P.cellsOf tV = 2
  cL : P.cellsOf tL = 2
  cT : P.cellsOf tT = 5
theorem rng_wf {n : Int} (h : (Lit.int .i64 n).wf = true) : rng n := by
  simp only [Lit.wf, Bool.and_eq_true, decide_eq_true_eq] at h
  exact h
section
variable {H : Type} {enc : TypeId × Value → H} {P : Program} {w : World} {base : Nat} {sp : Nat → Bool} {hd : Bool} {tI tB tS tV tVs tL tLs tT tTs tM tMs : TypeId}
theorem open_V (E : EuTypes P tI tS tV tVs tL tLs tT tTs) {n : Nat} {cs : List Value} {y : DataW H × List MemPlace} (h : DataW.trod enc P w base sp hd n tV cs = some y) : ∃ v : LVar, PReps w (encV v) cs ∧ True := by
  obtain ⟨m, rfl, hl, hg⟩ := fld_get E.fV h
  rw [E.cV] at hl
  match cs, hl with
  | [c0, c1], _ =>
    obtain ⟨z0, h0⟩ := hg 0 _ rfl
    obtain ⟨z1, h1⟩ := hg 1 _ rfl
    simp only [E.cI, List.drop_zero, List.drop_succ_cons, List.take_succ_cons, List.take_zero] at h0 h1
    obtain ⟨a, ha, _, _⟩ := DataW.trod_int E.uI h0
    obtain ⟨b, hb, _, _⟩ := DataW.trod_int E.uI h1
    injection ha with ha; injection hb with hb
    subst ha hb
    exact ⟨⟨a, b⟩, ⟨_, _, rfl, by simp [PRep], _, _, rfl, by simp [PRep], rfl⟩, trivial⟩
theorem open_L (E : EuTypes P tI tS tV tVs tL tLs tT tTs) {n : Nat} {cs : List Value} {y : DataW H × List MemPlace} (h : DataW.trod enc P w base sp hd n tL cs = some y) : ∃ v : Lvl, PReps w (encL v) cs ∧ WdL v := by
  obtain ⟨m, rfl, hl, hg⟩ := fld_get E.fL h
  rw [E.cL] at hl
  match cs, hl with
  | [c0, c1], _ =>
    obtain ⟨z0, h0⟩ := hg 0 _ rfl
    obtain ⟨z1, h1⟩ := hg 1 _ rfl
    simp only [E.cI, E.cVs, List.drop_zero, List.drop_succ_cons, List.take_succ_cons, List.take_zero] at h0 h1
    obtain ⟨a, ha, _, _⟩ := DataW.trod_int E.uI h0
    injection ha with ha
    subst ha
    obtain ⟨l, g1, g2, v, hv, g3⟩ := open_slice E.uVs E.cV (by decide) encV (fun _ => True) (fun m cs y _ h => open_V E h) h1
    injection hv with hv
    subst hv
    exact ⟨⟨a, l⟩, ⟨_, _, rfl, by simp [PRep], _, _, rfl, g3, rfl⟩, ⟨g1⟩⟩
theorem open_T (E : EuTypes P tI tS tV tVs tL tLs tT tTs) : ∀ (n : Nat) (cs : List Value) (y : DataW H × List MemPlace), DataW.trod enc P w base sp hd n tT cs = some y → ∃ t : Tm, PReps w (encT t) cs ∧ Wd t := by
  intro n
  induction n using Nat.strongRecOn with
  | ind n ih =>
    intro cs y h
    obtain ⟨m, rfl, hl, hg⟩ := fld_get E.fT h
    rw [E.cT] at hl
    match cs, hl with
    | [c0, c1, c2, c3, c4], _ =>
      obtain ⟨z0, h0⟩ := hg 0 _ rfl
      obtain ⟨z1, h1⟩ := hg 1 _ rfl
      obtain ⟨z2, h2⟩ := hg 2 _ rfl
      obtain ⟨z3, h3⟩ := hg 3 _ rfl
      obtain ⟨z4, h4⟩ := hg 4 _ rfl
      simp only [E.cI, E.cS, E.cLs, E.cTs, List.drop_zero, List.drop_succ_cons, List.take_succ_cons, List.take_zero] at h0 h1 h2 h3 h4
      obtain ⟨a, ha, _, wa⟩ := DataW.trod_int E.uI h0
      obtain ⟨b, hb, _, wb⟩ := DataW.trod_int E.uI h1
      obtain ⟨s, hs, _, ws⟩ := DataW.trod_string E.uS h2
      injection ha with ha; injection hb with hb; injection hs with hs
      subst ha hb hs
      obtain ⟨l, g1, g2, v, hv, g3⟩ := open_slice E.uLs E.cL (by decide) encL WdL (fun m cs y _ h => open_L E h) h3
      obtain ⟨ks, k1, k2, u, hu, k3⟩ := open_slice E.uTs E.cT (by decide) encT Wd (fun m' cs y hm h => ih m' (by omega) cs y h) h4
      injection hv with hv; injection hu with hu
      subst hv hu
      have hml : maxLen < wide := by decide
      exact ⟨.mk a b s l ks, ⟨_, _, rfl, by simp [PRep], _, _, rfl, by simp [PRep], _, _, rfl, by simp [PRep], _, _, rfl, g3, _, _, rfl, by rw [encTs_map]; exact k3, rfl⟩,
        ⟨by omega, g1, g2, k1, Wds_of fun t ht => k2 t ht, rng_wf wa, rng_wf wb⟩⟩
structure EuMetas (P : Program) (tB tT tM tMs : TypeId) : Prop where
  uB : P.underlying tB = some .bool
  uMs : P.underlying tMs = some (.slice tM)
  fM : flds P tM = some [(tT, 0), (tB, 5), (tT, 6), (tB, 11)]
  cB : P.cellsOf tB = 1
  cM : P.cellsOf tM = 12
theorem open_M (E : EuTypes P tI tS tV tVs tL tLs tT tTs) (E' : EuMetas P tB tT tM tMs) {n : Nat} {cs : List Value} {y : DataW H × List MemPlace} (h : DataW.trod enc P w base sp hd n tM cs = some y) : ∃ x : Mv, PReps w (encM x) cs ∧ WdM x := by
  obtain ⟨m, rfl, hl, hg⟩ := fld_get E'.fM h
  rw [E'.cM] at hl
  match cs, hl with
  | [c0, c1, c2, c3, c4, c5, c6, c7, c8, c9, c10, c11], _ =>
    obtain ⟨z0, h0⟩ := hg 0 _ rfl
    obtain ⟨z1, h1⟩ := hg 1 _ rfl
    obtain ⟨z2, h2⟩ := hg 2 _ rfl
    obtain ⟨z3, h3⟩ := hg 3 _ rfl
    simp only [E.cT, E'.cB, List.drop_zero, List.drop_succ_cons, List.take_succ_cons, List.take_zero] at h0 h1 h2 h3
    obtain ⟨y, hy, wy⟩ := open_T E _ _ _ h0
    obtain ⟨a, ha, _⟩ := DataW.trod_bool E'.uB h1
    obtain ⟨v, hv, wv⟩ := open_T E _ _ _ h2
    obtain ⟨b, hb, _⟩ := DataW.trod_bool E'.uB h3
    injection ha with ha; injection hb with hb
    subst ha hb
    refine ⟨⟨y, a, v, b⟩, ?_, ⟨wy, wv⟩⟩
    exact PReps.append (x := [c0, c1, c2, c3, c4]) hy (b := .bool a :: (encT v ++ [.bool b])) (y := .bool a :: ([c6, c7, c8, c9, c10] ++ [.bool b])) ⟨_, _, rfl, (by simp only [PRep] : PRep F0 w (.bool a) (.bool a)), PReps.append (x := [c6, c7, c8, c9, c10]) hv (PReps.one (c := .bool b) (by simp only [PRep]))⟩
theorem open_Ms (E : EuTypes P tI tS tV tVs tL tLs tT tTs) (E' : EuMetas P tB tT tM tMs) {n : Nat} {cs : List Value} {y : DataW H × List MemPlace} (h : DataW.trod enc P w base sp hd n tMs cs = some y) : ∃ l : List Mv, l.length < wide ∧ (∀ x ∈ l, WdM x) ∧ ∃ v, cs = [v] ∧ PRep F0 w (.lst (l.map encM)) v :=
  open_slice E'.uMs E'.cM (by decide) encM WdM (fun m cs y _ h => open_M E E' h) h
/-- An argument that is a slice. -/
theorem arg_slice {b2 : Nat} {r : Reach} {t e : TypeId} (ut : P.underlying t = some (.slice e)) {v u : Value} (hk : Value.okWide P w r b2 t v) (h : v.cells.toList = [u]) : v = u := by
  unfold Value.okWide at hk
  rw [ut] at hk
  simp only at hk
  unfold Cell.okWide at hk
  rw [ut] at hk
  cases v with
  | agg cs => simp only at hk; unfold Cell.ok at hk; rw [ut] at hk; simp at hk
  | _ => simp [Value.cells] at h; exact h
theorem arg_Ms (E : EuTypes P tI tS tV tVs tL tLs tT tTs) (E' : EuMetas P tB tT tM tMs) {b2 : Nat} {r : Reach} {v : Value} {d : DataW H} {ps : List MemPlace} (hk : Value.okWide P w r b2 tMs v) (h : DataW.Trod enc P w base sp hd tMs v d ps) : ∃ l : List Mv, l.length < wide ∧ (∀ x ∈ l, WdM x) ∧ Rep F0 w (MsV l) v := by
  obtain ⟨n, h⟩ := h
  obtain ⟨l, g1, g2, u, hu, g3⟩ := open_Ms E E' h
  have := arg_slice E'.uMs hk hu
  subst this
  exact ⟨l, g1, g2, by simp only [Rep]; exact g3⟩
theorem arg_T (E : EuTypes P tI tS tV tVs tL tLs tT tTs) {b2 : Nat} {r : Reach} {v : Value} {d : DataW H} {ps : List MemPlace} (hk : Value.okWide P w r b2 tT v) (h : DataW.Trod enc P w base sp hd tT v d ps) : ∃ t : Tm, Wd t ∧ Rep F0 w (TV t) v := by
  obtain ⟨n, h⟩ := h
  obtain ⟨t, g1, g2⟩ := open_T E _ _ _ h
  have hf := E.fT
  unfold flds at hf
  unfold Value.okWide at hk
  split at hk
  · obtain ⟨cs, rfl, _, _⟩ := hk
    refine ⟨t, g2, ?_⟩
    exact ⟨cs.toList, by simp, PReps.repL g1⟩
  · rename_i hu
    rw [hu] at hf
    cases hf
  · rename_i h1 h2
    split at hf
    · rename_i fs hu; exact absurd hu (h1 fs)
    · cases hf
end
theorem hrel_zero (w : World) : HRel F0 [] w := ⟨fun o ho => by simp at ho, by simp, fun o ho => by simp at ho, fun b hb => hb.elim⟩
/-- A pure function that answers true: what was there before is as it was. -/
theorem true_calls {P : Program} {f : FuncId} {xs : List AV} (h : Fun P f xs (.p (.bool true))) {w : World} {vs : List Value} (ha : RepL F0 w xs vs) : Calls P f ⟨vs⟩ w fun e w' => e = .returned (.bool true) ∧ Below w.heap.size w w' := by
  refine (h.2 F0 w vs (hrel_zero w) ha).mono ?_
  rintro e w' ⟨r, H', F', hr, he, hH, ht⟩
  cases r with
  | panic v => exact hr.elim
  | val v =>
    obtain ⟨rfl, rfl⟩ := hr
    obtain ⟨u, rfl, hu⟩ := he
    simp only [Rep, PRep] at hu
    subst hu
    exact ⟨rfl, ht.os, ht.tape, ht.out, ht.size, fun k hk => ht.same k hk fun o ho => by simp at ho⟩
/-- What a row asks behind a call that answers true and leaves what was there. -/
theorem post_below {H : Type} {enc : TypeId × Value → H} {P : Program} {f : Func} {s : ChangeSpec} {tB : TypeId} (hl : laidOutB P = true) (hB : P.underlying tB = some .bool) (hrt : f.resultTypes = #[tB]) (hv0 : s.vars = []) {W W' : World} {args : Array Value} {ds : List (DataW H)} {before : List MemPlace}
    (hpr : ∀ t ∈ f.params.toList, P.readableRec t = true ∧ t < P.types.size) (hW : DataW.Whole enc P f.params.toList s.vars false W args.toList ds [] before) (hres : (s.fn H ds).results = [.lit (.bool true)]) (hargs : (s.fn H ds).args = ds) (hvars : (s.fn H ds).vars = []) (hb : Below W.heap.size W W') :
    s.post enc P f false true false false W args (.bool true) W' := by
  have hW' := hW
  obtain ⟨p, q, hA, hV, rfl, hfz, hnd⟩ := hW
  have hq : q = [] := by rw [hv0] at hV; exact hV
  subst hq
  have hstay : ∀ {ts : List TypeId} {vs : List Value} {ds : List (DataW H)} {ps : List MemPlace}, (∀ t ∈ ts, P.readableRec t = true ∧ t < P.types.size) → (∀ x ∈ ps, x.block < W.heap.size) → DataW.TrodAll enc P W 0 (fun _ => true) true ts vs ds ps → DataW.TrodAll enc P W' 0 (fun b => decide (b < W.heap.size)) true ts vs ds ps := by
    intro ts
    induction ts with
    | nil =>
      intro vs ds ps _ _ h
      cases vs <;> cases ds <;> simp [DataW.TrodAll] at h ⊢
      exact h
    | cons t ts ih =>
      intro vs ds ps h1 h2 h
      obtain ⟨v, vs', d, ds', a, b, rfl, rfl, rfl, h3, h4⟩ := trodAll_cons h
      exact ⟨a, b, Below.trod hl (h1 t (by simp)).1 (h1 t (by simp)).2 h3 hb (fun x hx => h2 x (by simp [hx])), ih (fun t ht => h1 t (by simp [ht])) (fun x hx => h2 x (by simp [hx])) h4, rfl⟩
  refine ⟨ds, [], p ++ [], [], p, [], hW', ?_, ?_, ?_, hb.frame _, fun h => by cases h⟩
  · rw [List.append_nil, hres, hrt]
    refine ⟨[], [], ⟨1, ?_⟩, rfl, rfl⟩
    unfold DataW.trod
    rw [hB]
    rfl
  · rw [List.append_nil, hargs]
    exact hstay hpr (fun x hx => hW'.lt x (by simpa using hx)) hA
  · rw [List.append_nil, hvars, hv0]
    exact rfl
end Go.Eu
/- Rows with a number among the arguments. -/
namespace Go.Eu
open Go.Abs Go.RowKit Go.ChangeShapes Go.ChangeAt Go.WideShapes
set_option linter.unusedVariables false
section
variable {H : Type} {enc : TypeId × Value → H} {P : Program} {w : World} {base : Nat} {sp : Nat → Bool} {hd : Bool} {tI tB tS tV tVs tL tLs tT tTs tM tMs : TypeId}
theorem arg_one {b2 : Nat} {r : Reach} {t : TypeId} {k : IntKind} (ut : P.underlying t = some (.int k)) {v u : Value} (hk : Value.okWide P w r b2 t v) (h : v.cells.toList = [u]) : v = u := by
  unfold Value.okWide at hk
  rw [ut] at hk
  simp only at hk
  unfold Cell.okWide at hk
  rw [ut] at hk
  cases v with
  | agg cs => simp only at hk; unfold Cell.ok at hk; rw [ut] at hk; simp at hk
  | _ => simp [Value.cells] at h; exact h
theorem arg_I (E : EuTypes P tI tS tV tVs tL tLs tT tTs) {b2 : Nat} {r : Reach} {v : Value} {d : DataW H} {ps : List MemPlace} (hk : Value.okWide P w r b2 tI v) (h : DataW.Trod enc P w base sp hd tI v d ps) : ∃ i : Int, rng i ∧ Rep F0 w (.p (I i)) v := by
  obtain ⟨n, h⟩ := h
  obtain ⟨a, ha, _, wa⟩ := DataW.trod_int E.uI h
  have := arg_one E.uI hk ha
  subst this
  exact ⟨a, rng_wf wa, by simp [Rep, PRep]⟩
end
end Go.Eu
