/- Part of the proofs about metavariables: an abstract program logic, plain models and contracts of functions. -/
import Derived.Test.YtgfecpjmbgcobaaGreatPm
import Derived.Test.YtgfecpjmbgcobaaGreatPf
/- Contracts of functions of the program. -/
namespace Go.Proofs.YtgfecpjmbgcobaaGreat
open Go.Abs Go.Eu
set_option linter.unusedVariables false
set_option linter.unusedSimpArgs false
set_option maxRecDepth 100000
theorem visit_c : ∀ {σ : Type} (st : σ → Int → Tm → σ × Bool) (Inv : Nat → σ → Prop) (HP : Bool → σ → List HObj → Prop) (l b2 b3 b4 : Nat) (hI : ∀ m s d t, Inv (m + 1) s → Inv m (st s d t).1) (hy : ∀ m s d t T, Nd t → Inv (m + 1) s → HP true s T → AYield Tryz.prog l [.p (I d), TV t] T (retP (.p (.bool (st s d t).2)) (HP (st s d t).2 (st s d t).1))) (n : Nat) (t : Tm) (d : Int) (s : σ) (T0 : List HObj) (m : Nat), size t ≤ n → Nd t → 0 ≤ d → d + n < 4611686018427387904 → Inv (m + size t) s → HP true s T0 → ACalls Tryz.prog 74 [TV t, .p (I d), .ptr b2 0, .ptr b3 0, .ptr b4 0] (.box b2 [.fn (.yield l) [] []] :: .box b3 kindsC :: .box b4 [.fn (.func 74) [] [.ptr b2 0, .ptr b3 0, .ptr b4 0]] :: T0) (retP (.p (.bool (visitW st t d s).2)) (fun H => ∃ T, HP (visitW st t d s).2 (visitW st t d s).1 T ∧ H = .box b2 [.fn (.yield l) [] []] :: .box b3 kindsC :: .box b4 [.fn (.func 74) [] [.ptr b2 0, .ptr b3 0, .ptr b4 0]] :: T)) := by
  intro σ st Inv HP l b2 b3 b4 hI hy n
  induction n with
  | zero => intro t d s T0 m h; cases t; simp [size] at h
  | succ n ih =>
    intro t d s T0 m h1 h2 h3 h4 h5 h6
    obtain ⟨tk, ti, tn, tl, ts⟩ := t
    have h2' := h2
    simp only [size] at h1 h5
    simp only [Nd, rng, big] at h2
    refine acalls_of_awp Tryz.func74 rfl en74 (n := 50) rfl rfl ?_
    refine awp_seq ?_
    refine awp_region ?_
    refine al_new rfl rfl (aop_box rfl) fun b5 => ?_
    refine al_step rfl rfl (aop_assign rfl) ?_
    refine al_end rfl ?_
    refine awp_seq ?_
    refine awp_seq ?_
    refine awp_region ?_
    refine al_step rfl rfl (aop_load_box1 (i := 1) ty110 rfl rfl rfl) ?_
    refine al_step rfl rfl (aop_move rfl) ?_
    refine al_step rfl rfl (aop_load_box (i := 0) ty26 rfl rfl rfl) ?_
    refine al_yieldT [_, _, _, _] rfl rfl rfl rfl (hy (m + sizes ts) _ _ _ _ h2' (by rw [Nat.add_assoc, Nat.add_comm (sizes ts)]; exact h5) h6) rfl ?_ (fun _ _ h => h.elim)
    rintro _ T ⟨rfl, hT⟩
    refine al_step rfl rfl (aop_not rfl) ?_
    refine al_end rfl ?_
    refine awp_cond rfl (fun c => ?_) (fun c => ?_)
    · (try simp only [sd, se] at c)
      refine awp_seq ?_
      refine awp_region ?_
      refine al_step rfl rfl (aop_assign rfl) ?_
      refine al_end rfl ?_
      refine awp_ret ?_
      refine ⟨rfl, _, _, ⟨_, _, rfl, rfl, rfl⟩, (sublT [1, 2, 3] [_, _, _, _] rfl), ?_⟩
      rw [visitW_stop c]
      rw [c] at hT
      exact ⟨rfl, _, hT, rfl⟩
    · (try simp only [sd, se] at c)
      rw [c] at hT
      refine awp_skip ?_
      refine awp_seq ?_
      refine awp_region ?_
      refine al_step rfl rfl (aop_assign rfl) ?_
      refine al_end rfl ?_
      refine awp_seq ?_
      refine awp_seq ?_
      refine awp_meetR [1, 3, 4, 5, 8] 24 (fun y => y = .p (.bool ((decide ((tk : Int) ≥ (0 : Int))) && (decide ((tk : Int) < (13 : Int)))))) ?_ ?_
      · refine awp_region ?_
        refine al_step rfl rfl (aop_field_ptr fd26 rfl rfl) ?_
        refine al_step rfl rfl (aop_load_box1 (i := 0) ty3 rfl rfl rfl) ?_
        refine al_step rfl rfl (aop_cmp rfl rfl rfl) ?_
        refine al_step rfl rfl (aop_move rfl) ?_
        refine al_case 20 rfl (fun g => ?_) (fun g => ?_)
        · (try simp only [sd, se] at g)
          refine al_stepg rfl rfl rfl rfl (aop_field_ptr fd26 rfl rfl) ?_
          refine al_stepg rfl rfl rfl rfl (aop_load_box1 (i := 0) ty3 rfl rfl rfl) ?_
          refine al_stepg rfl rfl rfl rfl (aop_cmp rfl rfl rfl) ?_
          refine al_step rfl rfl (aop_pick rfl rfl) ?_
          refine al_end rfl ?_
          exact ⟨rfl, rfl, (by first | exact List.Sublist.refl _ | exact List.sublist_cons_self _ _), (by first | rfl | (refine pB ?_; simp_all; done) | (refine pB ?_; simp_all <;> (intros; omega))), ⟨rfl, rfl, rfl, rfl, rfl, trivial⟩⟩
        · (try simp only [sd, se] at g)
          refine al_pass rfl rfl rfl rfl rfl ?_
          refine al_pass rfl rfl rfl rfl rfl ?_
          refine al_pass rfl rfl rfl rfl rfl ?_
          refine al_step rfl rfl (aop_pick rfl rfl) ?_
          refine al_end rfl ?_
          exact ⟨rfl, rfl, (by first | exact List.Sublist.refl _ | exact List.sublist_cons_self _ _), (by first | rfl | (refine pB ?_; simp_all; done) | (refine pB ?_; simp_all <;> (intros; omega))), ⟨rfl, rfl, rfl, rfl, rfl, trivial⟩⟩
      rintro _ rfl
      refine awp_cond rfl (fun c1 => ?_) (fun c1 => ?_)
      · (try simp only [sd, se] at c1)
        refine awp_region ?_
        refine al_step rfl rfl (aop_field_ptr fd26 rfl rfl) ?_
        refine al_step rfl rfl (aop_load_box1 (i := 0) ty3 rfl rfl rfl) ?_
        refine al_step rfl rfl (aop_index_arr2 ua113 ty112 rfl rfl (by omega) (by omega)) ?_
        refine al_step rfl rfl (aop_field_ptr fd112 rfl rfl) ?_
        refine al_step rfl rfl (aop_load_box1 (i := 2) ty3 rfl rfl (kinds_at (by omega))) ?_
        refine al_step rfl rfl (aop_assign rfl) ?_
        refine al_end rfl ?_
        refine awp_seq ?_
        refine awp_seq ?_
        refine awp_region ?_
        refine al_step rfl rfl (aop_field_ptr fd26 rfl rfl) ?_
        refine al_step rfl rfl (aop_load_box1 (i := 0) ty24 rfl rfl rfl) ?_
        refine al_step rfl rfl (aop_lenE el24 rfl (encTs_len _)) ?_
        refine al_step rfl rfl (aop_move rfl) ?_
        refine al_end rfl ?_
        refine awp_block ?_
        refine awp_while (α := Nat × σ × List HObj) (fun (i, q, U) => ⟨50, mk [(1, .p (I d)), (4, .ptr b4 0), (8, .p (I (belowIx tk))), (31, .p (.lst (encTs ts))), (32, .p (I (ts.length : Nat))), (33, .p (I (i : Int)))], (.box b2 [.fn (.yield l) [] []] :: .box b3 kindsC :: .box b4 [.fn (.func 74) [] [.ptr b2 0, .ptr b3 0, .ptr b4 0]] :: U), []⟩) (fun (i, q, U) => ts.length - i) (fun (i, q, U) => i ≤ ts.length ∧ (visitsW st tk d i q (ts.drop i) = visitsW st tk d 0 (st s d (.mk tk ti tn tl ts)).1 ts ∧ Inv (m + sizes (ts.drop i)) q ∧ HP true q U)) ⟨0, (st s d (.mk tk ti tn tl ts)).1, T⟩ (⟨by omega, by simp, by simpa using hI _ _ _ _ (by rw [Nat.add_assoc, Nat.add_comm (sizes ts)]; exact h5), by assumption⟩) ?_ ?_
        · exact le_mkW ⟨we rfl, we rfl, we rfl, we rfl, we rfl, we rfl, trivial⟩ (leT [1, 2, 3] [_, _, _, _] (l' := [_, _, _]) rfl (wl (oe rfl) (wl (oe rfl) (wl (oe rfl) (wl0)))))
        rintro ⟨i, q, U⟩ hC
        try simp only at hC
        obtain ⟨hi, hC, hJ, hK⟩ := hC
        refine awp_seq ?_
        refine awp_region ?_
        refine al_step rfl rfl (aop_cmp rfl rfl rfl) ?_
        refine al_end rfl ?_
        refine awp_seq ?_
        refine awp_cond rfl (fun c2 => ?_) (fun c2 => ?_)
        · (try simp only [sd, se] at c2)
          refine awp_skip ?_
          refine awp_seq ?_
          refine awp_block ?_
          refine awp_seq ?_
          refine awp_region ?_
          refine al_step rfl rfl (aop_move rfl) ?_
          obtain ⟨x, hx⟩ := getElem?_of_lt (l := ts) (i := i) (by omega)
          refine al_step rfl rfl (aop_index_lst el24 rfl rfl (by omega) (encTs_get hx) (encT_len _)) ?_
          refine al_step rfl rfl (aop_load_ref ty26 rfl (encT_len _)) ?_
          refine al_new rfl rfl (aop_alloc zr26 rfl) fun b10 => ?_
          refine al_step rfl rfl (aop_assign rfl) ?_
          refine al_step rfl rfl (aop_store_whole (i := 0) ty26 rfl rfl rfl (by simp [encT_len]) (by first | rfl | simp [encT_len]) (one_Tm _)) ?_
          refine al_end rfl ?_
          refine awp_seq ?_
          refine awp_region ?_
          refine al_step rfl rfl (aop_move rfl) ?_
          refine al_step rfl rfl (aop_assign rfl) ?_
          refine al_end rfl ?_
          refine awp_seq ?_
          refine awp_seq ?_
          refine awp_region ?_
          refine al_step rfl rfl (aop_move rfl) ?_
          refine al_step rfl rfl (aop_move rfl) ?_
          refine al_step rfl rfl (aop_cmp rfl rfl rfl) ?_
          refine al_end rfl ?_
          refine awp_cond rfl (fun c3 => ?_) (fun c3 => ?_)
          · (try simp only [sd, se] at c3)
            refine awp_region ?_
            refine al_step rfl rfl (aop_move rfl) ?_
            refine al_step rfl rfl (aop_add rfl rfl (by omega) (by omega)) ?_
            refine al_step rfl rfl (aop_assign rfl) ?_
            refine al_end rfl ?_
            refine awp_ghost (ghost_eq (t := 11) (x := .p (I (d + below tk i))) (pI (by have := below_ix (k := tk) (i := i) (by omega) (by omega); omega))) ?_
            refine awp_seq ?_
            refine awp_region ?_
            refine al_step rfl rfl (aop_load_box1 (i := 3) ty115 rfl rfl rfl) ?_
            refine al_step rfl rfl (aop_load_box (i := 0) ty26 rfl rfl (by simp [encT_len])) ?_
            refine al_step rfl rfl (aop_move rfl) ?_
            refine al_callT [_] rfl rfl rfl (.inr rfl) (ih x (d + below tk i) q _ (m + sizes (ts.drop (i + 1))) (by have := size_mem hx; omega) (Nds_mem h2.2.2.2.2.1 hx) (by have := below_le tk i; omega) (by have := below_le tk i; omega) (by rw [drop_at hx, sizes] at hJ; rw [Nat.add_assoc, Nat.add_comm (sizes _)]; exact hJ) hK) (aw (we rfl) (aw (we rfl) (aw (we rfl) (aw (we rfl) (aw (we rfl) (aw0)))))) ?_ (fun _ _ h => h.elim)
            rintro _ _ ⟨rfl, T1, hT1, rfl⟩
            refine al_step rfl rfl (aop_not rfl) ?_
            refine al_end rfl ?_
            refine awp_cond rfl (fun c4 => ?_) (fun c4 => ?_)
            · (try simp only [sd, se] at c4)
              refine awp_seq ?_
              refine awp_region ?_
              refine al_step rfl rfl (aop_assign rfl) ?_
              refine al_end rfl ?_
              refine awp_ret ?_
              refine ⟨rfl, _, _, ⟨_, _, rfl, rfl, rfl⟩, (sublT [1, 2, 3] [_, _, _, _] rfl), ?_⟩
              rw [visitW_go (by assumption), ← hC, visitsW_stop hx c4]
              rw [c4] at hT1
              exact ⟨rfl, _, hT1, rfl⟩
            · (try simp only [sd, se] at c4)
              rw [c4] at hT1
              refine awp_skip ?_
              refine awp_region ?_
              refine al_step rfl rfl (aop_add rfl rfl (by omega) (by omega)) ?_
              refine al_step rfl rfl (aop_move rfl) ?_
              refine al_end rfl ?_
              refine ⟨⟨i + 1, (visitW st x (d + below tk i) q).1, T1⟩, (by first | omega | (simp only; omega)), ⟨by omega, ⟨by rw [← hC]; exact (visitsW_go hx (by assumption)).symm, by rw [drop_at hx, sizes] at hJ; exact visitW_inv hI x _ _ _ (by rw [Nat.add_assoc, Nat.add_comm (sizes _)]; exact hJ) (by assumption), by assumption⟩⟩, le_mkW ⟨we rfl, we rfl, we rfl, we rfl, we rfl, we rfl, trivial⟩ (leT [1, 2, 3] [_, _, _, _] (l' := [_, _, _]) rfl (wl (oe rfl) (wl (oe rfl) (wl (oe rfl) (wl0)))))⟩
          · (try simp only [sd, se] at c3)
            refine awp_skip ?_
            refine awp_ghost (ghost_eq (t := 11) (x := .p (I (d + below tk i))) (pI (by have := below_nix (k := tk) (i := i) (by omega); omega))) ?_
            refine awp_seq ?_
            refine awp_region ?_
            refine al_step rfl rfl (aop_load_box1 (i := 3) ty115 rfl rfl rfl) ?_
            refine al_step rfl rfl (aop_load_box (i := 0) ty26 rfl rfl (by simp [encT_len])) ?_
            refine al_step rfl rfl (aop_move rfl) ?_
            refine al_callT [_] rfl rfl rfl (.inr rfl) (ih x (d + below tk i) q _ (m + sizes (ts.drop (i + 1))) (by have := size_mem hx; omega) (Nds_mem h2.2.2.2.2.1 hx) (by have := below_le tk i; omega) (by have := below_le tk i; omega) (by rw [drop_at hx, sizes] at hJ; rw [Nat.add_assoc, Nat.add_comm (sizes _)]; exact hJ) hK) (aw (we rfl) (aw (we rfl) (aw (we rfl) (aw (we rfl) (aw (we rfl) (aw0)))))) ?_ (fun _ _ h => h.elim)
            rintro _ _ ⟨rfl, T1, hT1, rfl⟩
            refine al_step rfl rfl (aop_not rfl) ?_
            refine al_end rfl ?_
            refine awp_cond rfl (fun c4 => ?_) (fun c4 => ?_)
            · (try simp only [sd, se] at c4)
              refine awp_seq ?_
              refine awp_region ?_
              refine al_step rfl rfl (aop_assign rfl) ?_
              refine al_end rfl ?_
              refine awp_ret ?_
              refine ⟨rfl, _, _, ⟨_, _, rfl, rfl, rfl⟩, (sublT [1, 2, 3] [_, _, _, _] rfl), ?_⟩
              rw [visitW_go (by assumption), ← hC, visitsW_stop hx c4]
              rw [c4] at hT1
              exact ⟨rfl, _, hT1, rfl⟩
            · (try simp only [sd, se] at c4)
              rw [c4] at hT1
              refine awp_skip ?_
              refine awp_region ?_
              refine al_step rfl rfl (aop_add rfl rfl (by omega) (by omega)) ?_
              refine al_step rfl rfl (aop_move rfl) ?_
              refine al_end rfl ?_
              refine ⟨⟨i + 1, (visitW st x (d + below tk i) q).1, T1⟩, (by first | omega | (simp only; omega)), ⟨by omega, ⟨by rw [← hC]; exact (visitsW_go hx (by assumption)).symm, by rw [drop_at hx, sizes] at hJ; exact visitW_inv hI x _ _ _ (by rw [Nat.add_assoc, Nat.add_comm (sizes _)]; exact hJ) (by assumption), by assumption⟩⟩, le_mkW ⟨we rfl, we rfl, we rfl, we rfl, we rfl, we rfl, trivial⟩ (leT [1, 2, 3] [_, _, _, _] (l' := [_, _, _]) rfl (wl (oe rfl) (wl (oe rfl) (wl (oe rfl) (wl0)))))⟩
        · (try simp only [sd, se] at c2)
          refine awp_exit ?_
          refine awp_seq ?_
          refine awp_region ?_
          refine al_step rfl rfl (aop_assign rfl) ?_
          refine al_end rfl ?_
          refine awp_ret ?_
          refine ⟨rfl, _, _, ⟨_, _, rfl, rfl, rfl⟩, (sublT [0, 1, 2] [_, _, _] rfl), ?_⟩
          rw [visitW_go (by assumption), ← hC, show i = ts.length by omega, List.drop_length]
          exact ⟨rfl, _, hK, rfl⟩
      · (try simp only [sd, se] at c1)
        have hbx := belowIx_out (k := tk) (by omega)
        refine awp_skip ?_
        refine awp_seq ?_
        refine awp_seq ?_
        refine awp_region ?_
        refine al_step rfl rfl (aop_field_ptr fd26 rfl rfl) ?_
        refine al_step rfl rfl (aop_load_box1 (i := 0) ty24 rfl rfl rfl) ?_
        refine al_step rfl rfl (aop_lenE el24 rfl (encTs_len _)) ?_
        refine al_step rfl rfl (aop_move rfl) ?_
        refine al_end rfl ?_
        refine awp_block ?_
        refine awp_while (α := Nat × σ × List HObj) (fun (i, q, U) => ⟨50, mk [(1, .p (I d)), (4, .ptr b4 0), (8, .p (I (-1))), (31, .p (.lst (encTs ts))), (32, .p (I (ts.length : Nat))), (33, .p (I (i : Int)))], (.box b2 [.fn (.yield l) [] []] :: .box b3 kindsC :: .box b4 [.fn (.func 74) [] [.ptr b2 0, .ptr b3 0, .ptr b4 0]] :: U), []⟩) (fun (i, q, U) => ts.length - i) (fun (i, q, U) => i ≤ ts.length ∧ (visitsW st tk d i q (ts.drop i) = visitsW st tk d 0 (st s d (.mk tk ti tn tl ts)).1 ts ∧ Inv (m + sizes (ts.drop i)) q ∧ HP true q U)) ⟨0, (st s d (.mk tk ti tn tl ts)).1, T⟩ (⟨by omega, by simp, by simpa using hI _ _ _ _ (by rw [Nat.add_assoc, Nat.add_comm (sizes ts)]; exact h5), by assumption⟩) ?_ ?_
        · exact le_mkW ⟨we rfl, we rfl, we rfl, we rfl, we rfl, we rfl, trivial⟩ (leT [1, 2, 3] [_, _, _, _] (l' := [_, _, _]) rfl (wl (oe rfl) (wl (oe rfl) (wl (oe rfl) (wl0)))))
        rintro ⟨i, q, U⟩ hC
        try simp only at hC
        obtain ⟨hi, hC, hJ, hK⟩ := hC
        refine awp_seq ?_
        refine awp_region ?_
        refine al_step rfl rfl (aop_cmp rfl rfl rfl) ?_
        refine al_end rfl ?_
        refine awp_seq ?_
        refine awp_cond rfl (fun c2 => ?_) (fun c2 => ?_)
        · (try simp only [sd, se] at c2)
          refine awp_skip ?_
          refine awp_seq ?_
          refine awp_block ?_
          refine awp_seq ?_
          refine awp_region ?_
          refine al_step rfl rfl (aop_move rfl) ?_
          obtain ⟨x, hx⟩ := getElem?_of_lt (l := ts) (i := i) (by omega)
          refine al_step rfl rfl (aop_index_lst el24 rfl rfl (by omega) (encTs_get hx) (encT_len _)) ?_
          refine al_step rfl rfl (aop_load_ref ty26 rfl (encT_len _)) ?_
          refine al_new rfl rfl (aop_alloc zr26 rfl) fun b10 => ?_
          refine al_step rfl rfl (aop_assign rfl) ?_
          refine al_step rfl rfl (aop_store_whole (i := 0) ty26 rfl rfl rfl (by simp [encT_len]) (by first | rfl | simp [encT_len]) (one_Tm _)) ?_
          refine al_end rfl ?_
          refine awp_seq ?_
          refine awp_region ?_
          refine al_step rfl rfl (aop_move rfl) ?_
          refine al_step rfl rfl (aop_assign rfl) ?_
          refine al_end rfl ?_
          refine awp_seq ?_
          refine awp_seq ?_
          refine awp_region ?_
          refine al_step rfl rfl (aop_move rfl) ?_
          refine al_step rfl rfl (aop_move rfl) ?_
          refine al_step rfl rfl (aop_cmp rfl rfl rfl) ?_
          refine al_end rfl ?_
          refine awp_cond rfl (fun c3 => ?_) (fun c3 => ?_)
          · (try simp only [sd, se] at c3)
            refine awp_region ?_
            refine al_step rfl rfl (aop_move rfl) ?_
            refine al_step rfl rfl (aop_add rfl rfl (by omega) (by omega)) ?_
            refine al_step rfl rfl (aop_assign rfl) ?_
            refine al_end rfl ?_
            refine awp_ghost (ghost_eq (t := 11) (x := .p (I (d + below tk i))) (pI (by have := below_ix (k := tk) (i := i) (by omega) (by omega); omega))) ?_
            refine awp_seq ?_
            refine awp_region ?_
            refine al_step rfl rfl (aop_load_box1 (i := 3) ty115 rfl rfl rfl) ?_
            refine al_step rfl rfl (aop_load_box (i := 0) ty26 rfl rfl (by simp [encT_len])) ?_
            refine al_step rfl rfl (aop_move rfl) ?_
            refine al_callT [_] rfl rfl rfl (.inr rfl) (ih x (d + below tk i) q _ (m + sizes (ts.drop (i + 1))) (by have := size_mem hx; omega) (Nds_mem h2.2.2.2.2.1 hx) (by have := below_le tk i; omega) (by have := below_le tk i; omega) (by rw [drop_at hx, sizes] at hJ; rw [Nat.add_assoc, Nat.add_comm (sizes _)]; exact hJ) hK) (aw (we rfl) (aw (we rfl) (aw (we rfl) (aw (we rfl) (aw (we rfl) (aw0)))))) ?_ (fun _ _ h => h.elim)
            rintro _ _ ⟨rfl, T1, hT1, rfl⟩
            refine al_step rfl rfl (aop_not rfl) ?_
            refine al_end rfl ?_
            refine awp_cond rfl (fun c4 => ?_) (fun c4 => ?_)
            · (try simp only [sd, se] at c4)
              refine awp_seq ?_
              refine awp_region ?_
              refine al_step rfl rfl (aop_assign rfl) ?_
              refine al_end rfl ?_
              refine awp_ret ?_
              refine ⟨rfl, _, _, ⟨_, _, rfl, rfl, rfl⟩, (sublT [1, 2, 3] [_, _, _, _] rfl), ?_⟩
              rw [visitW_go (by assumption), ← hC, visitsW_stop hx c4]
              rw [c4] at hT1
              exact ⟨rfl, _, hT1, rfl⟩
            · (try simp only [sd, se] at c4)
              rw [c4] at hT1
              refine awp_skip ?_
              refine awp_region ?_
              refine al_step rfl rfl (aop_add rfl rfl (by omega) (by omega)) ?_
              refine al_step rfl rfl (aop_move rfl) ?_
              refine al_end rfl ?_
              refine ⟨⟨i + 1, (visitW st x (d + below tk i) q).1, T1⟩, (by first | omega | (simp only; omega)), ⟨by omega, ⟨by rw [← hC]; exact (visitsW_go hx (by assumption)).symm, by rw [drop_at hx, sizes] at hJ; exact visitW_inv hI x _ _ _ (by rw [Nat.add_assoc, Nat.add_comm (sizes _)]; exact hJ) (by assumption), by assumption⟩⟩, le_mkW ⟨we rfl, we rfl, we rfl, we rfl, we rfl, we rfl, trivial⟩ (leT [1, 2, 3] [_, _, _, _] (l' := [_, _, _]) rfl (wl (oe rfl) (wl (oe rfl) (wl (oe rfl) (wl0)))))⟩
          · (try simp only [sd, se] at c3)
            refine awp_skip ?_
            refine awp_ghost (ghost_eq (t := 11) (x := .p (I (d + below tk i))) (pI (by have := below_nix (k := tk) (i := i) (by omega); omega))) ?_
            refine awp_seq ?_
            refine awp_region ?_
            refine al_step rfl rfl (aop_load_box1 (i := 3) ty115 rfl rfl rfl) ?_
            refine al_step rfl rfl (aop_load_box (i := 0) ty26 rfl rfl (by simp [encT_len])) ?_
            refine al_step rfl rfl (aop_move rfl) ?_
            refine al_callT [_] rfl rfl rfl (.inr rfl) (ih x (d + below tk i) q _ (m + sizes (ts.drop (i + 1))) (by have := size_mem hx; omega) (Nds_mem h2.2.2.2.2.1 hx) (by have := below_le tk i; omega) (by have := below_le tk i; omega) (by rw [drop_at hx, sizes] at hJ; rw [Nat.add_assoc, Nat.add_comm (sizes _)]; exact hJ) hK) (aw (we rfl) (aw (we rfl) (aw (we rfl) (aw (we rfl) (aw (we rfl) (aw0)))))) ?_ (fun _ _ h => h.elim)
            rintro _ _ ⟨rfl, T1, hT1, rfl⟩
            refine al_step rfl rfl (aop_not rfl) ?_
            refine al_end rfl ?_
            refine awp_cond rfl (fun c4 => ?_) (fun c4 => ?_)
            · (try simp only [sd, se] at c4)
              refine awp_seq ?_
              refine awp_region ?_
              refine al_step rfl rfl (aop_assign rfl) ?_
              refine al_end rfl ?_
              refine awp_ret ?_
              refine ⟨rfl, _, _, ⟨_, _, rfl, rfl, rfl⟩, (sublT [1, 2, 3] [_, _, _, _] rfl), ?_⟩
              rw [visitW_go (by assumption), ← hC, visitsW_stop hx c4]
              rw [c4] at hT1
              exact ⟨rfl, _, hT1, rfl⟩
            · (try simp only [sd, se] at c4)
              rw [c4] at hT1
              refine awp_skip ?_
              refine awp_region ?_
              refine al_step rfl rfl (aop_add rfl rfl (by omega) (by omega)) ?_
              refine al_step rfl rfl (aop_move rfl) ?_
              refine al_end rfl ?_
              refine ⟨⟨i + 1, (visitW st x (d + below tk i) q).1, T1⟩, (by first | omega | (simp only; omega)), ⟨by omega, ⟨by rw [← hC]; exact (visitsW_go hx (by assumption)).symm, by rw [drop_at hx, sizes] at hJ; exact visitW_inv hI x _ _ _ (by rw [Nat.add_assoc, Nat.add_comm (sizes _)]; exact hJ) (by assumption), by assumption⟩⟩, le_mkW ⟨we rfl, we rfl, we rfl, we rfl, we rfl, we rfl, trivial⟩ (leT [1, 2, 3] [_, _, _, _] (l' := [_, _, _]) rfl (wl (oe rfl) (wl (oe rfl) (wl (oe rfl) (wl0)))))⟩
        · (try simp only [sd, se] at c2)
          refine awp_exit ?_
          refine awp_seq ?_
          refine awp_region ?_
          refine al_step rfl rfl (aop_assign rfl) ?_
          refine al_end rfl ?_
          refine awp_ret ?_
          refine ⟨rfl, _, _, ⟨_, _, rfl, rfl, rfl⟩, (sublT [0, 1, 2] [_, _, _] rfl), ?_⟩
          rw [visitW_go (by assumption), ← hC, show i = ts.length by omega, List.drop_length]
          exact ⟨rfl, _, hK, rfl⟩

theorem uses_c : Fun Tryz.prog 73 [] (.agg kindsC) := by
  refine acalls_of_awp Tryz.func73 rfl en73 (n := 15) rfl rfl ?_
  refine awp_seq ?_
  refine awp_region ?_
  refine al_new rfl rfl (aop_alloc zr113 rfl) fun b0 => ?_
  refine al_end rfl ?_
  refine awp_seq ?_
  refine awp_region ?_
  refine al_step rfl rfl (aop_build fd112 zr112 rfl) ?_
  refine al_step rfl rfl (aop_build fd112 zr112 rfl) ?_
  refine al_step rfl rfl (aop_build fd112 zr112 rfl) ?_
  refine al_step rfl rfl (aop_build fd112 zr112 rfl) ?_
  refine al_step rfl rfl (aop_build fd112 zr112 rfl) ?_
  refine al_step rfl rfl (aop_build fd112 zr112 rfl) ?_
  refine al_step rfl rfl (aop_build fd112 zr112 rfl) ?_
  refine al_step rfl rfl (aop_build fd112 zr112 rfl) ?_
  refine al_step rfl rfl (aop_build fd112 zr112 rfl) ?_
  refine al_step rfl rfl (aop_build fd112 zr112 rfl) ?_
  refine al_step rfl rfl (aop_build fd112 zr112 rfl) ?_
  refine al_step rfl rfl (aop_build fd112 zr112 rfl) ?_
  refine al_step rfl rfl (aop_build fd112 zr112 rfl) ?_
  refine al_step rfl rfl (aop_build_arr2 ua113 ty112 zr113 rfl) ?_
  refine al_step rfl rfl (aop_store_box (i := 0) ty113 rfl rfl rfl rfl rfl rfl) ?_
  refine al_end rfl ?_
  refine awp_ret ?_
  refine ⟨rfl, _, _, ⟨_, _, rfl, (resv_row (i := 0) ty113 rfl rfl rfl), rfl⟩, (List.nil_sublist _), ?_⟩
  all_goals exact ⟨rfl, rfl⟩

theorem nodesP_c : ∀ (t : Tm), ACalls Tryz.prog 54 [.agg ((encT t).map .p)] [] (fun r H' => ∃ b, r = .val (.fn (.func 72) [] [.ptr b 0]) ∧ H' = [.box b ((encT t).map .p)]) := by
  intro t
  refine acalls_of_awp Tryz.func54 rfl en54 (n := 4) rfl rfl ?_
  refine awp_seq ?_
  refine awp_region ?_
  refine al_new rfl rfl (aop_box rfl) fun b1 => ?_
  refine al_step rfl rfl (aop_assign rfl) ?_
  refine al_end rfl ?_
  refine awp_seq ?_
  refine awp_region ?_
  refine al_step rfl rfl (aop_makeFunc rfl rfl) ?_
  refine al_step rfl rfl (aop_assign rfl) ?_
  refine al_end rfl ?_
  refine awp_ret ?_
  refine ⟨rfl, _, _, ⟨_, _, rfl, rfl, rfl⟩, (subl (is := [0]) rfl), ?_⟩
  exact ⟨_, rfl, rfl⟩

theorem nodes1_c : ∀ {σ : Type} (st : σ → Int → Tm → σ × Bool) (Inv : Nat → σ → Prop) (HP : Bool → σ → List HObj → Prop) (l b1 : Nat) (hI : ∀ m s d t, Inv (m + 1) s → Inv m (st s d t).1) (hy : ∀ m s d t T, Nd t → Inv (m + 1) s → HP true s T → AYield Tryz.prog l [.p (I d), TV t] T (retP (.p (.bool (st s d t).2)) (HP (st s d t).2 (st s d t).1))) (t : Tm) (s : σ) (T0 : List HObj) (m : Nat), Nd t → size t < 4611686018427387904 → Inv (m + size t) s → HP true s T0 → ACalls Tryz.prog 72 [.fn (.yield l) [] [], .ptr b1 0] (.box b1 ((encT t).map .p) :: T0) (retP (.tup []) (fun H => ∃ T, HP (visitW st t 0 s).2 (visitW st t 0 s).1 T ∧ H = .box b1 ((encT t).map .p) :: T)) := by
  intro σ st Inv HP l b1 hI hy t s T0 m h1 h2 h3 h4
  refine acalls_of_awp Tryz.func72 rfl en72 (n := 10) rfl rfl ?_
  refine awp_seq ?_
  refine awp_region ?_
  refine al_new rfl rfl (aop_box rfl) fun b2 => ?_
  refine al_end rfl ?_
  refine awp_seq ?_
  refine awp_region ?_
  refine al_step rfl rfl (aop_fun rfl rfl (uses_c ) rfl) ?_
  refine al_new rfl rfl (aop_alloc zr113 rfl) fun b3 => ?_
  refine al_step rfl rfl (aop_store_box (i := 0) ty113 rfl rfl rfl rfl rfl rfl) ?_
  refine al_end rfl ?_
  refine awp_seq ?_
  refine awp_region ?_
  refine al_new rfl rfl (aop_alloc zr115 rfl) fun b4 => ?_
  refine al_end rfl ?_
  refine awp_seq ?_
  refine awp_region ?_
  refine al_step rfl rfl (aop_makeFunc rfl rfl) ?_
  refine al_step rfl rfl (aop_store_box (i := 0) ty115 rfl rfl rfl rfl rfl rfl) ?_
  refine al_end rfl ?_
  refine awp_region ?_
  refine al_step rfl rfl (aop_load_box1 (i := 0) ty115 rfl rfl rfl) ?_
  refine al_step rfl rfl (aop_load_box (i := 3) ty26 rfl rfl (by simp [encT_len])) ?_
  refine al_permH ((List.reverse_perm [_, _, _, _]).symm.append_right _) ?_
  refine al_callT [_] rfl rfl rfl (.inr rfl) (visit_c st Inv HP l b2 b3 b4 hI hy _ t 0 s T0 m (Nat.le_refl _) h1 (by omega) (by omega) h3 h4) (aw (we rfl) (aw (we rfl) (aw (we rfl) (aw (we rfl) (aw (we rfl) (aw0)))))) ?_ (fun _ _ h => h.elim)
  rintro _ _ ⟨rfl, T, hT, rfl⟩
  refine al_end rfl ?_
  refine ⟨rfl, _, _, rfl, (sublT [0] [_, _, _, _] rfl), ?_⟩
  exact ⟨rfl, _, hT, rfl⟩

end Go.Proofs.YtgfecpjmbgcobaaGreat
/- Contracts of functions of the program. -/
namespace Go.Proofs.YtgfecpjmbgcobaaGreat
open Go.Abs Go.Eu
set_option linter.unusedVariables false
set_option linter.unusedSimpArgs false
set_option maxRecDepth 100000
theorem sizeP_c : ∀ (t : Tm), (Nd t) → (size t < 1152921504606846976) → Fun Tryz.prog 50 [.agg ((encT t).map .p)] (.p (I (size t : Nat))) := by
  intro t h1 h2
  refine acalls_of_awpD Tryz.func50 rfl en50 (n := 11) rfl rfl ?_
  refine awp_seq ?_
  refine awp_region ?_
  refine al_new rfl rfl (aop_box rfl) fun b1 => ?_
  refine al_step rfl rfl (aop_assign rfl) ?_
  refine al_end rfl ?_
  refine awp_seq ?_
  refine awp_region ?_
  refine al_new rfl rfl (aop_alloc zr3 rfl) fun b3 => ?_
  refine al_step rfl rfl (aop_store_box (i := 0) ty3 rfl rfl rfl rfl rfl rfl) ?_
  refine al_end rfl ?_
  refine awp_seq ?_
  refine awp_seq ?_
  refine awp_region ?_
  refine al_step rfl rfl (aop_load_box (i := 1) ty26 rfl rfl (by simp [encT_len])) ?_
  refine al_callN [] rfl rfl rfl (.inl ⟨rfl, rfl, rfl⟩) (nodesP_c t) rfl (by simp) (aw (we rfl) aw0) ?_ (fun _ _ ⟨_, h, _⟩ => by cases h)
  rintro _ _ ⟨bn, h, rfl⟩
  cases h
  refine al_end rfl ?_
  refine awp_block ?_
  refine awp_rangeL (.inr rfl) fun dd l L hL => ?_
  refine ⟨_, _, getAll_perm (is := [2, 0, 3]) (by decide) ⟨_, _, rfl, rfl, ⟨_, _, rfl, rfl, ⟨_, _, rfl, rfl, rfl⟩⟩⟩, ?_⟩
  have hy : ∀ (m : Nat) (s : Int) (d : Int) (t : Tm) (T : List HObj), Nd t → (fun _ _ => True) (m + 1) s → (fun (_ : Bool) (s : Int) (T : List HObj) => T = [.loop l L, .box b3 [.p (I s)]]) true s T → AYield Tryz.prog l [.p (I d), TV t] T (retP (.p (.bool (szSt s d t).2)) ((fun (_ : Bool) (s : Int) (T : List HObj) => T = [.loop l L, .box b3 [.p (I s)]]) (szSt s d t).2 (szSt s d t).1)) := by
    rintro m s d tt T hnd hinv rfl
    subst hL
    refine ayield_of (i := 0) rfl rfl rfl rfl ?_
    refine awp_skip ?_
    refine ⟨rfl, 0, rfl, ?_⟩
    refine awp_block ?_
    refine awp_region ?_
    refine al_step rfl rfl (aop_load_box1 (i := 1) ty3 rfl rfl rfl) ?_
    refine al_step rfl rfl (aop_addw rfl rfl) ?_
    refine al_step rfl rfl (aop_store_box (i := 1) ty3 rfl rfl rfl rfl rfl rfl) ?_
    refine al_end rfl ?_
    refine ⟨0, _, rfl, subl (is := [0, 1]) rfl, ?_⟩
    exact ⟨rfl, rfl⟩
  refine (nodes1_c szSt (fun _ _ => True) (fun (_ : Bool) (s : Int) (T : List HObj) => T = [.loop l L, .box b3 [.p (I s)]]) l bn (fun _ _ _ _ _ => trivial) hy t 0 _ 0 (h1) (by omega) (trivial) rfl).mono ?_
  rintro (v | v) H' hR
  rotate_left
  · exact hR.elim
  obtain ⟨rfl, _, rfl, rfl⟩ := hR
  subst hL
  refine ⟨1, _, rfl, (by simp), ?_⟩
  refine awp_seq ?_
  refine awp_region ?_
  refine al_step rfl rfl (aop_load_box1 (i := 1) ty3 rfl rfl rfl) ?_
  refine al_step rfl rfl (aop_assign rfl) ?_
  refine al_end rfl ?_
  refine awp_ret ?_
  refine ⟨2, rfl, _, _, ⟨_, _, rfl, rfl, rfl⟩, (List.nil_sublist _), ?_⟩
  all_goals exact ⟨pI (by rw [visit_sz 4611686018427387904 (Int.le_refl _) t 0 0 (by omega) (by omega)]; simp), rfl⟩

theorem metasP_c : ∀ (t : Tm), (Nd t) → (Wt t) → (size t < 1099511627776) → Fun Tryz.prog 30 [.agg ((encT t).map .p)] (.p (.lst (List.map encI (metasW [] t)))) := by
  intro t h1 h2 h3
  refine acalls_of_awpD Tryz.func30 rfl en30 (n := 31) rfl rfl ?_
  refine awp_seq ?_
  refine awp_region ?_
  refine al_new rfl rfl (aop_box rfl) fun b1 => ?_
  refine al_step rfl rfl (aop_assign rfl) ?_
  refine al_end rfl ?_
  refine awp_seq ?_
  refine awp_region ?_
  refine al_map rfl rfl aop_makeMap fun m7 => ?_
  refine al_new rfl rfl (aop_alloc zr87 rfl) fun b3 => ?_
  refine al_step rfl rfl (aop_store_box (i := 0) ty87 rfl rfl rfl rfl rfl rfl) ?_
  refine al_end rfl ?_
  refine awp_seq ?_
  refine awp_region ?_
  refine al_new rfl rfl (aop_alloc zr59 rfl) fun b4 => ?_
  refine al_end rfl ?_
  refine awp_seq ?_
  refine awp_seq ?_
  refine awp_region ?_
  refine al_ghost (ghost_obj (i := 0) rfl (obw (aw (weak_nil0) (aw0)))) ?_
  refine al_ghost (ghost_vec0 (sz := 1)) ?_
  refine al_step rfl rfl (aop_load_box (i := 4) ty26 rfl rfl (by simp [encT_len])) ?_
  refine al_callN [] rfl rfl rfl (.inl ⟨rfl, rfl, rfl⟩) (nodesP_c t) rfl (by simp) (aw (we rfl) aw0) ?_ (fun _ _ ⟨_, h, _⟩ => by cases h)
  rintro _ _ ⟨bn, h, rfl⟩
  cases h
  refine al_end rfl ?_
  refine awp_block ?_
  refine awp_rangeL (.inr rfl) fun dd l L hL => ?_
  refine ⟨_, _, getAll_perm (is := [2, 0, 5, 6, 4, 3]) (by decide) ⟨_, _, rfl, rfl, ⟨_, _, rfl, rfl, ⟨_, _, rfl, rfl, ⟨_, _, rfl, rfl, ⟨_, _, rfl, rfl, ⟨_, _, rfl, rfl, rfl⟩⟩⟩⟩⟩⟩, ?_⟩
  have hy : ∀ (m : Nat) (s : List Int) (d : Int) (t : Tm) (T : List HObj), Nd t → (fun m s => s.length + m < 1099511627776) (m + 1) s → (fun (_ : Bool) (s : List Int) (T : List HObj) => ∃ o cp, T = [.loop l L, .box b3 [.map m7], .map m7 (mapE (mtE s)), .box b4 [.vs o (List.map encI s).length cp], .vec o 1 (List.map encI s) cp]) true s T → AYield Tryz.prog l [.p (I d), TV t] T (retP (.p (.bool (mtSt s d t).2)) ((fun (_ : Bool) (s : List Int) (T : List HObj) => ∃ o cp, T = [.loop l L, .box b3 [.map m7], .map m7 (mapE (mtE s)), .box b4 [.vs o (List.map encI s).length cp], .vec o 1 (List.map encI s) cp]) (mtSt s d t).2 (mtSt s d t).1)) := by
    rintro m s d tt T hnd hinv ⟨o, cp, rfl⟩
    subst hL
    refine ayield_of (i := 0) rfl rfl rfl rfl ?_
    refine awp_region ?_
    refine al_new rfl rfl (aop_alloc zr26 rfl) fun b6 => ?_
    refine al_step rfl rfl (aop_store_whole (i := 0) ty26 rfl rfl rfl (by simp [encT_len]) (by first | rfl | simp [encT_len]) (one_Tm _)) ?_
    refine al_end rfl ?_
    refine ⟨rfl, 1, rfl, ?_⟩
    refine awp_block ?_
    refine awp_seq ?_
    obtain ⟨ttk, tti, ttn, ttl, tts⟩ := tt
    refine awp_meetR [3, 4, 6] 21 (fun y => y = .p (.bool (((ttk : Int) == (12 : Int)) && (!(inB s tti))))) ?_ ?_
    · refine awp_region ?_
      refine al_step rfl rfl (aop_field_ptr fd26 rfl rfl) ?_
      refine al_step rfl rfl (aop_load_box1 (i := 0) ty3 rfl rfl rfl) ?_
      refine al_step rfl rfl (aop_cmp rfl rfl rfl) ?_
      refine al_step rfl rfl (aop_move rfl) ?_
      refine al_case 15 rfl (fun g => ?_) (fun g => ?_)
      · (try simp only [sd, se] at g)
        refine al_stepg rfl rfl rfl rfl (aop_load_box1 (i := 2) ty87 rfl rfl rfl) ?_
        refine al_stepg rfl rfl rfl rfl (aop_field_ptr fd26 rfl rfl) ?_
        refine al_stepg rfl rfl rfl rfl (aop_load_box1 (i := 0) ty3 rfl rfl rfl) ?_
        refine al_stepg rfl rfl rfl rfl (aop_lookup2 (i := 3) mo87 zr4 rep_false rfl rfl rfl (mt_get _ _)) ?_
        refine al_stepg rfl rfl rfl rfl (aop_not rfl) ?_
        refine al_step rfl rfl (aop_pick rfl rfl) ?_
        refine al_end rfl ?_
        exact ⟨rfl, rfl, (by first | exact List.Sublist.refl _ | exact List.sublist_cons_self _ _), (by first | rfl | (refine pB ?_; simp_all; done) | (refine pB ?_; simp_all <;> (intros; omega))), ⟨rfl, rfl, rfl, trivial⟩⟩
      · (try simp only [sd, se] at g)
        refine al_pass rfl rfl rfl rfl rfl ?_
        refine al_pass rfl rfl rfl rfl rfl ?_
        refine al_pass rfl rfl rfl rfl rfl ?_
        refine al_pass rfl rfl rfl rfl rfl ?_
        refine al_pass rfl rfl rfl rfl rfl ?_
        refine al_step rfl rfl (aop_pick rfl rfl) ?_
        refine al_end rfl ?_
        exact ⟨rfl, rfl, (by first | exact List.Sublist.refl _ | exact List.sublist_cons_self _ _), (by first | rfl | (refine pB ?_; simp_all; done) | (refine pB ?_; simp_all <;> (intros; omega))), ⟨rfl, rfl, rfl, trivial⟩⟩
    rintro _ rfl
    refine awp_cond rfl (fun c => ?_) (fun c => ?_)
    · (try simp only [sd, se] at c)
      refine awp_seq ?_
      refine awp_region ?_
      refine al_step rfl rfl (aop_load_box1 (i := 2) ty87 rfl rfl rfl) ?_
      refine al_step rfl rfl (aop_field_ptr fd26 rfl rfl) ?_
      refine al_step rfl rfl (aop_load_box1 (i := 0) ty3 rfl rfl rfl) ?_
      refine al_step rfl rfl (aop_mapUpdate (i := 3) mo87 rfl rfl rfl rfl) ?_
      refine al_end rfl ?_
      refine awp_region ?_
      refine al_step rfl rfl (aop_load_box1 (i := 4) ty59 rfl rfl rfl) ?_
      refine al_step rfl rfl (aop_field_ptr fd26 rfl rfl) ?_
      refine al_step rfl rfl (aop_load_box1 (i := 0) ty3 rfl rfl rfl) ?_
      refine al_step rfl rfl (aop_buildSlice el59 zr3 rfl rfl rfl rfl rfl) ?_
      refine al_app rfl rfl (aop_append2 (i := 5) (rows' := List.map encI [tti]) el59 el59 zr3 rfl rfl rfl rfl rfl rfl (solid_Int _) (by simp only [encTs_len, List.length_map, List.length_cons, List.length_nil, List.nil_append, List.length_append]; omega) (vn_map (f := encI) s [tti])) fun o1 cp1 => ?_
      refine al_step rfl rfl (aop_store_box (i := 4) ty59 rfl rfl rfl rfl rfl rfl) ?_
      refine al_end rfl ?_
      refine ⟨1, _, rfl, subl (is := [1, 2, 3, 4, 5]) rfl, ?_⟩
      rw [mtSt_new c.1 (by simpa [inB] using c.2)]
      exact ⟨rfl, _, _, by rw [show ((s ++ [tti], true) : List Int × Bool).1 = s ++ [tti] from rfl, ← mt_set (by simpa [inB] using c.2)]; rfl⟩
    · (try simp only [sd, se] at c)
      refine awp_skip ?_
      refine ⟨1, _, rfl, subl (is := [1, 2, 3, 4, 5]) rfl, ?_⟩
      rw [mtSt_old (by simpa [inB] using c)]
      exact ⟨rfl, _, _, rfl⟩
  refine (nodes1_c mtSt (fun m s => s.length + m < 1099511627776) (fun (_ : Bool) (s : List Int) (T : List HObj) => ∃ o cp, T = [.loop l L, .box b3 [.map m7], .map m7 (mapE (mtE s)), .box b4 [.vs o (List.map encI s).length cp], .vec o 1 (List.map encI s) cp]) l bn (fun m s d t h => mtSt_len m s d t h) hy t [] _ 0 (h1) (by omega) (by simpa using h3) ⟨_, _, rfl⟩).mono ?_
  rintro (v | v) H' hR
  rotate_left
  · exact hR.elim
  obtain ⟨rfl, _, ⟨o, cp, rfl⟩, rfl⟩ := hR
  subst hL
  refine ⟨1, _, rfl, (by simp), ?_⟩
  refine awp_seq ?_
  refine awp_region ?_
  refine al_step rfl rfl (aop_load_box1 (i := 3) ty59 rfl rfl rfl) ?_
  refine al_step rfl rfl (aop_assign rfl) ?_
  refine al_end rfl ?_
  refine awp_ghost (ghost_freeze_cell (i := 4) (j := 3) (q := 0) [2, 30] rfl rfl rfl (memall ⟨rfl, rfl, trivial⟩)) ?_
  refine awp_ret ?_
  refine ⟨4, rfl, _, _, ⟨_, _, rfl, rfl, rfl⟩, (List.nil_sublist _), ?_⟩
  all_goals exact ⟨by show (.p (.lst (List.map encI ((visitW mtSt t 0 []).1))) : AV) = _; rw [visit_mt t 0 [] h2], rfl⟩

theorem depthP_c : ∀ (n : Nat) (t : Tm), (size t ≤ n) → (Nd t) → Fun Tryz.prog 51 [.agg ((encT t).map .p)] (.p (I (depthW t))) := by
  intro n
  induction n with
  | zero => intro t h; cases t; simp [size] at h
  | succ n ih =>
    intro t h1 h2
    obtain ⟨tk, ti, tn, tl, ts⟩ := t
    simp only [size] at h1
    simp only [Nd, big] at h2
    refine acalls_of_awp Tryz.func51 rfl en51 (n := 20) rfl rfl ?_
    refine awp_seq ?_
    refine awp_region ?_
    refine al_new rfl rfl (aop_box rfl) fun b1 => ?_
    refine al_step rfl rfl (aop_assign rfl) ?_
    refine al_end rfl ?_
    refine awp_seq ?_
    refine awp_region ?_
    refine al_step rfl rfl (aop_assign rfl) ?_
    refine al_end rfl ?_
    refine awp_seq ?_
    refine awp_seq ?_
    refine awp_region ?_
    refine al_step rfl rfl (aop_field_ptr fd26 rfl rfl) ?_
    refine al_step rfl rfl (aop_load_box1 (i := 0) ty24 rfl rfl rfl) ?_
    refine al_step rfl rfl (aop_lenE el24 rfl (encTs_len _)) ?_
    refine al_step rfl rfl (aop_move rfl) ?_
    refine al_end rfl ?_
    refine awp_block ?_
    refine awp_while (α := Nat × Int) (fun (i, m) => ⟨20, mk [(3, .p (I m)), (7, .p (.lst (encTs ts))), (8, .p (I (ts.length : Nat))), (9, .p (I (i : Int)))], [], []⟩) (fun (i, m) => ts.length - i) (fun (i, m) => i ≤ ts.length ∧ (depthsW m (ts.drop i) = depthsW 0 ts)) ⟨0, 0⟩ (by simp) ?_ ?_
    · exact le_mkW ⟨we rfl, we rfl, we rfl, we rfl, trivial⟩ (leH (is := []) rfl (wl0))
    rintro ⟨i, m⟩ hC
    try simp only at hC
    obtain ⟨hi, hC⟩ := hC
    refine awp_seq ?_
    refine awp_region ?_
    refine al_step rfl rfl (aop_cmp rfl rfl rfl) ?_
    refine al_end rfl ?_
    refine awp_seq ?_
    refine awp_cond rfl (fun c => ?_) (fun c => ?_)
    · (try simp only [sd, se] at c)
      refine awp_skip ?_
      refine awp_seq ?_
      refine awp_block ?_
      refine awp_seq ?_
      refine awp_region ?_
      obtain ⟨x, hx⟩ := getElem?_of_lt (l := ts) (i := i) (by omega)
      refine al_step rfl rfl (aop_index_lst el24 rfl rfl (by omega) (encTs_get hx) (encT_len _)) ?_
      refine al_step rfl rfl (aop_load_ref ty26 rfl (encT_len _)) ?_
      refine al_new rfl rfl (aop_alloc zr26 rfl) fun b5 => ?_
      refine al_step rfl rfl (aop_store_whole (i := 0) ty26 rfl rfl rfl (by simp [encT_len]) (by first | rfl | simp [encT_len]) (one_Tm _)) ?_
      refine al_end rfl ?_
      refine awp_region ?_
      refine al_step rfl rfl (aop_move rfl) ?_
      refine al_step rfl rfl (aop_load_box (i := 0) ty26 rfl rfl (by simp [encT_len])) ?_
      refine al_step rfl rfl (aop_fun rfl rfl (ih x (by have := size_mem hx; omega) (Nds_mem h2.2.2.2.2.1 hx)) rfl) ?_
      refine al_step rfl rfl (aop_max rfl rfl) ?_
      refine al_step rfl rfl (aop_assign rfl) ?_
      refine al_end rfl ?_
      refine awp_region ?_
      refine al_step rfl rfl (aop_add rfl rfl (by omega) (by omega)) ?_
      refine al_step rfl rfl (aop_move rfl) ?_
      refine al_end rfl ?_
      refine ⟨⟨i + 1, max m (depthW x)⟩, (by first | omega | (simp only; omega)), ⟨by omega, by rw [← hC, drop_at hx]; rfl⟩, le_mkW ⟨we rfl, we rfl, we rfl, we rfl, trivial⟩ (leH (is := []) rfl (wl0))⟩
    · (try simp only [sd, se] at c)
      refine awp_exit ?_
      refine awp_seq ?_
      refine awp_region ?_
      refine al_step rfl rfl (aop_move rfl) ?_
      refine al_step rfl rfl (aop_addw rfl rfl) ?_
      refine al_step rfl rfl (aop_assign rfl) ?_
      refine al_end rfl ?_
      refine awp_ret ?_
      refine ⟨rfl, _, _, ⟨_, _, rfl, rfl, rfl⟩, (List.nil_sublist _), ?_⟩
      all_goals exact ⟨pI (by rw [show depthW (.mk tk ti tn tl ts) = wr (depthsW 0 ts + 1) from rfl, ← hC, show i = ts.length by omega, List.drop_length]; rfl), rfl⟩

end Go.Proofs.YtgfecpjmbgcobaaGreat
/- Contracts of functions of the program. -/
namespace Go.Proofs.YtgfecpjmbgcobaaGreat
open Go.Abs Go.Eu
set_option linter.unusedVariables false
set_option linter.unusedSimpArgs false
set_option maxRecDepth 100000
theorem applyP_c : ∀ (f : Tm) (xs : List Tm), (xs.length < big) → Fun Tryz.prog 52 [.agg ((encT f).map .p), .p (.lst (encTs xs))] (.agg ((encT (apply f xs)).map .p)) := by
  intro f xs h1
  simp only [big] at h1
  refine acalls_of_awp Tryz.func52 rfl en52 (n := 19) rfl rfl ?_
  refine awp_seq ?_
  refine awp_region ?_
  refine al_new rfl rfl (aop_box rfl) fun b2 => ?_
  refine al_new rfl rfl (aop_alloc zr26 rfl) fun b4 => ?_
  refine al_end rfl ?_
  refine awp_seq ?_
  refine awp_seq ?_
  refine awp_region ?_
  refine al_step rfl rfl (aop_move rfl) ?_
  refine al_step rfl rfl (aop_lenE el24 rfl (encTs_len _)) ?_
  refine al_step rfl rfl (aop_move rfl) ?_
  refine al_end rfl ?_
  refine awp_block ?_
  refine awp_while (α := Nat) (fun i => ⟨19, mk [(2, .ptr b2 0), (4, .ptr b4 0), (7, .p (.lst (encTs xs))), (8, .p (I (xs.length : Nat))), (9, .p (I (i : Int)))], [.box b4 [.p (I 0), .p (I 0), .p (.str ⟨#[]⟩), .p (.nils), .p (.nils)], .box b2 ((encT (apply f (xs.take i))).map .p)], []⟩) (fun i => xs.length - i) (fun i => i ≤ xs.length) 0 (by first | trivial | omega | simp | (simp; omega)) ?_ ?_
  · exact le_mkW ⟨we rfl, we rfl, we rfl, we rfl, we rfl, trivial⟩ (leH (is := [0, 1]) rfl (wl (oe rfl) (wl (oe rfl) (wl0))))
  rintro i hC
  try simp only at hC
  have hi := hC
  refine awp_seq ?_
  refine awp_region ?_
  refine al_step rfl rfl (aop_cmp rfl rfl rfl) ?_
  refine al_end rfl ?_
  refine awp_seq ?_
  refine awp_cond rfl (fun c => ?_) (fun c => ?_)
  · (try simp only [sd, se] at c)
    refine awp_skip ?_
    refine awp_seq ?_
    refine awp_block ?_
    refine awp_seq ?_
    refine awp_region ?_
    obtain ⟨x, hx⟩ := getElem?_of_lt (l := xs) (i := i) (by omega)
    refine al_step rfl rfl (aop_index_lst el24 rfl rfl (by omega) (encTs_get hx) (encT_len _)) ?_
    refine al_step rfl rfl (aop_load_ref ty26 rfl (encT_len _)) ?_
    refine al_new rfl rfl (aop_alloc zr26 rfl) fun b6 => ?_
    refine al_step rfl rfl (aop_store_whole (i := 0) ty26 rfl rfl rfl (by simp [encT_len]) (by first | rfl | simp [encT_len]) (one_Tm _)) ?_
    refine al_end rfl ?_
    refine awp_region ?_
    refine al_step rfl rfl (aop_load_box (i := 2) ty26 rfl rfl (by simp [encT_len])) ?_
    refine al_step rfl rfl (aop_load_box (i := 0) ty26 rfl rfl (by simp [encT_len])) ?_
    generalize hz : (apply f (xs.take i)) = z
    obtain ⟨zk, zi, zn, zl, zs⟩ := z
    obtain ⟨xk, xi, xn, xl, xs1⟩ := x
    refine al_step rfl rfl (aop_buildSlice el24 zr26 rfl rfl rfl rfl rfl) ?_
    refine al_step rfl rfl (aop_build fd26 zr26 rfl) ?_
    refine al_step rfl rfl (aop_store_box (i := 2) ty26 rfl rfl rfl rfl rfl rfl) ?_
    refine al_end rfl ?_
    refine awp_region ?_
    refine al_step rfl rfl (aop_add rfl rfl (by omega) (by omega)) ?_
    refine al_step rfl rfl (aop_move rfl) ?_
    refine al_end rfl ?_
    refine ⟨(i + 1), (by first | omega | (simp only; omega)), by omega, le_mkW ⟨we rfl, we rfl, we rfl, we rfl, we rfl, trivial⟩ (leH (is := [1, 2]) rfl (wl (oe rfl) (wl (on (by rw [apply_snoc hx, hz]; rfl)) (wl0))))⟩
  · (try simp only [sd, se] at c)
    refine awp_exit ?_
    refine awp_seq ?_
    refine awp_region ?_
    refine al_step rfl rfl (aop_load_box (i := 1) ty26 rfl rfl (by simp [encT_len])) ?_
    refine al_step rfl rfl (aop_store_whole (i := 0) ty26 rfl rfl rfl (by simp [encT_len]) (by first | rfl | simp [encT_len]) (one_Tm _)) ?_
    refine al_end rfl ?_
    refine awp_ret ?_
    refine ⟨rfl, _, _, ⟨_, _, rfl, (resv_row (i := 0) ty26 rfl rfl (by simp [encT_len])), rfl⟩, (List.nil_sublist _), ?_⟩
    all_goals exact ⟨by show (.agg ((encT (apply f (xs.take i))).map .p) : AV) = _; rw [show i = xs.length by omega, List.take_length], rfl⟩

theorem revT_c : ∀ (xs : List Tm) (o0 : Option Nat) (c0 : Nat), (xs.length < big) → ACalls Tryz.prog 70 [.vs o0 (encTs xs).length c0] [.vec o0 5 (encTs xs) c0] (retR (.tup []) [.vec o0 5 (encTs xs.reverse) c0]) := by
  intro xs o0 c0 h1
  simp only [big] at h1
  refine acalls_of_awp Tryz.func70 rfl en70 (n := 28) rfl rfl ?_
  refine awp_seq ?_
  refine awp_region ?_
  refine al_step rfl rfl (aop_move rfl) ?_
  refine al_step rfl rfl (aop_lenV el24 rfl (encTs_len _)) ?_
  refine al_step rfl rfl (aop_sub rfl rfl (by omega) (by omega)) ?_
  refine al_step rfl rfl (aop_assign rfl) ?_
  refine al_step rfl rfl (aop_assign rfl) ?_
  refine al_end rfl ?_
  refine awp_block ?_
  refine awp_while (α := Nat × List Tm × Option Nat × Nat) (fun (i, ys, o, cp) => ⟨28, mk [(0, .vs o (encTs ys).length cp), (2, .p (I (i : Int))), (3, .p (I ((xs.length : Int) - 1 - (i : Int))))], [.vec o 5 (encTs ys) cp], []⟩) (fun (i, ys, o, cp) => xs.length - i) (fun (i, ys, o, cp) => i ≤ xs.length ∧ revAt xs ys i ∧ o = o0 ∧ cp = c0) ⟨0, xs, o0, c0⟩ (⟨by omega, revAt_zero xs, rfl, rfl⟩) ?_ ?_
  · exact le_mkW ⟨we rfl, we rfl, we (pI (by omega)), trivial⟩ (leH (is := [0]) rfl (wl (oe rfl) (wl0)))
  rintro ⟨i, ys, o, cp⟩ hC
  try simp only at hC
  obtain ⟨hi, hR, ho, hcp⟩ := hC
  have hyl := hR.1
  have hjn : ((xs.length : Int) - 1 - (i : Int)).toNat = xs.length - 1 - i := by omega
  refine awp_seq ?_
  refine awp_seq ?_
  refine awp_region ?_
  refine al_step rfl rfl (aop_move rfl) ?_
  refine al_step rfl rfl (aop_move rfl) ?_
  refine al_step rfl rfl (aop_cmp rfl rfl rfl) ?_
  refine al_end rfl ?_
  refine awp_cond rfl (fun c => ?_) (fun c => ?_)
  · (try simp only [sd, se] at c)
    refine awp_skip ?_
    refine awp_seq ?_
    refine awp_block ?_
    refine awp_some (i := 0) rfl (by simp [encTs_len]; omega) fun b hb => ?_
    subst hb
    refine awp_dr (fun k => false) mx0 ?_
    refine dr_free rfl rfl (fun _ => aop_move rfl) trivial ?_
    refine dr_free rfl rfl (fun _ => aop_move rfl) trivial ?_
    refine dr_free rfl rfl (fun _ => aop_move rfl) trivial ?_
    refine dr_free rfl rfl (fun _ => aop_move rfl) trivial ?_
    refine dr_free rfl rfl (fun _ => aop_move rfl) trivial ?_
    refine dr_free rfl rfl (fun _ => aop_move rfl) trivial ?_
    refine dr_free rfl rfl (fun _ => aop_index_vs el24 rfl rfl (by omega) (by simp only [encTs_len]; omega)) trivial ?_
    obtain ⟨y, hy⟩ := getElem?_of_lt (l := ys) (i := ((xs.length : Int) - 1 - (i : Int) : Int).toNat) (by omega)
    refine dr_read (j := 0) rfl rfl rfl (fun H i hi => aop_load_vec (i := i) ty26 rfl hi (encTs_get hy)) (by repeat' first | exact trivial | refine And.intro ?_ ?_ | ((refine Or.inr (And.intro ?_ ?_) <;> repeat (first | exact List.Mem.head _ | apply List.Mem.tail)); done) | exact Or.inl (by kernel_rfl)) trivial ?_
    refine dr_free rfl rfl (fun _ => aop_move rfl) trivial ?_
    refine dr_free rfl rfl (fun _ => aop_move rfl) trivial ?_
    refine dr_free rfl rfl (fun _ => aop_index_vs el24 rfl rfl (by omega) (by simp only [encTs_len]; omega)) trivial ?_
    obtain ⟨y1, hy1⟩ := getElem?_of_lt (l := ys) (i := i) (by omega)
    refine dr_read (j := 0) rfl rfl rfl (fun H i hi => aop_load_vec (i := i) ty26 rfl hi (encTs_get hy1)) (by repeat' first | exact trivial | refine And.intro ?_ ?_ | ((refine Or.inr (And.intro ?_ ?_) <;> repeat (first | exact List.Mem.head _ | apply List.Mem.tail)); done) | exact Or.inl (by kernel_rfl)) trivial ?_
    refine dr_free rfl rfl (fun _ => aop_index_vs el24 rfl rfl (by omega) (by simp only [encTs_len]; omega)) trivial ?_
    refine dr_eff rfl rfl (aop_store_vec2 (i := 0) (j := i) ty26 rfl rfl rfl (by simp only [encTs_len, List.length_map, List.length_set]; omega) rfl (pures_Tm _) (encT_len _) (one_Tm _) (vs_Tm ys i y)) (by repeat' first | exact trivial | refine And.intro ?_ ?_ | ((refine Or.inr (And.intro ?_ ?_) <;> repeat (first | exact List.Mem.head _ | apply List.Mem.tail)); done) | exact Or.inl (by kernel_rfl)) trivial ?_
    refine dr_free rfl rfl (fun _ => aop_index_vs el24 rfl rfl (by omega) (by simp only [encTs_len]; omega)) trivial ?_
    refine dr_eff rfl rfl (aop_store_vec2 (i := 0) (j := (((xs.length : Int) - 1 - (i : Int) : Int).toNat)) ty26 rfl rfl rfl (by simp only [encTs_len, List.length_map, List.length_set]; omega) rfl (pures_Tm _) (encT_len _) (one_Tm _) (vs_Tm ((ys).set i y) (((xs.length : Int) - 1 - (i : Int) : Int).toNat) y1)) (by repeat' first | exact trivial | refine And.intro ?_ ?_ | ((refine Or.inr (And.intro ?_ ?_) <;> repeat (first | exact List.Mem.head _ | apply List.Mem.tail)); done) | exact Or.inl (by kernel_rfl)) trivial ?_
    refine dr_end rfl (by kernel_rfl) ?_
    refine awp_region ?_
    refine al_step rfl rfl (aop_move rfl) ?_
    refine al_step rfl rfl (aop_add rfl rfl (by omega) (by omega)) ?_
    refine al_step rfl rfl (aop_move rfl) ?_
    refine al_step rfl rfl (aop_sub rfl rfl (by omega) (by omega)) ?_
    refine al_step rfl rfl (aop_assign rfl) ?_
    refine al_step rfl rfl (aop_assign rfl) ?_
    refine al_end rfl ?_
    refine ⟨⟨i + 1, (ys.set i y).set (xs.length - 1 - i) y1, (some b), cp⟩, (by first | omega | (simp only; omega)), ⟨by omega, revAt_succ hR (by omega) hy1 (hjn ▸ hy), ho, hcp⟩, le_mkW ⟨we (vsLen_Tm ys (by simp)), we rfl, we (pI (by omega)), trivial⟩ (leH (is := [0]) rfl (wl (ovE_Tm (((ys).set i y).set (((xs.length : Int) - 1 - (i : Int) : Int).toNat) y1) (by rw [hjn])) (wl0)))⟩
  · (try simp only [sd, se] at c)
    refine awp_exit ?_
    refine ⟨rfl, _, _, rfl, (subl (is := [0]) rfl), ?_⟩
    refine ⟨rfl, ?_⟩
    show ([.vec o 5 (encTs ys) cp] : List HObj) = _
    rw [revAt_done hR (by omega), ho, hcp]

theorem spineP_c : ∀ (t : Tm), (Nd t) → (size t < big) → Fun Tryz.prog 48 [.agg ((encT t).map .p)] (.tup [.agg ((encT ((spine t).1)).map .p), .p (.lst (encTs ((spine t).2)))]) := by
  intro t h1 h2
  simp only [big] at h2
  refine acalls_of_awp Tryz.func48 rfl en48 (n := 29) rfl rfl ?_
  refine awp_seq ?_
  refine awp_region ?_
  refine al_new rfl rfl (aop_box rfl) fun b1 => ?_
  refine al_new rfl rfl (aop_alloc zr26 rfl) fun b2 => ?_
  refine al_step rfl rfl (aop_assign rfl) ?_
  refine al_end rfl ?_
  refine awp_seq ?_
  refine awp_region ?_
  refine al_step rfl rfl (aop_assign rfl) ?_
  refine al_end rfl ?_
  refine awp_seq ?_
  refine awp_block ?_
  refine awp_ghost (ghost_own (t := 4) (sz := 5) rfl) ?_
  refine awp_while (α := Tm × List Tm × Option Nat × Nat) (fun (tt, ys, o, cp) => ⟨29, mk [(1, .ptr b1 0), (2, .ptr b2 0), (4, .vs o (encTs ys).length cp)], [.vec o 5 (encTs ys) cp, .box b2 [.p (I 0), .p (I 0), .p (.str ⟨#[]⟩), .p (.nils), .p (.nils)], .box b1 ((encT tt).map .p)], []⟩) (fun (tt, ys, o, cp) => size tt) (fun (tt, ys, o, cp) => spine t = ((spine tt).1, (spine tt).2 ++ ys.reverse) ∧ Nd tt ∧ size tt + ys.length ≤ size t) ⟨t, [], none, 0⟩ (⟨by simp, h1, by simp⟩) ?_ ?_
  · exact le_mkW ⟨we rfl, we rfl, we rfl, trivial⟩ (leH (is := [0, 1, 2]) rfl (wl (oe rfl) (wl (oe rfl) (wl (oe rfl) (wl0)))))
  rintro ⟨tt, ys, o, cp⟩ hC
  try simp only at hC
  obtain ⟨hS, hN, hL⟩ := hC
  refine awp_seq ?_
  refine awp_seq ?_
  obtain ⟨ttk, tti, ttn, ttl, tts⟩ := tt
  simp only [size] at hL
  refine awp_meetR [1, 2, 4] 13 (fun y => y = .p (.bool (((ttk : Int) == (4 : Int)) && (((tts.length : Nat) : Int) == (2 : Int))))) ?_ ?_
  · refine awp_region ?_
    refine al_step rfl rfl (aop_field_ptr fd26 rfl rfl) ?_
    refine al_step rfl rfl (aop_load_box1 (i := 2) ty3 rfl rfl rfl) ?_
    refine al_step rfl rfl (aop_cmp rfl rfl rfl) ?_
    refine al_step rfl rfl (aop_move rfl) ?_
    refine al_case 8 rfl (fun g => ?_) (fun g => ?_)
    · (try simp only [sd, se] at g)
      refine al_stepg rfl rfl rfl rfl (aop_field_ptr fd26 rfl rfl) ?_
      refine al_stepg rfl rfl rfl rfl (aop_load_box1 (i := 2) ty24 rfl rfl rfl) ?_
      refine al_stepg rfl rfl rfl rfl (aop_lenE el24 rfl (encTs_len _)) ?_
      refine al_stepg rfl rfl rfl rfl (aop_cmp rfl rfl rfl) ?_
      refine al_step rfl rfl (aop_pick rfl rfl) ?_
      refine al_end rfl ?_
      exact ⟨rfl, rfl, (by first | exact List.Sublist.refl _ | exact List.sublist_cons_self _ _), (by first | rfl | (refine pB ?_; simp_all; done) | (refine pB ?_; simp_all <;> (intros; omega))), ⟨rfl, rfl, rfl, trivial⟩⟩
    · (try simp only [sd, se] at g)
      refine al_pass rfl rfl rfl rfl rfl ?_
      refine al_pass rfl rfl rfl rfl rfl ?_
      refine al_pass rfl rfl rfl rfl rfl ?_
      refine al_pass rfl rfl rfl rfl rfl ?_
      refine al_step rfl rfl (aop_pick rfl rfl) ?_
      refine al_end rfl ?_
      exact ⟨rfl, rfl, (by first | exact List.Sublist.refl _ | exact List.sublist_cons_self _ _), (by first | rfl | (refine pB ?_; simp_all; done) | (refine pB ?_; simp_all <;> (intros; omega))), ⟨rfl, rfl, rfl, trivial⟩⟩
  rintro _ rfl
  refine awp_cond rfl (fun c => ?_) (fun c => ?_)
  · (try simp only [sd, se] at c)
    refine awp_skip ?_
    refine awp_block ?_
    refine awp_seq ?_
    refine awp_region ?_
    refine al_step rfl rfl (aop_move rfl) ?_
    refine al_step rfl rfl (aop_field_ptr fd26 rfl rfl) ?_
    refine al_step rfl rfl (aop_load_box1 (i := 2) ty24 rfl rfl rfl) ?_
    obtain ⟨x, hx⟩ := getElem?_of_lt (l := tts) (i := 1) (by omega)
    refine al_step rfl rfl (aop_index_lst el24 rfl rfl (by omega) (encTs_get hx) (encT_len _)) ?_
    refine al_step rfl rfl (aop_load_ref ty26 rfl (encT_len _)) ?_
    obtain ⟨xk, xi, xn, xl, xs⟩ := x
    refine al_step rfl rfl (aop_buildSlice el24 zr26 rfl rfl rfl rfl rfl) ?_
    refine al_app rfl rfl (aop_append2 (i := 0) (rows' := encTs [(.mk xk xi xn xl xs : Tm)]) el24 el24 zr26 rfl rfl rfl rfl rfl rfl (solid_Tm _) (by simp only [encTs_len, List.length_map, List.length_cons, List.length_nil, List.nil_append, List.length_append]; omega) (vn_Tm ys [(.mk xk xi xn xl xs : Tm)])) fun o1 cp1 => ?_
    refine al_step rfl rfl (aop_assign rfl) ?_
    refine al_end rfl ?_
    refine awp_region ?_
    refine al_step rfl rfl (aop_field_ptr fd26 rfl rfl) ?_
    refine al_step rfl rfl (aop_load_box1 (i := 2) ty24 rfl rfl rfl) ?_
    obtain ⟨x1, hx1⟩ := getElem?_of_lt (l := tts) (i := 0) (by omega)
    refine al_step rfl rfl (aop_index_lst el24 rfl rfl (by omega) (encTs_get hx1) (encT_len _)) ?_
    refine al_step rfl rfl (aop_load_ref ty26 rfl (encT_len _)) ?_
    refine al_step rfl rfl (aop_store_whole (i := 2) ty26 rfl rfl rfl (by simp [encT_len]) (by first | rfl | simp [encT_len]) (one_Tm _)) ?_
    refine al_end rfl ?_
    refine ⟨⟨x1, ys ++ [.mk xk xi xn xl xs], o1, cp1⟩, (by have := size_mem hx1; simp only [size]; omega), ⟨by rw [hS, spine_app c hx1 hx]; simp, Nds_mem hN.2.2.2.2.1 hx1, by have := size_mem hx1; simp; omega⟩, le_mkW ⟨we rfl, we rfl, we rfl, trivial⟩ (leH (is := [0, 1, 2]) rfl (wl (oe rfl) (wl (oe rfl) (wl (oe rfl) (wl0)))))⟩
  · (try simp only [sd, se] at c)
    refine awp_exit ?_
    refine awp_seq ?_
    refine awp_region ?_
    refine al_step rfl rfl (aop_move rfl) ?_
    refine al_step rfl rfl (aop_retn [0] rfl (.inl ⟨rfl, rfl, rfl⟩) (revT_c ys o cp (by simp only [big]; omega)) ⟨_, _, rfl, rfl, rfl⟩ (by decide) rfl (.inl rfl)) ?_
    refine al_end rfl ?_
    refine awp_seq ?_
    refine awp_region ?_
    refine al_step rfl rfl (aop_load_box (i := 2) ty26 rfl rfl rfl) ?_
    refine al_step rfl rfl (aop_move rfl) ?_
    refine al_step rfl rfl (aop_store_box (i := 1) ty26 rfl rfl rfl rfl rfl rfl) ?_
    refine al_step rfl rfl (aop_assign rfl) ?_
    refine al_end rfl ?_
    refine awp_ghost (ghost_eq (t := 4) (x := .vs o (encTs ys.reverse).length cp) (vsLen_Tm ys (by simp))) ?_
    refine awp_ghost (ghost_eq (t := 25) (x := .vs o (encTs ys.reverse).length cp) (vsLen_Tm ys (by simp))) ?_
    refine awp_ghost (ghost_eq (t := 28) (x := .vs o (encTs ys.reverse).length cp) (vsLen_Tm ys (by simp))) ?_
    refine awp_ghost (ghost_eq (t := 3) (x := .vs o (encTs ys.reverse).length cp) (vsLen_Tm ys (by simp))) ?_
    refine awp_ghost (ghost_freeze (i := 0) [4, 25, 28, 3] rfl (memall ⟨rfl, rfl, rfl, rfl, trivial⟩)) ?_
    refine awp_ret ?_
    refine ⟨rfl, _, _, ⟨_, _, rfl, (resv_row (i := 0) ty26 rfl rfl rfl), ⟨_, _, rfl, rfl, rfl⟩⟩, (List.nil_sublist _), ?_⟩
    rw [hS, spine_atom (Classical.or_iff_not_imp_left.2 fun h => by simp at h; exact fun e => absurd (c h) (by simp [e]))]
    all_goals exact ⟨rfl, rfl⟩

theorem indexI_c : ∀ (l : List Int) (n : Int), (l.length < big) → FunR Tryz.prog 56 [.p (.lst (List.map encI l)), .p (I n)] (fun v => ∃ r : Int, v = .p (I r) ∧ (0 ≤ r ↔ n ∈ l)) := by
  intro l n h1
  simp only [big] at h1
  refine acalls_of_awp Tryz.func56 rfl en56 (n := 19) rfl rfl ?_
  refine awp_seq ?_
  refine awp_region ?_
  refine al_step rfl rfl (aop_assign rfl) ?_
  refine al_end rfl ?_
  refine awp_seq ?_
  refine awp_seq ?_
  refine awp_region ?_
  refine al_step rfl rfl (aop_move rfl) ?_
  refine al_step rfl rfl (aop_lenE el59 rfl (List.length_map _)) ?_
  refine al_step rfl rfl (aop_move rfl) ?_
  refine al_end rfl ?_
  refine awp_block ?_
  refine awp_while (α := Nat) (fun i => ⟨19, mk [(0, .p (.lst (List.map encI l))), (1, .p (I n)), (7, .p (I (l.length : Nat))), (8, .p (I (i : Int)))], [], []⟩) (fun i => l.length - i) (fun i => i ≤ l.length ∧ (n ∉ l.take i)) 0 (by simp) ?_ ?_
  · exact le_mkW ⟨we rfl, we rfl, we rfl, we rfl, trivial⟩ (leH (is := []) rfl (wl0))
  rintro i hC
  try simp only at hC
  obtain ⟨hi, hC⟩ := hC
  refine awp_seq ?_
  refine awp_region ?_
  refine al_step rfl rfl (aop_cmp rfl rfl rfl) ?_
  refine al_end rfl ?_
  refine awp_seq ?_
  refine awp_cond rfl (fun c => ?_) (fun c => ?_)
  · (try simp only [sd, se] at c)
    refine awp_skip ?_
    refine awp_seq ?_
    refine awp_block ?_
    refine awp_seq ?_
    refine awp_region ?_
    refine al_step rfl rfl (aop_move rfl) ?_
    refine al_step rfl rfl (aop_assign rfl) ?_
    refine al_end rfl ?_
    refine awp_seq ?_
    refine awp_region ?_
    refine al_step rfl rfl (aop_move rfl) ?_
    refine al_step rfl rfl (aop_move rfl) ?_
    refine al_step rfl rfl (aop_move rfl) ?_
    obtain ⟨x, hx⟩ := getElem?_of_lt (l := l) (i := i) (by omega)
    refine al_step rfl rfl (aop_index_lst el59 rfl rfl (by omega) (encI_get hx) (rfl)) ?_
    refine al_step rfl rfl (aop_load_ref1 ty3 rfl) ?_
    refine al_step rfl rfl (aop_cmp rfl rfl rfl) ?_
    refine al_end rfl ?_
    refine awp_cond rfl (fun c1 => ?_) (fun c1 => ?_)
    · (try simp only [sd, se] at c1)
      refine awp_seq ?_
      refine awp_region ?_
      refine al_step rfl rfl (aop_move rfl) ?_
      refine al_step rfl rfl (aop_assign rfl) ?_
      refine al_end rfl ?_
      refine awp_ret ?_
      refine ⟨rfl, _, [], res_tmp rfl, List.nil_sublist _, ⟨⟨_, rfl, ?_⟩, rfl⟩⟩
      exact ⟨fun _ => by rw [c1]; exact List.mem_of_getElem? hx, fun _ => by omega⟩
    · (try simp only [sd, se] at c1)
      refine awp_skip ?_
      refine awp_region ?_
      refine al_step rfl rfl (aop_add rfl rfl (by omega) (by omega)) ?_
      refine al_step rfl rfl (aop_move rfl) ?_
      refine al_end rfl ?_
      refine ⟨(i + 1), (by first | omega | (simp only; omega)), ⟨by omega, not_take_succ hC hx (by omega)⟩, le_mkW ⟨we rfl, we rfl, we rfl, we rfl, trivial⟩ (leH (is := []) rfl (wl0))⟩
  · (try simp only [sd, se] at c)
    refine awp_exit ?_
    refine awp_seq ?_
    refine awp_region ?_
    refine al_step rfl rfl (aop_assign rfl) ?_
    refine al_end rfl ?_
    refine awp_ret ?_
    refine ⟨rfl, _, [], res_tmp rfl, List.nil_sublist _, ⟨⟨_, rfl, ?_⟩, rfl⟩⟩
    rw [show i = l.length by omega, List.take_length] at hC
    exact ⟨fun h => by omega, fun h => absurd h hC⟩

theorem containsI_c : ∀ (l : List Int) (n : Int), (l.length < big) → Fun Tryz.prog 29 [.p (.lst (List.map encI l)), .p (I n)] (.p (.bool (inB l n))) := by
  intro l n h1
  refine acalls_of_awp Tryz.func29 rfl en29 (n := 9) rfl rfl ?_
  refine awp_seq ?_
  refine awp_region ?_
  refine al_step rfl rfl (aop_assign rfl) ?_
  refine al_end rfl ?_
  refine awp_seq ?_
  refine awp_region ?_
  refine al_step rfl rfl (aop_move rfl) ?_
  refine al_step rfl rfl (aop_move rfl) ?_
  refine al_rel rfl rfl (aop_funR rfl rfl (indexI_c l n h1) (.inl rfl)) ?_
  rintro _ ⟨r, rfl, hr⟩
  refine al_step rfl rfl (aop_cmp rfl rfl rfl) ?_
  refine al_step rfl rfl (aop_assign rfl) ?_
  refine al_end rfl ?_
  refine awp_ret ?_
  refine ⟨rfl, _, _, ⟨_, _, rfl, rfl, rfl⟩, (List.nil_sublist _), ?_⟩
  all_goals exact ⟨pB (by simp [inB, ← hr]), rfl⟩

theorem equalI_c : ∀ (a b : List Int), (a.length < big) → Fun Tryz.prog 27 [.p (.lst (List.map encI a)), .p (.lst (List.map encI b))] (.p (.bool (eqB a b))) := by
  intro a b h1
  simp only [big] at h1
  refine acalls_of_awp Tryz.func27 rfl en27 (n := 26) rfl rfl ?_
  refine awp_seq ?_
  refine awp_region ?_
  refine al_step rfl rfl (aop_assign rfl) ?_
  refine al_end rfl ?_
  refine awp_seq ?_
  refine awp_seq ?_
  refine awp_region ?_
  refine al_step rfl rfl (aop_move rfl) ?_
  refine al_step rfl rfl (aop_lenE el59 rfl (List.length_map _)) ?_
  refine al_step rfl rfl (aop_move rfl) ?_
  refine al_step rfl rfl (aop_lenE el59 rfl (List.length_map _)) ?_
  refine al_step rfl rfl (aop_cmp rfl rfl rfl) ?_
  refine al_end rfl ?_
  refine awp_cond rfl (fun c => ?_) (fun c => ?_)
  · (try simp only [sd, se] at c)
    refine awp_seq ?_
    refine awp_region ?_
    refine al_step rfl rfl (aop_assign rfl) ?_
    refine al_end rfl ?_
    refine awp_ret ?_
    refine ⟨rfl, _, _, ⟨_, _, rfl, rfl, rfl⟩, (List.nil_sublist _), ?_⟩
    all_goals exact ⟨pB (eqB_false (fun h => by subst h; omega)).symm, rfl⟩
  · (try simp only [sd, se] at c)
    refine awp_skip ?_
    refine awp_seq ?_
    refine awp_seq ?_
    refine awp_region ?_
    refine al_step rfl rfl (aop_move rfl) ?_
    refine al_step rfl rfl (aop_lenE el59 rfl (List.length_map _)) ?_
    refine al_step rfl rfl (aop_move rfl) ?_
    refine al_end rfl ?_
    refine awp_block ?_
    refine awp_while (α := Nat) (fun i => ⟨26, mk [(0, .p (.lst (List.map encI a))), (1, .p (.lst (List.map encI b))), (12, .p (I (a.length : Nat))), (13, .p (I (i : Int)))], [], []⟩) (fun i => a.length - i) (fun i => i ≤ a.length ∧ (agree a b i)) 0 (⟨by omega, agree_zero _ _⟩) ?_ ?_
    · exact le_mkW ⟨we rfl, we rfl, we rfl, we rfl, trivial⟩ (leH (is := []) rfl (wl0))
    rintro i hC
    try simp only at hC
    obtain ⟨hi, hC⟩ := hC
    refine awp_seq ?_
    refine awp_region ?_
    refine al_step rfl rfl (aop_cmp rfl rfl rfl) ?_
    refine al_end rfl ?_
    refine awp_seq ?_
    refine awp_cond rfl (fun c1 => ?_) (fun c1 => ?_)
    · (try simp only [sd, se] at c1)
      refine awp_skip ?_
      refine awp_seq ?_
      refine awp_block ?_
      refine awp_seq ?_
      refine awp_region ?_
      refine al_step rfl rfl (aop_move rfl) ?_
      refine al_step rfl rfl (aop_assign rfl) ?_
      refine al_end rfl ?_
      refine awp_seq ?_
      refine awp_dr (fun k => false) mx0 ?_
      refine dr_free rfl rfl (fun _ => aop_move rfl) trivial ?_
      refine dr_free rfl rfl (fun _ => aop_move rfl) trivial ?_
      obtain ⟨x, hx⟩ := getElem?_of_lt (l := a) (i := i) (by omega)
      refine dr_free rfl rfl (fun _ => aop_index_lst el59 rfl rfl (by omega) (encI_get hx) (rfl)) trivial ?_
      refine dr_free rfl rfl (fun _ => aop_load_ref1 ty3 rfl) trivial ?_
      refine dr_free rfl rfl (fun _ => aop_move rfl) trivial ?_
      refine dr_free rfl rfl (fun _ => aop_move rfl) trivial ?_
      obtain ⟨x1, hx1⟩ := getElem?_of_lt (l := b) (i := i) (by omega)
      refine dr_free rfl rfl (fun _ => aop_index_lst el59 rfl rfl (by omega) (encI_get hx1) (rfl)) trivial ?_
      refine dr_free rfl rfl (fun _ => aop_load_ref1 ty3 rfl) trivial ?_
      refine dr_free rfl rfl (fun _ => aop_cmp rfl rfl rfl) trivial ?_
      refine dr_end rfl (by kernel_rfl) ?_
      refine awp_cond rfl (fun c2 => ?_) (fun c2 => ?_)
      · (try simp only [sd, se] at c2)
        refine awp_seq ?_
        refine awp_region ?_
        refine al_step rfl rfl (aop_assign rfl) ?_
        refine al_end rfl ?_
        refine awp_ret ?_
        refine ⟨rfl, _, _, ⟨_, _, rfl, rfl, rfl⟩, (List.nil_sublist _), ?_⟩
        all_goals exact ⟨pB (eqB_false (fun h => by subst h; rw [hx] at hx1; injection hx1 with e; omega)).symm, rfl⟩
      · (try simp only [sd, se] at c2)
        refine awp_skip ?_
        refine awp_region ?_
        refine al_step rfl rfl (aop_add rfl rfl (by omega) (by omega)) ?_
        refine al_step rfl rfl (aop_move rfl) ?_
        refine al_end rfl ?_
        refine ⟨(i + 1), (by first | omega | (simp only; omega)), ⟨by omega, agree_succ hC hx (by rw [hx1]; congr 1; omega)⟩, le_mkW ⟨we rfl, we rfl, we rfl, we rfl, trivial⟩ (leH (is := []) rfl (wl0))⟩
    · (try simp only [sd, se] at c1)
      refine awp_exit ?_
      refine awp_seq ?_
      refine awp_region ?_
      refine al_step rfl rfl (aop_assign rfl) ?_
      refine al_end rfl ?_
      refine awp_ret ?_
      refine ⟨rfl, _, _, ⟨_, _, rfl, rfl, rfl⟩, (List.nil_sublist _), ?_⟩
      all_goals exact ⟨pB (eqB_true (agree_all hC (by omega) (by omega))).symm, rfl⟩

theorem cloneM_c : ∀ (l : List Mv), (l.length < 2 ^ 38) → ACalls Tryz.prog 31 [.p (.lst (List.map encM l))] [] (ownV (fun v => v) 12 (List.map encM l)) := by
  intro l h1
  refine acalls_of_awp Tryz.func31 rfl en31 (n := 8) rfl rfl ?_
  refine awp_seq ?_
  refine awp_region ?_
  refine al_step rfl rfl (aop_assign rfl) ?_
  refine al_end rfl ?_
  refine awp_seq ?_
  refine awp_seq ?_
  refine awp_region ?_
  refine al_step rfl rfl (aop_move rfl) ?_
  refine al_rel rfl rfl (aop_sliceNil2 el22 rfl rfl) ?_
  rintro _ ⟨q, rfl, hq⟩
  refine al_end rfl ?_
  refine awp_cond rfl (fun c => ?_) (fun c => ?_)
  · (try simp only [sd, se] at c)
    refine awp_seq ?_
    refine awp_region ?_
    refine al_step rfl rfl (aop_assign rfl) ?_
    refine al_end rfl ?_
    refine awp_ghost (ghost_own (t := 2) (sz := 12) rfl) ?_
    refine awp_ret ?_
    refine ⟨rfl, _, _, ⟨_, _, rfl, rfl, rfl⟩, (subl (is := [0]) rfl), ?_⟩
    rw [show l = [] by simpa using hq c]
    all_goals exact ⟨_, _, rfl, rfl⟩
  · (try simp only [sd, se] at c)
    refine awp_skip ?_
    refine awp_seq ?_
    refine awp_region ?_
    refine al_vec rfl rfl (aop_buildSlice0 el22) fun b5 cp => ?_
    refine al_step rfl rfl (aop_move rfl) ?_
    refine al_app rfl rfl (aop_append2 (i := 0) (rows' := List.map encM l) el22 el22 zr44 rfl rfl rfl rfl rfl rfl (solid_Mv _) (by simp only [encTs_len, List.length_map, List.length_cons, List.length_nil, List.nil_append, List.length_append]; omega) (vn_map (f := encM) [] l)) fun o cp1 => ?_
    refine al_step rfl rfl (aop_assign rfl) ?_
    refine al_end rfl ?_
    refine awp_ret ?_
    refine ⟨rfl, _, _, ⟨_, _, rfl, rfl, rfl⟩, (subl (is := [0]) rfl), ?_⟩
    all_goals exact ⟨_, _, rfl, rfl⟩

theorem equalM_c : ∀ (a b : List Mv), (a.length < big) → (∀ m ∈ a, Nd m.type ∧ Nd m.value) → Fun Tryz.prog 37 [.p (.lst (List.map encM a)), .p (.lst (List.map encM b)), .p (.fn 38)] (.p (.bool (eqB a b))) := by
  intro a b h1 h2
  simp only [big] at h1
  refine acalls_of_awp Tryz.func37 rfl en37 (n := 32) rfl rfl ?_
  refine awp_seq ?_
  refine awp_region ?_
  refine al_step rfl rfl (aop_assign rfl) ?_
  refine al_end rfl ?_
  refine awp_seq ?_
  refine awp_seq ?_
  refine awp_region ?_
  refine al_step rfl rfl (aop_move rfl) ?_
  refine al_step rfl rfl (aop_lenE el22 rfl (List.length_map _)) ?_
  refine al_step rfl rfl (aop_move rfl) ?_
  refine al_step rfl rfl (aop_lenE el22 rfl (List.length_map _)) ?_
  refine al_step rfl rfl (aop_cmp rfl rfl rfl) ?_
  refine al_end rfl ?_
  refine awp_cond rfl (fun c => ?_) (fun c => ?_)
  · (try simp only [sd, se] at c)
    refine awp_seq ?_
    refine awp_region ?_
    refine al_step rfl rfl (aop_assign rfl) ?_
    refine al_end rfl ?_
    refine awp_ret ?_
    refine ⟨rfl, _, _, ⟨_, _, rfl, rfl, rfl⟩, (List.nil_sublist _), ?_⟩
    all_goals exact ⟨pB (eqB_false (fun h => by subst h; omega)).symm, rfl⟩
  · (try simp only [sd, se] at c)
    refine awp_skip ?_
    refine awp_seq ?_
    refine awp_seq ?_
    refine awp_region ?_
    refine al_step rfl rfl (aop_move rfl) ?_
    refine al_step rfl rfl (aop_lenE el22 rfl (List.length_map _)) ?_
    refine al_step rfl rfl (aop_move rfl) ?_
    refine al_end rfl ?_
    refine awp_block ?_
    refine awp_while (α := Nat) (fun i => ⟨32, mk [(1, .p (.lst (List.map encM b))), (2, .p (.fn 38)), (15, .p (.lst (List.map encM a))), (16, .p (I (a.length : Nat))), (17, .p (I (i : Int)))], [], []⟩) (fun i => a.length - i) (fun i => i ≤ a.length ∧ (agree a b i)) 0 (⟨by omega, agree_zero _ _⟩) ?_ ?_
    · exact le_mkW ⟨we rfl, we rfl, we rfl, we rfl, we rfl, trivial⟩ (leH (is := []) rfl (wl0))
    rintro i hC
    try simp only at hC
    obtain ⟨hi, hC⟩ := hC
    refine awp_seq ?_
    refine awp_region ?_
    refine al_step rfl rfl (aop_cmp rfl rfl rfl) ?_
    refine al_end rfl ?_
    refine awp_seq ?_
    refine awp_cond rfl (fun c1 => ?_) (fun c1 => ?_)
    · (try simp only [sd, se] at c1)
      refine awp_skip ?_
      refine awp_seq ?_
      refine awp_block ?_
      refine awp_seq ?_
      refine awp_region ?_
      refine al_step rfl rfl (aop_move rfl) ?_
      obtain ⟨x, hx⟩ := getElem?_of_lt (l := a) (i := i) (by omega)
      refine al_step rfl rfl (aop_index_lst el22 rfl rfl (by omega) (encM_get hx) (encM_len _)) ?_
      refine al_step rfl rfl (aop_load_ref ty44 rfl (encM_len _)) ?_
      refine al_new rfl rfl (aop_alloc zr44 rfl) fun b8 => ?_
      refine al_step rfl rfl (aop_assign rfl) ?_
      refine al_step rfl rfl (aop_store_whole (i := 0) ty44 rfl rfl rfl (by simp [encM_len]) (by first | rfl | simp [encM_len]) (one_Mv _)) ?_
      refine al_end rfl ?_
      refine awp_seq ?_
      refine awp_region ?_
      refine al_step rfl rfl (aop_move rfl) ?_
      refine al_step rfl rfl (aop_move rfl) ?_
      obtain ⟨x1, hx1⟩ := getElem?_of_lt (l := b) (i := i) (by omega)
      refine al_step rfl rfl (aop_index_lst el22 rfl rfl (by omega) (encM_get hx1) (encM_len _)) ?_
      refine al_step rfl rfl (aop_load_ref ty44 rfl (encM_len _)) ?_
      refine al_new rfl rfl (aop_alloc zr44 rfl) fun b9 => ?_
      refine al_step rfl rfl (aop_store_whole (i := 0) ty44 rfl rfl rfl (by simp [encM_len]) (by first | rfl | simp [encM_len]) (one_Mv _)) ?_
      refine al_end rfl ?_
      refine awp_seq ?_
      refine awp_region ?_
      refine al_step rfl rfl (aop_move rfl) ?_
      refine al_step rfl rfl (aop_load_box (i := 1) ty44 rfl rfl (by simp [encM_len])) ?_
      refine al_step rfl rfl (aop_load_box (i := 0) ty44 rfl rfl (by simp [encM_len])) ?_
      refine al_step rfl rfl (aop_fun rfl rfl (sameMeta_c x x1 (h2 x (List.mem_of_getElem? hx)).1 (h2 x (List.mem_of_getElem? hx)).2) rfl) ?_
      refine al_step rfl rfl (aop_not rfl) ?_
      refine al_end rfl ?_
      refine awp_cond rfl (fun c2 => ?_) (fun c2 => ?_)
      · (try simp only [sd, se] at c2)
        refine awp_seq ?_
        refine awp_region ?_
        refine al_step rfl rfl (aop_assign rfl) ?_
        refine al_end rfl ?_
        refine awp_ret ?_
        refine ⟨rfl, _, _, ⟨_, _, rfl, rfl, rfl⟩, (List.nil_sublist _), ?_⟩
        all_goals exact ⟨pB (eqB_false (fun h => by subst h; rw [hx] at hx1; injection hx1 with e; subst e; simp [eqB_true] at c2)).symm, rfl⟩
      · (try simp only [sd, se] at c2)
        refine awp_skip ?_
        refine awp_region ?_
        refine al_step rfl rfl (aop_add rfl rfl (by omega) (by omega)) ?_
        refine al_step rfl rfl (aop_move rfl) ?_
        refine al_end rfl ?_
        refine ⟨(i + 1), (by first | omega | (simp only; omega)), ⟨by omega, agree_succ hC hx (by rw [hx1, eqB_iff.1 c2])⟩, le_mkW ⟨we rfl, we rfl, we rfl, we rfl, we rfl, trivial⟩ (leH (is := []) rfl (wl0))⟩
    · (try simp only [sd, se] at c1)
      refine awp_exit ?_
      refine awp_seq ?_
      refine awp_region ?_
      refine al_step rfl rfl (aop_assign rfl) ?_
      refine al_end rfl ?_
      refine awp_ret ?_
      refine ⟨rfl, _, _, ⟨_, _, rfl, rfl, rfl⟩, (List.nil_sublist _), ?_⟩
      all_goals exact ⟨pB (eqB_true (agree_all hC (by omega) (by omega))).symm, rfl⟩

end Go.Proofs.YtgfecpjmbgcobaaGreat
/- Contracts of functions of the program. -/
namespace Go.Proofs.YtgfecpjmbgcobaaGreat
open Go.Abs Go.Eu
set_option linter.unusedVariables false
set_option linter.unusedSimpArgs false
set_option maxRecDepth 100000
theorem varsP_c : ∀ (n f : Int), (f < 1152921504606846976) → Fun Tryz.prog 53 [.p (I n), .p (I f)] (.p (.lst (encTs (varsW n f)))) := by
  intro n f h1
  refine acalls_of_awp Tryz.func53 rfl en53 (n := 36) rfl rfl ?_
  refine awp_seq ?_
  refine awp_region ?_
  refine al_step rfl rfl (aop_assign rfl) ?_
  refine al_end rfl ?_
  refine awp_seq ?_
  refine awp_seq ?_
  refine awp_meetR [0, 1] 16 (fun y => y = .p (.bool (((decide ((n : Int) < (1 : Int))) || (decide ((n : Int) > (4096 : Int)))) || (decide ((f : Int) < (0 : Int)))))) ?_ ?_
  · refine awp_region ?_
    refine al_step rfl rfl (aop_move rfl) ?_
    refine al_step rfl rfl (aop_cmp rfl rfl rfl) ?_
    refine al_step rfl rfl (aop_move rfl) ?_
    refine al_case 9 rfl (fun g => ?_) (fun g => ?_)
    · (try simp only [sd, se] at g)
      refine al_pass rfl rfl rfl rfl rfl ?_
      refine al_pass rfl rfl rfl rfl rfl ?_
      refine al_step rfl rfl (aop_pick rfl rfl) ?_
      refine al_step rfl rfl (aop_move rfl) ?_
      refine al_pass rfl rfl rfl rfl rfl ?_
      refine al_pass rfl rfl rfl rfl rfl ?_
      refine al_step rfl rfl (aop_pick rfl rfl) ?_
      refine al_end rfl ?_
      exact ⟨rfl, rfl, (by first | exact List.Sublist.refl _ | exact List.sublist_cons_self _ _), (by first | rfl | (refine pB ?_; simp_all; done) | (refine pB ?_; simp_all <;> (intros; omega))), ⟨rfl, rfl, trivial⟩⟩
    · (try simp only [sd, se] at g)
      refine al_stepg rfl rfl rfl rfl (aop_move rfl) ?_
      refine al_stepg rfl rfl rfl rfl (aop_cmp rfl rfl rfl) ?_
      refine al_step rfl rfl (aop_pick rfl rfl) ?_
      refine al_step rfl rfl (aop_move rfl) ?_
      refine al_case 13 rfl (fun g1 => ?_) (fun g1 => ?_)
      · (try simp only [sd, se] at g1)
        refine al_pass rfl rfl rfl rfl rfl ?_
        refine al_pass rfl rfl rfl rfl rfl ?_
        refine al_step rfl rfl (aop_pick rfl rfl) ?_
        refine al_end rfl ?_
        exact ⟨rfl, rfl, (by first | exact List.Sublist.refl _ | exact List.sublist_cons_self _ _), (by first | rfl | (refine pB ?_; simp_all; done) | (refine pB ?_; simp_all <;> (intros; omega))), ⟨rfl, rfl, trivial⟩⟩
      · (try simp only [sd, se] at g1)
        refine al_stepg rfl rfl rfl rfl (aop_move rfl) ?_
        refine al_stepg rfl rfl rfl rfl (aop_cmp rfl rfl rfl) ?_
        refine al_step rfl rfl (aop_pick rfl rfl) ?_
        refine al_end rfl ?_
        exact ⟨rfl, rfl, (by first | exact List.Sublist.refl _ | exact List.sublist_cons_self _ _), (by first | rfl | (refine pB ?_; simp_all; done) | (refine pB ?_; simp_all <;> (intros; omega))), ⟨rfl, rfl, trivial⟩⟩
  rintro _ rfl
  refine awp_cond rfl (fun c => ?_) (fun c => ?_)
  · (try simp only [sd, se] at c)
    refine awp_seq ?_
    refine awp_region ?_
    refine al_step rfl rfl (aop_assign rfl) ?_
    refine al_end rfl ?_
    refine awp_ghost (ghost_nslot 4) ?_
    refine awp_ret ?_
    refine ⟨rfl, _, _, ⟨_, _, rfl, rfl, rfl⟩, (List.nil_sublist _), ?_⟩
    all_goals exact ⟨by show (.p (.lst (encTs [])) : AV) = _; unfold varsW; rw [if_pos (by omega)], rfl⟩
  · (try simp only [sd, se] at c)
    refine awp_skip ?_
    refine awp_seq ?_
    refine awp_region ?_
    refine al_step rfl rfl (aop_move rfl) ?_
    refine al_vec rfl rfl (aop_makeSlice2 el24 zr26 rfl rfl (by decide) rfl rfl rfl (by omega) (by omega) (by omega) (vr_Tm ((n : Int).toNat) (.mk 0 0 ⟨#[]⟩ [] [] : Tm))) fun b18 cp => ?_
    refine al_step rfl rfl (aop_assign rfl) ?_
    refine al_end rfl ?_
    refine awp_seq ?_
    refine awp_seq ?_
    refine awp_region ?_
    refine al_step rfl rfl (aop_move rfl) ?_
    refine al_step rfl rfl (aop_lenV el24 rfl (encTs_len _)) ?_
    refine al_step rfl rfl (aop_move rfl) ?_
    refine al_end rfl ?_
    refine awp_block ?_
    refine awp_while (α := Nat × Option Nat × Nat) (fun (i, o, cp1) => ⟨36, mk [(0, .p (I n)), (1, .p (I f)), (5, .vs o (encTs (vpart f n.toNat i)).length cp1), (20, .p (I ((List.replicate ((n : Int).toNat) (.mk 0 0 ⟨#[]⟩ [] [] : Tm)).length : Nat))), (21, .p (I (i : Int)))], [.vec o 5 (encTs (vpart f n.toNat i)) cp1], []⟩) (fun (i, o, cp1) => n.toNat - i) (fun (i, o, cp1) => i ≤ n.toNat) ⟨0, (some b18), cp⟩ (by first | trivial | omega | simp | (simp; omega)) ?_ ?_
    · exact le_mkW ⟨we rfl, we rfl, we (vsE_Tm (List.replicate ((n : Int).toNat) (.mk 0 0 ⟨#[]⟩ [] [] : Tm)) ((vpart_zero f n.toNat).symm)), we rfl, we rfl, trivial⟩ (leH (is := [0]) rfl (wl (ovE_Tm (List.replicate ((n : Int).toNat) (.mk 0 0 ⟨#[]⟩ [] [] : Tm)) ((vpart_zero f n.toNat).symm)) (wl0)))
    rintro ⟨i, o, cp1⟩ hC
    try simp only at hC
    have hi := hC
    refine awp_seq ?_
    refine awp_region ?_
    refine al_step rfl rfl (aop_cmp rfl rfl rfl) ?_
    refine al_end rfl ?_
    refine awp_seq ?_
    refine awp_cond rfl (fun c1 => ?_) (fun c1 => ?_)
    · (try simp only [sd, se] at c1)
      refine awp_skip ?_
      refine awp_seq ?_
      refine awp_block ?_
      refine awp_seq ?_
      refine awp_region ?_
      refine al_step rfl rfl (aop_move rfl) ?_
      refine al_step rfl rfl (aop_assign rfl) ?_
      refine al_end rfl ?_
      refine awp_region ?_
      refine al_step rfl rfl (aop_move rfl) ?_
      refine al_step rfl rfl (aop_move rfl) ?_
      refine al_step rfl rfl (aop_move rfl) ?_
      refine al_step rfl rfl (aop_move rfl) ?_
      refine al_step rfl rfl (aop_add rfl rfl (by omega) (by omega)) ?_
      refine al_step rfl rfl (aop_sub rfl rfl (by omega) (by omega)) ?_
      refine al_step rfl rfl (aop_move rfl) ?_
      refine al_step rfl rfl (aop_sub rfl rfl (by omega) (by omega)) ?_
      refine al_step rfl rfl (aop_build fd26 zr26 rfl) ?_
      refine al_some (i := 0) rfl (by simp only [encTs_len, vpart_len f hi]; omega) fun b hb => ?_
      subst hb
      refine al_step rfl rfl (aop_index_vs el24 rfl rfl (by omega) (by simp only [encTs_len, vpart_len f hi]; omega)) ?_
      refine al_step rfl rfl (aop_store_vec2 (i := 0) (j := i) ty26 rfl rfl rfl (by simp only [encTs_len, vpart_len f hi]; omega) rfl rfl rfl rfl (vs_Tm (vpart f n.toNat i) i (.mk 0 ((((f : Int) + (n : Int) : Int) - (1 : Int) : Int) - ((i : Int) : Int)) ⟨#[]⟩ [] [] : Tm))) ?_
      refine al_end rfl ?_
      refine awp_region ?_
      refine al_step rfl rfl (aop_add rfl rfl (by omega) (by omega)) ?_
      refine al_step rfl rfl (aop_move rfl) ?_
      refine al_end rfl ?_
      refine ⟨⟨i + 1, (some b), cp1⟩, (by first | omega | (simp only; omega)), by omega, le_mkW ⟨we rfl, we rfl, we (vsLen_Tm (vpart f n.toNat i) (by rw [vpart_len f (by omega), vpart_len f (by omega)])), we rfl, we rfl, trivial⟩ (leH (is := [0]) rfl (wl (ovE_Tm ((vpart f n.toNat i).set i (.mk 0 ((((f : Int) + (n : Int) : Int) - (1 : Int) : Int) - ((i : Int) : Int)) ⟨#[]⟩ [] [] : Tm)) (by rw [← vpart_succ f (by omega)]; simp only [varT]; congr 2; omega)) (wl0)))⟩
    · (try simp only [sd, se] at c1)
      refine awp_exit ?_
      refine awp_seq ?_
      refine awp_region ?_
      refine al_step rfl rfl (aop_move rfl) ?_
      refine al_step rfl rfl (aop_assign rfl) ?_
      refine al_end rfl ?_
      refine awp_ghost (ghost_freeze (i := 0) [5, 35, 4] rfl (memall ⟨rfl, rfl, rfl, trivial⟩)) ?_
      refine awp_ret ?_
      refine ⟨rfl, _, _, ⟨_, _, rfl, rfl, rfl⟩, (List.nil_sublist _), ?_⟩
      all_goals exact ⟨by show (.p (.lst (encTs (vpart f n.toNat i))) : AV) = _; unfold varsW; rw [if_neg (by omega), show i = n.toNat by omega, vpart_all], rfl⟩

theorem stopM_c : ∀ (e : Int), ACalls Tryz.prog 66 [.p (I e)] [] (panicR (.p (.iface 32 (I e))) []) := by
  intro e
  refine acalls_of_awp Tryz.func66 rfl en66 (n := 4) rfl rfl ?_
  refine awp_region ?_
  refine al_step rfl rfl (aop_move rfl) ?_
  refine al_step rfl rfl (aop_makeIface um32 (by intro ms h; cases h) rfl) ?_
  refine al_panic rfl rfl (aop_panic rfl) ?_
  exact ⟨rfl, _, List.nil_sublist _, ⟨rfl, rfl⟩⟩

theorem caughtM_c : ∀ (e : Int), Fun Tryz.prog 46 [.p (.iface 32 (I e))] (.p (I e)) := by
  intro e
  refine acalls_of_awp Tryz.func46 rfl en46 (n := 14) rfl rfl ?_
  refine awp_seq ?_
  refine awp_region ?_
  refine al_step rfl rfl (aop_assign rfl) ?_
  refine al_end rfl ?_
  refine awp_seq ?_
  refine awp_region ?_
  refine al_step rfl rfl (aop_move rfl) ?_
  refine al_step rfl rfl (aop_assert um32 rfl rfl) ?_
  refine al_step rfl rfl (aop_move rfl) ?_
  refine al_step rfl rfl (aop_extract rfl rfl) ?_
  refine al_step rfl rfl (aop_extract rfl rfl) ?_
  refine al_step rfl rfl (aop_assign rfl) ?_
  refine al_step rfl rfl (aop_assign rfl) ?_
  refine al_end rfl ?_
  refine awp_seq ?_
  refine awp_seq ?_
  refine awp_region ?_
  refine al_step rfl rfl (aop_move rfl) ?_
  refine al_step rfl rfl (aop_not rfl) ?_
  refine al_end rfl ?_
  refine awp_cond rfl (fun c => by cases c) (fun c => ?_)
  refine awp_skip ?_
  refine awp_seq ?_
  refine awp_region ?_
  refine al_step rfl rfl (aop_move rfl) ?_
  refine al_step rfl rfl (aop_assign rfl) ?_
  refine al_end rfl ?_
  refine awp_ret ?_
  refine ⟨rfl, _, _, ⟨_, _, rfl, rfl, rfl⟩, (List.nil_sublist _), ?_⟩
  all_goals exact ⟨rfl, rfl⟩

theorem largeP_c : ∀ (t : Tm), (Nd t) → (size t < 1152921504606846976) → Fun Tryz.prog 81 [.agg ((encT t).map .p)] (.p (.bool (largeB t))) := by
  intro t h1 h2
  refine acalls_of_awp Tryz.func81 rfl en81 (n := 11) rfl rfl ?_
  refine awp_seq ?_
  refine awp_region ?_
  refine al_new rfl rfl (aop_box rfl) fun b1 => ?_
  refine al_step rfl rfl (aop_assign rfl) ?_
  refine al_end rfl ?_
  refine awp_seq ?_
  refine awp_meetR [] 2 (fun y => y = .p (.bool ((decide (((size t : Nat) : Int) > (4096 : Int))) || (decide ((depthW t : Int) > (200 : Int)))))) ?_ ?_
  · refine awp_region ?_
    refine al_step rfl rfl (aop_load_box (i := 0) ty26 rfl rfl (by simp [encT_len])) ?_
    refine al_step rfl rfl (aop_fun rfl rfl (sizeP_c t h1 h2) rfl) ?_
    refine al_step rfl rfl (aop_cmp rfl rfl rfl) ?_
    refine al_step rfl rfl (aop_move rfl) ?_
    refine al_case 6 rfl (fun g => ?_) (fun g => ?_)
    · (try simp only [sd, se] at g)
      refine al_pass rfl rfl rfl rfl rfl ?_
      refine al_pass rfl rfl rfl rfl rfl ?_
      refine al_pass rfl rfl rfl rfl rfl ?_
      refine al_step rfl rfl (aop_pick rfl rfl) ?_
      refine al_step rfl rfl (aop_assign rfl) ?_
      refine al_end rfl ?_
      exact ⟨rfl, rfl, (by first | exact List.Sublist.refl _ | exact List.sublist_cons_self _ _), (by first | rfl | (refine pB ?_; simp_all; done) | (refine pB ?_; simp_all <;> (intros; omega))), trivial⟩
    · (try simp only [sd, se] at g)
      refine al_stepg rfl rfl rfl rfl (aop_load_box (i := 0) ty26 rfl rfl (by simp [encT_len])) ?_
      refine al_stepg rfl rfl rfl rfl (aop_fun rfl rfl (depthP_c _ t (Nat.le_refl _) h1) rfl) ?_
      refine al_stepg rfl rfl rfl rfl (aop_cmp rfl rfl rfl) ?_
      refine al_step rfl rfl (aop_pick rfl rfl) ?_
      refine al_step rfl rfl (aop_assign rfl) ?_
      refine al_end rfl ?_
      exact ⟨rfl, rfl, (by first | exact List.Sublist.refl _ | exact List.sublist_cons_self _ _), (by first | rfl | (refine pB ?_; simp_all; done) | (refine pB ?_; simp_all <;> (intros; omega))), trivial⟩
  rintro _ rfl
  refine awp_ret ?_
  refine ⟨rfl, _, _, ⟨_, _, rfl, rfl, rfl⟩, (List.nil_sublist _), ?_⟩
  all_goals exact ⟨rfl, rfl⟩

end Go.Proofs.YtgfecpjmbgcobaaGreat
