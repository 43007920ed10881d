/- Part of the proofs about metavariables: an abstract program logic, plain models and contracts of functions. -/
import Derived.Test.YtgfecpjmbgcobaaGreatPn
import Derived.Test.YtgfecpjmbgcobaaGreatPf
import Derived.Test.YtgfecpjmbgcobaaGreatPg
/- Contracts of functions of the program. -/
namespace Go.Proofs.YtgfecpjmbgcobaaGreat
open Go.Abs Go.Eu
set_option linter.unusedVariables false
set_option linter.unusedSimpArgs false
set_option maxRecDepth 100000
theorem bw1_c : ∀ {σ : Type} (st : σ → Int → Tm → σ) (HP : σ → List HObj → Prop) (l b1 : Nat) (hy : ∀ s d t T, Nd t → HP s T → AYield Tryz.prog l [.p (I d), TV t] T (retP (.p (.bool true)) (HP (st s d t)))) (xs : List Tm) (s : σ) (T0 : List HObj), Nds xs → xs.length < big → HP s T0 → ACalls Tryz.prog 108 [.fn (.yield l) [] [], .ptr b1 0] (.box b1 [.p (.lst (encTs xs))] :: T0) (retP (.tup []) (fun H => ∃ T, HP (bwW st xs xs.length s) T ∧ H = .box b1 [.p (.lst (encTs xs))] :: T)) := by
  intro σ st HP l b1 hy xs s T0 h1 h2 h3
  simp only [big] at h2
  refine acalls_of_awp Tryz.func108 rfl en108 (n := 19) rfl rfl ?_
  refine awp_seq ?_
  refine awp_region ?_
  refine al_step rfl rfl (aop_load_box1 (i := 0) ty24 rfl rfl rfl) ?_
  refine al_step rfl rfl (aop_lenE el24 rfl (encTs_len _)) ?_
  refine al_step rfl rfl (aop_sub rfl rfl (by omega) (by omega)) ?_
  refine al_step rfl rfl (aop_assign rfl) ?_
  refine al_end rfl ?_
  refine awp_block ?_
  refine awp_while (α := Nat × σ × List HObj) (fun (m, q, U) => ⟨19, mk [(0, .fn (.yield l) [] []), (1, .ptr b1 0), (3, .p (I ((m : Int) - 1)))], (.box b1 [.p (.lst (encTs xs))] :: U), []⟩) (fun (m, q, U) => m) (fun (m, q, U) => m ≤ xs.length ∧ bwW st xs m q = bwW st xs xs.length s ∧ HP q U) ⟨xs.length, s, T0⟩ (⟨by omega, rfl, h3⟩) ?_ ?_
  · exact le_mkW ⟨we rfl, we rfl, we rfl, trivial⟩ (leT [0] [_] (l' := [_]) rfl (wl (oe rfl) (wl0)))
  rintro ⟨m, q, U⟩ hC
  try simp only at hC
  obtain ⟨hm, hB, hK⟩ := hC
  refine awp_seq ?_
  refine awp_seq ?_
  refine awp_region ?_
  refine al_step rfl rfl (aop_move rfl) ?_
  refine al_step rfl rfl (aop_cmp rfl rfl rfl) ?_
  refine al_end rfl ?_
  refine awp_cond rfl (fun c => ?_) (fun c => ?_)
  · (try simp only [sd, se] at c)
    refine awp_skip ?_
    refine awp_seq ?_
    refine awp_block ?_
    refine awp_seq ?_
    refine awp_region ?_
    refine al_step rfl rfl (aop_move rfl) ?_
    refine al_step rfl rfl (aop_move rfl) ?_
    refine al_step rfl rfl (aop_load_box1 (i := 0) ty24 rfl rfl rfl) ?_
    refine al_step rfl rfl (aop_move rfl) ?_
    obtain ⟨x, hx⟩ := getElem?_of_lt (l := xs) (i := ((m : Int) - 1 : Int).toNat) (by omega)
    refine al_step rfl rfl (aop_index_lst el24 rfl rfl (by omega) (encTs_get hx) (encT_len _)) ?_
    refine al_step rfl rfl (aop_load_ref ty26 rfl (encT_len _)) ?_
    refine al_yieldT [_] rfl rfl rfl rfl (hy q _ _ _ (Nds_mem h1 hx) hK) rfl ?_ (fun _ _ h => h.elim)
    rintro _ T ⟨rfl, hT⟩
    refine al_step rfl rfl (aop_not rfl) ?_
    refine al_end rfl ?_
    refine awp_cond rfl (fun c1 => by cases c1) (fun c1 => ?_)
    refine awp_skip ?_
    refine awp_region ?_
    refine al_step rfl rfl (aop_move rfl) ?_
    refine al_step rfl rfl (aop_sub rfl rfl (by omega) (by omega)) ?_
    refine al_step rfl rfl (aop_assign rfl) ?_
    refine al_end rfl ?_
    refine ⟨⟨m - 1, st q ((m : Int) - 1) x, T⟩, (by first | omega | (simp only; omega)), ⟨by omega, by rw [← hB]; exact bwW_step hx (by omega), by assumption⟩, le_mkW ⟨we rfl, we rfl, we (pI (by omega)), trivial⟩ (leT [0] [_] (l' := [_]) rfl (wl (oe rfl) (wl0)))⟩
  · (try simp only [sd, se] at c)
    refine awp_exit ?_
    refine ⟨rfl, _, _, rfl, (sublT [0] [_] rfl), ?_⟩
    rw [← hB, show m = 0 by omega]
    exact ⟨rfl, _, hK, rfl⟩

theorem bw_c : ∀ (xs : List Tm), ACalls Tryz.prog 84 [.p (.lst (encTs xs))] [] (fun r H' => ∃ b, r = .val (.fn (.func 108) [] [.ptr b 0]) ∧ H' = [.box b [.p (.lst (encTs xs))]]) := by
  intro xs
  refine acalls_of_awp Tryz.func84 rfl en84 (n := 4) rfl rfl ?_
  refine awp_seq ?_
  refine awp_region ?_
  refine al_new rfl rfl (aop_box rfl) fun b1 => ?_
  refine al_step rfl rfl (aop_assign rfl) ?_
  refine al_end rfl ?_
  refine awp_seq ?_
  refine awp_region ?_
  refine al_step rfl rfl (aop_makeFunc rfl rfl) ?_
  refine al_step rfl rfl (aop_assign rfl) ?_
  refine al_end rfl ?_
  refine awp_ret ?_
  refine ⟨rfl, _, _, ⟨_, _, rfl, rfl, rfl⟩, (subl (is := [0]) rfl), ?_⟩
  exact ⟨_, rfl, rfl⟩

theorem over1_c : ∀ (xs : List Tm) (t : Tm) (bk : Nat) (k : Int), (Nds xs) → (xs.length < big) → ACalls Tryz.prog 83 [.p (.lst (encTs xs)), .agg ((encT t).map .p), .ptr bk 0] [.box bk [.p (I k)]] (retR (.agg ((encT (bindsT k xs t)).map .p)) [.box bk [.p (I k)]]) := by
  intro xs t bk k h1 h2
  refine acalls_of_awpD Tryz.func83 rfl en83 (n := 18) rfl rfl ?_
  refine awp_seq ?_
  refine awp_region ?_
  refine al_new rfl rfl (aop_box rfl) fun b4 => ?_
  refine al_new rfl rfl (aop_alloc zr26 rfl) fun b5 => ?_
  refine al_ghost (ghost_box (i := 0) rfl) ?_
  refine al_end rfl ?_
  refine awp_seq ?_
  refine awp_seq ?_
  refine awp_region ?_
  refine al_step rfl rfl (aop_move rfl) ?_
  refine al_callN [] rfl rfl rfl (.inl ⟨rfl, rfl, rfl⟩) (bw_c xs) rfl (by simp) (aw (we rfl) aw0) ?_ (fun _ _ ⟨_, h, _⟩ => by cases h)
  rintro _ _ ⟨bn, h, rfl⟩
  cases h
  refine al_end rfl ?_
  refine awp_block ?_
  refine awp_rangeL (.inr rfl) fun dd l L hL => ?_
  refine ⟨_, _, getAll_perm (is := [2, 0, 5, 4]) (by decide) ⟨_, _, rfl, rfl, ⟨_, _, rfl, rfl, ⟨_, _, rfl, rfl, ⟨_, _, rfl, rfl, rfl⟩⟩⟩⟩, ?_⟩
  have hy : ∀ (s : Tm) (d : Int) (t : Tm) (T : List HObj), Nd t → (fun (s : Tm) (T : List HObj) => T = [.loop l L, .box bk [.p (I k)], .box b4 ((encT s).map .p)]) s T → AYield Tryz.prog l [.p (I d), TV t] T (retP (.p (.bool true)) ((fun (s : Tm) (T : List HObj) => T = [.loop l L, .box bk [.p (I k)], .box b4 ((encT s).map .p)]) ((bindSt k) s d t))) := by
    rintro s d tt T hnd rfl
    subst hL
    refine ayield_of (i := 0) rfl rfl rfl rfl ?_
    refine awp_region ?_
    refine al_new rfl rfl (aop_alloc zr26 rfl) fun b7 => ?_
    refine al_step rfl rfl (aop_store_whole (i := 0) ty26 rfl rfl rfl (by simp [encT_len]) (by first | rfl | simp [encT_len]) (one_Tm _)) ?_
    refine al_end rfl ?_
    refine ⟨rfl, 1, rfl, ?_⟩
    refine awp_block ?_
    refine awp_region ?_
    refine al_step rfl rfl (aop_load_box1 (i := 2) ty3 rfl rfl rfl) ?_
    refine al_step rfl rfl (aop_load_box (i := 0) ty26 rfl rfl (by simp [encT_len])) ?_
    refine al_step rfl rfl (aop_load_box (i := 3) ty26 rfl rfl (by simp [encT_len])) ?_
    obtain ⟨ttk, tti, ttn, ttl, tts⟩ := tt
    obtain ⟨sk, si, sn, sl, ss⟩ := s
    refine al_step rfl rfl (aop_buildSlice el24 zr26 rfl rfl rfl rfl rfl) ?_
    refine al_step rfl rfl (aop_build fd26 zr26 rfl) ?_
    refine al_step rfl rfl (aop_store_box (i := 3) ty26 rfl rfl rfl rfl rfl rfl) ?_
    refine al_ghost (ghost_box (i := 3) rfl) ?_
    refine al_end rfl ?_
    refine ⟨1, _, rfl, subl (is := [1, 2, 3]) rfl, ?_⟩
    exact ⟨rfl, rfl⟩
  refine (bw1_c (bindSt k) (fun (s : Tm) (T : List HObj) => T = [.loop l L, .box bk [.p (I k)], .box b4 ((encT s).map .p)]) l bn hy xs t _ (h1) (h2) rfl).mono ?_
  rintro (v | v) H' hR
  rotate_left
  · exact hR.elim
  obtain ⟨rfl, _, rfl, rfl⟩ := hR
  subst hL
  refine ⟨1, _, rfl, (by simp), ?_⟩
  refine awp_seq ?_
  refine awp_region ?_
  refine al_step rfl rfl (aop_load_box (i := 2) ty26 rfl rfl (by simp [encT_len])) ?_
  refine al_step rfl rfl (aop_store_whole (i := 4) ty26 rfl rfl rfl (by simp [encT_len]) (by first | rfl | simp [encT_len]) (one_Tm _)) ?_
  refine al_end rfl ?_
  refine awp_ret ?_
  refine ⟨3, rfl, _, _, ⟨_, _, rfl, (resv_row (i := 3) ty26 rfl rfl (by simp [encT_len])), rfl⟩, (subl (is := [1]) rfl), ?_⟩
  rw [← (show bwW (bindSt k) xs xs.length t = bindsT k xs t by rw [bwW_binds k xs _ t (Nat.le_refl _), List.take_length])]
  all_goals exact ⟨rfl, rfl⟩

theorem over_c : ∀ (k : Int), ACalls Tryz.prog 71 [.p (I k)] [] (newC (fun b => .fn (.func 83) [] [.ptr b 0]) [.p (I k)]) := by
  intro k
  refine acalls_of_awp Tryz.func71 rfl en71 (n := 4) rfl rfl ?_
  refine awp_seq ?_
  refine awp_region ?_
  refine al_new rfl rfl (aop_box rfl) fun b1 => ?_
  refine al_step rfl rfl (aop_assign rfl) ?_
  refine al_end rfl ?_
  refine awp_seq ?_
  refine awp_region ?_
  refine al_step rfl rfl (aop_makeFunc rfl rfl) ?_
  refine al_step rfl rfl (aop_assign rfl) ?_
  refine al_end rfl ?_
  refine awp_ret ?_
  refine ⟨rfl, _, _, ⟨_, _, rfl, rfl, rfl⟩, (subl (is := [0]) rfl), ?_⟩
  exact ⟨_, rfl, rfl⟩

theorem pisP_c : ∀ (xs : List Tm) (t : Tm), (Nds xs) → (xs.length < big) → Fun Tryz.prog 49 [.p (.lst (encTs xs)), .agg ((encT t).map .p)] (.agg ((encT (bindsT 6 xs t)).map .p)) := by
  intro xs t h1 h2
  refine acalls_of_awp Tryz.func49 rfl en49 (n := 9) rfl rfl ?_
  refine awp_seq ?_
  refine awp_region ?_
  refine al_new rfl rfl (aop_box rfl) fun b3 => ?_
  refine al_new rfl rfl (aop_alloc zr26 rfl) fun b4 => ?_
  refine al_end rfl ?_
  refine awp_seq ?_
  refine awp_dr (fun k => Nat.beq k 0) mx0 ?_
  refine dr_newc [(1, .free (.p (.lst (encTs xs)))), (2, .read (.box b3 ((encT t).map .p)) (.agg ((encT t).map .p)))] rfl rfl rfl (.inl ⟨rfl, rfl, rfl⟩) (over_c 6) (.inl rfl) (by kernel_rfl) fun bn => ⟨(by repeat' first | exact trivial | refine And.intro ?_ ?_ | ((refine Or.inr (And.intro ?_ ?_) <;> repeat (first | exact List.Mem.head _ | apply List.Mem.tail)); done) | exact Or.inl (by kernel_rfl)), trivial, ?_⟩
  refine dr_free rfl rfl (fun _ => aop_move rfl) (by repeat' first | exact trivial | rfl | refine And.intro ?_ ?_) ?_
  refine dr_read (j := 2) rfl rfl rfl (fun H i hi => aop_load_box (i := i) ty26 rfl hi (by simp [encT_len])) (by repeat' first | exact trivial | refine And.intro ?_ ?_ | ((refine Or.inr (And.intro ?_ ?_) <;> repeat (first | exact List.Mem.head _ | apply List.Mem.tail)); done) | exact Or.inl (by kernel_rfl)) (by repeat' first | exact trivial | rfl | refine And.intro ?_ ?_) ?_
  refine dr_eff rfl rfl (aop_retn [0] rfl (.inr rfl) (over1_c xs t bn 6 h1 h2) ⟨_, _, rfl, rfl, rfl⟩ (by decide) rfl (.inl rfl)) (by repeat' first | exact trivial | refine And.intro ?_ ?_ | ((refine Or.inr (And.intro ?_ ?_) <;> repeat (first | exact List.Mem.head _ | apply List.Mem.tail)); done) | exact Or.inl (by kernel_rfl)) (by repeat' first | exact trivial | rfl | refine And.intro ?_ ?_) ?_
  refine dr_eff rfl rfl (aop_store_whole (i := 1) ty26 rfl rfl rfl (by simp [encT_len]) (by first | rfl | simp [encT_len]) (one_Tm _)) (by repeat' first | exact trivial | refine And.intro ?_ ?_ | ((refine Or.inr (And.intro ?_ ?_) <;> repeat (first | exact List.Mem.head _ | apply List.Mem.tail)); done) | exact Or.inl (by kernel_rfl)) (by repeat' first | exact trivial | rfl | refine And.intro ?_ ?_) ?_
  refine dr_end rfl (by kernel_rfl) ?_
  refine awp_ret ?_
  refine ⟨rfl, _, _, ⟨_, _, rfl, (resv_row (i := 1) ty26 rfl rfl (by simp [encT_len])), rfl⟩, (List.nil_sublist _), ?_⟩
  all_goals exact ⟨rfl, rfl⟩

end Go.Proofs.YtgfecpjmbgcobaaGreat
/- Contracts of functions of the program. -/
namespace Go.Proofs.YtgfecpjmbgcobaaGreat
open Go.Abs Go.Eu
set_option linter.unusedVariables false
set_option linter.unusedSimpArgs false
set_option maxRecDepth 100000
theorem patternP_c : ∀ (t : Tm), (Nd t) → (size t < big) → Fun Tryz.prog 25 [.agg ((encT t).map .p)] (.tup [.p (I ((patW t).1)), .p (.lst (List.map encI ((patW t).2.1))), .p (.bool ((patW t).2.2))]) := by
  intro t h1 h2
  have hsl := spine_len t
  simp only [big] at h2
  refine acalls_of_awp Tryz.func25 rfl en25 (n := 42) rfl rfl ?_
  refine awp_seq ?_
  refine awp_region ?_
  refine al_new rfl rfl (aop_box rfl) fun b1 => ?_
  refine al_step rfl rfl (aop_assign rfl) ?_
  refine al_step rfl rfl (aop_assign rfl) ?_
  refine al_step rfl rfl (aop_assign rfl) ?_
  refine al_end rfl ?_
  refine awp_seq ?_
  refine awp_region ?_
  refine al_step rfl rfl (aop_load_box (i := 0) ty26 rfl rfl (by simp [encT_len])) ?_
  refine al_step rfl rfl (aop_fun rfl rfl (spineP_c t h1 (by simp only [big]; omega)) rfl) ?_
  refine al_step rfl rfl (aop_move rfl) ?_
  refine al_step rfl rfl (aop_extract rfl rfl) ?_
  refine al_step rfl rfl (aop_extract rfl rfl) ?_
  refine al_new rfl rfl (aop_alloc zr26 rfl) fun b5 => ?_
  refine al_step rfl rfl (aop_store_whole (i := 0) ty26 rfl rfl rfl (by simp [encT_len]) (by first | rfl | simp [encT_len]) (one_Tm _)) ?_
  refine al_step rfl rfl (aop_assign rfl) ?_
  refine al_end rfl ?_
  refine awp_seq ?_
  refine awp_seq ?_
  refine awp_region ?_
  refine al_step rfl rfl (aop_field_ptr fd26 rfl rfl) ?_
  generalize hz : (spine t).1 = z
  obtain ⟨zk, zi, zn, zl, zs⟩ := z
  refine al_step rfl rfl (aop_load_box1 (i := 0) ty3 rfl rfl rfl) ?_
  refine al_step rfl rfl (aop_cmp rfl rfl rfl) ?_
  refine al_end rfl ?_
  refine awp_cond rfl (fun c => ?_) (fun c => ?_)
  · (try simp only [sd, se] at c)
    refine awp_seq ?_
    refine awp_region ?_
    refine al_step rfl rfl (aop_assign rfl) ?_
    refine al_step rfl rfl (aop_assign rfl) ?_
    refine al_step rfl rfl (aop_assign rfl) ?_
    refine al_end rfl ?_
    refine awp_ghost (ghost_nslot 3) ?_
    refine awp_ret ?_
    refine ⟨rfl, _, _, ⟨_, _, rfl, rfl, ⟨_, _, rfl, rfl, ⟨_, _, rfl, rfl, rfl⟩⟩⟩, (List.nil_sublist _), ?_⟩
    rw [patW_no (by rw [hz]; exact c)]
    all_goals exact ⟨rfl, rfl⟩
  · (try simp only [sd, se] at c)
    refine awp_skip ?_
    refine awp_seq ?_
    refine awp_region ?_
    refine al_step rfl rfl (aop_assign rfl) ?_
    refine al_end rfl ?_
    refine awp_seq ?_
    refine awp_seq ?_
    refine awp_region ?_
    refine al_step rfl rfl (aop_move rfl) ?_
    refine al_step rfl rfl (aop_lenE el24 rfl (encTs_len _)) ?_
    refine al_step rfl rfl (aop_move rfl) ?_
    refine al_end rfl ?_
    refine awp_block ?_
    refine awp_ghost (ghost_own (t := 7) (sz := 1) rfl) ?_
    refine awp_while (α := Nat × List Int × Option Nat × Nat) (fun (i, l, o, cp) => ⟨42, mk [(5, .ptr b5 0), (7, .vs o (List.map encI l).length cp), (18, .p (.lst (encTs ((spine t).2)))), (19, .p (I (((spine t).2).length : Nat))), (20, .p (I (i : Int)))], [.vec o 1 (List.map encI l) cp, .box b5 [.p (I zk), .p (I zi), .p (.str zn), .p (.lst (List.map encL zl)), .p (.lst (encTs zs))]], []⟩) (fun (i, l, o, cp) => (spine t).2.length - i) (fun (i, l, o, cp) => i ≤ (spine t).2.length ∧ (patL l ((spine t).2.drop i) = patL [] (spine t).2 ∧ l.length ≤ i)) ⟨0, [], none, 0⟩ (by simp) ?_ ?_
    · exact le_mkW ⟨we rfl, we rfl, we rfl, we rfl, we rfl, trivial⟩ (leH (is := [0, 1]) rfl (wl (oe rfl) (wl (oe rfl) (wl0))))
    rintro ⟨i, l, o, cp⟩ hC
    try simp only at hC
    obtain ⟨hi, hC, hl⟩ := hC
    refine awp_seq ?_
    refine awp_region ?_
    refine al_step rfl rfl (aop_cmp rfl rfl rfl) ?_
    refine al_end rfl ?_
    refine awp_seq ?_
    refine awp_cond rfl (fun c1 => ?_) (fun c1 => ?_)
    · (try simp only [sd, se] at c1)
      refine awp_skip ?_
      refine awp_seq ?_
      refine awp_block ?_
      refine awp_seq ?_
      refine awp_region ?_
      obtain ⟨x, hx⟩ := getElem?_of_lt (l := (spine t).2) (i := i) (by omega)
      refine al_step rfl rfl (aop_index_lst el24 rfl rfl (by omega) (encTs_get hx) (encT_len _)) ?_
      refine al_step rfl rfl (aop_load_ref ty26 rfl (encT_len _)) ?_
      refine al_new rfl rfl (aop_alloc zr26 rfl) fun b9 => ?_
      refine al_step rfl rfl (aop_store_whole (i := 0) ty26 rfl rfl rfl (by simp [encT_len]) (by first | rfl | simp [encT_len]) (one_Tm _)) ?_
      refine al_end rfl ?_
      refine awp_seq ?_
      refine awp_seq ?_
      refine awp_region ?_
      refine al_step rfl rfl (aop_field_ptr fd26 rfl rfl) ?_
      obtain ⟨xk, xi, xn, xl, xs⟩ := x
      refine al_step rfl rfl (aop_load_box1 (i := 0) ty3 rfl rfl rfl) ?_
      refine al_step rfl rfl (aop_cmp rfl rfl rfl) ?_
      refine al_step rfl rfl (aop_move rfl) ?_
      refine al_case 27 rfl (fun g => ?_) (fun g => ?_)
      · (try simp only [sd, se] at g)
        refine al_pass rfl rfl rfl rfl rfl ?_
        refine al_pass rfl rfl rfl rfl rfl ?_
        refine al_pass rfl rfl rfl rfl rfl ?_
        refine al_pass rfl rfl rfl rfl rfl ?_
        refine al_step rfl rfl (aop_pick rfl rfl) ?_
        refine al_end rfl ?_
        refine awp_cond rfl (fun c2 => ?_) (fun c2 => by cases c2)
        refine awp_seq ?_
        refine awp_region ?_
        refine al_step rfl rfl (aop_assign rfl) ?_
        refine al_step rfl rfl (aop_assign rfl) ?_
        refine al_step rfl rfl (aop_assign rfl) ?_
        refine al_end rfl ?_
        refine awp_ghost (ghost_nslot 3) ?_
        refine awp_ret ?_
        refine ⟨rfl, _, _, ⟨_, _, rfl, rfl, ⟨_, _, rfl, rfl, ⟨_, _, rfl, rfl, rfl⟩⟩⟩, (List.nil_sublist _), ?_⟩
        rw [patW_none (by rw [hz]; exact c) (by rw [← hC, drop_at hx, patL, if_pos (.inl g)])]
        all_goals exact ⟨rfl, rfl⟩
      · (try simp only [sd, se] at g)
        refine al_stepg rfl rfl rfl rfl (aop_move rfl) ?_
        refine al_stepg rfl rfl rfl rfl (aop_field_ptr fd26 rfl rfl) ?_
        refine al_stepg rfl rfl rfl rfl (aop_load_box1 (i := 0) ty3 rfl rfl rfl) ?_
        refine al_stepg rfl rfl rfl rfl (aop_lend (i := 1) rfl rfl rfl (containsI_c l xi (by simp only [big]; omega)) ⟨_, _, rfl, .inr (.inr ⟨rfl, rfl⟩), ⟨_, _, rfl, .inl rfl, rfl⟩⟩ rfl) ?_
        refine al_step rfl rfl (aop_pick rfl rfl) ?_
        refine al_end rfl ?_
        refine awp_cond rfl (fun c2 => ?_) (fun c2 => ?_)
        · (try simp only [sd, se] at c2)
          refine awp_seq ?_
          refine awp_region ?_
          refine al_step rfl rfl (aop_assign rfl) ?_
          refine al_step rfl rfl (aop_assign rfl) ?_
          refine al_step rfl rfl (aop_assign rfl) ?_
          refine al_end rfl ?_
          refine awp_ghost (ghost_nslot 3) ?_
          refine awp_ret ?_
          refine ⟨rfl, _, _, ⟨_, _, rfl, rfl, ⟨_, _, rfl, rfl, ⟨_, _, rfl, rfl, rfl⟩⟩⟩, (List.nil_sublist _), ?_⟩
          rw [patW_none (by rw [hz]; exact c) (by rw [← hC, drop_at hx, patL, if_pos (.inr (by simpa [inB] using c2))])]
          all_goals exact ⟨rfl, rfl⟩
        · (try simp only [sd, se] at c2)
          refine awp_skip ?_
          refine awp_region ?_
          refine al_step rfl rfl (aop_move rfl) ?_
          refine al_step rfl rfl (aop_field_ptr fd26 rfl rfl) ?_
          refine al_step rfl rfl (aop_load_box1 (i := 0) ty3 rfl rfl rfl) ?_
          refine al_step rfl rfl (aop_buildSlice el59 zr3 rfl rfl rfl rfl rfl) ?_
          refine al_app rfl rfl (aop_append2 (i := 1) (rows' := List.map encI [xi]) el59 el59 zr3 rfl rfl rfl rfl rfl rfl (solid_Int _) (by simp only [encTs_len, List.length_map, List.length_cons, List.length_nil, List.nil_append, List.length_append]; omega) (vn_map (f := encI) l [xi])) fun o1 cp1 => ?_
          refine al_step rfl rfl (aop_assign rfl) ?_
          refine al_end rfl ?_
          refine awp_region ?_
          refine al_step rfl rfl (aop_add rfl rfl (by omega) (by omega)) ?_
          refine al_step rfl rfl (aop_move rfl) ?_
          refine al_end rfl ?_
          refine ⟨⟨i + 1, l ++ [xi], o1, cp1⟩, (by first | omega | (simp only; omega)), ⟨by omega, ⟨by rw [← hC, drop_at hx, patL, if_neg (by simp only [inB, decide_eq_false_iff_not] at c2; simp [g, c2])], by simp; omega⟩⟩, le_mkW ⟨we rfl, we rfl, we rfl, we rfl, we rfl, trivial⟩ (leH (is := [1, 2]) rfl (wl (oe rfl) (wl (oe rfl) (wl0))))⟩
    · (try simp only [sd, se] at c1)
      refine awp_exit ?_
      refine awp_seq ?_
      refine awp_region ?_
      refine al_step rfl rfl (aop_field_ptr fd26 rfl rfl) ?_
      refine al_step rfl rfl (aop_load_box1 (i := 1) ty3 rfl rfl rfl) ?_
      refine al_step rfl rfl (aop_move rfl) ?_
      refine al_step rfl rfl (aop_assign rfl) ?_
      refine al_step rfl rfl (aop_assign rfl) ?_
      refine al_step rfl rfl (aop_assign rfl) ?_
      refine al_end rfl ?_
      refine awp_ghost (ghost_freeze (i := 0) [7, 41, 3] rfl (memall ⟨rfl, rfl, rfl, trivial⟩)) ?_
      refine awp_ret ?_
      refine ⟨rfl, _, _, ⟨_, _, rfl, rfl, ⟨_, _, rfl, rfl, ⟨_, _, rfl, rfl, rfl⟩⟩⟩, (List.nil_sublist _), ?_⟩
      rw [patW_some (l := l) (by rw [hz]; exact c) (by rw [← hC, show i = (spine t).2.length by omega, List.drop_length]; rfl), hz]
      all_goals exact ⟨rfl, rfl⟩

theorem newP_c : ∀ (ms : List Mv) (ctx : List Tm) (t : Tm) (cl : Bool), (ms.length < 2 ^ 37) → (Nds ctx) → (Nd t) → (ctx.length < big) → (size (bindsT 6 ctx t) < 1152921504606846976) → Fun Tryz.prog 26 [.p (.lst (List.map encM ms)), .p (.lst (encTs ctx)), .agg ((encT t).map .p), .p (.bool cl)] (.tup [.p (.lst (List.map encM ((newW ms ctx t cl).1))), .agg ((encT ((newW ms ctx t cl).2.1)).map .p), .p (I ((newW ms ctx t cl).2.2))]) := by
  intro ms ctx t cl h1 h2 h3 h4 h5
  simp only [big] at h4
  have hvl := varsW_len ctx.length 0
  refine acalls_of_awp Tryz.func26 rfl en26 (n := 45) rfl rfl ?_
  refine awp_seq ?_
  refine awp_region ?_
  refine al_new rfl rfl (aop_box rfl) fun b6 => ?_
  refine al_step rfl rfl (aop_assign rfl) ?_
  refine al_new rfl rfl (aop_alloc zr26 rfl) fun b9 => ?_
  refine al_step rfl rfl (aop_assign rfl) ?_
  refine al_end rfl ?_
  refine awp_seq ?_
  refine awp_seq ?_
  refine awp_region ?_
  refine al_step rfl rfl (aop_move rfl) ?_
  refine al_step rfl rfl (aop_lenE el22 rfl (List.length_map _)) ?_
  refine al_step rfl rfl (aop_cmp rfl rfl rfl) ?_
  refine al_end rfl ?_
  refine awp_cond rfl (fun c => ?_) (fun c => ?_)
  · (try simp only [sd, se] at c)
    refine awp_seq ?_
    refine awp_region ?_
    refine al_step rfl rfl (aop_build fd26 zr26 rfl) ?_
    refine al_step rfl rfl (aop_assign rfl) ?_
    refine al_step rfl rfl (aop_store_box (i := 0) ty26 rfl rfl rfl rfl rfl rfl) ?_
    refine al_step rfl rfl (aop_assign rfl) ?_
    refine al_end rfl ?_
    refine awp_ghost (ghost_nslot 8) ?_
    refine awp_ghost (ghost_box (i := 0) rfl) ?_
    refine awp_ret ?_
    refine ⟨rfl, _, _, ⟨_, _, rfl, rfl, ⟨_, _, rfl, (resv_row (i := 0) ty26 rfl rfl rfl), ⟨_, _, rfl, rfl, rfl⟩⟩⟩, (List.nil_sublist _), ?_⟩
    rw [newW_many (by omega)]
    all_goals exact ⟨rfl, rfl⟩
  · (try simp only [sd, se] at c)
    refine awp_skip ?_
    refine awp_seq ?_
    refine awp_region ?_
    refine al_step rfl rfl (aop_move rfl) ?_
    refine al_step rfl rfl (aop_load_box (i := 1) ty26 rfl rfl (by simp [encT_len])) ?_
    refine al_step rfl rfl (aop_fun rfl rfl (pisP_c ctx t h2 h4) rfl) ?_
    refine al_new rfl rfl (aop_alloc zr26 rfl) fun b11 => ?_
    refine al_step rfl rfl (aop_store_whole (i := 0) ty26 rfl rfl rfl (by simp [encT_len]) (by first | rfl | simp [encT_len]) (one_Tm _)) ?_
    refine al_end rfl ?_
    refine awp_seq ?_
    refine awp_block ?_
    refine awp_seq ?_
    refine awp_region ?_
    refine al_step rfl rfl (aop_load_box (i := 0) ty26 rfl rfl (by simp [encT_len])) ?_
    refine al_step rfl rfl (aop_fun rfl rfl (sizeP_c (bindsT 6 ctx t) (bindsT_nd h2 h3) h5) rfl) ?_
    refine al_step rfl rfl (aop_cmp rfl rfl rfl) ?_
    refine al_step rfl rfl (aop_assign rfl) ?_
    refine al_end rfl ?_
    refine awp_cond rfl (fun c1 => ?_) (fun c1 => ?_)
    · (try simp only [sd, se] at c1)
      refine awp_seq ?_
      refine awp_region ?_
      refine al_step rfl rfl (aop_build fd26 zr26 rfl) ?_
      refine al_step rfl rfl (aop_assign rfl) ?_
      refine al_step rfl rfl (aop_store_box (i := 1) ty26 rfl rfl rfl rfl rfl rfl) ?_
      refine al_step rfl rfl (aop_assign rfl) ?_
      refine al_end rfl ?_
      refine awp_ghost (ghost_nslot 8) ?_
      refine awp_ghost (ghost_box (i := 1) rfl) ?_
      refine awp_ret ?_
      refine ⟨rfl, _, _, ⟨_, _, rfl, rfl, ⟨_, _, rfl, (resv_row (i := 1) ty26 rfl rfl rfl), ⟨_, _, rfl, rfl, rfl⟩⟩⟩, (List.nil_sublist _), ?_⟩
      rw [newW_long (by omega) (by rw [sizeW_eq (by omega)]; omega)]
      all_goals exact ⟨rfl, rfl⟩
    · (try simp only [sd, se] at c1)
      refine awp_seq ?_
      refine awp_region ?_
      refine al_step rfl rfl (aop_load_box (i := 0) ty26 rfl rfl (by simp [encT_len])) ?_
      refine al_step rfl rfl (aop_fun rfl rfl (depthP_c _ (bindsT 6 ctx t) (Nat.le_refl _) (bindsT_nd h2 h3)) rfl) ?_
      refine al_step rfl rfl (aop_cmp rfl rfl rfl) ?_
      refine al_step rfl rfl (aop_assign rfl) ?_
      refine al_end rfl ?_
      refine awp_cond rfl (fun c2 => ?_) (fun c2 => ?_)
      · (try simp only [sd, se] at c2)
        refine awp_seq ?_
        refine awp_region ?_
        refine al_step rfl rfl (aop_build fd26 zr26 rfl) ?_
        refine al_step rfl rfl (aop_assign rfl) ?_
        refine al_step rfl rfl (aop_store_box (i := 1) ty26 rfl rfl rfl rfl rfl rfl) ?_
        refine al_step rfl rfl (aop_assign rfl) ?_
        refine al_end rfl ?_
        refine awp_ghost (ghost_nslot 8) ?_
        refine awp_ghost (ghost_box (i := 1) rfl) ?_
        refine awp_ret ?_
        refine ⟨rfl, _, _, ⟨_, _, rfl, rfl, ⟨_, _, rfl, (resv_row (i := 1) ty26 rfl rfl rfl), ⟨_, _, rfl, rfl, rfl⟩⟩⟩, (List.nil_sublist _), ?_⟩
        rw [newW_deep (by omega) (by rw [sizeW_eq (by omega)]; omega) (by omega)]
        all_goals exact ⟨rfl, rfl⟩
      · (try simp only [sd, se] at c2)
        refine awp_skip ?_
        refine awp_seq ?_
        refine awp_region ?_
        refine al_step rfl rfl (aop_move rfl) ?_
        refine al_step rfl rfl (aop_lenE el22 rfl (List.length_map _)) ?_
        refine al_step rfl rfl (aop_build fd26 zr26 rfl) ?_
        refine al_step rfl rfl (aop_move rfl) ?_
        refine al_step rfl rfl (aop_lenE el24 rfl (encTs_len _)) ?_
        refine al_step rfl rfl (aop_fun rfl rfl (varsP_c (ctx.length : Nat) 0 (by omega)) rfl) ?_
        refine al_step rfl rfl (aop_funW rfl rfl (applyP_c (.mk 12 (ms.length : Nat) ⟨#[]⟩ [] [] : Tm) (varsW (ctx.length : Nat) 0) (by simp only [big]; omega)) (aw (weak_norm rfl) (aw (we rfl) (aw0)))) ?_
        refine al_new rfl rfl (aop_alloc zr26 rfl) fun b12 => ?_
        refine al_step rfl rfl (aop_store_whole (i := 0) ty26 rfl rfl rfl (by simp [encT_len]) (by first | rfl | simp [encT_len]) (one_Tm _)) ?_
        refine al_end rfl ?_
        refine awp_seq ?_
        refine awp_dr (fun k => Nat.beq k 1 || Nat.beq k 6) mx0 ?_
        refine dr_free rfl rfl (fun _ => aop_move rfl) trivial ?_
        generalize hz : bindsT 6 ctx t = z
        obtain ⟨zk, zi, zn, zl, zs⟩ := z
        refine dr_own [(2, .read (.box b11 [.p (I zk), .p (I zi), .p (.str zn), .p (.lst (List.map encL zl)), .p (.lst (encTs zs))]) (.agg [.p (I zk), .p (I zi), .p (.str zn), .p (.lst (List.map encL zl)), .p (.lst (encTs zs))])), (3, .free (.p (.bool cl))), (4, .free (.agg [.p (I zk), .p (I zi), .p (.str zn), .p (.lst (List.map encL zl)), .p (.lst (encTs zs)), .p (.bool false), .p (I 0), .p (I 0), .p (.str ⟨#[]⟩), .p (.nils), .p (.nils), .p (.bool cl)])), (5, .free (.p (.lst (List.map encM ([(Mv.mk (.mk zk zi zn zl zs : Tm) false (.mk 0 0 ⟨#[]⟩ [] [] : Tm) cl)]))))), (7, .read (.box b12 ((encT (apply (.mk 12 (ms.length : Nat) ⟨#[]⟩ [] [] : Tm) (varsW (ctx.length : Nat) 0))).map .p)) (.agg ((encT (apply (.mk 12 (ms.length : Nat) ⟨#[]⟩ [] [] : Tm) (varsW (ctx.length : Nat) 0))).map .p)))] rfl rfl rfl (.inl ⟨rfl, rfl, rfl⟩) (cloneM_c ms (by omega)) (.inl rfl) (by kernel_rfl) fun o cp => ⟨(by repeat' first | exact trivial | refine And.intro ?_ ?_ | ((refine Or.inr (And.intro ?_ ?_) <;> repeat (first | exact List.Mem.head _ | apply List.Mem.tail)); done) | exact Or.inl (by kernel_rfl)), trivial, ?_⟩
        refine dr_read (j := 2) rfl rfl rfl (fun H i hi => aop_load_box (i := i) ty26 rfl hi rfl) (by repeat' first | exact trivial | refine And.intro ?_ ?_ | ((refine Or.inr (And.intro ?_ ?_) <;> repeat (first | exact List.Mem.head _ | apply List.Mem.tail)); done) | exact Or.inl (by kernel_rfl)) (by repeat' first | exact trivial | rfl | refine And.intro ?_ ?_) ?_
        refine dr_free rfl rfl (fun _ => aop_move rfl) (by repeat' first | exact trivial | rfl | refine And.intro ?_ ?_) ?_
        refine dr_free rfl rfl (fun _ => aop_build fd44 zr44 rfl) (by repeat' first | exact trivial | rfl | refine And.intro ?_ ?_) ?_
        refine dr_free rfl rfl (fun _ => aop_buildSlice el22 zr44 rfl rfl rfl rfl rfl) (by repeat' first | exact trivial | rfl | refine And.intro ?_ ?_) ?_
        refine dr_app [(7, .read (.box b12 ((encT (apply (.mk 12 (ms.length : Nat) ⟨#[]⟩ [] [] : Tm) (varsW (ctx.length : Nat) 0))).map .p)) (.agg ((encT (apply (.mk 12 (ms.length : Nat) ⟨#[]⟩ [] [] : Tm) (varsW (ctx.length : Nat) 0))).map .p)))] rfl rfl (aop_append2 (i := 0) (rows' := List.map encM ([(Mv.mk (.mk zk zi zn zl zs : Tm) false (.mk 0 0 ⟨#[]⟩ [] [] : Tm) cl)])) el22 el22 zr44 rfl rfl rfl rfl rfl rfl (solid_Mv _) (by simp only [encTs_len, List.length_map, List.length_cons, List.length_nil, List.nil_append, List.length_append]; omega) (vn_map (f := encM) ms ([(Mv.mk (.mk zk zi zn zl zs : Tm) false (.mk 0 0 ⟨#[]⟩ [] [] : Tm) cl)]))) (by kernel_rfl) fun o1 cp1 => ⟨(by repeat' first | exact trivial | refine And.intro ?_ ?_ | ((refine Or.inr (And.intro ?_ ?_) <;> repeat (first | exact List.Mem.head _ | apply List.Mem.tail)); done) | exact Or.inl (by kernel_rfl)), (by repeat' first | exact trivial | rfl | refine And.intro ?_ ?_), ?_⟩
        refine dr_read (j := 1) rfl rfl rfl (fun H i hi => aop_load_box (i := i) ty26 rfl hi (by simp [encT_len])) (by repeat' first | exact trivial | refine And.intro ?_ ?_ | ((refine Or.inr (And.intro ?_ ?_) <;> repeat (first | exact List.Mem.head _ | apply List.Mem.tail)); done) | exact Or.inl (by kernel_rfl)) (by repeat' first | exact trivial | rfl | refine And.intro ?_ ?_) ?_
        refine dr_free rfl rfl (fun _ => aop_assign rfl) (by repeat' first | exact trivial | rfl | refine And.intro ?_ ?_) ?_
        refine dr_eff rfl rfl (aop_store_whole (i := 3) ty26 rfl rfl rfl (by simp [encT_len]) (by first | rfl | simp [encT_len]) (one_Tm _)) (by repeat' first | exact trivial | refine And.intro ?_ ?_ | ((refine Or.inr (And.intro ?_ ?_) <;> repeat (first | exact List.Mem.head _ | apply List.Mem.tail)); done) | exact Or.inl (by kernel_rfl)) (by repeat' first | exact trivial | rfl | refine And.intro ?_ ?_) ?_
        refine dr_free rfl rfl (fun _ => aop_assign rfl) (by repeat' first | exact trivial | rfl | refine And.intro ?_ ?_) ?_
        refine dr_end rfl (by kernel_rfl) ?_
        refine awp_ghost (ghost_freeze (i := 0) [8, 43] rfl (memall ⟨rfl, rfl, trivial⟩)) ?_
        refine awp_ret ?_
        refine ⟨rfl, _, _, ⟨_, _, rfl, rfl, ⟨_, _, rfl, (resv_row (i := 2) ty26 rfl rfl (by simp [encT_len])), ⟨_, _, rfl, rfl, rfl⟩⟩⟩, (List.nil_sublist _), ?_⟩
        rw [newW_ok (by omega) (by rw [sizeW_eq (by omega)]; omega) (by omega), hz]
        all_goals exact ⟨rfl, rfl⟩

end Go.Proofs.YtgfecpjmbgcobaaGreat
/- Contracts of functions of the program. -/
namespace Go.Proofs.YtgfecpjmbgcobaaGreat
open Go.Abs Go.Eu
set_option linter.unusedVariables false
set_option linter.unusedSimpArgs false
set_option maxRecDepth 100000
theorem stopS_c : ∀ (e : Int), ACalls Tryz.prog 116 [.p (I e)] [] (panicR (.p (.iface 156 (I e))) []) := by
  intro e
  refine acalls_of_awp Tryz.func116 rfl en116 (n := 4) rfl rfl ?_
  refine awp_region ?_
  refine al_step rfl rfl (aop_move rfl) ?_
  refine al_step rfl rfl (aop_makeIface um156 (by intro ms h; cases h) rfl) ?_
  refine al_panic rfl rfl (aop_panic rfl) ?_
  exact ⟨rfl, _, List.nil_sublist _, ⟨rfl, rfl⟩⟩

theorem caughtS_c : ∀ (e : Int), Fun Tryz.prog 98 [.p (.iface 156 (I e))] (.p (I e)) := by
  intro e
  refine acalls_of_awp Tryz.func98 rfl en98 (n := 14) rfl rfl ?_
  refine awp_seq ?_
  refine awp_region ?_
  refine al_step rfl rfl (aop_assign rfl) ?_
  refine al_end rfl ?_
  refine awp_seq ?_
  refine awp_region ?_
  refine al_step rfl rfl (aop_move rfl) ?_
  refine al_step rfl rfl (aop_assert um156 rfl rfl) ?_
  refine al_step rfl rfl (aop_move rfl) ?_
  refine al_step rfl rfl (aop_extract rfl rfl) ?_
  refine al_step rfl rfl (aop_extract rfl rfl) ?_
  refine al_step rfl rfl (aop_assign rfl) ?_
  refine al_step rfl rfl (aop_assign rfl) ?_
  refine al_end rfl ?_
  refine awp_seq ?_
  refine awp_seq ?_
  refine awp_region ?_
  refine al_step rfl rfl (aop_move rfl) ?_
  refine al_step rfl rfl (aop_not rfl) ?_
  refine al_end rfl ?_
  refine awp_cond rfl (fun c => by cases c) (fun c => ?_)
  refine awp_skip ?_
  refine awp_seq ?_
  refine awp_region ?_
  refine al_step rfl rfl (aop_move rfl) ?_
  refine al_step rfl rfl (aop_assign rfl) ?_
  refine al_end rfl ?_
  refine awp_ret ?_
  refine ⟨rfl, _, _, ⟨_, _, rfl, rfl, rfl⟩, (List.nil_sublist _), ?_⟩
  all_goals exact ⟨rfl, rfl⟩

theorem bindsP_c : ∀ (k i : Int), Fun Tryz.prog 117 [.p (I k), .p (I i)] (.p (I (below k i))) := by
  intro k i
  refine acalls_of_awp Tryz.func117 rfl en117 (n := 26) rfl rfl ?_
  refine awp_seq ?_
  refine awp_region ?_
  refine al_step rfl rfl (aop_assign rfl) ?_
  refine al_end rfl ?_
  refine awp_seq ?_
  refine awp_block ?_
  refine awp_seq ?_
  refine awp_seq ?_
  refine awp_meetR [0, 1] 5 (fun y => y = .p (.bool (((i : Int) == (1 : Int)) && ((((k : Int) == (5 : Int)) || ((k : Int) == (6 : Int))) || ((k : Int) == (7 : Int)))))) ?_ ?_
  · refine awp_region ?_
    refine al_step rfl rfl (aop_move rfl) ?_
    refine al_step rfl rfl (aop_cmp rfl rfl rfl) ?_
    refine al_step rfl rfl (aop_move rfl) ?_
    refine al_case 8 rfl (fun g => ?_) (fun g => ?_)
    · (try simp only [sd, se] at g)
      refine al_stepg rfl rfl rfl rfl (aop_move rfl) ?_
      refine al_stepg rfl rfl rfl rfl (aop_cmp rfl rfl rfl) ?_
      refine al_stepg rfl rfl rfl rfl (aop_move rfl) ?_
      refine al_case 11 rfl (fun g1 => ?_) (fun g1 => ?_)
      · (try simp only [sd, se] at g1)
        refine al_pass rfl rfl rfl rfl rfl ?_
        refine al_pass rfl rfl rfl rfl rfl ?_
        refine al_stepg rfl rfl rfl rfl (aop_pick rfl rfl) ?_
        refine al_stepg rfl rfl rfl rfl (aop_move rfl) ?_
        refine al_pass rfl rfl rfl rfl rfl ?_
        refine al_pass rfl rfl rfl rfl rfl ?_
        refine al_stepg rfl rfl rfl rfl (aop_pick rfl rfl) ?_
        refine al_step rfl rfl (aop_pick rfl rfl) ?_
        refine al_step rfl rfl (aop_assign rfl) ?_
        refine al_end rfl ?_
        exact ⟨rfl, rfl, (by first | exact List.Sublist.refl _ | exact List.sublist_cons_self _ _), (by first | rfl | (refine pB ?_; simp_all; done) | (refine pB ?_; simp_all <;> (intros; omega))), ⟨rfl, rfl, trivial⟩⟩
      · (try simp only [sd, se] at g1)
        refine al_stepg rfl rfl rfl rfl (aop_move rfl) ?_
        refine al_stepg rfl rfl rfl rfl (aop_cmp rfl rfl rfl) ?_
        refine al_stepg rfl rfl rfl rfl (aop_pick rfl rfl) ?_
        refine al_stepg rfl rfl rfl rfl (aop_move rfl) ?_
        refine al_case 15 rfl (fun g2 => ?_) (fun g2 => ?_)
        · (try simp only [sd, se] at g2)
          refine al_pass rfl rfl rfl rfl rfl ?_
          refine al_pass rfl rfl rfl rfl rfl ?_
          refine al_stepg rfl rfl rfl rfl (aop_pick rfl rfl) ?_
          refine al_step rfl rfl (aop_pick rfl rfl) ?_
          refine al_step rfl rfl (aop_assign rfl) ?_
          refine al_end rfl ?_
          exact ⟨rfl, rfl, (by first | exact List.Sublist.refl _ | exact List.sublist_cons_self _ _), (by first | rfl | (refine pB ?_; simp_all; done) | (refine pB ?_; simp_all <;> (intros; omega))), ⟨rfl, rfl, trivial⟩⟩
        · (try simp only [sd, se] at g2)
          refine al_stepg rfl rfl rfl rfl (aop_move rfl) ?_
          refine al_stepg rfl rfl rfl rfl (aop_cmp rfl rfl rfl) ?_
          refine al_stepg rfl rfl rfl rfl (aop_pick rfl rfl) ?_
          refine al_step rfl rfl (aop_pick rfl rfl) ?_
          refine al_step rfl rfl (aop_assign rfl) ?_
          refine al_end rfl ?_
          exact ⟨rfl, rfl, (by first | exact List.Sublist.refl _ | exact List.sublist_cons_self _ _), (by first | rfl | (refine pB ?_; simp_all; done) | (refine pB ?_; simp_all <;> (intros; omega))), ⟨rfl, rfl, trivial⟩⟩
    · (try simp only [sd, se] at g)
      refine al_pass rfl rfl rfl rfl rfl ?_
      refine al_pass rfl rfl rfl rfl rfl ?_
      refine al_pass rfl rfl rfl rfl rfl ?_
      refine al_pass0 rfl rfl rfl rfl ?_
      refine al_pass0 rfl rfl rfl rfl ?_
      refine al_pass rfl rfl rfl rfl rfl ?_
      refine al_pass rfl rfl rfl rfl rfl ?_
      refine al_pass0 rfl rfl rfl rfl ?_
      refine al_pass0 rfl rfl rfl rfl ?_
      refine al_pass rfl rfl rfl rfl rfl ?_
      refine al_step rfl rfl (aop_pick rfl rfl) ?_
      refine al_step rfl rfl (aop_assign rfl) ?_
      refine al_end rfl ?_
      exact ⟨rfl, rfl, (by first | exact List.Sublist.refl _ | exact List.sublist_cons_self _ _), (by first | rfl | (refine pB ?_; simp_all; done) | (refine pB ?_; simp_all <;> (intros; omega))), ⟨rfl, rfl, trivial⟩⟩
  rintro _ rfl
  refine awp_cond rfl (fun c => ?_) (fun c => ?_)
  · (try simp only [sd, se] at c)
    refine awp_skip ?_
    refine awp_cond rfl (fun c1 => ?_) (fun c1 => ?_)
    · (try simp only [sd, se] at c1)
      refine awp_seq ?_
      refine awp_region ?_
      refine al_step rfl rfl (aop_assign rfl) ?_
      refine al_end rfl ?_
      refine awp_ret ?_
      refine ⟨rfl, _, _, ⟨_, _, rfl, rfl, rfl⟩, (List.nil_sublist _), ?_⟩
      all_goals exact ⟨pI (by unfold below; simp_all), rfl⟩
    · (try simp only [sd, se] at c1)
      refine awp_skip ?_
      refine awp_seq ?_
      refine awp_region ?_
      refine al_step rfl rfl (aop_assign rfl) ?_
      refine al_end rfl ?_
      refine awp_ret ?_
      refine ⟨rfl, _, _, ⟨_, _, rfl, rfl, rfl⟩, (List.nil_sublist _), ?_⟩
      all_goals exact ⟨pI (by unfold below; simp_all), rfl⟩
  · (try simp only [sd, se] at c)
    refine awp_meetR [] 5 (fun y => y = .p (.bool (((i : Int) == (2 : Int)) && ((k : Int) == (11 : Int))))) ?_ ?_
    · refine awp_region ?_
      refine al_step rfl rfl (aop_move rfl) ?_
      refine al_step rfl rfl (aop_cmp rfl rfl rfl) ?_
      refine al_step rfl rfl (aop_move rfl) ?_
      refine al_case 22 rfl (fun g => ?_) (fun g => ?_)
      · (try simp only [sd, se] at g)
        refine al_stepg rfl rfl rfl rfl (aop_move rfl) ?_
        refine al_stepg rfl rfl rfl rfl (aop_cmp rfl rfl rfl) ?_
        refine al_step rfl rfl (aop_pick rfl rfl) ?_
        refine al_step rfl rfl (aop_assign rfl) ?_
        refine al_end rfl ?_
        exact ⟨rfl, rfl, (by first | exact List.Sublist.refl _ | exact List.sublist_cons_self _ _), (by first | rfl | (refine pB ?_; simp_all; done) | (refine pB ?_; simp_all <;> (intros; omega))), trivial⟩
      · (try simp only [sd, se] at g)
        refine al_pass rfl rfl rfl rfl rfl ?_
        refine al_pass rfl rfl rfl rfl rfl ?_
        refine al_step rfl rfl (aop_pick rfl rfl) ?_
        refine al_step rfl rfl (aop_assign rfl) ?_
        refine al_end rfl ?_
        exact ⟨rfl, rfl, (by first | exact List.Sublist.refl _ | exact List.sublist_cons_self _ _), (by first | rfl | (refine pB ?_; simp_all; done) | (refine pB ?_; simp_all <;> (intros; omega))), trivial⟩
    rintro _ rfl
    refine awp_cond rfl (fun c1 => ?_) (fun c1 => ?_)
    · (try simp only [sd, se] at c1)
      refine awp_seq ?_
      refine awp_region ?_
      refine al_step rfl rfl (aop_assign rfl) ?_
      refine al_end rfl ?_
      refine awp_ret ?_
      refine ⟨rfl, _, _, ⟨_, _, rfl, rfl, rfl⟩, (List.nil_sublist _), ?_⟩
      all_goals exact ⟨pI (by unfold below; simp_all), rfl⟩
    · (try simp only [sd, se] at c1)
      refine awp_skip ?_
      refine awp_seq ?_
      refine awp_region ?_
      refine al_step rfl rfl (aop_assign rfl) ?_
      refine al_end rfl ?_
      refine awp_ret ?_
      refine ⟨rfl, _, _, ⟨_, _, rfl, rfl, rfl⟩, (List.nil_sublist _), ?_⟩
      all_goals exact ⟨pI (by unfold below; simp_all), rfl⟩

theorem movedP_c : ∀ (i : Int), ACalls Tryz.prog 107 [.p (I i)] [] (exR (fun (r : Tm) => TV r) (fun e => .p (.iface 156 (I e))) (fun r H' => H' = []) (movedW i)) := by
  intro i
  refine acalls_of_awp Tryz.func107 rfl en107 (n := 8) rfl rfl ?_
  refine awp_seq ?_
  refine awp_region ?_
  refine al_new rfl rfl (aop_alloc zr26 rfl) fun b2 => ?_
  refine al_end rfl ?_
  refine awp_seq ?_
  refine awp_seq ?_
  refine awp_region ?_
  refine al_step rfl rfl (aop_move rfl) ?_
  refine al_step rfl rfl (aop_cmp rfl rfl rfl) ?_
  refine al_end rfl ?_
  refine awp_cond rfl (fun c => ?_) (fun c => ?_)
  · (try simp only [sd, se] at c)
    refine awp_region ?_
    refine al_pcall rfl rfl rfl (.inl ⟨rfl, rfl, rfl⟩) (stopS_c 24) (aw (we rfl) (aw0)) ?_
    exact ⟨rfl, _, List.nil_sublist _, ⟨_, by unfold movedW; rw [if_pos (by omega)], rfl⟩⟩
  · (try simp only [sd, se] at c)
    refine awp_skip ?_
    refine awp_seq ?_
    refine awp_region ?_
    refine al_step rfl rfl (aop_move rfl) ?_
    refine al_step rfl rfl (aop_build fd26 zr26 rfl) ?_
    refine al_step rfl rfl (aop_store_box (i := 0) ty26 rfl rfl rfl rfl rfl rfl) ?_
    refine al_end rfl ?_
    refine awp_ghost (ghost_box (i := 0) rfl) ?_
    refine awp_ret ?_
    refine ⟨rfl, _, _, ⟨_, _, rfl, (resv_row (i := 0) ty26 rfl rfl rfl), rfl⟩, (List.nil_sublist _), ?_⟩
    exact ⟨(.mk 0 i ⟨#[]⟩ [] [] : Tm), by unfold movedW; rw [if_neg (by omega)]; rfl, rfl, rfl⟩

theorem addP_c : ∀ (bc : Nat) (n m : Int), ACalls Tryz.prog 101 [.ptr bc 0, .p (I m)] [.box bc [.p (I n)]] (exR (fun (r : Int) => .tup []) (fun e => .p (.iface 156 (I e))) (fun r H' => H' = [.box bc [.p (I r)]]) (addW n m)) := by
  intro bc n m
  refine acalls_of_awp Tryz.func101 rfl en101 (n := 18) rfl rfl ?_
  refine awp_seq ?_
  refine awp_region ?_
  refine al_step rfl rfl (aop_move rfl) ?_
  refine al_step rfl rfl (aop_nilCheck rfl) ?_
  refine al_step rfl rfl (aop_field_ptr fd140 rfl rfl) ?_
  refine al_step rfl rfl (aop_load_box1 (i := 0) ty3 rfl rfl rfl) ?_
  refine al_step rfl rfl (aop_move rfl) ?_
  refine al_step rfl rfl (aop_addw rfl rfl) ?_
  refine al_step rfl rfl (aop_nilCheck rfl) ?_
  refine al_step rfl rfl (aop_field_ptr fd140 rfl rfl) ?_
  refine al_step rfl rfl (aop_store_box (i := 0) ty3 rfl rfl rfl rfl rfl rfl) ?_
  refine al_end rfl ?_
  refine awp_seq ?_
  refine awp_region ?_
  refine al_step rfl rfl (aop_move rfl) ?_
  refine al_step rfl rfl (aop_nilCheck rfl) ?_
  refine al_step rfl rfl (aop_field_ptr fd140 rfl rfl) ?_
  refine al_step rfl rfl (aop_load_box1 (i := 0) ty3 rfl rfl rfl) ?_
  refine al_step rfl rfl (aop_cmp rfl rfl rfl) ?_
  refine al_end rfl ?_
  refine awp_cond rfl (fun c => ?_) (fun c => ?_)
  · (try simp only [sd, se] at c)
    refine awp_region ?_
    refine al_pcall rfl rfl rfl (.inl ⟨rfl, rfl, rfl⟩) (stopS_c 5) (aw (we rfl) (aw0)) ?_
    exact ⟨rfl, _, List.nil_sublist _, ⟨_, by unfold addW; rw [if_pos (by omega)], rfl⟩⟩
  · (try simp only [sd, se] at c)
    refine awp_skip ?_
    refine ⟨rfl, _, _, rfl, (subl (is := [0]) rfl), ?_⟩
    exact ⟨(wr (n + m)), by unfold addW; rw [if_neg (by omega)], rfl, rfl⟩

end Go.Proofs.YtgfecpjmbgcobaaGreat
/- Contracts of functions of the program. -/
namespace Go.Proofs.YtgfecpjmbgcobaaGreat
open Go.Abs Go.Eu
set_option linter.unusedVariables false
set_option linter.unusedSimpArgs false
set_option maxRecDepth 100000
theorem plainP_c : ∀ (t : Tm), (Nd t) → Fun Tryz.prog 106 [.agg ((encT t).map .p)] (.agg ((encT (plainT t)).map .p)) := by
  intro t h1
  obtain ⟨tk, ti, tn, tl, ts⟩ := t
  simp only [Nd, big] at h1
  refine acalls_of_awp Tryz.func106 rfl en106 (n := 33) rfl rfl ?_
  refine awp_seq ?_
  refine awp_region ?_
  refine al_new rfl rfl (aop_box rfl) fun b1 => ?_
  refine al_new rfl rfl (aop_alloc zr26 rfl) fun b2 => ?_
  refine al_end rfl ?_
  refine awp_seq ?_
  refine awp_region ?_
  refine al_step rfl rfl (aop_field_ptr fd26 rfl rfl) ?_
  refine al_step rfl rfl (aop_load_box1 (i := 1) ty3 rfl rfl rfl) ?_
  refine al_step rfl rfl (aop_field_ptr fd26 rfl rfl) ?_
  refine al_step rfl rfl (aop_load_box1 (i := 1) ty3 rfl rfl rfl) ?_
  refine al_step rfl rfl (aop_field_ptr fd26 rfl rfl) ?_
  refine al_step rfl rfl (aop_load_box1 (i := 1) ty9 rfl rfl rfl) ?_
  refine al_step rfl rfl (aop_build fd26 zr26 rfl) ?_
  refine al_new rfl rfl (aop_alloc zr26 rfl) fun b3 => ?_
  refine al_step rfl rfl (aop_store_box (i := 0) ty26 rfl rfl rfl rfl rfl rfl) ?_
  refine al_end rfl ?_
  refine awp_seq ?_
  refine awp_seq ?_
  refine awp_region ?_
  refine al_ghost (ghost_obj (i := 0) rfl (obw (aw (we rfl) (aw (we rfl) (aw (we rfl) (aw (weak_nil0) (aw (we rfl) (aw0)))))))) ?_
  refine al_ghost (ghost_vec0 (sz := 2)) ?_
  refine al_step rfl rfl (aop_field_ptr fd26 rfl rfl) ?_
  refine al_step rfl rfl (aop_load_box1 (i := 3) ty23 rfl rfl rfl) ?_
  refine al_step rfl rfl (aop_lenE el23 rfl (List.length_map _)) ?_
  refine al_step rfl rfl (aop_move rfl) ?_
  refine al_end rfl ?_
  refine awp_block ?_
  refine awp_while (α := Nat × Option Nat × Nat) (fun (i, o, cp) => ⟨33, mk [(2, .ptr b2 0), (3, .ptr b3 0), (14, .p (.lst (List.map encL tl))), (15, .p (I (tl.length : Nat))), (16, .p (I (i : Int)))], [.vec o 2 (List.map encL (tl.take i)) cp, .box b3 [.p (I tk), .p (I ti), .p (.str tn), .vs o (List.map encL (tl.take i)).length cp, .p (.nils)], .box b2 [.p (I 0), .p (I 0), .p (.str ⟨#[]⟩), .p (.nils), .p (.nils)]], []⟩) (fun (i, o, cp) => tl.length - i) (fun (i, o, cp) => i ≤ tl.length) ⟨0, none, 0⟩ (by first | trivial | omega | simp | (simp; omega)) ?_ ?_
  · exact le_mkW ⟨we rfl, we rfl, we rfl, we rfl, we rfl, trivial⟩ (leH (is := [0, 1, 2]) rfl (wl (oe rfl) (wl (oe rfl) (wl (oe rfl) (wl0)))))
  rintro ⟨i, o, cp⟩ hC
  try simp only at hC
  have hi := hC
  refine awp_seq ?_
  refine awp_region ?_
  refine al_step rfl rfl (aop_cmp rfl rfl rfl) ?_
  refine al_end rfl ?_
  refine awp_seq ?_
  refine awp_cond rfl (fun c => ?_) (fun c => ?_)
  · (try simp only [sd, se] at c)
    refine awp_skip ?_
    refine awp_seq ?_
    refine awp_block ?_
    refine awp_seq ?_
    refine awp_region ?_
    obtain ⟨x, hx⟩ := getElem?_of_lt (l := tl) (i := i) (by omega)
    refine al_step rfl rfl (aop_index_lst el23 rfl rfl (by omega) (encL_get hx) (rfl)) ?_
    refine al_step rfl rfl (aop_load_ref ty49 rfl (rfl)) ?_
    refine al_new rfl rfl (aop_alloc zr49 rfl) fun b5 => ?_
    refine al_step rfl rfl (aop_store_box (i := 0) ty49 rfl rfl rfl rfl rfl rfl) ?_
    refine al_end rfl ?_
    refine awp_dr (fun k => Nat.beq k 9) mx0 ?_
    refine dr_free rfl rfl (fun _ => aop_field_ptr fd26 rfl rfl) trivial ?_
    refine dr_read (j := 2) rfl rfl rfl (fun H i hi => aop_load_box1 (i := i) ty23 rfl hi rfl) (by repeat' first | exact trivial | refine And.intro ?_ ?_ | ((refine Or.inr (And.intro ?_ ?_) <;> repeat (first | exact List.Mem.head _ | apply List.Mem.tail)); done) | exact Or.inl (by kernel_rfl)) trivial ?_
    refine dr_free rfl rfl (fun _ => aop_field_ptr fd49 rfl rfl) trivial ?_
    refine dr_read (j := 0) rfl rfl rfl (fun H i hi => aop_load_box1 (i := i) ty3 rfl hi rfl) (by repeat' first | exact trivial | refine And.intro ?_ ?_ | ((refine Or.inr (And.intro ?_ ?_) <;> repeat (first | exact List.Mem.head _ | apply List.Mem.tail)); done) | exact Or.inl (by kernel_rfl)) trivial ?_
    refine dr_free rfl rfl (fun _ => aop_field_ptr fd49 rfl rfl) trivial ?_
    refine dr_read (j := 0) rfl rfl rfl (fun H i hi => aop_load_box1 (i := i) ty47 rfl hi rfl) (by repeat' first | exact trivial | refine And.intro ?_ ?_ | ((refine Or.inr (And.intro ?_ ?_) <;> repeat (first | exact List.Mem.head _ | apply List.Mem.tail)); done) | exact Or.inl (by kernel_rfl)) trivial ?_
    refine dr_free rfl rfl (fun _ => aop_append_nil (rows' := List.map encV x.vars) el47 el47 zr101 rfl rfl (fun _ _ _ h => rep_vs0 h) rfl (solid_LVar _) (by have := h1.2.2.1 x (List.mem_of_getElem? hx); have := this.1; simp only [big] at this; simp only [List.length_map]; omega)) trivial ?_
    refine dr_free rfl rfl (fun _ => aop_build fd49 zr49 rfl) trivial ?_
    refine dr_free rfl rfl (fun _ => aop_buildSlice el23 zr49 rfl rfl rfl rfl rfl) trivial ?_
    refine dr_app [] rfl rfl (aop_append2 (i := 1) (rows' := List.map encL [(Lvl.mk x.const x.vars)]) el23 el23 zr49 rfl rfl rfl rfl rfl rfl (solid_Lvl _) (by simp only [List.length_map, List.length_take, List.length_cons, List.length_nil]; omega) (vn_map (f := encL) (tl.take i) [(Lvl.mk x.const x.vars)])) (by kernel_rfl) fun o1 cp1 => ⟨(by repeat' first | exact trivial | refine And.intro ?_ ?_ | ((refine Or.inr (And.intro ?_ ?_) <;> repeat (first | exact List.Mem.head _ | apply List.Mem.tail)); done) | exact Or.inl (by kernel_rfl)), trivial, ?_⟩
    refine dr_free rfl rfl (fun _ => aop_field_ptr fd26 rfl rfl) trivial ?_
    refine dr_eff rfl rfl (aop_store_box (i := 2) ty23 rfl rfl rfl rfl rfl rfl) (by repeat' first | exact trivial | refine And.intro ?_ ?_ | ((refine Or.inr (And.intro ?_ ?_) <;> repeat (first | exact List.Mem.head _ | apply List.Mem.tail)); done) | exact Or.inl (by kernel_rfl)) trivial ?_
    refine dr_end rfl (by kernel_rfl) ?_
    refine awp_region ?_
    refine al_step rfl rfl (aop_add rfl rfl (by omega) (by omega)) ?_
    refine al_step rfl rfl (aop_move rfl) ?_
    refine al_end rfl ?_
    refine ⟨⟨i + 1, o1, cp1⟩, (by first | omega | (simp only; omega)), by omega, le_mkW ⟨we rfl, we rfl, we rfl, we rfl, we rfl, trivial⟩ (leH (is := [1, 2, 3]) rfl (wl (ovE_map (f := encL) (tl.take i ++ [(Lvl.mk x.const x.vars)]) (by rw [List.take_add_one, hx]; rfl)) (wl (obw (aw (we rfl) (aw (we rfl) (aw (we rfl) (aw (we (vsE_map (f := encL) (tl.take i ++ [(Lvl.mk x.const x.vars)]) (by rw [List.take_add_one, hx]; rfl))) (aw (we rfl) (aw0))))))) (wl (oe rfl) (wl0)))))⟩
  · (try simp only [sd, se] at c)
    refine awp_exit ?_
    refine awp_seq ?_
    refine awp_region ?_
    refine al_ghost (ghost_freeze_cell (i := 0) (j := 1) (q := 3) [] rfl rfl rfl (memall trivial)) ?_
    refine al_step rfl rfl (aop_load_box (i := 0) ty26 rfl rfl rfl) ?_
    refine al_step rfl rfl (aop_store_box (i := 1) ty26 rfl rfl rfl rfl rfl rfl) ?_
    refine al_end rfl ?_
    refine awp_ghost (ghost_box (i := 1) rfl) ?_
    refine awp_ret ?_
    refine ⟨rfl, _, _, ⟨_, _, rfl, (resv_row (i := 1) ty26 rfl rfl rfl), rfl⟩, (List.nil_sublist _), ?_⟩
    all_goals exact ⟨by show (.agg [.p (I tk), .p (I ti), .p (.str tn), .p (.lst (List.map encL (tl.take i))), .p (.lst [])] : AV) = _; rw [show i = tl.length by omega, List.take_length]; rfl, rfl⟩

end Go.Proofs.YtgfecpjmbgcobaaGreat
/- Contracts of functions of the program. -/
namespace Go.Proofs.YtgfecpjmbgcobaaGreat
open Go.Abs Go.Eu
set_option linter.unusedVariables false
set_option linter.unusedSimpArgs false
set_option maxRecDepth 100000
theorem buildP_c : ∀ {σ : Type} (vis : σ → Tm → Int → Except Int ((Tm × Bool) × σ)) (HP : σ → List HObj → Prop) (fid : Nat) (caps : List AV) (hv : ∀ (s : σ) (t : Tm) (d : Int) (T : List HObj), Nd t → Vp t → 0 ≤ d → d < big → HP s T → ACalls Tryz.prog fid ([TV t, .p (I d)] ++ caps) T (exR (fun (r : (Tm × Bool) × σ) => .tup [TV r.1.1, .p (.bool r.1.2)]) (fun e => .p (.iface 156 (I e))) (fun r => HP r.2) (vis s t d))) (n : Nat) (t : Tm) (d : Int) (s : σ) (T0 : List HObj), size t ≤ n → Nd t → Vp t → 0 ≤ d → d + size t < big → HP s T0 → ACalls Tryz.prog 102 [.agg [.fn (.func fid) [] caps], TV t, .p (I d)] T0 (exR (fun (r : Tm × σ) => TV r.1) (fun e => .p (.iface 156 (I e))) (fun r => HP r.2) (buildW vis t d s)) := by
  intro σ vis HP fid caps hv n
  induction n with
  | zero => intro t d s T0 h1; exact absurd h1 (by have := size_pos t; omega)
  | succ n ih =>
    intro t d s T0 h1 h2 h3 h4 h5 h6
    simp only [big] at h5
    refine acalls_of_awp Tryz.func102 rfl en102 (n := 54) rfl rfl ?_
    refine awp_seq ?_
    refine awp_region ?_
    refine al_new rfl rfl (aop_box rfl) fun b3 => ?_
    refine al_new rfl rfl (aop_box rfl) fun b4 => ?_
    refine al_new rfl rfl (aop_alloc zr26 rfl) fun b6 => ?_
    refine al_end rfl ?_
    refine awp_seq ?_
    refine awp_region ?_
    refine al_step rfl rfl (aop_field_ptr fd144 rfl rfl) ?_
    refine al_step rfl rfl (aop_load_box1 (i := 2) ty142 rfl rfl rfl) ?_
    refine al_step rfl rfl (aop_load_box (i := 1) ty26 rfl rfl (by simp [encT_len])) ?_
    refine al_step rfl rfl (aop_move rfl) ?_
    refine al_ex [_, _, _] rfl rfl rfl (.inr rfl) (hv s t d T0 h2 h3 h4 (by simp only [big]; have := size_pos t; omega) h6) (argsW_refl _) ?_ ?_
    rotate_left
    · intro e _ he
      exact ⟨rfl, _, List.nil_sublist _, ⟨_, buildW_err he, rfl⟩⟩
    rintro ⟨⟨z, dn⟩, q⟩ T hz hT
    refine al_step rfl rfl (aop_move rfl) ?_
    refine al_step rfl rfl (aop_extract rfl rfl) ?_
    refine al_step rfl rfl (aop_extract rfl rfl) ?_
    refine al_new rfl rfl (aop_alloc zr26 rfl) fun b7 => ?_
    refine al_step rfl rfl (aop_store_whole (i := 0) ty26 rfl rfl rfl (by simp [encT_len]) (by first | rfl | simp [encT_len]) (one_Tm _)) ?_
    refine al_step rfl rfl (aop_assign rfl) ?_
    refine al_end rfl ?_
    refine awp_seq ?_
    refine awp_seq ?_
    refine awp_region ?_
    refine al_step rfl rfl (aop_move rfl) ?_
    refine al_end rfl ?_
    refine awp_cond rfl (fun c => ?_) (fun c => ?_)
    · (try simp only [sd, se] at c)
      refine awp_seq ?_
      refine awp_region ?_
      refine al_step rfl rfl (aop_load_box (i := 0) ty26 rfl rfl (by simp [encT_len])) ?_
      refine al_step rfl rfl (aop_store_whole (i := 1) ty26 rfl rfl rfl (by simp [encT_len]) (by first | rfl | simp [encT_len]) (one_Tm _)) ?_
      refine al_end rfl ?_
      refine awp_ret ?_
      refine ⟨rfl, _, _, ⟨_, _, rfl, (resv_row (i := 1) ty26 rfl rfl (by simp [encT_len])), rfl⟩, (sublT [] [_, _, _, _] rfl), ?_⟩
      exact ⟨⟨z, q⟩, buildW_done (by rw [hz, c]), rfl, hT⟩
    · (try simp only [sd, se] at c)
      refine awp_skip ?_
      refine awp_seq ?_
      refine awp_region ?_
      refine al_step rfl rfl (aop_field_ptr fd26 rfl rfl) ?_
      obtain ⟨zk, zi, zn, zl, zs⟩ := z
      refine al_step rfl rfl (aop_store_box (i := 0) ty24 rfl rfl rfl rfl rfl rfl) ?_
      refine al_end rfl ?_
      refine awp_seq ?_
      refine awp_seq ?_
      refine awp_region ?_
      refine al_step rfl rfl (aop_field_ptr fd26 rfl rfl) ?_
      obtain ⟨tk, ti, tn, tl, ts⟩ := t
      simp only [size] at h1 h5
      have hn2 := h2
      simp only [Nd, big] at hn2
      refine al_step rfl rfl (aop_load_box1 (i := 2) ty24 rfl rfl rfl) ?_
      refine al_step rfl rfl (aop_lenE el24 rfl (encTs_len _)) ?_
      refine al_step rfl rfl (aop_cmp rfl rfl rfl) ?_
      refine al_end rfl ?_
      refine awp_cond rfl (fun c1 => ?_) (fun c1 => ?_)
      · (try simp only [sd, se] at c1)
        refine awp_seq ?_
        refine awp_region ?_
        refine al_step rfl rfl (aop_field_ptr fd26 rfl rfl) ?_
        refine al_step rfl rfl (aop_load_box1 (i := 2) ty24 rfl rfl rfl) ?_
        refine al_step rfl rfl (aop_lenE el24 rfl (encTs_len _)) ?_
        refine al_vec rfl rfl (aop_makeSlice2 el24 zr26 rfl rfl (by decide) rfl rfl rfl (by omega) (by omega) (by omega) (vr_Tm (((ts.length : Nat) : Int).toNat) (.mk 0 0 ⟨#[]⟩ [] [] : Tm))) fun b29 cp => ?_
        refine al_step rfl rfl (aop_field_ptr fd26 rfl rfl) ?_
        refine al_step rfl rfl (aop_store_box (i := 1) ty24 rfl rfl rfl rfl rfl rfl) ?_
        refine al_end rfl ?_
        refine awp_seq ?_
        refine awp_region ?_
        refine al_step rfl rfl (aop_field_ptr fd26 rfl rfl) ?_
        refine al_step rfl rfl (aop_load_box1 (i := 3) ty24 rfl rfl rfl) ?_
        refine al_step rfl rfl (aop_lenE el24 rfl (encTs_len _)) ?_
        refine al_step rfl rfl (aop_move rfl) ?_
        refine al_end rfl ?_
        refine awp_block ?_
        refine awp_while (α := Nat × List Tm × σ × List HObj × Option Nat × Nat) (fun (i, ys, q1, U, o, cp1) => ⟨54, mk [(2, .p (I d)), (3, .ptr b3 0), (4, .ptr b4 0), (6, .ptr b6 0), (7, .ptr b7 0), (32, .p (.lst (encTs ts))), (33, .p (I (ts.length : Nat))), (34, .p (I (i : Int)))], (.vec o 5 (encTs (ys ++ List.replicate (ts.length - i) zeroT)) cp1 :: .box b7 [.p (I zk), .p (I zi), .p (.str zn), .p (.lst (List.map encL zl)), .vs o (encTs (ys ++ List.replicate (ts.length - i) zeroT)).length cp1] :: .box b6 [.p (I 0), .p (I 0), .p (.str ⟨#[]⟩), .p (.nils), .p (.nils)] :: .box b4 [.p (I tk), .p (I ti), .p (.str tn), .p (.lst (List.map encL tl)), .p (.lst (encTs ts))] :: .box b3 [.fn (.func fid) [] caps] :: U), []⟩) (fun (i, ys, q1, U, o, cp1) => ts.length - i) (fun (i, ys, q1, U, o, cp1) => i ≤ ts.length ∧ (BInv vis tk ts d q i ys q1 ∧ HP q1 U)) ⟨0, [], q, T, (some b29), cp⟩ (⟨by omega, BInv.zero _ _ _ _, hT⟩) ?_ ?_
        · exact le_mkW ⟨we rfl, we rfl, we rfl, we rfl, we rfl, we rfl, we rfl, we rfl, trivial⟩ (leT [0, 1, 2, 3, 4] [_, _, _, _, _] (l' := [_, _, _, _, _]) rfl (wl (oe rfl) (wl (oe rfl) (wl (oe rfl) (wl (oe rfl) (wl (oe rfl) (wl0)))))))
        rintro ⟨i, ys, q1, U, o, cp1⟩ hC
        try simp only at hC
        obtain ⟨hi, hB, hU⟩ := hC
        have hbl := below_le tk i
        refine awp_seq ?_
        refine awp_region ?_
        refine al_step rfl rfl (aop_cmp rfl rfl rfl) ?_
        refine al_end rfl ?_
        refine awp_seq ?_
        refine awp_cond rfl (fun c2 => ?_) (fun c2 => ?_)
        · (try simp only [sd, se] at c2)
          refine awp_skip ?_
          refine awp_seq ?_
          refine awp_block ?_
          refine awp_seq ?_
          refine awp_region ?_
          refine al_step rfl rfl (aop_move rfl) ?_
          obtain ⟨x, hx⟩ := getElem?_of_lt (l := ts) (i := i) (by omega)
          refine al_step rfl rfl (aop_index_lst el24 rfl rfl (by omega) (encTs_get hx) (encT_len _)) ?_
          refine al_step rfl rfl (aop_load_ref ty26 rfl (encT_len _)) ?_
          refine al_new rfl rfl (aop_alloc zr26 rfl) fun b10 => ?_
          refine al_step rfl rfl (aop_assign rfl) ?_
          refine al_step rfl rfl (aop_store_whole (i := 0) ty26 rfl rfl rfl (by simp [encT_len]) (by first | rfl | simp [encT_len]) (one_Tm _)) ?_
          refine al_end rfl ?_
          refine awp_some (i := 1) rfl (by simp [encTs_len]; omega) fun b hb => ?_
          subst hb
          refine awp_dr (fun k => Nat.beq k 11) mx0 ?_
          refine dr_free rfl rfl (fun _ => aop_field_ptr fd26 rfl rfl) trivial ?_
          refine dr_read (j := 2) rfl rfl rfl (fun H i hi => aop_load_box1 (i := i) ty24 rfl hi rfl) (by repeat' first | exact trivial | refine And.intro ?_ ?_ | ((refine Or.inr (And.intro ?_ ?_) <;> repeat (first | exact List.Mem.head _ | apply List.Mem.tail)); done) | exact Or.inl (by kernel_rfl)) trivial ?_
          refine dr_free rfl rfl (fun _ => aop_move rfl) trivial ?_
          refine dr_read (j := 5) rfl rfl rfl (fun H i hi => aop_load_box (i := i) ty144 rfl hi rfl) (by repeat' first | exact trivial | refine And.intro ?_ ?_ | ((refine Or.inr (And.intro ?_ ?_) <;> repeat (first | exact List.Mem.head _ | apply List.Mem.tail)); done) | exact Or.inl (by kernel_rfl)) trivial ?_
          refine dr_read (j := 0) rfl rfl rfl (fun H i hi => aop_load_box (i := i) ty26 rfl hi (by simp [encT_len])) (by repeat' first | exact trivial | refine And.intro ?_ ?_ | ((refine Or.inr (And.intro ?_ ?_) <;> repeat (first | exact List.Mem.head _ | apply List.Mem.tail)); done) | exact Or.inl (by kernel_rfl)) trivial ?_
          refine dr_free rfl rfl (fun _ => aop_move rfl) trivial ?_
          refine dr_free rfl rfl (fun _ => aop_field_ptr fd26 rfl rfl) trivial ?_
          refine dr_read (j := 4) rfl rfl rfl (fun H i hi => aop_load_box1 (i := i) ty3 rfl hi rfl) (by repeat' first | exact trivial | refine And.intro ?_ ?_ | ((refine Or.inr (And.intro ?_ ?_) <;> repeat (first | exact List.Mem.head _ | apply List.Mem.tail)); done) | exact Or.inl (by kernel_rfl)) trivial ?_
          refine dr_free rfl rfl (fun _ => aop_move rfl) trivial ?_
          refine dr_free rfl rfl (fun _ => aop_fun rfl rfl (bindsP_c tk (i : Int)) rfl) trivial ?_
          refine dr_free rfl rfl (fun _ => aop_add rfl rfl (by omega) (by omega)) trivial ?_
          refine dr_ex [_, _, _, _, _, _] rfl rfl rfl (.inl ⟨rfl, rfl, rfl⟩) (ih x (d + below tk i) q1 U (by have := size_mem hx; omega) (Nds_mem h2.2.2.2.2.1 hx) (Vps_mem h3.2 hx) (by have := (below_le tk i).1; omega) (by have := size_mem hx; have := below_le tk i; simp only [big]; omega) hU) (argsW_refl _) (by kernel_rfl) (by kernel_rfl) rfl (by repeat' first | exact trivial | refine And.intro ?_ ?_ | ((refine Or.inr (And.intro ?_ ?_) <;> repeat (first | exact List.Mem.head _ | apply List.Mem.tail)); done) | exact Or.inl (by kernel_rfl)) ?_ ?_
          rotate_left
          · intro e he _ _ hτ
            exact ⟨rfl, _, List.nil_sublist _, ⟨_, buildW_kerr (by rw [hz, c]) (hB.err hx he), rfl⟩⟩
          rintro ⟨y, q2⟩ T1 hz1 hT1
          refine ⟨(by repeat' first | exact trivial | refine And.intro ?_ ?_ | ((refine Or.inr (And.intro ?_ ?_) <;> repeat (first | exact List.Mem.head _ | apply List.Mem.tail)); done) | exact Or.inl (by kernel_rfl)), trivial, ?_⟩
          refine dr_free rfl rfl (fun _ => aop_index_vs el24 rfl rfl (by omega) (by simp only [encTs_len, List.length_append, List.length_replicate, hB.1]; omega)) trivial ?_
          refine dr_eff rfl rfl (aop_store_vec2 (i := 1) (j := i) ty26 rfl rfl rfl (by simp only [encTs_len, List.length_append, List.length_replicate, hB.1]; omega) rfl (pures_Tm _) (encT_len _) (one_Tm _) (vs_Tm (ys ++ List.replicate (ts.length - i) zeroT) i y)) (by repeat' first | exact trivial | refine And.intro ?_ ?_ | ((refine Or.inr (And.intro ?_ ?_) <;> repeat (first | exact List.Mem.head _ | apply List.Mem.tail)); done) | exact Or.inl (by kernel_rfl)) trivial ?_
          refine dr_end rfl (by kernel_rfl) ?_
          refine awp_region ?_
          refine al_step rfl rfl (aop_add rfl rfl (by omega) (by omega)) ?_
          refine al_step rfl rfl (aop_move rfl) ?_
          refine al_end rfl ?_
          refine ⟨⟨i + 1, ys ++ [y], q2, T1, (some b), cp1⟩, (by first | omega | (simp only; omega)), ⟨by omega, ⟨hB.succ hx hz1, hT1⟩⟩, le_mkW ⟨we rfl, we rfl, we rfl, we rfl, we rfl, we rfl, we rfl, we rfl, trivial⟩ (leT [1, 2, 3, 4, 5] [_, _, _, _, _, _] (l' := [_, _, _, _, _]) rfl (wl (ovE_Tm ((ys ++ List.replicate (ts.length - i) zeroT).set i y) (by rw [set_fill hB.1 (by omega)]; congr 2)) (wl (obw (aw (we rfl) (aw (we rfl) (aw (we rfl) (aw (we rfl) (aw (we (vsLen_Tm (ys ++ List.replicate (ts.length - i) zeroT) (by simp; omega))) (aw0))))))) (wl (oe rfl) (wl (oe rfl) (wl (oe rfl) (wl0)))))))⟩
        · (try simp only [sd, se] at c2)
          refine awp_exit ?_
          refine awp_seq ?_
          refine awp_region ?_
          refine al_ghost (ghost_freeze_cell (i := 0) (j := 1) (q := 4) [] rfl rfl rfl (memall trivial)) ?_
          refine al_step rfl rfl (aop_load_box (i := 0) ty26 rfl rfl rfl) ?_
          refine al_step rfl rfl (aop_store_box (i := 1) ty26 rfl rfl rfl rfl rfl rfl) ?_
          refine al_end rfl ?_
          refine awp_ret ?_
          refine ⟨rfl, _, _, ⟨_, _, rfl, (resv_row (i := 1) ty26 rfl rfl rfl), rfl⟩, (sublT [] [_, _, _, _] rfl), ?_⟩
          rw [show ts.length - i = 0 by omega, List.replicate_zero, List.append_nil]
          exact ⟨⟨.mk zk zi zn zl ys, q1⟩, buildW_kids (by rw [hz, c]) (hB.fin (by omega)), rfl, hU⟩
      · (try simp only [sd, se] at c1)
        refine awp_skip ?_
        refine awp_seq ?_
        refine awp_region ?_
        refine al_step rfl rfl (aop_load_box (i := 0) ty26 rfl rfl rfl) ?_
        refine al_step rfl rfl (aop_store_box (i := 1) ty26 rfl rfl rfl rfl rfl rfl) ?_
        refine al_end rfl ?_
        refine awp_ghost (ghost_box (i := 1) rfl) ?_
        refine awp_ret ?_
        refine ⟨rfl, _, _, ⟨_, _, rfl, (resv_row (i := 1) ty26 rfl rfl rfl), rfl⟩, (sublT [] [_, _, _, _] rfl), ?_⟩
        exact ⟨⟨.mk zk zi zn zl [], q⟩, buildW_kids (o := .mk zk zi zn zl zs) (q := q) (ys := []) (by rw [hz, c]) (by rw [show ts = [] by (cases ts with | nil => rfl | cons a b => simp at c1; omega)]; rfl), rfl, hT⟩

end Go.Proofs.YtgfecpjmbgcobaaGreat
/- Contracts of functions of the program. -/
namespace Go.Proofs.YtgfecpjmbgcobaaGreat
open Go.Abs Go.Eu
set_option linter.unusedVariables false
set_option linter.unusedSimpArgs false
set_option maxRecDepth 100000
theorem varsS_c : ∀ (fid : Nat) (caps : List AV), ACalls Tryz.prog 103 [.fn (.func fid) [] caps] [] (newC (fun b => .agg [.fn (.func 118) [] [.ptr b 0]]) [.fn (.func fid) [] caps]) := by
  intro fid caps
  refine acalls_of_awp Tryz.func103 rfl en103 (n := 5) rfl rfl ?_
  refine awp_seq ?_
  refine awp_region ?_
  refine al_new rfl rfl (aop_box rfl) fun b1 => ?_
  refine al_new rfl rfl (aop_alloc zr144 rfl) fun b2 => ?_
  refine al_end rfl ?_
  refine awp_seq ?_
  refine awp_region ?_
  refine al_step rfl rfl (aop_makeFunc rfl rfl) ?_
  refine al_step rfl rfl (aop_build fd144 zr144 rfl) ?_
  refine al_step rfl rfl (aop_store_box (i := 0) ty144 rfl rfl rfl rfl rfl rfl) ?_
  refine al_end rfl ?_
  refine awp_ret ?_
  refine ⟨rfl, _, _, ⟨_, _, rfl, (resv_row (i := 0) ty144 rfl rfl rfl), rfl⟩, (subl (is := [1]) rfl), ?_⟩
  exact ⟨_, rfl, rfl⟩

theorem vars1S_c : ∀ (rep : Tm → Int → Except Int Tm) (fid : Nat) (caps : List AV) (T : List HObj) (hr : ∀ (t : Tm) (d : Int), Nd t → Vp t → t.kind = 0 → 0 ≤ d → d < big → ACalls Tryz.prog fid ([TV t, .p (I d)] ++ caps) T (exR (fun (r : Tm) => TV r) (fun e => .p (.iface 156 (I e))) (fun r H' => H' = T) (rep t d))) (bR : Nat) (s : Unit) (t : Tm) (d : Int), Nd t → Vp t → 0 ≤ d → d < big → ACalls Tryz.prog 118 [TV t, .p (I d), .ptr bR 0] (.box bR [.fn (.func fid) [] caps] :: T) (exR (fun (r : (Tm × Bool) × Unit) => .tup [TV r.1.1, .p (.bool r.1.2)]) (fun e => .p (.iface 156 (I e))) (fun r H' => H' = .box bR [.fn (.func fid) [] caps] :: T) (varV rep s t d)) := by
  intro rep fid caps T hr bR s t d h1 h2 h3 h4
  refine acalls_of_awp Tryz.func118 rfl en118 (n := 16) rfl rfl ?_
  refine awp_seq ?_
  refine awp_region ?_
  refine al_new rfl rfl (aop_box rfl) fun b3 => ?_
  refine al_new rfl rfl (aop_alloc zr26 rfl) fun b5 => ?_
  refine al_step rfl rfl (aop_assign rfl) ?_
  refine al_end rfl ?_
  refine awp_seq ?_
  refine awp_seq ?_
  refine awp_region ?_
  refine al_step rfl rfl (aop_field_ptr fd26 rfl rfl) ?_
  obtain ⟨tk, ti, tn, tl, ts⟩ := t
  refine al_step rfl rfl (aop_load_box1 (i := 1) ty3 rfl rfl rfl) ?_
  refine al_step rfl rfl (aop_cmp rfl rfl rfl) ?_
  refine al_end rfl ?_
  refine awp_cond rfl (fun c => ?_) (fun c => ?_)
  · (try simp only [sd, se] at c)
    refine awp_seq ?_
    refine awp_region ?_
    refine al_step rfl rfl (aop_load_box1 (i := 2) ty145 rfl rfl rfl) ?_
    refine al_step rfl rfl (aop_load_box (i := 1) ty26 rfl rfl rfl) ?_
    refine al_step rfl rfl (aop_move rfl) ?_
    refine al_ex [_, _, _] rfl rfl rfl (.inr rfl) (hr (.mk tk ti tn tl ts) d h1 h2 c h3 h4) (argsW_refl _) ?_ ?_
    rotate_left
    · intro e _ he
      exact ⟨rfl, _, List.nil_sublist _, ⟨_, varV_var c he, rfl⟩⟩
    rintro z _ hz rfl
    refine al_step rfl rfl (aop_store_whole (i := 0) ty26 rfl rfl rfl (by simp [encT_len]) (by first | rfl | simp [encT_len]) (one_Tm _)) ?_
    refine al_step rfl rfl (aop_assign rfl) ?_
    refine al_end rfl ?_
    refine awp_ret ?_
    refine ⟨rfl, _, _, ⟨_, _, rfl, (resv_row (i := 0) ty26 rfl rfl (by simp [encT_len])), ⟨_, _, rfl, rfl, rfl⟩⟩, (sublT [2] [_, _, _] rfl), ?_⟩
    exact ⟨⟨⟨z, true⟩, ()⟩, varV_ok c hz, rfl, rfl⟩
  · (try simp only [sd, se] at c)
    refine awp_skip ?_
    refine awp_seq ?_
    refine awp_region ?_
    refine al_step rfl rfl (aop_load_box (i := 1) ty26 rfl rfl rfl) ?_
    refine al_step rfl rfl (aop_fun rfl rfl (plainP_c (.mk tk ti tn tl ts : Tm) h1) rfl) ?_
    refine al_step rfl rfl (aop_store_whole (i := 0) ty26 rfl rfl rfl (by simp [encT_len]) (by first | rfl | simp [encT_len]) (one_Tm _)) ?_
    refine al_step rfl rfl (aop_assign rfl) ?_
    refine al_end rfl ?_
    refine awp_ret ?_
    refine ⟨rfl, _, _, ⟨_, _, rfl, (resv_row (i := 0) ty26 rfl rfl (by simp [encT_len])), ⟨_, _, rfl, rfl, rfl⟩⟩, (sublT [2] [_, _, _] rfl), ?_⟩
    exact ⟨⟨⟨.mk tk ti tn tl [], false⟩, ()⟩, varV_no c, rfl, rfl⟩

theorem shift1S_c : ∀ (t : Tm) (d : Int) (bf bb : Nat) (fr b : Int), (Nd t) → (Vp t) → (t.kind = 0) → (0 ≤ d) → (d < big) → (-4611686018427387904 ≤ b ∧ b ≤ 4611686018427387904) → (-2305843009213693952 ≤ fr ∧ fr ≤ 2305843009213693952) → ACalls Tryz.prog 119 [.agg ((encT t).map .p), .p (I d), .ptr bf 0, .ptr bb 0] [.box bf [.p (I fr)], .box bb [.p (I b)]] (exR (fun (r : Tm) => TV r) (fun e => .p (.iface 156 (I e))) (fun r H' => H' = [.box bf [.p (I fr)], .box bb [.p (I b)]]) (shV b fr t d)) := by
  intro t d bf bb fr b h1 h2 h3 h4 h5 h6 h7
  obtain ⟨tk, ti, tn, tl, ts⟩ := t
  have hi := h2.1 h3
  simp only [big] at h5
  refine acalls_of_awp Tryz.func119 rfl en119 (n := 32) rfl rfl ?_
  refine awp_seq ?_
  refine awp_region ?_
  refine al_new rfl rfl (aop_box rfl) fun b4 => ?_
  refine al_new rfl rfl (aop_alloc zr26 rfl) fun b6 => ?_
  refine al_end rfl ?_
  refine awp_seq ?_
  refine awp_region ?_
  refine al_step rfl rfl (aop_field_ptr fd26 rfl rfl) ?_
  refine al_step rfl rfl (aop_load_box1 (i := 1) ty3 rfl rfl rfl) ?_
  refine al_step rfl rfl (aop_move rfl) ?_
  refine al_step rfl rfl (aop_sub rfl rfl (by omega) (by omega)) ?_
  refine al_step rfl rfl (aop_assign rfl) ?_
  refine al_end rfl ?_
  refine awp_seq ?_
  refine awp_seq ?_
  refine awp_region ?_
  refine al_step rfl rfl (aop_move rfl) ?_
  refine al_step rfl rfl (aop_load_box1 (i := 2) ty3 rfl rfl rfl) ?_
  refine al_step rfl rfl (aop_cmp rfl rfl rfl) ?_
  refine al_end rfl ?_
  refine awp_cond rfl (fun c => ?_) (fun c => ?_)
  · (try simp only [sd, se] at c)
    refine awp_seq ?_
    refine awp_region ?_
    refine al_step rfl rfl (aop_load_box (i := 1) ty26 rfl rfl rfl) ?_
    refine al_step rfl rfl (aop_fun rfl rfl (plainP_c (.mk tk ti tn tl ts : Tm) h1) rfl) ?_
    refine al_step rfl rfl (aop_store_whole (i := 0) ty26 rfl rfl rfl (by simp [encT_len]) (by first | rfl | simp [encT_len]) (one_Tm _)) ?_
    refine al_end rfl ?_
    refine awp_ret ?_
    refine ⟨rfl, _, _, ⟨_, _, rfl, (resv_row (i := 0) ty26 rfl rfl (by simp [encT_len])), rfl⟩, (subl (is := [2, 3]) rfl), ?_⟩
    exact ⟨(.mk tk ti tn tl []), shV_low c, rfl, rfl⟩
  · (try simp only [sd, se] at c)
    refine awp_skip ?_
    refine awp_seq ?_
    refine awp_seq ?_
    refine awp_meetR [3, 4, 6] 25 (fun y => y = .p (.bool ((decide ((b : Int) < (0 : Int))) && (decide (((ti : Int) - (d : Int) : Int) < ((fr : Int) - (b : Int) : Int)))))) ?_ ?_
    · refine awp_region ?_
      refine al_step rfl rfl (aop_load_box1 (i := 3) ty3 rfl rfl rfl) ?_
      refine al_step rfl rfl (aop_cmp rfl rfl rfl) ?_
      refine al_step rfl rfl (aop_move rfl) ?_
      refine al_case 19 rfl (fun g => ?_) (fun g => ?_)
      · (try simp only [sd, se] at g)
        refine al_stepg rfl rfl rfl rfl (aop_move rfl) ?_
        refine al_stepg rfl rfl rfl rfl (aop_load_box1 (i := 2) ty3 rfl rfl rfl) ?_
        refine al_stepg rfl rfl rfl rfl (aop_load_box1 (i := 3) ty3 rfl rfl rfl) ?_
        refine al_stepg rfl rfl rfl rfl (aop_sub rfl rfl (by omega) (by omega)) ?_
        refine al_stepg rfl rfl rfl rfl (aop_cmp rfl rfl rfl) ?_
        refine al_step rfl rfl (aop_pick rfl rfl) ?_
        refine al_end rfl ?_
        exact ⟨rfl, rfl, (by first | exact List.Sublist.refl _ | exact List.sublist_cons_self _ _), (by first | rfl | (refine pB ?_; simp_all; done) | (refine pB ?_; simp_all <;> (intros; omega))), ⟨rfl, rfl, rfl, trivial⟩⟩
      · (try simp only [sd, se] at g)
        refine al_pass rfl rfl rfl rfl rfl ?_
        refine al_pass rfl rfl rfl rfl rfl ?_
        refine al_pass rfl rfl rfl rfl rfl ?_
        refine al_pass rfl rfl rfl rfl rfl ?_
        refine al_pass rfl rfl rfl rfl rfl ?_
        refine al_step rfl rfl (aop_pick rfl rfl) ?_
        refine al_end rfl ?_
        exact ⟨rfl, rfl, (by first | exact List.Sublist.refl _ | exact List.sublist_cons_self _ _), (by first | rfl | (refine pB ?_; simp_all; done) | (refine pB ?_; simp_all <;> (intros; omega))), ⟨rfl, rfl, rfl, trivial⟩⟩
    rintro _ rfl
    refine awp_cond rfl (fun c1 => ?_) (fun c1 => ?_)
    · (try simp only [sd, se] at c1)
      refine awp_region ?_
      refine al_pcall rfl rfl rfl (.inl ⟨rfl, rfl, rfl⟩) (stopS_c 24) (aw (we rfl) (aw0)) ?_
      exact ⟨rfl, _, List.nil_sublist _, ⟨_, shV_bad (by omega) (by omega) (by omega), rfl⟩⟩
    · (try simp only [sd, se] at c1)
      refine awp_skip ?_
      refine awp_seq ?_
      refine awp_region ?_
      refine al_step rfl rfl (aop_field_ptr fd26 rfl rfl) ?_
      refine al_step rfl rfl (aop_load_box1 (i := 1) ty3 rfl rfl rfl) ?_
      refine al_step rfl rfl (aop_load_box1 (i := 3) ty3 rfl rfl rfl) ?_
      refine al_step rfl rfl (aop_add rfl rfl (by omega) (by omega)) ?_
      refine al_exS [] rfl rfl rfl (.inl ⟨rfl, rfl, rfl⟩) (movedP_c ((ti : Int) + (b : Int))) rfl (by decide) (aw (we rfl) (aw0)) (fun _ _ h => (congrArg List.length h).trans rfl) ?_ ?_
      rotate_left
      · intro e _ he
        exact ⟨rfl, _, List.nil_sublist _, ⟨_, by rw [shV_go (by omega) (by omega), he], rfl⟩⟩
      rintro z _ hz rfl
      refine al_step rfl rfl (aop_store_whole (i := 0) ty26 rfl rfl rfl (by simp [encT_len]) (by first | rfl | simp [encT_len]) (one_Tm _)) ?_
      refine al_end rfl ?_
      refine awp_ret ?_
      refine ⟨rfl, _, _, ⟨_, _, rfl, (resv_row (i := 0) ty26 rfl rfl (by simp [encT_len])), rfl⟩, (subl (is := [2, 3]) rfl), ?_⟩
      exact ⟨z, by rw [shV_go (by omega) (by omega), hz], rfl, rfl⟩

end Go.Proofs.YtgfecpjmbgcobaaGreat
/- Contracts of functions of the program. -/
namespace Go.Proofs.YtgfecpjmbgcobaaGreat
open Go.Abs Go.Eu
set_option linter.unusedVariables false
set_option linter.unusedSimpArgs false
set_option maxRecDepth 100000
theorem shiftedP_c : ∀ (t : Tm) (b fr : Int), (Nd t) → (Vp t) → (size t < big) → (-4611686018427387904 ≤ b ∧ b ≤ 4611686018427387904) → (-2305843009213693952 ≤ fr ∧ fr ≤ 2305843009213693952) → ACalls Tryz.prog 105 [.agg ((encT t).map .p), .p (I b), .p (I fr)] [] (exR (fun (r : Tm) => TV r) (fun e => .p (.iface 156 (I e))) (fun r H' => H' = []) (shiftP b fr t)) := by
  intro t b fr h1 h2 h3 h4 h5
  refine acalls_of_awp Tryz.func105 rfl en105 (n := 11) rfl rfl ?_
  refine awp_seq ?_
  refine awp_region ?_
  refine al_new rfl rfl (aop_box rfl) fun b3 => ?_
  refine al_new rfl rfl (aop_box rfl) fun b4 => ?_
  refine al_new rfl rfl (aop_box rfl) fun b5 => ?_
  refine al_new rfl rfl (aop_alloc zr26 rfl) fun b6 => ?_
  refine al_end rfl ?_
  refine awp_seq ?_
  refine awp_dr (fun k => Nat.beq k 1 || Nat.beq k 3) mx0 ?_
  refine dr_free rfl rfl (fun _ => aop_makeFunc rfl rfl) trivial ?_
  refine dr_newc [(2, .read (.box b3 ((encT t).map .p)) (.agg ((encT t).map .p)))] rfl rfl rfl (.inl ⟨rfl, rfl, rfl⟩) (varsS_c 119 [.ptr b5 0, .ptr b4 0]) (.inl rfl) (by kernel_rfl) fun bn => ⟨(by repeat' first | exact trivial | refine And.intro ?_ ?_ | ((refine Or.inr (And.intro ?_ ?_) <;> repeat (first | exact List.Mem.head _ | apply List.Mem.tail)); done) | exact Or.inl (by kernel_rfl)), trivial, ?_⟩
  refine dr_read (j := 4) rfl rfl rfl (fun H i hi => aop_load_box (i := i) ty26 rfl hi (by simp [encT_len])) (by repeat' first | exact trivial | refine And.intro ?_ ?_ | ((refine Or.inr (And.intro ?_ ?_) <;> repeat (first | exact List.Mem.head _ | apply List.Mem.tail)); done) | exact Or.inl (by kernel_rfl)) (by repeat' first | exact trivial | rfl | refine And.intro ?_ ?_) ?_
  refine dr_exS [0, 2, 3] rfl rfl rfl (.inl ⟨rfl, rfl, rfl⟩) (buildP_c (varV (shV b fr)) (fun _ T => T = [.box bn [.fn (.func 119) [] [.ptr b5 0, .ptr b4 0]], .box b5 [.p (I fr)], .box b4 [.p (I b)]]) 118 [.ptr bn 0] (fun s t d T hn hp h0 hb hT => by subst hT; exact vars1S_c (shV b fr) 119 [.ptr b5 0, .ptr b4 0] _ (fun t d g1 g2 g3 g4 g5 => shift1S_c t d b5 b4 fr b g1 g2 g3 g4 g5 h4 h5) bn s t d hn hp h0 hb) _ t 0 () _ (Nat.le_refl _) h1 h2 (by omega) (by omega) rfl) ⟨_, _, rfl, rfl, ⟨_, _, rfl, rfl, ⟨_, _, rfl, rfl, rfl⟩⟩⟩ (by decide) (argsW_refl _) (fun _ _ h => (congrArg List.length h).trans rfl) (by kernel_rfl) (by kernel_rfl) rfl (by repeat' first | exact trivial | refine And.intro ?_ ?_ | ((refine Or.inr (And.intro ?_ ?_) <;> repeat (first | exact List.Mem.head _ | apply List.Mem.tail)); done) | exact Or.inl (by kernel_rfl)) ?_ ?_
  rotate_left
  · intro e he _ _ hτ
    exact ⟨rfl, _, List.nil_sublist _, ⟨_, exMap_err he, rfl⟩⟩
  rintro ⟨z, _⟩ _ hz rfl
  refine ⟨(by repeat' first | exact trivial | refine And.intro ?_ ?_ | ((refine Or.inr (And.intro ?_ ?_) <;> repeat (first | exact List.Mem.head _ | apply List.Mem.tail)); done) | exact Or.inl (by kernel_rfl)), (by repeat' first | exact trivial | rfl | refine And.intro ?_ ?_), ?_⟩
  refine dr_eff rfl rfl (aop_store_whole (i := 1) ty26 rfl rfl rfl (by simp [encT_len]) (by first | rfl | simp [encT_len]) (one_Tm _)) (by repeat' first | exact trivial | refine And.intro ?_ ?_ | ((refine Or.inr (And.intro ?_ ?_) <;> repeat (first | exact List.Mem.head _ | apply List.Mem.tail)); done) | exact Or.inl (by kernel_rfl)) (by repeat' first | exact trivial | rfl | refine And.intro ?_ ?_) ?_
  refine dr_end rfl (by kernel_rfl) ?_
  refine awp_ret ?_
  refine ⟨rfl, _, _, ⟨_, _, rfl, (resv_row (i := 1) ty26 rfl rfl (by simp [encT_len])), rfl⟩, (List.nil_sublist _), ?_⟩
  exact ⟨z, exMap_ok hz, rfl, rfl⟩

end Go.Proofs.YtgfecpjmbgcobaaGreat
/- Contracts of functions of the program. -/
namespace Go.Proofs.YtgfecpjmbgcobaaGreat
open Go.Abs Go.Eu
set_option linter.unusedVariables false
set_option linter.unusedSimpArgs false
set_option maxRecDepth 100000
theorem under1R_c : ∀ (bo be : Nat) (co ce : List AV), ADCalls Tryz.prog 97 [.ptr bo 0, .ptr be 0] (.ret) [.box bo co, .box be ce] (fun H' => H' = [.box bo co, .box be ce]) := by
  intro bo be co ce
  refine adcalls_of (ty2 := 0) Tryz.func97 rfl en97 (n := 9) rfl rfl rfl rfl rfl rfl ?_
  refine awp_seq ?_
  refine awp_region ?_
  refine al_step rfl rfl (aop_move rfl) ?_
  refine al_step rfl rfl (aop_ifaceNe ui20 rfl rfl rfl) ?_
  refine al_end rfl ?_
  refine awp_cond rfl (fun c => by cases c) (fun c => ?_)
  refine awp_skip ?_
  exact ⟨.inl rfl, rfl, _, (subl (is := [0, 1]) rfl), rfl⟩

theorem under1P_c : ∀ (bo be : Nat) (e : Int), ADCalls Tryz.prog 97 [.ptr bo 0, .ptr be 0] (.pan (.p (.iface 156 (I e)))) [.box bo [.p (I 0), .p (I 0), .p (.str ⟨#[]⟩), .p (.nils), .p (.nils)], .box be [.p (I 0)]] (fun H' => H' = [.box bo [.p (I 0), .p (I 0), .p (.str ⟨#[]⟩), .p (.lst []), .p (.lst [])], .box be [.p (I e)]]) := by
  intro bo be e
  refine adcalls_of (ty2 := 0) Tryz.func97 rfl en97 (n := 9) rfl rfl rfl rfl rfl rfl ?_
  refine awp_seq ?_
  refine awp_region ?_
  refine al_step rfl rfl (aop_move rfl) ?_
  refine al_step rfl rfl (aop_ifaceNe ui20 rfl rfl rfl) ?_
  refine al_ghost (ghost_box (i := 0) rfl) ?_
  refine al_end rfl ?_
  refine awp_cond rfl (fun c => ?_) (fun c => by cases c)
  refine awp_region ?_
  refine al_step rfl rfl (aop_build fd26 zr26 rfl) ?_
  refine al_step rfl rfl (aop_move rfl) ?_
  refine al_step rfl rfl (aop_fun rfl rfl (caughtS_c _) rfl) ?_
  refine al_step rfl rfl (aop_store_box (i := 0) ty26 rfl rfl rfl rfl rfl rfl) ?_
  refine al_step rfl rfl (aop_store_box (i := 1) ty32 rfl rfl rfl rfl rfl rfl) ?_
  refine al_ghost (ghost_box (i := 0) rfl) ?_
  refine al_end rfl ?_
  exact ⟨.inl rfl, rfl, _, (subl (is := [0, 1]) rfl), rfl⟩

theorem under2S_c : ∀ (t : Tm) (d : Int) (bd bv : Nat) (dp : Int) (vs : List Tm), ACalls Tryz.prog 99 [.agg ((encT t).map .p), .p (I d), .ptr bd 0, .ptr bv 0] [.box bd [.p (I dp)], .box bv [.p (.lst (encTs vs))]] (retR (.p (I (valI vs dp t.index d))) [.box bd [.p (I dp)], .box bv [.p (.lst (encTs vs))]]) := by
  intro t d bd bv dp vs
  obtain ⟨tk, ti, tn, tl, ts⟩ := t
  refine acalls_of_awp Tryz.func99 rfl en99 (n := 23) rfl rfl ?_
  refine awp_seq ?_
  refine awp_region ?_
  refine al_new rfl rfl (aop_box rfl) fun b4 => ?_
  refine al_step rfl rfl (aop_assign rfl) ?_
  refine al_end rfl ?_
  refine awp_seq ?_
  refine awp_seq ?_
  refine awp_region ?_
  refine al_step rfl rfl (aop_field_ptr fd26 rfl rfl) ?_
  refine al_step rfl rfl (aop_load_box1 (i := 0) ty3 rfl rfl rfl) ?_
  refine al_step rfl rfl (aop_move rfl) ?_
  refine al_step rfl rfl (aop_subw rfl rfl) ?_
  refine al_step rfl rfl (aop_load_box1 (i := 1) ty3 rfl rfl rfl) ?_
  refine al_step rfl rfl (aop_subw rfl rfl) ?_
  refine al_step rfl rfl (aop_assign rfl) ?_
  refine al_end rfl ?_
  refine awp_seq ?_
  refine awp_meetR [7] 21 (fun y => y = .p (.bool ((decide ((wr ((wr ((ti : Int) - (d : Int)) : Int) - (dp : Int)) : Int) ≥ (0 : Int))) && (decide ((wr ((wr ((ti : Int) - (d : Int)) : Int) - (dp : Int)) : Int) < ((vs.length : Nat) : Int)))))) ?_ ?_
  · refine awp_region ?_
    refine al_step rfl rfl (aop_move rfl) ?_
    refine al_step rfl rfl (aop_cmp rfl rfl rfl) ?_
    refine al_step rfl rfl (aop_move rfl) ?_
    refine al_case 16 rfl (fun g => ?_) (fun g => ?_)
    · (try simp only [sd, se] at g)
      refine al_stepg rfl rfl rfl rfl (aop_move rfl) ?_
      refine al_stepg rfl rfl rfl rfl (aop_load_box1 (i := 2) ty24 rfl rfl rfl) ?_
      refine al_stepg rfl rfl rfl rfl (aop_lenE el24 rfl (encTs_len _)) ?_
      refine al_stepg rfl rfl rfl rfl (aop_cmp rfl rfl rfl) ?_
      refine al_step rfl rfl (aop_pick rfl rfl) ?_
      refine al_end rfl ?_
      exact ⟨rfl, rfl, (by first | exact List.Sublist.refl _ | exact List.sublist_cons_self _ _), (by first | rfl | (refine pB ?_; simp_all; done) | (refine pB ?_; simp_all <;> (intros; omega))), ⟨rfl, trivial⟩⟩
    · (try simp only [sd, se] at g)
      refine al_pass rfl rfl rfl rfl rfl ?_
      refine al_pass rfl rfl rfl rfl rfl ?_
      refine al_pass rfl rfl rfl rfl rfl ?_
      refine al_pass rfl rfl rfl rfl rfl ?_
      refine al_step rfl rfl (aop_pick rfl rfl) ?_
      refine al_end rfl ?_
      exact ⟨rfl, rfl, (by first | exact List.Sublist.refl _ | exact List.sublist_cons_self _ _), (by first | rfl | (refine pB ?_; simp_all; done) | (refine pB ?_; simp_all <;> (intros; omega))), ⟨rfl, trivial⟩⟩
  rintro _ rfl
  refine awp_cond rfl (fun c => ?_) (fun c => ?_)
  · (try simp only [sd, se] at c)
    refine awp_seq ?_
    refine awp_region ?_
    refine al_step rfl rfl (aop_move rfl) ?_
    refine al_step rfl rfl (aop_assign rfl) ?_
    refine al_end rfl ?_
    refine awp_ret ?_
    refine ⟨rfl, _, _, ⟨_, _, rfl, rfl, rfl⟩, (subl (is := [1, 2]) rfl), ?_⟩
    all_goals exact ⟨pI (valI_yes (by omega) (by omega)).symm, rfl⟩
  · (try simp only [sd, se] at c)
    refine awp_skip ?_
    refine awp_seq ?_
    refine awp_region ?_
    refine al_step rfl rfl (aop_assign rfl) ?_
    refine al_end rfl ?_
    refine awp_ret ?_
    refine ⟨rfl, _, _, ⟨_, _, rfl, rfl, rfl⟩, (subl (is := [1, 2]) rfl), ?_⟩
    all_goals exact ⟨pI (valI_no (ti := ti) (by omega)).symm, rfl⟩

end Go.Proofs.YtgfecpjmbgcobaaGreat
