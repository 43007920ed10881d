/- Part of the proofs about metavariables: an abstract program logic, plain models and contracts of functions. -/
import Derived.Test.YtgfecpjmbgcobaaGreatPp
import Derived.Test.YtgfecpjmbgcobaaGreatPg
import Derived.KernelRfl
/- Contracts of functions of the program. -/
namespace Go.Proofs.YtgfecpjmbgcobaaGreat
open Go.Abs Go.Eu
set_option linter.unusedVariables false
set_option linter.unusedSimpArgs false
set_option maxRecDepth 100000
set_option maxHeartbeats 8000000 in
theorem fillC_c : ∀ (ms : List Mv) (B : Nat) (bd md bo mo bw bm bv bf : Nat) (hB : 1 ≤ B) (hB2 : B ≤ 1073741824) (hm : ∀ m ∈ ms, Ok B m.value) (hl : ms.length < 1048576) (n : Nat) (dn : List (Int × Tm)) (op : List Int) (wk : Int) (t : Tm), Ok B t → OkS ms ⟨dn, op, wk⟩ → size t + (B + 1) * free ms op ≤ n → ACalls Tryz.prog 67 [TV t, .ptr bw 0, .ptr bm 0, .ptr bv 0, .ptr bf 0] [.box bd [.map md], .map md (mapE (dnE dn)), .box bo [.map mo], .map mo (mapE (mtE op)), .box bw [.p (I wk)], .box bm [.p (.lst (List.map encM ms))], .box bv [.fn (.func 65) [] [.ptr bd 0, .ptr bo 0, .ptr bf 0, .ptr bm 0]], .box bf [.fn (.func 67) [] [.ptr bw 0, .ptr bm 0, .ptr bv 0, .ptr bf 0]]] (exR (fun (r : Tm × FSt) => TV r.1) (fun e => .p (.iface 32 (I e))) (fun r H' => H' = [.box bd [.map md], .map md (mapE (dnE r.2.dn)), .box bo [.map mo], .map mo (mapE (mtE r.2.op)), .box bw [.p (I r.2.wk)], .box bm [.p (.lst (List.map encM ms))], .box bv [.fn (.func 65) [] [.ptr bd 0, .ptr bo 0, .ptr bf 0, .ptr bm 0]], .box bf [.fn (.func 67) [] [.ptr bw 0, .ptr bm 0, .ptr bv 0, .ptr bf 0]]]) (fillP ms n ⟨dn, op, wk⟩ t)) := by
  intro ms B bd md bo mo bw bm bv bf hB hB2 hm hl n
  induction n with
  | zero => intro dn op wk t h1 h2 h3; have := size_pos t; omega
  | succ n ih =>
    intro dn op wk t h1 h2 h3
    have hsl := spine_len_sizes t
    have hsn := spine_nd t h1.nd
    have hsw := spine_wt t h1.wt
    have hsv := spine_vp t h1.vp
    have hts := h1.sz
    have hw0 := h2.w0
    have hw1 := h2.w1
    simp only at hw0 hw1
    -- hz
    refine acalls_of_awp Tryz.func67 rfl en67 (n := 123) rfl rfl ?_
    refine awp_seq ?_
    refine awp_region ?_
    refine al_new rfl rfl (aop_box rfl) fun b5 => ?_
    refine al_new rfl rfl (aop_alloc zr26 rfl) fun b6 => ?_
    refine al_end rfl ?_
    refine awp_seq ?_
    refine awp_seq ?_
    refine awp_region ?_
    refine al_step rfl rfl (aop_load_box1 (i := 6) ty3 rfl rfl rfl) ?_
    refine al_step rfl rfl (aop_add rfl rfl (by omega) (by omega)) ?_
    refine al_step rfl rfl (aop_store_box (i := 6) ty3 rfl rfl rfl rfl rfl rfl) ?_
    refine al_end rfl ?_
    refine awp_seq ?_
    refine awp_region ?_
    refine al_step rfl rfl (aop_load_box1 (i := 6) ty3 rfl rfl rfl) ?_
    refine al_step rfl rfl (aop_cmp rfl rfl rfl) ?_
    refine al_end rfl ?_
    refine awp_cond rfl (fun c => ?_) (fun c => ?_)
    · have cR := c
      (try simp only [sd, se] at c)
      refine awp_region ?_
      refine al_pcall rfl rfl rfl (.inl ⟨rfl, rfl, rfl⟩) (stopM_c 11) (aw (we rfl) (aw0)) ?_
      exact ⟨rfl, _, List.nil_sublist _, ⟨_, fillP_work (by omega), rfl⟩⟩
    · have cR := c
      (try simp only [sd, se] at c)
      have hnw : ¬ wk + 1 > 8192000 := by omega
      have hS1 : OkS ms ⟨dn, op, wk + 1⟩ := ⟨h2.dn, by simp only; omega, by simp only; omega⟩
      refine awp_skip ?_
      refine awp_seq ?_
      refine awp_region ?_
      refine al_step rfl rfl (aop_load_box (i := 1) ty26 rfl rfl (by simp [encT_len])) ?_
      refine al_step rfl rfl (aop_fun rfl rfl (spineP_c t h1.nd (by simp only [big]; omega)) rfl) ?_
      refine al_step rfl rfl (aop_move rfl) ?_
      refine al_step rfl rfl (aop_extract rfl rfl) ?_
      refine al_step rfl rfl (aop_extract rfl rfl) ?_
      refine al_new rfl rfl (aop_alloc zr26 rfl) fun b7 => ?_
      refine al_step rfl rfl (aop_store_whole (i := 0) ty26 rfl rfl rfl (by simp [encT_len]) (by first | rfl | simp [encT_len]) (one_Tm _)) ?_
      refine al_step rfl rfl (aop_assign rfl) ?_
      refine al_end rfl ?_
      refine awp_seq ?_
      generalize hz : (spine t).1 = z
      obtain ⟨zk, zi, zn, zl, zs⟩ := z
      have hzO : Ok B (.mk zk zi zn zl zs) := hz ▸ ⟨hsn.1, hsv.1, hsw.1, by omega⟩
      have hz12 : zk = 12 → 0 ≤ zi := fun e => idx_ok (v := .mk zk zi zn zl zs) hzO.wt e
      have hkn := kids_ok hzO.nd hzO.wt
      simp only [Tm.kids] at hkn
      rw [hz] at hsl
      simp only [size] at hsl
      have hzl := len_le_sizes zs
      refine awp_meetR [3, 4, 6, 7, 8] 9 (fun y => y = .p (.bool (known ms (.mk zk zi zn zl zs)))) ?_ ?_
      · refine awp_region ?_
        refine al_step rfl rfl (aop_field_ptr fd26 rfl rfl) ?_
        refine al_step rfl rfl (aop_load_box1 (i := 0) ty3 rfl rfl rfl) ?_
        refine al_step rfl rfl (aop_cmp rfl rfl rfl) ?_
        refine al_step rfl rfl (aop_move rfl) ?_
        refine al_case 29 rfl (fun g => ?_) (fun g => ?_)
        · (try simp only [sd, se] at g)
          refine al_stepg rfl rfl rfl rfl (aop_field_ptr fd26 rfl rfl) ?_
          refine al_stepg rfl rfl rfl rfl (aop_load_box1 (i := 0) ty3 rfl rfl rfl) ?_
          refine al_stepg rfl rfl rfl rfl (aop_cmp rfl rfl rfl) ?_
          refine al_step rfl rfl (aop_pick rfl rfl) ?_
          refine al_step rfl rfl (aop_move rfl) ?_
          refine al_case 34 rfl (fun g1 => ?_) (fun g1 => ?_)
          · (try simp only [sd, se] at g1)
            refine al_stepg rfl rfl rfl rfl (aop_field_ptr fd26 rfl rfl) ?_
            refine al_stepg rfl rfl rfl rfl (aop_load_box1 (i := 0) ty3 rfl rfl rfl) ?_
            refine al_stepg rfl rfl rfl rfl (aop_load_box1 (i := 8) ty22 rfl rfl rfl) ?_
            refine al_stepg rfl rfl rfl rfl (aop_lenE el22 rfl (List.length_map _)) ?_
            refine al_stepg rfl rfl rfl rfl (aop_cmp rfl rfl rfl) ?_
            refine al_step rfl rfl (aop_pick rfl rfl) ?_
            refine al_step rfl rfl (aop_move rfl) ?_
            refine al_case 41 rfl (fun g2 => ?_) (fun g2 => ?_)
            · (try simp only [sd, se] at g2)
              refine al_stepg rfl rfl rfl rfl (aop_load_box1 (i := 8) ty22 rfl rfl rfl) ?_
              refine al_stepg rfl rfl rfl rfl (aop_field_ptr fd26 rfl rfl) ?_
              refine al_stepg rfl rfl rfl rfl (aop_load_box1 (i := 0) ty3 rfl rfl rfl) ?_
              obtain ⟨x, hx⟩ := getElem?_of_lt (l := ms) (i := (zi : Int).toNat) (by omega)
              refine al_stepg rfl rfl rfl rfl (aop_index_lst el22 rfl rfl (by omega) (encM_get hx) (encM_len _)) ?_
              obtain ⟨xy, xn, xv, xc⟩ := x
              obtain ⟨xyk, xyi, xyn, xyl, xys⟩ := xy
              obtain ⟨xvk, xvi, xvn, xvl, xvs⟩ := xv
              refine al_stepg rfl rfl rfl rfl (aop_field_ref fd44 rfl rfl) ?_
              refine al_stepg rfl rfl rfl rfl (aop_load_ref1 ty4 rfl) ?_
              refine al_step rfl rfl (aop_pick rfl rfl) ?_
              refine al_step rfl rfl (aop_assign rfl) ?_
              refine al_end rfl ?_
              exact ⟨rfl, rfl, (by first | exact List.Sublist.refl _ | exact List.sublist_cons_self _ _), (by refine pB ?_; first | (simp_all [known]; done) | (exact absurd (hz12 (by assumption)) (by omega)) | (simp_all [known]; omega)), ⟨rfl, rfl, rfl, rfl, rfl, trivial⟩⟩
            · (try simp only [sd, se] at g2)
              refine al_pass rfl rfl rfl rfl rfl ?_
              refine al_pass rfl rfl rfl rfl rfl ?_
              refine al_pass rfl rfl rfl rfl rfl ?_
              refine al_pass rfl rfl rfl rfl rfl ?_
              refine al_pass rfl rfl rfl rfl rfl ?_
              refine al_pass rfl rfl rfl rfl rfl ?_
              refine al_step rfl rfl (aop_pick rfl rfl) ?_
              refine al_step rfl rfl (aop_assign rfl) ?_
              refine al_end rfl ?_
              exact ⟨rfl, rfl, (by first | exact List.Sublist.refl _ | exact List.sublist_cons_self _ _), (by refine pB ?_; first | (simp_all [known]; done) | (exact absurd (hz12 (by assumption)) (by omega)) | (simp_all [known]; omega)), ⟨rfl, rfl, rfl, rfl, rfl, trivial⟩⟩
          · (try simp only [sd, se] at g1)
            refine al_pass rfl rfl rfl rfl rfl ?_
            refine al_pass rfl rfl rfl rfl rfl ?_
            refine al_pass rfl rfl rfl rfl rfl ?_
            refine al_pass rfl rfl rfl rfl rfl ?_
            refine al_pass rfl rfl rfl rfl rfl ?_
            refine al_step rfl rfl (aop_pick rfl rfl) ?_
            refine al_step rfl rfl (aop_move rfl) ?_
            refine al_pass rfl rfl rfl rfl rfl ?_
            refine al_pass rfl rfl rfl rfl rfl ?_
            refine al_pass rfl rfl rfl rfl rfl ?_
            refine al_pass rfl rfl rfl rfl rfl ?_
            refine al_pass rfl rfl rfl rfl rfl ?_
            refine al_pass rfl rfl rfl rfl rfl ?_
            refine al_step rfl rfl (aop_pick rfl rfl) ?_
            refine al_step rfl rfl (aop_assign rfl) ?_
            refine al_end rfl ?_
            exact ⟨rfl, rfl, (by first | exact List.Sublist.refl _ | exact List.sublist_cons_self _ _), (by refine pB ?_; first | (simp_all [known]; done) | (exact absurd (hz12 (by assumption)) (by omega)) | (simp_all [known]; omega)), ⟨rfl, rfl, rfl, rfl, rfl, trivial⟩⟩
        · (try simp only [sd, se] at g)
          refine al_pass rfl rfl rfl rfl rfl ?_
          refine al_pass rfl rfl rfl rfl rfl ?_
          refine al_pass rfl rfl rfl rfl rfl ?_
          refine al_step rfl rfl (aop_pick rfl rfl) ?_
          refine al_step rfl rfl (aop_move rfl) ?_
          refine al_pass rfl rfl rfl rfl rfl ?_
          refine al_pass rfl rfl rfl rfl rfl ?_
          refine al_pass rfl rfl rfl rfl rfl ?_
          refine al_pass rfl rfl rfl rfl rfl ?_
          refine al_pass rfl rfl rfl rfl rfl ?_
          refine al_step rfl rfl (aop_pick rfl rfl) ?_
          refine al_step rfl rfl (aop_move rfl) ?_
          refine al_pass rfl rfl rfl rfl rfl ?_
          refine al_pass rfl rfl rfl rfl rfl ?_
          refine al_pass rfl rfl rfl rfl rfl ?_
          refine al_pass rfl rfl rfl rfl rfl ?_
          refine al_pass rfl rfl rfl rfl rfl ?_
          refine al_pass rfl rfl rfl rfl rfl ?_
          refine al_step rfl rfl (aop_pick rfl rfl) ?_
          refine al_step rfl rfl (aop_assign rfl) ?_
          refine al_end rfl ?_
          exact ⟨rfl, rfl, (by first | exact List.Sublist.refl _ | exact List.sublist_cons_self _ _), (by refine pB ?_; first | (simp_all [known]; done) | (exact absurd (hz12 (by assumption)) (by omega)) | (simp_all [known]; omega)), ⟨rfl, rfl, rfl, rfl, rfl, trivial⟩⟩
      rintro _ rfl
      refine awp_seq ?_
      refine awp_seq ?_
      refine awp_region ?_
      refine al_step rfl rfl (aop_move rfl) ?_
      refine al_end rfl ?_
      refine awp_cond rfl (fun c1 => ?_) (fun c1 => ?_)
      · have c1R := c1
        (try simp only [sd, se] at c1)
        have hk : known ms (.mk zk zi zn zl zs) = true := by simpa using c1R
        refine awp_region ?_
        refine al_step rfl rfl (aop_load_box1 (i := 9) ty53 rfl rfl rfl) ?_
        refine al_step rfl rfl (aop_field_ptr fd26 rfl rfl) ?_
        refine al_step rfl rfl (aop_load_box1 (i := 0) ty3 rfl rfl rfl) ?_
        obtain ⟨mv, hmv⟩ := known_get hk
        have hki := known_idx hk
        simp only [Tm.kind, Tm.index] at hki
        have hz0 := hz12 hki.1
        have hvo := valueOf_okP hB hm zi
        refine al_exS [3, 4, 5, 6, 7, 8, 9, 10] rfl rfl rfl (.inr rfl) (value1_c (fillP ms n) ms bd md bo mo bw bm bv bf dn op (wk + 1) zi mv (fun hin => ih dn (op ++ [zi]) (wk + 1) (valueOf ms zi) hvo ⟨h2.dn, hS1.w0, hS1.w1⟩ (mk_val (size_pos t) h3 hz0 hki.2 hin hvo.sz)) hz0 hmv (by simp only [big]; omega)) ⟨_, _, rfl, rfl, ⟨_, _, rfl, rfl, ⟨_, _, rfl, rfl, ⟨_, _, rfl, rfl, ⟨_, _, rfl, rfl, ⟨_, _, rfl, rfl, ⟨_, _, rfl, rfl, ⟨_, _, rfl, rfl, rfl⟩⟩⟩⟩⟩⟩⟩⟩ (by decide) (argsW_refl _) (fun _ _ h => (congrArg List.length h).trans rfl) ?_ ?_
        rotate_left
        · intro e _ he
          exact ⟨rfl, _, List.nil_sublist _, ⟨_, fillP_e1 hnw hz (headP_ke hk he), rfl⟩⟩
        rintro ⟨v, ⟨dn1, op1, wk1⟩⟩ _ hz1 rfl
        have hg := valueP_good (fillP_good hB hm n) hB hm _ _ _ hS1 hz1
        refine al_step rfl rfl (aop_store_whole (i := 0) ty26 rfl rfl rfl (by simp [encT_len]) (by first | rfl | simp [encT_len]) (one_Tm _)) ?_
        refine al_end rfl ?_
        refine awp_seq ?_
        refine awp_region ?_
        refine al_step rfl rfl (aop_move rfl) ?_
        refine al_step rfl rfl (aop_lenE el24 rfl (encTs_len _)) ?_
        refine al_vec rfl rfl (aop_makeSlice2 el24 zr26 rfl rfl (by decide) rfl rfl rfl (by omega) (by omega) (by omega) (vr_Tm (((((spine t).2).length : Nat) : Int).toNat) (.mk 0 0 ⟨#[]⟩ [] [] : Tm))) fun b81 cp => ?_
        refine al_step rfl rfl (aop_assign rfl) ?_
        refine al_end rfl ?_
        refine awp_seq ?_
        refine awp_seq ?_
        refine awp_region ?_
        refine al_step rfl rfl (aop_move rfl) ?_
        refine al_step rfl rfl (aop_lenE el24 rfl (encTs_len _)) ?_
        refine al_step rfl rfl (aop_move rfl) ?_
        refine al_end rfl ?_
        refine awp_block ?_
        refine awp_while (α := Nat × List Tm × List (Int × Tm) × List Int × Int × Option Nat × Nat) (fun (j, us, dn2, op2, wk2, o, cp1) => ⟨123, mk [(4, .ptr bf 0), (6, .ptr b6 0), (7, .ptr b7 0), (9, .p (.bool (known ms (.mk zk zi zn zl zs)))), (13, .vs o (encTs (us ++ List.replicate ((spine t).2.length - j) zeroT)).length cp1), (82, .p (.lst (encTs ((spine t).2)))), (83, .p (I (((spine t).2).length : Nat))), (84, .p (I (j : Int)))], [.vec o 5 (encTs (us ++ List.replicate ((spine t).2.length - j) zeroT)) cp1, .box b7 ((encT v).map .p), .box b6 [.p (I 0), .p (I 0), .p (.str ⟨#[]⟩), .p (.nils), .p (.nils)], .box bd [.map md], .map md (mapE (dnE dn2)), .box bo [.map mo], .map mo (mapE (mtE op2)), .box bw [.p (I wk2)], .box bm [.p (.lst (List.map encM ms))], .box bv [.fn (.func 65) [] [.ptr bd 0, .ptr bo 0, .ptr bf 0, .ptr bm 0]], .box bf [.fn (.func 67) [] [.ptr bw 0, .ptr bm 0, .ptr bv 0, .ptr bf 0]]], []⟩) (fun (j, us, dn2, op2, wk2, o, cp1) => (spine t).2.length - j) (fun (j, us, dn2, op2, wk2, o, cp1) => j ≤ (spine t).2.length ∧ (FInv (fillP ms n) (spine t).2 ⟨dn1, op1, wk1⟩ j us ⟨dn2, op2, wk2⟩ ∧ Oks us ∧ OkS ms ⟨dn2, op2, wk2⟩ ∧ Mono ⟨dn, op, wk + 1⟩ ⟨dn2, op2, wk2⟩)) ⟨0, [], dn1, op1, wk1, (some b81), cp⟩ (⟨by omega, FInv.zero _ _ _, fun x hx => by simp at hx, hg.2.1, hg.2.2⟩) ?_ ?_
        · exact le_mkW ⟨we rfl, we rfl, we rfl, we rfl, we (vsE_Tm (List.replicate (((((spine t).2).length : Nat) : Int).toNat) (.mk 0 0 ⟨#[]⟩ [] [] : Tm)) (rfl)), we rfl, we rfl, we rfl, trivial⟩ (leH (is := [0, 1, 2, 4, 5, 6, 7, 8, 9, 10, 11]) rfl (wl (ovE_Tm (List.replicate (((((spine t).2).length : Nat) : Int).toNat) (.mk 0 0 ⟨#[]⟩ [] [] : Tm)) (rfl)) (wl (oe rfl) (wl (oe rfl) (wl (oe rfl) (wl (oe rfl) (wl (oe rfl) (wl (oe rfl) (wl (oe rfl) (wl (oe rfl) (wl (oe rfl) (wl (oe rfl) (wl0)))))))))))))
        rintro ⟨j, us, dn2, op2, wk2, o, cp1⟩ hC
        try simp only at hC
        obtain ⟨hi, hF, hus, hS2, hM2⟩ := hC
        have hFl := hF.1
        refine awp_seq ?_
        refine awp_region ?_
        refine al_step rfl rfl (aop_cmp rfl rfl rfl) ?_
        refine al_end rfl ?_
        refine awp_seq ?_
        refine awp_cond rfl (fun c2 => ?_) (fun c2 => ?_)
        · have c2R := c2
          (try simp only [sd, se] at c2)
          refine awp_skip ?_
          refine awp_seq ?_
          refine awp_block ?_
          refine awp_seq ?_
          refine awp_region ?_
          refine al_step rfl rfl (aop_move rfl) ?_
          obtain ⟨x, hx⟩ := getElem?_of_lt (l := (spine t).2) (i := j) (by omega)
          refine al_step rfl rfl (aop_index_lst el24 rfl rfl (by omega) (encTs_get hx) (encT_len _)) ?_
          refine al_step rfl rfl (aop_load_ref ty26 rfl (encT_len _)) ?_
          refine al_new rfl rfl (aop_alloc zr26 rfl) fun b15 => ?_
          refine al_step rfl rfl (aop_assign rfl) ?_
          refine al_step rfl rfl (aop_store_whole (i := 0) ty26 rfl rfl rfl (by simp [encT_len]) (by first | rfl | simp [encT_len]) (one_Tm _)) ?_
          refine al_end rfl ?_
          refine awp_region ?_
          refine al_step rfl rfl (aop_move rfl) ?_
          refine al_step rfl rfl (aop_move rfl) ?_
          refine al_step rfl rfl (aop_load_box1 (i := 11) ty56 rfl rfl rfl) ?_
          refine al_step rfl rfl (aop_load_box (i := 0) ty26 rfl rfl (by simp [encT_len])) ?_
          have hxo : Ok B x := ok_get (t := t) hsn.2 hsv.2 hsw.2 (by omega) hx
          refine al_exS [4, 5, 6, 7, 8, 9, 10, 11] rfl rfl rfl (.inr rfl) (ih dn2 op2 wk2 x hxo hS2 (mk_step (t := t) h3 (fun i hi => hM2 i hi) (by have := size_mem hx; omega))) ⟨_, _, rfl, rfl, ⟨_, _, rfl, rfl, ⟨_, _, rfl, rfl, ⟨_, _, rfl, rfl, ⟨_, _, rfl, rfl, ⟨_, _, rfl, rfl, ⟨_, _, rfl, rfl, ⟨_, _, rfl, rfl, rfl⟩⟩⟩⟩⟩⟩⟩⟩ (by decide) (argsW_refl _) (fun _ _ h => (congrArg List.length h).trans rfl) ?_ ?_
          rotate_left
          · intro e _ he
            exact ⟨rfl, _, List.nil_sublist _, ⟨_, fillP_e2 hnw hz (headP_k hk hz1) (hF.err hx he), rfl⟩⟩
          rintro ⟨y, ⟨dn4, op4, wk4⟩⟩ _ hz2 rfl
          have hgy := fillP_good hB hm n _ _ _ hxo hS2 hz2
          have hzy := hz2
          refine al_some (i := 1) rfl (by simp [encTs_len]; omega) fun b hb => ?_
          subst hb
          refine al_step rfl rfl (aop_index_vs el24 rfl rfl (by omega) (by simp only [encTs_len, List.length_append, List.length_replicate]; omega)) ?_
          refine al_step rfl rfl (aop_store_vec2 (i := 1) (j := j) ty26 rfl rfl rfl (by simp only [encTs_len, List.length_append, List.length_replicate]; omega) rfl (pures_Tm _) (encT_len _) (one_Tm _) (vs_Tm (us ++ List.replicate ((spine t).2.length - j) zeroT) j y)) ?_
          refine al_end rfl ?_
          refine awp_region ?_
          refine al_step rfl rfl (aop_add rfl rfl (by omega) (by omega)) ?_
          refine al_step rfl rfl (aop_move rfl) ?_
          refine al_end rfl ?_
          refine ⟨⟨j + 1, us ++ [y], dn4, op4, wk4, (some b), cp1⟩, (by first | omega | (simp only; omega)), ⟨by omega, ⟨hF.succ hx hzy, Oks_snoc hus hgy.1, hgy.2.1, fun i hi => hgy.2.2 i (hM2 i hi)⟩⟩, le_mkW ⟨we rfl, we rfl, we rfl, we rfl, we (vsLen_Tm (us ++ List.replicate ((spine t).2.length - j) zeroT) (by simp; omega)), we rfl, we rfl, we rfl, trivial⟩ (leH (is := [1, 2, 3, 4, 5, 6, 7, 8, 9, 10, 11]) rfl (wl (ovE_Tm ((us ++ List.replicate ((spine t).2.length - j) zeroT).set j y) (by rw [set_fill hF.1 (by omega)]; congr 2)) (wl (oe rfl) (wl (oe rfl) (wl (oe rfl) (wl (oe rfl) (wl (oe rfl) (wl (oe rfl) (wl (oe rfl) (wl (oe rfl) (wl (oe rfl) (wl (oe rfl) (wl0)))))))))))))⟩
        · have c2R := c2
          (try simp only [sd, se] at c2)
          rw [fillEnd (us := us) (j := j) (m := (spine t).2.length) (by omega)]
          have ha : fillsX (fillP ms n) ⟨dn1, op1, wk1⟩ (spine t).2 = .ok (us, ⟨dn2, op2, wk2⟩) := hF.fin (by omega)
          have hul : us.length = (spine t).2.length := by omega
          refine awp_exit ?_
          refine awp_seq ?_
          refine awp_block ?_
          refine awp_ghost (ghost_freeze (i := 0) [13] rfl (memall ⟨rfl, trivial⟩)) ?_
          refine awp_while (α := Tm × List Tm) (fun (vv, ls) => ⟨123, mk [(6, .ptr b6 0), (7, .ptr b7 0), (9, .p (.bool (known ms (.mk zk zi zn zl zs)))), (13, .p (.lst (encTs ls)))], [.box b7 ((encT vv).map .p), .box b6 [.p (I 0), .p (I 0), .p (.str ⟨#[]⟩), .p (.nils), .p (.nils)], .box bd [.map md], .map md (mapE (dnE dn2)), .box bo [.map mo], .map mo (mapE (mtE op2)), .box bw [.p (I wk2)], .box bm [.p (.lst (List.map encM ms))], .box bv [.fn (.func 65) [] [.ptr bd 0, .ptr bo 0, .ptr bf 0, .ptr bm 0]], .box bf [.fn (.func 67) [] [.ptr bw 0, .ptr bm 0, .ptr bv 0, .ptr bf 0]]], []⟩) (fun (vv, ls) => ls.length) (fun (vv, ls) => betaP v us = betaP vv ls ∧ Ok 4096 vv ∧ Oks ls ∧ ls.length ≤ us.length) ⟨v, us⟩ (⟨rfl, hg.1, hus, Nat.le_refl _⟩) ?_ ?_
          · exact le_mkW ⟨we rfl, we rfl, we rfl, we rfl, trivial⟩ (leH (is := [0, 1, 2, 3, 4, 5, 6, 7, 8, 9]) rfl (wl (oe rfl) (wl (oe rfl) (wl (oe rfl) (wl (oe rfl) (wl (oe rfl) (wl (oe rfl) (wl (oe rfl) (wl (oe rfl) (wl (oe rfl) (wl (oe rfl) (wl0))))))))))))
          rintro ⟨vv, ls⟩ hC1
          try simp only at hC1
          obtain ⟨hB1, hv1, hl1, hl2⟩ := hC1
          refine awp_seq ?_
          refine awp_seq ?_
          obtain ⟨vvk, vvi, vvn, vvl, vvs⟩ := vv
          refine awp_meetR [6, 7, 9, 13] 106 (fun y => y = .p (.bool (((known ms (.mk zk zi zn zl zs)) && (decide (((ls.length : Nat) : Int) > (0 : Int)))) && ((vvk : Int) == (5 : Int))))) ?_ ?_
          · refine awp_region ?_
            refine al_step rfl rfl (aop_move rfl) ?_
            refine al_step rfl rfl (aop_move rfl) ?_
            refine al_case 97 rfl (fun g => ?_) (fun g => ?_)
            · (try simp only [sd, se] at g)
              refine al_stepg rfl rfl rfl rfl (aop_move rfl) ?_
              refine al_stepg rfl rfl rfl rfl (aop_lenE el24 rfl (encTs_len _)) ?_
              refine al_stepg rfl rfl rfl rfl (aop_cmp rfl rfl rfl) ?_
              refine al_step rfl rfl (aop_pick rfl rfl) ?_
              refine al_step rfl rfl (aop_move rfl) ?_
              refine al_case 102 rfl (fun g1 => ?_) (fun g1 => ?_)
              · (try simp only [sd, se] at g1)
                refine al_stepg rfl rfl rfl rfl (aop_field_ptr fd26 rfl rfl) ?_
                refine al_stepg rfl rfl rfl rfl (aop_load_box1 (i := 0) ty3 rfl rfl rfl) ?_
                refine al_stepg rfl rfl rfl rfl (aop_cmp rfl rfl rfl) ?_
                refine al_step rfl rfl (aop_pick rfl rfl) ?_
                refine al_end rfl ?_
                exact ⟨rfl, rfl, (by first | exact List.Sublist.refl _ | exact List.sublist_cons_self _ _), (by first | rfl | (refine pB ?_; simp_all; done) | (refine pB ?_; simp_all <;> (intros; omega))), ⟨rfl, rfl, rfl, rfl, trivial⟩⟩
              · (try simp only [sd, se] at g1)
                refine al_pass rfl rfl rfl rfl rfl ?_
                refine al_pass rfl rfl rfl rfl rfl ?_
                refine al_pass rfl rfl rfl rfl rfl ?_
                refine al_step rfl rfl (aop_pick rfl rfl) ?_
                refine al_end rfl ?_
                exact ⟨rfl, rfl, (by first | exact List.Sublist.refl _ | exact List.sublist_cons_self _ _), (by first | rfl | (refine pB ?_; simp_all; done) | (refine pB ?_; simp_all <;> (intros; omega))), ⟨rfl, rfl, rfl, rfl, trivial⟩⟩
            · (try simp only [sd, se] at g)
              refine al_pass rfl rfl rfl rfl rfl ?_
              refine al_pass rfl rfl rfl rfl rfl ?_
              refine al_pass rfl rfl rfl rfl rfl ?_
              refine al_step rfl rfl (aop_pick rfl rfl) ?_
              refine al_step rfl rfl (aop_move rfl) ?_
              refine al_pass rfl rfl rfl rfl rfl ?_
              refine al_pass rfl rfl rfl rfl rfl ?_
              refine al_pass rfl rfl rfl rfl rfl ?_
              refine al_step rfl rfl (aop_pick rfl rfl) ?_
              refine al_end rfl ?_
              exact ⟨rfl, rfl, (by first | exact List.Sublist.refl _ | exact List.sublist_cons_self _ _), (by first | rfl | (refine pB ?_; simp_all; done) | (refine pB ?_; simp_all <;> (intros; omega))), ⟨rfl, rfl, rfl, rfl, trivial⟩⟩
          rintro _ rfl
          refine awp_cond rfl (fun c3 => ?_) (fun c3 => ?_)
          · have c3R := c3
            (try simp only [sd, se] at c3)
            have hbc : 0 < ls.length ∧ vvk = 5 := by simp [hk] at c3R; exact ⟨by omega, by omega⟩
            have hvl := lam_len hv1 hbc.2
            refine awp_skip ?_
            refine awp_block ?_
            refine awp_seq ?_
            refine awp_dr (fun k => Nat.beq k 9) mx0 ?_
            refine dr_free rfl rfl (fun _ => aop_field_ptr fd26 rfl rfl) trivial ?_
            refine dr_read (j := 0) rfl rfl rfl (fun H i hi => aop_load_box1 (i := i) ty24 rfl hi rfl) (by repeat' first | exact trivial | refine And.intro ?_ ?_ | ((refine Or.inr (And.intro ?_ ?_) <;> repeat (first | exact List.Mem.head _ | apply List.Mem.tail)); done) | exact Or.inl (by kernel_rfl)) trivial ?_
            obtain ⟨x, hx⟩ := getElem?_of_lt (l := vvs) (i := 1) (by omega)
            have hkx : Ok 4096 x := ⟨Nds_mem hv1.nd.2.2.2.2.1 hx, Vps_mem hv1.vp.2 hx, Wts_mem hv1.wt.2.2 hx, by have := size_mem hx; have := hv1.sz; simp only [size] at this; omega⟩
            have hko := under_okL hkx hl1 hbc.1
            refine dr_free rfl rfl (fun _ => aop_index_lst el24 rfl rfl (by omega) (encTs_get hx) (encT_len _)) trivial ?_
            refine dr_free rfl rfl (fun _ => aop_load_ref ty26 rfl (encT_len _)) trivial ?_
            refine dr_free rfl rfl (fun _ => aop_move rfl) trivial ?_
            refine dr_free rfl rfl (fun _ => aop_slice2 (lo := 0) (hi := 1) el24 rfl (lens_of (solid_Tm _)) rfl ⟨_, rfl⟩ (Nat.zero_le _) (by simp only [encTs_len, List.length_map]; omega) (vt_Tm ls 1)) trivial ?_
            refine dr_free rfl rfl (fun _ => aop_fun rfl rfl (substPc_c x (ls.take 1) hkx.nd hkx.vp (by have := hkx.sz; omega) (Oks_nd (Oks_take hl1 1)) (Oks_vp (Oks_take hl1 1)) (fun v hv => by have := (Oks_take hl1 1 v hv).sz; simp only [big]; omega) (by simp only [big, List.length_take]; omega)) rfl) trivial ?_
            refine dr_free rfl rfl (fun _ => aop_extract rfl rfl) trivial ?_
            refine dr_free rfl rfl (fun _ => aop_extract rfl rfl) trivial ?_
            refine dr_exS [] rfl rfl rfl (.inl ⟨rfl, rfl, rfl⟩) (checkedE_c ((underP x (ls.take 1) 0).1) ((underP x (ls.take 1) 0).2) hko.1 (by have := hko.2.2.2; omega)) rfl (by decide) (aw (we rfl) (aw (we rfl) (aw0))) (fun _ _ h => (congrArg List.length h).trans rfl) (by kernel_rfl) (by kernel_rfl) rfl (by repeat' first | exact trivial | refine And.intro ?_ ?_ | ((refine Or.inr (And.intro ?_ ?_) <;> repeat (first | exact List.Mem.head _ | apply List.Mem.tail)); done) | exact Or.inl (by kernel_rfl)) ?_ ?_
            rotate_left
            · intro e he _ _ hτ
              exact ⟨rfl, _, List.nil_sublist _, ⟨_, fillP_e3 hnw hz hk (headP_k hk hz1) ha (hB1.trans (betaP_err (v := .mk vvk vvi vvn vvl vvs) hbc.1 hbc.2 hx he)), rfl⟩⟩
            rintro y _ hz2 rfl
            refine ⟨(by repeat' first | exact trivial | refine And.intro ?_ ?_ | ((refine Or.inr (And.intro ?_ ?_) <;> repeat (first | exact List.Mem.head _ | apply List.Mem.tail)); done) | exact Or.inl (by kernel_rfl)), trivial, ?_⟩
            refine dr_eff rfl rfl (aop_store_whole (i := 0) ty26 rfl rfl rfl (by simp [encT_len]) (by first | rfl | simp [encT_len]) (one_Tm _)) (by repeat' first | exact trivial | refine And.intro ?_ ?_ | ((refine Or.inr (And.intro ?_ ?_) <;> repeat (first | exact List.Mem.head _ | apply List.Mem.tail)); done) | exact Or.inl (by kernel_rfl)) trivial ?_
            refine dr_end rfl (by kernel_rfl) ?_
            refine awp_region ?_
            refine al_step rfl rfl (aop_move rfl) ?_
            refine al_step rfl rfl (aop_slice2 (lo := 1) el24 rfl (lens_of (solid_Tm _)) ⟨_, rfl⟩ rfl (by simp only [encTs_len, List.length_map]; omega) (Nat.le_refl _) (vd_Tm ls 1)) ?_
            refine al_step rfl rfl (aop_assign rfl) ?_
            refine al_end rfl ?_
            refine ⟨⟨y, ls.drop 1⟩, (by simp; omega), ⟨hB1.trans (betaP_step (v := .mk vvk vvi vvn vvl vvs) hbc.1 hbc.2 hx hz2), beta_ok hv1 hbc.2 hbc.1 hl1 hx hz2, Oks_drop hl1 1, by simp; omega⟩, le_mkW ⟨we rfl, we rfl, we rfl, we rfl, trivial⟩ (leH (is := [0, 1, 2, 3, 4, 5, 6, 7, 8, 9]) rfl (wl (oe rfl) (wl (oe rfl) (wl (oe rfl) (wl (oe rfl) (wl (oe rfl) (wl (oe rfl) (wl (oe rfl) (wl (oe rfl) (wl (oe rfl) (wl (oe rfl) (wl0))))))))))))⟩
          · have c3R := c3
            (try simp only [sd, se] at c3)
            have hstop : 0 < ls.length → vvk ≠ 5 := by intro a b; simp [hk, a, b] at c3R
            refine awp_exit ?_
            refine awp_seq ?_
            refine awp_region ?_
            refine al_step rfl rfl (aop_load_box (i := 0) ty26 rfl rfl rfl) ?_
            refine al_step rfl rfl (aop_move rfl) ?_
            refine al_step rfl rfl (aop_fun rfl rfl (applyP_c (.mk vvk vvi vvn vvl vvs : Tm) ls (by simp only [big]; omega)) rfl) ?_
            refine al_exS [] rfl rfl rfl (.inl ⟨rfl, rfl, rfl⟩) (checkedE_c (apply (.mk vvk vvi vvn vvl vvs : Tm) ls) 0 (apply_nd hv1.nd (Oks_nd hl1)) (app_small (K := 0) (m := (spine t).2.length) (by have := hv1.sz; omega) hl1 (by omega) (by omega) (by omega))) rfl (by decide) (aw (we rfl) (aw (we rfl) (aw0))) (fun _ _ h => (congrArg List.length h).trans rfl) ?_ ?_
            rotate_left
            · intro e _ he
              exact ⟨rfl, _, List.nil_sublist _, ⟨_, (fillP_k hnw hz hk (headP_k hk hz1) ha (hB1.trans (betaP_stop (v := .mk vvk vvi vvn vvl vvs) hstop)) he).trans rfl, rfl⟩⟩
            rintro y _ hz2 rfl
            refine al_step rfl rfl (aop_store_whole (i := 1) ty26 rfl rfl rfl (by simp [encT_len]) (by first | rfl | simp [encT_len]) (one_Tm _)) ?_
            refine al_end rfl ?_
            refine awp_ret ?_
            refine ⟨rfl, _, _, ⟨_, _, rfl, (resv_row (i := 1) ty26 rfl rfl (by simp [encT_len])), rfl⟩, (subl (is := [2, 3, 4, 5, 6, 7, 8, 9]) rfl), ?_⟩
            exact ⟨⟨y, ⟨dn2, op2, wk2⟩⟩, (fillP_k hnw hz hk (headP_k hk hz1) ha (hB1.trans (betaP_stop (v := .mk vvk vvi vvn vvl vvs) hstop)) hz2).trans rfl, rfl, rfl⟩
      · have c1R := c1
        (try simp only [sd, se] at c1)
        have hk : known ms (.mk zk zi zn zl zs) = false := by simpa using c1R
        refine awp_seq ?_
        refine awp_region ?_
        refine al_step rfl rfl (aop_field_ptr fd26 rfl rfl) ?_
        refine al_step rfl rfl (aop_load_box1 (i := 0) ty24 rfl rfl rfl) ?_
        refine al_step rfl rfl (aop_lenE el24 rfl (encTs_len _)) ?_
        refine al_step rfl rfl (aop_cmp rfl rfl rfl) ?_
        refine al_end rfl ?_
        refine awp_cond rfl (fun c2 => ?_) (fun c2 => ?_)
        · have c2R := c2
          (try simp only [sd, se] at c2)
          refine awp_seq ?_
          refine awp_region ?_
          refine al_step rfl rfl (aop_field_ptr fd26 rfl rfl) ?_
          refine al_step rfl rfl (aop_load_box1 (i := 0) ty24 rfl rfl rfl) ?_
          refine al_step rfl rfl (aop_lenE el24 rfl (encTs_len _)) ?_
          refine al_vec rfl rfl (aop_makeSlice2 el24 zr26 rfl rfl (by decide) rfl rfl rfl (by omega) (by omega) (by omega) (vr_Tm (((zs.length : Nat) : Int).toNat) (.mk 0 0 ⟨#[]⟩ [] [] : Tm))) fun b61 cp => ?_
          refine al_step rfl rfl (aop_assign rfl) ?_
          refine al_end rfl ?_
          refine awp_seq ?_
          refine awp_seq ?_
          refine awp_region ?_
          refine al_step rfl rfl (aop_field_ptr fd26 rfl rfl) ?_
          refine al_step rfl rfl (aop_load_box1 (i := 1) ty24 rfl rfl rfl) ?_
          refine al_step rfl rfl (aop_lenE el24 rfl (encTs_len _)) ?_
          refine al_step rfl rfl (aop_move rfl) ?_
          refine al_end rfl ?_
          refine awp_block ?_
          refine awp_while (α := Nat × List Tm × List (Int × Tm) × List Int × Int × Option Nat × Nat) (fun (i, ys, dn1, op1, wk1, o, cp1) => ⟨123, mk [(4, .ptr bf 0), (6, .ptr b6 0), (7, .ptr b7 0), (8, .p (.lst (encTs ((spine t).2)))), (9, .p (.bool (known ms (.mk zk zi zn zl zs)))), (10, .vs o (encTs (ys ++ List.replicate (zs.length - i) zeroT)).length cp1), (63, .p (.lst (encTs zs))), (64, .p (I (zs.length : Nat))), (65, .p (I (i : Int)))], [.vec o 5 (encTs (ys ++ List.replicate (zs.length - i) zeroT)) cp1, .box b7 [.p (I zk), .p (I zi), .p (.str zn), .p (.lst (List.map encL zl)), .p (.lst (encTs zs))], .box b6 [.p (I 0), .p (I 0), .p (.str ⟨#[]⟩), .p (.nils), .p (.nils)], .box bd [.map md], .map md (mapE (dnE dn1)), .box bo [.map mo], .map mo (mapE (mtE op1)), .box bw [.p (I wk1)], .box bm [.p (.lst (List.map encM ms))], .box bv [.fn (.func 65) [] [.ptr bd 0, .ptr bo 0, .ptr bf 0, .ptr bm 0]], .box bf [.fn (.func 67) [] [.ptr bw 0, .ptr bm 0, .ptr bv 0, .ptr bf 0]]], []⟩) (fun (i, ys, dn1, op1, wk1, o, cp1) => zs.length - i) (fun (i, ys, dn1, op1, wk1, o, cp1) => i ≤ zs.length ∧ (FInv (fillP ms n) zs ⟨dn, op, wk + 1⟩ i ys ⟨dn1, op1, wk1⟩ ∧ Oks ys ∧ OkS ms ⟨dn1, op1, wk1⟩ ∧ Mono ⟨dn, op, wk + 1⟩ ⟨dn1, op1, wk1⟩)) ⟨0, [], dn, op, wk + 1, (some b61), cp⟩ (⟨by omega, FInv.zero _ _ _, fun x hx => by simp at hx, hS1, fun i hi => hi⟩) ?_ ?_
          · exact le_mkW ⟨we rfl, we rfl, we rfl, we rfl, we rfl, we (vsE_Tm (List.replicate (((zs.length : Nat) : Int).toNat) (.mk 0 0 ⟨#[]⟩ [] [] : Tm)) (rfl)), we rfl, we rfl, we rfl, trivial⟩ (leH (is := [0, 1, 2, 4, 5, 6, 7, 8, 9, 10, 11]) rfl (wl (ovE_Tm (List.replicate (((zs.length : Nat) : Int).toNat) (.mk 0 0 ⟨#[]⟩ [] [] : Tm)) (rfl)) (wl (oe rfl) (wl (oe rfl) (wl (oe rfl) (wl (oe rfl) (wl (oe rfl) (wl (oe rfl) (wl (oe rfl) (wl (oe rfl) (wl (oe rfl) (wl (oe rfl) (wl0)))))))))))))
          rintro ⟨i, ys, dn1, op1, wk1, o, cp1⟩ hC
          try simp only at hC
          obtain ⟨hi, hK, hys, hS3, hM3⟩ := hC
          have hKl := hK.1
          refine awp_seq ?_
          refine awp_region ?_
          refine al_step rfl rfl (aop_cmp rfl rfl rfl) ?_
          refine al_end rfl ?_
          refine awp_seq ?_
          refine awp_cond rfl (fun c3 => ?_) (fun c3 => ?_)
          · have c3R := c3
            (try simp only [sd, se] at c3)
            refine awp_skip ?_
            refine awp_seq ?_
            refine awp_block ?_
            refine awp_seq ?_
            refine awp_region ?_
            refine al_step rfl rfl (aop_move rfl) ?_
            obtain ⟨x, hx⟩ := getElem?_of_lt (l := zs) (i := i) (by omega)
            refine al_step rfl rfl (aop_index_lst el24 rfl rfl (by omega) (encTs_get hx) (encT_len _)) ?_
            refine al_step rfl rfl (aop_load_ref ty26 rfl (encT_len _)) ?_
            refine al_new rfl rfl (aop_alloc zr26 rfl) fun b12 => ?_
            refine al_step rfl rfl (aop_assign rfl) ?_
            refine al_step rfl rfl (aop_store_whole (i := 0) ty26 rfl rfl rfl (by simp [encT_len]) (by first | rfl | simp [encT_len]) (one_Tm _)) ?_
            refine al_end rfl ?_
            refine awp_region ?_
            refine al_step rfl rfl (aop_move rfl) ?_
            refine al_step rfl rfl (aop_move rfl) ?_
            refine al_step rfl rfl (aop_load_box1 (i := 11) ty56 rfl rfl rfl) ?_
            refine al_step rfl rfl (aop_load_box (i := 0) ty26 rfl rfl (by simp [encT_len])) ?_
            have hxo : Ok B x := ok_get (t := t) hzO.nd.2.2.2.2.1 hzO.vp.2 hzO.wt.2.2 (by omega) hx
            refine al_exS [4, 5, 6, 7, 8, 9, 10, 11] rfl rfl rfl (.inr rfl) (ih dn1 op1 wk1 x hxo hS3 (mk_step (t := t) h3 (fun i hi => hM3 i hi) (by have := size_mem hx; omega))) ⟨_, _, rfl, rfl, ⟨_, _, rfl, rfl, ⟨_, _, rfl, rfl, ⟨_, _, rfl, rfl, ⟨_, _, rfl, rfl, ⟨_, _, rfl, rfl, ⟨_, _, rfl, rfl, ⟨_, _, rfl, rfl, rfl⟩⟩⟩⟩⟩⟩⟩⟩ (by decide) (argsW_refl _) (fun _ _ h => (congrArg List.length h).trans rfl) ?_ ?_
            rotate_left
            · intro e _ he
              exact ⟨rfl, _, List.nil_sublist _, ⟨_, fillP_e1 hnw hz (headP_ne hk (hK.err hx he)), rfl⟩⟩
            rintro ⟨y, ⟨dn4, op4, wk4⟩⟩ _ hz1 rfl
            have hgy := fillP_good hB hm n _ _ _ hxo hS3 hz1
            have hzy := hz1
            refine al_some (i := 1) rfl (by simp [encTs_len]; omega) fun b hb => ?_
            subst hb
            refine al_step rfl rfl (aop_index_vs el24 rfl rfl (by omega) (by simp only [encTs_len, List.length_append, List.length_replicate]; omega)) ?_
            refine al_step rfl rfl (aop_store_vec2 (i := 1) (j := i) ty26 rfl rfl rfl (by simp only [encTs_len, List.length_append, List.length_replicate]; omega) rfl (pures_Tm _) (encT_len _) (one_Tm _) (vs_Tm (ys ++ List.replicate (zs.length - i) zeroT) i y)) ?_
            refine al_end rfl ?_
            refine awp_region ?_
            refine al_step rfl rfl (aop_add rfl rfl (by omega) (by omega)) ?_
            refine al_step rfl rfl (aop_move rfl) ?_
            refine al_end rfl ?_
            refine ⟨⟨i + 1, ys ++ [y], dn4, op4, wk4, (some b), cp1⟩, (by first | omega | (simp only; omega)), ⟨by omega, ⟨hK.succ hx hzy, Oks_snoc hys hgy.1, hgy.2.1, fun i hi => hgy.2.2 i (hM3 i hi)⟩⟩, le_mkW ⟨we rfl, we rfl, we rfl, we rfl, we rfl, we (vsLen_Tm (ys ++ List.replicate (zs.length - i) zeroT) (by simp; omega)), we rfl, we rfl, we rfl, trivial⟩ (leH (is := [1, 2, 3, 4, 5, 6, 7, 8, 9, 10, 11]) rfl (wl (ovE_Tm ((ys ++ List.replicate (zs.length - i) zeroT).set i y) (by rw [set_fill hK.1 (by omega)]; congr 2)) (wl (oe rfl) (wl (oe rfl) (wl (oe rfl) (wl (oe rfl) (wl (oe rfl) (wl (oe rfl) (wl (oe rfl) (wl (oe rfl) (wl (oe rfl) (wl (oe rfl) (wl0)))))))))))))⟩
          · have c3R := c3
            (try simp only [sd, se] at c3)
            rw [fillEnd (us := ys) (j := i) (m := zs.length) (by omega)]
            have hq : fillsX (fillP ms n) ⟨dn, op, wk + 1⟩ zs = .ok (ys, ⟨dn1, op1, wk1⟩) := hK.fin (by omega)
            have hyl : ys.length = zs.length := by omega
            have hwk := withKids_okP hzO hys hyl
            simp only [withKids, Tm.kids] at hwk
            refine awp_exit ?_
            refine awp_region ?_
            refine al_step rfl rfl (aop_move rfl) ?_
            refine al_step rfl rfl (aop_field_ptr fd26 rfl rfl) ?_
            refine al_ghost (ghost_freeze (i := 0) [10, 77] rfl (memall ⟨rfl, rfl, trivial⟩)) ?_
            refine al_step rfl rfl (aop_store_box (i := 0) ty24 rfl rfl rfl rfl rfl rfl) ?_
            refine al_end rfl ?_
            refine awp_seq ?_
            refine awp_region ?_
            refine al_step rfl rfl (aop_move rfl) ?_
            refine al_step rfl rfl (aop_lenE el24 rfl (encTs_len _)) ?_
            refine al_vec rfl rfl (aop_makeSlice2 el24 zr26 rfl rfl (by decide) rfl rfl rfl (by omega) (by omega) (by omega) (vr_Tm (((((spine t).2).length : Nat) : Int).toNat) (.mk 0 0 ⟨#[]⟩ [] [] : Tm))) fun b81 cp2 => ?_
            refine al_step rfl rfl (aop_assign rfl) ?_
            refine al_end rfl ?_
            refine awp_seq ?_
            refine awp_seq ?_
            refine awp_region ?_
            refine al_step rfl rfl (aop_move rfl) ?_
            refine al_step rfl rfl (aop_lenE el24 rfl (encTs_len _)) ?_
            refine al_step rfl rfl (aop_move rfl) ?_
            refine al_end rfl ?_
            refine awp_block ?_
            refine awp_while (α := Nat × List Tm × List (Int × Tm) × List Int × Int × Option Nat × Nat) (fun (j, us, dn2, op2, wk2, o1, cp3) => ⟨123, mk [(4, .ptr bf 0), (6, .ptr b6 0), (7, .ptr b7 0), (9, .p (.bool (known ms (.mk zk zi zn zl zs)))), (13, .vs o1 (encTs (us ++ List.replicate ((spine t).2.length - j) zeroT)).length cp3), (82, .p (.lst (encTs ((spine t).2)))), (83, .p (I (((spine t).2).length : Nat))), (84, .p (I (j : Int)))], [.vec o1 5 (encTs (us ++ List.replicate ((spine t).2.length - j) zeroT)) cp3, .box b7 [.p (I zk), .p (I zi), .p (.str zn), .p (.lst (List.map encL zl)), .p (.lst (encTs ys))], .box b6 [.p (I 0), .p (I 0), .p (.str ⟨#[]⟩), .p (.nils), .p (.nils)], .box bd [.map md], .map md (mapE (dnE dn2)), .box bo [.map mo], .map mo (mapE (mtE op2)), .box bw [.p (I wk2)], .box bm [.p (.lst (List.map encM ms))], .box bv [.fn (.func 65) [] [.ptr bd 0, .ptr bo 0, .ptr bf 0, .ptr bm 0]], .box bf [.fn (.func 67) [] [.ptr bw 0, .ptr bm 0, .ptr bv 0, .ptr bf 0]]], []⟩) (fun (j, us, dn2, op2, wk2, o1, cp3) => (spine t).2.length - j) (fun (j, us, dn2, op2, wk2, o1, cp3) => j ≤ (spine t).2.length ∧ (FInv (fillP ms n) (spine t).2 ⟨dn1, op1, wk1⟩ j us ⟨dn2, op2, wk2⟩ ∧ Oks us ∧ OkS ms ⟨dn2, op2, wk2⟩ ∧ Mono ⟨dn, op, wk + 1⟩ ⟨dn2, op2, wk2⟩)) ⟨0, [], dn1, op1, wk1, (some b81), cp2⟩ (⟨by omega, FInv.zero _ _ _, fun x hx => by simp at hx, hS3, hM3⟩) ?_ ?_
            · exact le_mkW ⟨we rfl, we rfl, we rfl, we rfl, we (vsE_Tm (List.replicate (((((spine t).2).length : Nat) : Int).toNat) (.mk 0 0 ⟨#[]⟩ [] [] : Tm)) (rfl)), we rfl, we rfl, we rfl, trivial⟩ (leH (is := [0, 1, 2, 3, 4, 5, 6, 7, 8, 9, 10]) rfl (wl (ovE_Tm (List.replicate (((((spine t).2).length : Nat) : Int).toNat) (.mk 0 0 ⟨#[]⟩ [] [] : Tm)) (rfl)) (wl (oe rfl) (wl (oe rfl) (wl (oe rfl) (wl (oe rfl) (wl (oe rfl) (wl (oe rfl) (wl (oe rfl) (wl (oe rfl) (wl (oe rfl) (wl (oe rfl) (wl0)))))))))))))
            rintro ⟨j, us, dn2, op2, wk2, o1, cp3⟩ hC1
            try simp only at hC1
            obtain ⟨hi, hF, hus, hS2, hM2⟩ := hC1
            have hFl := hF.1
            refine awp_seq ?_
            refine awp_region ?_
            refine al_step rfl rfl (aop_cmp rfl rfl rfl) ?_
            refine al_end rfl ?_
            refine awp_seq ?_
            refine awp_cond rfl (fun c4 => ?_) (fun c4 => ?_)
            · have c4R := c4
              (try simp only [sd, se] at c4)
              refine awp_skip ?_
              refine awp_seq ?_
              refine awp_block ?_
              refine awp_seq ?_
              refine awp_region ?_
              refine al_step rfl rfl (aop_move rfl) ?_
              obtain ⟨x, hx⟩ := getElem?_of_lt (l := (spine t).2) (i := j) (by omega)
              refine al_step rfl rfl (aop_index_lst el24 rfl rfl (by omega) (encTs_get hx) (encT_len _)) ?_
              refine al_step rfl rfl (aop_load_ref ty26 rfl (encT_len _)) ?_
              refine al_new rfl rfl (aop_alloc zr26 rfl) fun b15 => ?_
              refine al_step rfl rfl (aop_assign rfl) ?_
              refine al_step rfl rfl (aop_store_whole (i := 0) ty26 rfl rfl rfl (by simp [encT_len]) (by first | rfl | simp [encT_len]) (one_Tm _)) ?_
              refine al_end rfl ?_
              refine awp_region ?_
              refine al_step rfl rfl (aop_move rfl) ?_
              refine al_step rfl rfl (aop_move rfl) ?_
              refine al_step rfl rfl (aop_load_box1 (i := 11) ty56 rfl rfl rfl) ?_
              refine al_step rfl rfl (aop_load_box (i := 0) ty26 rfl rfl (by simp [encT_len])) ?_
              have hxo : Ok B x := ok_get (t := t) hsn.2 hsv.2 hsw.2 (by omega) hx
              refine al_exS [4, 5, 6, 7, 8, 9, 10, 11] rfl rfl rfl (.inr rfl) (ih dn2 op2 wk2 x hxo hS2 (mk_step (t := t) h3 (fun i hi => hM2 i hi) (by have := size_mem hx; omega))) ⟨_, _, rfl, rfl, ⟨_, _, rfl, rfl, ⟨_, _, rfl, rfl, ⟨_, _, rfl, rfl, ⟨_, _, rfl, rfl, ⟨_, _, rfl, rfl, ⟨_, _, rfl, rfl, ⟨_, _, rfl, rfl, rfl⟩⟩⟩⟩⟩⟩⟩⟩ (by decide) (argsW_refl _) (fun _ _ h => (congrArg List.length h).trans rfl) ?_ ?_
              rotate_left
              · intro e _ he
                exact ⟨rfl, _, List.nil_sublist _, ⟨_, fillP_e2 hnw hz (headP_n hk hq) (hF.err hx he), rfl⟩⟩
              rintro ⟨y, ⟨dn4, op4, wk4⟩⟩ _ hz1 rfl
              have hgy := fillP_good hB hm n _ _ _ hxo hS2 hz1
              have hzy := hz1
              refine al_some (i := 1) rfl (by simp [encTs_len]; omega) fun b hb => ?_
              subst hb
              refine al_step rfl rfl (aop_index_vs el24 rfl rfl (by omega) (by simp only [encTs_len, List.length_append, List.length_replicate]; omega)) ?_
              refine al_step rfl rfl (aop_store_vec2 (i := 1) (j := j) ty26 rfl rfl rfl (by simp only [encTs_len, List.length_append, List.length_replicate]; omega) rfl (pures_Tm _) (encT_len _) (one_Tm _) (vs_Tm (us ++ List.replicate ((spine t).2.length - j) zeroT) j y)) ?_
              refine al_end rfl ?_
              refine awp_region ?_
              refine al_step rfl rfl (aop_add rfl rfl (by omega) (by omega)) ?_
              refine al_step rfl rfl (aop_move rfl) ?_
              refine al_end rfl ?_
              refine ⟨⟨j + 1, us ++ [y], dn4, op4, wk4, (some b), cp3⟩, (by first | omega | (simp only; omega)), ⟨by omega, ⟨hF.succ hx hzy, Oks_snoc hus hgy.1, hgy.2.1, fun i hi => hgy.2.2 i (hM2 i hi)⟩⟩, le_mkW ⟨we rfl, we rfl, we rfl, we rfl, we (vsLen_Tm (us ++ List.replicate ((spine t).2.length - j) zeroT) (by simp; omega)), we rfl, we rfl, we rfl, trivial⟩ (leH (is := [1, 2, 3, 4, 5, 6, 7, 8, 9, 10, 11]) rfl (wl (ovE_Tm ((us ++ List.replicate ((spine t).2.length - j) zeroT).set j y) (by rw [set_fill hF.1 (by omega)]; congr 2)) (wl (oe rfl) (wl (oe rfl) (wl (oe rfl) (wl (oe rfl) (wl (oe rfl) (wl (oe rfl) (wl (oe rfl) (wl (oe rfl) (wl (oe rfl) (wl (oe rfl) (wl0)))))))))))))⟩
            · have c4R := c4
              (try simp only [sd, se] at c4)
              rw [fillEnd (us := us) (j := j) (m := (spine t).2.length) (by omega)]
              have ha : fillsX (fillP ms n) ⟨dn1, op1, wk1⟩ (spine t).2 = .ok (us, ⟨dn2, op2, wk2⟩) := hF.fin (by omega)
              have hul : us.length = (spine t).2.length := by omega
              refine awp_exit ?_
              refine awp_seq ?_
              refine awp_block ?_
              refine awp_ghost (ghost_freeze (i := 0) [13] rfl (memall ⟨rfl, trivial⟩)) ?_
              refine awp_while (α := Unit) (fun _ => ⟨123, mk [(6, .ptr b6 0), (7, .ptr b7 0), (9, .p (.bool (known ms (.mk zk zi zn zl zs)))), (13, .p (.lst (encTs us)))], [.box b7 [.p (I zk), .p (I zi), .p (.str zn), .p (.lst (List.map encL zl)), .p (.lst (encTs ys))], .box b6 [.p (I 0), .p (I 0), .p (.str ⟨#[]⟩), .p (.nils), .p (.nils)], .box bd [.map md], .map md (mapE (dnE dn2)), .box bo [.map mo], .map mo (mapE (mtE op2)), .box bw [.p (I wk2)], .box bm [.p (.lst (List.map encM ms))], .box bv [.fn (.func 65) [] [.ptr bd 0, .ptr bo 0, .ptr bf 0, .ptr bm 0]], .box bf [.fn (.func 67) [] [.ptr bw 0, .ptr bm 0, .ptr bv 0, .ptr bf 0]]], []⟩) (fun _ => 0) (fun _ => True) () (by first | trivial | omega | simp | (simp; omega)) ?_ ?_
              · exact le_mkW ⟨we rfl, we rfl, we rfl, we rfl, trivial⟩ (leH (is := [0, 1, 2, 3, 4, 5, 6, 7, 8, 9]) rfl (wl (oe rfl) (wl (oe rfl) (wl (oe rfl) (wl (oe rfl) (wl (oe rfl) (wl (oe rfl) (wl (oe rfl) (wl (oe rfl) (wl (oe rfl) (wl (oe rfl) (wl0))))))))))))
              rintro _ hC2
              try simp only at hC2
              refine awp_seq ?_
              refine awp_seq ?_
              refine awp_meetR [6, 7, 9, 13] 106 (fun y => y = .p (.bool (((known ms (.mk zk zi zn zl zs)) && (decide (((us.length : Nat) : Int) > (0 : Int)))) && ((zk : Int) == (5 : Int))))) ?_ ?_
              · refine awp_region ?_
                refine al_step rfl rfl (aop_move rfl) ?_
                refine al_step rfl rfl (aop_move rfl) ?_
                refine al_case 97 rfl (fun g => ?_) (fun g => ?_)
                · (try simp only [sd, se] at g)
                  refine al_stepg rfl rfl rfl rfl (aop_move rfl) ?_
                  refine al_stepg rfl rfl rfl rfl (aop_lenE el24 rfl (encTs_len _)) ?_
                  refine al_stepg rfl rfl rfl rfl (aop_cmp rfl rfl rfl) ?_
                  refine al_step rfl rfl (aop_pick rfl rfl) ?_
                  refine al_step rfl rfl (aop_move rfl) ?_
                  refine al_case 102 rfl (fun g1 => ?_) (fun g1 => ?_)
                  · (try simp only [sd, se] at g1)
                    refine al_stepg rfl rfl rfl rfl (aop_field_ptr fd26 rfl rfl) ?_
                    refine al_stepg rfl rfl rfl rfl (aop_load_box1 (i := 0) ty3 rfl rfl rfl) ?_
                    refine al_stepg rfl rfl rfl rfl (aop_cmp rfl rfl rfl) ?_
                    refine al_step rfl rfl (aop_pick rfl rfl) ?_
                    refine al_end rfl ?_
                    exact ⟨rfl, rfl, (by first | exact List.Sublist.refl _ | exact List.sublist_cons_self _ _), (by first | rfl | (refine pB ?_; simp_all; done) | (refine pB ?_; simp_all <;> (intros; omega))), ⟨rfl, rfl, rfl, rfl, trivial⟩⟩
                  · (try simp only [sd, se] at g1)
                    refine al_pass rfl rfl rfl rfl rfl ?_
                    refine al_pass rfl rfl rfl rfl rfl ?_
                    refine al_pass rfl rfl rfl rfl rfl ?_
                    refine al_step rfl rfl (aop_pick rfl rfl) ?_
                    refine al_end rfl ?_
                    exact ⟨rfl, rfl, (by first | exact List.Sublist.refl _ | exact List.sublist_cons_self _ _), (by first | rfl | (refine pB ?_; simp_all; done) | (refine pB ?_; simp_all <;> (intros; omega))), ⟨rfl, rfl, rfl, rfl, trivial⟩⟩
                · (try simp only [sd, se] at g)
                  refine al_pass rfl rfl rfl rfl rfl ?_
                  refine al_pass rfl rfl rfl rfl rfl ?_
                  refine al_pass rfl rfl rfl rfl rfl ?_
                  refine al_step rfl rfl (aop_pick rfl rfl) ?_
                  refine al_step rfl rfl (aop_move rfl) ?_
                  refine al_pass rfl rfl rfl rfl rfl ?_
                  refine al_pass rfl rfl rfl rfl rfl ?_
                  refine al_pass rfl rfl rfl rfl rfl ?_
                  refine al_step rfl rfl (aop_pick rfl rfl) ?_
                  refine al_end rfl ?_
                  exact ⟨rfl, rfl, (by first | exact List.Sublist.refl _ | exact List.sublist_cons_self _ _), (by first | rfl | (refine pB ?_; simp_all; done) | (refine pB ?_; simp_all <;> (intros; omega))), ⟨rfl, rfl, rfl, rfl, trivial⟩⟩
              rintro _ rfl
              refine awp_cond rfl (fun c5 => ?_) (fun c5 => ?_)
              · have c5R := c5
                (try simp only [sd, se] at c5)
                exact absurd c5R (by simp [hk])
              · have c5R := c5
                (try simp only [sd, se] at c5)
                refine awp_exit ?_
                refine awp_seq ?_
                refine awp_region ?_
                refine al_step rfl rfl (aop_load_box (i := 0) ty26 rfl rfl rfl) ?_
                refine al_step rfl rfl (aop_move rfl) ?_
                refine al_step rfl rfl (aop_fun rfl rfl (applyP_c (.mk zk zi zn zl ys : Tm) us (by simp only [big]; omega)) rfl) ?_
                refine al_exS [] rfl rfl rfl (.inl ⟨rfl, rfl, rfl⟩) (checkedE_c (apply (.mk zk zi zn zl ys : Tm) us) 0 (apply_nd hwk.1 (Oks_nd hus)) (app_small (K := zs.length) (m := size t) (by have := hwk.2.2.2; omega) hus (by omega) (by omega) (by omega))) rfl (by decide) (aw (we rfl) (aw (we rfl) (aw0))) (fun _ _ h => (congrArg List.length h).trans rfl) ?_ ?_
                rotate_left
                · intro e _ he
                  exact ⟨rfl, _, List.nil_sublist _, ⟨_, (fillP_n hnw hz hk (headP_n hk hq) ha he).trans rfl, rfl⟩⟩
                rintro y _ hz1 rfl
                refine al_step rfl rfl (aop_store_whole (i := 1) ty26 rfl rfl rfl (by simp [encT_len]) (by first | rfl | simp [encT_len]) (one_Tm _)) ?_
                refine al_end rfl ?_
                refine awp_ret ?_
                refine ⟨rfl, _, _, ⟨_, _, rfl, (resv_row (i := 1) ty26 rfl rfl (by simp [encT_len])), rfl⟩, (subl (is := [2, 3, 4, 5, 6, 7, 8, 9]) rfl), ?_⟩
                exact ⟨⟨y, ⟨dn2, op2, wk2⟩⟩, (fillP_n hnw hz hk (headP_n hk hq) ha hz1).trans rfl, rfl, rfl⟩
        · have c2R := c2
          (try simp only [sd, se] at c2)
          have hnil : zs = [] := by cases zs with | nil => rfl | cons a b => exact absurd c2 (by simp; try omega)
          have hzs1 : size (.mk zk zi zn zl zs) = 1 := by rw [hnil]; rfl
          refine awp_skip ?_
          refine awp_seq ?_
          refine awp_region ?_
          refine al_step rfl rfl (aop_move rfl) ?_
          refine al_step rfl rfl (aop_lenE el24 rfl (encTs_len _)) ?_
          refine al_vec rfl rfl (aop_makeSlice2 el24 zr26 rfl rfl (by decide) rfl rfl rfl (by omega) (by omega) (by omega) (vr_Tm (((((spine t).2).length : Nat) : Int).toNat) (.mk 0 0 ⟨#[]⟩ [] [] : Tm))) fun b81 cp => ?_
          refine al_step rfl rfl (aop_assign rfl) ?_
          refine al_end rfl ?_
          refine awp_seq ?_
          refine awp_seq ?_
          refine awp_region ?_
          refine al_step rfl rfl (aop_move rfl) ?_
          refine al_step rfl rfl (aop_lenE el24 rfl (encTs_len _)) ?_
          refine al_step rfl rfl (aop_move rfl) ?_
          refine al_end rfl ?_
          refine awp_block ?_
          refine awp_while (α := Nat × List Tm × List (Int × Tm) × List Int × Int × Option Nat × Nat) (fun (j, us, dn2, op2, wk2, o, cp1) => ⟨123, mk [(4, .ptr bf 0), (6, .ptr b6 0), (7, .ptr b7 0), (9, .p (.bool (known ms (.mk zk zi zn zl zs)))), (13, .vs o (encTs (us ++ List.replicate ((spine t).2.length - j) zeroT)).length cp1), (82, .p (.lst (encTs ((spine t).2)))), (83, .p (I (((spine t).2).length : Nat))), (84, .p (I (j : Int)))], [.vec o 5 (encTs (us ++ List.replicate ((spine t).2.length - j) zeroT)) cp1, .box b7 [.p (I zk), .p (I zi), .p (.str zn), .p (.lst (List.map encL zl)), .p (.lst (encTs zs))], .box b6 [.p (I 0), .p (I 0), .p (.str ⟨#[]⟩), .p (.nils), .p (.nils)], .box bd [.map md], .map md (mapE (dnE dn2)), .box bo [.map mo], .map mo (mapE (mtE op2)), .box bw [.p (I wk2)], .box bm [.p (.lst (List.map encM ms))], .box bv [.fn (.func 65) [] [.ptr bd 0, .ptr bo 0, .ptr bf 0, .ptr bm 0]], .box bf [.fn (.func 67) [] [.ptr bw 0, .ptr bm 0, .ptr bv 0, .ptr bf 0]]], []⟩) (fun (j, us, dn2, op2, wk2, o, cp1) => (spine t).2.length - j) (fun (j, us, dn2, op2, wk2, o, cp1) => j ≤ (spine t).2.length ∧ (FInv (fillP ms n) (spine t).2 ⟨dn, op, wk + 1⟩ j us ⟨dn2, op2, wk2⟩ ∧ Oks us ∧ OkS ms ⟨dn2, op2, wk2⟩ ∧ Mono ⟨dn, op, wk + 1⟩ ⟨dn2, op2, wk2⟩)) ⟨0, [], dn, op, wk + 1, (some b81), cp⟩ (⟨by omega, FInv.zero _ _ _, fun x hx => by simp at hx, hS1, (fun i hi => hi)⟩) ?_ ?_
          · exact le_mkW ⟨we rfl, we rfl, we rfl, we rfl, we (vsE_Tm (List.replicate (((((spine t).2).length : Nat) : Int).toNat) (.mk 0 0 ⟨#[]⟩ [] [] : Tm)) (rfl)), we rfl, we rfl, we rfl, trivial⟩ (leH (is := [0, 1, 2, 4, 5, 6, 7, 8, 9, 10, 11]) rfl (wl (ovE_Tm (List.replicate (((((spine t).2).length : Nat) : Int).toNat) (.mk 0 0 ⟨#[]⟩ [] [] : Tm)) (rfl)) (wl (oe rfl) (wl (oe rfl) (wl (oe rfl) (wl (oe rfl) (wl (oe rfl) (wl (oe rfl) (wl (oe rfl) (wl (oe rfl) (wl (oe rfl) (wl (oe rfl) (wl0)))))))))))))
          rintro ⟨j, us, dn2, op2, wk2, o, cp1⟩ hC
          try simp only at hC
          obtain ⟨hi, hF, hus, hS2, hM2⟩ := hC
          have hFl := hF.1
          refine awp_seq ?_
          refine awp_region ?_
          refine al_step rfl rfl (aop_cmp rfl rfl rfl) ?_
          refine al_end rfl ?_
          refine awp_seq ?_
          refine awp_cond rfl (fun c3 => ?_) (fun c3 => ?_)
          · have c3R := c3
            (try simp only [sd, se] at c3)
            refine awp_skip ?_
            refine awp_seq ?_
            refine awp_block ?_
            refine awp_seq ?_
            refine awp_region ?_
            refine al_step rfl rfl (aop_move rfl) ?_
            obtain ⟨x, hx⟩ := getElem?_of_lt (l := (spine t).2) (i := j) (by omega)
            refine al_step rfl rfl (aop_index_lst el24 rfl rfl (by omega) (encTs_get hx) (encT_len _)) ?_
            refine al_step rfl rfl (aop_load_ref ty26 rfl (encT_len _)) ?_
            refine al_new rfl rfl (aop_alloc zr26 rfl) fun b15 => ?_
            refine al_step rfl rfl (aop_assign rfl) ?_
            refine al_step rfl rfl (aop_store_whole (i := 0) ty26 rfl rfl rfl (by simp [encT_len]) (by first | rfl | simp [encT_len]) (one_Tm _)) ?_
            refine al_end rfl ?_
            refine awp_region ?_
            refine al_step rfl rfl (aop_move rfl) ?_
            refine al_step rfl rfl (aop_move rfl) ?_
            refine al_step rfl rfl (aop_load_box1 (i := 11) ty56 rfl rfl rfl) ?_
            refine al_step rfl rfl (aop_load_box (i := 0) ty26 rfl rfl (by simp [encT_len])) ?_
            have hxo : Ok B x := ok_get (t := t) hsn.2 hsv.2 hsw.2 (by omega) hx
            refine al_exS [4, 5, 6, 7, 8, 9, 10, 11] rfl rfl rfl (.inr rfl) (ih dn2 op2 wk2 x hxo hS2 (mk_step (t := t) h3 (fun i hi => hM2 i hi) (by have := size_mem hx; omega))) ⟨_, _, rfl, rfl, ⟨_, _, rfl, rfl, ⟨_, _, rfl, rfl, ⟨_, _, rfl, rfl, ⟨_, _, rfl, rfl, ⟨_, _, rfl, rfl, ⟨_, _, rfl, rfl, ⟨_, _, rfl, rfl, rfl⟩⟩⟩⟩⟩⟩⟩⟩ (by decide) (argsW_refl _) (fun _ _ h => (congrArg List.length h).trans rfl) ?_ ?_
            rotate_left
            · intro e _ he
              exact ⟨rfl, _, List.nil_sublist _, ⟨_, fillP_e2 hnw hz (headP_n hk (ks := []) (st2 := ⟨dn, op, wk + 1⟩) (by simp only [Tm.kids, hnil]; rfl)) (hF.err hx he), rfl⟩⟩
            rintro ⟨y, ⟨dn4, op4, wk4⟩⟩ _ hz1 rfl
            have hgy := fillP_good hB hm n _ _ _ hxo hS2 hz1
            have hzy := hz1
            refine al_some (i := 1) rfl (by simp [encTs_len]; omega) fun b hb => ?_
            subst hb
            refine al_step rfl rfl (aop_index_vs el24 rfl rfl (by omega) (by simp only [encTs_len, List.length_append, List.length_replicate]; omega)) ?_
            refine al_step rfl rfl (aop_store_vec2 (i := 1) (j := j) ty26 rfl rfl rfl (by simp only [encTs_len, List.length_append, List.length_replicate]; omega) rfl (pures_Tm _) (encT_len _) (one_Tm _) (vs_Tm (us ++ List.replicate ((spine t).2.length - j) zeroT) j y)) ?_
            refine al_end rfl ?_
            refine awp_region ?_
            refine al_step rfl rfl (aop_add rfl rfl (by omega) (by omega)) ?_
            refine al_step rfl rfl (aop_move rfl) ?_
            refine al_end rfl ?_
            refine ⟨⟨j + 1, us ++ [y], dn4, op4, wk4, (some b), cp1⟩, (by first | omega | (simp only; omega)), ⟨by omega, ⟨hF.succ hx hzy, Oks_snoc hus hgy.1, hgy.2.1, fun i hi => hgy.2.2 i (hM2 i hi)⟩⟩, le_mkW ⟨we rfl, we rfl, we rfl, we rfl, we (vsLen_Tm (us ++ List.replicate ((spine t).2.length - j) zeroT) (by simp; omega)), we rfl, we rfl, we rfl, trivial⟩ (leH (is := [1, 2, 3, 4, 5, 6, 7, 8, 9, 10, 11]) rfl (wl (ovE_Tm ((us ++ List.replicate ((spine t).2.length - j) zeroT).set j y) (by rw [set_fill hF.1 (by omega)]; congr 2)) (wl (oe rfl) (wl (oe rfl) (wl (oe rfl) (wl (oe rfl) (wl (oe rfl) (wl (oe rfl) (wl (oe rfl) (wl (oe rfl) (wl (oe rfl) (wl (oe rfl) (wl0)))))))))))))⟩
          · have c3R := c3
            (try simp only [sd, se] at c3)
            rw [fillEnd (us := us) (j := j) (m := (spine t).2.length) (by omega)]
            have ha : fillsX (fillP ms n) ⟨dn, op, wk + 1⟩ (spine t).2 = .ok (us, ⟨dn2, op2, wk2⟩) := hF.fin (by omega)
            have hul : us.length = (spine t).2.length := by omega
            refine awp_exit ?_
            refine awp_seq ?_
            refine awp_block ?_
            refine awp_ghost (ghost_freeze (i := 0) [13] rfl (memall ⟨rfl, trivial⟩)) ?_
            refine awp_while (α := Unit) (fun _ => ⟨123, mk [(6, .ptr b6 0), (7, .ptr b7 0), (9, .p (.bool (known ms (.mk zk zi zn zl zs)))), (13, .p (.lst (encTs us)))], [.box b7 [.p (I zk), .p (I zi), .p (.str zn), .p (.lst (List.map encL zl)), .p (.lst (encTs zs))], .box b6 [.p (I 0), .p (I 0), .p (.str ⟨#[]⟩), .p (.nils), .p (.nils)], .box bd [.map md], .map md (mapE (dnE dn2)), .box bo [.map mo], .map mo (mapE (mtE op2)), .box bw [.p (I wk2)], .box bm [.p (.lst (List.map encM ms))], .box bv [.fn (.func 65) [] [.ptr bd 0, .ptr bo 0, .ptr bf 0, .ptr bm 0]], .box bf [.fn (.func 67) [] [.ptr bw 0, .ptr bm 0, .ptr bv 0, .ptr bf 0]]], []⟩) (fun _ => 0) (fun _ => True) () (by first | trivial | omega | simp | (simp; omega)) ?_ ?_
            · exact le_mkW ⟨we rfl, we rfl, we rfl, we rfl, trivial⟩ (leH (is := [0, 1, 2, 3, 4, 5, 6, 7, 8, 9]) rfl (wl (oe rfl) (wl (oe rfl) (wl (oe rfl) (wl (oe rfl) (wl (oe rfl) (wl (oe rfl) (wl (oe rfl) (wl (oe rfl) (wl (oe rfl) (wl (oe rfl) (wl0))))))))))))
            rintro _ hC1
            try simp only at hC1
            refine awp_seq ?_
            refine awp_seq ?_
            refine awp_meetR [6, 7, 9, 13] 106 (fun y => y = .p (.bool (((known ms (.mk zk zi zn zl zs)) && (decide (((us.length : Nat) : Int) > (0 : Int)))) && ((zk : Int) == (5 : Int))))) ?_ ?_
            · refine awp_region ?_
              refine al_step rfl rfl (aop_move rfl) ?_
              refine al_step rfl rfl (aop_move rfl) ?_
              refine al_case 97 rfl (fun g => ?_) (fun g => ?_)
              · (try simp only [sd, se] at g)
                refine al_stepg rfl rfl rfl rfl (aop_move rfl) ?_
                refine al_stepg rfl rfl rfl rfl (aop_lenE el24 rfl (encTs_len _)) ?_
                refine al_stepg rfl rfl rfl rfl (aop_cmp rfl rfl rfl) ?_
                refine al_step rfl rfl (aop_pick rfl rfl) ?_
                refine al_step rfl rfl (aop_move rfl) ?_
                refine al_case 102 rfl (fun g1 => ?_) (fun g1 => ?_)
                · (try simp only [sd, se] at g1)
                  refine al_stepg rfl rfl rfl rfl (aop_field_ptr fd26 rfl rfl) ?_
                  refine al_stepg rfl rfl rfl rfl (aop_load_box1 (i := 0) ty3 rfl rfl rfl) ?_
                  refine al_stepg rfl rfl rfl rfl (aop_cmp rfl rfl rfl) ?_
                  refine al_step rfl rfl (aop_pick rfl rfl) ?_
                  refine al_end rfl ?_
                  exact ⟨rfl, rfl, (by first | exact List.Sublist.refl _ | exact List.sublist_cons_self _ _), (by first | rfl | (refine pB ?_; simp_all; done) | (refine pB ?_; simp_all <;> (intros; omega))), ⟨rfl, rfl, rfl, rfl, trivial⟩⟩
                · (try simp only [sd, se] at g1)
                  refine al_pass rfl rfl rfl rfl rfl ?_
                  refine al_pass rfl rfl rfl rfl rfl ?_
                  refine al_pass rfl rfl rfl rfl rfl ?_
                  refine al_step rfl rfl (aop_pick rfl rfl) ?_
                  refine al_end rfl ?_
                  exact ⟨rfl, rfl, (by first | exact List.Sublist.refl _ | exact List.sublist_cons_self _ _), (by first | rfl | (refine pB ?_; simp_all; done) | (refine pB ?_; simp_all <;> (intros; omega))), ⟨rfl, rfl, rfl, rfl, trivial⟩⟩
              · (try simp only [sd, se] at g)
                refine al_pass rfl rfl rfl rfl rfl ?_
                refine al_pass rfl rfl rfl rfl rfl ?_
                refine al_pass rfl rfl rfl rfl rfl ?_
                refine al_step rfl rfl (aop_pick rfl rfl) ?_
                refine al_step rfl rfl (aop_move rfl) ?_
                refine al_pass rfl rfl rfl rfl rfl ?_
                refine al_pass rfl rfl rfl rfl rfl ?_
                refine al_pass rfl rfl rfl rfl rfl ?_
                refine al_step rfl rfl (aop_pick rfl rfl) ?_
                refine al_end rfl ?_
                exact ⟨rfl, rfl, (by first | exact List.Sublist.refl _ | exact List.sublist_cons_self _ _), (by first | rfl | (refine pB ?_; simp_all; done) | (refine pB ?_; simp_all <;> (intros; omega))), ⟨rfl, rfl, rfl, rfl, trivial⟩⟩
            rintro _ rfl
            refine awp_cond rfl (fun c4 => ?_) (fun c4 => ?_)
            · have c4R := c4
              (try simp only [sd, se] at c4)
              exact absurd c4R (by simp [hk])
            · have c4R := c4
              (try simp only [sd, se] at c4)
              refine awp_exit ?_
              refine awp_seq ?_
              refine awp_region ?_
              refine al_step rfl rfl (aop_load_box (i := 0) ty26 rfl rfl rfl) ?_
              refine al_step rfl rfl (aop_move rfl) ?_
              refine al_step rfl rfl (aop_fun rfl rfl (applyP_c (.mk zk zi zn zl zs : Tm) us (by simp only [big]; omega)) rfl) ?_
              refine al_exS [] rfl rfl rfl (.inl ⟨rfl, rfl, rfl⟩) (checkedE_c (apply (.mk zk zi zn zl zs : Tm) us) 0 (apply_nd hzO.nd (Oks_nd hus)) (app_small (K := 0) (m := size t) (by rw [hzs1]; omega) hus (by omega) (by omega) (by omega))) rfl (by decide) (aw (we rfl) (aw (we rfl) (aw0))) (fun _ _ h => (congrArg List.length h).trans rfl) ?_ ?_
              rotate_left
              · intro e _ he
                exact ⟨rfl, _, List.nil_sublist _, ⟨_, (fillP_n hnw hz hk (headP_n hk (ks := []) (st2 := ⟨dn, op, wk + 1⟩) (by simp only [Tm.kids, hnil]; rfl)) ha (by simp only [withKids, hnil]; exact hnil ▸ he)).trans rfl, rfl⟩⟩
              rintro y _ hz1 rfl
              refine al_step rfl rfl (aop_store_whole (i := 1) ty26 rfl rfl rfl (by simp [encT_len]) (by first | rfl | simp [encT_len]) (one_Tm _)) ?_
              refine al_end rfl ?_
              refine awp_ret ?_
              refine ⟨rfl, _, _, ⟨_, _, rfl, (resv_row (i := 1) ty26 rfl rfl (by simp [encT_len])), rfl⟩, (subl (is := [2, 3, 4, 5, 6, 7, 8, 9]) rfl), ?_⟩
              exact ⟨⟨y, ⟨dn2, op2, wk2⟩⟩, (fillP_n hnw hz hk (headP_n hk (ks := []) (st2 := ⟨dn, op, wk + 1⟩) (by simp only [Tm.kids, hnil]; rfl)) ha (by simp only [withKids, hnil]; exact hnil ▸ hz1)).trans rfl, rfl, rfl⟩

end Go.Proofs.YtgfecpjmbgcobaaGreat
/- Contracts of functions of the program. -/
namespace Go.Proofs.YtgfecpjmbgcobaaGreat
open Go.Abs Go.Eu
set_option linter.unusedVariables false
set_option linter.unusedSimpArgs false
set_option maxRecDepth 100000
theorem fillerP_c : ∀ (ms : List Mv), ACalls Tryz.prog 47 [.p (.lst (List.map encM ms))] [] (newG (fun x : (Nat × Nat × Nat × Nat × Nat × Nat × Nat × Nat) => .fn (.func 67) [] [.ptr x.2.2.2.2.1 0, .ptr x.2.2.2.2.2.1 0, .ptr x.2.2.2.2.2.2.1 0, .ptr x.2.2.2.2.2.2.2 0]) (fun x => [.box x.2.2.2.2.2.2.1 [.fn (.func 65) [] [.ptr x.1 0, .ptr x.2.2.1 0, .ptr x.2.2.2.2.2.2.2 0, .ptr x.2.2.2.2.2.1 0]], .box x.2.2.2.2.2.2.2 [.fn (.func 67) [] [.ptr x.2.2.2.2.1 0, .ptr x.2.2.2.2.2.1 0, .ptr x.2.2.2.2.2.2.1 0, .ptr x.2.2.2.2.2.2.2 0]], .box x.2.2.2.2.1 [.p (I 0)], .box x.2.2.1 [.map x.2.2.2.1], .box x.1 [.map x.2.1], .map x.2.2.2.1 (mapE (mtE [])), .map x.2.1 (mapE (dnE [])), .box x.2.2.2.2.2.1 [.p (.lst (List.map encM ms))]])) := by
  intro ms
  refine acalls_of_awp Tryz.func47 rfl en47 (n := 13) rfl rfl ?_
  refine awp_seq ?_
  refine awp_region ?_
  refine al_new rfl rfl (aop_box rfl) fun b1 => ?_
  refine al_step rfl rfl (aop_assign rfl) ?_
  refine al_end rfl ?_
  refine awp_seq ?_
  refine awp_region ?_
  refine al_map rfl rfl aop_makeMap fun m8 => ?_
  refine al_map rfl rfl aop_makeMap fun m9 => ?_
  refine al_new rfl rfl (aop_alloc zr103 rfl) fun b3 => ?_
  refine al_new rfl rfl (aop_alloc zr87 rfl) fun b4 => ?_
  refine al_step rfl rfl (aop_store_box (i := 1) ty103 rfl rfl rfl rfl rfl rfl) ?_
  refine al_step rfl rfl (aop_store_box (i := 0) ty87 rfl rfl rfl rfl rfl rfl) ?_
  refine al_end rfl ?_
  refine awp_seq ?_
  refine awp_region ?_
  refine al_new rfl rfl (aop_alloc zr3 rfl) fun b5 => ?_
  refine al_step rfl rfl (aop_store_box (i := 0) ty3 rfl rfl rfl rfl rfl rfl) ?_
  refine al_end rfl ?_
  refine awp_seq ?_
  refine awp_region ?_
  refine al_new rfl rfl (aop_alloc zr56 rfl) fun b6 => ?_
  refine al_end rfl ?_
  refine awp_seq ?_
  refine awp_region ?_
  refine al_step rfl rfl (aop_makeFunc rfl rfl) ?_
  refine al_new rfl rfl (aop_alloc zr53 rfl) fun b7 => ?_
  refine al_step rfl rfl (aop_store_box (i := 0) ty53 rfl rfl rfl rfl rfl rfl) ?_
  refine al_end rfl ?_
  refine awp_seq ?_
  refine awp_region ?_
  refine al_step rfl rfl (aop_makeFunc rfl rfl) ?_
  refine al_step rfl rfl (aop_store_box (i := 1) ty56 rfl rfl rfl rfl rfl rfl) ?_
  refine al_end rfl ?_
  refine awp_seq ?_
  refine awp_region ?_
  refine al_step rfl rfl (aop_load_box1 (i := 1) ty56 rfl rfl rfl) ?_
  refine al_step rfl rfl (aop_assign rfl) ?_
  refine al_end rfl ?_
  refine awp_ret ?_
  refine ⟨rfl, _, _, ⟨_, _, rfl, rfl, rfl⟩, (subl (is := [0, 1, 2, 3, 4, 5, 6, 7]) rfl), ?_⟩
  exact ⟨⟨b3, m8, b4, m9, b5, b1, b7, b6⟩, rfl, rfl⟩

theorem fill1R_c : ∀ (bo be : Nat) (co ce : List AV), ADCalls Tryz.prog 45 [.ptr bo 0, .ptr be 0] (.ret) [.box bo co, .box be ce] (fun H' => H' = [.box bo co, .box be ce]) := by
  intro bo be co ce
  refine adcalls_of (ty2 := 0) Tryz.func45 rfl en45 (n := 9) rfl rfl rfl rfl rfl rfl ?_
  refine awp_seq ?_
  refine awp_region ?_
  refine al_step rfl rfl (aop_move rfl) ?_
  refine al_step rfl rfl (aop_ifaceNe ui20 rfl rfl rfl) ?_
  refine al_end rfl ?_
  refine awp_cond rfl (fun c => by cases c) (fun c => ?_)
  refine awp_skip ?_
  exact ⟨.inl rfl, rfl, _, (subl (is := [0, 1]) rfl), rfl⟩

theorem fill1P_c : ∀ (bo be : Nat) (e : Int), ADCalls Tryz.prog 45 [.ptr bo 0, .ptr be 0] (.pan (.p (.iface 32 (I e)))) [.box bo [.p (I 0), .p (I 0), .p (.str ⟨#[]⟩), .p (.nils), .p (.nils)], .box be [.p (I 0)]] (fun H' => H' = [.box bo [.p (I 0), .p (I 0), .p (.str ⟨#[]⟩), .p (.lst []), .p (.lst [])], .box be [.p (I e)]]) := by
  intro bo be e
  refine adcalls_of (ty2 := 0) Tryz.func45 rfl en45 (n := 9) rfl rfl rfl rfl rfl rfl ?_
  refine awp_seq ?_
  refine awp_region ?_
  refine al_step rfl rfl (aop_move rfl) ?_
  refine al_step rfl rfl (aop_ifaceNe ui20 rfl rfl rfl) ?_
  refine al_ghost (ghost_box (i := 0) rfl) ?_
  refine al_end rfl ?_
  refine awp_cond rfl (fun c => ?_) (fun c => by cases c)
  refine awp_region ?_
  refine al_step rfl rfl (aop_build fd26 zr26 rfl) ?_
  refine al_step rfl rfl (aop_move rfl) ?_
  refine al_step rfl rfl (aop_fun rfl rfl (caughtM_c _) rfl) ?_
  refine al_step rfl rfl (aop_store_box (i := 0) ty26 rfl rfl rfl rfl rfl rfl) ?_
  refine al_step rfl rfl (aop_store_box (i := 1) ty32 rfl rfl rfl rfl rfl rfl) ?_
  refine al_ghost (ghost_box (i := 0) rfl) ?_
  refine al_end rfl ?_
  exact ⟨.inl rfl, rfl, _, (subl (is := [0, 1]) rfl), rfl⟩

set_option maxHeartbeats 2000000 in
theorem fillPc_c : ∀ (ms : List Mv) (t : Tm) (B n : Nat), (1 ≤ B) → (B ≤ 1073741824) → (∀ m ∈ ms, Ok B m.value) → (ms.length < 1048576) → (Ok B t) → (size t + (B + 1) * ms.length ≤ n) → Fun Tryz.prog 23 [.p (.lst (List.map encM ms)), .agg ((encT t).map .p)] (.tup [.agg ((encT ((fillPT ms n t).1)).map .p), .p (I ((fillPT ms n t).2))]) := by
  intro ms t B n h1 h2 h3 h4 h5 h6
  refine acalls_of_awpD Tryz.func23 rfl en23 (n := 11) rfl rfl ?_
  refine awp_seq ?_
  refine awp_region ?_
  refine al_new rfl rfl (aop_box rfl) fun b3 => ?_
  refine al_new rfl rfl (aop_alloc zr26 rfl) fun b4 => ?_
  refine al_new rfl rfl (aop_alloc zr32 rfl) fun b5 => ?_
  refine al_end rfl ?_
  refine awp_seq ?_
  refine awp_region ?_
  refine al_step rfl rfl (aop_makeFunc rfl rfl) ?_
  refine al_defer rfl rfl rfl rfl ?_
  refine al_end rfl ?_
  refine awp_seq ?_
  refine awp_dr (fun k => Nat.beq k 1 || Nat.beq k 3) mx0 ?_
  refine dr_free rfl rfl (fun _ => aop_move rfl) trivial ?_
  refine dr_newg [(2, .read (.box b3 ((encT t).map .p)) (.agg ((encT t).map .p)))] (0, 0, 0, 0, 0, 0, 0, 0) rfl rfl rfl (.inl ⟨rfl, rfl, rfl⟩) (fillerP_c ms) (.inl rfl) (by kernel_rfl) fun ⟨bd, md, bo, mo, bw, bm, bv, bf⟩ => ⟨(by repeat' first | exact trivial | refine And.intro ?_ ?_ | ((refine Or.inr (And.intro ?_ ?_) <;> repeat (first | exact List.Mem.head _ | apply List.Mem.tail)); done) | exact Or.inl (by kernel_rfl)), trivial, ?_⟩
  refine dr_read (j := 10) rfl rfl rfl (fun H i hi => aop_load_box (i := i) ty26 rfl hi (by simp [encT_len])) (by repeat' first | exact trivial | refine And.intro ?_ ?_ | ((refine Or.inr (And.intro ?_ ?_) <;> repeat (first | exact List.Mem.head _ | apply List.Mem.tail)); done) | exact Or.inl (by kernel_rfl)) (by repeat' first | exact trivial | rfl | refine And.intro ?_ ?_) ?_
  refine dr_exS [4, 6, 3, 5, 2, 7, 0, 1] rfl rfl rfl (.inr rfl) (fillC_c ms B bd md bo mo bw bm bv bf h1 h2 h3 h4 n [] [] 0 t h5 (oks_zero ms) (by rw [free_nil]; exact h6)) ⟨_, _, rfl, rfl, ⟨_, _, rfl, rfl, ⟨_, _, rfl, rfl, ⟨_, _, rfl, rfl, ⟨_, _, rfl, rfl, ⟨_, _, rfl, rfl, ⟨_, _, rfl, rfl, ⟨_, _, rfl, rfl, rfl⟩⟩⟩⟩⟩⟩⟩⟩ (by decide) (argsW_refl _) (fun _ _ h => (congrArg List.length h).trans rfl) (by kernel_rfl) (by kernel_rfl) rfl (by repeat' first | exact trivial | refine And.intro ?_ ?_ | ((refine Or.inr (And.intro ?_ ?_) <;> repeat (first | exact List.Mem.head _ | apply List.Mem.tail)); done) | exact Or.inl (by kernel_rfl)) ?_ ?_
  rotate_left
  · intro e he _ _ hτ
    refine ⟨_, _, _, rfl, perm_pick (is := [1, 0]) _ (by decide) ⟨_, _, rfl, rfl, ⟨_, _, rfl, rfl, rfl⟩⟩, ADCalls.eq (fill1P_c b4 b5 _) ?_⟩
    refine ⟨_, [], ⟨_, _, rfl, (resv_row (i := 0) ty26 (hτ 4 (noDst_spec (by kernel_rfl))) rfl rfl), ⟨_, _, rfl, (resv_one (i := 1) ty32 (hτ 5 (noDst_spec (by kernel_rfl))) rfl), rfl⟩⟩, (List.nil_sublist _), ?_⟩
    rw [fillPT_err he]
    exact ⟨rfl, rfl⟩
    
  rintro ⟨z, st⟩ _ hz rfl
  refine ⟨(by repeat' first | exact trivial | refine And.intro ?_ ?_ | ((refine Or.inr (And.intro ?_ ?_) <;> repeat (first | exact List.Mem.head _ | apply List.Mem.tail)); done) | exact Or.inl (by kernel_rfl)), (by repeat' first | exact trivial | rfl | refine And.intro ?_ ?_), ?_⟩
  refine dr_eff rfl rfl (aop_store_whole (i := 9) ty26 rfl rfl rfl (by simp [encT_len]) (by first | rfl | simp [encT_len]) (one_Tm _)) (by repeat' first | exact trivial | refine And.intro ?_ ?_ | ((refine Or.inr (And.intro ?_ ?_) <;> repeat (first | exact List.Mem.head _ | apply List.Mem.tail)); done) | exact Or.inl (by kernel_rfl)) (by repeat' first | exact trivial | rfl | refine And.intro ?_ ?_) ?_
  refine dr_eff rfl rfl (aop_store_box (i := 8) ty32 rfl rfl rfl rfl rfl rfl) (by repeat' first | exact trivial | refine And.intro ?_ ?_ | ((refine Or.inr (And.intro ?_ ?_) <;> repeat (first | exact List.Mem.head _ | apply List.Mem.tail)); done) | exact Or.inl (by kernel_rfl)) (by repeat' first | exact trivial | rfl | refine And.intro ?_ ?_) ?_
  refine dr_end rfl (by kernel_rfl) ?_
  refine awp_ret ?_
  refine ⟨_, _, _, rfl, getAll_perm (is := [9, 8]) (by decide) ⟨_, _, rfl, rfl, ⟨_, _, rfl, rfl, rfl⟩⟩, ADCalls.eq (fill1R_c b4 b5 _ _) ?_⟩
  refine ⟨_, _, ⟨_, _, rfl, (resv_row (i := 0) ty26 rfl rfl (by simp [encT_len])), ⟨_, _, rfl, (resv_one (i := 1) ty32 rfl rfl), rfl⟩⟩, (List.nil_sublist _), ?_⟩
  rw [fillPT_ok hz]
  all_goals exact ⟨rfl, rfl⟩

theorem unkPc_c : ∀ (ms : List Mv) (t : Tm) (B n : Nat), (1 ≤ B) → (B ≤ 1073741824) → (∀ m ∈ ms, Ok B m.value) → (ms.length < 1048576) → (Ok B t) → (size t + (B + 1) * ms.length ≤ n) → Fun Tryz.prog 24 [.p (.lst (List.map encM ms)), .agg ((encT t).map .p)] (.tup [.p (.lst (List.map encI ((unkPT ms n t).1))), .p (I ((unkPT ms n t).2))]) := by
  intro ms t B n h1 h2 h3 h4 h5 h6
  have hok := fillPT_good h1 h3 h5 (n := n)
  refine acalls_of_awp Tryz.func24 rfl en24 (n := 19) rfl rfl ?_
  refine awp_seq ?_
  refine awp_region ?_
  refine al_new rfl rfl (aop_box rfl) fun b3 => ?_
  refine al_step rfl rfl (aop_assign rfl) ?_
  refine al_step rfl rfl (aop_assign rfl) ?_
  refine al_end rfl ?_
  refine awp_seq ?_
  refine awp_region ?_
  refine al_step rfl rfl (aop_move rfl) ?_
  refine al_step rfl rfl (aop_load_box (i := 0) ty26 rfl rfl (by simp [encT_len])) ?_
  refine al_step rfl rfl (aop_fun rfl rfl (fillPc_c ms t B n h1 h2 h3 h4 h5 h6) rfl) ?_
  refine al_step rfl rfl (aop_move rfl) ?_
  refine al_step rfl rfl (aop_extract rfl rfl) ?_
  refine al_step rfl rfl (aop_extract rfl rfl) ?_
  refine al_new rfl rfl (aop_alloc zr26 rfl) fun b6 => ?_
  refine al_step rfl rfl (aop_store_whole (i := 0) ty26 rfl rfl rfl (by simp [encT_len]) (by first | rfl | simp [encT_len]) (one_Tm _)) ?_
  refine al_step rfl rfl (aop_assign rfl) ?_
  refine al_end rfl ?_
  refine awp_seq ?_
  refine awp_seq ?_
  refine awp_region ?_
  refine al_step rfl rfl (aop_move rfl) ?_
  refine al_step rfl rfl (aop_cmp rfl rfl rfl) ?_
  refine al_end rfl ?_
  refine awp_cond rfl (fun c => ?_) (fun c => ?_)
  · (try simp only [sd, se] at c)
    refine awp_seq ?_
    refine awp_region ?_
    refine al_step rfl rfl (aop_move rfl) ?_
    refine al_step rfl rfl (aop_assign rfl) ?_
    refine al_step rfl rfl (aop_assign rfl) ?_
    refine al_end rfl ?_
    refine awp_ghost (ghost_nslot 4) ?_
    refine awp_ret ?_
    refine ⟨rfl, _, _, ⟨_, _, rfl, rfl, ⟨_, _, rfl, rfl, rfl⟩⟩, (List.nil_sublist _), ?_⟩
    simp only [unkPT]
    rw [if_pos c]
    all_goals exact ⟨rfl, rfl⟩
  · (try simp only [sd, se] at c)
    refine awp_skip ?_
    refine awp_seq ?_
    refine awp_region ?_
    refine al_step rfl rfl (aop_load_box (i := 0) ty26 rfl rfl (by simp [encT_len])) ?_
    refine al_step rfl rfl (aop_fun rfl rfl (metasP_c ((fillPT ms n t).1) hok.nd hok.wt (by have := hok.sz; omega)) rfl) ?_
    refine al_step rfl rfl (aop_assign rfl) ?_
    refine al_step rfl rfl (aop_assign rfl) ?_
    refine al_end rfl ?_
    refine awp_ret ?_
    refine ⟨rfl, _, _, ⟨_, _, rfl, rfl, ⟨_, _, rfl, rfl, rfl⟩⟩, (List.nil_sublist _), ?_⟩
    simp only [unkPT]
    rw [if_neg (by omega)]
    all_goals exact ⟨rfl, rfl⟩

end Go.Proofs.YtgfecpjmbgcobaaGreat
/- The examples that the laws check. -/
namespace Go.Eu
open Go.Abs
set_option linter.unusedVariables false
set_option linter.unusedSimpArgs false
def awV (i : Int) : Tm := varT i
def awMeta (i : Int) (l : List Tm) : Tm := apply (.mk 12 i ⟨#[]⟩ [] []) l
def awN : Tm := .mk 3 0 ⟨#[78, 97, 116]⟩ [] []
def awSucc (t : Tm) : Tm := .mk 4 0 ⟨#[]⟩ [] [.mk 3 0 ⟨#[115, 117, 99, 99]⟩ [] [], t]
def awMs : List Mv := [⟨awN, true, .mk 5 0 ⟨#[]⟩ [] [awN, awSucc (awMeta 1 [awV 0])], false⟩, ⟨awN, false, zeroT, false⟩]
def awT : Tm := awMeta 0 [awV 3]
def awR : Tm := awSucc (awMeta 1 [awV 3])
def awSort : Tm := .mk 2 0 ⟨#[]⟩ [⟨0, []⟩] []
def awWant : Tm := bindsT 6 [awSort, awV 0] (awV 1)
def awMore : List Mv := awMs ++ [⟨awWant, false, zeroT, false⟩]
def awUse : Tm := awMeta 2 [awV 1, awV 0]
theorem aw_fill : fillPT awMs 100 awT = (awR, 0) := by kernel_rfl
theorem aw_unk : unkPT awMs 100 awT = ([1], 0) := by kernel_rfl
theorem aw_p1 : patW (awMeta 1 [awV 0, awV 2]) = (1, [0, 2], true) := by rfl
theorem aw_p2 : patW (awMeta 1 [awV 0, awV 0]) = (0, [], false) := by rfl
theorem aw_new : newW awMs [awSort, awV 0] (awV 1) false = (awMore, awUse, 0) := by rfl
theorem nd_awV (i : Int) (h : 0 ≤ i ∧ i ≤ 9) : Nd (awV i) := ⟨by decide, by decide, by simp, by decide, trivial, ⟨by decide, by decide⟩, ⟨by omega, by omega⟩⟩
theorem nd_awN : Nd awN := ⟨by decide, by decide, by simp, by decide, trivial, ⟨by decide, by decide⟩, ⟨by decide, by decide⟩⟩
theorem nd_awSort : Nd awSort := ⟨by decide, by decide, by intro l hl; simp at hl; subst hl; exact ⟨by decide⟩, by decide, trivial, ⟨by decide, by decide⟩, ⟨by decide, by decide⟩⟩
theorem nd_awMeta (i : Int) (h : 0 ≤ i ∧ i ≤ 9) (l : List Tm) (hl : Nds l) : Nd (awMeta i l) := apply_nd ⟨by decide, by decide, by simp, by decide, trivial, ⟨by decide, by decide⟩, ⟨by omega, by omega⟩⟩ hl
theorem nd_awSucc (t : Tm) (h : Nd t) : Nd (awSucc t) := ⟨by decide, by decide, by simp, by simp [big], ⟨⟨by decide, by decide, by simp, by decide, trivial, ⟨by decide, by decide⟩, ⟨by decide, by decide⟩⟩, h, trivial⟩, ⟨by decide, by decide⟩, ⟨by decide, by decide⟩⟩
theorem nd_awWant : Nd awWant := bindsT_nd ⟨nd_awSort, nd_awV 0 (by decide), trivial⟩ (nd_awV 1 (by decide))
theorem aw_nd : Nd awR ∧ Nd awUse ∧ Nd awWant ∧ Nd awSort ∧ ∀ i : Int, 0 ≤ i ∧ i ≤ 9 → Nd (awV i) := ⟨nd_awSucc _ (nd_awMeta 1 (by decide) _ ⟨nd_awV 3 (by decide), trivial⟩), nd_awMeta 2 (by decide) _ ⟨nd_awV 1 (by decide), nd_awV 0 (by decide), trivial⟩, nd_awWant, nd_awSort, nd_awV⟩
theorem aw_last {y : Tm} {n : Bool} {v : Tm} {c : Bool} (h : awMore[2]? = some (.mk y n v c)) : awWant = y := by
  have : awMore[2]? = some ⟨awWant, false, zeroT, false⟩ := rfl
  rw [this] at h
  injection h with h; injection h
theorem nd_awLam : Nd (.mk 5 0 ⟨#[]⟩ [] [awN, awSucc (awMeta 1 [awV 0])]) := ⟨by decide, by decide, by simp, by decide, ⟨nd_awN, nd_awSucc _ (nd_awMeta 1 (by decide) _ ⟨nd_awV 0 (by decide), trivial⟩), trivial⟩, ⟨by decide, by decide⟩, ⟨by decide, by decide⟩⟩
theorem aw_okM : ∀ m ∈ awMs, Ok 16 m.value := by
  intro m hm
  simp only [awMs, List.mem_cons, List.not_mem_nil, or_false] at hm
  rcases hm with rfl | rfl
  · refine ⟨nd_awLam, ?_, ?_, by decide⟩
    · simp [awN, awSucc, awMeta, awV, varT, apply, appT, Vp, Vps]
    · simp [awN, awSucc, awMeta, awV, varT, apply, appT, Wt, Wts, arity]
  · exact ok_zero (by decide)
theorem aw_okT : Ok 16 awT := ⟨nd_awMeta 0 (by decide) _ ⟨nd_awV 3 (by decide), trivial⟩, by simp [awT, awMeta, awV, varT, apply, appT, Vp, Vps], by simp [awT, awMeta, awV, varT, apply, appT, Wt, Wts, arity], by decide⟩
end Go.Eu
/- Contracts of functions of the program. -/
namespace Go.Proofs.YtgfecpjmbgcobaaGreat
open Go.Abs Go.Eu
set_option linter.unusedVariables false
set_option linter.unusedSimpArgs false
set_option maxRecDepth 100000
theorem aw1_c : ∀ (i : Int), Fun Tryz.prog 19 [.p (I i)] (.agg ((encT (awV i)).map .p)) := by
  intro i
  refine acalls_of_awp Tryz.func19 rfl en19 (n := 5) rfl rfl ?_
  refine awp_seq ?_
  refine awp_region ?_
  refine al_new rfl rfl (aop_alloc zr26 rfl) fun b2 => ?_
  refine al_end rfl ?_
  refine awp_seq ?_
  refine awp_region ?_
  refine al_step rfl rfl (aop_move rfl) ?_
  refine al_step rfl rfl (aop_build fd26 zr26 rfl) ?_
  refine al_step rfl rfl (aop_store_box (i := 0) ty26 rfl rfl rfl rfl rfl rfl) ?_
  refine al_end rfl ?_
  refine awp_ghost (ghost_box (i := 0) rfl) ?_
  refine awp_ret ?_
  refine ⟨rfl, _, _, ⟨_, _, rfl, (resv_row (i := 0) ty26 rfl rfl rfl), rfl⟩, (List.nil_sublist _), ?_⟩
  all_goals exact ⟨rfl, rfl⟩

theorem aw2_c : ∀ (i : Int) (l : List Tm), (l.length < big) → Fun Tryz.prog 20 [.p (I i), .p (.lst (encTs l))] (.agg ((encT (awMeta i l)).map .p)) := by
  intro i l h1
  refine acalls_of_awp Tryz.func20 rfl en20 (n := 9) rfl rfl ?_
  refine awp_seq ?_
  refine awp_region ?_
  refine al_new rfl rfl (aop_alloc zr26 rfl) fun b4 => ?_
  refine al_end rfl ?_
  refine awp_seq ?_
  refine awp_region ?_
  refine al_step rfl rfl (aop_move rfl) ?_
  refine al_step rfl rfl (aop_build fd26 zr26 rfl) ?_
  refine al_step rfl rfl (aop_move rfl) ?_
  refine al_step rfl rfl (aop_funW rfl rfl (applyR_c (.mk 12 i ⟨#[]⟩ [] [] : Tm) l h1) (aw (weak_norm rfl) (aw (we rfl) (aw0)))) ?_
  refine al_step rfl rfl (aop_store_whole (i := 0) ty26 rfl rfl rfl (by simp [encT_len]) (by first | rfl | simp [encT_len]) (one_Tm _)) ?_
  refine al_end rfl ?_
  refine awp_ret ?_
  refine ⟨rfl, _, _, ⟨_, _, rfl, (resv_row (i := 0) ty26 rfl rfl (by simp [encT_len])), rfl⟩, (List.nil_sublist _), ?_⟩
  all_goals exact ⟨rfl, rfl⟩

theorem aw3_c : ∀ (t : Tm), Fun Tryz.prog 22 [.agg ((encT t).map .p)] (.agg ((encT (awSucc t)).map .p)) := by
  intro t
  refine acalls_of_awp Tryz.func22 rfl en22 (n := 7) rfl rfl ?_
  refine awp_seq ?_
  refine awp_region ?_
  refine al_new rfl rfl (aop_box rfl) fun b1 => ?_
  refine al_new rfl rfl (aop_alloc zr26 rfl) fun b2 => ?_
  refine al_end rfl ?_
  refine awp_seq ?_
  refine awp_region ?_
  refine al_step rfl rfl (aop_build fd26 zr26 rfl) ?_
  refine al_step rfl rfl (aop_load_box (i := 1) ty26 rfl rfl (by simp [encT_len])) ?_
  obtain ⟨tk, ti, tn, tl, ts⟩ := t
  refine al_step rfl rfl (aop_buildSlice el24 zr26 rfl rfl rfl rfl rfl) ?_
  refine al_step rfl rfl (aop_build fd26 zr26 rfl) ?_
  refine al_step rfl rfl (aop_store_box (i := 0) ty26 rfl rfl rfl rfl rfl rfl) ?_
  refine al_end rfl ?_
  refine awp_ghost (ghost_box (i := 0) rfl) ?_
  refine awp_ret ?_
  refine ⟨rfl, _, _, ⟨_, _, rfl, (resv_row (i := 0) ty26 rfl rfl rfl), rfl⟩, (List.nil_sublist _), ?_⟩
  all_goals exact ⟨rfl, rfl⟩

theorem fillAw_c : Fun Tryz.prog 23 [MsV awMs, TV awT] (.tup [TV awR, .p (I 0)]) := by
  have h := fillPc_c awMs awT 16 100 (by decide) (by decide) aw_okM (by decide) aw_okT (by decide)
  rw [aw_fill] at h
  exact h
theorem unkAw_c : Fun Tryz.prog 24 [MsV awMs, TV awT] (.tup [IsV [1], .p (I 0)]) := by
  have h := unkPc_c awMs awT 16 100 (by decide) (by decide) aw_okM (by decide) aw_okT (by decide)
  rw [aw_unk] at h
  exact h
theorem pat1Aw_c : Fun Tryz.prog 25 [TV (awMeta 1 [awV 0, awV 2])] (.tup [.p (I 1), IsV [0, 2], .p (.bool true)]) := by
  have h := patternP_c (awMeta 1 [awV 0, awV 2]) (nd_awMeta 1 (by decide) _ ⟨nd_awV 0 (by decide), nd_awV 2 (by decide), trivial⟩) (by decide)
  rw [aw_p1] at h
  exact h
theorem pat2Aw_c : Fun Tryz.prog 25 [TV (awMeta 1 [awV 0, awV 0])] (.tup [.p (I 0), IsV [], .p (.bool false)]) := by
  have h := patternP_c (awMeta 1 [awV 0, awV 0]) (nd_awMeta 1 (by decide) _ ⟨nd_awV 0 (by decide), nd_awV 0 (by decide), trivial⟩) (by decide)
  rw [aw_p2] at h
  exact h
theorem newAw_c : Fun Tryz.prog 26 [MsV awMs, TsV [awSort, awV 0], TV (awV 1), .p (.bool false)] (.tup [MsV awMore, TV awUse, .p (I 0)]) := by
  have h := newP_c awMs [awSort, awV 0] (awV 1) false (by decide) ⟨aw_nd.2.2.2.1, aw_nd.2.2.2.2 0 (by decide), trivial⟩ (aw_nd.2.2.2.2 1 (by decide)) (by decide) (by decide)
  rw [aw_new] at h
  exact h
theorem same1Aw_c : Fun Tryz.prog 13 [TV awR, TV (awSucc (awMeta 1 [awV 3]))] (.p (.bool true)) := by
  have h := same_c 100 awR (awSucc (awMeta 1 [awV 3])) (by decide) aw_nd.1
  rw [eqB_true (show awR = awSucc (awMeta 1 [awV 3]) from rfl)] at h
  exact h
theorem same2Aw_c : Fun Tryz.prog 13 [TV awUse, TV (awMeta 2 [awV 1, awV 0])] (.p (.bool true)) := by
  have h := same_c 100 awUse (awMeta 2 [awV 1, awV 0]) (by decide) aw_nd.2.1
  rw [eqB_true (show awUse = awMeta 2 [awV 1, awV 0] from rfl)] at h
  exact h
theorem eq1Aw_c : Fun Tryz.prog 27 [IsV [1], IsV [1]] (.p (.bool true)) := by
  have h := equalI_c [1] [1] (by decide)
  rw [eqB_true rfl] at h
  exact h
theorem eq2Aw_c : Fun Tryz.prog 27 [IsV [0, 2], IsV [0, 2]] (.p (.bool true)) := by
  have h := equalI_c [0, 2] [0, 2] (by decide)
  rw [eqB_true rfl] at h
  exact h
theorem mt1_0_c : Fun Tryz.prog 20 [.p (I 1), TsV [awV 0]] (TV (awMeta 1 [awV 0])) := aw2_c 1 _ (by decide)
theorem mt0_3_c : Fun Tryz.prog 20 [.p (I 0), TsV [awV 3]] (TV (awMeta 0 [awV 3])) := aw2_c 0 _ (by decide)
theorem mt1_02_c : Fun Tryz.prog 20 [.p (I 1), TsV [awV 0, awV 2]] (TV (awMeta 1 [awV 0, awV 2])) := aw2_c 1 _ (by decide)
theorem mt1_00_c : Fun Tryz.prog 20 [.p (I 1), TsV [awV 0, awV 0]] (TV (awMeta 1 [awV 0, awV 0])) := aw2_c 1 _ (by decide)
theorem mt1_3_c : Fun Tryz.prog 20 [.p (I 1), TsV [awV 3]] (TV (awMeta 1 [awV 3])) := aw2_c 1 _ (by decide)
theorem mt2_10_c : Fun Tryz.prog 20 [.p (I 2), TsV [awV 1, awV 0]] (TV (awMeta 2 [awV 1, awV 0])) := aw2_c 2 _ (by decide)
theorem sc1_0_c : Fun Tryz.prog 22 [TV (awMeta 1 [awV 0])] (TV (awSucc (awMeta 1 [awV 0]))) := aw3_c _
theorem sc1_3_c : Fun Tryz.prog 22 [TV (awMeta 1 [awV 3])] (TV (awSucc (awMeta 1 [awV 3]))) := aw3_c _

end Go.Proofs.YtgfecpjmbgcobaaGreat
