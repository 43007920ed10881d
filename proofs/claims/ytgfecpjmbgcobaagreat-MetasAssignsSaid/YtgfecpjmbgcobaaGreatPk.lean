/- Part of the proofs about metavariables: an abstract program logic, plain models and contracts of functions. -/
import Derived.Test.YtgfecpjmbgcobaaGreatPe
import Derived.Test.YtgfecpjmbgcobaaGreatPi
import Derived.Test.YtgfecpjmbgcobaaGreatPj
/- Contracts of functions of the program. -/
namespace Go.Proofs.YtgfecpjmbgcobaaGreat
open Go.Abs Go.Eu
set_option linter.unusedVariables false
set_option linter.unusedSimpArgs false
set_option maxRecDepth 100000
theorem letter_c : ∀ (c : Int), FunR Tryz.prog 63 [.p (.int .u8 c)] someB := by
  intro c
  refine acalls_of_awp Tryz.func63 rfl en63 (n := 21) rfl rfl ?_
  refine awp_seq ?_
  refine awp_region ?_
  refine al_step rfl rfl (aop_assign rfl) ?_
  refine al_end rfl ?_
  refine awp_seq ?_
  refine awp_meetR [0] 2 someB ?_ ?_
  · refine awp_region ?_
    refine al_step rfl rfl (aop_move rfl) ?_
    refine al_step rfl rfl (aop_cmp rfl rfl rfl) ?_
    refine al_step rfl rfl (aop_move rfl) ?_
    refine al_case 5 rfl (fun g1 => ?_) (fun g1 => ?_)
    · (try simp only [sd] at g1)
      refine al_stepg rfl rfl rfl rfl (aop_move rfl) ?_
      refine al_stepg rfl rfl rfl rfl (aop_cmp rfl rfl rfl) ?_
      refine al_step rfl rfl (aop_pick rfl rfl) ?_
      refine al_step rfl rfl (aop_move rfl) ?_
      refine al_case 9 rfl (fun g2 => ?_) (fun g2 => ?_)
      · (try simp only [sd] at g2)
        refine al_pass rfl rfl rfl rfl rfl ?_
        refine al_pass rfl rfl rfl rfl rfl ?_
        refine al_pass rfl rfl rfl rfl rfl ?_
        refine al_pass0 rfl rfl rfl rfl ?_
        refine al_pass0 rfl rfl rfl rfl ?_
        refine al_pass rfl rfl rfl rfl rfl ?_
        refine al_step rfl rfl (aop_pick rfl rfl) ?_
        refine al_step rfl rfl (aop_move rfl) ?_
        refine al_case 17 rfl (fun g3 => ?_) (fun g3 => ?_)
        · (try simp only [sd] at g3)
          refine al_pass rfl rfl rfl rfl rfl ?_
          refine al_pass rfl rfl rfl rfl rfl ?_
          refine al_step rfl rfl (aop_pick rfl rfl) ?_
          refine al_step rfl rfl (aop_assign rfl) ?_
          refine al_end rfl ?_
          exact ⟨rfl, rfl, (by first | exact List.Sublist.refl _ | exact List.sublist_cons_self _ _), ⟨_, rfl⟩, ⟨rfl, trivial⟩⟩
        · (try simp only [sd] at g3)
          refine al_stepg rfl rfl rfl rfl (aop_move rfl) ?_
          refine al_stepg rfl rfl rfl rfl (aop_cmp rfl rfl rfl) ?_
          refine al_step rfl rfl (aop_pick rfl rfl) ?_
          refine al_step rfl rfl (aop_assign rfl) ?_
          refine al_end rfl ?_
          exact ⟨rfl, rfl, (by first | exact List.Sublist.refl _ | exact List.sublist_cons_self _ _), ⟨_, rfl⟩, ⟨rfl, trivial⟩⟩
      · (try simp only [sd] at g2)
        refine al_stepg rfl rfl rfl rfl (aop_move rfl) ?_
        refine al_stepg rfl rfl rfl rfl (aop_cmp rfl rfl rfl) ?_
        refine al_stepg rfl rfl rfl rfl (aop_move rfl) ?_
        refine al_case 12 rfl (fun g4 => ?_) (fun g4 => ?_)
        · (try simp only [sd] at g4)
          refine al_stepg rfl rfl rfl rfl (aop_move rfl) ?_
          refine al_stepg rfl rfl rfl rfl (aop_cmp rfl rfl rfl) ?_
          refine al_stepg rfl rfl rfl rfl (aop_pick rfl rfl) ?_
          refine al_step rfl rfl (aop_pick rfl rfl) ?_
          refine al_step rfl rfl (aop_move rfl) ?_
          refine al_case 17 rfl (fun g5 => ?_) (fun g5 => ?_)
          · (try simp only [sd] at g5)
            refine al_pass rfl rfl rfl rfl rfl ?_
            refine al_pass rfl rfl rfl rfl rfl ?_
            refine al_step rfl rfl (aop_pick rfl rfl) ?_
            refine al_step rfl rfl (aop_assign rfl) ?_
            refine al_end rfl ?_
            exact ⟨rfl, rfl, (by first | exact List.Sublist.refl _ | exact List.sublist_cons_self _ _), ⟨_, rfl⟩, ⟨rfl, trivial⟩⟩
          · (try simp only [sd] at g5)
            refine al_stepg rfl rfl rfl rfl (aop_move rfl) ?_
            refine al_stepg rfl rfl rfl rfl (aop_cmp rfl rfl rfl) ?_
            refine al_step rfl rfl (aop_pick rfl rfl) ?_
            refine al_step rfl rfl (aop_assign rfl) ?_
            refine al_end rfl ?_
            exact ⟨rfl, rfl, (by first | exact List.Sublist.refl _ | exact List.sublist_cons_self _ _), ⟨_, rfl⟩, ⟨rfl, trivial⟩⟩
        · (try simp only [sd] at g4)
          refine al_pass rfl rfl rfl rfl rfl ?_
          refine al_pass rfl rfl rfl rfl rfl ?_
          refine al_stepg rfl rfl rfl rfl (aop_pick rfl rfl) ?_
          refine al_step rfl rfl (aop_pick rfl rfl) ?_
          refine al_step rfl rfl (aop_move rfl) ?_
          refine al_case 17 rfl (fun g6 => ?_) (fun g6 => ?_)
          · (try simp only [sd] at g6)
            refine al_pass rfl rfl rfl rfl rfl ?_
            refine al_pass rfl rfl rfl rfl rfl ?_
            refine al_step rfl rfl (aop_pick rfl rfl) ?_
            refine al_step rfl rfl (aop_assign rfl) ?_
            refine al_end rfl ?_
            exact ⟨rfl, rfl, (by first | exact List.Sublist.refl _ | exact List.sublist_cons_self _ _), ⟨_, rfl⟩, ⟨rfl, trivial⟩⟩
          · (try simp only [sd] at g6)
            refine al_stepg rfl rfl rfl rfl (aop_move rfl) ?_
            refine al_stepg rfl rfl rfl rfl (aop_cmp rfl rfl rfl) ?_
            refine al_step rfl rfl (aop_pick rfl rfl) ?_
            refine al_step rfl rfl (aop_assign rfl) ?_
            refine al_end rfl ?_
            exact ⟨rfl, rfl, (by first | exact List.Sublist.refl _ | exact List.sublist_cons_self _ _), ⟨_, rfl⟩, ⟨rfl, trivial⟩⟩
    · (try simp only [sd] at g1)
      refine al_pass rfl rfl rfl rfl rfl ?_
      refine al_pass rfl rfl rfl rfl rfl ?_
      refine al_step rfl rfl (aop_pick rfl rfl) ?_
      refine al_step rfl rfl (aop_move rfl) ?_
      refine al_case 9 rfl (fun g7 => ?_) (fun g7 => ?_)
      · (try simp only [sd] at g7)
        refine al_pass rfl rfl rfl rfl rfl ?_
        refine al_pass rfl rfl rfl rfl rfl ?_
        refine al_pass rfl rfl rfl rfl rfl ?_
        refine al_pass0 rfl rfl rfl rfl ?_
        refine al_pass0 rfl rfl rfl rfl ?_
        refine al_pass rfl rfl rfl rfl rfl ?_
        refine al_step rfl rfl (aop_pick rfl rfl) ?_
        refine al_step rfl rfl (aop_move rfl) ?_
        refine al_case 17 rfl (fun g8 => ?_) (fun g8 => ?_)
        · (try simp only [sd] at g8)
          refine al_pass rfl rfl rfl rfl rfl ?_
          refine al_pass rfl rfl rfl rfl rfl ?_
          refine al_step rfl rfl (aop_pick rfl rfl) ?_
          refine al_step rfl rfl (aop_assign rfl) ?_
          refine al_end rfl ?_
          exact ⟨rfl, rfl, (by first | exact List.Sublist.refl _ | exact List.sublist_cons_self _ _), ⟨_, rfl⟩, ⟨rfl, trivial⟩⟩
        · (try simp only [sd] at g8)
          refine al_stepg rfl rfl rfl rfl (aop_move rfl) ?_
          refine al_stepg rfl rfl rfl rfl (aop_cmp rfl rfl rfl) ?_
          refine al_step rfl rfl (aop_pick rfl rfl) ?_
          refine al_step rfl rfl (aop_assign rfl) ?_
          refine al_end rfl ?_
          exact ⟨rfl, rfl, (by first | exact List.Sublist.refl _ | exact List.sublist_cons_self _ _), ⟨_, rfl⟩, ⟨rfl, trivial⟩⟩
      · (try simp only [sd] at g7)
        refine al_stepg rfl rfl rfl rfl (aop_move rfl) ?_
        refine al_stepg rfl rfl rfl rfl (aop_cmp rfl rfl rfl) ?_
        refine al_stepg rfl rfl rfl rfl (aop_move rfl) ?_
        refine al_case 12 rfl (fun g9 => ?_) (fun g9 => ?_)
        · (try simp only [sd] at g9)
          refine al_stepg rfl rfl rfl rfl (aop_move rfl) ?_
          refine al_stepg rfl rfl rfl rfl (aop_cmp rfl rfl rfl) ?_
          refine al_stepg rfl rfl rfl rfl (aop_pick rfl rfl) ?_
          refine al_step rfl rfl (aop_pick rfl rfl) ?_
          refine al_step rfl rfl (aop_move rfl) ?_
          refine al_case 17 rfl (fun g10 => ?_) (fun g10 => ?_)
          · (try simp only [sd] at g10)
            refine al_pass rfl rfl rfl rfl rfl ?_
            refine al_pass rfl rfl rfl rfl rfl ?_
            refine al_step rfl rfl (aop_pick rfl rfl) ?_
            refine al_step rfl rfl (aop_assign rfl) ?_
            refine al_end rfl ?_
            exact ⟨rfl, rfl, (by first | exact List.Sublist.refl _ | exact List.sublist_cons_self _ _), ⟨_, rfl⟩, ⟨rfl, trivial⟩⟩
          · (try simp only [sd] at g10)
            refine al_stepg rfl rfl rfl rfl (aop_move rfl) ?_
            refine al_stepg rfl rfl rfl rfl (aop_cmp rfl rfl rfl) ?_
            refine al_step rfl rfl (aop_pick rfl rfl) ?_
            refine al_step rfl rfl (aop_assign rfl) ?_
            refine al_end rfl ?_
            exact ⟨rfl, rfl, (by first | exact List.Sublist.refl _ | exact List.sublist_cons_self _ _), ⟨_, rfl⟩, ⟨rfl, trivial⟩⟩
        · (try simp only [sd] at g9)
          refine al_pass rfl rfl rfl rfl rfl ?_
          refine al_pass rfl rfl rfl rfl rfl ?_
          refine al_stepg rfl rfl rfl rfl (aop_pick rfl rfl) ?_
          refine al_step rfl rfl (aop_pick rfl rfl) ?_
          refine al_step rfl rfl (aop_move rfl) ?_
          refine al_case 17 rfl (fun g11 => ?_) (fun g11 => ?_)
          · (try simp only [sd] at g11)
            refine al_pass rfl rfl rfl rfl rfl ?_
            refine al_pass rfl rfl rfl rfl rfl ?_
            refine al_step rfl rfl (aop_pick rfl rfl) ?_
            refine al_step rfl rfl (aop_assign rfl) ?_
            refine al_end rfl ?_
            exact ⟨rfl, rfl, (by first | exact List.Sublist.refl _ | exact List.sublist_cons_self _ _), ⟨_, rfl⟩, ⟨rfl, trivial⟩⟩
          · (try simp only [sd] at g11)
            refine al_stepg rfl rfl rfl rfl (aop_move rfl) ?_
            refine al_stepg rfl rfl rfl rfl (aop_cmp rfl rfl rfl) ?_
            refine al_step rfl rfl (aop_pick rfl rfl) ?_
            refine al_step rfl rfl (aop_assign rfl) ?_
            refine al_end rfl ?_
            exact ⟨rfl, rfl, (by first | exact List.Sublist.refl _ | exact List.sublist_cons_self _ _), ⟨_, rfl⟩, ⟨rfl, trivial⟩⟩
  rintro _ ⟨q1, rfl⟩
  refine awp_ret ?_
  refine ⟨rfl, _, [], res_tmp rfl, List.nil_sublist _, ⟨⟨_, rfl⟩, rfl⟩⟩

theorem kids_c : ∀ (k : Int), Fun Tryz.prog 62 [.p (I k)] (.p (I (arity k))) := by
  intro k
  refine acalls_of_awp Tryz.func62 rfl en62 (n := 15) rfl rfl ?_
  refine awp_seq ?_
  refine awp_region ?_
  refine al_step rfl rfl (aop_assign rfl) ?_
  refine al_end rfl ?_
  refine awp_seq ?_
  refine awp_seq ?_
  refine awp_region ?_
  refine al_step rfl rfl (aop_move rfl) ?_
  refine al_end rfl ?_
  refine awp_block ?_
  refine awp_seq ?_
  refine awp_seq ?_
  refine awp_region ?_
  refine al_step rfl rfl (aop_cmp rfl rfl rfl) ?_
  refine al_step rfl rfl (aop_assign rfl) ?_
  refine al_end rfl ?_
  refine awp_cond rfl (fun c1 => ?_) (fun c1 => ?_)
  · (try simp only [sd] at c1)
    refine awp_skip ?_
    refine awp_cond rfl (fun c2 => ?_) (fun c2 => ?_)
    · (try simp only [sd] at c2)
      refine awp_seq ?_
      refine awp_region ?_
      refine al_step rfl rfl (aop_assign rfl) ?_
      refine al_end rfl ?_
      refine awp_ret ?_
      refine ⟨rfl, _, [], res_tmp rfl, List.nil_sublist _, ?_⟩
      exact ⟨pI (by simp_all [arity]), rfl⟩
    · (try simp only [sd] at c2)
      refine awp_seq ?_
      refine awp_seq ?_
      refine awp_region ?_
      refine al_step rfl rfl (aop_cmp rfl rfl rfl) ?_
      refine al_step rfl rfl (aop_assign rfl) ?_
      refine al_end rfl ?_
      refine awp_cond rfl (fun c3 => ?_) (fun c3 => ?_)
      · (try simp only [sd] at c3)
        refine awp_skip ?_
        refine awp_cond rfl (fun c4 => ?_) (fun c4 => ?_)
        · (try simp only [sd] at c4)
          refine awp_seq ?_
          refine awp_region ?_
          refine al_step rfl rfl (aop_assign rfl) ?_
          refine al_end rfl ?_
          refine awp_ret ?_
          refine ⟨rfl, _, [], res_tmp rfl, List.nil_sublist _, ?_⟩
          exact ⟨pI (by simp_all [arity]), rfl⟩
        · (try simp only [sd] at c4)
          refine awp_seq ?_
          refine awp_seq ?_
          refine awp_region ?_
          refine al_step rfl rfl (aop_cmp rfl rfl rfl) ?_
          refine al_step rfl rfl (aop_assign rfl) ?_
          refine al_end rfl ?_
          refine awp_cond rfl (fun c5 => ?_) (fun c5 => ?_)
          · (try simp only [sd] at c5)
            refine awp_skip ?_
            refine awp_cond rfl (fun c6 => ?_) (fun c6 => ?_)
            · (try simp only [sd] at c6)
              refine awp_seq ?_
              refine awp_region ?_
              refine al_step rfl rfl (aop_assign rfl) ?_
              refine al_end rfl ?_
              refine awp_ret ?_
              refine ⟨rfl, _, [], res_tmp rfl, List.nil_sublist _, ?_⟩
              exact ⟨pI (by simp_all [arity]), rfl⟩
            · (try simp only [sd] at c6)
              refine awp_skip ?_
              refine awp_seq ?_
              refine awp_region ?_
              refine al_step rfl rfl (aop_assign rfl) ?_
              refine al_end rfl ?_
              refine awp_ret ?_
              refine ⟨rfl, _, [], res_tmp rfl, List.nil_sublist _, ?_⟩
              exact ⟨pI (by simp_all [arity]), rfl⟩
          · (try simp only [sd] at c5)
            refine awp_region ?_
            refine al_step rfl rfl (aop_cmp rfl rfl rfl) ?_
            refine al_step rfl rfl (aop_assign rfl) ?_
            refine al_end rfl ?_
            refine awp_cond rfl (fun c7 => ?_) (fun c7 => ?_)
            · (try simp only [sd] at c7)
              refine awp_seq ?_
              refine awp_region ?_
              refine al_step rfl rfl (aop_assign rfl) ?_
              refine al_end rfl ?_
              refine awp_ret ?_
              refine ⟨rfl, _, [], res_tmp rfl, List.nil_sublist _, ?_⟩
              exact ⟨pI (by simp_all [arity]), rfl⟩
            · (try simp only [sd] at c7)
              refine awp_skip ?_
              refine awp_seq ?_
              refine awp_region ?_
              refine al_step rfl rfl (aop_assign rfl) ?_
              refine al_end rfl ?_
              refine awp_ret ?_
              refine ⟨rfl, _, [], res_tmp rfl, List.nil_sublist _, ?_⟩
              exact ⟨pI (by simp_all [arity]), rfl⟩
      · (try simp only [sd] at c3)
        refine awp_region ?_
        refine al_step rfl rfl (aop_cmp rfl rfl rfl) ?_
        refine al_step rfl rfl (aop_assign rfl) ?_
        refine al_end rfl ?_
        refine awp_cond rfl (fun c8 => ?_) (fun c8 => ?_)
        · (try simp only [sd] at c8)
          refine awp_seq ?_
          refine awp_region ?_
          refine al_step rfl rfl (aop_assign rfl) ?_
          refine al_end rfl ?_
          refine awp_ret ?_
          refine ⟨rfl, _, [], res_tmp rfl, List.nil_sublist _, ?_⟩
          exact ⟨pI (by simp_all [arity]), rfl⟩
        · (try simp only [sd] at c8)
          refine awp_seq ?_
          refine awp_seq ?_
          refine awp_region ?_
          refine al_step rfl rfl (aop_cmp rfl rfl rfl) ?_
          refine al_step rfl rfl (aop_assign rfl) ?_
          refine al_end rfl ?_
          refine awp_cond rfl (fun c9 => ?_) (fun c9 => ?_)
          · (try simp only [sd] at c9)
            refine awp_skip ?_
            refine awp_cond rfl (fun c10 => ?_) (fun c10 => ?_)
            · (try simp only [sd] at c10)
              refine awp_seq ?_
              refine awp_region ?_
              refine al_step rfl rfl (aop_assign rfl) ?_
              refine al_end rfl ?_
              refine awp_ret ?_
              refine ⟨rfl, _, [], res_tmp rfl, List.nil_sublist _, ?_⟩
              exact ⟨pI (by simp_all [arity]), rfl⟩
            · (try simp only [sd] at c10)
              refine awp_skip ?_
              refine awp_seq ?_
              refine awp_region ?_
              refine al_step rfl rfl (aop_assign rfl) ?_
              refine al_end rfl ?_
              refine awp_ret ?_
              refine ⟨rfl, _, [], res_tmp rfl, List.nil_sublist _, ?_⟩
              exact ⟨pI (by simp_all [arity]), rfl⟩
          · (try simp only [sd] at c9)
            refine awp_region ?_
            refine al_step rfl rfl (aop_cmp rfl rfl rfl) ?_
            refine al_step rfl rfl (aop_assign rfl) ?_
            refine al_end rfl ?_
            refine awp_cond rfl (fun c11 => ?_) (fun c11 => ?_)
            · (try simp only [sd] at c11)
              refine awp_seq ?_
              refine awp_region ?_
              refine al_step rfl rfl (aop_assign rfl) ?_
              refine al_end rfl ?_
              refine awp_ret ?_
              refine ⟨rfl, _, [], res_tmp rfl, List.nil_sublist _, ?_⟩
              exact ⟨pI (by simp_all [arity]), rfl⟩
            · (try simp only [sd] at c11)
              refine awp_skip ?_
              refine awp_seq ?_
              refine awp_region ?_
              refine al_step rfl rfl (aop_assign rfl) ?_
              refine al_end rfl ?_
              refine awp_ret ?_
              refine ⟨rfl, _, [], res_tmp rfl, List.nil_sublist _, ?_⟩
              exact ⟨pI (by simp_all [arity]), rfl⟩
  · (try simp only [sd] at c1)
    refine awp_seq ?_
    refine awp_region ?_
    refine al_step rfl rfl (aop_cmp rfl rfl rfl) ?_
    refine al_step rfl rfl (aop_assign rfl) ?_
    refine al_end rfl ?_
    refine awp_cond rfl (fun c12 => ?_) (fun c12 => ?_)
    · (try simp only [sd] at c12)
      refine awp_skip ?_
      refine awp_cond rfl (fun c13 => ?_) (fun c13 => ?_)
      · (try simp only [sd] at c13)
        refine awp_seq ?_
        refine awp_region ?_
        refine al_step rfl rfl (aop_assign rfl) ?_
        refine al_end rfl ?_
        refine awp_ret ?_
        refine ⟨rfl, _, [], res_tmp rfl, List.nil_sublist _, ?_⟩
        exact ⟨pI (by simp_all [arity]), rfl⟩
      · (try simp only [sd] at c13)
        refine awp_seq ?_
        refine awp_seq ?_
        refine awp_region ?_
        refine al_step rfl rfl (aop_cmp rfl rfl rfl) ?_
        refine al_step rfl rfl (aop_assign rfl) ?_
        refine al_end rfl ?_
        refine awp_cond rfl (fun c14 => ?_) (fun c14 => ?_)
        · (try simp only [sd] at c14)
          refine awp_skip ?_
          refine awp_cond rfl (fun c15 => ?_) (fun c15 => ?_)
          · (try simp only [sd] at c15)
            refine awp_seq ?_
            refine awp_region ?_
            refine al_step rfl rfl (aop_assign rfl) ?_
            refine al_end rfl ?_
            refine awp_ret ?_
            refine ⟨rfl, _, [], res_tmp rfl, List.nil_sublist _, ?_⟩
            exact ⟨pI (by simp_all [arity]), rfl⟩
          · (try simp only [sd] at c15)
            refine awp_seq ?_
            refine awp_seq ?_
            refine awp_region ?_
            refine al_step rfl rfl (aop_cmp rfl rfl rfl) ?_
            refine al_step rfl rfl (aop_assign rfl) ?_
            refine al_end rfl ?_
            refine awp_cond rfl (fun c16 => ?_) (fun c16 => ?_)
            · (try simp only [sd] at c16)
              refine awp_skip ?_
              refine awp_cond rfl (fun c17 => ?_) (fun c17 => ?_)
              · (try simp only [sd] at c17)
                refine awp_seq ?_
                refine awp_region ?_
                refine al_step rfl rfl (aop_assign rfl) ?_
                refine al_end rfl ?_
                refine awp_ret ?_
                refine ⟨rfl, _, [], res_tmp rfl, List.nil_sublist _, ?_⟩
                exact ⟨pI (by simp_all [arity]), rfl⟩
              · (try simp only [sd] at c17)
                refine awp_skip ?_
                refine awp_seq ?_
                refine awp_region ?_
                refine al_step rfl rfl (aop_assign rfl) ?_
                refine al_end rfl ?_
                refine awp_ret ?_
                refine ⟨rfl, _, [], res_tmp rfl, List.nil_sublist _, ?_⟩
                exact ⟨pI (by simp_all [arity]), rfl⟩
            · (try simp only [sd] at c16)
              refine awp_region ?_
              refine al_step rfl rfl (aop_cmp rfl rfl rfl) ?_
              refine al_step rfl rfl (aop_assign rfl) ?_
              refine al_end rfl ?_
              refine awp_cond rfl (fun c18 => ?_) (fun c18 => ?_)
              · (try simp only [sd] at c18)
                refine awp_seq ?_
                refine awp_region ?_
                refine al_step rfl rfl (aop_assign rfl) ?_
                refine al_end rfl ?_
                refine awp_ret ?_
                refine ⟨rfl, _, [], res_tmp rfl, List.nil_sublist _, ?_⟩
                exact ⟨pI (by simp_all [arity]), rfl⟩
              · (try simp only [sd] at c18)
                refine awp_skip ?_
                refine awp_seq ?_
                refine awp_region ?_
                refine al_step rfl rfl (aop_assign rfl) ?_
                refine al_end rfl ?_
                refine awp_ret ?_
                refine ⟨rfl, _, [], res_tmp rfl, List.nil_sublist _, ?_⟩
                exact ⟨pI (by simp_all [arity]), rfl⟩
        · (try simp only [sd] at c14)
          refine awp_region ?_
          refine al_step rfl rfl (aop_cmp rfl rfl rfl) ?_
          refine al_step rfl rfl (aop_assign rfl) ?_
          refine al_end rfl ?_
          refine awp_cond rfl (fun c19 => ?_) (fun c19 => ?_)
          · (try simp only [sd] at c19)
            refine awp_seq ?_
            refine awp_region ?_
            refine al_step rfl rfl (aop_assign rfl) ?_
            refine al_end rfl ?_
            refine awp_ret ?_
            refine ⟨rfl, _, [], res_tmp rfl, List.nil_sublist _, ?_⟩
            exact ⟨pI (by simp_all [arity]), rfl⟩
          · (try simp only [sd] at c19)
            refine awp_seq ?_
            refine awp_seq ?_
            refine awp_region ?_
            refine al_step rfl rfl (aop_cmp rfl rfl rfl) ?_
            refine al_step rfl rfl (aop_assign rfl) ?_
            refine al_end rfl ?_
            refine awp_cond rfl (fun c20 => ?_) (fun c20 => ?_)
            · (try simp only [sd] at c20)
              refine awp_skip ?_
              refine awp_cond rfl (fun c21 => ?_) (fun c21 => ?_)
              · (try simp only [sd] at c21)
                refine awp_seq ?_
                refine awp_region ?_
                refine al_step rfl rfl (aop_assign rfl) ?_
                refine al_end rfl ?_
                refine awp_ret ?_
                refine ⟨rfl, _, [], res_tmp rfl, List.nil_sublist _, ?_⟩
                exact ⟨pI (by simp_all [arity]), rfl⟩
              · (try simp only [sd] at c21)
                refine awp_skip ?_
                refine awp_seq ?_
                refine awp_region ?_
                refine al_step rfl rfl (aop_assign rfl) ?_
                refine al_end rfl ?_
                refine awp_ret ?_
                refine ⟨rfl, _, [], res_tmp rfl, List.nil_sublist _, ?_⟩
                exact ⟨pI (by simp_all [arity]), rfl⟩
            · (try simp only [sd] at c20)
              refine awp_region ?_
              refine al_step rfl rfl (aop_cmp rfl rfl rfl) ?_
              refine al_step rfl rfl (aop_assign rfl) ?_
              refine al_end rfl ?_
              refine awp_cond rfl (fun c22 => ?_) (fun c22 => ?_)
              · (try simp only [sd] at c22)
                refine awp_seq ?_
                refine awp_region ?_
                refine al_step rfl rfl (aop_assign rfl) ?_
                refine al_end rfl ?_
                refine awp_ret ?_
                refine ⟨rfl, _, [], res_tmp rfl, List.nil_sublist _, ?_⟩
                exact ⟨pI (by simp_all [arity]), rfl⟩
              · (try simp only [sd] at c22)
                refine awp_skip ?_
                refine awp_seq ?_
                refine awp_region ?_
                refine al_step rfl rfl (aop_assign rfl) ?_
                refine al_end rfl ?_
                refine awp_ret ?_
                refine ⟨rfl, _, [], res_tmp rfl, List.nil_sublist _, ?_⟩
                exact ⟨pI (by simp_all [arity]), rfl⟩
    · (try simp only [sd] at c12)
      refine awp_seq ?_
      refine awp_region ?_
      refine al_step rfl rfl (aop_cmp rfl rfl rfl) ?_
      refine al_step rfl rfl (aop_assign rfl) ?_
      refine al_end rfl ?_
      refine awp_cond rfl (fun c23 => ?_) (fun c23 => ?_)
      · (try simp only [sd] at c23)
        refine awp_skip ?_
        refine awp_cond rfl (fun c24 => ?_) (fun c24 => ?_)
        · (try simp only [sd] at c24)
          refine awp_seq ?_
          refine awp_region ?_
          refine al_step rfl rfl (aop_assign rfl) ?_
          refine al_end rfl ?_
          refine awp_ret ?_
          refine ⟨rfl, _, [], res_tmp rfl, List.nil_sublist _, ?_⟩
          exact ⟨pI (by simp_all [arity]), rfl⟩
        · (try simp only [sd] at c24)
          refine awp_seq ?_
          refine awp_seq ?_
          refine awp_region ?_
          refine al_step rfl rfl (aop_cmp rfl rfl rfl) ?_
          refine al_step rfl rfl (aop_assign rfl) ?_
          refine al_end rfl ?_
          refine awp_cond rfl (fun c25 => ?_) (fun c25 => ?_)
          · (try simp only [sd] at c25)
            refine awp_skip ?_
            refine awp_cond rfl (fun c26 => ?_) (fun c26 => ?_)
            · (try simp only [sd] at c26)
              refine awp_seq ?_
              refine awp_region ?_
              refine al_step rfl rfl (aop_assign rfl) ?_
              refine al_end rfl ?_
              refine awp_ret ?_
              refine ⟨rfl, _, [], res_tmp rfl, List.nil_sublist _, ?_⟩
              exact ⟨pI (by simp_all [arity]), rfl⟩
            · (try simp only [sd] at c26)
              refine awp_seq ?_
              refine awp_seq ?_
              refine awp_region ?_
              refine al_step rfl rfl (aop_cmp rfl rfl rfl) ?_
              refine al_step rfl rfl (aop_assign rfl) ?_
              refine al_end rfl ?_
              refine awp_cond rfl (fun c27 => ?_) (fun c27 => ?_)
              · (try simp only [sd] at c27)
                refine awp_skip ?_
                refine awp_cond rfl (fun c28 => ?_) (fun c28 => ?_)
                · (try simp only [sd] at c28)
                  refine awp_seq ?_
                  refine awp_region ?_
                  refine al_step rfl rfl (aop_assign rfl) ?_
                  refine al_end rfl ?_
                  refine awp_ret ?_
                  refine ⟨rfl, _, [], res_tmp rfl, List.nil_sublist _, ?_⟩
                  exact ⟨pI (by simp_all [arity]), rfl⟩
                · (try simp only [sd] at c28)
                  refine awp_skip ?_
                  refine awp_seq ?_
                  refine awp_region ?_
                  refine al_step rfl rfl (aop_assign rfl) ?_
                  refine al_end rfl ?_
                  refine awp_ret ?_
                  refine ⟨rfl, _, [], res_tmp rfl, List.nil_sublist _, ?_⟩
                  exact ⟨pI (by simp_all [arity]), rfl⟩
              · (try simp only [sd] at c27)
                refine awp_region ?_
                refine al_step rfl rfl (aop_cmp rfl rfl rfl) ?_
                refine al_step rfl rfl (aop_assign rfl) ?_
                refine al_end rfl ?_
                refine awp_cond rfl (fun c29 => ?_) (fun c29 => ?_)
                · (try simp only [sd] at c29)
                  refine awp_seq ?_
                  refine awp_region ?_
                  refine al_step rfl rfl (aop_assign rfl) ?_
                  refine al_end rfl ?_
                  refine awp_ret ?_
                  refine ⟨rfl, _, [], res_tmp rfl, List.nil_sublist _, ?_⟩
                  exact ⟨pI (by simp_all [arity]), rfl⟩
                · (try simp only [sd] at c29)
                  refine awp_skip ?_
                  refine awp_seq ?_
                  refine awp_region ?_
                  refine al_step rfl rfl (aop_assign rfl) ?_
                  refine al_end rfl ?_
                  refine awp_ret ?_
                  refine ⟨rfl, _, [], res_tmp rfl, List.nil_sublist _, ?_⟩
                  exact ⟨pI (by simp_all [arity]), rfl⟩
          · (try simp only [sd] at c25)
            refine awp_region ?_
            refine al_step rfl rfl (aop_cmp rfl rfl rfl) ?_
            refine al_step rfl rfl (aop_assign rfl) ?_
            refine al_end rfl ?_
            refine awp_cond rfl (fun c30 => ?_) (fun c30 => ?_)
            · (try simp only [sd] at c30)
              refine awp_seq ?_
              refine awp_region ?_
              refine al_step rfl rfl (aop_assign rfl) ?_
              refine al_end rfl ?_
              refine awp_ret ?_
              refine ⟨rfl, _, [], res_tmp rfl, List.nil_sublist _, ?_⟩
              exact ⟨pI (by simp_all [arity]), rfl⟩
            · (try simp only [sd] at c30)
              refine awp_seq ?_
              refine awp_seq ?_
              refine awp_region ?_
              refine al_step rfl rfl (aop_cmp rfl rfl rfl) ?_
              refine al_step rfl rfl (aop_assign rfl) ?_
              refine al_end rfl ?_
              refine awp_cond rfl (fun c31 => ?_) (fun c31 => ?_)
              · (try simp only [sd] at c31)
                refine awp_skip ?_
                refine awp_cond rfl (fun c32 => ?_) (fun c32 => ?_)
                · (try simp only [sd] at c32)
                  refine awp_seq ?_
                  refine awp_region ?_
                  refine al_step rfl rfl (aop_assign rfl) ?_
                  refine al_end rfl ?_
                  refine awp_ret ?_
                  refine ⟨rfl, _, [], res_tmp rfl, List.nil_sublist _, ?_⟩
                  exact ⟨pI (by simp_all [arity]), rfl⟩
                · (try simp only [sd] at c32)
                  refine awp_skip ?_
                  refine awp_seq ?_
                  refine awp_region ?_
                  refine al_step rfl rfl (aop_assign rfl) ?_
                  refine al_end rfl ?_
                  refine awp_ret ?_
                  refine ⟨rfl, _, [], res_tmp rfl, List.nil_sublist _, ?_⟩
                  exact ⟨pI (by simp_all [arity]), rfl⟩
              · (try simp only [sd] at c31)
                refine awp_region ?_
                refine al_step rfl rfl (aop_cmp rfl rfl rfl) ?_
                refine al_step rfl rfl (aop_assign rfl) ?_
                refine al_end rfl ?_
                refine awp_cond rfl (fun c33 => ?_) (fun c33 => ?_)
                · (try simp only [sd] at c33)
                  refine awp_seq ?_
                  refine awp_region ?_
                  refine al_step rfl rfl (aop_assign rfl) ?_
                  refine al_end rfl ?_
                  refine awp_ret ?_
                  refine ⟨rfl, _, [], res_tmp rfl, List.nil_sublist _, ?_⟩
                  exact ⟨pI (by simp_all [arity]), rfl⟩
                · (try simp only [sd] at c33)
                  refine awp_skip ?_
                  refine awp_seq ?_
                  refine awp_region ?_
                  refine al_step rfl rfl (aop_assign rfl) ?_
                  refine al_end rfl ?_
                  refine awp_ret ?_
                  refine ⟨rfl, _, [], res_tmp rfl, List.nil_sublist _, ?_⟩
                  exact ⟨pI (by simp_all [arity]), rfl⟩
      · (try simp only [sd] at c23)
        refine awp_region ?_
        refine al_step rfl rfl (aop_cmp rfl rfl rfl) ?_
        refine al_step rfl rfl (aop_assign rfl) ?_
        refine al_end rfl ?_
        refine awp_cond rfl (fun c34 => ?_) (fun c34 => ?_)
        · (try simp only [sd] at c34)
          refine awp_seq ?_
          refine awp_region ?_
          refine al_step rfl rfl (aop_assign rfl) ?_
          refine al_end rfl ?_
          refine awp_ret ?_
          refine ⟨rfl, _, [], res_tmp rfl, List.nil_sublist _, ?_⟩
          exact ⟨pI (by simp_all [arity]), rfl⟩
        · (try simp only [sd] at c34)
          refine awp_seq ?_
          refine awp_seq ?_
          refine awp_region ?_
          refine al_step rfl rfl (aop_cmp rfl rfl rfl) ?_
          refine al_step rfl rfl (aop_assign rfl) ?_
          refine al_end rfl ?_
          refine awp_cond rfl (fun c35 => ?_) (fun c35 => ?_)
          · (try simp only [sd] at c35)
            refine awp_skip ?_
            refine awp_cond rfl (fun c36 => ?_) (fun c36 => ?_)
            · (try simp only [sd] at c36)
              refine awp_seq ?_
              refine awp_region ?_
              refine al_step rfl rfl (aop_assign rfl) ?_
              refine al_end rfl ?_
              refine awp_ret ?_
              refine ⟨rfl, _, [], res_tmp rfl, List.nil_sublist _, ?_⟩
              exact ⟨pI (by simp_all [arity]), rfl⟩
            · (try simp only [sd] at c36)
              refine awp_seq ?_
              refine awp_seq ?_
              refine awp_region ?_
              refine al_step rfl rfl (aop_cmp rfl rfl rfl) ?_
              refine al_step rfl rfl (aop_assign rfl) ?_
              refine al_end rfl ?_
              refine awp_cond rfl (fun c37 => ?_) (fun c37 => ?_)
              · (try simp only [sd] at c37)
                refine awp_skip ?_
                refine awp_cond rfl (fun c38 => ?_) (fun c38 => ?_)
                · (try simp only [sd] at c38)
                  refine awp_seq ?_
                  refine awp_region ?_
                  refine al_step rfl rfl (aop_assign rfl) ?_
                  refine al_end rfl ?_
                  refine awp_ret ?_
                  refine ⟨rfl, _, [], res_tmp rfl, List.nil_sublist _, ?_⟩
                  exact ⟨pI (by simp_all [arity]), rfl⟩
                · (try simp only [sd] at c38)
                  refine awp_skip ?_
                  refine awp_seq ?_
                  refine awp_region ?_
                  refine al_step rfl rfl (aop_assign rfl) ?_
                  refine al_end rfl ?_
                  refine awp_ret ?_
                  refine ⟨rfl, _, [], res_tmp rfl, List.nil_sublist _, ?_⟩
                  exact ⟨pI (by simp_all [arity]), rfl⟩
              · (try simp only [sd] at c37)
                refine awp_region ?_
                refine al_step rfl rfl (aop_cmp rfl rfl rfl) ?_
                refine al_step rfl rfl (aop_assign rfl) ?_
                refine al_end rfl ?_
                refine awp_cond rfl (fun c39 => ?_) (fun c39 => ?_)
                · (try simp only [sd] at c39)
                  refine awp_seq ?_
                  refine awp_region ?_
                  refine al_step rfl rfl (aop_assign rfl) ?_
                  refine al_end rfl ?_
                  refine awp_ret ?_
                  refine ⟨rfl, _, [], res_tmp rfl, List.nil_sublist _, ?_⟩
                  exact ⟨pI (by simp_all [arity]), rfl⟩
                · (try simp only [sd] at c39)
                  refine awp_skip ?_
                  refine awp_seq ?_
                  refine awp_region ?_
                  refine al_step rfl rfl (aop_assign rfl) ?_
                  refine al_end rfl ?_
                  refine awp_ret ?_
                  refine ⟨rfl, _, [], res_tmp rfl, List.nil_sublist _, ?_⟩
                  exact ⟨pI (by simp_all [arity]), rfl⟩
          · (try simp only [sd] at c35)
            refine awp_region ?_
            refine al_step rfl rfl (aop_cmp rfl rfl rfl) ?_
            refine al_step rfl rfl (aop_assign rfl) ?_
            refine al_end rfl ?_
            refine awp_cond rfl (fun c40 => ?_) (fun c40 => ?_)
            · (try simp only [sd] at c40)
              refine awp_seq ?_
              refine awp_region ?_
              refine al_step rfl rfl (aop_assign rfl) ?_
              refine al_end rfl ?_
              refine awp_ret ?_
              refine ⟨rfl, _, [], res_tmp rfl, List.nil_sublist _, ?_⟩
              exact ⟨pI (by simp_all [arity]), rfl⟩
            · (try simp only [sd] at c40)
              refine awp_seq ?_
              refine awp_seq ?_
              refine awp_region ?_
              refine al_step rfl rfl (aop_cmp rfl rfl rfl) ?_
              refine al_step rfl rfl (aop_assign rfl) ?_
              refine al_end rfl ?_
              refine awp_cond rfl (fun c41 => ?_) (fun c41 => ?_)
              · (try simp only [sd] at c41)
                refine awp_skip ?_
                refine awp_cond rfl (fun c42 => ?_) (fun c42 => ?_)
                · (try simp only [sd] at c42)
                  refine awp_seq ?_
                  refine awp_region ?_
                  refine al_step rfl rfl (aop_assign rfl) ?_
                  refine al_end rfl ?_
                  refine awp_ret ?_
                  refine ⟨rfl, _, [], res_tmp rfl, List.nil_sublist _, ?_⟩
                  exact ⟨pI (by simp_all [arity]), rfl⟩
                · (try simp only [sd] at c42)
                  refine awp_skip ?_
                  refine awp_seq ?_
                  refine awp_region ?_
                  refine al_step rfl rfl (aop_assign rfl) ?_
                  refine al_end rfl ?_
                  refine awp_ret ?_
                  refine ⟨rfl, _, [], res_tmp rfl, List.nil_sublist _, ?_⟩
                  exact ⟨pI (by simp_all [arity]), rfl⟩
              · (try simp only [sd] at c41)
                refine awp_region ?_
                refine al_step rfl rfl (aop_cmp rfl rfl rfl) ?_
                refine al_step rfl rfl (aop_assign rfl) ?_
                refine al_end rfl ?_
                refine awp_cond rfl (fun c43 => ?_) (fun c43 => ?_)
                · (try simp only [sd] at c43)
                  refine awp_seq ?_
                  refine awp_region ?_
                  refine al_step rfl rfl (aop_assign rfl) ?_
                  refine al_end rfl ?_
                  refine awp_ret ?_
                  refine ⟨rfl, _, [], res_tmp rfl, List.nil_sublist _, ?_⟩
                  exact ⟨pI (by simp_all [arity]), rfl⟩
                · (try simp only [sd] at c43)
                  refine awp_skip ?_
                  refine awp_seq ?_
                  refine awp_region ?_
                  refine al_step rfl rfl (aop_assign rfl) ?_
                  refine al_end rfl ?_
                  refine awp_ret ?_
                  refine ⟨rfl, _, [], res_tmp rfl, List.nil_sublist _, ?_⟩
                  exact ⟨pI (by simp_all [arity]), rfl⟩

theorem below_c : ∀ (k i : Int), Fun Tryz.prog 44 [.p (I k), .p (I i)] (.p (I (below k i))) := by
  intro k i
  refine acalls_of_awp Tryz.func44 rfl en44 (n := 27) rfl rfl ?_
  refine awp_seq ?_
  refine awp_region ?_
  refine al_step rfl rfl (aop_assign rfl) ?_
  refine al_end rfl ?_
  refine awp_seq ?_
  refine awp_seq ?_
  refine awp_meetR [0, 1, 4] 26 (fun y => y = .p (.bool ((i == 1 && (k == 5 || k == 6 || k == 7)) || (i == 2 && k == 11)))) ?_ ?_
  · refine awp_region ?_
    refine al_step rfl rfl (aop_move rfl) ?_
    refine al_step rfl rfl (aop_cmp rfl rfl rfl) ?_
    refine al_step rfl rfl (aop_move rfl) ?_
    refine al_case 7 rfl (fun g1 => ?_) (fun g1 => ?_)
    · (try simp only [sd] at g1)
      refine al_stepg rfl rfl rfl rfl (aop_move rfl) ?_
      refine al_stepg rfl rfl rfl rfl (aop_cmp rfl rfl rfl) ?_
      refine al_stepg rfl rfl rfl rfl (aop_move rfl) ?_
      refine al_case 10 rfl (fun g2 => ?_) (fun g2 => ?_)
      · (try simp only [sd] at g2)
        refine al_pass rfl rfl rfl rfl rfl ?_
        refine al_pass rfl rfl rfl rfl rfl ?_
        refine al_stepg rfl rfl rfl rfl (aop_pick rfl rfl) ?_
        refine al_stepg rfl rfl rfl rfl (aop_move rfl) ?_
        refine al_case 14 rfl (fun g3 => ?_) (fun g3 => ?_)
        · (try simp only [sd] at g3)
          refine al_pass rfl rfl rfl rfl rfl ?_
          refine al_pass rfl rfl rfl rfl rfl ?_
          refine al_stepg rfl rfl rfl rfl (aop_pick rfl rfl) ?_
          refine al_step rfl rfl (aop_pick rfl rfl) ?_
          refine al_step rfl rfl (aop_move rfl) ?_
          refine al_case 19 rfl (fun g4 => ?_) (fun g4 => ?_)
          · (try simp only [sd] at g4)
            refine al_pass rfl rfl rfl rfl rfl ?_
            refine al_pass rfl rfl rfl rfl rfl ?_
            refine al_pass rfl rfl rfl rfl rfl ?_
            refine al_pass0 rfl rfl rfl rfl ?_
            refine al_pass0 rfl rfl rfl rfl ?_
            refine al_pass rfl rfl rfl rfl rfl ?_
            refine al_step rfl rfl (aop_pick rfl rfl) ?_
            refine al_end rfl ?_
            exact ⟨rfl, rfl, (by first | exact List.Sublist.refl _ | exact List.sublist_cons_self _ _), pB (by simp_all), ⟨rfl, rfl, rfl, trivial⟩⟩
          · (try simp only [sd] at g4)
            refine al_stepg rfl rfl rfl rfl (aop_move rfl) ?_
            refine al_stepg rfl rfl rfl rfl (aop_cmp rfl rfl rfl) ?_
            refine al_stepg rfl rfl rfl rfl (aop_move rfl) ?_
            refine al_case 22 rfl (fun g5 => ?_) (fun g5 => ?_)
            · (try simp only [sd] at g5)
              refine al_stepg rfl rfl rfl rfl (aop_move rfl) ?_
              refine al_stepg rfl rfl rfl rfl (aop_cmp rfl rfl rfl) ?_
              refine al_stepg rfl rfl rfl rfl (aop_pick rfl rfl) ?_
              refine al_step rfl rfl (aop_pick rfl rfl) ?_
              refine al_end rfl ?_
              exact ⟨rfl, rfl, (by first | exact List.Sublist.refl _ | exact List.sublist_cons_self _ _), pB (by simp_all), ⟨rfl, rfl, rfl, trivial⟩⟩
            · (try simp only [sd] at g5)
              refine al_pass rfl rfl rfl rfl rfl ?_
              refine al_pass rfl rfl rfl rfl rfl ?_
              refine al_stepg rfl rfl rfl rfl (aop_pick rfl rfl) ?_
              refine al_step rfl rfl (aop_pick rfl rfl) ?_
              refine al_end rfl ?_
              exact ⟨rfl, rfl, (by first | exact List.Sublist.refl _ | exact List.sublist_cons_self _ _), pB (by simp_all), ⟨rfl, rfl, rfl, trivial⟩⟩
        · (try simp only [sd] at g3)
          refine al_stepg rfl rfl rfl rfl (aop_move rfl) ?_
          refine al_stepg rfl rfl rfl rfl (aop_cmp rfl rfl rfl) ?_
          refine al_stepg rfl rfl rfl rfl (aop_pick rfl rfl) ?_
          refine al_step rfl rfl (aop_pick rfl rfl) ?_
          refine al_step rfl rfl (aop_move rfl) ?_
          refine al_case 19 rfl (fun g6 => ?_) (fun g6 => ?_)
          · (try simp only [sd] at g6)
            refine al_pass rfl rfl rfl rfl rfl ?_
            refine al_pass rfl rfl rfl rfl rfl ?_
            refine al_pass rfl rfl rfl rfl rfl ?_
            refine al_pass0 rfl rfl rfl rfl ?_
            refine al_pass0 rfl rfl rfl rfl ?_
            refine al_pass rfl rfl rfl rfl rfl ?_
            refine al_step rfl rfl (aop_pick rfl rfl) ?_
            refine al_end rfl ?_
            exact ⟨rfl, rfl, (by first | exact List.Sublist.refl _ | exact List.sublist_cons_self _ _), pB (by simp_all), ⟨rfl, rfl, rfl, trivial⟩⟩
          · (try simp only [sd] at g6)
            refine al_stepg rfl rfl rfl rfl (aop_move rfl) ?_
            refine al_stepg rfl rfl rfl rfl (aop_cmp rfl rfl rfl) ?_
            refine al_stepg rfl rfl rfl rfl (aop_move rfl) ?_
            refine al_case 22 rfl (fun g7 => ?_) (fun g7 => ?_)
            · (try simp only [sd] at g7)
              refine al_stepg rfl rfl rfl rfl (aop_move rfl) ?_
              refine al_stepg rfl rfl rfl rfl (aop_cmp rfl rfl rfl) ?_
              refine al_stepg rfl rfl rfl rfl (aop_pick rfl rfl) ?_
              refine al_step rfl rfl (aop_pick rfl rfl) ?_
              refine al_end rfl ?_
              exact ⟨rfl, rfl, (by first | exact List.Sublist.refl _ | exact List.sublist_cons_self _ _), pB (by simp_all), ⟨rfl, rfl, rfl, trivial⟩⟩
            · (try simp only [sd] at g7)
              refine al_pass rfl rfl rfl rfl rfl ?_
              refine al_pass rfl rfl rfl rfl rfl ?_
              refine al_stepg rfl rfl rfl rfl (aop_pick rfl rfl) ?_
              refine al_step rfl rfl (aop_pick rfl rfl) ?_
              refine al_end rfl ?_
              exact ⟨rfl, rfl, (by first | exact List.Sublist.refl _ | exact List.sublist_cons_self _ _), pB (by simp_all), ⟨rfl, rfl, rfl, trivial⟩⟩
      · (try simp only [sd] at g2)
        refine al_stepg rfl rfl rfl rfl (aop_move rfl) ?_
        refine al_stepg rfl rfl rfl rfl (aop_cmp rfl rfl rfl) ?_
        refine al_stepg rfl rfl rfl rfl (aop_pick rfl rfl) ?_
        refine al_stepg rfl rfl rfl rfl (aop_move rfl) ?_
        refine al_case 14 rfl (fun g8 => ?_) (fun g8 => ?_)
        · (try simp only [sd] at g8)
          refine al_pass rfl rfl rfl rfl rfl ?_
          refine al_pass rfl rfl rfl rfl rfl ?_
          refine al_stepg rfl rfl rfl rfl (aop_pick rfl rfl) ?_
          refine al_step rfl rfl (aop_pick rfl rfl) ?_
          refine al_step rfl rfl (aop_move rfl) ?_
          refine al_case 19 rfl (fun g9 => ?_) (fun g9 => ?_)
          · (try simp only [sd] at g9)
            refine al_pass rfl rfl rfl rfl rfl ?_
            refine al_pass rfl rfl rfl rfl rfl ?_
            refine al_pass rfl rfl rfl rfl rfl ?_
            refine al_pass0 rfl rfl rfl rfl ?_
            refine al_pass0 rfl rfl rfl rfl ?_
            refine al_pass rfl rfl rfl rfl rfl ?_
            refine al_step rfl rfl (aop_pick rfl rfl) ?_
            refine al_end rfl ?_
            exact ⟨rfl, rfl, (by first | exact List.Sublist.refl _ | exact List.sublist_cons_self _ _), pB (by simp_all), ⟨rfl, rfl, rfl, trivial⟩⟩
          · (try simp only [sd] at g9)
            refine al_stepg rfl rfl rfl rfl (aop_move rfl) ?_
            refine al_stepg rfl rfl rfl rfl (aop_cmp rfl rfl rfl) ?_
            refine al_stepg rfl rfl rfl rfl (aop_move rfl) ?_
            refine al_case 22 rfl (fun g10 => ?_) (fun g10 => ?_)
            · (try simp only [sd] at g10)
              refine al_stepg rfl rfl rfl rfl (aop_move rfl) ?_
              refine al_stepg rfl rfl rfl rfl (aop_cmp rfl rfl rfl) ?_
              refine al_stepg rfl rfl rfl rfl (aop_pick rfl rfl) ?_
              refine al_step rfl rfl (aop_pick rfl rfl) ?_
              refine al_end rfl ?_
              exact ⟨rfl, rfl, (by first | exact List.Sublist.refl _ | exact List.sublist_cons_self _ _), pB (by simp_all), ⟨rfl, rfl, rfl, trivial⟩⟩
            · (try simp only [sd] at g10)
              refine al_pass rfl rfl rfl rfl rfl ?_
              refine al_pass rfl rfl rfl rfl rfl ?_
              refine al_stepg rfl rfl rfl rfl (aop_pick rfl rfl) ?_
              refine al_step rfl rfl (aop_pick rfl rfl) ?_
              refine al_end rfl ?_
              exact ⟨rfl, rfl, (by first | exact List.Sublist.refl _ | exact List.sublist_cons_self _ _), pB (by simp_all), ⟨rfl, rfl, rfl, trivial⟩⟩
        · (try simp only [sd] at g8)
          refine al_stepg rfl rfl rfl rfl (aop_move rfl) ?_
          refine al_stepg rfl rfl rfl rfl (aop_cmp rfl rfl rfl) ?_
          refine al_stepg rfl rfl rfl rfl (aop_pick rfl rfl) ?_
          refine al_step rfl rfl (aop_pick rfl rfl) ?_
          refine al_step rfl rfl (aop_move rfl) ?_
          refine al_case 19 rfl (fun g11 => ?_) (fun g11 => ?_)
          · (try simp only [sd] at g11)
            refine al_pass rfl rfl rfl rfl rfl ?_
            refine al_pass rfl rfl rfl rfl rfl ?_
            refine al_pass rfl rfl rfl rfl rfl ?_
            refine al_pass0 rfl rfl rfl rfl ?_
            refine al_pass0 rfl rfl rfl rfl ?_
            refine al_pass rfl rfl rfl rfl rfl ?_
            refine al_step rfl rfl (aop_pick rfl rfl) ?_
            refine al_end rfl ?_
            exact ⟨rfl, rfl, (by first | exact List.Sublist.refl _ | exact List.sublist_cons_self _ _), pB (by simp_all), ⟨rfl, rfl, rfl, trivial⟩⟩
          · (try simp only [sd] at g11)
            refine al_stepg rfl rfl rfl rfl (aop_move rfl) ?_
            refine al_stepg rfl rfl rfl rfl (aop_cmp rfl rfl rfl) ?_
            refine al_stepg rfl rfl rfl rfl (aop_move rfl) ?_
            refine al_case 22 rfl (fun g12 => ?_) (fun g12 => ?_)
            · (try simp only [sd] at g12)
              refine al_stepg rfl rfl rfl rfl (aop_move rfl) ?_
              refine al_stepg rfl rfl rfl rfl (aop_cmp rfl rfl rfl) ?_
              refine al_stepg rfl rfl rfl rfl (aop_pick rfl rfl) ?_
              refine al_step rfl rfl (aop_pick rfl rfl) ?_
              refine al_end rfl ?_
              exact ⟨rfl, rfl, (by first | exact List.Sublist.refl _ | exact List.sublist_cons_self _ _), pB (by simp_all), ⟨rfl, rfl, rfl, trivial⟩⟩
            · (try simp only [sd] at g12)
              refine al_pass rfl rfl rfl rfl rfl ?_
              refine al_pass rfl rfl rfl rfl rfl ?_
              refine al_stepg rfl rfl rfl rfl (aop_pick rfl rfl) ?_
              refine al_step rfl rfl (aop_pick rfl rfl) ?_
              refine al_end rfl ?_
              exact ⟨rfl, rfl, (by first | exact List.Sublist.refl _ | exact List.sublist_cons_self _ _), pB (by simp_all), ⟨rfl, rfl, rfl, trivial⟩⟩
    · (try simp only [sd] at g1)
      refine al_pass rfl rfl rfl rfl rfl ?_
      refine al_pass rfl rfl rfl rfl rfl ?_
      refine al_pass rfl rfl rfl rfl rfl ?_
      refine al_pass0 rfl rfl rfl rfl ?_
      refine al_pass0 rfl rfl rfl rfl ?_
      refine al_pass rfl rfl rfl rfl rfl ?_
      refine al_pass rfl rfl rfl rfl rfl ?_
      refine al_pass0 rfl rfl rfl rfl ?_
      refine al_pass0 rfl rfl rfl rfl ?_
      refine al_pass rfl rfl rfl rfl rfl ?_
      refine al_step rfl rfl (aop_pick rfl rfl) ?_
      refine al_step rfl rfl (aop_move rfl) ?_
      refine al_case 19 rfl (fun g13 => ?_) (fun g13 => ?_)
      · (try simp only [sd] at g13)
        refine al_pass rfl rfl rfl rfl rfl ?_
        refine al_pass rfl rfl rfl rfl rfl ?_
        refine al_pass rfl rfl rfl rfl rfl ?_
        refine al_pass0 rfl rfl rfl rfl ?_
        refine al_pass0 rfl rfl rfl rfl ?_
        refine al_pass rfl rfl rfl rfl rfl ?_
        refine al_step rfl rfl (aop_pick rfl rfl) ?_
        refine al_end rfl ?_
        exact ⟨rfl, rfl, (by first | exact List.Sublist.refl _ | exact List.sublist_cons_self _ _), pB (by simp_all), ⟨rfl, rfl, rfl, trivial⟩⟩
      · (try simp only [sd] at g13)
        refine al_stepg rfl rfl rfl rfl (aop_move rfl) ?_
        refine al_stepg rfl rfl rfl rfl (aop_cmp rfl rfl rfl) ?_
        refine al_stepg rfl rfl rfl rfl (aop_move rfl) ?_
        refine al_case 22 rfl (fun g14 => ?_) (fun g14 => ?_)
        · (try simp only [sd] at g14)
          refine al_stepg rfl rfl rfl rfl (aop_move rfl) ?_
          refine al_stepg rfl rfl rfl rfl (aop_cmp rfl rfl rfl) ?_
          refine al_stepg rfl rfl rfl rfl (aop_pick rfl rfl) ?_
          refine al_step rfl rfl (aop_pick rfl rfl) ?_
          refine al_end rfl ?_
          exact ⟨rfl, rfl, (by first | exact List.Sublist.refl _ | exact List.sublist_cons_self _ _), pB (by simp_all), ⟨rfl, rfl, rfl, trivial⟩⟩
        · (try simp only [sd] at g14)
          refine al_pass rfl rfl rfl rfl rfl ?_
          refine al_pass rfl rfl rfl rfl rfl ?_
          refine al_stepg rfl rfl rfl rfl (aop_pick rfl rfl) ?_
          refine al_step rfl rfl (aop_pick rfl rfl) ?_
          refine al_end rfl ?_
          exact ⟨rfl, rfl, (by first | exact List.Sublist.refl _ | exact List.sublist_cons_self _ _), pB (by simp_all), ⟨rfl, rfl, rfl, trivial⟩⟩
  rintro _ rfl
  refine awp_cond rfl (fun c15 => ?_) (fun c15 => ?_)
  · (try simp only [sd] at c15)
    refine awp_seq ?_
    refine awp_region ?_
    refine al_step rfl rfl (aop_assign rfl) ?_
    refine al_end rfl ?_
    refine awp_ret ?_
    refine ⟨rfl, _, [], res_tmp rfl, List.nil_sublist _, ?_⟩
    exact ⟨pI (by simp only [below, *]; rfl), rfl⟩
  · (try simp only [sd] at c15)
    refine awp_skip ?_
    refine awp_seq ?_
    refine awp_region ?_
    refine al_step rfl rfl (aop_assign rfl) ?_
    refine al_end rfl ?_
    refine awp_ret ?_
    refine ⟨rfl, _, [], res_tmp rfl, List.nil_sublist _, ?_⟩
    exact ⟨pI (by simp only [below, *]; rfl), rfl⟩

theorem name_c : ∀ (s : ByteArray), s.size < big → FunR Tryz.prog 42 [.p (.str s)] someB := by
  intro s hs
  simp only [big] at hs
  refine acalls_of_awp Tryz.func42 rfl en42 (n := 45) rfl rfl ?_
  refine awp_seq ?_
  refine awp_region ?_
  refine al_step rfl rfl (aop_assign rfl) ?_
  refine al_end rfl ?_
  refine awp_seq ?_
  refine awp_seq ?_
  refine awp_meetR [0, 2, 3, 4, 5] 12 someB ?_ ?_
  · refine awp_region ?_
    refine al_step rfl rfl (aop_move rfl) ?_
    refine al_step rfl rfl (aop_streq rfl rfl) ?_
    refine al_step rfl rfl (aop_move rfl) ?_
    refine al_case 8 rfl (fun g1 => ?_) (fun g1 => ?_)
    · (try simp only [sd] at g1)
      refine al_pass rfl rfl rfl rfl rfl ?_
      refine al_pass rfl rfl rfl rfl rfl ?_
      refine al_pass rfl rfl rfl rfl rfl ?_
      refine al_step rfl rfl (aop_pick rfl rfl) ?_
      refine al_end rfl ?_
      exact ⟨rfl, rfl, (by first | exact List.Sublist.refl _ | exact List.sublist_cons_self _ _), ⟨_, rfl⟩, ⟨rfl, rfl, rfl, rfl, rfl, trivial⟩⟩
    · (try simp only [sd] at g1)
      refine al_stepg rfl rfl rfl rfl (aop_move rfl) ?_
      refine al_stepg rfl rfl rfl rfl (aop_len_str us9 rfl) ?_
      refine al_stepg rfl rfl rfl rfl (aop_cmp rfl rfl rfl) ?_
      refine al_step rfl rfl (aop_pick rfl rfl) ?_
      refine al_end rfl ?_
      exact ⟨rfl, rfl, (by first | exact List.Sublist.refl _ | exact List.sublist_cons_self _ _), ⟨_, rfl⟩, ⟨rfl, rfl, rfl, rfl, rfl, trivial⟩⟩
  rintro _ ⟨q1, rfl⟩
  refine awp_cond rfl (fun c2 => ?_) (fun c2 => ?_)
  · (try simp only [sd] at c2)
    refine awp_seq ?_
    refine awp_region ?_
    refine al_step rfl rfl (aop_assign rfl) ?_
    refine al_end rfl ?_
    refine awp_ret ?_
    refine ⟨rfl, _, [], res_tmp rfl, List.nil_sublist _, ⟨⟨_, rfl⟩, rfl⟩⟩
  · (try simp only [sd] at c2)
    refine awp_skip ?_
    refine awp_seq ?_
    refine awp_region ?_
    refine al_step rfl rfl (aop_assign rfl) ?_
    refine al_end rfl ?_
    refine awp_seq ?_
    refine awp_seq ?_
    refine awp_region ?_
    refine al_step rfl rfl (aop_assign rfl) ?_
    refine al_end rfl ?_
    refine awp_block ?_
    refine awp_while (α := Nat × Bool) (fun x => ⟨45, mk [(0, .p (.str s)), (3, .p (.bool x.2)), (4, .p (I x.1))], [], []⟩) (fun x => s.size - x.1) (fun x => x.1 ≤ s.size) ((0, true)) (by simp) ?_ ?_
    · exact le_mk ⟨rfl, rfl, rfl, trivial⟩ (by first | exact List.Sublist.refl _ | exact .cons _ (.refl _) | exact .cons _ (.cons _ (.refl _)) | exact .cons _ (.cons _ (.cons _ (.refl _))) | exact .cons _ (.cons _ (.cons _ (.cons _ (.refl _)))))
    rintro ⟨i, f⟩ hi
    simp only at hi
    refine awp_seq ?_
    refine awp_seq ?_
    refine awp_region ?_
    refine al_step rfl rfl (aop_move rfl) ?_
    refine al_step rfl rfl (aop_move rfl) ?_
    refine al_step rfl rfl (aop_len_str us9 rfl) ?_
    refine al_step rfl rfl (aop_cmp rfl rfl rfl) ?_
    refine al_end rfl ?_
    refine awp_cond rfl (fun c3 => ?_) (fun c3 => ?_)
    · (try simp only [sd] at c3)
      have hi2 : i < s.size := by omega
      obtain ⟨ch, hch⟩ : ∃ ch, s[i]? = some ch := ⟨_, getElem?_pos s i hi2⟩
      refine awp_skip ?_
      refine awp_seq ?_
      refine awp_block ?_
      refine awp_seq ?_
      refine awp_region ?_
      refine al_step rfl rfl (aop_move rfl) ?_
      refine al_step rfl rfl (aop_move rfl) ?_
      refine al_step rfl rfl (aop_index_str us9 rfl rfl (by omega) (by simpa using hch)) ?_
      refine al_step rfl rfl (aop_assign rfl) ?_
      refine al_end rfl ?_
      refine awp_seq ?_
      refine awp_seq ?_
      refine awp_region ?_
      refine al_step rfl rfl (aop_move rfl) ?_
      refine al_end rfl ?_
      refine awp_cond rfl (fun c4 => ?_) (fun c4 => ?_)
      · (try simp only [sd] at c4)
        refine awp_seq ?_
        refine awp_seq ?_
        refine awp_region ?_
        refine al_step rfl rfl (aop_move rfl) ?_
        refine al_rel rfl rfl (aop_funR rfl rfl (letter_c _) (.inl rfl)) ?_
        rintro _ ⟨q, rfl⟩
        refine al_step rfl rfl (aop_not rfl) ?_
        refine al_end rfl ?_
        refine awp_cond rfl (fun c5 => ?_) (fun c5 => ?_)
        · (try simp only [sd] at c5)
          refine awp_seq ?_
          refine awp_region ?_
          refine al_step rfl rfl (aop_assign rfl) ?_
          refine al_end rfl ?_
          refine awp_ret ?_
          refine ⟨rfl, _, [], res_tmp rfl, List.nil_sublist _, ⟨⟨_, rfl⟩, rfl⟩⟩
        · (try simp only [sd] at c5)
          refine awp_skip ?_
          refine awp_seq ?_
          refine awp_region ?_
          refine al_step rfl rfl (aop_assign rfl) ?_
          refine al_end rfl ?_
          refine awp_exit ?_
          refine awp_region ?_
          refine al_step rfl rfl (aop_move rfl) ?_
          refine al_step rfl rfl (aop_add rfl rfl (by omega) (by omega)) ?_
          refine al_step rfl rfl (aop_assign rfl) ?_
          refine al_end rfl ?_
          exact ⟨(i + 1, _), (by simp only; omega), (by simp only; omega), le_mk ⟨rfl, rfl, rfl, trivial⟩ (by first | exact List.Sublist.refl _ | exact .cons _ (.refl _) | exact .cons _ (.cons _ (.refl _)) | exact .cons _ (.cons _ (.cons _ (.refl _))) | exact .cons _ (.cons _ (.cons _ (.cons _ (.refl _)))))⟩
      · (try simp only [sd] at c4)
        refine awp_skip ?_
        refine awp_seq ?_
        refine awp_seq ?_
        refine awp_region ?_
        refine al_step rfl rfl (aop_move rfl) ?_
        refine al_step rfl rfl (aop_cmp rfl rfl rfl) ?_
        refine al_end rfl ?_
        refine awp_cond rfl (fun c6 => ?_) (fun c6 => ?_)
        · (try simp only [sd] at c6)
          refine awp_seq ?_
          refine awp_region ?_
          refine al_step rfl rfl (aop_assign rfl) ?_
          refine al_end rfl ?_
          refine awp_exit ?_
          refine awp_region ?_
          refine al_step rfl rfl (aop_move rfl) ?_
          refine al_step rfl rfl (aop_add rfl rfl (by omega) (by omega)) ?_
          refine al_step rfl rfl (aop_assign rfl) ?_
          refine al_end rfl ?_
          exact ⟨(i + 1, _), (by simp only; omega), (by simp only; omega), le_mk ⟨rfl, rfl, rfl, trivial⟩ (by first | exact List.Sublist.refl _ | exact .cons _ (.refl _) | exact .cons _ (.cons _ (.refl _)) | exact .cons _ (.cons _ (.cons _ (.refl _))) | exact .cons _ (.cons _ (.cons _ (.cons _ (.refl _)))))⟩
        · (try simp only [sd] at c6)
          refine awp_skip ?_
          refine awp_seq ?_
          refine awp_meetR [0, 2, 3, 4, 5] 42 someB ?_ ?_
          · refine awp_region ?_
            refine al_step rfl rfl (aop_move rfl) ?_
            refine al_rel rfl rfl (aop_funR rfl rfl (letter_c _) (.inl rfl)) ?_
            rintro _ ⟨q, rfl⟩
            refine al_step rfl rfl (aop_not rfl) ?_
            refine al_step rfl rfl (aop_move rfl) ?_
            refine al_case 31 rfl (fun g7 => ?_) (fun g7 => ?_)
            · (try simp only [sd] at g7)
              refine al_stepg rfl rfl rfl rfl (aop_move rfl) ?_
              refine al_stepg rfl rfl rfl rfl (aop_cmp rfl rfl rfl) ?_
              refine al_step rfl rfl (aop_pick rfl rfl) ?_
              refine al_step rfl rfl (aop_move rfl) ?_
              refine al_case 35 rfl (fun g8 => ?_) (fun g8 => ?_)
              · (try simp only [sd] at g8)
                refine al_stepg rfl rfl rfl rfl (aop_move rfl) ?_
                refine al_stepg rfl rfl rfl rfl (aop_cmp rfl rfl rfl) ?_
                refine al_stepg rfl rfl rfl rfl (aop_move rfl) ?_
                refine al_case 38 rfl (fun g9 => ?_) (fun g9 => ?_)
                · (try simp only [sd] at g9)
                  refine al_pass rfl rfl rfl rfl rfl ?_
                  refine al_pass rfl rfl rfl rfl rfl ?_
                  refine al_stepg rfl rfl rfl rfl (aop_pick rfl rfl) ?_
                  refine al_step rfl rfl (aop_pick rfl rfl) ?_
                  refine al_end rfl ?_
                  exact ⟨rfl, rfl, (by first | exact List.Sublist.refl _ | exact List.sublist_cons_self _ _), ⟨_, rfl⟩, ⟨rfl, rfl, rfl, rfl, rfl, trivial⟩⟩
                · (try simp only [sd] at g9)
                  refine al_stepg rfl rfl rfl rfl (aop_move rfl) ?_
                  refine al_stepg rfl rfl rfl rfl (aop_cmp rfl rfl rfl) ?_
                  refine al_stepg rfl rfl rfl rfl (aop_pick rfl rfl) ?_
                  refine al_step rfl rfl (aop_pick rfl rfl) ?_
                  refine al_end rfl ?_
                  exact ⟨rfl, rfl, (by first | exact List.Sublist.refl _ | exact List.sublist_cons_self _ _), ⟨_, rfl⟩, ⟨rfl, rfl, rfl, rfl, rfl, trivial⟩⟩
              · (try simp only [sd] at g8)
                refine al_pass rfl rfl rfl rfl rfl ?_
                refine al_pass rfl rfl rfl rfl rfl ?_
                refine al_pass rfl rfl rfl rfl rfl ?_
                refine al_pass0 rfl rfl rfl rfl ?_
                refine al_pass0 rfl rfl rfl rfl ?_
                refine al_pass rfl rfl rfl rfl rfl ?_
                refine al_step rfl rfl (aop_pick rfl rfl) ?_
                refine al_end rfl ?_
                exact ⟨rfl, rfl, (by first | exact List.Sublist.refl _ | exact List.sublist_cons_self _ _), ⟨_, rfl⟩, ⟨rfl, rfl, rfl, rfl, rfl, trivial⟩⟩
            · (try simp only [sd] at g7)
              refine al_pass rfl rfl rfl rfl rfl ?_
              refine al_pass rfl rfl rfl rfl rfl ?_
              refine al_step rfl rfl (aop_pick rfl rfl) ?_
              refine al_step rfl rfl (aop_move rfl) ?_
              refine al_case 35 rfl (fun g10 => ?_) (fun g10 => ?_)
              · (try simp only [sd] at g10)
                refine al_stepg rfl rfl rfl rfl (aop_move rfl) ?_
                refine al_stepg rfl rfl rfl rfl (aop_cmp rfl rfl rfl) ?_
                refine al_stepg rfl rfl rfl rfl (aop_move rfl) ?_
                refine al_case 38 rfl (fun g11 => ?_) (fun g11 => ?_)
                · (try simp only [sd] at g11)
                  refine al_pass rfl rfl rfl rfl rfl ?_
                  refine al_pass rfl rfl rfl rfl rfl ?_
                  refine al_stepg rfl rfl rfl rfl (aop_pick rfl rfl) ?_
                  refine al_step rfl rfl (aop_pick rfl rfl) ?_
                  refine al_end rfl ?_
                  exact ⟨rfl, rfl, (by first | exact List.Sublist.refl _ | exact List.sublist_cons_self _ _), ⟨_, rfl⟩, ⟨rfl, rfl, rfl, rfl, rfl, trivial⟩⟩
                · (try simp only [sd] at g11)
                  refine al_stepg rfl rfl rfl rfl (aop_move rfl) ?_
                  refine al_stepg rfl rfl rfl rfl (aop_cmp rfl rfl rfl) ?_
                  refine al_stepg rfl rfl rfl rfl (aop_pick rfl rfl) ?_
                  refine al_step rfl rfl (aop_pick rfl rfl) ?_
                  refine al_end rfl ?_
                  exact ⟨rfl, rfl, (by first | exact List.Sublist.refl _ | exact List.sublist_cons_self _ _), ⟨_, rfl⟩, ⟨rfl, rfl, rfl, rfl, rfl, trivial⟩⟩
              · (try simp only [sd] at g10)
                refine al_pass rfl rfl rfl rfl rfl ?_
                refine al_pass rfl rfl rfl rfl rfl ?_
                refine al_pass rfl rfl rfl rfl rfl ?_
                refine al_pass0 rfl rfl rfl rfl ?_
                refine al_pass0 rfl rfl rfl rfl ?_
                refine al_pass rfl rfl rfl rfl rfl ?_
                refine al_step rfl rfl (aop_pick rfl rfl) ?_
                refine al_end rfl ?_
                exact ⟨rfl, rfl, (by first | exact List.Sublist.refl _ | exact List.sublist_cons_self _ _), ⟨_, rfl⟩, ⟨rfl, rfl, rfl, rfl, rfl, trivial⟩⟩
          rintro _ ⟨q14, rfl⟩
          refine awp_cond rfl (fun c12 => ?_) (fun c12 => ?_)
          · (try simp only [sd] at c12)
            refine awp_seq ?_
            refine awp_region ?_
            refine al_step rfl rfl (aop_assign rfl) ?_
            refine al_end rfl ?_
            refine awp_ret ?_
            refine ⟨rfl, _, [], res_tmp rfl, List.nil_sublist _, ⟨⟨_, rfl⟩, rfl⟩⟩
          · (try simp only [sd] at c12)
            refine awp_skip ?_
            refine awp_region ?_
            refine al_step rfl rfl (aop_move rfl) ?_
            refine al_step rfl rfl (aop_add rfl rfl (by omega) (by omega)) ?_
            refine al_step rfl rfl (aop_assign rfl) ?_
            refine al_end rfl ?_
            exact ⟨(i + 1, _), (by simp only; omega), (by simp only; omega), le_mk ⟨rfl, rfl, rfl, trivial⟩ (by first | exact List.Sublist.refl _ | exact .cons _ (.refl _) | exact .cons _ (.cons _ (.refl _)) | exact .cons _ (.cons _ (.cons _ (.refl _))) | exact .cons _ (.cons _ (.cons _ (.cons _ (.refl _)))))⟩
    · (try simp only [sd] at c3)
      refine awp_exit ?_
      refine awp_seq ?_
      refine awp_region ?_
      refine al_step rfl rfl (aop_move rfl) ?_
      refine al_step rfl rfl (aop_not rfl) ?_
      refine al_step rfl rfl (aop_assign rfl) ?_
      refine al_end rfl ?_
      refine awp_ret ?_
      refine ⟨rfl, _, [], res_tmp rfl, List.nil_sublist _, ⟨⟨_, rfl⟩, rfl⟩⟩

theorem valid_c : ∀ (l : Lvl), NdL l → FunR Tryz.prog 64 [LV l] someB := by
  intro l hn
  obtain ⟨lc, lv⟩ := l
  have hb := hn.vars
  simp only [big] at hb
  refine acalls_of_awp Tryz.func64 rfl en64 (n := 67) rfl rfl ?_
  refine awp_seq ?_
  refine awp_region ?_
  refine al_new rfl rfl (aop_box rfl) fun b1 => ?_
  refine al_step rfl rfl (aop_assign rfl) ?_
  refine al_end rfl ?_
  refine awp_seq ?_
  refine awp_seq ?_
  refine awp_meetR [0, 1, 2, 3, 4] 12 someB ?_ ?_
  · refine awp_region ?_
    refine al_step rfl rfl (aop_field_ptr fd49 rfl rfl) ?_
    refine al_step rfl rfl (aop_load_box1 (i := 0) ty3 rfl rfl rfl) ?_
    refine al_step rfl rfl (aop_cmp rfl rfl rfl) ?_
    refine al_step rfl rfl (aop_move rfl) ?_
    refine al_case 8 rfl (fun g1 => ?_) (fun g1 => ?_)
    · (try simp only [sd] at g1)
      refine al_pass rfl rfl rfl rfl rfl ?_
      refine al_pass rfl rfl rfl rfl rfl ?_
      refine al_pass rfl rfl rfl rfl rfl ?_
      refine al_step rfl rfl (aop_pick rfl rfl) ?_
      refine al_end rfl ?_
      exact ⟨rfl, rfl, (by first | exact List.Sublist.refl _ | exact List.sublist_cons_self _ _), ⟨_, rfl⟩, ⟨rfl, rfl, rfl, rfl, rfl, trivial⟩⟩
    · (try simp only [sd] at g1)
      refine al_stepg rfl rfl rfl rfl (aop_field_ptr fd49 rfl rfl) ?_
      refine al_stepg rfl rfl rfl rfl (aop_load_box1 (i := 0) ty3 rfl rfl rfl) ?_
      refine al_stepg rfl rfl rfl rfl (aop_cmp rfl rfl rfl) ?_
      refine al_step rfl rfl (aop_pick rfl rfl) ?_
      refine al_end rfl ?_
      exact ⟨rfl, rfl, (by first | exact List.Sublist.refl _ | exact List.sublist_cons_self _ _), ⟨_, rfl⟩, ⟨rfl, rfl, rfl, rfl, rfl, trivial⟩⟩
  rintro _ ⟨q1, rfl⟩
  refine awp_cond rfl (fun c2 => ?_) (fun c2 => ?_)
  · (try simp only [sd] at c2)
    refine awp_seq ?_
    refine awp_region ?_
    refine al_step rfl rfl (aop_assign rfl) ?_
    refine al_end rfl ?_
    refine awp_ret ?_
    refine ⟨rfl, _, [], res_tmp rfl, List.nil_sublist _, ⟨⟨_, rfl⟩, rfl⟩⟩
  · (try simp only [sd] at c2)
    refine awp_skip ?_
    refine awp_seq ?_
    refine awp_seq ?_
    refine awp_region ?_
    refine al_step rfl rfl (aop_assign rfl) ?_
    refine al_end rfl ?_
    refine awp_block ?_
    refine awp_forC (lv.length) (fun _ => True) (fun i => ⟨67, mk [(1, .ptr b1 0), (3, .p (I i))], [.box b1 ((encL ⟨lc, lv⟩).map .p)], []⟩) (0) (by omega) (trivial) ?_ ?_
    · exact le_mk ⟨rfl, rfl, trivial⟩ (by first | exact List.Sublist.refl _ | exact .cons _ (.refl _) | exact .cons _ (.cons _ (.refl _)) | exact .cons _ (.cons _ (.cons _ (.refl _))) | exact .cons _ (.cons _ (.cons _ (.cons _ (.refl _)))))
    intro i hi hC
    refine awp_seq ?_
    refine awp_seq ?_
    refine awp_region ?_
    refine al_step rfl rfl (aop_move rfl) ?_
    refine al_step rfl rfl (aop_field_ptr fd49 rfl rfl) ?_
    refine al_step rfl rfl (aop_load_box1 (i := 0) ty47 rfl rfl rfl) ?_
    refine al_step rfl rfl (aop_len el47 rfl) ?_
    refine al_step rfl rfl (aop_cmp rfl rfl rfl) ?_
    refine al_end rfl ?_
    refine awp_cond rfl (fun c3 => ?_) (fun c3 => ?_)
    · (try simp only [sd] at c3)
      have hi2 : i < lv.length := by simp at c3; omega
      obtain ⟨v, hv⟩ := getElem?_of_lt hi2
      obtain ⟨w, hw⟩ := getElem?_of_lt (l := lv) (i := i - 1) (by omega)
      refine awp_skip ?_
      refine awp_seq ?_
      refine awp_block ?_
      refine awp_seq ?_
      refine awp_region ?_
      refine al_step rfl rfl (aop_field_ptr fd49 rfl rfl) ?_
      refine al_step rfl rfl (aop_load_box1 (i := 0) ty47 rfl rfl rfl) ?_
      refine al_step rfl rfl (aop_move rfl) ?_
      refine al_step rfl rfl (aop_index_lst el47 rfl rfl (by omega) (encV_get hv) (rfl)) ?_
      refine al_step rfl rfl (aop_load_ref ty101 rfl (rfl)) ?_
      refine al_new rfl rfl (aop_alloc zr101 rfl) fun b4 => ?_
      refine al_step rfl rfl (aop_store_box (i := 0) ty101 rfl rfl rfl rfl rfl rfl) ?_
      refine al_end rfl ?_
      refine awp_seq ?_
      refine awp_seq ?_
      refine awp_meetR [0, 1, 2, 3, 4] 42 someB ?_ ?_
      · refine awp_region ?_
        refine al_step rfl rfl (aop_field_ptr fd101 rfl rfl) ?_
        refine al_step rfl rfl (aop_load_box1 (i := 0) ty3 rfl rfl rfl) ?_
        refine al_step rfl rfl (aop_cmp rfl rfl rfl) ?_
        refine al_step rfl rfl (aop_move rfl) ?_
        refine al_case 28 rfl (fun g4 => ?_) (fun g4 => ?_)
        · (try simp only [sd] at g4)
          refine al_pass rfl rfl rfl rfl rfl ?_
          refine al_pass rfl rfl rfl rfl rfl ?_
          refine al_pass rfl rfl rfl rfl rfl ?_
          refine al_step rfl rfl (aop_pick rfl rfl) ?_
          refine al_step rfl rfl (aop_move rfl) ?_
          refine al_case 33 rfl (fun g5 => ?_) (fun g5 => ?_)
          · (try simp only [sd] at g5)
            refine al_pass rfl rfl rfl rfl rfl ?_
            refine al_pass rfl rfl rfl rfl rfl ?_
            refine al_pass rfl rfl rfl rfl rfl ?_
            refine al_step rfl rfl (aop_pick rfl rfl) ?_
            refine al_step rfl rfl (aop_move rfl) ?_
            refine al_case 38 rfl (fun g6 => ?_) (fun g6 => ?_)
            · (try simp only [sd] at g6)
              refine al_pass rfl rfl rfl rfl rfl ?_
              refine al_pass rfl rfl rfl rfl rfl ?_
              refine al_pass rfl rfl rfl rfl rfl ?_
              refine al_step rfl rfl (aop_pick rfl rfl) ?_
              refine al_end rfl ?_
              exact ⟨rfl, rfl, (by first | exact List.Sublist.refl _ | exact List.sublist_cons_self _ _), ⟨_, rfl⟩, ⟨rfl, rfl, rfl, rfl, rfl, trivial⟩⟩
            · (try simp only [sd] at g6)
              refine al_stepg rfl rfl rfl rfl (aop_field_ptr fd101 rfl rfl) ?_
              refine al_stepg rfl rfl rfl rfl (aop_load_box1 (i := 0) ty3 rfl rfl rfl) ?_
              refine al_stepg rfl rfl rfl rfl (aop_cmp rfl rfl rfl) ?_
              refine al_step rfl rfl (aop_pick rfl rfl) ?_
              refine al_end rfl ?_
              exact ⟨rfl, rfl, (by first | exact List.Sublist.refl _ | exact List.sublist_cons_self _ _), ⟨_, rfl⟩, ⟨rfl, rfl, rfl, rfl, rfl, trivial⟩⟩
          · (try simp only [sd] at g5)
            refine al_stepg rfl rfl rfl rfl (aop_field_ptr fd101 rfl rfl) ?_
            refine al_stepg rfl rfl rfl rfl (aop_load_box1 (i := 0) ty3 rfl rfl rfl) ?_
            refine al_stepg rfl rfl rfl rfl (aop_cmp rfl rfl rfl) ?_
            refine al_step rfl rfl (aop_pick rfl rfl) ?_
            refine al_step rfl rfl (aop_move rfl) ?_
            refine al_case 38 rfl (fun g7 => ?_) (fun g7 => ?_)
            · (try simp only [sd] at g7)
              refine al_pass rfl rfl rfl rfl rfl ?_
              refine al_pass rfl rfl rfl rfl rfl ?_
              refine al_pass rfl rfl rfl rfl rfl ?_
              refine al_step rfl rfl (aop_pick rfl rfl) ?_
              refine al_end rfl ?_
              exact ⟨rfl, rfl, (by first | exact List.Sublist.refl _ | exact List.sublist_cons_self _ _), ⟨_, rfl⟩, ⟨rfl, rfl, rfl, rfl, rfl, trivial⟩⟩
            · (try simp only [sd] at g7)
              refine al_stepg rfl rfl rfl rfl (aop_field_ptr fd101 rfl rfl) ?_
              refine al_stepg rfl rfl rfl rfl (aop_load_box1 (i := 0) ty3 rfl rfl rfl) ?_
              refine al_stepg rfl rfl rfl rfl (aop_cmp rfl rfl rfl) ?_
              refine al_step rfl rfl (aop_pick rfl rfl) ?_
              refine al_end rfl ?_
              exact ⟨rfl, rfl, (by first | exact List.Sublist.refl _ | exact List.sublist_cons_self _ _), ⟨_, rfl⟩, ⟨rfl, rfl, rfl, rfl, rfl, trivial⟩⟩
        · (try simp only [sd] at g4)
          refine al_stepg rfl rfl rfl rfl (aop_field_ptr fd101 rfl rfl) ?_
          refine al_stepg rfl rfl rfl rfl (aop_load_box1 (i := 0) ty3 rfl rfl rfl) ?_
          refine al_stepg rfl rfl rfl rfl (aop_cmp rfl rfl rfl) ?_
          refine al_step rfl rfl (aop_pick rfl rfl) ?_
          refine al_step rfl rfl (aop_move rfl) ?_
          refine al_case 33 rfl (fun g8 => ?_) (fun g8 => ?_)
          · (try simp only [sd] at g8)
            refine al_pass rfl rfl rfl rfl rfl ?_
            refine al_pass rfl rfl rfl rfl rfl ?_
            refine al_pass rfl rfl rfl rfl rfl ?_
            refine al_step rfl rfl (aop_pick rfl rfl) ?_
            refine al_step rfl rfl (aop_move rfl) ?_
            refine al_case 38 rfl (fun g9 => ?_) (fun g9 => ?_)
            · (try simp only [sd] at g9)
              refine al_pass rfl rfl rfl rfl rfl ?_
              refine al_pass rfl rfl rfl rfl rfl ?_
              refine al_pass rfl rfl rfl rfl rfl ?_
              refine al_step rfl rfl (aop_pick rfl rfl) ?_
              refine al_end rfl ?_
              exact ⟨rfl, rfl, (by first | exact List.Sublist.refl _ | exact List.sublist_cons_self _ _), ⟨_, rfl⟩, ⟨rfl, rfl, rfl, rfl, rfl, trivial⟩⟩
            · (try simp only [sd] at g9)
              refine al_stepg rfl rfl rfl rfl (aop_field_ptr fd101 rfl rfl) ?_
              refine al_stepg rfl rfl rfl rfl (aop_load_box1 (i := 0) ty3 rfl rfl rfl) ?_
              refine al_stepg rfl rfl rfl rfl (aop_cmp rfl rfl rfl) ?_
              refine al_step rfl rfl (aop_pick rfl rfl) ?_
              refine al_end rfl ?_
              exact ⟨rfl, rfl, (by first | exact List.Sublist.refl _ | exact List.sublist_cons_self _ _), ⟨_, rfl⟩, ⟨rfl, rfl, rfl, rfl, rfl, trivial⟩⟩
          · (try simp only [sd] at g8)
            refine al_stepg rfl rfl rfl rfl (aop_field_ptr fd101 rfl rfl) ?_
            refine al_stepg rfl rfl rfl rfl (aop_load_box1 (i := 0) ty3 rfl rfl rfl) ?_
            refine al_stepg rfl rfl rfl rfl (aop_cmp rfl rfl rfl) ?_
            refine al_step rfl rfl (aop_pick rfl rfl) ?_
            refine al_step rfl rfl (aop_move rfl) ?_
            refine al_case 38 rfl (fun g10 => ?_) (fun g10 => ?_)
            · (try simp only [sd] at g10)
              refine al_pass rfl rfl rfl rfl rfl ?_
              refine al_pass rfl rfl rfl rfl rfl ?_
              refine al_pass rfl rfl rfl rfl rfl ?_
              refine al_step rfl rfl (aop_pick rfl rfl) ?_
              refine al_end rfl ?_
              exact ⟨rfl, rfl, (by first | exact List.Sublist.refl _ | exact List.sublist_cons_self _ _), ⟨_, rfl⟩, ⟨rfl, rfl, rfl, rfl, rfl, trivial⟩⟩
            · (try simp only [sd] at g10)
              refine al_stepg rfl rfl rfl rfl (aop_field_ptr fd101 rfl rfl) ?_
              refine al_stepg rfl rfl rfl rfl (aop_load_box1 (i := 0) ty3 rfl rfl rfl) ?_
              refine al_stepg rfl rfl rfl rfl (aop_cmp rfl rfl rfl) ?_
              refine al_step rfl rfl (aop_pick rfl rfl) ?_
              refine al_end rfl ?_
              exact ⟨rfl, rfl, (by first | exact List.Sublist.refl _ | exact List.sublist_cons_self _ _), ⟨_, rfl⟩, ⟨rfl, rfl, rfl, rfl, rfl, trivial⟩⟩
      rintro _ ⟨q7, rfl⟩
      refine awp_cond rfl (fun c11 => ?_) (fun c11 => ?_)
      · (try simp only [sd] at c11)
        refine awp_seq ?_
        refine awp_region ?_
        refine al_step rfl rfl (aop_assign rfl) ?_
        refine al_end rfl ?_
        refine awp_ret ?_
        refine ⟨rfl, _, [], res_tmp rfl, List.nil_sublist _, ⟨⟨_, rfl⟩, rfl⟩⟩
      · (try simp only [sd] at c11)
        refine awp_skip ?_
        refine awp_seq ?_
        refine awp_seq ?_
        refine awp_meetR [0, 1, 2, 3, 4] 56 someB ?_ ?_
        · refine awp_dr (fun k => false) mx0 ?_
          refine dr_free rfl rfl (fun _ => aop_move rfl) trivial ?_
          refine dr_free rfl rfl (fun _ => aop_cmp rfl rfl rfl) trivial ?_
          refine dr_free rfl rfl (fun _ => aop_move rfl) trivial ?_
          refine dr_case 45 rfl (fun g12 => ?_) (fun g12 => ?_)
          · (try simp only [sd] at g12)
            refine dr_freeg rfl rfl rfl rfl (fun _ => aop_field_ptr fd49 rfl rfl) trivial ?_
            refine dr_readg (i := 1) rfl rfl rfl rfl rfl (fun H i hi => aop_load_box1 (i := i) ty47 rfl hi rfl) (by repeat' first | exact trivial | refine And.intro ?_ ?_ | exact Or.inl (by kernel_rfl) | (refine Or.inr (And.intro ?_ ?_) <;> repeat (first | exact List.Mem.head _ | apply List.Mem.tail))) trivial ?_
            refine dr_freeg rfl rfl rfl rfl (fun _ => aop_move rfl) trivial ?_
            refine dr_freeg rfl rfl rfl rfl (fun _ => aop_sub rfl rfl (by omega) (by omega)) trivial ?_
            refine dr_freeg rfl rfl rfl rfl (fun _ => aop_index_lst el47 rfl rfl (by simp_all; omega) (by rw [show ((i : Int) - 1).toNat = i - 1 by omega]; exact encV_get hw) (rfl)) trivial ?_
            refine dr_freeg rfl rfl rfl rfl (fun _ => aop_field_ref fd101 rfl rfl) trivial ?_
            refine dr_freeg rfl rfl rfl rfl (fun _ => aop_load_ref1 ty3 rfl) trivial ?_
            refine dr_freeg rfl rfl rfl rfl (fun _ => aop_field_ptr fd101 rfl rfl) trivial ?_
            refine dr_readg (i := 0) rfl rfl rfl rfl rfl (fun H i hi => aop_load_box1 (i := i) ty3 rfl hi rfl) (by repeat' first | exact trivial | refine And.intro ?_ ?_ | exact Or.inl (by kernel_rfl) | (refine Or.inr (And.intro ?_ ?_) <;> repeat (first | exact List.Mem.head _ | apply List.Mem.tail))) trivial ?_
            refine dr_freeg rfl rfl rfl rfl (fun _ => aop_cmp rfl rfl rfl) trivial ?_
            refine dr_free rfl rfl (fun _ => aop_pick rfl rfl) trivial ?_
            refine dr_end rfl (by kernel_rfl) ?_
            exact ⟨rfl, rfl, (by first | exact List.Sublist.refl _ | exact List.sublist_cons_self _ _), ⟨_, rfl⟩, ⟨rfl, rfl, rfl, rfl, rfl, trivial⟩⟩
          · (try simp only [sd] at g12)
            refine dr_skip rfl rfl rfl rfl rfl trivial ?_
            refine dr_skip rfl rfl rfl rfl rfl trivial ?_
            refine dr_skip rfl rfl rfl rfl rfl trivial ?_
            refine dr_skip rfl rfl rfl rfl rfl trivial ?_
            refine dr_skip rfl rfl rfl rfl rfl trivial ?_
            refine dr_skip rfl rfl rfl rfl rfl trivial ?_
            refine dr_skip rfl rfl rfl rfl rfl trivial ?_
            refine dr_skip rfl rfl rfl rfl rfl trivial ?_
            refine dr_skip rfl rfl rfl rfl rfl trivial ?_
            refine dr_skip rfl rfl rfl rfl rfl trivial ?_
            refine dr_free rfl rfl (fun _ => aop_pick rfl rfl) trivial ?_
            refine dr_end rfl (by kernel_rfl) ?_
            exact ⟨rfl, rfl, (by first | exact List.Sublist.refl _ | exact List.sublist_cons_self _ _), ⟨_, rfl⟩, ⟨rfl, rfl, rfl, rfl, rfl, trivial⟩⟩
        rintro _ ⟨q9, rfl⟩
        refine awp_cond rfl (fun c13 => ?_) (fun c13 => ?_)
        · (try simp only [sd] at c13)
          refine awp_seq ?_
          refine awp_region ?_
          refine al_step rfl rfl (aop_assign rfl) ?_
          refine al_end rfl ?_
          refine awp_ret ?_
          refine ⟨rfl, _, [], res_tmp rfl, List.nil_sublist _, ⟨⟨_, rfl⟩, rfl⟩⟩
        · (try simp only [sd] at c13)
          refine awp_skip ?_
          refine awp_seq ?_
          refine awp_meetR [0, 1, 2, 3, 4] 66 someB ?_ ?_
          · refine awp_region ?_
            refine al_step rfl rfl (aop_field_ptr fd49 rfl rfl) ?_
            refine al_step rfl rfl (aop_load_box1 (i := 1) ty3 rfl rfl rfl) ?_
            refine al_step rfl rfl (aop_cmp rfl rfl rfl) ?_
            refine al_step rfl rfl (aop_move rfl) ?_
            refine al_case 60 rfl (fun g14 => ?_) (fun g14 => ?_)
            · (try simp only [sd] at g14)
              refine al_stepg rfl rfl rfl rfl (aop_field_ptr fd101 rfl rfl) ?_
              refine al_stepg rfl rfl rfl rfl (aop_load_box1 (i := 0) ty3 rfl rfl rfl) ?_
              refine al_stepg rfl rfl rfl rfl (aop_field_ptr fd49 rfl rfl) ?_
              refine al_stepg rfl rfl rfl rfl (aop_load_box1 (i := 1) ty3 rfl rfl rfl) ?_
              refine al_stepg rfl rfl rfl rfl (aop_cmp rfl rfl rfl) ?_
              refine al_step rfl rfl (aop_pick rfl rfl) ?_
              refine al_end rfl ?_
              exact ⟨rfl, rfl, (by first | exact List.Sublist.refl _ | exact List.sublist_cons_self _ _), ⟨_, rfl⟩, ⟨rfl, rfl, rfl, rfl, rfl, trivial⟩⟩
            · (try simp only [sd] at g14)
              refine al_pass rfl rfl rfl rfl rfl ?_
              refine al_pass rfl rfl rfl rfl rfl ?_
              refine al_pass rfl rfl rfl rfl rfl ?_
              refine al_pass rfl rfl rfl rfl rfl ?_
              refine al_pass rfl rfl rfl rfl rfl ?_
              refine al_step rfl rfl (aop_pick rfl rfl) ?_
              refine al_end rfl ?_
              exact ⟨rfl, rfl, (by first | exact List.Sublist.refl _ | exact List.sublist_cons_self _ _), ⟨_, rfl⟩, ⟨rfl, rfl, rfl, rfl, rfl, trivial⟩⟩
          rintro _ ⟨q11, rfl⟩
          refine awp_cond rfl (fun c15 => ?_) (fun c15 => ?_)
          · (try simp only [sd] at c15)
            refine awp_seq ?_
            refine awp_region ?_
            refine al_step rfl rfl (aop_assign rfl) ?_
            refine al_end rfl ?_
            refine awp_ret ?_
            refine ⟨rfl, _, [], res_tmp rfl, List.nil_sublist _, ⟨⟨_, rfl⟩, rfl⟩⟩
          · (try simp only [sd] at c15)
            refine awp_skip ?_
            refine awp_region ?_
            refine al_step rfl rfl (aop_move rfl) ?_
            refine al_step rfl rfl (aop_add rfl rfl (by omega) (by omega)) ?_
            refine al_step rfl rfl (aop_assign rfl) ?_
            refine al_end rfl ?_
            exact ⟨by omega, trivial, le_mk ⟨rfl, rfl, trivial⟩ (by first | exact List.Sublist.refl _ | exact .cons _ (.refl _) | exact .cons _ (.cons _ (.refl _)) | exact .cons _ (.cons _ (.cons _ (.refl _))) | exact .cons _ (.cons _ (.cons _ (.cons _ (.refl _)))))⟩
    · (try simp only [sd] at c3)
      refine awp_exit ?_
      refine awp_seq ?_
      refine awp_region ?_
      refine al_step rfl rfl (aop_assign rfl) ?_
      refine al_end rfl ?_
      refine awp_ret ?_
      refine ⟨rfl, _, [], res_tmp rfl, List.nil_sublist _, ⟨⟨_, rfl⟩, rfl⟩⟩

theorem level_c : ∀ (l : Lvl) (a b : Int), NdL l → FunR Tryz.prog 43 [LV l, .p (I a), .p (I b)] someI := by
  intro l pa pb hn
  have hn0 := hn
  obtain ⟨lc, lv⟩ := l
  have hb := hn.vars
  simp only [big] at hb
  refine acalls_of_awp Tryz.func43 rfl en43 (n := 61) rfl rfl ?_
  refine awp_seq ?_
  refine awp_region ?_
  refine al_new rfl rfl (aop_box rfl) fun b3 => ?_
  refine al_step rfl rfl (aop_assign rfl) ?_
  refine al_end rfl ?_
  refine awp_seq ?_
  refine awp_seq ?_
  refine awp_region ?_
  refine al_step rfl rfl (aop_load_box (i := 0) ty49 rfl rfl rfl) ?_
  refine al_rel rfl rfl (aop_funR rfl rfl (valid_c _ hn0) (.inl rfl)) ?_
  rintro _ ⟨q, rfl⟩
  refine al_step rfl rfl (aop_not rfl) ?_
  refine al_end rfl ?_
  refine awp_cond rfl (fun c1 => ?_) (fun c1 => ?_)
  · (try simp only [sd] at c1)
    refine awp_seq ?_
    refine awp_region ?_
    refine al_step rfl rfl (aop_assign rfl) ?_
    refine al_end rfl ?_
    refine awp_ret ?_
    refine ⟨rfl, _, [], res_tmp rfl, List.nil_sublist _, ⟨⟨_, rfl⟩, rfl⟩⟩
  · (try simp only [sd] at c1)
    refine awp_skip ?_
    refine awp_seq ?_
    refine awp_seq ?_
    refine awp_region ?_
    refine al_step rfl rfl (aop_assign rfl) ?_
    refine al_end rfl ?_
    refine awp_block ?_
    refine awp_forC (lv.length) (fun _ => True) (fun i => ⟨61, mk [(1, .p (I pa)), (2, .p (I pb)), (3, .ptr b3 0), (7, .p (I i))], [.box b3 ((encL ⟨lc, lv⟩).map .p)], []⟩) (0) (by omega) (trivial) ?_ ?_
    · exact le_mk ⟨rfl, rfl, rfl, rfl, trivial⟩ (by first | exact List.Sublist.refl _ | exact .cons _ (.refl _) | exact .cons _ (.cons _ (.refl _)) | exact .cons _ (.cons _ (.cons _ (.refl _))) | exact .cons _ (.cons _ (.cons _ (.cons _ (.refl _)))))
    intro i hi hC
    refine awp_seq ?_
    refine awp_seq ?_
    refine awp_region ?_
    refine al_step rfl rfl (aop_move rfl) ?_
    refine al_step rfl rfl (aop_field_ptr fd49 rfl rfl) ?_
    refine al_step rfl rfl (aop_load_box1 (i := 0) ty47 rfl rfl rfl) ?_
    refine al_step rfl rfl (aop_len el47 rfl) ?_
    refine al_step rfl rfl (aop_cmp rfl rfl rfl) ?_
    refine al_end rfl ?_
    refine awp_cond rfl (fun c2 => ?_) (fun c2 => ?_)
    · (try simp only [sd] at c2)
      have hi2 : i < lv.length := by simp at c2; omega
      obtain ⟨v, hv⟩ := getElem?_of_lt hi2
      refine awp_skip ?_
      refine awp_seq ?_
      refine awp_block ?_
      refine awp_seq ?_
      refine awp_meetR [0, 1, 2, 3, 6, 7, 8] 35 someB ?_ ?_
      · refine awp_region ?_
        refine al_step rfl rfl (aop_field_ptr fd49 rfl rfl) ?_
        refine al_step rfl rfl (aop_load_box1 (i := 0) ty47 rfl rfl rfl) ?_
        refine al_step rfl rfl (aop_move rfl) ?_
        refine al_step rfl rfl (aop_index_lst el47 rfl rfl (by omega) (encV_get hv) (rfl)) ?_
        refine al_step rfl rfl (aop_field_ref fd101 rfl rfl) ?_
        refine al_step rfl rfl (aop_load_ref1 ty3 rfl) ?_
        refine al_step rfl rfl (aop_cmp rfl rfl rfl) ?_
        refine al_step rfl rfl (aop_move rfl) ?_
        refine al_case 26 rfl (fun g3 => ?_) (fun g3 => ?_)
        · (try simp only [sd] at g3)
          refine al_stepg rfl rfl rfl rfl (aop_field_ptr fd49 rfl rfl) ?_
          refine al_stepg rfl rfl rfl rfl (aop_load_box1 (i := 0) ty47 rfl rfl rfl) ?_
          refine al_stepg rfl rfl rfl rfl (aop_move rfl) ?_
          refine al_stepg rfl rfl rfl rfl (aop_index_lst el47 rfl rfl (by omega) (encV_get hv) (rfl)) ?_
          refine al_stepg rfl rfl rfl rfl (aop_field_ref fd101 rfl rfl) ?_
          refine al_stepg rfl rfl rfl rfl (aop_load_ref1 ty3 rfl) ?_
          refine al_stepg rfl rfl rfl rfl (aop_move rfl) ?_
          refine al_stepg rfl rfl rfl rfl (aop_cmp rfl rfl rfl) ?_
          refine al_step rfl rfl (aop_pick rfl rfl) ?_
          refine al_end rfl ?_
          exact ⟨rfl, rfl, (by first | exact List.Sublist.refl _ | exact List.sublist_cons_self _ _), ⟨_, rfl⟩, ⟨rfl, rfl, rfl, rfl, rfl, rfl, rfl, trivial⟩⟩
        · (try simp only [sd] at g3)
          refine al_pass rfl rfl rfl rfl rfl ?_
          refine al_pass rfl rfl rfl rfl rfl ?_
          refine al_pass rfl rfl rfl rfl rfl ?_
          refine al_pass rfl rfl rfl rfl rfl ?_
          refine al_pass rfl rfl rfl rfl rfl ?_
          refine al_pass rfl rfl rfl rfl rfl ?_
          refine al_pass rfl rfl rfl rfl rfl ?_
          refine al_pass rfl rfl rfl rfl rfl ?_
          refine al_step rfl rfl (aop_pick rfl rfl) ?_
          refine al_end rfl ?_
          exact ⟨rfl, rfl, (by first | exact List.Sublist.refl _ | exact List.sublist_cons_self _ _), ⟨_, rfl⟩, ⟨rfl, rfl, rfl, rfl, rfl, rfl, rfl, trivial⟩⟩
      rintro _ ⟨q6, rfl⟩
      refine awp_cond rfl (fun c4 => ?_) (fun c4 => ?_)
      · (try simp only [sd] at c4)
        refine awp_seq ?_
        refine awp_region ?_
        refine al_step rfl rfl (aop_assign rfl) ?_
        refine al_end rfl ?_
        refine awp_ret ?_
        refine ⟨rfl, _, [], res_tmp rfl, List.nil_sublist _, ⟨⟨_, rfl⟩, rfl⟩⟩
      · (try simp only [sd] at c4)
        refine awp_skip ?_
        refine awp_region ?_
        refine al_step rfl rfl (aop_move rfl) ?_
        refine al_step rfl rfl (aop_add rfl rfl (by omega) (by omega)) ?_
        refine al_step rfl rfl (aop_assign rfl) ?_
        refine al_end rfl ?_
        exact ⟨by omega, trivial, le_mk ⟨rfl, rfl, rfl, rfl, trivial⟩ (by first | exact List.Sublist.refl _ | exact .cons _ (.refl _) | exact .cons _ (.cons _ (.refl _)) | exact .cons _ (.cons _ (.cons _ (.refl _))) | exact .cons _ (.cons _ (.cons _ (.cons _ (.refl _)))))⟩
    · (try simp only [sd] at c2)
      refine awp_exit ?_
      refine awp_seq ?_
      refine awp_seq ?_
      refine awp_region ?_
      refine al_step rfl rfl (aop_assign rfl) ?_
      refine al_end rfl ?_
      refine awp_block ?_
      refine awp_forC (lv.length) (fun _ => True) (fun i => ⟨61, mk [(1, .p (I pa)), (2, .p (I pb)), (3, .ptr b3 0), (8, .p (I i))], [.box b3 ((encL ⟨lc, lv⟩).map .p)], []⟩) (0) (by omega) (trivial) ?_ ?_
      · exact le_mk ⟨rfl, rfl, rfl, rfl, trivial⟩ (by first | exact List.Sublist.refl _ | exact .cons _ (.refl _) | exact .cons _ (.cons _ (.refl _)) | exact .cons _ (.cons _ (.cons _ (.refl _))) | exact .cons _ (.cons _ (.cons _ (.cons _ (.refl _)))))
      intro i hi hC
      refine awp_seq ?_
      refine awp_seq ?_
      refine awp_region ?_
      refine al_step rfl rfl (aop_move rfl) ?_
      refine al_step rfl rfl (aop_field_ptr fd49 rfl rfl) ?_
      refine al_step rfl rfl (aop_load_box1 (i := 0) ty47 rfl rfl rfl) ?_
      refine al_step rfl rfl (aop_len el47 rfl) ?_
      refine al_step rfl rfl (aop_cmp rfl rfl rfl) ?_
      refine al_end rfl ?_
      refine awp_cond rfl (fun c5 => ?_) (fun c5 => ?_)
      · (try simp only [sd] at c5)
        have hi2 : i < lv.length := by simp at c5; omega
        obtain ⟨v, hv⟩ := getElem?_of_lt hi2
        refine awp_skip ?_
        refine awp_seq ?_
        refine awp_block ?_
        refine awp_seq ?_
        refine awp_meetR [0, 1, 2, 3, 6, 7, 8] 60 someB ?_ ?_
        · refine awp_region ?_
          refine al_step rfl rfl (aop_field_ptr fd49 rfl rfl) ?_
          refine al_step rfl rfl (aop_load_box1 (i := 0) ty47 rfl rfl rfl) ?_
          refine al_step rfl rfl (aop_move rfl) ?_
          refine al_step rfl rfl (aop_index_lst el47 rfl rfl (by omega) (encV_get hv) (rfl)) ?_
          refine al_step rfl rfl (aop_field_ref fd101 rfl rfl) ?_
          refine al_step rfl rfl (aop_load_ref1 ty3 rfl) ?_
          refine al_step rfl rfl (aop_cmp rfl rfl rfl) ?_
          refine al_step rfl rfl (aop_move rfl) ?_
          refine al_case 50 rfl (fun g6 => ?_) (fun g6 => ?_)
          · (try simp only [sd] at g6)
            refine al_stepg rfl rfl rfl rfl (aop_field_ptr fd49 rfl rfl) ?_
            refine al_stepg rfl rfl rfl rfl (aop_load_box1 (i := 0) ty47 rfl rfl rfl) ?_
            refine al_stepg rfl rfl rfl rfl (aop_move rfl) ?_
            refine al_stepg rfl rfl rfl rfl (aop_index_lst el47 rfl rfl (by omega) (encV_get hv) (rfl)) ?_
            refine al_stepg rfl rfl rfl rfl (aop_field_ref fd101 rfl rfl) ?_
            refine al_stepg rfl rfl rfl rfl (aop_load_ref1 ty3 rfl) ?_
            refine al_stepg rfl rfl rfl rfl (aop_subw rfl rfl) ?_
            refine al_stepg rfl rfl rfl rfl (aop_move rfl) ?_
            refine al_stepg rfl rfl rfl rfl (aop_cmp rfl rfl rfl) ?_
            refine al_step rfl rfl (aop_pick rfl rfl) ?_
            refine al_end rfl ?_
            exact ⟨rfl, rfl, (by first | exact List.Sublist.refl _ | exact List.sublist_cons_self _ _), ⟨_, rfl⟩, ⟨rfl, rfl, rfl, rfl, rfl, rfl, rfl, trivial⟩⟩
          · (try simp only [sd] at g6)
            refine al_pass rfl rfl rfl rfl rfl ?_
            refine al_pass rfl rfl rfl rfl rfl ?_
            refine al_pass rfl rfl rfl rfl rfl ?_
            refine al_pass rfl rfl rfl rfl rfl ?_
            refine al_pass rfl rfl rfl rfl rfl ?_
            refine al_pass rfl rfl rfl rfl rfl ?_
            refine al_pass rfl rfl rfl rfl rfl ?_
            refine al_pass rfl rfl rfl rfl rfl ?_
            refine al_pass rfl rfl rfl rfl rfl ?_
            refine al_step rfl rfl (aop_pick rfl rfl) ?_
            refine al_end rfl ?_
            exact ⟨rfl, rfl, (by first | exact List.Sublist.refl _ | exact List.sublist_cons_self _ _), ⟨_, rfl⟩, ⟨rfl, rfl, rfl, rfl, rfl, rfl, rfl, trivial⟩⟩
        rintro _ ⟨q11, rfl⟩
        refine awp_cond rfl (fun c7 => ?_) (fun c7 => ?_)
        · (try simp only [sd] at c7)
          refine awp_seq ?_
          refine awp_region ?_
          refine al_step rfl rfl (aop_assign rfl) ?_
          refine al_end rfl ?_
          refine awp_ret ?_
          refine ⟨rfl, _, [], res_tmp rfl, List.nil_sublist _, ⟨⟨_, rfl⟩, rfl⟩⟩
        · (try simp only [sd] at c7)
          refine awp_skip ?_
          refine awp_region ?_
          refine al_step rfl rfl (aop_move rfl) ?_
          refine al_step rfl rfl (aop_add rfl rfl (by omega) (by omega)) ?_
          refine al_step rfl rfl (aop_assign rfl) ?_
          refine al_end rfl ?_
          exact ⟨by omega, trivial, le_mk ⟨rfl, rfl, rfl, rfl, trivial⟩ (by first | exact List.Sublist.refl _ | exact .cons _ (.refl _) | exact .cons _ (.cons _ (.refl _)) | exact .cons _ (.cons _ (.cons _ (.refl _))) | exact .cons _ (.cons _ (.cons _ (.cons _ (.refl _)))))⟩
      · (try simp only [sd] at c5)
        refine awp_exit ?_
        refine awp_seq ?_
        refine awp_region ?_
        refine al_step rfl rfl (aop_assign rfl) ?_
        refine al_end rfl ?_
        refine awp_ret ?_
        refine ⟨rfl, _, [], res_tmp rfl, List.nil_sublist _, ⟨⟨_, rfl⟩, rfl⟩⟩

theorem form_c : ∀ (t : Tm), FunR Tryz.prog 41 [TV t] (fun v => ∃ b : Bool, v = .p (.bool b) ∧ (b = true → formOk t)) := by
  intro t
  obtain ⟨kd, ix, nm, ls, ks⟩ := t
  refine acalls_of_awp Tryz.func41 rfl en41 (n := 57) rfl rfl ?_
  refine awp_seq ?_
  refine awp_region ?_
  refine al_new rfl rfl (aop_box rfl) fun b1 => ?_
  refine al_step rfl rfl (aop_assign rfl) ?_
  refine al_end rfl ?_
  refine awp_seq ?_
  refine awp_seq ?_
  refine awp_meetR [0, 1, 2] 19 (fun y => y = .p (.bool (decide (kd < 0) || decide (kd ≥ 13) || ((encTs ks).length : Int) != arity kd))) ?_ ?_
  · refine awp_dr (fun k => false) mx0 ?_
    refine dr_free rfl rfl (fun _ => aop_field_ptr fd26 rfl rfl) trivial ?_
    refine dr_read (j := 0) rfl rfl rfl (fun H i hi => aop_load_box1 (i := i) ty3 rfl hi rfl) (by repeat' first | exact trivial | refine And.intro ?_ ?_ | exact Or.inl (by kernel_rfl) | (refine Or.inr (And.intro ?_ ?_) <;> repeat (first | exact List.Mem.head _ | apply List.Mem.tail))) trivial ?_
    refine dr_free rfl rfl (fun _ => aop_cmp rfl rfl rfl) trivial ?_
    refine dr_free rfl rfl (fun _ => aop_move rfl) trivial ?_
    refine dr_case 6 rfl (fun g1 => ?_) (fun g1 => ?_)
    · (try simp only [sd] at g1)
      refine dr_skip rfl rfl rfl rfl rfl trivial ?_
      refine dr_skip rfl rfl rfl rfl rfl trivial ?_
      refine dr_skip rfl rfl rfl rfl rfl trivial ?_
      refine dr_free rfl rfl (fun _ => aop_pick rfl rfl) trivial ?_
      refine dr_free rfl rfl (fun _ => aop_move rfl) trivial ?_
      refine dr_case 11 rfl (fun g2 => ?_) (fun g2 => ?_)
      · (try simp only [sd] at g2)
        refine dr_skip rfl rfl rfl rfl rfl trivial ?_
        refine dr_skip rfl rfl rfl rfl rfl trivial ?_
        refine dr_skip rfl rfl rfl rfl rfl trivial ?_
        refine dr_skip rfl rfl rfl rfl rfl trivial ?_
        refine dr_skip rfl rfl rfl rfl rfl trivial ?_
        refine dr_skip rfl rfl rfl rfl rfl trivial ?_
        refine dr_skip rfl rfl rfl rfl rfl trivial ?_
        refine dr_free rfl rfl (fun _ => aop_pick rfl rfl) trivial ?_
        refine dr_end rfl (by kernel_rfl) ?_
        exact ⟨rfl, rfl, (by first | exact List.Sublist.refl _ | exact List.sublist_cons_self _ _), pB (by simp_all <;> (try (intros; omega))), ⟨rfl, rfl, rfl, trivial⟩⟩
      · (try simp only [sd] at g2)
        refine dr_freeg rfl rfl rfl rfl (fun _ => aop_field_ptr fd26 rfl rfl) trivial ?_
        refine dr_readg (i := 0) rfl rfl rfl rfl rfl (fun H i hi => aop_load_box1 (i := i) ty24 rfl hi rfl) (by repeat' first | exact trivial | refine And.intro ?_ ?_ | exact Or.inl (by kernel_rfl) | (refine Or.inr (And.intro ?_ ?_) <;> repeat (first | exact List.Mem.head _ | apply List.Mem.tail))) trivial ?_
        refine dr_freeg rfl rfl rfl rfl (fun _ => aop_len el24 rfl) trivial ?_
        refine dr_freeg rfl rfl rfl rfl (fun _ => aop_field_ptr fd26 rfl rfl) trivial ?_
        refine dr_readg (i := 0) rfl rfl rfl rfl rfl (fun H i hi => aop_load_box1 (i := i) ty3 rfl hi rfl) (by repeat' first | exact trivial | refine And.intro ?_ ?_ | exact Or.inl (by kernel_rfl) | (refine Or.inr (And.intro ?_ ?_) <;> repeat (first | exact List.Mem.head _ | apply List.Mem.tail))) trivial ?_
        refine dr_freeg rfl rfl rfl rfl (fun _ => aop_fun rfl rfl (kids_c kd) rfl) trivial ?_
        refine dr_freeg rfl rfl rfl rfl (fun _ => aop_cmp rfl rfl rfl) trivial ?_
        refine dr_free rfl rfl (fun _ => aop_pick rfl rfl) trivial ?_
        refine dr_end rfl (by kernel_rfl) ?_
        exact ⟨rfl, rfl, (by first | exact List.Sublist.refl _ | exact List.sublist_cons_self _ _), pB (by simp_all <;> (try (intros; omega))), ⟨rfl, rfl, rfl, trivial⟩⟩
    · (try simp only [sd] at g1)
      refine dr_freeg rfl rfl rfl rfl (fun _ => aop_field_ptr fd26 rfl rfl) trivial ?_
      refine dr_readg (i := 0) rfl rfl rfl rfl rfl (fun H i hi => aop_load_box1 (i := i) ty3 rfl hi rfl) (by repeat' first | exact trivial | refine And.intro ?_ ?_ | exact Or.inl (by kernel_rfl) | (refine Or.inr (And.intro ?_ ?_) <;> repeat (first | exact List.Mem.head _ | apply List.Mem.tail))) trivial ?_
      refine dr_freeg rfl rfl rfl rfl (fun _ => aop_cmp rfl rfl rfl) trivial ?_
      refine dr_free rfl rfl (fun _ => aop_pick rfl rfl) trivial ?_
      refine dr_free rfl rfl (fun _ => aop_move rfl) trivial ?_
      refine dr_case 11 rfl (fun g3 => ?_) (fun g3 => ?_)
      · (try simp only [sd] at g3)
        refine dr_skip rfl rfl rfl rfl rfl trivial ?_
        refine dr_skip rfl rfl rfl rfl rfl trivial ?_
        refine dr_skip rfl rfl rfl rfl rfl trivial ?_
        refine dr_skip rfl rfl rfl rfl rfl trivial ?_
        refine dr_skip rfl rfl rfl rfl rfl trivial ?_
        refine dr_skip rfl rfl rfl rfl rfl trivial ?_
        refine dr_skip rfl rfl rfl rfl rfl trivial ?_
        refine dr_free rfl rfl (fun _ => aop_pick rfl rfl) trivial ?_
        refine dr_end rfl (by kernel_rfl) ?_
        exact ⟨rfl, rfl, (by first | exact List.Sublist.refl _ | exact List.sublist_cons_self _ _), pB (by simp_all <;> (try (intros; omega))), ⟨rfl, rfl, rfl, trivial⟩⟩
      · (try simp only [sd] at g3)
        refine dr_freeg rfl rfl rfl rfl (fun _ => aop_field_ptr fd26 rfl rfl) trivial ?_
        refine dr_readg (i := 0) rfl rfl rfl rfl rfl (fun H i hi => aop_load_box1 (i := i) ty24 rfl hi rfl) (by repeat' first | exact trivial | refine And.intro ?_ ?_ | exact Or.inl (by kernel_rfl) | (refine Or.inr (And.intro ?_ ?_) <;> repeat (first | exact List.Mem.head _ | apply List.Mem.tail))) trivial ?_
        refine dr_freeg rfl rfl rfl rfl (fun _ => aop_len el24 rfl) trivial ?_
        refine dr_freeg rfl rfl rfl rfl (fun _ => aop_field_ptr fd26 rfl rfl) trivial ?_
        refine dr_readg (i := 0) rfl rfl rfl rfl rfl (fun H i hi => aop_load_box1 (i := i) ty3 rfl hi rfl) (by repeat' first | exact trivial | refine And.intro ?_ ?_ | exact Or.inl (by kernel_rfl) | (refine Or.inr (And.intro ?_ ?_) <;> repeat (first | exact List.Mem.head _ | apply List.Mem.tail))) trivial ?_
        refine dr_freeg rfl rfl rfl rfl (fun _ => aop_fun rfl rfl (kids_c kd) rfl) trivial ?_
        refine dr_freeg rfl rfl rfl rfl (fun _ => aop_cmp rfl rfl rfl) trivial ?_
        refine dr_free rfl rfl (fun _ => aop_pick rfl rfl) trivial ?_
        refine dr_end rfl (by kernel_rfl) ?_
        exact ⟨rfl, rfl, (by first | exact List.Sublist.refl _ | exact List.sublist_cons_self _ _), pB (by simp_all <;> (try (intros; omega))), ⟨rfl, rfl, rfl, trivial⟩⟩
  rintro _ rfl
  refine awp_cond rfl (fun c4 => ?_) (fun c4 => ?_)
  · (try simp only [sd] at c4)
    refine awp_seq ?_
    refine awp_region ?_
    refine al_step rfl rfl (aop_assign rfl) ?_
    refine al_end rfl ?_
    refine awp_ret ?_
    refine ⟨rfl, _, [], res_tmp rfl, List.nil_sublist _, ⟨⟨_, rfl, ?_⟩, rfl⟩⟩
    first | exact (fun _ => hf) | exact (fun h => by cases h)
  · (try simp only [sd] at c4)
    have hf : formOk (.mk kd ix nm ls ks) := by simp [encTs_len] at c4; exact ⟨c4.1.1, c4.1.2, c4.2⟩
    refine awp_skip ?_
    refine awp_seq ?_
    refine awp_seq ?_
    refine awp_meetR [0, 1, 2] 32 someB ?_ ?_
    · refine awp_region ?_
      refine al_step rfl rfl (aop_field_ptr fd26 rfl rfl) ?_
      refine al_step rfl rfl (aop_load_box1 (i := 0) ty3 rfl rfl rfl) ?_
      refine al_step rfl rfl (aop_cmp rfl rfl rfl) ?_
      refine al_step rfl rfl (aop_move rfl) ?_
      refine al_case 23 rfl (fun g5 => ?_) (fun g5 => ?_)
      · (try simp only [sd] at g5)
        refine al_stepg rfl rfl rfl rfl (aop_field_ptr fd26 rfl rfl) ?_
        refine al_stepg rfl rfl rfl rfl (aop_load_box1 (i := 0) ty3 rfl rfl rfl) ?_
        refine al_stepg rfl rfl rfl rfl (aop_cmp rfl rfl rfl) ?_
        refine al_step rfl rfl (aop_pick rfl rfl) ?_
        refine al_step rfl rfl (aop_move rfl) ?_
        refine al_case 28 rfl (fun g6 => ?_) (fun g6 => ?_)
        · (try simp only [sd] at g6)
          refine al_stepg rfl rfl rfl rfl (aop_field_ptr fd26 rfl rfl) ?_
          refine al_stepg rfl rfl rfl rfl (aop_load_box1 (i := 0) ty3 rfl rfl rfl) ?_
          refine al_stepg rfl rfl rfl rfl (aop_cmp rfl rfl rfl) ?_
          refine al_step rfl rfl (aop_pick rfl rfl) ?_
          refine al_end rfl ?_
          exact ⟨rfl, rfl, (by first | exact List.Sublist.refl _ | exact List.sublist_cons_self _ _), ⟨_, rfl⟩, ⟨rfl, rfl, rfl, trivial⟩⟩
        · (try simp only [sd] at g6)
          refine al_pass rfl rfl rfl rfl rfl ?_
          refine al_pass rfl rfl rfl rfl rfl ?_
          refine al_pass rfl rfl rfl rfl rfl ?_
          refine al_step rfl rfl (aop_pick rfl rfl) ?_
          refine al_end rfl ?_
          exact ⟨rfl, rfl, (by first | exact List.Sublist.refl _ | exact List.sublist_cons_self _ _), ⟨_, rfl⟩, ⟨rfl, rfl, rfl, trivial⟩⟩
      · (try simp only [sd] at g5)
        refine al_pass rfl rfl rfl rfl rfl ?_
        refine al_pass rfl rfl rfl rfl rfl ?_
        refine al_pass rfl rfl rfl rfl rfl ?_
        refine al_step rfl rfl (aop_pick rfl rfl) ?_
        refine al_step rfl rfl (aop_move rfl) ?_
        refine al_case 28 rfl (fun g7 => ?_) (fun g7 => ?_)
        · (try simp only [sd] at g7)
          refine al_stepg rfl rfl rfl rfl (aop_field_ptr fd26 rfl rfl) ?_
          refine al_stepg rfl rfl rfl rfl (aop_load_box1 (i := 0) ty3 rfl rfl rfl) ?_
          refine al_stepg rfl rfl rfl rfl (aop_cmp rfl rfl rfl) ?_
          refine al_step rfl rfl (aop_pick rfl rfl) ?_
          refine al_end rfl ?_
          exact ⟨rfl, rfl, (by first | exact List.Sublist.refl _ | exact List.sublist_cons_self _ _), ⟨_, rfl⟩, ⟨rfl, rfl, rfl, trivial⟩⟩
        · (try simp only [sd] at g7)
          refine al_pass rfl rfl rfl rfl rfl ?_
          refine al_pass rfl rfl rfl rfl rfl ?_
          refine al_pass rfl rfl rfl rfl rfl ?_
          refine al_step rfl rfl (aop_pick rfl rfl) ?_
          refine al_end rfl ?_
          exact ⟨rfl, rfl, (by first | exact List.Sublist.refl _ | exact List.sublist_cons_self _ _), ⟨_, rfl⟩, ⟨rfl, rfl, rfl, trivial⟩⟩
    rintro _ ⟨q3, rfl⟩
    refine awp_cond rfl (fun c8 => ?_) (fun c8 => ?_)
    · (try simp only [sd] at c8)
      refine awp_seq ?_
      refine awp_region ?_
      refine al_step rfl rfl (aop_assign rfl) ?_
      refine al_end rfl ?_
      refine awp_ret ?_
      refine ⟨rfl, _, [], res_tmp rfl, List.nil_sublist _, ⟨⟨_, rfl, ?_⟩, rfl⟩⟩
      first | exact (fun _ => hf) | exact (fun h => by cases h)
    · (try simp only [sd] at c8)
      refine awp_skip ?_
      refine awp_seq ?_
      refine awp_seq ?_
      refine awp_meetR [0, 1, 2] 40 someB ?_ ?_
      · refine awp_region ?_
        refine al_step rfl rfl (aop_field_ptr fd26 rfl rfl) ?_
        refine al_step rfl rfl (aop_load_box1 (i := 0) ty9 rfl rfl rfl) ?_
        refine al_step rfl rfl (aop_strne rfl rfl) ?_
        refine al_step rfl rfl (aop_move rfl) ?_
        refine al_case 36 rfl (fun g9 => ?_) (fun g9 => ?_)
        · (try simp only [sd] at g9)
          refine al_stepg rfl rfl rfl rfl (aop_field_ptr fd26 rfl rfl) ?_
          refine al_stepg rfl rfl rfl rfl (aop_load_box1 (i := 0) ty3 rfl rfl rfl) ?_
          refine al_stepg rfl rfl rfl rfl (aop_cmp rfl rfl rfl) ?_
          refine al_step rfl rfl (aop_pick rfl rfl) ?_
          refine al_end rfl ?_
          exact ⟨rfl, rfl, (by first | exact List.Sublist.refl _ | exact List.sublist_cons_self _ _), ⟨_, rfl⟩, ⟨rfl, rfl, rfl, trivial⟩⟩
        · (try simp only [sd] at g9)
          refine al_pass rfl rfl rfl rfl rfl ?_
          refine al_pass rfl rfl rfl rfl rfl ?_
          refine al_pass rfl rfl rfl rfl rfl ?_
          refine al_step rfl rfl (aop_pick rfl rfl) ?_
          refine al_end rfl ?_
          exact ⟨rfl, rfl, (by first | exact List.Sublist.refl _ | exact List.sublist_cons_self _ _), ⟨_, rfl⟩, ⟨rfl, rfl, rfl, trivial⟩⟩
      rintro _ ⟨q5, rfl⟩
      refine awp_cond rfl (fun c10 => ?_) (fun c10 => ?_)
      · (try simp only [sd] at c10)
        refine awp_seq ?_
        refine awp_region ?_
        refine al_step rfl rfl (aop_assign rfl) ?_
        refine al_end rfl ?_
        refine awp_ret ?_
        refine ⟨rfl, _, [], res_tmp rfl, List.nil_sublist _, ⟨⟨_, rfl, ?_⟩, rfl⟩⟩
        first | exact (fun _ => hf) | exact (fun h => by cases h)
      · (try simp only [sd] at c10)
        refine awp_skip ?_
        refine awp_seq ?_
        refine awp_seq ?_
        refine awp_region ?_
        refine al_step rfl rfl (aop_field_ptr fd26 rfl rfl) ?_
        refine al_step rfl rfl (aop_load_box1 (i := 0) ty3 rfl rfl rfl) ?_
        refine al_step rfl rfl (aop_cmp rfl rfl rfl) ?_
        refine al_end rfl ?_
        refine awp_cond rfl (fun c11 => ?_) (fun c11 => ?_)
        · (try simp only [sd] at c11)
          refine awp_seq ?_
          refine awp_region ?_
          refine al_step rfl rfl (aop_field_ptr fd26 rfl rfl) ?_
          refine al_step rfl rfl (aop_load_box1 (i := 0) ty23 rfl rfl rfl) ?_
          refine al_step rfl rfl (aop_len el23 rfl) ?_
          refine al_step rfl rfl (aop_cmp rfl rfl rfl) ?_
          refine al_step rfl rfl (aop_assign rfl) ?_
          refine al_end rfl ?_
          refine awp_ret ?_
          refine ⟨rfl, _, [], res_tmp rfl, List.nil_sublist _, ⟨⟨_, rfl, ?_⟩, rfl⟩⟩
          first | exact (fun _ => hf) | exact (fun h => by cases h)
        · (try simp only [sd] at c11)
          refine awp_skip ?_
          refine awp_seq ?_
          refine awp_meetR [0, 1] 2 someB ?_ ?_
          · refine awp_region ?_
            refine al_step rfl rfl (aop_field_ptr fd26 rfl rfl) ?_
            refine al_step rfl rfl (aop_load_box1 (i := 0) ty23 rfl rfl rfl) ?_
            refine al_step rfl rfl (aop_len el23 rfl) ?_
            refine al_step rfl rfl (aop_cmp rfl rfl rfl) ?_
            refine al_step rfl rfl (aop_move rfl) ?_
            refine al_case 52 rfl (fun g12 => ?_) (fun g12 => ?_)
            · (try simp only [sd] at g12)
              refine al_pass rfl rfl rfl rfl rfl ?_
              refine al_pass rfl rfl rfl rfl rfl ?_
              refine al_pass rfl rfl rfl rfl rfl ?_
              refine al_step rfl rfl (aop_pick rfl rfl) ?_
              refine al_step rfl rfl (aop_assign rfl) ?_
              refine al_end rfl ?_
              exact ⟨rfl, rfl, (by first | exact List.Sublist.refl _ | exact List.sublist_cons_self _ _), ⟨_, rfl⟩, ⟨rfl, rfl, trivial⟩⟩
            · (try simp only [sd] at g12)
              refine al_stepg rfl rfl rfl rfl (aop_field_ptr fd26 rfl rfl) ?_
              refine al_stepg rfl rfl rfl rfl (aop_load_box1 (i := 0) ty3 rfl rfl rfl) ?_
              refine al_stepg rfl rfl rfl rfl (aop_cmp rfl rfl rfl) ?_
              refine al_step rfl rfl (aop_pick rfl rfl) ?_
              refine al_step rfl rfl (aop_assign rfl) ?_
              refine al_end rfl ?_
              exact ⟨rfl, rfl, (by first | exact List.Sublist.refl _ | exact List.sublist_cons_self _ _), ⟨_, rfl⟩, ⟨rfl, rfl, trivial⟩⟩
          rintro _ ⟨q9, rfl⟩
          refine awp_ret ?_
          refine ⟨rfl, _, [], res_tmp rfl, List.nil_sublist _, ⟨⟨_, rfl, ?_⟩, rfl⟩⟩
          first | exact (fun _ => hf) | exact (fun h => by cases h)

theorem check_c : ∀ (n : Nat) (t : Tm) (d vars params metas levels : Int), size t ≤ n → Nd t → 0 ≤ d → d + n < big → FunR Tryz.prog 16 [TV t, .p (I d), .p (I vars), .p (I params), .p (I metas), .p (I levels)] (fun v => ∃ e : Int, v = .p (I e) ∧ (e = 0 → wf vars metas d t)) := by
  intro n
  induction n with
  | zero => intro t d vars params metas levels h; cases t; simp [size] at h
  | succ n ih =>
    intro t d vars params metas levels hs hnd hd0 hdn
    obtain ⟨kd, ix, nm, ls, ks⟩ := t
    simp only [size] at hs
    simp only [Nd, rng, big] at hnd hdn
    obtain ⟨hn1, hn2, hn3, hn4, hn5, hn6, hn7⟩ := hnd
    refine acalls_of_awp Tryz.func16 rfl en16 (n := 107) rfl rfl ?_
    refine awp_seq ?_
    refine awp_region ?_
    refine al_new rfl rfl (aop_box rfl) fun b6 => ?_
    refine al_step rfl rfl (aop_assign rfl) ?_
    refine al_end rfl ?_
    refine awp_seq ?_
    refine awp_seq ?_
    refine awp_region ?_
    refine al_step rfl rfl (aop_load_box (i := 0) ty26 rfl rfl rfl) ?_
    refine al_rel rfl rfl (aop_funR rfl rfl (form_c (.mk kd ix nm ls ks)) (.inl rfl)) ?_
    rintro _ ⟨fb, rfl, hfb⟩
    refine al_step rfl rfl (aop_not rfl) ?_
    refine al_end rfl ?_
    refine awp_cond rfl (fun c1 => ?_) (fun c1 => ?_)
    · (try simp only [sd] at c1)
      refine awp_seq ?_
      refine awp_region ?_
      refine al_step rfl rfl (aop_assign rfl) ?_
      refine al_end rfl ?_
      refine awp_ret ?_
      refine ⟨rfl, _, [], res_tmp rfl, List.nil_sublist _, ⟨⟨_, rfl, ?_⟩, rfl⟩⟩
      first | exact (fun h => absurd h (by decide)) | exact (fun h => absurd h (by assumption)) | exact (fun _ => ⟨hf.1, hf.2.1, hf.2.2, hv1, hv2, wfs_of fun j t ht => by have := hC j (by have := (List.getElem?_eq_some_iff.1 ht).1; omega) t ht; simpa using this⟩)
    · (try simp only [sd] at c1)
      have hf : formOk (.mk kd ix nm ls ks) := hfb (by simpa using c1)
      refine awp_skip ?_
      refine awp_seq ?_
      refine awp_seq ?_
      refine awp_meetR [0, 1, 2, 3, 4, 5, 6, 12, 13, 14, 15, 16] 28 someB ?_ ?_
      · refine awp_region ?_
        refine al_step rfl rfl (aop_field_ptr fd26 rfl rfl) ?_
        refine al_step rfl rfl (aop_load_box1 (i := 0) ty3 rfl rfl rfl) ?_
        refine al_step rfl rfl (aop_cmp rfl rfl rfl) ?_
        refine al_step rfl rfl (aop_move rfl) ?_
        refine al_case 23 rfl (fun g2 => ?_) (fun g2 => ?_)
        · (try simp only [sd] at g2)
          refine al_stepg rfl rfl rfl rfl (aop_field_ptr fd26 rfl rfl) ?_
          refine al_stepg rfl rfl rfl rfl (aop_load_box1 (i := 0) ty9 rfl rfl rfl) ?_
          refine al_relg rfl rfl rfl rfl (aop_funR rfl rfl (name_c nm hn1) (.inl rfl)) ?_
          rintro _ ⟨q, rfl⟩
          refine al_stepg rfl rfl rfl rfl (aop_not rfl) ?_
          refine al_step rfl rfl (aop_pick rfl rfl) ?_
          refine al_end rfl ?_
          exact ⟨rfl, rfl, (by first | exact List.Sublist.refl _ | exact List.sublist_cons_self _ _), ⟨_, rfl⟩, ⟨rfl, rfl, rfl, rfl, rfl, rfl, rfl, rfl, rfl, rfl, rfl, rfl, trivial⟩⟩
        · (try simp only [sd] at g2)
          refine al_pass rfl rfl rfl rfl rfl ?_
          refine al_pass rfl rfl rfl rfl rfl ?_
          refine al_pass rfl rfl rfl rfl rfl ?_
          refine al_pass rfl rfl rfl rfl rfl ?_
          refine al_step rfl rfl (aop_pick rfl rfl) ?_
          refine al_end rfl ?_
          exact ⟨rfl, rfl, (by first | exact List.Sublist.refl _ | exact List.sublist_cons_self _ _), ⟨_, rfl⟩, ⟨rfl, rfl, rfl, rfl, rfl, rfl, rfl, rfl, rfl, rfl, rfl, rfl, trivial⟩⟩
      rintro _ ⟨q3, rfl⟩
      refine awp_cond rfl (fun c3 => ?_) (fun c3 => ?_)
      · (try simp only [sd] at c3)
        refine awp_seq ?_
        refine awp_region ?_
        refine al_step rfl rfl (aop_assign rfl) ?_
        refine al_end rfl ?_
        refine awp_ret ?_
        refine ⟨rfl, _, [], res_tmp rfl, List.nil_sublist _, ⟨⟨_, rfl, ?_⟩, rfl⟩⟩
        first | exact (fun h => absurd h (by decide)) | exact (fun h => absurd h (by assumption)) | exact (fun _ => ⟨hf.1, hf.2.1, hf.2.2, hv1, hv2, wfs_of fun j t ht => by have := hC j (by have := (List.getElem?_eq_some_iff.1 ht).1; omega) t ht; simpa using this⟩)
      · (try simp only [sd] at c3)
        refine awp_skip ?_
        refine awp_seq ?_
        refine awp_seq ?_
        refine awp_region ?_
        refine al_step rfl rfl (aop_field_ptr fd26 rfl rfl) ?_
        refine al_step rfl rfl (aop_load_box1 (i := 0) ty23 rfl rfl rfl) ?_
        refine al_step rfl rfl (aop_len el23 rfl) ?_
        refine al_step rfl rfl (aop_cmp rfl rfl rfl) ?_
        refine al_end rfl ?_
        refine awp_cond rfl (fun c4 => ?_) (fun c4 => ?_)
        · (try simp only [sd] at c4)
          refine awp_seq ?_
          refine awp_region ?_
          refine al_step rfl rfl (aop_assign rfl) ?_
          refine al_end rfl ?_
          refine awp_ret ?_
          refine ⟨rfl, _, [], res_tmp rfl, List.nil_sublist _, ⟨⟨_, rfl, ?_⟩, rfl⟩⟩
          first | exact (fun h => absurd h (by decide)) | exact (fun h => absurd h (by assumption)) | exact (fun _ => ⟨hf.1, hf.2.1, hf.2.2, hv1, hv2, wfs_of fun j t ht => by have := hC j (by have := (List.getElem?_eq_some_iff.1 ht).1; omega) t ht; simpa using this⟩)
        · (try simp only [sd] at c4)
          refine awp_skip ?_
          refine awp_seq ?_
          refine awp_seq ?_
          refine awp_region ?_
          refine al_step rfl rfl (aop_assign rfl) ?_
          refine al_end rfl ?_
          refine awp_block ?_
          refine awp_forC (ls.length) (fun _ => True) (fun i => ⟨107, mk [(1, .p (I d)), (2, .p (I vars)), (3, .p (I params)), (4, .p (I metas)), (5, .p (I levels)), (6, .ptr b6 0), (13, .p (I i))], [.box b6 ((encT (.mk kd ix nm ls ks)).map .p)], []⟩) (0) (by omega) (trivial) ?_ ?_
          · exact le_mk ⟨rfl, rfl, rfl, rfl, rfl, rfl, rfl, trivial⟩ (by first | exact List.Sublist.refl _ | exact .cons _ (.refl _) | exact .cons _ (.cons _ (.refl _)) | exact .cons _ (.cons _ (.cons _ (.refl _))) | exact .cons _ (.cons _ (.cons _ (.cons _ (.refl _)))))
          intro i hi hC
          refine awp_seq ?_
          refine awp_seq ?_
          refine awp_region ?_
          refine al_step rfl rfl (aop_move rfl) ?_
          refine al_step rfl rfl (aop_field_ptr fd26 rfl rfl) ?_
          refine al_step rfl rfl (aop_load_box1 (i := 0) ty23 rfl rfl rfl) ?_
          refine al_step rfl rfl (aop_len el23 rfl) ?_
          refine al_step rfl rfl (aop_cmp rfl rfl rfl) ?_
          refine al_end rfl ?_
          refine awp_cond rfl (fun c5 => ?_) (fun c5 => ?_)
          · (try simp only [sd] at c5)
            have hi2 : i < ls.length := by simp at c5; omega
            obtain ⟨x, hx⟩ := getElem?_of_lt hi2
            refine awp_skip ?_
            refine awp_seq ?_
            refine awp_block ?_
            refine awp_seq ?_
            refine awp_region ?_
            refine al_step rfl rfl (aop_field_ptr fd26 rfl rfl) ?_
            refine al_step rfl rfl (aop_load_box1 (i := 0) ty23 rfl rfl rfl) ?_
            refine al_step rfl rfl (aop_move rfl) ?_
            refine al_step rfl rfl (aop_index_lst el23 rfl rfl (by omega) (encL_get hx) (encL_len _)) ?_
            refine al_step rfl rfl (aop_load_ref ty49 rfl (encL_len _)) ?_
            refine al_step rfl rfl (aop_move rfl) ?_
            refine al_step rfl rfl (aop_move rfl) ?_
            refine al_rel rfl rfl (aop_funR rfl rfl (level_c x params levels (hn3 x (List.mem_of_getElem? hx))) (.inl rfl)) ?_
            rintro _ ⟨le, rfl⟩
            refine al_step rfl rfl (aop_assign rfl) ?_
            refine al_end rfl ?_
            refine awp_seq ?_
            refine awp_region ?_
            refine al_step rfl rfl (aop_move rfl) ?_
            refine al_step rfl rfl (aop_cmp rfl rfl rfl) ?_
            refine al_end rfl ?_
            refine awp_cond rfl (fun c6 => ?_) (fun c6 => ?_)
            · (try simp only [sd] at c6)
              refine awp_seq ?_
              refine awp_region ?_
              refine al_step rfl rfl (aop_move rfl) ?_
              refine al_step rfl rfl (aop_assign rfl) ?_
              refine al_end rfl ?_
              refine awp_ret ?_
              refine ⟨rfl, _, [], res_tmp rfl, List.nil_sublist _, ⟨⟨_, rfl, ?_⟩, rfl⟩⟩
              first | exact (fun h => absurd h (by decide)) | exact (fun h => absurd h (by assumption)) | exact (fun _ => ⟨hf.1, hf.2.1, hf.2.2, hv1, hv2, wfs_of fun j t ht => by have := hC j (by have := (List.getElem?_eq_some_iff.1 ht).1; omega) t ht; simpa using this⟩)
            · (try simp only [sd] at c6)
              refine awp_skip ?_
              refine awp_region ?_
              refine al_step rfl rfl (aop_move rfl) ?_
              refine al_step rfl rfl (aop_add rfl rfl (by omega) (by omega)) ?_
              refine al_step rfl rfl (aop_assign rfl) ?_
              refine al_end rfl ?_
              exact ⟨by omega, trivial, le_mk ⟨rfl, rfl, rfl, rfl, rfl, rfl, rfl, trivial⟩ (by first | exact List.Sublist.refl _ | exact .cons _ (.refl _) | exact .cons _ (.cons _ (.refl _)) | exact .cons _ (.cons _ (.cons _ (.refl _))) | exact .cons _ (.cons _ (.cons _ (.cons _ (.refl _)))))⟩
          · (try simp only [sd] at c5)
            refine awp_exit ?_
            refine awp_seq ?_
            refine awp_seq ?_
            refine awp_meetR [0, 1, 2, 3, 4, 5, 6, 12, 13, 14, 15, 16] 66 (fun y => y = .p (.bool (kd == 0 && (decide (ix < 0) || decide (ix - d ≥ vars))))) ?_ ?_
            · refine awp_region ?_
              refine al_step rfl rfl (aop_field_ptr fd26 rfl rfl) ?_
              refine al_step rfl rfl (aop_load_box1 (i := 0) ty3 rfl rfl rfl) ?_
              refine al_step rfl rfl (aop_cmp rfl rfl rfl) ?_
              refine al_step rfl rfl (aop_move rfl) ?_
              refine al_case 54 rfl (fun g7 => ?_) (fun g7 => ?_)
              · (try simp only [sd] at g7)
                refine al_stepg rfl rfl rfl rfl (aop_field_ptr fd26 rfl rfl) ?_
                refine al_stepg rfl rfl rfl rfl (aop_load_box1 (i := 0) ty3 rfl rfl rfl) ?_
                refine al_stepg rfl rfl rfl rfl (aop_cmp rfl rfl rfl) ?_
                refine al_stepg rfl rfl rfl rfl (aop_move rfl) ?_
                refine al_case 58 rfl (fun g8 => ?_) (fun g8 => ?_)
                · (try simp only [sd] at g8)
                  refine al_pass rfl rfl rfl rfl rfl ?_
                  refine al_pass rfl rfl rfl rfl rfl ?_
                  refine al_pass rfl rfl rfl rfl rfl ?_
                  refine al_pass rfl rfl rfl rfl rfl ?_
                  refine al_pass rfl rfl rfl rfl rfl ?_
                  refine al_pass rfl rfl rfl rfl rfl ?_
                  refine al_stepg rfl rfl rfl rfl (aop_pick rfl rfl) ?_
                  refine al_step rfl rfl (aop_pick rfl rfl) ?_
                  refine al_end rfl ?_
                  exact ⟨rfl, rfl, (by first | exact List.Sublist.refl _ | exact List.sublist_cons_self _ _), pB (by simp_all <;> (try (intros; omega))), ⟨rfl, rfl, rfl, rfl, rfl, rfl, rfl, rfl, rfl, rfl, rfl, rfl, trivial⟩⟩
                · (try simp only [sd] at g8)
                  refine al_stepg rfl rfl rfl rfl (aop_field_ptr fd26 rfl rfl) ?_
                  refine al_stepg rfl rfl rfl rfl (aop_load_box1 (i := 0) ty3 rfl rfl rfl) ?_
                  refine al_stepg rfl rfl rfl rfl (aop_move rfl) ?_
                  refine al_stepg rfl rfl rfl rfl (aop_sub rfl rfl (by omega) (by omega)) ?_
                  refine al_stepg rfl rfl rfl rfl (aop_move rfl) ?_
                  refine al_stepg rfl rfl rfl rfl (aop_cmp rfl rfl rfl) ?_
                  refine al_stepg rfl rfl rfl rfl (aop_pick rfl rfl) ?_
                  refine al_step rfl rfl (aop_pick rfl rfl) ?_
                  refine al_end rfl ?_
                  exact ⟨rfl, rfl, (by first | exact List.Sublist.refl _ | exact List.sublist_cons_self _ _), pB (by simp_all <;> (try (intros; omega))), ⟨rfl, rfl, rfl, rfl, rfl, rfl, rfl, rfl, rfl, rfl, rfl, rfl, trivial⟩⟩
              · (try simp only [sd] at g7)
                refine al_pass rfl rfl rfl rfl rfl ?_
                refine al_pass rfl rfl rfl rfl rfl ?_
                refine al_pass rfl rfl rfl rfl rfl ?_
                refine al_pass rfl rfl rfl rfl rfl ?_
                refine al_pass0 rfl rfl rfl rfl ?_
                refine al_pass0 rfl rfl rfl rfl ?_
                refine al_pass0 rfl rfl rfl rfl ?_
                refine al_pass0 rfl rfl rfl rfl ?_
                refine al_pass0 rfl rfl rfl rfl ?_
                refine al_pass0 rfl rfl rfl rfl ?_
                refine al_pass rfl rfl rfl rfl rfl ?_
                refine al_step rfl rfl (aop_pick rfl rfl) ?_
                refine al_end rfl ?_
                exact ⟨rfl, rfl, (by first | exact List.Sublist.refl _ | exact List.sublist_cons_self _ _), pB (by simp_all <;> (try (intros; omega))), ⟨rfl, rfl, rfl, rfl, rfl, rfl, rfl, rfl, rfl, rfl, rfl, rfl, trivial⟩⟩
            rintro _ rfl
            refine awp_cond rfl (fun c9 => ?_) (fun c9 => ?_)
            · (try simp only [sd] at c9)
              refine awp_seq ?_
              refine awp_region ?_
              refine al_step rfl rfl (aop_assign rfl) ?_
              refine al_end rfl ?_
              refine awp_ret ?_
              refine ⟨rfl, _, [], res_tmp rfl, List.nil_sublist _, ⟨⟨_, rfl, ?_⟩, rfl⟩⟩
              first | exact (fun h => absurd h (by decide)) | exact (fun h => absurd h (by assumption)) | exact (fun _ => ⟨hf.1, hf.2.1, hf.2.2, hv1, hv2, wfs_of fun j t ht => by have := hC j (by have := (List.getElem?_eq_some_iff.1 ht).1; omega) t ht; simpa using this⟩)
            · (try simp only [sd] at c9)
              have hv1 : kd = 0 → 0 ≤ ix ∧ ix - d < vars := by intro h; simp [h] at c9; omega
              refine awp_skip ?_
              refine awp_seq ?_
              refine awp_seq ?_
              refine awp_meetR [0, 1, 2, 3, 4, 5, 6, 12, 13, 14, 15, 16] 80 (fun y => y = .p (.bool (kd == 12 && (decide (ix < 0) || decide (ix ≥ metas))))) ?_ ?_
              · refine awp_region ?_
                refine al_step rfl rfl (aop_field_ptr fd26 rfl rfl) ?_
                refine al_step rfl rfl (aop_load_box1 (i := 0) ty3 rfl rfl rfl) ?_
                refine al_step rfl rfl (aop_cmp rfl rfl rfl) ?_
                refine al_step rfl rfl (aop_move rfl) ?_
                refine al_case 70 rfl (fun g10 => ?_) (fun g10 => ?_)
                · (try simp only [sd] at g10)
                  refine al_stepg rfl rfl rfl rfl (aop_field_ptr fd26 rfl rfl) ?_
                  refine al_stepg rfl rfl rfl rfl (aop_load_box1 (i := 0) ty3 rfl rfl rfl) ?_
                  refine al_stepg rfl rfl rfl rfl (aop_cmp rfl rfl rfl) ?_
                  refine al_stepg rfl rfl rfl rfl (aop_move rfl) ?_
                  refine al_case 74 rfl (fun g11 => ?_) (fun g11 => ?_)
                  · (try simp only [sd] at g11)
                    refine al_pass rfl rfl rfl rfl rfl ?_
                    refine al_pass rfl rfl rfl rfl rfl ?_
                    refine al_pass rfl rfl rfl rfl rfl ?_
                    refine al_pass rfl rfl rfl rfl rfl ?_
                    refine al_stepg rfl rfl rfl rfl (aop_pick rfl rfl) ?_
                    refine al_step rfl rfl (aop_pick rfl rfl) ?_
                    refine al_end rfl ?_
                    exact ⟨rfl, rfl, (by first | exact List.Sublist.refl _ | exact List.sublist_cons_self _ _), pB (by simp_all <;> (try (intros; omega))), ⟨rfl, rfl, rfl, rfl, rfl, rfl, rfl, rfl, rfl, rfl, rfl, rfl, trivial⟩⟩
                  · (try simp only [sd] at g11)
                    refine al_stepg rfl rfl rfl rfl (aop_field_ptr fd26 rfl rfl) ?_
                    refine al_stepg rfl rfl rfl rfl (aop_load_box1 (i := 0) ty3 rfl rfl rfl) ?_
                    refine al_stepg rfl rfl rfl rfl (aop_move rfl) ?_
                    refine al_stepg rfl rfl rfl rfl (aop_cmp rfl rfl rfl) ?_
                    refine al_stepg rfl rfl rfl rfl (aop_pick rfl rfl) ?_
                    refine al_step rfl rfl (aop_pick rfl rfl) ?_
                    refine al_end rfl ?_
                    exact ⟨rfl, rfl, (by first | exact List.Sublist.refl _ | exact List.sublist_cons_self _ _), pB (by simp_all <;> (try (intros; omega))), ⟨rfl, rfl, rfl, rfl, rfl, rfl, rfl, rfl, rfl, rfl, rfl, rfl, trivial⟩⟩
                · (try simp only [sd] at g10)
                  refine al_pass rfl rfl rfl rfl rfl ?_
                  refine al_pass rfl rfl rfl rfl rfl ?_
                  refine al_pass rfl rfl rfl rfl rfl ?_
                  refine al_pass rfl rfl rfl rfl rfl ?_
                  refine al_pass0 rfl rfl rfl rfl ?_
                  refine al_pass0 rfl rfl rfl rfl ?_
                  refine al_pass0 rfl rfl rfl rfl ?_
                  refine al_pass0 rfl rfl rfl rfl ?_
                  refine al_pass rfl rfl rfl rfl rfl ?_
                  refine al_step rfl rfl (aop_pick rfl rfl) ?_
                  refine al_end rfl ?_
                  exact ⟨rfl, rfl, (by first | exact List.Sublist.refl _ | exact List.sublist_cons_self _ _), pB (by simp_all <;> (try (intros; omega))), ⟨rfl, rfl, rfl, rfl, rfl, rfl, rfl, rfl, rfl, rfl, rfl, rfl, trivial⟩⟩
              rintro _ rfl
              refine awp_cond rfl (fun c12 => ?_) (fun c12 => ?_)
              · (try simp only [sd] at c12)
                refine awp_seq ?_
                refine awp_region ?_
                refine al_step rfl rfl (aop_assign rfl) ?_
                refine al_end rfl ?_
                refine awp_ret ?_
                refine ⟨rfl, _, [], res_tmp rfl, List.nil_sublist _, ⟨⟨_, rfl, ?_⟩, rfl⟩⟩
                first | exact (fun h => absurd h (by decide)) | exact (fun h => absurd h (by assumption)) | exact (fun _ => ⟨hf.1, hf.2.1, hf.2.2, hv1, hv2, wfs_of fun j t ht => by have := hC j (by have := (List.getElem?_eq_some_iff.1 ht).1; omega) t ht; simpa using this⟩)
              · (try simp only [sd] at c12)
                have hv2 : kd = 12 → 0 ≤ ix ∧ ix < metas := by intro h; simp [h] at c12; omega
                refine awp_skip ?_
                refine awp_seq ?_
                refine awp_seq ?_
                refine awp_region ?_
                refine al_step rfl rfl (aop_assign rfl) ?_
                refine al_end rfl ?_
                refine awp_block ?_
                refine awp_forC (ks.length) (fun i => ∀ j, j < i → ∀ t, ks[j]? = some t → wf vars metas (d + below kd j) t) (fun i => ⟨107, mk [(1, .p (I d)), (2, .p (I vars)), (3, .p (I params)), (4, .p (I metas)), (5, .p (I levels)), (6, .ptr b6 0), (15, .p (I i))], [.box b6 ((encT (.mk kd ix nm ls ks)).map .p)], []⟩) (0) (by omega) (fun j h => by omega) ?_ ?_
                · exact le_mk ⟨rfl, rfl, rfl, rfl, rfl, rfl, rfl, trivial⟩ (by first | exact List.Sublist.refl _ | exact .cons _ (.refl _) | exact .cons _ (.cons _ (.refl _)) | exact .cons _ (.cons _ (.cons _ (.refl _))) | exact .cons _ (.cons _ (.cons _ (.cons _ (.refl _)))))
                intro i hi hC
                refine awp_seq ?_
                refine awp_seq ?_
                refine awp_region ?_
                refine al_step rfl rfl (aop_move rfl) ?_
                refine al_step rfl rfl (aop_field_ptr fd26 rfl rfl) ?_
                refine al_step rfl rfl (aop_load_box1 (i := 0) ty24 rfl rfl rfl) ?_
                refine al_step rfl rfl (aop_len el24 rfl) ?_
                refine al_step rfl rfl (aop_cmp rfl rfl rfl) ?_
                refine al_end rfl ?_
                refine awp_cond rfl (fun c13 => ?_) (fun c13 => ?_)
                · (try simp only [sd] at c13)
                  have hi2 : i < ks.length := by simp [encTs_len] at c13; omega
                  obtain ⟨x, hx⟩ := getElem?_of_lt hi2
                  have hbl := below_le kd i
                  refine awp_skip ?_
                  refine awp_seq ?_
                  refine awp_block ?_
                  refine awp_seq ?_
                  refine awp_dr (fun k => Nat.beq k 15) mx0 ?_
                  refine dr_free rfl rfl (fun _ => aop_field_ptr fd26 rfl rfl) trivial ?_
                  refine dr_read (j := 0) rfl rfl rfl (fun H i hi => aop_load_box1 (i := i) ty24 rfl hi rfl) (by repeat' first | exact trivial | refine And.intro ?_ ?_ | exact Or.inl (by kernel_rfl) | (refine Or.inr (And.intro ?_ ?_) <;> repeat (first | exact List.Mem.head _ | apply List.Mem.tail))) trivial ?_
                  refine dr_free rfl rfl (fun _ => aop_move rfl) trivial ?_
                  refine dr_free rfl rfl (fun _ => aop_index_lst el24 rfl rfl (by omega) (encTs_get hx) (encT_len _)) trivial ?_
                  refine dr_free rfl rfl (fun _ => aop_load_ref ty26 rfl (encT_len _)) trivial ?_
                  refine dr_free rfl rfl (fun _ => aop_move rfl) trivial ?_
                  refine dr_free rfl rfl (fun _ => aop_field_ptr fd26 rfl rfl) trivial ?_
                  refine dr_read (j := 0) rfl rfl rfl (fun H i hi => aop_load_box1 (i := i) ty3 rfl hi rfl) (by repeat' first | exact trivial | refine And.intro ?_ ?_ | exact Or.inl (by kernel_rfl) | (refine Or.inr (And.intro ?_ ?_) <;> repeat (first | exact List.Mem.head _ | apply List.Mem.tail))) trivial ?_
                  refine dr_free rfl rfl (fun _ => aop_move rfl) trivial ?_
                  refine dr_free rfl rfl (fun _ => aop_fun rfl rfl (below_c kd i) rfl) trivial ?_
                  refine dr_free rfl rfl (fun _ => aop_add rfl rfl (by omega) (by omega)) trivial ?_
                  refine dr_free rfl rfl (fun _ => aop_move rfl) trivial ?_
                  refine dr_free rfl rfl (fun _ => aop_move rfl) trivial ?_
                  refine dr_free rfl rfl (fun _ => aop_move rfl) trivial ?_
                  refine dr_free rfl rfl (fun _ => aop_move rfl) trivial ?_
                  refine dr_rel [] rfl rfl (aop_funR rfl rfl (ih x (d + below kd i) vars params metas levels (by have := size_mem hx; omega) (Nds_mem hn5 hx) (by have := below_le kd i; omega) (by have := below_le kd i; simp only [big]; omega)) (.inl rfl)) (by kernel_rfl) (⟨_, 1, rfl, fun h => absurd h (by decide)⟩) (by repeat' first | exact trivial | refine And.intro ?_ ?_ | exact Or.inl (by kernel_rfl) | (refine Or.inr (And.intro ?_ ?_) <;> repeat (first | exact List.Mem.head _ | apply List.Mem.tail))) ?_
                  rintro _ ⟨ce, rfl, hce⟩
                  refine ⟨trivial, ?_⟩
                  refine dr_free rfl rfl (fun _ => aop_assign rfl) trivial ?_
                  refine dr_end rfl (by kernel_rfl) ?_
                  refine awp_seq ?_
                  refine awp_region ?_
                  refine al_step rfl rfl (aop_move rfl) ?_
                  refine al_step rfl rfl (aop_cmp rfl rfl rfl) ?_
                  refine al_end rfl ?_
                  refine awp_cond rfl (fun c14 => ?_) (fun c14 => ?_)
                  · (try simp only [sd] at c14)
                    refine awp_seq ?_
                    refine awp_region ?_
                    refine al_step rfl rfl (aop_move rfl) ?_
                    refine al_step rfl rfl (aop_assign rfl) ?_
                    refine al_end rfl ?_
                    refine awp_ret ?_
                    refine ⟨rfl, _, [], res_tmp rfl, List.nil_sublist _, ⟨⟨_, rfl, ?_⟩, rfl⟩⟩
                    first | exact (fun h => absurd h (by decide)) | exact (fun h => absurd h (by assumption)) | exact (fun _ => ⟨hf.1, hf.2.1, hf.2.2, hv1, hv2, wfs_of fun j t ht => by have := hC j (by have := (List.getElem?_eq_some_iff.1 ht).1; omega) t ht; simpa using this⟩)
                  · (try simp only [sd] at c14)
                    have hce0 := hce (by simpa using c14)
                    refine awp_skip ?_
                    refine awp_region ?_
                    refine al_step rfl rfl (aop_move rfl) ?_
                    refine al_step rfl rfl (aop_add rfl rfl (by omega) (by omega)) ?_
                    refine al_step rfl rfl (aop_assign rfl) ?_
                    refine al_end rfl ?_
                    exact ⟨by omega, upto_succ hC hx hce0, le_mk ⟨rfl, rfl, rfl, rfl, rfl, rfl, rfl, trivial⟩ (by first | exact List.Sublist.refl _ | exact .cons _ (.refl _) | exact .cons _ (.cons _ (.refl _)) | exact .cons _ (.cons _ (.cons _ (.refl _))) | exact .cons _ (.cons _ (.cons _ (.cons _ (.refl _)))))⟩
                · (try simp only [sd] at c13)
                  have hi2 : i = ks.length := by simp [encTs_len] at c13; omega
                  refine awp_exit ?_
                  refine awp_seq ?_
                  refine awp_region ?_
                  refine al_step rfl rfl (aop_assign rfl) ?_
                  refine al_end rfl ?_
                  refine awp_ret ?_
                  refine ⟨rfl, _, [], res_tmp rfl, List.nil_sublist _, ⟨⟨_, rfl, ?_⟩, rfl⟩⟩
                  first | exact (fun h => absurd h (by decide)) | exact (fun h => absurd h (by assumption)) | exact (fun _ => ⟨hf.1, hf.2.1, hf.2.2, hv1, hv2, wfs_of fun j t ht => by have := hC j (by have := (List.getElem?_eq_some_iff.1 ht).1; omega) t ht; simpa using this⟩)

end Go.Proofs.YtgfecpjmbgcobaaGreat
