/- For every two terms, AbelianAdds returns true and leaves its arguments as they were; the library's tables lie as the row lists them, tied to the program's text. -/
import Derived.Test.YtapmjpihennhaaaGreatDoorCards
import Derived.Test.YtapmjpihennhaaaGreatDoorPf
import Derived.Test.YtapmjpihennhaaaGreatDoorPh
set_option linter.unusedVariables false
set_option linter.unusedSimpArgs false
namespace Go.Proofs.YtapmjpihennhaaaGreatDoor
open Go.Abs Go.Eu Go.ChangeShapes Go.WideShapes Go.ChangeAt Go.RowKit
theorem fQ : ∀ t ∈ Tryz.f6.params.toList, Tryz.prog.readableRec t = true ∧ t < Tryz.prog.types.size := by
 rw [Tryz.params6]
 intro t ht
 simp only [List.mem_cons, List.not_mem_nil, or_false] at ht
 rcases ht with rfl | rfl
 ·exact ⟨by kernel_rfl, of_decide_eq_true An⟩
 ·exact ⟨by kernel_rfl, of_decide_eq_true An⟩
theorem LW (os : Os) {H : Type} (enc : TypeId × Value → H) : ∃ places, DataW.whole enc Tryz.prog ((DT os).forCall (fun _ _ => 0) ⟨#[], #[.agg #[.int .i64 0, .int .i64 0, .string ⟨#[]⟩, .slice none 0 0, .slice none 0 0], .agg #[.int .i64 0, .int .i64 0, .string ⟨#[]⟩, .slice none 0 0, .slice none 0 0]], []⟩).memory Tryz.f6.params.toList Rows.abelianAddsSpec.vars false (#[.agg #[.int .i64 0, .int .i64 0, .string ⟨#[]⟩, .slice none 0 0, .slice none 0 0], .agg #[.int .i64 0, .int .i64 0, .string ⟨#[]⟩, .slice none 0 0, .slice none 0 0]] : Array Value).toList 8 = some ([.agg [.lit (.int .i64 0), .lit (.int .i64 0), .lit (.string []), .nil, .nil], .agg [.lit (.int .i64 0), .lit (.int .i64 0), .lit (.string []), .nil, .nil]], [], places) :=
 ⟨[], by kernel_rfl⟩
set_option maxRecDepth 100000 in
theorem Kj (os : Os) (started : os.Started) (H : Type) (enc : TypeId × Value → H) (F : Stop.Interp) :
  ReturnsInHanded {} Tryz.checked os 6 .any ((OpenSpec.ofChange Rows.abelianAddsSpec).preRow enc Tryz.prog Tryz.f6 Rows.abelianAddsRow.domain false Rows.abelianAddsRow.laid) (((OpenSpec.ofChange Rows.abelianAddsSpec).at F).post enc Tryz.prog Tryz.f6 false true false false) := by
 obtain ⟨places, hx⟩ := LW os enc
 refine returnsInHanded_of_row (C := Tryz.checked) (s := OpenSpec.ofChange Rows.abelianAddsSpec) own started An Tryz.func6
  (witness_row_atRef (enc := enc) (C := Tryz.checked) false (DT os) #[.agg #[.int .i64 0, .int .i64 0, .string ⟨#[]⟩, .slice none 0 0, .slice none 0 0], .agg #[.int .i64 0, .int .i64 0, .string ⟨#[]⟩, .slice none 0 0, .slice none 0 0]] rfl An An An
   (OpenSpec.preRow_of_cond 8 hx An (fun k hk => by cases hk) An (Li os _))) ?_
 intro W base args ds gs before hval0 hW _ _ hwt hL0 _ _
 have hL : laidMet Tryz.prog Hj W := hL0
 have hval : ∀ (j : Nat) t v, Tryz.f6.params[j]? = some t → args[j]? = some v → Value.okWide Tryz.prog W .any base t v := hval0
 have hW' := hW
 obtain ⟨p, q, hA0, hV, hps, hfz, hnd⟩ := hW'
 have hA : DataW.TrodAll enc Tryz.prog W 0 (fun _ => true) true Tryz.f6.params.toList args.toList ds p := hA0
 rw [Tryz.params6] at hA hval
 obtain ⟨v0, vs0, d0, ds0, p0, q0, hargs, hds, hp0, h0, r0⟩ := trodAll_cons hA
 obtain ⟨v1, vs1, d1, ds1, p1, q1, rfl, rfl, hp1, h1, r1⟩ := trodAll_cons r0
 obtain ⟨rfl, rfl, _⟩ := trodAll_nil r1
 obtain rfl : args = #[v0, v1] := by cases args; simp_all
 subst hds
 obtain ⟨rfl, _⟩ := trodVars_none hV
 obtain ⟨l0, b0, c0⟩ := TS YA (hval 0 33 v0 rfl rfl) h0
 obtain ⟨l1, b1, c1⟩ := TS YA (hval 1 33 v1 rfl rfl) h1
 refine (Hv (Xo (blocks W) (Mu (LO hL) (Mz hL) (Pv hL)) l0 l1 b0 b1) (w := W) (Jx W) (vs := [v0, v1]) ⟨_, _, At, c0, ⟨_, _, At, c1, At⟩⟩).mono fun e W' ⟨he, hb⟩ => ?_
 subst he
 exact ⟨_, At, I2 laidOut (s := Rows.abelianAddsSpec) (tB := 4) An An At (fQ) hW At At At hb⟩
theorem ML : Rows.AbelianAddsSaid :=
 OpenClaim.holds_of_cond 6 Tryz.f6 rfl rfl rfl rfl rfl rfl rfl ⟨rfl, rfl, rfl, rfl, rfl⟩ rfl rfl rfl rfl rfl An Tryz.func6 An
  (of_decide_eq_true An) (by unfold Func.isWrapper; first | (rw [if_pos (by decide +kernel)]; kernel_rfl) | (rw [if_neg (by decide +kernel)]; exact ⟨rfl, rfl⟩))
  (fun os started H enc _ F => by rw [OpenClaim.pre_eq_preRow]; exact Kj os started H enc F)
theorem LX (f : FuncId) (fn : Func) (hf : Tryz.pinned.checked.prog.funcNamed "euclid/euclidlaw40.AbelianAdds" = some f) (hfn : Tryz.pinned.checked.prog.funcs[f]? = some fn) :
  false = Tryz.pinned.checked.prog.looks [] ∧ ∀ (j : Nat) t, fn.params[j]? = some t → Tryz.pinned.checked.prog.wantsStandIn t = false := by
 obtain rfl : f = 6 := Option.some.inj ((show Tryz.prog.funcNamed "euclid/euclidlaw40.AbelianAdds" = some 6 by kernel_rfl).symm.trans hf) |>.symm
 obtain rfl : fn = Tryz.f6 := (Option.some.inj (Tryz.func6.symm.trans hfn)).symm
 refine ⟨by kernel_rfl, fun j t ht => ?_⟩
 rw [Tryz.params6] at ht
 have hm := Array.mem_of_getElem? ht
 simp only [List.mem_toArray, List.mem_cons, List.not_mem_nil, or_false] at hm
 rcases hm with rfl | rfl
 ·exact (show Tryz.prog.wantsStandIn 33 = false by kernel_rfl)
 ·exact (show Tryz.prog.wantsStandIn 33 = false by kernel_rfl)
theorem abelianAdds_holds : Rows.AbelianAddsCardSaid :=
 Claim7.holds_tied_plain_at .later [] _ _ _ _ ML (fun _ h => by cases h) An (fun _ h => by cases h) abelianAdds_row_tie rfl ⟨rfl, rfl⟩ An rfl LX An
end Go.Proofs.YtapmjpihennhaaaGreatDoor
