/- For every theory, list of coefficients and list of atoms, AbelianReturns returns true and leaves its arguments as they were; the library's tables lie as the row lists them, tied to the program's text. -/
import Derived.Test.YtapmjpihennhaaaGreatDoorCards
import Derived.Test.YtapmjpihennhaaaGreatDoorPf
import Derived.Test.YtapmjpihennhaaaGreatDoorPh
import Derived.Test.YtapmjpihennhaaaGreatDoorPi
set_option linter.unusedVariables false
set_option linter.unusedSimpArgs false
namespace Go.Proofs.YtapmjpihennhaaaGreatDoor
open Go.Abs Go.Eu Go.ChangeShapes Go.WideShapes Go.ChangeAt Go.RowKit
theorem dJ : ∀ t ∈ Tryz.f8.params.toList, Tryz.prog.readableRec t = true ∧ t < Tryz.prog.types.size := by
 rw [Tryz.params8]
 intro t ht
 simp only [List.mem_cons, List.not_mem_nil, or_false] at ht
 rcases ht with rfl | rfl | rfl
 ·exact ⟨by kernel_rfl, of_decide_eq_true An⟩
 ·exact ⟨by kernel_rfl, of_decide_eq_true An⟩
 ·exact ⟨by kernel_rfl, of_decide_eq_true An⟩
theorem JS (os : Os) {H : Type} (enc : TypeId × Value → H) : ∃ places, DataW.whole enc Tryz.prog ((DT os).forCall (fun _ _ => 0) ⟨#[], #[.agg #[.string ⟨#[]⟩, .string ⟨#[]⟩, .string ⟨#[]⟩, .string ⟨#[]⟩, .string ⟨#[]⟩, .string ⟨#[]⟩, .slice none 0 0], .slice none 0 0, .slice none 0 0], []⟩).memory Tryz.f8.params.toList Rows.abelianReturnsSpec.vars false (#[.agg #[.string ⟨#[]⟩, .string ⟨#[]⟩, .string ⟨#[]⟩, .string ⟨#[]⟩, .string ⟨#[]⟩, .string ⟨#[]⟩, .slice none 0 0], .slice none 0 0, .slice none 0 0] : Array Value).toList 8 = some ([.agg [.lit (.string []), .lit (.string []), .lit (.string []), .lit (.string []), .lit (.string []), .lit (.string []), .nil], .nil, .nil], [], places) :=
 ⟨[], by kernel_rfl⟩
set_option maxRecDepth 100000 in
theorem I5 (os : Os) (started : os.Started) (H : Type) (enc : TypeId × Value → H) (F : Stop.Interp) :
  ReturnsInHanded {} Tryz.checked os 8 .any ((OpenSpec.ofChange Rows.abelianReturnsSpec).preRow enc Tryz.prog Tryz.f8 Rows.abelianReturnsRow.domain false Rows.abelianReturnsRow.laid) (((OpenSpec.ofChange Rows.abelianReturnsSpec).at F).post enc Tryz.prog Tryz.f8 false true false false) := by
 obtain ⟨places, hx⟩ := JS os enc
 refine returnsInHanded_of_row (C := Tryz.checked) (s := OpenSpec.ofChange Rows.abelianReturnsSpec) own started An Tryz.func8
  (witness_row_atRef (enc := enc) (C := Tryz.checked) false (DT os) #[.agg #[.string ⟨#[]⟩, .string ⟨#[]⟩, .string ⟨#[]⟩, .string ⟨#[]⟩, .string ⟨#[]⟩, .string ⟨#[]⟩, .slice none 0 0], .slice none 0 0, .slice none 0 0] rfl An An An
   (OpenSpec.preRow_of_cond 8 hx An (fun k hk => by cases hk) An (Li os _))) ?_
 intro W base args ds gs before hval0 hW _ _ hwt hL0 _ _
 have hL : laidMet Tryz.prog Hj W := hL0
 have hval : ∀ (j : Nat) t v, Tryz.f8.params[j]? = some t → args[j]? = some v → Value.okWide Tryz.prog W .any base t v := hval0
 have hW' := hW
 obtain ⟨p, q, hA0, hV, hps, hfz, hnd⟩ := hW'
 have hA : DataW.TrodAll enc Tryz.prog W 0 (fun _ => true) true Tryz.f8.params.toList args.toList ds p := hA0
 rw [Tryz.params8] at hA hval
 obtain ⟨v0, vs0, d0, ds0, p0, q0, hargs, hds, hp0, h0, r0⟩ := trodAll_cons hA
 obtain ⟨v1, vs1, d1, ds1, p1, q1, rfl, rfl, hp1, h1, r1⟩ := trodAll_cons r0
 obtain ⟨v2, vs2, d2, ds2, p2, q2, rfl, rfl, hp2, h2, r2⟩ := trodAll_cons r1
 obtain ⟨rfl, rfl, _⟩ := trodAll_nil r2
 obtain rfl : args = #[v0, v1, v2] := by cases args; simp_all
 subst hds
 obtain ⟨rfl, _⟩ := trodVars_none hV
 obtain ⟨l0, a0, c0⟩ := SL YA Yc (hval 0 24 v0 rfl rfl) h0 (Gv hwt 0 24 d0 An rfl)
 obtain ⟨l1, a1, b1, c1⟩ := Uy gB cA fq (hval 1 45 v1 rfl rfl) h1
 obtain ⟨l2, a2, b2, c2⟩ := ZI YA (hval 2 26 v2 rfl rfl) h2
 refine (Hv (Xr (blocks W) (Mu (LO hL) (Mz hL) (Pv hL)) l0 l1 l2 a0 a1 b1 b2 a2) (w := W) (Jx W) (vs := [v0, v1, v2]) ⟨_, _, At, c0, ⟨_, _, At, c1, ⟨_, _, At, c2, At⟩⟩⟩).mono fun e W' ⟨he, hb⟩ => ?_
 subst he
 exact ⟨_, At, I2 laidOut (s := Rows.abelianReturnsSpec) (tB := 4) An An At (dJ) hW At At At hb⟩
theorem KH : Rows.AbelianReturnsSaid :=
 OpenClaim.holds_of_cond 8 Tryz.f8 rfl rfl rfl rfl rfl rfl rfl ⟨rfl, rfl, rfl, rfl, rfl⟩ rfl rfl rfl rfl rfl An Tryz.func8 An
  (of_decide_eq_true An) (by unfold Func.isWrapper; first | (rw [if_pos (by decide +kernel)]; kernel_rfl) | (rw [if_neg (by decide +kernel)]; exact ⟨rfl, rfl⟩))
  (fun os started H enc _ F => by rw [OpenClaim.pre_eq_preRow]; exact I5 os started H enc F)
theorem JW (f : FuncId) (fn : Func) (hf : Tryz.pinned.checked.prog.funcNamed "euclid/euclidlaw40.AbelianReturns" = some f) (hfn : Tryz.pinned.checked.prog.funcs[f]? = some fn) :
  false = Tryz.pinned.checked.prog.looks [] ∧ ∀ (j : Nat) t, fn.params[j]? = some t → Tryz.pinned.checked.prog.wantsStandIn t = false := by
 obtain rfl : f = 8 := Option.some.inj ((show Tryz.prog.funcNamed "euclid/euclidlaw40.AbelianReturns" = some 8 by kernel_rfl).symm.trans hf) |>.symm
 obtain rfl : fn = Tryz.f8 := (Option.some.inj (Tryz.func8.symm.trans hfn)).symm
 refine ⟨by kernel_rfl, fun j t ht => ?_⟩
 rw [Tryz.params8] at ht
 have hm := Array.mem_of_getElem? ht
 simp only [List.mem_toArray, List.mem_cons, List.not_mem_nil, or_false] at hm
 rcases hm with rfl | rfl | rfl
 ·exact (show Tryz.prog.wantsStandIn 24 = false by kernel_rfl)
 ·exact (show Tryz.prog.wantsStandIn 45 = false by kernel_rfl)
 ·exact (show Tryz.prog.wantsStandIn 26 = false by kernel_rfl)
theorem abelianReturns_holds : Rows.AbelianReturnsCardSaid :=
 Claim7.holds_tied_plain_at .later [] _ _ _ _ KH (fun _ h => by cases h) An (fun _ h => by cases h) abelianReturns_row_tie rfl ⟨rfl, rfl⟩ An rfl JW An
end Go.Proofs.YtapmjpihennhaaaGreatDoor
