/- For every theory, list of coefficients and list of atoms, AbelianBuilds returns true and leaves its arguments as they were; the library's tables lie as the row lists them, tied to the program's text. -/
import Derived.Test.YtapmjpihennhaaaGreatDoorCards
import Derived.Test.YtapmjpihennhaaaGreatDoorPg
import Derived.Test.YtapmjpihennhaaaGreatDoorPj
set_option linter.unusedVariables false
set_option linter.unusedSimpArgs false
namespace Go.Proofs.YtapmjpihennhaaaGreatDoor
open Go.Abs Go.Eu Go.ChangeShapes Go.WideShapes Go.ChangeAt Go.RowKit
theorem Zk : ∀ t ∈ Tryz.f3.params.toList, Tryz.prog.readableRec t = true ∧ t < Tryz.prog.types.size := by
 rw [Tryz.params3]
 intro t ht
 simp only [List.mem_cons, List.not_mem_nil, or_false] at ht
 rcases ht with rfl | rfl | rfl
 ·exact ⟨by kernel_rfl, of_decide_eq_true Ai⟩
 ·exact ⟨by kernel_rfl, of_decide_eq_true Ai⟩
 ·exact ⟨by kernel_rfl, of_decide_eq_true Ai⟩
theorem JP (os : Os) {H : Type} (enc : TypeId × Value → H) : ∃ places, DataW.whole enc Tryz.prog ((EX os).forCall (fun _ _ => 0) ⟨#[], #[.agg #[.string ⟨#[]⟩, .string ⟨#[]⟩, .string ⟨#[]⟩, .string ⟨#[]⟩, .string ⟨#[]⟩, .string ⟨#[]⟩, .slice none 0 0], .slice none 0 0, .slice none 0 0], []⟩).memory Tryz.f3.params.toList Rows.abelianBuildsSpec.vars false (#[.agg #[.string ⟨#[]⟩, .string ⟨#[]⟩, .string ⟨#[]⟩, .string ⟨#[]⟩, .string ⟨#[]⟩, .string ⟨#[]⟩, .slice none 0 0], .slice none 0 0, .slice none 0 0] : Array Value).toList 8 = some ([.agg [.lit (.string []), .lit (.string []), .lit (.string []), .lit (.string []), .lit (.string []), .lit (.string []), .nil], .nil, .nil], [], places) :=
 ⟨[], by kernel_rfl⟩
set_option maxRecDepth 100000 in
theorem IZ (os : Os) (started : os.Started) (H : Type) (enc : TypeId × Value → H) (F : Stop.Interp) :
  ReturnsInHanded {} Tryz.checked os 3 .any ((OpenSpec.ofChange Rows.abelianBuildsSpec).preRow enc Tryz.prog Tryz.f3 Rows.abelianBuildsRow.domain false Rows.abelianBuildsRow.laid) (((OpenSpec.ofChange Rows.abelianBuildsSpec).at F).post enc Tryz.prog Tryz.f3 false true false false) := by
 obtain ⟨places, hx⟩ := JP os enc
 refine returnsInHanded_of_row (C := Tryz.checked) (s := OpenSpec.ofChange Rows.abelianBuildsSpec) own started Ai Tryz.func3
  (witness_row_atRef (enc := enc) (C := Tryz.checked) false (EX os) #[.agg #[.string ⟨#[]⟩, .string ⟨#[]⟩, .string ⟨#[]⟩, .string ⟨#[]⟩, .string ⟨#[]⟩, .string ⟨#[]⟩, .slice none 0 0], .slice none 0 0, .slice none 0 0] rfl Ai Ai Ai
   (OpenSpec.preRow_of_cond 8 hx Ai (fun k hk => by cases hk) Ai (Sf os _))) ?_
 intro W base args ds gs before hval0 hW _ _ hwt hL0 _ _
 have hL : laidMet Tryz.prog IJ W := hL0
 have hval : ∀ (j : Nat) t v, Tryz.f3.params[j]? = some t → args[j]? = some v → Value.okWide Tryz.prog W .any base t v := hval0
 have hW' := hW
 obtain ⟨p, q, hA0, hV, hps, hfz, hnd⟩ := hW'
 have hA : DataW.TrodAll enc Tryz.prog W 0 (fun _ => true) true Tryz.f3.params.toList args.toList ds p := hA0
 rw [Tryz.params3] at hA hval
 obtain ⟨v0, vs0, d0, ds0, p0, q0, hargs, hds, hp0, h0, r0⟩ := trodAll_cons hA
 obtain ⟨v1, vs1, d1, ds1, p1, q1, rfl, rfl, hp1, h1, r1⟩ := trodAll_cons r0
 obtain ⟨v2, vs2, d2, ds2, p2, q2, rfl, rfl, hp2, h2, r2⟩ := trodAll_cons r1
 obtain ⟨rfl, rfl, _⟩ := trodAll_nil r2
 obtain rfl : args = #[v0, v1, v2] := by cases args; simp_all
 subst hds
 obtain ⟨rfl, _⟩ := trodVars_none hV
 obtain ⟨l0, a0, c0⟩ := WS Zy Y5 (hval 0 24 v0 rfl rfl) h0 (Ik hwt 0 24 d0 Ai rfl)
 obtain ⟨l1, a1, b1, c1⟩ := V7 Zy Yo (hval 1 25 v1 rfl rfl) h1
 obtain ⟨l2, a2, b2, c2⟩ := WM Zy (hval 2 26 v2 rfl rfl) h2
 refine (PR (WY (blocks W) (Uv (SS hL) (T9 hL) (WZ hL)) l0 l1 l2 a0 a1 b2 a2) (w := W) (Rp W) (vs := [v0, v1, v2]) ⟨_, _, Ao, c0, ⟨_, _, Ao, c1, ⟨_, _, Ao, c2, Ao⟩⟩⟩).mono fun e W' ⟨he, hb⟩ => ?_
 subst he
 exact ⟨_, Ao, Qc laidOut (s := Rows.abelianBuildsSpec) (tB := 4) Ai Ai Ao (Zk) hW Ao Ao Ao hb⟩
theorem Jn : Rows.AbelianBuildsSaid :=
 OpenClaim.holds_of_cond 3 Tryz.f3 rfl rfl rfl rfl rfl rfl rfl ⟨rfl, rfl, rfl, rfl, rfl⟩ rfl rfl rfl rfl rfl Ai Tryz.func3 Ai
  (of_decide_eq_true Ai) (by unfold Func.isWrapper; first | (rw [if_pos (by decide +kernel)]; kernel_rfl) | (rw [if_neg (by decide +kernel)]; exact ⟨rfl, rfl⟩))
  (fun os started H enc _ F => by rw [OpenClaim.pre_eq_preRow]; exact IZ os started H enc F)
theorem JU (f : FuncId) (fn : Func) (hf : Tryz.pinned.checked.prog.funcNamed "euclid/euclidlaw40.AbelianBuilds" = some f) (hfn : Tryz.pinned.checked.prog.funcs[f]? = some fn) :
  false = Tryz.pinned.checked.prog.looks [] ∧ ∀ (j : Nat) t, fn.params[j]? = some t → Tryz.pinned.checked.prog.wantsStandIn t = false := by
 obtain rfl : f = 3 := Option.some.inj ((show Tryz.prog.funcNamed "euclid/euclidlaw40.AbelianBuilds" = some 3 by kernel_rfl).symm.trans hf) |>.symm
 obtain rfl : fn = Tryz.f3 := (Option.some.inj (Tryz.func3.symm.trans hfn)).symm
 refine ⟨by kernel_rfl, fun j t ht => ?_⟩
 rw [Tryz.params3] at ht
 have hm := Array.mem_of_getElem? ht
 simp only [List.mem_toArray, List.mem_cons, List.not_mem_nil, or_false] at hm
 rcases hm with rfl | rfl | rfl
 ·exact (show Tryz.prog.wantsStandIn 24 = false by kernel_rfl)
 ·exact (show Tryz.prog.wantsStandIn 25 = false by kernel_rfl)
 ·exact (show Tryz.prog.wantsStandIn 26 = false by kernel_rfl)
theorem abelianBuilds_holds : Rows.AbelianBuildsCardSaid :=
 Claim7.holds_tied_plain_at .later [] _ _ _ _ Jn (fun _ h => by cases h) Ai (fun _ h => by cases h) abelianBuilds_row_tie rfl ⟨rfl, rfl⟩ Ai rfl JU Ai
end Go.Proofs.YtapmjpihennhaaaGreatDoor
