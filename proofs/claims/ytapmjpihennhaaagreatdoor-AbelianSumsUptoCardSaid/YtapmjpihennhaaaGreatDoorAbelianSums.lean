/- For every environment, theory and term of bulk at most 1048576, AbelianSums returns true and leaves its arguments as they were; the library's tables lie as the row lists them, tied to the program's text. -/
import Derived.Test.YtapmjpihennhaaaGreatDoorCards
import Derived.Test.YtapmjpihennhaaaGreatDoorPf
import Derived.Test.YtapmjpihennhaaaGreatDoorPi
set_option linter.unusedVariables false
set_option linter.unusedSimpArgs false
namespace Go.Proofs.YtapmjpihennhaaaGreatDoor
open Go.Abs Go.Eu Go.ChangeShapes Go.WideShapes Go.ChangeAt Go.RowKit
theorem gI : ∀ t ∈ Tryz.f4.params.toList, Tryz.prog.readableRec t = true ∧ t < Tryz.prog.types.size := by
 rw [Tryz.params4]
 intro t ht
 simp only [List.mem_cons, List.not_mem_nil, or_false] at ht
 rcases ht with rfl | rfl | rfl
 ·exact ⟨by kernel_rfl, of_decide_eq_true Ar⟩
 ·exact ⟨by kernel_rfl, of_decide_eq_true Ar⟩
 exact ⟨by kernel_rfl, of_decide_eq_true Ar⟩
theorem Md (os : Os) {H : Type} (enc : TypeId × Value → H) : ∃ places, DataW.whole enc Tryz.prog ((Fb os).forCall (fun _ _ => 0) ⟨#[], #[.slice none 0 0, .agg #[.string ⟨#[]⟩, .string ⟨#[]⟩, .string ⟨#[]⟩, .string ⟨#[]⟩, .string ⟨#[]⟩, .string ⟨#[]⟩, .slice none 0 0], .agg #[.int .i64 0, .int .i64 0, .string ⟨#[]⟩, .slice none 0 0, .slice none 0 0]], []⟩).memory Tryz.f4.params.toList (Rows.OpenSpec.upto Rows.abelianSumsSpec).vars false (#[.slice none 0 0, .agg #[.string ⟨#[]⟩, .string ⟨#[]⟩, .string ⟨#[]⟩, .string ⟨#[]⟩, .string ⟨#[]⟩, .string ⟨#[]⟩, .slice none 0 0], .agg #[.int .i64 0, .int .i64 0, .string ⟨#[]⟩, .slice none 0 0, .slice none 0 0]] : Array Value).toList 8 = some ([.nil, .agg [.lit (.string []), .lit (.string []), .lit (.string []), .lit (.string []), .lit (.string []), .lit (.string []), .nil], .agg [.lit (.int .i64 0), .lit (.int .i64 0), .lit (.string []), .nil, .nil]], [], places) :=
 ⟨[], by kernel_rfl⟩
set_option maxRecDepth 100000 in
theorem Lk (os : Os) (started : os.Started) (H : Type) (enc : TypeId × Value → H) (F : Stop.Interp) :
  ReturnsInHanded {} Tryz.checked os 4 .any ((Rows.OpenSpec.upto Rows.abelianSumsSpec).preRow enc Tryz.prog Tryz.f4 Rows.abelianSumsUptoRow.domain false Rows.abelianSumsUptoRow.laid) (((Rows.OpenSpec.upto Rows.abelianSumsSpec).at F).post enc Tryz.prog Tryz.f4 false true false false) := by
 obtain ⟨places, hx⟩ := Md os enc
 refine returnsInHanded_of_row (C := Tryz.checked) (s := (Rows.OpenSpec.upto Rows.abelianSumsSpec)) own started Ar Tryz.func4
  (witness_row_atRef (enc := enc) (C := Tryz.checked) false (Fb os) #[.slice none 0 0, .agg #[.string ⟨#[]⟩, .string ⟨#[]⟩, .string ⟨#[]⟩, .string ⟨#[]⟩, .string ⟨#[]⟩, .string ⟨#[]⟩, .slice none 0 0], .agg #[.int .i64 0, .int .i64 0, .string ⟨#[]⟩, .slice none 0 0, .slice none 0 0]] rfl Ar Ar Ar
   (OpenSpec.preRow_of_cond 8 hx Ar (fun k hk => by cases hk; kernel_rfl) Ar (XK os _))) ?_
 intro W base args ds gs before hval0 hW _ hcd hwt hL0 _ _
 have hU : Rows.uptoSmall H (ds ++ gs) = true := hcd _ rfl
 have hL : laidMet Tryz.prog KG W := hL0
 have hval : ∀ (j : Nat) t v, Tryz.f4.params[j]? = some t → args[j]? = some v → Value.okWide Tryz.prog W .any base t v := hval0
 have hW' := hW
 obtain ⟨p, q, hA0, hV, hps, hfz, hnd⟩ := hW'
 have hA : DataW.TrodAll enc Tryz.prog W 0 (fun _ => true) true Tryz.f4.params.toList args.toList ds p := hA0
 rw [Tryz.params4] at hA hval
 obtain ⟨v0, vs0, d0, ds0, p0, q0, hargs, hds, hp0, h0, r0⟩ := trodAll_cons hA
 obtain ⟨v1, vs1, d1, ds1, p1, q1, rfl, rfl, hp1, h1, r1⟩ := trodAll_cons r0
 obtain ⟨v2, vs2, d2, ds2, p2, q2, rfl, rfl, hp2, h2, r2⟩ := trodAll_cons r1
 obtain ⟨rfl, rfl, _⟩ := trodAll_nil r2
 obtain rfl : args = #[v0, v1, v2] := by cases args; simp_all
 subst hds
 obtain ⟨rfl, _⟩ := trodVars_none hV
 obtain ⟨l0, a0, c0⟩ := Z6 (blk H) jJ fH (hval 0 36 v0 rfl rfl) h0 (X7 hU (i := 0) rfl)
 obtain ⟨l1, a1, c1⟩ := Zk fH e8 (hval 1 24 v1 rfl rfl) h1 (Ka hwt 1 24 d1 Ar rfl)
 obtain ⟨l2, b2, c2⟩ := cm fH (hval 2 33 v2 rfl rfl) h2
 refine (Ry (X5 (blocks W) (Yj (WE hL) (YL hL) (aM hL)) l0 l1 l2 a0 a1 b2) (w := W) (VG W) (vs := [v0, v1, v2]) ⟨_, _, Ay, c0, ⟨_, _, Ay, c1, ⟨_, _, Ay, c2, Ay⟩⟩⟩).mono fun e W' ⟨he, hb⟩ => ?_
 subst he
 exact ⟨_, Ay, Tp laidOut (s := Rows.abelianSumsSpec) (tB := 4) Ar Ar Ay (gI) hW Ay Ay Ay hb⟩
theorem M8 : Rows.AbelianSumsUptoSaid :=
 OpenClaim.holds_of_cond 4 Tryz.f4 rfl rfl rfl rfl rfl rfl rfl ⟨rfl, rfl, rfl, rfl, rfl⟩ rfl rfl rfl rfl rfl Ar Tryz.func4 Ar
  (of_decide_eq_true Ar) (by unfold Func.isWrapper; first | (rw [if_pos (by decide +kernel)]; kernel_rfl) | (rw [if_neg (by decide +kernel)]; exact ⟨rfl, rfl⟩))
  (fun os started H enc _ F => by rw [OpenClaim.pre_eq_preRow]; exact Lk os started H enc F)
theorem MI (f : FuncId) (fn : Func) (hf : Tryz.pinned.checked.prog.funcNamed "euclid/euclidlaw40.AbelianSums" = some f) (hfn : Tryz.pinned.checked.prog.funcs[f]? = some fn) :
  false = Tryz.pinned.checked.prog.looks [] ∧ ∀ (j : Nat) t, fn.params[j]? = some t → Tryz.pinned.checked.prog.wantsStandIn t = false := by
 obtain rfl : f = 4 := Option.some.inj ((show Tryz.prog.funcNamed "euclid/euclidlaw40.AbelianSums" = some 4 by kernel_rfl).symm.trans hf) |>.symm
 obtain rfl : fn = Tryz.f4 := (Option.some.inj (Tryz.func4.symm.trans hfn)).symm
 refine ⟨by kernel_rfl, fun j t ht => ?_⟩
 rw [Tryz.params4] at ht
 have hm := Array.mem_of_getElem? ht
 simp only [List.mem_toArray, List.mem_cons, List.not_mem_nil, or_false] at hm
 rcases hm with rfl | rfl | rfl
 ·exact (show Tryz.prog.wantsStandIn 36 = false by kernel_rfl)
 ·exact (show Tryz.prog.wantsStandIn 24 = false by kernel_rfl)
 exact (show Tryz.prog.wantsStandIn 33 = false by kernel_rfl)
theorem abelianSums_holds : Rows.AbelianSumsUptoCardSaid :=
 Claim7.holds_tied_plain_at .later [] _ _ _ _ M8 (fun _ h => by cases h) Ar (fun _ h => by cases h) abelianSumsUpto_row_tie rfl ⟨rfl, rfl⟩ Ar rfl MI Ar
end Go.Proofs.YtapmjpihennhaaaGreatDoor
