/- Part of the proofs: an abstract program logic, plain models and contracts of functions. -/
import Derived.Shelf.Strconv.Quote
import Derived.Shelf.LaysM
import Derived.Shelf.Strconv.Itoa3
import Derived.Test.YtapmjpihennhaaaGreatDoorProg
import Derived.Test.YtapmjpihennhaaaGreatDoorPe
import Derived.Test.YtapmjpihennhaaaGreatDoorPd
import Derived.KernelRfl
import Derived.Lib.QuoteLoop
import Derived.Laws.BytesArg
import Derived.Test.YtapmjpihennhaaaGreatDoorPb
import Derived.ProofKit
import Derived.Deep.DeepHandedRow
import Derived.Test.YtapmjpihennhaaaGreatDoorRows
import Derived.Test.YtapmjpihennhaaaGreatDoorTie
import Derived.Deep.DeepWitnessRowRef
import Derived.Lib.LaidIn
import Derived.Lib.LaidSlice
import Derived.Lib.LaidTab
import Derived.Lib.LaidU8
import Derived.Lib.LaidPrint
set_option linter.unusedVariables false
set_option linter.unusedSimpArgs false
set_option maxRecDepth 1000000
namespace Go.Proofs
open Go.Shelf
def Tryz.lays177_ren : Go.Shelf.Ren := ⟨fun | 177 => 144 | 250 => 155 | 289 => 160 | 197 => 165 | 323 => 166 | 260 => 172 | 339 => 173 | 340 => 174 | 242 => 175 | 119 => 176 | 345 => 179 | 346 => 180 | 278 => 181 | n => n, fun | 9 => 9 | 5 => 5 | 4 => 4 | 3 => 3 | 37 => 184 | 21 => 21 | 105 => 237 | 46 => 239 | 119 => 250 | 0 => 0 | 139 => 253 | 138 => 252 | 49 => 254 | 234 => 255 | 131 => 49 | 51 => 243 | 236 => 257 | n => n, fun | 3 => 1 | 4 => 2 | 20 => 3 | 21 => 4 | 22 => 5 | 23 => 6 | 24 => 7 | n => n⟩
theorem Tryz.lays177 : Go.Proofs.Lays.n177 Tryz.prog Tryz.lays177_ren := {
 mixed := by kernel_rfl
 f119 := Tryz.func176.trans (congrArg some An)
 f177 := Tryz.func144.trans (congrArg some An)
 f197 := Tryz.func165.trans (congrArg some An)
 f242 := Tryz.func175.trans (congrArg some An)
 f250 := Tryz.func155.trans (congrArg some An)
 f260 := Tryz.func172.trans (congrArg some An)
 f278 := Tryz.func181.trans (congrArg some An)
 f289 := Tryz.func160.trans (congrArg some An)
 f323 := Tryz.func166.trans (congrArg some An)
 f339 := Tryz.func173.trans (congrArg some An)
 f340 := Tryz.func174.trans (congrArg some An)
 f345 := Tryz.func179.trans (congrArg some An)
 f346 := Tryz.func180.trans (congrArg some An)
 t0 := Tryz.underlying0
 a0 := Tryz.isAgg0
 z0 := Tryz.sizeOf0
 v0 := Tryz.zeroValue0
 t3 := Tryz.underlying3
 a3 := Tryz.isAgg3
 z3 := Tryz.sizeOf3
 v3 := Tryz.zeroValue3
 t4 := Tryz.underlying4
 a4 := Tryz.isAgg4
 z4 := Tryz.sizeOf4
 v4 := Tryz.zeroValue4
 t5 := Tryz.underlying5
 a5 := Tryz.isAgg5
 z5 := Tryz.sizeOf5
 v5 := Tryz.zeroValue5
 t9 := Tryz.underlying9
 a9 := Tryz.isAgg9
 z9 := Tryz.sizeOf9
 v9 := Tryz.zeroValue9
 t21 := Tryz.underlying21
 a21 := Tryz.isAgg21
 z21 := Tryz.sizeOf21
 v21 := Tryz.zeroValue21
 t37 := Tryz.underlying184
 a37 := Tryz.isAgg184
 z37 := Tryz.sizeOf184
 v37 := Tryz.zeroValue184
 t46 := Tryz.underlying239
 a46 := Tryz.isAgg239
 z46 := Tryz.sizeOf239
 v46 := Tryz.zeroValue239
 t49 := Tryz.underlying254
 a49 := Tryz.isAgg254
 z49 := Tryz.sizeOf254
 v49 := Tryz.zeroValue254
 t51 := Tryz.underlying243
 a51 := Tryz.isAgg243
 z51 := Tryz.sizeOf243
 v51 := Tryz.zeroValue243
 t105 := Tryz.underlying237
 a105 := Tryz.isAgg237
 z105 := Tryz.sizeOf237
 v105 := Tryz.zeroValue237
 t119 := Tryz.underlying250
 a119 := Tryz.isAgg250
 z119 := Tryz.sizeOf250
 t131 := Tryz.underlying49
 a131 := Tryz.isAgg49
 z131 := Tryz.sizeOf49
 v131 := Tryz.zeroValue49
 t138 := Tryz.underlying252
 a138 := Tryz.isAgg252
 z138 := Tryz.sizeOf252
 v138 := Tryz.zeroValue252
 t139 := Tryz.underlying253
 a139 := Tryz.isAgg253
 z139 := Tryz.sizeOf253
 v139 := Tryz.zeroValue253
 t234 := Tryz.underlying255
 a234 := Tryz.isAgg255
 z234 := Tryz.sizeOf255
 v234 := Tryz.zeroValue255
 t236 := Tryz.underlying257
 a236 := Tryz.isAgg257
 z236 := Tryz.sizeOf257
 v236 := Tryz.zeroValue257
 g3 := by kernel_rfl
 g4 := by kernel_rfl
 g20 := by kernel_rfl
 g21 := by kernel_rfl
 g22 := by kernel_rfl
 g23 := by kernel_rfl
 g24 := by kernel_rfl }
open Go.RowKit in
theorem Tryz.strconv_Quote (T : Lib.PrintTabs) (s : ByteArray) (w : World) (hlen : 10 * s.size + 12 ≤ 140737488355328) (hT : Lib.PrintTabsAt 3 4 5 6 T w) (hU : Lib.Utf8Tabs 1 2 w) :
  Calls Tryz.prog 144 #[.string s] w fun e w' => e = .returned (.string (strOfNums (Lib.quoteZ T s))) ∧ Below w.heap.size w w' := Any.strconv_Quote Tryz.lays177 An T s w hlen hT hU
def Tryz.laysM171_ren : Go.Shelf.Ren := ⟨fun | 171 => 143 | 243 => 154 | 246 => 159 | 283 => 161 | 284 => 162 | 285 => 163 | 286 => 164 | 129 => 168 | 317 => 167 | 318 => 169 | 319 => 170 | 320 => 171 | 337 => 177 | 338 => 178 | n => n, fun | 3 => 3 | 9 => 9 | 2 => 2 | 4 => 4 | 171 => 231 | 0 => 0 | 53 => 232 | 37 => 184 | 5 => 5 | 173 => 235 | 212 => 242 | 51 => 243 | 20 => 20 | 213 => 244 | 46 => 239 | 232 => 259 | 233 => 260 | n => n, fun | 17 => 0 | 18 => 8 | 19 => 9 | n => n⟩
theorem Tryz.laysM171 : Go.Proofs.LaysM.n171 Tryz.prog Tryz.laysM171_ren := {
 mixed := by kernel_rfl
 f129 := Tryz.func168.trans (congrArg some An)
 f171 := Tryz.func143.trans (congrArg some An)
 f243 := Tryz.func154.trans (congrArg some An)
 f246 := Tryz.func159.trans (congrArg some An)
 f283 := Tryz.func161.trans (congrArg some An)
 f284 := Tryz.func162.trans (congrArg some An)
 f285 := Tryz.func163.trans (congrArg some An)
 f286 := Tryz.func164.trans (congrArg some An)
 f317 := Tryz.func167.trans (congrArg some An)
 f318 := Tryz.func169.trans (congrArg some An)
 f319 := Tryz.func170.trans (congrArg some An)
 f320 := Tryz.func171.trans (congrArg some An)
 f337 := Tryz.func177.trans (congrArg some An)
 f338 := Tryz.func178.trans (congrArg some An)
 t0 := Tryz.underlying0
 a0 := Tryz.isAgg0
 z0 := Tryz.sizeOf0
 v0 := Tryz.zeroValue0
 t2 := Tryz.underlying2
 a2 := Tryz.isAgg2
 z2 := Tryz.sizeOf2
 v2 := Tryz.zeroValue2
 t3 := Tryz.underlying3
 a3 := Tryz.isAgg3
 z3 := Tryz.sizeOf3
 v3 := Tryz.zeroValue3
 t4 := Tryz.underlying4
 a4 := Tryz.isAgg4
 z4 := Tryz.sizeOf4
 v4 := Tryz.zeroValue4
 t5 := Tryz.underlying5
 a5 := Tryz.isAgg5
 z5 := Tryz.sizeOf5
 v5 := Tryz.zeroValue5
 t9 := Tryz.underlying9
 a9 := Tryz.isAgg9
 z9 := Tryz.sizeOf9
 v9 := Tryz.zeroValue9
 t20 := Tryz.underlying20
 a20 := Tryz.isAgg20
 z20 := Tryz.sizeOf20
 v20 := Tryz.zeroValue20
 t37 := Tryz.underlying184
 a37 := Tryz.isAgg184
 z37 := Tryz.sizeOf184
 v37 := Tryz.zeroValue184
 t46 := Tryz.underlying239
 a46 := Tryz.isAgg239
 z46 := Tryz.sizeOf239
 v46 := Tryz.zeroValue239
 t51 := Tryz.underlying243
 a51 := Tryz.isAgg243
 z51 := Tryz.sizeOf243
 v51 := Tryz.zeroValue243
 t53 := Tryz.underlying232
 a53 := Tryz.isAgg232
 z53 := Tryz.sizeOf232
 v53 := Tryz.zeroValue232
 t171 := Tryz.underlying231
 a171 := Tryz.isAgg231
 z171 := Tryz.sizeOf231
 v171 := Tryz.zeroValue231
 t173 := Tryz.underlying235
 a173 := Tryz.isAgg235
 z173 := Tryz.sizeOf235
 v173 := Tryz.zeroValue235
 t212 := Tryz.underlying242
 a212 := Tryz.isAgg242
 z212 := Tryz.sizeOf242
 v212 := Tryz.zeroValue242
 t213 := Tryz.underlying244
 a213 := Tryz.isAgg244
 z213 := Tryz.sizeOf244
 t232 := Tryz.underlying259
 a232 := Tryz.isAgg259
 z232 := Tryz.sizeOf259
 v232 := Tryz.zeroValue259
 t233 := Tryz.underlying260
 a233 := Tryz.isAgg260
 z233 := Tryz.sizeOf260
 v233 := Tryz.zeroValue260
 g17 := by kernel_rfl
 g18 := by kernel_rfl
 g19 := by kernel_rfl
 i0 := by kernel_rfl
 i2 := by kernel_rfl
 i3 := by kernel_rfl
 i4 := by kernel_rfl
 i5 := by kernel_rfl
 i9 := by kernel_rfl
 i20 := by kernel_rfl
 i37 := by kernel_rfl
 i46 := by kernel_rfl
 i51 := by kernel_rfl
 i53 := by kernel_rfl
 i171 := by kernel_rfl
 i173 := by kernel_rfl
 i212 := by kernel_rfl
 i232 := by kernel_rfl
 i233 := by kernel_rfl
 m17 := by kernel_rfl
 m18 := by kernel_rfl
 m19 := by kernel_rfl }
open Go.RowKit Go.Sort Go.Lib in
theorem Tryz.strconv_Itoa (n : Int) (h0 : -9223372036854775808 ≤ n) (h1 : n ≤ 9223372036854775807) (w : World) (htab : Lib.TabIs Tryz.prog w "internal/strconv.uint64pow10" .u64 Lib.pow10Tab) :
  Calls Tryz.prog 143 #[.int .i64 n] w fun e w' => e = .returned (.string ⟨(Lib.itoa n).toArray⟩) ∧ ∃ k os, w' = grow (w.drewN k) os := Any.strconv_Itoa Tryz.laysM171 n h0 h1 w htab
end Go.Proofs
namespace Go.Eu
open Go.Abs
theorem Wk {th : BJ} {t : Tm} (h : (DN (Bq t).1 th.add && ((Bq t).2.length : Int) == 2) = true) : Cu th t = (1, (Bq t).2) := by unfold Cu; rw [if_pos h]
theorem Vi {th : BJ} {t : Tm} (h : (DN (Bq t).1 th.add && ((Bq t).2.length : Int) == 2) = false) (h1 : (DN (Bq t).1 th.zero && ((Bq t).2.length : Int) == 0) = true) : Cu th t = (2, []) := by unfold Cu; rw [if_neg (by rw [h]; decide), if_pos h1]
theorem Wf {th : BJ} {t : Tm} (h : (DN (Bq t).1 th.add && ((Bq t).2.length : Int) == 2) = false) (h1 : (DN (Bq t).1 th.zero && ((Bq t).2.length : Int) == 0) = false) (h2 : (DN (Bq t).1 th.neg && ((Bq t).2.length : Int) == 1) = true) : Cu th t = (3, (Bq t).2) := by unfold Cu; rw [if_neg (by rw [h]; decide), if_neg (by rw [h1]; decide), if_pos h2]
theorem U1 {th : BJ} {t : Tm} (h : (DN (Bq t).1 th.add && ((Bq t).2.length : Int) == 2) = false) (h1 : (DN (Bq t).1 th.zero && ((Bq t).2.length : Int) == 0) = false) (h2 : (DN (Bq t).1 th.neg && ((Bq t).2.length : Int) == 1) = false) : Cu th t = (0, []) := by unfold Cu; rw [if_neg (by rw [h]; decide), if_neg (by rw [h1]; decide), if_neg (by rw [h2]; decide)]
section
variable {th : BJ} {n : Nat} {C : FQ} {t x y : Tm} {s : Int}
theorem KS (h : C.all > 200) : Bw th (n + 1) C t s = C := by unfold Bw; rw [if_pos h]
theorem HI (h : ¬ C.all > 200) (ho : (Cu th t).1 = 1) (hx : (Cu th t).2[0]? = some x) (hy : (Cu th t).2[1]? = some y) : Bw th (n + 1) C t s = Bw th n (Bw th n C x s) y s := by
 rw [Bw, if_neg h, if_pos ho, Cs hx, Cs hy]
theorem Gg (h : ¬ C.all > 200) (ho : (Cu th t).1 = 2) : Bw th (n + 1) C t s = C := by
 rw [Bw, if_neg h, if_neg (by rw [ho]; decide), if_pos ho]
theorem HM (h : ¬ C.all > 200) (ho : (Cu th t).1 = 3) (hx : (Cu th t).2[0]? = some x) : Bw th (n + 1) C t s = Bw th n C x (wr (0 - s)) := by
 rw [Bw, if_neg h, if_neg (by rw [ho]; decide), if_neg (by rw [ho]; decide), if_pos ho, Cs hx, Int.zero_sub]
theorem E2 (h : ¬ C.all > 200) (ho : (Cu th t).1 = 0) : Bw th (n + 1) C t s = ET C t s := by
 rw [Bw, if_neg h, if_neg (by rw [ho]; decide), if_neg (by rw [ho]; decide), if_neg (by rw [ho]; decide)]
end
def R8 (C : FQ) : Prop := ∀ a ∈ C.atoms, ER a ∧ size a < 1000000
theorem U5 {C : FQ} {t : Tm} {s : Int} (h : R8 C) (ht : ER t ∧ size t < 1000000) : R8 (ET C t s) := by
 unfold ET
 split
 ·exact h
 ·intro a ha
  rcases List.mem_append.1 ha with ha | ha
  ·exact h a ha
  ·simp at ha; subst ha; exact ht
theorem Fp {th : BJ} : ∀ (n : Nat) (C : FQ) (t : Tm) (s : Int), R8 C → ER t → size t < 1000000 → R8 (Bw th n C t s)
 | 0, C, t, s, h, _, _ => h
 | n + 1, C, t, s, h, ht, hs => by
  unfold Bw
  split
  ·exact h
  ·split
   ·rename_i ho
    obtain ⟨h1, h2, h3⟩ := ht.op.1 ho
    exact Fp n _ _ _ (Fp n _ _ _ h h1 Ar) h2 Ar
   ·split
    ·exact h
    ·split
     ·rename_i ho
      obtain ⟨h1, h3⟩ := ht.op.2 ho
      exact Fp n _ _ _ h h1 Ar
     ·exact U5 h ⟨ht, hs⟩
theorem R8.nds {C : FQ} (h : R8 C) : Ic C.atoms := QE fun t ht => (h t ht).1.nd
theorem Ft.lt {C : FQ} (h : Ft C) : C.atoms.length < 1000 := by have := h.lo; have := h.hi; omega
theorem QC (c : Nat) (C : FQ) : ∃ T, QU c C T := ⟨_, none, 0, none, 0, rfl⟩
noncomputable def CP (th : BJ) (t : Tm) : FQ := Bw th (size t) ⟨[], [], 0⟩ t 1
noncomputable def B5 (th : BJ) (t : Tm) : List Int × List Tm × Int := if (CP th t).all > 200 then ([], [], 5) else ((CP th t).coefs, (CP th t).atoms, 0)
theorem IQ {th : BJ} {t : Tm} (h : (CP th t).all > 200) : B5 th t = ([], [], 5) := if_pos h
theorem GQ {th : BJ} {t : Tm} (h : ¬ (CP th t).all > 200) : B5 th t = ((CP th t).coefs, (CP th t).atoms, 0) := if_neg h
theorem Fx : Ft ⟨[], [], 0⟩ := ⟨rfl, by simp, by simp⟩
theorem LA : R8 ⟨[], [], 0⟩ := fun a h => by simp at h
theorem FO (th : BJ) (t : Tm) : Ft (CP th t) := Dh _ _ _ _ Fx
theorem Q7 {th : BJ} {t : Tm} (h : ER t) (hs : size t < 1000000) : R8 (CP th t) := Fp _ _ _ _ LA h hs
noncomputable def OT (C : FQ) (t : Tm) : FQ := if Cl C.atoms t < C.atoms.length then C else ⟨C.coefs ++ [0], C.atoms ++ [t], C.all⟩
theorem R6 {C : FQ} {t : Tm} (h : t ∈ C.atoms) : OT C t = C := if_pos (Da h).1
theorem P3 {C : FQ} {t : Tm} (h : t ∉ C.atoms) : OT C t = ⟨C.coefs ++ [0], C.atoms ++ [t], C.all⟩ := if_neg (DR h)
theorem HZ {A : List Tm} {t : Tm} (h : t ∉ A) : Cl (A ++ [t]) t = A.length := by
 refine HR (l := A ++ [t]) (y := t) As (C3 At) fun j hj x hx => ?_
 rw [List.getElem?_append_left hj] at hx
 exact DK fun e => h (e ▸ List.mem_of_getElem? hx)
theorem Yw {C : FQ} {t : Tm} (hl : C.coefs.length = C.atoms.length) : Cl (OT C t).atoms t < (OT C t).coefs.length := by
 by_cases h : t ∈ C.atoms
 ·rw [R6 h, hl]; exact (Da h).1
 ·rw [P3 h]; simp only [HZ h, List.length_append, hl, List.length_cons, List.length_nil]; omega
theorem X5 {C : FQ} {t : Tm} {s : Int} (hl : C.coefs.length = C.atoms.length) (hs : rng s) {y : Int} {i : Nat} (hi : i = Cl (OT ⟨C.coefs, C.atoms, wr (C.all + 1)⟩ t).atoms t) (hy : (OT ⟨C.coefs, C.atoms, wr (C.all + 1)⟩ t).coefs[i]? = some y) :
  (⟨(OT ⟨C.coefs, C.atoms, wr (C.all + 1)⟩ t).coefs.set i (wr (y + s)), (OT ⟨C.coefs, C.atoms, wr (C.all + 1)⟩ t).atoms, (OT ⟨C.coefs, C.atoms, wr (C.all + 1)⟩ t).all⟩ : FQ) = ET C t s := by
 subst hi
 by_cases h : t ∈ C.atoms
 ·have e := R6 (C := ⟨C.coefs, C.atoms, wr (C.all + 1)⟩) h
  rw [e] at hy ⊢
  unfold ET
  rw [if_pos (Da h).1, Cs hy]
 ·have e := P3 (C := ⟨C.coefs, C.atoms, wr (C.all + 1)⟩) h
  rw [e] at hy ⊢
  unfold ET
  rw [if_neg (DR h)]
  simp only [HZ h] at hy ⊢
  rw [← hl] at hy ⊢
  rw [List.getElem?_append_right (Nat.le_refl _)] at hy
  simp at hy
  subst hy
  rw [List.set_append_right _ _ (Nat.le_refl _), Int.zero_add, FZ hs]
  simp
theorem Nr (t : Tm) : 0 < (Ir t).length := by cases t; simp [Ir]
theorem Vn (U e : TypeId) (b : Nat) (l : List UInt8) : ∃ T, BX U e b l T := ⟨_, .nilp, 0, 0, false, rfl⟩
theorem Ux : ∀ F w, CR F w (.p (I 0)) (.int .i64 0) := fun F w => by simp [CR, CV]
theorem R8.nq {C : FQ} (h : R8 C) : ∀ a ∈ C.atoms, My a := fun a ha => (h a ha).1.nq
theorem Nv (n : Int) : rng (wr n) := by
 unfold rng wr
 rw [IntKind.wrap_i64]
 omega
end Go.Eu
namespace Go.Abs
theorem PJ {α : Type} : ∀ (xs l : List α) (o : Nat), o + xs.length ≤ l.length → splice l o xs = l.take o ++ xs ++ l.drop (o + xs.length)
 | [], l, o, h => by simp [splice]
 | x :: xs, l, o, h => by
  simp only [List.length_cons] at h
  rw [splice, PJ xs _ _ (by rw [List.length_set]; omega)]
  have h1 : (l.set o x).take (o + 1) = l.take o ++ [x] := by
   rw [List.take_add_one, List.getElem?_set_self Ar, List.take_set_of_le (Nat.le_refl _)]
   rfl
  have h2 : (l.set o x).drop (o + 1 + xs.length) = l.drop (o + (x :: xs).length) := by
   rw [List.drop_set_of_lt Ar]
   congr 1
   simp only [List.length_cons]
   omega
  rw [h1, h2]
  simp
def FG : Nat → List (List PV) → List (Nat × AV)
 | _, [] => []
 | k, r :: rs => (k, .agg (r.map .p)) :: FG (k + 1) rs
theorem OS {sz : Nat} : ∀ (rows : List (List PV)) (k : Nat) (base : List AV), (∀ r ∈ rows, r.length = sz) → (k + rows.length) * sz = base.length → FT (fun i => some (i * sz, sz)) base (FG k rows) = some (base.take (k * sz) ++ rows.flatten.map .p)
 | [], k, base, hr, hb => by
  simp only [List.length_nil, Nat.add_zero] at hb
  simp [FG, FT, hb]
 | r :: rows, k, base, hr, hb => by
  have hl := hr r As
  have hb2 : k * sz + sz + rows.length * sz = base.length := by
   rw [← hb, List.length_cons, Nat.add_mul, Nat.add_mul, Nat.one_mul]; omega
  simp only [FG, FT, Ei]
  rw [if_pos ⟨by simp [hl], by simp [hl]; omega⟩, PJ _ _ _ (by simp [hl]; omega)]
  rw [OS rows (k + 1) _ (fun x hx => hr x (by simp [hx])) (by simp only [List.length_append, List.length_take, List.length_drop, List.length_map, hl]; rw [Nat.add_mul, Nat.add_mul, Nat.one_mul]; omega)]
  congr 1
  have h1 : ((base.take (k * sz) ++ r.map AV.p) ++ base.drop (k * sz + (r.map AV.p).length)).take ((k + 1) * sz) = base.take (k * sz) ++ r.map .p := by
   have : (k + 1) * sz = (base.take (k * sz) ++ r.map AV.p).length := by
    simp only [List.length_append, List.length_take, List.length_map, hl]; rw [Nat.add_mul, Nat.one_mul]; omega
   rw [this, List.take_left']
   rfl
  rw [h1]
  simp
theorem JN {α : Type} {sz : Nat} : ∀ {rows : List (List α)}, (∀ r ∈ rows, r.length = sz) → chunks sz rows.length rows.flatten = rows
 | [], _ => rfl
 | r :: rows, h => by
  have hl := h r As
  simp only [List.length_cons, chunks, List.flatten_cons]
  rw [List.take_left' hl, List.drop_left' hl, JN fun x hx => h x (by simp [hx])]
theorem NB : ∀ (rows : List (List PV)) (k : Nat), (∀ r ∈ rows, ∀ c ∈ r, c ≠ .nils) → (FG k rows).map (fun p => (p.1, norm p.2)) = FG k rows
 | [], k, h => rfl
 | r :: rows, k, h => by
  simp only [FG, List.map_cons]
  show (k, AV.agg ((r.map AV.p).map dn)) :: _ = _
  rw [NB rows (k + 1) fun x hx => h x (by simp [hx])]
  congr 3
  have := h r As
  clear h
  induction r with
  | nil => rfl
  | cons c r ih =>
   simp only [List.map_cons]
   rw [ih fun d hd => this d (by simp [hd])]
   have := this c As
   cases c <;> simp_all [dn]
section
variable {P : Program} {dst : Option Tmp} {ty : TypeId} {pos : String} {aft : Array Edge} {g : Option (Nat × Bool)} {ρ : Operand → AV} {H : List BT}
theorem Kq : ∀ (r : List PV), F8 (r.map .p) = some r
 | [] => rfl
 | c :: r => by simp [F8, Kq r]
theorem NL {parts : Array (Nat × Operand)} {rows : List (List PV)} (hp : parts.toList.map (fun p => (p.1, ρ p.2)) = FG 0 rows) (hn : ∀ r ∈ rows, ∀ c ∈ r, c ≠ .nils) : parts.toList.map (fun p => (p.1, norm (ρ p.2))) = FG 0 rows := by
 have h2 := NB rows 0 hn
 rw [← hp, List.map_map] at h2
 rw [← hp]
 exact h2
theorem BU {T e : TypeId} {len sz bytes : Nat} {parts : Array (Nat × Operand)} {z : Value} {rows : List (List PV)} (hT : FB P T = some (e, sz, bytes)) (hz : zeroOf P e = some z) (hsz : z.cells.size = sz) (hpos : (Nat.blt 0 sz && Nat.ble (len * sz) 16777216) = true)
  (hp : parts.toList.map (fun p => (p.1, ρ p.2)) = FG 0 rows) (hl : rows.length = len) (hr : ∀ r ∈ rows, r.length = sz) (hn : ∀ r ∈ rows, ∀ c ∈ r, c ≠ .nils) :
  Dg P ⟨dst, .buildSlice T len parts, ty, pos, aft, g⟩ ρ H (.p (.lst rows)) H := by
 subst hl
 refine CO (cs := rows.flatten.map .p) (ps := rows.flatten) hT hz hsz hpos ?_ (Kq _) (JN hr)
 rw [NL hp hn, OS rows 0 _ hr (by simp [hsz])]
 simp
theorem G7 {T e : TypeId} {len sz bytes : Nat} {parts : Array (Nat × Operand)} {z : Value} {cs : List AV} {ps : List PV} {rows : List (List PV)} (hT : FB P T = some (e, sz, bytes)) (hz : zeroOf P e = some z) (hsz : z.cells.size = sz) (hpos : (Nat.blt 0 sz && Nat.ble (len * sz) 16777216) = true)
  (hc : FT (fun i => some (i * sz, sz)) (List.replicate len (z.cells.toList.map Gu)).flatten (parts.toList.map fun p => (p.1, norm (ρ p.2))) = some cs) (hp : F8 cs = some ps) (hr : chunks sz len ps = rows) :
  DB P ⟨dst, .buildSlice T len parts, ty, pos, aft, g⟩ ρ H (Ig sz rows H) :=
 FF fun F w E hH hE => by
  obtain ⟨hu, i, hi, hs, hby⟩ := Eb hT
  simp only [Bool.and_eq_true, Nat.blt_eq, Nat.ble_eq] at hpos
  unfold zeroOf at hz
  have hz' : ∃ j, P.info? e = some j ∧ j.zero = some z := by
   cases hq : P.info? e with
   | none => simp [hq] at hz
   | some j => exact ⟨j, rfl, by simpa [hq] using hz⟩
  obtain ⟨j, hj, hz'⟩ := hz'
  have hzv : (zeroValue e).run P w = .ok z w := by simp [zeroValue, typeInfo, hj, hz', Sem.run_bind]
  have hzl : B0 F w (List.replicate len (z.cells.toList.map Gu)).flatten (List.replicate len z.cells.toList).flatten := Hc (Fc _) len
  obtain ⟨us, hf, hrep⟩ := Hg (F := F) (w := w) (place := fun i => some (i * sz, sz)) _ (parts.toList.map fun p => (p.1, E p.2)) _ _ _ As (by
   intro j p q h1 h2
   simp only [List.getElem?_map] at h1 h2
   cases hj : parts.toList[j]? with
   | none => simp [hj] at h1
   | some t =>
    simp [hj] at h1 h2
    subst h1; subst h2
    exact ⟨At, (hE _ (by
     have := List.mem_of_getElem? hj
     simp only [Op.operands]
     exact List.mem_map.2 ⟨t, this, At⟩)).norm⟩) hzl hc
  have hcs := Hd hp
  have hlen : ps.length = len * sz := by
   have h1 : cs.length = ((List.replicate len (z.cells.toList.map Gu)).flatten).length := by
    clear hrep hp hcs hzl hf
    generalize (List.replicate len (z.cells.toList.map Gu)).flatten = l at hc
    generalize (parts.toList.map fun p => (p.1, norm (ρ p.2))) = q at hc
    induction q generalizing l with
    | nil => simp [FT] at hc; rw [hc]
    | cons a q ih =>
     obtain ⟨i, x⟩ := a
     simp only [FT] at hc
     cases hx : Ei x with
     | none => simp [hx] at hc
     | some c2 =>
      simp only [hx] at hc
      split at hc
      ·rw [ih _ hc, E3]
      ·cases hc
   rw [hcs] at h1
   simp only [List.length_map, List.length_flatten, List.map_replicate, List.sum_replicate_nat, Array.length_toList, hsz] at h1
   exact h1
  obtain ⟨c1, c2, c3⟩ := Jd hlen
  rw [hr] at c1 c2 c3
  have hul : us.length = ps.length := by rw [hrep.length, hcs]; simp
  obtain ⟨v0, H0, F0, h10, h20, h30, h40⟩ := ON (T := e) (c := len) (vs := us) (H := H) hH c2 (by rw [c1, ← hul, List.take_length]; rw [hcs] at hrep; exact hrep) Ar Ar
  rw [c3] at h40
  refine ⟨_, _, v0, H0, F0, ?_, h10, h20, h30, h40⟩
  have hszr : (sizeOf e).run P w = .ok sz w := by simp [sizeOf, typeInfo, hi, hs]
  have hzc : z.cells = ⟨z.cells.toList⟩ := rfl
  have hrm := Jm z.cells.toList len
  have hsz2 : z.cells.toList.length = sz := by simpa using hsz
  rw [hsz2] at hrm
  have harr : ((Array.range (len * sz)).map fun i => z.cells[i % z.cells.size]!) = ⟨(List.replicate len z.cells.toList).flatten⟩ := by
   apply Array.ext'
   exact hrm
  simp only [execOp, Instr.buildSlice, Sem.run_bind, run_underlying hu, Result.andThen_ok, hszr]
  rw [if_neg Ar]
  simp only [Sem.run_pure, Result.andThen_ok, Sem.run_bind, pure_bind]
  have hf' : Instr.fill (fun i => some (i * sz, sz)) ⟨(List.replicate len z.cells.toList).flatten⟩ (parts.map fun p => (p.1, E p.2)).toList = some ⟨us⟩ := by
   rw [← hf]; simp
  by_cases h00 : len * sz = 0
  ·have hl0 : len = 0 := by
    rcases Nat.mul_eq_zero.1 h00 with h | h
    ·exact h
    ·omega
   subst hl0
   simp only [Nat.zero_mul, if_true]
   simp only [List.replicate_zero, List.flatten_nil] at hf'
   have e0 : (Array.map (fun x => (#[] : Array Value)[x % (#[] : Array Value).size]!) (Array.range 0)) = (⟨[]⟩ : Array Value) := by simp
   rw [e0, hf']
   simp only [newRow, newObj, Sem.run_bind, Sem.run, Result.andThen, Sem.run_pure]
   rfl
  ·rw [if_neg h00]
   simp only [Sem.run_bind, hzv, Result.andThen_ok]
   rw [harr, hf']
   simp only [newRow, newObj, Sem.run_bind, Sem.run, Result.andThen, Sem.run_pure]
   rfl
theorem EZ {T e : TypeId} {len sz bytes : Nat} {parts : Array (Nat × Operand)} {z : Value} {rows : List (List PV)} (hT : FB P T = some (e, sz, bytes)) (hz : zeroOf P e = some z) (hsz : z.cells.size = sz) (hpos : (Nat.blt 0 sz && Nat.ble (len * sz) 16777216) = true)
  (hp : parts.toList.map (fun p => (p.1, ρ p.2)) = FG 0 rows) (hl : rows.length = len) (hr : ∀ r ∈ rows, r.length = sz) (hn : ∀ r ∈ rows, ∀ c ∈ r, c ≠ .nils) :
  DB P ⟨dst, .buildSlice T len parts, ty, pos, aft, g⟩ ρ H (Ig sz rows H) := by
 subst hl
 refine G7 (cs := rows.flatten.map .p) (ps := rows.flatten) hT hz hsz hpos ?_ (Kq _) (JN hr)
 rw [NL hp hn, OS rows 0 _ hr (by simp [hsz])]
 simp
end
section
variable {P : Program} {ops : Array Oper} {n : Nat} {τ₀ : Nat → AV} {D : List EB} {Q : Cy → B2 → Prop} {opn : Nat → Bool} {k : Nat} {τ : Nat → AV} {H : List BT} {rd : YB} {ef : WX} {effs : List Bool} {fx : List (Nat × Sp)} {dst : Option Tmp} {op : Op} {ty : TypeId} {pos : String} {aft : Array Edge}
theorem Zf {sz : Nat} {rows : List (List PV)} (fx' : List (Nat × Sp)) (ho : ops[k]? = some ⟨dst, op, ty, pos, aft, none⟩) (hn : opn k = true) (h : DB P ⟨dst, op, ty, pos, aft, none⟩ (ev τ) H (Ig sz rows H)) (haft : Ev ops k (fx'.map (·.1)) = true)
  (next : ∀ b c, Kr ops k H (.vec (some b) sz rows c :: H) rd ∧ Hq k (.eff (.vs (some b) rows.length c) (.vec (some b) sz rows c :: H)) fx ∧ Dr P ops n τ₀ D Q opn (k + 1) (put τ dst (.vs (some b) rows.length c)) (.vec (some b) sz rows c :: H) rd ((k, H, .vec (some b) sz rows c :: H) :: ef) (true :: effs) (fx' ++ fx)) : Dr P ops n τ₀ D Q opn k τ H rd ef effs fx :=
 LI fx' ho hn h haft ⟨_, _, 0, 0, rfl, rfl⟩ (fun _ _ h => h.elim) (fun v H' ⟨b, c, h1, h2⟩ => by subst h1; subst h2; exact next b c)
end
section
variable {P : Program} {ty : TypeId} {pos : String} {aft : Array Edge} {g : Option (Nat × Bool)} {ρ : Operand → AV} {H : List BT} {x y : Operand}
theorem FI {T T2 e e2 : TypeId} {sz bytes n2 n3 d c i n : Nat} {o : Option Nat} {rows rows' all : List (List PV)} {zv : Value} (hT : FB P T = some (e, sz, bytes)) (hT2 : FB P T2 = some (e2, n2, n3)) (hz : zeroOf P e = some zv) (hzs : zv.cells.size = sz) (hb0 : (Nat.blt 0 sz && Nat.blt 0 bytes) = true)
  (hx : ρ x = .vs o n c) (hn : n = rows.length) (hi : H[i]? = some (.vec o sz rows c)) (hy : norm (ρ y) = .p (.lst rows')) (hsol : ∀ r ∈ rows', Dj sz r) (hroom : 2 * (rows.length + rows'.length) * bytes ≤ 281474976710656) (hall : rows ++ rows' = all) :
  Dg P ⟨some d, .call { callee := .builtin .append, args := #[x, y], argTypes := #[T, T2] }, ty, pos, aft, g⟩ ρ H (.p (.lst all)) (H.eraseIdx i) := by
 subst hall
 intro r F S a w hs hH hρ hd
 subst hH
 have h := ND (P := P) (dst := some d) (ty := ty) (pos := pos) (aft := aft) (g := g) (ρ := ρ) (H := S.H) (i := i) (o := o) (rows := rows) (n := n) (c := c) hT hT2 hz hzs hb0 hx hn hi hy hsol hroom r F S a w hs rfl hρ hd
 refine L4 h ?_ ?_
 ·rintro a' w' ⟨v, H', F', ⟨o', c', rfl, rfl⟩, hs', ht⟩
  have hlt := (List.getElem?_eq_some_iff.1 hi).1
  obtain ⟨F'', hs'', ht''⟩ := HJ (n := S.n) (τ := put S.τ (some d) (.vs o' (rows ++ rows').length c')) (H := S.H.set i (.vec o' sz (rows ++ rows') c')) (D := S.D) (i := i) [d] (List.getElem?_set_self hlt) (fun t ht => by simp at ht; subst ht; simp [put]) F' a' w' hs'
  have e : L3 [d] (.p (.lst (rows ++ rows'))) (put S.τ (some d) (.vs o' (rows ++ rows').length c')) = put S.τ (some d) (.p (.lst (rows ++ rows'))) := by
   funext t
   simp only [L3, put, List.any_cons, List.any_nil, Bool.or_false]
   cases Nat.beq t d <;> rfl
  have e2 : (S.H.set i (.vec o' sz (rows ++ rows') c')).eraseIdx i = S.H.eraseIdx i := List.eraseIdx_set_eq
  simp only [e, e2] at hs'' ht''
  exact ⟨_, S.H.eraseIdx i, F'', ⟨At, At⟩, hs'', ht.trans hs.heap.bd ht''⟩
 ·rintro e a' w' ⟨v, H', F', u, h, _⟩
  exact h.elim
end
theorem aB {f : Nat → Option (Nat × Nat)} {base L R Q : List AV} (h0 : f 0 = some (0, 5)) (h1 : f 1 = some (5, 5)) (h2 : f 2 = some (10, 5)) (hb : base.length = 16) (hL : L.length = 5) (hR : R.length = 5) (hQ : Q.length = 5) :
  FT f base [(0, .agg L), (1, .agg R), (2, .agg Q)] = some (L ++ (R ++ (Q ++ base.drop 15))) := by
 match L, hL, R, hR, Q, hQ, base, hb with
 | [a0, a1, a2, a3, a4], _, [b0, b1, b2, b3, b4], _, [c0, c1, c2, c3, c4], _, [d0, d1, d2, d3, d4, d5, d6, d7, d8, d9, d10, d11, d12, d13, d14, d15], _ =>
  simp [FT, h0, h1, h2, Ei, splice]
theorem Z7 {f : Nat → Option (Nat × Nat)} {base L R Q : List AV} {x : Bool} (h0 : f 0 = some (0, 5)) (h1 : f 1 = some (5, 5)) (h2 : f 2 = some (10, 5)) (h3 : f 3 = some (15, 1)) (hb : base.length = 16) (hL : L.length = 5) (hR : R.length = 5) (hQ : Q.length = 5) :
  FT f base [(0, .agg L), (1, .agg R), (2, .agg Q), (3, .p (.bool x))] = some (L ++ (R ++ (Q ++ [.p (.bool x)]))) := by
 match L, hL, R, hR, Q, hQ, base, hb with
 | [a0, a1, a2, a3, a4], _, [b0, b1, b2, b3, b4], _, [c0, c1, c2, c3, c4], _, [d0, d1, d2, d3, d4, d5, d6, d7, d8, d9, d10, d11, d12, d13, d14, d15], _ =>
  simp [FT, h0, h1, h2, h3, Ei, splice]
inductive Ey where
 | val (v : AV)
 | skip
 | new (cs : List AV)
 | newv (sz : Nat) (rows : List (List PV))
def Ey.v (b : Nat × Nat) : Ey → AV
 | .val v => v
 | .skip => .tup []
 | .new _ => .ptr b.1 0
 | .newv _ rows => .vs (some b.1) rows.length b.2
def Ey.box (b : Nat × Nat) : Ey → List BT
 | .new cs => [.box b.1 cs]
 | .newv sz rows => [.vec (some b.1) sz rows b.2]
 | _ => []
def Y2 (P : Program) (ops : Array Oper) (H₀ : List BT) (o : Oper) (τ : Nat → AV) : Ey → Prop
 | .val v => DH ops ⟨0, τ, [], []⟩ o ∧ ∀ Bs, Dg P o (ev τ) (Bs ++ H₀) v (Bs ++ H₀)
 | .skip => ∃ j want d, o.guard = some (j, want) ∧ (ops[j]?).bind (·.dst) = some d ∧ Wq (τ d) want
 | .new cs => o.guard = none ∧ ∀ Bs, DB P o (ev τ) (Bs ++ H₀) (I1 cs (Bs ++ H₀))
 | .newv sz rows => o.guard = none ∧ ∀ Bs, DB P o (ev τ) (Bs ++ H₀) (Ig sz rows (Bs ++ H₀))
def EW (P : Program) (ops : Array Oper) (H₀ : List BT) : Nat → (Nat → AV) → List Ey → ((Nat → AV) → List BT → Prop) → Prop
 | _, τ, [], K => K τ []
 | k, τ, e :: r, K => ∃ o, ops[k]? = some o ∧ Y2 P ops H₀ o τ e ∧ ∀ b, EW P ops H₀ (k + 1) (put τ o.dst (e.v b)) r (fun τ' Hs => K τ' (e.box b ++ Hs))
def Ls (β : Nat → Nat × Nat) : Nat → List Ey → List Sp
 | _, [] => []
 | k, e :: r => .free (e.v (β k)) :: Ls β (k + 1) r
def bj (β : Nat → Nat × Nat) : Nat → List Ey → List BT
 | _, [] => []
 | k, e :: r => e.box (β k) ++ bj β (k + 1) r
def Rf (β : Nat → Nat × Nat) (l : Nat → Bool) : Nat → List Ey → List BT
 | _, [] => []
 | k, e :: r => (if l k = true then e.box (β k) else []) ++ Rf β l (k + 1) r
theorem Mr (β : Nat → Nat × Nat) : ∀ (r : List Ey) (k j : Nat), j < r.length → (Ls β k r).getD j .skip = .free ((r.getD j .skip).v (β (k + j)))
 | [], k, j, h => by simp at h
 | e :: r, k, 0, h => by simp [Ls]
 | e :: r, k, j + 1, h => by
  have := Mr β r (k + 1) j (by simpa using h)
  simp only [Ls, List.getD_cons_succ]
  rw [this, show k + 1 + j = k + (j + 1) by omega]
theorem TF (β : Nat → Nat × Nat) : ∀ (r : List Ey) (k : Nat), (Ls β k r).length = r.length
 | [], k => rfl
 | e :: r, k => by simp [Ls, TF β r (k + 1)]
theorem Sq (β : Nat → Nat × Nat) {r : List Ey} {k j : Nat} (h : r.length ≤ j) : (Ls β k r).getD j .skip = .skip := by
 rw [List.getD_eq_getElem?_getD, List.getElem?_eq_none (by rw [TF]; exact h)]; rfl
theorem Xj (β : Nat → Nat × Nat) (r : List Ey) (k j : Nat) : ((Ls β k r).getD j .skip).isEff = false := by
 rcases Nat.lt_or_ge j r.length with h | h
 ·rw [Mr β r k j h]; rfl
 ·rw [Sq β h]; rfl
theorem UQ (β : Nat → Nat × Nat) (r : List Ey) (k j : Nat) (ob : List BT) (v : AV) : (Ls β k r).getD j .skip ≠ .read ob v := by
 rcases Nat.lt_or_ge j r.length with h | h
 ·rw [Mr β r k j h]; simp
 ·rw [Sq β h]; simp
theorem M0 (β : Nat → Nat × Nat) {r : List Ey} {j : Nat} (h : j < r.length) : ((Ls β 0 r).getD j .skip).val = (r.getD j .skip).v (β j) := by
 rw [Mr β r 0 j h, Nat.zero_add]; rfl
theorem EW.facts {P : Program} {ops : Array Oper} {H₀ : List BT} {τ : Nat → AV} {base : List Ey} (β : Nat → Nat × Nat) : ∀ (r : List Ey) (k : Nat) (τk : Nat → AV) (K : (Nat → AV) → List BT → Prop), base.drop k = r → k + r.length = base.length → τk = τS ops (Ls β 0 base) τ k → EW P ops H₀ k τk r K →
  (∀ j, k ≤ j → j < base.length → ∃ o, ops[j]? = some o ∧ Y2 P ops H₀ o (τS ops (Ls β 0 base) τ j) (base.getD j .skip)) ∧ K (τS ops (Ls β 0 base) τ base.length) (bj β k r)
 | [], k, τk, K, hd, hk, ht, h => by
  simp only [List.length_nil, Nat.add_zero] at hk
  subst hk
  exact ⟨fun j h1 h2 => by omega, by rw [← ht]; exact h⟩
 | e :: r, k, τk, K, hd, hk, ht, h => by
  obtain ⟨o, ho, hok, hn⟩ := h
  simp only [List.length_cons] at hk
  have hb : base.getD k .skip = e := by
   have : (base.drop k)[0]? = some e := by rw [hd]; rfl
   rw [List.getElem?_drop] at this
   rw [List.getD_eq_getElem?_getD, show k = k + 0 by omega, this]; rfl
  have hd2 : base.drop (k + 1) = r := by
   rw [← List.drop_drop, hd]; rfl
  obtain ⟨h1, h2⟩ := EW.facts (τ := τ) (base := base) β r (k + 1) _ _ hd2 Ar (by simp only [τS, ho, Option.bind_some]; rw [M0 β Ar, hb, ← ht]) (hn (β k))
  refine ⟨fun j hj hl => ?_, h2⟩
  by_cases e2 : j = k
  ·subst e2; exact ⟨o, ho, by rw [hb, ← ht]; exact hok⟩
  ·exact h1 j Ar hl
theorem L2 {β β' : Nat → Nat × Nat} {l l' : Nat → Bool} : ∀ (r : List Ey) (k : Nat), (∀ j, k ≤ j → l j = l' j ∧ (l j = true → β j = β' j)) → Rf β l k r = Rf β' l' k r
 | [], k, h => rfl
 | e :: r, k, h => by
  simp only [Rf]
  obtain ⟨h1, h2⟩ := h k (Nat.le_refl _)
  rw [L2 r (k + 1) fun j hj => h j Ar, ← h1]
  cases hl : l k
  ·rfl
  ·rw [h2 hl]
theorem TG {β : Nat → Nat × Nat} {l : Nat → Bool} {i : Nat} {b : Nat × Nat} (hi : l i = false) : ∀ (r : List Ey) (k : Nat), k ≤ i → i < k + r.length → ((r.getD (i - k) .skip).box b ++ Rf β l k r).Perm (Rf (fun j => if j = i then b else β j) (fun j => l j || j == i) k r)
 | [], k, h1, h2 => by simp at h2; omega
 | e :: r, k, h1, h2 => by
  simp only [Rf]
  by_cases hk : k = i
  ·subst hk
   simp only [hi, Bool.false_eq_true, if_false, List.nil_append, Nat.sub_self, List.getD_cons_zero, beq_self_eq_true, Bool.or_true, if_true]
   rw [L2 (β' := fun j => if j = k then b else β j) (l' := fun j => l j || j == k) r (k + 1) fun j hj => ⟨by simp [show (j == k) = false by simp; omega], fun _ => by rw [if_neg Ar]⟩]
  ·have hp := TG (β := β) hi r (k + 1) (b := b) Ar (by simp only [List.length_cons] at h2; omega)
   have e1 : (e :: r).getD (i - k) .skip = r.getD (i - (k + 1)) .skip := by
    rw [show i - k = (i - (k + 1)) + 1 by omega]; rfl
   have e2 : (if (l k || k == i) = true then e.box (if k = i then b else β k) else []) = (if l k = true then e.box (β k) else []) := by
    rw [if_neg hk]
    simp [hk]
   rw [e1, e2]
   refine List.Perm.trans ?_ (hp.append_left _)
   rw [← List.append_assoc, ← List.append_assoc]
   exact List.perm_append_comm.append_right _
theorem Td {β : Nat → Nat × Nat} {l : Nat → Bool} : ∀ (r : List Ey) (k : Nat), (∀ j, k ≤ j → j < k + r.length → l j = true) → Rf β l k r = bj β k r
 | [], k, h => rfl
 | e :: r, k, h => by
  simp only [Rf, bj]
  rw [if_pos (h k (Nat.le_refl _) As), Td r (k + 1) fun j h1 h2 => h j Ar AX]
theorem RW {β : Nat → Nat × Nat} {l : Nat → Bool} : ∀ (r : List Ey) (k : Nat), (∀ j, l j = false) → Rf β l k r = []
 | [], k, h => rfl
 | e :: r, k, h => by simp only [Rf]; rw [RW r (k + 1) h, h k]; rfl
def VH (ops : Array Oper) (e : Nat) : Bool := (List.range ops.size).all fun i => Nat.blt i e || (List.range i).all fun j => Mf ops j i
theorem Ik {ops : Array Oper} {e : Nat} (h : VH ops e = true) {i j : Nat} (hi : e ≤ i) (hs : i < ops.size) (hj : j < i) : Pred ops j i := by
 have := List.all_eq_true.1 h i (by simpa using hs)
 simp only [Bool.or_eq_true] at this
 rcases this with h1 | h1
 ·rw [Nat.blt_eq] at h1; omega
 ·exact EK (List.all_eq_true.1 h1 j (by simpa using hj))
theorem Dm {P : Program} {r : Option Nat} {ops : Array Oper} {id n : Nat} {τ : Nat → AV} {H : List BT} {D : List EB} {Q : Cy → B2 → Prop} (base : List Ey) (hm : P.follows .mixedOrders = true)
  (he : Nat.ble base.length ops.size = true) (chk : N9 ops n [] = true) (late : VH ops base.length = true) (h : EW P ops H 0 τ base (fun τ' Hs => AL P r ops base.length ⟨n, τ', Hs ++ H, D⟩ Q)) : Ib P r (.region id ops true) ⟨n, τ, H, D⟩ Q := by
 intro F₀ a₀ w₀ hs₀
 rw [Nat.ble_eq] at he
 refine wpIn_region_any hm ?_
 have same : C7 F₀ w₀ F₀ { w₀ with drawn := w₀.drawn + 1 } := ⟨Nat.le_refl _, fun _ _ _ => rfl, fun _ h _ => h⟩
 have t₀ : Trans F₀ H w₀ F₀ H { w₀ with drawn := w₀.drawn + 1 } :=
  ⟨Nat.le_refl _, fun _ _ _ => rfl, fun _ h _ => h, fun _ h => .inl h, fun o ho b hb => .inl ⟨o, ho, hb⟩, rfl, rfl, rfl⟩
 have hs₁ : DP F₀ ⟨n, τ, H, D⟩ a₀ { w₀ with drawn := w₀.drawn + 1 } :=
  ⟨hs₀.size, fun t => CR.mono same _ _ (hs₀.tmp t), hs₀.heap.stable' same (fun _ h => h) (fun _ _ _ _ => rfl) hs₀.heap.bd, E7.mono same _ _ hs₀.defs⟩
 obtain ⟨hdst, c0, c1, c2, _⟩ := J5 chk
 have hd : ∀ β, MU P ops n (fun _ => False) τ H (Ls β 0 base) := fun β =>
  ⟨hdst, fun _ _ _ h => h.elim, c0, c1, c2, fun i k _ _ h _ => (by rw [Xj] at h; cases h), fun i e ob v _ _ _ h _ _ => absurd h (UQ β base 0 i ob v)⟩
 have hE : ∀ β, (∀ j, j < base.length → ∃ o, ops[j]? = some o ∧ Y2 P ops H o (τS ops (Ls β 0 base) τ j) (base.getD j .skip)) ∧ AL P r ops base.length ⟨n, τS ops (Ls β 0 base) τ base.length, bj β 0 base ++ H, D⟩ Q := fun β => by
  obtain ⟨h1, h2⟩ := EW.facts (base := base) β base 0 τ _ As As rfl h
  exact ⟨fun j hj => h1 j (Nat.zero_le _) hj, h2⟩
 -- where all of the first part has been carried out, the rest goes in the order of the text
 have conv : ∀ {l : Array Bool} {a w β τ' F Hb}, (∀ j, j < base.length → l.getD j false = true) → (∀ k, base.length ≤ k → l.getD k false = false) → FM ops (Ls β 0 base) τ (fun i => l.getD i false = true) τ' → Hb.Perm (Rf β (fun k => l.getD k false) 0 base) → DP F ⟨n, τ', Hb ++ H, D⟩ a w → Trans F₀ H w₀ F (Hb ++ H) w →
   wpOpsIn (W r) 0 P ops (post F₀ H w₀ Q) (List.range' base.length (ops.size - base.length)) a w := by
  intro l a w β τ' F Hb hall hno hτ hp hs ht
  have hτe : τ' = τS ops (Ls β 0 base) τ base.length := by
   funext t
   have h2 := KC (hd β) base.length he t
   by_cases hw : ∃ (k : Nat) (o' : Oper), ops[k]? = some o' ∧ o'.dst = some t ∧ k < base.length
   ·obtain ⟨k, o', ho', hk, hlt⟩ := hw
    rw [(hτ t).1 k o' ho' hk (hall k hlt), h2.1 k o' ho' hk hlt]
   ·have hw' : ∀ (k : Nat) o', ops[k]? = some o' → o'.dst = some t → ¬ k < base.length := fun k o' h1 h2 h3 => hw ⟨k, o', h1, h2, h3⟩
    rw [(hτ t).2 fun k o' h1 h2 h3 => (by have h4 : l.getD k false = true := h3; have := hno k (by have := hw' k o' h1 h2; omega); rw [this] at h4; cases h4), h2.2 fun k o' h1 h2 h3 => hw' k o' h1 h2 h3]
  rw [Td base 0 fun j _ hj => hall j Ar] at hp
  have hp2 := hp.append_right H
  have := (hE β).2 F a w (by rw [← hτe]; exact ⟨hs.size, hs.tmp, hs.heap.perm hp2, hs.defs⟩)
  refine Dq (fun e a' w' hq => ?_) _ _ _ this
  exact Fg hs₀.heap.bd { ht with keys := fun o ho => ht.keys o (hp2.mem_iff.2 ho) } hq
 refine J3 (I := fun l a w => l.size = ops.size ∧ ((∃ β τ' F Hb, Down ops (fun i => l.getD i false = true) ∧ (∀ k, base.length ≤ k → l.getD k false = false) ∧ FM ops (Ls β 0 base) τ (fun i => l.getD i false = true) τ' ∧ Hb.Perm (Rf β (fun k => l.getD k false) 0 base) ∧ DP F ⟨n, τ', Hb ++ H, D⟩ a w ∧ Trans F₀ H w₀ F (Hb ++ H) w) ∨
  (∃ m, base.length ≤ m ∧ m ≤ ops.size ∧ (∀ k, k < ops.size → (l.getD k false = true ↔ k < m)) ∧ wpOpsIn (W r) 0 P ops (post F₀ H w₀ Q) (List.range' m (ops.size - m)) a w))) (fun l a w h => h.1) ?_ ?_ _ _ _ _ ?_ ?_
 ·rintro l a w ⟨hsz, hI⟩ i hi
  obtain ⟨hun, o, ho, hall⟩ := mem_ready.1 hi
  have hlt : i < ops.size := by
   rcases Nat.lt_or_ge i ops.size with h | h
   ·exact h
   ·simp [Array.getElem?_eq_none h] at ho
  have hil : i < l.size := by omega
  have hnot : l.getD i false = false := by
   have : l[i] = false := by simpa [hil] using hun
   simp [hil, this]
  have hr : ∀ j ∈ D6 o, l.getD j false = true := by
   intro j hj
   simp only [D6, List.mem_map, List.mem_filter] at hj
   obtain ⟨e, ⟨he, hb⟩, rfl⟩ := hj
   exact hall e (by simpa using he) hb
  have hset : ∀ k, (l.setIfInBounds i true).getD k false = true ↔ (l.getD k false = true ∨ k = i) := by
   intro k
   by_cases hk : k = i
   ·subst hk; simp [hil]
   ·simp [Array.getElem?_setIfInBounds_ne (Ne.symm hk), hk]
  have hset2 : ∀ k, (l.setIfInBounds i true).getD k false = (l.getD k false || k == i) := by
   intro k
   by_cases hk : k = i
   ·subst hk; simp [hil]
   ·simp [Array.getElem?_setIfInBounds_ne (Ne.symm hk), hk]
  have hsz' : (l.setIfInBounds i true).size = ops.size := by simp [hsz]
  have goLate : ∀ m, i = m → base.length ≤ m → m ≤ ops.size → (∀ k, k < ops.size → (l.getD k false = true ↔ k < m)) → wpOpsIn (W r) 0 P ops (post F₀ H w₀ Q) (List.range' m (ops.size - m)) a w →
    wpOpIn (W r) 0 P ops (post F₀ H w₀ Q) i (fun a w => (l.setIfInBounds i true).size = ops.size ∧ ((∃ β τ' F Hb, Down ops (fun k => (l.setIfInBounds i true).getD k false = true) ∧ (∀ k, base.length ≤ k → (l.setIfInBounds i true).getD k false = false) ∧ FM ops (Ls β 0 base) τ (fun k => (l.setIfInBounds i true).getD k false = true) τ' ∧ Hb.Perm (Rf β (fun k => (l.setIfInBounds i true).getD k false) 0 base) ∧ DP F ⟨n, τ', Hb ++ H, D⟩ a w ∧ Trans F₀ H w₀ F (Hb ++ H) w) ∨
     (∃ m, base.length ≤ m ∧ m ≤ ops.size ∧ (∀ k, k < ops.size → ((l.setIfInBounds i true).getD k false = true ↔ k < m)) ∧ wpOpsIn (W r) 0 P ops (post F₀ H w₀ Q) (List.range' m (ops.size - m)) a w))) a w := by
   intro m him h1 h2 h3 hw
   subst him
   rw [Iq hlt, wpOpsIn_cons] at hw
   refine wpOpIn_mono (fun a' w' h' => ⟨hsz', .inr ⟨i + 1, by omega, by omega, fun k hk => ?_, h'⟩⟩) hw
   rw [hset k, h3 k hk]
   omega
  rcases hI with ⟨β, τ', F, Hb, hdown, hno, hτ, hp, hs, ht⟩ | ⟨m, hm1, hm2, hm3, hw⟩
  ·rcases Nat.lt_or_ge i base.length with hib | hib
   ·-- of the first part
    obtain ⟨o', ho', hok⟩ := (hE β).1 i hib
    rw [ho] at ho'; injection ho' with ho'; subst ho'
    have hlook : ∀ t ∈ looks ops o, τ' t = τS ops (Ls β 0 base) τ i t := fun t ht => J2 (hd β) hdown hτ ho (by rw [hnot]; decide) hr ht
    have hops : ∀ x ∈ o.op.operands.toList, ev τ' x = ev (τS ops (Ls β 0 base) τ i) x := by
     intro x hx
     cases x with
     | tmp t => exact hlook t (List.mem_append_left _ (List.mem_filterMap.2 ⟨.tmp t, hx, rfl⟩))
     | _ => rfl
    have hguard : ∀ j want d, o.guard = some (j, want) → (ops[j]?).bind (·.dst) = some d → τ' d = τS ops (Ls β 0 base) τ i d := by
     intro j want d hg hj
     refine hlook d (List.mem_append_right _ ?_)
     simp [hg, hj]
    have hdown' : Down ops (fun k => (l.setIfInBounds i true).getD k false = true) := by
     intro k o' j ho' hk hj
     rcases (hset k).1 hk with h | h
     ·exact (hset j).2 (.inl (hdown k o' j ho' h hj))
     ·subst h; rw [ho] at ho'; injection ho' with ho'; subst ho'; exact (hset j).2 (.inl (hr j hj))
    have hno' : ∀ k, base.length ≤ k → (l.setIfInBounds i true).getD k false = false := by
     intro k hk
     rw [hset2 k, hno k hk]
     simp; omega
    generalize hbe : base.getD i .skip = e at hok
    have close : ∀ {a' w' F' b H'}, H' = e.box b ++ (Hb ++ H) → DP F' ⟨n, put τ' o.dst (e.v b), H', D⟩ a' w' → Trans F (Hb ++ H) w F' H' w' →
      (l.setIfInBounds i true).size = ops.size ∧ ((∃ β τ' F Hb, Down ops (fun k => (l.setIfInBounds i true).getD k false = true) ∧ (∀ k, base.length ≤ k → (l.setIfInBounds i true).getD k false = false) ∧ FM ops (Ls β 0 base) τ (fun k => (l.setIfInBounds i true).getD k false = true) τ' ∧ Hb.Perm (Rf β (fun k => (l.setIfInBounds i true).getD k false) 0 base) ∧ DP F ⟨n, τ', Hb ++ H, D⟩ a' w' ∧ Trans F₀ H w₀ F (Hb ++ H) w') ∨
       (∃ m, base.length ≤ m ∧ m ≤ ops.size ∧ (∀ k, k < ops.size → ((l.setIfInBounds i true).getD k false = true ↔ k < m)) ∧ wpOpsIn (W r) 0 P ops (post F₀ H w₀ Q) (List.range' m (ops.size - m)) a' w')) := by
     intro a' w' F' b H' hH h3 h4
     subst hH
     refine ⟨hsz', .inl ⟨fun j => if j = i then b else β j, put τ' o.dst (e.v b), F', e.box b ++ Hb, hdown', hno', ?_, ?_, by rw [List.append_assoc]; exact h3, by rw [List.append_assoc]; exact ht.trans hs₀.heap.bd h4⟩⟩
     ·have hτ2 : FM ops (Ls (fun j => if j = i then b else β j) 0 base) τ (fun k => l.getD k false = true) τ' := by
       intro t
       refine ⟨fun k o' a1 a2 a3 => ?_, (hτ t).2⟩
       have a4 : l.getD k false = true := a3
       have hki : k ≠ i := fun e => by subst e; rw [hnot] at a4; cases a4
       rw [(hτ t).1 k o' a1 a2 a3]
       rcases Nat.lt_or_ge k base.length with hk | hk
       ·rw [M0 _ hk, M0 _ hk, if_neg hki]
       ·have := hno k hk; rw [this] at a4; cases a4
      have hτ3 := hτ2.put (hd _) ho
      rw [M0 _ hib, if_pos rfl, hbe] at hτ3
      intro t
      exact ⟨fun k o' a1 a2 a3 => (hτ3 t).1 k o' a1 a2 ((hset k).1 a3), fun hn => (hτ3 t).2 fun k o' a1 a2 a3 => hn k o' a1 a2 ((hset k).2 a3)⟩
     ·have h1 := TG (β := β) (l := fun k => l.getD k false) (i := i) (b := b) hnot base 0 (Nat.zero_le _) Ar
      rw [Nat.sub_zero, hbe] at h1
      refine (hp.append_left _).trans (h1.trans (List.Perm.of_eq ?_))
      exact L2 base 0 fun j _ => ⟨(hset2 j).symm, fun _ => At⟩
    have wants : DH ops ⟨0, τS ops (Ls β 0 base) τ i, [], []⟩ o → DH ops ⟨n, τ', Hb ++ H, D⟩ o := by
     intro h
     unfold DH at *
     cases hg : o.guard with
     | none => simp [hg]
     | some jw =>
      obtain ⟨j, want⟩ := jw
      simp only [hg] at h ⊢
      obtain ⟨d, h1, h2⟩ := h
      exact ⟨d, h1, by rw [← h2]; exact hguard j want d hg h1⟩
    have yields : DH ops ⟨n, τ', Hb ++ H, D⟩ o → DB P o (ev (τS ops (Ls β 0 base) τ i)) (Hb ++ H) (fun r H' => match r with | .val v => ∃ b, v = e.v b ∧ H' = e.box b ++ (Hb ++ H) | .panic _ => False) → wpOpIn (W r) 0 P ops (post F₀ H w₀ Q) i (fun a' w' => (l.setIfInBounds i true).size = ops.size ∧ ((∃ β τ' F Hb, Down ops (fun k => (l.setIfInBounds i true).getD k false = true) ∧ (∀ k, base.length ≤ k → (l.setIfInBounds i true).getD k false = false) ∧ FM ops (Ls β 0 base) τ (fun k => (l.setIfInBounds i true).getD k false = true) τ' ∧ Hb.Perm (Rf β (fun k => (l.setIfInBounds i true).getD k false) 0 base) ∧ DP F ⟨n, τ', Hb ++ H, D⟩ a' w' ∧ Trans F₀ H w₀ F (Hb ++ H) w') ∨
       (∃ m, base.length ≤ m ∧ m ≤ ops.size ∧ (∀ k, k < ops.size → ((l.setIfInBounds i true).getD k false = true ↔ k < m)) ∧ wpOpsIn (W r) 0 P ops (post F₀ H w₀ Q) (List.range' m (ops.size - m)) a' w'))) a w := by
     intro hwant hop
     unfold wpOpIn
     simp only [ho, HS hs hwant, if_true]
     have hw := hop r F _ a w hs rfl (fun x hx => hops x hx) (fun t ht => hdst i o t ho ht)
     unfold Oper.wpIn at *
     refine ⟨hw.1, ?_⟩
     replace hw := hw.2
     generalize (o.semAt (W r).round a.eval).run P w = rr at *
     cases rr with
     | ok nx w' =>
      cases nx <;> simp only [Oper.uponIn] at hw ⊢
      case value u => obtain ⟨v', H'', F', ⟨b, h1, h2⟩, h3, h4⟩ := hw; subst h1; exact close h2 h3 h4
      case skip => obtain ⟨v', H'', F', ⟨b, h1, h2⟩, h3, h4⟩ := hw; subst h1; exact close h2 h3 h4
      case defer d => obtain ⟨v', H'', F', ⟨b, h1, h2⟩, h3, h4⟩ := hw; subst h1; exact close h2 h3 h4
      case enter f args =>
       refine ⟨hw.1, hw.2.mono fun e w'' he => ?_⟩
       cases e with
       | returned u => obtain ⟨v', H'', F', ⟨b, h1, h2⟩, h3, h4⟩ := he; subst h1; exact close h2 h3 h4
       | panicked c => obtain ⟨_, _, _, _, h, _⟩ := he; exact h.elim
       | outgrown => obtain ⟨_, _, _, _, _, _, h, _⟩ := he; exact h.elim
      case row row args => exact ⟨hw.1, hw.2.mono fun u w'' h => by obtain ⟨v', H'', F', ⟨b, h1, h2⟩, h3, h4⟩ := h; subst h1; exact close h2 h3 h4⟩
      case round l' f tmps assign body =>
       refine ⟨hw.1, hw.2.mono fun e w'' he => ?_⟩
       cases e with
       | returned u => obtain ⟨v', H'', F', ⟨b, h1, h2⟩, h3, h4⟩ := he; subst h1; exact close h2 h3 h4
       | panicked c => obtain ⟨_, _, _, _, h, _⟩ := he; exact h.elim
       | outgrown => obtain ⟨_, _, _, _, _, _, h, _⟩ := he; exact h.elim
     | halt x w' =>
      cases x <;> simp only [Oper.uponIn] at hw ⊢
      case panic u => obtain ⟨_, _, _, _, h, _⟩ := hw; exact h.elim
    cases e with
    | val v => exact yields (wants hok.1) ((hok.2 Hb).mono (by
      intro r H' hR
      cases r with
      | val v' => obtain ⟨rfl, rfl⟩ := hR; exact ⟨(0, 0), rfl, rfl⟩
      | panic v' => exact hR.elim))
    | new cs =>
     refine yields (by unfold DH; rw [hok.1]; trivial) ((hok.2 _).mono ?_)
     intro r H' hR
     cases r with
     | val v' => obtain ⟨b, rfl, rfl⟩ := hR; exact ⟨(b, 0), rfl, rfl⟩
     | panic v' => exact hR.elim
    | newv sz rows =>
     refine yields (by unfold DH; rw [hok.1]; trivial) ((hok.2 _).mono ?_)
     intro r H' hR
     cases r with
     | val v' => obtain ⟨b, c, rfl, rfl⟩ := hR; exact ⟨(b, c), rfl, rfl⟩
     | panic v' => exact hR.elim
    | skip =>
     obtain ⟨j, want, d, hg, hj, hb⟩ := hok
     have hw : Region.wanted o (yielded ops a.tmps) = false := Jl (S := ⟨n, τ', Hb ++ H, D⟩) hs hg hj (by show Wq (τ' d) want; rw [hguard j want d hg hj]; exact hb)
     unfold wpOpIn
     simp only [ho, hw, Bool.false_eq_true, if_false]
     refine ⟨fun _ _ => trivial, close (b := (0, 0)) At ?_ .refl⟩
     exact hs.put (fun t ht => hdst i o t ho ht) ⟨Nat.le_refl _, fun _ _ _ => At, fun _ h _ => h⟩ hs.heap (by simp only [Ey.v, CR, B0, undef]; exact ⟨[], rfl, rfl⟩)
   ·-- the first of the rest
    have hpre : ∀ j, j < i → l.getD j false = true := by
     intro j hj
     have hpi := Ik late hib hlt hj
     have : ∀ {a b}, Pred ops a b → b = i → l.getD a false = true := by
      intro a b hab
      induction hab with
      | base ho' hj => intro e; subst e; rw [ho] at ho'; injection ho' with ho'; subst ho'; exact hr _ hj
      | trans p1 _ _ ih2 => intro e; exact hdown.pred p1 (ih2 e)
     exact this hpi At
    have hie : i = base.length := by
     rcases Nat.lt_or_ge base.length i with h | h
     ·have h1 := hpre base.length h
      rw [hno base.length (Nat.le_refl _)] at h1
      cases h1
     ·omega
    refine goLate base.length hie (Nat.le_refl _) he (fun k hk => ⟨fun h => ?_, fun h => hpre k Ar⟩) (conv (fun j hj => hpre j Ar) hno hτ hp hs ht)
    rcases Nat.lt_or_ge k base.length with h' | h'
    ·exact h'
    ·rw [hno k h'] at h; cases h
  ·have hmi : m ≤ i := by
    rcases Nat.lt_or_ge i m with h | h
    ·have := (hm3 i hlt).2 h; rw [hnot] at this; cases this
    ·exact h
   have him : i = m := by
    rcases Nat.lt_or_ge m i with h | h
    ·have hpi := Ik late (by omega : base.length ≤ i) hlt h
     have hdown : ∀ {a b}, Pred ops a b → b = i → l.getD a false = true := by
      intro a b hab
      induction hab with
      | base ho' hj => intro e; subst e; rw [ho] at ho'; injection ho' with ho'; subst ho'; exact hr _ hj
      | @trans a k b p1 p2 _ ih2 =>
       intro e
       have hk := ih2 e
       have hks : k < ops.size := by
        rcases Nat.lt_or_ge k ops.size with h | h
        ·exact h
        ·have : l.getD k false = false := by
          have : ¬ k < l.size := by omega
          simp [this]
         rw [this] at hk; cases hk
       have hkm := (hm3 k hks).1 hk
       have hak : a < k := Pred.lt (hd fun _ => (0, 0)) p1
       exact (hm3 a Ar).2 Ar
     have := (hm3 m Ar).1 (hdown hpi rfl)
     omega
    ·omega
   exact goLate m him hm1 hm2 hm3 hw
 ·rintro l a w ⟨hsz, hI⟩ hr
  have hall : ∀ i, i < ops.size → l.getD i false = true := by
   intro i
   induction i using Nat.strongRecOn with
   | _ i ih =>
    intro hi
    cases hq : l.getD i false with
    | true => rfl
    | false =>
     have ho : ops[i]? = some ops[i] := Array.getElem?_eq_getElem hi
     have : i ∈ Region.ready .any ops l := by
      refine mem_ready.2 ⟨?_, ops[i], ho, ?_⟩
      ·have : i < l.size := by omega
       simp [this] at hq ⊢; exact hq
      ·intro e he hb
       have hj : e.on ∈ D6 ops[i] := by
        simp only [D6, List.mem_map, List.mem_filter]
        exact ⟨e, ⟨by simpa using he, hb⟩, rfl⟩
       have hlt := c0 i _ _ ho hj
       exact ih e.on hlt Ar
     rw [hr] at this
     cases this
  rcases hI with ⟨β, τ', F, Hb, hdown, hno, hτ, hp, hs, ht⟩ | ⟨m, hm1, hm2, hm3, hw⟩
  ·have hbs : base.length = ops.size := by
    rcases Nat.lt_or_ge base.length ops.size with h | h
    ·have := hall base.length h; rw [hno base.length (Nat.le_refl _)] at this; cases this
    ·omega
   have := conv (fun j hj => hall j Ar) hno hτ hp hs ht
   rw [hbs, Nat.sub_self] at this
   exact this
  ·have hms : m = ops.size := by
    rcases Nat.lt_or_ge m ops.size with h | h
    ·have := (hm3 m h).1 (hall m h); omega
    ·omega
   rw [hms, Nat.sub_self] at hw
   exact hw
 ·refine ⟨by simp, .inl ⟨fun _ => (0, 0), τ, F₀, [], ?_, ?_, ?_, ?_, hs₁, t₀⟩⟩
  ·intro i o j ho hi
   by_cases h : i < ops.size <;> simp [h] at hi
  ·intro k _
   by_cases h : k < ops.size <;> simp [h]
  ·intro t
   refine ⟨fun k o ho hk hl => ?_, fun _ => At⟩
   by_cases h : k < ops.size <;> simp [h] at hl
  ·rw [RW base 0 fun j => by by_cases h : j < ops.size <;> simp [h]]
 ·have := List.length_filter_le (fun b : Bool => !b) (Array.replicate ops.size false).toList
  simp at this ⊢
section
variable {P : Program} {ops : Array Oper} {H₀ : List BT} {k : Nat} {τ : Nat → AV} {r : List Ey} {K : (Nat → AV) → List BT → Prop} {dst : Option Tmp} {op : Op} {ty : TypeId} {pos : String} {aft : Array Edge} {v : AV}
theorem BN (ho : ops[k]? = some ⟨dst, op, ty, pos, aft, none⟩) (h : ∀ Bs, Dg P ⟨dst, op, ty, pos, aft, none⟩ (ev τ) (Bs ++ H₀) v (Bs ++ H₀)) (next : EW P ops H₀ (k + 1) (put τ dst v) r K) : EW P ops H₀ k τ (.val v :: r) K :=
 ⟨_, ho, ⟨trivial, h⟩, fun _ => next⟩
theorem E5 {cs : List AV} (ho : ops[k]? = some ⟨dst, op, ty, pos, aft, none⟩) (h : ∀ Bs, DB P ⟨dst, op, ty, pos, aft, none⟩ (ev τ) (Bs ++ H₀) (I1 cs (Bs ++ H₀))) (next : ∀ b, EW P ops H₀ (k + 1) (put τ dst (.ptr b 0)) r (fun τ' Hs => K τ' (.box b cs :: Hs))) : EW P ops H₀ k τ (.new cs :: r) K :=
 ⟨_, ho, ⟨rfl, h⟩, fun b => next b.1⟩
theorem Lq {sz : Nat} {rows : List (List PV)} (ho : ops[k]? = some ⟨dst, op, ty, pos, aft, none⟩) (h : ∀ Bs, DB P ⟨dst, op, ty, pos, aft, none⟩ (ev τ) (Bs ++ H₀) (Ig sz rows (Bs ++ H₀))) (next : ∀ b c, EW P ops H₀ (k + 1) (put τ dst (.vs (some b) rows.length c)) r (fun τ' Hs => K τ' (.vec (some b) sz rows c :: Hs))) : EW P ops H₀ k τ (.newv sz rows :: r) K :=
 ⟨_, ho, ⟨rfl, h⟩, fun b => next b.1 b.2⟩
theorem Ed (h : K τ []) : EW P ops H₀ k τ [] K := h
theorem Bx {α : Type} {Bs H : List α} {j : Nat} {x : α} (h : H[j]? = some x) : (Bs ++ H)[Bs.length + j]? = some x := by
 rw [List.getElem?_append_right Ar, Nat.add_sub_cancel_left]; exact h
theorem CU {c : Call} {f : Operand} {fid : FuncId} {first caps A : List AV} {ρ : Operand → AV} {H Hs : List BT} {g : Option (Nat × Bool)} {Bs : List BT} (is : List Nat) (hc : c.callee = .value f) (hf : (ρ f = .p (.fn fid) ∧ first = [] ∧ caps = []) ∨ ρ f = .fn (.func fid) first caps) (h : Bt P fid A Hs (DC v Hs)) (hg : E4 H is Hs) (hn : is.Nodup) (hA : G1 (first ++ c.args.toList.map ρ ++ caps) A) :
  Dg P ⟨dst, .call c, ty, pos, aft, g⟩ ρ (Bs ++ H) v (Bs ++ H) := by
 have hp : (Bs ++ H).Perm (Hs ++ (Bs ++ DD is 0 H)) := by
  refine ((Cx hn hg).append_left Bs).trans ?_
  rw [← List.append_assoc, ← List.append_assoc]
  exact List.perm_append_comm.append_right _
 refine DB.permR (Ho (H := Bs ++ H) hc hf hp (h.args hA) (.inl At)) ?_
 rintro r H' ⟨Hs', h1, rfl⟩
 cases r with
 | val v' => obtain ⟨rfl, rfl⟩ := h1; exact ⟨Bs ++ H, hp.symm, rfl, rfl⟩
 | panic v' => exact h1.elim
end
theorem Mg {α : Type} : ∀ {l H : List α}, l.Nodup → (∀ x ∈ l, x ∈ H) → ∃ r, H.Perm (l ++ r)
 | [], H, _, _ => ⟨H, by simp⟩
 | a :: l, H, hn, hs => by
  obtain ⟨s, t, rfl⟩ := List.append_of_mem (hs a As)
  have hn' := List.nodup_cons.1 hn
  obtain ⟨r, hr⟩ := Mg (l := l) (H := s ++ t) hn'.2 fun x hx => by
   have := hs x (by simp [hx])
   simp only [List.mem_append, List.mem_cons] at this ⊢
   rcases this with h | rfl | h
   ·exact .inl h
   ·exact absurd hx hn'.1
   ·exact .inr h
  exact ⟨r, List.perm_middle.trans (by simpa using hr.cons a)⟩
def VT (ops : Array Oper) (k : Nat) (ef : WX) : List BT → Prop
 | [] => True
 | ob :: r => Rh ops k ob ef ∧ VT ops k ef r
theorem Oz {ops : Array Oper} {k : Nat} {ef : WX} : ∀ {l : List BT}, VT ops k ef l → ∀ ob ∈ l, Rh ops k ob ef
 | [], _, ob, h => by simp at h
 | a :: l, h, ob, hm => by
  rcases List.mem_cons.1 hm with rfl | hm
  ·exact h.1
  ·exact Oz h.2 ob hm
theorem OK {α : Type} {H : List α} : ∀ {is : List Nat} {xs : List α}, E4 H is xs → ∀ x ∈ xs, x ∈ H
 | [], xs, h, x, hx => by simp only [E4] at h; subst h; simp at hx
 | i :: is, xs, h, x, hx => by
  obtain ⟨y, xs', rfl, hy, hr⟩ := h
  rcases List.mem_cons.1 hx with rfl | hx
  ·exact List.mem_of_getElem? hy
  ·exact OK hr x hx
theorem QV {α : Type} {a b : α} (h : a ≠ b) : [a, b].Nodup := by simp [h]
section
variable {P : Program} {ops : Array Oper} {n : Nat} {τ₀ : Nat → AV} {D : List EB} {Q : Cy → B2 → Prop} {opn : Nat → Bool} {k : Nat} {τ : Nat → AV} {H Hs : List BT} {rd : YB} {ef : WX} {effs : List Bool} {fx : List (Nat × Sp)} {dst : Option Tmp} {ty : TypeId} {pos : String} {aft : Array Edge} {v : AV} {c : Call} {f : Operand} {fid : FuncId} {first caps A : List AV}
theorem CD (is : List Nat) (ho : ops[k]? = some ⟨dst, .call c, ty, pos, aft, none⟩) (hn : opn k = false) (hc : c.callee = .value f) (hf : (ev τ f = .p (.fn fid) ∧ first = [] ∧ caps = []) ∨ ev τ f = .fn (.func fid) first caps) (h : Bt P fid A Hs (DC v Hs)) (hg : E4 H is Hs) (hnd : Hs.Nodup) (hA : G1 (first ++ c.args.toList.map (ev τ) ++ caps) A)
  (owe : VT ops k ef Hs) (hfx : Hq k (.read Hs v) fx) (next : Dr P ops n τ₀ D Q opn (k + 1) (put τ dst v) H (Hs.map (fun ob => (k, ob)) ++ rd) ef (false :: effs) fx) : Dr P ops n τ₀ D Q opn k τ H rd ef effs fx := by
 refine .step (.read Hs v) ho (.inl hn) ⟨trivial, OK hg, fun H' hm => ?_⟩ (Oz owe) hfx next
 obtain ⟨r, hp⟩ := Mg hnd hm
 refine DB.permR (Ho (H := H') hc hf hp (h.args hA) (.inl At)) ?_
 rintro r' H2 ⟨Hs', h1, rfl⟩
 cases r' with
 | val v' => obtain ⟨rfl, rfl⟩ := h1; exact ⟨H', hp.symm, rfl, rfl⟩
 | panic v' => exact h1.elim
end
end Go.Abs
namespace Go.Eu
open Go.Abs
theorem bV (t : Tm) : ∀ c ∈ Be t, c ≠ .nils := by obtain ⟨k, i, n, l, s⟩ := t; simp [Be]
theorem C1 (l : List Tm) : ∀ r ∈ BR l, ∀ c ∈ r, c ≠ .nils := by
 intro r hr
 rw [Ee] at hr
 obtain ⟨t, _, rfl⟩ := List.mem_map.1 hr
 exact bV t
theorem Iz (l : List GF) : ∀ r ∈ l.map CJ, ∀ c ∈ r, c ≠ .nils := by
 intro r hr c hc
 obtain ⟨e, _, rfl⟩ := List.mem_map.1 hr
 simp only [CJ, List.mem_append, List.mem_singleton] at hc
 rcases hc with h | h | h | h
 ·exact bV _ c h
 ·exact bV _ c h
 ·exact bV _ c h
 ·subst h; simp
theorem NA (l : List CY) : ∀ r ∈ l.map Ca, ∀ c ∈ r, c ≠ .nils := by
 intro r hr c hc
 obtain ⟨e, _, rfl⟩ := List.mem_map.1 hr
 simp [Ca] at hc
 rcases hc with rfl | rfl <;> simp
theorem Kk {th : BJ} {f x : GF} {l : List GF} {i : Nat} (h : l[i]? = some x) : Cm th f (l.take (i + 1)) = Kt th (Cm th f (l.take i)) x := by
 simp [Cm, List.take_add_one, h]
theorem Rn {th : BJ} {f : GF} {l : List GF} : Cm th f (l.take 0) = f := by simp [Cm]
theorem cN {f : Nat → Option (Nat × Nat)} {base : List AV} {l r q : Tm} (h0 : f 0 = some (0, 5)) (h1 : f 1 = some (5, 5)) (h2 : f 2 = some (10, 5)) (hb : base.length = 16) (hd : base.drop 15 = [.p (.bool false)]) : FT f base [(0, TV l), (1, TV r), (2, TV q)] = some ((CJ ⟨l, r, q, false⟩).map .p) := by
 rw [aB h0 h1 h2 hb Ak Ak Ak, hd]
 simp [CJ]
theorem gV {f : Nat → Option (Nat × Nat)} {base : List AV} {l r q : Tm} {s : Bool} (h0 : f 0 = some (0, 5)) (h1 : f 1 = some (5, 5)) (h2 : f 2 = some (10, 5)) (h3 : f 3 = some (15, 1)) (hb : base.length = 16) : FT f base [(0, TV l), (1, TV r), (2, TV q), (3, .p (.bool s))] = some ((CJ ⟨l, r, q, s⟩).map .p) := by
 rw [Z7 h0 h1 h2 h3 hb Ak Ak Ak]
 simp [CJ]
theorem eq_left (e : GF) : (((CJ e).map AV.p).drop 0).take 5 = (Be e.left).map .p := by
 simp only [CJ, List.map_append, List.drop_zero]
 rw [List.take_left' Ak]
theorem eq_right (e : GF) : (((CJ e).map AV.p).drop 5).take 5 = (Be e.right).map .p := by
 simp only [CJ, List.map_append]
 rw [List.drop_left' Ak, List.take_left' Ak]
theorem Jk (e : GF) : (((CJ e).map AV.p).drop 10).take 5 = (Be e.proof).map .p := by
 simp only [CJ, List.map_append]
 rw [show (10 : Nat) = 5 + 5 from rfl, ← List.drop_drop, List.drop_left' Ak, List.drop_left' Ak, List.take_left' Ak]
theorem FE (e : GF) : ((((CJ e).map AV.p).drop 0).take 5).length = 5 := by rw [eq_left]; simp [Bj]
theorem E1 (e : GF) : ((((CJ e).map AV.p).drop 5).take 5).length = 5 := by rw [eq_right]; simp [Bj]
theorem KA (e : GF) : ((((CJ e).map AV.p).drop 10).take 5).length = 5 := by rw [Jk]; simp [Bj]
theorem K8 (e : GF) : ((CJ e).map AV.p)[15]? = some (.p (.bool e.same)) := by
 obtain ⟨⟨_, _, _, _, _⟩, ⟨_, _, _, _, _⟩, ⟨_, _, _, _, _⟩, s⟩ := e
 rfl
end Go.Eu
namespace Go.Abs
def Kz (P : Program) (T : TypeId) : Bool :=
 match P.underlying T with
 | some (.struct fs) => match fs.toList with
  | [f, g] => f.name != "_" && g.name != "_" && Nat.beq f.offset 0 && Nat.beq g.offset 1 && (match P.underlying f.type, P.underlying g.type with | some (.int .i64), some .bool => true | _, _ => false) && !P.stoodInHeld T && !P.eqGuardType P.depth T
  | _ => false
 | _ => false
theorem Qx {P : Program} {T : TypeId} {a c : Int} {b d : Bool} {w : World} (h : Kz P T = true) : (Op.equal T (.agg #[.int .i64 a, .bool b]) (.agg #[.int .i64 c, .bool d])).run P w = .ok (a == c && b == d) w := by
 unfold Kz at h
 split at h
 ·rename_i fs hu
  split at h
  ·rename_i f g hfs
   obtain rfl : fs = #[f, g] := by apply Array.ext'; simpa using hfs
   simp only [Bool.and_eq_true, bne_iff_ne, ne_eq, Bool.not_eq_true'] at h
   obtain ⟨⟨⟨⟨⟨⟨h1, h2⟩, h3⟩, h4⟩, h5⟩, h6⟩, h7⟩ := h
   split at h5
   ·rename_i hf hg
    have e3 := Nat.eq_of_beq_eq_true h3
    have e4 := Nat.eq_of_beq_eq_true h4
    have hp : (program).run P w = .ok P w := rfl
    have af : (isAgg f.type).run P w = .ok false w := IT hf false rfl w
    have ag : (isAgg g.type).run P w = .ok false w := IT hg false rfl w
    have pf : ∀ (x : Int) (y : Bool), (part f.type #[.int .i64 x, .bool y] f.offset).run P w = .ok (.int .i64 x) w := by
     intro x y; unfold part; simp [Sem.run_bind, af, e3]
    have pg : ∀ (x : Int) (y : Bool), (part g.type #[.int .i64 x, .bool y] g.offset).run P w = .ok (.bool y) w := by
     intro x y; unfold part; simp [Sem.run_bind, ag, e4]
    have qf : ∀ (x y : Int), (Op.equalIn 9999 f.type (.int .i64 x) (.int .i64 y)).run P w = .ok (x == y) w := by
     intro x y; rw [show (9999 : Nat) = 9998 + 1 from rfl]; unfold Op.equalIn; simp [Sem.run_bind, run_underlying hf]
    have qg : ∀ (x y : Bool), (Op.equalIn 9999 g.type (.bool x) (.bool y)).run P w = .ok (x == y) w := by
     intro x y; rw [show (9999 : Nat) = 9998 + 1 from rfl]; unfold Op.equalIn; simp [Sem.run_bind, run_underlying hg]
    unfold Op.equal
    rw [show Op.maxDepth = 9999 + 1 from rfl]
    unfold Op.equalIn
    simp only [Sem.run_bind, run_underlying hu, Result.andThen_ok, hp, h6]
    simp [Sem.run_bind, h1, h2, pf, pg, qf, qg]
    cases hac : (a == c) <;> cases hbd : (b == d) <;> simp_all [Sem.run_bind, h1, h2, pf, pg, qf, qg]
   ·cases h5
  ·cases h
 ·cases h
section
variable {P : Program} {dst : Option Tmp} {ty : TypeId} {pos : String} {aft : Array Edge} {g : Option (Nat × Bool)} {ρ : Operand → AV} {H : List BT} {x y z : Operand} {v : AV}
theorem Vu {T U : TypeId} {a c : Int} {b d : Bool} (h : Kz P T = true) (hx : ρ x = .agg [.p (.int .i64 a), .p (.bool b)]) (hy : ρ y = .agg [.p (.int .i64 c), .p (.bool d)]) : Dg P ⟨dst, .binOp .eql T x y U, ty, pos, aft, g⟩ ρ H (.p (.bool (a == c && b == d))) H :=
 CT fun F w E hH hE => by
  have e1 := hE x Ah
  have e2 := hE y Ah
  rw [hx] at e1
  rw [hy] at e2
  simp only [CR, B0, CV] at e1 e2
  obtain ⟨vs, e1, u1, us1, rfl, rfl, u2, us2, rfl, rfl, rfl⟩ := e1
  obtain ⟨vs', e2, v1, vs1, rfl, rfl, v2, vs2, rfl, rfl, rfl⟩ := e2
  refine ⟨.bool (a == c && b == d), ?_, by simp [CR, CV]⟩
  have hq := Qx (P := P) (T := T) (a := a) (b := b) (c := c) (d := d) (w := w) h
  have h' := h
  have hg : (eqGuard .eql T x y (.agg #[.int .i64 a, .bool b]) (.agg #[.int .i64 c, .bool d])).run P w = .ok () w := by
   unfold Kz at h'
   split at h'
   ·split at h'
    ·simp only [Bool.and_eq_true, Bool.not_eq_true'] at h'
     have h7 := h'.2
     have hp : (program).run P w = .ok P w := rfl
     unfold eqGuard
     simp [Sem.run_bind, hp, h7]
    ·cases h'
   ·cases h'
  simp [execOp, Sem.run_bind, hg, e1, e2, binOp, hq]
end
end Go.Abs
namespace Go.Eu
open Go.Abs
def UM {σ α : Type} (st : σ → Int → α → σ) (xs : List α) : Nat → σ → σ
 | 0, s => s
 | m + 1, s => UM st xs m (match xs[m]? with | some x => st s m x | none => s)
theorem Up {σ α : Type} {st : σ → Int → α → σ} {xs : List α} {m j : Nat} {x : α} {s : σ} (hx : xs[j]? = some x) (hm : m = j + 1) : UM st xs (m - 1) (st s ((m : Int) - 1) x) = UM st xs m s := by
 subst hm
 rw [Nat.add_sub_cancel, UM, hx]
 simp only
 congr 2
 omega
def Rb (th : BJ) (A : List Tm) (s : Tm) (d : Int) (x : CY) : Tm := CW th (Ce th A x) s
theorem Sl {th : BJ} {A : List Tm} {l : List CY} : ∀ (m : Nat), m ≤ l.length → UM (Rb th A) l m (Bc th A (l.drop m)) = Bc th A l
 | 0, _ => by simp [UM]
 | m + 1, hm => by
  obtain ⟨x, hx⟩ : ∃ x, l[m]? = some x := ⟨_, List.getElem?_eq_getElem Ar⟩
  have h2 : l.drop m = x :: l.drop (m + 1) := by
   obtain ⟨h1, h3⟩ := List.getElem?_eq_some_iff.1 hx
   rw [List.drop_eq_getElem_cons h1, h3]
  have ih := Sl (th := th) (A := A) (l := l) m Ar
  rw [h2] at ih
  rw [UM, hx]
  exact ih
theorem Tw {th : BJ} {A : List Tm} {l : List CY} : UM (Rb th A) l l.length (BS th.zero []) = Bc th A l := by
 have := Sl (th := th) (A := A) (l := l) l.length (Nat.le_refl _)
 rw [List.drop_length] at this
 exact this
theorem K5 {α : Type} {l : List α} {x : α} (h : l[0]? = some x) : l = x :: l.drop 1 := by
 cases l with
 | nil => simp at h
 | cons a l => simp at h; subst h; rfl
section
variable {th : BJ} {A : List Tm} {x y : CY} {l a b : List CY}
theorem WJ (h : l = [] ∨ ∃ y, l[0]? = some y ∧ (x.place < y.place ∨ (x.place = y.place ∧ x.minus = y.minus))) : Ci th A x l = (DW th (CW th (Ce th A x) (Bc th A l)), x :: l) := by
 rcases h with rfl | ⟨y, h0, h1⟩
 ·rfl
 ·rw [K5 h0]
  unfold Ci
  rw [if_pos h1]
theorem Ve (h0 : l[0]? = some y) (h1 : ¬ (x.place < y.place ∨ (x.place = y.place ∧ x.minus = y.minus))) (h2 : x.place = y.place) : Ci th A x l = (Cm th (GG th (D3 th (Ce th A x) (Ce th A y) (Bc th A (l.drop 1)))) [FH th (HD th A x) (DW th (Bc th A (l.drop 1))), IV th (Bc th A (l.drop 1))], l.drop 1) := by
 rw [K5 h0]
 unfold Ci
 rw [if_neg h1, if_pos h2]
 rfl
theorem VX (h0 : l[0]? = some y) (h1 : ¬ (x.place < y.place ∨ (x.place = y.place ∧ x.minus = y.minus))) (h2 : ¬ x.place = y.place) : Ci th A x l = (Cm th (GG th (D3 th (Ce th A x) (Ce th A y) (Bc th A (l.drop 1)))) [FH th (Gn th (Ce th A x) (Ce th A y)) (DW th (Bc th A (l.drop 1))), D3 th (Ce th A y) (Ce th A x) (Bc th A (l.drop 1)), DS th (BS th.add [Ce th A y]) (Ci th A x (l.drop 1)).1], y :: (Ci th A x (l.drop 1)).2) := by
 rw [K5 h0]
 rw [Ci, if_neg h1, if_neg h2]
 rfl
theorem T9 : C6 th A b [] = (IV th (Bc th A b), b) := rfl
theorem SY (h0 : a[0]? = some x) : C6 th A b a = (Cm th (D3 th (Ce th A x) (Bc th A (a.drop 1)) (Bc th A b)) [DS th (BS th.add [Ce th A x]) (C6 th A b (a.drop 1)).1, (Ci th A x (C6 th A b (a.drop 1)).2).1], (Ci th A x (C6 th A b (a.drop 1)).2).2) := by
 rw [K5 h0]; rfl
theorem Qz (h0 : l[0]? = some x) : Cz th A l = (Cm th (Eh th 4 (Ck th (CW th (Ce th A x) (Bc th A (l.drop 1)))) (CW th (Ck th (Ce th A x)) (Ck th (Bc th A (l.drop 1)))) [Ce th A x, Bc th A (l.drop 1)]) [FH th (IP th A x) (Cz th A (l.drop 1)).1], ⟨x.place, !x.minus⟩ :: (Cz th A (l.drop 1)).2) := by
 rw [K5 h0]; rfl
def GX (A : List Tm) (x : CY) : Prop := 0 ≤ x.place ∧ x.place.toNat < A.length
theorem H5 (h : ∀ y ∈ l, GX A y) : ∀ y ∈ l.drop 1, GX A y := fun y hy => h y (List.mem_of_mem_drop hy)
theorem Qn (h : ∀ y ∈ l, GX A y) (h0 : l[0]? = some y) : GX A y := h y (List.mem_of_getElem? h0)
end
theorem Oq {th : BJ} {A : List Tm} {x : CY} (hx : GX A x) : ∀ l : List CY, (∀ y ∈ l, GX A y) → ∀ y ∈ (Ci th A x l).2, GX A y
 | [], h => by intro y hy; simp [Ci] at hy; subst hy; exact hx
 | z :: l, h => by
  intro y hy
  unfold Ci at hy
  split at hy
  ·rcases List.mem_cons.1 hy with rfl | hy
   ·exact hx
   ·exact h y hy
  ·split at hy
   ·exact h y (List.mem_cons_of_mem _ hy)
   ·rcases List.mem_cons.1 hy with rfl | hy
    ·exact h _ As
    ·exact Oq hx l (fun q hq => h q (by simp [hq])) y hy
theorem OB {th : BJ} {A : List Tm} {b : List CY} (hb : ∀ y ∈ b, GX A y) : ∀ a : List CY, (∀ y ∈ a, GX A y) → ∀ y ∈ (C6 th A b a).2, GX A y
 | [], h => hb
 | x :: a, h => Oq (h x As) _ (OB hb a fun q hq => h q (by simp [hq]))
theorem PL {th : BJ} {A : List Tm} : ∀ l : List CY, (∀ y ∈ l, GX A y) → ∀ y ∈ (Cz th A l).2, GX A y
 | [], h => by intro y hy; simp [Cz] at hy
 | x :: l, h => by
  intro y hy
  rcases List.mem_cons.1 hy with rfl | hy
  ·exact h x As
  ·exact PL l (fun q hq => h q (by simp [hq])) y hy
theorem Kv {th : BJ} {A : List Tm} {x : CY} : ∀ l : List CY, (Ci th A x l).2.length ≤ l.length + 1
 | [] => by simp [Ci]
 | z :: l => by
  have := Kv (th := th) (A := A) (x := x) l
  unfold Ci
  split
  ·simp
  ·split
   ·simp; omega
   ·simp; omega
theorem MA {th : BJ} {A : List Tm} {b : List CY} : ∀ a : List CY, (C6 th A b a).2.length ≤ a.length + b.length
 | [] => by simp [C6]
 | x :: a => by
  have := MA (th := th) (A := A) (b := b) a
  have := Kv (th := th) (A := A) (x := x) (C6 th A b a).2
  simp only [C6, List.length_cons]; omega
theorem Ii {th : BJ} {A : List Tm} : ∀ l : List CY, (Cz th A l).2.length = l.length
 | [] => rfl
 | x :: l => by simp [Cz, Ii l]
end Go.Eu
namespace Go.Eu
theorem Uw {a b : Int} {x y : Bool} (h : (a == b && x == y) = true) : a = b ∧ x = y := by simpa using h
theorem Vl {a b : Int} {x y : Bool} (h1 : ¬ a < b) (h : (a == b && x == y) = false) : ¬ (a < b ∨ (a = b ∧ x = y)) := by
 rintro (h2 | ⟨rfl, rfl⟩)
 ·exact h1 h2
 ·simp at h
end Go.Eu
namespace Go.Eu
open Go.Abs
theorem GU {th : BJ} {A : List Tm} : ∀ (n : Nat) (t : Tm), (Bv th A n t).2.length ≤ (Cd th n t).length
 | 0, t => by simp [Bv]
 | n + 1, t => by
  unfold Bv Cd
  split
  ·have h1 := GU (th := th) (A := A) n ((Cu th t).2.getD 0 BZ)
   have h2 := GU (th := th) (A := A) n ((Cu th t).2.getD 1 BZ)
   have := MA (th := th) (A := A) (b := (Bv th A n ((Cu th t).2.getD 1 BZ)).2) (Bv th A n ((Cu th t).2.getD 0 BZ)).2
   simp only [List.length_append]; omega
  ·split
   ·simp
   ·split
    ·have h1 := GU (th := th) (A := A) n ((Cu th t).2.getD 0 BZ)
     simp only [Ii]; exact h1
    ·simp
theorem HT {th : BJ} {A : List Tm} : ∀ (n : Nat) (t : Tm), (∀ a ∈ Cd th n t, a ∈ A) → ∀ y ∈ (Bv th A n t).2, GX A y
 | 0, t, _ => by intro y hy; simp [Bv] at hy
 | n + 1, t, h => by
  unfold Cd at h
  unfold Bv
  split
  ·rename_i ho
   rw [if_pos ho] at h
   exact OB (HT n _ fun a ha => h a (List.mem_append_right _ ha)) _ (HT n _ fun a ha => h a (List.mem_append_left _ ha))
  ·rename_i ho
   rw [if_neg ho] at h
   split
   ·intro y hy; simp at hy
   ·rename_i ho2
    rw [if_neg ho2] at h
    split
    ·rename_i ho3
     rw [if_pos ho3] at h
     exact PL _ (HT n _ h)
    ·rename_i ho3
     rw [if_neg ho3] at h
     intro y hy
     simp only [List.mem_singleton] at hy
     subst hy
     have := Da (h t As)
     exact ⟨by simp, by simpa using this.1⟩
section
variable {th : BJ} {A : List Tm} {n : Nat} {t x y : Tm}
theorem SC (h : (Cu th t).1 = 1) (hx : (Cu th t).2[0]? = some x) (hy : (Cu th t).2[1]? = some y) : Bv th A (n + 1) t = (Cm th (FH th (Bv th A n x).1 (Bv th A n y).1) [(C6 th A (Bv th A n y).2 (Bv th A n x).2).1], (C6 th A (Bv th A n y).2 (Bv th A n x).2).2) := by
 rw [Bv, if_pos h, Cs hx, Cs hy]
theorem Q8 (h : (Cu th t).1 = 2) : Bv th A (n + 1) t = (DW th t, []) := by
 rw [Bv, if_neg (by rw [h]; decide), if_pos h]
theorem R4 (h : (Cu th t).1 = 3) (hx : (Cu th t).2[0]? = some x) : Bv th A (n + 1) t = (Cm th (DS th (BS th.neg []) (Bv th A n x).1) [(Cz th A (Bv th A n x).2).1], (Cz th A (Bv th A n x).2).2) := by
 rw [Bv, if_neg (by rw [h]; decide), if_neg (by rw [h]; decide), if_pos h, Cs hx]
theorem Qm (h : (Cu th t).1 = 0) : Bv th A (n + 1) t = (Cm th (GG th (IV th t)) [Gn th (BS th.zero []) t], [⟨(Cl A t : Int), false⟩]) := by
 rw [Bv, if_neg (by rw [h]; decide), if_neg (by rw [h]; decide), if_neg (by rw [h]; decide)]
theorem UD (h : (Cu th t).1 = 1) (hx : (Cu th t).2[0]? = some x) (hy : (Cu th t).2[1]? = some y) : Cd th (n + 1) t = Cd th n x ++ Cd th n y := by
 rw [Cd, if_pos h, Cs hx, Cs hy]
theorem UI (h : (Cu th t).1 = 3) (hx : (Cu th t).2[0]? = some x) : Cd th (n + 1) t = Cd th n x := by
 rw [Cd, if_neg (by rw [h]; decide), if_neg (by rw [h]; decide), if_pos h, Cs hx]
theorem R3 (h : (Cu th t).1 = 0) : Cd th (n + 1) t = [t] := by
 rw [Cd, if_neg (by rw [h]; decide), if_neg (by rw [h]; decide), if_neg (by rw [h]; decide)]
end
theorem Cp {α : Type} (a : α) : [a].Nodup := by simp
theorem L5 {p c m : Nat} {ps cs : List AV} {es : List (PV × AV)} {GL : List (Nat × Obj)} (h : ps.length ≠ cs.length) : [BT.box p ps, .box c cs, .map m es, .glob GL].Nodup := by
 simp; rintro rfl rfl; exact h rfl
theorem VV {c m : Nat} {cs : List AV} {es : List (PV × AV)} {GL : List (Nat × Obj)} : [BT.box c cs, .map m es, .glob GL].Nodup := by simp
end Go.Eu
namespace Go.Eu
theorem RR {th : BJ} {A : List Tm} {x : CY} {a b : List CY} {q : GF × List CY} (h0 : a[0]? = some x) (hq : C6 th A b (a.drop 1) = q) : C6 th A b a = (Cm th (D3 th (Ce th A x) (Bc th A (a.drop 1)) (Bc th A b)) [DS th (BS th.add [Ce th A x]) q.1, (Ci th A x q.2).1], (Ci th A x q.2).2) := by
 subst hq; exact SY h0
theorem La {th : BJ} {A : List Tm} {x : CY} {l : List CY} {q : GF × List CY} (h0 : l[0]? = some x) (hq : Cz th A (l.drop 1) = q) : Cz th A l = (Cm th (Eh th 4 (Ck th (CW th (Ce th A x) (Bc th A (l.drop 1)))) (CW th (Ck th (Ce th A x)) (Ck th (Bc th A (l.drop 1)))) [Ce th A x, Bc th A (l.drop 1)]) [FH th (IP th A x) q.1], ⟨x.place, !x.minus⟩ :: q.2) := by
 subst hq; exact Qz h0
end Go.Eu
namespace Go.Eu
open Go.Abs
def P0 (ds : List Kb) (s : ByteArray) : Bool := ds.any fun d => decide (d.name = s)
def QJ (ds : List Kb) (l : List ByteArray) : Bool := l.any fun s => !P0 ds s
def Xl (ds : List Kb) : List ByteArray → Int → Int
 | [], _ => -1
 | s :: l, i => if P0 ds s then Xl ds l (i + 1) else i
theorem Vx {ds : List Kb} {l : List ByteArray} {i : Nat} {s : ByteArray} {k : Int} (h : l[i]? = some s) : Xl ds (l.drop i) k = if P0 ds s then Xl ds (l.drop (i + 1)) (k + 1) else k := by
 rw [Dd h]; rfl
theorem TT {ds : List Kb} : ∀ (l : List ByteArray) (i : Int), 0 ≤ i → decide (Xl ds l i ≥ 0) = QJ ds l
 | [], i, h => rfl
 | s :: l, i, h => by
  simp only [Xl, QJ, List.any_cons]
  by_cases e : P0 ds s = true
  ·simpa [e, QJ] using TT l (i + 1) Ar
  ·simp [e]; exact h
def P4 (th : BJ) : List ByteArray := [th.carrier, th.add, th.zero, th.neg, ⟨#[69, 113]⟩, ⟨#[69, 113, 46, 114, 101, 102, 108]⟩, ⟨#[69, 113, 46, 115, 121, 109, 109]⟩, ⟨#[69, 113, 46, 116, 114, 97, 110, 115]⟩, ⟨#[69, 113, 46, 99, 111, 110, 103, 114]⟩] ++ th.lemmas.take 7
section
variable {th : BJ} {C : FQ} {t : Tm} {s : Int}
theorem It (h : Ft C) (ha : C.all ≤ 200) : (ET C t s).all = C.all + 1 ∧ t ∈ (ET C t s).atoms ∧ ∀ a ∈ C.atoms, a ∈ (ET C t s).atoms := by
 have hw : wr (C.all + 1) = C.all + 1 := FZ (by have := h.lo; constructor <;> omega)
 unfold ET
 by_cases hm : t ∈ C.atoms
 ·rw [if_pos (Da hm).1]; exact ⟨hw, hm, fun a h => h⟩
 ·rw [if_neg (DR hm)]; exact ⟨hw, by simp, fun a h => by simp [h]⟩
theorem FK : ∀ (n : Nat) (C : FQ) (t : Tm) (s : Int), Ft C → C.all ≤ (Bw th n C t s).all
 | 0, C, t, s, h => Int.le_refl _
 | n + 1, C, t, s, h => by
  unfold Bw
  split
  ·exact Int.le_refl _
  ·split
   ·exact Int.le_trans (FK n _ _ _ h) (FK n _ _ _ (Dh _ _ _ _ h))
   ·split
    ·exact Int.le_refl _
    ·split
     ·exact FK n _ _ _ h
     ·rw [(It h Ar).1]; omega
theorem EI : ∀ (n : Nat) (C : FQ) (t : Tm) (s : Int), Ft C → (Bw th n C t s).all ≤ 200 → (Bw th n C t s).all = C.all + (Cd th n t).length ∧ (∀ a ∈ Cd th n t, a ∈ (Bw th n C t s).atoms) ∧ ∀ a ∈ C.atoms, a ∈ (Bw th n C t s).atoms
 | 0, C, t, s, h, hl => by simp [Bw, Cd]
 | n + 1, C, t, s, h, hl => by
  have hC : ¬ C.all > 200 := by have := FK (th := th) (n + 1) C t s h; omega
  unfold Bw at hl ⊢
  unfold Cd
  rw [if_neg hC] at hl ⊢
  by_cases h1 : (Cu th t).1 = 1
  ·rw [if_pos h1] at hl ⊢
   rw [if_pos h1]
   have hk := Dh (th := th) n C ((Cu th t).2.getD 0 BZ) s h
   obtain ⟨e2, a2, b2⟩ := EI n _ _ _ hk hl
   obtain ⟨e1, a1, b1⟩ := EI n C ((Cu th t).2.getD 0 BZ) s h (by have := FK (th := th) n _ ((Cu th t).2.getD 1 BZ) s hk; omega)
   refine ⟨by rw [e2, e1, List.length_append]; omega, fun a ha => ?_, fun a ha => b2 a (b1 a ha)⟩
   rcases List.mem_append.1 ha with ha | ha
   ·exact b2 a (a1 a ha)
   ·exact a2 a ha
  ·rw [if_neg h1] at hl ⊢
   rw [if_neg h1]
   by_cases h2 : (Cu th t).1 = 2
   ·rw [if_pos h2, if_pos h2]; simp
   ·rw [if_neg h2] at hl ⊢
    rw [if_neg h2]
    by_cases h3 : (Cu th t).1 = 3
    ·rw [if_pos h3] at hl ⊢
     rw [if_pos h3]
     exact EI n _ _ _ h hl
    ·rw [if_neg h3, if_neg h3]
     obtain ⟨e, a, b⟩ := It (t := t) (s := s) h Ar
     exact ⟨by rw [e]; simp, by simpa using a, b⟩
theorem FW {N : Nat} : ∀ (n : Nat) (C : FQ) (t : Tm) (s : Int), (∀ a ∈ C.atoms, size a ≤ N) → ER t → size t ≤ N → ∀ a ∈ (Bw th n C t s).atoms, size a ≤ N
 | 0, C, t, s, h, _, _ => h
 | n + 1, C, t, s, h, ht, hs => by
  unfold Bw
  split
  ·exact h
  ·split
   ·rename_i ho
    obtain ⟨h1, h2, h3⟩ := ht.op.1 ho
    exact FW n _ _ _ (FW n _ _ _ h h1 Ar) h2 Ar
   ·split
    ·exact h
    ·split
     ·rename_i ho
      obtain ⟨h1, h3⟩ := ht.op.2 ho
      exact FW n _ _ _ h h1 Ar
     ·unfold ET
      split
      ·exact h
      ·intro a ha
       rcases List.mem_append.1 ha with ha | ha
       ·exact h a ha
       ·simp at ha; subst ha; exact hs
theorem Lb : ∀ (n : Nat) (t : Tm), ER t → (Cd th n t).length ≤ size t
 | 0, t, _ => by simp [Cd]
 | n + 1, t, ht => by
  have := size_pos t
  unfold Cd
  split
  ·rename_i ho
   obtain ⟨h1, h2, h3⟩ := ht.op.1 ho
   have := Lb n _ h1
   have := Lb n _ h2
   rw [List.length_append]; omega
  ·split
   ·simp
   ·split
    ·rename_i ho
     obtain ⟨h1, h3⟩ := ht.op.2 ho
     have := Lb n _ h1
     omega
    ·simp; omega
theorem Ox (ht : ER t) (hs : size t ≤ 4096) (hl : (CP th t).all ≤ 60) : (∀ a ∈ Cd th (size t) t, a ∈ (CP th t).atoms) ∧ (Cd th (size t) t).length ≤ 60 ∧ (∀ a ∈ (CP th t).atoms, My a) ∧ WQ (CP th t).atoms ∧ (CP th t).coefs.length < 1000 := by
 obtain ⟨e, a, -⟩ := EI (th := th) (size t) ⟨[], [], 0⟩ t 1 Fx (by show (CP th t).all ≤ 200; omega)
 have e' : (CP th t).all = 0 + ((Cd th (size t) t).length : Int) := e
 have g := Q7 (th := th) ht Ar
 have k := FO th t
 refine ⟨a, by omega, g.nq, ⟨g.nds, ?_⟩, by rw [k.len]; exact k.lt⟩
 exact FW (th := th) (size t) ⟨[], [], 0⟩ t 1 As ht hs
theorem Vy (h : GP th) (ht : ER t) (hs : size t ≤ 4096) (hl : (CP th t).all ≤ 60) : Nd (Bv th (CP th t).atoms (size t) t).1.proof ∧ size (Bv th (CP th t).atoms (size t) t).1.proof < 1152921504606846976 := by
 obtain ⟨a, b, -, c, -⟩ := Ox (th := th) ht hs hl
 have := (K4 h c (size t) t (Nat.le_refl _) ht hs Ar a).1
 refine ⟨this.nd, Nat.lt_of_le_of_lt this.sz ?_⟩
 have : 50000000000 * size t ≤ 50000000000 * 4096 := Nat.mul_le_mul_left _ hs
 omega
theorem Hl : ∀ (n : Nat) (C : FQ) (t : Tm) (s : Int), Ft C → (Bw th n C t s).all ≤ C.all + (Cd th n t).length
 | 0, C, t, s, h => by simp [Bw, Cd]
 | n + 1, C, t, s, h => by
  unfold Bw Cd
  split
  ·omega
  ·split
   ·have := Hl n C ((Cu th t).2.getD 0 BZ) s h
    have := Hl n (Bw th n C ((Cu th t).2.getD 0 BZ) s) ((Cu th t).2.getD 1 BZ) s (Dh _ _ _ _ h)
    rw [List.length_append]; omega
   ·split
    ·simp
    ·split
     ·exact Hl n _ _ _ h
     ·rw [(It h Ar).1]; simp
theorem ZF (ht : ER t) : (CP th t).all ≤ size t := by
 have e : (CP th t).all ≤ 0 + ((Cd th (size t) t).length : Int) := Hl (th := th) (size t) ⟨[], [], 0⟩ t 1 Fx
 have := Lb (th := th) (size t) t ht
 omega
end
theorem Rq (l : List FC) : ∀ r ∈ l.map Dw, ∀ c ∈ r, c ≠ .nils := by
 intro r hr c hc
 obtain ⟨e, _, rfl⟩ := List.mem_map.1 hr
 simp [Dw] at hc
 rcases hc with rfl | rfl <;> simp
theorem QP (l : List DJ) : ∀ r ∈ l.map Ec, ∀ c ∈ r, c ≠ .nils := by
 intro r hr c hc
 obtain ⟨e, _, rfl⟩ := List.mem_map.1 hr
 simp [Ec] at hc
 rcases hc with rfl | rfl <;> simp
theorem ZP (l : List Kb) : ∀ r ∈ l.map DZ, ∀ c ∈ r, c ≠ .nils := by
 intro r hr c hc
 obtain ⟨e, _, rfl⟩ := List.mem_map.1 hr
 simp only [DZ, WS, List.mem_cons, List.mem_append, List.not_mem_nil, or_false] at hc
 rcases hc with rfl | rfl | rfl | hc | hc | rfl | rfl | (rfl | hc | rfl) | rfl
 all_goals first | exact bV _ _ hc | simp
def Dc (n : ByteArray) (p : Int) (t : Tm) : Kb := ⟨0, n, p, t, BZ, 0, [], ⟨0, BZ, []⟩, []⟩
theorem ZB {b : Int} (h : 0 ≤ b ∧ b < 100) : Nd (.mk 0 b ⟨#[]⟩ [] []) := by
 simp [Nd, rng, EC, Ic, show (⟨#[]⟩ : ByteArray).size = 0 from rfl]; omega
def I8 : BJ := BJ.mk ⟨#[90]⟩ ⟨#[97, 100, 100]⟩ ⟨#[122, 101, 114, 111]⟩ ⟨#[110, 101, 103]⟩ ⟨#[111, 110, 101]⟩ ⟨#[108, 101, 113]⟩ [⟨#[108, 48]⟩, ⟨#[108, 49]⟩, ⟨#[108, 50]⟩, ⟨#[108, 51]⟩, ⟨#[108, 52]⟩, ⟨#[108, 53]⟩, ⟨#[108, 54]⟩, ⟨#[108, 55]⟩, ⟨#[108, 56]⟩, ⟨#[108, 57]⟩, ⟨#[108, 49, 48]⟩, ⟨#[108, 49, 49]⟩, ⟨#[108, 49, 50]⟩, ⟨#[108, 49, 51]⟩]
def aX : Tm := .mk 0 4 ⟨#[]⟩ [] []
def aY : Tm := .mk 0 2 ⟨#[]⟩ [] []
def aZ : Tm := BS ⟨#[122, 101, 114, 111]⟩ []
def JM (a b : Tm) : Tm := BS ⟨#[97, 100, 100]⟩ [a, b]
def KZ (a : Tm) : Tm := BS ⟨#[110, 101, 103]⟩ [a]
def Yh : Tm := JM (JM aX (KZ aY)) aX
def ZW : Tm := JM aX (KZ aX)
def WY : Tm := KZ (KZ (JM aX aZ))
theorem IJ {k i : Int} {n : ByteArray} (hk : (k = 0 ∧ n = ⟨#[]⟩) ∨ (k = 3 ∧ i = 0)) (hi : 0 ≤ i ∧ i < 100) (hn : n.size ≤ 200) (hp : ∀ c ∈ n.data.toList, Sm c) : ER (.mk k i n [] []) := by
 have hr : rng i := ⟨by omega, by omega⟩
 have hs : n.size < EC := by simp only [EC]; omega
 rcases hk with ⟨rfl, rfl⟩ | ⟨rfl, rfl⟩
 ·exact ⟨⟨⟨fun h => absurd At h, fun _ => At, fun _ _ => At, At⟩, trivial⟩, ⟨hs, by decide, by simp, by decide, trivial, ⟨by decide, by decide⟩, hr⟩, ⟨hp, trivial⟩, ⟨hn, by simp, by simp, trivial⟩⟩
 ·exact ⟨⟨⟨fun _ _ => At, fun h => absurd At h, fun _ h => absurd At h, At⟩, trivial⟩, ⟨hs, by decide, by simp, by decide, trivial, ⟨by decide, by decide⟩, hr⟩, ⟨hp, trivial⟩, ⟨hn, by simp, by simp, trivial⟩⟩
theorem QN {f x : Tm} (hf : ER f) (hx : ER x) : ER (.mk 4 0 ⟨#[]⟩ [] [f, x]) :=
 ⟨⟨⟨fun _ _ => rfl, fun _ => rfl, fun _ _ => rfl, rfl⟩, hf.cn, hx.cn, trivial⟩, ⟨by decide, by decide, by simp, by simp [EC], ⟨hf.nd, hx.nd, trivial⟩, ⟨by decide, by decide⟩, ⟨by decide, by decide⟩⟩, ⟨by simp, hf.nq, hx.nq, trivial⟩, ⟨by decide, by simp, by simp, hf.fw, hx.fw, trivial⟩⟩
theorem Lc : ER aX := IJ (.inl ⟨rfl, rfl⟩) Aq Aq As
theorem UP : ER aY := IJ (.inl ⟨rfl, rfl⟩) Aq Aq As
theorem Ta : ER aZ := IJ (.inr ⟨rfl, rfl⟩) Aq Aq (by simp [Sm])
theorem HF {a b : Tm} (ha : ER a) (hb : ER b) : ER (JM a b) := QN (QN (IJ (.inr ⟨rfl, rfl⟩) Aq Aq (by simp [Sm])) ha) hb
theorem Jw {a : Tm} (ha : ER a) : ER (KZ a) := QN (IJ (.inr ⟨rfl, rfl⟩) Aq Aq (by simp [Sm])) ha
theorem bE : ER Yh := HF (HF Lc (Jw UP)) Lc
theorem aK : ER ZW := HF Lc (Jw Lc)
theorem aj : ER WY := Jw (Jw (HF Lc Ta))
theorem bf : aX ≠ aY := by intro h; injection h with _ h; exact absurd h Aq
theorem RU {C : FQ} {t : Tm} {s : Int} (h : t ∉ C.atoms) : ET C t s = ⟨C.coefs ++ [s], C.atoms ++ [t], wr (C.all + 1)⟩ := by
 unfold ET; rw [if_neg (DR h)]
theorem O1 {c al : Int} {cs : List Int} {A : List Tm} {t : Tm} {s : Int} : ET ⟨c :: cs, t :: A, al⟩ t s = ⟨wr (c + s) :: cs, t :: A, wr (al + 1)⟩ := by
 have h0 : Cl (t :: A) t = 0 := by simp [Cl, List.findIdx_cons, Mx]
 unfold ET; simp only [h0]; simp
theorem eV (a b : Tm) : Cu I8 (JM a b) = (1, [a, b]) := by
 have e : Bq (JM a b) = (.mk 3 0 ⟨#[97, 100, 100]⟩ [] [], [a, b]) := by simp [JM, KZ, BS, apply, MD, Bq]
 simp [Cu, e, DN, Tm.kind, Tm.name, Tm.levels, I8]
theorem fp (a : Tm) : Cu I8 (KZ a) = (3, [a]) := by
 have e : Bq (KZ a) = (.mk 3 0 ⟨#[110, 101, 103]⟩ [] [], [a]) := by simp [JM, KZ, BS, apply, MD, Bq]
 simp [Cu, e, DN, Tm.kind, Tm.name, Tm.levels, I8, EH]
theorem gX : Cu I8 aZ = (2, []) := by
 have e : Bq aZ = (.mk 3 0 ⟨#[122, 101, 114, 111]⟩ [] [], []) := by simp [aZ, BS, apply, MD, Bq]
 simp [Cu, e, DN, Tm.kind, Tm.name, Tm.levels, I8, EH]
theorem QT {n : Nat} {C : FQ} {a b : Tm} {s : Int} (h : ¬ C.all > 200) : Bw I8 (n + 1) C (JM a b) s = Bw I8 n (Bw I8 n C a s) b s := HI h (by rw [eV]) (by rw [eV]; rfl) (by rw [eV]; rfl)
theorem QI {n : Nat} {C : FQ} {a : Tm} {s : Int} (h : ¬ C.all > 200) : Bw I8 (n + 1) C (KZ a) s = Bw I8 n C a (wr (0 - s)) := HM h (by rw [fp]) (by rw [fp]; rfl)
theorem XM {n : Nat} {C : FQ} {s : Int} (h : ¬ C.all > 200) : Bw I8 (n + 1) C aZ s = C := Gg h (by rw [gX])
theorem Ya {n : Nat} {C : FQ} {s : Int} (h : ¬ C.all > 200) : Bw I8 (n + 1) C aX s = ET C aX s := E2 h rfl
theorem fO {n : Nat} {C : FQ} {s : Int} (h : ¬ C.all > 200) : Bw I8 (n + 1) C aY s = ET C aY s := E2 h rfl
theorem bJ : size Yh = 11 := by simp [Yh, JM, KZ, aX, aY, BS, apply, MD, size, B4]
theorem cK : size ZW = 7 := by simp [ZW, JM, KZ, aX, BS, apply, MD, size, B4]
theorem bT : size WY = 9 := by simp [WY, JM, KZ, aX, aZ, BS, apply, MD, size, B4]
theorem Yp (n : Nat) : Bw I8 (n + 1) ⟨[], [], 0⟩ aX 1 = ⟨[1], [aX], 1⟩ := by rw [Ya Aq, RU As]; rfl
theorem YP : CP I8 Yh = ⟨[2, -1], [aX, aY], 3⟩ := by
 have e2 : Bw I8 9 ⟨[1], [aX], 1⟩ (KZ aY) 1 = ⟨[1, -1], [aX, aY], 2⟩ := by
  rw [QI Aq, fO Aq, RU (by simpa using Ne.symm bf)]; rfl
 unfold CP
 rw [bJ, Yh, QT Aq, QT Aq, Yp, e2, Ya Aq, O1]; rfl
theorem YX : CP I8 ZW = ⟨[0], [aX], 2⟩ := by
 unfold CP
 rw [cK, ZW, QT Aq, Yp, QI Aq, Ya Aq, O1]; rfl
theorem aa : CP I8 WY = ⟨[1], [aX], 1⟩ := by
 unfold CP
 rw [bT, WY, QI Aq, QI Aq, QT Aq]
 show Bw I8 6 (Bw I8 6 ⟨[], [], 0⟩ aX 1) aZ 1 = _
 rw [Yp, XM Aq]
theorem Yq : B5 I8 Yh = ([2, -1], [aX, aY], 0) := by rw [GQ (by rw [YP]; decide), YP]
theorem Zb : B5 I8 ZW = ([0], [aX], 0) := by rw [GQ (by rw [YX]; decide), YX]
theorem YL : EO I8 [2, -1] [aX, aY] = JM aX (JM aX (JM (KZ aY) aZ)) := by rfl
theorem YR : EO I8 [0] [aX] = aZ := by rfl
theorem YC : EO I8 (CP I8 WY).coefs (CP I8 WY).atoms = JM aX aZ := by rw [aa]; rfl
theorem bI : GP I8 := ⟨by decide, by decide, by decide, by decide, by simp [I8]; decide⟩
theorem a8 : size Yh < 1000000 := by rw [bJ]; decide
theorem bo : size ZW < 1000000 := by rw [cK]; decide
theorem aI : size WY ≤ 16 := by rw [bT]; decide
theorem Zz : Nd (EO I8 [2, -1] [aX, aY]) := by rw [YL]; exact (HF Lc (HF Lc (HF (Jw UP) Ta))).nd
theorem aU : Nd (EO I8 [0] [aX]) := by rw [YR]; exact Ta.nd
theorem bH : Nd (EO I8 (CP I8 WY).coefs (CP I8 WY).atoms) := by rw [YC]; exact (HF Lc Ta).nd
theorem Sv {th : BJ} (h : GP th) {x o : Tm} (hx : Nd x) (ho : Nd o) : ∀ k, Nd (Eo th x k o)
 | 0 => ho
 | k + 1 => F5 h.add ⟨hx, Sv h hx ho k, trivial⟩
theorem XR {th : BJ} (h : GP th) {n : Int} {x : Tm} (hx : Nd x) : Nd (E8 th n x) := by
 unfold E8; split
 ·exact F5 h.neg ⟨hx, trivial⟩
 ·exact hx
theorem TA {th : BJ} (h : GP th) : ∀ (cs : List Int) (us : List Tm), (∀ t ∈ us, Nd t) → Nd (Dx th cs us)
 | [], us, hu => by simp only [Dx]; exact FN h
 | c :: cs, [], hu => by simp only [Dx]; exact FN h
 | c :: cs, u :: us, hu => by
  simp only [Dx]
  exact Sv h (XR h (hu u As)) (TA h cs us fun t ht => hu t (by simp [ht])) _
theorem So {th : BJ} (h : GP th) {cs : List Int} {us : List Tm} (hu : ∀ t ∈ us, Nd t) : Nd (EO th cs us) := by
 unfold EO; split
 ·exact TA h cs us hu
 ·exact IJ (.inl ⟨At, At⟩) Aq Aq As |>.nd
theorem fS {s : ByteArray} {c : UInt8} {l : List UInt8} (h : s.data.toList = c :: l) : s.get! 0 = c := by
 have h2 : s.data[0]? = some c := by rw [← Array.getElem?_toList, h]; rfl
 show s.data[0]! = c
 rw [getElem!_def, h2]
theorem S1 {s : ByteArray} {c : UInt8} {l : List UInt8} (h : s.data.toList = c :: l) (hc : Sm c) : Go.Utf8.decode s 0 = (c.toNat, 1) := by
 unfold Go.Utf8.decode
 have := hc.2.2.2
 simp only [Nat.add_zero, fS h]
 rw [if_pos Ar]
theorem XK (T : Go.Lib.PrintTabs) {c : UInt8} (hc : Sm c) : Go.Lib.escRune T (c.toNat : Int) = [(c.toNat : Int)] := by
 obtain ⟨h1, h2, h3, h4⟩ := hc
 have e1 : c.toNat ≠ 34 := fun e => h1 (UInt8.toNat_inj.1 e)
 have e2 : c.toNat ≠ 92 := fun e => h2 (UInt8.toNat_inj.1 e)
 unfold Go.Lib.escRune
 rw [if_neg Ar, if_pos, Go.Lib.encodeRuneZ, if_pos Ar]
 unfold Go.Lib.isPrintR
 rw [if_pos Ar]
 simp only [Go.Lib.isPrintLatin, Bool.or_eq_true, Bool.and_eq_true, decide_eq_true_eq]
 omega
theorem Qc (T : Go.Lib.PrintTabs) : ∀ (l : List UInt8) (f : Nat) (s : ByteArray), s.data.toList = l → l.length ≤ f → (∀ c ∈ l, Sm c) → Go.Lib.quoteFrom T f s = l.map fun c => (c.toNat : Int)
 | [], f, s, h, hf, hp => by
  have hs : s.size = 0 := by rw [ByteArray.size, ← Array.length_toList, h]; rfl
  cases f with
  | zero => rfl
  | succ f => unfold Go.Lib.quoteFrom; rw [if_neg Ar]; rfl
 | c :: l, f, s, h, hf, hp => by
  have hs : s.size = l.length + 1 := by rw [ByteArray.size, ← Array.length_toList, h]; rfl
  have hc := hp c As
  cases f with
  | zero => simp at hf
  | succ f =>
   unfold Go.Lib.quoteFrom
   rw [if_pos Ar]
   have e : Go.Lib.quoteStep T s = [(c.toNat : Int)] := by
    unfold Go.Lib.quoteStep
    have := hc.2.2.2
    rw [S1 h hc, if_neg (by simp only; omega), XK T hc]
   rw [e, S1 h hc, Qc T l f _ ?_ (by simpa using hf) fun x hx => hp x (by simp [hx])]
   ·simp
   ·simp only [ByteArray.data_extract, Array.toList_extract, h]
    simp [List.extract, hs]
    rw [h]; simp
theorem Ru (T : Go.Lib.PrintTabs) (s : ByteArray) (h : ∀ c ∈ s.data.toList, Sm c) : Go.strOfNums (Go.Lib.quoteZ T s) = L7 s := by
 apply ByteArray.ext
 apply Array.ext'
 rw [Go.strOfNums_data, FJ, Go.Lib.quoteZ, Qc T _ s.size s rfl (by rw [Array.length_toList]; exact Nat.le_refl _) h]
 simp [GM, List.map_map, Function.comp_def]
end Go.Eu
namespace Go.Proofs.YtapmjpihennhaaaGreatDoor
open Go.Abs Go.Eu
def blocks (w : World) : List (Nat × Obj) := (List.range w.heap.size).filterMap fun b => (w.heap[b]?).map fun o => (b, o)
theorem Jx (w : World) : ∀ p ∈ blocks w, w.heap[p.1]? = some p.2 := by
 intro p hp
 obtain ⟨b, hb, h⟩ := List.mem_filterMap.1 hp
 obtain ⟨o, ho, rfl⟩ := Option.map_eq_some_iff.1 h
 exact ho
theorem MT {w w' : World} (h : ∀ p ∈ blocks w, w'.heap[p.1]? = some p.2) {b : Nat} {o : Obj} (hb : w.heap[b]? = some o) : w'.heap[b]? = some o := by
 refine h (b, o) (List.mem_filterMap.2 ⟨b, List.mem_range.2 (Array.getElem?_eq_some_iff.1 hb).1, ?_⟩)
 rw [hb]; rfl
theorem Gb {w w' : World} (h : ∀ p ∈ blocks w, w'.heap[p.1]? = some p.2) {a : Addr} {v : Value} (hc : w.cell? a = some v) : w'.cell? a = some v := by
 unfold World.cell? at hc ⊢
 cases hq : w.heap[a.block]? with
 | none => rw [hq] at hc; cases hc
 | some o => rw [MT h hq]; rw [hq] at hc; exact hc
theorem Gh {w w' : World} (h : ∀ p ∈ blocks w, w'.heap[p.1]? = some p.2) {g : Nat} {k : IntKind} {t : List Nat} (hT : Go.Lib.TabSlice g k t w) : Go.Lib.TabSlice g k t w' := by
 obtain ⟨R, o, c, h1, h2⟩ := hT
 exact ⟨R, o, c, Gb h h1, fun j hj => Gb h (h2 j hj)⟩
theorem Rs {w w' : World} (h : ∀ p ∈ blocks w, w'.heap[p.1]? = some p.2) {a b c d : Nat} {T : Go.Lib.PrintTabs} (hT : Go.Lib.PrintTabsAt a b c d T w) : Go.Lib.PrintTabsAt a b c d T w' := by
 obtain ⟨h1, h2, h3, h4, h5⟩ := hT
 exact ⟨Gh h h1, Gh h h2, Gh h h3, Gh h h4, h5⟩
theorem UJ {w w' : World} (h : ∀ p ∈ blocks w, w'.heap[p.1]? = some p.2) {a b : Nat} (hT : Go.Lib.Utf8Tabs a b w) : Go.Lib.Utf8Tabs a b w' :=
 ⟨fun c hc => Gb h (hT.1 c hc), fun i hi => ⟨Gb h (hT.2 i hi).1, Gb h (hT.2 i hi).2⟩⟩
theorem VW {P : Program} {w w' : World} (h : ∀ p ∈ blocks w, w'.heap[p.1]? = some p.2) {n : String} {k : IntKind} {zs : List Int} (hT : Go.Lib.TabIs P w n k zs) : Go.Lib.TabIs P w' n k zs := by
 unfold Go.Lib.TabIs World.var? at *
 cases hg : P.globalNamed n with
 | none => rw [hg] at hT; cases hT
 | some g =>
  rw [hg] at hT
  simp only [Option.bind_some] at hT ⊢
  cases hq : w.heap[g]? with
  | none => rw [hq] at hT; cases hT
  | some o => rw [MT h hq]; rw [hq] at hT; exact hT
theorem Mu {w : World} {T : Go.Lib.PrintTabs} (hT : Go.Lib.PrintTabsAt 3 4 5 6 T w) (hU : Go.Lib.Utf8Tabs 1 2 w) (hI : Go.Lib.TabIs Tryz.prog w "internal/strconv.uint64pow10" .u64 Go.Lib.pow10Tab) : Gl (blocks w) where
 itoa := fun n hn => Ln (u := .string (Qu n)) Z8 (fun F w => by simp [CR, CV]) fun F w' vs hg hv => by
  simp only [B0, CR, CV] at hv
  obtain ⟨_, _, rfl, rfl, rfl⟩ := hv
  refine (Tryz.strconv_Itoa n hn.1 hn.2 w' (VW hg hI)).mono ?_
  rintro e w2 ⟨rfl, k, os, rfl⟩
  exact ⟨At, ⟨At, At, At, by simp [Go.Sort.grow, World.drewN], fun b hb => by simp [Go.Sort.grow, World.drewN, Array.getElem?_append_left, hb]⟩⟩
 quote := fun s hs hp => Ln (u := .string (L7 s)) Z9 (fun F w => by simp [CR, CV]) fun F w' vs hg hv => by
  simp only [B0, CR, CV] at hv
  obtain ⟨_, _, rfl, rfl, rfl⟩ := hv
  refine (Tryz.strconv_Quote T s w' (by simp only [EC] at hs; omega) (Rs hg hT) (UJ hg hU)).mono ?_
  rintro e w2 ⟨rfl, hb⟩
  exact ⟨by rw [Ru T s hp], hb⟩
end Go.Proofs.YtapmjpihennhaaaGreatDoor
namespace Go.Eu
open Go.Abs
theorem Ok.mono {B B' : Nat} {t : Tm} (h : Ok B t) (hb : B ≤ B') : Ok B' t := ⟨h.nd, h.vp, h.wt, Nat.le_trans h.sz hb⟩
end Go.Eu
namespace Go.Eu
open Go.Abs Go.RowKit Go.ChangeShapes Go.ChangeAt Go.WideShapes
theorem SD : ∀ {ts : List Tm}, (∀ t ∈ ts, Wd t) → Vt ts
 | [], _ => trivial
 | t :: ts, h => ⟨h t As, SD fun x hx => h x (by simp [hx])⟩
abbrev F0 : Nat → Prop := fun _ => False
def Eg (w : World) : List PV → List Value → Prop
 | [], cs => cs = []
 | p :: ps, cs => ∃ c cs', cs = c :: cs' ∧ CV F0 w p c ∧ Eg w ps cs'
theorem Eg.length {w : World} : ∀ {ps : List PV} {cs : List Value}, Eg w ps cs → ps.length = cs.length
 | [], cs, h => by simp only [Eg] at h; subst h; rfl
 | p :: ps, cs, h => by
  obtain ⟨c, cs', rfl, _, h⟩ := h
  simp [Eg.length h]
theorem Eg.append {w : World} : ∀ {a b : List PV} {x y : List Value}, Eg w a x → Eg w b y → Eg w (a ++ b) (x ++ y)
 | [], b, x, y, h, h' => by simp only [Eg] at h; subst h; exact h'
 | p :: a, b, x, y, h, h' => by
  obtain ⟨c, cs', rfl, h1, h⟩ := h
  exact ⟨c, cs' ++ y, At, h1, Eg.append h h'⟩
theorem Eg.one {w : World} {p : PV} {c : Value} (h : CV F0 w p c) : Eg w [p] [c] := ⟨c, [], rfl, h, rfl⟩
theorem Eg.repL {w : World} : ∀ {ps : List PV} {cs : List Value}, Eg w ps cs → B0 F0 w (ps.map .p) cs
 | [], cs, h => by simp only [Eg] at h; subst h; exact rfl
 | p :: ps, cs, h => by
  obtain ⟨c, cs', rfl, h1, h⟩ := h
  exact ⟨c, cs', At, by simp only [CR]; exact h1, Eg.repL h⟩
theorem PR {w : World} {b : Nat} : ∀ (r : List PV) (cs : List Value) (o : Nat), Eg w r cs → (∀ j, j < cs.length → w.cell? ⟨b, o + j, none⟩ = cs[j]?) → CZ F0 w b o r
 | [], cs, o, h, hc => by simp [CZ]
 | p :: r, cs, o, h, hc => by
  obtain ⟨c, cs', rfl, h1, h⟩ := h
  refine ⟨⟨c, by have := hc 0 As; simpa using this, h1⟩, PR r cs' (o + 1) h fun j hj => ?_⟩
  have := hc (j + 1) Am
  rw [show o + 1 + j = o + (j + 1) by omega]
  simpa using this
theorem O8 {w : World} {base : Nat} {a : Addr} {n : Nat} {cs : List Value} (h : w.cells? base a n = some cs) : cs.length = n ∧ ∀ j, j < n → w.cell? (a.add j) = cs[j]? := by
 unfold World.cells? at h
 split at h
 ·exact ⟨by simpa using mapM_some_length h, fun j hj => mapM_some_get h j j (by simp [hj])⟩
 ·cases h
section
variable {H : Type} {enc : TypeId × Value → H} {P : Program} {w : World} {base : Nat} {sp : Nat → Bool} {hd : Bool} {n : Nat}
theorem GR {α : Type} {e t C : Nat} (ut : P.underlying t = some (.slice e)) (hC : P.cellsOf e = C) (hC1 : 1 ≤ C) (f : α → List PV) (Q : α → Prop)
  (he : ∀ m cs y, m < n → DataW.trod enc P w base sp hd m e cs = some y → ∃ a, Eg w (f a) cs ∧ Q a) {cs : List Value} {y : DataW H × List MemPlace} (h : DataW.trod enc P w base sp hd n t cs = some y) :
  ∃ l : List α, l.length < wide ∧ (∀ a ∈ l, Q a) ∧ ∃ v, cs = [v] ∧ CV F0 w (.lst (l.map f)) v := by
 rcases DataW.trod_slice ut h with ⟨rfl, _⟩ | ⟨a, len, cap, elems, rest, m, rfl, rfl, _, hb, hl, hc, hel, hget, _, _⟩
 ·exact ⟨[], by simp [wide], fun a ha => by simp at ha, _, rfl, by simp only [CV]; exact .inl ⟨rfl, none, 0, rfl⟩⟩
 rw [hC] at hget
 have hml : maxLen < wide := by decide
 rcases Nat.eq_zero_or_pos len with h0 | h0
 ·subst h0
  exact ⟨[], by simp [wide], fun a ha => by simp at ha, _, rfl, by simp only [CV]; exact .inl ⟨rfl, some a, cap, rfl⟩⟩
 have hone : ∀ i, i < len → ∃ ci y, w.cells? base (a.add (i * C)) C = some ci ∧ DataW.trod enc P w base sp hd m e ci = some y := fun i hi => by
  have := hget i hi
  rw [List.getElem?_eq_getElem Ar] at this
  obtain ⟨ci, h1, h2⟩ := Option.bind_eq_some_iff.1 this
  exact ⟨ci, _, h1, h2⟩
 obtain ⟨c0, y0, hc0, _⟩ := hone 0 h0
 obtain ⟨hl0, hg0⟩ := O8 hc0
 have hcell : ∃ v, w.cell? a = some v := by
  have := hg0 0 Ar
  rw [Nat.zero_mul, Addr.add, if_pos rfl, Addr.add, if_pos rfl] at this
  rw [List.getElem?_eq_getElem Ar] at this
  exact ⟨_, this⟩
 obtain ⟨v0, hv0⟩ := hcell
 obtain ⟨blk, off, spot⟩ := a
 have hspot : spot = none := by
  unfold World.cell? at hv0
  simp only at hv0
  split at hv0
  ·cases spot with
   | none => rfl
   | some s => simp at hv0
  ·cases hv0
 subst hspot
 have hblk : blk < w.heap.size := by
  unfold World.cell? at hv0
  simp only at hv0
  split at hv0
  ·rename_i hh; exact (Array.getElem?_eq_some_iff.1 hh).1
  ·cases hv0
 have hadd : ∀ k, (⟨blk, off, none⟩ : Addr).add k = ⟨blk, off + k, none⟩ := fun k => by
  unfold Addr.add
  split
  ·rename_i e; subst e; rfl
  ·rfl
 have hadd2 : ∀ o k, (⟨blk, o, none⟩ : Addr).add k = ⟨blk, o + k, none⟩ := fun o k => by
  unfold Addr.add
  split
  ·rename_i e; subst e; rfl
  ·rfl
 have hrows : ∀ k, k ≤ len → ∃ l : List α, l.length = k ∧ (∀ x ∈ l, Q x) ∧ B9 F0 w blk C (off + (len - k) * C) (l.map f) := by
  intro k
  induction k with
  | zero => exact fun _ => ⟨[], rfl, fun a ha => by simp at ha, by simp [B9]⟩
  | succ k ih =>
   intro hk
   obtain ⟨l, h1, h2, h3⟩ := ih Ar
   obtain ⟨ci, y, hci, ht⟩ := hone (len - (k + 1)) Ar
   obtain ⟨g1, g2⟩ := O8 hci
   obtain ⟨x, hx, hq⟩ := he m ci y Ar ht
   refine ⟨x :: l, by simp [h1], fun z hz => ?_, ?_⟩
   ·rcases List.mem_cons.1 hz with rfl | hz
    ·exact hq
    ·exact h2 z hz
   ·refine ⟨by rw [hx.length, g1], PR _ ci _ hx fun j hj => ?_, ?_⟩
    ·have := g2 j Ar
     rw [hadd, hadd2] at this
     exact this
    ·rw [show off + (len - (k + 1)) * C + C = off + (len - k) * C by rw [Nat.add_assoc, ← Nat.succ_mul]; congr 2; omega]
     exact h3
 obtain ⟨l, h1, h2, h3⟩ := hrows len (Nat.le_refl _)
 rw [Nat.sub_self, Nat.zero_mul, Nat.add_zero] at h3
 refine ⟨l, by omega, h2, _, rfl, ?_⟩
 simp only [CV]
 refine .inr ⟨blk, off, cap, C, by rw [List.length_map, h1], fun h => h, hblk, by rw [List.length_map]; omega, h3⟩
def OI (P : Program) (t : TypeId) : Option (List (Nat × Nat)) :=
 match P.underlying t with
 | some (.struct fs) => some (fs.toList.map fun f => (f.type, f.offset))
 | _ => none
theorem Mq {t : TypeId} {l : List (Nat × Nat)} (hf : OI P t = some l) {cs : List Value} {y : DataW H × List MemPlace} (h : DataW.trod enc P w base sp hd n t cs = some y) :
  ∃ m, n = m + 1 ∧ cs.length = P.cellsOf t ∧ ∀ (i : Nat) (p : Nat × Nat), l[i]? = some p → ∃ z, DataW.trod enc P w base sp hd m p.1 ((cs.drop p.2).take (P.cellsOf p.1)) = some z := by
 unfold OI at hf
 split at hf
 ·rename_i fs hu
  injection hf with hf
  subst hf
  obtain ⟨xs, m, h1, _, h2, h3, h4⟩ := DataW.trod_struct hu h
  refine ⟨m, h1, h2, fun i p hp => ?_⟩
  rw [List.getElem?_map] at hp
  obtain ⟨fl, hfl, rfl⟩ := Option.map_eq_some_iff.1 hp
  have hi : fs[i]? = some fl := by simpa using hfl
  have := h4 i fl hi
  have hlt : i < xs.length := by rw [h3]; exact (Array.getElem?_eq_some_iff.1 hi).1
  rw [List.getElem?_eq_getElem hlt] at this
  exact ⟨_, this⟩
 ·cases hf
end
structure Ge (P : Program) (tI tS tV tVs tL tLs tT tTs : TypeId) : Prop where
 uI : P.underlying tI = some (.int .i64)
 uS : P.underlying tS = some .string
 uVs : P.underlying tVs = some (.slice tV)
 uLs : P.underlying tLs = some (.slice tL)
 uTs : P.underlying tTs = some (.slice tT)
 fV : OI P tV = some [(tI, 0), (tI, 1)]
 fL : OI P tL = some [(tI, 0), (tVs, 1)]
 fT : OI P tT = some [(tI, 0), (tI, 1), (tS, 2), (tLs, 3), (tTs, 4)]
 cI : P.cellsOf tI = 1
 cS : P.cellsOf tS = 1
 cVs : P.cellsOf tVs = 1
 cLs : P.cellsOf tLs = 1
 cTs : P.cellsOf tTs = 1
 cV : P.cellsOf tV = 2
 cL : P.cellsOf tL = 2
 cT : P.cellsOf tT = 5
theorem Nk {n : Int} (h : (Lit.int .i64 n).wf = true) : rng n := by
 simp only [Lit.wf, Bool.and_eq_true, decide_eq_true_eq] at h
 exact h
section
variable {H : Type} {enc : TypeId × Value → H} {P : Program} {w : World} {base : Nat} {sp : Nat → Bool} {hd : Bool} {tI tB tS tV tVs tL tLs tT tTs tM tMs : TypeId}
theorem Zm (E : Ge P tI tS tV tVs tL tLs tT tTs) {n : Nat} {cs : List Value} {y : DataW H × List MemPlace} (h : DataW.trod enc P w base sp hd n tV cs = some y) : ∃ v : DJ, Eg w (Ec v) cs ∧ (rng v.index ∧ rng v.plus) := by
 obtain ⟨m, rfl, hl, hg⟩ := Mq E.fV h
 rw [E.cV] at hl
 match cs, hl with
 | [c0, c1], _ =>
  obtain ⟨z0, h0⟩ := hg 0 _ rfl
  obtain ⟨z1, h1⟩ := hg 1 _ rfl
  simp only [E.cI, List.drop_zero, List.drop_succ_cons, List.take_succ_cons, List.take_zero] at h0 h1
  obtain ⟨a, ha, _, fa⟩ := DataW.trod_int E.uI h0
  obtain ⟨b, hb, _, fb⟩ := DataW.trod_int E.uI h1
  injection ha with ha; injection hb with hb
  subst ha hb
  exact ⟨⟨a, b⟩, ⟨_, _, At, by simp [CV], _, _, rfl, by simp [CV], rfl⟩, Nk fa, Nk fb⟩
theorem ZT (E : Ge P tI tS tV tVs tL tLs tT tTs) {n : Nat} {cs : List Value} {y : DataW H × List MemPlace} (h : DataW.trod enc P w base sp hd n tL cs = some y) : ∃ v : FC, Eg w (Dw v) cs ∧ Zt v := by
 obtain ⟨m, rfl, hl, hg⟩ := Mq E.fL h
 rw [E.cL] at hl
 match cs, hl with
 | [c0, c1], _ =>
  obtain ⟨z0, h0⟩ := hg 0 _ rfl
  obtain ⟨z1, h1⟩ := hg 1 _ rfl
  simp only [E.cI, E.cVs, List.drop_zero, List.drop_succ_cons, List.take_succ_cons, List.take_zero] at h0 h1
  obtain ⟨a, ha, _, fa⟩ := DataW.trod_int E.uI h0
  injection ha with ha
  subst ha
  obtain ⟨l, g1, g2, v, hv, g3⟩ := GR E.uVs E.cV Aq Ec (fun v => rng v.index ∧ rng v.plus) (fun m cs y _ h => Zm E h) h1
  injection hv with hv
  subst hv
  exact ⟨⟨a, l⟩, ⟨_, _, At, by simp [CV], _, _, rfl, g3, rfl⟩, ⟨g1, Nk fa, g2⟩⟩
theorem VZ (E : Ge P tI tS tV tVs tL tLs tT tTs) : ∀ (n : Nat) (cs : List Value) (y : DataW H × List MemPlace), DataW.trod enc P w base sp hd n tT cs = some y → ∃ t : Tm, Eg w (Be t) cs ∧ Wd t := by
 intro n
 induction n using Nat.strongRecOn with
 | ind n ih =>
  intro cs y h
  obtain ⟨m, rfl, hl, hg⟩ := Mq E.fT h
  rw [E.cT] at hl
  match cs, hl with
  | [c0, c1, c2, c3, c4], _ =>
   obtain ⟨z0, h0⟩ := hg 0 _ rfl
   obtain ⟨z1, h1⟩ := hg 1 _ rfl
   obtain ⟨z2, h2⟩ := hg 2 _ rfl
   obtain ⟨z3, h3⟩ := hg 3 _ rfl
   obtain ⟨z4, h4⟩ := hg 4 _ rfl
   simp only [E.cI, E.cS, E.cLs, E.cTs, List.drop_zero, List.drop_succ_cons, List.take_succ_cons, List.take_zero] at h0 h1 h2 h3 h4
   obtain ⟨a, ha, _, wa⟩ := DataW.trod_int E.uI h0
   obtain ⟨b, hb, _, wb⟩ := DataW.trod_int E.uI h1
   obtain ⟨s, hs, _, ws⟩ := DataW.trod_string E.uS h2
   injection ha with ha; injection hb with hb; injection hs with hs
   subst ha hb hs
   obtain ⟨l, g1, g2, v, hv, g3⟩ := GR E.uLs E.cL Aq Dw Zt (fun m cs y _ h => ZT E h) h3
   obtain ⟨ks, k1, k2, u, hu, k3⟩ := GR E.uTs E.cT Aq Be Wd (fun m' cs y hm h => ih m' Ar cs y h) h4
   injection hv with hv; injection hu with hu
   subst hv hu
   have hml : maxLen < wide := by decide
   exact ⟨.mk a b s l ks, ⟨_, _, At, by simp [CV], _, _, rfl, by simp [CV], _, _, rfl, by simp [CV], _, _, rfl, g3, _, _, rfl, by rw [Ee]; exact k3, rfl⟩,
    ⟨by omega, g1, g2, k1, SD fun t ht => k2 t ht, Nk wa, Nk wb⟩⟩
theorem Wr (E : Ge P tI tS tV tVs tL tLs tT tTs) {n : Nat} {cs : List Value} {y : DataW H × List MemPlace} (h : DataW.trod enc P w base sp hd n tTs cs = some y) : ∃ l : List Tm, l.length < wide ∧ Vt l ∧ ∃ v, cs = [v] ∧ CV F0 w (.lst (BR l)) v := by
 obtain ⟨l, g1, g2, v, hv, g3⟩ := GR E.uTs E.cT Aq Be Wd (fun m cs y _ h => VZ E m cs y h) h
 exact ⟨l, g1, SD g2, v, hv, by rw [Ee]; exact g3⟩
structure cz (P : Program) (tB tT tM tMs : TypeId) : Prop where
 uB : P.underlying tB = some .bool
 uMs : P.underlying tMs = some (.slice tM)
 fM : OI P tM = some [(tT, 0), (tB, 5), (tT, 6), (tB, 11)]
 cB : P.cellsOf tB = 1
 cM : P.cellsOf tM = 12
theorem O0 {b2 : Nat} {r : Reach} {t e : TypeId} (ut : P.underlying t = some (.slice e)) {v u : Value} (hk : Value.okWide P w r b2 t v) (h : v.cells.toList = [u]) : v = u := by
 unfold Value.okWide at hk
 rw [ut] at hk
 simp only at hk
 unfold Cell.okWide at hk
 rw [ut] at hk
 cases v with
 | agg cs => simp only at hk; unfold Cell.ok at hk; rw [ut] at hk; simp at hk
 | _ => simp [Value.cells] at h; exact h
theorem ZI (E : Ge P tI tS tV tVs tL tLs tT tTs) {b2 : Nat} {r : Reach} {v : Value} {d : DataW H} {ps : List MemPlace} (hk : Value.okWide P w r b2 tTs v) (h : DataW.Trod enc P w base sp hd tTs v d ps) : ∃ l : List Tm, l.length < wide ∧ Vt l ∧ CR F0 w (cx l) v := by
 obtain ⟨n, h⟩ := h
 obtain ⟨l, g1, g2, u, hu, g3⟩ := Wr E h
 have := O0 E.uTs hk hu
 subst this
 exact ⟨l, g1, g2, by simp only [CR]; exact g3⟩
theorem TS (E : Ge P tI tS tV tVs tL tLs tT tTs) {b2 : Nat} {r : Reach} {v : Value} {d : DataW H} {ps : List MemPlace} (hk : Value.okWide P w r b2 tT v) (h : DataW.Trod enc P w base sp hd tT v d ps) : ∃ t : Tm, Wd t ∧ CR F0 w (TV t) v := by
 obtain ⟨n, h⟩ := h
 obtain ⟨t, g1, g2⟩ := VZ E _ _ _ h
 have hf := E.fT
 unfold OI at hf
 unfold Value.okWide at hk
 split at hk
 ·obtain ⟨cs, rfl, _, _⟩ := hk
  refine ⟨t, g2, ?_⟩
  exact ⟨cs.toList, by simp, Eg.repL g1⟩
 ·rename_i hu
  rw [hu] at hf
  cases hf
 ·rename_i h1 h2
  split at hf
  ·rename_i fs hu; exact absurd hu (h1 fs)
  ·cases hf
end
theorem I2 {H : Type} {enc : TypeId × Value → H} {P : Program} {f : Func} {s : ChangeSpec} {tB : TypeId} (hl : laidOutB P = true) (hB : P.underlying tB = some .bool) (hrt : f.resultTypes = #[tB]) (hv0 : s.vars = []) {W W' : World} {args : Array Value} {ds : List (DataW H)} {before : List MemPlace}
  (hpr : ∀ t ∈ f.params.toList, P.readableRec t = true ∧ t < P.types.size) (hW : DataW.Whole enc P f.params.toList s.vars false W args.toList ds [] before) (hres : (s.fn H ds).results = [.lit (.bool true)]) (hargs : (s.fn H ds).args = ds) (hvars : (s.fn H ds).vars = []) (hb : Below W.heap.size W W') :
  s.post enc P f false true false false W args (.bool true) W' := by
 have hW' := hW
 obtain ⟨p, q, hA, hV, rfl, hfz, hnd⟩ := hW
 have hq : q = [] := by rw [hv0] at hV; exact hV
 subst hq
 have hstay : ∀ {ts : List TypeId} {vs : List Value} {ds : List (DataW H)} {ps : List MemPlace}, (∀ t ∈ ts, P.readableRec t = true ∧ t < P.types.size) → (∀ x ∈ ps, x.block < W.heap.size) → DataW.TrodAll enc P W 0 (fun _ => true) true ts vs ds ps → DataW.TrodAll enc P W' 0 (fun b => decide (b < W.heap.size)) true ts vs ds ps := by
  intro ts
  induction ts with
  | nil =>
   intro vs ds ps _ _ h
   cases vs <;> cases ds <;> simp [DataW.TrodAll] at h ⊢
   exact h
  | cons t ts ih =>
   intro vs ds ps h1 h2 h
   obtain ⟨v, vs', d, ds', a, b, rfl, rfl, rfl, h3, h4⟩ := trodAll_cons h
   exact ⟨a, b, Below.trod hl (h1 t As).1 (h1 t As).2 h3 hb (fun x hx => h2 x (by simp [hx])), ih (fun t ht => h1 t (by simp [ht])) (fun x hx => h2 x (by simp [hx])) h4, At⟩
 refine ⟨ds, [], p ++ [], [], p, [], hW', ?_, ?_, ?_, hb.frame _, fun h => by cases h⟩
 ·rw [List.append_nil, hres, hrt]
  refine ⟨[], [], ⟨1, ?_⟩, At, At⟩
  unfold DataW.trod
  rw [hB]
  rfl
 ·rw [List.append_nil, hargs]
  exact hstay hpr (fun x hx => hW'.lt x (by simpa using hx)) hA
 ·rw [List.append_nil, hvars, hv0]
  exact At
section
variable {H : Type} {enc : TypeId × Value → H} {P : Program} {w : World} {base : Nat} {sp : Nat → Bool} {hd : Bool} {tI tB tS tV tVs tL tLs tT tTs tM tMs : TypeId}
end
structure N4 (P : Program) (tS tSs tTh : TypeId) : Prop where
 uSs : P.underlying tSs = some (.slice tS)
 cSs : P.cellsOf tSs = 1
 fTh : OI P tTh = some [(tS, 0), (tS, 1), (tS, 2), (tS, 3), (tS, 4), (tS, 5), (tSs, 6)]
 cTh : P.cellsOf tTh = 7
 bS : P.bytesOf tS = 16
section
variable {H : Type} {enc : TypeId × Value → H} {P : Program} {w : World} {base : Nat} {sp : Nat → Bool} {hd : Bool} {tI tB tS tV tVs tL tLs tT tTs tM tMs tSs tTh : TypeId}
theorem ZS (E : Ge P tI tS tV tVs tL tLs tT tTs) {n : Nat} {cs : List Value} {y : DataW H × List MemPlace} (h : DataW.trod enc P w base sp hd n tS cs = some y) : ∃ s : ByteArray, Eg w [.str s] cs ∧ s.size < wide := by
 obtain ⟨s, hs, _, ws⟩ := DataW.trod_string E.uS h
 subst hs
 have hml : maxLen < wide := by decide
 exact ⟨s, ⟨_, _, At, by simp [CV], rfl⟩, by omega⟩
theorem Pl {t e : TypeId} (ut : P.underlying t = some (.slice e)) {n : Nat} {a : Option Addr} {l c : Nat} {y : DataW H × List MemPlace} (h : DataW.trod enc P w base sp hd n t [.slice a l c] = some y) {B : Nat} (hB : (y.1.weights P t).all (· ≤ B) = true) : l * P.bytesOf e ≤ B := by
 rcases DataW.trod_slice ut h with ⟨h1, _⟩ | ⟨a, len, cap, elems, rest, m, rfl, h1, rfl, hb, hl, hc, hel, _⟩
 ·injection h1 with h1; injection h1 with _ h1; subst h1; simp
 ·injection h1 with h1; injection h1 with _ h1; subst h1
  unfold DataW.weights at hB
  rw [ut] at hB
  simp only [List.all_cons, Bool.and_eq_true, decide_eq_true_eq, List.length_map] at hB
  have h2 := hB.1
  have h3 : l * P.bytesOf e ≤ (elems.length + rest.length) * P.bytesOf e := Nat.mul_le_mul_right _ Ar
  omega
theorem Gv {B : Nat} : ∀ {ts : List TypeId} {ds : List (DataW H)}, (DataW.weightsEach P ts ds).all (· ≤ B) = true → ∀ (i : Nat) (t : TypeId) (d : DataW H), ts[i]? = some t → ds[i]? = some d → (d.weights P t).all (· ≤ B) = true
 | [], _, _, i, t, d, h1, _ => by simp at h1
 | t :: ts, [], _, i, t', d, _, h2 => by simp at h2
 | t :: ts, d :: ds, h, i, t', d', h1, h2 => by
  unfold DataW.weightsEach at h
  rw [List.all_append, Bool.and_eq_true] at h
  cases i with
  | zero => simp at h1 h2; subst h1 h2; exact h.1
  | succ i => exact Gv h.2 i t' d' (by simpa using h1) (by simpa using h2)
theorem Rw {t : TypeId} {l : List (Nat × Nat)} (hf : OI P t = some l) {n : Nat} {cs : List Value} {y : DataW H × List MemPlace} (h : DataW.trod enc P w base sp hd n t cs = some y) {B : Nat} (hB : (y.1.weights P t).all (· ≤ B) = true) (i : Nat) (p : Nat × Nat) (hp : l[i]? = some p) :
  ∃ m z, DataW.trod enc P w base sp hd m p.1 ((cs.drop p.2).take (P.cellsOf p.1)) = some z ∧ (z.1.weights P p.1).all (· ≤ B) = true := by
 unfold OI at hf
 split at hf
 ·rename_i fs hu
  injection hf with hf
  subst hf
  obtain ⟨xs, m, h1, rfl, h2, h3, h4⟩ := DataW.trod_struct hu h
  rw [List.getElem?_map] at hp
  obtain ⟨fl, hfl, rfl⟩ := Option.map_eq_some_iff.1 hp
  have hi : fs[i]? = some fl := by simpa using hfl
  have hlt : i < xs.length := by rw [h3]; exact (Array.getElem?_eq_some_iff.1 hi).1
  have h5 := h4 i fl hi
  rw [List.getElem?_eq_getElem hlt] at h5
  refine ⟨m, _, h5, ?_⟩
  unfold DataW.weights at hB
  rw [hu] at hB
  exact Gv hB i fl.type _ (by simp [hi]) (by simp [List.getElem?_eq_getElem hlt])
 ·cases hf
theorem W0 (E : Ge P tI tS tV tVs tL tLs tT tTs) (Q : N4 P tS tSs tTh) {n : Nat} {cs : List Value} {y : DataW H × List MemPlace} (h : DataW.trod enc P w base sp hd n tTh cs = some y) (hB : (y.1.weights P tTh).all (· ≤ reachBytes) = true) : ∃ t : BJ, Eg w (EE t) cs ∧ t.lemmas.length ≤ 8796093021952 := by
 obtain ⟨m, rfl, hl, hg⟩ := Mq Q.fTh h
 rw [Q.cTh] at hl
 match cs, hl with
 | [c0, c1, c2, c3, c4, c5, c6], _ =>
  obtain ⟨z0, h0⟩ := hg 0 _ rfl
  obtain ⟨z1, h1⟩ := hg 1 _ rfl
  obtain ⟨z2, h2⟩ := hg 2 _ rfl
  obtain ⟨z3, h3⟩ := hg 3 _ rfl
  obtain ⟨z4, h4⟩ := hg 4 _ rfl
  obtain ⟨z5, h5⟩ := hg 5 _ rfl
  obtain ⟨m6, z6, h6, hb⟩ := Rw Q.fTh h hB 6 _ rfl
  simp only [E.cS, Q.cSs, List.drop_zero, List.drop_succ_cons, List.take_succ_cons, List.take_zero] at h0 h1 h2 h3 h4 h5 h6
  obtain ⟨s0, hs0, _, _⟩ := DataW.trod_string E.uS h0
  obtain ⟨s1, hs1, _, _⟩ := DataW.trod_string E.uS h1
  obtain ⟨s2, hs2, _, _⟩ := DataW.trod_string E.uS h2
  obtain ⟨s3, hs3, _, _⟩ := DataW.trod_string E.uS h3
  obtain ⟨s4, hs4, _, _⟩ := DataW.trod_string E.uS h4
  obtain ⟨s5, hs5, _, _⟩ := DataW.trod_string E.uS h5
  injection hs0 with hs0; injection hs1 with hs1; injection hs2 with hs2; injection hs3 with hs3; injection hs4 with hs4; injection hs5 with hs5
  subst hs0 hs1 hs2 hs3 hs4 hs5
  obtain ⟨ls, g1, _, v, hv, g3⟩ := GR Q.uSs E.cS Aq Ch (fun _ => True) (fun m cs y _ h => by obtain ⟨s, h1, _⟩ := ZS E h; exact ⟨s, h1, trivial⟩) h6
  injection hv with hv
  subst hv
  have hlen : ls.length * 16 ≤ reachBytes := by
   rw [← Q.bS]
   simp only [CV] at g3
   rcases g3 with ⟨hnil, _⟩ | ⟨b, o, c, sz, hv, _⟩
   ·have : ls = [] := by simpa using hnil
    subst this; simp
   ·subst hv
    have := Pl Q.uSs h6 hb
    simpa using this
  refine ⟨⟨s0, s1, s2, s3, s4, s5, ls⟩, ⟨_, _, At, by simp [CV], _, _, rfl, by simp [CV], _, _, rfl, by simp [CV], _, _, rfl, by simp [CV], _, _, rfl, by simp [CV], _, _, rfl, by simp [CV], _, _, rfl, g3, rfl⟩, ?_⟩
  have : reachBytes = 140737488351232 := by decide
  simp only
  omega
theorem SL (E : Ge P tI tS tV tVs tL tLs tT tTs) (Q : N4 P tS tSs tTh) {b2 : Nat} {r : Reach} {v : Value} {d : DataW H} {ps : List MemPlace} (hk : Value.okWide P w r b2 tTh v) (h : DataW.Trod enc P w base sp hd tTh v d ps) (hB : (d.weights P tTh).all (· ≤ reachBytes) = true) : ∃ t : BJ, t.lemmas.length ≤ 8796093021952 ∧ CR F0 w (.agg ((EE t).map .p)) v := by
 obtain ⟨n, h⟩ := h
 obtain ⟨t, g1, g2⟩ := W0 E Q h hB
 have hf := Q.fTh
 unfold OI at hf
 unfold Value.okWide at hk
 split at hk
 ·obtain ⟨cs, rfl, _, _⟩ := hk
  refine ⟨t, g2, ?_⟩
  exact ⟨cs.toList, by simp, Eg.repL g1⟩
 ·rename_i hu
  rw [hu] at hf
  cases hf
 ·rename_i h1 h2
  split at hf
  ·rename_i fs hu; exact absurd hu (h1 fs)
  ·cases hf
end
theorem Ty {w : World} {GL : List (Nat × Obj)} (hG : ∀ p ∈ GL, w.heap[p.1]? = some p.2) : HRel F0 [.glob GL] w :=
 { sub := fun o ho b hb => by
    rw [List.mem_singleton] at ho
    subst ho
    cases hb
   nodup := (List.nodup_nil : ([] : List Nat).Nodup)
   obj := fun o ho => by
    rw [List.mem_singleton] at ho
    subst ho
    exact fun p hp => ⟨hG p hp, fun h => h⟩
   bd := fun b hb => hb.elim }
theorem Hv {P : Program} {f : FuncId} {xs : List AV} {GL : List (Nat × Obj)} (h : Bt P f xs [.glob GL] (DC (.p (.bool true)) [.glob GL])) {w : World} (hG : ∀ p ∈ GL, w.heap[p.1]? = some p.2) {vs : List Value} (ha : B0 F0 w xs vs) : Calls P f ⟨vs⟩ w fun e w' => e = .returned (.bool true) ∧ Below w.heap.size w w' := by
 refine (h.2 F0 w vs (Ty hG) ha).mono ?_
 rintro e w' ⟨r, H', F', hr, he, hH, ht⟩
 cases r with
 | panic v => exact hr.elim
 | val v =>
  obtain ⟨rfl, rfl⟩ := hr
  obtain ⟨u, rfl, hu⟩ := he
  simp only [CR, CV] at hu
  subst hu
  exact ⟨At, ht.os, ht.tape, ht.out, ht.size, fun k hk => ht.same k hk fun o ho => by rw [List.mem_singleton] at ho; subst ho; exact fun h => by cases h⟩
end Go.Eu
namespace Go.Proofs.YtapmjpihennhaaaGreatDoor
open Go.Eu Go.Lib Go.ChangeShapes Go.WideShapes Go.ChangeAt Go.RowKit
theorem own : ownKnob Tryz.prog.godebug = none := by kernel_rfl
theorem laidOut : laidOutB Tryz.prog = true := by kernel_rfl
theorem YA : Ge Tryz.prog 3 9 112 106 108 31 33 26 := ⟨by kernel_rfl, by kernel_rfl, by kernel_rfl, by kernel_rfl, by kernel_rfl, by kernel_rfl, by kernel_rfl, by kernel_rfl, by kernel_rfl, by kernel_rfl, by kernel_rfl, by kernel_rfl, by kernel_rfl, by kernel_rfl, by kernel_rfl, by kernel_rfl⟩
theorem Yc : N4 Tryz.prog 9 22 24 := ⟨by kernel_rfl, by kernel_rfl, by kernel_rfl, by kernel_rfl, by kernel_rfl⟩
theorem eE : Tryz.prog.underlying 25 = some (.slice 3) := by kernel_rfl
abbrev Hj : List (String × DataW Unit) := Rows.abelianBuildsRow.laid
theorem aQ : Rows.laid_strconv_isPrint16 = sliceData .u16 goPrintTabs.p16 := by kernel_rfl
theorem ck : Rows.laid_strconv_isNotPrint16 = sliceData .u16 goPrintTabs.n16 := by kernel_rfl
theorem bO : Rows.laid_strconv_isPrint32 = sliceData .u32 goPrintTabs.p32 := by kernel_rfl
theorem cg : Rows.laid_strconv_isNotPrint32 = sliceData .u16 goPrintTabs.n32 := by kernel_rfl
theorem eA : Rows.laid_strconv_isGraphic = sliceData .u16 Go.Pinned.isGraphicZ := by kernel_rfl
theorem fW : Rows.laid_unicode_utf8_first = firstData := by kernel_rfl
theorem e9 : (Rows.laid_unicode_utf8_acceptRanges : DataW Unit) = acceptData := by kernel_rfl
theorem ey : (Rows.laid_internal_strconv_uint64pow10 : DataW Unit) = tabData .u64 pow10Tab := by kernel_rfl
theorem Mz {W : World} (h : laidMet Tryz.prog Hj W) : Utf8Tabs 1 2 W :=
 utf8Tabs_of_reads (ρ := Tryz.lays177_ren) { Tryz.lays177 with } ⟨by kernel_rfl, by kernel_rfl, by kernel_rfl, by kernel_rfl, by kernel_rfl, by kernel_rfl, by kernel_rfl⟩
  (laidMet.reads h (by rw [← fW]; simp [Hj, Rows.abelianBuildsRow])) (laidMet.reads h (by rw [← e9]; simp [Hj, Rows.abelianBuildsRow]))
theorem LO {W : World} (h : laidMet Tryz.prog Hj W) : PrintTabsAt 3 4 5 6 goPrintTabs W :=
 printTabs_of_reads (ρ := Tryz.lays177_ren) { Tryz.lays177 with } ⟨by kernel_rfl, by kernel_rfl, by kernel_rfl, by kernel_rfl, by kernel_rfl, by kernel_rfl, by kernel_rfl, by kernel_rfl, by kernel_rfl, by kernel_rfl⟩
  (laidMet.reads h (by rw [← aQ]; simp [Hj, Rows.abelianBuildsRow])) (laidMet.reads h (by rw [← ck]; simp [Hj, Rows.abelianBuildsRow])) (laidMet.reads h (by rw [← bO]; simp [Hj, Rows.abelianBuildsRow])) (laidMet.reads h (by rw [← cg]; simp [Hj, Rows.abelianBuildsRow]))
theorem Pv {W : World} (h : laidMet Tryz.prog Hj W) : TabIs Tryz.prog W "internal/strconv.uint64pow10" .u64 pow10Tab := by
 obtain ⟨g, t, cs, fuel, p, hg, hty, hvar, hd⟩ := laidMet.reads h (n := "internal/strconv.uint64pow10") (d := tabData .u64 pow10Tab) (by rw [← ey]; simp [Hj, Rows.abelianBuildsRow])
 have hg0 : Tryz.prog.globalNamed "internal/strconv.uint64pow10" = some 0 := by kernel_rfl
 obtain rfl := Option.some.inj (hg0.symm.trans hg)
 have hty0 : (Tryz.prog.globals[0]?).map (·.type) = some 242 := by kernel_rfl
 obtain rfl := Option.some.inj (hty0.symm.trans hty)
 have h1 : Tryz.prog.underlying 242 = some (.array 20 232) := by kernel_rfl
 have h2 : Tryz.prog.underlying 232 = some (.int .u64) := by kernel_rfl
 unfold TabIs
 rw [hvar, ← cells_of_tab h1 h2 An An hd]
def fu : DataW Unit → Array Value
 | .agg l => (l.map fun (d : DataW Unit) => match d with
  | DataW.lit (Lit.int _ n) => Value.int .u8 n
  | _ => Value.int .u8 0).toArray
 | _ => #[]
noncomputable def DT (os : Os) : World :=
 let N := (World.settled Tryz.prog os).heap.size
 let T := goPrintTabs
 let w0 := World.holding Tryz.prog os ⟨#[
  .cells (intCellsOf .u16 T.p16) 254, .cells (intCellsOf .u16 T.n16) 254, .cells (intCellsOf .u32 T.p32) 243, .cells (intCellsOf .u16 T.n32) 254, .cells (intCellsOf .u16 Go.Pinned.isGraphicZ) 254], #[], []⟩
 let put (h : Array Obj) (g : Nat) (cs : Array Value) : Array Obj := h.modify g fun
  | .cells _ t frozen => .cells cs t frozen
  | o => o
 let h0 := put w0.heap 0 (pow10Tab.map fun z => Value.int .u64 z).toArray
 let h1 := put h0 1 (firstTab.map fun z => Value.int .u8 z).toArray
 let h2 := put h1 2 ((List.range 16).flatMap fun i => [Value.int .u8 (accLo i), Value.int .u8 (accHi i)]).toArray
 let h3 := put h2 3 #[.slice (some ⟨N, 0, none⟩) T.p16.length T.p16.length]
 let h4 := put h3 4 #[.slice (some ⟨N + 1, 0, none⟩) T.n16.length T.n16.length]
 let h5 := put h4 5 #[.slice (some ⟨N + 2, 0, none⟩) T.p32.length T.p32.length]
 let h6 := put h5 6 #[.slice (some ⟨N + 3, 0, none⟩) T.n32.length T.n32.length]
 let h7 := put h6 7 #[.slice (some ⟨N + 4, 0, none⟩) Go.Pinned.isGraphicZ.length Go.Pinned.isGraphicZ.length]
 let h8 := put h7 8 (fu Rows.laid_math_bits_deBruijn32tab)
 let h9 := put h8 9 (fu Rows.laid_math_bits_deBruijn64tab)
 { w0 with heap := h9 }
noncomputable abbrev N0 : Nat := (World.settled Tryz.prog default).heap.size
section
variable (os : Os) (args : Array Value)
theorem Zd : LaidIn Tryz.prog ((DT os).forCall (fun _ _ => 0) ⟨#[], args, []⟩).memory [("math/bits.deBruijn32tab", Rows.laid_math_bits_deBruijn32tab), ("math/bits.deBruijn64tab", Rows.laid_math_bits_deBruijn64tab), ("internal/strconv.uint64pow10", Rows.laid_internal_strconv_uint64pow10), ("unicode/utf8.acceptRanges", Rows.laid_unicode_utf8_acceptRanges)] [8, 9, 0, 2] :=
 LaidIn.of_run [8, 9, 0, 2] 8 An An An An
theorem ZM : LaidIn Tryz.prog ((DT os).forCall (fun _ _ => 0) ⟨#[], args, []⟩).memory [("unicode/utf8.first", Rows.laid_unicode_utf8_first)] [1] :=
 LaidIn.of_run [1] 8 An An An An
theorem Zs : LaidIn Tryz.prog ((DT os).forCall (fun _ _ => 0) ⟨#[], args, []⟩).memory [("strconv.isPrint16", Rows.laid_strconv_isPrint16)] [3, N0] := by
 rw [aQ]
 exact laidIn_slice (t := 255) (e := 254) (te := 254) goPrintTabs.p16 N0 An An An An An An An An (of_decide_eq_true An) (of_decide_eq_true An)
theorem Ze : LaidIn Tryz.prog ((DT os).forCall (fun _ _ => 0) ⟨#[], args, []⟩).memory [("strconv.isNotPrint16", Rows.laid_strconv_isNotPrint16)] [4, N0 + 1] := by
 rw [ck]
 exact laidIn_slice (t := 255) (e := 254) (te := 254) goPrintTabs.n16 (N0 + 1) An An An An An An An An (of_decide_eq_true An) (of_decide_eq_true An)
theorem ZR : LaidIn Tryz.prog ((DT os).forCall (fun _ _ => 0) ⟨#[], args, []⟩).memory [("strconv.isPrint32", Rows.laid_strconv_isPrint32)] [5, N0 + 2] := by
 rw [bO]
 exact laidIn_slice (t := 257) (e := 243) (te := 243) goPrintTabs.p32 (N0 + 2) An An An An An An An An (of_decide_eq_true An) (of_decide_eq_true An)
theorem Zc : LaidIn Tryz.prog ((DT os).forCall (fun _ _ => 0) ⟨#[], args, []⟩).memory [("strconv.isNotPrint32", Rows.laid_strconv_isNotPrint32)] [6, N0 + 3] := by
 rw [cg]
 exact laidIn_slice (t := 255) (e := 254) (te := 254) goPrintTabs.n32 (N0 + 3) An An An An An An An An (of_decide_eq_true An) (of_decide_eq_true An)
theorem ZU : LaidIn Tryz.prog ((DT os).forCall (fun _ _ => 0) ⟨#[], args, []⟩).memory [("strconv.isGraphic", Rows.laid_strconv_isGraphic)] [7, N0 + 4] := by
 rw [eA]
 exact laidIn_slice (t := 255) (e := 254) (te := 254) Go.Pinned.isGraphicZ (N0 + 4) An An An An An An An An (of_decide_eq_true An) (of_decide_eq_true An)
theorem Li : laidMet Tryz.prog Hj ((DT os).forCall (fun _ _ => 0) ⟨#[], args, []⟩).memory :=
 ((((((Zd os args).append (ZU os args) An).append (Ze os args) An).append (Zc os args) An).append (Zs os args) An).append (ZR os args) An |>.append (ZM os args) An).met
end
end Go.Proofs.YtapmjpihennhaaaGreatDoor
namespace Go.Proofs.YtapmjpihennhaaaGreatDoor
open Go.Abs Go.Eu
theorem _root_.Go.AD {α : Prop} (h : α := by simp only [IU, GV, FJ, Zw, List.append_assoc, List.cons_append, List.nil_append, List.take_zero, List.flatMap_nil, List.append_nil, EN]) : α := h
theorem _root_.Go.AF {α : Prop} (h : α := by simp only [ByteArray.size_append, fv, List.length_append, List.length_cons, List.length_nil, Im]; omega) : α := h
theorem _root_.Go.AT {α : Prop} (h : α := by simp only [ByteArray.size_append, fv]; omega) : α := h
theorem YM : ∀ (GL : List (Nat × Obj)) (b : Nat), Gl GL → ∀ (n : Nat) (t : Tm) (l : List UInt8) (T0 : List BT), size t ≤ n → ER t → l.length + 20000 * size t ≤ 70368744177664 → Zu b l T0 → Bt Tryz.prog 122 [.ptr b 0, TV t] (.glob GL :: T0) (Gm (.tup []) (fun H => ∃ T, Zu b (l ++ Ir t) T ∧ H = .glob GL :: T)) := by
 intro GL b hG n
 induction n with
 | zero => intro t l T0 h; cases t; simp [size] at h
 | succ n ih =>
  intro t l T0 h1 h2 h3 h4
  obtain ⟨tk, ti, tn, tl, ts⟩ := t
  have hNd := h2.nd
  have hFw := h2.fw
  have hNq := h2.nq
  have hCn := h2.cn
  simp only [size] at h1 h3
  simp only [Nd, rng, EC] at hNd
  simp only [Fw] at hFw
  have hs1 := HV (n := tk) hNd.2.2.2.2.2.1
  have hs2 := HV (n := ti) hNd.2.2.2.2.2.2
  have hs3 := Qr tn
  have hz1 := GC (n := tk) hNd.2.2.2.2.2.1
  have hz2 := GC (n := ti) hNd.2.2.2.2.2.2
  refine A8 Tryz.func122 At Z2 (n := 74) At At (Ax (Av (BM At At (Bh At) fun b3 => Az At (Ax (CQ (fun k => Nat.beq k 15) D0 (A4 At At (fun _ => Aw At) trivial (A4 At At (fun _ => A1 CX At At) trivial (BQ (j := 0) At At At (fun H i hi => A2 (i := i) De At hi At) AA trivial (Cr At At (B6 [1] At (.inl ⟨At, At, At⟩) (hG.itoa tk hNd.2.2.2.2.2.1) ⟨_, _, At, At, At⟩ Aq At (.inl At)) AA trivial (A4 At At (fun _ => Ej At At AT) trivial ?_))))))))))
  refine A4 At At (fun _ => Ej At At AT) trivial (A4 At At (fun _ => A1 CX At At) trivial (BQ (j := 0) At At At (fun H i hi => A2 (i := i) De At hi At) AA trivial (Cr At At (B6 [1] At (.inl ⟨At, At, At⟩) (hG.itoa ti hNd.2.2.2.2.2.2) ⟨_, _, At, At, At⟩ Aq At (.inl At)) AA trivial (A4 At At (fun _ => Ej At At AT) trivial (A4 At At (fun _ => Ej At At AT) trivial (A4 At At (fun _ => A1 CX At At) trivial (BQ (j := 0) At At At (fun H i hi => A2 (i := i) FU At hi At) AA trivial (Cr At At (B6 [1] At (.inl ⟨At, At, At⟩) (hG.quote tn hNd.1 hNq.1) ⟨_, _, At, At, At⟩ Aq At (.inl At)) AA trivial (A4 At At (fun _ => Ej At At AT) trivial ?_)))))))))
  refine F4 [_, _] [] At At At (.inl ⟨At, At, At⟩) (Vz (b := b) AF h4) (aw (we At) (aw (we At) Cv)) An (YV _ _ _ _) fun T hT => ⟨AA, trivial, ?_⟩
  refine CK At An (Ax (Ax (Av (Au At At (A1 CX At At) (Au At At (A2 (i := 0) I7 At At At) (Au At At (Bp Hr At (List.length_map _)) (Au At At (Aw At) (Az At (Ba (CM (α := Nat × List BT) (fun (i, U) => ⟨74, mk [(0, .ptr b 0), (3, .ptr b3 0), (27, .p (.lst (List.map Dw tl))), (28, .p (I (tl.length : Nat))), (29, .p (I (i : Int)))], (.box b3 [.p (I tk), .p (I ti), .p (.str tn), .p (.lst (List.map Dw tl)), .p (.lst (BR ts))] :: .glob GL :: U), []⟩) (fun (i, U) => tl.length - i) (fun (i, U) => i ≤ tl.length ∧ (Zu b (l ++ (40 :: (Lib.itoa tk ++ 32 :: (Lib.itoa ti ++ 32 :: GM tn))) ++ (tl.take i).flatMap KF) U)) ⟨0, T⟩ (⟨by omega, NV hT AD⟩) ?_ ?_))))))))))
  ·exact B8 ⟨we At, we At, we At, we At, we At, trivial⟩ (QW [0, 1] [_, _] (l' := [_, _]) At (wl (oe At) (wl (oe At) (D4))))
  rintro ⟨i, U⟩ hC
  try simp only at hC
  obtain ⟨hi, hC⟩ := hC
  have hfl := SA hNd.2.2.1 hFw.2.2.1 hFw.2.1 i
  refine Ax (Av (Au At At (BA At At At) (Az At (Ax (A9 At (fun c => ?_) (fun c => ?_))))))
  ·(try simp only [sd, se] at c)
   refine BC (Ax (Ba (Ax (Av ?_))))
   obtain ⟨x, hx⟩ := BP (l := tl) (i := i) Ar
   have hxd := hNd.2.2.1 _ (List.mem_of_getElem? hx)
   have hxv := hFw.2.2.1 _ (List.mem_of_getElem? hx)
   have hz3 := GC hxd.c
   have hs4 := HV hxd.c
   refine Au At At (BL Hr At At Ar (Jh hx) (At)) (Au At At (Bi EM At (At)) (BM At At (BK Gw At) fun b5 => Au At At (A6 (i := 0) EM At At At At At (Xp _)) (Az At (Ax (Av (Au At At (Aw At) (Au At At (A1 D8 At At) (Au At At (A2 (i := 0) De At At At) (Au At At (B6 [2] At (.inl ⟨At, At, At⟩) (hG.itoa x.const hxd.c) ⟨_, _, At, At, At⟩ Aq At (.inl At)) (Au At At (Ej At At AT) ?_))))))))))
   refine GD [_, _, _] At At At (.inl ⟨At, At, At⟩) (Vz (b := b) AF hC) (aw (we At) (aw (we At) Cv)) fun T1 hT1 => Az At (Ax (Ax (Av (Au At At (A1 D8 At At) (Au At At (A2 (i := 0) HC At At At) (Au At At (Bp Fq At (List.length_map _)) (Au At At (Aw At) (Az At (Ba ?_)))))))))
   refine CM (α := Nat × List BT) (fun (j, U) => ⟨74, mk [(0, .ptr b 0), (3, .ptr b3 0), (27, .p (.lst (List.map Dw tl))), (28, .p (I (tl.length : Nat))), (29, .p (I (i : Int))), (40, .p (.lst (List.map Ec x.vars))), (41, .p (I (x.vars.length : Nat))), (42, .p (I (j : Int)))], (.box b3 [.p (I tk), .p (I ti), .p (.str tn), .p (.lst (List.map Dw tl)), .p (.lst (BR ts))] :: .glob GL :: U), []⟩) (fun (j, U) => x.vars.length - j) (fun (j, U) => j ≤ x.vars.length ∧ (Zu b (l ++ (40 :: (Lib.itoa tk ++ 32 :: (Lib.itoa ti ++ 32 :: GM tn))) ++ (tl.take i).flatMap KF ++ (91 :: Lib.itoa x.const) ++ (x.vars.take j).flatMap KI) U)) ⟨0, T1⟩ (⟨by omega, NV hT1 AD⟩) ?_ ?_
   ·exact B8 ⟨we At, we At, we At, we At, we At, we At, we At, we At, trivial⟩ (QW [1, 2] [_, _, _] (l' := [_, _]) At (wl (oe At) (wl (oe At) (D4))))
   rintro ⟨j, U⟩ hC1
   try simp only at hC1
   obtain ⟨hi, hC1⟩ := hC1
   have hfv := Rz hxd.v hxv j
   refine Ax (Av (Au At At (BA At At At) (Az At (Ax (A9 At (fun c1 => ?_) (fun c1 => ?_))))))
   ·(try simp only [sd, se] at c1)
    refine BC (Ax (Ba (Ax (Av ?_))))
    obtain ⟨v, hv⟩ := BP (l := x.vars) (i := j) Ar
    have hz4 := HV (hxd.v _ (List.mem_of_getElem? hv)).1
    have hz5 := HV (hxd.v _ (List.mem_of_getElem? hv)).2
    refine Au At At (BL Fq At At Ar (F3 hv) (At)) (Au At At (Bi PT At (At)) (BM At At (BK K7 At) fun b7 => Au At At (A6 (i := 0) PT At At At At At (Uk _)) (Az At (CQ (fun k => Nat.beq k 10) D0 (A4 At At (fun _ => Aw At) trivial (A4 At At (fun _ => A1 FX At At) trivial (BQ (j := 0) At At At (fun H i hi => A2 (i := i) De At hi At) AA trivial (Cr At At (B6 [2] At (.inl ⟨At, At, At⟩) (hG.itoa v.index (hxd.v _ (List.mem_of_getElem? hv)).1) ⟨_, _, At, At, At⟩ Aq At (.inl At)) AA trivial (A4 At At (fun _ => Ej At At AT) trivial (A4 At At (fun _ => Ej At At AT) trivial ?_))))))))))
    refine A4 At At (fun _ => A1 FX At At) trivial (BQ (j := 0) At At At (fun H i hi => A2 (i := i) De At hi At) AA trivial (Cr At At (B6 [2] At (.inl ⟨At, At, At⟩) (hG.itoa v.plus (hxd.v _ (List.mem_of_getElem? hv)).2) ⟨_, _, At, At, At⟩ Aq At (.inl At)) AA trivial (A4 At At (fun _ => Ej At At AT) trivial (F4 [_, _, _] [] At At At (.inl ⟨At, At, At⟩) (Vz (b := b) AF hC1) (aw (we At) (aw (we At) Cv)) An (YV _ _ _ _) fun T2 hT2 => ⟨AA, trivial, ?_⟩))))
    refine CK At An (Av (Au At At (CS At At Ar Ar) (Au At At (Aw At) (Az At (⟨⟨j + 1, T2⟩, AZ, ⟨by omega, NV hT2 (by rw [PI hv]; simp only [KI]; simp only [IU, GV, FJ, Zw, List.append_assoc, List.cons_append, List.nil_append, List.take_zero, List.flatMap_nil, List.append_nil, EN])⟩, B8 ⟨we rfl, we rfl, we rfl, we rfl, we rfl, we rfl, we rfl, we rfl, trivial⟩ (QW [1, 2] [_, _, _] (l' := [_, _]) rfl (wl (oe rfl) (wl (oe rfl) (D4))))⟩)))))
   ·(try simp only [sd, se] at c1)
    refine CL (Av (Au At At (Aw At) (GD [_, _] At At At (.inl ⟨At, At, At⟩) (Vz (b := b) AF hC1) (aw (we At) (aw (we At) Cv)) fun T2 hT2 => Az At (Av (Au At At (CS At At Ar Ar) (Au At At (Aw At) (Az At ?_)))))))
    refine ⟨⟨i + 1, T2⟩, AZ, ⟨by omega, NV hT2 (by rw [show j = x.vars.length by omega, List.take_length, PI hx]; simp only [KF]; simp only [IU, GV, FJ, Zw, List.append_assoc, List.cons_append, List.nil_append, List.take_zero, List.flatMap_nil, List.append_nil, EN])⟩, B8 ⟨we rfl, we rfl, we rfl, we rfl, we rfl, trivial⟩ (QW [0, 1] [_, _] (l' := [_, _]) rfl (wl (oe rfl) (wl (oe rfl) (D4))))⟩
  ·(try simp only [sd, se] at c)
   refine CL (Ax (Ax (Av (Au At At (A1 CX At At) (Au At At (A2 (i := 0) DQ At At At) (Au At At (Bp By At (Bo _)) (Au At At (Aw At) (Az At (Ba ?_)))))))))
   refine CM (α := Nat × List BT) (fun (i, U) => ⟨74, mk [(0, .ptr b 0), (62, .p (.lst (BR ts))), (63, .p (I (ts.length : Nat))), (64, .p (I (i : Int)))], (.glob GL :: U), []⟩) (fun (i, U) => ts.length - i) (fun (i, U) => i ≤ ts.length ∧ (Zu b (l ++ (40 :: (Lib.itoa tk ++ 32 :: (Lib.itoa ti ++ 32 :: GM tn))) ++ tl.flatMap KF ++ EN (ts.take i)) U)) ⟨0, U⟩ (⟨by omega, NV hC (by rw [show i = tl.length by omega, List.take_length]; simp only [IU, GV, FJ, Zw, List.append_assoc, List.cons_append, List.nil_append, List.take_zero, List.flatMap_nil, List.append_nil, EN])⟩) ?_ ?_
   ·exact B8 ⟨we At, we At, we At, we At, trivial⟩ (QW [1] [_, _] (l' := [_]) At (wl (oe At) (D4)))
   rintro ⟨i, U⟩ hC1
   try simp only at hC1
   obtain ⟨hi, hC⟩ := hC1
   have hfk := UA hNd.2.2.2.2.1 hFw.2.2.2 i
   have hfl := Th hNd.2.2.1 hFw.2.2.1 hFw.2.1
   refine Ax (Av (Au At At (BA At At At) (Az At (Ax (A9 At (fun c1 => ?_) (fun c1 => ?_))))))
   ·(try simp only [sd, se] at c1)
    refine BC (Ax (Ba (Ax (Av ?_))))
    obtain ⟨x, hx⟩ := BP (l := ts) (i := i) Ar
    refine Au At At (BL By At At Ar (CH hx) (Bj _)) (Au At At (Bi BO At (Bj _)) (BM At At (BK B7 At) fun b9 => Au At At (A6 (i := 0) BO At At At Ak Ac (CF _)) (Az At (Av (Au At At (Aw At) (Au At At (A0 (i := 0) BO At At Ak) (GB (H' := [.box b9 ((Be x).map .p)] ++ (.glob GL :: U)) (List.Perm.refl _) ?_)))))))
    refine GD [_] At At At (.inl ⟨At, At, At⟩) (ih x (l ++ (40 :: (Lib.itoa tk ++ 32 :: (Lib.itoa ti ++ 32 :: GM tn))) ++ tl.flatMap KF ++ EN (ts.take i)) _ (by have := DE hx; omega) ⟨QR hCn.2 (List.mem_of_getElem? hx), DY hNd.2.2.2.2.1 hx, OA hNq.2 (List.mem_of_getElem? hx), M1 hFw.2.2.2 (List.mem_of_getElem? hx)⟩ (by simp only [List.length_append, List.length_cons, Im]; have := R9 hNd.2.2.2.2.1 hFw.2.2.2 i hx; omega) hC) (aw (we At) (aw (we At) Cv)) fun T0x hT0x => ?_
    obtain ⟨T1, hT1, rfl⟩ := hT0x
    refine Az At (Av (Au At At (CS At At Ar Ar) (Au At At (Aw At) (Az At (⟨⟨i + 1, T1⟩, AZ, ⟨by omega, NV hT1 (by rw [NY hx]; simp only [IU, GV, FJ, Zw, List.append_assoc, List.cons_append, List.nil_append, List.take_zero, List.flatMap_nil, List.append_nil, EN])⟩, B8 ⟨we rfl, we rfl, we rfl, we rfl, trivial⟩ (QW [1] [_, _] (l' := [_]) rfl (wl (oe rfl) (D4)))⟩)))))
   ·(try simp only [sd, se] at c1)
    refine CL (Av (Au At At (Aw At) (GD [_] At At At (.inl ⟨At, At, At⟩) (Vz (b := b) AF hC) (aw (we At) (aw (we At) Cv)) fun T1 hT1 => Az At ⟨At, _, _, At, (Gj [0] [_] At), ?_⟩)))
    exact ⟨At, _, NV hT1 (by rw [show i = ts.length by omega, List.take_length]; simp only [Ir]; simp only [IU, GV, FJ, Zw, List.append_assoc, List.cons_append, List.nil_append, List.take_zero, List.flatMap_nil, List.append_nil, EN]), At⟩
theorem _root_.Go.AM {α : Prop} (h : α := by repeat' first | exact trivial | rfl | refine And.intro ?_ ?_) : α := h
theorem _root_.Go.AQ {α : Prop} (h : α := by first | omega | (simp_all; done) | (simp_all; omega)) : α := h
theorem _root_.Go.AH {α : Prop} (h : α := by first | (simp only [List.length_map, Bo]; omega) | (simp_all; done) | (simp_all; omega)) : α := h
theorem Zn : ∀ (c : Nat) (cs : List Int) (A : List Tm) (al : Int) (o o' : Option Nat) (cp cp' : Nat) (t : Tm) (sg : Int), (Nd t) → (Ic A) → (∀ a ∈ A, size a < 1000000) → (cs.length = A.length) → (A.length < 1000) → Bt Tryz.prog 101 [.ptr c 0, .agg ((Be t).map .p), .p (I sg)] [.box c [.vs o (List.map Cf cs).length cp, .vs o' (BR A).length cp', .p (I al)], .vec o 1 (List.map Cf cs) cp, .vec o' 5 (BR A) cp'] (fun x H' => x = .val (.tup []) ∧ QU c (ET ⟨cs, A, al⟩ t sg) H') := by
 intro c cs A al o o' cp cp' t sg h1 h2 h3 h4 h5
 refine A8 Tryz.func101 At aT (n := 62) At At (Ax (Av (BM At At (Bh At) fun b4 => Az At (Ax (Av (Au At At (Aw At) (Au At At (Bd At) (Au At At (A1 Hz At At) (Au At At (A2 (i := 1) De At At At) (Au At At (D7 At At) ?_))))))))))
 refine Au At At (Bd At) (Au At At (A1 Hz At At) (Au At At (Bk (i := 1) De At At At At At At) (Az At (Ax (Ax (Av (Au At At (Ay At) (Az At (Ba ?_)))))))))
 refine CM (α := Nat) (fun i => ⟨62, mk [(0, .ptr c 0), (2, .p (I sg)), (4, .ptr b4 0), (6, .p (I (i : Int)))], [.box b4 ((Be t).map .p), .box c [.vs o (List.map Cf cs).length cp, .vs o' (BR A).length cp', .p (I (wr ((al : Int) + (1 : Int))))], .vec o 1 (List.map Cf cs) cp, .vec o' 5 (BR A) cp'], []⟩) (fun i => A.length - i) (fun i => i ≤ A.length ∧ (∀ j, j < i → ∀ x, A[j]? = some x → Mx x t = false)) 0 (⟨by omega, fun j h => by omega⟩) ?_ ?_
 ·exact B8 ⟨we At, we At, we At, we At, trivial⟩ (leH (is := [0, 1, 2, 3]) At (wl (oe At) (wl (oe At) (wl (oe At) (wl (oe At) (D4))))))
 rintro i hC
 try simp only at hC
 obtain ⟨hi, hC⟩ := hC
 refine Ax (Ax (Av (Au At At (Aw At) (Au At At (Aw At) (Au At At (Bd At) (Au At At (A1 Hz At At) (Au At At (A2 (i := 1) DQ At At At) (Au At At (JO By At (Bo _)) (Au At At (BA At At At) (Az At (A9 At (fun c1 => ?_) (fun c1 => ?_))))))))))))
 ·(try simp only [sd, se] at c1)
  refine BC (Ax (Ba (Ax (RB (i := 3) At Af fun b hb => ?_))))
  subst hb
  refine CQ (fun k => false) D0 (A4 At At (fun _ => Aw At) trivial (A4 At At (fun _ => Bd At) trivial (A4 At At (fun _ => A1 Hz At At) trivial (BQ (j := 1) At At At (fun H i hi => A2 (i := i) DQ At hi At) AA trivial (A4 At At (fun _ => Aw At) trivial (A4 At At (fun _ => Df By At At Ar AH) trivial ?_))))))
  obtain ⟨y, hy⟩ := BP (l := A) (i := i) AQ
  refine BQ (j := 3) At At At (fun H i hi => HK (i := i) BO At hi (CH hy)) AA trivial (BQ (j := 0) At At At (fun H i hi => A0 (i := i) BO At hi Ak) AA trivial (A4 At At (fun _ => Bg At At (Kl _ y t (Nat.le_refl _) (DY h2 hy)) At) trivial (CK At An (A9 At (fun c2 => ?_) (fun c2 => ?_)))))
  ·(try simp only [sd, se] at c2)
   refine Ax (Av (Au At At (Aw At) (Au At At (Bd At) (Au At At (A1 Hz At At) (Au At At (A2 (i := 1) Nq At At At) (Au At At (Aw At) (Pk (i := 2) At Af fun b1 hb1 => ?_)))))))
   subst hb1
   refine Au At At (Df D9 At At Ar AH) ?_
   obtain ⟨y1, hy1⟩ := BP (l := cs) (i := i) AQ
   refine Au At At (KQ (i := 2) De At At (Ds hy1)) (Au At At (Aw At) (Au At At (D7 At At) (Au At At (Df D9 At At Ar AH) (Au At At (Fy (i := 2) (j := i) De At At At AK At At At At (V0 (f := Cf) cs i (wr ((y1 : Int) + (sg : Int))))) (Az At (BB ⟨At, _, _, At, (Cj (is := [1, 2, 3]) At), ?_⟩))))))
   refine ⟨At, ?_⟩
   show QU c _ [.box c [.vs (some b1) (List.map Cf cs).length cp, .vs (some b) (BR A).length cp', .p (I (wr ((al : Int) + (1 : Int))))], .vec (some b1) 1 (List.map Cf ((cs).set i (wr ((y1 : Int) + (sg : Int))))) cp, .vec (some b) 5 (BR A) cp']
   rw [VU hy Ao hC hy1]
   exact ⟨(some b1), cp, (some b), cp', by simp only [List.length_map, List.length_set, Bo, List.length_append]⟩
  ·(try simp only [sd, se] at c2)
   refine BC (Av (Au At At (Aw At) (Au At At (CS At At Ar Ar) (Au At At (Ay At) (Az At (⟨(i + 1), AZ, ⟨by omega, Dl hC hy (by simpa using c2)⟩, B8 ⟨we rfl, we rfl, we rfl, we rfl, trivial⟩ (leH (is := [0, 1, 2, 3]) rfl (wl (oe rfl) (wl (oe rfl) (wl (oe rfl) (wl (oe rfl) (D4))))))⟩))))))
 ·(try simp only [sd, se] at c1)
  refine CL (CQ (fun k => Nat.beq k 8 || Nat.beq k 15) D0 (A4 At At (fun _ => Aw At) trivial (A4 At At (fun _ => Aw At) trivial (A4 At At (fun _ => Aw At) trivial (A4 At At (fun _ => Bd At) trivial (A4 At At (fun _ => A1 Hz At At) trivial (BQ (j := 1) At At At (fun H i hi => A2 (i := i) Nq At hi At) AA trivial (A4 At At (fun _ => Aw At) trivial (A4 At At (fun _ => CO D9 S9 At At At At At) trivial ?_)))))))))
  obtain ⟨tk, ti, tn, tl, ts⟩ := t
  refine JE [(9, .free (.ptr c 0)), (10, .free (.ptr c 0)), (11, .free (.ptr c 1)), (12, .read [.box c [.vs o (List.map Cf cs).length cp, .vs o' (BR A).length cp', .p (I (wr ((al : Int) + (1 : Int))))]] (.vs o' (BR A).length cp')), (13, .read [.box b4 [.p (I tk), .p (I ti), .p (.str tn), .p (.lst (List.map Dw tl)), .p (.lst (BR ts))]] (.agg [.p (I tk), .p (I ti), .p (.str tn), .p (.lst (List.map Dw tl)), .p (.lst (BR ts))])), (14, .free (.p (.lst (BR [(.mk tk ti tn tl ts : Tm)]))))] At At (DX (i := 2) (rows' := List.map Cf [sg]) D9 D9 S9 At At At At At At (KE _) AE (IE (f := Cf) cs [sg])) An fun o1 cp1 => ⟨AA, trivial, ?_⟩
  refine A4 At At (fun _ => Aw At) AM (A4 At At (fun _ => Bd At) AM (A4 At At (fun _ => A1 Hz At At) AM (BQ (j := 1) At At At (fun H i hi => A2 (i := i) DQ At hi At) AA AM (BQ (j := 0) At At At (fun H i hi => A0 (i := i) BO At hi At) AA AM (A4 At At (fun _ => CO By B7 At At At At At) AM (JE [] At At (DX (i := 3) (rows' := BR [(.mk tk ti tn tl ts : Tm)]) By By B7 At At At At At At (CC _) AE (Lg A [(.mk tk ti tn tl ts : Tm)])) An fun o2 cp2 => ⟨AA, AM, ?_⟩))))))
  refine A4 At At (fun _ => Bd At) AM (A4 At At (fun _ => A1 Hz At At) AM (Cr At At (Bk (i := 1) Nq At At At At At At) AA AM (A4 At At (fun _ => Bd At) AM (A4 At At (fun _ => A1 Hz At At) AM (Cr At At (Bk (i := 1) DQ At At At At At At) AA AM (CK At An ⟨At, _, _, At, (Cj (is := [1, 2, 3]) At), ?_⟩))))))
  refine ⟨At, ?_⟩
  show QU c _ [.box c [.vs o1 (List.map Cf (cs ++ [sg])).length cp1, .vs o2 (BR (A ++ [(.mk tk ti tn tl ts : Tm)])).length cp2, .p (I (wr ((al : Int) + (1 : Int))))], .vec o1 1 (List.map Cf (cs ++ [sg])) cp1, .vec o2 5 (BR (A ++ [(.mk tk ti tn tl ts : Tm)])) cp2]
  rw [UB (i := i) Ar hC]
  exact ⟨o1, cp1, o2, cp2, by simp only [List.length_map, List.length_set, Bo, List.length_append]⟩
theorem XC {c : Nat} {C : FQ} {t : Tm} {sg : Int} {T : List BT} (h1 : ER t) (h2 : R8 C) (h3 : Ft C) (hT : QU c C T) : Bt Tryz.prog 101 [.ptr c 0, TV t, .p (I sg)] T (Gm (.tup []) (QU c (ET C t sg))) := by
 obtain ⟨o, cp, o', cp', rfl⟩ := hT
 refine (Zn c C.coefs C.atoms C.all o o' cp cp' t sg h1.nd h2.nds (fun a ha => (h2 a ha).2) h3.len h3.lt).mono ?_
 rintro r H' ⟨rfl, h⟩
 exact ⟨At, h⟩
theorem R2 : ∀ (th : BJ) (c : Nat) (n : Nat) (C : FQ) (t : Tm) (sg : Int) (T : List BT), size t ≤ n → ER t → size t < 1000000 → Ft C → R8 C → QU c C T → Bt Tryz.prog 54 [.ptr c 0, .agg ((EE th).map .p), TV t, .p (I sg)] T (Gm (.tup []) (QU c (Bw th n C t sg))) := by
 intro th c n
 induction n with
 | zero => intro C t sg T h; cases t; simp [size] at h
 | succ n ih =>
  intro C t sg T h1 h2 h3 h4 h5 h6
  obtain ⟨o, cp, o', cp', rfl⟩ := h6
  have hsp := Ew t
  obtain ⟨BG, BD, BE, BF, BH, BI, thm⟩ := th
  refine A8 Tryz.func54 At dt (n := 77) At At (Ax (Av (BM At At (Bh At) fun b5 => BM At At (Bh At) fun b6 => Az At (Ax (Av (Au At At (A0 (i := 0) BO At At Ak) (Au At At (Bg At At (M6 _ t (Nat.le_refl _) Ag) At) (Au At At (Aw At) (Au At At (BY At At) ?_)))))))))
  refine Au At At (BY At At) (BM At At (BK B7 At) fun b8 => Au At At (A6 (i := 0) BO At At At Ak Ac (CF _)) (Au At At (Ay At) (Az At (Ba (Ax (Av (Au At At (Aw At) (Au At At (Bd At) (Au At At (A1 Hz At At) (Au At At (A2 (i := 3) De At At At) ?_))))))))))
  refine Au At At (BA At At At) (Au At At (Ay At) (Az At (A9 At (fun c1 => ?_) (fun c1 => ?_))))
  ·have c1R := c1
   (try simp only [sd, se] at c1)
   refine BC ⟨At, _, _, At, (Cj (is := [3, 4, 5]) At), ?_⟩
   refine ⟨At, ?_⟩
   rw [KS Ar]
   exact ⟨_, _, _, _, At⟩
  ·have c1R := c1
   (try simp only [sd, se] at c1)
   refine Ax (CA [0, 3, 5, 6, 8, 9] 25 (fun y => y = .p (.bool ((DN ((Bq t).1) BD) && (((((Bq t).2).length : Nat) : Int) == (2 : Int))))) ?_ ?_)
   ·refine Av (Au At At (A0 (i := 0) BO At At Ak) (Au At At (A1 DU At At) (Au At At (A2 (i := 2) FU At At At) (Au At At (Bg At At (FV ((Bq t).1) BD) At) (Au At At (Aw At) (Bm 30 At (fun g => ?_) (fun g => ?_)))))))
    ·(try simp only [sd, se] at g)
     exact A3 At At At At (Aw At) (A3 At At At At (Bp By At (Bo _)) (A3 At At At At (BA At At At) (Au At At (A7 At At) (Au At At (Ay At) (Az At (⟨At, At, AJ, AI, ⟨At, At, At, At, At, At, trivial⟩⟩))))))
    ·(try simp only [sd, se] at g)
     exact A5 At At At At At (A5 At At At At At (A5 At At At At At (Au At At (A7 At At) (Au At At (Ay At) (Az At (⟨At, At, AJ, AI, ⟨At, At, At, At, At, At, trivial⟩⟩))))))
   rintro _ rfl
   refine A9 At (fun c2 => ?_) (fun c2 => ?_)
   ·have c2R := c2
    (try simp only [sd, se] at c2)
    have ho := Wk (th := (BJ.mk BG BD BE BF BH BI thm)) c2R
    have hl := (Gc (th := (BJ.mk BG BD BE BF BH BI thm)) (t := t)).1 (by rw [ho])
    rw [ho] at hl
    simp only at hl
    refine Ax (CQ (fun k => Nat.beq k 6) D0 (A4 At At (fun _ => Aw At) trivial (BQ (j := 2) At At At (fun H i hi => A0 (i := i) EG At hi At) AA trivial (A4 At At (fun _ => Aw At) trivial ?_))))
    obtain ⟨x, hx⟩ := BP (l := (Bq t).2) (i := 0) Ar
    refine A4 At At (fun _ => BL By At At Ar (CH hx) (Bj _)) trivial (A4 At At (fun _ => Bi BO At (Bj _)) trivial (A4 At At (fun _ => Aw At) trivial (F4 [_, _, _] [] At At At (.inl ⟨At, At, At⟩) (ih C x sg _ (by have := (h2.arg hx).2; omega) (h2.arg hx).1 (by have := (h2.arg hx).2; omega) h4 h5 ⟨_, _, _, _, At⟩) (aw (we At) (aw (we At) (aw (we At) (aw (we At) (Cv))))) An (QC _ _) fun T1 hT => ⟨AA, trivial, ?_⟩)))
    refine CK At An (CQ (fun k => Nat.beq k 6) D0 (A4 At At (fun _ => Aw At) trivial (BQ (j := 2) At At At (fun H i hi => A0 (i := i) EG At hi At) AA trivial (A4 At At (fun _ => Aw At) trivial ?_))))
    obtain ⟨x1, hx1⟩ := BP (l := (Bq t).2) (i := 1) Ar
    refine A4 At At (fun _ => BL By At At Ar (CH hx1) (Bj _)) trivial (A4 At At (fun _ => Bi BO At (Bj _)) trivial (A4 At At (fun _ => Aw At) trivial (F4 [_, _, _] [] At At At (.inl ⟨At, At, At⟩) (ih (Bw (BJ.mk BG BD BE BF BH BI thm) n C x sg) x1 sg _ (by have := (h2.arg hx1).2; omega) (h2.arg hx1).1 (by have := (h2.arg hx1).2; omega) (Dh n _ _ _ h4) (Fp n _ _ _ h5 (h2.arg hx).1 (by have := (h2.arg hx).2; omega)) hT) (aw (we At) (aw (we At) (aw (we At) (aw (we At) (Cv))))) An (QC _ _) fun T2 hT1 => ⟨AA, trivial, ?_⟩)))
    refine CK At An ⟨At, _, _, At, (Gj [] [_, _, _] At), ?_⟩
    exact ⟨At, by rw [HI Ar (by rw [ho]) (by rw [ho]; exact hx) (by rw [ho]; exact hx1)]; exact hT1⟩
   ·have c2R := c2
    (try simp only [sd, se] at c2)
    refine Ax (CA [0, 3, 5, 6, 8, 9] 49 (fun y => y = .p (.bool ((DN ((Bq t).1) BE) && (((((Bq t).2).length : Nat) : Int) == (0 : Int))))) ?_ ?_)
    ·refine Av (Au At At (A0 (i := 0) BO At At Ak) (Au At At (A1 DU At At) (Au At At (A2 (i := 2) FU At At At) (Au At At (Bg At At (FV ((Bq t).1) BE) At) (Au At At (Aw At) (Bm 54 At (fun g => ?_) (fun g => ?_)))))))
     ·(try simp only [sd, se] at g)
      exact A3 At At At At (Aw At) (A3 At At At At (Bp By At (Bo _)) (A3 At At At At (BA At At At) (Au At At (A7 At At) (Au At At (Ay At) (Az At (⟨At, At, AJ, AI, ⟨At, At, At, At, At, At, trivial⟩⟩))))))
     ·(try simp only [sd, se] at g)
      exact A5 At At At At At (A5 At At At At At (A5 At At At At At (Au At At (A7 At At) (Au At At (Ay At) (Az At (⟨At, At, AJ, AI, ⟨At, At, At, At, At, At, trivial⟩⟩))))))
    rintro _ rfl
    refine A9 At (fun c3 => ?_) (fun c3 => ?_)
    ·have c3R := c3
     (try simp only [sd, se] at c3)
     have ho := Vi (th := (BJ.mk BG BD BE BF BH BI thm)) c2R c3R
     refine BC ⟨At, _, _, At, (Cj (is := [3, 4, 5]) At), ?_⟩
     refine ⟨At, ?_⟩
     rw [Gg Ar (by rw [ho])]
     exact ⟨_, _, _, _, At⟩
    ·have c3R := c3
     (try simp only [sd, se] at c3)
     refine Ax (CA [0, 3, 5, 6, 9] 59 (fun y => y = .p (.bool ((DN ((Bq t).1) BF) && (((((Bq t).2).length : Nat) : Int) == (1 : Int))))) ?_ ?_)
     ·refine Av (Au At At (A0 (i := 0) BO At At Ak) (Au At At (A1 DU At At) (Au At At (A2 (i := 2) FU At At At) (Au At At (Bg At At (FV ((Bq t).1) BF) At) (Au At At (Aw At) (Bm 64 At (fun g => ?_) (fun g => ?_)))))))
      ·(try simp only [sd, se] at g)
       exact A3 At At At At (Aw At) (A3 At At At At (Bp By At (Bo _)) (A3 At At At At (BA At At At) (Au At At (A7 At At) (Au At At (Ay At) (Az At (⟨At, At, AJ, AI, ⟨At, At, At, At, At, trivial⟩⟩))))))
      ·(try simp only [sd, se] at g)
       exact A5 At At At At At (A5 At At At At At (A5 At At At At At (Au At At (A7 At At) (Au At At (Ay At) (Az At (⟨At, At, AJ, AI, ⟨At, At, At, At, At, trivial⟩⟩))))))
     rintro _ rfl
     refine A9 At (fun c4 => ?_) (fun c4 => ?_)
     ·have c4R := c4
      (try simp only [sd, se] at c4)
      have ho := Wf (th := (BJ.mk BG BD BE BF BH BI thm)) c2R c3R c4R
      have hl := (Gc (th := (BJ.mk BG BD BE BF BH BI thm)) (t := t)).2 (by rw [ho])
      rw [ho] at hl
      simp only at hl
      refine CQ (fun k => Nat.beq k 7) D0 (A4 At At (fun _ => Aw At) trivial (BQ (j := 2) At At At (fun H i hi => A0 (i := i) EG At hi At) AA trivial (A4 At At (fun _ => Aw At) trivial ?_)))
      obtain ⟨x, hx⟩ := BP (l := (Bq t).2) (i := 0) Ar
      refine A4 At At (fun _ => BL By At At Ar (CH hx) (Bj _)) trivial (A4 At At (fun _ => Bi BO At (Bj _)) trivial (A4 At At (fun _ => Aw At) trivial (A4 At At (fun _ => K0 At) trivial (F4 [_, _, _] [] At At At (.inl ⟨At, At, At⟩) (ih C x (wr (0 - sg)) _ (by have := (h2.arg hx).2; omega) (h2.arg hx).1 (by have := (h2.arg hx).2; omega) h4 h5 ⟨_, _, _, _, At⟩) (aw (we At) (aw (we At) (aw (we At) (aw (we At) (Cv))))) An (QC _ _) fun T1 hT => ⟨AA, trivial, ?_⟩))))
      refine CK At An ⟨At, _, _, At, (Gj [] [_, _, _] At), ?_⟩
      exact ⟨At, by rw [HM Ar (by rw [ho]) (by rw [ho]; exact hx)]; exact hT⟩
     ·have c4R := c4
      (try simp only [sd, se] at c4)
      have ho := U1 (th := (BJ.mk BG BD BE BF BH BI thm)) c2R c3R c4R
      refine Av (Au At At (Aw At) (Au At At (A0 (i := 1) BO At At Ak) (Au At At (Aw At) (GD [_, _, _] At At At (.inl ⟨At, At, At⟩) (XC (C := C) h2 h5 h4 ⟨_, _, _, _, At⟩) (aw (we At) (aw (we At) (aw (we At) (Cv)))) fun T1 hT => Az At ⟨At, _, _, At, (Gj [] [_, _, _] At), ?_⟩))))
      exact ⟨At, by rw [E2 Ar (by rw [ho])]; exact hT⟩
theorem Xx : ∀ (th : BJ) (t : Tm), (ER t) → (size t < 1000000) → G5 Tryz.prog 29 [.agg ((EE th).map .p), .agg ((Be t).map .p)] (.tup [.p (.lst (List.map Cf ((B5 th t).1))), .p (.lst (BR ((B5 th t).2.1))), .p (I ((B5 th t).2.2))]) := by
 intro th t h1 h2
 obtain ⟨BG, BD, BE, BF, BH, BI, thm⟩ := th
 refine A8 Tryz.func29 At ew (n := 27) At At (Ax (Av (BM At At (Bh At) fun b2 => BM At At (Bh At) fun b3 => Au At At (Ay At) (Au At At (Ay At) (Au At At (Ay At) (Az At (Ax (Av (Au At At (Br Hz cb At) ?_)))))))))
 refine BM At At (Bh At) fun b9 => Au At At (Ay At) (Az At (Ax (Av (C4 (Fj (i := 0) At (Zv (aw (Fm) (aw (we At) (aw (we At) (Cv)))))) (C4 (GJ (sz := 1)) (C4 (Fj (i := 1) At (Zv (aw (we At) (aw (Fm) (aw (we At) (Cv)))))) (C4 (GJ (sz := 5)) (GB ((Cx (is := [2, 1, 0]) Aq ⟨_, _, At, At, ⟨_, _, At, At, ⟨_, _, At, At, At⟩⟩⟩).trans List.perm_append_comm) (Au At At (Aw At) (Au At At (A0 (i := 1) EG At At At) ?_))))))))))
 refine Au At At (A0 (i := 0) BO At At Ak) (GD [_, _] At At At (.inl ⟨At, At, At⟩) (R2 (BJ.mk BG BD BE BF BH BI thm) b9 (size t) ⟨[], [], 0⟩ t 1 _ (Nat.le_refl _) h1 h2 Fx LA ⟨_, _, _, _, At⟩) (aw (we At) (aw (we At) (aw (we At) (aw (we At) (Cv))))) fun T hT => Az At (Ax (Ax (Av ?_))))
 change QU b9 (CP (BJ.mk BG BD BE BF BH BI thm) t) _ at hT
 obtain ⟨o, cp, o1, cp1, rfl⟩ := hT
 refine Au At At (Aw At) (Au At At (Bd At) (Au At At (A1 Hz At At) (Au At At (A2 (i := 2) De At At At) (Au At At (BA At At At) (Az At (A9 At (fun c => ?_) (fun c => ?_)))))))
 ·(try simp only [sd, se] at c)
  refine Ax (Av (Au At At (Ay At) (Au At At (Ay At) (Au At At (Ay At) (Az At (CG (Ef 4) (CG (Ef 5) (BB (⟨At, _, _, ⟨_, _, At, At, ⟨_, _, At, At, ⟨_, _, At, At, At⟩⟩⟩, (List.nil_sublist _), ?_⟩)))))))))
  rw [IQ Ar]
  all_goals exact ⟨rfl, rfl⟩
 ·(try simp only [sd, se] at c)
  refine BC (Ax (CQ (fun k => false) D0 (A4 At At (fun _ => Aw At) trivial (A4 At At (fun _ => Bd At) trivial (A4 At At (fun _ => A1 Hz At At) trivial (BQ (j := 2) At At At (fun H i hi => A2 (i := i) Nq At hi At) AA trivial (A4 At At (fun _ => Aw At) trivial (A4 At At (fun _ => Bd At) trivial (A4 At At (fun _ => A1 Hz At At) trivial (BQ (j := 2) At At At (fun H i hi => A2 (i := i) DQ At hi At) AA trivial (A4 At At (fun _ => Ay At) trivial ?_)))))))))))
  refine A4 At At (fun _ => Ay At) trivial (A4 At At (fun _ => Ay At) trivial (CK At An (CG (Dn (i := 3) (j := 2) (q := 0) [4, 22] At At At (ID ⟨At, At, trivial⟩)) (CG (Dn (i := 3) (j := 2) (q := 1) [5, 26] At At At (ID ⟨At, At, trivial⟩)) (BB (⟨At, _, _, ⟨_, _, At, At, ⟨_, _, At, At, ⟨_, _, At, At, At⟩⟩⟩, (List.nil_sublist _), ?_⟩))))))
  rw [GQ Ar]
  all_goals exact ⟨rfl, rfl⟩
theorem YO : ∀ (GL : List (Nat × Obj)) (c m : Nat) (X Y Z : AV) (A : List Tm) (t : Tm) (hG : Gl GL), (ER t) → (size t < 1000000) → (t ∈ A) → (∀ a ∈ A, My a) → Bt Tryz.prog 85 [.ptr c 0, .agg ((Be t).map .p)] [.box c [X, Y, .map m, Z], .map m (Du (FR 0 A)), .glob GL] (fun x H' => x = .val (.p (I (Cl A t : Nat))) ∧ H' = [.box c [X, Y, .map m, Z], .map m (Du (FR 0 A)), .glob GL]) := by
 intro GL c m X Y Z A t hG h1 h2 h3 h4
 have hkl := NU h1.nd h1.fw
 refine A8 Tryz.func85 At cW (n := 52) At At (Ax (Av (BM At At (Bh At) fun b3 => Au At At (Ay At) (Az At (Ax (Av (C4 (Md (e := 5)) (Tc At At (Ns YW At) fun b5 => C4 (Fj (i := 0) At (ay (aw (we At) (aw Fm Cv)))) (GB ((Cx (is := [5, 0, 1]) Aq ⟨_, _, At, At, ⟨_, _, At, At, ⟨_, _, At, At, At⟩⟩⟩).trans List.perm_append_comm) ?_)))))))))
 refine Az At (Ax (Av (Au At At (A0 (i := 0) BO At At Ak) (GD [_, _, _] At At At (.inl ⟨At, At, At⟩) (YM GL b5 hG (size t) t [] _ (Nat.le_refl _) h1 (by simp only [List.length_nil]; omega) (TQ _ _ b5)) (aw (we At) (aw (we At) Cv)) fun T0x hT0x => ?_))))
 obtain ⟨T, hT, rfl⟩ := hT0x
 rw [List.nil_append] at hT
 refine Az At (Ax (CQ (fun k => Nat.beq k 4) D0 (A4 At At (fun _ => Aw At) trivial (A4 At At (fun _ => Bd At) trivial (A4 At At (fun _ => A1 HL At At) trivial (BQ (j := 1) At At At (fun H i hi => A2 (i := i) ZQ At hi At) AA trivial (F4 [_, _, _, _] [] At At At (.inl ⟨At, At, At⟩) (U7 (Nr t) Ar hT) (aw (we At) Cv) An (Vn _ _ _ _) fun T1 hT1 => ⟨AA, trivial, ?_⟩)))))))
 refine BQ (j := 2) At At At (fun H i hi => JQ (i := i) eu S9 Ux At At hi (by rw [LJ h1.nq A 0 h4, if_pos (Da h3).1, Nat.zero_add]; try rfl) (by rw [LJ h1.nq A 0 h4, if_pos (Da h3).1]; try rfl)) AA AM (A4 At At (fun _ => Aw At) trivial (A4 At At (fun _ => BY At At) trivial (A4 At At (fun _ => BY At At) trivial (A4 At At (fun _ => Ay At) trivial (A4 At At (fun _ => Ay At) trivial (CK At An (Ax (Ax (Av (Au At At (Aw At) (Au At At (Cg At) ?_)))))))))))
 refine Az At ?_
 refine A9 At (fun c1 => by cases c1) (fun c1 => ?_)
 refine BC (Ax (Av (Au At At (Aw At) (Au At At (Ay At) (Az At (BB (⟨At, _, _, ⟨_, _, At, At, At⟩, ((Cj (is := [1, 2, 3]) At).trans (List.sublist_append_left [_, _, _, _] _)), ?_⟩)))))))
 exact ⟨At, At⟩
theorem bF : ∀ (GL : List (Nat × Obj)) (c m : Nat) (cs : List Int) (A : List Tm) (al : Int) (o o' : Option Nat) (cp cp' : Nat) (t : Tm) (hG : Gl GL), (ER t) → (size t < 1000000) → (t ∉ A) → (∀ a ∈ A, My a) → (cs.length = A.length) → (A.length < 1000) → Bt Tryz.prog 85 [.ptr c 0, .agg ((Be t).map .p)] [.box c [.vs o (List.map Cf cs).length cp, .vs o' (BR A).length cp', .map m, .p (I al)], .vec o 1 (List.map Cf cs) cp, .vec o' 5 (BR A) cp', .map m (Du (FR 0 A)), .glob GL] (fun x H' => x = .val (.p (I (A.length : Nat))) ∧ ∃ T, Oi c ⟨cs ++ [0], A ++ [t], al⟩ T ∧ H' = T ++ [.glob GL]) := by
 intro GL c m cs A al o o' cp cp' t hG h1 h2 h3 h4 h5 h6
 have hkl := NU h1.nd h1.fw
 refine A8 Tryz.func85 At cW (n := 52) At At (Ax (Av (BM At At (Bh At) fun b3 => Au At At (Ay At) (Az At (Ax (Av (C4 (Md (e := 5)) (Tc At At (Ns YW At) fun b5 => C4 (Fj (i := 0) At (ay (aw (we At) (aw Fm Cv)))) (GB ((Cx (is := [7, 0, 1]) Aq ⟨_, _, At, At, ⟨_, _, At, At, ⟨_, _, At, At, At⟩⟩⟩).trans List.perm_append_comm) ?_)))))))))
 refine Az At (Ax (Av (Au At At (A0 (i := 0) BO At At Ak) (GD [_, _, _, _, _] At At At (.inl ⟨At, At, At⟩) (YM GL b5 hG (size t) t [] _ (Nat.le_refl _) h1 (by simp only [List.length_nil]; omega) (TQ _ _ b5)) (aw (we At) (aw (we At) Cv)) fun T0x hT0x => ?_))))
 obtain ⟨T, hT, rfl⟩ := hT0x
 rw [List.nil_append] at hT
 refine Az At (Ax (CQ (fun k => Nat.beq k 4) D0 (A4 At At (fun _ => Aw At) trivial (A4 At At (fun _ => Bd At) trivial (A4 At At (fun _ => A1 HL At At) trivial (BQ (j := 1) At At At (fun H i hi => A2 (i := i) ZQ At hi At) AA trivial (F4 [_, _, _, _, _, _] [] At At At (.inl ⟨At, At, At⟩) (U7 (Nr t) Ar hT) (aw (we At) Cv) An (Vn _ _ _ _) fun T1 hT1 => ⟨AA, trivial, ?_⟩)))))))
 refine BQ (j := 4) At At At (fun H i hi => JQ (i := i) eu S9 Ux At At hi (by rw [LJ h1.nq A 0 h4, if_neg (DR h3)]; try rfl) (by rw [LJ h1.nq A 0 h4, if_neg (DR h3)]; try rfl)) AA AM (A4 At At (fun _ => Aw At) trivial (A4 At At (fun _ => BY At At) trivial (A4 At At (fun _ => BY At At) trivial (A4 At At (fun _ => Ay At) trivial (A4 At At (fun _ => Ay At) trivial (CK At An (Ax (Ax (Av (Au At At (Aw At) (Au At At (Cg At) ?_)))))))))))
 refine Az At ?_
 refine A9 At (fun c1 => ?_) (fun c1 => by cases c1)
 refine Ax (Av (Au At At (Aw At) (Au At At (Bd At) (Au At At (A1 HL At At) (Au At At (A2 (i := 1) DQ At At At) (Au At At (JO By At (Bo _)) (Au At At (Ay At) (Az At (Ax (CQ (fun k => Nat.beq k 4) D0 (A4 At At (fun _ => Aw At) trivial ?_)))))))))))
 refine A4 At At (fun _ => Bd At) trivial (A4 At At (fun _ => A1 HL At At) trivial (BQ (j := 1) At At At (fun H i hi => A2 (i := i) ZQ At hi At) AA trivial (F4 [_, _, _, _, _, _] [(5, .free (.p (I (A.length : Nat))))] At At At (.inl ⟨At, At, At⟩) (VC (Nr t) Ar hT1) (aw (we At) Cv) An (Vn _ _ _ _) fun T2 hT2 => ⟨AA, trivial, ?_⟩)))
 refine A4 At At (fun _ => Aw At) AM (Cr At At (Mm (i := 4) (l' := FR 0 (A ++ [t])) eu At At At At (by have := TZ h1.nq A 0 h4 h3; rw [Nat.zero_add] at this; exact this)) AA AM (CK At An (CQ (fun k => Nat.beq k 7 || Nat.beq k 14) D0 (A4 At At (fun _ => Aw At) trivial (A4 At At (fun _ => Aw At) trivial (A4 At At (fun _ => Aw At) trivial (A4 At At (fun _ => Bd At) trivial (A4 At At (fun _ => A1 HL At At) trivial (BQ (j := 1) At At At (fun H i hi => A2 (i := i) Nq At hi At) AA trivial (A4 At At (fun _ => CO D9 S9 At At At At At) trivial ?_))))))))))
 obtain ⟨tk, ti, tn, tl, ts⟩ := t
 refine JE [(8, .free (.ptr c 0)), (9, .free (.ptr c 0)), (10, .free (.ptr c 1)), (11, .read [.box c [.vs o (List.map Cf cs).length cp, .vs o' (BR A).length cp', .map m, .p (I al)]] (.vs o' (BR A).length cp')), (12, .read [.box b3 [.p (I tk), .p (I ti), .p (.str tn), .p (.lst (List.map Dw tl)), .p (.lst (BR ts))]] (.agg [.p (I tk), .p (I ti), .p (.str tn), .p (.lst (List.map Dw tl)), .p (.lst (BR ts))])), (13, .free (.p (.lst (BR [(.mk tk ti tn tl ts : Tm)]))))] At At (DX (i := 2) (rows' := List.map Cf [0]) D9 D9 S9 At At At At At At (KE _) AE (IE (f := Cf) cs [0])) An fun o1 cp1 => ⟨AA, trivial, ?_⟩
 refine A4 At At (fun _ => Aw At) AM (A4 At At (fun _ => Bd At) AM (A4 At At (fun _ => A1 HL At At) AM (BQ (j := 1) At At At (fun H i hi => A2 (i := i) DQ At hi At) AA AM (BQ (j := 0) At At At (fun H i hi => A0 (i := i) BO At hi At) AA AM (A4 At At (fun _ => CO By B7 At At At At At) AM (JE [] At At (DX (i := 3) (rows' := BR [(.mk tk ti tn tl ts : Tm)]) By By B7 At At At At At At (CC _) AE (Lg A [(.mk tk ti tn tl ts : Tm)])) An fun o2 cp2 => ⟨AA, AM, ?_⟩))))))
 refine A4 At At (fun _ => Bd At) AM (A4 At At (fun _ => A1 HL At At) AM (Cr At At (Bk (i := 1) Nq At At At At At At) AA AM (A4 At At (fun _ => Bd At) AM (A4 At At (fun _ => A1 HL At At) AM (Cr At At (Bk (i := 1) DQ At At At At At At) AA AM (CK At An (Ax (Av (Au At At (Aw At) (Au At At (Ay At) (Az At ?_)))))))))))
 refine BB (⟨At, _, _, ⟨_, _, At, At, At⟩, ((Cj (is := [1, 2, 3, 4, 5]) At).trans (List.sublist_append_left [_, _, _, _, _, _] _)), ?_⟩)
 refine ⟨At, _, ⟨o1, cp1, o2, cp2, m, At⟩, by simp only [List.length_map, List.length_set, Bo, List.length_append, List.cons_append, List.nil_append]; rfl⟩
theorem aE {GL : List (Nat × Obj)} (hG : Gl GL) {c : Nat} {C : FQ} {t : Tm} {T : List BT} (h1 : ER t) (h2 : size t < 1000000) (h3 : R8 C) (h4 : C.coefs.length = C.atoms.length) (h5 : C.atoms.length < 1000) (hT : Oi c C T) : Bt Tryz.prog 85 [.ptr c 0, TV t] (.glob GL :: T) (Gm (.p (I (Cl (OT C t).atoms t : Nat))) (fun H => ∃ T', Oi c (OT C t) T' ∧ H = .glob GL :: T')) := by
 obtain ⟨o, cp, o', cp', m, rfl⟩ := hT
 by_cases h : t ∈ C.atoms
 ·rw [R6 h]
  refine MW (Pj (YO GL c m (.vs o (C.coefs.map Cf).length cp) (.vs o' (BR C.atoms).length cp') (.p (I C.all)) C.atoms t hG h1 h2 h h3.nq) [.vec o 1 (C.coefs.map Cf) cp, .vec o' 5 (BR C.atoms) cp']) ((Cx (is := [1, 4, 0]) Aq ⟨_, _, At, At, _, _, At, At, _, _, At, At, At⟩).trans (List.Perm.refl _)) ?_
  rintro r H1 ⟨H2, ⟨rfl, rfl⟩, rfl⟩
  exact ⟨_, ((Cx (is := [1, 4, 0]) (H := ([.glob GL, .box c [.vs o (C.coefs.map Cf).length cp, .vs o' (BR C.atoms).length cp', .map m, .p (I C.all)], .vec o 1 (C.coefs.map Cf) cp, .vec o' 5 (BR C.atoms) cp', .map m (Du (FR 0 C.atoms))] : List BT)) Aq ⟨_, _, At, At, _, _, At, At, _, _, At, At, At⟩).symm), At, _, ⟨o, cp, o', cp', m, At⟩, At⟩
 ·rw [P3 h]
  refine MW (bF GL c m C.coefs C.atoms C.all o o' cp cp' t hG h1 h2 h h3.nq h4 h5) (List.perm_append_comm (l₁ := [_])) ?_
  rintro r H1 ⟨rfl, T, hT, rfl⟩
  exact ⟨.glob GL :: T, List.perm_append_comm, ⟨by rw [HZ h], T, hT, rfl⟩⟩
theorem cj {GL : List (Nat × Obj)} (hG : Gl GL) {c ix : Nat} {C : FQ} {t : Tm} {T : List BT} (hix : ix = Cl (OT C t).atoms t) (h1 : ER t) (h2 : size t < 1000000) (h3 : R8 C) (h4 : C.coefs.length = C.atoms.length) (h5 : C.atoms.length < 1000) (hT : Oi c C T) : Bt Tryz.prog 85 [.ptr c 0, TV t] (.glob GL :: T) (Gm (.p (I (ix : Nat))) (fun H => ∃ T', Oi c (OT C t) T' ∧ H = .glob GL :: T')) := by
 subst hix; exact aE hG h1 h2 h3 h4 h5 hT
theorem NG : ∀ (GL : List (Nat × Obj)) (hG : Gl GL) (th : BJ) (c : Nat) (n : Nat) (C : FQ) (t : Tm) (sg : Int) (T : List BT), size t ≤ n → ER t → size t < 1000000 → Ft C → R8 C → rng sg → Oi c C T → Bt Tryz.prog 77 [.ptr c 0, .agg ((EE th).map .p), TV t, .p (I sg)] (.glob GL :: T) (Gm (.tup []) (fun H => ∃ T', Oi c (Bw th n C t sg) T' ∧ H = .glob GL :: T')) := by
 intro GL hG th c n
 induction n with
 | zero => intro C t sg T h; cases t; simp [size] at h
 | succ n ih =>
  intro C t sg T h1 h2 h3 h4 h5 h6 h7
  obtain ⟨o, cp, o', cp', m, rfl⟩ := h7
  obtain ⟨BG, BD, BE, BF, BH, BI, thm⟩ := th
  refine A8 Tryz.func77 At di (n := 71) At At (Ax (Av (BM At At (Bh At) fun b5 => BM At At (Bh At) fun b6 => Az At (Ax (Ax (Av (Au At At (Aw At) (Au At At (Bd At) (Au At At (A1 HL At At) ?_)))))))))
  refine Au At At (A2 (i := 3) De At At At) (Au At At (BA At At At) (Az At (A9 At (fun c1 => ?_) (fun c1 => ?_))))
  ·(try simp only [sd, se] at c1)
   refine BB ⟨At, _, _, At, (Cj (is := [2, 3, 4, 5, 6]) At), ?_⟩
   exact ⟨At, _, by rw [KS Ar]; exact ⟨_, _, _, _, _, rfl⟩, rfl⟩
  ·(try simp only [sd, se] at c1)
   refine BC (Ax (Av (Au At At (A0 (i := 1) EG At At At) (Au At At (A0 (i := 0) BO At At Ak) (Au At At (Bg At At (YI (BJ.mk BG BD BE BF BH BI thm) t h2.nd h3) At) (Au At At (Aw At) (Au At At (BY At At) (Au At At (BY At At) (Au At At (Ay At) (Au At At (Ay At) (Az At ?_)))))))))))
   refine Ax (Av (Au At At (Aw At) (Az At (Ba (Ax (Av (Au At At (BA At At At) (Au At At (Ay At) (Az At (A9 At (fun c2 => ?_) (fun c2 => ?_)))))))))))
   ·(try simp only [sd, se] at c2)
    have hl := (Gc (th := (BJ.mk BG BD BE BF BH BI thm)) (t := t)).1 c2
    have e2 := Gt (th := (BJ.mk BG BD BE BF BH BI thm)) (t := t) (by rw [c2]; decide) (by rw [c2]; decide)
    refine Ax (CQ (fun k => Nat.beq k 6) D0 (A4 At At (fun _ => Aw At) trivial (BQ (j := 1) At At At (fun H i hi => A0 (i := i) EG At hi At) AA trivial (A4 At At (fun _ => Aw At) trivial ?_))))
    obtain ⟨x, hx⟩ := BP (l := (Cu (BJ.mk BG BD BE BF BH BI thm) t).2) (i := 0) Ar
    refine A4 At At (fun _ => BL By At At Ar (CH hx) (Bj _)) trivial (A4 At At (fun _ => Bi BO At (Bj _)) trivial (A4 At At (fun _ => Aw At) trivial (F4 [_, _] [] At At At (.inl ⟨At, At, At⟩) (ih C x sg _ (by have := (h2.arg (e2 ▸ hx)).2; omega) (h2.arg (e2 ▸ hx)).1 (by have := (h2.arg (e2 ▸ hx)).2; omega) h4 h5 h6 ⟨_, _, _, _, _, At⟩) (aw (we At) (aw (we At) (aw (we At) (aw (we At) (Cv))))) An (⟨_, _, ⟨none, 0, none, 0, 0, At⟩, At⟩) fun T0x hT0x => ⟨AA, trivial, ?_⟩)))
    obtain ⟨T1, hT, rfl⟩ := hT0x
    refine CK At An (CQ (fun k => Nat.beq k 6) D0 (A4 At At (fun _ => Aw At) trivial (BQ (j := 1) At At At (fun H i hi => A0 (i := i) EG At hi At) AA trivial (A4 At At (fun _ => Aw At) trivial ?_))))
    obtain ⟨x1, hx1⟩ := BP (l := (Cu (BJ.mk BG BD BE BF BH BI thm) t).2) (i := 1) Ar
    refine A4 At At (fun _ => BL By At At Ar (CH hx1) (Bj _)) trivial (A4 At At (fun _ => Bi BO At (Bj _)) trivial (A4 At At (fun _ => Aw At) trivial (F4 [_, _] [] At At At (.inl ⟨At, At, At⟩) (ih (Bw (BJ.mk BG BD BE BF BH BI thm) n C x sg) x1 sg _ (by have := (h2.arg (e2 ▸ hx1)).2; omega) (h2.arg (e2 ▸ hx1)).1 (by have := (h2.arg (e2 ▸ hx1)).2; omega) (Dh n _ _ _ h4) (Fp n _ _ _ h5 (h2.arg (e2 ▸ hx)).1 (by have := (h2.arg (e2 ▸ hx)).2; omega)) h6 hT) (aw (we At) (aw (we At) (aw (we At) (aw (we At) (Cv))))) An (⟨_, _, ⟨none, 0, none, 0, 0, At⟩, At⟩) fun T0x hT0x => ⟨AA, trivial, ?_⟩)))
    obtain ⟨T2, hT1, rfl⟩ := hT0x
    refine CK At An ⟨At, _, _, At, (Gj [2] [_, _, _] At), ?_⟩
    exact ⟨At, _, by rw [HI Ar Ao hx hx1]; exact hT1, rfl⟩
   ·(try simp only [sd, se] at c2)
    refine Ax (Av (Au At At (BA At At At) (Au At At (Ay At) (Az At (A9 At (fun c3 => ?_) (fun c3 => ?_))))))
    ·(try simp only [sd, se] at c3)
     have hl := (Gc (th := (BJ.mk BG BD BE BF BH BI thm)) (t := t)).2 c3
     have e2 := Gt (th := (BJ.mk BG BD BE BF BH BI thm)) (t := t) (by rw [c3]; decide) (by rw [c3]; decide)
     refine CQ (fun k => Nat.beq k 7) D0 (A4 At At (fun _ => Aw At) trivial (BQ (j := 1) At At At (fun H i hi => A0 (i := i) EG At hi At) AA trivial (A4 At At (fun _ => Aw At) trivial ?_)))
     obtain ⟨x, hx⟩ := BP (l := (Cu (BJ.mk BG BD BE BF BH BI thm) t).2) (i := 0) Ar
     refine A4 At At (fun _ => BL By At At Ar (CH hx) (Bj _)) trivial (A4 At At (fun _ => Bi BO At (Bj _)) trivial (A4 At At (fun _ => Aw At) trivial (A4 At At (fun _ => K0 At) trivial (F4 [_, _] [] At At At (.inl ⟨At, At, At⟩) (ih C x (wr (0 - sg)) _ (by have := (h2.arg (e2 ▸ hx)).2; omega) (h2.arg (e2 ▸ hx)).1 (by have := (h2.arg (e2 ▸ hx)).2; omega) h4 h5 (Nv _) ⟨_, _, _, _, _, At⟩) (aw (we At) (aw (we At) (aw (we At) (aw (we At) (Cv))))) An (⟨_, _, ⟨none, 0, none, 0, 0, At⟩, At⟩) fun T0x hT0x => ⟨AA, trivial, ?_⟩))))
     obtain ⟨T1, hT, rfl⟩ := hT0x
     refine CK At An ⟨At, _, _, At, (Gj [2] [_, _, _] At), ?_⟩
     exact ⟨At, _, by rw [HM Ar Ao hx]; exact hT, rfl⟩
    ·(try simp only [sd, se] at c3)
     refine Ax (Av (Au At At (BA At At At) (Au At At (Ay At) (Az At (A9 At (fun c4 => ?_) (fun c4 => ?_))))))
     ·(try simp only [sd, se] at c4)
      refine Ax (Av (Au At At (Aw At) (Au At At (Bd At) (Au At At (A1 HL At At) (Au At At (A2 (i := 3) De At At At) (Au At At (D7 At At) (Au At At (Bd At) (Au At At (A1 HL At At) (Au At At (Bk (i := 3) De At At At At At At) (Az At (Ax ?_)))))))))))
      refine Av (Au At At (Aw At) (Au At At (A0 (i := 0) BO At At Ak) ?_))
      obtain ⟨ix, hix⟩ : ∃ ix, ix = Cl (OT (⟨C.coefs, C.atoms, wr (C.all + 1)⟩ : FQ) t).atoms t := ⟨_, rfl⟩
      refine GD [_, _] At At At (.inl ⟨At, At, At⟩) (cj hG (C := (⟨C.coefs, C.atoms, wr (C.all + 1)⟩ : FQ)) hix h2 h3 (fun a ha => h5 a ha) h4.len h4.lt ⟨_, _, _, _, _, At⟩) (aw (we At) (aw (we At) (Cv))) fun T0x hT0x => ?_
      obtain ⟨T1, hT, rfl⟩ := hT0x
      obtain ⟨o1, cp1, o2, cp2, m1, rfl⟩ := hT
      have hixl := Yw (C := (⟨C.coefs, C.atoms, wr (C.all + 1)⟩ : FQ)) (t := t) h4.len
      rw [← hix] at hixl
      refine Au At At (Ay At) (Az At (Av (Au At At (Aw At) (Au At At (Bd At) (Au At At (A1 HL At At) (Au At At (A2 (i := 3) Nq At At At) (Au At At (Aw At) (Pk (i := 4) At Af fun b hb => ?_))))))))
      subst hb
      refine Au At At (Df D9 At At Ar AH) ?_
      obtain ⟨y, hy⟩ := BP (l := (OT (⟨C.coefs, C.atoms, wr (C.all + 1)⟩ : FQ) t).coefs) (i := ix) AQ
      refine Au At At (KQ (i := 4) De At At (Ds hy)) (Au At At (Aw At) (Au At At (D7 At At) (Au At At (Df D9 At At Ar AH) (Au At At (Fy (i := 4) (j := ix) De At At At AK At At At At (V0 (f := Cf) ((OT (⟨C.coefs, C.atoms, wr (C.all + 1)⟩ : FQ) t).coefs) ix (wr ((y : Int) + (sg : Int))))) (Az At ⟨At, _, _, At, (Cj (is := [2, 3, 4, 5, 6]) At), ?_⟩)))))
      refine ⟨At, [.box c [.vs (some b) (List.map Cf ((OT (⟨C.coefs, C.atoms, wr (C.all + 1)⟩ : FQ) t).coefs)).length cp1, .vs o2 (BR ((OT (⟨C.coefs, C.atoms, wr (C.all + 1)⟩ : FQ) t).atoms)).length cp2, .map m1, .p (I ((OT (⟨C.coefs, C.atoms, wr (C.all + 1)⟩ : FQ) t).all))], .vec (some b) 1 (List.map Cf (((OT (⟨C.coefs, C.atoms, wr (C.all + 1)⟩ : FQ) t).coefs).set ix (wr ((y : Int) + (sg : Int))))) cp1, .vec o2 5 (BR ((OT (⟨C.coefs, C.atoms, wr (C.all + 1)⟩ : FQ) t).atoms)) cp2, .map m1 (Du (FR 0 (OT (⟨C.coefs, C.atoms, wr (C.all + 1)⟩ : FQ) t).atoms))], ?_, At⟩
      rw [E2 Ar Ao, ← X5 h4.len h6 hix hy]
      exact ⟨(some b), cp1, o2, cp2, m1, by simp only [List.length_map, List.length_set, Bo]⟩
     ·(try simp only [sd, se] at c4)
      refine BC ⟨At, _, _, At, (Cj (is := [2, 3, 4, 5, 6]) At), ?_⟩
      exact ⟨At, _, by rw [Gg Ar (by have := Sb (BJ.mk BG BD BE BF BH BI thm) t; omega)]; exact ⟨_, _, _, _, _, rfl⟩, rfl⟩
theorem Xn : ∀ (GL : List (Nat × Obj)) (th : BJ) (t : Tm) (hG : Gl GL), (ER t) → (size t < 1000000) → ((CP th t).all > 200) → Bt Tryz.prog 45 [.agg ((EE th).map .p), .agg ((Be t).map .p)] [.glob GL] (fun x H' => x = .val (.tup [.nilp, .p (I 5)]) ∧ H' = [.glob GL]) := by
 intro GL th t hG h1 h2 h3
 obtain ⟨BG, BD, BE, BF, BH, BI, thm⟩ := th
 refine A8 Tryz.func45 At aL (n := 20) At At (Ax (Av (BM At At (Bh At) fun b2 => BM At At (Bh At) fun b3 => Au At At (Ay At) (Au At At (Ay At) (Az At (Ax (Av (V1 At At MQ fun m7 => Au At At (Br HL bC At) ?_))))))))
 refine BM At At (Bh At) fun b9 => Au At At (Ay At) (Az At (Ax (Av (C4 (Fj (i := 0) At (Zv (aw (Fm) (aw (we At) (aw (we At) (aw (we At) (Cv))))))) (C4 (GJ (sz := 1)) (C4 (Fj (i := 1) At (Zv (aw (we At) (aw (Fm) (aw (we At) (aw (we At) (Cv))))))) (C4 (GJ (sz := 5)) (GB ((Cx (is := [6, 2, 1, 0, 3]) Aq ⟨_, _, At, At, ⟨_, _, At, At, ⟨_, _, At, At, ⟨_, _, At, At, ⟨_, _, At, At, At⟩⟩⟩⟩⟩).trans List.perm_append_comm) (Au At At (Aw At) (Au At At (A0 (i := 1) EG At At At) ?_))))))))))
 refine Au At At (A0 (i := 0) BO At At Ak) ?_
 refine GD [_, _] At At At (.inl ⟨At, At, At⟩) (NG GL hG (BJ.mk BG BD BE BF BH BI thm) b9 (size t) ⟨[], [], 0⟩ t 1 _ (Nat.le_refl _) h1 h2 Fx LA ⟨by decide, by decide⟩ ⟨_, _, _, _, _, rfl⟩) (aw (we rfl) (aw (we rfl) (aw (we rfl) (aw (we rfl) (Cv))))) fun T0x hT0x => ?_
 obtain ⟨T, hT, rfl⟩ := hT0x
 refine Az At (Ax (Ax (Av ?_)))
 change Oi b9 (CP (BJ.mk BG BD BE BF BH BI thm) t) _ at hT
 obtain ⟨o, cp, o1, cp1, m, rfl⟩ := hT
 refine Au At At (Aw At) (Au At At (Bd At) (Au At At (A1 HL At At) (Au At At (A2 (i := 3) De At At At) (Au At At (BA At At At) (Az At (A9 At (fun c => ?_) (fun c => ?_)))))))
 ·(try simp only [sd, se] at c)
  refine Ax (Av (Au At At (Ay At) (Au At At (Ay At) (Az At (BB (⟨At, _, _, ⟨_, _, At, At, ⟨_, _, At, At, At⟩⟩, (Cj (is := [2]) At), ?_⟩))))))
  exact ⟨At, At⟩
 ·(try simp only [sd, se] at c)
  exact absurd h3 Ar
theorem S5 : ∀ (GL : List (Nat × Obj)) (th : BJ) (t : Tm) (hG : Gl GL), (ER t) → (size t < 1000000) → (¬ (CP th t).all > 200) → Bt Tryz.prog 45 [.agg ((EE th).map .p), .agg ((Be t).map .p)] [.glob GL] (fun x H' => ∃ b T, x = .val (.tup [.ptr b 0, .p (I 0)]) ∧ Oi b (CP th t) T ∧ H' = .glob GL :: T) := by
 intro GL th t hG h1 h2 h3
 obtain ⟨BG, BD, BE, BF, BH, BI, thm⟩ := th
 refine A8 Tryz.func45 At aL (n := 20) At At (Ax (Av (BM At At (Bh At) fun b2 => BM At At (Bh At) fun b3 => Au At At (Ay At) (Au At At (Ay At) (Az At (Ax (Av (V1 At At MQ fun m7 => Au At At (Br HL bC At) ?_))))))))
 refine BM At At (Bh At) fun b9 => Au At At (Ay At) (Az At (Ax (Av (C4 (Fj (i := 0) At (Zv (aw (Fm) (aw (we At) (aw (we At) (aw (we At) (Cv))))))) (C4 (GJ (sz := 1)) (C4 (Fj (i := 1) At (Zv (aw (we At) (aw (Fm) (aw (we At) (aw (we At) (Cv))))))) (C4 (GJ (sz := 5)) (GB ((Cx (is := [6, 2, 1, 0, 3]) Aq ⟨_, _, At, At, ⟨_, _, At, At, ⟨_, _, At, At, ⟨_, _, At, At, ⟨_, _, At, At, At⟩⟩⟩⟩⟩).trans List.perm_append_comm) (Au At At (Aw At) (Au At At (A0 (i := 1) EG At At At) ?_))))))))))
 refine Au At At (A0 (i := 0) BO At At Ak) ?_
 refine GD [_, _] At At At (.inl ⟨At, At, At⟩) (NG GL hG (BJ.mk BG BD BE BF BH BI thm) b9 (size t) ⟨[], [], 0⟩ t 1 _ (Nat.le_refl _) h1 h2 Fx LA ⟨by decide, by decide⟩ ⟨_, _, _, _, _, rfl⟩) (aw (we rfl) (aw (we rfl) (aw (we rfl) (aw (we rfl) (Cv))))) fun T0x hT0x => ?_
 obtain ⟨T, hT, rfl⟩ := hT0x
 refine Az At (Ax (Ax (Av ?_)))
 change Oi b9 (CP (BJ.mk BG BD BE BF BH BI thm) t) _ at hT
 obtain ⟨o, cp, o1, cp1, m, rfl⟩ := hT
 refine Au At At (Aw At) (Au At At (Bd At) (Au At At (A1 HL At At) (Au At At (A2 (i := 3) De At At At) (Au At At (BA At At At) (Az At (A9 At (fun c => ?_) (fun c => ?_)))))))
 ·(try simp only [sd, se] at c)
  exact absurd c Ar
 ·(try simp only [sd, se] at c)
  refine BC (Ax (Av (Au At At (Aw At) (Au At At (Ay At) (Au At At (Ay At) (Az At (BB (⟨At, _, _, ⟨_, _, At, At, ⟨_, _, At, At, At⟩⟩, (Cj (is := [2, 3, 4, 5, 6]) At), ?_⟩))))))))
  exact ⟨_, _, At, ⟨_, _, _, _, _, At⟩, At⟩
theorem VJ : ∀ (GL : List (Nat × Obj)) (th : BJ) (t : Tm) (hG : Gl GL), (ER t) → (size t < 1000000) → ((CP th t).all > 200) → Bt Tryz.prog 19 [.agg ((EE th).map .p), .agg ((Be t).map .p)] [.glob GL] (DC (.tup [.p (.lst (List.map Cf ((B5 th t).1))), .p (.lst (BR ((B5 th t).2.1))), .p (I ((B5 th t).2.2))]) [.glob GL]) := by
 intro GL th t hG h1 h2 h3
 obtain ⟨BG, BD, BE, BF, BH, BI, thm⟩ := th
 refine A8 Tryz.func19 At ad (n := 26) At At (Ax (Av (BM At At (Bh At) fun b2 => BM At At (Bh At) fun b3 => Au At At (Ay At) (Au At At (Ay At) (Au At At (Ay At) (Az At (Ax (Av (Au At At (A0 (i := 1) EG At At At) ?_)))))))))
 refine Au At At (A0 (i := 0) BO At At Ak) ?_
 refine Vv [2] At At At (.inl ⟨At, At, At⟩) (Xn GL (BJ.mk BG BD BE BF BH BI thm) t hG h1 h2 h3) ⟨_, _, At, At, At⟩ Aq (aw (we At) (aw (we At) Cv)) (fun v T' h => ?_) (fun v T' h => by cases h.1)
 obtain ⟨e, rfl⟩ := h
 cases e
 refine ⟨At, ?_⟩
 refine Au At At (Aw At) (Au At At (BY At At) (Au At At (BY At At) (Au At At (Ay At) (Au At At (Ay At) (Az At (Ax (Ax (Av (Au At At (Aw At) (Au At At (BA At At At) (Az At ?_)))))))))))
 refine A9 At (fun c => ?_) (fun c => by cases c)
 refine Ax (Av (Au At At (Aw At) (Au At At (Ay At) (Au At At (Ay At) (Au At At (Ay At) (Az At (CG (Ef 4) (CG (Ef 5) (BB (⟨At, _, _, ⟨_, _, At, At, ⟨_, _, At, At, ⟨_, _, At, At, At⟩⟩⟩, (Cj (is := [2]) At), ?_⟩))))))))))
 rw [IQ h3]
 all_goals exact ⟨rfl, rfl⟩
theorem V9 : ∀ (GL : List (Nat × Obj)) (th : BJ) (t : Tm) (hG : Gl GL), (ER t) → (size t < 1000000) → (¬ (CP th t).all > 200) → Bt Tryz.prog 19 [.agg ((EE th).map .p), .agg ((Be t).map .p)] [.glob GL] (DC (.tup [.p (.lst (List.map Cf ((B5 th t).1))), .p (.lst (BR ((B5 th t).2.1))), .p (I ((B5 th t).2.2))]) [.glob GL]) := by
 intro GL th t hG h1 h2 h3
 obtain ⟨BG, BD, BE, BF, BH, BI, thm⟩ := th
 refine A8 Tryz.func19 At ad (n := 26) At At (Ax (Av (BM At At (Bh At) fun b2 => BM At At (Bh At) fun b3 => Au At At (Ay At) (Au At At (Ay At) (Au At At (Ay At) (Az At (Ax (Av (Au At At (A0 (i := 1) EG At At At) ?_)))))))))
 refine Au At At (A0 (i := 0) BO At At Ak) ?_
 refine Gk [_, _] At At At (.inl ⟨At, At, At⟩) (S5 GL (BJ.mk BG BD BE BF BH BI thm) t hG h1 h2 h3) (aw (we At) (aw (we At) Cv)) ?_ (fun _ _ ⟨_, _, h, _⟩ => by cases h)
 rintro _ _ ⟨b, T, h, hT, rfl⟩
 cases h
 obtain ⟨o, cp, o1, cp1, m, rfl⟩ := hT
 refine Au At At (Aw At) (Au At At (BY At At) (Au At At (BY At At) (Au At At (Ay At) (Au At At (Ay At) (Az At (Ax (Ax (Av (Au At At (Aw At) (Au At At (BA At At At) (Az At ?_)))))))))))
 refine A9 At (fun c => by cases c) (fun c => ?_)
 refine BC (Ax (CQ (fun k => false) D0 (A4 At At (fun _ => Aw At) trivial (A4 At At (fun _ => Bd At) trivial (A4 At At (fun _ => A1 HL At At) trivial (BQ (j := 3) At At At (fun H i hi => A2 (i := i) Nq At hi At) AA trivial (A4 At At (fun _ => Aw At) trivial (A4 At At (fun _ => Bd At) trivial (A4 At At (fun _ => A1 HL At At) trivial (BQ (j := 3) At At At (fun H i hi => A2 (i := i) DQ At hi At) AA trivial (A4 At At (fun _ => Ay At) trivial ?_)))))))))))
 refine A4 At At (fun _ => Ay At) trivial (A4 At At (fun _ => Ay At) trivial (CK At An (CG (Dn (i := 4) (j := 3) (q := 0) [4, 21] At At At (ID ⟨At, At, trivial⟩)) (CG (Dn (i := 4) (j := 3) (q := 1) [5, 25] At At At (ID ⟨At, At, trivial⟩)) (BB (⟨At, _, _, ⟨_, _, At, At, ⟨_, _, At, At, ⟨_, _, At, At, At⟩⟩⟩, (Cj (is := [2]) At), ?_⟩))))))
 rw [GQ h3]
 all_goals exact ⟨rfl, rfl⟩
theorem Io (GL : List (Nat × Obj)) (hG : Gl GL) (th : BJ) (t : Tm) (h1 : ER t) (h2 : size t < 1000000) : Bt Tryz.prog 19 [.agg ((EE th).map .p), TV t] [.glob GL] (DC (.tup [.p (.lst (List.map Cf (B5 th t).1)), .p (.lst (BR (B5 th t).2.1)), .p (I (B5 th t).2.2)]) [.glob GL]) := by
 by_cases h : (CP th t).all > 200
 ·exact VJ GL th t hG h1 h2 h
 ·exact V9 GL th t hG h1 h2 h
theorem OP : ∀ (p c : Nat) (BG BD BE BF BH BI : ByteArray) (thm : List ByteArray) (n : ByteArray) (t : Tm) (l : List Tm), (l.length < 1000) → Bt Tryz.prog 118 [.ptr p 0, .p (.str n), .agg ((Be t).map .p), .p (.lst (BR l))] [.box p [.p (.str BG), .p (.str BD), .p (.str BE), .p (.str BF), .p (.str BH), .p (.str BI), .p (.lst (List.map Ch thm)), .ptr c 0]] (DC (.agg ((Be (HO n t l)).map .p)) [.box p [.p (.str BG), .p (.str BD), .p (.str BE), .p (.str BF), .p (.str BH), .p (.str BI), .p (.lst (List.map Ch thm)), .ptr c 0]]) := by
 intro p c BG BD BE BF BH BI thm n t l h1
 refine A8 Tryz.func118 At cU (n := 20) At At (Ax (Av (BM At At (Bh At) fun b6 => BM At At (BK B7 At) fun b8 => Az At (Ax (Av (Au At At (Aw At) (Au At At (Br D8 Gw At) (Au At At (CO Hr Gw At At At At At) (Au At At (Br CX B7 At) ?_)))))))))
 refine BM At At (BK B7 At) fun b9 => Au At At (Bk (i := 0) BO At At At At At At) (Az At (Ax (CQ (fun k => Nat.beq k 2) D0 (BQ (j := 0) At At At (fun H i hi => A0 (i := i) BO At hi At) AA trivial (BQ (j := 2) At At At (fun H i hi => A0 (i := i) BO At hi Ak) AA trivial (Zf [(3, .free (.p (.lst (BR l))))] At At (EZ (rows := BR [t]) By B7 At At At At (Bz (CC _)) (C1 _)) An fun b16 cp => ⟨AA, trivial, ?_⟩))))))
 refine A4 At At (fun _ => Aw At) AM (Cr At At (FI (i := 0) (rows' := BR l) By By B7 At At At At At At (CC _) AE (Lg [t] l)) AA AM (A4 At At (fun _ => DA At At (LY (.mk 3 0 n ([(FC.mk 0 [])]) [] : Tm) ([t] ++ l) (by simp only [List.length_append, List.length_cons, List.length_nil, EC]; omega)) (aw (Cq At) (aw (we At) (Cv)))) AM (Cr At At (A6 (i := 1) BO At At At Ak Ac (CF _)) AA AM (CK At An (BB (⟨At, _, _, ⟨_, _, At, (Bn (i := 1) BO At At Ak), At⟩, (Cj (is := [3]) At), ?_⟩))))))
 all_goals exact ⟨rfl, rfl⟩
theorem Il : ∀ (p c : Nat) (BG BD BE BF BH BI : ByteArray) (thm : List ByteArray), Bt Tryz.prog 119 [.ptr p 0] [.box p [.p (.str BG), .p (.str BD), .p (.str BE), .p (.str BF), .p (.str BH), .p (.str BI), .p (.lst (List.map Ch thm)), .ptr c 0]] (DC (.agg ((Be (DO (BJ.mk BG BD BE BF BH BI thm))).map .p)) [.box p [.p (.str BG), .p (.str BD), .p (.str BE), .p (.str BF), .p (.str BH), .p (.str BI), .p (.lst (List.map Ch thm)), .ptr c 0]]) := by
 intro p c BG BD BE BF BH BI thm
 refine A8 Tryz.func119 At bM (n := 9) At At (Ax (Av (BM At At (BK B7 At) fun b2 => Az At (Ax (Av (Au At At (Aw At) (Au At At (Bd At) (Au At At (A1 Hi At At) (Au At At (A1 DU At At) (Au At At (A2 (i := 1) FU At At At) ?_))))))))))
 refine Au At At (DA At At (EL BG [] AN) (aw (we At) (aw (Cq At) (Cv)))) (Au At At (A6 (i := 0) BO At At At Ak Ac (CF _)) (Az At (BB (⟨At, _, _, ⟨_, _, At, (Bn (i := 0) BO At At Ak), At⟩, (Cj (is := [1]) At), ?_⟩))))
 all_goals exact ⟨rfl, rfl⟩
theorem SO : ∀ (p c : Nat) (BG BD BE BF BH BI : ByteArray) (thm : List ByteArray) (to : Tm), Bt Tryz.prog 128 [.ptr p 0, .agg ((Be to).map .p)] [.box p [.p (.str BG), .p (.str BD), .p (.str BE), .p (.str BF), .p (.str BH), .p (.str BI), .p (.lst (List.map Ch thm)), .ptr c 0]] (DC (.agg ((Be (EJ (BJ.mk BG BD BE BF BH BI thm) to)).map .p)) [.box p [.p (.str BG), .p (.str BD), .p (.str BE), .p (.str BF), .p (.str BH), .p (.str BI), .p (.lst (List.map Ch thm)), .ptr c 0]]) := by
 intro p c BG BD BE BF BH BI thm to
 refine A8 Tryz.func128 At a6 (n := 10) At At (Ax (Av (BM At At (Bh At) fun b3 => BM At At (BK B7 At) fun b4 => Az At (Ax (CQ (fun k => false) D0 (A4 At At (fun _ => Aw At) trivial (CD [2] At At At (.inl ⟨At, At, At⟩) (Il p c BG BD BE BF BH BI thm) ⟨_, _, At, At, At⟩ (Cp _) (aw (we At) (Cv)) AA trivial (BQ (j := 1) At At At (fun H i hi => A0 (i := i) BO At hi Ak) AA trivial (A4 At At (fun _ => BU (rows := BR [(DO (BJ.mk BG BD BE BF BH BI thm)), to]) By B7 At At At At (Bz (CC _)) (C1 _)) trivial ?_)))))))))
 refine A4 At At (fun _ => Br CX B7 At) trivial (Cr At At (Bk (i := 0) BO At At At At At At) AA trivial (CK At An (CG (C9 (i := 0) At) (BB (⟨At, _, _, ⟨_, _, At, (Bn (i := 0) BO At At At), At⟩, (Cj (is := [2]) At), ?_⟩)))))
 all_goals exact ⟨rfl, rfl⟩
theorem ES : ∀ (p c : Nat) (BG BD BE BF BH BI : ByteArray) (thm : List ByteArray) (a b : Tm), Bt Tryz.prog 121 [.ptr p 0, .agg ((Be a).map .p), .agg ((Be b).map .p)] [.box p [.p (.str BG), .p (.str BD), .p (.str BE), .p (.str BF), .p (.str BH), .p (.str BI), .p (.lst (List.map Ch thm)), .ptr c 0]] (DC (.agg ((Be (CW (BJ.mk BG BD BE BF BH BI thm) a b)).map .p)) [.box p [.p (.str BG), .p (.str BD), .p (.str BE), .p (.str BF), .p (.str BH), .p (.str BI), .p (.lst (List.map Ch thm)), .ptr c 0]]) := by
 intro p c BG BD BE BF BH BI thm a b
 refine A8 Tryz.func121 At a7 (n := 16) At At (Ax (Av (BM At At (Bh At) fun b4 => BM At At (Bh At) fun b5 => BM At At (BK B7 At) fun b6 => Az At (Ax (CQ (fun k => false) D0 (A4 At At (fun _ => Aw At) trivial (A4 At At (fun _ => Bd At) trivial (A4 At At (fun _ => A1 Hi At At) trivial ?_))))))))
 refine A4 At At (fun _ => A1 DU At At) trivial (BQ (j := 3) At At At (fun H i hi => A2 (i := i) FU At hi At) AA trivial (BQ (j := 2) At At At (fun H i hi => A0 (i := i) BO At hi Ak) AA trivial (BQ (j := 1) At At At (fun H i hi => A0 (i := i) BO At hi Ak) AA trivial (A4 At At (fun _ => BU (rows := BR [a, b]) By B7 At At At At (Bz (CC _)) (C1 _)) trivial (A4 At At (fun _ => Bg At At (EL BD [a, b] AN) At) trivial (Cr At At (A6 (i := 0) BO At At At Ak Ac (CF _)) AA trivial (CK At An (BB (⟨At, _, _, ⟨_, _, At, (Bn (i := 0) BO At At Ak), At⟩, (Cj (is := [3]) At), ?_⟩)))))))))
 all_goals exact ⟨rfl, rfl⟩
theorem HA : ∀ (p c : Nat) (BG BD BE BF BH BI : ByteArray) (thm : List ByteArray) (a : Tm), Bt Tryz.prog 130 [.ptr p 0, .agg ((Be a).map .p)] [.box p [.p (.str BG), .p (.str BD), .p (.str BE), .p (.str BF), .p (.str BH), .p (.str BI), .p (.lst (List.map Ch thm)), .ptr c 0]] (DC (.agg ((Be (Ck (BJ.mk BG BD BE BF BH BI thm) a)).map .p)) [.box p [.p (.str BG), .p (.str BD), .p (.str BE), .p (.str BF), .p (.str BH), .p (.str BI), .p (.lst (List.map Ch thm)), .ptr c 0]]) := by
 intro p c BG BD BE BF BH BI thm a
 refine A8 Tryz.func130 At aq (n := 13) At At (Ax (Av (BM At At (Bh At) fun b3 => BM At At (BK B7 At) fun b4 => Az At (Ax (CQ (fun k => false) D0 (A4 At At (fun _ => Aw At) trivial (A4 At At (fun _ => Bd At) trivial (A4 At At (fun _ => A1 Hi At At) trivial (A4 At At (fun _ => A1 DU At At) trivial ?_)))))))))
 refine BQ (j := 2) At At At (fun H i hi => A2 (i := i) FU At hi At) AA trivial (BQ (j := 1) At At At (fun H i hi => A0 (i := i) BO At hi Ak) AA trivial (A4 At At (fun _ => BU (rows := BR [a]) By B7 At At At At (Bz (CC _)) (C1 _)) trivial (A4 At At (fun _ => Bg At At (EL BF [a] AN) At) trivial (Cr At At (A6 (i := 0) BO At At At Ak Ac (CF _)) AA trivial (CK At An (BB (⟨At, _, _, ⟨_, _, At, (Bn (i := 0) BO At At Ak), At⟩, (Cj (is := [2]) At), ?_⟩)))))))
 all_goals exact ⟨rfl, rfl⟩
theorem _root_.Go.Ab {α : Prop} (h : α := by first | rfl | simp [J7]) : α := h
theorem _root_.Go.Aj {α : Prop} (h : α := by simp [J7]) : α := h
theorem _root_.Go.AR {α : Prop} (h : α := by simp only [List.length_cons, List.length_nil]; omega) : α := h
theorem J0 : ∀ (p c : Nat) (BG BD BE BF BH BI : ByteArray) (thm : List ByteArray) (t : Tm), Bt Tryz.prog 90 [.ptr p 0, .agg ((Be t).map .p)] [.box p [.p (.str BG), .p (.str BD), .p (.str BE), .p (.str BF), .p (.str BH), .p (.str BI), .p (.lst (List.map Ch thm)), .ptr c 0]] (DC (.agg ((CJ (DW (BJ.mk BG BD BE BF BH BI thm) t)).map .p)) [.box p [.p (.str BG), .p (.str BD), .p (.str BE), .p (.str BF), .p (.str BH), .p (.str BI), .p (.lst (List.map Ch thm)), .ptr c 0]]) := by
 intro p c BG BD BE BF BH BI thm t
 refine A8 Tryz.func90 At eh (n := 14) At At (Ax (Av (BM At At (Bh At) fun b3 => BM At At (BK Dp At) fun b4 => Az At (Ax (CQ (fun k => false) D0 (BQ (j := 1) At At At (fun H i hi => A0 (i := i) BO At hi Ak) AA trivial (BQ (j := 1) At At At (fun H i hi => A0 (i := i) BO At hi Ak) AA trivial (A4 At At (fun _ => Aw At) trivial (A4 At At (fun _ => Aw At) trivial ?_)))))))))
 refine CD [2] At At At (.inl ⟨At, At, At⟩) (Il p c BG BD BE BF BH BI thm) ⟨_, _, At, At, At⟩ (Cp _) (aw (we At) (Cv)) AA trivial (BQ (j := 1) At At At (fun H i hi => A0 (i := i) BO At hi Ak) AA trivial (A4 At At (fun _ => BU (rows := BR [t]) By B7 At At At At (Bz (CC _)) (C1 _)) trivial (CD [2] At At At (.inl ⟨At, At, At⟩) (OP p c BG BD BE BF BH BI thm ⟨#[69, 113, 46, 114, 101, 102, 108]⟩ (DO (BJ.mk BG BD BE BF BH BI thm)) [t] AR) ⟨_, _, At, At, At⟩ (Cp _) (aw (we At) (aw (we At) (aw (we At) (aw (we At) (Cv))))) AA trivial (A4 At At (fun _ => Br Es Dp (gV (l := t) (r := t) (q := (HO ⟨#[69, 113, 46, 114, 101, 102, 108]⟩ (DO (BJ.mk BG BD BE BF BH BI thm)) [t])) At At At At At)) trivial ?_))))
 refine Cr At At (A6 (i := 0) Co At At At Aj Ab (Cb _)) AA trivial (CK At An (BB (⟨At, _, _, ⟨_, _, At, (Bn (i := 0) Co At At Aj), At⟩, (Cj (is := [2]) At), ?_⟩)))
 all_goals exact ⟨rfl, rfl⟩
theorem Jj : ∀ (p c : Nat) (BG BD BE BF BH BI : ByteArray) (thm : List ByteArray) (n : Int) (l r : Tm) (s : List Tm), (0 ≤ n ∧ n.toNat < thm.length) → (s.length < 1000) → Bt Tryz.prog 120 [.ptr p 0, .p (I n), .agg ((Be l).map .p), .agg ((Be r).map .p), .p (.lst (BR s))] [.box p [.p (.str BG), .p (.str BD), .p (.str BE), .p (.str BF), .p (.str BH), .p (.str BI), .p (.lst (List.map Ch thm)), .ptr c 0]] (DC (.agg ((CJ (Eh (BJ.mk BG BD BE BF BH BI thm) n l r s)).map .p)) [.box p [.p (.str BG), .p (.str BD), .p (.str BE), .p (.str BF), .p (.str BH), .p (.str BI), .p (.lst (List.map Ch thm)), .ptr c 0]]) := by
 intro p c BG BD BE BF BH BI thm n l r s h1 h2
 refine A8 Tryz.func120 At cH (n := 24) At At (Ax (Av (BM At At (Bh At) fun b7 => BM At At (Bh At) fun b8 => BM At At (BK Dp At) fun b10 => Az At (Ax (CQ (fun k => false) D0 (BQ (j := 2) At At At (fun H i hi => A0 (i := i) BO At hi Ak) AA trivial (BQ (j := 1) At At At (fun H i hi => A0 (i := i) BO At hi Ak) AA trivial (A4 At At (fun _ => Aw At) trivial ?_))))))))
 refine A4 At At (fun _ => Bd At) trivial (A4 At At (fun _ => A1 Hi At At) trivial (A4 At At (fun _ => A1 DU At At) trivial (BQ (j := 3) At At At (fun H i hi => A2 (i := i) Uh At hi At) AA trivial (A4 At At (fun _ => Aw At) trivial ?_))))
 obtain ⟨x, hx⟩ := BP (l := thm) (i := (n : Int).toNat) Ar
 refine A4 At At (fun _ => BL Kf At At Ar (Ni hx) (At)) trivial (A4 At At (fun _ => CI FU At) trivial (A4 At At (fun _ => Aw At) trivial (A4 At At (fun _ => Bg At At (EL x s Ag) At) trivial (A4 At At (fun _ => Br Es Dp (cN (l := l) (r := r) (q := (BS x s)) At At At At At)) trivial (Cr At At (A6 (i := 0) Co At At At Aj Ab (Cb _)) AA trivial (CK At An (BB (⟨At, _, _, ⟨_, _, At, (Bn (i := 0) Co At At Aj), At⟩, (Cj (is := [3]) At), ?_⟩))))))))
 all_goals exact ⟨by show (.agg ((CJ (GF.mk l r (BS x s) false)).map .p) : AV) = _; simp only [Eh]; rw [Cs hx], rfl⟩
theorem Sd : ∀ (p c : Nat) (BG BD BE BF BH BI : ByteArray) (thm : List ByteArray) (e : GF), Bt Tryz.prog 82 [.ptr p 0, .agg ((CJ e).map .p)] [.box p [.p (.str BG), .p (.str BD), .p (.str BE), .p (.str BF), .p (.str BH), .p (.str BI), .p (.lst (List.map Ch thm)), .ptr c 0]] (DC (.agg ((CJ (GG (BJ.mk BG BD BE BF BH BI thm) e)).map .p)) [.box p [.p (.str BG), .p (.str BD), .p (.str BE), .p (.str BF), .p (.str BH), .p (.str BI), .p (.lst (List.map Ch thm)), .ptr c 0]]) := by
 intro p c BG BD BE BF BH BI thm e
 refine A8 Tryz.func82 At dS (n := 24) At At (Ax (Av (BM At At (Bh At) fun b3 => BM At At (BK Dp At) fun b4 => Az At (Ax (Ax (Av (Au At At (A1 Es At At) (Au At At (A2 (i := 1) Wm At At (K8 _)) (Az At ?_)))))))))
 refine A9 At (fun c1 => ?_) (fun c1 => ?_)
 ·(try simp only [sd, se] at c1)
  refine Ax (Av (Au At At (A0 (i := 1) Co At At Aj) (Au At At (A6 (i := 0) Co At At At Aj Ab (Cb _)) (Az At (BB (⟨At, _, _, ⟨_, _, At, (Bn (i := 0) Co At At Aj), At⟩, (Cj (is := [2]) At), ?_⟩))))))
  rw [GG, if_pos c1]
  all_goals exact ⟨rfl, rfl⟩
 ·(try simp only [sd, se] at c1)
  refine BC (Ax (CQ (fun k => false) D0 (A4 At At (fun _ => A1 Es At At) trivial (BQ (j := 1) At At At (fun H i hi => B1 (i := i) BO At hi (E1 _) (congrArg AV.agg (eq_right _))) AA trivial (A4 At At (fun _ => A1 Es At At) trivial (BQ (j := 1) At At At (fun H i hi => B1 (i := i) BO At hi (FE _) (congrArg AV.agg (eq_left _))) AA trivial (A4 At At (fun _ => Aw At) trivial (A4 At At (fun _ => Aw At) trivial (CD [2] At At At (.inl ⟨At, At, At⟩) (Il p c BG BD BE BF BH BI thm) ⟨_, _, At, At, At⟩ (Cp _) (aw (we At) (Cv)) AA trivial (A4 At At (fun _ => A1 Es At At) trivial (BQ (j := 1) At At At (fun H i hi => B1 (i := i) BO At hi (FE _) (congrArg AV.agg (eq_left _))) AA trivial ?_)))))))))))
  refine A4 At At (fun _ => A1 Es At At) trivial (BQ (j := 1) At At At (fun H i hi => B1 (i := i) BO At hi (E1 _) (congrArg AV.agg (eq_right _))) AA trivial (A4 At At (fun _ => A1 Es At At) trivial (BQ (j := 1) At At At (fun H i hi => B1 (i := i) BO At hi (KA _) (congrArg AV.agg (Jk _))) AA trivial (A4 At At (fun _ => BU (rows := BR [e.left, e.right, e.proof]) By B7 At At At At (Bz (CC _)) (C1 _)) trivial (CD [2] At At At (.inl ⟨At, At, At⟩) (OP p c BG BD BE BF BH BI thm ⟨#[69, 113, 46, 115, 121, 109, 109]⟩ (DO (BJ.mk BG BD BE BF BH BI thm)) [e.left, e.right, e.proof] AR) ⟨_, _, At, At, At⟩ (Cp _) (aw (we At) (aw (we At) (aw (we At) (aw (we At) (Cv))))) AA trivial ?_)))))
  refine A4 At At (fun _ => Br Es Dp (cN (l := e.right) (r := e.left) (q := (HO ⟨#[69, 113, 46, 115, 121, 109, 109]⟩ (DO (BJ.mk BG BD BE BF BH BI thm)) [e.left, e.right, e.proof])) At At At At At)) trivial (Cr At At (A6 (i := 0) Co At At At Aj Ab (Cb _)) AA trivial (CK At An (BB (⟨At, _, _, ⟨_, _, At, (Bn (i := 0) Co At At Aj), At⟩, (Cj (is := [2]) At), ?_⟩))))
  rw [GG, if_neg (by rw [c1]; decide)]
  all_goals exact ⟨rfl, rfl⟩
theorem Na : ∀ (p c : Nat) (BG BD BE BF BH BI : ByteArray) (thm : List ByteArray) (to f g : Tm) (e : GF) (fs : Tm), Bt Tryz.prog 129 [.ptr p 0, .agg ((Be to).map .p), .agg ((Be f).map .p), .agg ((Be g).map .p), .agg ((CJ e).map .p), .agg ((Be fs).map .p)] [.box p [.p (.str BG), .p (.str BD), .p (.str BE), .p (.str BF), .p (.str BH), .p (.str BI), .p (.lst (List.map Ch thm)), .ptr c 0]] (DC (.agg ((Be (GN (BJ.mk BG BD BE BF BH BI thm) to f g e fs)).map .p)) [.box p [.p (.str BG), .p (.str BD), .p (.str BE), .p (.str BF), .p (.str BH), .p (.str BI), .p (.lst (List.map Ch thm)), .ptr c 0]]) := by
 intro p c BG BD BE BF BH BI thm to f g e fs
 refine A8 Tryz.func129 At cm (n := 33) At At (Ax (Av (BM At At (Bh At) fun b7 => BM At At (Bh At) fun b8 => BM At At (Bh At) fun b9 => BM At At (Bh At) fun b10 => BM At At (Bh At) fun b11 => BM At At (BK B7 At) fun b12 => Az At (Ax (Av ?_)))))
 refine Au At At (Br D8 Gw At) (Au At At (Br D8 Gw At) (Au At At (CO Hr Gw At At At At At) (Au At At (Br CX B7 At) (BM At At (BK B7 At) fun b13 => Au At At (Bk (i := 0) BO At At At At At At) (Az At (Ax (CQ (fun k => false) D0 (BQ (j := 0) At At At (fun H i hi => A0 (i := i) BO At hi At) AA trivial (A4 At At (fun _ => Aw At) trivial (CD [7] At At At (.inl ⟨At, At, At⟩) (Il p c BG BD BE BF BH BI thm) ⟨_, _, At, At, At⟩ (Cp _) (aw (we At) (Cv)) AA trivial ?_))))))))))
 refine BQ (j := 6) At At At (fun H i hi => A0 (i := i) BO At hi Ak) AA trivial (BQ (j := 5) At At At (fun H i hi => A0 (i := i) BO At hi Ak) AA trivial (BQ (j := 4) At At At (fun H i hi => A0 (i := i) BO At hi Ak) AA trivial (A4 At At (fun _ => A1 Es At At) trivial (BQ (j := 3) At At At (fun H i hi => B1 (i := i) BO At hi (FE _) (congrArg AV.agg (eq_left _))) AA trivial (A4 At At (fun _ => A1 Es At At) trivial (BQ (j := 3) At At At (fun H i hi => B1 (i := i) BO At hi (E1 _) (congrArg AV.agg (eq_right _))) AA trivial (BQ (j := 2) At At At (fun H i hi => A0 (i := i) BO At hi Ak) AA trivial (A4 At At (fun _ => A1 Es At At) trivial ?_))))))))
 refine BQ (j := 3) At At At (fun H i hi => B1 (i := i) BO At hi (KA _) (congrArg AV.agg (Jk _))) AA trivial (A4 At At (fun _ => BU (rows := BR [(DO (BJ.mk BG BD BE BF BH BI thm)), to, f, g, e.left, e.right, fs, e.proof]) By B7 At At At At (Bz (CC _)) (C1 _)) trivial (A4 At At (fun _ => DA At At (LY (.mk 3 0 ⟨#[69, 113, 46, 99, 111, 110, 103, 114]⟩ ([(FC.mk 0 []), (FC.mk 0 [])]) [] : Tm) [(DO (BJ.mk BG BD BE BF BH BI thm)), to, f, g, e.left, e.right, fs, e.proof] AN) (aw (Cq At) (aw (we At) (Cv)))) trivial (Cr At At (A6 (i := 1) BO At At At Ak Ac (CF _)) AA trivial (CK At An (BB (⟨At, _, _, ⟨_, _, At, (Bn (i := 1) BO At At Ak), At⟩, (Cj (is := [7]) At), ?_⟩))))))
 all_goals exact ⟨rfl, rfl⟩
theorem OL : ∀ (b : Nat) (f t : Tm), Bt Tryz.prog 131 [.agg ((Be t).map .p), .ptr b 0] [.box b ((Be f).map .p)] (DC (.agg ((Be (apply f [t])).map .p)) [.box b ((Be f).map .p)]) := by
 intro b f t
 refine A8 Tryz.func131 At aN (n := 8) At At (Ax (Av (BM At At (Bh At) fun b2 => BM At At (BK B7 At) fun b3 => Az At (Ax (Av (Au At At (A0 (i := 2) BO At At Ak) (Au At At (A0 (i := 1) BO At At Ak) (Au At At (BU (rows := BR [t]) By B7 At At At At (Bz (CC _)) (C1 _)) (Au At At (Bg At At (LY f [t] AN) At) ?_)))))))))
 refine Au At At (A6 (i := 0) BO At At At Ak Ac (CF _)) (Az At (BB (⟨At, _, _, ⟨_, _, At, (Bn (i := 0) BO At At Ak), At⟩, (Cj (is := [2]) At), ?_⟩)))
 all_goals exact ⟨rfl, rfl⟩
theorem Lk : ∀ (p c : Nat) (BG BD BE BF BH BI : ByteArray) (thm : List ByteArray) (f : Tm) (e : GF), Bt Tryz.prog 93 [.ptr p 0, .agg ((Be f).map .p), .agg ((CJ e).map .p)] [.box p [.p (.str BG), .p (.str BD), .p (.str BE), .p (.str BF), .p (.str BH), .p (.str BI), .p (.lst (List.map Ch thm)), .ptr c 0]] (DC (.agg ((CJ (DS (BJ.mk BG BD BE BF BH BI thm) f e)).map .p)) [.box p [.p (.str BG), .p (.str BD), .p (.str BE), .p (.str BF), .p (.str BH), .p (.str BI), .p (.lst (List.map Ch thm)), .ptr c 0]]) := by
 intro p c BG BD BE BF BH BI thm f e
 refine A8 Tryz.func93 At eU (n := 43) At At (Ax (Av (BM At At (Bh At) fun b4 => BM At At (Bh At) fun b5 => BM At At (BK Dp At) fun b6 => Az At (Ax (Av (Au At At (Cw At At) (Au At At (Ay At) (Az At ?_))))))))
 refine Ax (Ax (Av (Au At At (A1 Es At At) (Au At At (A2 (i := 1) Wm At At (K8 _)) (Az At (A9 At (fun c1 => ?_) (fun c1 => ?_)))))))
 ·(try simp only [sd, se] at c1)
  refine Ax (Av (Au At At (Aw At) (Au At At (Aw At) (Au At At (A1 Es At At) (Au At At (B1 (i := 1) BO At At (FE _) (congrArg AV.agg (eq_left _))) (Au At At (B6 [2] At (.inr At) (OL b4 f e.left) ⟨_, _, At, At, At⟩ Aq At (.inl At)) (Au At At (B6 [3] At (.inl ⟨At, At, At⟩) (J0 p c BG BD BE BF BH BI thm (apply f [e.left])) ⟨_, _, At, At, At⟩ Aq At (.inl At)) (Au At At (A6 (i := 0) Co At At At Aj Ab (Cb _)) (Az At (BB (⟨At, _, _, ⟨_, _, At, (Bn (i := 0) Co At At Aj), At⟩, (Cj (is := [3]) At), ?_⟩)))))))))))
  rw [DS, if_pos c1]
  all_goals exact ⟨rfl, rfl⟩
 ·(try simp only [sd, se] at c1)
  refine BC (Ax (Dm [.val (.ptr p 0), .val (.ptr p 0), .val (.ptr p 0), .val (.agg ((Be (DO (BJ.mk BG BD BE BF BH BI thm))).map .p)), .val (.agg ((Be (EJ (BJ.mk BG BD BE BF BH BI thm) (DO (BJ.mk BG BD BE BF BH BI thm)))).map .p)), .val (.agg ((Be f).map .p)), .val (.p (.lst (BR [f]))), .val (.agg ((Be (HO ⟨#[69, 113, 46, 114, 101, 102, 108]⟩ (EJ (BJ.mk BG BD BE BF BH BI thm) (DO (BJ.mk BG BD BE BF BH BI thm))) [f])).map .p)), .new [.p (I 0), .p (I 0), .p (.str ⟨#[]⟩), .p (.nils), .p (.nils)]] D0 At An An (BN At (fun Bs => Aw At) (BN At (fun Bs => Aw At) (BN At (fun Bs => Aw At) (BN At (fun Bs => CU [3] At (.inl ⟨At, At, At⟩) (Il p c BG BD BE BF BH BI thm) ⟨_, _, At, At, At⟩ Aq (aw (we At) (Cv))) ?_))))))
  refine BN At (fun Bs => CU [3] At (.inl ⟨At, At, At⟩) (SO p c BG BD BE BF BH BI thm (DO (BJ.mk BG BD BE BF BH BI thm))) ⟨_, _, At, At, At⟩ Aq (aw (we At) (aw (we At) (Cv)))) (BN At (fun Bs => A0 (i := Bs.length + 2) BO At (Bx At) Ak) (BN At (fun Bs => BU (rows := BR [f]) By B7 At At At At (Bz (CC _)) (C1 _)) (BN At (fun Bs => CU [3] At (.inl ⟨At, At, At⟩) (OP p c BG BD BE BF BH BI thm ⟨#[69, 113, 46, 114, 101, 102, 108]⟩ (EJ (BJ.mk BG BD BE BF BH BI thm) (DO (BJ.mk BG BD BE BF BH BI thm))) [f] AR) ⟨_, _, At, At, At⟩ Aq (aw (we At) (aw (we At) (aw (we At) (aw (we At) (Cv)))))) (E5 At (fun Bs => BK B7 At) fun b8 => Ed ?_))))
  change AL _ _ _ 9 ⟨43, _, [.box b8 [.p (I 0), .p (I 0), .p (.str ⟨#[]⟩), .p (.nils), .p (.nils)], .box b6 [.p (I 0), .p (I 0), .p (.str ⟨#[]⟩), .p (.nils), .p (.nils), .p (I 0), .p (I 0), .p (.str ⟨#[]⟩), .p (.nils), .p (.nils), .p (I 0), .p (I 0), .p (.str ⟨#[]⟩), .p (.nils), .p (.nils), .p (.bool false)], .box b5 ((CJ e).map .p), .box b4 ((Be f).map .p), .box p [.p (.str BG), .p (.str BD), .p (.str BE), .p (.str BF), .p (.str BH), .p (.str BI), .p (.lst (List.map Ch thm)), .ptr c 0]], []⟩ _
  refine Au At At (A6 (i := 0) BO At At At Ak Ac (CF _)) (Az At (Ax (CQ (fun k => false) D0 (A4 At At (fun _ => Aw At) trivial (A4 At At (fun _ => A1 Es At At) trivial (BQ (j := 2) At At At (fun H i hi => B1 (i := i) BO At hi (FE _) (congrArg AV.agg (eq_left _))) AA trivial (CD [3] At At At (.inr At) (OL b4 f e.left) ⟨_, _, At, At, At⟩ (Cp _) (aw (we At) (aw (we At) (Cv))) AA trivial (A4 At At (fun _ => Aw At) trivial (A4 At At (fun _ => A1 Es At At) trivial (BQ (j := 2) At At At (fun H i hi => B1 (i := i) BO At hi (E1 _) (congrArg AV.agg (eq_right _))) AA trivial (CD [3] At At At (.inr At) (OL b4 f e.right) ⟨_, _, At, At, At⟩ (Cp _) (aw (we At) (aw (we At) (Cv))) AA trivial ?_)))))))))))
  refine A4 At At (fun _ => Aw At) trivial (A4 At At (fun _ => Aw At) trivial (CD [4] At At At (.inl ⟨At, At, At⟩) (Il p c BG BD BE BF BH BI thm) ⟨_, _, At, At, At⟩ (Cp _) (aw (we At) (Cv)) AA trivial (BQ (j := 3) At At At (fun H i hi => A0 (i := i) BO At hi Ak) AA trivial (BQ (j := 3) At At At (fun H i hi => A0 (i := i) BO At hi Ak) AA trivial (BQ (j := 2) At At At (fun H i hi => A0 (i := i) Co At hi Aj) AA trivial (BQ (j := 0) At At At (fun H i hi => A0 (i := i) BO At hi Ak) AA trivial ?_))))))
  refine CD [4] At At At (.inl ⟨At, At, At⟩) (Na p c BG BD BE BF BH BI thm (DO (BJ.mk BG BD BE BF BH BI thm)) f f e (HO ⟨#[69, 113, 46, 114, 101, 102, 108]⟩ (EJ (BJ.mk BG BD BE BF BH BI thm) (DO (BJ.mk BG BD BE BF BH BI thm))) [f])) ⟨_, _, At, At, At⟩ (Cp _) (aw (we At) (aw (we At) (aw (we At) (aw (we At) (aw (we At) (aw (we At) (Cv))))))) AA trivial (A4 At At (fun _ => Br Es Dp (cN (l := (apply f [e.left])) (r := (apply f [e.right])) (q := (GN (BJ.mk BG BD BE BF BH BI thm) (DO (BJ.mk BG BD BE BF BH BI thm)) f f e (HO ⟨#[69, 113, 46, 114, 101, 102, 108]⟩ (EJ (BJ.mk BG BD BE BF BH BI thm) (DO (BJ.mk BG BD BE BF BH BI thm))) [f]))) At At At At At)) trivial (Cr At At (A6 (i := 1) Co At At At Aj Ab (Cb _)) AA trivial (CK At An (BB ?_))))
  refine ⟨At, _, _, ⟨_, _, At, (Bn (i := 1) Co At At Aj), At⟩, (Cj (is := [4]) At), ?_⟩
  rw [DS, if_neg (by rw [c1]; decide)]
  all_goals exact ⟨rfl, rfl⟩
theorem QO : ∀ (p c : Nat) (BG BD BE BF BH BI : ByteArray) (thm : List ByteArray) (a b : Tm), (thm.length = 14) → Bt Tryz.prog 84 [.ptr p 0, .agg ((Be a).map .p), .agg ((Be b).map .p)] [.box p [.p (.str BG), .p (.str BD), .p (.str BE), .p (.str BF), .p (.str BH), .p (.str BI), .p (.lst (List.map Ch thm)), .ptr c 0]] (DC (.agg ((CJ (Gn (BJ.mk BG BD BE BF BH BI thm) a b)).map .p)) [.box p [.p (.str BG), .p (.str BD), .p (.str BE), .p (.str BF), .p (.str BH), .p (.str BI), .p (.lst (List.map Ch thm)), .ptr c 0]]) := by
 intro p c BG BD BE BF BH BI thm a b h1
 refine A8 Tryz.func84 At e7 (n := 20) At At (Ax (Av (BM At At (Bh At) fun b4 => BM At At (Bh At) fun b5 => BM At At (BK Dp At) fun b6 => Az At (Ax (CQ (fun k => false) D0 (A4 At At (fun _ => Aw At) trivial (A4 At At (fun _ => Aw At) trivial (BQ (j := 2) At At At (fun H i hi => A0 (i := i) BO At hi Ak) AA trivial ?_))))))))
 refine BQ (j := 1) At At At (fun H i hi => A0 (i := i) BO At hi Ak) AA trivial (CD [3] At At At (.inl ⟨At, At, At⟩) (ES p c BG BD BE BF BH BI thm a b) ⟨_, _, At, At, At⟩ (Cp _) (aw (we At) (aw (we At) (aw (we At) (Cv)))) AA trivial (A4 At At (fun _ => Aw At) trivial (BQ (j := 1) At At At (fun H i hi => A0 (i := i) BO At hi Ak) AA trivial (BQ (j := 2) At At At (fun H i hi => A0 (i := i) BO At hi Ak) AA trivial (CD [3] At At At (.inl ⟨At, At, At⟩) (ES p c BG BD BE BF BH BI thm b a) ⟨_, _, At, At, At⟩ (Cp _) (aw (we At) (aw (we At) (aw (we At) (Cv)))) AA trivial (BQ (j := 2) At At At (fun H i hi => A0 (i := i) BO At hi Ak) AA trivial (BQ (j := 1) At At At (fun H i hi => A0 (i := i) BO At hi Ak) AA trivial ?_)))))))
 refine A4 At At (fun _ => BU (rows := BR [a, b]) By B7 At At At At (Bz (CC _)) (C1 _)) trivial ?_
 refine CD [3] At At At (.inl ⟨At, At, At⟩) (Jj p c BG BD BE BF BH BI thm 0 (CW (BJ.mk BG BD BE BF BH BI thm) a b) (CW (BJ.mk BG BD BE BF BH BI thm) b a) [a, b] ⟨by decide, by rw [h1]; decide⟩ AR) ⟨_, _, rfl, rfl, rfl⟩ (Cp _) (aw (we rfl) (aw (we rfl) (aw (we rfl) (aw (we rfl) (aw (we rfl) (Cv)))))) AA trivial ?_
 refine Cr At At (A6 (i := 0) Co At At At Aj Ab (Cb _)) AA trivial (CK At An (BB (⟨At, _, _, ⟨_, _, At, (Bn (i := 0) Co At At Aj), At⟩, (Cj (is := [3]) At), ?_⟩)))
 all_goals exact ⟨rfl, rfl⟩
theorem Nf : ∀ (p c : Nat) (BG BD BE BF BH BI : ByteArray) (thm : List ByteArray) (a b d : Tm), (thm.length = 14) → Bt Tryz.prog 127 [.ptr p 0, .agg ((Be a).map .p), .agg ((Be b).map .p), .agg ((Be d).map .p)] [.box p [.p (.str BG), .p (.str BD), .p (.str BE), .p (.str BF), .p (.str BH), .p (.str BI), .p (.lst (List.map Ch thm)), .ptr c 0]] (DC (.agg ((CJ (D3 (BJ.mk BG BD BE BF BH BI thm) a b d)).map .p)) [.box p [.p (.str BG), .p (.str BD), .p (.str BE), .p (.str BF), .p (.str BH), .p (.str BI), .p (.lst (List.map Ch thm)), .ptr c 0]]) := by
 intro p c BG BD BE BF BH BI thm a b d h1
 refine A8 Tryz.func127 At ao (n := 29) At At (Ax (Av (BM At At (Bh At) fun b5 => BM At At (Bh At) fun b6 => BM At At (Bh At) fun b7 => BM At At (BK Dp At) fun b8 => Az At (Ax (CQ (fun k => false) D0 (A4 At At (fun _ => Aw At) trivial (A4 At At (fun _ => Aw At) trivial ?_)))))))
 refine A4 At At (fun _ => Aw At) trivial (BQ (j := 3) At At At (fun H i hi => A0 (i := i) BO At hi Ak) AA trivial (BQ (j := 2) At At At (fun H i hi => A0 (i := i) BO At hi Ak) AA trivial (CD [4] At At At (.inl ⟨At, At, At⟩) (ES p c BG BD BE BF BH BI thm a b) ⟨_, _, At, At, At⟩ (Cp _) (aw (we At) (aw (we At) (aw (we At) (Cv)))) AA trivial (BQ (j := 1) At At At (fun H i hi => A0 (i := i) BO At hi Ak) AA trivial (CD [4] At At At (.inl ⟨At, At, At⟩) (ES p c BG BD BE BF BH BI thm (CW (BJ.mk BG BD BE BF BH BI thm) a b) d) ⟨_, _, At, At, At⟩ (Cp _) (aw (we At) (aw (we At) (aw (we At) (Cv)))) AA trivial (A4 At At (fun _ => Aw At) trivial (BQ (j := 3) At At At (fun H i hi => A0 (i := i) BO At hi Ak) AA trivial ?_)))))))
 refine A4 At At (fun _ => Aw At) trivial (BQ (j := 2) At At At (fun H i hi => A0 (i := i) BO At hi Ak) AA trivial (BQ (j := 1) At At At (fun H i hi => A0 (i := i) BO At hi Ak) AA trivial (CD [4] At At At (.inl ⟨At, At, At⟩) (ES p c BG BD BE BF BH BI thm b d) ⟨_, _, At, At, At⟩ (Cp _) (aw (we At) (aw (we At) (aw (we At) (Cv)))) AA trivial (CD [4] At At At (.inl ⟨At, At, At⟩) (ES p c BG BD BE BF BH BI thm a (CW (BJ.mk BG BD BE BF BH BI thm) b d)) ⟨_, _, At, At, At⟩ (Cp _) (aw (we At) (aw (we At) (aw (we At) (Cv)))) AA trivial (BQ (j := 3) At At At (fun H i hi => A0 (i := i) BO At hi Ak) AA trivial (BQ (j := 2) At At At (fun H i hi => A0 (i := i) BO At hi Ak) AA trivial ?_))))))
 refine BQ (j := 1) At At At (fun H i hi => A0 (i := i) BO At hi Ak) AA trivial (A4 At At (fun _ => BU (rows := BR [a, b, d]) By B7 At At At At (Bz (CC _)) (C1 _)) trivial ?_)
 refine CD [4] At At At (.inl ⟨At, At, At⟩) (Jj p c BG BD BE BF BH BI thm 1 (CW (BJ.mk BG BD BE BF BH BI thm) (CW (BJ.mk BG BD BE BF BH BI thm) a b) d) (CW (BJ.mk BG BD BE BF BH BI thm) a (CW (BJ.mk BG BD BE BF BH BI thm) b d)) [a, b, d] ⟨by decide, by rw [h1]; decide⟩ AR) ⟨_, _, rfl, rfl, rfl⟩ (Cp _) (aw (we rfl) (aw (we rfl) (aw (we rfl) (aw (we rfl) (aw (we rfl) (Cv)))))) AA trivial ?_
 refine Cr At At (A6 (i := 0) Co At At At Aj Ab (Cb _)) AA trivial (CK At An (BB (⟨At, _, _, ⟨_, _, At, (Bn (i := 0) Co At At Aj), At⟩, (Cj (is := [4]) At), ?_⟩)))
 all_goals exact ⟨rfl, rfl⟩
theorem QF : ∀ (p c : Nat) (BG BD BE BF BH BI : ByteArray) (thm : List ByteArray) (t : Tm), (thm.length = 14) → Bt Tryz.prog 83 [.ptr p 0, .agg ((Be t).map .p)] [.box p [.p (.str BG), .p (.str BD), .p (.str BE), .p (.str BF), .p (.str BH), .p (.str BI), .p (.lst (List.map Ch thm)), .ptr c 0]] (DC (.agg ((CJ (IV (BJ.mk BG BD BE BF BH BI thm) t)).map .p)) [.box p [.p (.str BG), .p (.str BD), .p (.str BE), .p (.str BF), .p (.str BH), .p (.str BI), .p (.lst (List.map Ch thm)), .ptr c 0]]) := by
 intro p c BG BD BE BF BH BI thm t h1
 refine A8 Tryz.func83 At ea (n := 19) At At (Ax (Av (BM At At (Bh At) fun b3 => BM At At (BK Dp At) fun b4 => Az At (Ax (CQ (fun k => false) D0 (A4 At At (fun _ => Aw At) trivial (A4 At At (fun _ => Aw At) trivial (A4 At At (fun _ => Aw At) trivial (A4 At At (fun _ => Bd At) trivial ?_)))))))))
 refine A4 At At (fun _ => A1 Hi At At) trivial (A4 At At (fun _ => A1 DU At At) trivial (BQ (j := 2) At At At (fun H i hi => A2 (i := i) FU At hi At) AA trivial (A4 At At (fun _ => DA At At (EL BE [] AN) (aw (we At) (aw (Cq At) (Cv)))) trivial (BQ (j := 1) At At At (fun H i hi => A0 (i := i) BO At hi Ak) AA trivial (CD [2] At At At (.inl ⟨At, At, At⟩) (ES p c BG BD BE BF BH BI thm (BS BE []) t) ⟨_, _, At, At, At⟩ (Cp _) (aw (we At) (aw (we At) (aw (we At) (Cv)))) AA trivial (BQ (j := 1) At At At (fun H i hi => A0 (i := i) BO At hi Ak) AA trivial (BQ (j := 1) At At At (fun H i hi => A0 (i := i) BO At hi Ak) AA trivial ?_)))))))
 refine A4 At At (fun _ => BU (rows := BR [t]) By B7 At At At At (Bz (CC _)) (C1 _)) trivial ?_
 refine CD [2] At At At (.inl ⟨At, At, At⟩) (Jj p c BG BD BE BF BH BI thm 2 (CW (BJ.mk BG BD BE BF BH BI thm) (BS BE []) t) t [t] ⟨by decide, by rw [h1]; decide⟩ AR) ⟨_, _, rfl, rfl, rfl⟩ (Cp _) (aw (we rfl) (aw (we rfl) (aw (we rfl) (aw (we rfl) (aw (we rfl) (Cv)))))) AA trivial ?_
 refine Cr At At (A6 (i := 0) Co At At At Aj Ab (Cb _)) AA trivial (CK At An (BB (⟨At, _, _, ⟨_, _, At, (Bn (i := 0) Co At At Aj), At⟩, (Cj (is := [2]) At), ?_⟩)))
 all_goals exact ⟨rfl, rfl⟩
end Go.Proofs.YtapmjpihennhaaaGreatDoor
