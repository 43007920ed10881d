/- Part of the proofs: an abstract program logic, plain models and contracts of functions. -/
import Derived.Shelf.Strconv.Quote
import Derived.Shelf.LaysM
import Derived.Shelf.Strconv.Itoa3
import Derived.Test.YtapmjpihennhaaaGreatDoorProg
import Derived.Test.YtapmjpihennhaaaGreatDoorPf
import Derived.Test.YtapmjpihennhaaaGreatDoorPe
import Derived.KernelRfl
import Derived.Lib.QuoteLoop
import Derived.Laws.BytesArg
import Derived.Test.YtapmjpihennhaaaGreatDoorPc
import Derived.ProofKit
import Derived.Deep.DeepHandedRow
import Derived.Test.YtapmjpihennhaaaGreatDoorRows
import Derived.Test.YtapmjpihennhaaaGreatDoorTie
import Derived.Deep.DeepWitnessRowRef
import Derived.Lib.LaidIn
import Derived.Lib.LaidSlice
import Derived.Lib.LaidTab
import Derived.Lib.LaidU8
import Derived.Lib.LaidPrint
set_option linter.unusedVariables false
set_option linter.unusedSimpArgs false
set_option maxRecDepth 1000000
namespace Go.Proofs
open Go.Shelf
def Tryz.lays177_ren : Go.Shelf.Ren := ⟨fun | 177 => 144 | 250 => 155 | 289 => 160 | 197 => 165 | 323 => 166 | 260 => 172 | 339 => 173 | 340 => 174 | 242 => 175 | 119 => 176 | 345 => 179 | 346 => 180 | 278 => 181 | n => n, fun | 9 => 9 | 5 => 5 | 4 => 4 | 3 => 3 | 37 => 184 | 21 => 21 | 105 => 237 | 46 => 239 | 119 => 250 | 0 => 0 | 139 => 253 | 138 => 252 | 49 => 254 | 234 => 255 | 131 => 49 | 51 => 243 | 236 => 257 | n => n, fun | 3 => 1 | 4 => 2 | 20 => 3 | 21 => 4 | 22 => 5 | 23 => 6 | 24 => 7 | n => n⟩
theorem Tryz.lays177 : Go.Proofs.Lays.n177 Tryz.prog Tryz.lays177_ren := {
 mixed := by kernel_rfl
 f119 := Tryz.func176.trans (congrArg some Ai)
 f177 := Tryz.func144.trans (congrArg some Ai)
 f197 := Tryz.func165.trans (congrArg some Ai)
 f242 := Tryz.func175.trans (congrArg some Ai)
 f250 := Tryz.func155.trans (congrArg some Ai)
 f260 := Tryz.func172.trans (congrArg some Ai)
 f278 := Tryz.func181.trans (congrArg some Ai)
 f289 := Tryz.func160.trans (congrArg some Ai)
 f323 := Tryz.func166.trans (congrArg some Ai)
 f339 := Tryz.func173.trans (congrArg some Ai)
 f340 := Tryz.func174.trans (congrArg some Ai)
 f345 := Tryz.func179.trans (congrArg some Ai)
 f346 := Tryz.func180.trans (congrArg some Ai)
 t0 := Tryz.underlying0
 a0 := Tryz.isAgg0
 z0 := Tryz.sizeOf0
 v0 := Tryz.zeroValue0
 t3 := Tryz.underlying3
 a3 := Tryz.isAgg3
 z3 := Tryz.sizeOf3
 v3 := Tryz.zeroValue3
 t4 := Tryz.underlying4
 a4 := Tryz.isAgg4
 z4 := Tryz.sizeOf4
 v4 := Tryz.zeroValue4
 t5 := Tryz.underlying5
 a5 := Tryz.isAgg5
 z5 := Tryz.sizeOf5
 v5 := Tryz.zeroValue5
 t9 := Tryz.underlying9
 a9 := Tryz.isAgg9
 z9 := Tryz.sizeOf9
 v9 := Tryz.zeroValue9
 t21 := Tryz.underlying21
 a21 := Tryz.isAgg21
 z21 := Tryz.sizeOf21
 v21 := Tryz.zeroValue21
 t37 := Tryz.underlying184
 a37 := Tryz.isAgg184
 z37 := Tryz.sizeOf184
 v37 := Tryz.zeroValue184
 t46 := Tryz.underlying239
 a46 := Tryz.isAgg239
 z46 := Tryz.sizeOf239
 v46 := Tryz.zeroValue239
 t49 := Tryz.underlying254
 a49 := Tryz.isAgg254
 z49 := Tryz.sizeOf254
 v49 := Tryz.zeroValue254
 t51 := Tryz.underlying243
 a51 := Tryz.isAgg243
 z51 := Tryz.sizeOf243
 v51 := Tryz.zeroValue243
 t105 := Tryz.underlying237
 a105 := Tryz.isAgg237
 z105 := Tryz.sizeOf237
 v105 := Tryz.zeroValue237
 t119 := Tryz.underlying250
 a119 := Tryz.isAgg250
 z119 := Tryz.sizeOf250
 t131 := Tryz.underlying49
 a131 := Tryz.isAgg49
 z131 := Tryz.sizeOf49
 v131 := Tryz.zeroValue49
 t138 := Tryz.underlying252
 a138 := Tryz.isAgg252
 z138 := Tryz.sizeOf252
 v138 := Tryz.zeroValue252
 t139 := Tryz.underlying253
 a139 := Tryz.isAgg253
 z139 := Tryz.sizeOf253
 v139 := Tryz.zeroValue253
 t234 := Tryz.underlying255
 a234 := Tryz.isAgg255
 z234 := Tryz.sizeOf255
 v234 := Tryz.zeroValue255
 t236 := Tryz.underlying257
 a236 := Tryz.isAgg257
 z236 := Tryz.sizeOf257
 v236 := Tryz.zeroValue257
 g3 := by kernel_rfl
 g4 := by kernel_rfl
 g20 := by kernel_rfl
 g21 := by kernel_rfl
 g22 := by kernel_rfl
 g23 := by kernel_rfl
 g24 := by kernel_rfl }
open Go.RowKit in
theorem Tryz.strconv_Quote (T : Lib.PrintTabs) (s : ByteArray) (w : World) (hlen : 10 * s.size + 12 ≤ 140737488355328) (hT : Lib.PrintTabsAt 3 4 5 6 T w) (hU : Lib.Utf8Tabs 1 2 w) :
  Calls Tryz.prog 144 #[.string s] w fun e w' => e = .returned (.string (strOfNums (Lib.quoteZ T s))) ∧ Below w.heap.size w w' := Any.strconv_Quote Tryz.lays177 Ai T s w hlen hT hU
def Tryz.laysM171_ren : Go.Shelf.Ren := ⟨fun | 171 => 143 | 243 => 154 | 246 => 159 | 283 => 161 | 284 => 162 | 285 => 163 | 286 => 164 | 129 => 168 | 317 => 167 | 318 => 169 | 319 => 170 | 320 => 171 | 337 => 177 | 338 => 178 | n => n, fun | 3 => 3 | 9 => 9 | 2 => 2 | 4 => 4 | 171 => 231 | 0 => 0 | 53 => 232 | 37 => 184 | 5 => 5 | 173 => 235 | 212 => 242 | 51 => 243 | 20 => 20 | 213 => 244 | 46 => 239 | 232 => 259 | 233 => 260 | n => n, fun | 17 => 0 | 18 => 8 | 19 => 9 | n => n⟩
theorem Tryz.laysM171 : Go.Proofs.LaysM.n171 Tryz.prog Tryz.laysM171_ren := {
 mixed := by kernel_rfl
 f129 := Tryz.func168.trans (congrArg some Ai)
 f171 := Tryz.func143.trans (congrArg some Ai)
 f243 := Tryz.func154.trans (congrArg some Ai)
 f246 := Tryz.func159.trans (congrArg some Ai)
 f283 := Tryz.func161.trans (congrArg some Ai)
 f284 := Tryz.func162.trans (congrArg some Ai)
 f285 := Tryz.func163.trans (congrArg some Ai)
 f286 := Tryz.func164.trans (congrArg some Ai)
 f317 := Tryz.func167.trans (congrArg some Ai)
 f318 := Tryz.func169.trans (congrArg some Ai)
 f319 := Tryz.func170.trans (congrArg some Ai)
 f320 := Tryz.func171.trans (congrArg some Ai)
 f337 := Tryz.func177.trans (congrArg some Ai)
 f338 := Tryz.func178.trans (congrArg some Ai)
 t0 := Tryz.underlying0
 a0 := Tryz.isAgg0
 z0 := Tryz.sizeOf0
 v0 := Tryz.zeroValue0
 t2 := Tryz.underlying2
 a2 := Tryz.isAgg2
 z2 := Tryz.sizeOf2
 v2 := Tryz.zeroValue2
 t3 := Tryz.underlying3
 a3 := Tryz.isAgg3
 z3 := Tryz.sizeOf3
 v3 := Tryz.zeroValue3
 t4 := Tryz.underlying4
 a4 := Tryz.isAgg4
 z4 := Tryz.sizeOf4
 v4 := Tryz.zeroValue4
 t5 := Tryz.underlying5
 a5 := Tryz.isAgg5
 z5 := Tryz.sizeOf5
 v5 := Tryz.zeroValue5
 t9 := Tryz.underlying9
 a9 := Tryz.isAgg9
 z9 := Tryz.sizeOf9
 v9 := Tryz.zeroValue9
 t20 := Tryz.underlying20
 a20 := Tryz.isAgg20
 z20 := Tryz.sizeOf20
 v20 := Tryz.zeroValue20
 t37 := Tryz.underlying184
 a37 := Tryz.isAgg184
 z37 := Tryz.sizeOf184
 v37 := Tryz.zeroValue184
 t46 := Tryz.underlying239
 a46 := Tryz.isAgg239
 z46 := Tryz.sizeOf239
 v46 := Tryz.zeroValue239
 t51 := Tryz.underlying243
 a51 := Tryz.isAgg243
 z51 := Tryz.sizeOf243
 v51 := Tryz.zeroValue243
 t53 := Tryz.underlying232
 a53 := Tryz.isAgg232
 z53 := Tryz.sizeOf232
 v53 := Tryz.zeroValue232
 t171 := Tryz.underlying231
 a171 := Tryz.isAgg231
 z171 := Tryz.sizeOf231
 v171 := Tryz.zeroValue231
 t173 := Tryz.underlying235
 a173 := Tryz.isAgg235
 z173 := Tryz.sizeOf235
 v173 := Tryz.zeroValue235
 t212 := Tryz.underlying242
 a212 := Tryz.isAgg242
 z212 := Tryz.sizeOf242
 v212 := Tryz.zeroValue242
 t213 := Tryz.underlying244
 a213 := Tryz.isAgg244
 z213 := Tryz.sizeOf244
 t232 := Tryz.underlying259
 a232 := Tryz.isAgg259
 z232 := Tryz.sizeOf259
 v232 := Tryz.zeroValue259
 t233 := Tryz.underlying260
 a233 := Tryz.isAgg260
 z233 := Tryz.sizeOf260
 v233 := Tryz.zeroValue260
 g17 := by kernel_rfl
 g18 := by kernel_rfl
 g19 := by kernel_rfl
 i0 := by kernel_rfl
 i2 := by kernel_rfl
 i3 := by kernel_rfl
 i4 := by kernel_rfl
 i5 := by kernel_rfl
 i9 := by kernel_rfl
 i20 := by kernel_rfl
 i37 := by kernel_rfl
 i46 := by kernel_rfl
 i51 := by kernel_rfl
 i53 := by kernel_rfl
 i171 := by kernel_rfl
 i173 := by kernel_rfl
 i212 := by kernel_rfl
 i232 := by kernel_rfl
 i233 := by kernel_rfl
 m17 := by kernel_rfl
 m18 := by kernel_rfl
 m19 := by kernel_rfl }
open Go.RowKit Go.Sort Go.Lib in
theorem Tryz.strconv_Itoa (n : Int) (h0 : -9223372036854775808 ≤ n) (h1 : n ≤ 9223372036854775807) (w : World) (htab : Lib.TabIs Tryz.prog w "internal/strconv.uint64pow10" .u64 Lib.pow10Tab) :
  Calls Tryz.prog 143 #[.int .i64 n] w fun e w' => e = .returned (.string ⟨(Lib.itoa n).toArray⟩) ∧ ∃ k os, w' = grow (w.drewN k) os := Any.strconv_Itoa Tryz.laysM171 n h0 h1 w htab
end Go.Proofs
namespace Go.Eu
open Go.Abs
theorem Un {th : BF} {t : Tm} (h : (DK (Bo t).1 th.add && ((Bo t).2.length : Int) == 2) = true) : C8 th t = (1, (Bo t).2) := by unfold C8; rw [if_pos h]
theorem Sq {th : BF} {t : Tm} (h : (DK (Bo t).1 th.add && ((Bo t).2.length : Int) == 2) = false) (h1 : (DK (Bo t).1 th.zero && ((Bo t).2.length : Int) == 0) = true) : C8 th t = (2, []) := by unfold C8; rw [if_neg (by rw [h]; decide), if_pos h1]
theorem UW {th : BF} {t : Tm} (h : (DK (Bo t).1 th.add && ((Bo t).2.length : Int) == 2) = false) (h1 : (DK (Bo t).1 th.zero && ((Bo t).2.length : Int) == 0) = false) (h2 : (DK (Bo t).1 th.neg && ((Bo t).2.length : Int) == 1) = true) : C8 th t = (3, (Bo t).2) := by unfold C8; rw [if_neg (by rw [h]; decide), if_neg (by rw [h1]; decide), if_pos h2]
theorem TR {th : BF} {t : Tm} (h : (DK (Bo t).1 th.add && ((Bo t).2.length : Int) == 2) = false) (h1 : (DK (Bo t).1 th.zero && ((Bo t).2.length : Int) == 0) = false) (h2 : (DK (Bo t).1 th.neg && ((Bo t).2.length : Int) == 1) = false) : C8 th t = (0, []) := by unfold C8; rw [if_neg (by rw [h]; decide), if_neg (by rw [h1]; decide), if_neg (by rw [h2]; decide)]
section
variable {th : BF} {n : Nat} {C : GV} {t x y : Tm} {s : Int}
theorem JX (h : C.all > 200) : B7 th (n + 1) C t s = C := by unfold B7; rw [if_pos h]
theorem Hw (h : ¬ C.all > 200) (ho : (C8 th t).1 = 1) (hx : (C8 th t).2[0]? = some x) (hy : (C8 th t).2[1]? = some y) : B7 th (n + 1) C t s = B7 th n (B7 th n C x s) y s := by
 rw [B7, if_neg h, if_pos ho, Cm hx, Cm hy]
theorem HM (h : ¬ C.all > 200) (ho : (C8 th t).1 = 2) : B7 th (n + 1) C t s = C := by
 rw [B7, if_neg h, if_neg (by rw [ho]; decide), if_pos ho]
theorem Hy (h : ¬ C.all > 200) (ho : (C8 th t).1 = 3) (hx : (C8 th t).2[0]? = some x) : B7 th (n + 1) C t s = B7 th n C x (wr (0 - s)) := by
 rw [B7, if_neg h, if_neg (by rw [ho]; decide), if_neg (by rw [ho]; decide), if_pos ho, Cm hx, Int.zero_sub]
theorem Fx (h : ¬ C.all > 200) (ho : (C8 th t).1 = 0) : B7 th (n + 1) C t s = GR C t s := by
 rw [B7, if_neg h, if_neg (by rw [ho]; decide), if_neg (by rw [ho]; decide), if_neg (by rw [ho]; decide)]
end
def QC (C : GV) : Prop := ∀ a ∈ C.atoms, Fb a ∧ size a < 1000000
theorem Sm {C : GV} {t : Tm} {s : Int} (h : QC C) (ht : Fb t ∧ size t < 1000000) : QC (GR C t s) := by
 unfold GR
 split
 ·exact h
 ·intro a ha
  rcases List.mem_append.1 ha with ha | ha
  ·exact h a ha
  ·simp at ha; subst ha; exact ht
theorem FL {th : BF} : ∀ (n : Nat) (C : GV) (t : Tm) (s : Int), QC C → Fb t → size t < 1000000 → QC (B7 th n C t s)
 | 0, C, t, s, h, _, _ => h
 | n + 1, C, t, s, h, ht, hs => by
  unfold B7
  split
  ·exact h
  ·split
   ·rename_i ho
    obtain ⟨h1, h2, h3⟩ := ht.op.1 ho
    exact FL n _ _ _ (FL n _ _ _ h h1 Am) h2 Am
   ·split
    ·exact h
    ·split
     ·rename_i ho
      obtain ⟨h1, h3⟩ := ht.op.2 ho
      exact FL n _ _ _ h h1 Am
     ·exact Sm h ⟨ht, hs⟩
theorem QC.nds {C : GV} (h : QC C) : JS C.atoms := QU fun t ht => (h t ht).1.nd
theorem Gs.lt {C : GV} (h : Gs C) : C.atoms.length < 1000 := by have := h.lo; have := h.hi; omega
theorem OX (c : Nat) (C : GV) : ∃ T, Oh c C T := ⟨_, none, 0, none, 0, rfl⟩
noncomputable def Cq (th : BF) (t : Tm) : GV := B7 th (size t) ⟨[], [], 0⟩ t 1
noncomputable def EP (th : BF) (t : Tm) : List Int × List Tm × Int := if (Cq th t).all > 200 then ([], [], 5) else ((Cq th t).coefs, (Cq th t).atoms, 0)
theorem NI {th : BF} {t : Tm} (h : (Cq th t).all > 200) : EP th t = ([], [], 5) := if_pos h
theorem Hr {th : BF} {t : Tm} (h : ¬ (Cq th t).all > 200) : EP th t = ((Cq th t).coefs, (Cq th t).atoms, 0) := if_neg h
theorem JM : Gs ⟨[], [], 0⟩ := ⟨rfl, by simp, by simp⟩
theorem KO : QC ⟨[], [], 0⟩ := fun a h => by simp at h
theorem Qu (th : BF) (t : Tm) : Gs (Cq th t) := Dv _ _ _ _ JM
theorem O3 {th : BF} {t : Tm} (h : Fb t) (hs : size t < 1000000) : QC (Cq th t) := FL _ _ _ _ KO h hs
noncomputable def Mu (C : GV) (t : Tm) : GV := if Cu C.atoms t < C.atoms.length then C else ⟨C.coefs ++ [0], C.atoms ++ [t], C.all⟩
theorem Px {C : GV} {t : Tm} (h : t ∈ C.atoms) : Mu C t = C := if_pos (Em h).1
theorem Ob {C : GV} {t : Tm} (h : t ∉ C.atoms) : Mu C t = ⟨C.coefs ++ [0], C.atoms ++ [t], C.all⟩ := if_neg (FC h)
theorem Jf {A : List Tm} {t : Tm} (h : t ∉ A) : Cu (A ++ [t]) t = A.length := by
 refine NL (l := A ++ [t]) (y := t) An (Dl Ao) fun j hj x hx => ?_
 rw [List.getElem?_append_left hj] at hx
 exact Ds fun e => h (e ▸ List.mem_of_getElem? hx)
theorem Vf {C : GV} {t : Tm} (hl : C.coefs.length = C.atoms.length) : Cu (Mu C t).atoms t < (Mu C t).coefs.length := by
 by_cases h : t ∈ C.atoms
 ·rw [Px h, hl]; exact (Em h).1
 ·rw [Ob h]; simp only [Jf h, List.length_append, hl, List.length_cons, List.length_nil]; omega
theorem Uj {C : GV} {t : Tm} {s : Int} (hl : C.coefs.length = C.atoms.length) (hs : II s) {y : Int} {i : Nat} (hi : i = Cu (Mu ⟨C.coefs, C.atoms, wr (C.all + 1)⟩ t).atoms t) (hy : (Mu ⟨C.coefs, C.atoms, wr (C.all + 1)⟩ t).coefs[i]? = some y) :
  (⟨(Mu ⟨C.coefs, C.atoms, wr (C.all + 1)⟩ t).coefs.set i (wr (y + s)), (Mu ⟨C.coefs, C.atoms, wr (C.all + 1)⟩ t).atoms, (Mu ⟨C.coefs, C.atoms, wr (C.all + 1)⟩ t).all⟩ : GV) = GR C t s := by
 subst hi
 by_cases h : t ∈ C.atoms
 ·have e := Px (C := ⟨C.coefs, C.atoms, wr (C.all + 1)⟩) h
  rw [e] at hy ⊢
  unfold GR
  rw [if_pos (Em h).1, Cm hy]
 ·have e := Ob (C := ⟨C.coefs, C.atoms, wr (C.all + 1)⟩) h
  rw [e] at hy ⊢
  unfold GR
  rw [if_neg (FC h)]
  simp only [Jf h] at hy ⊢
  rw [← hl] at hy ⊢
  rw [List.getElem?_append_right (Nat.le_refl _)] at hy
  simp at hy
  subst hy
  rw [List.set_append_right _ _ (Nat.le_refl _), Int.zero_add, HU hs]
  simp
theorem L1 (t : Tm) : 0 < (Hn t).length := by cases t; simp [Hn]
theorem SI (U e : TypeId) (b : Nat) (l : List UInt8) : ∃ T, BX U e b l T := ⟨_, .nilp, 0, 0, false, rfl⟩
theorem TY : ∀ F w, CF F w (.p (I 0)) (.int .i64 0) := fun F w => by simp [CF, CQ]
theorem QC.nq {C : GV} (h : QC C) : ∀ a ∈ C.atoms, LX a := fun a ha => (h a ha).1.nq
theorem Ve (n : Int) : II (wr n) := by
 unfold II wr
 rw [IntKind.wrap_i64]
 omega
end Go.Eu
namespace Go.Abs
theorem Nn {α : Type} : ∀ (xs l : List α) (o : Nat), o + xs.length ≤ l.length → splice l o xs = l.take o ++ xs ++ l.drop (o + xs.length)
 | [], l, o, h => by simp [splice]
 | x :: xs, l, o, h => by
  simp only [List.length_cons] at h
  rw [splice, Nn xs _ _ (by rw [List.length_set]; omega)]
  have h1 : (l.set o x).take (o + 1) = l.take o ++ [x] := by
   rw [List.take_add_one, List.getElem?_set_self Am, List.take_set_of_le (Nat.le_refl _)]
   rfl
  have h2 : (l.set o x).drop (o + 1 + xs.length) = l.drop (o + (x :: xs).length) := by
   rw [List.drop_set_of_lt Am]
   congr 1
   simp only [List.length_cons]
   omega
  rw [h1, h2]
  simp
def Er : Nat → List (List PV) → List (Nat × AV)
 | _, [] => []
 | k, r :: rs => (k, .agg (r.map .p)) :: Er (k + 1) rs
theorem Ll {sz : Nat} : ∀ (rows : List (List PV)) (k : Nat) (base : List AV), (∀ r ∈ rows, r.length = sz) → (k + rows.length) * sz = base.length → E2 (fun i => some (i * sz, sz)) base (Er k rows) = some (base.take (k * sz) ++ rows.flatten.map .p)
 | [], k, base, hr, hb => by
  simp only [List.length_nil, Nat.add_zero] at hb
  simp [Er, E2, hb]
 | r :: rows, k, base, hr, hb => by
  have hl := hr r An
  have hb2 : k * sz + sz + rows.length * sz = base.length := by
   rw [← hb, List.length_cons, Nat.add_mul, Nat.add_mul, Nat.one_mul]; omega
  simp only [Er, E2, EJ]
  rw [if_pos ⟨by simp [hl], by simp [hl]; omega⟩, Nn _ _ _ (by simp [hl]; omega)]
  rw [Ll rows (k + 1) _ (fun x hx => hr x (by simp [hx])) (by simp only [List.length_append, List.length_take, List.length_drop, List.length_map, hl]; rw [Nat.add_mul, Nat.add_mul, Nat.one_mul]; omega)]
  congr 1
  have h1 : ((base.take (k * sz) ++ r.map AV.p) ++ base.drop (k * sz + (r.map AV.p).length)).take ((k + 1) * sz) = base.take (k * sz) ++ r.map .p := by
   have : (k + 1) * sz = (base.take (k * sz) ++ r.map AV.p).length := by
    simp only [List.length_append, List.length_take, List.length_map, hl]; rw [Nat.add_mul, Nat.one_mul]; omega
   rw [this, List.take_left']
   rfl
  rw [h1]
  simp
theorem IX {α : Type} {sz : Nat} : ∀ {rows : List (List α)}, (∀ r ∈ rows, r.length = sz) → chunks sz rows.length rows.flatten = rows
 | [], _ => rfl
 | r :: rows, h => by
  have hl := h r An
  simp only [List.length_cons, chunks, List.flatten_cons]
  rw [List.take_left' hl, List.drop_left' hl, IX fun x hx => h x (by simp [hx])]
theorem ML : ∀ (rows : List (List PV)) (k : Nat), (∀ r ∈ rows, ∀ c ∈ r, c ≠ .nils) → (Er k rows).map (fun p => (p.1, norm p.2)) = Er k rows
 | [], k, h => rfl
 | r :: rows, k, h => by
  simp only [Er, List.map_cons]
  show (k, AV.agg ((r.map AV.p).map dn)) :: _ = _
  rw [ML rows (k + 1) fun x hx => h x (by simp [hx])]
  congr 3
  have := h r An
  clear h
  induction r with
  | nil => rfl
  | cons c r ih =>
   simp only [List.map_cons]
   rw [ih fun d hd => this d (by simp [hd])]
   have := this c An
   cases c <;> simp_all [dn]
section
variable {P : Program} {dst : Option Tmp} {ty : TypeId} {pos : String} {aft : Array Edge} {g : Option (Nat × Bool)} {ρ : Operand → AV} {H : List BL}
theorem Jl : ∀ (r : List PV), FX (r.map .p) = some r
 | [] => rfl
 | c :: r => by simp [FX, Jl r]
theorem L9 {parts : Array (Nat × Operand)} {rows : List (List PV)} (hp : parts.toList.map (fun p => (p.1, ρ p.2)) = Er 0 rows) (hn : ∀ r ∈ rows, ∀ c ∈ r, c ≠ .nils) : parts.toList.map (fun p => (p.1, norm (ρ p.2))) = Er 0 rows := by
 have h2 := ML rows 0 hn
 rw [← hp, List.map_map] at h2
 rw [← hp]
 exact h2
theorem BN {T e : TypeId} {len sz bytes : Nat} {parts : Array (Nat × Operand)} {z : Value} {rows : List (List PV)} (hT : E3 P T = some (e, sz, bytes)) (hz : zeroOf P e = some z) (hsz : z.cells.size = sz) (hpos : (Nat.blt 0 sz && Nat.ble (len * sz) 16777216) = true)
  (hp : parts.toList.map (fun p => (p.1, ρ p.2)) = Er 0 rows) (hl : rows.length = len) (hr : ∀ r ∈ rows, r.length = sz) (hn : ∀ r ∈ rows, ∀ c ∈ r, c ≠ .nils) :
  DS P ⟨dst, .buildSlice T len parts, ty, pos, aft, g⟩ ρ H (.p (.lst rows)) H := by
 subst hl
 refine CE (cs := rows.flatten.map .p) (ps := rows.flatten) hT hz hsz hpos ?_ (Jl _) (IX hr)
 rw [L9 hp hn, Ll rows 0 _ hr (by simp [hsz])]
 simp
theorem Gc {T e : TypeId} {len sz bytes : Nat} {parts : Array (Nat × Operand)} {z : Value} {cs : List AV} {ps : List PV} {rows : List (List PV)} (hT : E3 P T = some (e, sz, bytes)) (hz : zeroOf P e = some z) (hsz : z.cells.size = sz) (hpos : (Nat.blt 0 sz && Nat.ble (len * sz) 16777216) = true)
  (hc : E2 (fun i => some (i * sz, sz)) (List.replicate len (z.cells.toList.map GJ)).flatten (parts.toList.map fun p => (p.1, norm (ρ p.2))) = some cs) (hp : FX cs = some ps) (hr : chunks sz len ps = rows) :
  C6 P ⟨dst, .buildSlice T len parts, ty, pos, aft, g⟩ ρ H (Ix sz rows H) :=
 FW fun F w E hH hE => by
  obtain ⟨hu, i, hi, hs, hby⟩ := E1 hT
  simp only [Bool.and_eq_true, Nat.blt_eq, Nat.ble_eq] at hpos
  unfold zeroOf at hz
  have hz' : ∃ j, P.info? e = some j ∧ j.zero = some z := by
   cases hq : P.info? e with
   | none => simp [hq] at hz
   | some j => exact ⟨j, rfl, by simpa [hq] using hz⟩
  obtain ⟨j, hj, hz'⟩ := hz'
  have hzv : (zeroValue e).run P w = .ok z w := by simp [zeroValue, typeInfo, hj, hz', Sem.run_bind]
  have hzl : Bu F w (List.replicate len (z.cells.toList.map GJ)).flatten (List.replicate len z.cells.toList).flatten := Gy (FB _) len
  obtain ⟨us, hf, hrep⟩ := G1 (F := F) (w := w) (place := fun i => some (i * sz, sz)) _ (parts.toList.map fun p => (p.1, E p.2)) _ _ _ An (by
   intro j p q h1 h2
   simp only [List.getElem?_map] at h1 h2
   cases hj : parts.toList[j]? with
   | none => simp [hj] at h1
   | some t =>
    simp [hj] at h1 h2
    subst h1; subst h2
    exact ⟨Ao, (hE _ (by
     have := List.mem_of_getElem? hj
     simp only [Op.operands]
     exact List.mem_map.2 ⟨t, this, Ao⟩)).norm⟩) hzl hc
  have hcs := Gt hp
  have hlen : ps.length = len * sz := by
   have h1 : cs.length = ((List.replicate len (z.cells.toList.map GJ)).flatten).length := by
    clear hrep hp hcs hzl hf
    generalize (List.replicate len (z.cells.toList.map GJ)).flatten = l at hc
    generalize (parts.toList.map fun p => (p.1, norm (ρ p.2))) = q at hc
    induction q generalizing l with
    | nil => simp [E2] at hc; rw [hc]
    | cons a q ih =>
     obtain ⟨i, x⟩ := a
     simp only [E2] at hc
     cases hx : EJ x with
     | none => simp [hx] at hc
     | some c2 =>
      simp only [hx] at hc
      split at hc
      ·rw [ih _ hc, ES]
      ·cases hc
   rw [hcs] at h1
   simp only [List.length_map, List.length_flatten, List.map_replicate, List.sum_replicate_nat, Array.length_toList, hsz] at h1
   exact h1
  obtain ⟨c1, c2, c3⟩ := Iu hlen
  rw [hr] at c1 c2 c3
  have hul : us.length = ps.length := by rw [hrep.length, hcs]; simp
  obtain ⟨v0, H0, F0, h10, h20, h30, h40⟩ := PL (T := e) (c := len) (vs := us) (H := H) hH c2 (by rw [c1, ← hul, List.take_length]; rw [hcs] at hrep; exact hrep) Am Am
  rw [c3] at h40
  refine ⟨_, _, v0, H0, F0, ?_, h10, h20, h30, h40⟩
  have hszr : (sizeOf e).run P w = .ok sz w := by simp [sizeOf, typeInfo, hi, hs]
  have hzc : z.cells = ⟨z.cells.toList⟩ := rfl
  have hrm := Iv z.cells.toList len
  have hsz2 : z.cells.toList.length = sz := by simpa using hsz
  rw [hsz2] at hrm
  have harr : ((Array.range (len * sz)).map fun i => z.cells[i % z.cells.size]!) = ⟨(List.replicate len z.cells.toList).flatten⟩ := by
   apply Array.ext'
   exact hrm
  simp only [execOp, Instr.buildSlice, Sem.run_bind, run_underlying hu, Result.andThen_ok, hszr]
  rw [if_neg Am]
  simp only [Sem.run_pure, Result.andThen_ok, Sem.run_bind, pure_bind]
  have hf' : Instr.fill (fun i => some (i * sz, sz)) ⟨(List.replicate len z.cells.toList).flatten⟩ (parts.map fun p => (p.1, E p.2)).toList = some ⟨us⟩ := by
   rw [← hf]; simp
  by_cases h00 : len * sz = 0
  ·have hl0 : len = 0 := by
    rcases Nat.mul_eq_zero.1 h00 with h | h
    ·exact h
    ·omega
   subst hl0
   simp only [Nat.zero_mul, if_true]
   simp only [List.replicate_zero, List.flatten_nil] at hf'
   have e0 : (Array.map (fun x => (#[] : Array Value)[x % (#[] : Array Value).size]!) (Array.range 0)) = (⟨[]⟩ : Array Value) := by simp
   rw [e0, hf']
   simp only [newRow, newObj, Sem.run_bind, Sem.run, Result.andThen, Sem.run_pure]
   rfl
  ·rw [if_neg h00]
   simp only [Sem.run_bind, hzv, Result.andThen_ok]
   rw [harr, hf']
   simp only [newRow, newObj, Sem.run_bind, Sem.run, Result.andThen, Sem.run_pure]
   rfl
theorem EB {T e : TypeId} {len sz bytes : Nat} {parts : Array (Nat × Operand)} {z : Value} {rows : List (List PV)} (hT : E3 P T = some (e, sz, bytes)) (hz : zeroOf P e = some z) (hsz : z.cells.size = sz) (hpos : (Nat.blt 0 sz && Nat.ble (len * sz) 16777216) = true)
  (hp : parts.toList.map (fun p => (p.1, ρ p.2)) = Er 0 rows) (hl : rows.length = len) (hr : ∀ r ∈ rows, r.length = sz) (hn : ∀ r ∈ rows, ∀ c ∈ r, c ≠ .nils) :
  C6 P ⟨dst, .buildSlice T len parts, ty, pos, aft, g⟩ ρ H (Ix sz rows H) := by
 subst hl
 refine Gc (cs := rows.flatten.map .p) (ps := rows.flatten) hT hz hsz hpos ?_ (Jl _) (IX hr)
 rw [L9 hp hn, Ll rows 0 _ hr (by simp [hsz])]
 simp
end
section
variable {P : Program} {ops : Array Oper} {n : Nat} {τ₀ : Nat → AV} {D : List Di} {Q : Ck → Bq → Prop} {opn : Nat → Bool} {k : Nat} {τ : Nat → AV} {H : List BL} {rd : VB} {ef : To} {effs : List Bool} {fx : List (Nat × Sp)} {dst : Option Tmp} {op : Op} {ty : TypeId} {pos : String} {aft : Array Edge}
theorem VY {sz : Nat} {rows : List (List PV)} (fx' : List (Nat × Sp)) (ho : ops[k]? = some ⟨dst, op, ty, pos, aft, none⟩) (hn : opn k = true) (h : C6 P ⟨dst, op, ty, pos, aft, none⟩ (ev τ) H (Ix sz rows H)) (haft : Ek ops k (fx'.map (·.1)) = true)
  (next : ∀ b c, Ji ops k H (.vec (some b) sz rows c :: H) rd ∧ G6 k (.eff (.vs (some b) rows.length c) (.vec (some b) sz rows c :: H)) fx ∧ Dr P ops n τ₀ D Q opn (k + 1) (put τ dst (.vs (some b) rows.length c)) (.vec (some b) sz rows c :: H) rd ((k, H, .vec (some b) sz rows c :: H) :: ef) (true :: effs) (fx' ++ fx)) : Dr P ops n τ₀ D Q opn k τ H rd ef effs fx :=
 KS fx' ho hn h haft ⟨_, _, 0, 0, rfl, rfl⟩ (fun _ _ h => h.elim) (fun v H' ⟨b, c, h1, h2⟩ => by subst h1; subst h2; exact next b c)
end
section
variable {P : Program} {ty : TypeId} {pos : String} {aft : Array Edge} {g : Option (Nat × Bool)} {ρ : Operand → AV} {H : List BL} {x y : Operand}
theorem Eh {T T2 e e2 : TypeId} {sz bytes n2 n3 d c i n : Nat} {o : Option Nat} {rows rows' all : List (List PV)} {zv : Value} (hT : E3 P T = some (e, sz, bytes)) (hT2 : E3 P T2 = some (e2, n2, n3)) (hz : zeroOf P e = some zv) (hzs : zv.cells.size = sz) (hb0 : (Nat.blt 0 sz && Nat.blt 0 bytes) = true)
  (hx : ρ x = .vs o n c) (hn : n = rows.length) (hi : H[i]? = some (.vec o sz rows c)) (hy : norm (ρ y) = .p (.lst rows')) (hsol : ∀ r ∈ rows', DP sz r) (hroom : 2 * (rows.length + rows'.length) * bytes ≤ 281474976710656) (hall : rows ++ rows' = all) :
  DS P ⟨some d, .call { callee := .builtin .append, args := #[x, y], argTypes := #[T, T2] }, ty, pos, aft, g⟩ ρ H (.p (.lst all)) (H.eraseIdx i) := by
 subst hall
 intro r F S a w hs hH hρ hd
 subst hH
 have h := MF (P := P) (dst := some d) (ty := ty) (pos := pos) (aft := aft) (g := g) (ρ := ρ) (H := S.H) (i := i) (o := o) (rows := rows) (n := n) (c := c) hT hT2 hz hzs hb0 hx hn hi hy hsol hroom r F S a w hs rfl hρ hd
 refine Ko h ?_ ?_
 ·rintro a' w' ⟨v, H', F', ⟨o', c', rfl, rfl⟩, hs', ht⟩
  have hlt := (List.getElem?_eq_some_iff.1 hi).1
  obtain ⟨F'', hs'', ht''⟩ := IE (n := S.n) (τ := put S.τ (some d) (.vs o' (rows ++ rows').length c')) (H := S.H.set i (.vec o' sz (rows ++ rows') c')) (D := S.D) (i := i) [d] (List.getElem?_set_self hlt) (fun t ht => by simp at ht; subst ht; simp [put]) F' a' w' hs'
  have e : Kw [d] (.p (.lst (rows ++ rows'))) (put S.τ (some d) (.vs o' (rows ++ rows').length c')) = put S.τ (some d) (.p (.lst (rows ++ rows'))) := by
   funext t
   simp only [Kw, put, List.any_cons, List.any_nil, Bool.or_false]
   cases Nat.beq t d <;> rfl
  have e2 : (S.H.set i (.vec o' sz (rows ++ rows') c')).eraseIdx i = S.H.eraseIdx i := List.eraseIdx_set_eq
  simp only [e, e2] at hs'' ht''
  exact ⟨_, S.H.eraseIdx i, F'', ⟨Ao, Ao⟩, hs'', ht.trans hs.heap.bd ht''⟩
 ·rintro e a' w' ⟨v, H', F', u, h, _⟩
  exact h.elim
end
theorem W8 {f : Nat → Option (Nat × Nat)} {base L R Q : List AV} (h0 : f 0 = some (0, 5)) (h1 : f 1 = some (5, 5)) (h2 : f 2 = some (10, 5)) (hb : base.length = 16) (hL : L.length = 5) (hR : R.length = 5) (hQ : Q.length = 5) :
  E2 f base [(0, .agg L), (1, .agg R), (2, .agg Q)] = some (L ++ (R ++ (Q ++ base.drop 15))) := by
 match L, hL, R, hR, Q, hQ, base, hb with
 | [a0, a1, a2, a3, a4], _, [b0, b1, b2, b3, b4], _, [c0, c1, c2, c3, c4], _, [d0, d1, d2, d3, d4, d5, d6, d7, d8, d9, d10, d11, d12, d13, d14, d15], _ =>
  simp [E2, h0, h1, h2, EJ, splice]
theorem Wu {f : Nat → Option (Nat × Nat)} {base L R Q : List AV} {x : Bool} (h0 : f 0 = some (0, 5)) (h1 : f 1 = some (5, 5)) (h2 : f 2 = some (10, 5)) (h3 : f 3 = some (15, 1)) (hb : base.length = 16) (hL : L.length = 5) (hR : R.length = 5) (hQ : Q.length = 5) :
  E2 f base [(0, .agg L), (1, .agg R), (2, .agg Q), (3, .p (.bool x))] = some (L ++ (R ++ (Q ++ [.p (.bool x)]))) := by
 match L, hL, R, hR, Q, hQ, base, hb with
 | [a0, a1, a2, a3, a4], _, [b0, b1, b2, b3, b4], _, [c0, c1, c2, c3, c4], _, [d0, d1, d2, d3, d4, d5, d6, d7, d8, d9, d10, d11, d12, d13, d14, d15], _ =>
  simp [E2, h0, h1, h2, h3, EJ, splice]
inductive Ey where
 | val (v : AV)
 | skip
 | new (cs : List AV)
 | newv (sz : Nat) (rows : List (List PV))
def Ey.v (b : Nat × Nat) : Ey → AV
 | .val v => v
 | .skip => .tup []
 | .new _ => .ptr b.1 0
 | .newv _ rows => .vs (some b.1) rows.length b.2
def Ey.box (b : Nat × Nat) : Ey → List BL
 | .new cs => [.box b.1 cs]
 | .newv sz rows => [.vec (some b.1) sz rows b.2]
 | _ => []
def WK (P : Program) (ops : Array Oper) (H₀ : List BL) (o : Oper) (τ : Nat → AV) : Ey → Prop
 | .val v => C4 ops ⟨0, τ, [], []⟩ o ∧ ∀ Bs, DS P o (ev τ) (Bs ++ H₀) v (Bs ++ H₀)
 | .skip => ∃ j want d, o.guard = some (j, want) ∧ (ops[j]?).bind (·.dst) = some d ∧ Tp (τ d) want
 | .new cs => o.guard = none ∧ ∀ Bs, C6 P o (ev τ) (Bs ++ H₀) (Hq cs (Bs ++ H₀))
 | .newv sz rows => o.guard = none ∧ ∀ Bs, C6 P o (ev τ) (Bs ++ H₀) (Ix sz rows (Bs ++ H₀))
def EW (P : Program) (ops : Array Oper) (H₀ : List BL) : Nat → (Nat → AV) → List Ey → ((Nat → AV) → List BL → Prop) → Prop
 | _, τ, [], K => K τ []
 | k, τ, e :: r, K => ∃ o, ops[k]? = some o ∧ WK P ops H₀ o τ e ∧ ∀ b, EW P ops H₀ (k + 1) (put τ o.dst (e.v b)) r (fun τ' Hs => K τ' (e.box b ++ Hs))
def Kj (β : Nat → Nat × Nat) : Nat → List Ey → List Sp
 | _, [] => []
 | k, e :: r => .free (e.v (β k)) :: Kj β (k + 1) r
def W6 (β : Nat → Nat × Nat) : Nat → List Ey → List BL
 | _, [] => []
 | k, e :: r => e.box (β k) ++ W6 β (k + 1) r
def Pu (β : Nat → Nat × Nat) (l : Nat → Bool) : Nat → List Ey → List BL
 | _, [] => []
 | k, e :: r => (if l k = true then e.box (β k) else []) ++ Pu β l (k + 1) r
theorem LY (β : Nat → Nat × Nat) : ∀ (r : List Ey) (k j : Nat), j < r.length → (Kj β k r).getD j .skip = .free ((r.getD j .skip).v (β (k + j)))
 | [], k, j, h => by simp at h
 | e :: r, k, 0, h => by simp [Kj]
 | e :: r, k, j + 1, h => by
  have := LY β r (k + 1) j (by simpa using h)
  simp only [Kj, List.getD_cons_succ]
  rw [this, show k + 1 + j = k + (j + 1) by omega]
theorem Q5 (β : Nat → Nat × Nat) : ∀ (r : List Ey) (k : Nat), (Kj β k r).length = r.length
 | [], k => rfl
 | e :: r, k => by simp [Kj, Q5 β r (k + 1)]
theorem RF (β : Nat → Nat × Nat) {r : List Ey} {k j : Nat} (h : r.length ≤ j) : (Kj β k r).getD j .skip = .skip := by
 rw [List.getD_eq_getElem?_getD, List.getElem?_eq_none (by rw [Q5]; exact h)]; rfl
theorem Ub (β : Nat → Nat × Nat) (r : List Ey) (k j : Nat) : ((Kj β k r).getD j .skip).isEff = false := by
 rcases Nat.lt_or_ge j r.length with h | h
 ·rw [LY β r k j h]; rfl
 ·rw [RF β h]; rfl
theorem TK (β : Nat → Nat × Nat) (r : List Ey) (k j : Nat) (ob : List BL) (v : AV) : (Kj β k r).getD j .skip ≠ .read ob v := by
 rcases Nat.lt_or_ge j r.length with h | h
 ·rw [LY β r k j h]; simp
 ·rw [RF β h]; simp
theorem Ld (β : Nat → Nat × Nat) {r : List Ey} {j : Nat} (h : j < r.length) : ((Kj β 0 r).getD j .skip).val = (r.getD j .skip).v (β j) := by
 rw [LY β r 0 j h, Nat.zero_add]; rfl
theorem EW.facts {P : Program} {ops : Array Oper} {H₀ : List BL} {τ : Nat → AV} {base : List Ey} (β : Nat → Nat × Nat) : ∀ (r : List Ey) (k : Nat) (τk : Nat → AV) (K : (Nat → AV) → List BL → Prop), base.drop k = r → k + r.length = base.length → τk = τS ops (Kj β 0 base) τ k → EW P ops H₀ k τk r K →
  (∀ j, k ≤ j → j < base.length → ∃ o, ops[j]? = some o ∧ WK P ops H₀ o (τS ops (Kj β 0 base) τ j) (base.getD j .skip)) ∧ K (τS ops (Kj β 0 base) τ base.length) (W6 β k r)
 | [], k, τk, K, hd, hk, ht, h => by
  simp only [List.length_nil, Nat.add_zero] at hk
  subst hk
  exact ⟨fun j h1 h2 => by omega, by rw [← ht]; exact h⟩
 | e :: r, k, τk, K, hd, hk, ht, h => by
  obtain ⟨o, ho, hok, hn⟩ := h
  simp only [List.length_cons] at hk
  have hb : base.getD k .skip = e := by
   have : (base.drop k)[0]? = some e := by rw [hd]; rfl
   rw [List.getElem?_drop] at this
   rw [List.getD_eq_getElem?_getD, show k = k + 0 by omega, this]; rfl
  have hd2 : base.drop (k + 1) = r := by
   rw [← List.drop_drop, hd]; rfl
  obtain ⟨h1, h2⟩ := EW.facts (τ := τ) (base := base) β r (k + 1) _ _ hd2 Am (by simp only [τS, ho, Option.bind_some]; rw [Ld β Am, hb, ← ht]) (hn (β k))
  refine ⟨fun j hj hl => ?_, h2⟩
  by_cases e2 : j = k
  ·subst e2; exact ⟨o, ho, by rw [hb, ← ht]; exact hok⟩
  ·exact h1 j Am hl
theorem Km {β β' : Nat → Nat × Nat} {l l' : Nat → Bool} : ∀ (r : List Ey) (k : Nat), (∀ j, k ≤ j → l j = l' j ∧ (l j = true → β j = β' j)) → Pu β l k r = Pu β' l' k r
 | [], k, h => rfl
 | e :: r, k, h => by
  simp only [Pu]
  obtain ⟨h1, h2⟩ := h k (Nat.le_refl _)
  rw [Km r (k + 1) fun j hj => h j Am, ← h1]
  cases hl : l k
  ·rfl
  ·rw [h2 hl]
theorem Qo {β : Nat → Nat × Nat} {l : Nat → Bool} {i : Nat} {b : Nat × Nat} (hi : l i = false) : ∀ (r : List Ey) (k : Nat), k ≤ i → i < k + r.length → ((r.getD (i - k) .skip).box b ++ Pu β l k r).Perm (Pu (fun j => if j = i then b else β j) (fun j => l j || j == i) k r)
 | [], k, h1, h2 => by simp at h2; omega
 | e :: r, k, h1, h2 => by
  simp only [Pu]
  by_cases hk : k = i
  ·subst hk
   simp only [hi, Bool.false_eq_true, if_false, List.nil_append, Nat.sub_self, List.getD_cons_zero, beq_self_eq_true, Bool.or_true, if_true]
   rw [Km (β' := fun j => if j = k then b else β j) (l' := fun j => l j || j == k) r (k + 1) fun j hj => ⟨by simp [show (j == k) = false by simp; omega], fun _ => by rw [if_neg Am]⟩]
  ·have hp := Qo (β := β) hi r (k + 1) (b := b) Am (by simp only [List.length_cons] at h2; omega)
   have e1 : (e :: r).getD (i - k) .skip = r.getD (i - (k + 1)) .skip := by
    rw [show i - k = (i - (k + 1)) + 1 by omega]; rfl
   have e2 : (if (l k || k == i) = true then e.box (if k = i then b else β k) else []) = (if l k = true then e.box (β k) else []) := by
    rw [if_neg hk]
    simp [hk]
   rw [e1, e2]
   refine List.Perm.trans ?_ (hp.append_left _)
   rw [← List.append_assoc, ← List.append_assoc]
   exact List.perm_append_comm.append_right _
theorem Qh {β : Nat → Nat × Nat} {l : Nat → Bool} : ∀ (r : List Ey) (k : Nat), (∀ j, k ≤ j → j < k + r.length → l j = true) → Pu β l k r = W6 β k r
 | [], k, h => rfl
 | e :: r, k, h => by
  simp only [Pu, W6]
  rw [if_pos (h k (Nat.le_refl _) An), Qh r (k + 1) fun j h1 h2 => h j Am AR]
theorem Oz {β : Nat → Nat × Nat} {l : Nat → Bool} : ∀ (r : List Ey) (k : Nat), (∀ j, l j = false) → Pu β l k r = []
 | [], k, h => rfl
 | e :: r, k, h => by simp only [Pu]; rw [Oz r (k + 1) h, h k]; rfl
def R0 (ops : Array Oper) (e : Nat) : Bool := (List.range ops.size).all fun i => Nat.blt i e || (List.range i).all fun j => LP ops j i
theorem H7 {ops : Array Oper} {e : Nat} (h : R0 ops e = true) {i j : Nat} (hi : e ≤ i) (hs : i < ops.size) (hj : j < i) : Pred ops j i := by
 have := List.all_eq_true.1 h i (by simpa using hs)
 simp only [Bool.or_eq_true] at this
 rcases this with h1 | h1
 ·rw [Nat.blt_eq] at h1; omega
 ·exact Dy (List.all_eq_true.1 h1 j (by simpa using hj))
theorem DU {P : Program} {r : Option Nat} {ops : Array Oper} {id n : Nat} {τ : Nat → AV} {H : List BL} {D : List Di} {Q : Ck → Bq → Prop} (base : List Ey) (hm : P.follows .mixedOrders = true)
  (he : Nat.ble base.length ops.size = true) (chk : MC ops n [] = true) (late : R0 ops base.length = true) (h : EW P ops H 0 τ base (fun τ' Hs => AL P r ops base.length ⟨n, τ', Hs ++ H, D⟩ Q)) : Hj P r (.region id ops true) ⟨n, τ, H, D⟩ Q := by
 intro F₀ a₀ w₀ hs₀
 rw [Nat.ble_eq] at he
 refine wpIn_region_any hm ?_
 have same : C2 F₀ w₀ F₀ { w₀ with drawn := w₀.drawn + 1 } := ⟨Nat.le_refl _, fun _ _ _ => rfl, fun _ h _ => h⟩
 have t₀ : Trans F₀ H w₀ F₀ H { w₀ with drawn := w₀.drawn + 1 } :=
  ⟨Nat.le_refl _, fun _ _ _ => rfl, fun _ h _ => h, fun _ h => .inl h, fun o ho b hb => .inl ⟨o, ho, hb⟩, rfl, rfl, rfl⟩
 have hs₁ : DB F₀ ⟨n, τ, H, D⟩ a₀ { w₀ with drawn := w₀.drawn + 1 } :=
  ⟨hs₀.size, fun t => CF.mono same _ _ (hs₀.tmp t), hs₀.heap.stable' same (fun _ h => h) (fun _ _ _ _ => rfl) hs₀.heap.bd, Eb.mono same _ _ hs₀.defs⟩
 obtain ⟨hdst, c0, c1, c2, _⟩ := I6 chk
 have hd : ∀ β, LO P ops n (fun _ => False) τ H (Kj β 0 base) := fun β =>
  ⟨hdst, fun _ _ _ h => h.elim, c0, c1, c2, fun i k _ _ h _ => (by rw [Ub] at h; cases h), fun i e ob v _ _ _ h _ _ => absurd h (TK β base 0 i ob v)⟩
 have hE : ∀ β, (∀ j, j < base.length → ∃ o, ops[j]? = some o ∧ WK P ops H o (τS ops (Kj β 0 base) τ j) (base.getD j .skip)) ∧ AL P r ops base.length ⟨n, τS ops (Kj β 0 base) τ base.length, W6 β 0 base ++ H, D⟩ Q := fun β => by
  obtain ⟨h1, h2⟩ := EW.facts (base := base) β base 0 τ _ An An rfl h
  exact ⟨fun j hj => h1 j (Nat.zero_le _) hj, h2⟩
 -- where all of the first part has been carried out, the rest goes in the order of the text
 have conv : ∀ {l : Array Bool} {a w β τ' F Hb}, (∀ j, j < base.length → l.getD j false = true) → (∀ k, base.length ≤ k → l.getD k false = false) → El ops (Kj β 0 base) τ (fun i => l.getD i false = true) τ' → Hb.Perm (Pu β (fun k => l.getD k false) 0 base) → DB F ⟨n, τ', Hb ++ H, D⟩ a w → Trans F₀ H w₀ F (Hb ++ H) w →
   wpOpsIn (W r) 0 P ops (post F₀ H w₀ Q) (List.range' base.length (ops.size - base.length)) a w := by
  intro l a w β τ' F Hb hall hno hτ hp hs ht
  have hτe : τ' = τS ops (Kj β 0 base) τ base.length := by
   funext t
   have h2 := JD (hd β) base.length he t
   by_cases hw : ∃ (k : Nat) (o' : Oper), ops[k]? = some o' ∧ o'.dst = some t ∧ k < base.length
   ·obtain ⟨k, o', ho', hk, hlt⟩ := hw
    rw [(hτ t).1 k o' ho' hk (hall k hlt), h2.1 k o' ho' hk hlt]
   ·have hw' : ∀ (k : Nat) o', ops[k]? = some o' → o'.dst = some t → ¬ k < base.length := fun k o' h1 h2 h3 => hw ⟨k, o', h1, h2, h3⟩
    rw [(hτ t).2 fun k o' h1 h2 h3 => (by have h4 : l.getD k false = true := h3; have := hno k (by have := hw' k o' h1 h2; omega); rw [this] at h4; cases h4), h2.2 fun k o' h1 h2 h3 => hw' k o' h1 h2 h3]
  rw [Qh base 0 fun j _ hj => hall j Am] at hp
  have hp2 := hp.append_right H
  have := (hE β).2 F a w (by rw [← hτe]; exact ⟨hs.size, hs.tmp, hs.heap.perm hp2, hs.defs⟩)
  refine DV (fun e a' w' hq => ?_) _ _ _ this
  exact FD hs₀.heap.bd { ht with keys := fun o ho => ht.keys o (hp2.mem_iff.2 ho) } hq
 refine I9 (I := fun l a w => l.size = ops.size ∧ ((∃ β τ' F Hb, Down ops (fun i => l.getD i false = true) ∧ (∀ k, base.length ≤ k → l.getD k false = false) ∧ El ops (Kj β 0 base) τ (fun i => l.getD i false = true) τ' ∧ Hb.Perm (Pu β (fun k => l.getD k false) 0 base) ∧ DB F ⟨n, τ', Hb ++ H, D⟩ a w ∧ Trans F₀ H w₀ F (Hb ++ H) w) ∨
  (∃ m, base.length ≤ m ∧ m ≤ ops.size ∧ (∀ k, k < ops.size → (l.getD k false = true ↔ k < m)) ∧ wpOpsIn (W r) 0 P ops (post F₀ H w₀ Q) (List.range' m (ops.size - m)) a w))) (fun l a w h => h.1) ?_ ?_ _ _ _ _ ?_ ?_
 ·rintro l a w ⟨hsz, hI⟩ i hi
  obtain ⟨hun, o, ho, hall⟩ := mem_ready.1 hi
  have hlt : i < ops.size := by
   rcases Nat.lt_or_ge i ops.size with h | h
   ·exact h
   ·simp [Array.getElem?_eq_none h] at ho
  have hil : i < l.size := by omega
  have hnot : l.getD i false = false := by
   have : l[i] = false := by simpa [hil] using hun
   simp [hil, this]
  have hr : ∀ j ∈ Dm o, l.getD j false = true := by
   intro j hj
   simp only [Dm, List.mem_map, List.mem_filter] at hj
   obtain ⟨e, ⟨he, hb⟩, rfl⟩ := hj
   exact hall e (by simpa using he) hb
  have hset : ∀ k, (l.setIfInBounds i true).getD k false = true ↔ (l.getD k false = true ∨ k = i) := by
   intro k
   by_cases hk : k = i
   ·subst hk; simp [hil]
   ·simp [Array.getElem?_setIfInBounds_ne (Ne.symm hk), hk]
  have hset2 : ∀ k, (l.setIfInBounds i true).getD k false = (l.getD k false || k == i) := by
   intro k
   by_cases hk : k = i
   ·subst hk; simp [hil]
   ·simp [Array.getElem?_setIfInBounds_ne (Ne.symm hk), hk]
  have hsz' : (l.setIfInBounds i true).size = ops.size := by simp [hsz]
  have goLate : ∀ m, i = m → base.length ≤ m → m ≤ ops.size → (∀ k, k < ops.size → (l.getD k false = true ↔ k < m)) → wpOpsIn (W r) 0 P ops (post F₀ H w₀ Q) (List.range' m (ops.size - m)) a w →
    wpOpIn (W r) 0 P ops (post F₀ H w₀ Q) i (fun a w => (l.setIfInBounds i true).size = ops.size ∧ ((∃ β τ' F Hb, Down ops (fun k => (l.setIfInBounds i true).getD k false = true) ∧ (∀ k, base.length ≤ k → (l.setIfInBounds i true).getD k false = false) ∧ El ops (Kj β 0 base) τ (fun k => (l.setIfInBounds i true).getD k false = true) τ' ∧ Hb.Perm (Pu β (fun k => (l.setIfInBounds i true).getD k false) 0 base) ∧ DB F ⟨n, τ', Hb ++ H, D⟩ a w ∧ Trans F₀ H w₀ F (Hb ++ H) w) ∨
     (∃ m, base.length ≤ m ∧ m ≤ ops.size ∧ (∀ k, k < ops.size → ((l.setIfInBounds i true).getD k false = true ↔ k < m)) ∧ wpOpsIn (W r) 0 P ops (post F₀ H w₀ Q) (List.range' m (ops.size - m)) a w))) a w := by
   intro m him h1 h2 h3 hw
   subst him
   rw [Ht hlt, wpOpsIn_cons] at hw
   refine wpOpIn_mono (fun a' w' h' => ⟨hsz', .inr ⟨i + 1, by omega, by omega, fun k hk => ?_, h'⟩⟩) hw
   rw [hset k, h3 k hk]
   omega
  rcases hI with ⟨β, τ', F, Hb, hdown, hno, hτ, hp, hs, ht⟩ | ⟨m, hm1, hm2, hm3, hw⟩
  ·rcases Nat.lt_or_ge i base.length with hib | hib
   ·-- of the first part
    obtain ⟨o', ho', hok⟩ := (hE β).1 i hib
    rw [ho] at ho'; injection ho' with ho'; subst ho'
    have hlook : ∀ t ∈ looks ops o, τ' t = τS ops (Kj β 0 base) τ i t := fun t ht => JK (hd β) hdown hτ ho (by rw [hnot]; decide) hr ht
    have hops : ∀ x ∈ o.op.operands.toList, ev τ' x = ev (τS ops (Kj β 0 base) τ i) x := by
     intro x hx
     cases x with
     | tmp t => exact hlook t (List.mem_append_left _ (List.mem_filterMap.2 ⟨.tmp t, hx, rfl⟩))
     | _ => rfl
    have hguard : ∀ j want d, o.guard = some (j, want) → (ops[j]?).bind (·.dst) = some d → τ' d = τS ops (Kj β 0 base) τ i d := by
     intro j want d hg hj
     refine hlook d (List.mem_append_right _ ?_)
     simp [hg, hj]
    have hdown' : Down ops (fun k => (l.setIfInBounds i true).getD k false = true) := by
     intro k o' j ho' hk hj
     rcases (hset k).1 hk with h | h
     ·exact (hset j).2 (.inl (hdown k o' j ho' h hj))
     ·subst h; rw [ho] at ho'; injection ho' with ho'; subst ho'; exact (hset j).2 (.inl (hr j hj))
    have hno' : ∀ k, base.length ≤ k → (l.setIfInBounds i true).getD k false = false := by
     intro k hk
     rw [hset2 k, hno k hk]
     simp; omega
    generalize hbe : base.getD i .skip = e at hok
    have close : ∀ {a' w' F' b H'}, H' = e.box b ++ (Hb ++ H) → DB F' ⟨n, put τ' o.dst (e.v b), H', D⟩ a' w' → Trans F (Hb ++ H) w F' H' w' →
      (l.setIfInBounds i true).size = ops.size ∧ ((∃ β τ' F Hb, Down ops (fun k => (l.setIfInBounds i true).getD k false = true) ∧ (∀ k, base.length ≤ k → (l.setIfInBounds i true).getD k false = false) ∧ El ops (Kj β 0 base) τ (fun k => (l.setIfInBounds i true).getD k false = true) τ' ∧ Hb.Perm (Pu β (fun k => (l.setIfInBounds i true).getD k false) 0 base) ∧ DB F ⟨n, τ', Hb ++ H, D⟩ a' w' ∧ Trans F₀ H w₀ F (Hb ++ H) w') ∨
       (∃ m, base.length ≤ m ∧ m ≤ ops.size ∧ (∀ k, k < ops.size → ((l.setIfInBounds i true).getD k false = true ↔ k < m)) ∧ wpOpsIn (W r) 0 P ops (post F₀ H w₀ Q) (List.range' m (ops.size - m)) a' w')) := by
     intro a' w' F' b H' hH h3 h4
     subst hH
     refine ⟨hsz', .inl ⟨fun j => if j = i then b else β j, put τ' o.dst (e.v b), F', e.box b ++ Hb, hdown', hno', ?_, ?_, by rw [List.append_assoc]; exact h3, by rw [List.append_assoc]; exact ht.trans hs₀.heap.bd h4⟩⟩
     ·have hτ2 : El ops (Kj (fun j => if j = i then b else β j) 0 base) τ (fun k => l.getD k false = true) τ' := by
       intro t
       refine ⟨fun k o' a1 a2 a3 => ?_, (hτ t).2⟩
       have a4 : l.getD k false = true := a3
       have hki : k ≠ i := fun e => by subst e; rw [hnot] at a4; cases a4
       rw [(hτ t).1 k o' a1 a2 a3]
       rcases Nat.lt_or_ge k base.length with hk | hk
       ·rw [Ld _ hk, Ld _ hk, if_neg hki]
       ·have := hno k hk; rw [this] at a4; cases a4
      have hτ3 := hτ2.put (hd _) ho
      rw [Ld _ hib, if_pos rfl, hbe] at hτ3
      intro t
      exact ⟨fun k o' a1 a2 a3 => (hτ3 t).1 k o' a1 a2 ((hset k).1 a3), fun hn => (hτ3 t).2 fun k o' a1 a2 a3 => hn k o' a1 a2 ((hset k).2 a3)⟩
     ·have h1 := Qo (β := β) (l := fun k => l.getD k false) (i := i) (b := b) hnot base 0 (Nat.zero_le _) Am
      rw [Nat.sub_zero, hbe] at h1
      refine (hp.append_left _).trans (h1.trans (List.Perm.of_eq ?_))
      exact Km base 0 fun j _ => ⟨(hset2 j).symm, fun _ => Ao⟩
    have wants : C4 ops ⟨0, τS ops (Kj β 0 base) τ i, [], []⟩ o → C4 ops ⟨n, τ', Hb ++ H, D⟩ o := by
     intro h
     unfold C4 at *
     cases hg : o.guard with
     | none => simp [hg]
     | some jw =>
      obtain ⟨j, want⟩ := jw
      simp only [hg] at h ⊢
      obtain ⟨d, h1, h2⟩ := h
      exact ⟨d, h1, by rw [← h2]; exact hguard j want d hg h1⟩
    have yields : C4 ops ⟨n, τ', Hb ++ H, D⟩ o → C6 P o (ev (τS ops (Kj β 0 base) τ i)) (Hb ++ H) (fun r H' => match r with | .val v => ∃ b, v = e.v b ∧ H' = e.box b ++ (Hb ++ H) | .panic _ => False) → wpOpIn (W r) 0 P ops (post F₀ H w₀ Q) i (fun a' w' => (l.setIfInBounds i true).size = ops.size ∧ ((∃ β τ' F Hb, Down ops (fun k => (l.setIfInBounds i true).getD k false = true) ∧ (∀ k, base.length ≤ k → (l.setIfInBounds i true).getD k false = false) ∧ El ops (Kj β 0 base) τ (fun k => (l.setIfInBounds i true).getD k false = true) τ' ∧ Hb.Perm (Pu β (fun k => (l.setIfInBounds i true).getD k false) 0 base) ∧ DB F ⟨n, τ', Hb ++ H, D⟩ a' w' ∧ Trans F₀ H w₀ F (Hb ++ H) w') ∨
       (∃ m, base.length ≤ m ∧ m ≤ ops.size ∧ (∀ k, k < ops.size → ((l.setIfInBounds i true).getD k false = true ↔ k < m)) ∧ wpOpsIn (W r) 0 P ops (post F₀ H w₀ Q) (List.range' m (ops.size - m)) a' w'))) a w := by
     intro hwant hop
     unfold wpOpIn
     simp only [ho, Gp hs hwant, if_true]
     have hw := hop r F _ a w hs rfl (fun x hx => hops x hx) (fun t ht => hdst i o t ho ht)
     unfold Oper.wpIn at *
     refine ⟨hw.1, ?_⟩
     replace hw := hw.2
     generalize (o.semAt (W r).round a.eval).run P w = rr at *
     cases rr with
     | ok nx w' =>
      cases nx <;> simp only [Oper.uponIn] at hw ⊢
      case value u => obtain ⟨v', H'', F', ⟨b, h1, h2⟩, h3, h4⟩ := hw; subst h1; exact close h2 h3 h4
      case skip => obtain ⟨v', H'', F', ⟨b, h1, h2⟩, h3, h4⟩ := hw; subst h1; exact close h2 h3 h4
      case defer d => obtain ⟨v', H'', F', ⟨b, h1, h2⟩, h3, h4⟩ := hw; subst h1; exact close h2 h3 h4
      case enter f args =>
       refine ⟨hw.1, hw.2.mono fun e w'' he => ?_⟩
       cases e with
       | returned u => obtain ⟨v', H'', F', ⟨b, h1, h2⟩, h3, h4⟩ := he; subst h1; exact close h2 h3 h4
       | panicked c => obtain ⟨_, _, _, _, h, _⟩ := he; exact h.elim
       | outgrown => obtain ⟨_, _, _, _, _, _, h, _⟩ := he; exact h.elim
      case row row args => exact ⟨hw.1, hw.2.mono fun u w'' h => by obtain ⟨v', H'', F', ⟨b, h1, h2⟩, h3, h4⟩ := h; subst h1; exact close h2 h3 h4⟩
      case round l' f tmps assign body =>
       refine ⟨hw.1, hw.2.mono fun e w'' he => ?_⟩
       cases e with
       | returned u => obtain ⟨v', H'', F', ⟨b, h1, h2⟩, h3, h4⟩ := he; subst h1; exact close h2 h3 h4
       | panicked c => obtain ⟨_, _, _, _, h, _⟩ := he; exact h.elim
       | outgrown => obtain ⟨_, _, _, _, _, _, h, _⟩ := he; exact h.elim
     | halt x w' =>
      cases x <;> simp only [Oper.uponIn] at hw ⊢
      case panic u => obtain ⟨_, _, _, _, h, _⟩ := hw; exact h.elim
    cases e with
    | val v => exact yields (wants hok.1) ((hok.2 Hb).mono (by
      intro r H' hR
      cases r with
      | val v' => obtain ⟨rfl, rfl⟩ := hR; exact ⟨(0, 0), rfl, rfl⟩
      | panic v' => exact hR.elim))
    | new cs =>
     refine yields (by unfold C4; rw [hok.1]; trivial) ((hok.2 _).mono ?_)
     intro r H' hR
     cases r with
     | val v' => obtain ⟨b, rfl, rfl⟩ := hR; exact ⟨(b, 0), rfl, rfl⟩
     | panic v' => exact hR.elim
    | newv sz rows =>
     refine yields (by unfold C4; rw [hok.1]; trivial) ((hok.2 _).mono ?_)
     intro r H' hR
     cases r with
     | val v' => obtain ⟨b, c, rfl, rfl⟩ := hR; exact ⟨(b, c), rfl, rfl⟩
     | panic v' => exact hR.elim
    | skip =>
     obtain ⟨j, want, d, hg, hj, hb⟩ := hok
     have hw : Region.wanted o (yielded ops a.tmps) = false := Ib (S := ⟨n, τ', Hb ++ H, D⟩) hs hg hj (by show Tp (τ' d) want; rw [hguard j want d hg hj]; exact hb)
     unfold wpOpIn
     simp only [ho, hw, Bool.false_eq_true, if_false]
     refine ⟨fun _ _ => trivial, close (b := (0, 0)) Ao ?_ .refl⟩
     exact hs.put (fun t ht => hdst i o t ho ht) ⟨Nat.le_refl _, fun _ _ _ => Ao, fun _ h _ => h⟩ hs.heap (by simp only [Ey.v, CF, Bu, undef]; exact ⟨[], rfl, rfl⟩)
   ·-- the first of the rest
    have hpre : ∀ j, j < i → l.getD j false = true := by
     intro j hj
     have hpi := H7 late hib hlt hj
     have : ∀ {a b}, Pred ops a b → b = i → l.getD a false = true := by
      intro a b hab
      induction hab with
      | base ho' hj => intro e; subst e; rw [ho] at ho'; injection ho' with ho'; subst ho'; exact hr _ hj
      | trans p1 _ _ ih2 => intro e; exact hdown.pred p1 (ih2 e)
     exact this hpi Ao
    have hie : i = base.length := by
     rcases Nat.lt_or_ge base.length i with h | h
     ·have h1 := hpre base.length h
      rw [hno base.length (Nat.le_refl _)] at h1
      cases h1
     ·omega
    refine goLate base.length hie (Nat.le_refl _) he (fun k hk => ⟨fun h => ?_, fun h => hpre k Am⟩) (conv (fun j hj => hpre j Am) hno hτ hp hs ht)
    rcases Nat.lt_or_ge k base.length with h' | h'
    ·exact h'
    ·rw [hno k h'] at h; cases h
  ·have hmi : m ≤ i := by
    rcases Nat.lt_or_ge i m with h | h
    ·have := (hm3 i hlt).2 h; rw [hnot] at this; cases this
    ·exact h
   have him : i = m := by
    rcases Nat.lt_or_ge m i with h | h
    ·have hpi := H7 late (by omega : base.length ≤ i) hlt h
     have hdown : ∀ {a b}, Pred ops a b → b = i → l.getD a false = true := by
      intro a b hab
      induction hab with
      | base ho' hj => intro e; subst e; rw [ho] at ho'; injection ho' with ho'; subst ho'; exact hr _ hj
      | @trans a k b p1 p2 _ ih2 =>
       intro e
       have hk := ih2 e
       have hks : k < ops.size := by
        rcases Nat.lt_or_ge k ops.size with h | h
        ·exact h
        ·have : l.getD k false = false := by
          have : ¬ k < l.size := by omega
          simp [this]
         rw [this] at hk; cases hk
       have hkm := (hm3 k hks).1 hk
       have hak : a < k := Pred.lt (hd fun _ => (0, 0)) p1
       exact (hm3 a Am).2 Am
     have := (hm3 m Am).1 (hdown hpi rfl)
     omega
    ·omega
   exact goLate m him hm1 hm2 hm3 hw
 ·rintro l a w ⟨hsz, hI⟩ hr
  have hall : ∀ i, i < ops.size → l.getD i false = true := by
   intro i
   induction i using Nat.strongRecOn with
   | _ i ih =>
    intro hi
    cases hq : l.getD i false with
    | true => rfl
    | false =>
     have ho : ops[i]? = some ops[i] := Array.getElem?_eq_getElem hi
     have : i ∈ Region.ready .any ops l := by
      refine mem_ready.2 ⟨?_, ops[i], ho, ?_⟩
      ·have : i < l.size := by omega
       simp [this] at hq ⊢; exact hq
      ·intro e he hb
       have hj : e.on ∈ Dm ops[i] := by
        simp only [Dm, List.mem_map, List.mem_filter]
        exact ⟨e, ⟨by simpa using he, hb⟩, rfl⟩
       have hlt := c0 i _ _ ho hj
       exact ih e.on hlt Am
     rw [hr] at this
     cases this
  rcases hI with ⟨β, τ', F, Hb, hdown, hno, hτ, hp, hs, ht⟩ | ⟨m, hm1, hm2, hm3, hw⟩
  ·have hbs : base.length = ops.size := by
    rcases Nat.lt_or_ge base.length ops.size with h | h
    ·have := hall base.length h; rw [hno base.length (Nat.le_refl _)] at this; cases this
    ·omega
   have := conv (fun j hj => hall j Am) hno hτ hp hs ht
   rw [hbs, Nat.sub_self] at this
   exact this
  ·have hms : m = ops.size := by
    rcases Nat.lt_or_ge m ops.size with h | h
    ·have := (hm3 m h).1 (hall m h); omega
    ·omega
   rw [hms, Nat.sub_self] at hw
   exact hw
 ·refine ⟨by simp, .inl ⟨fun _ => (0, 0), τ, F₀, [], ?_, ?_, ?_, ?_, hs₁, t₀⟩⟩
  ·intro i o j ho hi
   by_cases h : i < ops.size <;> simp [h] at hi
  ·intro k _
   by_cases h : k < ops.size <;> simp [h]
  ·intro t
   refine ⟨fun k o ho hk hl => ?_, fun _ => Ao⟩
   by_cases h : k < ops.size <;> simp [h] at hl
  ·rw [Oz base 0 fun j => by by_cases h : j < ops.size <;> simp [h]]
 ·have := List.length_filter_le (fun b : Bool => !b) (Array.replicate ops.size false).toList
  simp at this ⊢
section
variable {P : Program} {ops : Array Oper} {H₀ : List BL} {k : Nat} {τ : Nat → AV} {r : List Ey} {K : (Nat → AV) → List BL → Prop} {dst : Option Tmp} {op : Op} {ty : TypeId} {pos : String} {aft : Array Edge} {v : AV}
theorem BE (ho : ops[k]? = some ⟨dst, op, ty, pos, aft, none⟩) (h : ∀ Bs, DS P ⟨dst, op, ty, pos, aft, none⟩ (ev τ) (Bs ++ H₀) v (Bs ++ H₀)) (next : EW P ops H₀ (k + 1) (put τ dst v) r K) : EW P ops H₀ k τ (.val v :: r) K :=
 ⟨_, ho, ⟨trivial, h⟩, fun _ => next⟩
theorem Ea {cs : List AV} (ho : ops[k]? = some ⟨dst, op, ty, pos, aft, none⟩) (h : ∀ Bs, C6 P ⟨dst, op, ty, pos, aft, none⟩ (ev τ) (Bs ++ H₀) (Hq cs (Bs ++ H₀))) (next : ∀ b, EW P ops H₀ (k + 1) (put τ dst (.ptr b 0)) r (fun τ' Hs => K τ' (.box b cs :: Hs))) : EW P ops H₀ k τ (.new cs :: r) K :=
 ⟨_, ho, ⟨rfl, h⟩, fun b => next b.1⟩
theorem Ka {sz : Nat} {rows : List (List PV)} (ho : ops[k]? = some ⟨dst, op, ty, pos, aft, none⟩) (h : ∀ Bs, C6 P ⟨dst, op, ty, pos, aft, none⟩ (ev τ) (Bs ++ H₀) (Ix sz rows (Bs ++ H₀))) (next : ∀ b c, EW P ops H₀ (k + 1) (put τ dst (.vs (some b) rows.length c)) r (fun τ' Hs => K τ' (.vec (some b) sz rows c :: Hs))) : EW P ops H₀ k τ (.newv sz rows :: r) K :=
 ⟨_, ho, ⟨rfl, h⟩, fun b => next b.1 b.2⟩
theorem D6 (h : K τ []) : EW P ops H₀ k τ [] K := h
theorem Bn {α : Type} {Bs H : List α} {j : Nat} {x : α} (h : H[j]? = some x) : (Bs ++ H)[Bs.length + j]? = some x := by
 rw [List.getElem?_append_right Am, Nat.add_sub_cancel_left]; exact h
theorem CC {c : Call} {f : Operand} {fid : FuncId} {first caps A : List AV} {ρ : Operand → AV} {H Hs : List BL} {g : Option (Nat × Bool)} {Bs : List BL} (is : List Nat) (hc : c.callee = .value f) (hf : (ρ f = .p (.fn fid) ∧ first = [] ∧ caps = []) ∨ ρ f = .fn (.func fid) first caps) (h : Bl P fid A Hs (DG v Hs)) (hg : EZ H is Hs) (hn : is.Nodup) (hA : GA (first ++ c.args.toList.map ρ ++ caps) A) :
  DS P ⟨dst, .call c, ty, pos, aft, g⟩ ρ (Bs ++ H) v (Bs ++ H) := by
 have hp : (Bs ++ H).Perm (Hs ++ (Bs ++ C1 is 0 H)) := by
  refine ((Cj hn hg).append_left Bs).trans ?_
  rw [← List.append_assoc, ← List.append_assoc]
  exact List.perm_append_comm.append_right _
 refine C6.permR (Gx (H := Bs ++ H) hc hf hp (h.args hA) (.inl Ao)) ?_
 rintro r H' ⟨Hs', h1, rfl⟩
 cases r with
 | val v' => obtain ⟨rfl, rfl⟩ := h1; exact ⟨Bs ++ H, hp.symm, rfl, rfl⟩
 | panic v' => exact h1.elim
end
theorem LH {α : Type} : ∀ {l H : List α}, l.Nodup → (∀ x ∈ l, x ∈ H) → ∃ r, H.Perm (l ++ r)
 | [], H, _, _ => ⟨H, by simp⟩
 | a :: l, H, hn, hs => by
  obtain ⟨s, t, rfl⟩ := List.append_of_mem (hs a An)
  have hn' := List.nodup_cons.1 hn
  obtain ⟨r, hr⟩ := LH (l := l) (H := s ++ t) hn'.2 fun x hx => by
   have := hs x (by simp [hx])
   simp only [List.mem_append, List.mem_cons] at this ⊢
   rcases this with h | rfl | h
   ·exact .inl h
   ·exact absurd hx hn'.1
   ·exact .inr h
  exact ⟨r, List.perm_middle.trans (by simpa using hr.cons a)⟩
def SL (ops : Array Oper) (k : Nat) (ef : To) : List BL → Prop
 | [] => True
 | ob :: r => P0 ops k ob ef ∧ SL ops k ef r
theorem Nu {ops : Array Oper} {k : Nat} {ef : To} : ∀ {l : List BL}, SL ops k ef l → ∀ ob ∈ l, P0 ops k ob ef
 | [], _, ob, h => by simp at h
 | a :: l, h, ob, hm => by
  rcases List.mem_cons.1 hm with rfl | hm
  ·exact h.1
  ·exact Nu h.2 ob hm
theorem L5 {α : Type} {H : List α} : ∀ {is : List Nat} {xs : List α}, EZ H is xs → ∀ x ∈ xs, x ∈ H
 | [], xs, h, x, hx => by simp only [EZ] at h; subst h; simp at hx
 | i :: is, xs, h, x, hx => by
  obtain ⟨y, xs', rfl, hy, hr⟩ := h
  rcases List.mem_cons.1 hx with rfl | hx
  ·exact List.mem_of_getElem? hy
  ·exact L5 hr x hx
theorem OS {α : Type} {a b : α} (h : a ≠ b) : [a, b].Nodup := by simp [h]
section
variable {P : Program} {ops : Array Oper} {n : Nat} {τ₀ : Nat → AV} {D : List Di} {Q : Ck → Bq → Prop} {opn : Nat → Bool} {k : Nat} {τ : Nat → AV} {H Hs : List BL} {rd : VB} {ef : To} {effs : List Bool} {fx : List (Nat × Sp)} {dst : Option Tmp} {ty : TypeId} {pos : String} {aft : Array Edge} {v : AV} {c : Call} {f : Operand} {fid : FuncId} {first caps A : List AV}
theorem B1 (is : List Nat) (ho : ops[k]? = some ⟨dst, .call c, ty, pos, aft, none⟩) (hn : opn k = false) (hc : c.callee = .value f) (hf : (ev τ f = .p (.fn fid) ∧ first = [] ∧ caps = []) ∨ ev τ f = .fn (.func fid) first caps) (h : Bl P fid A Hs (DG v Hs)) (hg : EZ H is Hs) (hnd : Hs.Nodup) (hA : GA (first ++ c.args.toList.map (ev τ) ++ caps) A)
  (owe : SL ops k ef Hs) (hfx : G6 k (.read Hs v) fx) (next : Dr P ops n τ₀ D Q opn (k + 1) (put τ dst v) H (Hs.map (fun ob => (k, ob)) ++ rd) ef (false :: effs) fx) : Dr P ops n τ₀ D Q opn k τ H rd ef effs fx := by
 refine .step (.read Hs v) ho hn ⟨trivial, L5 hg, fun H' hm => ?_⟩ (Nu owe) hfx next
 obtain ⟨r, hp⟩ := LH hnd hm
 refine C6.permR (Gx (H := H') hc hf hp (h.args hA) (.inl Ao)) ?_
 rintro r' H2 ⟨Hs', h1, rfl⟩
 cases r' with
 | val v' => obtain ⟨rfl, rfl⟩ := h1; exact ⟨H', hp.symm, rfl, rfl⟩
 | panic v' => exact h1.elim
end
end Go.Abs
namespace Go.Eu
open Go.Abs
theorem YS (t : Tm) : ∀ c ∈ Ba t, c ≠ .nils := by obtain ⟨k, i, n, l, s⟩ := t; simp [Ba]
theorem Cv (l : List Tm) : ∀ r ∈ BO l, ∀ c ∈ r, c ≠ .nils := by
 intro r hr
 rw [EU] at hr
 obtain ⟨t, _, rfl⟩ := List.mem_map.1 hr
 exact YS t
theorem H4 (l : List Fa) : ∀ r ∈ l.map B2, ∀ c ∈ r, c ≠ .nils := by
 intro r hr c hc
 obtain ⟨e, _, rfl⟩ := List.mem_map.1 hr
 simp only [B2, List.mem_append, List.mem_singleton] at hc
 rcases hc with h | h | h | h
 ·exact YS _ c h
 ·exact YS _ c h
 ·exact YS _ c h
 ·subst h; simp
theorem Ms (l : List CM) : ∀ r ∈ l.map CP, ∀ c ∈ r, c ≠ .nils := by
 intro r hr c hc
 obtain ⟨e, _, rfl⟩ := List.mem_map.1 hr
 simp [CP] at hc
 rcases hc with rfl | rfl <;> simp
theorem Jm {th : BF} {f x : Fa} {l : List Fa} {i : Nat} (h : l[i]? = some x) : CZ th f (l.take (i + 1)) = Jv th (CZ th f (l.take i)) x := by
 simp [CZ, List.take_add_one, h]
theorem Qb {th : BF} {f : Fa} {l : List Fa} : CZ th f (l.take 0) = f := by simp [CZ]
theorem X2 {f : Nat → Option (Nat × Nat)} {base : List AV} {l r q : Tm} (h0 : f 0 = some (0, 5)) (h1 : f 1 = some (5, 5)) (h2 : f 2 = some (10, 5)) (hb : base.length = 16) (hd : base.drop 15 = [.p (.bool false)]) : E2 f base [(0, TV l), (1, TV r), (2, TV q)] = some ((B2 ⟨l, r, q, false⟩).map .p) := by
 rw [W8 h0 h1 h2 hb Af Af Af, hd]
 simp [B2]
theorem bC {f : Nat → Option (Nat × Nat)} {base : List AV} {l r q : Tm} {s : Bool} (h0 : f 0 = some (0, 5)) (h1 : f 1 = some (5, 5)) (h2 : f 2 = some (10, 5)) (h3 : f 3 = some (15, 1)) (hb : base.length = 16) : E2 f base [(0, TV l), (1, TV r), (2, TV q), (3, .p (.bool s))] = some ((B2 ⟨l, r, q, s⟩).map .p) := by
 rw [Wu h0 h1 h2 h3 hb Af Af Af]
 simp [B2]
theorem eq_left (e : Fa) : (((B2 e).map AV.p).drop 0).take 5 = (Ba e.left).map .p := by
 simp only [B2, List.map_append, List.drop_zero]
 rw [List.take_left' Af]
theorem eq_right (e : Fa) : (((B2 e).map AV.p).drop 5).take 5 = (Ba e.right).map .p := by
 simp only [B2, List.map_append]
 rw [List.drop_left' Af, List.take_left' Af]
theorem IV (e : Fa) : (((B2 e).map AV.p).drop 10).take 5 = (Ba e.proof).map .p := by
 simp only [B2, List.map_append]
 rw [show (10 : Nat) = 5 + 5 from rfl, ← List.drop_drop, List.drop_left' Af, List.drop_left' Af, List.take_left' Af]
theorem Es (e : Fa) : ((((B2 e).map AV.p).drop 0).take 5).length = 5 := by rw [eq_left]; simp [Bh]
theorem EY (e : Fa) : ((((B2 e).map AV.p).drop 5).take 5).length = 5 := by rw [eq_right]; simp [Bh]
theorem I8 (e : Fa) : ((((B2 e).map AV.p).drop 10).take 5).length = 5 := by rw [IV]; simp [Bh]
theorem J8 (e : Fa) : ((B2 e).map AV.p)[15]? = some (.p (.bool e.same)) := by
 obtain ⟨⟨_, _, _, _, _⟩, ⟨_, _, _, _, _⟩, ⟨_, _, _, _, _⟩, s⟩ := e
 rfl
end Go.Eu
namespace Go.Abs
def Kg (P : Program) (T : TypeId) : Bool :=
 match P.underlying T with
 | some (.struct fs) => match fs.toList with
  | [f, g] => f.name != "_" && g.name != "_" && Nat.beq f.offset 0 && Nat.beq g.offset 1 && (match P.underlying f.type, P.underlying g.type with | some (.int .i64), some .bool => true | _, _ => false) && !P.stoodInHeld T && !P.eqGuardType P.depth T
  | _ => false
 | _ => false
theorem Ow {P : Program} {T : TypeId} {a c : Int} {b d : Bool} {w : World} (h : Kg P T = true) : (Op.equal T (.agg #[.int .i64 a, .bool b]) (.agg #[.int .i64 c, .bool d])).run P w = .ok (a == c && b == d) w := by
 unfold Kg at h
 split at h
 ·rename_i fs hu
  split at h
  ·rename_i f g hfs
   obtain rfl : fs = #[f, g] := by apply Array.ext'; simpa using hfs
   simp only [Bool.and_eq_true, bne_iff_ne, ne_eq, Bool.not_eq_true'] at h
   obtain ⟨⟨⟨⟨⟨⟨h1, h2⟩, h3⟩, h4⟩, h5⟩, h6⟩, h7⟩ := h
   split at h5
   ·rename_i hf hg
    have e3 := Nat.eq_of_beq_eq_true h3
    have e4 := Nat.eq_of_beq_eq_true h4
    have hp : (program).run P w = .ok P w := rfl
    have af : (isAgg f.type).run P w = .ok false w := HO hf false rfl w
    have ag : (isAgg g.type).run P w = .ok false w := HO hg false rfl w
    have pf : ∀ (x : Int) (y : Bool), (part f.type #[.int .i64 x, .bool y] f.offset).run P w = .ok (.int .i64 x) w := by
     intro x y; unfold part; simp [Sem.run_bind, af, e3]
    have pg : ∀ (x : Int) (y : Bool), (part g.type #[.int .i64 x, .bool y] g.offset).run P w = .ok (.bool y) w := by
     intro x y; unfold part; simp [Sem.run_bind, ag, e4]
    have qf : ∀ (x y : Int), (Op.equalIn 9999 f.type (.int .i64 x) (.int .i64 y)).run P w = .ok (x == y) w := by
     intro x y; rw [show (9999 : Nat) = 9998 + 1 from rfl]; unfold Op.equalIn; simp [Sem.run_bind, run_underlying hf]
    have qg : ∀ (x y : Bool), (Op.equalIn 9999 g.type (.bool x) (.bool y)).run P w = .ok (x == y) w := by
     intro x y; rw [show (9999 : Nat) = 9998 + 1 from rfl]; unfold Op.equalIn; simp [Sem.run_bind, run_underlying hg]
    unfold Op.equal
    rw [show Op.maxDepth = 9999 + 1 from rfl]
    unfold Op.equalIn
    simp only [Sem.run_bind, run_underlying hu, Result.andThen_ok, hp, h6]
    simp [Sem.run_bind, h1, h2, pf, pg, qf, qg]
    cases hac : (a == c) <;> cases hbd : (b == d) <;> simp_all [Sem.run_bind, h1, h2, pf, pg, qf, qg]
   ·cases h5
  ·cases h
 ·cases h
section
variable {P : Program} {dst : Option Tmp} {ty : TypeId} {pos : String} {aft : Array Edge} {g : Option (Nat × Bool)} {ρ : Operand → AV} {H : List BL} {x y z : Operand} {v : AV}
theorem Sj {T U : TypeId} {a c : Int} {b d : Bool} (h : Kg P T = true) (hx : ρ x = .agg [.p (.int .i64 a), .p (.bool b)]) (hy : ρ y = .agg [.p (.int .i64 c), .p (.bool d)]) : DS P ⟨dst, .binOp .eql T x y U, ty, pos, aft, g⟩ ρ H (.p (.bool (a == c && b == d))) H :=
 CK fun F w E hH hE => by
  have e1 := hE x Ac
  have e2 := hE y Ac
  rw [hx] at e1
  rw [hy] at e2
  simp only [CF, Bu, CQ] at e1 e2
  obtain ⟨vs, e1, u1, us1, rfl, rfl, u2, us2, rfl, rfl, rfl⟩ := e1
  obtain ⟨vs', e2, v1, vs1, rfl, rfl, v2, vs2, rfl, rfl, rfl⟩ := e2
  refine ⟨.bool (a == c && b == d), ?_, by simp [CF, CQ]⟩
  have hq := Ow (P := P) (T := T) (a := a) (b := b) (c := c) (d := d) (w := w) h
  have h' := h
  have hg : (eqGuard .eql T x y (.agg #[.int .i64 a, .bool b]) (.agg #[.int .i64 c, .bool d])).run P w = .ok () w := by
   unfold Kg at h'
   split at h'
   ·split at h'
    ·simp only [Bool.and_eq_true, Bool.not_eq_true'] at h'
     have h7 := h'.2
     have hp : (program).run P w = .ok P w := rfl
     unfold eqGuard
     simp [Sem.run_bind, hp, h7]
    ·cases h'
   ·cases h'
  simp [execOp, Sem.run_bind, hg, e1, e2, binOp, hq]
end
end Go.Abs
namespace Go.Eu
open Go.Abs
def Rz {σ α : Type} (st : σ → Int → α → σ) (xs : List α) : Nat → σ → σ
 | 0, s => s
 | m + 1, s => Rz st xs m (match xs[m]? with | some x => st s m x | none => s)
theorem Ta {σ α : Type} {st : σ → Int → α → σ} {xs : List α} {m j : Nat} {x : α} {s : σ} (hx : xs[j]? = some x) (hm : m = j + 1) : Rz st xs (m - 1) (st s ((m : Int) - 1) x) = Rz st xs m s := by
 subst hm
 rw [Nat.add_sub_cancel, Rz, hx]
 simp only
 congr 2
 omega
def PY (th : BF) (A : List Tm) (s : Tm) (d : Int) (x : CM) : Tm := CI th (CU th A x) s
theorem Q9 {th : BF} {A : List Tm} {l : List CM} : ∀ (m : Nat), m ≤ l.length → Rz (PY th A) l m (BS th A (l.drop m)) = BS th A l
 | 0, _ => by simp [Rz]
 | m + 1, hm => by
  obtain ⟨x, hx⟩ : ∃ x, l[m]? = some x := ⟨_, List.getElem?_eq_getElem Am⟩
  have h2 : l.drop m = x :: l.drop (m + 1) := by
   obtain ⟨h1, h3⟩ := List.getElem?_eq_some_iff.1 hx
   rw [List.drop_eq_getElem_cons h1, h3]
  have ih := Q9 (th := th) (A := A) (l := l) m Am
  rw [h2] at ih
  rw [Rz, hx]
  exact ih
theorem Rr {th : BF} {A : List Tm} {l : List CM} : Rz (PY th A) l l.length (BP th.zero []) = BS th A l := by
 have := Q9 (th := th) (A := A) (l := l) l.length (Nat.le_refl _)
 rw [List.drop_length] at this
 exact this
theorem KG {α : Type} {l : List α} {x : α} (h : l[0]? = some x) : l = x :: l.drop 1 := by
 cases l with
 | nil => simp at h
 | cons a l => simp at h; subst h; rfl
section
variable {th : BF} {A : List Tm} {x y : CM} {l a b : List CM}
theorem Tg (h : l = [] ∨ ∃ y, l[0]? = some y ∧ (x.place < y.place ∨ (x.place = y.place ∧ x.minus = y.minus))) : CW th A x l = (DJ th (CI th (CU th A x) (BS th A l)), x :: l) := by
 rcases h with rfl | ⟨y, h0, h1⟩
 ·rfl
 ·rw [KG h0]
  unfold CW
  rw [if_pos h1]
theorem Sy (h0 : l[0]? = some y) (h1 : ¬ (x.place < y.place ∨ (x.place = y.place ∧ x.minus = y.minus))) (h2 : x.place = y.place) : CW th A x l = (CZ th (Fe th (Dk th (CU th A x) (CU th A y) (BS th A (l.drop 1)))) [Ei th (Gi th A x) (DJ th (BS th A (l.drop 1))), HT th (BS th A (l.drop 1))], l.drop 1) := by
 rw [KG h0]
 unfold CW
 rw [if_neg h1, if_pos h2]
 rfl
theorem SZ (h0 : l[0]? = some y) (h1 : ¬ (x.place < y.place ∨ (x.place = y.place ∧ x.minus = y.minus))) (h2 : ¬ x.place = y.place) : CW th A x l = (CZ th (Fe th (Dk th (CU th A x) (CU th A y) (BS th A (l.drop 1)))) [Ei th (GD th (CU th A x) (CU th A y)) (DJ th (BS th A (l.drop 1))), Dk th (CU th A y) (CU th A x) (BS th A (l.drop 1)), DE th (BP th.add [CU th A y]) (CW th A x (l.drop 1)).1], y :: (CW th A x (l.drop 1)).2) := by
 rw [KG h0]
 rw [CW, if_neg h1, if_neg h2]
 rfl
theorem RV : Ct th A b [] = (HT th (BS th A b), b) := rfl
theorem QR (h0 : a[0]? = some x) : Ct th A b a = (CZ th (Dk th (CU th A x) (BS th A (a.drop 1)) (BS th A b)) [DE th (BP th.add [CU th A x]) (Ct th A b (a.drop 1)).1, (CW th A x (Ct th A b (a.drop 1)).2).1], (CW th A x (Ct th A b (a.drop 1)).2).2) := by
 rw [KG h0]; rfl
theorem PN (h0 : l[0]? = some x) : Cl th A l = (CZ th (EH th 4 (CX th (CI th (CU th A x) (BS th A (l.drop 1)))) (CI th (CX th (CU th A x)) (CX th (BS th A (l.drop 1)))) [CU th A x, BS th A (l.drop 1)]) [Ei th (Ha th A x) (Cl th A (l.drop 1)).1], ⟨x.place, !x.minus⟩ :: (Cl th A (l.drop 1)).2) := by
 rw [KG h0]; rfl
def Fm (A : List Tm) (x : CM) : Prop := 0 ≤ x.place ∧ x.place.toNat < A.length
theorem HB (h : ∀ y ∈ l, Fm A y) : ∀ y ∈ l.drop 1, Fm A y := fun y hy => h y (List.mem_of_mem_drop hy)
theorem Pq (h : ∀ y ∈ l, Fm A y) (h0 : l[0]? = some y) : Fm A y := h y (List.mem_of_getElem? h0)
end
theorem NM {th : BF} {A : List Tm} {x : CM} (hx : Fm A x) : ∀ l : List CM, (∀ y ∈ l, Fm A y) → ∀ y ∈ (CW th A x l).2, Fm A y
 | [], h => by intro y hy; simp [CW] at hy; subst hy; exact hx
 | z :: l, h => by
  intro y hy
  unfold CW at hy
  split at hy
  ·rcases List.mem_cons.1 hy with rfl | hy
   ·exact hx
   ·exact h y hy
  ·split at hy
   ·exact h y (List.mem_cons_of_mem _ hy)
   ·rcases List.mem_cons.1 hy with rfl | hy
    ·exact h _ An
    ·exact NM hx l (fun q hq => h q (by simp [hq])) y hy
theorem MP {th : BF} {A : List Tm} {b : List CM} (hb : ∀ y ∈ b, Fm A y) : ∀ a : List CM, (∀ y ∈ a, Fm A y) → ∀ y ∈ (Ct th A b a).2, Fm A y
 | [], h => hb
 | x :: a, h => NM (h x An) _ (MP hb a fun q hq => h q (by simp [hq]))
theorem Nl {th : BF} {A : List Tm} : ∀ l : List CM, (∀ y ∈ l, Fm A y) → ∀ y ∈ (Cl th A l).2, Fm A y
 | [], h => by intro y hy; simp [Cl] at hy
 | x :: l, h => by
  intro y hy
  rcases List.mem_cons.1 hy with rfl | hy
  ·exact h x An
  ·exact Nl l (fun q hq => h q (by simp [hq])) y hy
theorem Jw {th : BF} {A : List Tm} {x : CM} : ∀ l : List CM, (CW th A x l).2.length ≤ l.length + 1
 | [] => by simp [CW]
 | z :: l => by
  have := Jw (th := th) (A := A) (x := x) l
  unfold CW
  split
  ·simp
  ·split
   ·simp; omega
   ·simp; omega
theorem Kx {th : BF} {A : List Tm} {b : List CM} : ∀ a : List CM, (Ct th A b a).2.length ≤ a.length + b.length
 | [] => by simp [Ct]
 | x :: a => by
  have := Kx (th := th) (A := A) (b := b) a
  have := Jw (th := th) (A := A) (x := x) (Ct th A b a).2
  simp only [Ct, List.length_cons]; omega
theorem ID {th : BF} {A : List Tm} : ∀ l : List CM, (Cl th A l).2.length = l.length
 | [] => rfl
 | x :: l => by simp [Cl, ID l]
end Go.Eu
namespace Go.Eu
theorem Th {a b : Int} {x y : Bool} (h : (a == b && x == y) = true) : a = b ∧ x = y := by simpa using h
theorem S3 {a b : Int} {x y : Bool} (h1 : ¬ a < b) (h : (a == b && x == y) = false) : ¬ (a < b ∨ (a = b ∧ x = y)) := by
 rintro (h2 | ⟨rfl, rfl⟩)
 ·exact h1 h2
 ·simp at h
end Go.Eu
namespace Go.Eu
open Go.Abs
theorem Fi {th : BF} {A : List Tm} : ∀ (n : Nat) (t : Tm), (Bk th A n t).2.length ≤ (Cs th n t).length
 | 0, t => by simp [Bk]
 | n + 1, t => by
  unfold Bk Cs
  split
  ·have h1 := Fi (th := th) (A := A) n ((C8 th t).2.getD 0 BQ)
   have h2 := Fi (th := th) (A := A) n ((C8 th t).2.getD 1 BQ)
   have := Kx (th := th) (A := A) (b := (Bk th A n ((C8 th t).2.getD 1 BQ)).2) (Bk th A n ((C8 th t).2.getD 0 BQ)).2
   simp only [List.length_append]; omega
  ·split
   ·simp
   ·split
    ·have h1 := Fi (th := th) (A := A) n ((C8 th t).2.getD 0 BQ)
     simp only [ID]; exact h1
    ·simp
theorem Gn {th : BF} {A : List Tm} : ∀ (n : Nat) (t : Tm), (∀ a ∈ Cs th n t, a ∈ A) → ∀ y ∈ (Bk th A n t).2, Fm A y
 | 0, t, _ => by intro y hy; simp [Bk] at hy
 | n + 1, t, h => by
  unfold Cs at h
  unfold Bk
  split
  ·rename_i ho
   rw [if_pos ho] at h
   exact MP (Gn n _ fun a ha => h a (List.mem_append_right _ ha)) _ (Gn n _ fun a ha => h a (List.mem_append_left _ ha))
  ·rename_i ho
   rw [if_neg ho] at h
   split
   ·intro y hy; simp at hy
   ·rename_i ho2
    rw [if_neg ho2] at h
    split
    ·rename_i ho3
     rw [if_pos ho3] at h
     exact Nl _ (Gn n _ h)
    ·rename_i ho3
     rw [if_neg ho3] at h
     intro y hy
     simp only [List.mem_singleton] at hy
     subst hy
     have := Em (h t An)
     exact ⟨by simp, by simpa using this.1⟩
section
variable {th : BF} {A : List Tm} {n : Nat} {t x y : Tm}
theorem QT (h : (C8 th t).1 = 1) (hx : (C8 th t).2[0]? = some x) (hy : (C8 th t).2[1]? = some y) : Bk th A (n + 1) t = (CZ th (Ei th (Bk th A n x).1 (Bk th A n y).1) [(Ct th A (Bk th A n y).2 (Bk th A n x).2).1], (Ct th A (Bk th A n y).2 (Bk th A n x).2).2) := by
 rw [Bk, if_pos h, Cm hx, Cm hy]
theorem PG (h : (C8 th t).1 = 2) : Bk th A (n + 1) t = (DJ th t, []) := by
 rw [Bk, if_neg (by rw [h]; decide), if_pos h]
theorem QS (h : (C8 th t).1 = 3) (hx : (C8 th t).2[0]? = some x) : Bk th A (n + 1) t = (CZ th (DE th (BP th.neg []) (Bk th A n x).1) [(Cl th A (Bk th A n x).2).1], (Cl th A (Bk th A n x).2).2) := by
 rw [Bk, if_neg (by rw [h]; decide), if_neg (by rw [h]; decide), if_pos h, Cm hx]
theorem O9 (h : (C8 th t).1 = 0) : Bk th A (n + 1) t = (CZ th (Fe th (HT th t)) [GD th (BP th.zero []) t], [⟨(Cu A t : Int), false⟩]) := by
 rw [Bk, if_neg (by rw [h]; decide), if_neg (by rw [h]; decide), if_neg (by rw [h]; decide)]
theorem Rb (h : (C8 th t).1 = 1) (hx : (C8 th t).2[0]? = some x) (hy : (C8 th t).2[1]? = some y) : Cs th (n + 1) t = Cs th n x ++ Cs th n y := by
 rw [Cs, if_pos h, Cm hx, Cm hy]
theorem Rl (h : (C8 th t).1 = 3) (hx : (C8 th t).2[0]? = some x) : Cs th (n + 1) t = Cs th n x := by
 rw [Cs, if_neg (by rw [h]; decide), if_neg (by rw [h]; decide), if_pos h, Cm hx]
theorem QK (h : (C8 th t).1 = 0) : Cs th (n + 1) t = [t] := by
 rw [Cs, if_neg (by rw [h]; decide), if_neg (by rw [h]; decide), if_neg (by rw [h]; decide)]
end
theorem Ce {α : Type} (a : α) : [a].Nodup := by simp
theorem Kv {p c m : Nat} {ps cs : List AV} {es : List (PV × AV)} {GL : List (Nat × Obj)} (h : ps.length ≠ cs.length) : [BL.box p ps, .box c cs, .map m es, .glob GL].Nodup := by
 simp; rintro rfl rfl; exact h rfl
theorem SD {c m : Nat} {cs : List AV} {es : List (PV × AV)} {GL : List (Nat × Obj)} : [BL.box c cs, .map m es, .glob GL].Nodup := by simp
end Go.Eu
namespace Go.Eu
theorem Pg {th : BF} {A : List Tm} {x : CM} {a b : List CM} {q : Fa × List CM} (h0 : a[0]? = some x) (hq : Ct th A b (a.drop 1) = q) : Ct th A b a = (CZ th (Dk th (CU th A x) (BS th A (a.drop 1)) (BS th A b)) [DE th (BP th.add [CU th A x]) q.1, (CW th A x q.2).1], (CW th A x q.2).2) := by
 subst hq; exact QR h0
theorem KY {th : BF} {A : List Tm} {x : CM} {l : List CM} {q : Fa × List CM} (h0 : l[0]? = some x) (hq : Cl th A (l.drop 1) = q) : Cl th A l = (CZ th (EH th 4 (CX th (CI th (CU th A x) (BS th A (l.drop 1)))) (CI th (CX th (CU th A x)) (CX th (BS th A (l.drop 1)))) [CU th A x, BS th A (l.drop 1)]) [Ei th (Ha th A x) q.1], ⟨x.place, !x.minus⟩ :: q.2) := by
 subst hq; exact PN h0
end Go.Eu
namespace Go.Eu
open Go.Abs
def OM (ds : List Jp) (s : ByteArray) : Bool := ds.any fun d => decide (d.name = s)
def N4 (ds : List Jp) (l : List ByteArray) : Bool := l.any fun s => !OM ds s
def Up (ds : List Jp) : List ByteArray → Int → Int
 | [], _ => -1
 | s :: l, i => if OM ds s then Up ds l (i + 1) else i
theorem S9 {ds : List Jp} {l : List ByteArray} {i : Nat} {s : ByteArray} {k : Int} (h : l[i]? = some s) : Up ds (l.drop i) k = if OM ds s then Up ds (l.drop (i + 1)) (k + 1) else k := by
 rw [Dc h]; rfl
theorem Qk {ds : List Jp} : ∀ (l : List ByteArray) (i : Int), 0 ≤ i → decide (Up ds l i ≥ 0) = N4 ds l
 | [], i, h => rfl
 | s :: l, i, h => by
  simp only [Up, N4, List.any_cons]
  by_cases e : OM ds s = true
  ·simpa [e, N4] using Qk l (i + 1) Am
  ·simp [e]; exact h
def N8 (th : BF) : List ByteArray := [th.carrier, th.add, th.zero, th.neg, ⟨#[69, 113]⟩, ⟨#[69, 113, 46, 114, 101, 102, 108]⟩, ⟨#[69, 113, 46, 115, 121, 109, 109]⟩, ⟨#[69, 113, 46, 116, 114, 97, 110, 115]⟩, ⟨#[69, 113, 46, 99, 111, 110, 103, 114]⟩] ++ th.lemmas.take 7
section
variable {th : BF} {C : GV} {t : Tm} {s : Int}
theorem Je (h : Gs C) (ha : C.all ≤ 200) : (GR C t s).all = C.all + 1 ∧ t ∈ (GR C t s).atoms ∧ ∀ a ∈ C.atoms, a ∈ (GR C t s).atoms := by
 have hw : wr (C.all + 1) = C.all + 1 := HU (by have := h.lo; constructor <;> omega)
 unfold GR
 by_cases hm : t ∈ C.atoms
 ·rw [if_pos (Em hm).1]; exact ⟨hw, hm, fun a h => h⟩
 ·rw [if_neg (FC hm)]; exact ⟨hw, by simp, fun a h => by simp [h]⟩
theorem G2 : ∀ (n : Nat) (C : GV) (t : Tm) (s : Int), Gs C → C.all ≤ (B7 th n C t s).all
 | 0, C, t, s, h => Int.le_refl _
 | n + 1, C, t, s, h => by
  unfold B7
  split
  ·exact Int.le_refl _
  ·split
   ·exact Int.le_trans (G2 n _ _ _ h) (G2 n _ _ _ (Dv _ _ _ _ h))
   ·split
    ·exact Int.le_refl _
    ·split
     ·exact G2 n _ _ _ h
     ·rw [(Je h Am).1]; omega
theorem F6 : ∀ (n : Nat) (C : GV) (t : Tm) (s : Int), Gs C → (B7 th n C t s).all ≤ 200 → (B7 th n C t s).all = C.all + (Cs th n t).length ∧ (∀ a ∈ Cs th n t, a ∈ (B7 th n C t s).atoms) ∧ ∀ a ∈ C.atoms, a ∈ (B7 th n C t s).atoms
 | 0, C, t, s, h, hl => by simp [B7, Cs]
 | n + 1, C, t, s, h, hl => by
  have hC : ¬ C.all > 200 := by have := G2 (th := th) (n + 1) C t s h; omega
  unfold B7 at hl ⊢
  unfold Cs
  rw [if_neg hC] at hl ⊢
  by_cases h1 : (C8 th t).1 = 1
  ·rw [if_pos h1] at hl ⊢
   rw [if_pos h1]
   have hk := Dv (th := th) n C ((C8 th t).2.getD 0 BQ) s h
   obtain ⟨e2, a2, b2⟩ := F6 n _ _ _ hk hl
   obtain ⟨e1, a1, b1⟩ := F6 n C ((C8 th t).2.getD 0 BQ) s h (by have := G2 (th := th) n _ ((C8 th t).2.getD 1 BQ) s hk; omega)
   refine ⟨by rw [e2, e1, List.length_append]; omega, fun a ha => ?_, fun a ha => b2 a (b1 a ha)⟩
   rcases List.mem_append.1 ha with ha | ha
   ·exact b2 a (a1 a ha)
   ·exact a2 a ha
  ·rw [if_neg h1] at hl ⊢
   rw [if_neg h1]
   by_cases h2 : (C8 th t).1 = 2
   ·rw [if_pos h2, if_pos h2]; simp
   ·rw [if_neg h2] at hl ⊢
    rw [if_neg h2]
    by_cases h3 : (C8 th t).1 = 3
    ·rw [if_pos h3] at hl ⊢
     rw [if_pos h3]
     exact F6 n _ _ _ h hl
    ·rw [if_neg h3, if_neg h3]
     obtain ⟨e, a, b⟩ := Je (t := t) (s := s) h Am
     exact ⟨by rw [e]; simp, by simpa using a, b⟩
theorem F3 {N : Nat} : ∀ (n : Nat) (C : GV) (t : Tm) (s : Int), (∀ a ∈ C.atoms, size a ≤ N) → Fb t → size t ≤ N → ∀ a ∈ (B7 th n C t s).atoms, size a ≤ N
 | 0, C, t, s, h, _, _ => h
 | n + 1, C, t, s, h, ht, hs => by
  unfold B7
  split
  ·exact h
  ·split
   ·rename_i ho
    obtain ⟨h1, h2, h3⟩ := ht.op.1 ho
    exact F3 n _ _ _ (F3 n _ _ _ h h1 Am) h2 Am
   ·split
    ·exact h
    ·split
     ·rename_i ho
      obtain ⟨h1, h3⟩ := ht.op.2 ho
      exact F3 n _ _ _ h h1 Am
     ·unfold GR
      split
      ·exact h
      ·intro a ha
       rcases List.mem_append.1 ha with ha | ha
       ·exact h a ha
       ·simp at ha; subst ha; exact hs
theorem J6 : ∀ (n : Nat) (t : Tm), Fb t → (Cs th n t).length ≤ size t
 | 0, t, _ => by simp [Cs]
 | n + 1, t, ht => by
  have := size_pos t
  unfold Cs
  split
  ·rename_i ho
   obtain ⟨h1, h2, h3⟩ := ht.op.1 ho
   have := J6 n _ h1
   have := J6 n _ h2
   rw [List.length_append]; omega
  ·split
   ·simp
   ·split
    ·rename_i ho
     obtain ⟨h1, h3⟩ := ht.op.2 ho
     have := J6 n _ h1
     omega
    ·simp; omega
theorem NN (ht : Fb t) (hs : size t ≤ 4096) (hl : (Cq th t).all ≤ 60) : (∀ a ∈ Cs th (size t) t, a ∈ (Cq th t).atoms) ∧ (Cs th (size t) t).length ≤ 60 ∧ (∀ a ∈ (Cq th t).atoms, LX a) ∧ TI (Cq th t).atoms ∧ (Cq th t).coefs.length < 1000 := by
 obtain ⟨e, a, -⟩ := F6 (th := th) (size t) ⟨[], [], 0⟩ t 1 JM (by show (Cq th t).all ≤ 200; omega)
 have e' : (Cq th t).all = 0 + ((Cs th (size t) t).length : Int) := e
 have g := O3 (th := th) ht Am
 have k := Qu th t
 refine ⟨a, by omega, g.nq, ⟨g.nds, ?_⟩, by rw [k.len]; exact k.lt⟩
 exact F3 (th := th) (size t) ⟨[], [], 0⟩ t 1 An ht hs
theorem Se (h : GU th) (ht : Fb t) (hs : size t ≤ 4096) (hl : (Cq th t).all ≤ 60) : Nd (Bk th (Cq th t).atoms (size t) t).1.proof ∧ size (Bk th (Cq th t).atoms (size t) t).1.proof < 1152921504606846976 := by
 obtain ⟨a, b, -, c, -⟩ := NN (th := th) ht hs hl
 have := (J7 h c (size t) t (Nat.le_refl _) ht hs Am a).1
 refine ⟨this.nd, Nat.lt_of_le_of_lt this.sz ?_⟩
 have : 50000000000 * size t ≤ 50000000000 * 4096 := Nat.mul_le_mul_left _ hs
 omega
theorem H9 : ∀ (n : Nat) (C : GV) (t : Tm) (s : Int), Gs C → (B7 th n C t s).all ≤ C.all + (Cs th n t).length
 | 0, C, t, s, h => by simp [B7, Cs]
 | n + 1, C, t, s, h => by
  unfold B7 Cs
  split
  ·omega
  ·split
   ·have := H9 n C ((C8 th t).2.getD 0 BQ) s h
    have := H9 n (B7 th n C ((C8 th t).2.getD 0 BQ) s) ((C8 th t).2.getD 1 BQ) s (Dv _ _ _ _ h)
    rw [List.length_append]; omega
   ·split
    ·simp
    ·split
     ·exact H9 n _ _ _ h
     ·rw [(Je h Am).1]; simp
theorem Vk (ht : Fb t) : (Cq th t).all ≤ size t := by
 have e : (Cq th t).all ≤ 0 + ((Cs th (size t) t).length : Int) := H9 (th := th) (size t) ⟨[], [], 0⟩ t 1 JM
 have := J6 (th := th) (size t) t ht
 omega
end
theorem QI (l : List Eg) : ∀ r ∈ l.map Db, ∀ c ∈ r, c ≠ .nils := by
 intro r hr c hc
 obtain ⟨e, _, rfl⟩ := List.mem_map.1 hr
 simp [Db] at hc
 rcases hc with rfl | rfl <;> simp
theorem Om (l : List C7) : ∀ r ∈ l.map D5, ∀ c ∈ r, c ≠ .nils := by
 intro r hr c hc
 obtain ⟨e, _, rfl⟩ := List.mem_map.1 hr
 simp [D5] at hc
 rcases hc with rfl | rfl <;> simp
theorem Vm (l : List Jp) : ∀ r ∈ l.map DL, ∀ c ∈ r, c ≠ .nils := by
 intro r hr c hc
 obtain ⟨e, _, rfl⟩ := List.mem_map.1 hr
 simp only [DL, TC, List.mem_cons, List.mem_append, List.not_mem_nil, or_false] at hc
 rcases hc with rfl | rfl | rfl | hc | hc | rfl | rfl | (rfl | hc | rfl) | rfl
 all_goals first | exact YS _ _ hc | simp
def DN (n : ByteArray) (p : Int) (t : Tm) : Jp := ⟨0, n, p, t, BQ, 0, [], ⟨0, BQ, []⟩, []⟩
theorem V8 {b : Int} (h : 0 ≤ b ∧ b < 100) : Nd (.mk 0 b ⟨#[]⟩ [] []) := by
 simp [Nd, II, Dp, JS, show (⟨#[]⟩ : ByteArray).size = 0 from rfl]; omega
def It : BF := BF.mk ⟨#[90]⟩ ⟨#[97, 100, 100]⟩ ⟨#[122, 101, 114, 111]⟩ ⟨#[110, 101, 103]⟩ ⟨#[111, 110, 101]⟩ ⟨#[108, 101, 113]⟩ [⟨#[108, 48]⟩, ⟨#[108, 49]⟩, ⟨#[108, 50]⟩, ⟨#[108, 51]⟩, ⟨#[108, 52]⟩, ⟨#[108, 53]⟩, ⟨#[108, 54]⟩, ⟨#[108, 55]⟩, ⟨#[108, 56]⟩, ⟨#[108, 57]⟩, ⟨#[108, 49, 48]⟩, ⟨#[108, 49, 49]⟩, ⟨#[108, 49, 50]⟩, ⟨#[108, 49, 51]⟩]
def aX : Tm := .mk 0 4 ⟨#[]⟩ [] []
def aY : Tm := .mk 0 2 ⟨#[]⟩ [] []
def aZ : Tm := BP ⟨#[122, 101, 114, 111]⟩ []
def Iw (a b : Tm) : Tm := BP ⟨#[97, 100, 100]⟩ [a, b]
def Jr (a : Tm) : Tm := BP ⟨#[110, 101, 103]⟩ [a]
def Vn : Tm := Iw (Iw aX (Jr aY)) aX
def VQ : Tm := Iw aX (Jr aX)
def Tk : Tm := Jr (Jr (Iw aX aZ))
theorem HY {k i : Int} {n : ByteArray} (hk : (k = 0 ∧ n = ⟨#[]⟩) ∨ (k = 3 ∧ i = 0)) (hi : 0 ≤ i ∧ i < 100) (hn : n.size ≤ 200) (hp : ∀ c ∈ n.data.toList, Q8 c) : Fb (.mk k i n [] []) := by
 have hr : II i := ⟨by omega, by omega⟩
 have hs : n.size < Dp := by simp only [Dp]; omega
 rcases hk with ⟨rfl, rfl⟩ | ⟨rfl, rfl⟩
 ·exact ⟨⟨⟨fun h => absurd Ao h, fun _ => Ao, fun _ _ => Ao, Ao⟩, trivial⟩, ⟨hs, by decide, by simp, by decide, trivial, ⟨by decide, by decide⟩, hr⟩, ⟨hp, trivial⟩, ⟨hn, by simp, by simp, trivial⟩⟩
 ·exact ⟨⟨⟨fun _ _ => Ao, fun h => absurd Ao h, fun _ h => absurd Ao h, Ao⟩, trivial⟩, ⟨hs, by decide, by simp, by decide, trivial, ⟨by decide, by decide⟩, hr⟩, ⟨hp, trivial⟩, ⟨hn, by simp, by simp, trivial⟩⟩
theorem N3 {f x : Tm} (hf : Fb f) (hx : Fb x) : Fb (.mk 4 0 ⟨#[]⟩ [] [f, x]) :=
 ⟨⟨⟨fun _ _ => rfl, fun _ => rfl, fun _ _ => rfl, rfl⟩, hf.cn, hx.cn, trivial⟩, ⟨by decide, by decide, by simp, by simp [Dp], ⟨hf.nd, hx.nd, trivial⟩, ⟨by decide, by decide⟩, ⟨by decide, by decide⟩⟩, ⟨by simp, hf.nq, hx.nq, trivial⟩, ⟨by decide, by simp, by simp, hf.fw, hx.fw, trivial⟩⟩
theorem KZ : Fb aX := HY (.inl ⟨rfl, rfl⟩) Al Al An
theorem SY : Fb aY := HY (.inl ⟨rfl, rfl⟩) Al Al An
theorem Qq : Fb aZ := HY (.inr ⟨rfl, rfl⟩) Al Al (by simp [Q8])
theorem HA {a b : Tm} (ha : Fb a) (hb : Fb b) : Fb (Iw a b) := N3 (N3 (HY (.inr ⟨rfl, rfl⟩) Al Al (by simp [Q8])) ha) hb
theorem KB {a : Tm} (ha : Fb a) : Fb (Jr a) := N3 (HY (.inr ⟨rfl, rfl⟩) Al Al (by simp [Q8])) ha
theorem W5 : Fb Vn := HA (HA KZ (KB SY)) KZ
theorem W3 : Fb VQ := HA KZ (KB KZ)
theorem XC : Fb Tk := KB (KB (HA KZ Qq))
theorem Yc : aX ≠ aY := by intro h; injection h with _ h; exact absurd h Al
theorem PM {C : GV} {t : Tm} {s : Int} (h : t ∉ C.atoms) : GR C t s = ⟨C.coefs ++ [s], C.atoms ++ [t], wr (C.all + 1)⟩ := by
 unfold GR; rw [if_neg (FC h)]
theorem NQ {c al : Int} {cs : List Int} {A : List Tm} {t : Tm} {s : Int} : GR ⟨c :: cs, t :: A, al⟩ t s = ⟨wr (c + s) :: cs, t :: A, wr (al + 1)⟩ := by
 have h0 : Cu (t :: A) t = 0 := by simp [Cu, List.findIdx_cons, NF]
 unfold GR; simp only [h0]; simp
theorem Zt (a b : Tm) : C8 It (Iw a b) = (1, [a, b]) := by
 have e : Bo (Iw a b) = (.mk 3 0 ⟨#[97, 100, 100]⟩ [] [], [a, b]) := by simp [Iw, Jr, BP, apply, L7, Bo]
 simp [C8, e, DK, Tm.kind, Tm.name, Tm.levels, It]
theorem ay (a : Tm) : C8 It (Jr a) = (3, [a]) := by
 have e : Bo (Jr a) = (.mk 3 0 ⟨#[110, 101, 103]⟩ [] [], [a]) := by simp [Iw, Jr, BP, apply, L7, Bo]
 simp [C8, e, DK, Tm.kind, Tm.name, Tm.levels, It, Dw]
theorem bN : C8 It aZ = (2, []) := by
 have e : Bo aZ = (.mk 3 0 ⟨#[122, 101, 114, 111]⟩ [] [], []) := by simp [aZ, BP, apply, L7, Bo]
 simp [C8, e, DK, Tm.kind, Tm.name, Tm.levels, It, Dw]
theorem Og {n : Nat} {C : GV} {a b : Tm} {s : Int} (h : ¬ C.all > 200) : B7 It (n + 1) C (Iw a b) s = B7 It n (B7 It n C a s) b s := Hw h (by rw [Zt]) (by rw [Zt]; rfl) (by rw [Zt]; rfl)
theorem OC {n : Nat} {C : GV} {a : Tm} {s : Int} (h : ¬ C.all > 200) : B7 It (n + 1) C (Jr a) s = B7 It n C a (wr (0 - s)) := Hy h (by rw [ay]) (by rw [ay]; rfl)
theorem Tw {n : Nat} {C : GV} {s : Int} (h : ¬ C.all > 200) : B7 It (n + 1) C aZ s = C := HM h (by rw [bN])
theorem V1 {n : Nat} {C : GV} {s : Int} (h : ¬ C.all > 200) : B7 It (n + 1) C aX s = GR C aX s := Fx h rfl
theorem ZP {n : Nat} {C : GV} {s : Int} (h : ¬ C.all > 200) : B7 It (n + 1) C aY s = GR C aY s := Fx h rfl
theorem XQ : size Vn = 11 := by simp [Vn, Iw, Jr, aX, aY, BP, apply, L7, size, By]
theorem Xh : size VQ = 7 := by simp [VQ, Iw, Jr, aX, BP, apply, L7, size, By]
theorem XA : size Tk = 9 := by simp [Tk, Iw, Jr, aX, aZ, BP, apply, L7, size, By]
theorem VT (n : Nat) : B7 It (n + 1) ⟨[], [], 0⟩ aX 1 = ⟨[1], [aX], 1⟩ := by rw [V1 Al, PM An]; rfl
theorem U9 : Cq It Vn = ⟨[2, -1], [aX, aY], 3⟩ := by
 have e2 : B7 It 9 ⟨[1], [aX], 1⟩ (Jr aY) 1 = ⟨[1, -1], [aX, aY], 2⟩ := by
  rw [OC Al, ZP Al, PM (by simpa using Ne.symm Yc)]; rfl
 unfold Cq
 rw [XQ, Vn, Og Al, Og Al, VT, e2, V1 Al, NQ]; rfl
theorem U5 : Cq It VQ = ⟨[0], [aX], 2⟩ := by
 unfold Cq
 rw [Xh, VQ, Og Al, VT, OC Al, V1 Al, NQ]; rfl
theorem YL : Cq It Tk = ⟨[1], [aX], 1⟩ := by
 unfold Cq
 rw [XA, Tk, OC Al, OC Al, Og Al]
 show B7 It 6 (B7 It 6 ⟨[], [], 0⟩ aX 1) aZ 1 = _
 rw [VT, Tw Al]
theorem V4 : EP It Vn = ([2, -1], [aX, aY], 0) := by rw [Hr (by rw [U9]; decide), U9]
theorem WB : EP It VQ = ([0], [aX], 0) := by rw [Hr (by rw [U5]; decide), U5]
theorem VI : Gd It [2, -1] [aX, aY] = Iw aX (Iw aX (Iw (Jr aY) aZ)) := by rfl
theorem U2 : Gd It [0] [aX] = aZ := by rfl
theorem VA : Gd It (Cq It Tk).coefs (Cq It Tk).atoms = Iw aX aZ := by rw [YL]; rfl
theorem X7 : GU It := ⟨by decide, by decide, by decide, by decide, by simp [It]; decide⟩
theorem Xl : size Vn < 1000000 := by rw [XQ]; decide
theorem Wv : size VQ < 1000000 := by rw [Xh]; decide
theorem Ws : size Tk ≤ 16 := by rw [XA]; decide
theorem YB : Nd (Gd It [2, -1] [aX, aY]) := by rw [VI]; exact (HA KZ (HA KZ (HA (KB SY) Qq))).nd
theorem Yd : Nd (Gd It [0] [aX]) := by rw [U2]; exact Qq.nd
theorem Xq : Nd (Gd It (Cq It Tk).coefs (Cq It Tk).atoms) := by rw [VA]; exact (HA KZ Qq).nd
theorem RK {th : BF} (h : GU th) {x o : Tm} (hx : Nd x) (ho : Nd o) : ∀ k, Nd (Gz th x k o)
 | 0 => ho
 | k + 1 => FY h.add ⟨hx, RK h hx ho k, trivial⟩
theorem UA {th : BF} (h : GU th) {n : Int} {x : Tm} (hx : Nd x) : Nd (KX th n x) := by
 unfold KX; split
 ·exact FY h.neg ⟨hx, trivial⟩
 ·exact hx
theorem Qj {th : BF} (h : GU th) : ∀ (cs : List Int) (us : List Tm), (∀ t ∈ us, Nd t) → Nd (G4 th cs us)
 | [], us, hu => by simp only [G4]; exact Ew h
 | c :: cs, [], hu => by simp only [G4]; exact Ew h
 | c :: cs, u :: us, hu => by
  simp only [G4]
  exact RK h (UA h (hu u An)) (Qj h cs us fun t ht => hu t (by simp [ht])) _
theorem Tq {th : BF} (h : GU th) {cs : List Int} {us : List Tm} (hu : ∀ t ∈ us, Nd t) : Nd (Gd th cs us) := by
 unfold Gd; split
 ·exact Qj h cs us hu
 ·exact HY (.inl ⟨Ao, Ao⟩) Al Al An |>.nd
theorem ZF {s : ByteArray} {c : UInt8} {l : List UInt8} (h : s.data.toList = c :: l) : s.get! 0 = c := by
 have h2 : s.data[0]? = some c := by rw [← Array.getElem?_toList, h]; rfl
 show s.data[0]! = c
 rw [getElem!_def, h2]
theorem RE {s : ByteArray} {c : UInt8} {l : List UInt8} (h : s.data.toList = c :: l) (hc : Q8 c) : Go.Utf8.decode s 0 = (c.toNat, 1) := by
 unfold Go.Utf8.decode
 have := hc.2.2.2
 simp only [Nat.add_zero, ZF h]
 rw [if_pos Am]
theorem Tx (T : Go.Lib.PrintTabs) {c : UInt8} (hc : Q8 c) : Go.Lib.escRune T (c.toNat : Int) = [(c.toNat : Int)] := by
 obtain ⟨h1, h2, h3, h4⟩ := hc
 have e1 : c.toNat ≠ 34 := fun e => h1 (UInt8.toNat_inj.1 e)
 have e2 : c.toNat ≠ 92 := fun e => h2 (UInt8.toNat_inj.1 e)
 unfold Go.Lib.escRune
 rw [if_neg Am, if_pos, Go.Lib.encodeRuneZ, if_pos Am]
 unfold Go.Lib.isPrintR
 rw [if_pos Am]
 simp only [Go.Lib.isPrintLatin, Bool.or_eq_true, Bool.and_eq_true, decide_eq_true_eq]
 omega
theorem Ps (T : Go.Lib.PrintTabs) : ∀ (l : List UInt8) (f : Nat) (s : ByteArray), s.data.toList = l → l.length ≤ f → (∀ c ∈ l, Q8 c) → Go.Lib.quoteFrom T f s = l.map fun c => (c.toNat : Int)
 | [], f, s, h, hf, hp => by
  have hs : s.size = 0 := by rw [ByteArray.size, ← Array.length_toList, h]; rfl
  cases f with
  | zero => rfl
  | succ f => unfold Go.Lib.quoteFrom; rw [if_neg Am]; rfl
 | c :: l, f, s, h, hf, hp => by
  have hs : s.size = l.length + 1 := by rw [ByteArray.size, ← Array.length_toList, h]; rfl
  have hc := hp c An
  cases f with
  | zero => simp at hf
  | succ f =>
   unfold Go.Lib.quoteFrom
   rw [if_pos Am]
   have e : Go.Lib.quoteStep T s = [(c.toNat : Int)] := by
    unfold Go.Lib.quoteStep
    have := hc.2.2.2
    rw [RE h hc, if_neg (by simp only; omega), Tx T hc]
   rw [e, RE h hc, Ps T l f _ ?_ (by simpa using hf) fun x hx => hp x (by simp [hx])]
   ·simp
   ·simp only [ByteArray.data_extract, Array.toList_extract, h]
    simp [List.extract, hs]
    rw [h]; simp
theorem QB (T : Go.Lib.PrintTabs) (s : ByteArray) (h : ∀ c ∈ s.data.toList, Q8 c) : Go.strOfNums (Go.Lib.quoteZ T s) = Ku s := by
 apply ByteArray.ext
 apply Array.ext'
 rw [Go.strOfNums_data, Ep, Go.Lib.quoteZ, Ps T _ s.size s rfl (by rw [Array.length_toList]; exact Nat.le_refl _) h]
 simp [Fv, List.map_map, Function.comp_def]
end Go.Eu
namespace Go.Proofs.YtapmjpihennhaaaGreatDoor
open Go.Abs Go.Eu
def blocks (w : World) : List (Nat × Obj) := (List.range w.heap.size).filterMap fun b => (w.heap[b]?).map fun o => (b, o)
theorem Rp (w : World) : ∀ p ∈ blocks w, w.heap[p.1]? = some p.2 := by
 intro p hp
 obtain ⟨b, hb, h⟩ := List.mem_filterMap.1 hp
 obtain ⟨o, ho, rfl⟩ := Option.map_eq_some_iff.1 h
 exact ho
theorem K8 {w w' : World} (h : ∀ p ∈ blocks w, w'.heap[p.1]? = some p.2) {b : Nat} {o : Obj} (hb : w.heap[b]? = some o) : w'.heap[b]? = some o := by
 refine h (b, o) (List.mem_filterMap.2 ⟨b, List.mem_range.2 (Array.getElem?_eq_some_iff.1 hb).1, ?_⟩)
 rw [hb]; rfl
theorem Fp {w w' : World} (h : ∀ p ∈ blocks w, w'.heap[p.1]? = some p.2) {a : Addr} {v : Value} (hc : w.cell? a = some v) : w'.cell? a = some v := by
 unfold World.cell? at hc ⊢
 cases hq : w.heap[a.block]? with
 | none => rw [hq] at hc; cases hc
 | some o => rw [K8 h hq]; rw [hq] at hc; exact hc
theorem Fz {w w' : World} (h : ∀ p ∈ blocks w, w'.heap[p.1]? = some p.2) {g : Nat} {k : IntKind} {t : List Nat} (hT : Go.Lib.TabSlice g k t w) : Go.Lib.TabSlice g k t w' := by
 obtain ⟨R, o, c, h1, h2⟩ := hT
 exact ⟨R, o, c, Fp h h1, fun j hj => Fp h (h2 j hj)⟩
theorem Pw {w w' : World} (h : ∀ p ∈ blocks w, w'.heap[p.1]? = some p.2) {a b c d : Nat} {T : Go.Lib.PrintTabs} (hT : Go.Lib.PrintTabsAt a b c d T w) : Go.Lib.PrintTabsAt a b c d T w' := by
 obtain ⟨h1, h2, h3, h4, h5⟩ := hT
 exact ⟨Fz h h1, Fz h h2, Fz h h3, Fz h h4, h5⟩
theorem RY {w w' : World} (h : ∀ p ∈ blocks w, w'.heap[p.1]? = some p.2) {a b : Nat} (hT : Go.Lib.Utf8Tabs a b w) : Go.Lib.Utf8Tabs a b w' :=
 ⟨fun c hc => Fp h (hT.1 c hc), fun i hi => ⟨Fp h (hT.2 i hi).1, Fp h (hT.2 i hi).2⟩⟩
theorem TQ {P : Program} {w w' : World} (h : ∀ p ∈ blocks w, w'.heap[p.1]? = some p.2) {n : String} {k : IntKind} {zs : List Int} (hT : Go.Lib.TabIs P w n k zs) : Go.Lib.TabIs P w' n k zs := by
 unfold Go.Lib.TabIs World.var? at *
 cases hg : P.globalNamed n with
 | none => rw [hg] at hT; cases hT
 | some g =>
  rw [hg] at hT
  simp only [Option.bind_some] at hT ⊢
  cases hq : w.heap[g]? with
  | none => rw [hq] at hT; cases hT
  | some o => rw [K8 h hq]; rw [hq] at hT; exact hT
theorem Uv {w : World} {T : Go.Lib.PrintTabs} (hT : Go.Lib.PrintTabsAt 3 4 5 6 T w) (hU : Go.Lib.Utf8Tabs 1 2 w) (hI : Go.Lib.TabIs Tryz.prog w "internal/strconv.uint64pow10" .u64 Go.Lib.pow10Tab) : Gh (blocks w) where
 itoa := fun n hn => Kc (u := .string (O1 n)) Xf (fun F w => by simp [CF, CQ]) fun F w' vs hg hv => by
  simp only [Bu, CF, CQ] at hv
  obtain ⟨_, _, rfl, rfl, rfl⟩ := hv
  refine (Tryz.strconv_Itoa n hn.1 hn.2 w' (TQ hg hI)).mono ?_
  rintro e w2 ⟨rfl, k, os, rfl⟩
  exact ⟨Ao, ⟨Ao, Ao, Ao, by simp [Go.Sort.grow, World.drewN], fun b hb => by simp [Go.Sort.grow, World.drewN, Array.getElem?_append_left, hb]⟩⟩
 quote := fun s hs hp => Kc (u := .string (Ku s)) Xe (fun F w => by simp [CF, CQ]) fun F w' vs hg hv => by
  simp only [Bu, CF, CQ] at hv
  obtain ⟨_, _, rfl, rfl, rfl⟩ := hv
  refine (Tryz.strconv_Quote T s w' (by simp only [Dp] at hs; omega) (Pw hg hT) (RY hg hU)).mono ?_
  rintro e w2 ⟨rfl, hb⟩
  exact ⟨by rw [QB T s hp], hb⟩
end Go.Proofs.YtapmjpihennhaaaGreatDoor
namespace Go.Eu
open Go.Abs
theorem Ok.mono {B B' : Nat} {t : Tm} (h : Ok B t) (hb : B ≤ B') : Ok B' t := ⟨h.nd, h.vp, h.wt, Nat.le_trans h.sz hb⟩
end Go.Eu
namespace Go.Eu
open Go.Abs Go.RowKit Go.ChangeShapes Go.ChangeAt Go.WideShapes
theorem QZ : ∀ {ts : List Tm}, (∀ t ∈ ts, Wd t) → TA ts
 | [], _ => trivial
 | t :: ts, h => ⟨h t An, QZ fun x hx => h x (by simp [hx])⟩
abbrev F0 : Nat → Prop := fun _ => False
def EE (w : World) : List PV → List Value → Prop
 | [], cs => cs = []
 | p :: ps, cs => ∃ c cs', cs = c :: cs' ∧ CQ F0 w p c ∧ EE w ps cs'
theorem EE.length {w : World} : ∀ {ps : List PV} {cs : List Value}, EE w ps cs → ps.length = cs.length
 | [], cs, h => by simp only [EE] at h; subst h; rfl
 | p :: ps, cs, h => by
  obtain ⟨c, cs', rfl, _, h⟩ := h
  simp [EE.length h]
theorem EE.append {w : World} : ∀ {a b : List PV} {x y : List Value}, EE w a x → EE w b y → EE w (a ++ b) (x ++ y)
 | [], b, x, y, h, h' => by simp only [EE] at h; subst h; exact h'
 | p :: a, b, x, y, h, h' => by
  obtain ⟨c, cs', rfl, h1, h⟩ := h
  exact ⟨c, cs' ++ y, Ao, h1, EE.append h h'⟩
theorem EE.one {w : World} {p : PV} {c : Value} (h : CQ F0 w p c) : EE w [p] [c] := ⟨c, [], rfl, h, rfl⟩
theorem EE.repL {w : World} : ∀ {ps : List PV} {cs : List Value}, EE w ps cs → Bu F0 w (ps.map .p) cs
 | [], cs, h => by simp only [EE] at h; subst h; exact rfl
 | p :: ps, cs, h => by
  obtain ⟨c, cs', rfl, h1, h⟩ := h
  exact ⟨c, cs', Ao, by simp only [CF]; exact h1, EE.repL h⟩
theorem NP {w : World} {b : Nat} : ∀ (r : List PV) (cs : List Value) (o : Nat), EE w r cs → (∀ j, j < cs.length → w.cell? ⟨b, o + j, none⟩ = cs[j]?) → CO F0 w b o r
 | [], cs, o, h, hc => by simp [CO]
 | p :: r, cs, o, h, hc => by
  obtain ⟨c, cs', rfl, h1, h⟩ := h
  refine ⟨⟨c, by have := hc 0 An; simpa using this, h1⟩, NP r cs' (o + 1) h fun j hj => ?_⟩
  have := hc (j + 1) Ah
  rw [show o + 1 + j = o + (j + 1) by omega]
  simpa using this
theorem N1 {w : World} {base : Nat} {a : Addr} {n : Nat} {cs : List Value} (h : w.cells? base a n = some cs) : cs.length = n ∧ ∀ j, j < n → w.cell? (a.add j) = cs[j]? := by
 unfold World.cells? at h
 split at h
 ·exact ⟨by simpa using mapM_some_length h, fun j hj => mapM_some_get h j j (by simp [hj])⟩
 ·cases h
section
variable {H : Type} {enc : TypeId × Value → H} {P : Program} {w : World} {base : Nat} {sp : Nat → Bool} {hd : Bool} {n : Nat}
theorem Fj {α : Type} {e t C : Nat} (ut : P.underlying t = some (.slice e)) (hC : P.cellsOf e = C) (hC1 : 1 ≤ C) (f : α → List PV) (Q : α → Prop)
  (he : ∀ m cs y, m < n → DataW.trod enc P w base sp hd m e cs = some y → ∃ a, EE w (f a) cs ∧ Q a) {cs : List Value} {y : DataW H × List MemPlace} (h : DataW.trod enc P w base sp hd n t cs = some y) :
  ∃ l : List α, l.length < wide ∧ (∀ a ∈ l, Q a) ∧ ∃ v, cs = [v] ∧ CQ F0 w (.lst (l.map f)) v := by
 rcases DataW.trod_slice ut h with ⟨rfl, _⟩ | ⟨a, len, cap, elems, rest, m, rfl, rfl, _, hb, hl, hc, hel, hget, _, _⟩
 ·exact ⟨[], by simp [wide], fun a ha => by simp at ha, _, rfl, by simp only [CQ]; exact .inl ⟨rfl, none, 0, rfl⟩⟩
 rw [hC] at hget
 have hml : maxLen < wide := by decide
 rcases Nat.eq_zero_or_pos len with h0 | h0
 ·subst h0
  exact ⟨[], by simp [wide], fun a ha => by simp at ha, _, rfl, by simp only [CQ]; exact .inl ⟨rfl, some a, cap, rfl⟩⟩
 have hone : ∀ i, i < len → ∃ ci y, w.cells? base (a.add (i * C)) C = some ci ∧ DataW.trod enc P w base sp hd m e ci = some y := fun i hi => by
  have := hget i hi
  rw [List.getElem?_eq_getElem Am] at this
  obtain ⟨ci, h1, h2⟩ := Option.bind_eq_some_iff.1 this
  exact ⟨ci, _, h1, h2⟩
 obtain ⟨c0, y0, hc0, _⟩ := hone 0 h0
 obtain ⟨hl0, hg0⟩ := N1 hc0
 have hcell : ∃ v, w.cell? a = some v := by
  have := hg0 0 Am
  rw [Nat.zero_mul, Addr.add, if_pos rfl, Addr.add, if_pos rfl] at this
  rw [List.getElem?_eq_getElem Am] at this
  exact ⟨_, this⟩
 obtain ⟨v0, hv0⟩ := hcell
 obtain ⟨blk, off, spot⟩ := a
 have hspot : spot = none := by
  unfold World.cell? at hv0
  simp only at hv0
  split at hv0
  ·cases spot with
   | none => rfl
   | some s => simp at hv0
  ·cases hv0
 subst hspot
 have hblk : blk < w.heap.size := by
  unfold World.cell? at hv0
  simp only at hv0
  split at hv0
  ·rename_i hh; exact (Array.getElem?_eq_some_iff.1 hh).1
  ·cases hv0
 have hadd : ∀ k, (⟨blk, off, none⟩ : Addr).add k = ⟨blk, off + k, none⟩ := fun k => by
  unfold Addr.add
  split
  ·rename_i e; subst e; rfl
  ·rfl
 have hadd2 : ∀ o k, (⟨blk, o, none⟩ : Addr).add k = ⟨blk, o + k, none⟩ := fun o k => by
  unfold Addr.add
  split
  ·rename_i e; subst e; rfl
  ·rfl
 have hrows : ∀ k, k ≤ len → ∃ l : List α, l.length = k ∧ (∀ x ∈ l, Q x) ∧ Bw F0 w blk C (off + (len - k) * C) (l.map f) := by
  intro k
  induction k with
  | zero => exact fun _ => ⟨[], rfl, fun a ha => by simp at ha, by simp [Bw]⟩
  | succ k ih =>
   intro hk
   obtain ⟨l, h1, h2, h3⟩ := ih Am
   obtain ⟨ci, y, hci, ht⟩ := hone (len - (k + 1)) Am
   obtain ⟨g1, g2⟩ := N1 hci
   obtain ⟨x, hx, hq⟩ := he m ci y Am ht
   refine ⟨x :: l, by simp [h1], fun z hz => ?_, ?_⟩
   ·rcases List.mem_cons.1 hz with rfl | hz
    ·exact hq
    ·exact h2 z hz
   ·refine ⟨by rw [hx.length, g1], NP _ ci _ hx fun j hj => ?_, ?_⟩
    ·have := g2 j Am
     rw [hadd, hadd2] at this
     exact this
    ·rw [show off + (len - (k + 1)) * C + C = off + (len - k) * C by rw [Nat.add_assoc, ← Nat.succ_mul]; congr 2; omega]
     exact h3
 obtain ⟨l, h1, h2, h3⟩ := hrows len (Nat.le_refl _)
 rw [Nat.sub_self, Nat.zero_mul, Nat.add_zero] at h3
 refine ⟨l, by omega, h2, _, rfl, ?_⟩
 simp only [CQ]
 refine .inr ⟨blk, off, cap, C, by rw [List.length_map, h1], fun h => h, hblk, by rw [List.length_map]; omega, h3⟩
def MY (P : Program) (t : TypeId) : Option (List (Nat × Nat)) :=
 match P.underlying t with
 | some (.struct fs) => some (fs.toList.map fun f => (f.type, f.offset))
 | _ => none
theorem La {t : TypeId} {l : List (Nat × Nat)} (hf : MY P t = some l) {cs : List Value} {y : DataW H × List MemPlace} (h : DataW.trod enc P w base sp hd n t cs = some y) :
  ∃ m, n = m + 1 ∧ cs.length = P.cellsOf t ∧ ∀ (i : Nat) (p : Nat × Nat), l[i]? = some p → ∃ z, DataW.trod enc P w base sp hd m p.1 ((cs.drop p.2).take (P.cellsOf p.1)) = some z := by
 unfold MY at hf
 split at hf
 ·rename_i fs hu
  injection hf with hf
  subst hf
  obtain ⟨xs, m, h1, _, h2, h3, h4⟩ := DataW.trod_struct hu h
  refine ⟨m, h1, h2, fun i p hp => ?_⟩
  rw [List.getElem?_map] at hp
  obtain ⟨fl, hfl, rfl⟩ := Option.map_eq_some_iff.1 hp
  have hi : fs[i]? = some fl := by simpa using hfl
  have := h4 i fl hi
  have hlt : i < xs.length := by rw [h3]; exact (Array.getElem?_eq_some_iff.1 hi).1
  rw [List.getElem?_eq_getElem hlt] at this
  exact ⟨_, this⟩
 ·cases hf
end
structure E7 (P : Program) (tI tS tV tVs tL tLs tT tTs : TypeId) : Prop where
 uI : P.underlying tI = some (.int .i64)
 uS : P.underlying tS = some .string
 uVs : P.underlying tVs = some (.slice tV)
 uLs : P.underlying tLs = some (.slice tL)
 uTs : P.underlying tTs = some (.slice tT)
 fV : MY P tV = some [(tI, 0), (tI, 1)]
 fL : MY P tL = some [(tI, 0), (tVs, 1)]
 fT : MY P tT = some [(tI, 0), (tI, 1), (tS, 2), (tLs, 3), (tTs, 4)]
 cI : P.cellsOf tI = 1
 cS : P.cellsOf tS = 1
 cVs : P.cellsOf tVs = 1
 cLs : P.cellsOf tLs = 1
 cTs : P.cellsOf tTs = 1
 cV : P.cellsOf tV = 2
 cL : P.cellsOf tL = 2
 cT : P.cellsOf tT = 5
theorem Kk {n : Int} (h : (Lit.int .i64 n).wf = true) : II n := by
 simp only [Lit.wf, Bool.and_eq_true, decide_eq_true_eq] at h
 exact h
section
variable {H : Type} {enc : TypeId × Value → H} {P : Program} {w : World} {base : Nat} {sp : Nat → Bool} {hd : Bool} {tI tB tS tV tVs tL tLs tT tTs tM tMs : TypeId}
theorem Wg (E : E7 P tI tS tV tVs tL tLs tT tTs) {n : Nat} {cs : List Value} {y : DataW H × List MemPlace} (h : DataW.trod enc P w base sp hd n tV cs = some y) : ∃ v : C7, EE w (D5 v) cs ∧ (II v.index ∧ II v.plus) := by
 obtain ⟨m, rfl, hl, hg⟩ := La E.fV h
 rw [E.cV] at hl
 match cs, hl with
 | [c0, c1], _ =>
  obtain ⟨z0, h0⟩ := hg 0 _ rfl
  obtain ⟨z1, h1⟩ := hg 1 _ rfl
  simp only [E.cI, List.drop_zero, List.drop_succ_cons, List.take_succ_cons, List.take_zero] at h0 h1
  obtain ⟨a, ha, _, fa⟩ := DataW.trod_int E.uI h0
  obtain ⟨b, hb, _, fb⟩ := DataW.trod_int E.uI h1
  injection ha with ha; injection hb with hb
  subst ha hb
  exact ⟨⟨a, b⟩, ⟨_, _, Ao, by simp [CQ], _, _, rfl, by simp [CQ], rfl⟩, Kk fa, Kk fb⟩
theorem WJ (E : E7 P tI tS tV tVs tL tLs tT tTs) {n : Nat} {cs : List Value} {y : DataW H × List MemPlace} (h : DataW.trod enc P w base sp hd n tL cs = some y) : ∃ v : Eg, EE w (Db v) cs ∧ Wi v := by
 obtain ⟨m, rfl, hl, hg⟩ := La E.fL h
 rw [E.cL] at hl
 match cs, hl with
 | [c0, c1], _ =>
  obtain ⟨z0, h0⟩ := hg 0 _ rfl
  obtain ⟨z1, h1⟩ := hg 1 _ rfl
  simp only [E.cI, E.cVs, List.drop_zero, List.drop_succ_cons, List.take_succ_cons, List.take_zero] at h0 h1
  obtain ⟨a, ha, _, fa⟩ := DataW.trod_int E.uI h0
  injection ha with ha
  subst ha
  obtain ⟨l, g1, g2, v, hv, g3⟩ := Fj E.uVs E.cV Al D5 (fun v => II v.index ∧ II v.plus) (fun m cs y _ h => Wg E h) h1
  injection hv with hv
  subst hv
  exact ⟨⟨a, l⟩, ⟨_, _, Ao, by simp [CQ], _, _, rfl, g3, rfl⟩, ⟨g1, Kk fa, g2⟩⟩
theorem SU (E : E7 P tI tS tV tVs tL tLs tT tTs) : ∀ (n : Nat) (cs : List Value) (y : DataW H × List MemPlace), DataW.trod enc P w base sp hd n tT cs = some y → ∃ t : Tm, EE w (Ba t) cs ∧ Wd t := by
 intro n
 induction n using Nat.strongRecOn with
 | ind n ih =>
  intro cs y h
  obtain ⟨m, rfl, hl, hg⟩ := La E.fT h
  rw [E.cT] at hl
  match cs, hl with
  | [c0, c1, c2, c3, c4], _ =>
   obtain ⟨z0, h0⟩ := hg 0 _ rfl
   obtain ⟨z1, h1⟩ := hg 1 _ rfl
   obtain ⟨z2, h2⟩ := hg 2 _ rfl
   obtain ⟨z3, h3⟩ := hg 3 _ rfl
   obtain ⟨z4, h4⟩ := hg 4 _ rfl
   simp only [E.cI, E.cS, E.cLs, E.cTs, List.drop_zero, List.drop_succ_cons, List.take_succ_cons, List.take_zero] at h0 h1 h2 h3 h4
   obtain ⟨a, ha, _, wa⟩ := DataW.trod_int E.uI h0
   obtain ⟨b, hb, _, wb⟩ := DataW.trod_int E.uI h1
   obtain ⟨s, hs, _, ws⟩ := DataW.trod_string E.uS h2
   injection ha with ha; injection hb with hb; injection hs with hs
   subst ha hb hs
   obtain ⟨l, g1, g2, v, hv, g3⟩ := Fj E.uLs E.cL Al Db Wi (fun m cs y _ h => WJ E h) h3
   obtain ⟨ks, k1, k2, u, hu, k3⟩ := Fj E.uTs E.cT Al Ba Wd (fun m' cs y hm h => ih m' Am cs y h) h4
   injection hv with hv; injection hu with hu
   subst hv hu
   have hml : maxLen < wide := by decide
   exact ⟨.mk a b s l ks, ⟨_, _, Ao, by simp [CQ], _, _, rfl, by simp [CQ], _, _, rfl, by simp [CQ], _, _, rfl, g3, _, _, rfl, by rw [EU]; exact k3, rfl⟩,
    ⟨by omega, g1, g2, k1, QZ fun t ht => k2 t ht, Kk wa, Kk wb⟩⟩
theorem Tz (E : E7 P tI tS tV tVs tL tLs tT tTs) {n : Nat} {cs : List Value} {y : DataW H × List MemPlace} (h : DataW.trod enc P w base sp hd n tTs cs = some y) : ∃ l : List Tm, l.length < wide ∧ TA l ∧ ∃ v, cs = [v] ∧ CQ F0 w (.lst (BO l)) v := by
 obtain ⟨l, g1, g2, v, hv, g3⟩ := Fj E.uTs E.cT Al Ba Wd (fun m cs y _ h => SU E m cs y h) h
 exact ⟨l, g1, QZ g2, v, hv, by rw [EU]; exact g3⟩
structure Yk (P : Program) (tB tT tM tMs : TypeId) : Prop where
 uB : P.underlying tB = some .bool
 uMs : P.underlying tMs = some (.slice tM)
 fM : MY P tM = some [(tT, 0), (tB, 5), (tT, 6), (tB, 11)]
 cB : P.cellsOf tB = 1
 cM : P.cellsOf tM = 12
theorem NG {b2 : Nat} {r : Reach} {t e : TypeId} (ut : P.underlying t = some (.slice e)) {v u : Value} (hk : Value.okWide P w r b2 t v) (h : v.cells.toList = [u]) : v = u := by
 unfold Value.okWide at hk
 rw [ut] at hk
 simp only at hk
 unfold Cell.okWide at hk
 rw [ut] at hk
 cases v with
 | agg cs => simp only at hk; unfold Cell.ok at hk; rw [ut] at hk; simp at hk
 | _ => simp [Value.cells] at h; exact h
theorem WM (E : E7 P tI tS tV tVs tL tLs tT tTs) {b2 : Nat} {r : Reach} {v : Value} {d : DataW H} {ps : List MemPlace} (hk : Value.okWide P w r b2 tTs v) (h : DataW.Trod enc P w base sp hd tTs v d ps) : ∃ l : List Tm, l.length < wide ∧ TA l ∧ CF F0 w (Yq l) v := by
 obtain ⟨n, h⟩ := h
 obtain ⟨l, g1, g2, u, hu, g3⟩ := Tz E h
 have := NG E.uTs hk hu
 subst this
 exact ⟨l, g1, g2, by simp only [CF]; exact g3⟩
theorem ax (E : E7 P tI tS tV tVs tL tLs tT tTs) {b2 : Nat} {r : Reach} {v : Value} {d : DataW H} {ps : List MemPlace} (hk : Value.okWide P w r b2 tT v) (h : DataW.Trod enc P w base sp hd tT v d ps) : ∃ t : Tm, Wd t ∧ CF F0 w (TV t) v := by
 obtain ⟨n, h⟩ := h
 obtain ⟨t, g1, g2⟩ := SU E _ _ _ h
 have hf := E.fT
 unfold MY at hf
 unfold Value.okWide at hk
 split at hk
 ·obtain ⟨cs, rfl, _, _⟩ := hk
  refine ⟨t, g2, ?_⟩
  exact ⟨cs.toList, by simp, EE.repL g1⟩
 ·rename_i hu
  rw [hu] at hf
  cases hf
 ·rename_i h1 h2
  split at hf
  ·rename_i fs hu; exact absurd hu (h1 fs)
  ·cases hf
end
theorem Qc {H : Type} {enc : TypeId × Value → H} {P : Program} {f : Func} {s : ChangeSpec} {tB : TypeId} (hl : laidOutB P = true) (hB : P.underlying tB = some .bool) (hrt : f.resultTypes = #[tB]) (hv0 : s.vars = []) {W W' : World} {args : Array Value} {ds : List (DataW H)} {before : List MemPlace}
  (hpr : ∀ t ∈ f.params.toList, P.readableRec t = true ∧ t < P.types.size) (hW : DataW.Whole enc P f.params.toList s.vars false W args.toList ds [] before) (hres : (s.fn H ds).results = [.lit (.bool true)]) (hargs : (s.fn H ds).args = ds) (hvars : (s.fn H ds).vars = []) (hb : Below W.heap.size W W') :
  s.post enc P f false true false false W args (.bool true) W' := by
 have hW' := hW
 obtain ⟨p, q, hA, hV, rfl, hfz, hnd⟩ := hW
 have hq : q = [] := by rw [hv0] at hV; exact hV
 subst hq
 have hstay : ∀ {ts : List TypeId} {vs : List Value} {ds : List (DataW H)} {ps : List MemPlace}, (∀ t ∈ ts, P.readableRec t = true ∧ t < P.types.size) → (∀ x ∈ ps, x.block < W.heap.size) → DataW.TrodAll enc P W 0 (fun _ => true) true ts vs ds ps → DataW.TrodAll enc P W' 0 (fun b => decide (b < W.heap.size)) true ts vs ds ps := by
  intro ts
  induction ts with
  | nil =>
   intro vs ds ps _ _ h
   cases vs <;> cases ds <;> simp [DataW.TrodAll] at h ⊢
   exact h
  | cons t ts ih =>
   intro vs ds ps h1 h2 h
   obtain ⟨v, vs', d, ds', a, b, rfl, rfl, rfl, h3, h4⟩ := trodAll_cons h
   exact ⟨a, b, Below.trod hl (h1 t An).1 (h1 t An).2 h3 hb (fun x hx => h2 x (by simp [hx])), ih (fun t ht => h1 t (by simp [ht])) (fun x hx => h2 x (by simp [hx])) h4, Ao⟩
 refine ⟨ds, [], p ++ [], [], p, [], hW', ?_, ?_, ?_, hb.frame _, fun h => by cases h⟩
 ·rw [List.append_nil, hres, hrt]
  refine ⟨[], [], ⟨1, ?_⟩, Ao, Ao⟩
  unfold DataW.trod
  rw [hB]
  rfl
 ·rw [List.append_nil, hargs]
  exact hstay hpr (fun x hx => hW'.lt x (by simpa using hx)) hA
 ·rw [List.append_nil, hvars, hv0]
  exact Ao
section
variable {H : Type} {enc : TypeId × Value → H} {P : Program} {w : World} {base : Nat} {sp : Nat → Bool} {hd : Bool} {tI tB tS tV tVs tL tLs tT tTs tM tMs : TypeId}
end
structure MO (P : Program) (tS tSs tTh : TypeId) : Prop where
 uSs : P.underlying tSs = some (.slice tS)
 cSs : P.cellsOf tSs = 1
 fTh : MY P tTh = some [(tS, 0), (tS, 1), (tS, 2), (tS, 3), (tS, 4), (tS, 5), (tSs, 6)]
 cTh : P.cellsOf tTh = 7
 bS : P.bytesOf tS = 16
section
variable {H : Type} {enc : TypeId × Value → H} {P : Program} {w : World} {base : Nat} {sp : Nat → Bool} {hd : Bool} {tI tB tS tV tVs tL tLs tT tTs tM tMs tSs tTh : TypeId}
theorem Wb (E : E7 P tI tS tV tVs tL tLs tT tTs) {n : Nat} {cs : List Value} {y : DataW H × List MemPlace} (h : DataW.trod enc P w base sp hd n tS cs = some y) : ∃ s : ByteArray, EE w [.str s] cs ∧ s.size < wide := by
 obtain ⟨s, hs, _, ws⟩ := DataW.trod_string E.uS h
 subst hs
 have hml : maxLen < wide := by decide
 exact ⟨s, ⟨_, _, Ao, by simp [CQ], rfl⟩, by omega⟩
theorem TU (E : E7 P tI tS tV tVs tL tLs tT tTs) {n : Nat} {cs : List Value} {y : DataW H × List MemPlace} (h : DataW.trod enc P w base sp hd n tI cs = some y) : ∃ a : Int, EE w [I a] cs ∧ II a := by
 obtain ⟨a, ha, _, fa⟩ := DataW.trod_int E.uI h
 subst ha
 exact ⟨a, ⟨_, _, Ao, by simp [CQ], rfl⟩, Kk fa⟩
theorem Oj {t e : TypeId} (ut : P.underlying t = some (.slice e)) {n : Nat} {a : Option Addr} {l c : Nat} {y : DataW H × List MemPlace} (h : DataW.trod enc P w base sp hd n t [.slice a l c] = some y) {B : Nat} (hB : (y.1.weights P t).all (· ≤ B) = true) : l * P.bytesOf e ≤ B := by
 rcases DataW.trod_slice ut h with ⟨h1, _⟩ | ⟨a, len, cap, elems, rest, m, rfl, h1, rfl, hb, hl, hc, hel, _⟩
 ·injection h1 with h1; injection h1 with _ h1; subst h1; simp
 ·injection h1 with h1; injection h1 with _ h1; subst h1
  unfold DataW.weights at hB
  rw [ut] at hB
  simp only [List.all_cons, Bool.and_eq_true, decide_eq_true_eq, List.length_map] at hB
  have h2 := hB.1
  have h3 : l * P.bytesOf e ≤ (elems.length + rest.length) * P.bytesOf e := Nat.mul_le_mul_right _ Am
  omega
theorem Ik {B : Nat} : ∀ {ts : List TypeId} {ds : List (DataW H)}, (DataW.weightsEach P ts ds).all (· ≤ B) = true → ∀ (i : Nat) (t : TypeId) (d : DataW H), ts[i]? = some t → ds[i]? = some d → (d.weights P t).all (· ≤ B) = true
 | [], _, _, i, t, d, h1, _ => by simp at h1
 | t :: ts, [], _, i, t', d, _, h2 => by simp at h2
 | t :: ts, d :: ds, h, i, t', d', h1, h2 => by
  unfold DataW.weightsEach at h
  rw [List.all_append, Bool.and_eq_true] at h
  cases i with
  | zero => simp at h1 h2; subst h1 h2; exact h.1
  | succ i => exact Ik h.2 i t' d' (by simpa using h1) (by simpa using h2)
theorem Pz {t : TypeId} {l : List (Nat × Nat)} (hf : MY P t = some l) {n : Nat} {cs : List Value} {y : DataW H × List MemPlace} (h : DataW.trod enc P w base sp hd n t cs = some y) {B : Nat} (hB : (y.1.weights P t).all (· ≤ B) = true) (i : Nat) (p : Nat × Nat) (hp : l[i]? = some p) :
  ∃ m z, DataW.trod enc P w base sp hd m p.1 ((cs.drop p.2).take (P.cellsOf p.1)) = some z ∧ (z.1.weights P p.1).all (· ≤ B) = true := by
 unfold MY at hf
 split at hf
 ·rename_i fs hu
  injection hf with hf
  subst hf
  obtain ⟨xs, m, h1, rfl, h2, h3, h4⟩ := DataW.trod_struct hu h
  rw [List.getElem?_map] at hp
  obtain ⟨fl, hfl, rfl⟩ := Option.map_eq_some_iff.1 hp
  have hi : fs[i]? = some fl := by simpa using hfl
  have hlt : i < xs.length := by rw [h3]; exact (Array.getElem?_eq_some_iff.1 hi).1
  have h5 := h4 i fl hi
  rw [List.getElem?_eq_getElem hlt] at h5
  refine ⟨m, _, h5, ?_⟩
  unfold DataW.weights at hB
  rw [hu] at hB
  exact Ik hB i fl.type _ (by simp [hi]) (by simp [List.getElem?_eq_getElem hlt])
 ·cases hf
theorem Tt (E : E7 P tI tS tV tVs tL tLs tT tTs) (Q : MO P tS tSs tTh) {n : Nat} {cs : List Value} {y : DataW H × List MemPlace} (h : DataW.trod enc P w base sp hd n tTh cs = some y) (hB : (y.1.weights P tTh).all (· ≤ reachBytes) = true) : ∃ t : BF, EE w (Ef t) cs ∧ t.lemmas.length ≤ 8796093021952 := by
 obtain ⟨m, rfl, hl, hg⟩ := La Q.fTh h
 rw [Q.cTh] at hl
 match cs, hl with
 | [c0, c1, c2, c3, c4, c5, c6], _ =>
  obtain ⟨z0, h0⟩ := hg 0 _ rfl
  obtain ⟨z1, h1⟩ := hg 1 _ rfl
  obtain ⟨z2, h2⟩ := hg 2 _ rfl
  obtain ⟨z3, h3⟩ := hg 3 _ rfl
  obtain ⟨z4, h4⟩ := hg 4 _ rfl
  obtain ⟨z5, h5⟩ := hg 5 _ rfl
  obtain ⟨m6, z6, h6, hb⟩ := Pz Q.fTh h hB 6 _ rfl
  simp only [E.cS, Q.cSs, List.drop_zero, List.drop_succ_cons, List.take_succ_cons, List.take_zero] at h0 h1 h2 h3 h4 h5 h6
  obtain ⟨s0, hs0, _, _⟩ := DataW.trod_string E.uS h0
  obtain ⟨s1, hs1, _, _⟩ := DataW.trod_string E.uS h1
  obtain ⟨s2, hs2, _, _⟩ := DataW.trod_string E.uS h2
  obtain ⟨s3, hs3, _, _⟩ := DataW.trod_string E.uS h3
  obtain ⟨s4, hs4, _, _⟩ := DataW.trod_string E.uS h4
  obtain ⟨s5, hs5, _, _⟩ := DataW.trod_string E.uS h5
  injection hs0 with hs0; injection hs1 with hs1; injection hs2 with hs2; injection hs3 with hs3; injection hs4 with hs4; injection hs5 with hs5
  subst hs0 hs1 hs2 hs3 hs4 hs5
  obtain ⟨ls, g1, _, v, hv, g3⟩ := Fj Q.uSs E.cS Al CV (fun _ => True) (fun m cs y _ h => by obtain ⟨s, h1, _⟩ := Wb E h; exact ⟨s, h1, trivial⟩) h6
  injection hv with hv
  subst hv
  have hlen : ls.length * 16 ≤ reachBytes := by
   rw [← Q.bS]
   simp only [CQ] at g3
   rcases g3 with ⟨hnil, _⟩ | ⟨b, o, c, sz, hv, _⟩
   ·have : ls = [] := by simpa using hnil
    subst this; simp
   ·subst hv
    have := Oj Q.uSs h6 hb
    simpa using this
  refine ⟨⟨s0, s1, s2, s3, s4, s5, ls⟩, ⟨_, _, Ao, by simp [CQ], _, _, rfl, by simp [CQ], _, _, rfl, by simp [CQ], _, _, rfl, by simp [CQ], _, _, rfl, by simp [CQ], _, _, rfl, by simp [CQ], _, _, rfl, g3, rfl⟩, ?_⟩
  have : reachBytes = 140737488351232 := by decide
  simp only
  omega
theorem WS (E : E7 P tI tS tV tVs tL tLs tT tTs) (Q : MO P tS tSs tTh) {b2 : Nat} {r : Reach} {v : Value} {d : DataW H} {ps : List MemPlace} (hk : Value.okWide P w r b2 tTh v) (h : DataW.Trod enc P w base sp hd tTh v d ps) (hB : (d.weights P tTh).all (· ≤ reachBytes) = true) : ∃ t : BF, t.lemmas.length ≤ 8796093021952 ∧ CF F0 w (.agg ((Ef t).map .p)) v := by
 obtain ⟨n, h⟩ := h
 obtain ⟨t, g1, g2⟩ := Tt E Q h hB
 have hf := Q.fTh
 unfold MY at hf
 unfold Value.okWide at hk
 split at hk
 ·obtain ⟨cs, rfl, _, _⟩ := hk
  refine ⟨t, g2, ?_⟩
  exact ⟨cs.toList, by simp, EE.repL g1⟩
 ·rename_i hu
  rw [hu] at hf
  cases hf
 ·rename_i h1 h2
  split at hf
  ·rename_i fs hu; exact absurd hu (h1 fs)
  ·cases hf
theorem V7 (E : E7 P tI tS tV tVs tL tLs tT tTs) {tIs : TypeId} (Yo : P.underlying tIs = some (.slice tI)) {b2 : Nat} {r : Reach} {v : Value} {d : DataW H} {ps : List MemPlace} (hk : Value.okWide P w r b2 tIs v) (h : DataW.Trod enc P w base sp hd tIs v d ps) : ∃ l : List Int, l.length < wide ∧ (∀ x ∈ l, II x) ∧ CF F0 w (.p (.lst (l.map Ca))) v := by
 obtain ⟨n, h⟩ := h
 obtain ⟨l, g1, g2, u, hu, g3⟩ := Fj Yo E.cI Al Ca II (fun m cs y _ h => TU E h) h
 have := NG Yo hk hu
 subst this
 exact ⟨l, g1, g2, by simp only [CF]; exact g3⟩
end
theorem Rc {w : World} {GL : List (Nat × Obj)} (hG : ∀ p ∈ GL, w.heap[p.1]? = some p.2) : HRel F0 [.glob GL] w :=
 { sub := fun o ho b hb => by
    rw [List.mem_singleton] at ho
    subst ho
    cases hb
   nodup := (List.nodup_nil : ([] : List Nat).Nodup)
   obj := fun o ho => by
    rw [List.mem_singleton] at ho
    subst ho
    exact fun p hp => ⟨hG p hp, fun h => h⟩
   bd := fun b hb => hb.elim }
theorem PR {P : Program} {f : FuncId} {xs : List AV} {GL : List (Nat × Obj)} (h : Bl P f xs [.glob GL] (DG (.p (.bool true)) [.glob GL])) {w : World} (hG : ∀ p ∈ GL, w.heap[p.1]? = some p.2) {vs : List Value} (ha : Bu F0 w xs vs) : Calls P f ⟨vs⟩ w fun e w' => e = .returned (.bool true) ∧ Below w.heap.size w w' := by
 refine (h.2 F0 w vs (Rc hG) ha).mono ?_
 rintro e w' ⟨r, H', F', hr, he, hH, ht⟩
 cases r with
 | panic v => exact hr.elim
 | val v =>
  obtain ⟨rfl, rfl⟩ := hr
  obtain ⟨u, rfl, hu⟩ := he
  simp only [CF, CQ] at hu
  subst hu
  exact ⟨Ao, ht.os, ht.tape, ht.out, ht.size, fun k hk => ht.same k hk fun o ho => by rw [List.mem_singleton] at ho; subst ho; exact fun h => by cases h⟩
end Go.Eu
namespace Go.Proofs.YtapmjpihennhaaaGreatDoor
open Go.Eu Go.Lib Go.ChangeShapes Go.WideShapes Go.ChangeAt Go.RowKit
theorem own : ownKnob Tryz.prog.godebug = none := by kernel_rfl
theorem laidOut : laidOutB Tryz.prog = true := by kernel_rfl
theorem Zy : E7 Tryz.prog 3 9 112 106 108 31 33 26 := ⟨by kernel_rfl, by kernel_rfl, by kernel_rfl, by kernel_rfl, by kernel_rfl, by kernel_rfl, by kernel_rfl, by kernel_rfl, by kernel_rfl, by kernel_rfl, by kernel_rfl, by kernel_rfl, by kernel_rfl, by kernel_rfl, by kernel_rfl, by kernel_rfl⟩
theorem Y5 : MO Tryz.prog 9 22 24 := ⟨by kernel_rfl, by kernel_rfl, by kernel_rfl, by kernel_rfl, by kernel_rfl⟩
theorem Yo : Tryz.prog.underlying 25 = some (.slice 3) := by kernel_rfl
abbrev IJ : List (String × DataW Unit) := Rows.abelianBuildsRow.laid
theorem XE : Rows.laid_strconv_isPrint16 = sliceData .u16 goPrintTabs.p16 := by kernel_rfl
theorem XJ : Rows.laid_strconv_isNotPrint16 = sliceData .u16 goPrintTabs.n16 := by kernel_rfl
theorem Xw : Rows.laid_strconv_isPrint32 = sliceData .u32 goPrintTabs.p32 := by kernel_rfl
theorem Xi : Rows.laid_strconv_isNotPrint32 = sliceData .u16 goPrintTabs.n32 := by kernel_rfl
theorem aU : Rows.laid_strconv_isGraphic = sliceData .u16 Go.Pinned.isGraphicZ := by kernel_rfl
theorem Yv : Rows.laid_unicode_utf8_first = firstData := by kernel_rfl
theorem aV : (Rows.laid_unicode_utf8_acceptRanges : DataW Unit) = acceptData := by kernel_rfl
theorem Z8 : (Rows.laid_internal_strconv_uint64pow10 : DataW Unit) = tabData .u64 pow10Tab := by kernel_rfl
theorem T9 {W : World} (h : laidMet Tryz.prog IJ W) : Utf8Tabs 1 2 W :=
 utf8Tabs_of_reads (ρ := Tryz.lays177_ren) { Tryz.lays177 with } ⟨by kernel_rfl, by kernel_rfl, by kernel_rfl, by kernel_rfl, by kernel_rfl, by kernel_rfl, by kernel_rfl⟩
  (laidMet.reads h (by rw [← Yv]; simp [IJ, Rows.abelianBuildsRow])) (laidMet.reads h (by rw [← aV]; simp [IJ, Rows.abelianBuildsRow]))
theorem SS {W : World} (h : laidMet Tryz.prog IJ W) : PrintTabsAt 3 4 5 6 goPrintTabs W :=
 printTabs_of_reads (ρ := Tryz.lays177_ren) { Tryz.lays177 with } ⟨by kernel_rfl, by kernel_rfl, by kernel_rfl, by kernel_rfl, by kernel_rfl, by kernel_rfl, by kernel_rfl, by kernel_rfl, by kernel_rfl, by kernel_rfl⟩
  (laidMet.reads h (by rw [← XE]; simp [IJ, Rows.abelianBuildsRow])) (laidMet.reads h (by rw [← XJ]; simp [IJ, Rows.abelianBuildsRow])) (laidMet.reads h (by rw [← Xw]; simp [IJ, Rows.abelianBuildsRow])) (laidMet.reads h (by rw [← Xi]; simp [IJ, Rows.abelianBuildsRow]))
theorem WZ {W : World} (h : laidMet Tryz.prog IJ W) : TabIs Tryz.prog W "internal/strconv.uint64pow10" .u64 pow10Tab := by
 obtain ⟨g, t, cs, fuel, p, hg, hty, hvar, hd⟩ := laidMet.reads h (n := "internal/strconv.uint64pow10") (d := tabData .u64 pow10Tab) (by rw [← Z8]; simp [IJ, Rows.abelianBuildsRow])
 have hg0 : Tryz.prog.globalNamed "internal/strconv.uint64pow10" = some 0 := by kernel_rfl
 obtain rfl := Option.some.inj (hg0.symm.trans hg)
 have hty0 : (Tryz.prog.globals[0]?).map (·.type) = some 242 := by kernel_rfl
 obtain rfl := Option.some.inj (hty0.symm.trans hty)
 have h1 : Tryz.prog.underlying 242 = some (.array 20 232) := by kernel_rfl
 have h2 : Tryz.prog.underlying 232 = some (.int .u64) := by kernel_rfl
 unfold TabIs
 rw [hvar, ← cells_of_tab h1 h2 Ai Ai hd]
def au : DataW Unit → Array Value
 | .agg l => (l.map fun (d : DataW Unit) => match d with
  | DataW.lit (Lit.int _ n) => Value.int .u8 n
  | _ => Value.int .u8 0).toArray
 | _ => #[]
noncomputable def EX (os : Os) : World :=
 let N := (World.settled Tryz.prog os).heap.size
 let T := goPrintTabs
 let w0 := World.holding Tryz.prog os ⟨#[
  .cells (intCellsOf .u16 T.p16) 254, .cells (intCellsOf .u16 T.n16) 254, .cells (intCellsOf .u32 T.p32) 243, .cells (intCellsOf .u16 T.n32) 254, .cells (intCellsOf .u16 Go.Pinned.isGraphicZ) 254], #[], []⟩
 let put (h : Array Obj) (g : Nat) (cs : Array Value) : Array Obj := h.modify g fun
  | .cells _ t frozen => .cells cs t frozen
  | o => o
 let h0 := put w0.heap 0 (pow10Tab.map fun z => Value.int .u64 z).toArray
 let h1 := put h0 1 (firstTab.map fun z => Value.int .u8 z).toArray
 let h2 := put h1 2 ((List.range 16).flatMap fun i => [Value.int .u8 (accLo i), Value.int .u8 (accHi i)]).toArray
 let h3 := put h2 3 #[.slice (some ⟨N, 0, none⟩) T.p16.length T.p16.length]
 let h4 := put h3 4 #[.slice (some ⟨N + 1, 0, none⟩) T.n16.length T.n16.length]
 let h5 := put h4 5 #[.slice (some ⟨N + 2, 0, none⟩) T.p32.length T.p32.length]
 let h6 := put h5 6 #[.slice (some ⟨N + 3, 0, none⟩) T.n32.length T.n32.length]
 let h7 := put h6 7 #[.slice (some ⟨N + 4, 0, none⟩) Go.Pinned.isGraphicZ.length Go.Pinned.isGraphicZ.length]
 let h8 := put h7 8 (au Rows.laid_math_bits_deBruijn32tab)
 let h9 := put h8 9 (au Rows.laid_math_bits_deBruijn64tab)
 { w0 with heap := h9 }
noncomputable abbrev N0 : Nat := (World.settled Tryz.prog default).heap.size
section
variable (os : Os) (args : Array Value)
theorem Vh : LaidIn Tryz.prog ((EX os).forCall (fun _ _ => 0) ⟨#[], args, []⟩).memory [("math/bits.deBruijn32tab", Rows.laid_math_bits_deBruijn32tab), ("math/bits.deBruijn64tab", Rows.laid_math_bits_deBruijn64tab), ("internal/strconv.uint64pow10", Rows.laid_internal_strconv_uint64pow10), ("unicode/utf8.acceptRanges", Rows.laid_unicode_utf8_acceptRanges)] [8, 9, 0, 2] :=
 LaidIn.of_run [8, 9, 0, 2] 8 Ai Ai Ai Ai
theorem Vd : LaidIn Tryz.prog ((EX os).forCall (fun _ _ => 0) ⟨#[], args, []⟩).memory [("unicode/utf8.first", Rows.laid_unicode_utf8_first)] [1] :=
 LaidIn.of_run [1] 8 Ai Ai Ai Ai
theorem VV : LaidIn Tryz.prog ((EX os).forCall (fun _ _ => 0) ⟨#[], args, []⟩).memory [("strconv.isPrint16", Rows.laid_strconv_isPrint16)] [3, N0] := by
 rw [XE]
 exact laidIn_slice (t := 255) (e := 254) (te := 254) goPrintTabs.p16 N0 Ai Ai Ai Ai Ai Ai Ai Ai (of_decide_eq_true Ai) (of_decide_eq_true Ai)
theorem Vo : LaidIn Tryz.prog ((EX os).forCall (fun _ _ => 0) ⟨#[], args, []⟩).memory [("strconv.isNotPrint16", Rows.laid_strconv_isNotPrint16)] [4, N0 + 1] := by
 rw [XJ]
 exact laidIn_slice (t := 255) (e := 254) (te := 254) goPrintTabs.n16 (N0 + 1) Ai Ai Ai Ai Ai Ai Ai Ai (of_decide_eq_true Ai) (of_decide_eq_true Ai)
theorem We : LaidIn Tryz.prog ((EX os).forCall (fun _ _ => 0) ⟨#[], args, []⟩).memory [("strconv.isPrint32", Rows.laid_strconv_isPrint32)] [5, N0 + 2] := by
 rw [Xw]
 exact laidIn_slice (t := 257) (e := 243) (te := 243) goPrintTabs.p32 (N0 + 2) Ai Ai Ai Ai Ai Ai Ai Ai (of_decide_eq_true Ai) (of_decide_eq_true Ai)
theorem WI : LaidIn Tryz.prog ((EX os).forCall (fun _ _ => 0) ⟨#[], args, []⟩).memory [("strconv.isNotPrint32", Rows.laid_strconv_isNotPrint32)] [6, N0 + 3] := by
 rw [Xi]
 exact laidIn_slice (t := 255) (e := 254) (te := 254) goPrintTabs.n32 (N0 + 3) Ai Ai Ai Ai Ai Ai Ai Ai (of_decide_eq_true Ai) (of_decide_eq_true Ai)
theorem Vc : LaidIn Tryz.prog ((EX os).forCall (fun _ _ => 0) ⟨#[], args, []⟩).memory [("strconv.isGraphic", Rows.laid_strconv_isGraphic)] [7, N0 + 4] := by
 rw [aU]
 exact laidIn_slice (t := 255) (e := 254) (te := 254) Go.Pinned.isGraphicZ (N0 + 4) Ai Ai Ai Ai Ai Ai Ai Ai (of_decide_eq_true Ai) (of_decide_eq_true Ai)
theorem Sf : laidMet Tryz.prog IJ ((EX os).forCall (fun _ _ => 0) ⟨#[], args, []⟩).memory :=
 ((((((Vh os args).append (Vc os args) Ai).append (Vo os args) Ai).append (WI os args) Ai).append (VV os args) Ai).append (We os args) Ai |>.append (Vd os args) Ai).met
end
end Go.Proofs.YtapmjpihennhaaaGreatDoor
namespace Go.Proofs.YtapmjpihennhaaaGreatDoor
open Go.Abs Go.Eu
theorem _root_.Go.AA {α : Prop} (h : α := by simp only [HW, Fs, Ep, Wl, List.append_assoc, List.cons_append, List.nil_append, List.take_zero, List.flatMap_nil, List.append_nil, D2]) : α := h
theorem _root_.Go.AD {α : Prop} (h : α := by simp only [ByteArray.size_append, aa, List.length_append, List.length_cons, List.length_nil, H5]; omega) : α := h
theorem _root_.Go.AO {α : Prop} (h : α := by simp only [ByteArray.size_append, aa]; omega) : α := h
theorem U4 : ∀ (GL : List (Nat × Obj)) (b : Nat), Gh GL → ∀ (n : Nat) (t : Tm) (l : List UInt8) (T0 : List BL), size t ≤ n → Fb t → l.length + 20000 * size t ≤ 70368744177664 → Wk b l T0 → Bl Tryz.prog 122 [.ptr b 0, TV t] (.glob GL :: T0) (GB (.tup []) (fun H => ∃ T, Wk b (l ++ Hn t) T ∧ H = .glob GL :: T)) := by
 intro GL b hG n
 induction n with
 | zero => intro t l T0 h; cases t; simp [size] at h
 | succ n ih =>
  intro t l T0 h1 h2 h3 h4
  obtain ⟨tk, ti, tn, tl, ts⟩ := t
  have hNd := h2.nd
  have hFw := h2.fw
  have hNq := h2.nq
  have hCn := h2.cn
  simp only [size] at h1 h3
  simp only [Nd, II, Dp] at hNd
  simp only [Fw] at hFw
  have hs1 := Gv (n := tk) hNd.2.2.2.2.2.1
  have hs2 := Gv (n := ti) hNd.2.2.2.2.2.2
  have hs3 := Pk tn
  have hz1 := FO (n := tk) hNd.2.2.2.2.2.1
  have hz2 := FO (n := ti) hNd.2.2.2.2.2.2
  refine A3 Tryz.func122 Ao YE (n := 74) Ao Ao ?_
  refine As ?_
  refine Aq ?_
  refine BH Ao Ao (Bb Ao) fun b3 => ?_
  refine Au Ao ?_
  refine As ?_
  refine CJ (fun k => Nat.beq k 15) Dq ?_
  refine Ay Ao Ao (fun _ => Ar Ao) trivial ?_
  refine Ay Ao Ao (fun _ => Av CN Ao Ao) trivial ?_
  refine BK (j := 0) rfl rfl rfl (fun H i hi => Ax (i := i) DQ rfl hi rfl) (by repeat' first | exact trivial | refine And.intro ?_ ?_ | ((refine Or.inr (And.intro ?_ ?_) <;> repeat (first | exact List.Mem.head _ | apply List.Mem.tail)); done) | exact Or.inl Ai) trivial ?_
  refine Cd rfl rfl (CH [1] rfl (.inl ⟨rfl, rfl, rfl⟩) (hG.itoa tk hNd.2.2.2.2.2.1) ⟨_, _, rfl, rfl, rfl⟩ Al rfl (.inl rfl)) (by repeat' first | exact trivial | refine And.intro ?_ ?_ | ((refine Or.inr (And.intro ?_ ?_) <;> repeat (first | exact List.Mem.head _ | apply List.Mem.tail)); done) | exact Or.inl Ai) trivial ?_
  refine Ay Ao Ao (fun _ => EI Ao Ao AO) trivial ?_
  refine Ay Ao Ao (fun _ => EI Ao Ao AO) trivial ?_
  refine Ay Ao Ao (fun _ => Av CN Ao Ao) trivial ?_
  refine BK (j := 0) rfl rfl rfl (fun H i hi => Ax (i := i) DQ rfl hi rfl) (by repeat' first | exact trivial | refine And.intro ?_ ?_ | ((refine Or.inr (And.intro ?_ ?_) <;> repeat (first | exact List.Mem.head _ | apply List.Mem.tail)); done) | exact Or.inl Ai) trivial ?_
  refine Cd rfl rfl (CH [1] rfl (.inl ⟨rfl, rfl, rfl⟩) (hG.itoa ti hNd.2.2.2.2.2.2) ⟨_, _, rfl, rfl, rfl⟩ Al rfl (.inl rfl)) (by repeat' first | exact trivial | refine And.intro ?_ ?_ | ((refine Or.inr (And.intro ?_ ?_) <;> repeat (first | exact List.Mem.head _ | apply List.Mem.tail)); done) | exact Or.inl Ai) trivial ?_
  refine Ay Ao Ao (fun _ => EI Ao Ao AO) trivial ?_
  refine Ay Ao Ao (fun _ => EI Ao Ao AO) trivial ?_
  refine Ay Ao Ao (fun _ => Av CN Ao Ao) trivial ?_
  refine BK (j := 0) rfl rfl rfl (fun H i hi => Ax (i := i) GO rfl hi rfl) (by repeat' first | exact trivial | refine And.intro ?_ ?_ | ((refine Or.inr (And.intro ?_ ?_) <;> repeat (first | exact List.Mem.head _ | apply List.Mem.tail)); done) | exact Or.inl Ai) trivial ?_
  refine Cd rfl rfl (CH [1] rfl (.inl ⟨rfl, rfl, rfl⟩) (hG.quote tn hNd.1 hNq.1) ⟨_, _, rfl, rfl, rfl⟩ Al rfl (.inl rfl)) (by repeat' first | exact trivial | refine And.intro ?_ ?_ | ((refine Or.inr (And.intro ?_ ?_) <;> repeat (first | exact List.Mem.head _ | apply List.Mem.tail)); done) | exact Or.inl Ai) trivial ?_
  refine Ay Ao Ao (fun _ => EI Ao Ao AO) trivial ?_
  refine FV [_, _] [] rfl rfl rfl (.inl ⟨rfl, rfl, rfl⟩) (R1 (b := b) AD h4) (aw (we rfl) (aw (we rfl) Ci)) Ai (U1 _ _ _ _) fun T hT => ⟨(by repeat' first | exact trivial | refine And.intro ?_ ?_ | ((refine Or.inr (And.intro ?_ ?_) <;> repeat (first | exact List.Mem.head _ | apply List.Mem.tail)); done) | exact Or.inl Ai), trivial, ?_⟩
  refine CA Ao Ai ?_
  refine As ?_
  refine As ?_
  refine Aq ?_
  refine Ap Ao Ao (Av CN Ao Ao) ?_
  refine Ap Ao Ao (Ax (i := 0) IM Ao Ao Ao) ?_
  refine Ap Ao Ao (Bx G8 Ao (List.length_map _)) ?_
  refine Ap Ao Ao (Ar Ao) ?_
  refine Au Ao ?_
  refine BU ?_
  refine CS (α := Nat × List BL) (fun (i, U) => ⟨74, mk [(0, .ptr b 0), (3, .ptr b3 0), (27, .p (.lst (List.map Db tl))), (28, .p (I (tl.length : Nat))), (29, .p (I (i : Int)))], (.box b3 [.p (I tk), .p (I ti), .p (.str tn), .p (.lst (List.map Db tl)), .p (.lst (BO ts))] :: .glob GL :: U), []⟩) (fun (i, U) => tl.length - i) (fun (i, U) => i ≤ tl.length ∧ (Wk b (l ++ (40 :: (Lib.itoa tk ++ 32 :: (Lib.itoa ti ++ 32 :: Fv tn))) ++ (tl.take i).flatMap JQ) U)) ⟨0, T⟩ (⟨by omega, MZ hT AA⟩) ?_ ?_
  ·exact B8 ⟨we Ao, we Ao, we Ao, we Ao, we Ao, trivial⟩ (Oo [0, 1] [_, _] (l' := [_, _]) Ao (wl (oe Ao) (wl (oe Ao) (ET))))
  rintro ⟨i, U⟩ hC
  try simp only at hC
  obtain ⟨hi, hC⟩ := hC
  have hfl := P5 hNd.2.2.1 hFw.2.2.1 hFw.2.1 i
  refine As ?_
  refine Aq ?_
  refine Ap Ao Ao (A7 Ao Ao Ao) ?_
  refine Au Ao ?_
  refine As ?_
  refine A4 Ao (fun c => ?_) (fun c => ?_)
  ·(try simp only [sd, se] at c)
   refine BD ?_
   refine As ?_
   refine BU ?_
   refine As ?_
   refine Aq ?_
   obtain ⟨x, hx⟩ := BM (l := tl) (i := i) Am
   have hxd := hNd.2.2.1 _ (List.mem_of_getElem? hx)
   have hxv := hFw.2.2.1 _ (List.mem_of_getElem? hx)
   have hz3 := FO hxd.c
   have hs4 := Gv hxd.c
   refine Ap Ao Ao (BJ G8 Ao Ao Am (IQ hx) (Ao)) ?_
   refine Ap Ao Ao (Be D1 Ao (Ao)) ?_
   refine BH Ao Ao (BG GQ Ao) fun b5 => ?_
   refine Ap Ao Ao (A1 (i := 0) D1 Ao Ao Ao Ao Ao (Um _)) ?_
   refine Au Ao ?_
   refine As ?_
   refine Aq ?_
   refine Ap Ao Ao (Ar Ao) ?_
   refine Ap Ao Ao (Av Dh Ao Ao) ?_
   refine Ap Ao Ao (Ax (i := 0) DQ Ao Ao Ao) ?_
   refine Ap Ao Ao (CH [2] Ao (.inl ⟨Ao, Ao, Ao⟩) (hG.itoa x.const hxd.c) ⟨_, _, Ao, Ao, Ao⟩ Al Ao (.inl Ao)) ?_
   refine Ap Ao Ao (EI Ao Ao AO) ?_
   refine FQ [_, _, _] Ao Ao Ao (.inl ⟨Ao, Ao, Ao⟩) (R1 (b := b) AD hC) (aw (we Ao) (aw (we Ao) Ci)) fun T1 hT1 => ?_
   refine Au Ao ?_
   refine As ?_
   refine As ?_
   refine Aq ?_
   refine Ap Ao Ao (Av Dh Ao Ao) ?_
   refine Ap Ao Ao (Ax (i := 0) Ge Ao Ao Ao) ?_
   refine Ap Ao Ao (Bx FJ Ao (List.length_map _)) ?_
   refine Ap Ao Ao (Ar Ao) ?_
   refine Au Ao ?_
   refine BU ?_
   refine CS (α := Nat × List BL) (fun (j, U) => ⟨74, mk [(0, .ptr b 0), (3, .ptr b3 0), (27, .p (.lst (List.map Db tl))), (28, .p (I (tl.length : Nat))), (29, .p (I (i : Int))), (40, .p (.lst (List.map D5 x.vars))), (41, .p (I (x.vars.length : Nat))), (42, .p (I (j : Int)))], (.box b3 [.p (I tk), .p (I ti), .p (.str tn), .p (.lst (List.map Db tl)), .p (.lst (BO ts))] :: .glob GL :: U), []⟩) (fun (j, U) => x.vars.length - j) (fun (j, U) => j ≤ x.vars.length ∧ (Wk b (l ++ (40 :: (Lib.itoa tk ++ 32 :: (Lib.itoa ti ++ 32 :: Fv tn))) ++ (tl.take i).flatMap JQ ++ (91 :: Lib.itoa x.const) ++ (x.vars.take j).flatMap JT) U)) ⟨0, T1⟩ (⟨by omega, MZ hT1 AA⟩) ?_ ?_
   ·exact B8 ⟨we Ao, we Ao, we Ao, we Ao, we Ao, we Ao, we Ao, we Ao, trivial⟩ (Oo [1, 2] [_, _, _] (l' := [_, _]) Ao (wl (oe Ao) (wl (oe Ao) (ET))))
   rintro ⟨j, U⟩ hC1
   try simp only at hC1
   obtain ⟨hi, hC1⟩ := hC1
   have hfv := P8 hxd.v hxv j
   refine As ?_
   refine Aq ?_
   refine Ap Ao Ao (A7 Ao Ao Ao) ?_
   refine Au Ao ?_
   refine As ?_
   refine A4 Ao (fun c1 => ?_) (fun c1 => ?_)
   ·(try simp only [sd, se] at c1)
    refine BD ?_
    refine As ?_
    refine BU ?_
    refine As ?_
    refine Aq ?_
    obtain ⟨v, hv⟩ := BM (l := x.vars) (i := j) Am
    have hz4 := Gv (hxd.v _ (List.mem_of_getElem? hv)).1
    have hz5 := Gv (hxd.v _ (List.mem_of_getElem? hv)).2
    refine Ap Ao Ao (BJ FJ Ao Ao Am (FP hv) (Ao)) ?_
    refine Ap Ao Ao (Be Nh Ao (Ao)) ?_
    refine BH Ao Ao (BG KT Ao) fun b7 => ?_
    refine Ap Ao Ao (A1 (i := 0) Nh Ao Ao Ao Ao Ao (S6 _)) ?_
    refine Au Ao ?_
    refine CJ (fun k => Nat.beq k 10) Dq ?_
    refine Ay Ao Ao (fun _ => Ar Ao) trivial ?_
    refine Ay Ao Ao (fun _ => Av E4 Ao Ao) trivial ?_
    refine BK (j := 0) rfl rfl rfl (fun H i hi => Ax (i := i) DQ rfl hi rfl) (by repeat' first | exact trivial | refine And.intro ?_ ?_ | ((refine Or.inr (And.intro ?_ ?_) <;> repeat (first | exact List.Mem.head _ | apply List.Mem.tail)); done) | exact Or.inl Ai) trivial ?_
    refine Cd rfl rfl (CH [2] rfl (.inl ⟨rfl, rfl, rfl⟩) (hG.itoa v.index (hxd.v _ (List.mem_of_getElem? hv)).1) ⟨_, _, rfl, rfl, rfl⟩ Al rfl (.inl rfl)) (by repeat' first | exact trivial | refine And.intro ?_ ?_ | ((refine Or.inr (And.intro ?_ ?_) <;> repeat (first | exact List.Mem.head _ | apply List.Mem.tail)); done) | exact Or.inl Ai) trivial ?_
    refine Ay Ao Ao (fun _ => EI Ao Ao AO) trivial ?_
    refine Ay Ao Ao (fun _ => EI Ao Ao AO) trivial ?_
    refine Ay Ao Ao (fun _ => Av E4 Ao Ao) trivial ?_
    refine BK (j := 0) rfl rfl rfl (fun H i hi => Ax (i := i) DQ rfl hi rfl) (by repeat' first | exact trivial | refine And.intro ?_ ?_ | ((refine Or.inr (And.intro ?_ ?_) <;> repeat (first | exact List.Mem.head _ | apply List.Mem.tail)); done) | exact Or.inl Ai) trivial ?_
    refine Cd rfl rfl (CH [2] rfl (.inl ⟨rfl, rfl, rfl⟩) (hG.itoa v.plus (hxd.v _ (List.mem_of_getElem? hv)).2) ⟨_, _, rfl, rfl, rfl⟩ Al rfl (.inl rfl)) (by repeat' first | exact trivial | refine And.intro ?_ ?_ | ((refine Or.inr (And.intro ?_ ?_) <;> repeat (first | exact List.Mem.head _ | apply List.Mem.tail)); done) | exact Or.inl Ai) trivial ?_
    refine Ay Ao Ao (fun _ => EI Ao Ao AO) trivial ?_
    refine FV [_, _, _] [] rfl rfl rfl (.inl ⟨rfl, rfl, rfl⟩) (R1 (b := b) AD hC1) (aw (we rfl) (aw (we rfl) Ci)) Ai (U1 _ _ _ _) fun T2 hT2 => ⟨(by repeat' first | exact trivial | refine And.intro ?_ ?_ | ((refine Or.inr (And.intro ?_ ?_) <;> repeat (first | exact List.Mem.head _ | apply List.Mem.tail)); done) | exact Or.inl Ai), trivial, ?_⟩
    refine CA Ao Ai ?_
    refine Aq ?_
    refine Ap Ao Ao (CT Ao Ao Am Am) ?_
    refine Ap Ao Ao (Ar Ao) ?_
    refine Au Ao ?_
    refine ⟨⟨j + 1, T2⟩, AT, ⟨by omega, MZ hT2 (by rw [NO hv]; simp only [JT]; simp only [HW, Fs, Ep, Wl, List.append_assoc, List.cons_append, List.nil_append, List.take_zero, List.flatMap_nil, List.append_nil, D2])⟩, B8 ⟨we rfl, we rfl, we rfl, we rfl, we rfl, we rfl, we rfl, we rfl, trivial⟩ (Oo [1, 2] [_, _, _] (l' := [_, _]) rfl (wl (oe rfl) (wl (oe rfl) (ET))))⟩
   ·(try simp only [sd, se] at c1)
    refine CL ?_
    refine Aq ?_
    refine Ap Ao Ao (Ar Ao) ?_
    refine FQ [_, _] Ao Ao Ao (.inl ⟨Ao, Ao, Ao⟩) (R1 (b := b) AD hC1) (aw (we Ao) (aw (we Ao) Ci)) fun T2 hT2 => ?_
    refine Au Ao ?_
    refine Aq ?_
    refine Ap Ao Ao (CT Ao Ao Am Am) ?_
    refine Ap Ao Ao (Ar Ao) ?_
    refine Au Ao ?_
    refine ⟨⟨i + 1, T2⟩, AT, ⟨by omega, MZ hT2 (by rw [show j = x.vars.length by omega, List.take_length, NO hx]; simp only [JQ]; simp only [HW, Fs, Ep, Wl, List.append_assoc, List.cons_append, List.nil_append, List.take_zero, List.flatMap_nil, List.append_nil, D2])⟩, B8 ⟨we rfl, we rfl, we rfl, we rfl, we rfl, trivial⟩ (Oo [0, 1] [_, _] (l' := [_, _]) rfl (wl (oe rfl) (wl (oe rfl) (ET))))⟩
  ·(try simp only [sd, se] at c)
   refine CL ?_
   refine As ?_
   refine As ?_
   refine Aq ?_
   refine Ap Ao Ao (Av CN Ao Ao) ?_
   refine Ap Ao Ao (Ax (i := 0) DC Ao Ao Ao) ?_
   refine Ap Ao Ao (Bx B4 Ao (Bt _)) ?_
   refine Ap Ao Ao (Ar Ao) ?_
   refine Au Ao ?_
   refine BU ?_
   refine CS (α := Nat × List BL) (fun (i, U) => ⟨74, mk [(0, .ptr b 0), (62, .p (.lst (BO ts))), (63, .p (I (ts.length : Nat))), (64, .p (I (i : Int)))], (.glob GL :: U), []⟩) (fun (i, U) => ts.length - i) (fun (i, U) => i ≤ ts.length ∧ (Wk b (l ++ (40 :: (Lib.itoa tk ++ 32 :: (Lib.itoa ti ++ 32 :: Fv tn))) ++ tl.flatMap JQ ++ D2 (ts.take i)) U)) ⟨0, U⟩ (⟨by omega, MZ hC (by rw [show i = tl.length by omega, List.take_length]; simp only [HW, Fs, Ep, Wl, List.append_assoc, List.cons_append, List.nil_append, List.take_zero, List.flatMap_nil, List.append_nil, D2])⟩) ?_ ?_
   ·exact B8 ⟨we Ao, we Ao, we Ao, we Ao, trivial⟩ (Oo [1] [_, _] (l' := [_]) Ao (wl (oe Ao) (ET)))
   rintro ⟨i, U⟩ hC1
   try simp only at hC1
   obtain ⟨hi, hC⟩ := hC1
   have hfk := Re hNd.2.2.2.2.1 hFw.2.2.2 i
   have hfl := Rj hNd.2.2.1 hFw.2.2.1 hFw.2.1
   refine As ?_
   refine Aq ?_
   refine Ap Ao Ao (A7 Ao Ao Ao) ?_
   refine Au Ao ?_
   refine As ?_
   refine A4 Ao (fun c1 => ?_) (fun c1 => ?_)
   ·(try simp only [sd, se] at c1)
    refine BD ?_
    refine As ?_
    refine BU ?_
    refine As ?_
    refine Aq ?_
    obtain ⟨x, hx⟩ := BM (l := ts) (i := i) Am
    refine Ap Ao Ao (BJ B4 Ao Ao Am (B9 hx) (Bh _)) ?_
    refine Ap Ao Ao (Be BI Ao (Bh _)) ?_
    refine BH Ao Ao (BG B0 Ao) fun b9 => ?_
    refine Ap Ao Ao (A1 (i := 0) BI Ao Ao Ao Af AX (B3 _)) ?_
    refine Au Ao ?_
    refine Aq ?_
    refine Ap Ao Ao (Ar Ao) ?_
    refine Ap Ao Ao (Aw (i := 0) BI Ao Ao Af) ?_
    refine FT (H' := [.box b9 ((Ba x).map .p)] ++ (.glob GL :: U)) (List.Perm.refl _) ?_
    refine FQ [_] Ao Ao Ao (.inl ⟨Ao, Ao, Ao⟩) (ih x (l ++ (40 :: (Lib.itoa tk ++ 32 :: (Lib.itoa ti ++ 32 :: Fv tn))) ++ tl.flatMap JQ ++ D2 (ts.take i)) _ (by have := DD hx; omega) ⟨OE hCn.2 (List.mem_of_getElem? hx), Dn hNd.2.2.2.2.1 hx, Md hNq.2 (List.mem_of_getElem? hx), LZ hFw.2.2.2 (List.mem_of_getElem? hx)⟩ (by simp only [List.length_append, List.length_cons, H5]; have := QE hNd.2.2.2.2.1 hFw.2.2.2 i hx; omega) hC) (aw (we Ao) (aw (we Ao) Ci)) fun T0x hT0x => ?_
    obtain ⟨T1, hT1, rfl⟩ := hT0x
    refine Au Ao ?_
    refine Aq ?_
    refine Ap Ao Ao (CT Ao Ao Am Am) ?_
    refine Ap Ao Ao (Ar Ao) ?_
    refine Au Ao ?_
    refine ⟨⟨i + 1, T1⟩, AT, ⟨by omega, MZ hT1 (by rw [Lm hx]; simp only [HW, Fs, Ep, Wl, List.append_assoc, List.cons_append, List.nil_append, List.take_zero, List.flatMap_nil, List.append_nil, D2])⟩, B8 ⟨we rfl, we rfl, we rfl, we rfl, trivial⟩ (Oo [1] [_, _] (l' := [_]) rfl (wl (oe rfl) (ET)))⟩
   ·(try simp only [sd, se] at c1)
    refine CL ?_
    refine Aq ?_
    refine Ap Ao Ao (Ar Ao) ?_
    refine FQ [_] Ao Ao Ao (.inl ⟨Ao, Ao, Ao⟩) (R1 (b := b) AD hC) (aw (we Ao) (aw (we Ao) Ci)) fun T1 hT1 => ?_
    refine Au Ao ?_
    refine ⟨Ao, _, _, Ao, (F9 [0] [_] Ao), ?_⟩
    exact ⟨Ao, _, MZ hT1 (by rw [show i = ts.length by omega, List.take_length]; simp only [Hn]; simp only [HW, Fs, Ep, Wl, List.append_assoc, List.cons_append, List.nil_append, List.take_zero, List.flatMap_nil, List.append_nil, D2]), Ao⟩
theorem _root_.Go.AK {α : Prop} (h : α := by first | omega | (simp_all; done) | (simp_all; omega)) : α := h
theorem _root_.Go.AE {α : Prop} (h : α := by first | (simp only [List.length_map, Bt]; omega) | (simp_all; done) | (simp_all; omega)) : α := h
theorem Vg : ∀ (c : Nat) (cs : List Int) (A : List Tm) (al : Int) (o o' : Option Nat) (cp cp' : Nat) (t : Tm) (sg : Int), (Nd t) → (JS A) → (∀ a ∈ A, size a < 1000000) → (cs.length = A.length) → (A.length < 1000) → Bl Tryz.prog 101 [.ptr c 0, .agg ((Ba t).map .p), .p (I sg)] [.box c [.vs o (List.map Ca cs).length cp, .vs o' (BO A).length cp', .p (I al)], .vec o 1 (List.map Ca cs) cp, .vec o' 5 (BO A) cp'] (fun x H' => x = .val (.tup []) ∧ Oh c (GR ⟨cs, A, al⟩ t sg) H') := by
 intro c cs A al o o' cp cp' t sg h1 h2 h3 h4 h5
 refine A3 Tryz.func101 Ao Xc (n := 62) Ao Ao ?_
 refine As ?_
 refine Aq ?_
 refine BH Ao Ao (Bb Ao) fun b4 => ?_
 refine Au Ao ?_
 refine As ?_
 refine Aq ?_
 refine Ap Ao Ao (Ar Ao) ?_
 refine Ap Ao Ao (BT Ao) ?_
 refine Ap Ao Ao (Av HD Ao Ao) ?_
 refine Ap Ao Ao (Ax (i := 1) DQ Ao Ao Ao) ?_
 refine Ap Ao Ao (D8 Ao Ao) ?_
 refine Ap Ao Ao (BT Ao) ?_
 refine Ap Ao Ao (Av HD Ao Ao) ?_
 refine Ap Ao Ao (Bc (i := 1) DQ Ao Ao Ao Ao Ao Ao) ?_
 refine Au Ao ?_
 refine As ?_
 refine As ?_
 refine Aq ?_
 refine Ap Ao Ao (At Ao) ?_
 refine Au Ao ?_
 refine BU ?_
 refine CS (α := Nat) (fun i => ⟨62, mk [(0, .ptr c 0), (2, .p (I sg)), (4, .ptr b4 0), (6, .p (I (i : Int)))], [.box b4 ((Ba t).map .p), .box c [.vs o (List.map Ca cs).length cp, .vs o' (BO A).length cp', .p (I (wr ((al : Int) + (1 : Int))))], .vec o 1 (List.map Ca cs) cp, .vec o' 5 (BO A) cp'], []⟩) (fun i => A.length - i) (fun i => i ≤ A.length ∧ (∀ j, j < i → ∀ x, A[j]? = some x → NF x t = false)) 0 (⟨by omega, fun j h => by omega⟩) ?_ ?_
 ·exact B8 ⟨we Ao, we Ao, we Ao, we Ao, trivial⟩ (leH (is := [0, 1, 2, 3]) Ao (wl (oe Ao) (wl (oe Ao) (wl (oe Ao) (wl (oe Ao) (ET))))))
 rintro i hC
 try simp only at hC
 obtain ⟨hi, hC⟩ := hC
 refine As ?_
 refine As ?_
 refine Aq ?_
 refine Ap Ao Ao (Ar Ao) ?_
 refine Ap Ao Ao (Ar Ao) ?_
 refine Ap Ao Ao (BT Ao) ?_
 refine Ap Ao Ao (Av HD Ao Ao) ?_
 refine Ap Ao Ao (Ax (i := 1) DC Ao Ao Ao) ?_
 refine Ap Ao Ao (KD B4 Ao (Bt _)) ?_
 refine Ap Ao Ao (A7 Ao Ao Ao) ?_
 refine Au Ao ?_
 refine A4 Ao (fun c1 => ?_) (fun c1 => ?_)
 ·(try simp only [sd, se] at c1)
  refine BD ?_
  refine As ?_
  refine BU ?_
  refine As ?_
  refine Pe (i := 3) Ao Aa fun b hb => ?_
  subst hb
  refine CJ (fun k => false) Dq ?_
  refine Ay Ao Ao (fun _ => Ar Ao) trivial ?_
  refine Ay Ao Ao (fun _ => BT Ao) trivial ?_
  refine Ay Ao Ao (fun _ => Av HD Ao Ao) trivial ?_
  refine BK (j := 1) rfl rfl rfl (fun H i hi => Ax (i := i) DC rfl hi rfl) (by repeat' first | exact trivial | refine And.intro ?_ ?_ | ((refine Or.inr (And.intro ?_ ?_) <;> repeat (first | exact List.Mem.head _ | apply List.Mem.tail)); done) | exact Or.inl Ai) trivial ?_
  refine Ay Ao Ao (fun _ => Ar Ao) trivial ?_
  refine Ay Ao Ao (fun _ => De B4 Ao Ao Am AE) trivial ?_
  obtain ⟨y, hy⟩ := BM (l := A) (i := i) AK
  refine BK (j := 3) rfl rfl rfl (fun H i hi => IG (i := i) BI rfl hi (B9 hy)) (by repeat' first | exact trivial | refine And.intro ?_ ?_ | ((refine Or.inr (And.intro ?_ ?_) <;> repeat (first | exact List.Mem.head _ | apply List.Mem.tail)); done) | exact Or.inl Ai) trivial ?_
  refine BK (j := 0) rfl rfl rfl (fun H i hi => Aw (i := i) BI rfl hi Af) (by repeat' first | exact trivial | refine And.intro ?_ ?_ | ((refine Or.inr (And.intro ?_ ?_) <;> repeat (first | exact List.Mem.head _ | apply List.Mem.tail)); done) | exact Or.inl Ai) trivial ?_
  refine Ay Ao Ao (fun _ => Bf Ao Ao (P3 _ y t (Nat.le_refl _) (Dn h2 hy)) Ao) trivial ?_
  refine CA Ao Ai ?_
  refine A4 Ao (fun c2 => ?_) (fun c2 => ?_)
  ·(try simp only [sd, se] at c2)
   refine As ?_
   refine Aq ?_
   refine Ap Ao Ao (Ar Ao) ?_
   refine Ap Ao Ao (BT Ao) ?_
   refine Ap Ao Ao (Av HD Ao Ao) ?_
   refine Ap Ao Ao (Ax (i := 1) Lq Ao Ao Ao) ?_
   refine Ap Ao Ao (Ar Ao) ?_
   refine Q1 (i := 2) Ao Aa fun b1 hb1 => ?_
   subst hb1
   refine Ap Ao Ao (De E0 Ao Ao Am AE) ?_
   obtain ⟨y1, hy1⟩ := BM (l := cs) (i := i) AK
   refine Ap Ao Ao (JZ (i := 2) DQ Ao Ao (D7 hy1)) ?_
   refine Ap Ao Ao (Ar Ao) ?_
   refine Ap Ao Ao (D8 Ao Ao) ?_
   refine Ap Ao Ao (De E0 Ao Ao Am AE) ?_
   refine Ap Ao Ao (FU (i := 2) (j := i) DQ Ao Ao Ao AH Ao Ao Ao Ao (Sl (f := Ca) cs i (wr ((y1 : Int) + (sg : Int))))) ?_
   refine Au Ao ?_
   refine A5 ?_
   refine ⟨Ao, _, _, Ao, (Cf (is := [1, 2, 3]) Ao), ?_⟩
   refine ⟨Ao, ?_⟩
   show Oh c _ [.box c [.vs (some b1) (List.map Ca cs).length cp, .vs (some b) (BO A).length cp', .p (I (wr ((al : Int) + (1 : Int))))], .vec (some b1) 1 (List.map Ca ((cs).set i (wr ((y1 : Int) + (sg : Int))))) cp, .vec (some b) 5 (BO A) cp']
   rw [Tf hy Aj hC hy1]
   exact ⟨(some b1), cp, (some b), cp', by simp only [List.length_map, List.length_set, Bt, List.length_append]⟩
  ·(try simp only [sd, se] at c2)
   refine BD ?_
   refine Aq ?_
   refine Ap Ao Ao (Ar Ao) ?_
   refine Ap Ao Ao (CT Ao Ao Am Am) ?_
   refine Ap Ao Ao (At Ao) ?_
   refine Au Ao ?_
   refine ⟨(i + 1), AT, ⟨by omega, FG hC hy (by simpa using c2)⟩, B8 ⟨we rfl, we rfl, we rfl, we rfl, trivial⟩ (leH (is := [0, 1, 2, 3]) rfl (wl (oe rfl) (wl (oe rfl) (wl (oe rfl) (wl (oe rfl) (ET))))))⟩
 ·(try simp only [sd, se] at c1)
  refine CL ?_
  refine CJ (fun k => Nat.beq k 8 || Nat.beq k 15) Dq ?_
  refine Ay Ao Ao (fun _ => Ar Ao) trivial ?_
  refine Ay Ao Ao (fun _ => Ar Ao) trivial ?_
  refine Ay Ao Ao (fun _ => Ar Ao) trivial ?_
  refine Ay Ao Ao (fun _ => BT Ao) trivial ?_
  refine Ay Ao Ao (fun _ => Av HD Ao Ao) trivial ?_
  refine BK (j := 1) rfl rfl rfl (fun H i hi => Ax (i := i) Lq rfl hi rfl) (by repeat' first | exact trivial | refine And.intro ?_ ?_ | ((refine Or.inr (And.intro ?_ ?_) <;> repeat (first | exact List.Mem.head _ | apply List.Mem.tail)); done) | exact Or.inl Ai) trivial ?_
  refine Ay Ao Ao (fun _ => Ar Ao) trivial ?_
  refine Ay Ao Ao (fun _ => CE E0 Tn Ao Ao Ao Ao Ao) trivial ?_
  obtain ⟨tk, ti, tn, tl, ts⟩ := t
  refine K4 [(9, .free (.ptr c 0)), (10, .free (.ptr c 0)), (11, .free (.ptr c 1)), (12, .read [.box c [.vs o (List.map Ca cs).length cp, .vs o' (BO A).length cp', .p (I (wr ((al : Int) + (1 : Int))))]] (.vs o' (BO A).length cp')), (13, .read [.box b4 [.p (I tk), .p (I ti), .p (.str tn), .p (.lst (List.map Db tl)), .p (.lst (BO ts))]] (.agg [.p (I tk), .p (I ti), .p (.str tn), .p (.lst (List.map Db tl)), .p (.lst (BO ts))])), (14, .free (.p (.lst (BO [(.mk tk ti tn tl ts : Tm)]))))] rfl rfl (En (i := 2) (rows' := List.map Ca [sg]) E0 E0 Tn rfl rfl rfl rfl rfl rfl (Nk _) AB (IN (f := Ca) cs [sg])) Ai fun o1 cp1 => ⟨(by repeat' first | exact trivial | refine And.intro ?_ ?_ | ((refine Or.inr (And.intro ?_ ?_) <;> repeat (first | exact List.Mem.head _ | apply List.Mem.tail)); done) | exact Or.inl Ai), trivial, ?_⟩
  refine Ay Ao Ao (fun _ => Ar Ao) (by repeat' first | exact trivial | rfl | refine And.intro ?_ ?_) ?_
  refine Ay Ao Ao (fun _ => BT Ao) (by repeat' first | exact trivial | rfl | refine And.intro ?_ ?_) ?_
  refine Ay Ao Ao (fun _ => Av HD Ao Ao) (by repeat' first | exact trivial | rfl | refine And.intro ?_ ?_) ?_
  refine BK (j := 1) rfl rfl rfl (fun H i hi => Ax (i := i) DC rfl hi rfl) (by repeat' first | exact trivial | refine And.intro ?_ ?_ | ((refine Or.inr (And.intro ?_ ?_) <;> repeat (first | exact List.Mem.head _ | apply List.Mem.tail)); done) | exact Or.inl Ai) (by repeat' first | exact trivial | rfl | refine And.intro ?_ ?_) ?_
  refine BK (j := 0) rfl rfl rfl (fun H i hi => Aw (i := i) BI rfl hi rfl) (by repeat' first | exact trivial | refine And.intro ?_ ?_ | ((refine Or.inr (And.intro ?_ ?_) <;> repeat (first | exact List.Mem.head _ | apply List.Mem.tail)); done) | exact Or.inl Ai) (by repeat' first | exact trivial | rfl | refine And.intro ?_ ?_) ?_
  refine Ay Ao Ao (fun _ => CE B4 B0 Ao Ao Ao Ao Ao) (by repeat' first | exact trivial | rfl | refine And.intro ?_ ?_) ?_
  refine K4 [] rfl rfl (En (i := 3) (rows' := BO [(.mk tk ti tn tl ts : Tm)]) B4 B4 B0 rfl rfl rfl rfl rfl rfl (B6 _) AB (NJ A [(.mk tk ti tn tl ts : Tm)])) Ai fun o2 cp2 => ⟨(by repeat' first | exact trivial | refine And.intro ?_ ?_ | ((refine Or.inr (And.intro ?_ ?_) <;> repeat (first | exact List.Mem.head _ | apply List.Mem.tail)); done) | exact Or.inl Ai), (by repeat' first | exact trivial | rfl | refine And.intro ?_ ?_), ?_⟩
  refine Ay Ao Ao (fun _ => BT Ao) (by repeat' first | exact trivial | rfl | refine And.intro ?_ ?_) ?_
  refine Ay Ao Ao (fun _ => Av HD Ao Ao) (by repeat' first | exact trivial | rfl | refine And.intro ?_ ?_) ?_
  refine Cd rfl rfl (Bc (i := 1) Lq rfl rfl rfl rfl rfl rfl) (by repeat' first | exact trivial | refine And.intro ?_ ?_ | ((refine Or.inr (And.intro ?_ ?_) <;> repeat (first | exact List.Mem.head _ | apply List.Mem.tail)); done) | exact Or.inl Ai) (by repeat' first | exact trivial | rfl | refine And.intro ?_ ?_) ?_
  refine Ay Ao Ao (fun _ => BT Ao) (by repeat' first | exact trivial | rfl | refine And.intro ?_ ?_) ?_
  refine Ay Ao Ao (fun _ => Av HD Ao Ao) (by repeat' first | exact trivial | rfl | refine And.intro ?_ ?_) ?_
  refine Cd rfl rfl (Bc (i := 1) DC rfl rfl rfl rfl rfl rfl) (by repeat' first | exact trivial | refine And.intro ?_ ?_ | ((refine Or.inr (And.intro ?_ ?_) <;> repeat (first | exact List.Mem.head _ | apply List.Mem.tail)); done) | exact Or.inl Ai) (by repeat' first | exact trivial | rfl | refine And.intro ?_ ?_) ?_
  refine CA Ao Ai ?_
  refine ⟨Ao, _, _, Ao, (Cf (is := [1, 2, 3]) Ao), ?_⟩
  refine ⟨Ao, ?_⟩
  show Oh c _ [.box c [.vs o1 (List.map Ca (cs ++ [sg])).length cp1, .vs o2 (BO (A ++ [(.mk tk ti tn tl ts : Tm)])).length cp2, .p (I (wr ((al : Int) + (1 : Int))))], .vec o1 1 (List.map Ca (cs ++ [sg])) cp1, .vec o2 5 (BO (A ++ [(.mk tk ti tn tl ts : Tm)])) cp2]
  rw [RQ (i := i) Am hC]
  exact ⟨o1, cp1, o2, cp2, by simp only [List.length_map, List.length_set, Bt, List.length_append]⟩
theorem UQ {c : Nat} {C : GV} {t : Tm} {sg : Int} {T : List BL} (h1 : Fb t) (h2 : QC C) (h3 : Gs C) (hT : Oh c C T) : Bl Tryz.prog 101 [.ptr c 0, TV t, .p (I sg)] T (GB (.tup []) (Oh c (GR C t sg))) := by
 obtain ⟨o, cp, o', cp', rfl⟩ := hT
 refine (Vg c C.coefs C.atoms C.all o o' cp cp' t sg h1.nd h2.nds (fun a ha => (h2 a ha).2) h3.len h3.lt).mono ?_
 rintro r H' ⟨rfl, h⟩
 exact ⟨Ao, h⟩
theorem QY : ∀ (th : BF) (c : Nat) (n : Nat) (C : GV) (t : Tm) (sg : Int) (T : List BL), size t ≤ n → Fb t → size t < 1000000 → Gs C → QC C → Oh c C T → Bl Tryz.prog 54 [.ptr c 0, .agg ((Ef th).map .p), TV t, .p (I sg)] T (GB (.tup []) (Oh c (B7 th n C t sg))) := by
 intro th c n
 induction n with
 | zero => intro C t sg T h; cases t; simp [size] at h
 | succ n ih =>
  intro C t sg T h1 h2 h3 h4 h5 h6
  obtain ⟨o, cp, o', cp', rfl⟩ := h6
  have hsp := E8 t
  obtain ⟨BA, A6, A8, A9, BC, BB, thm⟩ := th
  refine A3 Tryz.func54 Ao Y3 (n := 77) Ao Ao ?_
  refine As ?_
  refine Aq ?_
  refine BH Ao Ao (Bb Ao) fun b5 => ?_
  refine BH Ao Ao (Bb Ao) fun b6 => ?_
  refine Au Ao ?_
  refine As ?_
  refine Aq ?_
  refine Ap Ao Ao (Aw (i := 0) BI Ao Ao Af) ?_
  refine Ap Ao Ao (Bf Ao Ao (SK _ t (Nat.le_refl _) Ab) Ao) ?_
  refine Ap Ao Ao (Ar Ao) ?_
  refine Ap Ao Ao (BY Ao Ao) ?_
  refine Ap Ao Ao (BY Ao Ao) ?_
  refine BH Ao Ao (BG B0 Ao) fun b8 => ?_
  refine Ap Ao Ao (A1 (i := 0) BI Ao Ao Ao Af AX (B3 _)) ?_
  refine Ap Ao Ao (At Ao) ?_
  refine Au Ao ?_
  refine BU ?_
  refine As ?_
  refine Aq ?_
  refine Ap Ao Ao (Ar Ao) ?_
  refine Ap Ao Ao (BT Ao) ?_
  refine Ap Ao Ao (Av HD Ao Ao) ?_
  refine Ap Ao Ao (Ax (i := 3) DQ Ao Ao Ao) ?_
  refine Ap Ao Ao (A7 Ao Ao Ao) ?_
  refine Ap Ao Ao (At Ao) ?_
  refine Au Ao ?_
  refine A4 Ao (fun c1 => ?_) (fun c1 => ?_)
  ·have c1R := c1
   (try simp only [sd, se] at c1)
   refine BD ?_
   refine ⟨Ao, _, _, Ao, (Cf (is := [3, 4, 5]) Ao), ?_⟩
   refine ⟨Ao, ?_⟩
   rw [JX Am]
   exact ⟨_, _, _, _, Ao⟩
  ·have c1R := c1
   (try simp only [sd, se] at c1)
   refine As ?_
   refine CB [0, 3, 5, 6, 8, 9] 25 (fun y => y = .p (.bool ((DK ((Bo t).1) A6) && (((((Bo t).2).length : Nat) : Int) == (2 : Int))))) ?_ ?_
   ·refine Aq ?_
    refine Ap Ao Ao (Aw (i := 0) BI Ao Ao Af) ?_
    refine Ap Ao Ao (Av Du Ao Ao) ?_
    refine Ap Ao Ao (Ax (i := 2) GO Ao Ao Ao) ?_
    refine Ap Ao Ao (Bf Ao Ao (Ly ((Bo t).1) A6) Ao) ?_
    refine Ap Ao Ao (Ar Ao) ?_
    refine Bm 30 Ao (fun g => ?_) (fun g => ?_)
    ·(try simp only [sd, se] at g)
     refine Az Ao Ao Ao Ao (Ar Ao) ?_
     refine Az Ao Ao Ao Ao (Bx B4 Ao (Bt _)) ?_
     refine Az Ao Ao Ao Ao (A7 Ao Ao Ao) ?_
     refine Ap Ao Ao (A2 Ao Ao) ?_
     refine Ap Ao Ao (At Ao) ?_
     refine Au Ao ?_
     exact ⟨Ao, Ao, AG, AF, ⟨Ao, Ao, Ao, Ao, Ao, Ao, trivial⟩⟩
    ·(try simp only [sd, se] at g)
     refine A0 Ao Ao Ao Ao Ao ?_
     refine A0 Ao Ao Ao Ao Ao ?_
     refine A0 Ao Ao Ao Ao Ao ?_
     refine Ap Ao Ao (A2 Ao Ao) ?_
     refine Ap Ao Ao (At Ao) ?_
     refine Au Ao ?_
     exact ⟨Ao, Ao, AG, AF, ⟨Ao, Ao, Ao, Ao, Ao, Ao, trivial⟩⟩
   rintro _ rfl
   refine A4 Ao (fun c2 => ?_) (fun c2 => ?_)
   ·have c2R := c2
    (try simp only [sd, se] at c2)
    have ho := Un (th := (BF.mk BA A6 A8 A9 BC BB thm)) c2R
    have hl := (F5 (th := (BF.mk BA A6 A8 A9 BC BB thm)) (t := t)).1 (by rw [ho])
    rw [ho] at hl
    simp only at hl
    refine As ?_
    refine CJ (fun k => Nat.beq k 6) Dq ?_
    refine Ay Ao Ao (fun _ => Ar Ao) trivial ?_
    refine BK (j := 2) rfl rfl rfl (fun H i hi => Aw (i := i) FE rfl hi rfl) (by repeat' first | exact trivial | refine And.intro ?_ ?_ | ((refine Or.inr (And.intro ?_ ?_) <;> repeat (first | exact List.Mem.head _ | apply List.Mem.tail)); done) | exact Or.inl Ai) trivial ?_
    refine Ay Ao Ao (fun _ => Ar Ao) trivial ?_
    obtain ⟨x, hx⟩ := BM (l := (Bo t).2) (i := 0) Am
    refine Ay Ao Ao (fun _ => BJ B4 Ao Ao Am (B9 hx) (Bh _)) trivial ?_
    refine Ay Ao Ao (fun _ => Be BI Ao (Bh _)) trivial ?_
    refine Ay Ao Ao (fun _ => Ar Ao) trivial ?_
    refine FV [_, _, _] [] rfl rfl rfl (.inl ⟨rfl, rfl, rfl⟩) (ih C x sg _ (by have := (h2.arg hx).2; omega) (h2.arg hx).1 (by have := (h2.arg hx).2; omega) h4 h5 ⟨_, _, _, _, rfl⟩) (aw (we rfl) (aw (we rfl) (aw (we rfl) (aw (we rfl) (Ci))))) Ai (OX _ _) fun T1 hT => ⟨(by repeat' first | exact trivial | refine And.intro ?_ ?_ | ((refine Or.inr (And.intro ?_ ?_) <;> repeat (first | exact List.Mem.head _ | apply List.Mem.tail)); done) | exact Or.inl Ai), trivial, ?_⟩
    refine CA Ao Ai ?_
    refine CJ (fun k => Nat.beq k 6) Dq ?_
    refine Ay Ao Ao (fun _ => Ar Ao) trivial ?_
    refine BK (j := 2) rfl rfl rfl (fun H i hi => Aw (i := i) FE rfl hi rfl) (by repeat' first | exact trivial | refine And.intro ?_ ?_ | ((refine Or.inr (And.intro ?_ ?_) <;> repeat (first | exact List.Mem.head _ | apply List.Mem.tail)); done) | exact Or.inl Ai) trivial ?_
    refine Ay Ao Ao (fun _ => Ar Ao) trivial ?_
    obtain ⟨x1, hx1⟩ := BM (l := (Bo t).2) (i := 1) Am
    refine Ay Ao Ao (fun _ => BJ B4 Ao Ao Am (B9 hx1) (Bh _)) trivial ?_
    refine Ay Ao Ao (fun _ => Be BI Ao (Bh _)) trivial ?_
    refine Ay Ao Ao (fun _ => Ar Ao) trivial ?_
    refine FV [_, _, _] [] rfl rfl rfl (.inl ⟨rfl, rfl, rfl⟩) (ih (B7 (BF.mk BA A6 A8 A9 BC BB thm) n C x sg) x1 sg _ (by have := (h2.arg hx1).2; omega) (h2.arg hx1).1 (by have := (h2.arg hx1).2; omega) (Dv n _ _ _ h4) (FL n _ _ _ h5 (h2.arg hx).1 (by have := (h2.arg hx).2; omega)) hT) (aw (we rfl) (aw (we rfl) (aw (we rfl) (aw (we rfl) (Ci))))) Ai (OX _ _) fun T2 hT1 => ⟨(by repeat' first | exact trivial | refine And.intro ?_ ?_ | ((refine Or.inr (And.intro ?_ ?_) <;> repeat (first | exact List.Mem.head _ | apply List.Mem.tail)); done) | exact Or.inl Ai), trivial, ?_⟩
    refine CA Ao Ai ?_
    refine ⟨Ao, _, _, Ao, (F9 [] [_, _, _] Ao), ?_⟩
    exact ⟨Ao, by rw [Hw Am (by rw [ho]) (by rw [ho]; exact hx) (by rw [ho]; exact hx1)]; exact hT1⟩
   ·have c2R := c2
    (try simp only [sd, se] at c2)
    refine As ?_
    refine CB [0, 3, 5, 6, 8, 9] 49 (fun y => y = .p (.bool ((DK ((Bo t).1) A8) && (((((Bo t).2).length : Nat) : Int) == (0 : Int))))) ?_ ?_
    ·refine Aq ?_
     refine Ap Ao Ao (Aw (i := 0) BI Ao Ao Af) ?_
     refine Ap Ao Ao (Av Du Ao Ao) ?_
     refine Ap Ao Ao (Ax (i := 2) GO Ao Ao Ao) ?_
     refine Ap Ao Ao (Bf Ao Ao (Ly ((Bo t).1) A8) Ao) ?_
     refine Ap Ao Ao (Ar Ao) ?_
     refine Bm 54 Ao (fun g => ?_) (fun g => ?_)
     ·(try simp only [sd, se] at g)
      refine Az Ao Ao Ao Ao (Ar Ao) ?_
      refine Az Ao Ao Ao Ao (Bx B4 Ao (Bt _)) ?_
      refine Az Ao Ao Ao Ao (A7 Ao Ao Ao) ?_
      refine Ap Ao Ao (A2 Ao Ao) ?_
      refine Ap Ao Ao (At Ao) ?_
      refine Au Ao ?_
      exact ⟨Ao, Ao, AG, AF, ⟨Ao, Ao, Ao, Ao, Ao, Ao, trivial⟩⟩
     ·(try simp only [sd, se] at g)
      refine A0 Ao Ao Ao Ao Ao ?_
      refine A0 Ao Ao Ao Ao Ao ?_
      refine A0 Ao Ao Ao Ao Ao ?_
      refine Ap Ao Ao (A2 Ao Ao) ?_
      refine Ap Ao Ao (At Ao) ?_
      refine Au Ao ?_
      exact ⟨Ao, Ao, AG, AF, ⟨Ao, Ao, Ao, Ao, Ao, Ao, trivial⟩⟩
    rintro _ rfl
    refine A4 Ao (fun c3 => ?_) (fun c3 => ?_)
    ·have c3R := c3
     (try simp only [sd, se] at c3)
     have ho := Sq (th := (BF.mk BA A6 A8 A9 BC BB thm)) c2R c3R
     refine BD ?_
     refine ⟨Ao, _, _, Ao, (Cf (is := [3, 4, 5]) Ao), ?_⟩
     refine ⟨Ao, ?_⟩
     rw [HM Am (by rw [ho])]
     exact ⟨_, _, _, _, Ao⟩
    ·have c3R := c3
     (try simp only [sd, se] at c3)
     refine As ?_
     refine CB [0, 3, 5, 6, 9] 59 (fun y => y = .p (.bool ((DK ((Bo t).1) A9) && (((((Bo t).2).length : Nat) : Int) == (1 : Int))))) ?_ ?_
     ·refine Aq ?_
      refine Ap Ao Ao (Aw (i := 0) BI Ao Ao Af) ?_
      refine Ap Ao Ao (Av Du Ao Ao) ?_
      refine Ap Ao Ao (Ax (i := 2) GO Ao Ao Ao) ?_
      refine Ap Ao Ao (Bf Ao Ao (Ly ((Bo t).1) A9) Ao) ?_
      refine Ap Ao Ao (Ar Ao) ?_
      refine Bm 64 Ao (fun g => ?_) (fun g => ?_)
      ·(try simp only [sd, se] at g)
       refine Az Ao Ao Ao Ao (Ar Ao) ?_
       refine Az Ao Ao Ao Ao (Bx B4 Ao (Bt _)) ?_
       refine Az Ao Ao Ao Ao (A7 Ao Ao Ao) ?_
       refine Ap Ao Ao (A2 Ao Ao) ?_
       refine Ap Ao Ao (At Ao) ?_
       refine Au Ao ?_
       exact ⟨Ao, Ao, AG, AF, ⟨Ao, Ao, Ao, Ao, Ao, trivial⟩⟩
      ·(try simp only [sd, se] at g)
       refine A0 Ao Ao Ao Ao Ao ?_
       refine A0 Ao Ao Ao Ao Ao ?_
       refine A0 Ao Ao Ao Ao Ao ?_
       refine Ap Ao Ao (A2 Ao Ao) ?_
       refine Ap Ao Ao (At Ao) ?_
       refine Au Ao ?_
       exact ⟨Ao, Ao, AG, AF, ⟨Ao, Ao, Ao, Ao, Ao, trivial⟩⟩
     rintro _ rfl
     refine A4 Ao (fun c4 => ?_) (fun c4 => ?_)
     ·have c4R := c4
      (try simp only [sd, se] at c4)
      have ho := UW (th := (BF.mk BA A6 A8 A9 BC BB thm)) c2R c3R c4R
      have hl := (F5 (th := (BF.mk BA A6 A8 A9 BC BB thm)) (t := t)).2 (by rw [ho])
      rw [ho] at hl
      simp only at hl
      refine CJ (fun k => Nat.beq k 7) Dq ?_
      refine Ay Ao Ao (fun _ => Ar Ao) trivial ?_
      refine BK (j := 2) rfl rfl rfl (fun H i hi => Aw (i := i) FE rfl hi rfl) (by repeat' first | exact trivial | refine And.intro ?_ ?_ | ((refine Or.inr (And.intro ?_ ?_) <;> repeat (first | exact List.Mem.head _ | apply List.Mem.tail)); done) | exact Or.inl Ai) trivial ?_
      refine Ay Ao Ao (fun _ => Ar Ao) trivial ?_
      obtain ⟨x, hx⟩ := BM (l := (Bo t).2) (i := 0) Am
      refine Ay Ao Ao (fun _ => BJ B4 Ao Ao Am (B9 hx) (Bh _)) trivial ?_
      refine Ay Ao Ao (fun _ => Be BI Ao (Bh _)) trivial ?_
      refine Ay Ao Ao (fun _ => Ar Ao) trivial ?_
      refine Ay Ao Ao (fun _ => Li Ao) trivial ?_
      refine FV [_, _, _] [] rfl rfl rfl (.inl ⟨rfl, rfl, rfl⟩) (ih C x (wr (0 - sg)) _ (by have := (h2.arg hx).2; omega) (h2.arg hx).1 (by have := (h2.arg hx).2; omega) h4 h5 ⟨_, _, _, _, rfl⟩) (aw (we rfl) (aw (we rfl) (aw (we rfl) (aw (we rfl) (Ci))))) Ai (OX _ _) fun T1 hT => ⟨(by repeat' first | exact trivial | refine And.intro ?_ ?_ | ((refine Or.inr (And.intro ?_ ?_) <;> repeat (first | exact List.Mem.head _ | apply List.Mem.tail)); done) | exact Or.inl Ai), trivial, ?_⟩
      refine CA Ao Ai ?_
      refine ⟨Ao, _, _, Ao, (F9 [] [_, _, _] Ao), ?_⟩
      exact ⟨Ao, by rw [Hy Am (by rw [ho]) (by rw [ho]; exact hx)]; exact hT⟩
     ·have c4R := c4
      (try simp only [sd, se] at c4)
      have ho := TR (th := (BF.mk BA A6 A8 A9 BC BB thm)) c2R c3R c4R
      refine Aq ?_
      refine Ap Ao Ao (Ar Ao) ?_
      refine Ap Ao Ao (Aw (i := 1) BI Ao Ao Af) ?_
      refine Ap Ao Ao (Ar Ao) ?_
      refine FQ [_, _, _] Ao Ao Ao (.inl ⟨Ao, Ao, Ao⟩) (UQ (C := C) h2 h5 h4 ⟨_, _, _, _, Ao⟩) (aw (we Ao) (aw (we Ao) (aw (we Ao) (Ci)))) fun T1 hT => ?_
      refine Au Ao ?_
      refine ⟨Ao, _, _, Ao, (F9 [] [_, _, _] Ao), ?_⟩
      exact ⟨Ao, by rw [Fx Am (by rw [ho])]; exact hT⟩
theorem Uk : ∀ (th : BF) (t : Tm), (Fb t) → (size t < 1000000) → G5 Tryz.prog 29 [.agg ((Ef th).map .p), .agg ((Ba t).map .p)] (.tup [.p (.lst (List.map Ca ((EP th t).1))), .p (.lst (BO ((EP th t).2.1))), .p (I ((EP th t).2.2))]) := by
 intro th t h1 h2
 obtain ⟨BA, A6, A8, A9, BC, BB, thm⟩ := th
 refine A3 Tryz.func29 Ao aS (n := 27) Ao Ao ?_
 refine As ?_
 refine Aq ?_
 refine BH Ao Ao (Bb Ao) fun b2 => ?_
 refine BH Ao Ao (Bb Ao) fun b3 => ?_
 refine Ap Ao Ao (At Ao) ?_
 refine Ap Ao Ao (At Ao) ?_
 refine Ap Ao Ao (At Ao) ?_
 refine Au Ao ?_
 refine As ?_
 refine Aq ?_
 refine Ap Ao Ao (Bi HD YA Ao) ?_
 refine BH Ao Ao (Bb Ao) fun b9 => ?_
 refine Ap Ao Ao (At Ao) ?_
 refine Au Ao ?_
 refine As ?_
 refine Aq ?_
 refine Cz (FK (i := 0) Ao (Wj (aw (FF) (aw (we Ao) (aw (we Ao) (Ci)))))) ?_
 refine Cz (Fo (sz := 1)) ?_
 refine Cz (FK (i := 1) Ao (Wj (aw (we Ao) (aw (FF) (aw (we Ao) (Ci)))))) ?_
 refine Cz (Fo (sz := 5)) ?_
 refine FT ((Cj (is := [2, 1, 0]) Al ⟨_, _, Ao, Ao, ⟨_, _, Ao, Ao, ⟨_, _, Ao, Ao, Ao⟩⟩⟩).trans List.perm_append_comm) ?_
 refine Ap Ao Ao (Ar Ao) ?_
 refine Ap Ao Ao (Aw (i := 1) FE Ao Ao Ao) ?_
 refine Ap Ao Ao (Aw (i := 0) BI Ao Ao Af) ?_
 refine FQ [_, _] Ao Ao Ao (.inl ⟨Ao, Ao, Ao⟩) (QY (BF.mk BA A6 A8 A9 BC BB thm) b9 (size t) ⟨[], [], 0⟩ t 1 _ (Nat.le_refl _) h1 h2 JM KO ⟨_, _, _, _, Ao⟩) (aw (we Ao) (aw (we Ao) (aw (we Ao) (aw (we Ao) (Ci))))) fun T hT => ?_
 refine Au Ao ?_
 refine As ?_
 refine As ?_
 refine Aq ?_
 change Oh b9 (Cq (BF.mk BA A6 A8 A9 BC BB thm) t) _ at hT
 obtain ⟨o, cp, o1, cp1, rfl⟩ := hT
 refine Ap Ao Ao (Ar Ao) ?_
 refine Ap Ao Ao (BT Ao) ?_
 refine Ap Ao Ao (Av HD Ao Ao) ?_
 refine Ap Ao Ao (Ax (i := 2) DQ Ao Ao Ao) ?_
 refine Ap Ao Ao (A7 Ao Ao Ao) ?_
 refine Au Ao ?_
 refine A4 Ao (fun c => ?_) (fun c => ?_)
 ·(try simp only [sd, se] at c)
  refine As ?_
  refine Aq ?_
  refine Ap Ao Ao (At Ao) ?_
  refine Ap Ao Ao (At Ao) ?_
  refine Ap Ao Ao (At Ao) ?_
  refine Au Ao ?_
  refine B5 (EF 4) ?_
  refine B5 (EF 5) ?_
  refine A5 ?_
  refine ⟨Ao, _, _, ⟨_, _, Ao, Ao, ⟨_, _, Ao, Ao, ⟨_, _, Ao, Ao, Ao⟩⟩⟩, (List.nil_sublist _), ?_⟩
  rw [NI Am]
  all_goals exact ⟨rfl, rfl⟩
 ·(try simp only [sd, se] at c)
  refine BD ?_
  refine As ?_
  refine CJ (fun k => false) Dq ?_
  refine Ay Ao Ao (fun _ => Ar Ao) trivial ?_
  refine Ay Ao Ao (fun _ => BT Ao) trivial ?_
  refine Ay Ao Ao (fun _ => Av HD Ao Ao) trivial ?_
  refine BK (j := 2) rfl rfl rfl (fun H i hi => Ax (i := i) Lq rfl hi rfl) (by repeat' first | exact trivial | refine And.intro ?_ ?_ | ((refine Or.inr (And.intro ?_ ?_) <;> repeat (first | exact List.Mem.head _ | apply List.Mem.tail)); done) | exact Or.inl Ai) trivial ?_
  refine Ay Ao Ao (fun _ => Ar Ao) trivial ?_
  refine Ay Ao Ao (fun _ => BT Ao) trivial ?_
  refine Ay Ao Ao (fun _ => Av HD Ao Ao) trivial ?_
  refine BK (j := 2) rfl rfl rfl (fun H i hi => Ax (i := i) DC rfl hi rfl) (by repeat' first | exact trivial | refine And.intro ?_ ?_ | ((refine Or.inr (And.intro ?_ ?_) <;> repeat (first | exact List.Mem.head _ | apply List.Mem.tail)); done) | exact Or.inl Ai) trivial ?_
  refine Ay Ao Ao (fun _ => At Ao) trivial ?_
  refine Ay Ao Ao (fun _ => At Ao) trivial ?_
  refine Ay Ao Ao (fun _ => At Ao) trivial ?_
  refine CA Ao Ai ?_
  refine B5 (DT (i := 3) (j := 2) (q := 0) [4, 22] Ao Ao Ao (IA ⟨Ao, Ao, trivial⟩)) ?_
  refine B5 (DT (i := 3) (j := 2) (q := 1) [5, 26] Ao Ao Ao (IA ⟨Ao, Ao, trivial⟩)) ?_
  refine A5 ?_
  refine ⟨Ao, _, _, ⟨_, _, Ao, Ao, ⟨_, _, Ao, Ao, ⟨_, _, Ao, Ao, Ao⟩⟩⟩, (List.nil_sublist _), ?_⟩
  rw [Hr Am]
  all_goals exact ⟨rfl, rfl⟩
theorem VE : ∀ (GL : List (Nat × Obj)) (c m : Nat) (X Y Z : AV) (A : List Tm) (t : Tm) (hG : Gh GL), (Fb t) → (size t < 1000000) → (t ∈ A) → (∀ a ∈ A, LX a) → Bl Tryz.prog 85 [.ptr c 0, .agg ((Ba t).map .p)] [.box c [X, Y, .map m, Z], .map m (DY (Et 0 A)), .glob GL] (fun x H' => x = .val (.p (I (Cu A t : Nat))) ∧ H' = [.box c [X, Y, .map m, Z], .map m (DY (Et 0 A)), .glob GL]) := by
 intro GL c m X Y Z A t hG h1 h2 h3 h4
 have hkl := Lg h1.nd h1.fw
 refine A3 Tryz.func85 Ao XT (n := 52) Ao Ao ?_
 refine As ?_
 refine Aq ?_
 refine BH Ao Ao (Bb Ao) fun b3 => ?_
 refine Ap Ao Ao (At Ao) ?_
 refine Au Ao ?_
 refine As ?_
 refine Aq ?_
 refine Cz (LD (e := 5)) ?_
 refine Qz Ao Ao (L8 U0 Ao) fun b5 => ?_
 refine Cz (FK (i := 0) Ao (XY (aw (we Ao) (aw FF Ci)))) ?_
 refine FT ((Cj (is := [5, 0, 1]) Al ⟨_, _, Ao, Ao, ⟨_, _, Ao, Ao, ⟨_, _, Ao, Ao, Ao⟩⟩⟩).trans List.perm_append_comm) ?_
 refine Au Ao ?_
 refine As ?_
 refine Aq ?_
 refine Ap Ao Ao (Aw (i := 0) BI Ao Ao Af) ?_
 refine FQ [_, _, _] Ao Ao Ao (.inl ⟨Ao, Ao, Ao⟩) (U4 GL b5 hG (size t) t [] _ (Nat.le_refl _) h1 (by simp only [List.length_nil]; omega) (RA _ _ b5)) (aw (we Ao) (aw (we Ao) Ci)) fun T0x hT0x => ?_
 obtain ⟨T, hT, rfl⟩ := hT0x
 rw [List.nil_append] at hT
 refine Au Ao ?_
 refine As ?_
 refine CJ (fun k => Nat.beq k 4) Dq ?_
 refine Ay Ao Ao (fun _ => Ar Ao) trivial ?_
 refine Ay Ao Ao (fun _ => BT Ao) trivial ?_
 refine Ay Ao Ao (fun _ => Av Gk Ao Ao) trivial ?_
 refine BK (j := 1) rfl rfl rfl (fun H i hi => Ax (i := i) VZ rfl hi rfl) (by repeat' first | exact trivial | refine And.intro ?_ ?_ | ((refine Or.inr (And.intro ?_ ?_) <;> repeat (first | exact List.Mem.head _ | apply List.Mem.tail)); done) | exact Or.inl Ai) trivial ?_
 refine FV [_, _, _, _] [] rfl rfl rfl (.inl ⟨rfl, rfl, rfl⟩) (Sw (L1 t) Am hT) (aw (we rfl) Ci) Ai (SI _ _ _ _) fun T1 hT1 => ⟨(by repeat' first | exact trivial | refine And.intro ?_ ?_ | ((refine Or.inr (And.intro ?_ ?_) <;> repeat (first | exact List.Mem.head _ | apply List.Mem.tail)); done) | exact Or.inl Ai), trivial, ?_⟩
 refine BK (j := 2) rfl rfl rfl (fun H i hi => IY (i := i) Zf Tn TY rfl rfl hi (by rw [KJ h1.nq A 0 h4, if_pos (Em h3).1, Nat.zero_add]; try rfl) (by rw [KJ h1.nq A 0 h4, if_pos (Em h3).1]; try rfl)) (by repeat' first | exact trivial | refine And.intro ?_ ?_ | ((refine Or.inr (And.intro ?_ ?_) <;> repeat (first | exact List.Mem.head _ | apply List.Mem.tail)); done) | exact Or.inl Ai) (by repeat' first | exact trivial | rfl | refine And.intro ?_ ?_) ?_
 refine Ay Ao Ao (fun _ => Ar Ao) trivial ?_
 refine Ay Ao Ao (fun _ => BY Ao Ao) trivial ?_
 refine Ay Ao Ao (fun _ => BY Ao Ao) trivial ?_
 refine Ay Ao Ao (fun _ => At Ao) trivial ?_
 refine Ay Ao Ao (fun _ => At Ao) trivial ?_
 refine CA Ao Ai ?_
 refine As ?_
 refine As ?_
 refine Aq ?_
 refine Ap Ao Ao (Ar Ao) ?_
 refine Ap Ao Ao (Co Ao) ?_
 refine Au Ao ?_
 refine A4 Ao (fun c1 => by cases c1) (fun c1 => ?_)
 refine BD ?_
 refine As ?_
 refine Aq ?_
 refine Ap Ao Ao (Ar Ao) ?_
 refine Ap Ao Ao (At Ao) ?_
 refine Au Ao ?_
 refine A5 ?_
 refine ⟨Ao, _, _, ⟨_, _, Ao, Ao, Ao⟩, ((Cf (is := [1, 2, 3]) Ao).trans (List.sublist_append_left [_, _, _, _] _)), ?_⟩
 exact ⟨Ao, Ao⟩
theorem YW : ∀ (GL : List (Nat × Obj)) (c m : Nat) (cs : List Int) (A : List Tm) (al : Int) (o o' : Option Nat) (cp cp' : Nat) (t : Tm) (hG : Gh GL), (Fb t) → (size t < 1000000) → (t ∉ A) → (∀ a ∈ A, LX a) → (cs.length = A.length) → (A.length < 1000) → Bl Tryz.prog 85 [.ptr c 0, .agg ((Ba t).map .p)] [.box c [.vs o (List.map Ca cs).length cp, .vs o' (BO A).length cp', .map m, .p (I al)], .vec o 1 (List.map Ca cs) cp, .vec o' 5 (BO A) cp', .map m (DY (Et 0 A)), .glob GL] (fun x H' => x = .val (.p (I (A.length : Nat))) ∧ ∃ T, My c ⟨cs ++ [0], A ++ [t], al⟩ T ∧ H' = T ++ [.glob GL]) := by
 intro GL c m cs A al o o' cp cp' t hG h1 h2 h3 h4 h5 h6
 have hkl := Lg h1.nd h1.fw
 refine A3 Tryz.func85 Ao XT (n := 52) Ao Ao ?_
 refine As ?_
 refine Aq ?_
 refine BH Ao Ao (Bb Ao) fun b3 => ?_
 refine Ap Ao Ao (At Ao) ?_
 refine Au Ao ?_
 refine As ?_
 refine Aq ?_
 refine Cz (LD (e := 5)) ?_
 refine Qz Ao Ao (L8 U0 Ao) fun b5 => ?_
 refine Cz (FK (i := 0) Ao (XY (aw (we Ao) (aw FF Ci)))) ?_
 refine FT ((Cj (is := [7, 0, 1]) Al ⟨_, _, Ao, Ao, ⟨_, _, Ao, Ao, ⟨_, _, Ao, Ao, Ao⟩⟩⟩).trans List.perm_append_comm) ?_
 refine Au Ao ?_
 refine As ?_
 refine Aq ?_
 refine Ap Ao Ao (Aw (i := 0) BI Ao Ao Af) ?_
 refine FQ [_, _, _, _, _] Ao Ao Ao (.inl ⟨Ao, Ao, Ao⟩) (U4 GL b5 hG (size t) t [] _ (Nat.le_refl _) h1 (by simp only [List.length_nil]; omega) (RA _ _ b5)) (aw (we Ao) (aw (we Ao) Ci)) fun T0x hT0x => ?_
 obtain ⟨T, hT, rfl⟩ := hT0x
 rw [List.nil_append] at hT
 refine Au Ao ?_
 refine As ?_
 refine CJ (fun k => Nat.beq k 4) Dq ?_
 refine Ay Ao Ao (fun _ => Ar Ao) trivial ?_
 refine Ay Ao Ao (fun _ => BT Ao) trivial ?_
 refine Ay Ao Ao (fun _ => Av Gk Ao Ao) trivial ?_
 refine BK (j := 1) rfl rfl rfl (fun H i hi => Ax (i := i) VZ rfl hi rfl) (by repeat' first | exact trivial | refine And.intro ?_ ?_ | ((refine Or.inr (And.intro ?_ ?_) <;> repeat (first | exact List.Mem.head _ | apply List.Mem.tail)); done) | exact Or.inl Ai) trivial ?_
 refine FV [_, _, _, _, _, _] [] rfl rfl rfl (.inl ⟨rfl, rfl, rfl⟩) (Sw (L1 t) Am hT) (aw (we rfl) Ci) Ai (SI _ _ _ _) fun T1 hT1 => ⟨(by repeat' first | exact trivial | refine And.intro ?_ ?_ | ((refine Or.inr (And.intro ?_ ?_) <;> repeat (first | exact List.Mem.head _ | apply List.Mem.tail)); done) | exact Or.inl Ai), trivial, ?_⟩
 refine BK (j := 4) rfl rfl rfl (fun H i hi => IY (i := i) Zf Tn TY rfl rfl hi (by rw [KJ h1.nq A 0 h4, if_neg (FC h3)]; try rfl) (by rw [KJ h1.nq A 0 h4, if_neg (FC h3)]; try rfl)) (by repeat' first | exact trivial | refine And.intro ?_ ?_ | ((refine Or.inr (And.intro ?_ ?_) <;> repeat (first | exact List.Mem.head _ | apply List.Mem.tail)); done) | exact Or.inl Ai) (by repeat' first | exact trivial | rfl | refine And.intro ?_ ?_) ?_
 refine Ay Ao Ao (fun _ => Ar Ao) trivial ?_
 refine Ay Ao Ao (fun _ => BY Ao Ao) trivial ?_
 refine Ay Ao Ao (fun _ => BY Ao Ao) trivial ?_
 refine Ay Ao Ao (fun _ => At Ao) trivial ?_
 refine Ay Ao Ao (fun _ => At Ao) trivial ?_
 refine CA Ao Ai ?_
 refine As ?_
 refine As ?_
 refine Aq ?_
 refine Ap Ao Ao (Ar Ao) ?_
 refine Ap Ao Ao (Co Ao) ?_
 refine Au Ao ?_
 refine A4 Ao (fun c1 => ?_) (fun c1 => by cases c1)
 refine As ?_
 refine Aq ?_
 refine Ap Ao Ao (Ar Ao) ?_
 refine Ap Ao Ao (BT Ao) ?_
 refine Ap Ao Ao (Av Gk Ao Ao) ?_
 refine Ap Ao Ao (Ax (i := 1) DC Ao Ao Ao) ?_
 refine Ap Ao Ao (KD B4 Ao (Bt _)) ?_
 refine Ap Ao Ao (At Ao) ?_
 refine Au Ao ?_
 refine As ?_
 refine CJ (fun k => Nat.beq k 4) Dq ?_
 refine Ay Ao Ao (fun _ => Ar Ao) trivial ?_
 refine Ay Ao Ao (fun _ => BT Ao) trivial ?_
 refine Ay Ao Ao (fun _ => Av Gk Ao Ao) trivial ?_
 refine BK (j := 1) rfl rfl rfl (fun H i hi => Ax (i := i) VZ rfl hi rfl) (by repeat' first | exact trivial | refine And.intro ?_ ?_ | ((refine Or.inr (And.intro ?_ ?_) <;> repeat (first | exact List.Mem.head _ | apply List.Mem.tail)); done) | exact Or.inl Ai) trivial ?_
 refine FV [_, _, _, _, _, _] [(5, .free (.p (I (A.length : Nat))))] rfl rfl rfl (.inl ⟨rfl, rfl, rfl⟩) (TD (L1 t) Am hT1) (aw (we rfl) Ci) Ai (SI _ _ _ _) fun T2 hT2 => ⟨(by repeat' first | exact trivial | refine And.intro ?_ ?_ | ((refine Or.inr (And.intro ?_ ?_) <;> repeat (first | exact List.Mem.head _ | apply List.Mem.tail)); done) | exact Or.inl Ai), trivial, ?_⟩
 refine Ay Ao Ao (fun _ => Ar Ao) (by repeat' first | exact trivial | rfl | refine And.intro ?_ ?_) ?_
 refine Cd rfl rfl (LQ (i := 4) (l' := Et 0 (A ++ [t])) Zf rfl rfl rfl rfl (by have := RH h1.nq A 0 h4 h3; rw [Nat.zero_add] at this; exact this)) (by repeat' first | exact trivial | refine And.intro ?_ ?_ | ((refine Or.inr (And.intro ?_ ?_) <;> repeat (first | exact List.Mem.head _ | apply List.Mem.tail)); done) | exact Or.inl Ai) (by repeat' first | exact trivial | rfl | refine And.intro ?_ ?_) ?_
 refine CA Ao Ai ?_
 refine CJ (fun k => Nat.beq k 7 || Nat.beq k 14) Dq ?_
 refine Ay Ao Ao (fun _ => Ar Ao) trivial ?_
 refine Ay Ao Ao (fun _ => Ar Ao) trivial ?_
 refine Ay Ao Ao (fun _ => Ar Ao) trivial ?_
 refine Ay Ao Ao (fun _ => BT Ao) trivial ?_
 refine Ay Ao Ao (fun _ => Av Gk Ao Ao) trivial ?_
 refine BK (j := 1) rfl rfl rfl (fun H i hi => Ax (i := i) Lq rfl hi rfl) (by repeat' first | exact trivial | refine And.intro ?_ ?_ | ((refine Or.inr (And.intro ?_ ?_) <;> repeat (first | exact List.Mem.head _ | apply List.Mem.tail)); done) | exact Or.inl Ai) trivial ?_
 refine Ay Ao Ao (fun _ => CE E0 Tn Ao Ao Ao Ao Ao) trivial ?_
 obtain ⟨tk, ti, tn, tl, ts⟩ := t
 refine K4 [(8, .free (.ptr c 0)), (9, .free (.ptr c 0)), (10, .free (.ptr c 1)), (11, .read [.box c [.vs o (List.map Ca cs).length cp, .vs o' (BO A).length cp', .map m, .p (I al)]] (.vs o' (BO A).length cp')), (12, .read [.box b3 [.p (I tk), .p (I ti), .p (.str tn), .p (.lst (List.map Db tl)), .p (.lst (BO ts))]] (.agg [.p (I tk), .p (I ti), .p (.str tn), .p (.lst (List.map Db tl)), .p (.lst (BO ts))])), (13, .free (.p (.lst (BO [(.mk tk ti tn tl ts : Tm)]))))] rfl rfl (En (i := 2) (rows' := List.map Ca [0]) E0 E0 Tn rfl rfl rfl rfl rfl rfl (Nk _) AB (IN (f := Ca) cs [0])) Ai fun o1 cp1 => ⟨(by repeat' first | exact trivial | refine And.intro ?_ ?_ | ((refine Or.inr (And.intro ?_ ?_) <;> repeat (first | exact List.Mem.head _ | apply List.Mem.tail)); done) | exact Or.inl Ai), trivial, ?_⟩
 refine Ay Ao Ao (fun _ => Ar Ao) (by repeat' first | exact trivial | rfl | refine And.intro ?_ ?_) ?_
 refine Ay Ao Ao (fun _ => BT Ao) (by repeat' first | exact trivial | rfl | refine And.intro ?_ ?_) ?_
 refine Ay Ao Ao (fun _ => Av Gk Ao Ao) (by repeat' first | exact trivial | rfl | refine And.intro ?_ ?_) ?_
 refine BK (j := 1) rfl rfl rfl (fun H i hi => Ax (i := i) DC rfl hi rfl) (by repeat' first | exact trivial | refine And.intro ?_ ?_ | ((refine Or.inr (And.intro ?_ ?_) <;> repeat (first | exact List.Mem.head _ | apply List.Mem.tail)); done) | exact Or.inl Ai) (by repeat' first | exact trivial | rfl | refine And.intro ?_ ?_) ?_
 refine BK (j := 0) rfl rfl rfl (fun H i hi => Aw (i := i) BI rfl hi rfl) (by repeat' first | exact trivial | refine And.intro ?_ ?_ | ((refine Or.inr (And.intro ?_ ?_) <;> repeat (first | exact List.Mem.head _ | apply List.Mem.tail)); done) | exact Or.inl Ai) (by repeat' first | exact trivial | rfl | refine And.intro ?_ ?_) ?_
 refine Ay Ao Ao (fun _ => CE B4 B0 Ao Ao Ao Ao Ao) (by repeat' first | exact trivial | rfl | refine And.intro ?_ ?_) ?_
 refine K4 [] rfl rfl (En (i := 3) (rows' := BO [(.mk tk ti tn tl ts : Tm)]) B4 B4 B0 rfl rfl rfl rfl rfl rfl (B6 _) AB (NJ A [(.mk tk ti tn tl ts : Tm)])) Ai fun o2 cp2 => ⟨(by repeat' first | exact trivial | refine And.intro ?_ ?_ | ((refine Or.inr (And.intro ?_ ?_) <;> repeat (first | exact List.Mem.head _ | apply List.Mem.tail)); done) | exact Or.inl Ai), (by repeat' first | exact trivial | rfl | refine And.intro ?_ ?_), ?_⟩
 refine Ay Ao Ao (fun _ => BT Ao) (by repeat' first | exact trivial | rfl | refine And.intro ?_ ?_) ?_
 refine Ay Ao Ao (fun _ => Av Gk Ao Ao) (by repeat' first | exact trivial | rfl | refine And.intro ?_ ?_) ?_
 refine Cd rfl rfl (Bc (i := 1) Lq rfl rfl rfl rfl rfl rfl) (by repeat' first | exact trivial | refine And.intro ?_ ?_ | ((refine Or.inr (And.intro ?_ ?_) <;> repeat (first | exact List.Mem.head _ | apply List.Mem.tail)); done) | exact Or.inl Ai) (by repeat' first | exact trivial | rfl | refine And.intro ?_ ?_) ?_
 refine Ay Ao Ao (fun _ => BT Ao) (by repeat' first | exact trivial | rfl | refine And.intro ?_ ?_) ?_
 refine Ay Ao Ao (fun _ => Av Gk Ao Ao) (by repeat' first | exact trivial | rfl | refine And.intro ?_ ?_) ?_
 refine Cd rfl rfl (Bc (i := 1) DC rfl rfl rfl rfl rfl rfl) (by repeat' first | exact trivial | refine And.intro ?_ ?_ | ((refine Or.inr (And.intro ?_ ?_) <;> repeat (first | exact List.Mem.head _ | apply List.Mem.tail)); done) | exact Or.inl Ai) (by repeat' first | exact trivial | rfl | refine And.intro ?_ ?_) ?_
 refine CA Ao Ai ?_
 refine As ?_
 refine Aq ?_
 refine Ap Ao Ao (Ar Ao) ?_
 refine Ap Ao Ao (At Ao) ?_
 refine Au Ao ?_
 refine A5 ?_
 refine ⟨Ao, _, _, ⟨_, _, Ao, Ao, Ao⟩, ((Cf (is := [1, 2, 3, 4, 5]) Ao).trans (List.sublist_append_left [_, _, _, _, _, _] _)), ?_⟩
 refine ⟨Ao, _, ⟨o1, cp1, o2, cp2, m, Ao⟩, by simp only [List.length_map, List.length_set, Bt, List.length_append, List.cons_append, List.nil_append]; rfl⟩
theorem YM {GL : List (Nat × Obj)} (hG : Gh GL) {c : Nat} {C : GV} {t : Tm} {T : List BL} (h1 : Fb t) (h2 : size t < 1000000) (h3 : QC C) (h4 : C.coefs.length = C.atoms.length) (h5 : C.atoms.length < 1000) (hT : My c C T) : Bl Tryz.prog 85 [.ptr c 0, TV t] (.glob GL :: T) (GB (.p (I (Cu (Mu C t).atoms t : Nat))) (fun H => ∃ T', My c (Mu C t) T' ∧ H = .glob GL :: T')) := by
 obtain ⟨o, cp, o', cp', m, rfl⟩ := hT
 by_cases h : t ∈ C.atoms
 ·rw [Px h]
  refine K7 (OY (VE GL c m (.vs o (C.coefs.map Ca).length cp) (.vs o' (BO C.atoms).length cp') (.p (I C.all)) C.atoms t hG h1 h2 h h3.nq) [.vec o 1 (C.coefs.map Ca) cp, .vec o' 5 (BO C.atoms) cp']) ((Cj (is := [1, 4, 0]) Al ⟨_, _, Ao, Ao, _, _, Ao, Ao, _, _, Ao, Ao, Ao⟩).trans (List.Perm.refl _)) ?_
  rintro r H1 ⟨H2, ⟨rfl, rfl⟩, rfl⟩
  exact ⟨_, ((Cj (is := [1, 4, 0]) (H := ([.glob GL, .box c [.vs o (C.coefs.map Ca).length cp, .vs o' (BO C.atoms).length cp', .map m, .p (I C.all)], .vec o 1 (C.coefs.map Ca) cp, .vec o' 5 (BO C.atoms) cp', .map m (DY (Et 0 C.atoms))] : List BL)) Al ⟨_, _, Ao, Ao, _, _, Ao, Ao, _, _, Ao, Ao, Ao⟩).symm), Ao, _, ⟨o, cp, o', cp', m, Ao⟩, Ao⟩
 ·rw [Ob h]
  refine K7 (YW GL c m C.coefs C.atoms C.all o o' cp cp' t hG h1 h2 h h3.nq h4 h5) (List.perm_append_comm (l₁ := [_])) ?_
  rintro r H1 ⟨rfl, T, hT, rfl⟩
  exact ⟨.glob GL :: T, List.perm_append_comm, ⟨by rw [Jf h], T, hT, rfl⟩⟩
theorem Xx {GL : List (Nat × Obj)} (hG : Gh GL) {c ix : Nat} {C : GV} {t : Tm} {T : List BL} (hix : ix = Cu (Mu C t).atoms t) (h1 : Fb t) (h2 : size t < 1000000) (h3 : QC C) (h4 : C.coefs.length = C.atoms.length) (h5 : C.atoms.length < 1000) (hT : My c C T) : Bl Tryz.prog 85 [.ptr c 0, TV t] (.glob GL :: T) (GB (.p (I (ix : Nat))) (fun H => ∃ T', My c (Mu C t) T' ∧ H = .glob GL :: T')) := by
 subst hix; exact YM hG h1 h2 h3 h4 h5 hT
theorem Lh : ∀ (GL : List (Nat × Obj)) (hG : Gh GL) (th : BF) (c : Nat) (n : Nat) (C : GV) (t : Tm) (sg : Int) (T : List BL), size t ≤ n → Fb t → size t < 1000000 → Gs C → QC C → II sg → My c C T → Bl Tryz.prog 77 [.ptr c 0, .agg ((Ef th).map .p), TV t, .p (I sg)] (.glob GL :: T) (GB (.tup []) (fun H => ∃ T', My c (B7 th n C t sg) T' ∧ H = .glob GL :: T')) := by
 intro GL hG th c n
 induction n with
 | zero => intro C t sg T h; cases t; simp [size] at h
 | succ n ih =>
  intro C t sg T h1 h2 h3 h4 h5 h6 h7
  obtain ⟨o, cp, o', cp', m, rfl⟩ := h7
  obtain ⟨BA, A6, A8, A9, BC, BB, thm⟩ := th
  refine A3 Tryz.func77 Ao Yx (n := 71) Ao Ao ?_
  refine As ?_
  refine Aq ?_
  refine BH Ao Ao (Bb Ao) fun b5 => ?_
  refine BH Ao Ao (Bb Ao) fun b6 => ?_
  refine Au Ao ?_
  refine As ?_
  refine As ?_
  refine Aq ?_
  refine Ap Ao Ao (Ar Ao) ?_
  refine Ap Ao Ao (BT Ao) ?_
  refine Ap Ao Ao (Av Gk Ao Ao) ?_
  refine Ap Ao Ao (Ax (i := 3) DQ Ao Ao Ao) ?_
  refine Ap Ao Ao (A7 Ao Ao Ao) ?_
  refine Au Ao ?_
  refine A4 Ao (fun c1 => ?_) (fun c1 => ?_)
  ·(try simp only [sd, se] at c1)
   refine A5 ?_
   refine ⟨Ao, _, _, Ao, (Cf (is := [2, 3, 4, 5, 6]) Ao), ?_⟩
   exact ⟨Ao, _, by rw [JX Am]; exact ⟨_, _, _, _, _, rfl⟩, rfl⟩
  ·(try simp only [sd, se] at c1)
   refine BD ?_
   refine As ?_
   refine Aq ?_
   refine Ap Ao Ao (Aw (i := 1) FE Ao Ao Ao) ?_
   refine Ap Ao Ao (Aw (i := 0) BI Ao Ao Af) ?_
   refine Ap Ao Ao (Bf Ao Ao (U6 (BF.mk BA A6 A8 A9 BC BB thm) t h2.nd h3) Ao) ?_
   refine Ap Ao Ao (Ar Ao) ?_
   refine Ap Ao Ao (BY Ao Ao) ?_
   refine Ap Ao Ao (BY Ao Ao) ?_
   refine Ap Ao Ao (At Ao) ?_
   refine Ap Ao Ao (At Ao) ?_
   refine Au Ao ?_
   refine As ?_
   refine Aq ?_
   refine Ap Ao Ao (Ar Ao) ?_
   refine Au Ao ?_
   refine BU ?_
   refine As ?_
   refine Aq ?_
   refine Ap Ao Ao (A7 Ao Ao Ao) ?_
   refine Ap Ao Ao (At Ao) ?_
   refine Au Ao ?_
   refine A4 Ao (fun c2 => ?_) (fun c2 => ?_)
   ·(try simp only [sd, se] at c2)
    have hl := (F5 (th := (BF.mk BA A6 A8 A9 BC BB thm)) (t := t)).1 c2
    have e2 := GM (th := (BF.mk BA A6 A8 A9 BC BB thm)) (t := t) (by rw [c2]; decide) (by rw [c2]; decide)
    refine As ?_
    refine CJ (fun k => Nat.beq k 6) Dq ?_
    refine Ay Ao Ao (fun _ => Ar Ao) trivial ?_
    refine BK (j := 1) rfl rfl rfl (fun H i hi => Aw (i := i) FE rfl hi rfl) (by repeat' first | exact trivial | refine And.intro ?_ ?_ | ((refine Or.inr (And.intro ?_ ?_) <;> repeat (first | exact List.Mem.head _ | apply List.Mem.tail)); done) | exact Or.inl Ai) trivial ?_
    refine Ay Ao Ao (fun _ => Ar Ao) trivial ?_
    obtain ⟨x, hx⟩ := BM (l := (C8 (BF.mk BA A6 A8 A9 BC BB thm) t).2) (i := 0) Am
    refine Ay Ao Ao (fun _ => BJ B4 Ao Ao Am (B9 hx) (Bh _)) trivial ?_
    refine Ay Ao Ao (fun _ => Be BI Ao (Bh _)) trivial ?_
    refine Ay Ao Ao (fun _ => Ar Ao) trivial ?_
    refine FV [_, _] [] rfl rfl rfl (.inl ⟨rfl, rfl, rfl⟩) (ih C x sg _ (by have := (h2.arg (e2 ▸ hx)).2; omega) (h2.arg (e2 ▸ hx)).1 (by have := (h2.arg (e2 ▸ hx)).2; omega) h4 h5 h6 ⟨_, _, _, _, _, rfl⟩) (aw (we rfl) (aw (we rfl) (aw (we rfl) (aw (we rfl) (Ci))))) Ai (⟨_, _, ⟨none, 0, none, 0, 0, rfl⟩, rfl⟩) fun T0x hT0x => ⟨(by repeat' first | exact trivial | refine And.intro ?_ ?_ | ((refine Or.inr (And.intro ?_ ?_) <;> repeat (first | exact List.Mem.head _ | apply List.Mem.tail)); done) | exact Or.inl Ai), trivial, ?_⟩
    obtain ⟨T1, hT, rfl⟩ := hT0x
    refine CA Ao Ai ?_
    refine CJ (fun k => Nat.beq k 6) Dq ?_
    refine Ay Ao Ao (fun _ => Ar Ao) trivial ?_
    refine BK (j := 1) rfl rfl rfl (fun H i hi => Aw (i := i) FE rfl hi rfl) (by repeat' first | exact trivial | refine And.intro ?_ ?_ | ((refine Or.inr (And.intro ?_ ?_) <;> repeat (first | exact List.Mem.head _ | apply List.Mem.tail)); done) | exact Or.inl Ai) trivial ?_
    refine Ay Ao Ao (fun _ => Ar Ao) trivial ?_
    obtain ⟨x1, hx1⟩ := BM (l := (C8 (BF.mk BA A6 A8 A9 BC BB thm) t).2) (i := 1) Am
    refine Ay Ao Ao (fun _ => BJ B4 Ao Ao Am (B9 hx1) (Bh _)) trivial ?_
    refine Ay Ao Ao (fun _ => Be BI Ao (Bh _)) trivial ?_
    refine Ay Ao Ao (fun _ => Ar Ao) trivial ?_
    refine FV [_, _] [] rfl rfl rfl (.inl ⟨rfl, rfl, rfl⟩) (ih (B7 (BF.mk BA A6 A8 A9 BC BB thm) n C x sg) x1 sg _ (by have := (h2.arg (e2 ▸ hx1)).2; omega) (h2.arg (e2 ▸ hx1)).1 (by have := (h2.arg (e2 ▸ hx1)).2; omega) (Dv n _ _ _ h4) (FL n _ _ _ h5 (h2.arg (e2 ▸ hx)).1 (by have := (h2.arg (e2 ▸ hx)).2; omega)) h6 hT) (aw (we rfl) (aw (we rfl) (aw (we rfl) (aw (we rfl) (Ci))))) Ai (⟨_, _, ⟨none, 0, none, 0, 0, rfl⟩, rfl⟩) fun T0x hT0x => ⟨(by repeat' first | exact trivial | refine And.intro ?_ ?_ | ((refine Or.inr (And.intro ?_ ?_) <;> repeat (first | exact List.Mem.head _ | apply List.Mem.tail)); done) | exact Or.inl Ai), trivial, ?_⟩
    obtain ⟨T2, hT1, rfl⟩ := hT0x
    refine CA Ao Ai ?_
    refine ⟨Ao, _, _, Ao, (F9 [2] [_, _, _] Ao), ?_⟩
    exact ⟨Ao, _, by rw [Hw Am Aj hx hx1]; exact hT1, rfl⟩
   ·(try simp only [sd, se] at c2)
    refine As ?_
    refine Aq ?_
    refine Ap Ao Ao (A7 Ao Ao Ao) ?_
    refine Ap Ao Ao (At Ao) ?_
    refine Au Ao ?_
    refine A4 Ao (fun c3 => ?_) (fun c3 => ?_)
    ·(try simp only [sd, se] at c3)
     have hl := (F5 (th := (BF.mk BA A6 A8 A9 BC BB thm)) (t := t)).2 c3
     have e2 := GM (th := (BF.mk BA A6 A8 A9 BC BB thm)) (t := t) (by rw [c3]; decide) (by rw [c3]; decide)
     refine CJ (fun k => Nat.beq k 7) Dq ?_
     refine Ay Ao Ao (fun _ => Ar Ao) trivial ?_
     refine BK (j := 1) rfl rfl rfl (fun H i hi => Aw (i := i) FE rfl hi rfl) (by repeat' first | exact trivial | refine And.intro ?_ ?_ | ((refine Or.inr (And.intro ?_ ?_) <;> repeat (first | exact List.Mem.head _ | apply List.Mem.tail)); done) | exact Or.inl Ai) trivial ?_
     refine Ay Ao Ao (fun _ => Ar Ao) trivial ?_
     obtain ⟨x, hx⟩ := BM (l := (C8 (BF.mk BA A6 A8 A9 BC BB thm) t).2) (i := 0) Am
     refine Ay Ao Ao (fun _ => BJ B4 Ao Ao Am (B9 hx) (Bh _)) trivial ?_
     refine Ay Ao Ao (fun _ => Be BI Ao (Bh _)) trivial ?_
     refine Ay Ao Ao (fun _ => Ar Ao) trivial ?_
     refine Ay Ao Ao (fun _ => Li Ao) trivial ?_
     refine FV [_, _] [] rfl rfl rfl (.inl ⟨rfl, rfl, rfl⟩) (ih C x (wr (0 - sg)) _ (by have := (h2.arg (e2 ▸ hx)).2; omega) (h2.arg (e2 ▸ hx)).1 (by have := (h2.arg (e2 ▸ hx)).2; omega) h4 h5 (Ve _) ⟨_, _, _, _, _, rfl⟩) (aw (we rfl) (aw (we rfl) (aw (we rfl) (aw (we rfl) (Ci))))) Ai (⟨_, _, ⟨none, 0, none, 0, 0, rfl⟩, rfl⟩) fun T0x hT0x => ⟨(by repeat' first | exact trivial | refine And.intro ?_ ?_ | ((refine Or.inr (And.intro ?_ ?_) <;> repeat (first | exact List.Mem.head _ | apply List.Mem.tail)); done) | exact Or.inl Ai), trivial, ?_⟩
     obtain ⟨T1, hT, rfl⟩ := hT0x
     refine CA Ao Ai ?_
     refine ⟨Ao, _, _, Ao, (F9 [2] [_, _, _] Ao), ?_⟩
     exact ⟨Ao, _, by rw [Hy Am Aj hx]; exact hT, rfl⟩
    ·(try simp only [sd, se] at c3)
     refine As ?_
     refine Aq ?_
     refine Ap Ao Ao (A7 Ao Ao Ao) ?_
     refine Ap Ao Ao (At Ao) ?_
     refine Au Ao ?_
     refine A4 Ao (fun c4 => ?_) (fun c4 => ?_)
     ·(try simp only [sd, se] at c4)
      refine As ?_
      refine Aq ?_
      refine Ap Ao Ao (Ar Ao) ?_
      refine Ap Ao Ao (BT Ao) ?_
      refine Ap Ao Ao (Av Gk Ao Ao) ?_
      refine Ap Ao Ao (Ax (i := 3) DQ Ao Ao Ao) ?_
      refine Ap Ao Ao (D8 Ao Ao) ?_
      refine Ap Ao Ao (BT Ao) ?_
      refine Ap Ao Ao (Av Gk Ao Ao) ?_
      refine Ap Ao Ao (Bc (i := 3) DQ Ao Ao Ao Ao Ao Ao) ?_
      refine Au Ao ?_
      refine As ?_
      refine Aq ?_
      refine Ap Ao Ao (Ar Ao) ?_
      refine Ap Ao Ao (Aw (i := 0) BI Ao Ao Af) ?_
      obtain ⟨ix, hix⟩ : ∃ ix, ix = Cu (Mu (⟨C.coefs, C.atoms, wr (C.all + 1)⟩ : GV) t).atoms t := ⟨_, rfl⟩
      refine FQ [_, _] Ao Ao Ao (.inl ⟨Ao, Ao, Ao⟩) (Xx hG (C := (⟨C.coefs, C.atoms, wr (C.all + 1)⟩ : GV)) hix h2 h3 (fun a ha => h5 a ha) h4.len h4.lt ⟨_, _, _, _, _, Ao⟩) (aw (we Ao) (aw (we Ao) (Ci))) fun T0x hT0x => ?_
      obtain ⟨T1, hT, rfl⟩ := hT0x
      obtain ⟨o1, cp1, o2, cp2, m1, rfl⟩ := hT
      have hixl := Vf (C := (⟨C.coefs, C.atoms, wr (C.all + 1)⟩ : GV)) (t := t) h4.len
      rw [← hix] at hixl
      refine Ap Ao Ao (At Ao) ?_
      refine Au Ao ?_
      refine Aq ?_
      refine Ap Ao Ao (Ar Ao) ?_
      refine Ap Ao Ao (BT Ao) ?_
      refine Ap Ao Ao (Av Gk Ao Ao) ?_
      refine Ap Ao Ao (Ax (i := 3) Lq Ao Ao Ao) ?_
      refine Ap Ao Ao (Ar Ao) ?_
      refine Q1 (i := 4) Ao Aa fun b hb => ?_
      subst hb
      refine Ap Ao Ao (De E0 Ao Ao Am AE) ?_
      obtain ⟨y, hy⟩ := BM (l := (Mu (⟨C.coefs, C.atoms, wr (C.all + 1)⟩ : GV) t).coefs) (i := ix) AK
      refine Ap Ao Ao (JZ (i := 4) DQ Ao Ao (D7 hy)) ?_
      refine Ap Ao Ao (Ar Ao) ?_
      refine Ap Ao Ao (D8 Ao Ao) ?_
      refine Ap Ao Ao (De E0 Ao Ao Am AE) ?_
      refine Ap Ao Ao (FU (i := 4) (j := ix) DQ Ao Ao Ao AH Ao Ao Ao Ao (Sl (f := Ca) ((Mu (⟨C.coefs, C.atoms, wr (C.all + 1)⟩ : GV) t).coefs) ix (wr ((y : Int) + (sg : Int))))) ?_
      refine Au Ao ?_
      refine ⟨Ao, _, _, Ao, (Cf (is := [2, 3, 4, 5, 6]) Ao), ?_⟩
      refine ⟨Ao, [.box c [.vs (some b) (List.map Ca ((Mu (⟨C.coefs, C.atoms, wr (C.all + 1)⟩ : GV) t).coefs)).length cp1, .vs o2 (BO ((Mu (⟨C.coefs, C.atoms, wr (C.all + 1)⟩ : GV) t).atoms)).length cp2, .map m1, .p (I ((Mu (⟨C.coefs, C.atoms, wr (C.all + 1)⟩ : GV) t).all))], .vec (some b) 1 (List.map Ca (((Mu (⟨C.coefs, C.atoms, wr (C.all + 1)⟩ : GV) t).coefs).set ix (wr ((y : Int) + (sg : Int))))) cp1, .vec o2 5 (BO ((Mu (⟨C.coefs, C.atoms, wr (C.all + 1)⟩ : GV) t).atoms)) cp2, .map m1 (DY (Et 0 (Mu (⟨C.coefs, C.atoms, wr (C.all + 1)⟩ : GV) t).atoms))], ?_, Ao⟩
      rw [Fx Am Aj, ← Uj h4.len h6 hix hy]
      exact ⟨(some b), cp1, o2, cp2, m1, by simp only [List.length_map, List.length_set, Bt]⟩
     ·(try simp only [sd, se] at c4)
      refine BD ?_
      refine ⟨Ao, _, _, Ao, (Cf (is := [2, 3, 4, 5, 6]) Ao), ?_⟩
      exact ⟨Ao, _, by rw [HM Am (by have := P4 (BF.mk BA A6 A8 A9 BC BB thm) t; omega)]; exact ⟨_, _, _, _, _, rfl⟩, rfl⟩
theorem Ud : ∀ (GL : List (Nat × Obj)) (th : BF) (t : Tm) (hG : Gh GL), (Fb t) → (size t < 1000000) → ((Cq th t).all > 200) → Bl Tryz.prog 45 [.agg ((Ef th).map .p), .agg ((Ba t).map .p)] [.glob GL] (fun x H' => x = .val (.tup [.nilp, .p (I 5)]) ∧ H' = [.glob GL]) := by
 intro GL th t hG h1 h2 h3
 obtain ⟨BA, A6, A8, A9, BC, BB, thm⟩ := th
 refine A3 Tryz.func45 Ao YQ (n := 20) Ao Ao ?_
 refine As ?_
 refine Aq ?_
 refine BH Ao Ao (Bb Ao) fun b2 => ?_
 refine BH Ao Ao (Bb Ao) fun b3 => ?_
 refine Ap Ao Ao (At Ao) ?_
 refine Ap Ao Ao (At Ao) ?_
 refine Au Ao ?_
 refine As ?_
 refine Aq ?_
 refine R9 Ao Ao LC fun m7 => ?_
 refine Ap Ao Ao (Bi Gk Xg Ao) ?_
 refine BH Ao Ao (Bb Ao) fun b9 => ?_
 refine Ap Ao Ao (At Ao) ?_
 refine Au Ao ?_
 refine As ?_
 refine Aq ?_
 refine Cz (FK (i := 0) Ao (Wj (aw (FF) (aw (we Ao) (aw (we Ao) (aw (we Ao) (Ci))))))) ?_
 refine Cz (Fo (sz := 1)) ?_
 refine Cz (FK (i := 1) Ao (Wj (aw (we Ao) (aw (FF) (aw (we Ao) (aw (we Ao) (Ci))))))) ?_
 refine Cz (Fo (sz := 5)) ?_
 refine FT ((Cj (is := [6, 2, 1, 0, 3]) Al ⟨_, _, Ao, Ao, ⟨_, _, Ao, Ao, ⟨_, _, Ao, Ao, ⟨_, _, Ao, Ao, ⟨_, _, Ao, Ao, Ao⟩⟩⟩⟩⟩).trans List.perm_append_comm) ?_
 refine Ap Ao Ao (Ar Ao) ?_
 refine Ap Ao Ao (Aw (i := 1) FE Ao Ao Ao) ?_
 refine Ap Ao Ao (Aw (i := 0) BI Ao Ao Af) ?_
 refine FQ [_, _] Ao Ao Ao (.inl ⟨Ao, Ao, Ao⟩) (Lh GL hG (BF.mk BA A6 A8 A9 BC BB thm) b9 (size t) ⟨[], [], 0⟩ t 1 _ (Nat.le_refl _) h1 h2 JM KO ⟨by decide, by decide⟩ ⟨_, _, _, _, _, rfl⟩) (aw (we rfl) (aw (we rfl) (aw (we rfl) (aw (we rfl) (Ci))))) fun T0x hT0x => ?_
 obtain ⟨T, hT, rfl⟩ := hT0x
 refine Au Ao ?_
 refine As ?_
 refine As ?_
 refine Aq ?_
 change My b9 (Cq (BF.mk BA A6 A8 A9 BC BB thm) t) _ at hT
 obtain ⟨o, cp, o1, cp1, m, rfl⟩ := hT
 refine Ap Ao Ao (Ar Ao) ?_
 refine Ap Ao Ao (BT Ao) ?_
 refine Ap Ao Ao (Av Gk Ao Ao) ?_
 refine Ap Ao Ao (Ax (i := 3) DQ Ao Ao Ao) ?_
 refine Ap Ao Ao (A7 Ao Ao Ao) ?_
 refine Au Ao ?_
 refine A4 Ao (fun c => ?_) (fun c => ?_)
 ·(try simp only [sd, se] at c)
  refine As ?_
  refine Aq ?_
  refine Ap Ao Ao (At Ao) ?_
  refine Ap Ao Ao (At Ao) ?_
  refine Au Ao ?_
  refine A5 ?_
  refine ⟨Ao, _, _, ⟨_, _, Ao, Ao, ⟨_, _, Ao, Ao, Ao⟩⟩, (Cf (is := [2]) Ao), ?_⟩
  exact ⟨Ao, Ao⟩
 ·(try simp only [sd, se] at c)
  exact absurd h3 Am
theorem Qi : ∀ (GL : List (Nat × Obj)) (th : BF) (t : Tm) (hG : Gh GL), (Fb t) → (size t < 1000000) → (¬ (Cq th t).all > 200) → Bl Tryz.prog 45 [.agg ((Ef th).map .p), .agg ((Ba t).map .p)] [.glob GL] (fun x H' => ∃ b T, x = .val (.tup [.ptr b 0, .p (I 0)]) ∧ My b (Cq th t) T ∧ H' = .glob GL :: T) := by
 intro GL th t hG h1 h2 h3
 obtain ⟨BA, A6, A8, A9, BC, BB, thm⟩ := th
 refine A3 Tryz.func45 Ao YQ (n := 20) Ao Ao ?_
 refine As ?_
 refine Aq ?_
 refine BH Ao Ao (Bb Ao) fun b2 => ?_
 refine BH Ao Ao (Bb Ao) fun b3 => ?_
 refine Ap Ao Ao (At Ao) ?_
 refine Ap Ao Ao (At Ao) ?_
 refine Au Ao ?_
 refine As ?_
 refine Aq ?_
 refine R9 Ao Ao LC fun m7 => ?_
 refine Ap Ao Ao (Bi Gk Xg Ao) ?_
 refine BH Ao Ao (Bb Ao) fun b9 => ?_
 refine Ap Ao Ao (At Ao) ?_
 refine Au Ao ?_
 refine As ?_
 refine Aq ?_
 refine Cz (FK (i := 0) Ao (Wj (aw (FF) (aw (we Ao) (aw (we Ao) (aw (we Ao) (Ci))))))) ?_
 refine Cz (Fo (sz := 1)) ?_
 refine Cz (FK (i := 1) Ao (Wj (aw (we Ao) (aw (FF) (aw (we Ao) (aw (we Ao) (Ci))))))) ?_
 refine Cz (Fo (sz := 5)) ?_
 refine FT ((Cj (is := [6, 2, 1, 0, 3]) Al ⟨_, _, Ao, Ao, ⟨_, _, Ao, Ao, ⟨_, _, Ao, Ao, ⟨_, _, Ao, Ao, ⟨_, _, Ao, Ao, Ao⟩⟩⟩⟩⟩).trans List.perm_append_comm) ?_
 refine Ap Ao Ao (Ar Ao) ?_
 refine Ap Ao Ao (Aw (i := 1) FE Ao Ao Ao) ?_
 refine Ap Ao Ao (Aw (i := 0) BI Ao Ao Af) ?_
 refine FQ [_, _] Ao Ao Ao (.inl ⟨Ao, Ao, Ao⟩) (Lh GL hG (BF.mk BA A6 A8 A9 BC BB thm) b9 (size t) ⟨[], [], 0⟩ t 1 _ (Nat.le_refl _) h1 h2 JM KO ⟨by decide, by decide⟩ ⟨_, _, _, _, _, rfl⟩) (aw (we rfl) (aw (we rfl) (aw (we rfl) (aw (we rfl) (Ci))))) fun T0x hT0x => ?_
 obtain ⟨T, hT, rfl⟩ := hT0x
 refine Au Ao ?_
 refine As ?_
 refine As ?_
 refine Aq ?_
 change My b9 (Cq (BF.mk BA A6 A8 A9 BC BB thm) t) _ at hT
 obtain ⟨o, cp, o1, cp1, m, rfl⟩ := hT
 refine Ap Ao Ao (Ar Ao) ?_
 refine Ap Ao Ao (BT Ao) ?_
 refine Ap Ao Ao (Av Gk Ao Ao) ?_
 refine Ap Ao Ao (Ax (i := 3) DQ Ao Ao Ao) ?_
 refine Ap Ao Ao (A7 Ao Ao Ao) ?_
 refine Au Ao ?_
 refine A4 Ao (fun c => ?_) (fun c => ?_)
 ·(try simp only [sd, se] at c)
  exact absurd c Am
 ·(try simp only [sd, se] at c)
  refine BD ?_
  refine As ?_
  refine Aq ?_
  refine Ap Ao Ao (Ar Ao) ?_
  refine Ap Ao Ao (At Ao) ?_
  refine Ap Ao Ao (At Ao) ?_
  refine Au Ao ?_
  refine A5 ?_
  refine ⟨Ao, _, _, ⟨_, _, Ao, Ao, ⟨_, _, Ao, Ao, Ao⟩⟩, (Cf (is := [2, 3, 4, 5, 6]) Ao), ?_⟩
  exact ⟨_, _, Ao, ⟨_, _, _, _, _, Ao⟩, Ao⟩
end Go.Proofs.YtapmjpihennhaaaGreatDoor
