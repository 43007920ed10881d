/- Part of the proofs: an abstract program logic, plain models and contracts of functions. -/
import Derived.Shelf.Strconv.Quote
import Derived.Shelf.LaysM
import Derived.Shelf.Strconv.Itoa3
import Derived.Test.YtapmjpihennhaaaGreatDoorProg
import Derived.Test.YtapmjpihennhaaaGreatDoorPe
import Derived.Test.YtapmjpihennhaaaGreatDoorPd
import Derived.Test.YtapmjpihennhaaaGreatDoorPb
import Derived.KernelRfl
import Derived.Lib.QuoteLoop
import Derived.Laws.BytesArg
import Derived.ProofKit
import Derived.Deep.DeepHandedRow
import Derived.Test.YtapmjpihennhaaaGreatDoorRows
import Derived.Test.YtapmjpihennhaaaGreatDoorTie
import Derived.Deep.DeepWitnessRowRef
import Derived.Lib.LaidIn
import Derived.Lib.LaidSlice
import Derived.Lib.LaidTab
import Derived.Lib.LaidU8
import Derived.Lib.LaidPrint
set_option linter.unusedVariables false
set_option linter.unusedSimpArgs false
set_option maxRecDepth 1000000
namespace Go.Proofs
open Go.Shelf
def Tryz.lays177_ren : Go.Shelf.Ren := ⟨fun | 177 => 144 | 250 => 155 | 289 => 160 | 197 => 165 | 323 => 166 | 260 => 172 | 339 => 173 | 340 => 174 | 242 => 175 | 119 => 176 | 345 => 179 | 346 => 180 | 278 => 181 | n => n, fun | 9 => 9 | 5 => 5 | 4 => 4 | 3 => 3 | 37 => 184 | 21 => 21 | 105 => 237 | 46 => 239 | 119 => 250 | 0 => 0 | 139 => 253 | 138 => 252 | 49 => 254 | 234 => 255 | 131 => 49 | 51 => 243 | 236 => 257 | n => n, fun | 3 => 1 | 4 => 2 | 20 => 3 | 21 => 4 | 22 => 5 | 23 => 6 | 24 => 7 | n => n⟩
theorem Tryz.lays177 : Go.Proofs.Lays.n177 Tryz.prog Tryz.lays177_ren := {
 mixed := by kernel_rfl
 f119 := Tryz.func176.trans (congrArg some Ar)
 f177 := Tryz.func144.trans (congrArg some Ar)
 f197 := Tryz.func165.trans (congrArg some Ar)
 f242 := Tryz.func175.trans (congrArg some Ar)
 f250 := Tryz.func155.trans (congrArg some Ar)
 f260 := Tryz.func172.trans (congrArg some Ar)
 f278 := Tryz.func181.trans (congrArg some Ar)
 f289 := Tryz.func160.trans (congrArg some Ar)
 f323 := Tryz.func166.trans (congrArg some Ar)
 f339 := Tryz.func173.trans (congrArg some Ar)
 f340 := Tryz.func174.trans (congrArg some Ar)
 f345 := Tryz.func179.trans (congrArg some Ar)
 f346 := Tryz.func180.trans (congrArg some Ar)
 t0 := Tryz.underlying0
 a0 := Tryz.isAgg0
 z0 := Tryz.sizeOf0
 v0 := Tryz.zeroValue0
 t3 := Tryz.underlying3
 a3 := Tryz.isAgg3
 z3 := Tryz.sizeOf3
 v3 := Tryz.zeroValue3
 t4 := Tryz.underlying4
 a4 := Tryz.isAgg4
 z4 := Tryz.sizeOf4
 v4 := Tryz.zeroValue4
 t5 := Tryz.underlying5
 a5 := Tryz.isAgg5
 z5 := Tryz.sizeOf5
 v5 := Tryz.zeroValue5
 t9 := Tryz.underlying9
 a9 := Tryz.isAgg9
 z9 := Tryz.sizeOf9
 v9 := Tryz.zeroValue9
 t21 := Tryz.underlying21
 a21 := Tryz.isAgg21
 z21 := Tryz.sizeOf21
 v21 := Tryz.zeroValue21
 t37 := Tryz.underlying184
 a37 := Tryz.isAgg184
 z37 := Tryz.sizeOf184
 v37 := Tryz.zeroValue184
 t46 := Tryz.underlying239
 a46 := Tryz.isAgg239
 z46 := Tryz.sizeOf239
 v46 := Tryz.zeroValue239
 t49 := Tryz.underlying254
 a49 := Tryz.isAgg254
 z49 := Tryz.sizeOf254
 v49 := Tryz.zeroValue254
 t51 := Tryz.underlying243
 a51 := Tryz.isAgg243
 z51 := Tryz.sizeOf243
 v51 := Tryz.zeroValue243
 t105 := Tryz.underlying237
 a105 := Tryz.isAgg237
 z105 := Tryz.sizeOf237
 v105 := Tryz.zeroValue237
 t119 := Tryz.underlying250
 a119 := Tryz.isAgg250
 z119 := Tryz.sizeOf250
 t131 := Tryz.underlying49
 a131 := Tryz.isAgg49
 z131 := Tryz.sizeOf49
 v131 := Tryz.zeroValue49
 t138 := Tryz.underlying252
 a138 := Tryz.isAgg252
 z138 := Tryz.sizeOf252
 v138 := Tryz.zeroValue252
 t139 := Tryz.underlying253
 a139 := Tryz.isAgg253
 z139 := Tryz.sizeOf253
 v139 := Tryz.zeroValue253
 t234 := Tryz.underlying255
 a234 := Tryz.isAgg255
 z234 := Tryz.sizeOf255
 v234 := Tryz.zeroValue255
 t236 := Tryz.underlying257
 a236 := Tryz.isAgg257
 z236 := Tryz.sizeOf257
 v236 := Tryz.zeroValue257
 g3 := by kernel_rfl
 g4 := by kernel_rfl
 g20 := by kernel_rfl
 g21 := by kernel_rfl
 g22 := by kernel_rfl
 g23 := by kernel_rfl
 g24 := by kernel_rfl }
open Go.RowKit in
theorem Tryz.strconv_Quote (T : Lib.PrintTabs) (s : ByteArray) (w : World) (hlen : 10 * s.size + 12 ≤ 140737488355328) (hT : Lib.PrintTabsAt 3 4 5 6 T w) (hU : Lib.Utf8Tabs 1 2 w) :
  Calls Tryz.prog 144 #[.string s] w fun e w' => e = .returned (.string (strOfNums (Lib.quoteZ T s))) ∧ Below w.heap.size w w' := Any.strconv_Quote Tryz.lays177 Ar T s w hlen hT hU
def Tryz.laysM171_ren : Go.Shelf.Ren := ⟨fun | 171 => 143 | 243 => 154 | 246 => 159 | 283 => 161 | 284 => 162 | 285 => 163 | 286 => 164 | 129 => 168 | 317 => 167 | 318 => 169 | 319 => 170 | 320 => 171 | 337 => 177 | 338 => 178 | n => n, fun | 3 => 3 | 9 => 9 | 2 => 2 | 4 => 4 | 171 => 231 | 0 => 0 | 53 => 232 | 37 => 184 | 5 => 5 | 173 => 235 | 212 => 242 | 51 => 243 | 20 => 20 | 213 => 244 | 46 => 239 | 232 => 259 | 233 => 260 | n => n, fun | 17 => 0 | 18 => 8 | 19 => 9 | n => n⟩
theorem Tryz.laysM171 : Go.Proofs.LaysM.n171 Tryz.prog Tryz.laysM171_ren := {
 mixed := by kernel_rfl
 f129 := Tryz.func168.trans (congrArg some Ar)
 f171 := Tryz.func143.trans (congrArg some Ar)
 f243 := Tryz.func154.trans (congrArg some Ar)
 f246 := Tryz.func159.trans (congrArg some Ar)
 f283 := Tryz.func161.trans (congrArg some Ar)
 f284 := Tryz.func162.trans (congrArg some Ar)
 f285 := Tryz.func163.trans (congrArg some Ar)
 f286 := Tryz.func164.trans (congrArg some Ar)
 f317 := Tryz.func167.trans (congrArg some Ar)
 f318 := Tryz.func169.trans (congrArg some Ar)
 f319 := Tryz.func170.trans (congrArg some Ar)
 f320 := Tryz.func171.trans (congrArg some Ar)
 f337 := Tryz.func177.trans (congrArg some Ar)
 f338 := Tryz.func178.trans (congrArg some Ar)
 t0 := Tryz.underlying0
 a0 := Tryz.isAgg0
 z0 := Tryz.sizeOf0
 v0 := Tryz.zeroValue0
 t2 := Tryz.underlying2
 a2 := Tryz.isAgg2
 z2 := Tryz.sizeOf2
 v2 := Tryz.zeroValue2
 t3 := Tryz.underlying3
 a3 := Tryz.isAgg3
 z3 := Tryz.sizeOf3
 v3 := Tryz.zeroValue3
 t4 := Tryz.underlying4
 a4 := Tryz.isAgg4
 z4 := Tryz.sizeOf4
 v4 := Tryz.zeroValue4
 t5 := Tryz.underlying5
 a5 := Tryz.isAgg5
 z5 := Tryz.sizeOf5
 v5 := Tryz.zeroValue5
 t9 := Tryz.underlying9
 a9 := Tryz.isAgg9
 z9 := Tryz.sizeOf9
 v9 := Tryz.zeroValue9
 t20 := Tryz.underlying20
 a20 := Tryz.isAgg20
 z20 := Tryz.sizeOf20
 v20 := Tryz.zeroValue20
 t37 := Tryz.underlying184
 a37 := Tryz.isAgg184
 z37 := Tryz.sizeOf184
 v37 := Tryz.zeroValue184
 t46 := Tryz.underlying239
 a46 := Tryz.isAgg239
 z46 := Tryz.sizeOf239
 v46 := Tryz.zeroValue239
 t51 := Tryz.underlying243
 a51 := Tryz.isAgg243
 z51 := Tryz.sizeOf243
 v51 := Tryz.zeroValue243
 t53 := Tryz.underlying232
 a53 := Tryz.isAgg232
 z53 := Tryz.sizeOf232
 v53 := Tryz.zeroValue232
 t171 := Tryz.underlying231
 a171 := Tryz.isAgg231
 z171 := Tryz.sizeOf231
 v171 := Tryz.zeroValue231
 t173 := Tryz.underlying235
 a173 := Tryz.isAgg235
 z173 := Tryz.sizeOf235
 v173 := Tryz.zeroValue235
 t212 := Tryz.underlying242
 a212 := Tryz.isAgg242
 z212 := Tryz.sizeOf242
 v212 := Tryz.zeroValue242
 t213 := Tryz.underlying244
 a213 := Tryz.isAgg244
 z213 := Tryz.sizeOf244
 t232 := Tryz.underlying259
 a232 := Tryz.isAgg259
 z232 := Tryz.sizeOf259
 v232 := Tryz.zeroValue259
 t233 := Tryz.underlying260
 a233 := Tryz.isAgg260
 z233 := Tryz.sizeOf260
 v233 := Tryz.zeroValue260
 g17 := by kernel_rfl
 g18 := by kernel_rfl
 g19 := by kernel_rfl
 i0 := by kernel_rfl
 i2 := by kernel_rfl
 i3 := by kernel_rfl
 i4 := by kernel_rfl
 i5 := by kernel_rfl
 i9 := by kernel_rfl
 i20 := by kernel_rfl
 i37 := by kernel_rfl
 i46 := by kernel_rfl
 i51 := by kernel_rfl
 i53 := by kernel_rfl
 i171 := by kernel_rfl
 i173 := by kernel_rfl
 i212 := by kernel_rfl
 i232 := by kernel_rfl
 i233 := by kernel_rfl
 m17 := by kernel_rfl
 m18 := by kernel_rfl
 m19 := by kernel_rfl }
open Go.RowKit Go.Sort Go.Lib in
theorem Tryz.strconv_Itoa (n : Int) (h0 : -9223372036854775808 ≤ n) (h1 : n ≤ 9223372036854775807) (w : World) (htab : Lib.TabIs Tryz.prog w "internal/strconv.uint64pow10" .u64 Lib.pow10Tab) :
  Calls Tryz.prog 143 #[.int .i64 n] w fun e w' => e = .returned (.string ⟨(Lib.itoa n).toArray⟩) ∧ ∃ k os, w' = grow (w.drewN k) os := Any.strconv_Itoa Tryz.laysM171 n h0 h1 w htab
end Go.Proofs
namespace Go.Eu
open Go.Abs
theorem Y3 {th : BY} {t : Tm} (h : (Ds (CA t).1 th.add && ((CA t).2.length : Int) == 2) = true) : DU th t = (1, (CA t).2) := by unfold DU; rw [if_pos h]
theorem V0 {th : BY} {t : Tm} (h : (Ds (CA t).1 th.add && ((CA t).2.length : Int) == 2) = false) (h1 : (Ds (CA t).1 th.zero && ((CA t).2.length : Int) == 0) = true) : DU th t = (2, []) := by unfold DU; rw [if_neg (by rw [h]; decide), if_pos h1]
theorem Xu {th : BY} {t : Tm} (h : (Ds (CA t).1 th.add && ((CA t).2.length : Int) == 2) = false) (h1 : (Ds (CA t).1 th.zero && ((CA t).2.length : Int) == 0) = false) (h2 : (Ds (CA t).1 th.neg && ((CA t).2.length : Int) == 1) = true) : DU th t = (3, (CA t).2) := by unfold DU; rw [if_neg (by rw [h]; decide), if_neg (by rw [h1]; decide), if_pos h2]
theorem Wk {th : BY} {t : Tm} (h : (Ds (CA t).1 th.add && ((CA t).2.length : Int) == 2) = false) (h1 : (Ds (CA t).1 th.zero && ((CA t).2.length : Int) == 0) = false) (h2 : (Ds (CA t).1 th.neg && ((CA t).2.length : Int) == 1) = false) : DU th t = (0, []) := by unfold DU; rw [if_neg (by rw [h]; decide), if_neg (by rw [h1]; decide), if_neg (by rw [h2]; decide)]
section
variable {th : BY} {n : Nat} {C : HA} {t x y : Tm} {s : Int}
theorem La (h : C.all > 200) : CX th (n + 1) C t s = C := by unfold CX; rw [if_pos h]
theorem Jp (h : ¬ C.all > 200) (ho : (DU th t).1 = 1) (hx : (DU th t).2[0]? = some x) (hy : (DU th t).2[1]? = some y) : CX th (n + 1) C t s = CX th n (CX th n C x s) y s := by
 rw [CX, if_neg h, if_pos ho, DD hx, DD hy]
theorem JC (h : ¬ C.all > 200) (ho : (DU th t).1 = 2) : CX th (n + 1) C t s = C := by
 rw [CX, if_neg h, if_neg (by rw [ho]; decide), if_pos ho]
theorem Ji (h : ¬ C.all > 200) (ho : (DU th t).1 = 3) (hx : (DU th t).2[0]? = some x) : CX th (n + 1) C t s = CX th n C x (wr (0 - s)) := by
 rw [CX, if_neg h, if_neg (by rw [ho]; decide), if_neg (by rw [ho]; decide), if_pos ho, DD hx, Int.zero_sub]
theorem HY (h : ¬ C.all > 200) (ho : (DU th t).1 = 0) : CX th (n + 1) C t s = Hi C t s := by
 rw [CX, if_neg h, if_neg (by rw [ho]; decide), if_neg (by rw [ho]; decide), if_neg (by rw [ho]; decide)]
end
def TF (C : HA) : Prop := ∀ a ∈ C.atoms, Gj a ∧ size a < 1000000
theorem Vw {C : HA} {t : Tm} {s : Int} (h : TF C) (ht : Gj t ∧ size t < 1000000) : TF (Hi C t s) := by
 unfold Hi
 split
 ·exact h
 intro a ha
 rcases List.mem_append.1 ha with ha | ha
 ·exact h a ha
 simp at ha; subst ha; exact ht
theorem Gh {th : BY} : ∀ (n : Nat) (C : HA) (t : Tm) (s : Int), TF C → Gj t → size t < 1000000 → TF (CX th n C t s)
 | 0, C, t, s, h, _, _ => h
 | n + 1, C, t, s, h, ht, hs => by
  unfold CX
  split
  ·exact h
  split
  ·rename_i ho
   obtain ⟨h1, h2, h3⟩ := ht.op.1 ho
   exact Gh n _ _ _ (Gh n _ _ _ h h1 Aw) h2 Aw
  split
  ·exact h
  split
  ·rename_i ho
   obtain ⟨h1, h3⟩ := ht.op.2 ho
   exact Gh n _ _ _ h h1 Aw
  exact Vw h ⟨ht, hs⟩
theorem TF.nds {C : HA} (h : TF C) : L5 C.atoms := Qy fun t ht => (h t ht).1.nd
theorem Ij.lt {C : HA} (h : Ij C) : C.atoms.length < 1000 := by have := h.lo; have := h.hi; omega
theorem Qt (c : Nat) (C : HA) : ∃ T, Q4 c C T := ⟨_, none, 0, none, 0, rfl⟩
noncomputable def C6 (th : BY) (t : Tm) : HA := CX th (size t) ⟨[], [], 0⟩ t 1
noncomputable def Dd (th : BY) (t : Tm) : List Int × List Tm × Int := if (C6 th t).all > 200 then ([], [], 5) else ((C6 th t).coefs, (C6 th t).atoms, 0)
theorem K6 {th : BY} {t : Tm} (h : (C6 th t).all > 200) : Dd th t = ([], [], 5) := if_pos h
theorem HG {th : BY} {t : Tm} (h : ¬ (C6 th t).all > 200) : Dd th t = ((C6 th t).coefs, (C6 th t).atoms, 0) := if_neg h
theorem LM : Ij ⟨[], [], 0⟩ := ⟨rfl, by simp, by simp⟩
theorem MK : TF ⟨[], [], 0⟩ := fun a h => by simp at h
theorem UD (th : BY) (t : Tm) : Ij (C6 th t) := En _ _ _ _ LM
theorem PL {th : BY} {t : Tm} (h : Gj t) (hs : size t < 1000000) : TF (C6 th t) := Gh _ _ _ _ MK h hs
noncomputable def Ph (C : HA) (t : Tm) : HA := if DA C.atoms t < C.atoms.length then C else ⟨C.coefs ++ [0], C.atoms ++ [t], C.all⟩
theorem S0 {C : HA} {t : Tm} (h : t ∈ C.atoms) : Ph C t = C := if_pos (Fy h).1
theorem Q7 {C : HA} {t : Tm} (h : t ∉ C.atoms) : Ph C t = ⟨C.coefs ++ [0], C.atoms ++ [t], C.all⟩ := if_neg (GV h)
theorem Lq {A : List Tm} {t : Tm} (h : t ∉ A) : DA (A ++ [t]) t = A.length := by
 refine QD (l := A ++ [t]) (y := t) Ax (FT Ay) fun j hj x hx => ?_
 rw [List.getElem?_append_left hj] at hx
 exact Fc fun e => h (e ▸ List.mem_of_getElem? hx)
theorem aJ {C : HA} {t : Tm} (hl : C.coefs.length = C.atoms.length) : DA (Ph C t).atoms t < (Ph C t).coefs.length := by
 by_cases h : t ∈ C.atoms
 ·rw [S0 h, hl]; exact (Fy h).1
 rw [Q7 h]; simp only [Lq h, List.length_append, hl, List.length_cons, List.length_nil]; omega
theorem Xn {C : HA} {t : Tm} {s : Int} (hl : C.coefs.length = C.atoms.length) (hs : Je s) {y : Int} {i : Nat} (hi : i = DA (Ph ⟨C.coefs, C.atoms, wr (C.all + 1)⟩ t).atoms t) (hy : (Ph ⟨C.coefs, C.atoms, wr (C.all + 1)⟩ t).coefs[i]? = some y) :
  (⟨(Ph ⟨C.coefs, C.atoms, wr (C.all + 1)⟩ t).coefs.set i (wr (y + s)), (Ph ⟨C.coefs, C.atoms, wr (C.all + 1)⟩ t).atoms, (Ph ⟨C.coefs, C.atoms, wr (C.all + 1)⟩ t).all⟩ : HA) = Hi C t s := by
 subst hi
 by_cases h : t ∈ C.atoms
 ·have e := S0 (C := ⟨C.coefs, C.atoms, wr (C.all + 1)⟩) h
  rw [e] at hy ⊢
  unfold Hi
  rw [if_pos (Fy h).1, DD hy]
 have e := Q7 (C := ⟨C.coefs, C.atoms, wr (C.all + 1)⟩) h
 rw [e] at hy ⊢
 unfold Hi
 rw [if_neg (GV h)]
 simp only [Lq h] at hy ⊢
 rw [← hl] at hy ⊢
 rw [List.getElem?_append_right (Nat.le_refl _)] at hy
 simp at hy
 subst hy
 rw [List.set_append_right _ _ (Nat.le_refl _), Int.zero_add, I3 hs]
 simp
theorem OF (t : Tm) : 0 < (Jv t).length := by cases t; simp [Jv]
theorem Xc (U e : TypeId) (b : Nat) (l : List UInt8) : ∃ T, BX U e b l T := ⟨_, .nilp, 0, 0, false, rfl⟩
theorem W8 : ∀ F w, Cc F w (.p (I 0)) (.int .i64 0) := fun F w => by simp [Cc, Cg]
theorem TF.nq {C : HA} (h : TF C) : ∀ a ∈ C.atoms, OA a := fun a ha => (h a ha).1.nq
theorem Zu (n : Int) : Je (wr n) := by
 unfold Je wr
 rw [IntKind.wrap_i64]
 omega
end Go.Eu
namespace Go.Abs
theorem ND {α : Type} : ∀ (xs l : List α) (o : Nat), o + xs.length ≤ l.length → splice l o xs = l.take o ++ xs ++ l.drop (o + xs.length)
 | [], l, o, h => by simp [splice]
 | x :: xs, l, o, h => by
  simp only [List.length_cons] at h
  rw [splice, ND xs _ _ (by rw [List.length_set]; omega)]
  have h1 : (l.set o x).take (o + 1) = l.take o ++ [x] := by
   rw [List.take_add_one, List.getElem?_set_self Aw, List.take_set_of_le (Nat.le_refl _)]
   rfl
  have h2 : (l.set o x).drop (o + 1 + xs.length) = l.drop (o + (x :: xs).length) := by
   rw [List.drop_set_of_lt Aw]
   congr 1
   simp only [List.length_cons]
   omega
  rw [h1, h2]
  simp
def Fm : Nat → List (List PV) → List (Nat × AV)
 | _, [] => []
 | k, r :: rs => (k, .agg (r.map .p)) :: Fm (k + 1) rs
theorem O3 {sz : Nat} : ∀ (rows : List (List PV)) (k : Nat) (base : List AV), (∀ r ∈ rows, r.length = sz) → (k + rows.length) * sz = base.length → ES (fun i => some (i * sz, sz)) base (Fm k rows) = some (base.take (k * sz) ++ rows.flatten.map .p)
 | [], k, base, hr, hb => by
  simp only [List.length_nil, Nat.add_zero] at hb
  simp [Fm, ES, hb]
 | r :: rows, k, base, hr, hb => by
  have hl := hr r Ax
  have hb2 : k * sz + sz + rows.length * sz = base.length := by
   rw [← hb, List.length_cons, Nat.add_mul, Nat.add_mul, Nat.one_mul]; omega
  simp only [Fm, ES, EJ]
  rw [if_pos ⟨by simp [hl], by simp [hl]; omega⟩, ND _ _ _ (by simp [hl]; omega)]
  rw [O3 rows (k + 1) _ (fun x hx => hr x (by simp [hx])) (by simp only [List.length_append, List.length_take, List.length_drop, List.length_map, hl]; rw [Nat.add_mul, Nat.add_mul, Nat.one_mul]; omega)]
  congr 1
  have h1 : ((base.take (k * sz) ++ r.map AV.p) ++ base.drop (k * sz + (r.map AV.p).length)).take ((k + 1) * sz) = base.take (k * sz) ++ r.map .p := by
   have : (k + 1) * sz = (base.take (k * sz) ++ r.map AV.p).length := by
    simp only [List.length_append, List.length_take, List.length_map, hl]; rw [Nat.add_mul, Nat.one_mul]; omega
   rw [this, List.take_left']
   rfl
  rw [h1]
  simp
theorem KY {α : Type} {sz : Nat} : ∀ {rows : List (List α)}, (∀ r ∈ rows, r.length = sz) → chunks sz rows.length rows.flatten = rows
 | [], _ => rfl
 | r :: rows, h => by
  have hl := h r Ax
  simp only [List.length_cons, chunks, List.flatten_cons]
  rw [List.take_left' hl, List.drop_left' hl, KY fun x hx => h x (by simp [hx])]
theorem OY : ∀ (rows : List (List PV)) (k : Nat), (∀ r ∈ rows, ∀ c ∈ r, c ≠ .nils) → (Fm k rows).map (fun p => (p.1, norm p.2)) = Fm k rows
 | [], k, h => rfl
 | r :: rows, k, h => by
  simp only [Fm, List.map_cons]
  show (k, AV.agg ((r.map AV.p).map dn)) :: _ = _
  rw [OY rows (k + 1) fun x hx => h x (by simp [hx])]
  congr 3
  have := h r Ax
  clear h
  induction r with
  | nil => rfl
  | cons c r ih =>
   simp only [List.map_cons]
   rw [ih fun d hd => this d (by simp [hd])]
   have := this c Ax
   cases c <;> simp_all [dn]
section
variable {P : Program} {dst : Option Tmp} {ty : TypeId} {pos : String} {aft : Array Edge} {g : Option (Nat × Bool)} {ρ : Operand → AV} {H : List Bc}
theorem Lm : ∀ (r : List PV), Gt (r.map .p) = some r
 | [] => rfl
 | c :: r => by simp [Gt, Lm r]
theorem OT {parts : Array (Nat × Operand)} {rows : List (List PV)} (hp : parts.toList.map (fun p => (p.1, ρ p.2)) = Fm 0 rows) (hn : ∀ r ∈ rows, ∀ c ∈ r, c ≠ .nils) : parts.toList.map (fun p => (p.1, norm (ρ p.2))) = Fm 0 rows := by
 have h2 := OY rows 0 hn
 rw [← hp, List.map_map] at h2
 rw [← hp]
 exact h2
theorem Bf {T e : TypeId} {len sz bytes : Nat} {parts : Array (Nat × Operand)} {z : Value} {rows : List (List PV)} (hT : Fk P T = some (e, sz, bytes)) (hz : zeroOf P e = some z) (hsz : z.cells.size = sz) (hpos : (Nat.blt 0 sz && Nat.ble (len * sz) 16777216) = true)
  (hp : parts.toList.map (fun p => (p.1, ρ p.2)) = Fm 0 rows) (hl : rows.length = len) (hr : ∀ r ∈ rows, r.length = sz) (hn : ∀ r ∈ rows, ∀ c ∈ r, c ≠ .nils) :
  Dw P ⟨dst, .buildSlice T len parts, ty, pos, aft, g⟩ ρ H (.p (.lst rows)) H := by
 subst hl
 refine CJ (cs := rows.flatten.map .p) (ps := rows.flatten) hT hz hsz hpos ?_ (Lm _) (KY hr)
 rw [OT hp hn, O3 rows 0 _ hr (by simp [hsz])]
 simp
theorem GO {T e : TypeId} {len sz bytes : Nat} {parts : Array (Nat × Operand)} {z : Value} {cs : List AV} {ps : List PV} {rows : List (List PV)} (hT : Fk P T = some (e, sz, bytes)) (hz : zeroOf P e = some z) (hsz : z.cells.size = sz) (hpos : (Nat.blt 0 sz && Nat.ble (len * sz) 16777216) = true)
  (hc : ES (fun i => some (i * sz, sz)) (List.replicate len (z.cells.toList.map G7)).flatten (parts.toList.map fun p => (p.1, norm (ρ p.2))) = some cs) (hp : Gt cs = some ps) (hr : chunks sz len ps = rows) :
  DZ P ⟨dst, .buildSlice T len parts, ty, pos, aft, g⟩ ρ H (KX sz rows H) :=
 Gq fun F w E hH hE => by
  obtain ⟨hu, i, hi, hs, hby⟩ := GD hT
  simp only [Bool.and_eq_true, Nat.blt_eq, Nat.ble_eq] at hpos
  unfold zeroOf at hz
  have hz' : ∃ j, P.info? e = some j ∧ j.zero = some z := by
   cases hq : P.info? e with
   | none => simp [hq] at hz
   | some j => exact ⟨j, rfl, by simpa [hq] using hz⟩
  obtain ⟨j, hj, hz'⟩ := hz'
  have hzv : (zeroValue e).run P w = .ok z w := by simp [zeroValue, typeInfo, hj, hz', Sem.run_bind]
  have hzl : CF F w (List.replicate len (z.cells.toList.map G7)).flatten (List.replicate len z.cells.toList).flatten := Ir (GW _) len
  obtain ⟨us, hf, hrep⟩ := Ii (F := F) (w := w) (place := fun i => some (i * sz, sz)) _ (parts.toList.map fun p => (p.1, E p.2)) _ _ _ Ax (by
   intro j p q h1 h2
   simp only [List.getElem?_map] at h1 h2
   cases hj : parts.toList[j]? with
   | none => simp [hj] at h1
   | some t =>
    simp [hj] at h1 h2
    subst h1; subst h2
    exact ⟨Ay, (hE _ (by
     have := List.mem_of_getElem? hj
     simp only [Op.operands]
     exact List.mem_map.2 ⟨t, this, Ay⟩)).norm⟩) hzl hc
  have hcs := IV hp
  have hlen : ps.length = len * sz := by
   have h1 : cs.length = ((List.replicate len (z.cells.toList.map G7)).flatten).length := by
    clear hrep hp hcs hzl hf
    generalize (List.replicate len (z.cells.toList.map G7)).flatten = l at hc
    generalize (parts.toList.map fun p => (p.1, norm (ρ p.2))) = q at hc
    induction q generalizing l with
    | nil => simp [ES] at hc; rw [hc]
    | cons a q ih =>
     obtain ⟨i, x⟩ := a
     simp only [ES] at hc
     cases hx : EJ x with
     | none => simp [hx] at hc
     | some c2 =>
      simp only [hx] at hc
      split at hc
      ·rw [ih _ hc, Fa]
      cases hc
   rw [hcs] at h1
   simp only [List.length_map, List.length_flatten, List.map_replicate, List.sum_replicate_nat, Array.length_toList, hsz] at h1
   exact h1
  obtain ⟨c1, c2, c3⟩ := Kn hlen
  rw [hr] at c1 c2 c3
  have hul : us.length = ps.length := by rw [hrep.length, hcs]; simp
  obtain ⟨v0, H0, F0, h10, h20, h30, h40⟩ := SJ (T := e) (c := len) (vs := us) (H := H) hH c2 (by rw [c1, ← hul, List.take_length]; rw [hcs] at hrep; exact hrep) Aw Aw
  rw [c3] at h40
  refine ⟨_, _, v0, H0, F0, ?_, h10, h20, h30, h40⟩
  have hszr : (sizeOf e).run P w = .ok sz w := by simp [sizeOf, typeInfo, hi, hs]
  have hzc : z.cells = ⟨z.cells.toList⟩ := rfl
  have hrm := Kd z.cells.toList len
  have hsz2 : z.cells.toList.length = sz := by simpa using hsz
  rw [hsz2] at hrm
  have harr : ((Array.range (len * sz)).map fun i => z.cells[i % z.cells.size]!) = ⟨(List.replicate len z.cells.toList).flatten⟩ := by
   apply Array.ext'
   exact hrm
  simp only [execOp, Instr.buildSlice, Sem.run_bind, run_underlying hu, Result.andThen_ok, hszr]
  rw [if_neg Aw]
  simp only [Sem.run_pure, Result.andThen_ok, Sem.run_bind, pure_bind]
  have hf' : Instr.fill (fun i => some (i * sz, sz)) ⟨(List.replicate len z.cells.toList).flatten⟩ (parts.map fun p => (p.1, E p.2)).toList = some ⟨us⟩ := by
   rw [← hf]; simp
  by_cases h00 : len * sz = 0
  ·have hl0 : len = 0 := by
    rcases Nat.mul_eq_zero.1 h00 with h | h
    ·exact h
    omega
   subst hl0
   simp only [Nat.zero_mul, if_true]
   simp only [List.replicate_zero, List.flatten_nil] at hf'
   have e0 : (Array.map (fun x => (#[] : Array Value)[x % (#[] : Array Value).size]!) (Array.range 0)) = (⟨[]⟩ : Array Value) := by simp
   rw [e0, hf']
   simp only [newRow, newObj, Sem.run_bind, Sem.run, Result.andThen, Sem.run_pure]
   rfl
  rw [if_neg h00]
  simp only [Sem.run_bind, hzv, Result.andThen_ok]
  rw [harr, hf']
  simp only [newRow, newObj, Sem.run_bind, Sem.run, Result.andThen, Sem.run_pure]
  rfl
theorem FB {T e : TypeId} {len sz bytes : Nat} {parts : Array (Nat × Operand)} {z : Value} {rows : List (List PV)} (hT : Fk P T = some (e, sz, bytes)) (hz : zeroOf P e = some z) (hsz : z.cells.size = sz) (hpos : (Nat.blt 0 sz && Nat.ble (len * sz) 16777216) = true)
  (hp : parts.toList.map (fun p => (p.1, ρ p.2)) = Fm 0 rows) (hl : rows.length = len) (hr : ∀ r ∈ rows, r.length = sz) (hn : ∀ r ∈ rows, ∀ c ∈ r, c ≠ .nils) :
  DZ P ⟨dst, .buildSlice T len parts, ty, pos, aft, g⟩ ρ H (KX sz rows H) := by
 subst hl
 refine GO (cs := rows.flatten.map .p) (ps := rows.flatten) hT hz hsz hpos ?_ (Lm _) (KY hr)
 rw [OT hp hn, O3 rows 0 _ hr (by simp [hsz])]
 simp
end
section
variable {P : Program} {ops : Array Oper} {n : Nat} {τ₀ : Nat → AV} {D : List Eb} {Q : DC → CC → Prop} {opn : Nat → Bool} {k : Nat} {τ : Nat → AV} {H : List Bc} {rd : ZX} {ef : Xi} {effs : List Bool} {fx : List (Nat × Sp)} {dst : Option Tmp} {op : Op} {ty : TypeId} {pos : String} {aft : Array Edge}
theorem ah {sz : Nat} {rows : List (List PV)} (fx' : List (Nat × Sp)) (ho : ops[k]? = some ⟨dst, op, ty, pos, aft, none⟩) (hn : opn k = true) (h : DZ P ⟨dst, op, ty, pos, aft, none⟩ (ev τ) H (KX sz rows H)) (haft : FW ops k (fx'.map (·.1)) = true)
  (next : ∀ b c, Lp ops k H (.vec (some b) sz rows c :: H) rd ∧ Ik k (.eff (.vs (some b) rows.length c) (.vec (some b) sz rows c :: H)) fx ∧ Dr P ops n τ₀ D Q opn (k + 1) (put τ dst (.vs (some b) rows.length c)) (.vec (some b) sz rows c :: H) rd ((k, H, .vec (some b) sz rows c :: H) :: ef) (true :: effs) (fx' ++ fx)) : Dr P ops n τ₀ D Q opn k τ H rd ef effs fx :=
 Ms fx' ho hn h haft ⟨_, _, 0, 0, rfl, rfl⟩ (fun _ _ h => h.elim) (fun v H' ⟨b, c, h1, h2⟩ => by subst h1; subst h2; exact next b c)
end
section
variable {P : Program} {ty : TypeId} {pos : String} {aft : Array Edge} {g : Option (Nat × Bool)} {ρ : Operand → AV} {H : List Bc} {x y : Operand}
theorem Fs {T T2 e e2 : TypeId} {sz bytes n2 n3 d c i n : Nat} {o : Option Nat} {rows rows' all : List (List PV)} {zv : Value} (hT : Fk P T = some (e, sz, bytes)) (hT2 : Fk P T2 = some (e2, n2, n3)) (hz : zeroOf P e = some zv) (hzs : zv.cells.size = sz) (hb0 : (Nat.blt 0 sz && Nat.blt 0 bytes) = true)
  (hx : ρ x = .vs o n c) (hn : n = rows.length) (hi : H[i]? = some (.vec o sz rows c)) (hy : norm (ρ y) = .p (.lst rows')) (hsol : ∀ r ∈ rows', Dg sz r) (hroom : 2 * (rows.length + rows'.length) * bytes ≤ 281474976710656) (hall : rows ++ rows' = all) :
  Dw P ⟨some d, .call { callee := .builtin .append, args := #[x, y], argTypes := #[T, T2] }, ty, pos, aft, g⟩ ρ H (.p (.lst all)) (H.eraseIdx i) := by
 subst hall
 intro r F S a w hs hH hρ hd
 subst hH
 have h := Pc (P := P) (dst := some d) (ty := ty) (pos := pos) (aft := aft) (g := g) (ρ := ρ) (H := S.H) (i := i) (o := o) (rows := rows) (n := n) (c := c) hT hT2 hz hzs hb0 hx hn hi hy hsol hroom r F S a w hs rfl hρ hd
 refine M9 h ?_ ?_
 ·rintro a' w' ⟨v, H', F', ⟨o', c', rfl, rfl⟩, hs', ht⟩
  have hlt := (List.getElem?_eq_some_iff.1 hi).1
  obtain ⟨F'', hs'', ht''⟩ := FI (n := S.n) (τ := put S.τ (some d) (.vs o' (rows ++ rows').length c')) (H := S.H.set i (.vec o' sz (rows ++ rows') c')) (D := S.D) (i := i) [d] (List.getElem?_set_self hlt) (fun t ht => by simp at ht; subst ht; simp [put]) F' a' w' hs'
  have e : NK [d] (.p (.lst (rows ++ rows'))) (put S.τ (some d) (.vs o' (rows ++ rows').length c')) = put S.τ (some d) (.p (.lst (rows ++ rows'))) := by
   funext t
   simp only [NK, put, List.any_cons, List.any_nil, Bool.or_false]
   cases Nat.beq t d <;> rfl
  have e2 : (S.H.set i (.vec o' sz (rows ++ rows') c')).eraseIdx i = S.H.eraseIdx i := List.eraseIdx_set_eq
  simp only [e, e2] at hs'' ht''
  exact ⟨_, S.H.eraseIdx i, F'', ⟨Ay, Ay⟩, hs'', ht.trans hs.heap.bd ht''⟩
 rintro e a' w' ⟨v, H', F', u, h, _⟩
 exact h.elim
end
theorem dA {f : Nat → Option (Nat × Nat)} {base L R Q : List AV} (h0 : f 0 = some (0, 5)) (h1 : f 1 = some (5, 5)) (h2 : f 2 = some (10, 5)) (hb : base.length = 16) (hL : L.length = 5) (hR : R.length = 5) (hQ : Q.length = 5) :
  ES f base [(0, .agg L), (1, .agg R), (2, .agg Q)] = some (L ++ (R ++ (Q ++ base.drop 15))) := by
 match L, hL, R, hR, Q, hQ, base, hb with
 | [a0, a1, a2, a3, a4], _, [b0, b1, b2, b3, b4], _, [c0, c1, c2, c3, c4], _, [d0, d1, d2, d3, d4, d5, d6, d7, d8, d9, d10, d11, d12, d13, d14, d15], _ =>
  simp [ES, h0, h1, h2, EJ, splice]
theorem ck {f : Nat → Option (Nat × Nat)} {base L R Q : List AV} {x : Bool} (h0 : f 0 = some (0, 5)) (h1 : f 1 = some (5, 5)) (h2 : f 2 = some (10, 5)) (h3 : f 3 = some (15, 1)) (hb : base.length = 16) (hL : L.length = 5) (hR : R.length = 5) (hQ : Q.length = 5) :
  ES f base [(0, .agg L), (1, .agg R), (2, .agg Q), (3, .p (.bool x))] = some (L ++ (R ++ (Q ++ [.p (.bool x)]))) := by
 match L, hL, R, hR, Q, hQ, base, hb with
 | [a0, a1, a2, a3, a4], _, [b0, b1, b2, b3, b4], _, [c0, c1, c2, c3, c4], _, [d0, d1, d2, d3, d4, d5, d6, d7, d8, d9, d10, d11, d12, d13, d14, d15], _ =>
  simp [ES, h0, h1, h2, h3, EJ, splice]
inductive Ey where
 | val (v : AV)
 | skip
 | new (cs : List AV)
 | newv (sz : Nat) (rows : List (List PV))
def Ey.v (b : Nat × Nat) : Ey → AV
 | .val v => v
 | .skip => .tup []
 | .new _ => .ptr b.1 0
 | .newv _ rows => .vs (some b.1) rows.length b.2
def Ey.box (b : Nat × Nat) : Ey → List Bc
 | .new cs => [.box b.1 cs]
 | .newv sz rows => [.vec (some b.1) sz rows b.2]
 | _ => []
def aP (P : Program) (ops : Array Oper) (H₀ : List Bc) (o : Oper) (τ : Nat → AV) : Ey → Prop
 | .val v => DV ops ⟨0, τ, [], []⟩ o ∧ ∀ Bs, Dw P o (ev τ) (Bs ++ H₀) v (Bs ++ H₀)
 | .skip => ∃ j want d, o.guard = some (j, want) ∧ (ops[j]?).bind (·.dst) = some d ∧ Xq (τ d) want
 | .new cs => o.guard = none ∧ ∀ Bs, DZ P o (ev τ) (Bs ++ H₀) (Jn cs (Bs ++ H₀))
 | .newv sz rows => o.guard = none ∧ ∀ Bs, DZ P o (ev τ) (Bs ++ H₀) (KX sz rows (Bs ++ H₀))
def EW (P : Program) (ops : Array Oper) (H₀ : List Bc) : Nat → (Nat → AV) → List Ey → ((Nat → AV) → List Bc → Prop) → Prop
 | _, τ, [], K => K τ []
 | k, τ, e :: r, K => ∃ o, ops[k]? = some o ∧ aP P ops H₀ o τ e ∧ ∀ b, EW P ops H₀ (k + 1) (put τ o.dst (e.v b)) r (fun τ' Hs => K τ' (e.box b ++ Hs))
def M1 (β : Nat → Nat × Nat) : Nat → List Ey → List Sp
 | _, [] => []
 | k, e :: r => .free (e.v (β k)) :: M1 β (k + 1) r
def eD (β : Nat → Nat × Nat) : Nat → List Ey → List Bc
 | _, [] => []
 | k, e :: r => e.box (β k) ++ eD β (k + 1) r
def Sr (β : Nat → Nat × Nat) (l : Nat → Bool) : Nat → List Ey → List Bc
 | _, [] => []
 | k, e :: r => (if l k = true then e.box (β k) else []) ++ Sr β l (k + 1) r
theorem OB (β : Nat → Nat × Nat) : ∀ (r : List Ey) (k j : Nat), j < r.length → (M1 β k r).getD j .skip = .free ((r.getD j .skip).v (β (k + j)))
 | [], k, j, h => by simp at h
 | e :: r, k, 0, h => by simp [M1]
 | e :: r, k, j + 1, h => by
  have := OB β r (k + 1) j (by simpa using h)
  simp only [M1, List.getD_cons_succ]
  rw [this, show k + 1 + j = k + (j + 1) by omega]
theorem Uh (β : Nat → Nat × Nat) : ∀ (r : List Ey) (k : Nat), (M1 β k r).length = r.length
 | [], k => rfl
 | e :: r, k => by simp [M1, Uh β r (k + 1)]
theorem UK (β : Nat → Nat × Nat) {r : List Ey} {k j : Nat} (h : r.length ≤ j) : (M1 β k r).getD j .skip = .skip := by
 rw [List.getD_eq_getElem?_getD, List.getElem?_eq_none (by rw [Uh]; exact h)]; rfl
theorem Xs (β : Nat → Nat × Nat) (r : List Ey) (k j : Nat) : ((M1 β k r).getD j .skip).isEff = false := by
 rcases Nat.lt_or_ge j r.length with h | h
 ·rw [OB β r k j h]; rfl
 rw [UK β h]; rfl
theorem Vo (β : Nat → Nat × Nat) (r : List Ey) (k j : Nat) (ob : List Bc) (v : AV) : (M1 β k r).getD j .skip ≠ .read ob v := by
 rcases Nat.lt_or_ge j r.length with h | h
 ·rw [OB β r k j h]; simp
 rw [UK β h]; simp
theorem N4 (β : Nat → Nat × Nat) {r : List Ey} {j : Nat} (h : j < r.length) : ((M1 β 0 r).getD j .skip).val = (r.getD j .skip).v (β j) := by
 rw [OB β r 0 j h, Nat.zero_add]; rfl
theorem EW.facts {P : Program} {ops : Array Oper} {H₀ : List Bc} {τ : Nat → AV} {base : List Ey} (β : Nat → Nat × Nat) : ∀ (r : List Ey) (k : Nat) (τk : Nat → AV) (K : (Nat → AV) → List Bc → Prop), base.drop k = r → k + r.length = base.length → τk = τS ops (M1 β 0 base) τ k → EW P ops H₀ k τk r K →
  (∀ j, k ≤ j → j < base.length → ∃ o, ops[j]? = some o ∧ aP P ops H₀ o (τS ops (M1 β 0 base) τ j) (base.getD j .skip)) ∧ K (τS ops (M1 β 0 base) τ base.length) (eD β k r)
 | [], k, τk, K, hd, hk, ht, h => by
  simp only [List.length_nil, Nat.add_zero] at hk
  subst hk
  exact ⟨fun j h1 h2 => by omega, by rw [← ht]; exact h⟩
 | e :: r, k, τk, K, hd, hk, ht, h => by
  obtain ⟨o, ho, hok, hn⟩ := h
  simp only [List.length_cons] at hk
  have hb : base.getD k .skip = e := by
   have : (base.drop k)[0]? = some e := by rw [hd]; rfl
   rw [List.getElem?_drop] at this
   rw [List.getD_eq_getElem?_getD, show k = k + 0 by omega, this]; rfl
  have hd2 : base.drop (k + 1) = r := by
   rw [← List.drop_drop, hd]; rfl
  obtain ⟨h1, h2⟩ := EW.facts (τ := τ) (base := base) β r (k + 1) _ _ hd2 Aw (by simp only [τS, ho, Option.bind_some]; rw [N4 β Aw, hb, ← ht]) (hn (β k))
  refine ⟨fun j hj hl => ?_, h2⟩
  by_cases e2 : j = k
  ·subst e2; exact ⟨o, ho, by rw [hb, ← ht]; exact hok⟩
  exact h1 j Aw hl
theorem NR {β β' : Nat → Nat × Nat} {l l' : Nat → Bool} : ∀ (r : List Ey) (k : Nat), (∀ j, k ≤ j → l j = l' j ∧ (l j = true → β j = β' j)) → Sr β l k r = Sr β' l' k r
 | [], k, h => rfl
 | e :: r, k, h => by
  simp only [Sr]
  obtain ⟨h1, h2⟩ := h k (Nat.le_refl _)
  rw [NR r (k + 1) fun j hj => h j Aw, ← h1]
  cases hl : l k
  ·rfl
  rw [h2 hl]
theorem UB {β : Nat → Nat × Nat} {l : Nat → Bool} {i : Nat} {b : Nat × Nat} (hi : l i = false) : ∀ (r : List Ey) (k : Nat), k ≤ i → i < k + r.length → ((r.getD (i - k) .skip).box b ++ Sr β l k r).Perm (Sr (fun j => if j = i then b else β j) (fun j => l j || j == i) k r)
 | [], k, h1, h2 => by simp at h2; omega
 | e :: r, k, h1, h2 => by
  simp only [Sr]
  by_cases hk : k = i
  ·subst hk
   simp only [hi, Bool.false_eq_true, if_false, List.nil_append, Nat.sub_self, List.getD_cons_zero, beq_self_eq_true, Bool.or_true, if_true]
   rw [NR (β' := fun j => if j = k then b else β j) (l' := fun j => l j || j == k) r (k + 1) fun j hj => ⟨by simp [show (j == k) = false by simp; omega], fun _ => by rw [if_neg Aw]⟩]
  have hp := UB (β := β) hi r (k + 1) (b := b) Aw (by simp only [List.length_cons] at h2; omega)
  have e1 : (e :: r).getD (i - k) .skip = r.getD (i - (k + 1)) .skip := by
   rw [show i - k = (i - (k + 1)) + 1 by omega]; rfl
  have e2 : (if (l k || k == i) = true then e.box (if k = i then b else β k) else []) = (if l k = true then e.box (β k) else []) := by
   rw [if_neg hk]
   simp [hk]
  rw [e1, e2]
  refine List.Perm.trans ?_ (hp.append_left _)
  rw [← List.append_assoc, ← List.append_assoc]
  exact List.perm_append_comm.append_right _
theorem US {β : Nat → Nat × Nat} {l : Nat → Bool} : ∀ (r : List Ey) (k : Nat), (∀ j, k ≤ j → j < k + r.length → l j = true) → Sr β l k r = eD β k r
 | [], k, h => rfl
 | e :: r, k, h => by
  simp only [Sr, eD]
  rw [if_pos (h k (Nat.le_refl _) Ax), US r (k + 1) fun j h1 h2 => h j Aw AX]
theorem Rw {β : Nat → Nat × Nat} {l : Nat → Bool} : ∀ (r : List Ey) (k : Nat), (∀ j, l j = false) → Sr β l k r = []
 | [], k, h => rfl
 | e :: r, k, h => by simp only [Sr]; rw [Rw r (k + 1) h, h k]; rfl
def WV (ops : Array Oper) (e : Nat) : Bool := (List.range ops.size).all fun i => Nat.blt i e || (List.range i).all fun j => No ops j i
theorem J4 {ops : Array Oper} {e : Nat} (h : WV ops e = true) {i j : Nat} (hi : e ≤ i) (hs : i < ops.size) (hj : j < i) : Pred ops j i := by
 have := List.all_eq_true.1 h i (by simpa using hs)
 simp only [Bool.or_eq_true] at this
 rcases this with h1 | h1
 ·rw [Nat.blt_eq] at h1; omega
 exact Es (List.all_eq_true.1 h1 j (by simpa using hj))
theorem D6 {P : Program} {r : Option Nat} {ops : Array Oper} {id n : Nat} {τ : Nat → AV} {H : List Bc} {D : List Eb} {Q : DC → CC → Prop} (base : List Ey) (hm : P.follows .mixedOrders = true)
  (he : Nat.ble base.length ops.size = true) (chk : Oo ops n [] = true) (late : WV ops base.length = true) (h : EW P ops H 0 τ base (fun τ' Hs => AL P r ops base.length ⟨n, τ', Hs ++ H, D⟩ Q)) : Jd P r (.region id ops true) ⟨n, τ, H, D⟩ Q := by
 intro F₀ a₀ w₀ hs₀
 rw [Nat.ble_eq] at he
 refine wpIn_region_any hm ?_
 have same : DW F₀ w₀ F₀ { w₀ with drawn := w₀.drawn + 1 } := ⟨Nat.le_refl _, fun _ _ _ => rfl, fun _ h _ => h⟩
 have t₀ : Trans F₀ H w₀ F₀ H { w₀ with drawn := w₀.drawn + 1 } :=
  ⟨Nat.le_refl _, fun _ _ _ => rfl, fun _ h _ => h, fun _ h => .inl h, fun o ho b hb => .inl ⟨o, ho, hb⟩, rfl, rfl, rfl⟩
 have hs₁ : Dm F₀ ⟨n, τ, H, D⟩ a₀ { w₀ with drawn := w₀.drawn + 1 } :=
  ⟨hs₀.size, fun t => Cc.mono same _ _ (hs₀.tmp t), hs₀.heap.stable' same (fun _ h => h) (fun _ _ _ _ => rfl) hs₀.heap.bd, Fg.mono same _ _ hs₀.defs⟩
 obtain ⟨hdst, c0, c1, c2, _⟩ := LH chk
 have hd : ∀ β, Nn P ops n (fun _ => False) τ H (M1 β 0 base) := fun β =>
  ⟨hdst, fun _ _ _ h => h.elim, c0, c1, c2, fun i k _ _ h _ => (by rw [Xs] at h; cases h), fun i e ob v _ _ _ h _ _ => absurd h (Vo β base 0 i ob v)⟩
 have hE : ∀ β, (∀ j, j < base.length → ∃ o, ops[j]? = some o ∧ aP P ops H o (τS ops (M1 β 0 base) τ j) (base.getD j .skip)) ∧ AL P r ops base.length ⟨n, τS ops (M1 β 0 base) τ base.length, eD β 0 base ++ H, D⟩ Q := fun β => by
  obtain ⟨h1, h2⟩ := EW.facts (base := base) β base 0 τ _ Ax Ax rfl h
  exact ⟨fun j hj => h1 j (Nat.zero_le _) hj, h2⟩
 -- where all of the first part has been carried out, the rest goes in the order of the text
 have conv : ∀ {l : Array Bool} {a w β τ' F Hb}, (∀ j, j < base.length → l.getD j false = true) → (∀ k, base.length ≤ k → l.getD k false = false) → F3 ops (M1 β 0 base) τ (fun i => l.getD i false = true) τ' → Hb.Perm (Sr β (fun k => l.getD k false) 0 base) → Dm F ⟨n, τ', Hb ++ H, D⟩ a w → Trans F₀ H w₀ F (Hb ++ H) w →
   wpOpsIn (W r) 0 P ops (post F₀ H w₀ Q) (List.range' base.length (ops.size - base.length)) a w := by
  intro l a w β τ' F Hb hall hno hτ hp hs ht
  have hτe : τ' = τS ops (M1 β 0 base) τ base.length := by
   funext t
   have h2 := Kz (hd β) base.length he t
   by_cases hw : ∃ (k : Nat) (o' : Oper), ops[k]? = some o' ∧ o'.dst = some t ∧ k < base.length
   ·obtain ⟨k, o', ho', hk, hlt⟩ := hw
    rw [(hτ t).1 k o' ho' hk (hall k hlt), h2.1 k o' ho' hk hlt]
   have hw' : ∀ (k : Nat) o', ops[k]? = some o' → o'.dst = some t → ¬ k < base.length := fun k o' h1 h2 h3 => hw ⟨k, o', h1, h2, h3⟩
   rw [(hτ t).2 fun k o' h1 h2 h3 => (by have h4 : l.getD k false = true := h3; have := hno k (by have := hw' k o' h1 h2; omega); rw [this] at h4; cases h4), h2.2 fun k o' h1 h2 h3 => hw' k o' h1 h2 h3]
  rw [US base 0 fun j _ hj => hall j Aw] at hp
  have hp2 := hp.append_right H
  have := (hE β).2 F a w (by rw [← hτe]; exact ⟨hs.size, hs.tmp, hs.heap.perm hp2, hs.defs⟩)
  refine EA (fun e a' w' hq => ?_) _ _ _ this
  exact GX hs₀.heap.bd { ht with keys := fun o ho => ht.keys o (hp2.mem_iff.2 ho) } hq
 refine K3 (I := fun l a w => l.size = ops.size ∧ ((∃ β τ' F Hb, Down ops (fun i => l.getD i false = true) ∧ (∀ k, base.length ≤ k → l.getD k false = false) ∧ F3 ops (M1 β 0 base) τ (fun i => l.getD i false = true) τ' ∧ Hb.Perm (Sr β (fun k => l.getD k false) 0 base) ∧ Dm F ⟨n, τ', Hb ++ H, D⟩ a w ∧ Trans F₀ H w₀ F (Hb ++ H) w) ∨
  (∃ m, base.length ≤ m ∧ m ≤ ops.size ∧ (∀ k, k < ops.size → (l.getD k false = true ↔ k < m)) ∧ wpOpsIn (W r) 0 P ops (post F₀ H w₀ Q) (List.range' m (ops.size - m)) a w))) (fun l a w h => h.1) ?_ ?_ _ _ _ _ ?_ ?_
 ·rintro l a w ⟨hsz, hI⟩ i hi
  obtain ⟨hun, o, ho, hall⟩ := mem_ready.1 hi
  have hlt : i < ops.size := by
   rcases Nat.lt_or_ge i ops.size with h | h
   ·exact h
   simp [Array.getElem?_eq_none h] at ho
  have hil : i < l.size := by omega
  have hnot : l.getD i false = false := by
   have : l[i] = false := by simpa [hil] using hun
   simp [hil, this]
  have hr : ∀ j ∈ ET o, l.getD j false = true := by
   intro j hj
   simp only [ET, List.mem_map, List.mem_filter] at hj
   obtain ⟨e, ⟨he, hb⟩, rfl⟩ := hj
   exact hall e (by simpa using he) hb
  have hset : ∀ k, (l.setIfInBounds i true).getD k false = true ↔ (l.getD k false = true ∨ k = i) := by
   intro k
   by_cases hk : k = i
   ·subst hk; simp [hil]
   simp [Array.getElem?_setIfInBounds_ne (Ne.symm hk), hk]
  have hset2 : ∀ k, (l.setIfInBounds i true).getD k false = (l.getD k false || k == i) := by
   intro k
   by_cases hk : k = i
   ·subst hk; simp [hil]
   simp [Array.getElem?_setIfInBounds_ne (Ne.symm hk), hk]
  have hsz' : (l.setIfInBounds i true).size = ops.size := by simp [hsz]
  have goLate : ∀ m, i = m → base.length ≤ m → m ≤ ops.size → (∀ k, k < ops.size → (l.getD k false = true ↔ k < m)) → wpOpsIn (W r) 0 P ops (post F₀ H w₀ Q) (List.range' m (ops.size - m)) a w →
    wpOpIn (W r) 0 P ops (post F₀ H w₀ Q) i (fun a w => (l.setIfInBounds i true).size = ops.size ∧ ((∃ β τ' F Hb, Down ops (fun k => (l.setIfInBounds i true).getD k false = true) ∧ (∀ k, base.length ≤ k → (l.setIfInBounds i true).getD k false = false) ∧ F3 ops (M1 β 0 base) τ (fun k => (l.setIfInBounds i true).getD k false = true) τ' ∧ Hb.Perm (Sr β (fun k => (l.setIfInBounds i true).getD k false) 0 base) ∧ Dm F ⟨n, τ', Hb ++ H, D⟩ a w ∧ Trans F₀ H w₀ F (Hb ++ H) w) ∨
     (∃ m, base.length ≤ m ∧ m ≤ ops.size ∧ (∀ k, k < ops.size → ((l.setIfInBounds i true).getD k false = true ↔ k < m)) ∧ wpOpsIn (W r) 0 P ops (post F₀ H w₀ Q) (List.range' m (ops.size - m)) a w))) a w := by
   intro m him h1 h2 h3 hw
   subst him
   rw [Jx hlt, wpOpsIn_cons] at hw
   refine wpOpIn_mono (fun a' w' h' => ⟨hsz', .inr ⟨i + 1, by omega, by omega, fun k hk => ?_, h'⟩⟩) hw
   rw [hset k, h3 k hk]
   omega
  rcases hI with ⟨β, τ', F, Hb, hdown, hno, hτ, hp, hs, ht⟩ | ⟨m, hm1, hm2, hm3, hw⟩
  ·rcases Nat.lt_or_ge i base.length with hib | hib
   ·-- of the first part
    obtain ⟨o', ho', hok⟩ := (hE β).1 i hib
    rw [ho] at ho'; injection ho' with ho'; subst ho'
    have hlook : ∀ t ∈ looks ops o, τ' t = τS ops (M1 β 0 base) τ i t := fun t ht => Ky (hd β) hdown hτ ho (by rw [hnot]; decide) hr ht
    have hops : ∀ x ∈ o.op.operands.toList, ev τ' x = ev (τS ops (M1 β 0 base) τ i) x := by
     intro x hx
     cases x with
     | tmp t => exact hlook t (List.mem_append_left _ (List.mem_filterMap.2 ⟨.tmp t, hx, rfl⟩))
     | _ => rfl
    have hguard : ∀ j want d, o.guard = some (j, want) → (ops[j]?).bind (·.dst) = some d → τ' d = τS ops (M1 β 0 base) τ i d := by
     intro j want d hg hj
     refine hlook d (List.mem_append_right _ ?_)
     simp [hg, hj]
    have hdown' : Down ops (fun k => (l.setIfInBounds i true).getD k false = true) := by
     intro k o' j ho' hk hj
     rcases (hset k).1 hk with h | h
     ·exact (hset j).2 (.inl (hdown k o' j ho' h hj))
     subst h; rw [ho] at ho'; injection ho' with ho'; subst ho'; exact (hset j).2 (.inl (hr j hj))
    have hno' : ∀ k, base.length ≤ k → (l.setIfInBounds i true).getD k false = false := by
     intro k hk
     rw [hset2 k, hno k hk]
     simp; omega
    generalize hbe : base.getD i .skip = e at hok
    have close : ∀ {a' w' F' b H'}, H' = e.box b ++ (Hb ++ H) → Dm F' ⟨n, put τ' o.dst (e.v b), H', D⟩ a' w' → Trans F (Hb ++ H) w F' H' w' →
      (l.setIfInBounds i true).size = ops.size ∧ ((∃ β τ' F Hb, Down ops (fun k => (l.setIfInBounds i true).getD k false = true) ∧ (∀ k, base.length ≤ k → (l.setIfInBounds i true).getD k false = false) ∧ F3 ops (M1 β 0 base) τ (fun k => (l.setIfInBounds i true).getD k false = true) τ' ∧ Hb.Perm (Sr β (fun k => (l.setIfInBounds i true).getD k false) 0 base) ∧ Dm F ⟨n, τ', Hb ++ H, D⟩ a' w' ∧ Trans F₀ H w₀ F (Hb ++ H) w') ∨
       (∃ m, base.length ≤ m ∧ m ≤ ops.size ∧ (∀ k, k < ops.size → ((l.setIfInBounds i true).getD k false = true ↔ k < m)) ∧ wpOpsIn (W r) 0 P ops (post F₀ H w₀ Q) (List.range' m (ops.size - m)) a' w')) := by
     intro a' w' F' b H' hH h3 h4
     subst hH
     refine ⟨hsz', .inl ⟨fun j => if j = i then b else β j, put τ' o.dst (e.v b), F', e.box b ++ Hb, hdown', hno', ?_, ?_, by rw [List.append_assoc]; exact h3, by rw [List.append_assoc]; exact ht.trans hs₀.heap.bd h4⟩⟩
     ·have hτ2 : F3 ops (M1 (fun j => if j = i then b else β j) 0 base) τ (fun k => l.getD k false = true) τ' := by
       intro t
       refine ⟨fun k o' a1 a2 a3 => ?_, (hτ t).2⟩
       have a4 : l.getD k false = true := a3
       have hki : k ≠ i := fun e => by subst e; rw [hnot] at a4; cases a4
       rw [(hτ t).1 k o' a1 a2 a3]
       rcases Nat.lt_or_ge k base.length with hk | hk
       ·rw [N4 _ hk, N4 _ hk, if_neg hki]
       have := hno k hk; rw [this] at a4; cases a4
      have hτ3 := hτ2.put (hd _) ho
      rw [N4 _ hib, if_pos rfl, hbe] at hτ3
      intro t
      exact ⟨fun k o' a1 a2 a3 => (hτ3 t).1 k o' a1 a2 ((hset k).1 a3), fun hn => (hτ3 t).2 fun k o' a1 a2 a3 => hn k o' a1 a2 ((hset k).2 a3)⟩
     have h1 := UB (β := β) (l := fun k => l.getD k false) (i := i) (b := b) hnot base 0 (Nat.zero_le _) Aw
     rw [Nat.sub_zero, hbe] at h1
     refine (hp.append_left _).trans (h1.trans (List.Perm.of_eq ?_))
     exact NR base 0 fun j _ => ⟨(hset2 j).symm, fun _ => Ay⟩
    have wants : DV ops ⟨0, τS ops (M1 β 0 base) τ i, [], []⟩ o → DV ops ⟨n, τ', Hb ++ H, D⟩ o := by
     intro h
     unfold DV at *
     cases hg : o.guard with
     | none => simp [hg]
     | some jw =>
      obtain ⟨j, want⟩ := jw
      simp only [hg] at h ⊢
      obtain ⟨d, h1, h2⟩ := h
      exact ⟨d, h1, by rw [← h2]; exact hguard j want d hg h1⟩
    have yields : DV ops ⟨n, τ', Hb ++ H, D⟩ o → DZ P o (ev (τS ops (M1 β 0 base) τ i)) (Hb ++ H) (fun r H' => match r with | .val v => ∃ b, v = e.v b ∧ H' = e.box b ++ (Hb ++ H) | .panic _ => False) → wpOpIn (W r) 0 P ops (post F₀ H w₀ Q) i (fun a' w' => (l.setIfInBounds i true).size = ops.size ∧ ((∃ β τ' F Hb, Down ops (fun k => (l.setIfInBounds i true).getD k false = true) ∧ (∀ k, base.length ≤ k → (l.setIfInBounds i true).getD k false = false) ∧ F3 ops (M1 β 0 base) τ (fun k => (l.setIfInBounds i true).getD k false = true) τ' ∧ Hb.Perm (Sr β (fun k => (l.setIfInBounds i true).getD k false) 0 base) ∧ Dm F ⟨n, τ', Hb ++ H, D⟩ a' w' ∧ Trans F₀ H w₀ F (Hb ++ H) w') ∨
       (∃ m, base.length ≤ m ∧ m ≤ ops.size ∧ (∀ k, k < ops.size → ((l.setIfInBounds i true).getD k false = true ↔ k < m)) ∧ wpOpsIn (W r) 0 P ops (post F₀ H w₀ Q) (List.range' m (ops.size - m)) a' w'))) a w := by
     intro hwant hop
     unfold wpOpIn
     simp only [ho, IS hs hwant, if_true]
     have hw := hop r F _ a w hs rfl (fun x hx => hops x hx) (fun t ht => hdst i o t ho ht)
     unfold Oper.wpIn at *
     refine ⟨hw.1, ?_⟩
     replace hw := hw.2
     generalize (o.semAt (W r).round a.eval).run P w = rr at *
     cases rr with
     | ok nx w' =>
      cases nx <;> simp only [Oper.uponIn] at hw ⊢
      case value u => obtain ⟨v', H'', F', ⟨b, h1, h2⟩, h3, h4⟩ := hw; subst h1; exact close h2 h3 h4
      case skip => obtain ⟨v', H'', F', ⟨b, h1, h2⟩, h3, h4⟩ := hw; subst h1; exact close h2 h3 h4
      case defer d => obtain ⟨v', H'', F', ⟨b, h1, h2⟩, h3, h4⟩ := hw; subst h1; exact close h2 h3 h4
      case enter f args =>
       refine ⟨hw.1, hw.2.mono fun e w'' he => ?_⟩
       cases e with
       | returned u => obtain ⟨v', H'', F', ⟨b, h1, h2⟩, h3, h4⟩ := he; subst h1; exact close h2 h3 h4
       | panicked c => obtain ⟨_, _, _, _, h, _⟩ := he; exact h.elim
       | outgrown => obtain ⟨_, _, _, _, _, _, h, _⟩ := he; exact h.elim
      case row row args => exact ⟨hw.1, hw.2.mono fun u w'' h => by obtain ⟨v', H'', F', ⟨b, h1, h2⟩, h3, h4⟩ := h; subst h1; exact close h2 h3 h4⟩
      case round l' f tmps assign body =>
       refine ⟨hw.1, hw.2.mono fun e w'' he => ?_⟩
       cases e with
       | returned u => obtain ⟨v', H'', F', ⟨b, h1, h2⟩, h3, h4⟩ := he; subst h1; exact close h2 h3 h4
       | panicked c => obtain ⟨_, _, _, _, h, _⟩ := he; exact h.elim
       | outgrown => obtain ⟨_, _, _, _, _, _, h, _⟩ := he; exact h.elim
     | halt x w' =>
      cases x <;> simp only [Oper.uponIn] at hw ⊢
      case panic u => obtain ⟨_, _, _, _, h, _⟩ := hw; exact h.elim
    cases e with
    | val v => exact yields (wants hok.1) ((hok.2 Hb).mono (by
      intro r H' hR
      cases r with
      | val v' => obtain ⟨rfl, rfl⟩ := hR; exact ⟨(0, 0), rfl, rfl⟩
      | panic v' => exact hR.elim))
    | new cs =>
     refine yields (by unfold DV; rw [hok.1]; trivial) ((hok.2 _).mono ?_)
     intro r H' hR
     cases r with
     | val v' => obtain ⟨b, rfl, rfl⟩ := hR; exact ⟨(b, 0), rfl, rfl⟩
     | panic v' => exact hR.elim
    | newv sz rows =>
     refine yields (by unfold DV; rw [hok.1]; trivial) ((hok.2 _).mono ?_)
     intro r H' hR
     cases r with
     | val v' => obtain ⟨b, c, rfl, rfl⟩ := hR; exact ⟨(b, c), rfl, rfl⟩
     | panic v' => exact hR.elim
    | skip =>
     obtain ⟨j, want, d, hg, hj, hb⟩ := hok
     have hw : Region.wanted o (yielded ops a.tmps) = false := KN (S := ⟨n, τ', Hb ++ H, D⟩) hs hg hj (by show Xq (τ' d) want; rw [hguard j want d hg hj]; exact hb)
     unfold wpOpIn
     simp only [ho, hw, Bool.false_eq_true, if_false]
     refine ⟨fun _ _ => trivial, close (b := (0, 0)) Ay ?_ .refl⟩
     exact hs.put (fun t ht => hdst i o t ho ht) ⟨Nat.le_refl _, fun _ _ _ => Ay, fun _ h _ => h⟩ hs.heap (by simp only [Ey.v, Cc, CF, undef]; exact ⟨[], rfl, rfl⟩)
   -- the first of the rest
   have hpre : ∀ j, j < i → l.getD j false = true := by
    intro j hj
    have hpi := J4 late hib hlt hj
    have : ∀ {a b}, Pred ops a b → b = i → l.getD a false = true := by
     intro a b hab
     induction hab with
     | base ho' hj => intro e; subst e; rw [ho] at ho'; injection ho' with ho'; subst ho'; exact hr _ hj
     | trans p1 _ _ ih2 => intro e; exact hdown.pred p1 (ih2 e)
    exact this hpi Ay
   have hie : i = base.length := by
    rcases Nat.lt_or_ge base.length i with h | h
    ·have h1 := hpre base.length h
     rw [hno base.length (Nat.le_refl _)] at h1
     cases h1
    omega
   refine goLate base.length hie (Nat.le_refl _) he (fun k hk => ⟨fun h => ?_, fun h => hpre k Aw⟩) (conv (fun j hj => hpre j Aw) hno hτ hp hs ht)
   rcases Nat.lt_or_ge k base.length with h' | h'
   ·exact h'
   rw [hno k h'] at h; cases h
  have hmi : m ≤ i := by
   rcases Nat.lt_or_ge i m with h | h
   ·have := (hm3 i hlt).2 h; rw [hnot] at this; cases this
   exact h
  have him : i = m := by
   rcases Nat.lt_or_ge m i with h | h
   ·have hpi := J4 late (by omega : base.length ≤ i) hlt h
    have hdown : ∀ {a b}, Pred ops a b → b = i → l.getD a false = true := by
     intro a b hab
     induction hab with
     | base ho' hj => intro e; subst e; rw [ho] at ho'; injection ho' with ho'; subst ho'; exact hr _ hj
     | @trans a k b p1 p2 _ ih2 =>
      intro e
      have hk := ih2 e
      have hks : k < ops.size := by
       rcases Nat.lt_or_ge k ops.size with h | h
       ·exact h
       have : l.getD k false = false := by
        have : ¬ k < l.size := by omega
        simp [this]
       rw [this] at hk; cases hk
      have hkm := (hm3 k hks).1 hk
      have hak : a < k := Pred.lt (hd fun _ => (0, 0)) p1
      exact (hm3 a Aw).2 Aw
    have := (hm3 m Aw).1 (hdown hpi rfl)
    omega
   omega
  exact goLate m him hm1 hm2 hm3 hw
 ·rintro l a w ⟨hsz, hI⟩ hr
  have hall : ∀ i, i < ops.size → l.getD i false = true := by
   intro i
   induction i using Nat.strongRecOn with
   | _ i ih =>
    intro hi
    cases hq : l.getD i false with
    | true => rfl
    | false =>
     have ho : ops[i]? = some ops[i] := Array.getElem?_eq_getElem hi
     have : i ∈ Region.ready .any ops l := by
      refine mem_ready.2 ⟨?_, ops[i], ho, ?_⟩
      ·have : i < l.size := by omega
       simp [this] at hq ⊢; exact hq
      intro e he hb
      have hj : e.on ∈ ET ops[i] := by
       simp only [ET, List.mem_map, List.mem_filter]
       exact ⟨e, ⟨by simpa using he, hb⟩, rfl⟩
      have hlt := c0 i _ _ ho hj
      exact ih e.on hlt Aw
     rw [hr] at this
     cases this
  rcases hI with ⟨β, τ', F, Hb, hdown, hno, hτ, hp, hs, ht⟩ | ⟨m, hm1, hm2, hm3, hw⟩
  ·have hbs : base.length = ops.size := by
    rcases Nat.lt_or_ge base.length ops.size with h | h
    ·have := hall base.length h; rw [hno base.length (Nat.le_refl _)] at this; cases this
    omega
   have := conv (fun j hj => hall j Aw) hno hτ hp hs ht
   rw [hbs, Nat.sub_self] at this
   exact this
  have hms : m = ops.size := by
   rcases Nat.lt_or_ge m ops.size with h | h
   ·have := (hm3 m h).1 (hall m h); omega
   omega
  rw [hms, Nat.sub_self] at hw
  exact hw
 ·refine ⟨by simp, .inl ⟨fun _ => (0, 0), τ, F₀, [], ?_, ?_, ?_, ?_, hs₁, t₀⟩⟩
  ·intro i o j ho hi
   by_cases h : i < ops.size <;> simp [h] at hi
  ·intro k _
   by_cases h : k < ops.size <;> simp [h]
  ·intro t
   refine ⟨fun k o ho hk hl => ?_, fun _ => Ay⟩
   by_cases h : k < ops.size <;> simp [h] at hl
  rw [Rw base 0 fun j => by by_cases h : j < ops.size <;> simp [h]]
 have := List.length_filter_le (fun b : Bool => !b) (Array.replicate ops.size false).toList
 simp at this ⊢
section
variable {P : Program} {ops : Array Oper} {H₀ : List Bc} {k : Nat} {τ : Nat → AV} {r : List Ey} {K : (Nat → AV) → List Bc → Prop} {dst : Option Tmp} {op : Op} {ty : TypeId} {pos : String} {aft : Array Edge} {v : AV}
theorem BZ (ho : ops[k]? = some ⟨dst, op, ty, pos, aft, none⟩) (h : ∀ Bs, Dw P ⟨dst, op, ty, pos, aft, none⟩ (ev τ) (Bs ++ H₀) v (Bs ++ H₀)) (next : EW P ops H₀ (k + 1) (put τ dst v) r K) : EW P ops H₀ k τ (.val v :: r) K :=
 ⟨_, ho, ⟨trivial, h⟩, fun _ => next⟩
theorem Fh {cs : List AV} (ho : ops[k]? = some ⟨dst, op, ty, pos, aft, none⟩) (h : ∀ Bs, DZ P ⟨dst, op, ty, pos, aft, none⟩ (ev τ) (Bs ++ H₀) (Jn cs (Bs ++ H₀))) (next : ∀ b, EW P ops H₀ (k + 1) (put τ dst (.ptr b 0)) r (fun τ' Hs => K τ' (.box b cs :: Hs))) : EW P ops H₀ k τ (.new cs :: r) K :=
 ⟨_, ho, ⟨rfl, h⟩, fun b => next b.1⟩
theorem MX {sz : Nat} {rows : List (List PV)} (ho : ops[k]? = some ⟨dst, op, ty, pos, aft, none⟩) (h : ∀ Bs, DZ P ⟨dst, op, ty, pos, aft, none⟩ (ev τ) (Bs ++ H₀) (KX sz rows (Bs ++ H₀))) (next : ∀ b c, EW P ops H₀ (k + 1) (put τ dst (.vs (some b) rows.length c)) r (fun τ' Hs => K τ' (.vec (some b) sz rows c :: Hs))) : EW P ops H₀ k τ (.newv sz rows :: r) K :=
 ⟨_, ho, ⟨rfl, h⟩, fun b => next b.1 b.2⟩
theorem E9 (h : K τ []) : EW P ops H₀ k τ [] K := h
theorem B3 {α : Type} {Bs H : List α} {j : Nat} {x : α} (h : H[j]? = some x) : (Bs ++ H)[Bs.length + j]? = some x := by
 rw [List.getElem?_append_right Aw, Nat.add_sub_cancel_left]; exact h
theorem Ca {c : Call} {f : Operand} {fid : FuncId} {first caps A : List AV} {ρ : Operand → AV} {H Hs : List Bc} {g : Option (Nat × Bool)} {Bs : List Bc} (is : List Nat) (hc : c.callee = .value f) (hf : (ρ f = .p (.fn fid) ∧ first = [] ∧ caps = []) ∨ ρ f = .fn (.func fid) first caps) (h : B1 P fid A Hs (Dq v Hs)) (hg : Ff H is Hs) (hn : is.Nodup) (hA : Hc (first ++ c.args.toList.map ρ ++ caps) A) :
  Dw P ⟨dst, .call c, ty, pos, aft, g⟩ ρ (Bs ++ H) v (Bs ++ H) := by
 have hp : (Bs ++ H).Perm (Hs ++ (Bs ++ DT is 0 H)) := by
  refine ((DB hn hg).append_left Bs).trans ?_
  rw [← List.append_assoc, ← List.append_assoc]
  exact List.perm_append_comm.append_right _
 refine DZ.permR (Ig (H := Bs ++ H) hc hf hp (h.args hA) (.inl Ay)) ?_
 rintro r H' ⟨Hs', h1, rfl⟩
 cases r with
 | val v' => obtain ⟨rfl, rfl⟩ := h1; exact ⟨Bs ++ H, hp.symm, rfl, rfl⟩
 | panic v' => exact h1.elim
end
theorem NY {α : Type} : ∀ {l H : List α}, l.Nodup → (∀ x ∈ l, x ∈ H) → ∃ r, H.Perm (l ++ r)
 | [], H, _, _ => ⟨H, by simp⟩
 | a :: l, H, hn, hs => by
  obtain ⟨s, t, rfl⟩ := List.append_of_mem (hs a Ax)
  have hn' := List.nodup_cons.1 hn
  obtain ⟨r, hr⟩ := NY (l := l) (H := s ++ t) hn'.2 fun x hx => by
   have := hs x (by simp [hx])
   simp only [List.mem_append, List.mem_cons] at this ⊢
   rcases this with h | rfl | h
   ·exact .inl h
   ·exact absurd hx hn'.1
   exact .inr h
  exact ⟨r, List.perm_middle.trans (by simpa using hr.cons a)⟩
def WR (ops : Array Oper) (k : Nat) (ef : Xi) : List Bc → Prop
 | [] => True
 | ob :: r => TY ops k ob ef ∧ WR ops k ef r
theorem QW {ops : Array Oper} {k : Nat} {ef : Xi} : ∀ {l : List Bc}, WR ops k ef l → ∀ ob ∈ l, TY ops k ob ef
 | [], _, ob, h => by simp at h
 | a :: l, h, ob, hm => by
  rcases List.mem_cons.1 hm with rfl | hm
  ·exact h.1
  exact QW h.2 ob hm
theorem OX {α : Type} {H : List α} : ∀ {is : List Nat} {xs : List α}, Ff H is xs → ∀ x ∈ xs, x ∈ H
 | [], xs, h, x, hx => by simp only [Ff] at h; subst h; simp at hx
 | i :: is, xs, h, x, hx => by
  obtain ⟨y, xs', rfl, hy, hr⟩ := h
  rcases List.mem_cons.1 hx with rfl | hx
  ·exact List.mem_of_getElem? hy
  exact OX hr x hx
theorem Ra {α : Type} {a b : α} (h : a ≠ b) : [a, b].Nodup := by simp [h]
section
variable {P : Program} {ops : Array Oper} {n : Nat} {τ₀ : Nat → AV} {D : List Eb} {Q : DC → CC → Prop} {opn : Nat → Bool} {k : Nat} {τ : Nat → AV} {H Hs : List Bc} {rd : ZX} {ef : Xi} {effs : List Bool} {fx : List (Nat × Sp)} {dst : Option Tmp} {ty : TypeId} {pos : String} {aft : Array Edge} {v : AV} {c : Call} {f : Operand} {fid : FuncId} {first caps A : List AV}
theorem CO (is : List Nat) (ho : ops[k]? = some ⟨dst, .call c, ty, pos, aft, none⟩) (hn : opn k = false) (hc : c.callee = .value f) (hf : (ev τ f = .p (.fn fid) ∧ first = [] ∧ caps = []) ∨ ev τ f = .fn (.func fid) first caps) (h : B1 P fid A Hs (Dq v Hs)) (hg : Ff H is Hs) (hnd : Hs.Nodup) (hA : Hc (first ++ c.args.toList.map (ev τ) ++ caps) A)
  (owe : WR ops k ef Hs) (hfx : Ik k (.read Hs v) fx) (next : Dr P ops n τ₀ D Q opn (k + 1) (put τ dst v) H (Hs.map (fun ob => (k, ob)) ++ rd) ef (false :: effs) fx) : Dr P ops n τ₀ D Q opn k τ H rd ef effs fx := by
 refine .step (.read Hs v) ho (.inl hn) ⟨trivial, OX hg, fun H' hm => ?_⟩ (QW owe) hfx next
 obtain ⟨r, hp⟩ := NY hnd hm
 refine DZ.permR (Ig (H := H') hc hf hp (h.args hA) (.inl Ay)) ?_
 rintro r' H2 ⟨Hs', h1, rfl⟩
 cases r' with
 | val v' => obtain ⟨rfl, rfl⟩ := h1; exact ⟨H', hp.symm, rfl, rfl⟩
 | panic v' => exact h1.elim
end
end Go.Abs
namespace Go.Eu
open Go.Abs
theorem cf (t : Tm) : ∀ c ∈ Bu t, c ≠ .nils := by obtain ⟨k, i, n, l, s⟩ := t; simp [Bu]
theorem DP (l : List Tm) : ∀ r ∈ Bg l, ∀ c ∈ r, c ≠ .nils := by
 intro r hr
 rw [FD] at hr
 obtain ⟨t, _, rfl⟩ := List.mem_map.1 hr
 exact cf t
theorem J2 (l : List G2) : ∀ r ∈ l.map CS, ∀ c ∈ r, c ≠ .nils := by
 intro r hr c hc
 obtain ⟨e, _, rfl⟩ := List.mem_map.1 hr
 simp only [CS, List.mem_append, List.mem_singleton] at hc
 rcases hc with h | h | h | h
 ·exact cf _ c h
 ·exact cf _ c h
 ·exact cf _ c h
 subst h; simp
theorem PS (l : List Ch) : ∀ r ∈ l.map Cm, ∀ c ∈ r, c ≠ .nils := by
 intro r hr c hc
 obtain ⟨e, _, rfl⟩ := List.mem_map.1 hr
 simp [Cm] at hc
 rcases hc with rfl | rfl <;> simp
theorem Lj {th : BY} {f x : G2} {l : List G2} {i : Nat} (h : l[i]? = some x) : Cx th f (l.take (i + 1)) = L2 th (Cx th f (l.take i)) x := by
 simp [Cx, List.take_add_one, h]
theorem TS {th : BY} {f : G2} {l : List G2} : Cx th f (l.take 0) = f := by simp [Cx]
theorem dV {f : Nat → Option (Nat × Nat)} {base : List AV} {l r q : Tm} (h0 : f 0 = some (0, 5)) (h1 : f 1 = some (5, 5)) (h2 : f 2 = some (10, 5)) (hb : base.length = 16) (hd : base.drop 15 = [.p (.bool false)]) : ES f base [(0, TV l), (1, TV r), (2, TV q)] = some ((CS ⟨l, r, q, false⟩).map .p) := by
 rw [dA h0 h1 h2 hb Am Am Am, hd]
 simp [CS]
theorem ir {f : Nat → Option (Nat × Nat)} {base : List AV} {l r q : Tm} {s : Bool} (h0 : f 0 = some (0, 5)) (h1 : f 1 = some (5, 5)) (h2 : f 2 = some (10, 5)) (h3 : f 3 = some (15, 1)) (hb : base.length = 16) : ES f base [(0, TV l), (1, TV r), (2, TV q), (3, .p (.bool s))] = some ((CS ⟨l, r, q, s⟩).map .p) := by
 rw [ck h0 h1 h2 h3 hb Am Am Am]
 simp [CS]
theorem eq_left (e : G2) : (((CS e).map AV.p).drop 0).take 5 = (Bu e.left).map .p := by
 simp only [CS, List.map_append, List.drop_zero]
 rw [List.take_left' Am]
theorem eq_right (e : G2) : (((CS e).map AV.p).drop 5).take 5 = (Bu e.right).map .p := by
 simp only [CS, List.map_append]
 rw [List.drop_left' Am, List.take_left' Am]
theorem Ke (e : G2) : (((CS e).map AV.p).drop 10).take 5 = (Bu e.proof).map .p := by
 simp only [CS, List.map_append]
 rw [show (10 : Nat) = 5 + 5 from rfl, ← List.drop_drop, List.drop_left' Am, List.drop_left' Am, List.take_left' Am]
theorem Ft (e : G2) : ((((CS e).map AV.p).drop 0).take 5).length = 5 := by rw [eq_left]; simp [Bd]
theorem FZ (e : G2) : ((((CS e).map AV.p).drop 5).take 5).length = 5 := by rw [eq_right]; simp [Bd]
theorem LF (e : G2) : ((((CS e).map AV.p).drop 10).take 5).length = 5 := by rw [Ke]; simp [Bd]
theorem MW (e : G2) : ((CS e).map AV.p)[15]? = some (.p (.bool e.same)) := by
 obtain ⟨⟨_, _, _, _, _⟩, ⟨_, _, _, _, _⟩, ⟨_, _, _, _, _⟩, s⟩ := e
 rfl
end Go.Eu
namespace Go.Abs
def Ma (P : Program) (T : TypeId) : Bool :=
 match P.underlying T with
 | some (.struct fs) => match fs.toList with
  | [f, g] => f.name != "_" && g.name != "_" && Nat.beq f.offset 0 && Nat.beq g.offset 1 && (match P.underlying f.type, P.underlying g.type with | some (.int .i64), some .bool => true | _, _ => false) && !P.stoodInHeld T && !P.eqGuardType P.depth T
  | _ => false
 | _ => false
theorem R8 {P : Program} {T : TypeId} {a c : Int} {b d : Bool} {w : World} (h : Ma P T = true) : (Op.equal T (.agg #[.int .i64 a, .bool b]) (.agg #[.int .i64 c, .bool d])).run P w = .ok (a == c && b == d) w := by
 unfold Ma at h
 split at h
 ·rename_i fs hu
  split at h
  ·rename_i f g hfs
   obtain rfl : fs = #[f, g] := by apply Array.ext'; simpa using hfs
   simp only [Bool.and_eq_true, bne_iff_ne, ne_eq, Bool.not_eq_true'] at h
   obtain ⟨⟨⟨⟨⟨⟨h1, h2⟩, h3⟩, h4⟩, h5⟩, h6⟩, h7⟩ := h
   split at h5
   ·rename_i hf hg
    have e3 := Nat.eq_of_beq_eq_true h3
    have e4 := Nat.eq_of_beq_eq_true h4
    have hp : (program).run P w = .ok P w := rfl
    have af : (isAgg f.type).run P w = .ok false w := JF hf false rfl w
    have ag : (isAgg g.type).run P w = .ok false w := JF hg false rfl w
    have pf : ∀ (x : Int) (y : Bool), (part f.type #[.int .i64 x, .bool y] f.offset).run P w = .ok (.int .i64 x) w := by
     intro x y; unfold part; simp [Sem.run_bind, af, e3]
    have pg : ∀ (x : Int) (y : Bool), (part g.type #[.int .i64 x, .bool y] g.offset).run P w = .ok (.bool y) w := by
     intro x y; unfold part; simp [Sem.run_bind, ag, e4]
    have qf : ∀ (x y : Int), (Op.equalIn 9999 f.type (.int .i64 x) (.int .i64 y)).run P w = .ok (x == y) w := by
     intro x y; rw [show (9999 : Nat) = 9998 + 1 from rfl]; unfold Op.equalIn; simp [Sem.run_bind, run_underlying hf]
    have qg : ∀ (x y : Bool), (Op.equalIn 9999 g.type (.bool x) (.bool y)).run P w = .ok (x == y) w := by
     intro x y; rw [show (9999 : Nat) = 9998 + 1 from rfl]; unfold Op.equalIn; simp [Sem.run_bind, run_underlying hg]
    unfold Op.equal
    rw [show Op.maxDepth = 9999 + 1 from rfl]
    unfold Op.equalIn
    simp only [Sem.run_bind, run_underlying hu, Result.andThen_ok, hp, h6]
    simp [Sem.run_bind, h1, h2, pf, pg, qf, qg]
    cases hac : (a == c) <;> cases hbd : (b == d) <;> simp_all [Sem.run_bind, h1, h2, pf, pg, qf, qg]
   cases h5
  cases h
 cases h
section
variable {P : Program} {dst : Option Tmp} {ty : TypeId} {pos : String} {aft : Array Edge} {g : Option (Nat × Bool)} {ρ : Operand → AV} {H : List Bc} {x y z : Operand} {v : AV}
theorem Wg {T U : TypeId} {a c : Int} {b d : Bool} (h : Ma P T = true) (hx : ρ x = .agg [.p (.int .i64 a), .p (.bool b)]) (hy : ρ y = .agg [.p (.int .i64 c), .p (.bool d)]) : Dw P ⟨dst, .binOp .eql T x y U, ty, pos, aft, g⟩ ρ H (.p (.bool (a == c && b == d))) H :=
 Cd fun F w E hH hE => by
  have e1 := hE x Ai
  have e2 := hE y Ai
  rw [hx] at e1
  rw [hy] at e2
  simp only [Cc, CF, Cg] at e1 e2
  obtain ⟨vs, e1, u1, us1, rfl, rfl, u2, us2, rfl, rfl, rfl⟩ := e1
  obtain ⟨vs', e2, v1, vs1, rfl, rfl, v2, vs2, rfl, rfl, rfl⟩ := e2
  refine ⟨.bool (a == c && b == d), ?_, by simp [Cc, Cg]⟩
  have hq := R8 (P := P) (T := T) (a := a) (b := b) (c := c) (d := d) (w := w) h
  have h' := h
  have hg : (eqGuard .eql T x y (.agg #[.int .i64 a, .bool b]) (.agg #[.int .i64 c, .bool d])).run P w = .ok () w := by
   unfold Ma at h'
   split at h'
   ·split at h'
    ·simp only [Bool.and_eq_true, Bool.not_eq_true'] at h'
     have h7 := h'.2
     have hp : (program).run P w = .ok P w := rfl
     unfold eqGuard
     simp [Sem.run_bind, hp, h7]
    cases h'
   cases h'
  simp [execOp, Sem.run_bind, hg, e1, e2, binOp, hq]
end
end Go.Abs
namespace Go.Eu
open Go.Abs
def Vg {σ α : Type} (st : σ → Int → α → σ) (xs : List α) : Nat → σ → σ
 | 0, s => s
 | m + 1, s => Vg st xs m (match xs[m]? with | some x => st s m x | none => s)
theorem V7 {σ α : Type} {st : σ → Int → α → σ} {xs : List α} {m j : Nat} {x : α} {s : σ} (hx : xs[j]? = some x) (hm : m = j + 1) : Vg st xs (m - 1) (st s ((m : Int) - 1) x) = Vg st xs m s := by
 subst hm
 rw [Nat.add_sub_cancel, Vg, hx]
 simp only
 congr 2
 omega
def Rz (th : BY) (A : List Tm) (s : Tm) (d : Int) (x : Ch) : Tm := Ce th (Cr th A x) s
theorem Uj {th : BY} {A : List Tm} {l : List Ch} : ∀ (m : Nat), m ≤ l.length → Vg (Rz th A) l m (Bk th A (l.drop m)) = Bk th A l
 | 0, _ => by simp [Vg]
 | m + 1, hm => by
  obtain ⟨x, hx⟩ : ∃ x, l[m]? = some x := ⟨_, List.getElem?_eq_getElem Aw⟩
  have h2 : l.drop m = x :: l.drop (m + 1) := by
   obtain ⟨h1, h3⟩ := List.getElem?_eq_some_iff.1 hx
   rw [List.drop_eq_getElem_cons h1, h3]
  have ih := Uj (th := th) (A := A) (l := l) m Aw
  rw [h2] at ih
  rw [Vg, hx]
  exact ih
theorem Va {th : BY} {A : List Tm} {l : List Ch} : Vg (Rz th A) l l.length (Bh th.zero []) = Bk th A l := by
 have := Uj (th := th) (A := A) (l := l) l.length (Nat.le_refl _)
 rw [List.drop_length] at this
 exact this
theorem MF {α : Type} {l : List α} {x : α} (h : l[0]? = some x) : l = x :: l.drop 1 := by
 cases l with
 | nil => simp at h
 | cons a l => simp at h; subst h; rfl
section
variable {th : BY} {A : List Tm} {x y : Ch} {l a b : List Ch}
theorem WT (h : l = [] ∨ ∃ y, l[0]? = some y ∧ (x.place < y.place ∨ (x.place = y.place ∧ x.minus = y.minus))) : Ct th A x l = (Dp th (Ce th (Cr th A x) (Bk th A l)), x :: l) := by
 rcases h with rfl | ⟨y, h0, h1⟩
 ·rfl
 rw [MF h0]
 unfold Ct
 rw [if_pos h1]
theorem Wb (h0 : l[0]? = some y) (h1 : ¬ (x.place < y.place ∨ (x.place = y.place ∧ x.minus = y.minus))) (h2 : x.place = y.place) : Ct th A x l = (Cx th (G6 th (EZ th (Cr th A x) (Cr th A y) (Bk th A (l.drop 1)))) [Fx th (IM th A x) (Dp th (Bk th A (l.drop 1))), JQ th (Bk th A (l.drop 1))], l.drop 1) := by
 rw [MF h0]
 unfold Ct
 rw [if_neg h1, if_pos h2]
 rfl
theorem XG (h0 : l[0]? = some y) (h1 : ¬ (x.place < y.place ∨ (x.place = y.place ∧ x.minus = y.minus))) (h2 : ¬ x.place = y.place) : Ct th A x l = (Cx th (G6 th (EZ th (Cr th A x) (Cr th A y) (Bk th A (l.drop 1)))) [Fx th (Hr th (Cr th A x) (Cr th A y)) (Dp th (Bk th A (l.drop 1))), EZ th (Cr th A y) (Cr th A x) (Bk th A (l.drop 1)), Dj th (Bh th.add [Cr th A y]) (Ct th A x (l.drop 1)).1], y :: (Ct th A x (l.drop 1)).2) := by
 rw [MF h0]
 rw [Ct, if_neg h1, if_neg h2]
 rfl
theorem U8 : DN th A b [] = (JQ th (Bk th A b), b) := rfl
theorem Te (h0 : a[0]? = some x) : DN th A b a = (Cx th (EZ th (Cr th A x) (Bk th A (a.drop 1)) (Bk th A b)) [Dj th (Bh th.add [Cr th A x]) (DN th A b (a.drop 1)).1, (Ct th A x (DN th A b (a.drop 1)).2).1], (Ct th A x (DN th A b (a.drop 1)).2).2) := by
 rw [MF h0]; rfl
theorem Rt (h0 : l[0]? = some x) : DE th A l = (Cx th (FM th 4 (Cu th (Ce th (Cr th A x) (Bk th A (l.drop 1)))) (Ce th (Cu th (Cr th A x)) (Cu th (Bk th A (l.drop 1)))) [Cr th A x, Bk th A (l.drop 1)]) [Fx th (JI th A x) (DE th A (l.drop 1)).1], ⟨x.place, !x.minus⟩ :: (DE th A (l.drop 1)).2) := by
 rw [MF h0]; rfl
def HM (A : List Tm) (x : Ch) : Prop := 0 ≤ x.place ∧ x.place.toNat < A.length
theorem I2 (h : ∀ y ∈ l, HM A y) : ∀ y ∈ l.drop 1, HM A y := fun y hy => h y (List.mem_of_mem_drop hy)
theorem Sb (h : ∀ y ∈ l, HM A y) (h0 : l[0]? = some y) : HM A y := h y (List.mem_of_getElem? h0)
end
theorem QA {th : BY} {A : List Tm} {x : Ch} (hx : HM A x) : ∀ l : List Ch, (∀ y ∈ l, HM A y) → ∀ y ∈ (Ct th A x l).2, HM A y
 | [], h => by intro y hy; simp [Ct] at hy; subst hy; exact hx
 | z :: l, h => by
  intro y hy
  unfold Ct at hy
  split at hy
  ·rcases List.mem_cons.1 hy with rfl | hy
   ·exact hx
   exact h y hy
  split at hy
  ·exact h y (List.mem_cons_of_mem _ hy)
  rcases List.mem_cons.1 hy with rfl | hy
  ·exact h _ Ax
  exact QA hx l (fun q hq => h q (by simp [hq])) y hy
theorem PG {th : BY} {A : List Tm} {b : List Ch} (hb : ∀ y ∈ b, HM A y) : ∀ a : List Ch, (∀ y ∈ a, HM A y) → ∀ y ∈ (DN th A b a).2, HM A y
 | [], h => hb
 | x :: a, h => QA (h x Ax) _ (PG hb a fun q hq => h q (by simp [hq]))
theorem QO {th : BY} {A : List Tm} : ∀ l : List Ch, (∀ y ∈ l, HM A y) → ∀ y ∈ (DE th A l).2, HM A y
 | [], h => by intro y hy; simp [DE] at hy
 | x :: l, h => by
  intro y hy
  rcases List.mem_cons.1 hy with rfl | hy
  ·exact h x Ax
  exact QO l (fun q hq => h q (by simp [hq])) y hy
theorem Lu {th : BY} {A : List Tm} {x : Ch} : ∀ l : List Ch, (Ct th A x l).2.length ≤ l.length + 1
 | [] => by simp [Ct]
 | z :: l => by
  have := Lu (th := th) (A := A) (x := x) l
  unfold Ct
  split
  ·simp
  split
  ·simp; omega
  simp; omega
theorem NC {th : BY} {A : List Tm} {b : List Ch} : ∀ a : List Ch, (DN th A b a).2.length ≤ a.length + b.length
 | [] => by simp [DN]
 | x :: a => by
  have := NC (th := th) (A := A) (b := b) a
  have := Lu (th := th) (A := A) (x := x) (DN th A b a).2
  simp only [DN, List.length_cons]; omega
theorem J6 {th : BY} {A : List Tm} : ∀ l : List Ch, (DE th A l).2.length = l.length
 | [] => rfl
 | x :: l => by simp [DE, J6 l]
end Go.Eu
namespace Go.Eu
theorem XD {a b : Int} {x y : Bool} (h : (a == b && x == y) = true) : a = b ∧ x = y := by simpa using h
theorem XQ {a b : Int} {x y : Bool} (h1 : ¬ a < b) (h : (a == b && x == y) = false) : ¬ (a < b ∨ (a = b ∧ x = y)) := by
 rintro (h2 | ⟨rfl, rfl⟩)
 ·exact h1 h2
 simp at h
end Go.Eu
namespace Go.Eu
open Go.Abs
theorem HE {th : BY} {A : List Tm} : ∀ (n : Nat) (t : Tm), (B0 th A n t).2.length ≤ (DL th n t).length
 | 0, t => by simp [B0]
 | n + 1, t => by
  unfold B0 DL
  split
  ·have h1 := HE (th := th) (A := A) n ((DU th t).2.getD 0 Be)
   have h2 := HE (th := th) (A := A) n ((DU th t).2.getD 1 Be)
   have := NC (th := th) (A := A) (b := (B0 th A n ((DU th t).2.getD 1 Be)).2) (B0 th A n ((DU th t).2.getD 0 Be)).2
   simp only [List.length_append]; omega
  split
  ·simp
  split
  ·have h1 := HE (th := th) (A := A) n ((DU th t).2.getD 0 Be)
   simp only [J6]; exact h1
  simp
theorem IP {th : BY} {A : List Tm} : ∀ (n : Nat) (t : Tm), (∀ a ∈ DL th n t, a ∈ A) → ∀ y ∈ (B0 th A n t).2, HM A y
 | 0, t, _ => by intro y hy; simp [B0] at hy
 | n + 1, t, h => by
  unfold DL at h
  unfold B0
  split
  ·rename_i ho
   rw [if_pos ho] at h
   exact PG (IP n _ fun a ha => h a (List.mem_append_right _ ha)) _ (IP n _ fun a ha => h a (List.mem_append_left _ ha))
  rename_i ho
  rw [if_neg ho] at h
  split
  ·intro y hy; simp at hy
  rename_i ho2
  rw [if_neg ho2] at h
  split
  ·rename_i ho3
   rw [if_pos ho3] at h
   exact QO _ (IP n _ h)
  rename_i ho3
  rw [if_neg ho3] at h
  intro y hy
  simp only [List.mem_singleton] at hy
  subst hy
  have := Fy (h t Ax)
  exact ⟨by simp, by simpa using this.1⟩
section
variable {th : BY} {A : List Tm} {n : Nat} {t x y : Tm}
theorem TT (h : (DU th t).1 = 1) (hx : (DU th t).2[0]? = some x) (hy : (DU th t).2[1]? = some y) : B0 th A (n + 1) t = (Cx th (Fx th (B0 th A n x).1 (B0 th A n y).1) [(DN th A (B0 th A n y).2 (B0 th A n x).2).1], (DN th A (B0 th A n y).2 (B0 th A n x).2).2) := by
 rw [B0, if_pos h, DD hx, DD hy]
theorem SU (h : (DU th t).1 = 2) : B0 th A (n + 1) t = (Dp th t, []) := by
 rw [B0, if_neg (by rw [h]; decide), if_pos h]
theorem To (h : (DU th t).1 = 3) (hx : (DU th t).2[0]? = some x) : B0 th A (n + 1) t = (Cx th (Dj th (Bh th.neg []) (B0 th A n x).1) [(DE th A (B0 th A n x).2).1], (DE th A (B0 th A n x).2).2) := by
 rw [B0, if_neg (by rw [h]; decide), if_neg (by rw [h]; decide), if_pos h, DD hx]
theorem R7 (h : (DU th t).1 = 0) : B0 th A (n + 1) t = (Cx th (G6 th (JQ th t)) [Hr th (Bh th.zero []) t], [⟨(DA A t : Int), false⟩]) := by
 rw [B0, if_neg (by rw [h]; decide), if_neg (by rw [h]; decide), if_neg (by rw [h]; decide)]
theorem VC (h : (DU th t).1 = 1) (hx : (DU th t).2[0]? = some x) (hy : (DU th t).2[1]? = some y) : DL th (n + 1) t = DL th n x ++ DL th n y := by
 rw [DL, if_pos h, DD hx, DD hy]
theorem U6 (h : (DU th t).1 = 3) (hx : (DU th t).2[0]? = some x) : DL th (n + 1) t = DL th n x := by
 rw [DL, if_neg (by rw [h]; decide), if_neg (by rw [h]; decide), if_pos h, DD hx]
theorem Tj (h : (DU th t).1 = 0) : DL th (n + 1) t = [t] := by
 rw [DL, if_neg (by rw [h]; decide), if_neg (by rw [h]; decide), if_neg (by rw [h]; decide)]
end
theorem C1 {α : Type} (a : α) : [a].Nodup := by simp
theorem NA {p c m : Nat} {ps cs : List AV} {es : List (PV × AV)} {GL : List (Nat × Obj)} (h : ps.length ≠ cs.length) : [Bc.box p ps, .box c cs, .map m es, .glob GL].Nodup := by
 simp; rintro rfl rfl; exact h rfl
theorem W6 {c m : Nat} {cs : List AV} {es : List (PV × AV)} {GL : List (Nat × Obj)} : [Bc.box c cs, .map m es, .glob GL].Nodup := by simp
end Go.Eu
namespace Go.Eu
theorem SA {th : BY} {A : List Tm} {x : Ch} {a b : List Ch} {q : G2 × List Ch} (h0 : a[0]? = some x) (hq : DN th A b (a.drop 1) = q) : DN th A b a = (Cx th (EZ th (Cr th A x) (Bk th A (a.drop 1)) (Bk th A b)) [Dj th (Bh th.add [Cr th A x]) q.1, (Ct th A x q.2).1], (Ct th A x q.2).2) := by
 subst hq; exact Te h0
theorem MH {th : BY} {A : List Tm} {x : Ch} {l : List Ch} {q : G2 × List Ch} (h0 : l[0]? = some x) (hq : DE th A (l.drop 1) = q) : DE th A l = (Cx th (FM th 4 (Cu th (Ce th (Cr th A x) (Bk th A (l.drop 1)))) (Ce th (Cu th (Cr th A x)) (Cu th (Bk th A (l.drop 1)))) [Cr th A x, Bk th A (l.drop 1)]) [Fx th (JI th A x) q.1], ⟨x.place, !x.minus⟩ :: q.2) := by
 subst hq; exact Rt h0
end Go.Eu
namespace Go.Eu
open Go.Abs
def RQ (n : ByteArray) : ByteArray := n ++ ⟨#[46, 114, 101, 99]⟩
def Ia (i p : Int) : List KH → Int → List (ByteArray × G8)
 | [], _ => []
 | c :: cs, k => (c.name, ⟨4, i, k, p, c.type⟩) :: Ia i p cs (k + 1)
def Ln (i p : Int) : List KI → Int → List (ByteArray × G8)
 | [], _ => []
 | c :: cs, k => (c.name, ⟨6, i, k, p, c.type⟩) :: Ln i p cs (k + 1)
def FA (d : Dt) (i : Int) : List (ByteArray × G8) :=
 if d.kind = 0 ∨ d.kind = 1 ∨ d.kind = 2 then [(d.name, ⟨d.kind, i, 0, d.params, d.type⟩)]
 else if d.kind = 3 then (d.name, ⟨3, i, 0, d.params, d.type⟩) :: (Ia i d.params d.ctors 0 ++ [(RQ d.name, ⟨5, i, 0, d.recs.params, d.recs.type⟩)])
 else if d.kind = 4 then Ln i d.params d.funs 0
 else []
def C5 (nm : ByteArray) : List (ByteArray × G8) → Option G8
 | [] => none
 | (s, e) :: l => if s = nm then some e else C5 nm l
def findF (nm : ByteArray) : List Dt → Int → Option G8
 | [], _ => none
 | d :: ds, i => match C5 nm (FA d i) with
  | some e => some e
  | none => findF nm ds (i + 1)
def V9 : G8 := ⟨0, 0, 0, 0, Be⟩
def Ed (ds : List Dt) (nm : ByteArray) : G8 × Int := match findF nm ds 0 with
 | some e => (e, 0)
 | none => (V9, 9)
theorem Jy {nm : ByteArray} : ∀ {a b : List (ByteArray × G8)}, C5 nm (a ++ b) = match C5 nm a with
  | some e => some e
  | none => C5 nm b
 | [], b => rfl
 | (s, e) :: a, b => by
  simp only [List.cons_append, C5]
  split
  ·rfl
  exact Jy
section
variable {i p : Int} {nm : ByteArray}
theorem NO : ∀ {cs : List KH} {j : Nat} {c : KH} {k : Int}, cs[j]? = some c → c.name = nm → (∀ q, q < j → ∀ y, cs[q]? = some y → y.name ≠ nm) → C5 nm (Ia i p cs k) = some ⟨4, i, k + j, p, c.type⟩
 | [], j, c, k, h, _, _ => by simp at h
 | a :: cs, 0, c, k, h, hn, _ => by
  simp at h; subst h
  simp [Ia, C5, hn]
 | a :: cs, j + 1, c, k, h, hn, hb => by
  have h0 : a.name ≠ nm := hb 0 Aw a rfl
  rw [Ia, C5, if_neg h0, NO (by simpa using h) hn fun q hq y hy => hb (q + 1) Aw y (by simpa using hy)]
  congr 2
  omega
theorem L4 : ∀ {cs : List KH} {k : Int}, (∀ q : Nat, q < cs.length → ∀ y, cs[q]? = some y → y.name ≠ nm) → C5 nm (Ia i p cs k) = none
 | [], k, _ => rfl
 | a :: cs, k, hb => by
  have h0 : a.name ≠ nm := hb 0 Ax a rfl
  rw [Ia, C5, if_neg h0]
  exact L4 fun q hq y hy => hb (q + 1) (by simpa using hq) y (by simpa using hy)
theorem QN : ∀ {cs : List KH} {j : Nat} {c : KH} {k : Int}, cs[j]? = some c → (c.name, (⟨4, i, k + j, p, c.type⟩ : G8)) ∈ Ia i p cs k
 | [], j, c, k, h => by simp at h
 | a :: cs, 0, c, k, h => by simp at h; subst h; simp [Ia]
 | a :: cs, j + 1, c, k, h => by
  have := QN (k := k + 1) (show cs[j]? = some c by simpa using h)
  rw [Ia]
  refine List.mem_cons_of_mem _ ?_
  rwa [show k + 1 + (j : Int) = k + ((j + 1 : Nat) : Int) by omega] at this
theorem PW : ∀ {cs : List KI} {j : Nat} {c : KI} {k : Int}, cs[j]? = some c → c.name = nm → (∀ q, q < j → ∀ y, cs[q]? = some y → y.name ≠ nm) → C5 nm (Ln i p cs k) = some ⟨6, i, k + j, p, c.type⟩
 | [], j, c, k, h, _, _ => by simp at h
 | a :: cs, 0, c, k, h, hn, _ => by
  simp at h; subst h
  simp [Ln, C5, hn]
 | a :: cs, j + 1, c, k, h, hn, hb => by
  have h0 : a.name ≠ nm := hb 0 Aw a rfl
  rw [Ln, C5, if_neg h0, PW (by simpa using h) hn fun q hq y hy => hb (q + 1) Aw y (by simpa using hy)]
  congr 2
  omega
theorem M3 : ∀ {cs : List KI} {k : Int}, (∀ q : Nat, q < cs.length → ∀ y, cs[q]? = some y → y.name ≠ nm) → C5 nm (Ln i p cs k) = none
 | [], k, _ => rfl
 | a :: cs, k, hb => by
  have h0 : a.name ≠ nm := hb 0 Ax a rfl
  rw [Ln, C5, if_neg h0]
  exact M3 fun q hq y hy => hb (q + 1) (by simpa using hq) y (by simpa using hy)
theorem SN : ∀ {cs : List KI} {j : Nat} {c : KI} {k : Int}, cs[j]? = some c → (c.name, (⟨6, i, k + j, p, c.type⟩ : G8)) ∈ Ln i p cs k
 | [], j, c, k, h => by simp at h
 | a :: cs, 0, c, k, h => by simp at h; subst h; simp [Ln]
 | a :: cs, j + 1, c, k, h => by
  have := SN (k := k + 1) (show cs[j]? = some c by simpa using h)
  rw [Ln]
  refine List.mem_cons_of_mem _ ?_
  rwa [show k + 1 + (j : Int) = k + ((j + 1 : Nat) : Int) by omega] at this
end
def C8 (d : Dt) : List ByteArray :=
 if d.kind = 0 ∨ d.kind = 1 ∨ d.kind = 2 then [d.name]
 else if d.kind = 3 then d.name :: d.ctors.map KH.name ++ [RQ d.name]
 else if d.kind = 4 then d.funs.map KI.name
 else []
def Gi (l : List ByteArray) (s : ByteArray) : Bool := l.any fun x => decide (x = s)
theorem XN {l : List ByteArray} {s x : ByteArray} {i : Nat} (h : l[i]? = some x) (e : x = s) : Gi l s = true :=
 List.any_eq_true.2 ⟨x, List.mem_of_getElem? h, by simp [e]⟩
theorem Ve {l : List ByteArray} {s : ByteArray} (h : ∀ j, j < l.length → ∀ x, l[j]? = some x → x ≠ s) : Gi l s = false := by
 refine Bool.eq_false_iff.2 fun hb => ?_
 obtain ⟨x, hx, hq⟩ := List.any_eq_true.1 hb
 obtain ⟨j, hj⟩ := List.mem_iff_getElem?.1 hx
 exact h j (List.getElem?_eq_some_iff.1 hj).1 x hj (by simpa using hq)
def MP (nm : ByteArray) (i p : Int) (o : G8) : List KH → Int → G8
 | [], _ => o
 | c :: cs, k => if c.name = nm then ⟨4, i, k, p, c.type⟩ else MP nm i p o cs (k + 1)
def VP (nm : ByteArray) (i p : Int) (o : G8) : List KI → Int → G8
 | [], _ => o
 | c :: cs, k => if c.name = nm then ⟨6, i, k, p, c.type⟩ else VP nm i p o cs (k + 1)
def FK (d : Dt) (i : Int) (nm : ByteArray) : G8 :=
 if d.kind = 0 ∨ d.kind = 1 ∨ d.kind = 2 then ⟨d.kind, i, 0, d.params, d.type⟩
 else if d.kind = 3 then (if nm = d.name then ⟨3, i, 0, d.params, d.type⟩ else MP nm i d.params ⟨5, i, 0, d.recs.params, d.recs.type⟩ d.ctors 0)
 else VP nm i d.params ⟨0, i, 0, d.params, d.type⟩ d.funs 0
theorem MC {nm : ByteArray} {i p : Int} {o : G8} : ∀ {cs : List KH} {k : Int}, MP nm i p o cs k = (C5 nm (Ia i p cs k)).getD o
 | [], k => rfl
 | c :: cs, k => by
  rw [MP, Ia, C5]
  split
  ·rfl
  exact MC
theorem Nx {nm : ByteArray} {i p : Int} {o : G8} : ∀ {cs : List KI} {k : Int}, VP nm i p o cs k = (C5 nm (Ln i p cs k)).getD o
 | [], k => rfl
 | c :: cs, k => by
  rw [VP, Ln, C5]
  split
  ·rfl
  exact Nx
theorem NX {nm : ByteArray} {i p : Int} : ∀ {cs : List KH} {k : Int}, (C5 nm (Ia i p cs k)).isSome = Gi (cs.map KH.name) nm
 | [], k => rfl
 | c :: cs, k => by
  rw [Ia, C5]
  split
  ·rename_i h; simp [Gi, h]
  rename_i h; rw [NX]; simp [Gi, h]
theorem O2 {nm : ByteArray} {i p : Int} : ∀ {cs : List KI} {k : Int}, (C5 nm (Ln i p cs k)).isSome = Gi (cs.map KI.name) nm
 | [], k => rfl
 | c :: cs, k => by
  rw [Ln, C5]
  split
  ·rename_i h; simp [Gi, h]
  rename_i h; rw [O2]; simp [Gi, h]
theorem XI {a b : List ByteArray} {s : ByteArray} : Gi (a ++ b) s = (Gi a s || Gi b s) := List.any_append
theorem I0 (d : Dt) (i : Int) (nm : ByteArray) : C5 nm (FA d i) = if Gi (C8 d) nm = true then some (FK d i nm) else none := by
 unfold FA C8 FK
 by_cases h : d.kind = 0 ∨ d.kind = 1 ∨ d.kind = 2
 ·simp only [if_pos h, C5]
  by_cases e : d.name = nm <;> simp [Gi, e]
 simp only [if_neg h]
 by_cases h3 : d.kind = 3
 ·simp only [if_pos h3, C5, Jy, List.cons_append]
  by_cases e : d.name = nm
  ·simp [Gi, e]
  have e' : ¬ nm = d.name := fun q => e q.symm
  rw [if_neg e, if_neg e', MC]
  have hn := NX (nm := nm) (i := i) (p := d.params) (cs := d.ctors) (k := 0)
  have hh : Gi (d.name :: (d.ctors.map KH.name ++ [RQ d.name])) nm = (Gi (d.ctors.map KH.name) nm || Gi [RQ d.name] nm) := by
   rw [← XI]; simp [Gi, e]
  rw [hh, ← hn]
  cases hf : C5 nm (Ia i d.params d.ctors 0) with
  | some x => simp
  | none =>
   by_cases e2 : RQ d.name = nm <;> simp [Gi, e2]
 simp only [if_neg h3]
 by_cases h4 : d.kind = 4
 ·simp only [if_pos h4]
  rw [Nx, ← O2 (i := i) (p := d.params) (k := 0)]
  cases hf : C5 nm (Ln i d.params d.funs 0) <;> simp
 simp [h4, C5, Gi]
structure NT where
 env : List Dt
 own : List ByteArray
 d : Dt
def F4 (s : NT) : List PV := .lst (s.env.map Ci) :: .lst (s.own.map CZ) :: Ci s.d
theorem Qn (s : NT) : (F4 s).length = 25 := by simp [F4, D2]
theorem Yn (s : NT) : Dg 25 (F4 s) := Ck Ax (Ck Ax (TD _))
theorem Yh (m : NT) : ((F4 m).map AV.p).all one = true := Ef (Yn m)
structure Ss (t : Tm) : Prop where
 nd : Nd t
 sz : size t < 1000000
mutual
def JT : Lw → Prop
 | .mk k b v l => Ss b ∧ l.length < 2000000 ∧ PN l
def Qr : LR → Prop
 | .mk c a t => c.size < 2000000 ∧ JT t
def PN : List LR → Prop
 | [] => True
 | b :: l => Qr b ∧ PN l
end
mutual
def KF : Lw → Nat
 | .mk k b v l => 1 + Rv l
def WZ : LR → Nat
 | .mk c a t => KF t
def Rv : List LR → Nat
 | [] => 0
 | b :: l => WZ b + 1 + Rv l
end
theorem Im : ∀ {l : List LR} {i : Nat} {b : LR}, PN l → l[i]? = some b → Qr b
 | [], i, b, _, h => by simp at h
 | a :: l, 0, b, hn, h => by simp at h; subst h; exact hn.1
 | a :: l, i + 1, b, hn, h => by simp at h; exact Im hn.2 h
theorem QR : ∀ {l : List LR} {i : Nat} {b : LR}, l[i]? = some b → WZ b < Rv l
 | [], i, b, h => by simp at h
 | a :: l, 0, b, h => by simp at h; subst h; simp only [Rv]; omega
 | a :: l, i + 1, b, h => by
  have := QR (show l[i]? = some b by simpa using h)
  simp only [Rv]
  omega
structure Ws (c : KH) : Prop where
 nm : c.name.size < 2000000
 ty : Ss c.type
structure WG (f : KI) : Prop where
 nm : f.name.size < 2000000
 ty : Ss f.type
 tr : JT f.tree
structure Rl (d : Dt) : Prop where
 nm : d.name.size < 2000000
 ty : Ss d.type
 vl : Ss d.value
 cl : d.ctors.length < 2000000
 cs : ∀ c ∈ d.ctors, Ws c
 rt : Ss d.recs.type
 rl : d.recs.rules.length < 2000000
 rs : ∀ t ∈ d.recs.rules, Ss t
 fl : d.funs.length < 2000000
 fs : ∀ f ∈ d.funs, WG f
structure IB (ds : List Dt) : Prop where
 len : ds.length < 2000000
 all : ∀ d ∈ ds, Rl d
theorem IB.take {ds : List Dt} (h : IB ds) (n : Nat) : IB (ds.take n) :=
 ⟨by have := h.len; simp; omega, fun d hd => h.all d (List.mem_of_mem_take hd)⟩
theorem UF {nm : ByteArray} : ∀ {ds : List Dt} {i : Nat} {k : Int} {d : Dt}, ds[i]? = some d → (∀ j, j < i → ∀ y, ds[j]? = some y → Gi (C8 y) nm = false) → Gi (C8 d) nm = true → findF nm ds k = some (FK d (k + i) nm)
 | [], i, k, d, h, _, _ => by simp at h
 | a :: ds, 0, k, d, h, _, hn => by
  simp at h; subst h
  rw [findF, I0, if_pos hn]
  simp
 | a :: ds, i + 1, k, d, h, hb, hn => by
  have h0 := hb 0 Aw a rfl
  rw [findF, I0, if_neg (by rw [h0]; decide)]
  simp only
  rw [UF (by simpa using h) (fun j hj y hy => hb (j + 1) Aw y (by simpa using hy)) hn]
  congr 2
  omega
theorem QH {nm : ByteArray} : ∀ {ds : List Dt} {k : Int}, (∀ j, j < ds.length → ∀ y, ds[j]? = some y → Gi (C8 y) nm = false) → findF nm ds k = none
 | [], k, _ => rfl
 | a :: ds, k, hb => by
  have h0 := hb 0 Ax a rfl
  rw [findF, I0, if_neg (by rw [h0]; decide)]
  simp only
  exact QH fun j hj y hy => hb (j + 1) (by simpa using hj) y (by simpa using hy)
theorem U0 (n : ByteArray) : (RQ n).size = n.size + 4 := by
 show (n ++ ⟨#[46, 114, 101, 99]⟩ : ByteArray).size = _
 rw [ByteArray.size_append]; rfl
theorem Ly (d : Dt) : (C8 d).length ≤ d.ctors.length + d.funs.length + 2 := by
 unfold C8
 split
 ·simp
 split
 ·simp
 split <;> simp <;> omega
section
variable {d : Dt} {i : Int} {nm : ByteArray}
theorem Li (h : d.kind = 0 ∨ d.kind = 1 ∨ d.kind = 2) {k : Int} (hk : d.kind = k) : FK d i nm = ⟨k, i, 0, d.params, d.type⟩ := by rw [FK, if_pos h, hk]
theorem VO (h : d.kind = 3) (hn : nm = d.name) : FK d i nm = ⟨3, i, 0, d.params, d.type⟩ := by rw [FK, if_neg Aw, if_pos h, if_pos hn]
theorem TK (h : d.kind = 3) (hn : ¬ nm = d.name) {j : Nat} {c : KH} (hc : d.ctors[j]? = some c) (he : c.name = nm) (hb : ∀ q, q < j → ∀ y, d.ctors[q]? = some y → y.name ≠ nm) : FK d i nm = ⟨4, i, j, d.params, c.type⟩ := by
 rw [FK, if_neg Aw, if_pos h, if_neg hn, MC, NO hc he hb, Int.zero_add]; rfl
theorem Uw (h : d.kind = 3) (hn : ¬ nm = d.name) (hb : ∀ q : Nat, q < d.ctors.length → ∀ y, d.ctors[q]? = some y → y.name ≠ nm) : FK d i nm = ⟨5, i, 0, d.recs.params, d.recs.type⟩ := by
 rw [FK, if_neg Aw, if_pos h, if_neg hn, MC, L4 hb]; rfl
theorem U4 (h : ¬ (d.kind = 0 ∨ d.kind = 1 ∨ d.kind = 2)) (h3 : ¬ d.kind = 3) {j : Nat} {c : KI} (hc : d.funs[j]? = some c) (he : c.name = nm) (hb : ∀ q, q < j → ∀ y, d.funs[q]? = some y → y.name ≠ nm) : FK d i nm = ⟨6, i, j, d.params, c.type⟩ := by
 rw [FK, if_neg h, if_neg h3, Nx, PW hc he hb, Int.zero_add]; rfl
theorem VY (h : ¬ (d.kind = 0 ∨ d.kind = 1 ∨ d.kind = 2)) (h3 : ¬ d.kind = 3) (hb : ∀ q : Nat, q < d.funs.length → ∀ y, d.funs[q]? = some y → y.name ≠ nm) : FK d i nm = ⟨0, i, 0, d.params, d.type⟩ := by
 rw [FK, if_neg h, if_neg h3, Nx, M3 hb]; rfl
end
theorem VN {ds : List Dt} {nm : ByteArray} {i : Nat} {d : Dt} (hx : ds[i]? = some d) (hb : ∀ j, j < i → ∀ y, ds[j]? = some y → Gi (C8 y) nm = false) (hn : Gi (C8 d) nm = true) : Ed ds nm = (FK d i nm, 0) := by
 rw [Ed, UF hx hb hn, Int.zero_add]
theorem TJ {ds : List Dt} {nm : ByteArray} (hb : ∀ j, j < ds.length → ∀ y, ds[j]? = some y → Gi (C8 y) nm = false) : Ed ds nm = (V9, 9) := by
 rw [Ed, QH hb]
theorem Ob {nm : ByteArray} {i p : Int} {o : G8} (ho : o.kind ≠ 4) : ∀ {cs : List KH} {k : Int}, (MP nm i p o cs k).kind = 4 → (MP nm i p o cs k).decl = i ∧ k ≤ (MP nm i p o cs k).item ∧ (MP nm i p o cs k).item < k + cs.length
 | [], k, h => absurd h ho
 | c :: cs, k, h => by
  unfold MP at h ⊢
  split at h
  ·rename_i hc
   rw [if_pos hc]
   exact ⟨Ay, Int.le_refl _, by simp only [List.length_cons]; omega⟩
  rename_i hc
  rw [if_neg hc]
  have := Ob ho h
  simp only [List.length_cons]
  exact ⟨this.1, by have := this.2.1; omega, by have := this.2.2; omega⟩
theorem QY {nm : ByteArray} {i p : Int} {o : G8} (ho : o.kind ≠ 4) : ∀ {cs : List KI} {k : Int}, (VP nm i p o cs k).kind ≠ 4
 | [], k => ho
 | c :: cs, k => by
  unfold VP
  split
  ·simp
  exact QY ho
theorem QE {nm : ByteArray} : ∀ {ds : List Dt} {k : Int} {e : G8}, findF nm ds k = some e → e.kind = 4 → ∃ (j : Nat) (d : Dt), e.decl = k + j ∧ ds[j]? = some d ∧ 0 ≤ e.item ∧ e.item < d.ctors.length
 | [], k, e, h, _ => by cases h
 | a :: ds, k, e, h, hk => by
  rw [findF, I0] at h
  by_cases hn : Gi (C8 a) nm = true
  ·rw [if_pos hn] at h
   simp only [Option.some.injEq] at h
   subst h
   refine ⟨0, a, ?_⟩
   unfold FK at hk ⊢
   split at hk
   ·rename_i q; exact absurd hk (by simp only; omega)
   rename_i q
   rw [if_neg q]
   split at hk
   ·rename_i q3
    rw [if_pos q3]
    split at hk
    ·cases hk
    rename_i qn
    rw [if_neg qn]
    have := Ob Ax hk
    exact ⟨by rw [this.1]; omega, rfl, this.2.1, by have := this.2.2; omega⟩
   exact absurd hk (QY Ax)
  rw [if_neg hn] at h
  simp only at h
  obtain ⟨j, d, h1, h2, h3⟩ := QE h hk
  exact ⟨j + 1, d, by omega, by simpa using h2, h3⟩
theorem TL {ds : List Dt} {nm : ByteArray} (h0 : (Ed ds nm).2 = 0) (hk : (Ed ds nm).1.kind = 4) : ∃ d, 0 ≤ (Ed ds nm).1.decl ∧ ds[(Ed ds nm).1.decl.toNat]? = some d ∧ 0 ≤ (Ed ds nm).1.item ∧ (Ed ds nm).1.item < d.ctors.length := by
 unfold Ed at h0 hk ⊢
 cases e : findF nm ds 0 with
 | none => rw [e] at h0; simp at h0
 | some x =>
  rw [e] at hk
  obtain ⟨j, d, h1, h2, h3, h4⟩ := QE e hk
  simp only
  exact ⟨d, by omega, by rw [h1]; simpa using h2, h3, h4⟩
end Go.Eu
namespace Go.Abs
section
variable {P : Program} {dst : Option Tmp} {ty : TypeId} {pos : String} {aft : Array Edge} {g : Option (Nat × Bool)} {ρ : Operand → AV} {H : List Bc} {x : Operand}
end
def At (cells : List PV) (o : Nat) (us : List PV) : Prop := ∃ rest, cells.drop o = us ++ rest
theorem At.front {us rest : List PV} : At (us ++ rest) 0 us := ⟨rest, rfl⟩
theorem At.all {us : List PV} : At us 0 us := ⟨[], by simp⟩
theorem At.one {c : PV} {rest : List PV} : At (c :: rest) 0 [c] := ⟨rest, rfl⟩
theorem At.cons {c : PV} {cells us : List PV} {o : Nat} (h : At cells o us) : At (c :: cells) (o + 1) us := h
theorem At.app {a cells us : List PV} {o n : Nat} (hn : a.length = n) (h : At cells o us) : At (a ++ cells) (n + o) us := by
 obtain ⟨rest, h⟩ := h
 exact ⟨rest, by rw [List.drop_append, ← hn, List.drop_of_length_le Aw]; simpa using h⟩
theorem At.sub {cells us vs : List PV} {o p : Nat} (h : At cells o us) (h' : At us p vs) (hp : p ≤ us.length) : At cells (o + p) vs := by
 obtain ⟨r, h⟩ := h
 obtain ⟨r', h'⟩ := h'
 exact ⟨r' ++ r, by rw [← List.drop_drop, h, List.drop_append_of_le_length hp, h', List.append_assoc]⟩
theorem At.drop {cells us : List PV} {a b : Nat} (h : At cells (a + b) us) : At (cells.drop a) b us := by
 unfold At at h ⊢
 rwa [List.drop_drop]
section
variable {P : Program} {dst : Option Tmp} {ty : TypeId} {pos : String} {aft : Array Edge} {g : Option (Nat × Bool)} {ρ : Operand → AV} {H : List Bc} {x : Operand} {T : TypeId} {b o i n : Nat} {cells us : List PV} {c : PV}
theorem Cl (hT : DY P T = some (true, n)) (hx : ρ x = .ptr b o) (hi : H[i]? = some (.box b (cells.map .p))) (ha : At cells o us) (hn : us.length = n) : Dw P ⟨dst, .load T x, ty, pos, aft, g⟩ ρ H (.agg (us.map .p)) H := by
 have e : ((cells.map AV.p).drop o).take n = us.map .p := by
  obtain ⟨rest, h⟩ := ha
  rw [← List.map_drop, h, List.map_append, List.take_left' (by rw [List.length_map, hn])]
 exact CB hT hx hi (by rw [e, List.length_map, hn]) (by rw [e])
theorem BJ (hT : DY P T = some (false, n)) (hx : ρ x = .ptr b o) (hi : H[i]? = some (.box b (cells.map .p))) (ha : At cells o [c]) : Dw P ⟨dst, .load T x, ty, pos, aft, g⟩ ρ H (.p c) H :=
 A9 hT hx hi (by
  obtain ⟨rest, h⟩ := ha
  have := congrArg (fun l : List PV => l[0]?) h
  simp only [List.getElem?_drop, Nat.add_zero, List.singleton_append, List.getElem?_cons_zero] at this
  simp [this])
theorem D4 (hT : DY P T = some (true, n)) (hx : ρ x = .ref (cells.drop o)) (ha : At cells o us) (hn : us.length = n) : Dw P ⟨dst, .load T x, ty, pos, aft, g⟩ ρ H (.agg (us.map .p)) H :=
 GS hT hx hn (by obtain ⟨rest, h⟩ := ha; rw [h]; exact List.take_left)
theorem EP (hT : DY P T = some (false, n)) (hx : ρ x = .ref (cells.drop o)) (ha : At cells o [c]) : Dw P ⟨dst, .load T x, ty, pos, aft, g⟩ ρ H (.p c) H := by
 obtain ⟨rest, h⟩ := ha
 exact CQ hT (hx.trans (congrArg AV.ref h))
variable {y : Operand}
theorem TI {a b : Bool} {T U : TypeId} (hu : P.underlying T = some .bool) (hx : ρ x = .p (.bool a)) (hy : ρ y = .p (.bool b)) : Dw P ⟨dst, .binOp .neq T x y U, ty, pos, aft, g⟩ ρ H (.p (.bool (a != b))) H :=
 Cd fun F w E hH hE => by
  have e1 := hE x Ai
  have e2 := hE y Ai
  rw [hx] at e1
  rw [hy] at e2
  simp only [Cc, Cg] at e1 e2
  refine ⟨.bool (a != b), ?_, by simp [Cc, Cg]⟩
  have hg : (eqGuard .neq T x y (.bool a) (.bool b)).run P w = .ok () w := by unfold eqGuard; rfl
  have hq : (Op.equal T (.bool a) (.bool b)).run P w = .ok (a == b) w := VI hu rfl
  simp [execOp, Sem.run_bind, hg, e1, e2, binOp, hq, bne]
theorem Di {bl : Bool} {cs vs ds : List AV} (hT : DY P T = some (bl, n + 1)) (hx : ρ x = .ptr b o) (hi : H[i]? = some (.box b cs)) (hy : EJ (ρ y) = some vs) (hn : vs.length = n + 1)
  (ho : Nat.ble (o + (n + 1)) cs.length = true) (h1 : vs.all one = true) (hd : splice cs o vs = ds) : Dw P ⟨dst, .store T x y, ty, pos, aft, g⟩ ρ H (.p .any) (H.set i (.box b ds)) := by
 subst hd
 exact Bm hT hx hi hy hn ho h1
end
theorem Rk {α : Type} {base T xs : List α} {is : List Nat} (hn : is.Nodup) (h : Ff base is xs) : (base ++ T).Perm (xs ++ (DT is 0 base ++ T)) := by
 rw [← List.append_assoc]; exact (DB hn h).append_right T
theorem P0 {α : Type} {base T xs rest : List α} {is : List Nat} (hn : is.Nodup) (h : Ff base is xs) (hd : DT is 0 base = rest) : (base ++ T).Perm (xs ++ (rest ++ T)) := by
 subst hd; exact Rk hn h
theorem KA {P : Program} {fn : Func} {R : D1 → List Bc → Prop} {S : CC} {Hs : List Bc} (h : KQ P fn S R [] .ret Hs) : ∀ U : List Nat, KQ P fn S R (U.map .mark) .ret (Hs ++ U.map .dfr)
 | [] => by simpa using h
 | d :: U => by
  refine ⟨Hs.length, by simp, ?_⟩
  have : (Hs ++ (d :: U).map Bc.dfr).eraseIdx Hs.length = Hs ++ U.map Bc.dfr := by
   rw [List.eraseIdx_append_of_length_le (Nat.le_refl _)]; simp
  rw [this]; exact KA h U
theorem Nk {P : Program} {fn : Func} {R : D1 → List Bc → Prop} {n : Nat} {τ : Nat → AV} (U : List Nat) {Hs : List Bc} (h : KQ P fn ⟨n, τ, Hs ++ U.map .dfr, U.map .mark⟩ R [] .ret Hs) : Wc P fn R .ret ⟨n, τ, Hs ++ U.map .dfr, U.map .mark⟩ :=
 KA h U
theorem Sc {P : Program} {l d i : Nat} {S : CC} {Q : DC → CC → Prop} {v : AV} {H' : List Bc} {L : L8} (H2 : List Bc) (h1 : H'[i]? = some (.loop l L)) (hs : L.state ≠ .busy) (hp : L.pending = none) (he : H'.eraseIdx i = H2) (h : Q .normal ⟨S.n, S.τ, H2, .mark d :: S.D⟩) : Qz P l d S Q (.val v) H' := by
 subst he; exact ⟨i, L, h1, hs, by rw [hp]; exact h⟩
theorem Tk {P : Program} {l d i : Nat} {S : CC} {Q : DC → CC → Prop} {v : AV} {H' : List Bc} {L : L8} (H2 : List Bc) (h1 : H'[i]? = some (.loop l L)) (hs : L.state ≠ .busy) (hp : L.pending = some .ret) (he : H'.eraseIdx i = H2) (h : Jd P none .ret ⟨S.n, S.τ, H2, .mark d :: S.D⟩ Q) : Qz P l d S Q (.val v) H' := by
 subst he; exact ⟨i, L, h1, hs, by rw [hp]; exact h⟩
abbrev BV := Nat × Nat × AV
inductive Ez where
 | val (v : AV)
 | skip
 | new (cs : List AV)
 | newv (sz : Nat) (rows : List (List PV))
 | rel (R : AV → Prop)
def Ez.v (b : BV) : Ez → AV
 | .val v => v
 | .skip => .tup []
 | .new _ => .ptr b.1 0
 | .newv _ rows => .vs (some b.1) rows.length b.2.1
 | .rel _ => b.2.2
def Ez.box (b : BV) : Ez → List Bc
 | .new cs => [.box b.1 cs]
 | .newv sz rows => [.vec (some b.1) sz rows b.2.1]
 | _ => []
def Ez.ok (b : BV) : Ez → Prop
 | .rel R => R b.2.2
 | _ => True
def Xm : List Ez → Prop
 | [] => True
 | .rel R :: r => (∃ v, R v) ∧ Xm r
 | _ :: r => Xm r
def XV (P : Program) (ops : Array Oper) (H₀ : List Bc) (o : Oper) (τ : Nat → AV) : Ez → Prop
 | .val v => DV ops ⟨0, τ, [], []⟩ o ∧ ∀ Bs, Dw P o (ev τ) (Bs ++ H₀) v (Bs ++ H₀)
 | .skip => ∃ j want d, o.guard = some (j, want) ∧ (ops[j]?).bind (·.dst) = some d ∧ Xq (τ d) want
 | .new cs => o.guard = none ∧ ∀ Bs, DZ P o (ev τ) (Bs ++ H₀) (Jn cs (Bs ++ H₀))
 | .newv sz rows => o.guard = none ∧ ∀ Bs, DZ P o (ev τ) (Bs ++ H₀) (KX sz rows (Bs ++ H₀))
 | .rel R => o.guard = none ∧ ∀ Bs, DZ P o (ev τ) (Bs ++ H₀) (Mr R (Bs ++ H₀))
def EV (P : Program) (ops : Array Oper) (H₀ : List Bc) : Nat → (Nat → AV) → List Ez → ((Nat → AV) → List Bc → Prop) → Prop
 | _, τ, [], K => K τ []
 | k, τ, e :: r, K => ∃ o, ops[k]? = some o ∧ XV P ops H₀ o τ e ∧ ∀ b, e.ok b → EV P ops H₀ (k + 1) (put τ o.dst (e.v b)) r (fun τ' Hs => K τ' (e.box b ++ Hs))
def HN (β : Nat → BV) : Nat → List Ez → List Sp
 | _, [] => []
 | k, e :: r => .free (e.v (β k)) :: HN β (k + 1) r
def Yk (β : Nat → BV) : Nat → List Ez → List Bc
 | _, [] => []
 | k, e :: r => e.box (β k) ++ Yk β (k + 1) r
def RA (β : Nat → BV) (l : Nat → Bool) : Nat → List Ez → List Bc
 | _, [] => []
 | k, e :: r => (if l k = true then e.box (β k) else []) ++ RA β l (k + 1) r
theorem N1 (β : Nat → BV) : ∀ (r : List Ez) (k j : Nat), j < r.length → (HN β k r).getD j .skip = .free ((r.getD j .skip).v (β (k + j)))
 | [], k, j, h => by simp at h
 | e :: r, k, 0, h => by simp [HN]
 | e :: r, k, j + 1, h => by
  have := N1 β r (k + 1) j (by simpa using h)
  simp only [HN, List.getD_cons_succ]
  rw [this, show k + 1 + j = k + (j + 1) by omega]
theorem Uc (β : Nat → BV) : ∀ (r : List Ez) (k : Nat), (HN β k r).length = r.length
 | [], k => rfl
 | e :: r, k => by simp [HN, Uc β r (k + 1)]
theorem N9 (β : Nat → BV) {r : List Ez} {k j : Nat} (h : r.length ≤ j) : (HN β k r).getD j .skip = .skip := by
 rw [List.getD_eq_getElem?_getD, List.getElem?_eq_none (by rw [Uc]; exact h)]; rfl
theorem UN (β : Nat → BV) (r : List Ez) (k j : Nat) : ((HN β k r).getD j .skip).isEff = false := by
 rcases Nat.lt_or_ge j r.length with h | h
 ·rw [N1 β r k j h]; rfl
 rw [N9 β h]; rfl
theorem R2 (β : Nat → BV) (r : List Ez) (k j : Nat) (ob : List Bc) (v : AV) : (HN β k r).getD j .skip ≠ .read ob v := by
 rcases Nat.lt_or_ge j r.length with h | h
 ·rw [N1 β r k j h]; simp
 rw [N9 β h]; simp
theorem GR (β : Nat → BV) {r : List Ez} {j : Nat} (h : j < r.length) : ((HN β 0 r).getD j .skip).val = (r.getD j .skip).v (β j) := by
 rw [N1 β r 0 j h, Nat.zero_add]; rfl
theorem EV.facts {P : Program} {ops : Array Oper} {H₀ : List Bc} {τ : Nat → AV} {base : List Ez} (β : Nat → BV) : ∀ (r : List Ez) (k : Nat) (τk : Nat → AV) (K : (Nat → AV) → List Bc → Prop), base.drop k = r → k + r.length = base.length → τk = τS ops (HN β 0 base) τ k → EV P ops H₀ k τk r K → (∀ j, k ≤ j → j < base.length → (base.getD j .skip).ok (β j)) →
  (∀ j, k ≤ j → j < base.length → ∃ o, ops[j]? = some o ∧ XV P ops H₀ o (τS ops (HN β 0 base) τ j) (base.getD j .skip)) ∧ K (τS ops (HN β 0 base) τ base.length) (Yk β k r)
 | [], k, τk, K, hd, hk, ht, h, hβ => by
  simp only [List.length_nil, Nat.add_zero] at hk
  subst hk
  exact ⟨fun j h1 h2 => by omega, by rw [← ht]; exact h⟩
 | e :: r, k, τk, K, hd, hk, ht, h, hβ => by
  obtain ⟨o, ho, hok, hn⟩ := h
  simp only [List.length_cons] at hk
  have hb : base.getD k .skip = e := by
   have : (base.drop k)[0]? = some e := by rw [hd]; rfl
   rw [List.getElem?_drop] at this
   rw [List.getD_eq_getElem?_getD, show k = k + 0 by omega, this]; rfl
  have hd2 : base.drop (k + 1) = r := by
   rw [← List.drop_drop, hd]; rfl
  obtain ⟨h1, h2⟩ := EV.facts (τ := τ) (base := base) β r (k + 1) _ _ hd2 Aw (by simp only [τS, ho, Option.bind_some]; rw [GR β Aw, hb, ← ht]) (hn (β k) (by have := hβ k (Nat.le_refl _) Aw; rwa [hb] at this)) (fun j h1 h2 => hβ j Aw h2)
  refine ⟨fun j hj hl => ?_, h2⟩
  by_cases e2 : j = k
  ·subst e2; exact ⟨o, ho, by rw [hb, ← ht]; exact hok⟩
  exact h1 j Aw hl
theorem K0 {β β' : Nat → BV} {l l' : Nat → Bool} : ∀ (r : List Ez) (k : Nat), (∀ j, k ≤ j → l j = l' j ∧ (l j = true → β j = β' j)) → RA β l k r = RA β' l' k r
 | [], k, h => rfl
 | e :: r, k, h => by
  simp only [RA]
  obtain ⟨h1, h2⟩ := h k (Nat.le_refl _)
  rw [K0 r (k + 1) fun j hj => h j Aw, ← h1]
  cases hl : l k
  ·rfl
  rw [h2 hl]
theorem RX {β : Nat → BV} {l : Nat → Bool} {i : Nat} {b : BV} (hi : l i = false) : ∀ (r : List Ez) (k : Nat), k ≤ i → i < k + r.length → ((r.getD (i - k) .skip).box b ++ RA β l k r).Perm (RA (fun j => if j = i then b else β j) (fun j => l j || j == i) k r)
 | [], k, h1, h2 => by simp at h2; omega
 | e :: r, k, h1, h2 => by
  simp only [RA]
  by_cases hk : k = i
  ·subst hk
   simp only [hi, Bool.false_eq_true, if_false, List.nil_append, Nat.sub_self, List.getD_cons_zero, beq_self_eq_true, Bool.or_true, if_true]
   rw [K0 (β' := fun j => if j = k then b else β j) (l' := fun j => l j || j == k) r (k + 1) fun j hj => ⟨by simp [show (j == k) = false by simp; omega], fun _ => by rw [if_neg Aw]⟩]
  have hp := RX (β := β) hi r (k + 1) (b := b) Aw (by simp only [List.length_cons] at h2; omega)
  have e1 : (e :: r).getD (i - k) .skip = r.getD (i - (k + 1)) .skip := by
   rw [show i - k = (i - (k + 1)) + 1 by omega]; rfl
  have e2 : (if (l k || k == i) = true then e.box (if k = i then b else β k) else []) = (if l k = true then e.box (β k) else []) := by
   rw [if_neg hk]
   simp [hk]
  rw [e1, e2]
  refine List.Perm.trans ?_ (hp.append_left _)
  rw [← List.append_assoc, ← List.append_assoc]
  exact List.perm_append_comm.append_right _
theorem Qx {β : Nat → BV} {l : Nat → Bool} : ∀ (r : List Ez) (k : Nat), (∀ j, k ≤ j → j < k + r.length → l j = true) → RA β l k r = Yk β k r
 | [], k, h => rfl
 | e :: r, k, h => by
  simp only [RA, Yk]
  rw [if_pos (h k (Nat.le_refl _) Ax), Qx r (k + 1) fun j h1 h2 => h j Aw AX]
theorem Of {β : Nat → BV} {l : Nat → Bool} : ∀ (r : List Ez) (k : Nat), (∀ j, l j = false) → RA β l k r = []
 | [], k, h => rfl
 | e :: r, k, h => by simp only [RA]; rw [Of r (k + 1) h, h k]; rfl
theorem Xm.pick : ∀ (l : List Ez), Xm l → ∃ β : Nat → BV, ∀ j, j < l.length → (l.getD j .skip).ok (β j)
 | [], _ => ⟨fun _ => (0, 0, .p .any), fun j h => by simp at h⟩
 | e :: r, h => by
  have h2 : Xm r ∧ ∃ b, e.ok b := by
   cases e with
   | rel R => exact ⟨h.2, let ⟨v, hv⟩ := h.1; ⟨(0, 0, v), hv⟩⟩
   | _ => exact ⟨h, (0, 0, .p .any), trivial⟩
  obtain ⟨β, hβ⟩ := Xm.pick r h2.1
  obtain ⟨b, hb⟩ := h2.2
  refine ⟨fun j => match j with | 0 => b | j + 1 => β j, fun j hj => ?_⟩
  cases j with
  | zero => exact hb
  | succ j => exact hβ j (by simpa using hj)
theorem Y7 {P : Program} {r : Option Nat} {ops : Array Oper} {id n : Nat} {τ : Nat → AV} {H : List Bc} {D : List Eb} {Q : DC → CC → Prop} (base : List Ez) (hm : P.follows .mixedOrders = true)
  (he : Nat.ble base.length ops.size = true) (chk : Oo ops n [] = true) (late : WV ops base.length = true) (hne : Xm base) (h : EV P ops H 0 τ base (fun τ' Hs => AL P r ops base.length ⟨n, τ', Hs ++ H, D⟩ Q)) : Jd P r (.region id ops true) ⟨n, τ, H, D⟩ Q := by
 intro F₀ a₀ w₀ hs₀
 rw [Nat.ble_eq] at he
 refine wpIn_region_any hm ?_
 have same : DW F₀ w₀ F₀ { w₀ with drawn := w₀.drawn + 1 } := ⟨Nat.le_refl _, fun _ _ _ => rfl, fun _ h _ => h⟩
 have t₀ : Trans F₀ H w₀ F₀ H { w₀ with drawn := w₀.drawn + 1 } :=
  ⟨Nat.le_refl _, fun _ _ _ => rfl, fun _ h _ => h, fun _ h => .inl h, fun o ho b hb => .inl ⟨o, ho, hb⟩, rfl, rfl, rfl⟩
 have hs₁ : Dm F₀ ⟨n, τ, H, D⟩ a₀ { w₀ with drawn := w₀.drawn + 1 } :=
  ⟨hs₀.size, fun t => Cc.mono same _ _ (hs₀.tmp t), hs₀.heap.stable' same (fun _ h => h) (fun _ _ _ _ => rfl) hs₀.heap.bd, Fg.mono same _ _ hs₀.defs⟩
 obtain ⟨hdst, c0, c1, c2, _⟩ := LH chk
 have hd : ∀ β, Nn P ops n (fun _ => False) τ H (HN β 0 base) := fun β =>
  ⟨hdst, fun _ _ _ h => h.elim, c0, c1, c2, fun i k _ _ h _ => (by rw [UN] at h; cases h), fun i e ob v _ _ _ h _ _ => absurd h (R2 β base 0 i ob v)⟩
 have hE : ∀ β, (∀ j, j < base.length → (base.getD j .skip).ok (β j)) → (∀ j, j < base.length → ∃ o, ops[j]? = some o ∧ XV P ops H o (τS ops (HN β 0 base) τ j) (base.getD j .skip)) ∧ AL P r ops base.length ⟨n, τS ops (HN β 0 base) τ base.length, Yk β 0 base ++ H, D⟩ Q := fun β hβ => by
  obtain ⟨h1, h2⟩ := EV.facts (base := base) β base 0 τ _ Ax Ax rfl h (fun j _ h => hβ j h)
  exact ⟨fun j hj => h1 j (Nat.zero_le _) hj, h2⟩
 -- where all of the first part has been carried out, the rest goes in the order of the text
 have conv : ∀ {l : Array Bool} {a w β τ' F Hb}, (∀ j, j < base.length → (base.getD j .skip).ok (β j)) → (∀ j, j < base.length → l.getD j false = true) → (∀ k, base.length ≤ k → l.getD k false = false) → F3 ops (HN β 0 base) τ (fun i => l.getD i false = true) τ' → Hb.Perm (RA β (fun k => l.getD k false) 0 base) → Dm F ⟨n, τ', Hb ++ H, D⟩ a w → Trans F₀ H w₀ F (Hb ++ H) w →
   wpOpsIn (W r) 0 P ops (post F₀ H w₀ Q) (List.range' base.length (ops.size - base.length)) a w := by
  intro l a w β τ' F Hb hβ hall hno hτ hp hs ht
  have hτe : τ' = τS ops (HN β 0 base) τ base.length := by
   funext t
   have h2 := Kz (hd β) base.length he t
   by_cases hw : ∃ (k : Nat) (o' : Oper), ops[k]? = some o' ∧ o'.dst = some t ∧ k < base.length
   ·obtain ⟨k, o', ho', hk, hlt⟩ := hw
    rw [(hτ t).1 k o' ho' hk (hall k hlt), h2.1 k o' ho' hk hlt]
   have hw' : ∀ (k : Nat) o', ops[k]? = some o' → o'.dst = some t → ¬ k < base.length := fun k o' h1 h2 h3 => hw ⟨k, o', h1, h2, h3⟩
   rw [(hτ t).2 fun k o' h1 h2 h3 => (by have h4 : l.getD k false = true := h3; have := hno k (by have := hw' k o' h1 h2; omega); rw [this] at h4; cases h4), h2.2 fun k o' h1 h2 h3 => hw' k o' h1 h2 h3]
  rw [Qx base 0 fun j _ hj => hall j Aw] at hp
  have hp2 := hp.append_right H
  have := (hE β hβ).2 F a w (by rw [← hτe]; exact ⟨hs.size, hs.tmp, hs.heap.perm hp2, hs.defs⟩)
  refine EA (fun e a' w' hq => ?_) _ _ _ this
  exact GX hs₀.heap.bd { ht with keys := fun o ho => ht.keys o (hp2.mem_iff.2 ho) } hq
 refine K3 (I := fun l a w => l.size = ops.size ∧ ((∃ β τ' F Hb, (∀ j, j < base.length → (base.getD j .skip).ok (β j)) ∧ Down ops (fun i => l.getD i false = true) ∧ (∀ k, base.length ≤ k → l.getD k false = false) ∧ F3 ops (HN β 0 base) τ (fun i => l.getD i false = true) τ' ∧ Hb.Perm (RA β (fun k => l.getD k false) 0 base) ∧ Dm F ⟨n, τ', Hb ++ H, D⟩ a w ∧ Trans F₀ H w₀ F (Hb ++ H) w) ∨
  (∃ m, base.length ≤ m ∧ m ≤ ops.size ∧ (∀ k, k < ops.size → (l.getD k false = true ↔ k < m)) ∧ wpOpsIn (W r) 0 P ops (post F₀ H w₀ Q) (List.range' m (ops.size - m)) a w))) (fun l a w h => h.1) ?_ ?_ _ _ _ _ ?_ ?_
 ·rintro l a w ⟨hsz, hI⟩ i hi
  obtain ⟨hun, o, ho, hall⟩ := mem_ready.1 hi
  have hlt : i < ops.size := by
   rcases Nat.lt_or_ge i ops.size with h | h
   ·exact h
   simp [Array.getElem?_eq_none h] at ho
  have hil : i < l.size := by omega
  have hnot : l.getD i false = false := by
   have : l[i] = false := by simpa [hil] using hun
   simp [hil, this]
  have hr : ∀ j ∈ ET o, l.getD j false = true := by
   intro j hj
   simp only [ET, List.mem_map, List.mem_filter] at hj
   obtain ⟨e, ⟨he, hb⟩, rfl⟩ := hj
   exact hall e (by simpa using he) hb
  have hset : ∀ k, (l.setIfInBounds i true).getD k false = true ↔ (l.getD k false = true ∨ k = i) := by
   intro k
   by_cases hk : k = i
   ·subst hk; simp [hil]
   simp [Array.getElem?_setIfInBounds_ne (Ne.symm hk), hk]
  have hset2 : ∀ k, (l.setIfInBounds i true).getD k false = (l.getD k false || k == i) := by
   intro k
   by_cases hk : k = i
   ·subst hk; simp [hil]
   simp [Array.getElem?_setIfInBounds_ne (Ne.symm hk), hk]
  have hsz' : (l.setIfInBounds i true).size = ops.size := by simp [hsz]
  have goLate : ∀ m, i = m → base.length ≤ m → m ≤ ops.size → (∀ k, k < ops.size → (l.getD k false = true ↔ k < m)) → wpOpsIn (W r) 0 P ops (post F₀ H w₀ Q) (List.range' m (ops.size - m)) a w →
    wpOpIn (W r) 0 P ops (post F₀ H w₀ Q) i (fun a w => (l.setIfInBounds i true).size = ops.size ∧ ((∃ β τ' F Hb, (∀ j, j < base.length → (base.getD j .skip).ok (β j)) ∧ Down ops (fun k => (l.setIfInBounds i true).getD k false = true) ∧ (∀ k, base.length ≤ k → (l.setIfInBounds i true).getD k false = false) ∧ F3 ops (HN β 0 base) τ (fun k => (l.setIfInBounds i true).getD k false = true) τ' ∧ Hb.Perm (RA β (fun k => (l.setIfInBounds i true).getD k false) 0 base) ∧ Dm F ⟨n, τ', Hb ++ H, D⟩ a w ∧ Trans F₀ H w₀ F (Hb ++ H) w) ∨
     (∃ m, base.length ≤ m ∧ m ≤ ops.size ∧ (∀ k, k < ops.size → ((l.setIfInBounds i true).getD k false = true ↔ k < m)) ∧ wpOpsIn (W r) 0 P ops (post F₀ H w₀ Q) (List.range' m (ops.size - m)) a w))) a w := by
   intro m him h1 h2 h3 hw
   subst him
   rw [Jx hlt, wpOpsIn_cons] at hw
   refine wpOpIn_mono (fun a' w' h' => ⟨hsz', .inr ⟨i + 1, by omega, by omega, fun k hk => ?_, h'⟩⟩) hw
   rw [hset k, h3 k hk]
   omega
  rcases hI with ⟨β, τ', F, Hb, hβ, hdown, hno, hτ, hp, hs, ht⟩ | ⟨m, hm1, hm2, hm3, hw⟩
  ·rcases Nat.lt_or_ge i base.length with hib | hib
   ·-- of the first part
    obtain ⟨o', ho', hok⟩ := (hE β hβ).1 i hib
    rw [ho] at ho'; injection ho' with ho'; subst ho'
    have hlook : ∀ t ∈ looks ops o, τ' t = τS ops (HN β 0 base) τ i t := fun t ht => Ky (hd β) hdown hτ ho (by rw [hnot]; decide) hr ht
    have hops : ∀ x ∈ o.op.operands.toList, ev τ' x = ev (τS ops (HN β 0 base) τ i) x := by
     intro x hx
     cases x with
     | tmp t => exact hlook t (List.mem_append_left _ (List.mem_filterMap.2 ⟨.tmp t, hx, rfl⟩))
     | _ => rfl
    have hguard : ∀ j want d, o.guard = some (j, want) → (ops[j]?).bind (·.dst) = some d → τ' d = τS ops (HN β 0 base) τ i d := by
     intro j want d hg hj
     refine hlook d (List.mem_append_right _ ?_)
     simp [hg, hj]
    have hdown' : Down ops (fun k => (l.setIfInBounds i true).getD k false = true) := by
     intro k o' j ho' hk hj
     rcases (hset k).1 hk with h | h
     ·exact (hset j).2 (.inl (hdown k o' j ho' h hj))
     subst h; rw [ho] at ho'; injection ho' with ho'; subst ho'; exact (hset j).2 (.inl (hr j hj))
    have hno' : ∀ k, base.length ≤ k → (l.setIfInBounds i true).getD k false = false := by
     intro k hk
     rw [hset2 k, hno k hk]
     simp; omega
    generalize hbe : base.getD i .skip = e at hok
    have close : ∀ {a' w' F' b H'}, e.ok b → H' = e.box b ++ (Hb ++ H) → Dm F' ⟨n, put τ' o.dst (e.v b), H', D⟩ a' w' → Trans F (Hb ++ H) w F' H' w' →
      (l.setIfInBounds i true).size = ops.size ∧ ((∃ β τ' F Hb, (∀ j, j < base.length → (base.getD j .skip).ok (β j)) ∧ Down ops (fun k => (l.setIfInBounds i true).getD k false = true) ∧ (∀ k, base.length ≤ k → (l.setIfInBounds i true).getD k false = false) ∧ F3 ops (HN β 0 base) τ (fun k => (l.setIfInBounds i true).getD k false = true) τ' ∧ Hb.Perm (RA β (fun k => (l.setIfInBounds i true).getD k false) 0 base) ∧ Dm F ⟨n, τ', Hb ++ H, D⟩ a' w' ∧ Trans F₀ H w₀ F (Hb ++ H) w') ∨
       (∃ m, base.length ≤ m ∧ m ≤ ops.size ∧ (∀ k, k < ops.size → ((l.setIfInBounds i true).getD k false = true ↔ k < m)) ∧ wpOpsIn (W r) 0 P ops (post F₀ H w₀ Q) (List.range' m (ops.size - m)) a' w')) := by
     intro a' w' F' b H' hb0 hH h3 h4
     subst hH
     refine ⟨hsz', .inl ⟨fun j => if j = i then b else β j, put τ' o.dst (e.v b), F', e.box b ++ Hb, (fun j hj => by
      by_cases e3 : j = i
      ·subst e3; simp only [if_true]; rw [hbe]; exact hb0
      simp only [if_neg e3]; exact hβ j hj), hdown', hno', ?_, ?_, by rw [List.append_assoc]; exact h3, by rw [List.append_assoc]; exact ht.trans hs₀.heap.bd h4⟩⟩
     ·have hτ2 : F3 ops (HN (fun j => if j = i then b else β j) 0 base) τ (fun k => l.getD k false = true) τ' := by
       intro t
       refine ⟨fun k o' a1 a2 a3 => ?_, (hτ t).2⟩
       have a4 : l.getD k false = true := a3
       have hki : k ≠ i := fun e => by subst e; rw [hnot] at a4; cases a4
       rw [(hτ t).1 k o' a1 a2 a3]
       rcases Nat.lt_or_ge k base.length with hk | hk
       ·rw [GR _ hk, GR _ hk, if_neg hki]
       have := hno k hk; rw [this] at a4; cases a4
      have hτ3 := hτ2.put (hd _) ho
      rw [GR _ hib, if_pos rfl, hbe] at hτ3
      intro t
      exact ⟨fun k o' a1 a2 a3 => (hτ3 t).1 k o' a1 a2 ((hset k).1 a3), fun hn => (hτ3 t).2 fun k o' a1 a2 a3 => hn k o' a1 a2 ((hset k).2 a3)⟩
     have h1 := RX (β := β) (l := fun k => l.getD k false) (i := i) (b := b) hnot base 0 (Nat.zero_le _) Aw
     rw [Nat.sub_zero, hbe] at h1
     refine (hp.append_left _).trans (h1.trans (List.Perm.of_eq ?_))
     exact K0 base 0 fun j _ => ⟨(hset2 j).symm, fun _ => Ay⟩
    have wants : DV ops ⟨0, τS ops (HN β 0 base) τ i, [], []⟩ o → DV ops ⟨n, τ', Hb ++ H, D⟩ o := by
     intro h
     unfold DV at *
     cases hg : o.guard with
     | none => simp [hg]
     | some jw =>
      obtain ⟨j, want⟩ := jw
      simp only [hg] at h ⊢
      obtain ⟨d, h1, h2⟩ := h
      exact ⟨d, h1, by rw [← h2]; exact hguard j want d hg h1⟩
    have yields : DV ops ⟨n, τ', Hb ++ H, D⟩ o → DZ P o (ev (τS ops (HN β 0 base) τ i)) (Hb ++ H) (fun r H' => match r with | .val v => ∃ b, e.ok b ∧ v = e.v b ∧ H' = e.box b ++ (Hb ++ H) | .panic _ => False) → wpOpIn (W r) 0 P ops (post F₀ H w₀ Q) i (fun a' w' => (l.setIfInBounds i true).size = ops.size ∧ ((∃ β τ' F Hb, (∀ j, j < base.length → (base.getD j .skip).ok (β j)) ∧ Down ops (fun k => (l.setIfInBounds i true).getD k false = true) ∧ (∀ k, base.length ≤ k → (l.setIfInBounds i true).getD k false = false) ∧ F3 ops (HN β 0 base) τ (fun k => (l.setIfInBounds i true).getD k false = true) τ' ∧ Hb.Perm (RA β (fun k => (l.setIfInBounds i true).getD k false) 0 base) ∧ Dm F ⟨n, τ', Hb ++ H, D⟩ a' w' ∧ Trans F₀ H w₀ F (Hb ++ H) w') ∨
       (∃ m, base.length ≤ m ∧ m ≤ ops.size ∧ (∀ k, k < ops.size → ((l.setIfInBounds i true).getD k false = true ↔ k < m)) ∧ wpOpsIn (W r) 0 P ops (post F₀ H w₀ Q) (List.range' m (ops.size - m)) a' w'))) a w := by
     intro hwant hop
     unfold wpOpIn
     simp only [ho, IS hs hwant, if_true]
     have hw := hop r F _ a w hs rfl (fun x hx => hops x hx) (fun t ht => hdst i o t ho ht)
     unfold Oper.wpIn at *
     refine ⟨hw.1, ?_⟩
     replace hw := hw.2
     generalize (o.semAt (W r).round a.eval).run P w = rr at *
     cases rr with
     | ok nx w' =>
      cases nx <;> simp only [Oper.uponIn] at hw ⊢
      case value u => obtain ⟨v', H'', F', ⟨b, h0, h1, h2⟩, h3, h4⟩ := hw; subst h1; exact close h0 h2 h3 h4
      case skip => obtain ⟨v', H'', F', ⟨b, h0, h1, h2⟩, h3, h4⟩ := hw; subst h1; exact close h0 h2 h3 h4
      case defer d => obtain ⟨v', H'', F', ⟨b, h0, h1, h2⟩, h3, h4⟩ := hw; subst h1; exact close h0 h2 h3 h4
      case enter f args =>
       refine ⟨hw.1, hw.2.mono fun e w'' he => ?_⟩
       cases e with
       | returned u => obtain ⟨v', H'', F', ⟨b, h0, h1, h2⟩, h3, h4⟩ := he; subst h1; exact close h0 h2 h3 h4
       | panicked c => obtain ⟨_, _, _, _, h, _⟩ := he; exact h.elim
       | outgrown => obtain ⟨_, _, _, _, _, _, h, _⟩ := he; exact h.elim
      case row row args => exact ⟨hw.1, hw.2.mono fun u w'' h => by obtain ⟨v', H'', F', ⟨b, h0, h1, h2⟩, h3, h4⟩ := h; subst h1; exact close h0 h2 h3 h4⟩
      case round l' f tmps assign body =>
       refine ⟨hw.1, hw.2.mono fun e w'' he => ?_⟩
       cases e with
       | returned u => obtain ⟨v', H'', F', ⟨b, h0, h1, h2⟩, h3, h4⟩ := he; subst h1; exact close h0 h2 h3 h4
       | panicked c => obtain ⟨_, _, _, _, h, _⟩ := he; exact h.elim
       | outgrown => obtain ⟨_, _, _, _, _, _, h, _⟩ := he; exact h.elim
     | halt x w' =>
      cases x <;> simp only [Oper.uponIn] at hw ⊢
      case panic u => obtain ⟨_, _, _, _, h, _⟩ := hw; exact h.elim
    cases e with
    | val v => exact yields (wants hok.1) ((hok.2 Hb).mono (by
      intro r H' hR
      cases r with
      | val v' => obtain ⟨rfl, rfl⟩ := hR; exact ⟨(0, 0, .p .any), trivial, rfl, rfl⟩
      | panic v' => exact hR.elim))
    | new cs =>
     refine yields (by unfold DV; rw [hok.1]; trivial) ((hok.2 _).mono ?_)
     intro r H' hR
     cases r with
     | val v' => obtain ⟨b, rfl, rfl⟩ := hR; exact ⟨(b, 0, .p .any), trivial, rfl, rfl⟩
     | panic v' => exact hR.elim
    | newv sz rows =>
     refine yields (by unfold DV; rw [hok.1]; trivial) ((hok.2 _).mono ?_)
     intro r H' hR
     cases r with
     | val v' => obtain ⟨b, c, rfl, rfl⟩ := hR; exact ⟨(b, c, .p .any), trivial, rfl, rfl⟩
     | panic v' => exact hR.elim
    | rel R =>
     refine yields (by unfold DV; rw [hok.1]; trivial) ((hok.2 _).mono ?_)
     intro r H' hR
     cases r with
     | val v' => obtain ⟨h1, rfl⟩ := hR; exact ⟨(0, 0, v'), h1, rfl, rfl⟩
     | panic v' => exact hR.elim
    | skip =>
     obtain ⟨j, want, d, hg, hj, hb⟩ := hok
     have hw : Region.wanted o (yielded ops a.tmps) = false := KN (S := ⟨n, τ', Hb ++ H, D⟩) hs hg hj (by show Xq (τ' d) want; rw [hguard j want d hg hj]; exact hb)
     unfold wpOpIn
     simp only [ho, hw, Bool.false_eq_true, if_false]
     refine ⟨fun _ _ => trivial, close (b := (0, 0, .p .any)) trivial Ay ?_ .refl⟩
     exact hs.put (fun t ht => hdst i o t ho ht) ⟨Nat.le_refl _, fun _ _ _ => Ay, fun _ h _ => h⟩ hs.heap (by simp only [Ez.v, Cc, CF, undef]; exact ⟨[], rfl, rfl⟩)
   -- the first of the rest
   have hpre : ∀ j, j < i → l.getD j false = true := by
    intro j hj
    have hpi := J4 late hib hlt hj
    have : ∀ {a b}, Pred ops a b → b = i → l.getD a false = true := by
     intro a b hab
     induction hab with
     | base ho' hj => intro e; subst e; rw [ho] at ho'; injection ho' with ho'; subst ho'; exact hr _ hj
     | trans p1 _ _ ih2 => intro e; exact hdown.pred p1 (ih2 e)
    exact this hpi Ay
   have hie : i = base.length := by
    rcases Nat.lt_or_ge base.length i with h | h
    ·have h1 := hpre base.length h
     rw [hno base.length (Nat.le_refl _)] at h1
     cases h1
    omega
   refine goLate base.length hie (Nat.le_refl _) he (fun k hk => ⟨fun h => ?_, fun h => hpre k Aw⟩) (conv hβ (fun j hj => hpre j Aw) hno hτ hp hs ht)
   rcases Nat.lt_or_ge k base.length with h' | h'
   ·exact h'
   rw [hno k h'] at h; cases h
  have hmi : m ≤ i := by
   rcases Nat.lt_or_ge i m with h | h
   ·have := (hm3 i hlt).2 h; rw [hnot] at this; cases this
   exact h
  have him : i = m := by
   rcases Nat.lt_or_ge m i with h | h
   ·have hpi := J4 late (by omega : base.length ≤ i) hlt h
    have hdown : ∀ {a b}, Pred ops a b → b = i → l.getD a false = true := by
     intro a b hab
     induction hab with
     | base ho' hj => intro e; subst e; rw [ho] at ho'; injection ho' with ho'; subst ho'; exact hr _ hj
     | @trans a k b p1 p2 _ ih2 =>
      intro e
      have hk := ih2 e
      have hks : k < ops.size := by
       rcases Nat.lt_or_ge k ops.size with h | h
       ·exact h
       have : l.getD k false = false := by
        have : ¬ k < l.size := by omega
        simp [this]
       rw [this] at hk; cases hk
      have hkm := (hm3 k hks).1 hk
      have hak : a < k := Pred.lt (hd fun _ => (0, 0, .p .any)) p1
      exact (hm3 a Aw).2 Aw
    have := (hm3 m Aw).1 (hdown hpi rfl)
    omega
   omega
  exact goLate m him hm1 hm2 hm3 hw
 ·rintro l a w ⟨hsz, hI⟩ hr
  have hall : ∀ i, i < ops.size → l.getD i false = true := by
   intro i
   induction i using Nat.strongRecOn with
   | _ i ih =>
    intro hi
    cases hq : l.getD i false with
    | true => rfl
    | false =>
     have ho : ops[i]? = some ops[i] := Array.getElem?_eq_getElem hi
     have : i ∈ Region.ready .any ops l := by
      refine mem_ready.2 ⟨?_, ops[i], ho, ?_⟩
      ·have : i < l.size := by omega
       simp [this] at hq ⊢; exact hq
      intro e he hb
      have hj : e.on ∈ ET ops[i] := by
       simp only [ET, List.mem_map, List.mem_filter]
       exact ⟨e, ⟨by simpa using he, hb⟩, rfl⟩
      have hlt := c0 i _ _ ho hj
      exact ih e.on hlt Aw
     rw [hr] at this
     cases this
  rcases hI with ⟨β, τ', F, Hb, hβ, hdown, hno, hτ, hp, hs, ht⟩ | ⟨m, hm1, hm2, hm3, hw⟩
  ·have hbs : base.length = ops.size := by
    rcases Nat.lt_or_ge base.length ops.size with h | h
    ·have := hall base.length h; rw [hno base.length (Nat.le_refl _)] at this; cases this
    omega
   have := conv hβ (fun j hj => hall j Aw) hno hτ hp hs ht
   rw [hbs, Nat.sub_self] at this
   exact this
  have hms : m = ops.size := by
   rcases Nat.lt_or_ge m ops.size with h | h
   ·have := (hm3 m h).1 (hall m h); omega
   omega
  rw [hms, Nat.sub_self] at hw
  exact hw
 ·obtain ⟨β0, hβ0⟩ := Xm.pick base hne
  refine ⟨by simp, .inl ⟨β0, τ, F₀, [], hβ0, ?_, ?_, ?_, ?_, hs₁, t₀⟩⟩
  ·intro i o j ho hi
   by_cases h : i < ops.size <;> simp [h] at hi
  ·intro k _
   by_cases h : k < ops.size <;> simp [h]
  ·intro t
   refine ⟨fun k o ho hk hl => ?_, fun _ => Ay⟩
   by_cases h : k < ops.size <;> simp [h] at hl
  rw [Of base 0 fun j => by by_cases h : j < ops.size <;> simp [h]]
 have := List.length_filter_le (fun b : Bool => !b) (Array.replicate ops.size false).toList
 simp at this ⊢
section
variable {P : Program} {ops : Array Oper} {H₀ : List Bc} {k : Nat} {τ : Nat → AV} {r : List Ez} {K : (Nat → AV) → List Bc → Prop} {dst : Option Tmp} {op : Op} {ty : TypeId} {pos : String} {aft : Array Edge} {v : AV}
theorem B6 (ho : ops[k]? = some ⟨dst, op, ty, pos, aft, none⟩) (h : ∀ Bs, Dw P ⟨dst, op, ty, pos, aft, none⟩ (ev τ) (Bs ++ H₀) v (Bs ++ H₀)) (next : EV P ops H₀ (k + 1) (put τ dst v) r K) : EV P ops H₀ k τ (.val v :: r) K :=
 ⟨_, ho, ⟨trivial, h⟩, fun _ _ => next⟩
theorem Re {cs : List AV} (ho : ops[k]? = some ⟨dst, op, ty, pos, aft, none⟩) (h : ∀ Bs, DZ P ⟨dst, op, ty, pos, aft, none⟩ (ev τ) (Bs ++ H₀) (Jn cs (Bs ++ H₀))) (next : ∀ b, EV P ops H₀ (k + 1) (put τ dst (.ptr b 0)) r (fun τ' Hs => K τ' (.box b cs :: Hs))) : EV P ops H₀ k τ (.new cs :: r) K :=
 ⟨_, ho, ⟨rfl, h⟩, fun b _ => next b.1⟩
theorem Bw {R : AV → Prop} (ho : ops[k]? = some ⟨dst, op, ty, pos, aft, none⟩) (h : ∀ Bs, DZ P ⟨dst, op, ty, pos, aft, none⟩ (ev τ) (Bs ++ H₀) (Mr R (Bs ++ H₀))) (next : ∀ v, R v → EV P ops H₀ (k + 1) (put τ dst v) r K) : EV P ops H₀ k τ (.rel R :: r) K :=
 ⟨_, ho, ⟨rfl, h⟩, fun b hb => next b.2.2 hb⟩
theorem Tl (h : K τ []) : EV P ops H₀ k τ [] K := h
end
theorem DF {P : Program} {o : Oper} {ρ : Operand → AV} {H : List Bc} {v : AV} {R : AV → Prop} (h : Dw P o ρ H v H) (hv : R v) : DZ P o ρ H (Mr R H) :=
 DZ.mono h (by
  intro r H' hR
  cases r with
  | val v' => obtain ⟨rfl, rfl⟩ := hR; exact ⟨hv, rfl⟩
  | panic v' => exact hR.elim)
theorem Dm.putW {F : Nat → Prop} {S : CC} {d : Option Nat} {v v' : AV} {H : List Bc} {a : Act} {w : World} (h : Dm F (S.put d v H) a w) (hv : OP v v') : Dm F (S.put d v' H) a w :=
 ⟨h.size, fun t => by
  have := h.tmp t
  cases d with
  | none => exact this
  | some d =>
   have h3 : Cc F w (Abs.put S.τ (some d) v t) (a.tmps.getD t undef) := this
   show Cc F w (Abs.put S.τ (some d) v' t) (a.tmps.getD t undef)
   cases hb : Nat.beq t d
   ·have e (x : AV) : Abs.put S.τ (some d) x t = S.τ t := by simp only [Abs.put, hb, cond_false]
    rw [e] at h3 ⊢; exact h3
   have e (x : AV) : Abs.put S.τ (some d) x t = x := by simp only [Abs.put, hb, cond_true]
   rw [e] at h3 ⊢; exact hv _ _ _ h3, h.heap, h.defs⟩
theorem MA {P : Program} {o : Oper} {ρ : Operand → AV} {H H' : List Bc} {v : AV} (h : Dw P o ρ H v H') : Dw P o ρ H (norm v) H' := by
 intro r F S a w hs hH hρ hd
 have := h r F S a w hs hH hρ hd
 unfold Oper.wpIn at *
 refine ⟨this.1, ?_⟩
 replace this := this.2
 generalize (o.semAt (W r).round a.eval).run P w = rr at *
 cases rr with
 | ok n w' =>
  cases n <;> simp only [Oper.uponIn] at this ⊢
  case value u => obtain ⟨v1, H1, F1, ⟨e1, e2⟩, h2, h3⟩ := this; subst e1; subst e2; exact ⟨_, _, F1, ⟨rfl, rfl⟩, h2.putW (Cs rfl), h3⟩
  case skip => obtain ⟨v1, H1, F1, ⟨e1, e2⟩, h2, h3⟩ := this; subst e1; subst e2; exact ⟨_, _, F1, ⟨rfl, rfl⟩, h2.putW (Cs rfl), h3⟩
  case defer d => obtain ⟨v1, H1, F1, ⟨e1, e2⟩, h2, h3⟩ := this; subst e1; subst e2; exact ⟨_, _, F1, ⟨rfl, rfl⟩, h2.putW (Cs rfl), h3⟩
  case enter f args =>
   refine ⟨this.1, this.2.mono fun e w'' he => ?_⟩
   cases e with
   | returned u => obtain ⟨v1, H1, F1, ⟨e1, e2⟩, h2, h3⟩ := he; subst e1; subst e2; exact ⟨_, _, F1, ⟨rfl, rfl⟩, h2.putW (Cs rfl), h3⟩
   | panicked c => obtain ⟨_, _, _, _, h, _⟩ := he; exact h.elim
   | outgrown => obtain ⟨_, _, _, _, _, _, h, _⟩ := he; exact h.elim
  case row row args => exact ⟨this.1, this.2.mono fun u w'' he => by obtain ⟨v1, H1, F1, ⟨e1, e2⟩, h2, h3⟩ := he; subst e1; subst e2; exact ⟨_, _, F1, ⟨rfl, rfl⟩, h2.putW (Cs rfl), h3⟩⟩
  case round l f tmps assign body =>
   refine ⟨this.1, this.2.mono fun e w'' he => ?_⟩
   cases e with
   | returned u => obtain ⟨v1, H1, F1, ⟨e1, e2⟩, h2, h3⟩ := he; subst e1; subst e2; exact ⟨_, _, F1, ⟨rfl, rfl⟩, h2.putW (Cs rfl), h3⟩
   | panicked c => obtain ⟨_, _, _, _, h, _⟩ := he; exact h.elim
   | outgrown => obtain ⟨_, _, _, _, _, _, h, _⟩ := he; exact h.elim
 | halt x w' =>
  cases x <;> simp only [Oper.uponIn] at this ⊢
  case panic u => obtain ⟨_, _, _, _, h, _⟩ := this; exact h.elim
end Go.Abs
namespace Go.Eu
open Go.Abs
theorem Dl (x : Dt) : At (Ci x) 0 [I x.kind] := At.one
theorem Dz (x : Dt) : At (Ci x) 1 [.str x.name] := At.cons (At.one)
theorem C4 (x : Dt) : At (Ci x) 2 [I x.params] := At.cons (At.cons (At.one))
theorem F9 (x : Dt) : At (Ci x) 3 (Bu x.type) := At.cons (At.cons (At.cons (At.front)))
theorem GN (x : Dt) : At (Ci x) 8 (Bu x.value) := At.cons (At.cons (At.cons (At.app (Bd _) (At.front))))
theorem GM (x : Dt) : At (Ci x) 13 [I x.fixed] := At.cons (At.cons (At.cons (At.app (Bd _) (At.app (Bd _) (At.one)))))
theorem Cy (x : Dt) : At (Ci x) 14 [.lst (x.ctors.map IZ)] := At.cons (At.cons (At.cons (At.app (Bd _) (At.app (Bd _) (At.cons (At.one))))))
theorem Jo (x : Dt) : At (Ci x) 15 (Nw x.recs) := At.cons (At.cons (At.cons (At.app (Bd _) (At.app (Bd _) (At.cons (At.cons (At.front)))))))
theorem Cq (x : Dt) : At (Ci x) 22 [.lst (x.funs.map Kj)] := At.cons (At.cons (At.cons (At.app (Bd _) (At.app (Bd _) (At.cons (At.cons (At.app (Kw _) (At.one))))))))
theorem PT (x : ZK) : At (Nw x) 0 [I x.params] := At.one
theorem Q2 (x : ZK) : At (Nw x) 1 (Bu x.type) := At.cons (At.front)
theorem Pj (x : ZK) : At (Nw x) 6 [.lst (Bg x.rules)] := At.cons (At.app (Bd _) (At.one))
theorem II (x : KH) : At (IZ x) 0 [.str x.name] := At.one
theorem F8 (x : KH) : At (IZ x) 1 (Bu x.type) := At.cons (At.all)
theorem IG (x : KI) : At (Kj x) 0 [.str x.name] := At.one
theorem IK (x : KI) : At (Kj x) 1 (Bu x.type) := At.cons (At.front)
theorem I9 (x : KI) : At (Kj x) 6 [I x.arity] := At.cons (At.app (Bd _) (At.one))
theorem ML (x : KI) : At (Kj x) 7 (Ee x.tree) := At.cons (At.app (Bd _) (At.cons (At.all)))
theorem Jw (x : Lw) : At (Ee x) 0 [I x.kind] := by
 cases x
 exact At.one
theorem Gy (x : Lw) : At (Ee x) 1 (Bu x.body) := by
 cases x
 exact At.cons (At.front)
theorem Hl (x : Lw) : At (Ee x) 6 [I x.var] := by
 cases x
 exact At.cons (At.app (Bd _) (At.one))
theorem C3 (x : Lw) : At (Ee x) 7 [.lst (Ld x.branches)] := by
 cases x
 exact At.cons (At.app (Bd _) (At.cons (At.one)))
theorem IE (x : LR) : At (Gb x) 0 [.str x.ctor] := by
 cases x
 exact At.one
theorem Ip (x : LR) : At (Gb x) 1 [.bool x.absurd] := by
 cases x
 exact At.cons (At.one)
theorem Gk (x : LR) : At (Gb x) 2 (Ee x.tree) := by
 cases x
 exact At.cons (At.cons (At.all))
theorem RN (x : G8) : At (FL x) 0 [I x.kind] := At.one
theorem Q1 (x : G8) : At (FL x) 1 [I x.decl] := At.cons (At.one)
theorem RI (x : G8) : At (FL x) 2 [I x.item] := At.cons (At.cons (At.one))
theorem KK (x : G8) : At (FL x) 3 [I x.params] := At.cons (At.cons (At.cons (At.one)))
theorem Iw (x : NT) : At (F4 x) 0 [.lst (x.env.map Ci)] := At.one
theorem R0 (x : NT) : At (F4 x) 1 [.lst (x.own.map CZ)] := At.cons (At.one)
theorem QS (x : NT) : At (F4 x) 2 (Ci x.d) := At.cons (At.cons (At.all))
theorem DS (x : Dt) : At (Ci x) 15 [I x.recs.params] := (Jo x).sub (PT _) (by simp [Kw])
theorem Ek (x : Dt) : At (Ci x) 16 (Bu x.recs.type) := (Jo x).sub (Q2 _) (by simp [Kw])
theorem DO (x : Dt) : At (Ci x) 21 [.lst (Bg x.recs.rules)] := (Jo x).sub (Pj _) (by simp [Kw])
theorem _root_.Go.An {α : Prop} (h : α := by simp [D2]) : α := h
theorem NQ (x : NT) : At (F4 x) 4 [I x.d.params] := (QS x).sub (C4 _) An
theorem JT.body : ∀ {t : Lw}, JT t → Ss t.body
 | .mk _ _ _ _, h => h.1
theorem JT.bl : ∀ {t : Lw}, JT t → t.branches.length < 2000000
 | .mk _ _ _ _, h => h.2.1
theorem JT.bs : ∀ {t : Lw}, JT t → PN t.branches
 | .mk _ _ _ _, h => h.2.2
theorem Qr.tr : ∀ {b : LR}, Qr b → JT b.tree
 | .mk _ _ _, h => h.2
theorem O7 : ∀ {t : Lw} {i : Nat} {b : LR}, t.branches[i]? = some b → KF b.tree < KF t
 | .mk _ _ _ l, i, .mk c a t', h => by
  have := QR (l := l) h
  simp only [WZ] at this
  simp only [KF, LR.tree]
  omega
theorem NG : ∀ t : Lw, 1 ≤ KF t
 | .mk _ _ _ _ => by simp only [KF]; omega
section
variable {f : Nat → Option (Nat × Nat)} {k a i p : Int} {t : Tm}
theorem Vr (h1 : f 1 = some (1, 1)) (h3 : f 3 = some (3, 1)) (h4 : f 4 = some (4, 5)) : ES f [.p (I 0), .p (I 0), .p (I 0), .p (I 0), .p (I 0), .p (I 0), .p (.str ⟨#[]⟩), .p .nils, .p .nils] [(1, .p (I a)), (3, .p (I p)), (4, TV t)] = some ((FL ⟨0, a, 0, p, t⟩).map .p) := by
 obtain ⟨tk, ti, tn, tl, ts⟩ := t
 simp [ES, h1, h3, h4, EJ, splice, Bu, FL]
theorem Um (h0 : f 0 = some (0, 1)) (h1 : f 1 = some (1, 1)) (h3 : f 3 = some (3, 1)) (h4 : f 4 = some (4, 5)) : ES f [.p (I 0), .p (I 0), .p (I 0), .p (I 0), .p (I 0), .p (I 0), .p (.str ⟨#[]⟩), .p .nils, .p .nils] [(0, .p (I k)), (1, .p (I a)), (3, .p (I p)), (4, TV t)] = some ((FL ⟨k, a, 0, p, t⟩).map .p) := by
 obtain ⟨tk, ti, tn, tl, ts⟩ := t
 simp [ES, h0, h1, h3, h4, EJ, splice, Bu, FL]
theorem Mi (h0 : f 0 = some (0, 1)) (h1 : f 1 = some (1, 1)) (h2 : f 2 = some (2, 1)) (h3 : f 3 = some (3, 1)) (h4 : f 4 = some (4, 5)) : ES f [.p (I 0), .p (I 0), .p (I 0), .p (I 0), .p (I 0), .p (I 0), .p (.str ⟨#[]⟩), .p .nils, .p .nils] [(0, .p (I k)), (1, .p (I a)), (2, .p (I i)), (3, .p (I p)), (4, TV t)] = some ((FL ⟨k, a, i, p, t⟩).map .p) := by
 obtain ⟨tk, ti, tn, tl, ts⟩ := t
 simp [ES, h0, h1, h2, h3, h4, EJ, splice, Bu, FL]
theorem dB {c0 : AV} {r : List AV} {ds : List Dt} {d : Dt} (h0 : f 0 = some (0, 1)) (h2 : f 2 = some (2, 23)) (hr : r.length = 23) : ES f (c0 :: .p .nils :: r) [(0, .p (.lst (ds.map Ci))), (2, .agg ((Ci d).map .p))] = some (.p (.lst (ds.map Ci)) :: .p .nils :: (Ci d).map .p) := by
 simp [ES, h0, h2, EJ, D2, hr, ND, splice]
end
theorem Vz (ds : List Dt) (d : Dt) : norm (.agg (.p (.lst (ds.map Ci)) :: .p .nils :: (Ci d).map .p)) = .agg ((F4 ⟨ds, [], d⟩).map .p) := by
 have h : ((Ci d).map AV.p).map dn = (Ci d).map .p := by
  refine Wl ?_
  obtain ⟨k, n, p, ⟨_, _, _, _, _⟩, ⟨_, _, _, _, _⟩, f, c, ⟨_, ⟨_, _, _, _, _⟩, _⟩, u⟩ := d
  simp [Ci, Bu, Nw]
 show AV.agg (dn _ :: dn _ :: ((Ci d).map AV.p).map dn) = _
 rw [h]
 rfl
theorem WB {P : Program} {dst : Option Tmp} {ty : TypeId} {pos : String} {aft : Array Edge} {g : Option (Nat × Bool)} {ρ : Operand → AV} {H : List Bc} {T : TypeId} {parts : Array (Nat × Operand)} {lay : List (Nat × Nat)} {z : Value} {ds : List Dt} {d : Dt} (hT : fieldsOf P T = some lay) (hz : zeroOf P T = some z)
  (hc : ES (lay[·]?) (z.cells.toList.map G7) (parts.toList.map fun p => (p.1, ρ p.2)) = some (.p (.lst (ds.map Ci)) :: .p .nils :: (Ci d).map .p)) : Dw P ⟨dst, .build T parts, ty, pos, aft, g⟩ ρ H (.agg ((F4 ⟨ds, [], d⟩).map .p)) H := by
 rw [← Vz]
 exact MA (Bv hT hz hc)
theorem VX {d : Dt} (h : Rl d) {i : Nat} {x : ByteArray} (hx : (C8 d)[i]? = some x) : x.size < EB := by
 have hm := List.mem_of_getElem? hx
 have hr := U0 d.name
 have hn := h.nm
 unfold C8 at hm
 simp only [EB]
 split at hm
 ·simp at hm; subst hm; omega
 split at hm
 ·simp only [List.mem_append, List.mem_cons, List.mem_map, List.not_mem_nil, or_false] at hm
  rcases hm with (rfl | ⟨c, hc, rfl⟩) | rfl
  ·omega
  ·have := (h.cs c hc).nm; omega
  omega
 split at hm
 ·obtain ⟨f, hf, rfl⟩ := List.mem_map.1 hm
  have := (h.fs f hf).nm; omega
 simp at hm
theorem Ux {d : Dt} (h : d.kind = 3) : 1 ≤ (C8 d).length := by
 unfold C8
 rw [if_neg Aw, if_pos h]
 simp
def H9 (TA : G8 → List Bc) (T0 : List Bc) (nm : ByteArray) (l : List (ByteArray × G8)) : List Bc := match C5 nm l with
 | some e => TA e
 | none => T0
section
variable {TA : G8 → List Bc} {T0 : List Bc} {nm : ByteArray} {d : Dt} {i : Int} {j : Nat}
theorem Sw (h : d.kind = 0 ∨ d.kind = 1 ∨ d.kind = 2) : H9 TA T0 nm (FA d i) = if d.name = nm then TA ⟨d.kind, i, 0, d.params, d.type⟩ else T0 := by
 unfold H9 FA
 rw [if_pos h]
 simp only [C5]
 by_cases e : d.name = nm <;> simp [e]
theorem VD (h : d.kind = 3) (hn : d.name = nm) : H9 TA T0 nm (FA d i) = TA ⟨3, i, 0, d.params, d.type⟩ := by
 unfold H9 FA
 rw [if_neg Aw, if_pos h]
 simp only [C5, if_pos hn]
theorem Tb (h : d.kind = 3) (hn : ¬ d.name = nm) {c : KH} (hx : d.ctors[j]? = some c) (he : c.name = nm) (hb : ∀ q, q < j → ∀ y, d.ctors[q]? = some y → y.name ≠ nm) : H9 TA T0 nm (FA d i) = TA ⟨4, i, j, d.params, c.type⟩ := by
 unfold H9 FA
 rw [if_neg Aw, if_pos h]
 simp only [C5, if_neg hn, Jy, NO hx he hb, Int.zero_add]
theorem Ut (h : d.kind = 3) (hn : ¬ d.name = nm) (hb : ∀ q : Nat, q < d.ctors.length → ∀ y, d.ctors[q]? = some y → y.name ≠ nm) : H9 TA T0 nm (FA d i) = if RQ d.name = nm then TA ⟨5, i, 0, d.recs.params, d.recs.type⟩ else T0 := by
 unfold H9 FA
 rw [if_neg Aw, if_pos h]
 simp only [C5, if_neg hn, Jy, L4 hb]
 by_cases e : RQ d.name = nm <;> simp [e]
theorem VZ (h : d.kind = 4) {c : KI} (hx : d.funs[j]? = some c) (he : c.name = nm) (hb : ∀ q, q < j → ∀ y, d.funs[q]? = some y → y.name ≠ nm) : H9 TA T0 nm (FA d i) = TA ⟨6, i, j, d.params, c.type⟩ := by
 unfold H9 FA
 rw [if_neg Aw, if_neg Aw, if_pos h]
 simp only [PW hx he hb, Int.zero_add]
theorem Tq (h : d.kind = 4) (hb : ∀ q : Nat, q < d.funs.length → ∀ y, d.funs[q]? = some y → y.name ≠ nm) : H9 TA T0 nm (FA d i) = T0 := by
 unfold H9 FA
 rw [if_neg Aw, if_neg Aw, if_pos h]
 simp only [M3 hb]
theorem S5 (h : ¬ (d.kind = 0 ∨ d.kind = 1 ∨ d.kind = 2)) (h3 : ¬ d.kind = 3) (h4 : ¬ d.kind = 4) : H9 TA T0 nm (FA d i) = T0 := by
 unfold H9 FA
 rw [if_neg h, if_neg h3, if_neg h4]
 rfl
theorem XT (h : d.kind = 0 ∨ d.kind = 1 ∨ d.kind = 2) : (d.name, (⟨d.kind, i, 0, d.params, d.type⟩ : G8)) ∈ FA d i := by
 unfold FA; rw [if_pos h]; simp
theorem Xt (h : d.kind = 3) : (d.name, (⟨3, i, 0, d.params, d.type⟩ : G8)) ∈ FA d i := by
 unfold FA; rw [if_neg Aw, if_pos h]; simp
theorem Wz (h : d.kind = 3) {c : KH} (hx : d.ctors[j]? = some c) : (c.name, (⟨4, i, j, d.params, c.type⟩ : G8)) ∈ FA d i := by
 unfold FA; rw [if_neg Aw, if_pos h]
 have := QN (i := i) (p := d.params) (k := 0) hx
 rw [Int.zero_add] at this
 simp [this]
theorem Yv (h : d.kind = 3) : (RQ d.name, (⟨5, i, 0, d.recs.params, d.recs.type⟩ : G8)) ∈ FA d i := by
 unfold FA; rw [if_neg Aw, if_pos h]; simp
theorem Yt (h : d.kind = 4) {c : KI} (hx : d.funs[j]? = some c) : (c.name, (⟨6, i, j, d.params, c.type⟩ : G8)) ∈ FA d i := by
 unfold FA; rw [if_neg Aw, if_neg Aw, if_pos h]
 have := SN (i := i) (p := d.params) (k := 0) hx
 rwa [Int.zero_add] at this
end
theorem SY {nm : ByteArray} {e : G8} : ∀ {ds : List Dt} {i : Nat} {k : Int} {d : Dt}, ds[i]? = some d → (∀ j, j < i → ∀ y, ds[j]? = some y → C5 nm (FA y (k + j)) = none) → C5 nm (FA d (k + i)) = some e → findF nm ds k = some e
 | [], i, k, d, h, _, _ => by simp at h
 | a :: ds, 0, k, d, h, _, hn => by
  simp at h; subst h
  rw [findF]
  rw [show k + ((0 : Nat) : Int) = k by omega] at hn
  rw [hn]
 | a :: ds, i + 1, k, d, h, hb, hn => by
  have h0 := hb 0 Aw a rfl
  rw [show k + ((0 : Nat) : Int) = k by omega] at h0
  rw [findF, h0]
  exact SY (by simpa using h) (fun j hj y hy => by have := hb (j + 1) Aw y (by simpa using hy); rwa [show k + ((j + 1 : Nat) : Int) = k + 1 + j by omega] at this) (by rwa [show k + ((i + 1 : Nat) : Int) = k + 1 + i by omega] at hn)
theorem Rp {nm : ByteArray} : ∀ {ds : List Dt} {k : Int}, (∀ j, j < ds.length → ∀ y, ds[j]? = some y → C5 nm (FA y (k + j)) = none) → findF nm ds k = none
 | [], k, _ => rfl
 | a :: ds, k, hb => by
  have h0 := hb 0 Ax a rfl
  rw [show k + ((0 : Nat) : Int) = k by omega] at h0
  rw [findF, h0]
  exact Rp fun j hj y hy => by have := hb (j + 1) (by simpa using hj) y (by simpa using hy); rwa [show k + ((j + 1 : Nat) : Int) = k + 1 + j by omega] at this
theorem XW {nm : ByteArray} {e : G8} {ds : List Dt} {i : Nat} {d : Dt} (hx : ds[i]? = some d) (hb : ∀ j, j < i → ∀ y, ds[j]? = some y → C5 nm (FA y j) = none) (he : C5 nm (FA d i) = some e) : Ed ds nm = (e, 0) := by
 rw [Ed, SY hx (fun j hj y hy => by rw [Int.zero_add]; exact hb j hj y hy) (by rwa [Int.zero_add])]
theorem Wr {nm : ByteArray} {ds : List Dt} (hb : ∀ j, j < ds.length → ∀ y, ds[j]? = some y → C5 nm (FA y j) = none) : Ed ds nm = (V9, 9) := by
 rw [Ed, Rp fun j hj y hy => by rw [Int.zero_add]; exact hb j hj y hy]
def Ow (ds : List Dt) : Prop := ∀ d ∈ ds, d.kind = 0 ∨ Rl d
theorem U5 {nm : ByteArray} {d : Dt} {i : Int} (h : d.kind = 0) : C5 nm (FA d i) = if d.name = nm then some ⟨d.kind, i, 0, d.params, d.type⟩ else none := by
 unfold FA; rw [if_pos (.inl h)]; rfl
theorem Uq {nm : ByteArray} : ∀ {ds : List Dt} {k : Int}, (∀ d ∈ ds, d.kind = 0) → (findF nm ds k).isSome = ds.any fun d => decide (d.name = nm)
 | [], k, _ => rfl
 | a :: ds, k, h => by
  rw [findF, U5 (h a Ax), List.any_cons]
  by_cases e : a.name = nm
  ·simp [e]
  rw [if_neg e]
  simp only
  rw [Uq fun d hd => h d (by simp [hd])]
  simp [e]
def Nu (ds : List Dt) (s : ByteArray) : Bool := decide ((Ed ds s).2 = 0)
theorem Yw {ds : List Dt} (h : ∀ d ∈ ds, d.kind = 0) (s : ByteArray) : Nu ds s = ds.any fun d => decide (d.name = s) := by
 rw [← Uq (k := 0) h]
 unfold Nu Ed
 cases findF s ds 0 <;> rfl
def IF (ds : List Dt) (l : List ByteArray) : Bool := l.any fun s => !Nu ds s
def YS (ds : List Dt) : List ByteArray → Int → Int
 | [], _ => -1
 | s :: l, i => if Nu ds s then YS ds l (i + 1) else i
theorem WL {ds : List Dt} {l : List ByteArray} {i : Nat} {s : ByteArray} {k : Int} (h : l[i]? = some s) : YS ds (l.drop i) k = if Nu ds s then YS ds (l.drop (i + 1)) (k + 1) else k := by
 rw [EI h]; rfl
theorem UX {ds : List Dt} : ∀ (l : List ByteArray) (i : Int), 0 ≤ i → decide (YS ds l i ≥ 0) = IF ds l
 | [], i, h => rfl
 | s :: l, i, h => by
  simp only [YS, IF, List.any_cons]
  by_cases e : Nu ds s = true
  ·simpa [e, IF] using UX l (i + 1) Aw
  simp [e]; exact h
def Fq (th : BY) : List ByteArray := [th.carrier, th.add, th.zero, th.neg, ⟨#[69, 113]⟩, ⟨#[69, 113, 46, 114, 101, 102, 108]⟩, ⟨#[69, 113, 46, 115, 121, 109, 109]⟩, ⟨#[69, 113, 46, 116, 114, 97, 110, 115]⟩, ⟨#[69, 113, 46, 99, 111, 110, 103, 114]⟩] ++ th.lemmas.take 7
section
variable {th : BY} {C : HA} {t : Tm} {s : Int}
theorem Lz (h : Ij C) (ha : C.all ≤ 200) : (Hi C t s).all = C.all + 1 ∧ t ∈ (Hi C t s).atoms ∧ ∀ a ∈ C.atoms, a ∈ (Hi C t s).atoms := by
 have hw : wr (C.all + 1) = C.all + 1 := I3 (by have := h.lo; constructor <;> omega)
 unfold Hi
 by_cases hm : t ∈ C.atoms
 ·rw [if_pos (Fy hm).1]; exact ⟨hw, hm, fun a h => h⟩
 rw [if_neg (GV hm)]; exact ⟨hw, by simp, fun a h => by simp [h]⟩
theorem Ib : ∀ (n : Nat) (C : HA) (t : Tm) (s : Int), Ij C → C.all ≤ (CX th n C t s).all
 | 0, C, t, s, h => Int.le_refl _
 | n + 1, C, t, s, h => by
  unfold CX
  split
  ·exact Int.le_refl _
  split
  ·exact Int.le_trans (Ib n _ _ _ h) (Ib n _ _ _ (En _ _ _ _ h))
  split
  ·exact Int.le_refl _
  split
  ·exact Ib n _ _ _ h
  rw [(Lz h Aw).1]; omega
theorem HV : ∀ (n : Nat) (C : HA) (t : Tm) (s : Int), Ij C → (CX th n C t s).all ≤ 200 → (CX th n C t s).all = C.all + (DL th n t).length ∧ (∀ a ∈ DL th n t, a ∈ (CX th n C t s).atoms) ∧ ∀ a ∈ C.atoms, a ∈ (CX th n C t s).atoms
 | 0, C, t, s, h, hl => by simp [CX, DL]
 | n + 1, C, t, s, h, hl => by
  have hC : ¬ C.all > 200 := by have := Ib (th := th) (n + 1) C t s h; omega
  unfold CX at hl ⊢
  unfold DL
  rw [if_neg hC] at hl ⊢
  by_cases h1 : (DU th t).1 = 1
  ·rw [if_pos h1] at hl ⊢
   rw [if_pos h1]
   have hk := En (th := th) n C ((DU th t).2.getD 0 Be) s h
   obtain ⟨e2, a2, b2⟩ := HV n _ _ _ hk hl
   obtain ⟨e1, a1, b1⟩ := HV n C ((DU th t).2.getD 0 Be) s h (by have := Ib (th := th) n _ ((DU th t).2.getD 1 Be) s hk; omega)
   refine ⟨by rw [e2, e1, List.length_append]; omega, fun a ha => ?_, fun a ha => b2 a (b1 a ha)⟩
   rcases List.mem_append.1 ha with ha | ha
   ·exact b2 a (a1 a ha)
   exact a2 a ha
  rw [if_neg h1] at hl ⊢
  rw [if_neg h1]
  by_cases h2 : (DU th t).1 = 2
  ·rw [if_pos h2, if_pos h2]; simp
  rw [if_neg h2] at hl ⊢
  rw [if_neg h2]
  by_cases h3 : (DU th t).1 = 3
  ·rw [if_pos h3] at hl ⊢
   rw [if_pos h3]
   exact HV n _ _ _ h hl
  rw [if_neg h3, if_neg h3]
  obtain ⟨e, a, b⟩ := Lz (t := t) (s := s) h Aw
  exact ⟨by rw [e]; simp, by simpa using a, b⟩
theorem HT {N : Nat} : ∀ (n : Nat) (C : HA) (t : Tm) (s : Int), (∀ a ∈ C.atoms, size a ≤ N) → Gj t → size t ≤ N → ∀ a ∈ (CX th n C t s).atoms, size a ≤ N
 | 0, C, t, s, h, _, _ => h
 | n + 1, C, t, s, h, ht, hs => by
  unfold CX
  split
  ·exact h
  split
  ·rename_i ho
   obtain ⟨h1, h2, h3⟩ := ht.op.1 ho
   exact HT n _ _ _ (HT n _ _ _ h h1 Aw) h2 Aw
  split
  ·exact h
  split
  ·rename_i ho
   obtain ⟨h1, h3⟩ := ht.op.2 ho
   exact HT n _ _ _ h h1 Aw
  unfold Hi
  split
  ·exact h
  intro a ha
  rcases List.mem_append.1 ha with ha | ha
  ·exact h a ha
  simp at ha; subst ha; exact hs
theorem Mo : ∀ (n : Nat) (t : Tm), Gj t → (DL th n t).length ≤ size t
 | 0, t, _ => by simp [DL]
 | n + 1, t, ht => by
  have := size_pos t
  unfold DL
  split
  ·rename_i ho
   obtain ⟨h1, h2, h3⟩ := ht.op.1 ho
   have := Mo n _ h1
   have := Mo n _ h2
   rw [List.length_append]; omega
  split
  ·simp
  split
  ·rename_i ho
   obtain ⟨h1, h3⟩ := ht.op.2 ho
   have := Mo n _ h1
   omega
  simp; omega
theorem P9 (ht : Gj t) (hs : size t ≤ 4096) (hl : (C6 th t).all ≤ 60) : (∀ a ∈ DL th (size t) t, a ∈ (C6 th t).atoms) ∧ (DL th (size t) t).length ≤ 60 ∧ (∀ a ∈ (C6 th t).atoms, OA a) ∧ Vh (C6 th t).atoms ∧ (C6 th t).coefs.length < 1000 := by
 obtain ⟨e, a, -⟩ := HV (th := th) (size t) ⟨[], [], 0⟩ t 1 LM (by show (C6 th t).all ≤ 200; omega)
 have e' : (C6 th t).all = 0 + ((DL th (size t) t).length : Int) := e
 have g := PL (th := th) ht Aw
 have k := UD th t
 refine ⟨a, by omega, g.nq, ⟨g.nds, ?_⟩, by rw [k.len]; exact k.lt⟩
 exact HT (th := th) (size t) ⟨[], [], 0⟩ t 1 Ax ht hs
theorem Vx (h : G4 th) (ht : Gj t) (hs : size t ≤ 4096) (hl : (C6 th t).all ≤ 60) : Nd (B0 th (C6 th t).atoms (size t) t).1.proof ∧ size (B0 th (C6 th t).atoms (size t) t).1.proof < 1152921504606846976 := by
 obtain ⟨a, b, -, c, -⟩ := P9 (th := th) ht hs hl
 have := (M0 h c (size t) t (Nat.le_refl _) ht hs Aw a).1
 refine ⟨this.nd, Nat.lt_of_le_of_lt this.sz ?_⟩
 have : 50000000000 * size t ≤ 50000000000 * 4096 := Nat.mul_le_mul_left _ hs
 omega
theorem Js : ∀ (n : Nat) (C : HA) (t : Tm) (s : Int), Ij C → (CX th n C t s).all ≤ C.all + (DL th n t).length
 | 0, C, t, s, h => by simp [CX, DL]
 | n + 1, C, t, s, h => by
  unfold CX DL
  split
  ·omega
  split
  ·have := Js n C ((DU th t).2.getD 0 Be) s h
   have := Js n (CX th n C ((DU th t).2.getD 0 Be) s) ((DU th t).2.getD 1 Be) s (En _ _ _ _ h)
   rw [List.length_append]; omega
  split
  ·simp
  split
  ·exact Js n _ _ _ h
  rw [(Lz h Aw).1]; simp
theorem W7 (ht : Gj t) : (C6 th t).all ≤ size t := by
 have e : (C6 th t).all ≤ 0 + ((DL th (size t) t).length : Int) := Js (th := th) (size t) ⟨[], [], 0⟩ t 1 LM
 have := Mo (th := th) (size t) t ht
 omega
end
theorem Ta (l : List Fl) : ∀ r ∈ l.map Dx, ∀ c ∈ r, c ≠ .nils := by
 intro r hr c hc
 obtain ⟨e, _, rfl⟩ := List.mem_map.1 hr
 simp [Dx] at hc
 rcases hc with rfl | rfl <;> simp
theorem Ri (l : List Db) : ∀ r ∈ l.map Er, ∀ c ∈ r, c ≠ .nils := by
 intro r hr c hc
 obtain ⟨e, _, rfl⟩ := List.mem_map.1 hr
 simp [Er] at hc
 rcases hc with rfl | rfl <;> simp
theorem az (l : List Dt) : ∀ r ∈ l.map Ci, ∀ c ∈ r, c ≠ .nils := by
 intro r hr c hc
 obtain ⟨e, _, rfl⟩ := List.mem_map.1 hr
 simp only [Ci, Nw, List.mem_cons, List.mem_append, List.not_mem_nil, or_false] at hc
 rcases hc with rfl | rfl | rfl | hc | hc | rfl | rfl | (rfl | hc | rfl) | rfl
 all_goals first | exact cf _ _ hc | simp
def D0 (n : ByteArray) (p : Int) (t : Tm) : Dt := ⟨0, n, p, t, Be, 0, [], ⟨0, Be, []⟩, []⟩
theorem aC {b : Int} (h : 0 ≤ b ∧ b < 100) : Nd (.mk 0 b ⟨#[]⟩ [] []) := by
 simp [Nd, Je, EB, L5, show (⟨#[]⟩ : ByteArray).size = 0 from rfl]; omega
def Ki : BY := BY.mk ⟨#[90]⟩ ⟨#[97, 100, 100]⟩ ⟨#[122, 101, 114, 111]⟩ ⟨#[110, 101, 103]⟩ ⟨#[111, 110, 101]⟩ ⟨#[108, 101, 113]⟩ [⟨#[108, 48]⟩, ⟨#[108, 49]⟩, ⟨#[108, 50]⟩, ⟨#[108, 51]⟩, ⟨#[108, 52]⟩, ⟨#[108, 53]⟩, ⟨#[108, 54]⟩, ⟨#[108, 55]⟩, ⟨#[108, 56]⟩, ⟨#[108, 57]⟩, ⟨#[108, 49, 48]⟩, ⟨#[108, 49, 49]⟩, ⟨#[108, 49, 50]⟩, ⟨#[108, 49, 51]⟩]
def aX : Tm := .mk 0 4 ⟨#[]⟩ [] []
def aY : Tm := .mk 0 2 ⟨#[]⟩ [] []
def aZ : Tm := Bh ⟨#[122, 101, 114, 111]⟩ []
def KT (a b : Tm) : Tm := Bh ⟨#[97, 100, 100]⟩ [a, b]
def Ll (a : Tm) : Tm := Bh ⟨#[110, 101, 103]⟩ [a]
def Zt : Tm := KT (KT aX (Ll aY)) aX
def aF : Tm := KT aX (Ll aX)
def Xk : Tm := Ll (Ll (KT aX aZ))
theorem Hh {k i : Int} {n : ByteArray} (hk : (k = 0 ∧ n = ⟨#[]⟩) ∨ (k = 3 ∧ i = 0)) (hi : 0 ≤ i ∧ i < 100) (hn : n.size ≤ 200) (hp : ∀ c ∈ n.data.toList, UJ c) : Gj (.mk k i n [] []) := by
 have hr : Je i := ⟨by omega, by omega⟩
 have hs : n.size < EB := by simp only [EB]; omega
 rcases hk with ⟨rfl, rfl⟩ | ⟨rfl, rfl⟩
 ·exact ⟨⟨⟨fun h => absurd Ay h, fun _ => Ay, fun _ _ => Ay, Ay⟩, trivial⟩, ⟨hs, by decide, by simp, by decide, trivial, ⟨by decide, by decide⟩, hr⟩, ⟨hp, trivial⟩, ⟨hn, by simp, by simp, trivial⟩⟩
 exact ⟨⟨⟨fun _ _ => Ay, fun h => absurd Ay h, fun _ h => absurd Ay h, Ay⟩, trivial⟩, ⟨hs, by decide, by simp, by decide, trivial, ⟨by decide, by decide⟩, hr⟩, ⟨hp, trivial⟩, ⟨hn, by simp, by simp, trivial⟩⟩
theorem Q0 {f x : Tm} (hf : Gj f) (hx : Gj x) : Gj (.mk 4 0 ⟨#[]⟩ [] [f, x]) :=
 ⟨⟨⟨fun _ _ => rfl, fun _ => rfl, fun _ _ => rfl, rfl⟩, hf.cn, hx.cn, trivial⟩, ⟨by decide, by decide, by simp, by simp [EB], ⟨hf.nd, hx.nd, trivial⟩, ⟨by decide, by decide⟩, ⟨by decide, by decide⟩⟩, ⟨by simp, hf.nq, hx.nq, trivial⟩, ⟨by decide, by simp, by simp, hf.fw, hx.fw, trivial⟩⟩
theorem MZ : Gj aX := Hh (.inl ⟨rfl, rfl⟩) Av Av Ax
theorem W0 : Gj aY := Hh (.inl ⟨rfl, rfl⟩) Av Av Ax
theorem Ui : Gj aZ := Hh (.inr ⟨rfl, rfl⟩) Av Av (by simp [UJ])
theorem Ix {a b : Tm} (ha : Gj a) (hb : Gj b) : Gj (KT a b) := Q0 (Q0 (Hh (.inr ⟨rfl, rfl⟩) Av Av (by simp [UJ])) ha) hb
theorem MU {a : Tm} (ha : Gj a) : Gj (Ll a) := Q0 (Hh (.inr ⟨rfl, rfl⟩) Av Av (by simp [UJ])) ha
theorem cA : Gj Zt := Ix (Ix MZ (MU W0)) MZ
theorem dC : Gj aF := Ix MZ (MU MZ)
theorem du : Gj Xk := MU (MU (Ix MZ Ui))
theorem bq : aX ≠ aY := by intro h; injection h with _ h; exact absurd h Av
theorem Sd {C : HA} {t : Tm} {s : Int} (h : t ∉ C.atoms) : Hi C t s = ⟨C.coefs ++ [s], C.atoms ++ [t], wr (C.all + 1)⟩ := by
 unfold Hi; rw [if_neg (GV h)]
theorem QX {c al : Int} {cs : List Int} {A : List Tm} {t : Tm} {s : Int} : Hi ⟨c :: cs, t :: A, al⟩ t s = ⟨wr (c + s) :: cs, t :: A, wr (al + 1)⟩ := by
 have h0 : DA (t :: A) t = 0 := by simp [DA, List.findIdx_cons, QJ]
 unfold Hi; simp only [h0]; simp
theorem gu (a b : Tm) : DU Ki (KT a b) = (1, [a, b]) := by
 have e : CA (KT a b) = (.mk 3 0 ⟨#[97, 100, 100]⟩ [] [], [a, b]) := by simp [KT, Ll, Bh, apply, Oi, CA]
 simp [DU, e, Ds, Tm.kind, Tm.name, Tm.levels, Ki]
theorem ie (a : Tm) : DU Ki (Ll a) = (3, [a]) := by
 have e : CA (Ll a) = (.mk 3 0 ⟨#[110, 101, 103]⟩ [] [], [a]) := by simp [KT, Ll, Bh, apply, Oi, CA]
 simp [DU, e, Ds, Tm.kind, Tm.name, Tm.levels, Ki, Em]
theorem iw : DU Ki aZ = (2, []) := by
 have e : CA aZ = (.mk 3 0 ⟨#[122, 101, 114, 111]⟩ [] [], []) := by simp [aZ, Bh, apply, Oi, CA]
 simp [DU, e, Ds, Tm.kind, Tm.name, Tm.levels, Ki, Em]
theorem RU {n : Nat} {C : HA} {a b : Tm} {s : Int} (h : ¬ C.all > 200) : CX Ki (n + 1) C (KT a b) s = CX Ki n (CX Ki n C a s) b s := Jp h (by rw [gu]) (by rw [gu]; rfl) (by rw [gu]; rfl)
theorem RS {n : Nat} {C : HA} {a : Tm} {s : Int} (h : ¬ C.all > 200) : CX Ki (n + 1) C (Ll a) s = CX Ki n C a (wr (0 - s)) := Ji h (by rw [ie]) (by rw [ie]; rfl)
theorem X8 {n : Nat} {C : HA} {s : Int} (h : ¬ C.all > 200) : CX Ki (n + 1) C aZ s = C := JC h (by rw [iw])
theorem ar {n : Nat} {C : HA} {s : Int} (h : ¬ C.all > 200) : CX Ki (n + 1) C aX s = Hi C aX s := HY h rfl
theorem fe {n : Nat} {C : HA} {s : Int} (h : ¬ C.all > 200) : CX Ki (n + 1) C aY s = Hi C aY s := HY h rfl
theorem dX : size Zt = 11 := by simp [Zt, KT, Ll, aX, aY, Bh, apply, Oi, size, CE]
theorem cq : size aF = 7 := by simp [aF, KT, Ll, aX, Bh, apply, Oi, size, CE]
theorem cJ : size Xk = 9 := by simp [Xk, KT, Ll, aX, aZ, Bh, apply, Oi, size, CE]
theorem Zr (n : Nat) : CX Ki (n + 1) ⟨[], [], 0⟩ aX 1 = ⟨[1], [aX], 1⟩ := by rw [ar Av, Sd Ax]; rfl
theorem Zd : C6 Ki Zt = ⟨[2, -1], [aX, aY], 3⟩ := by
 have e2 : CX Ki 9 ⟨[1], [aX], 1⟩ (Ll aY) 1 = ⟨[1, -1], [aX, aY], 2⟩ := by
  rw [RS Av, fe Av, Sd (by simpa using Ne.symm bq)]; rfl
 unfold C6
 rw [dX, Zt, RU Av, RU Av, Zr, e2, ar Av, QX]; rfl
theorem ZS : C6 Ki aF = ⟨[0], [aX], 2⟩ := by
 unfold C6
 rw [cq, aF, RU Av, Zr, RS Av, ar Av, QX]; rfl
theorem ea : C6 Ki Xk = ⟨[1], [aX], 1⟩ := by
 unfold C6
 rw [cJ, Xk, RS Av, RS Av, RU Av]
 show CX Ki 6 (CX Ki 6 ⟨[], [], 0⟩ aX 1) aZ 1 = _
 rw [Zr, X8 Av]
theorem ay : Dd Ki Zt = ([2, -1], [aX, aY], 0) := by rw [HG (by rw [Zd]; decide), Zd]
theorem Z0 : Dd Ki aF = ([0], [aX], 0) := by rw [HG (by rw [ZS]; decide), ZS]
theorem ZJ : HS Ki [2, -1] [aX, aY] = KT aX (KT aX (KT (Ll aY) aZ)) := by rfl
theorem ZH : HS Ki [0] [aX] = aZ := by rfl
theorem ZO : HS Ki (C6 Ki Xk).coefs (C6 Ki Xk).atoms = KT aX aZ := by rw [ea]; rfl
theorem eK : G4 Ki := ⟨by decide, by decide, by decide, by decide, by simp [Ki]; decide⟩
theorem bK : size Zt < 1000000 := by rw [dX]; decide
theorem bb : size aF < 1000000 := by rw [cq]; decide
theorem bN : size Xk ≤ 16 := by rw [cJ]; decide
theorem cY : Nd (HS Ki [2, -1] [aX, aY]) := by rw [ZJ]; exact (Ix MZ (Ix MZ (Ix (MU W0) Ui))).nd
theorem cW : Nd (HS Ki [0] [aX]) := by rw [ZH]; exact Ui.nd
theorem dj : Nd (HS Ki (C6 Ki Xk).coefs (C6 Ki Xk).atoms) := by rw [ZO]; exact (Ix MZ Ui).nd
theorem T8 {th : BY} (h : G4 th) {x o : Tm} (hx : Nd x) (ho : Nd o) : ∀ k, Nd (Ic th x k o)
 | 0 => ho
 | k + 1 => Gs h.add ⟨hx, T8 h hx ho k, trivial⟩
theorem ZA {th : BY} (h : G4 th) {n : Int} {x : Tm} (hx : Nd x) : Nd (Mp th n x) := by
 unfold Mp; split
 ·exact Gs h.neg ⟨hx, trivial⟩
 exact hx
theorem Ud {th : BY} (h : G4 th) : ∀ (cs : List Int) (us : List Tm), (∀ t ∈ us, Nd t) → Nd (It th cs us)
 | [], us, hu => by simp only [It]; exact GC h
 | c :: cs, [], hu => by simp only [It]; exact GC h
 | c :: cs, u :: us, hu => by
  simp only [It]
  exact T8 h (ZA h (hu u Ax)) (Ud h cs us fun t ht => hu t (by simp [ht])) _
theorem YF {th : BY} (h : G4 th) {cs : List Int} {us : List Tm} (hu : ∀ t ∈ us, Nd t) : Nd (HS th cs us) := by
 unfold HS; split
 ·exact Ud h cs us hu
 exact Hh (.inl ⟨Ay, Ay⟩) Av Av Ax |>.nd
theorem gD {s : ByteArray} {c : UInt8} {l : List UInt8} (h : s.data.toList = c :: l) : s.get! 0 = c := by
 have h2 : s.data[0]? = some c := by rw [← Array.getElem?_toList, h]; rfl
 show s.data[0]! = c
 rw [getElem!_def, h2]
theorem Ur {s : ByteArray} {c : UInt8} {l : List UInt8} (h : s.data.toList = c :: l) (hc : UJ c) : Go.Utf8.decode s 0 = (c.toNat, 1) := by
 unfold Go.Utf8.decode
 have := hc.2.2.2
 simp only [Nat.add_zero, gD h]
 rw [if_pos Aw]
theorem Yi (T : Go.Lib.PrintTabs) {c : UInt8} (hc : UJ c) : Go.Lib.escRune T (c.toNat : Int) = [(c.toNat : Int)] := by
 obtain ⟨h1, h2, h3, h4⟩ := hc
 have e1 : c.toNat ≠ 34 := fun e => h1 (UInt8.toNat_inj.1 e)
 have e2 : c.toNat ≠ 92 := fun e => h2 (UInt8.toNat_inj.1 e)
 unfold Go.Lib.escRune
 rw [if_neg Aw, if_pos, Go.Lib.encodeRuneZ, if_pos Aw]
 unfold Go.Lib.isPrintR
 rw [if_pos Aw]
 simp only [Go.Lib.isPrintLatin, Bool.or_eq_true, Bool.and_eq_true, decide_eq_true_eq]
 omega
theorem SI (T : Go.Lib.PrintTabs) : ∀ (l : List UInt8) (f : Nat) (s : ByteArray), s.data.toList = l → l.length ≤ f → (∀ c ∈ l, UJ c) → Go.Lib.quoteFrom T f s = l.map fun c => (c.toNat : Int)
 | [], f, s, h, hf, hp => by
  have hs : s.size = 0 := by rw [ByteArray.size, ← Array.length_toList, h]; rfl
  cases f with
  | zero => rfl
  | succ f => unfold Go.Lib.quoteFrom; rw [if_neg Aw]; rfl
 | c :: l, f, s, h, hf, hp => by
  have hs : s.size = l.length + 1 := by rw [ByteArray.size, ← Array.length_toList, h]; rfl
  have hc := hp c Ax
  cases f with
  | zero => simp at hf
  | succ f =>
   unfold Go.Lib.quoteFrom
   rw [if_pos Aw]
   have e : Go.Lib.quoteStep T s = [(c.toNat : Int)] := by
    unfold Go.Lib.quoteStep
    have := hc.2.2.2
    rw [Ur h hc, if_neg (by simp only; omega), Yi T hc]
   rw [e, Ur h hc, SI T l f _ ?_ (by simpa using hf) fun x hx => hp x (by simp [hx])]
   ·simp
   simp only [ByteArray.data_extract, Array.toList_extract, h]
   simp [List.extract, hs]
   rw [h]; simp
theorem Tz (T : Go.Lib.PrintTabs) (s : ByteArray) (h : ∀ c ∈ s.data.toList, UJ c) : Go.strOfNums (Go.Lib.quoteZ T s) = NP s := by
 apply ByteArray.ext
 apply Array.ext'
 rw [Go.strOfNums_data, Fv, Go.Lib.quoteZ, SI T _ s.size s rfl (by rw [Array.length_toList]; exact Nat.le_refl _) h]
 simp [HH, List.map_map, Function.comp_def]
end Go.Eu
namespace Go.Proofs.YtapmjpihennhaaaGreatDoor
open Go.Abs Go.Eu
def blocks (w : World) : List (Nat × Obj) := (List.range w.heap.size).filterMap fun b => (w.heap[b]?).map fun o => (b, o)
theorem VG (w : World) : ∀ p ∈ blocks w, w.heap[p.1]? = some p.2 := by
 intro p hp
 obtain ⟨b, hb, h⟩ := List.mem_filterMap.1 hp
 obtain ⟨o, ho, rfl⟩ := Option.map_eq_some_iff.1 h
 exact ho
theorem NZ {w w' : World} (h : ∀ p ∈ blocks w, w'.heap[p.1]? = some p.2) {b : Nat} {o : Obj} (hb : w.heap[b]? = some o) : w'.heap[b]? = some o := by
 refine h (b, o) (List.mem_filterMap.2 ⟨b, List.mem_range.2 (Array.getElem?_eq_some_iff.1 hb).1, ?_⟩)
 rw [hb]; rfl
theorem G9 {w w' : World} (h : ∀ p ∈ blocks w, w'.heap[p.1]? = some p.2) {a : Addr} {v : Value} (hc : w.cell? a = some v) : w'.cell? a = some v := by
 unfold World.cell? at hc ⊢
 cases hq : w.heap[a.block]? with
 | none => rw [hq] at hc; cases hc
 | some o => rw [NZ h hq]; rw [hq] at hc; exact hc
theorem HZ {w w' : World} (h : ∀ p ∈ blocks w, w'.heap[p.1]? = some p.2) {g : Nat} {k : IntKind} {t : List Nat} (hT : Go.Lib.TabSlice g k t w) : Go.Lib.TabSlice g k t w' := by
 obtain ⟨R, o, c, h1, h2⟩ := hT
 exact ⟨R, o, c, G9 h h1, fun j hj => G9 h (h2 j hj)⟩
theorem TH {w w' : World} (h : ∀ p ∈ blocks w, w'.heap[p.1]? = some p.2) {a b c d : Nat} {T : Go.Lib.PrintTabs} (hT : Go.Lib.PrintTabsAt a b c d T w) : Go.Lib.PrintTabsAt a b c d T w' := by
 obtain ⟨h1, h2, h3, h4, h5⟩ := hT
 exact ⟨HZ h h1, HZ h h2, HZ h h3, HZ h h4, h5⟩
theorem Vb {w w' : World} (h : ∀ p ∈ blocks w, w'.heap[p.1]? = some p.2) {a b : Nat} (hT : Go.Lib.Utf8Tabs a b w) : Go.Lib.Utf8Tabs a b w' :=
 ⟨fun c hc => G9 h (hT.1 c hc), fun i hi => ⟨G9 h (hT.2 i hi).1, G9 h (hT.2 i hi).2⟩⟩
theorem Wi {P : Program} {w w' : World} (h : ∀ p ∈ blocks w, w'.heap[p.1]? = some p.2) {n : String} {k : IntKind} {zs : List Int} (hT : Go.Lib.TabIs P w n k zs) : Go.Lib.TabIs P w' n k zs := by
 unfold Go.Lib.TabIs World.var? at *
 cases hg : P.globalNamed n with
 | none => rw [hg] at hT; cases hT
 | some g =>
  rw [hg] at hT
  simp only [Option.bind_some] at hT ⊢
  cases hq : w.heap[g]? with
  | none => rw [hq] at hT; cases hT
  | some o => rw [NZ h hq]; rw [hq] at hT; exact hT
theorem Yj {w : World} {T : Go.Lib.PrintTabs} (hT : Go.Lib.PrintTabsAt 3 4 5 6 T w) (hU : Go.Lib.Utf8Tabs 1 2 w) (hI : Go.Lib.TabIs Tryz.prog w "internal/strconv.uint64pow10" .u64 Go.Lib.pow10Tab) : G3 (blocks w) where
 itoa := fun n hn => Mn (u := .string (Sn n)) dK (fun F w => by simp [Cc, Cg]) fun F w' vs hg hv => by
  simp only [CF, Cc, Cg] at hv
  obtain ⟨_, _, rfl, rfl, rfl⟩ := hv
  refine (Tryz.strconv_Itoa n hn.1 hn.2 w' (Wi hg hI)).mono ?_
  rintro e w2 ⟨rfl, k, os, rfl⟩
  exact ⟨Ay, ⟨Ay, Ay, Ay, by simp [Go.Sort.grow, World.drewN], fun b hb => by simp [Go.Sort.grow, World.drewN, Array.getElem?_append_left, hb]⟩⟩
 quote := fun s hs hp => Mn (u := .string (NP s)) eC (fun F w => by simp [Cc, Cg]) fun F w' vs hg hv => by
  simp only [CF, Cc, Cg] at hv
  obtain ⟨_, _, rfl, rfl, rfl⟩ := hv
  refine (Tryz.strconv_Quote T s w' (by simp only [EB] at hs; omega) (TH hg hT) (Vb hg hU)).mono ?_
  rintro e w2 ⟨rfl, hb⟩
  exact ⟨by rw [Tz T s hp], hb⟩
end Go.Proofs.YtapmjpihennhaaaGreatDoor
namespace Go.Eu
open Go.Abs
theorem Ok.mono {B B' : Nat} {t : Tm} (h : Ok B t) (hb : B ≤ B') : Ok B' t := ⟨h.nd, h.vp, h.wt, Nat.le_trans h.sz hb⟩
end Go.Eu
namespace Go.Eu
open Go.Abs Go.RowKit Go.ChangeShapes Go.ChangeAt Go.WideShapes
theorem Wn : ∀ {ts : List Tm}, (∀ t ∈ ts, Wd t) → ZF ts
 | [], _ => trivial
 | t :: ts, h => ⟨h t Ax, Wn fun x hx => h x (by simp [hx])⟩
abbrev F0 : Nat → Prop := fun _ => False
def Cb (w : World) : List PV → List Value → Prop
 | [], cs => cs = []
 | p :: ps, cs => ∃ c cs', cs = c :: cs' ∧ Cg F0 w p c ∧ Cb w ps cs'
theorem Cb.length {w : World} : ∀ {ps : List PV} {cs : List Value}, Cb w ps cs → ps.length = cs.length
 | [], cs, h => by simp only [Cb] at h; subst h; rfl
 | p :: ps, cs, h => by
  obtain ⟨c, cs', rfl, _, h⟩ := h
  simp [Cb.length h]
theorem Cb.append {w : World} : ∀ {a b : List PV} {x y : List Value}, Cb w a x → Cb w b y → Cb w (a ++ b) (x ++ y)
 | [], b, x, y, h, h' => by simp only [Cb] at h; subst h; exact h'
 | p :: a, b, x, y, h, h' => by
  obtain ⟨c, cs', rfl, h1, h⟩ := h
  exact ⟨c, cs' ++ y, Ay, h1, Cb.append h h'⟩
theorem Cb.one {w : World} {p : PV} {c : Value} (h : Cg F0 w p c) : Cb w [p] [c] := ⟨c, [], rfl, h, rfl⟩
theorem Cb.repL {w : World} : ∀ {ps : List PV} {cs : List Value}, Cb w ps cs → CF F0 w (ps.map .p) cs
 | [], cs, h => by simp only [Cb] at h; subst h; exact rfl
 | p :: ps, cs, h => by
  obtain ⟨c, cs', rfl, h1, h⟩ := h
  exact ⟨c, cs', Ay, by simp only [Cc]; exact h1, Cb.repL h⟩
theorem NH {w : World} {b : Nat} : ∀ (r : List PV) (cs : List Value) (o : Nat), Cb w r cs → (∀ j, j < cs.length → w.cell? ⟨b, o + j, none⟩ = cs[j]?) → Cj F0 w b o r
 | [], cs, o, h, hc => by simp [Cj]
 | p :: r, cs, o, h, hc => by
  obtain ⟨c, cs', rfl, h1, h⟩ := h
  refine ⟨⟨c, by have := hc 0 Ax; simpa using this, h1⟩, NH r cs' (o + 1) h fun j hj => ?_⟩
  have := hc (j + 1) Aq
  rw [show o + 1 + j = o + (j + 1) by omega]
  simpa using this
theorem LG {w : World} {base : Nat} {a : Addr} {n : Nat} {cs : List Value} (h : w.cells? base a n = some cs) : cs.length = n ∧ ∀ j, j < n → w.cell? (a.add j) = cs[j]? := by
 unfold World.cells? at h
 split at h
 ·exact ⟨by simpa using mapM_some_length h, fun j hj => mapM_some_get h j j (by simp [hj])⟩
 cases h
section
variable {H : Type} {enc : TypeId × Value → H} {P : Program} {w : World} {base : Nat} {sp : Nat → Bool} {hd : Bool} {n : Nat}
theorem Jh {α : Type} {e t C : Nat} (ut : P.underlying t = some (.slice e)) (hC : P.cellsOf e = C) (hC1 : 1 ≤ C) (f : α → List PV) (Q : α → Prop)
  (he : ∀ m cs y, m < n → DataW.trod enc P w base sp hd m e cs = some y → ∃ a, Cb w (f a) cs ∧ Q a) {cs : List Value} {y : DataW H × List MemPlace} (h : DataW.trod enc P w base sp hd n t cs = some y) :
  ∃ l : List α, l.length < wide ∧ (∀ a ∈ l, Q a) ∧ ∃ v, cs = [v] ∧ Cg F0 w (.lst (l.map f)) v := by
 rcases DataW.trod_slice ut h with ⟨rfl, _⟩ | ⟨a, len, cap, elems, rest, m, rfl, rfl, _, hb, hl, hc, hel, hget, _, _⟩
 ·exact ⟨[], by simp [wide], fun a ha => by simp at ha, _, rfl, by simp only [Cg]; exact .inl ⟨rfl, none, 0, rfl⟩⟩
 rw [hC] at hget
 have hml : maxLen < wide := by decide
 rcases Nat.eq_zero_or_pos len with h0 | h0
 ·subst h0
  exact ⟨[], by simp [wide], fun a ha => by simp at ha, _, rfl, by simp only [Cg]; exact .inl ⟨rfl, some a, cap, rfl⟩⟩
 have hone : ∀ i, i < len → ∃ ci y, w.cells? base (a.add (i * C)) C = some ci ∧ DataW.trod enc P w base sp hd m e ci = some y := fun i hi => by
  have := hget i hi
  rw [List.getElem?_eq_getElem Aw] at this
  obtain ⟨ci, h1, h2⟩ := Option.bind_eq_some_iff.1 this
  exact ⟨ci, _, h1, h2⟩
 obtain ⟨c0, y0, hc0, _⟩ := hone 0 h0
 obtain ⟨hl0, hg0⟩ := LG hc0
 have hcell : ∃ v, w.cell? a = some v := by
  have := hg0 0 Aw
  rw [Nat.zero_mul, Addr.add, if_pos rfl, Addr.add, if_pos rfl] at this
  rw [List.getElem?_eq_getElem Aw] at this
  exact ⟨_, this⟩
 obtain ⟨v0, hv0⟩ := hcell
 obtain ⟨blk, off, spot⟩ := a
 have hspot : spot = none := by
  unfold World.cell? at hv0
  simp only at hv0
  split at hv0
  ·cases spot with
   | none => rfl
   | some s => simp at hv0
  cases hv0
 subst hspot
 have hblk : blk < w.heap.size := by
  unfold World.cell? at hv0
  simp only at hv0
  split at hv0
  ·rename_i hh; exact (Array.getElem?_eq_some_iff.1 hh).1
  cases hv0
 have hadd : ∀ k, (⟨blk, off, none⟩ : Addr).add k = ⟨blk, off + k, none⟩ := fun k => by
  unfold Addr.add
  split
  ·rename_i e; subst e; rfl
  rfl
 have hadd2 : ∀ o k, (⟨blk, o, none⟩ : Addr).add k = ⟨blk, o + k, none⟩ := fun o k => by
  unfold Addr.add
  split
  ·rename_i e; subst e; rfl
  rfl
 have hrows : ∀ k, k ≤ len → ∃ l : List α, l.length = k ∧ (∀ x ∈ l, Q x) ∧ CG F0 w blk C (off + (len - k) * C) (l.map f) := by
  intro k
  induction k with
  | zero => exact fun _ => ⟨[], rfl, fun a ha => by simp at ha, by simp [CG]⟩
  | succ k ih =>
   intro hk
   obtain ⟨l, h1, h2, h3⟩ := ih Aw
   obtain ⟨ci, y, hci, ht⟩ := hone (len - (k + 1)) Aw
   obtain ⟨g1, g2⟩ := LG hci
   obtain ⟨x, hx, hq⟩ := he m ci y Aw ht
   refine ⟨x :: l, by simp [h1], fun z hz => ?_, ?_⟩
   ·rcases List.mem_cons.1 hz with rfl | hz
    ·exact hq
    exact h2 z hz
   refine ⟨by rw [hx.length, g1], NH _ ci _ hx fun j hj => ?_, ?_⟩
   ·have := g2 j Aw
    rw [hadd, hadd2] at this
    exact this
   rw [show off + (len - (k + 1)) * C + C = off + (len - k) * C by rw [Nat.add_assoc, ← Nat.succ_mul]; congr 2; omega]
   exact h3
 obtain ⟨l, h1, h2, h3⟩ := hrows len (Nat.le_refl _)
 rw [Nat.sub_self, Nat.zero_mul, Nat.add_zero] at h3
 refine ⟨l, by omega, h2, _, rfl, ?_⟩
 simp only [Cg]
 refine .inr ⟨blk, off, cap, C, by rw [List.length_map, h1], fun h => h, hblk, by rw [List.length_map]; omega, h3⟩
def Jk (P : Program) (t : TypeId) : Option (List (Nat × Nat)) :=
 match P.underlying t with
 | some (.struct fs) => some (fs.toList.map fun f => (f.type, f.offset))
 | _ => none
theorem N2 {t : TypeId} {l : List (Nat × Nat)} (hf : Jk P t = some l) {cs : List Value} {y : DataW H × List MemPlace} (h : DataW.trod enc P w base sp hd n t cs = some y) :
  ∃ m, n = m + 1 ∧ cs.length = P.cellsOf t ∧ ∀ (i : Nat) (p : Nat × Nat), l[i]? = some p → ∃ z, DataW.trod enc P w base sp hd m p.1 ((cs.drop p.2).take (P.cellsOf p.1)) = some z := by
 unfold Jk at hf
 split at hf
 ·rename_i fs hu
  injection hf with hf
  subst hf
  obtain ⟨xs, m, h1, _, h2, h3, h4⟩ := DataW.trod_struct hu h
  refine ⟨m, h1, h2, fun i p hp => ?_⟩
  rw [List.getElem?_map] at hp
  obtain ⟨fl, hfl, rfl⟩ := Option.map_eq_some_iff.1 hp
  have hi : fs[i]? = some fl := by simpa using hfl
  have := h4 i fl hi
  have hlt : i < xs.length := by rw [h3]; exact (Array.getElem?_eq_some_iff.1 hi).1
  rw [List.getElem?_eq_getElem hlt] at this
  exact ⟨_, this⟩
 cases hf
end
structure FN (P : Program) (tI tS tV tVs tL tLs tT tTs : TypeId) : Prop where
 uI : P.underlying tI = some (.int .i64)
 uS : P.underlying tS = some .string
 uVs : P.underlying tVs = some (.slice tV)
 uLs : P.underlying tLs = some (.slice tL)
 uTs : P.underlying tTs = some (.slice tT)
 fV : Jk P tV = some [(tI, 0), (tI, 1)]
 fL : Jk P tL = some [(tI, 0), (tVs, 1)]
 fT : Jk P tT = some [(tI, 0), (tI, 1), (tS, 2), (tLs, 3), (tTs, 4)]
 cI : P.cellsOf tI = 1
 cS : P.cellsOf tS = 1
 cVs : P.cellsOf tVs = 1
 cLs : P.cellsOf tLs = 1
 cTs : P.cellsOf tTs = 1
 cV : P.cellsOf tV = 2
 cL : P.cellsOf tL = 2
 cT : P.cellsOf tT = 5
theorem M5 {n : Int} (h : (Lit.int .i64 n).wf = true) : Je n := by
 simp only [Lit.wf, Bool.and_eq_true, decide_eq_true_eq] at h
 exact h
section
variable {H : Type} {enc : TypeId × Value → H} {P : Program} {w : World} {base : Nat} {sp : Nat → Bool} {hd : Bool} {tI tB tS tV tVs tL tLs tT tTs tM tMs : TypeId}
theorem Wf (E : FN P tI tS tV tVs tL tLs tT tTs) {n : Nat} {cs : List Value} {y : DataW H × List MemPlace} (h : DataW.trod enc P w base sp hd n tV cs = some y) : ∃ v : Db, Cb w (Er v) cs ∧ (Je v.index ∧ Je v.plus) := by
 obtain ⟨m, rfl, hl, hg⟩ := N2 E.fV h
 rw [E.cV] at hl
 match cs, hl with
 | [c0, c1], _ =>
  obtain ⟨z0, h0⟩ := hg 0 _ rfl
  obtain ⟨z1, h1⟩ := hg 1 _ rfl
  simp only [E.cI, List.drop_zero, List.drop_succ_cons, List.take_succ_cons, List.take_zero] at h0 h1
  obtain ⟨a, ha, _, fa⟩ := DataW.trod_int E.uI h0
  obtain ⟨b, hb, _, fb⟩ := DataW.trod_int E.uI h1
  injection ha with ha; injection hb with hb
  subst ha hb
  exact ⟨⟨a, b⟩, ⟨_, _, Ay, by simp [Cg], _, _, rfl, by simp [Cg], rfl⟩, M5 fa, M5 fb⟩
theorem aU (E : FN P tI tS tV tVs tL tLs tT tTs) {n : Nat} {cs : List Value} {y : DataW H × List MemPlace} (h : DataW.trod enc P w base sp hd n tL cs = some y) : ∃ v : Fl, Cb w (Dx v) cs ∧ bD v := by
 obtain ⟨m, rfl, hl, hg⟩ := N2 E.fL h
 rw [E.cL] at hl
 match cs, hl with
 | [c0, c1], _ =>
  obtain ⟨z0, h0⟩ := hg 0 _ rfl
  obtain ⟨z1, h1⟩ := hg 1 _ rfl
  simp only [E.cI, E.cVs, List.drop_zero, List.drop_succ_cons, List.take_succ_cons, List.take_zero] at h0 h1
  obtain ⟨a, ha, _, fa⟩ := DataW.trod_int E.uI h0
  injection ha with ha
  subst ha
  obtain ⟨l, g1, g2, v, hv, g3⟩ := Jh E.uVs E.cV Av Er (fun v => Je v.index ∧ Je v.plus) (fun m cs y _ h => Wf E h) h1
  injection hv with hv
  subst hv
  exact ⟨⟨a, l⟩, ⟨_, _, Ay, by simp [Cg], _, _, rfl, g3, rfl⟩, ⟨g1, M5 fa, g2⟩⟩
theorem Z8 (E : FN P tI tS tV tVs tL tLs tT tTs) : ∀ (n : Nat) (cs : List Value) (y : DataW H × List MemPlace), DataW.trod enc P w base sp hd n tT cs = some y → ∃ t : Tm, Cb w (Bu t) cs ∧ Wd t := by
 intro n
 induction n using Nat.strongRecOn with
 | ind n ih =>
  intro cs y h
  obtain ⟨m, rfl, hl, hg⟩ := N2 E.fT h
  rw [E.cT] at hl
  match cs, hl with
  | [c0, c1, c2, c3, c4], _ =>
   obtain ⟨z0, h0⟩ := hg 0 _ rfl
   obtain ⟨z1, h1⟩ := hg 1 _ rfl
   obtain ⟨z2, h2⟩ := hg 2 _ rfl
   obtain ⟨z3, h3⟩ := hg 3 _ rfl
   obtain ⟨z4, h4⟩ := hg 4 _ rfl
   simp only [E.cI, E.cS, E.cLs, E.cTs, List.drop_zero, List.drop_succ_cons, List.take_succ_cons, List.take_zero] at h0 h1 h2 h3 h4
   obtain ⟨a, ha, _, wa⟩ := DataW.trod_int E.uI h0
   obtain ⟨b, hb, _, wb⟩ := DataW.trod_int E.uI h1
   obtain ⟨s, hs, _, ws⟩ := DataW.trod_string E.uS h2
   injection ha with ha; injection hb with hb; injection hs with hs
   subst ha hb hs
   obtain ⟨l, g1, g2, v, hv, g3⟩ := Jh E.uLs E.cL Av Dx bD (fun m cs y _ h => aU E h) h3
   obtain ⟨ks, k1, k2, u, hu, k3⟩ := Jh E.uTs E.cT Av Bu Wd (fun m' cs y hm h => ih m' Aw cs y h) h4
   injection hv with hv; injection hu with hu
   subst hv hu
   have hml : maxLen < wide := by decide
   exact ⟨.mk a b s l ks, ⟨_, _, Ay, by simp [Cg], _, _, rfl, by simp [Cg], _, _, rfl, by simp [Cg], _, _, rfl, g3, _, _, rfl, by rw [FD]; exact k3, rfl⟩,
    ⟨by omega, g1, g2, k1, Wn fun t ht => k2 t ht, M5 wa, M5 wb⟩⟩
structure ed (P : Program) (tB tT tM tMs : TypeId) : Prop where
 uB : P.underlying tB = some .bool
 uMs : P.underlying tMs = some (.slice tM)
 fM : Jk P tM = some [(tT, 0), (tB, 5), (tT, 6), (tB, 11)]
 cB : P.cellsOf tB = 1
 cM : P.cellsOf tM = 12
theorem VH {b2 : Nat} {r : Reach} {t e : TypeId} (ut : P.underlying t = some (.slice e)) {v u : Value} (hk : Value.okWide P w r b2 t v) (h : v.cells.toList = [u]) : v = u := by
 unfold Value.okWide at hk
 rw [ut] at hk
 simp only at hk
 unfold Cell.okWide at hk
 rw [ut] at hk
 cases v with
 | agg cs => simp only at hk; unfold Cell.ok at hk; rw [ut] at hk; simp at hk
 | _ => simp [Value.cells] at h; exact h
theorem cm (E : FN P tI tS tV tVs tL tLs tT tTs) {b2 : Nat} {r : Reach} {v : Value} {d : DataW H} {ps : List MemPlace} (hk : Value.okWide P w r b2 tT v) (h : DataW.Trod enc P w base sp hd tT v d ps) : ∃ t : Tm, Wd t ∧ Cc F0 w (TV t) v := by
 obtain ⟨n, h⟩ := h
 obtain ⟨t, g1, g2⟩ := Z8 E _ _ _ h
 have hf := E.fT
 unfold Jk at hf
 unfold Value.okWide at hk
 split at hk
 ·obtain ⟨cs, rfl, _, _⟩ := hk
  refine ⟨t, g2, ?_⟩
  exact ⟨cs.toList, by simp, Cb.repL g1⟩
 ·rename_i hu
  rw [hu] at hf
  cases hf
 rename_i h1 h2
 split at hf
 ·rename_i fs hu; exact absurd hu (h1 fs)
 cases hf
end
theorem Tp {H : Type} {enc : TypeId × Value → H} {P : Program} {f : Func} {s : ChangeSpec} {tB : TypeId} (hl : laidOutB P = true) (hB : P.underlying tB = some .bool) (hrt : f.resultTypes = #[tB]) (hv0 : s.vars = []) {W W' : World} {args : Array Value} {ds : List (DataW H)} {before : List MemPlace}
  (hpr : ∀ t ∈ f.params.toList, P.readableRec t = true ∧ t < P.types.size) (hW : DataW.Whole enc P f.params.toList s.vars false W args.toList ds [] before) (hres : (s.fn H ds).results = [.lit (.bool true)]) (hargs : (s.fn H ds).args = ds) (hvars : (s.fn H ds).vars = []) (hb : Below W.heap.size W W') :
  s.post enc P f false true false false W args (.bool true) W' := by
 have hW' := hW
 obtain ⟨p, q, hA, hV, rfl, hfz, hnd⟩ := hW
 have hq : q = [] := by rw [hv0] at hV; exact hV
 subst hq
 have hstay : ∀ {ts : List TypeId} {vs : List Value} {ds : List (DataW H)} {ps : List MemPlace}, (∀ t ∈ ts, P.readableRec t = true ∧ t < P.types.size) → (∀ x ∈ ps, x.block < W.heap.size) → DataW.TrodAll enc P W 0 (fun _ => true) true ts vs ds ps → DataW.TrodAll enc P W' 0 (fun b => decide (b < W.heap.size)) true ts vs ds ps := by
  intro ts
  induction ts with
  | nil =>
   intro vs ds ps _ _ h
   cases vs <;> cases ds <;> simp [DataW.TrodAll] at h ⊢
   exact h
  | cons t ts ih =>
   intro vs ds ps h1 h2 h
   obtain ⟨v, vs', d, ds', a, b, rfl, rfl, rfl, h3, h4⟩ := trodAll_cons h
   exact ⟨a, b, Below.trod hl (h1 t Ax).1 (h1 t Ax).2 h3 hb (fun x hx => h2 x (by simp [hx])), ih (fun t ht => h1 t (by simp [ht])) (fun x hx => h2 x (by simp [hx])) h4, Ay⟩
 refine ⟨ds, [], p ++ [], [], p, [], hW', ?_, ?_, ?_, hb.frame _, fun h => by cases h⟩
 ·rw [List.append_nil, hres, hrt]
  refine ⟨[], [], ⟨1, ?_⟩, Ay, Ay⟩
  unfold DataW.trod
  rw [hB]
  rfl
 ·rw [List.append_nil, hargs]
  exact hstay hpr (fun x hx => hW'.lt x (by simpa using hx)) hA
 rw [List.append_nil, hvars, hv0]
 exact Ay
section
variable {H : Type} {enc : TypeId × Value → H} {P : Program} {w : World} {base : Nat} {sp : Nat → Bool} {hd : Bool} {tI tB tS tV tVs tL tLs tT tTs tM tMs : TypeId}
end
structure OC (P : Program) (tS tSs tTh : TypeId) : Prop where
 uSs : P.underlying tSs = some (.slice tS)
 cSs : P.cellsOf tSs = 1
 fTh : Jk P tTh = some [(tS, 0), (tS, 1), (tS, 2), (tS, 3), (tS, 4), (tS, 5), (tSs, 6)]
 cTh : P.cellsOf tTh = 7
 bS : P.bytesOf tS = 16
section
variable {H : Type} {enc : TypeId × Value → H} {P : Program} {w : World} {base : Nat} {sp : Nat → Bool} {hd : Bool} {tI tB tS tV tVs tL tLs tT tTs tM tMs tSs tTh : TypeId}
theorem Z5 (E : FN P tI tS tV tVs tL tLs tT tTs) {n : Nat} {cs : List Value} {y : DataW H × List MemPlace} (h : DataW.trod enc P w base sp hd n tS cs = some y) : ∃ s : ByteArray, Cb w [.str s] cs ∧ s.size < wide := by
 obtain ⟨s, hs, _, ws⟩ := DataW.trod_string E.uS h
 subst hs
 have hml : maxLen < wide := by decide
 exact ⟨s, ⟨_, _, Ay, by simp [Cg], rfl⟩, by omega⟩
theorem RV {t e : TypeId} (ut : P.underlying t = some (.slice e)) {n : Nat} {a : Option Addr} {l c : Nat} {y : DataW H × List MemPlace} (h : DataW.trod enc P w base sp hd n t [.slice a l c] = some y) {B : Nat} (hB : (y.1.weights P t).all (· ≤ B) = true) : l * P.bytesOf e ≤ B := by
 rcases DataW.trod_slice ut h with ⟨h1, _⟩ | ⟨a, len, cap, elems, rest, m, rfl, h1, rfl, hb, hl, hc, hel, _⟩
 ·injection h1 with h1; injection h1 with _ h1; subst h1; simp
 injection h1 with h1; injection h1 with _ h1; subst h1
 unfold DataW.weights at hB
 rw [ut] at hB
 simp only [List.all_cons, Bool.and_eq_true, decide_eq_true_eq, List.length_map] at hB
 have h2 := hB.1
 have h3 : l * P.bytesOf e ≤ (elems.length + rest.length) * P.bytesOf e := Nat.mul_le_mul_right _ Aw
 omega
theorem Ka {B : Nat} : ∀ {ts : List TypeId} {ds : List (DataW H)}, (DataW.weightsEach P ts ds).all (· ≤ B) = true → ∀ (i : Nat) (t : TypeId) (d : DataW H), ts[i]? = some t → ds[i]? = some d → (d.weights P t).all (· ≤ B) = true
 | [], _, _, i, t, d, h1, _ => by simp at h1
 | t :: ts, [], _, i, t', d, _, h2 => by simp at h2
 | t :: ts, d :: ds, h, i, t', d', h1, h2 => by
  unfold DataW.weightsEach at h
  rw [List.all_append, Bool.and_eq_true] at h
  cases i with
  | zero => simp at h1 h2; subst h1 h2; exact h.1
  | succ i => exact Ka h.2 i t' d' (by simpa using h1) (by simpa using h2)
theorem TZ {t : TypeId} {l : List (Nat × Nat)} (hf : Jk P t = some l) {n : Nat} {cs : List Value} {y : DataW H × List MemPlace} (h : DataW.trod enc P w base sp hd n t cs = some y) {B : Nat} (hB : (y.1.weights P t).all (· ≤ B) = true) (i : Nat) (p : Nat × Nat) (hp : l[i]? = some p) :
  ∃ m z, DataW.trod enc P w base sp hd m p.1 ((cs.drop p.2).take (P.cellsOf p.1)) = some z ∧ (z.1.weights P p.1).all (· ≤ B) = true := by
 unfold Jk at hf
 split at hf
 ·rename_i fs hu
  injection hf with hf
  subst hf
  obtain ⟨xs, m, h1, rfl, h2, h3, h4⟩ := DataW.trod_struct hu h
  rw [List.getElem?_map] at hp
  obtain ⟨fl, hfl, rfl⟩ := Option.map_eq_some_iff.1 hp
  have hi : fs[i]? = some fl := by simpa using hfl
  have hlt : i < xs.length := by rw [h3]; exact (Array.getElem?_eq_some_iff.1 hi).1
  have h5 := h4 i fl hi
  rw [List.getElem?_eq_getElem hlt] at h5
  refine ⟨m, _, h5, ?_⟩
  unfold DataW.weights at hB
  rw [hu] at hB
  exact Ka hB i fl.type _ (by simp [hi]) (by simp [List.getElem?_eq_getElem hlt])
 cases hf
theorem Yb (E : FN P tI tS tV tVs tL tLs tT tTs) (Q : OC P tS tSs tTh) {n : Nat} {cs : List Value} {y : DataW H × List MemPlace} (h : DataW.trod enc P w base sp hd n tTh cs = some y) (hB : (y.1.weights P tTh).all (· ≤ reachBytes) = true) : ∃ t : BY, Cb w (Ei t) cs ∧ t.lemmas.length ≤ 8796093021952 := by
 obtain ⟨m, rfl, hl, hg⟩ := N2 Q.fTh h
 rw [Q.cTh] at hl
 match cs, hl with
 | [c0, c1, c2, c3, c4, c5, c6], _ =>
  obtain ⟨z0, h0⟩ := hg 0 _ rfl
  obtain ⟨z1, h1⟩ := hg 1 _ rfl
  obtain ⟨z2, h2⟩ := hg 2 _ rfl
  obtain ⟨z3, h3⟩ := hg 3 _ rfl
  obtain ⟨z4, h4⟩ := hg 4 _ rfl
  obtain ⟨z5, h5⟩ := hg 5 _ rfl
  obtain ⟨m6, z6, h6, hb⟩ := TZ Q.fTh h hB 6 _ rfl
  simp only [E.cS, Q.cSs, List.drop_zero, List.drop_succ_cons, List.take_succ_cons, List.take_zero] at h0 h1 h2 h3 h4 h5 h6
  obtain ⟨s0, hs0, _, _⟩ := DataW.trod_string E.uS h0
  obtain ⟨s1, hs1, _, _⟩ := DataW.trod_string E.uS h1
  obtain ⟨s2, hs2, _, _⟩ := DataW.trod_string E.uS h2
  obtain ⟨s3, hs3, _, _⟩ := DataW.trod_string E.uS h3
  obtain ⟨s4, hs4, _, _⟩ := DataW.trod_string E.uS h4
  obtain ⟨s5, hs5, _, _⟩ := DataW.trod_string E.uS h5
  injection hs0 with hs0; injection hs1 with hs1; injection hs2 with hs2; injection hs3 with hs3; injection hs4 with hs4; injection hs5 with hs5
  subst hs0 hs1 hs2 hs3 hs4 hs5
  obtain ⟨ls, g1, _, v, hv, g3⟩ := Jh Q.uSs E.cS Av CZ (fun _ => True) (fun m cs y _ h => by obtain ⟨s, h1, _⟩ := Z5 E h; exact ⟨s, h1, trivial⟩) h6
  injection hv with hv
  subst hv
  have hlen : ls.length * 16 ≤ reachBytes := by
   rw [← Q.bS]
   simp only [Cg] at g3
   rcases g3 with ⟨hnil, _⟩ | ⟨b, o, c, sz, hv, _⟩
   ·have : ls = [] := by simpa using hnil
    subst this; simp
   subst hv
   have := RV Q.uSs h6 hb
   simpa using this
  refine ⟨⟨s0, s1, s2, s3, s4, s5, ls⟩, ⟨_, _, Ay, by simp [Cg], _, _, rfl, by simp [Cg], _, _, rfl, by simp [Cg], _, _, rfl, by simp [Cg], _, _, rfl, by simp [Cg], _, _, rfl, by simp [Cg], _, _, rfl, g3, rfl⟩, ?_⟩
  have : reachBytes = 140737488351232 := by decide
  simp only
  omega
theorem Zk (E : FN P tI tS tV tVs tL tLs tT tTs) (Q : OC P tS tSs tTh) {b2 : Nat} {r : Reach} {v : Value} {d : DataW H} {ps : List MemPlace} (hk : Value.okWide P w r b2 tTh v) (h : DataW.Trod enc P w base sp hd tTh v d ps) (hB : (d.weights P tTh).all (· ≤ reachBytes) = true) : ∃ t : BY, t.lemmas.length ≤ 8796093021952 ∧ Cc F0 w (.agg ((Ei t).map .p)) v := by
 obtain ⟨n, h⟩ := h
 obtain ⟨t, g1, g2⟩ := Yb E Q h hB
 have hf := Q.fTh
 unfold Jk at hf
 unfold Value.okWide at hk
 split at hk
 ·obtain ⟨cs, rfl, _, _⟩ := hk
  refine ⟨t, g2, ?_⟩
  exact ⟨cs.toList, by simp, Cb.repL g1⟩
 ·rename_i hu
  rw [hu] at hf
  cases hf
 rename_i h1 h2
 split at hf
 ·rename_i fs hu; exact absurd hu (h1 fs)
 cases hf
end
theorem Vd {w : World} {GL : List (Nat × Obj)} (hG : ∀ p ∈ GL, w.heap[p.1]? = some p.2) : HRel F0 [.glob GL] w :=
 { sub := fun o ho b hb => by
    rw [List.mem_singleton] at ho
    subst ho
    cases hb
   nodup := (List.nodup_nil : ([] : List Nat).Nodup)
   obj := fun o ho => by
    rw [List.mem_singleton] at ho
    subst ho
    exact fun p hp => ⟨hG p hp, fun h => h⟩
   bd := fun b hb => hb.elim }
theorem Ry {P : Program} {f : FuncId} {xs : List AV} {GL : List (Nat × Obj)} (h : B1 P f xs [.glob GL] (Dq (.p (.bool true)) [.glob GL])) {w : World} (hG : ∀ p ∈ GL, w.heap[p.1]? = some p.2) {vs : List Value} (ha : CF F0 w xs vs) : Calls P f ⟨vs⟩ w fun e w' => e = .returned (.bool true) ∧ Below w.heap.size w w' := by
 refine (h.2 F0 w vs (Vd hG) ha).mono ?_
 rintro e w' ⟨r, H', F', hr, he, hH, ht⟩
 cases r with
 | panic v => exact hr.elim
 | val v =>
  obtain ⟨rfl, rfl⟩ := hr
  obtain ⟨u, rfl, hu⟩ := he
  simp only [Cc, Cg] at hu
  subst hu
  exact ⟨Ay, ht.os, ht.tape, ht.out, ht.size, fun k hk => ht.same k hk fun o ho => by rw [List.mem_singleton] at ho; subst ho; exact fun h => by cases h⟩
end Go.Eu
namespace Go.Proofs.YtapmjpihennhaaaGreatDoor
open Go.Eu Go.Lib Go.ChangeShapes Go.WideShapes Go.ChangeAt Go.RowKit
theorem own : ownKnob Tryz.prog.godebug = none := by kernel_rfl
theorem laidOut : laidOutB Tryz.prog = true := by kernel_rfl
theorem fH : FN Tryz.prog 3 9 112 106 108 31 33 26 := ⟨by kernel_rfl, by kernel_rfl, by kernel_rfl, by kernel_rfl, by kernel_rfl, by kernel_rfl, by kernel_rfl, by kernel_rfl, by kernel_rfl, by kernel_rfl, by kernel_rfl, by kernel_rfl, by kernel_rfl, by kernel_rfl, by kernel_rfl, by kernel_rfl⟩
theorem e8 : OC Tryz.prog 9 22 24 := ⟨by kernel_rfl, by kernel_rfl, by kernel_rfl, by kernel_rfl, by kernel_rfl⟩
abbrev KG : List (String × DataW Unit) := Rows.abelianBuildsRow.laid
theorem bY : Rows.laid_strconv_isPrint16 = sliceData .u16 goPrintTabs.p16 := by kernel_rfl
theorem dx : Rows.laid_strconv_isNotPrint16 = sliceData .u16 goPrintTabs.n16 := by kernel_rfl
theorem cj : Rows.laid_strconv_isPrint32 = sliceData .u32 goPrintTabs.p32 := by kernel_rfl
theorem cg : Rows.laid_strconv_isNotPrint32 = sliceData .u16 goPrintTabs.n32 := by kernel_rfl
theorem fP : Rows.laid_strconv_isGraphic = sliceData .u16 Go.Pinned.isGraphicZ := by kernel_rfl
theorem ez : Rows.laid_unicode_utf8_first = firstData := by kernel_rfl
theorem gi : (Rows.laid_unicode_utf8_acceptRanges : DataW Unit) = acceptData := by kernel_rfl
theorem gE : (Rows.laid_internal_strconv_uint64pow10 : DataW Unit) = tabData .u64 pow10Tab := by kernel_rfl
theorem YL {W : World} (h : laidMet Tryz.prog KG W) : Utf8Tabs 1 2 W :=
 utf8Tabs_of_reads (ρ := Tryz.lays177_ren) { Tryz.lays177 with } ⟨by kernel_rfl, by kernel_rfl, by kernel_rfl, by kernel_rfl, by kernel_rfl, by kernel_rfl, by kernel_rfl⟩
  (laidMet.reads h (by rw [← ez]; simp [KG, Rows.abelianBuildsRow])) (laidMet.reads h (by rw [← gi]; simp [KG, Rows.abelianBuildsRow]))
theorem WE {W : World} (h : laidMet Tryz.prog KG W) : PrintTabsAt 3 4 5 6 goPrintTabs W :=
 printTabs_of_reads (ρ := Tryz.lays177_ren) { Tryz.lays177 with } ⟨by kernel_rfl, by kernel_rfl, by kernel_rfl, by kernel_rfl, by kernel_rfl, by kernel_rfl, by kernel_rfl, by kernel_rfl, by kernel_rfl, by kernel_rfl⟩
  (laidMet.reads h (by rw [← bY]; simp [KG, Rows.abelianBuildsRow])) (laidMet.reads h (by rw [← dx]; simp [KG, Rows.abelianBuildsRow])) (laidMet.reads h (by rw [← cj]; simp [KG, Rows.abelianBuildsRow])) (laidMet.reads h (by rw [← cg]; simp [KG, Rows.abelianBuildsRow]))
theorem aM {W : World} (h : laidMet Tryz.prog KG W) : TabIs Tryz.prog W "internal/strconv.uint64pow10" .u64 pow10Tab := by
 obtain ⟨g, t, cs, fuel, p, hg, hty, hvar, hd⟩ := laidMet.reads h (n := "internal/strconv.uint64pow10") (d := tabData .u64 pow10Tab) (by rw [← gE]; simp [KG, Rows.abelianBuildsRow])
 have hg0 : Tryz.prog.globalNamed "internal/strconv.uint64pow10" = some 0 := by kernel_rfl
 obtain rfl := Option.some.inj (hg0.symm.trans hg)
 have hty0 : (Tryz.prog.globals[0]?).map (·.type) = some 242 := by kernel_rfl
 obtain rfl := Option.some.inj (hty0.symm.trans hty)
 have h1 : Tryz.prog.underlying 242 = some (.array 20 232) := by kernel_rfl
 have h2 : Tryz.prog.underlying 232 = some (.int .u64) := by kernel_rfl
 unfold TabIs
 rw [hvar, ← cells_of_tab h1 h2 Ar Ar hd]
def ia : DataW Unit → Array Value
 | .agg l => (l.map fun (d : DataW Unit) => match d with
  | DataW.lit (Lit.int _ n) => Value.int .u8 n
  | _ => Value.int .u8 0).toArray
 | _ => #[]
noncomputable def Fb (os : Os) : World :=
 let N := (World.settled Tryz.prog os).heap.size
 let T := goPrintTabs
 let w0 := World.holding Tryz.prog os ⟨#[
  .cells (intCellsOf .u16 T.p16) 254, .cells (intCellsOf .u16 T.n16) 254, .cells (intCellsOf .u32 T.p32) 243, .cells (intCellsOf .u16 T.n32) 254, .cells (intCellsOf .u16 Go.Pinned.isGraphicZ) 254], #[], []⟩
 let put (h : Array Obj) (g : Nat) (cs : Array Value) : Array Obj := h.modify g fun
  | .cells _ t frozen => .cells cs t frozen
  | o => o
 let h0 := put w0.heap 0 (pow10Tab.map fun z => Value.int .u64 z).toArray
 let h1 := put h0 1 (firstTab.map fun z => Value.int .u8 z).toArray
 let h2 := put h1 2 ((List.range 16).flatMap fun i => [Value.int .u8 (accLo i), Value.int .u8 (accHi i)]).toArray
 let h3 := put h2 3 #[.slice (some ⟨N, 0, none⟩) T.p16.length T.p16.length]
 let h4 := put h3 4 #[.slice (some ⟨N + 1, 0, none⟩) T.n16.length T.n16.length]
 let h5 := put h4 5 #[.slice (some ⟨N + 2, 0, none⟩) T.p32.length T.p32.length]
 let h6 := put h5 6 #[.slice (some ⟨N + 3, 0, none⟩) T.n32.length T.n32.length]
 let h7 := put h6 7 #[.slice (some ⟨N + 4, 0, none⟩) Go.Pinned.isGraphicZ.length Go.Pinned.isGraphicZ.length]
 let h8 := put h7 8 (ia Rows.laid_math_bits_deBruijn32tab)
 let h9 := put h8 9 (ia Rows.laid_math_bits_deBruijn64tab)
 { w0 with heap := h9 }
noncomputable abbrev N0 : Nat := (World.settled Tryz.prog default).heap.size
section
variable (os : Os) (args : Array Value)
theorem aT : LaidIn Tryz.prog ((Fb os).forCall (fun _ _ => 0) ⟨#[], args, []⟩).memory [("math/bits.deBruijn32tab", Rows.laid_math_bits_deBruijn32tab), ("math/bits.deBruijn64tab", Rows.laid_math_bits_deBruijn64tab), ("internal/strconv.uint64pow10", Rows.laid_internal_strconv_uint64pow10), ("unicode/utf8.acceptRanges", Rows.laid_unicode_utf8_acceptRanges)] [8, 9, 0, 2] :=
 LaidIn.of_run [8, 9, 0, 2] 8 Ar Ar Ar Ar
theorem aB : LaidIn Tryz.prog ((Fb os).forCall (fun _ _ => 0) ⟨#[], args, []⟩).memory [("unicode/utf8.first", Rows.laid_unicode_utf8_first)] [1] :=
 LaidIn.of_run [1] 8 Ar Ar Ar Ar
theorem a6 : LaidIn Tryz.prog ((Fb os).forCall (fun _ _ => 0) ⟨#[], args, []⟩).memory [("strconv.isPrint16", Rows.laid_strconv_isPrint16)] [3, N0] := by
 rw [bY]
 exact laidIn_slice (t := 255) (e := 254) (te := 254) goPrintTabs.p16 N0 Ar Ar Ar Ar Ar Ar Ar Ar (of_decide_eq_true Ar) (of_decide_eq_true Ar)
theorem Z4 : LaidIn Tryz.prog ((Fb os).forCall (fun _ _ => 0) ⟨#[], args, []⟩).memory [("strconv.isNotPrint16", Rows.laid_strconv_isNotPrint16)] [4, N0 + 1] := by
 rw [dx]
 exact laidIn_slice (t := 255) (e := 254) (te := 254) goPrintTabs.n16 (N0 + 1) Ar Ar Ar Ar Ar Ar Ar Ar (of_decide_eq_true Ar) (of_decide_eq_true Ar)
theorem Zp : LaidIn Tryz.prog ((Fb os).forCall (fun _ _ => 0) ⟨#[], args, []⟩).memory [("strconv.isPrint32", Rows.laid_strconv_isPrint32)] [5, N0 + 2] := by
 rw [cj]
 exact laidIn_slice (t := 257) (e := 243) (te := 243) goPrintTabs.p32 (N0 + 2) Ar Ar Ar Ar Ar Ar Ar Ar (of_decide_eq_true Ar) (of_decide_eq_true Ar)
theorem ae : LaidIn Tryz.prog ((Fb os).forCall (fun _ _ => 0) ⟨#[], args, []⟩).memory [("strconv.isNotPrint32", Rows.laid_strconv_isNotPrint32)] [6, N0 + 3] := by
 rw [cg]
 exact laidIn_slice (t := 255) (e := 254) (te := 254) goPrintTabs.n32 (N0 + 3) Ar Ar Ar Ar Ar Ar Ar Ar (of_decide_eq_true Ar) (of_decide_eq_true Ar)
theorem Zy : LaidIn Tryz.prog ((Fb os).forCall (fun _ _ => 0) ⟨#[], args, []⟩).memory [("strconv.isGraphic", Rows.laid_strconv_isGraphic)] [7, N0 + 4] := by
 rw [fP]
 exact laidIn_slice (t := 255) (e := 254) (te := 254) Go.Pinned.isGraphicZ (N0 + 4) Ar Ar Ar Ar Ar Ar Ar Ar (of_decide_eq_true Ar) (of_decide_eq_true Ar)
theorem XK : laidMet Tryz.prog KG ((Fb os).forCall (fun _ _ => 0) ⟨#[], args, []⟩).memory :=
 ((((((aT os args).append (Zy os args) Ar).append (Z4 os args) Ar).append (ae os args) Ar).append (a6 os args) Ar).append (Zp os args) Ar |>.append (aB os args) Ar).met
end
end Go.Proofs.YtapmjpihennhaaaGreatDoor
namespace Go.Eu
open Go.Abs
def fY : List Int → List Tm → (Tm → Int) → Int
 | c :: cs, a :: as', v => c * v a + fY cs as' v
 | _, _, _ => 0
noncomputable def gZ (th : BY) (v : Tm → Int) : Nat → Tm → Int
 | 0, _ => 0
 | n + 1, t =>
  if (DU th t).1 = 1 then gZ th v n ((DU th t).2.getD 0 Be) + gZ th v n ((DU th t).2.getD 1 Be)
  else if (DU th t).1 = 2 then 0
  else if (DU th t).1 = 3 then - gZ th v n ((DU th t).2.getD 0 Be)
  else v t
structure jQ (th : BY) (C : HA) : Prop where
 nodup : C.atoms.Nodup
 atom : ∀ a ∈ C.atoms, (DU th a).1 = 0
 Je : ∀ c ∈ C.coefs, Je c
noncomputable def iX (cs : List Int) (us : List Tm) (t : Tm) : Int := if DA us t < us.length then cs.getD (DA us t) 0 else 0
noncomputable def jK (u t : Tm) : Int := @ite _ (t = u) (Classical.propDecidable _) 1 0
section
variable {th : BY} {a b : Tm}
abbrev ij (th : BY) (a b : Tm) : Tm := Bh th.add [a, Bh th.neg [b]]
end
def iN (n : Int) : List PV := [.int .i8 n]
noncomputable def ik (us : List Tm) (vs : List Int) (t : Tm) : Int := vs.getD (DA us t) 0
def hZ (f : Tm → Int) : List Tm → Int
 | [] => 0
 | t :: l => f t + hZ f l
def eh : List Int → List Int → Nat → Int
 | c :: cs, vs, k => c * vs.getD k 0 + eh cs vs (k + 1)
 | [], _, _ => 0
noncomputable def jY (us : List Tm) (t : Tm) : Int := if DA us t < us.length then (DA us t : Int) else -1
section
variable {th : BY} {t : Tm} {us : List Tm} {n : Nat} {v : Tm → Int}
end
section
variable {th : BY} {v : Tm → Int}
end
end Go.Eu
namespace Go.Eu
open Go.Abs Go.RowKit Go.ChangeShapes Go.ChangeAt Go.WideShapes
section
variable {H : Type} {enc : TypeId × Value → H} {P : Program} {w : World} {base : Nat} {sp : Nat → Bool} {hd : Bool}
end
end Go.Eu
namespace Go.Proofs.YtapmjpihennhaaaGreatDoor
end Go.Proofs.YtapmjpihennhaaaGreatDoor
namespace Go.Eu
open Go.Abs Go.RowKit Go.ChangeShapes Go.ChangeAt Go.WideShapes
structure VL (H : Type) where
 b : DataW H → Nat
 a : List (DataW H) → Nat
 str : ∀ s, b (.lit (.string s)) = s.length + 1
 slice : ∀ e s, b (.slice e s) = a e + a s + 1
 agg : ∀ p, b (.agg p) = a p + 1
 nil : a [] = 0
 cons : ∀ d r, a (d :: r) = b d + a r
 pos : ∀ d, 1 ≤ b d
namespace VL
variable {H : Type} (K : VL H)
theorem mem {l : List (DataW H)} {i : Nat} {d : DataW H} (h : l[i]? = some d) : K.b d ≤ K.a l := by
 induction l generalizing i with
 | nil => simp at h
 | cons x r ih =>
  rw [K.cons]
  cases i with
  | zero => simp at h; subst h; omega
  | succ i => have := ih (by simpa using h); omega
theorem mem2 {l : List (DataW H)} {i : Nat} {d : DataW H} (h : l[i]? = some d) : K.b d + l.length ≤ K.a l + 1 := by
 have len : ∀ l : List (DataW H), l.length ≤ K.a l := by
  intro l
  induction l with
  | nil => simp
  | cons x r ih => rw [K.cons]; have := K.pos x; simp only [List.length_cons]; omega
 induction l generalizing i with
 | nil => simp at h
 | cons x r ih =>
  rw [K.cons]
  simp only [List.length_cons]
  cases i with
  | zero => simp at h; subst h; have := len r; omega
  | succ i => have := ih (by simpa using h); have := K.pos x; omega
theorem drop1 {l : List (DataW H)} {i : Nat} {d : DataW H} (h : l[i]? = some d) : K.a (l.drop i) = K.b d + K.a (l.drop (i + 1)) := by
 induction l generalizing i with
 | nil => simp at h
 | cons x r ih =>
  cases i with
  | zero => simp at h; subst h; simp [K.cons]
  | succ i => simpa using ih (by simpa using h)
end VL
def Q5 {α : Type} (M : α → Nat) : List α → Nat
 | [] => 0
 | a :: l => M a + Q5 M l
section
variable {H : Type} {enc : TypeId × Value → H} {P : Program} {w : World} {base : Nat} {sp : Nat → Bool} {hd : Bool} {n : Nat} (K : VL H)
theorem FF {α : Type} {e t C : Nat} (ut : P.underlying t = some (.slice e)) (hC : P.cellsOf e = C) (hC1 : 1 ≤ C) (f : α → List PV) (Q : α → Prop) (M : α → Nat) {B : Nat}
  (he : ∀ m cs y, m < n → DataW.trod enc P w base sp hd m e cs = some y → K.b y.1 ≤ B → ∃ a, Cb w (f a) cs ∧ Q a ∧ M a ≤ K.b y.1) {cs : List Value} {y : DataW H × List MemPlace} (h : DataW.trod enc P w base sp hd n t cs = some y) (hB : K.b y.1 ≤ B) :
  ∃ l : List α, l.length ≤ K.b y.1 ∧ Q5 M l + 1 ≤ K.b y.1 ∧ (∀ a ∈ l, Q a) ∧ ∃ v, cs = [v] ∧ Cg F0 w (.lst (l.map f)) v := by
 rcases DataW.trod_slice ut h with ⟨rfl, rfl⟩ | ⟨a, len, cap, elems, rest, m, rfl, rfl, rfl, hb, hl, hc, hel, hget, _, _⟩
 ·exact ⟨[], by simp, by have := K.pos DataW.nil; simpa [Q5] using this, fun a ha => by simp at ha, _, rfl, by simp only [Cg]; exact .inl ⟨rfl, none, 0, rfl⟩⟩
 rw [hC] at hget
 simp only [K.slice] at hB ⊢
 have hml : maxLen < wide := by decide
 rcases Nat.eq_zero_or_pos len with h0 | h0
 ·subst h0
  exact ⟨[], by simp, by simp [Q5], fun a ha => by simp at ha, _, rfl, by simp only [Cg]; exact .inl ⟨rfl, some a, cap, rfl⟩⟩
 have hone : ∀ i, i < len → ∃ ci y, w.cells? base (a.add (i * C)) C = some ci ∧ DataW.trod enc P w base sp hd m e ci = some y ∧ (elems.map (·.1))[i]? = some y.1 := fun i hi => by
  have := hget i hi
  rw [List.getElem?_eq_getElem Aw] at this
  obtain ⟨ci, h1, h2⟩ := Option.bind_eq_some_iff.1 this
  exact ⟨ci, _, h1, h2, by simp [List.getElem?_eq_getElem (show i < elems.length by omega)]⟩
 obtain ⟨c0, y0, hc0, _⟩ := hone 0 h0
 obtain ⟨hl0, hg0⟩ := LG hc0
 have hcell : ∃ v, w.cell? a = some v := by
  have := hg0 0 Aw
  rw [Nat.zero_mul, Addr.add, if_pos rfl, Addr.add, if_pos rfl] at this
  rw [List.getElem?_eq_getElem Aw] at this
  exact ⟨_, this⟩
 obtain ⟨v0, hv0⟩ := hcell
 obtain ⟨blk, off, spot⟩ := a
 have hspot : spot = none := by
  unfold World.cell? at hv0
  simp only at hv0
  split at hv0
  ·cases spot with
   | none => rfl
   | some s => simp at hv0
  cases hv0
 subst hspot
 have hblk : blk < w.heap.size := by
  unfold World.cell? at hv0
  simp only at hv0
  split at hv0
  ·rename_i hh; exact (Array.getElem?_eq_some_iff.1 hh).1
  cases hv0
 have hadd : ∀ k, (⟨blk, off, none⟩ : Addr).add k = ⟨blk, off + k, none⟩ := fun k => by
  unfold Addr.add
  split
  ·rename_i e; subst e; rfl
  rfl
 have hadd2 : ∀ o k, (⟨blk, o, none⟩ : Addr).add k = ⟨blk, o + k, none⟩ := fun o k => by
  unfold Addr.add
  split
  ·rename_i e; subst e; rfl
  rfl
 have hrows : ∀ k, k ≤ len → ∃ l : List α, l.length = k ∧ k ≤ K.a ((elems.map (·.1)).drop (len - k)) ∧ Q5 M l ≤ K.a ((elems.map (·.1)).drop (len - k)) ∧ (∀ x ∈ l, Q x) ∧ CG F0 w blk C (off + (len - k) * C) (l.map f) := by
  intro k
  induction k with
  | zero => exact fun _ => ⟨[], rfl, by omega, by simp [Q5], fun a ha => by simp at ha, by simp [CG]⟩
  | succ k ih =>
   intro hk
   obtain ⟨l, h1, h5, h6, h2, h3⟩ := ih Aw
   obtain ⟨ci, y, hci, ht, hy⟩ := hone (len - (k + 1)) Aw
   obtain ⟨g1, g2⟩ := LG hci
   have hd1 := K.drop1 hy
   rw [show len - (k + 1) + 1 = len - k by omega] at hd1
   obtain ⟨x, hx, hq, hM⟩ := he m ci y Aw ht (by have := K.mem hy; omega)
   have hp := K.pos y.1
   refine ⟨x :: l, by simp [h1], by omega, by rw [Q5]; omega, fun z hz => ?_, ?_⟩
   ·rcases List.mem_cons.1 hz with rfl | hz
    ·exact hq
    exact h2 z hz
   refine ⟨by rw [hx.length, g1], NH _ ci _ hx fun j hj => ?_, ?_⟩
   ·have := g2 j Aw
    rw [hadd, hadd2] at this
    exact this
   rw [show off + (len - (k + 1)) * C + C = off + (len - k) * C by rw [Nat.add_assoc, ← Nat.succ_mul]; congr 2; omega]
   exact h3
 obtain ⟨l, h1, h5, h6, h2, h3⟩ := hrows len (Nat.le_refl _)
 rw [Nat.sub_self, List.drop_zero] at h5 h6
 rw [Nat.sub_self, Nat.zero_mul, Nat.add_zero] at h3
 refine ⟨l, by omega, by omega, h2, _, rfl, ?_⟩
 simp only [Cg]
 exact .inr ⟨blk, off, cap, C, by rw [List.length_map, h1], fun h => h, hblk, by rw [List.length_map]; omega, h3⟩
theorem Hd {t : TypeId} {l : List (Nat × Nat)} (hf : Jk P t = some l) {cs : List Value} {y : DataW H × List MemPlace} (h : DataW.trod enc P w base sp hd n t cs = some y) :
  ∃ m, n = m + 1 ∧ cs.length = P.cellsOf t ∧ ∀ (i : Nat) (p : Nat × Nat), l[i]? = some p → ∃ z, DataW.trod enc P w base sp hd m p.1 ((cs.drop p.2).take (P.cellsOf p.1)) = some z ∧ K.b z.1 + l.length ≤ K.b y.1 := by
 unfold Jk at hf
 split at hf
 ·rename_i fs hu
  injection hf with hf
  subst hf
  obtain ⟨xs, m, h1, rfl, h2, h3, h4⟩ := DataW.trod_struct hu h
  refine ⟨m, h1, h2, fun i p hp => ?_⟩
  rw [List.getElem?_map] at hp
  obtain ⟨fl, hfl, rfl⟩ := Option.map_eq_some_iff.1 hp
  have hi : fs[i]? = some fl := by simpa using hfl
  have := h4 i fl hi
  have hlt : i < xs.length := by rw [h3]; exact (Array.getElem?_eq_some_iff.1 hi).1
  rw [List.getElem?_eq_getElem hlt] at this
  refine ⟨_, this, ?_⟩
  rw [K.agg]
  have := K.mem2 (l := xs.map (·.1)) (i := i) (d := xs[i].1) (by simp [List.getElem?_eq_getElem hlt])
  simp only [List.length_map, Array.length_toList] at this ⊢
  omega
 cases hf
theorem Cb.cut {a b : List PV} {cs : List Value} {o k : Nat} (h : Cb w a ((cs.drop o).take k)) (h' : Cb w b (cs.drop (o + k))) : Cb w (a ++ b) (cs.drop o) := by
 rw [← List.take_append_drop k (cs.drop o), List.drop_drop]
 exact Cb.append h h'
theorem Cb.end {cs : List Value} {k : Nat} (h : cs.length = k) : Cb w [] (cs.drop k) := by
 rw [List.drop_eq_nil_of_le Aw]; rfl
end
end Go.Eu
namespace Go.Eu
open Go.Abs Go.RowKit Go.ChangeShapes Go.ChangeAt Go.WideShapes
theorem Np : ∀ l : List Tm, Q5 (fun t => 5 * size t) l = 5 * CE l
 | [] => rfl
 | t :: l => by rw [Q5, CE, Np l]; omega
structure RP (P : Program) (tI tB tS tT tTs tC tCs tR tTr tBr tBrs tF tFs tD tDs : TypeId) : Prop where
 uB : P.underlying tB = some .bool
 uCs : P.underlying tCs = some (.slice tC)
 uBrs : P.underlying tBrs = some (.slice tBr)
 uFs : P.underlying tFs = some (.slice tF)
 uDs : P.underlying tDs = some (.slice tD)
 fC : Jk P tC = some [(tS, 0), (tT, 1)]
 fR : Jk P tR = some [(tI, 0), (tT, 1), (tTs, 6)]
 fTr : Jk P tTr = some [(tI, 0), (tT, 1), (tI, 6), (tBrs, 7)]
 fBr : Jk P tBr = some [(tS, 0), (tB, 1), (tTr, 2)]
 fF : Jk P tF = some [(tS, 0), (tT, 1), (tI, 6), (tTr, 7)]
 fD : Jk P tD = some [(tI, 0), (tS, 1), (tI, 2), (tT, 3), (tT, 8), (tI, 13), (tCs, 14), (tR, 15), (tFs, 22)]
 cB : P.cellsOf tB = 1
 cCs : P.cellsOf tCs = 1
 cBrs : P.cellsOf tBrs = 1
 cFs : P.cellsOf tFs = 1
 cDs : P.cellsOf tDs = 1
 cC : P.cellsOf tC = 6
 cR : P.cellsOf tR = 7
 cTr : P.cellsOf tTr = 8
 cBr : P.cellsOf tBr = 10
 cF : P.cellsOf tF = 15
 cD : P.cellsOf tD = 23
section
variable {H : Type} {enc : TypeId × Value → H} {P : Program} {w : World} {base : Nat} {sp : Nat → Bool} {hd : Bool} {tI tB tS tV tVs tL tLs tT tTs tC tCs tR tTr tBr tBrs tF tFs tD tDs : TypeId} (K : VL H)
theorem GJ (E : FN P tI tS tV tVs tL tLs tT tTs) {n : Nat} {cs : List Value} {y : DataW H × List MemPlace} (h : DataW.trod enc P w base sp hd n tI cs = some y) : ∃ a : Int, Cb w [I a] cs ∧ Je a := by
 obtain ⟨a, rfl, _, fa⟩ := DataW.trod_int E.uI h
 exact ⟨a, Cb.one (by simp [Cg]), M5 fa⟩
theorem KU (E : FN P tI tS tV tVs tL tLs tT tTs) {n : Nat} {cs : List Value} {y : DataW H × List MemPlace} (h : DataW.trod enc P w base sp hd n tS cs = some y) : ∃ s : ByteArray, Cb w [.str s] cs ∧ s.size + 1 ≤ K.b y.1 := by
 obtain ⟨s, rfl, rfl, _⟩ := DataW.trod_string E.uS h
 refine ⟨s, Cb.one (by simp [Cg]), ?_⟩
 rw [K.str]
 exact Nat.le_refl _
theorem Uu (D : RP P tI tB tS tT tTs tC tCs tR tTr tBr tBrs tF tFs tD tDs) {n : Nat} {cs : List Value} {y : DataW H × List MemPlace} (h : DataW.trod enc P w base sp hd n tB cs = some y) : ∃ b : Bool, Cb w [.bool b] cs := by
 obtain ⟨b, rfl, _⟩ := DataW.trod_bool D.uB h
 exact ⟨b, Cb.one (by simp [Cg])⟩
theorem YM (E : FN P tI tS tV tVs tL tLs tT tTs) {n : Nat} {cs : List Value} {y : DataW H × List MemPlace} (h : DataW.trod enc P w base sp hd n tL cs = some y) (hB : K.b y.1 ≤ 1048576) : ∃ v : Fl, Cb w (Dx v) cs ∧ V3 v := by
 obtain ⟨m, rfl, hl, hg⟩ := Hd K E.fL h
 rw [E.cL] at hl
 obtain ⟨z0, h0, b0⟩ := hg 0 _ rfl
 obtain ⟨z1, h1, b1⟩ := hg 1 _ rfl
 simp only [E.cI, E.cVs] at h0 h1
 obtain ⟨a, ha, ra⟩ := GJ E h0
 obtain ⟨l, g1, _, g2, v, hv, g3⟩ := FF K E.uVs E.cV Av Er (fun v => Je v.index ∧ Je v.plus) (fun _ => 1) (B := 1048576) (fun m cs y _ h _ => by obtain ⟨v, q1, q2⟩ := Wf E h; exact ⟨v, q1, q2, K.pos _⟩) h1 Aw
 refine ⟨⟨a, l⟩, ?_, ⟨by simp only [EB]; omega, ra, g2⟩⟩
 have := Cb.cut (o := 0) ha (Cb.cut (o := 1) (a := [.lst (l.map Er)]) (k := 1) (by rw [hv]; exact Cb.one g3) (Cb.end hl))
 simpa [Dx] using this
theorem X9 (E : FN P tI tS tV tVs tL tLs tT tTs) : ∀ (n : Nat) (cs : List Value) (y : DataW H × List MemPlace), DataW.trod enc P w base sp hd n tT cs = some y → K.b y.1 ≤ 1048576 → ∃ t : Tm, Cb w (Bu t) cs ∧ Nd t ∧ 5 * size t ≤ K.b y.1 := by
 intro n
 induction n using Nat.strongRecOn with
 | ind n ih =>
  intro cs y h hB
  obtain ⟨m, rfl, hl, hg⟩ := Hd K E.fT h
  rw [E.cT] at hl
  obtain ⟨z0, h0, b0⟩ := hg 0 _ rfl
  obtain ⟨z1, h1, b1⟩ := hg 1 _ rfl
  obtain ⟨z2, h2, b2⟩ := hg 2 _ rfl
  obtain ⟨z3, h3, b3⟩ := hg 3 _ rfl
  obtain ⟨z4, h4, b4⟩ := hg 4 _ rfl
  simp only [E.cI, E.cS, E.cLs, E.cTs] at h0 h1 h2 h3 h4
  obtain ⟨a, ha, ra⟩ := GJ E h0
  obtain ⟨b, hb, rb⟩ := GJ E h1
  obtain ⟨s, hs, ws⟩ := KU K E h2
  obtain ⟨l, g1, _, g2, v, hv, g3⟩ := FF K E.uLs E.cL Av Dx V3 (fun _ => 1) (B := 1048576) (fun m cs y _ h hB => by obtain ⟨v, q1, q2⟩ := YM K E h hB; exact ⟨v, q1, q2, K.pos _⟩) h3 Aw
  obtain ⟨ks, k1, k4, k2, u, hu, k3⟩ := FF K E.uTs E.cT Av Bu Nd (fun t => 5 * size t) (B := 1048576) (fun m' cs y hm h hB => ih m' Aw cs y h hB) h4 Aw
  refine ⟨.mk a b s l ks, ?_, ⟨by simp only [EB]; omega, by simp only [EB]; omega, g2, by simp only [EB]; omega, Qy k2, ra, rb⟩, by rw [Np] at k4; simp only [List.length_cons, List.length_nil] at b4; simp only [size]; omega⟩
  have := Cb.cut (o := 0) ha (Cb.cut (o := 1) hb (Cb.cut (o := 2) hs (Cb.cut (o := 3) (a := [.lst (l.map Dx)]) (k := 1) (by rw [hv]; exact Cb.one g3) (Cb.cut (o := 4) (a := [.lst (Bg ks)]) (k := 1) (by rw [hu, FD]; exact Cb.one k3) (Cb.end hl)))))
  simpa [Bu] using this
theorem IX (E : FN P tI tS tV tVs tL tLs tT tTs) {n : Nat} {cs : List Value} {y : DataW H × List MemPlace} (h : DataW.trod enc P w base sp hd n tT cs = some y) (hB : K.b y.1 ≤ 1048576) : ∃ t : Tm, Cb w (Bu t) cs ∧ Ss t := by
 obtain ⟨t, h1, h2, h3⟩ := X9 K E n cs y h hB
 exact ⟨t, h1, h2, by omega⟩
theorem Xa (E : FN P tI tS tV tVs tL tLs tT tTs) {n : Nat} {cs : List Value} {y : DataW H × List MemPlace} (h : DataW.trod enc P w base sp hd n tTs cs = some y) (hB : K.b y.1 ≤ 1048576) : ∃ l : List Tm, l.length < 2000000 ∧ (∀ t ∈ l, Ss t) ∧ Cb w [.lst (Bg l)] cs := by
 obtain ⟨l, g1, _, g2, v, rfl, g3⟩ := FF K E.uTs E.cT Av Bu Ss (fun _ => 1) (B := 1048576) (fun m cs y _ h hB => by obtain ⟨v, q1, q2⟩ := IX K E h hB; exact ⟨v, q1, q2, K.pos _⟩) h hB
 exact ⟨l, by omega, g2, Cb.one (by rw [FD]; exact g3)⟩
variable (D : RP P tI tB tS tT tTs tC tCs tR tTr tBr tBrs tF tFs tD tDs) (E : FN P tI tS tV tVs tL tLs tT tTs)
include D E
theorem Xr {n : Nat} {cs : List Value} {y : DataW H × List MemPlace} (h : DataW.trod enc P w base sp hd n tC cs = some y) (hB : K.b y.1 ≤ 1048576) : ∃ c : KH, Cb w (IZ c) cs ∧ Ws c := by
 obtain ⟨m, rfl, hl, hg⟩ := Hd K D.fC h
 rw [D.cC] at hl
 obtain ⟨z0, h0, b0⟩ := hg 0 _ rfl
 obtain ⟨z1, h1, b1⟩ := hg 1 _ rfl
 simp only [E.cS, E.cT] at h0 h1
 obtain ⟨s, hs, ws⟩ := KU K E h0
 obtain ⟨t, ht, wt⟩ := IX K E h1 Aw
 refine ⟨⟨s, t⟩, ?_, ⟨by simp only; omega, wt⟩⟩
 have := Cb.cut (o := 0) hs (Cb.cut (o := 1) ht (Cb.end hl))
 simpa [IZ] using this
theorem YC {n : Nat} {cs : List Value} {y : DataW H × List MemPlace} (h : DataW.trod enc P w base sp hd n tR cs = some y) (hB : K.b y.1 ≤ 1048576) : ∃ r : ZK, Cb w (Nw r) cs ∧ Ss r.type ∧ r.rules.length < 2000000 ∧ ∀ t ∈ r.rules, Ss t := by
 obtain ⟨m, rfl, hl, hg⟩ := Hd K D.fR h
 rw [D.cR] at hl
 obtain ⟨z0, h0, b0⟩ := hg 0 _ rfl
 obtain ⟨z1, h1, b1⟩ := hg 1 _ rfl
 obtain ⟨z2, h2, b2⟩ := hg 2 _ rfl
 simp only [E.cI, E.cT, E.cTs] at h0 h1 h2
 obtain ⟨a, ha, _⟩ := GJ E h0
 obtain ⟨t, ht, wt⟩ := IX K E h1 Aw
 obtain ⟨l, l1, l2, l3⟩ := Xa K E h2 Aw
 refine ⟨⟨a, t, l⟩, ?_, wt, l1, l2⟩
 have := Cb.cut (o := 0) ha (Cb.cut (o := 1) ht (Cb.cut (o := 6) l3 (Cb.end hl)))
 simpa [Nw] using this
theorem XL : ∀ (n : Nat) (cs : List Value) (y : DataW H × List MemPlace), DataW.trod enc P w base sp hd n tTr cs = some y → K.b y.1 ≤ 1048576 → ∃ t : Lw, Cb w (Ee t) cs ∧ JT t := by
 intro n
 induction n using Nat.strongRecOn with
 | ind n ih =>
  intro cs y h hB
  obtain ⟨m, rfl, hl, hg⟩ := Hd K D.fTr h
  rw [D.cTr] at hl
  obtain ⟨z0, h0, b0⟩ := hg 0 _ rfl
  obtain ⟨z1, h1, b1⟩ := hg 1 _ rfl
  obtain ⟨z2, h2, b2⟩ := hg 2 _ rfl
  obtain ⟨z3, h3, b3⟩ := hg 3 _ rfl
  simp only [E.cI, E.cT, D.cBrs] at h0 h1 h2 h3
  obtain ⟨a, ha, _⟩ := GJ E h0
  obtain ⟨t, ht, wt⟩ := IX K E h1 Aw
  obtain ⟨b, hb, _⟩ := GJ E h2
  obtain ⟨l, g1, _, g2, v, hv, g3⟩ := FF K D.uBrs D.cBr Av Gb Qr (fun _ => 1) (B := 1048576) (fun m' cs y hm h hB => by
   obtain ⟨m2, rfl, hl, hg⟩ := Hd K D.fBr h
   rw [D.cBr] at hl
   obtain ⟨z0, h0, b0⟩ := hg 0 _ rfl
   obtain ⟨z1, h1, b1⟩ := hg 1 _ rfl
   obtain ⟨z2, h2, b2⟩ := hg 2 _ rfl
   simp only [E.cS, D.cB, D.cTr] at h0 h1 h2
   obtain ⟨s, hs, ws⟩ := KU K E h0
   obtain ⟨b, hb⟩ := Uu D h1
   obtain ⟨r, hr, wr⟩ := ih m2 Aw _ _ h2 Aw
   refine ⟨.mk s b r, ?_, ⟨by omega, wr⟩, K.pos _⟩
   have := Cb.cut (o := 0) hs (Cb.cut (o := 1) hb (Cb.cut (o := 2) hr (Cb.end hl)))
   simpa [Gb] using this) h3 Aw
  have hbs : ∀ {l : List LR}, (∀ b ∈ l, Qr b) → PN l := by
   intro l
   induction l with
   | nil => exact fun _ => trivial
   | cons b l ih2 => exact fun h => ⟨h b Ax, ih2 fun c hc => h c (by simp [hc])⟩
  refine ⟨.mk a t b l, ?_, ⟨wt, by omega, hbs g2⟩⟩
  have := Cb.cut (o := 0) ha (Cb.cut (o := 1) ht (Cb.cut (o := 6) hb (Cb.cut (o := 7) (a := [.lst (Ld l)]) (k := 1) (by rw [hv, K1]; exact Cb.one g3) (Cb.end hl))))
  simpa [Ee] using this
theorem Y6 {n : Nat} {cs : List Value} {y : DataW H × List MemPlace} (h : DataW.trod enc P w base sp hd n tF cs = some y) (hB : K.b y.1 ≤ 1048576) : ∃ f : KI, Cb w (Kj f) cs ∧ WG f := by
 obtain ⟨m, rfl, hl, hg⟩ := Hd K D.fF h
 rw [D.cF] at hl
 obtain ⟨z0, h0, b0⟩ := hg 0 _ rfl
 obtain ⟨z1, h1, b1⟩ := hg 1 _ rfl
 obtain ⟨z2, h2, b2⟩ := hg 2 _ rfl
 obtain ⟨z3, h3, b3⟩ := hg 3 _ rfl
 simp only [E.cS, E.cT, E.cI, D.cTr] at h0 h1 h2 h3
 obtain ⟨s, hs, ws⟩ := KU K E h0
 obtain ⟨t, ht, wt⟩ := IX K E h1 Aw
 obtain ⟨a, ha, _⟩ := GJ E h2
 obtain ⟨r, hr, wr⟩ := XL K D E _ _ _ h3 Aw
 refine ⟨⟨s, t, a, r⟩, ?_, ⟨by simp only; omega, wt, wr⟩⟩
 have := Cb.cut (o := 0) hs (Cb.cut (o := 1) ht (Cb.cut (o := 6) ha (Cb.cut (o := 7) hr (Cb.end hl))))
 simpa [Kj] using this
theorem YY {n : Nat} {cs : List Value} {y : DataW H × List MemPlace} (h : DataW.trod enc P w base sp hd n tD cs = some y) (hB : K.b y.1 ≤ 1048576) : ∃ d : Dt, Cb w (Ci d) cs ∧ Rl d := by
 obtain ⟨m, rfl, hl, hg⟩ := Hd K D.fD h
 rw [D.cD] at hl
 obtain ⟨z0, h0, b0⟩ := hg 0 _ rfl
 obtain ⟨z1, h1, b1⟩ := hg 1 _ rfl
 obtain ⟨z2, h2, b2⟩ := hg 2 _ rfl
 obtain ⟨z3, h3, b3⟩ := hg 3 _ rfl
 obtain ⟨z4, h4, b4⟩ := hg 4 _ rfl
 obtain ⟨z5, h5, b5⟩ := hg 5 _ rfl
 obtain ⟨z6, h6, b6⟩ := hg 6 _ rfl
 obtain ⟨z7, h7, b7⟩ := hg 7 _ rfl
 obtain ⟨z8, h8, b8⟩ := hg 8 _ rfl
 simp only [E.cS, E.cT, E.cI, D.cCs, D.cR, D.cFs] at h0 h1 h2 h3 h4 h5 h6 h7 h8
 obtain ⟨a, ha, _⟩ := GJ E h0
 obtain ⟨s, hs, ws⟩ := KU K E h1
 obtain ⟨p, hp, _⟩ := GJ E h2
 obtain ⟨t, ht, wt⟩ := IX K E h3 Aw
 obtain ⟨u, hu, wu⟩ := IX K E h4 Aw
 obtain ⟨f, hf, _⟩ := GJ E h5
 obtain ⟨cl, c1, _, c2, cv, hcv, c3⟩ := FF K D.uCs D.cC Av IZ Ws (fun _ => 1) (B := 1048576) (fun m cs y _ h hB => by obtain ⟨v, q1, q2⟩ := Xr K D E h hB; exact ⟨v, q1, q2, K.pos _⟩) h6 Aw
 obtain ⟨r, hr, r1, r2, r3⟩ := YC K D E h7 Aw
 obtain ⟨fl, f1, _, f2, fv, hfv, f3⟩ := FF K D.uFs D.cF Av Kj WG (fun _ => 1) (B := 1048576) (fun m cs y _ h hB => by obtain ⟨v, q1, q2⟩ := Y6 K D E h hB; exact ⟨v, q1, q2, K.pos _⟩) h8 Aw
 refine ⟨⟨a, s, p, t, u, f, cl, r, fl⟩, ?_, ⟨by simp only; omega, wt, wu, by simp only; omega, c2, r1, r2, r3, by simp only; omega, f2⟩⟩
 have := Cb.cut (o := 0) ha (Cb.cut (o := 1) hs (Cb.cut (o := 2) hp (Cb.cut (o := 3) ht (Cb.cut (o := 8) hu (Cb.cut (o := 13) hf (Cb.cut (o := 14) (a := [.lst (cl.map IZ)]) (k := 1) (by rw [hcv]; exact Cb.one c3) (Cb.cut (o := 15) hr (Cb.cut (o := 22) (a := [.lst (fl.map Kj)]) (k := 1) (by rw [hfv]; exact Cb.one f3) (Cb.end hl)))))))))
 simpa [Ci] using this
theorem Z6 {b2 : Nat} {r : Reach} {v : Value} {d : DataW H} {ps : List MemPlace} (hk : Value.okWide P w r b2 tDs v) (h : DataW.Trod enc P w base sp hd tDs v d ps) (hB : K.b d ≤ 1048576) : ∃ l : List Dt, IB l ∧ Cc F0 w (.p (.lst (l.map Ci))) v := by
 obtain ⟨n, h⟩ := h
 obtain ⟨l, g1, _, g2, u, hu, g3⟩ := FF K D.uDs D.cD Av Ci Rl (fun _ => 1) (B := 1048576) (fun m cs y _ h hB => by obtain ⟨v, q1, q2⟩ := YY K D E h hB; exact ⟨v, q1, q2, K.pos _⟩) h hB
 have := VH D.uDs hk hu
 subst this
 have g1' : l.length ≤ K.b d := g1
 exact ⟨l, ⟨by omega, g2⟩, by simp only [Cc]; exact g3⟩
end
end Go.Eu
namespace Go.Proofs.YtapmjpihennhaaaGreatDoor
open Go.Eu
theorem jJ : RP Tryz.prog 3 4 9 33 26 162 117 119 165 201 163 167 120 122 36 := ⟨by kernel_rfl, by kernel_rfl, by kernel_rfl, by kernel_rfl, by kernel_rfl, by kernel_rfl, by kernel_rfl, by kernel_rfl, by kernel_rfl, by kernel_rfl, by kernel_rfl, by kernel_rfl, by kernel_rfl, by kernel_rfl, by kernel_rfl, by kernel_rfl, by kernel_rfl, by kernel_rfl, by kernel_rfl, by kernel_rfl, by kernel_rfl, by kernel_rfl⟩
noncomputable def blk (H : Type) : VL H where
 b := Rows.uptoBulk
 a := Rows.uptoBulkAll
 str := fun s => by simp [Rows.uptoBulk]
 slice := fun e s => by simp [Rows.uptoBulk]
 agg := fun p => by simp [Rows.uptoBulk]
 nil := by simp [Rows.uptoBulkAll]
 cons := fun d r => by simp [Rows.uptoBulkAll]
 pos := fun d => by
  cases d with
  | lit l => cases l <;> simp [Rows.uptoBulk]
  | _ => simp [Rows.uptoBulk]
theorem X7 {H : Type} {ds : List (DataW H)} (h : Rows.uptoSmall H ds = true) {i : Nat} {d : DataW H} (hd : ds[i]? = some d) : (blk H).b d ≤ 1048576 := by
 have h1 := (blk H).mem hd
 have h2 : (blk H).a ds ≤ 1048576 := of_decide_eq_true h
 omega
end Go.Proofs.YtapmjpihennhaaaGreatDoor
namespace Go.Proofs.YtapmjpihennhaaaGreatDoor
open Go.Abs Go.Eu
theorem _root_.Go.AD {α : Prop} (h : α := by simp only [Jb, HI, Fv, bF, List.append_assoc, List.cons_append, List.nil_append, List.take_zero, List.flatMap_nil, List.append_nil, Ew]) : α := h
theorem _root_.Go.AF {α : Prop} (h : α := by simp only [ByteArray.size_append, iQ, List.length_append, List.length_cons, List.length_nil, Ju]; omega) : α := h
theorem _root_.Go.AT {α : Prop} (h : α := by simp only [ByteArray.size_append, iQ]; omega) : α := h
theorem Ze : ∀ (GL : List (Nat × Obj)) (b : Nat), G3 GL → ∀ (n : Nat) (t : Tm) (l : List UInt8) (T0 : List Bc), size t ≤ n → Gj t → l.length + 20000 * size t ≤ 70368744177664 → bE b l T0 → B1 Tryz.prog 122 [.ptr b 0, TV t] (.glob GL :: T0) (Ht (.tup []) (fun H => ∃ T, bE b (l ++ Jv t) T ∧ H = .glob GL :: T)) := by
 intro GL b hG n
 induction n with
 | zero => intro t l T0 h; cases t; simp [size] at h
 | succ n ih =>
  intro t l T0 h1 h2 h3 h4
  obtain ⟨tk, ti, tn, tl, ts⟩ := t
  have hNd := h2.nd
  have hFw := h2.fw
  have hNq := h2.nq
  have hCn := h2.cn
  simp only [size] at h1 h3
  simp only [Nd, Je, EB] at hNd
  simp only [Fw] at hFw
  have hs1 := IY (n := tk) hNd.2.2.2.2.2.1
  have hs2 := IY (n := ti) hNd.2.2.2.2.2.2
  have hs3 := SD tn
  have hz1 := G1 (n := tk) hNd.2.2.2.2.2.1
  have hz2 := G1 (n := ti) hNd.2.2.2.2.2.2
  refine BH Tryz.func122 Ay db (n := 74) Ay Ay (A2 (A0 (BP Ay Ay (Bj Ay) fun b3 => A5 Ay (A2 (CW (fun k => Nat.beq k 15) ED (BA Ay Ay (fun _ => A1 Ay) trivial (BA Ay Ay (fun _ => A3 CV Ay Ay) trivial (Ba (j := 0) Ay Ay Ay (fun H i hi => A9 (i := i) C9 Ay hi Ay) AA trivial (Cw Ay Ay (Cf [1] Ay (.inl ⟨Ay, Ay, Ay⟩) (hG.itoa tk hNd.2.2.2.2.2.1) ⟨_, _, Ay, Ay, Ay⟩ Av Ay (.inl Ay)) AA trivial (BA Ay Ay (fun _ => EY Ay Ay AT) trivial (BA Ay Ay (fun _ => EY Ay Ay AT) trivial (BA Ay Ay (fun _ => A3 CV Ay Ay) trivial (Ba (j := 0) Ay Ay Ay (fun H i hi => A9 (i := i) C9 Ay hi Ay) AA trivial (Cw Ay Ay (Cf [1] Ay (.inl ⟨Ay, Ay, Ay⟩) (hG.itoa ti hNd.2.2.2.2.2.2) ⟨_, _, Ay, Ay, Ay⟩ Av Ay (.inl Ay)) AA trivial ?_))))))))))))))
  refine BA Ay Ay (fun _ => EY Ay Ay AT) trivial (BA Ay Ay (fun _ => EY Ay Ay AT) trivial (BA Ay Ay (fun _ => A3 CV Ay Ay) trivial (Ba (j := 0) Ay Ay Ay (fun H i hi => A9 (i := i) Ev Ay hi Ay) AA trivial (Cw Ay Ay (Cf [1] Ay (.inl ⟨Ay, Ay, Ay⟩) (hG.quote tn hNd.1 hNq.1) ⟨_, _, Ay, Ay, Ay⟩ Av Ay (.inl Ay)) AA trivial (BA Ay Ay (fun _ => EY Ay Ay AT) trivial (Gp [_, _] [] Ay Ay Ay (.inl ⟨Ay, Ay, Ay⟩) (Xf (b := b) AF h4) (aw (we Ay) (aw (we Ay) C7)) Ar (ZG _ _ _ _) fun T hT => ⟨AA, trivial, ?_⟩))))))
  refine CP Ay Ar (A2 (A2 (A0 (Az Ay Ay (A3 CV Ay Ay) (Az Ay Ay (A9 (i := 0) Ja Ay Ay Ay) (Az Ay Ay (Bo IC Ay (List.length_map _)) (Az Ay Ay (A1 Ay) (A5 Ay (BT (B4 (α := Nat × List Bc) (fun (i, U) => ⟨74, mk [(0, .ptr b 0), (3, .ptr b3 0), (27, .p (.lst (List.map Dx tl))), (28, .p (I (tl.length : Nat))), (29, .p (I (i : Int)))], (.box b3 [.p (I tk), .p (I ti), .p (.str tn), .p (.lst (List.map Dx tl)), .p (.lst (Bg ts))] :: .glob GL :: U), []⟩) (fun (i, U) => tl.length - i) (fun (i, U) => i ≤ tl.length ∧ (bE b (l ++ (40 :: (Lib.itoa tk ++ 32 :: (Lib.itoa ti ++ 32 :: HH tn))) ++ (tl.take i).flatMap LS) U)) ⟨0, T⟩ (⟨by omega, PJ hT AD⟩) ?_ ?_))))))))))
  ·exact By ⟨we Ay, we Ay, we Ay, we Ay, we Ay, trivial⟩ (Pg [0, 1] [_, _] (l' := [_, _]) Ay (wl (oe Ay) (wl (oe Ay) (Dc))))
  rintro ⟨i, U⟩ hC
  try simp only at hC
  obtain ⟨hi, hC⟩ := hC
  have hfl := Tt hNd.2.2.1 hFw.2.2.1 hFw.2.1 i
  refine A2 (A0 (Az Ay Ay (BE Ay Ay Ay) (A5 Ay (A2 (BD Ay (fun c => ?_) (fun c => ?_))))))
  ·(try simp only [sd, se] at c)
   refine BG (A2 (BT (A2 (A0 ?_))))
   obtain ⟨x, hx⟩ := BO (l := tl) (i := i) Aw
   have hxd := hNd.2.2.1 _ (List.mem_of_getElem? hx)
   have hxv := hFw.2.2.1 _ (List.mem_of_getElem? hx)
   have hz3 := G1 hxd.c
   have hs4 := IY hxd.c
   refine Az Ay Ay (BI IC Ay Ay Aw (Kv hx) (Ay)) (Az Ay Ay (Bq E0 Ay (Ay)) (BP Ay Ay (BN Hk Ay) fun b5 => Az Ay Ay (BB (i := 0) E0 Ay Ay Ay Ay Ay (Yx _)) (A5 Ay (A2 (A0 (Az Ay Ay (A1 Ay) (Az Ay Ay (A3 EU Ay Ay) (Az Ay Ay (A9 (i := 0) C9 Ay Ay Ay) (Az Ay Ay (Cf [2] Ay (.inl ⟨Ay, Ay, Ay⟩) (hG.itoa x.const hxd.c) ⟨_, _, Ay, Ay, Ay⟩ Av Ay (.inl Ay)) (Az Ay Ay (EY Ay Ay AT) (Gx [_, _, _] Ay Ay Ay (.inl ⟨Ay, Ay, Ay⟩) (Xf (b := b) AF hC) (aw (we Ay) (aw (we Ay) C7)) fun T1 hT1 => A5 Ay (A2 (A2 (A0 (Az Ay Ay (A3 EU Ay Ay) (Az Ay Ay (A9 (i := 0) H8 Ay Ay Ay) (Az Ay Ay (Bo GY Ay (List.length_map _)) (Az Ay Ay (A1 Ay) ?_))))))))))))))))))
   refine A5 Ay (BT (B4 (α := Nat × List Bc) (fun (j, U) => ⟨74, mk [(0, .ptr b 0), (3, .ptr b3 0), (27, .p (.lst (List.map Dx tl))), (28, .p (I (tl.length : Nat))), (29, .p (I (i : Int))), (40, .p (.lst (List.map Er x.vars))), (41, .p (I (x.vars.length : Nat))), (42, .p (I (j : Int)))], (.box b3 [.p (I tk), .p (I ti), .p (.str tn), .p (.lst (List.map Dx tl)), .p (.lst (Bg ts))] :: .glob GL :: U), []⟩) (fun (j, U) => x.vars.length - j) (fun (j, U) => j ≤ x.vars.length ∧ (bE b (l ++ (40 :: (Lib.itoa tk ++ 32 :: (Lib.itoa ti ++ 32 :: HH tn))) ++ (tl.take i).flatMap LS ++ (91 :: Lib.itoa x.const) ++ (x.vars.take j).flatMap LQ) U)) ⟨0, T1⟩ (⟨by omega, PJ hT1 AD⟩) ?_ ?_))
   ·exact By ⟨we Ay, we Ay, we Ay, we Ay, we Ay, we Ay, we Ay, we Ay, trivial⟩ (Pg [1, 2] [_, _, _] (l' := [_, _]) Ay (wl (oe Ay) (wl (oe Ay) (Dc))))
   rintro ⟨j, U⟩ hC1
   try simp only at hC1
   obtain ⟨hi, hC1⟩ := hC1
   have hfv := S4 hxd.v hxv j
   refine A2 (A0 (Az Ay Ay (BE Ay Ay Ay) (A5 Ay (A2 (BD Ay (fun c1 => ?_) (fun c1 => ?_))))))
   ·(try simp only [sd, se] at c1)
    refine BG (A2 (BT (A2 (A0 ?_))))
    obtain ⟨v, hv⟩ := BO (l := x.vars) (i := j) Aw
    have hz4 := IY (hxd.v _ (List.mem_of_getElem? hv)).1
    have hz5 := IY (hxd.v _ (List.mem_of_getElem? hv)).2
    refine Az Ay Ay (BI GY Ay Ay Aw (Gm hv) (Ay)) (Az Ay Ay (Bq QK Ay (Ay)) (BP Ay Ay (BN MD Ay) fun b7 => Az Ay Ay (BB (i := 0) QK Ay Ay Ay Ay Ay (XU _)) (A5 Ay (CW (fun k => Nat.beq k 10) ED (BA Ay Ay (fun _ => A1 Ay) trivial (BA Ay Ay (fun _ => A3 GI Ay Ay) trivial (Ba (j := 0) Ay Ay Ay (fun H i hi => A9 (i := i) C9 Ay hi Ay) AA trivial (Cw Ay Ay (Cf [2] Ay (.inl ⟨Ay, Ay, Ay⟩) (hG.itoa v.index (hxd.v _ (List.mem_of_getElem? hv)).1) ⟨_, _, Ay, Ay, Ay⟩ Av Ay (.inl Ay)) AA trivial (BA Ay Ay (fun _ => EY Ay Ay AT) trivial (BA Ay Ay (fun _ => EY Ay Ay AT) trivial (BA Ay Ay (fun _ => A3 GI Ay Ay) trivial (Ba (j := 0) Ay Ay Ay (fun H i hi => A9 (i := i) C9 Ay hi Ay) AA trivial ?_))))))))))))
    refine Cw Ay Ay (Cf [2] Ay (.inl ⟨Ay, Ay, Ay⟩) (hG.itoa v.plus (hxd.v _ (List.mem_of_getElem? hv)).2) ⟨_, _, Ay, Ay, Ay⟩ Av Ay (.inl Ay)) AA trivial (BA Ay Ay (fun _ => EY Ay Ay AT) trivial (Gp [_, _, _] [] Ay Ay Ay (.inl ⟨Ay, Ay, Ay⟩) (Xf (b := b) AF hC1) (aw (we Ay) (aw (we Ay) C7)) Ar (ZG _ _ _ _) fun T2 hT2 => ⟨AA, trivial, ?_⟩))
    refine CP Ay Ar (A0 (Az Ay Ay (CH Ay Ay Aw Aw) (Az Ay Ay (A1 Ay) (A5 Ay (⟨⟨j + 1, T2⟩, AZ, ⟨by omega, PJ hT2 (by rw [QL hv]; simp only [LQ]; simp only [Jb, HI, Fv, bF, List.append_assoc, List.cons_append, List.nil_append, List.take_zero, List.flatMap_nil, List.append_nil, Ew])⟩, By ⟨we rfl, we rfl, we rfl, we rfl, we rfl, we rfl, we rfl, we rfl, trivial⟩ (Pg [1, 2] [_, _, _] (l' := [_, _]) rfl (wl (oe rfl) (wl (oe rfl) (Dc))))⟩)))))
   (try simp only [sd, se] at c1)
   refine B7 (A0 (Az Ay Ay (A1 Ay) (Gx [_, _] Ay Ay Ay (.inl ⟨Ay, Ay, Ay⟩) (Xf (b := b) AF hC1) (aw (we Ay) (aw (we Ay) C7)) fun T2 hT2 => A5 Ay (A0 (Az Ay Ay (CH Ay Ay Aw Aw) (Az Ay Ay (A1 Ay) (A5 Ay ?_)))))))
   refine ⟨⟨i + 1, T2⟩, AZ, ⟨by omega, PJ hT2 (by rw [show j = x.vars.length by omega, List.take_length, QL hx]; simp only [LS]; simp only [Jb, HI, Fv, bF, List.append_assoc, List.cons_append, List.nil_append, List.take_zero, List.flatMap_nil, List.append_nil, Ew])⟩, By ⟨we rfl, we rfl, we rfl, we rfl, we rfl, trivial⟩ (Pg [0, 1] [_, _] (l' := [_, _]) rfl (wl (oe rfl) (wl (oe rfl) (Dc))))⟩
  (try simp only [sd, se] at c)
  refine B7 (A2 (A2 (A0 (Az Ay Ay (A3 CV Ay Ay) (Az Ay Ay (A9 (i := 0) DG Ay Ay Ay) (Az Ay Ay (Bo CL Ay (B5 _)) (Az Ay Ay (A1 Ay) (A5 Ay (BT ?_)))))))))
  refine B4 (α := Nat × List Bc) (fun (i, U) => ⟨74, mk [(0, .ptr b 0), (62, .p (.lst (Bg ts))), (63, .p (I (ts.length : Nat))), (64, .p (I (i : Int)))], (.glob GL :: U), []⟩) (fun (i, U) => ts.length - i) (fun (i, U) => i ≤ ts.length ∧ (bE b (l ++ (40 :: (Lib.itoa tk ++ 32 :: (Lib.itoa ti ++ 32 :: HH tn))) ++ tl.flatMap LS ++ Ew (ts.take i)) U)) ⟨0, U⟩ (⟨by omega, PJ hC (by rw [show i = tl.length by omega, List.take_length]; simp only [Jb, HI, Fv, bF, List.append_assoc, List.cons_append, List.nil_append, List.take_zero, List.flatMap_nil, List.append_nil, Ew])⟩) ?_ ?_
  ·exact By ⟨we Ay, we Ay, we Ay, we Ay, trivial⟩ (Pg [1] [_, _] (l' := [_]) Ay (wl (oe Ay) (Dc)))
  rintro ⟨i, U⟩ hC1
  try simp only at hC1
  obtain ⟨hi, hC⟩ := hC1
  have hfk := VU hNd.2.2.2.2.1 hFw.2.2.2 i
  have hfl := U1 hNd.2.2.1 hFw.2.2.1 hFw.2.1
  refine A2 (A0 (Az Ay Ay (BE Ay Ay Ay) (A5 Ay (A2 (BD Ay (fun c1 => ?_) (fun c1 => ?_))))))
  ·(try simp only [sd, se] at c1)
   refine BG (A2 (BT (A2 (A0 ?_))))
   obtain ⟨x, hx⟩ := BO (l := ts) (i := i) Aw
   refine Az Ay Ay (BI CL Ay Ay Aw (CU hx) (Bd _)) (Az Ay Ay (Bq BU Ay (Bd _)) (BP Ay Ay (BN B8 Ay) fun b9 => Az Ay Ay (BB (i := 0) BU Ay Ay Ay Am Ac (CN _)) (A5 Ay (A0 (Az Ay Ay (A1 Ay) (Az Ay Ay (A8 (i := 0) BU Ay Ay Am) (Gn (H' := [.box b9 ((Bu x).map .p)] ++ (.glob GL :: U)) (List.Perm.refl _) ?_)))))))
   refine Gx [_] Ay Ay Ay (.inl ⟨Ay, Ay, Ay⟩) (ih x (l ++ (40 :: (Lib.itoa tk ++ 32 :: (Lib.itoa ti ++ 32 :: HH tn))) ++ tl.flatMap LS ++ Ew (ts.take i)) _ (by have := DM hx; omega) ⟨RB hCn.2 (List.mem_of_getElem? hx), D7 hNd.2.2.2.2.1 hx, Pe hNq.2 (List.mem_of_getElem? hx), Ny hFw.2.2.2 (List.mem_of_getElem? hx)⟩ (by simp only [List.length_append, List.length_cons, Ju]; have := TO hNd.2.2.2.2.1 hFw.2.2.2 i hx; omega) hC) (aw (we Ay) (aw (we Ay) C7)) fun T0x hT0x => ?_
   obtain ⟨T1, hT1, rfl⟩ := hT0x
   refine A5 Ay (A0 (Az Ay Ay (CH Ay Ay Aw Aw) (Az Ay Ay (A1 Ay) (A5 Ay (⟨⟨i + 1, T1⟩, AZ, ⟨by omega, PJ hT1 (by rw [Ov hx]; simp only [Jb, HI, Fv, bF, List.append_assoc, List.cons_append, List.nil_append, List.take_zero, List.flatMap_nil, List.append_nil, Ew])⟩, By ⟨we rfl, we rfl, we rfl, we rfl, trivial⟩ (Pg [1] [_, _] (l' := [_]) rfl (wl (oe rfl) (Dc)))⟩)))))
  (try simp only [sd, se] at c1)
  refine B7 (A0 (Az Ay Ay (A1 Ay) (Gx [_] Ay Ay Ay (.inl ⟨Ay, Ay, Ay⟩) (Xf (b := b) AF hC) (aw (we Ay) (aw (we Ay) C7)) fun T1 hT1 => A5 Ay ⟨Ay, _, _, Ay, (Fu [0] [_] Ay), ?_⟩)))
  exact ⟨Ay, _, PJ hT1 (by rw [show i = ts.length by omega, List.take_length]; simp only [Jv]; simp only [Jb, HI, Fv, bF, List.append_assoc, List.cons_append, List.nil_append, List.take_zero, List.flatMap_nil, List.append_nil, Ew]), Ay⟩
theorem _root_.Go.AN {α : Prop} (h : α := by repeat' first | exact trivial | rfl | refine And.intro ?_ ?_) : α := h
theorem _root_.Go.AQ {α : Prop} (h : α := by first | omega | (simp_all; done) | (simp_all; omega)) : α := h
theorem _root_.Go.AI {α : Prop} (h : α := by first | (simp only [List.length_map, B5]; omega) | (simp_all; done) | (simp_all; omega)) : α := h
theorem aN : ∀ (c : Nat) (cs : List Int) (A : List Tm) (al : Int) (o o' : Option Nat) (cp cp' : Nat) (t : Tm) (sg : Int), (Nd t) → (L5 A) → (∀ a ∈ A, size a < 1000000) → (cs.length = A.length) → (A.length < 1000) → B1 Tryz.prog 101 [.ptr c 0, .agg ((Bu t).map .p), .p (I sg)] [.box c [.vs o (List.map C0 cs).length cp, .vs o' (Bg A).length cp', .p (I al)], .vec o 1 (List.map C0 cs) cp, .vec o' 5 (Bg A) cp'] (fun x H' => x = .val (.tup []) ∧ Q4 c (Hi ⟨cs, A, al⟩ t sg) H') := by
 intro c cs A al o o' cp cp' t sg h1 h2 h3 h4 h5
 refine BH Tryz.func101 Ay dc (n := 62) Ay Ay (A2 (A0 (BP Ay Ay (Bj Ay) fun b4 => A5 Ay (A2 (A0 (Az Ay Ay (A1 Ay) (Az Ay Ay (Bn Ay) (Az Ay Ay (A3 Iu Ay Ay) (Az Ay Ay (A9 (i := 1) C9 Ay Ay Ay) (Az Ay Ay (EE Ay Ay) (Az Ay Ay (Bn Ay) (Az Ay Ay (A3 Iu Ay Ay) (Az Ay Ay (Bm (i := 1) C9 Ay Ay Ay Ay Ay Ay) (A5 Ay (A2 (A2 (A0 (Az Ay Ay (A4 Ay) (A5 Ay (BT ?_))))))))))))))))))))
 refine B4 (α := Nat) (fun i => ⟨62, mk [(0, .ptr c 0), (2, .p (I sg)), (4, .ptr b4 0), (6, .p (I (i : Int)))], [.box b4 ((Bu t).map .p), .box c [.vs o (List.map C0 cs).length cp, .vs o' (Bg A).length cp', .p (I (wr ((al : Int) + (1 : Int))))], .vec o 1 (List.map C0 cs) cp, .vec o' 5 (Bg A) cp'], []⟩) (fun i => A.length - i) (fun i => i ≤ A.length ∧ (∀ j, j < i → ∀ x, A[j]? = some x → QJ x t = false)) 0 (⟨by omega, fun j h => by omega⟩) ?_ ?_
 ·exact By ⟨we Ay, we Ay, we Ay, we Ay, trivial⟩ (leH (is := [0, 1, 2, 3]) Ay (wl (oe Ay) (wl (oe Ay) (wl (oe Ay) (wl (oe Ay) (Dc))))))
 rintro i hC
 try simp only at hC
 obtain ⟨hi, hC⟩ := hC
 refine A2 (A2 (A0 (Az Ay Ay (A1 Ay) (Az Ay Ay (A1 Ay) (Az Ay Ay (Bn Ay) (Az Ay Ay (A3 Iu Ay Ay) (Az Ay Ay (A9 (i := 1) DG Ay Ay Ay) (Az Ay Ay (Mm CL Ay (B5 _)) (Az Ay Ay (BE Ay Ay Ay) (A5 Ay (BD Ay (fun c1 => ?_) (fun c1 => ?_))))))))))))
 ·(try simp only [sd, se] at c1)
  refine BG (A2 (BT (A2 (Rs (i := 3) Ay Ag fun b hb => ?_))))
  subst hb
  refine CW (fun k => false) ED (BA Ay Ay (fun _ => A1 Ay) trivial (BA Ay Ay (fun _ => Bn Ay) trivial (BA Ay Ay (fun _ => A3 Iu Ay Ay) trivial (Ba (j := 1) Ay Ay Ay (fun H i hi => A9 (i := i) DG Ay hi Ay) AA trivial (BA Ay Ay (fun _ => A1 Ay) trivial (BA Ay Ay (fun _ => EM CL Ay Ay Aw AI) trivial ?_))))))
  obtain ⟨y, hy⟩ := BO (l := A) (i := i) AQ
  refine Ba (j := 3) Ay Ay Ay (fun H i hi => Jz (i := i) BU Ay hi (CU hy)) AA trivial (Ba (j := 0) Ay Ay Ay (fun H i hi => A8 (i := i) BU Ay hi Am) AA trivial (BA Ay Ay (fun _ => Bp Ay Ay (RL _ y t (Nat.le_refl _) (D7 h2 hy)) Ay) trivial (CP Ay Ar (BD Ay (fun c2 => ?_) (fun c2 => ?_)))))
  ·(try simp only [sd, se] at c2)
   refine A2 (A0 (Az Ay Ay (A1 Ay) (Az Ay Ay (Bn Ay) (Az Ay Ay (A3 Iu Ay Ay) (Az Ay Ay (A9 (i := 1) PB Ay Ay Ay) (Az Ay Ay (A1 Ay) (UU (i := 2) Ay Ag fun b1 hb1 => ?_)))))))
   subst hb1
   refine Az Ay Ay (EM GF Ay Ay Aw AI) ?_
   obtain ⟨y1, hy1⟩ := BO (l := cs) (i := i) AQ
   refine Az Ay Ay (LZ (i := 2) C9 Ay Ay (E7 hy1)) (Az Ay Ay (A1 Ay) (Az Ay Ay (EE Ay Ay) (Az Ay Ay (EM GF Ay Ay Aw AI) (Az Ay Ay (Gr (i := 2) (j := i) C9 Ay Ay Ay AM Ay Ay Ay Ay (XZ (f := C0) cs i (wr ((y1 : Int) + (sg : Int))))) (A5 Ay (BF ⟨Ay, _, _, Ay, (C2 (is := [1, 2, 3]) Ay), ?_⟩))))))
   refine ⟨Ay, ?_⟩
   show Q4 c _ [.box c [.vs (some b1) (List.map C0 cs).length cp, .vs (some b) (Bg A).length cp', .p (I (wr ((al : Int) + (1 : Int))))], .vec (some b1) 1 (List.map C0 ((cs).set i (wr ((y1 : Int) + (sg : Int))))) cp, .vec (some b) 5 (Bg A) cp']
   rw [WA hy As hC hy1]
   exact ⟨(some b1), cp, (some b), cp', by simp only [List.length_map, List.length_set, B5, List.length_append]⟩
  (try simp only [sd, se] at c2)
  refine BG (A0 (Az Ay Ay (A1 Ay) (Az Ay Ay (CH Ay Ay Aw Aw) (Az Ay Ay (A4 Ay) (A5 Ay (⟨(i + 1), AZ, ⟨by omega, D5 hC hy (by simpa using c2)⟩, By ⟨we rfl, we rfl, we rfl, we rfl, trivial⟩ (leH (is := [0, 1, 2, 3]) rfl (wl (oe rfl) (wl (oe rfl) (wl (oe rfl) (wl (oe rfl) (Dc))))))⟩))))))
 (try simp only [sd, se] at c1)
 refine B7 (CW (fun k => Nat.beq k 8 || Nat.beq k 15) ED (BA Ay Ay (fun _ => A1 Ay) trivial (BA Ay Ay (fun _ => A1 Ay) trivial (BA Ay Ay (fun _ => A1 Ay) trivial (BA Ay Ay (fun _ => Bn Ay) trivial (BA Ay Ay (fun _ => A3 Iu Ay Ay) trivial (Ba (j := 1) Ay Ay Ay (fun H i hi => A9 (i := i) PB Ay hi Ay) AA trivial (BA Ay Ay (fun _ => A1 Ay) trivial (BA Ay Ay (fun _ => CJ GF Xj Ay Ay Ay Ay Ay) trivial ?_)))))))))
 obtain ⟨tk, ti, tn, tl, ts⟩ := t
 refine NN [(9, .free (.ptr c 0)), (10, .free (.ptr c 0)), (11, .free (.ptr c 1)), (12, .read [.box c [.vs o (List.map C0 cs).length cp, .vs o' (Bg A).length cp', .p (I (wr ((al : Int) + (1 : Int))))]] (.vs o' (Bg A).length cp')), (13, .read [.box b4 [.p (I tk), .p (I ti), .p (.str tn), .p (.lst (List.map Dx tl)), .p (.lst (Bg ts))]] (.agg [.p (I tk), .p (I ti), .p (.str tn), .p (.lst (List.map Dx tl)), .p (.lst (Bg ts))])), (14, .free (.p (.lst (Bg [(.mk tk ti tn tl ts : Tm)]))))] Ay Ay (Df (i := 2) (rows' := List.map C0 [sg]) GF GF Xj Ay Ay Ay Ay Ay Ay (Qc _) AE (HJ (f := C0) cs [sg])) Ar fun o1 cp1 => ⟨AA, trivial, ?_⟩
 refine BA Ay Ay (fun _ => A1 Ay) AN (BA Ay Ay (fun _ => Bn Ay) AN (BA Ay Ay (fun _ => A3 Iu Ay Ay) AN (Ba (j := 1) Ay Ay Ay (fun H i hi => A9 (i := i) DG Ay hi Ay) AA AN (Ba (j := 0) Ay Ay Ay (fun H i hi => A8 (i := i) BU Ay hi Ay) AA AN (BA Ay Ay (fun _ => CJ CL B8 Ay Ay Ay Ay Ay) AN (NN [] Ay Ay (Df (i := 3) (rows' := Bg [(.mk tk ti tn tl ts : Tm)]) CL CL B8 Ay Ay Ay Ay Ay Ay (CT _) AE (OK A [(.mk tk ti tn tl ts : Tm)])) Ar fun o2 cp2 => ⟨AA, AN, ?_⟩))))))
 refine BA Ay Ay (fun _ => Bn Ay) AN (BA Ay Ay (fun _ => A3 Iu Ay Ay) AN (Cw Ay Ay (Bm (i := 1) PB Ay Ay Ay Ay Ay Ay) AA AN (BA Ay Ay (fun _ => Bn Ay) AN (BA Ay Ay (fun _ => A3 Iu Ay Ay) AN (Cw Ay Ay (Bm (i := 1) DG Ay Ay Ay Ay Ay Ay) AA AN (CP Ay Ar ⟨Ay, _, _, Ay, (C2 (is := [1, 2, 3]) Ay), ?_⟩))))))
 refine ⟨Ay, ?_⟩
 show Q4 c _ [.box c [.vs o1 (List.map C0 (cs ++ [sg])).length cp1, .vs o2 (Bg (A ++ [(.mk tk ti tn tl ts : Tm)])).length cp2, .p (I (wr ((al : Int) + (1 : Int))))], .vec o1 1 (List.map C0 (cs ++ [sg])) cp1, .vec o2 5 (Bg (A ++ [(.mk tk ti tn tl ts : Tm)])) cp2]
 rw [VM (i := i) Aw hC]
 exact ⟨o1, cp1, o2, cp2, by simp only [List.length_map, List.length_set, B5, List.length_append]⟩
theorem X3 {c : Nat} {C : HA} {t : Tm} {sg : Int} {T : List Bc} (h1 : Gj t) (h2 : TF C) (h3 : Ij C) (hT : Q4 c C T) : B1 Tryz.prog 101 [.ptr c 0, TV t, .p (I sg)] T (Ht (.tup []) (Q4 c (Hi C t sg))) := by
 obtain ⟨o, cp, o', cp', rfl⟩ := hT
 refine (aN c C.coefs C.atoms C.all o o' cp cp' t sg h1.nd h2.nds (fun a ha => (h2 a ha).2) h3.len h3.lt).mono ?_
 rintro r H' ⟨rfl, h⟩
 exact ⟨Ay, h⟩
end Go.Proofs.YtapmjpihennhaaaGreatDoor
