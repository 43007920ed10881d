/- Part of the proofs: an abstract program logic, plain models and contracts of functions. -/
import Derived.Test.YtapmjpihennhaaaGreatDoorPd
import Derived.Test.YtapmjpihennhaaaGreatDoorPb
set_option linter.unusedVariables false
set_option linter.unusedSimpArgs false
set_option maxRecDepth 100000
namespace Go.Eu
open Go.Abs
open Go.Lib (decDigits itoa)
theorem Xg (l : FC) : Dj 2 (Dw l) := ⟨rfl, by simp [Dw]⟩
theorem Xb (l : DJ) : Dj 2 (Ec l) := ⟨rfl, by simp [Ec]⟩
theorem Xp (m : FC) : ((Dw m).map AV.p).all one = true := Fk (Xg m)
theorem Uk (m : DJ) : ((Ec m).map AV.p).all one = true := Fk (Xb m)
def Qu (n : Int) : ByteArray := Rv (itoa n)
def L7 (s : ByteArray) : ByteArray := Rv (GM s)
theorem N8 (l : List UInt8) : (Rv l).data.toList = l := by simp [Rv]
theorem IU (a b : ByteArray) : (a ++ b).data.toList = a.data.toList ++ b.data.toList := by simp [ByteArray.data_append]
theorem GV (n : Int) : (Qu n).data.toList = itoa n := N8 _
theorem FJ (s : ByteArray) : (L7 s).data.toList = GM s := N8 _
theorem R5 : ∀ (k u : Nat), u < 10 ^ (k + 1) → (decDigits u).length ≤ k + 1
 | 0, u, h => by
  rw [Jp, if_pos Ar]
  simp
 | k + 1, u, h => by
  rw [Jp]
  split
  ·simp
  ·have := R5 k (u / 10) (by rw [Nat.div_lt_iff_lt_mul Aq]; rw [Nat.pow_succ] at h; exact h)
   simp only [List.length_append, List.length_cons, List.length_nil]
   omega
theorem GC {n : Int} (h : rng n) : (itoa n).length ≤ 20 := by
 unfold rng at h
 unfold itoa
 split
 ·have := R5 18 n.natAbs Ar
  simp only [List.length_cons]
  omega
 ·have := R5 18 n.toNat Ar
  omega
theorem HV {n : Int} (h : rng n) : (Qu n).size ≤ 20 := by
 unfold Qu; rw [K3]; exact GC h
theorem Im (s : ByteArray) : (GM s).length = s.size + 2 := by simp [GM]
theorem Qr (s : ByteArray) : (L7 s).size = s.size + 2 := by unfold L7; rw [K3, Im]
theorem fv (a : UInt8) : (⟨#[a]⟩ : ByteArray).size = 1 := rfl
theorem Zw (a : UInt8) : (⟨#[a]⟩ : ByteArray).data.toList = [a] := rfl
theorem Uc {v : DJ} (h : rng v.index ∧ rng v.plus) : (KI v).length ≤ 42 := by
 have := GC h.1
 have := GC h.2
 simp only [KI, List.length_cons, List.length_append]
 omega
theorem MI : ∀ {l : List DJ}, (∀ v ∈ l, rng v.index ∧ rng v.plus) → (l.flatMap KI).length ≤ 42 * l.length
 | [], _ => by simp
 | v :: l, h => by
  have := Uc (h v As)
  have := MI (l := l) fun x hx => h x (by simp [hx])
  simp only [List.flatMap_cons, List.length_append, List.length_cons]
  omega
theorem U8 {l : FC} (h : W8 l) (hv : l.vars.length ≤ 20) : (KF l).length ≤ 862 := by
 have := GC h.c
 have := MI h.v
 simp only [KF, List.length_cons, List.length_append, List.length_nil]
 omega
theorem J8 : ∀ {l : List FC}, (∀ x ∈ l, W8 x) → (∀ x ∈ l, x.vars.length ≤ 20) → (l.flatMap KF).length ≤ 862 * l.length
 | [], _, _ => by simp
 | v :: l, h, h' => by
  have := U8 (h v As) (h' v As)
  have := J8 (l := l) (fun x hx => h x (by simp [hx])) fun x hx => h' x (by simp [hx])
  simp only [List.flatMap_cons, List.length_append, List.length_cons]
  omega
mutual
theorem NU : ∀ {t : Tm}, Nd t → Fw t → (Ir t).length ≤ 20000 * size t
 | .mk k i n l ks, h, h' => by
  have h1 := GC h.2.2.2.2.2.1
  have h2 := GC h.2.2.2.2.2.2
  have h3 := J8 h.2.2.1 h'.2.2.1
  have h4 := J4 h.2.2.2.2.1 h'.2.2.2
  have h5 := h'.1
  have h6 := h'.2.1
  simp only [Ir, size, List.length_cons, List.length_append, Im, List.length_nil]
  omega
theorem J4 : ∀ {ts : List Tm}, Ic ts → Rg ts → (EN ts).length ≤ 20000 * B4 ts
 | [], _, _ => by simp [EN]
 | t :: ts, h, h' => by
  have := NU h.1 h'.1
  have := J4 h.2 h'.2
  simp only [EN, B4, List.length_append]
  omega
end
theorem NY : ∀ {ts : List Tm} {i : Nat} {t : Tm}, ts[i]? = some t → EN (ts.take (i + 1)) = EN (ts.take i) ++ Ir t
 | [], i, t, h => by simp at h
 | a :: ts, 0, t, h => by simp at h; subst h; simp [EN]
 | a :: ts, i + 1, t, h => by
  simp at h
  simp only [List.take_succ_cons, EN, NY h, List.append_assoc]
theorem PI {α : Type} {f : α → List UInt8} {l : List α} {i : Nat} {x : α} (h : l[i]? = some x) : (l.take (i + 1)).flatMap f = (l.take i).flatMap f ++ f x := by
 rw [List.take_add_one, h]
 simp
theorem NR : ∀ {ts : List Tm}, Rg ts → ∀ i, Rg (ts.take i)
 | [], _, i => by simp [Rg]
 | t :: ts, h, 0 => trivial
 | t :: ts, h, i + 1 => ⟨h.1, NR h.2 i⟩
theorem R9 {ts : List Tm} (h : Ic ts) (h' : Rg ts) (i : Nat) {t : Tm} (ht : ts[i]? = some t) : (EN (ts.take i)).length + 20000 * size t ≤ 20000 * B4 ts := by
 have h1 := J4 (RG h i) (NR h' i)
 have h2 := OE ht
 have h3 := NQ (ts := ts) (i + 1)
 omega
theorem UA {ts : List Tm} (h : Ic ts) (h' : Rg ts) (i : Nat) : (EN (ts.take i)).length ≤ 20000 * B4 ts := by
 have h1 := J4 (RG h i) (NR h' i)
 have h3 := NQ (ts := ts) i
 omega
theorem SA {l : List FC} (h : ∀ x ∈ l, W8 x) (h' : ∀ x ∈ l, x.vars.length ≤ 20) (hl : l.length ≤ 20) (i : Nat) : ((l.take i).flatMap KF).length ≤ 17240 := by
 have := J8 (l := l.take i) (fun x hx => h x (List.mem_of_mem_take hx)) (fun x hx => h' x (List.mem_of_mem_take hx))
 have : (l.take i).length ≤ 20 := by simp; omega
 omega
theorem Th {l : List FC} (h : ∀ x ∈ l, W8 x) (h' : ∀ x ∈ l, x.vars.length ≤ 20) (hl : l.length ≤ 20) : (l.flatMap KF).length ≤ 17240 := by
 have := J8 h h'
 omega
theorem Rz {l : List DJ} (h : ∀ v ∈ l, rng v.index ∧ rng v.plus) (hl : l.length ≤ 20) (i : Nat) : ((l.take i).flatMap KI).length ≤ 840 := by
 have := MI (l := l.take i) (fun x hx => h x (List.mem_of_mem_take hx))
 have : (l.take i).length ≤ 20 := by simp; omega
 omega
theorem NV {U e : TypeId} {b : Nat} {l l' : List UInt8} {T : List BT} (h : BW U e b l T) (hl : l = l') : BW U e b l' T := hl ▸ h
theorem YV (U e : TypeId) (b : Nat) (l : List UInt8) : ∃ T, BW U e b l T := ⟨_, .nilp, none, 0, .inl rfl, rfl⟩
def QU (c : Nat) (C : FQ) (T : List BT) : Prop := ∃ o cp o' cp', T = [.box c [.vs o (C.coefs.map Cf).length cp, .vs o' (BR C.atoms).length cp', .p (I C.all)], .vec o 1 (C.coefs.map Cf) cp, .vec o' 5 (BR C.atoms) cp']
def FR : Nat → List Tm → List (ByteArray × AV)
 | _, [] => []
 | k, a :: l => (Rv (Ir a), .p (I (k : Nat))) :: FR (k + 1) l
def Oi (c : Nat) (C : FQ) (T : List BT) : Prop := ∃ o cp o' cp' m, T = [.box c [.vs o (C.coefs.map Cf).length cp, .vs o' (BR C.atoms).length cp', .map m, .p (I C.all)], .vec o 1 (C.coefs.map Cf) cp, .vec o' 5 (BR C.atoms) cp', .map m (Du (FR 0 C.atoms))]
theorem TH {a b : List UInt8} (h : Rv a = Rv b) : a = b := by
 have := congrArg (fun x : ByteArray => x.data.toList) h
 simpa [N8] using this
theorem LJ {t : Tm} (ht : My t) : ∀ (A : List Tm) (k : Nat), (∀ a ∈ A, My a) → KG (Rv (Ir t)) (FR k A) = if Cl A t < A.length then some (.p (I ((k + Cl A t : Nat) : Int))) else none
 | [], k, h => by simp [FR, KG, Cl]
 | a :: A, k, h => by
  unfold FR KG
  by_cases e : a = t
  ·subst e
   rw [if_pos rfl]
   simp [Cl, List.findIdx_cons, C3]
  ·rw [if_neg (fun q => e (WN (h a As) ht (TH q))), LJ ht A (k + 1) fun x hx => h x (by simp [hx])]
   have h1 : Cl (a :: A) t = Cl A t + 1 := by simp [Cl, List.findIdx_cons, DK e]
   rw [h1]
   simp only [List.length_cons, Nat.add_lt_add_iff_right]
   split
   ·rw [show k + 1 + Cl A t = k + (Cl A t + 1) by omega]
   ·rfl
theorem TZ {t : Tm} (ht : My t) : ∀ (A : List Tm) (k : Nat), (∀ a ∈ A, My a) → t ∉ A → sset (Rv (Ir t)) (.p (I ((k + A.length : Nat) : Int))) (FR k A) = FR k (A ++ [t])
 | [], k, h, hn => by simp [FR, sset]
 | a :: A, k, h, hn => by
  simp only [List.mem_cons, not_or] at hn
  unfold FR sset
  rw [if_neg (fun q => hn.1 (WN (h a As) ht (TH q)).symm)]
  have := TZ ht A (k + 1) (fun x hx => h x (by simp [hx])) hn.2
  rw [show k + (a :: A).length = k + 1 + A.length by simp only [List.length_cons]; omega, this]
  rfl
theorem DR {l : List Tm} {t : Tm} (h : t ∉ l) : ¬ Cl l t < l.length := fun hl => by
 have := List.findIdx_getElem (w := hl)
 rw [F9] at this
 exact h (this ▸ List.getElem_mem _)
theorem HR {l : List Tm} {t y : Tm} {i : Nat} (hi : l[i]? = some y) (hy : Mx y t = true) (hb : ∀ j, j < i → ∀ x, l[j]? = some x → Mx x t = false) : Cl l t = i := by
 obtain ⟨hl, he⟩ := List.getElem?_eq_some_iff.1 hi
 refine (List.findIdx_eq hl).2 ⟨by rw [he]; exact hy, fun j hj => ?_⟩
 have := hb j hj _ (List.getElem?_eq_getElem Ar)
 simp [this]
theorem VU {cs : List Int} {A : List Tm} {al s : Int} {t y : Tm} {i : Nat} {x : Int} (hi : A[i]? = some y) (hy : Mx y t = true) (hb : ∀ j, j < i → ∀ x, A[j]? = some x → Mx x t = false) (hx : cs[i]? = some x) : ET ⟨cs, A, al⟩ t s = ⟨cs.set i (wr (x + s)), A, wr (al + 1)⟩ := by
 have h := HR hi hy hb
 unfold ET
 rw [if_pos (by rw [h]; exact (List.getElem?_eq_some_iff.1 hi).1)]
 simp only [h]
 rw [Cs hx]
theorem UB {cs : List Int} {A : List Tm} {al s : Int} {t : Tm} {i : Nat} (hi : A.length ≤ i) (hb : ∀ j, j < i → ∀ x, A[j]? = some x → Mx x t = false) : ET ⟨cs, A, al⟩ t s = ⟨cs ++ [s], A ++ [t], wr (al + 1)⟩ := by
 have h : t ∉ A := fun hm => by
  obtain ⟨j, hj⟩ := Fh hm
  have := hb j (by have := (List.getElem?_eq_some_iff.1 hj).1; omega) t hj
  rw [C3 rfl] at this
  cases this
 unfold ET
 rw [if_neg (DR h)]
end Go.Eu
namespace Go.Proofs.YtapmjpihennhaaaGreatDoor
open Go.Abs Go.Eu
structure Gl (GL : List (Nat × Obj)) : Prop where
 itoa : ∀ n : Int, rng n → Bt Tryz.prog 143 [.p (I n)] [.glob GL] (DC (.p (.str (Qu n))) [.glob GL])
 quote : ∀ s : ByteArray, s.size < EC → (∀ c ∈ s.data.toList, Sm c) → Bt Tryz.prog 144 [.p (.str s)] [.glob GL] (DC (.p (.str (L7 s))) [.glob GL])
abbrev Zu (b : Nat) (l : List UInt8) (T : List BT) : Prop := BW 186 5 b l T
theorem VC {b : Nat} {l : List UInt8} {T : List BT} (h0 : 0 < l.length) (h : l.length ≤ 70368744177664) (hB : BX 186 5 b l T) : Bt Tryz.prog 123 [.ptr b 0] T (Gm (.p (.str (Rv l))) (BX 186 5 b l)) := by
 obtain ⟨a, o, cp, fr, rfl⟩ := hB
 refine (Yn b a o cp fr l h0 h).mono ?_
 rintro r H' ⟨rfl, rfl⟩
 exact ⟨At, a, o, cp, true, At⟩
theorem U7 {b : Nat} {l : List UInt8} {T : List BT} (h0 : 0 < l.length) (h : l.length ≤ 70368744177664) (hB : Zu b l T) : Bt Tryz.prog 123 [.ptr b 0] T (Gm (.p (.str (Rv l))) (BX 186 5 b l)) := by
 obtain ⟨a, o, cp, ha, rfl⟩ := hB
 refine Pe (o := o) (e := 5) (fr := false) (rows := Gq l) (c := cp) As (by intro e; have := KB l; rw [e] at this; simp at this; omega) YZ fun o' ho => ?_
 subst ho
 exact VC h0 h ⟨a, o', cp, false, At⟩
theorem eu : Km Tryz.prog 79 = some 3 := by kernel_rfl
end Go.Proofs.YtapmjpihennhaaaGreatDoor
