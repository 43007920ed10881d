/- Part of the proofs: an abstract program logic, plain models and contracts of functions. -/
import Derived.Test.YtapmjpihennhaaaGreatDoorPd
import Derived.Test.YtapmjpihennhaaaGreatDoorPb
set_option linter.unusedVariables false
set_option linter.unusedSimpArgs false
set_option maxRecDepth 100000
namespace Go.Eu
open Go.Abs
open Go.Lib (decDigits itoa)
theorem Y1 (l : Fl) : Dg 2 (Dx l) := ⟨rfl, by simp [Dx]⟩
theorem YJ (l : Db) : Dg 2 (Er l) := ⟨rfl, by simp [Er]⟩
theorem Yx (m : Fl) : ((Dx m).map AV.p).all one = true := Ef (Y1 m)
theorem XU (m : Db) : ((Er m).map AV.p).all one = true := Ef (YJ m)
def Sn (n : Int) : ByteArray := S8 (itoa n)
def NP (s : ByteArray) : ByteArray := S8 (HH s)
theorem PQ (l : List UInt8) : (S8 l).data.toList = l := by simp [S8]
theorem Jb (a b : ByteArray) : (a ++ b).data.toList = a.data.toList ++ b.data.toList := by simp [ByteArray.data_append]
theorem HI (n : Int) : (Sn n).data.toList = itoa n := PQ _
theorem Fv (s : ByteArray) : (NP s).data.toList = HH s := PQ _
theorem Tg : ∀ (k u : Nat), u < 10 ^ (k + 1) → (decDigits u).length ≤ k + 1
 | 0, u, h => by
  rw [K7, if_pos Aw]
  simp
 | k + 1, u, h => by
  rw [K7]
  split
  ·simp
  have := Tg k (u / 10) (by rw [Nat.div_lt_iff_lt_mul Av]; rw [Nat.pow_succ] at h; exact h)
  simp only [List.length_append, List.length_cons, List.length_nil]
  omega
theorem G1 {n : Int} (h : Je n) : (itoa n).length ≤ 20 := by
 unfold Je at h
 unfold itoa
 split
 ·have := Tg 18 n.natAbs Aw
  simp only [List.length_cons]
  omega
 have := Tg 18 n.toNat Aw
 omega
theorem IY {n : Int} (h : Je n) : (Sn n).size ≤ 20 := by
 unfold Sn; rw [L9]; exact G1 h
theorem Ju (s : ByteArray) : (HH s).length = s.size + 2 := by simp [HH]
theorem SD (s : ByteArray) : (NP s).size = s.size + 2 := by unfold NP; rw [L9, Ju]
theorem iQ (a : UInt8) : (⟨#[a]⟩ : ByteArray).size = 1 := rfl
theorem bF (a : UInt8) : (⟨#[a]⟩ : ByteArray).data.toList = [a] := rfl
theorem Xd {v : Db} (h : Je v.index ∧ Je v.plus) : (LQ v).length ≤ 42 := by
 have := G1 h.1
 have := G1 h.2
 simp only [LQ, List.length_cons, List.length_append]
 omega
theorem NF : ∀ {l : List Db}, (∀ v ∈ l, Je v.index ∧ Je v.plus) → (l.flatMap LQ).length ≤ 42 * l.length
 | [], _ => by simp
 | v :: l, h => by
  have := Xd (h v Ax)
  have := NF (l := l) fun x hx => h x (by simp [hx])
  simp only [List.flatMap_cons, List.length_append, List.length_cons]
  omega
theorem WQ {l : Fl} (h : V3 l) (hv : l.vars.length ≤ 20) : (LS l).length ≤ 862 := by
 have := G1 h.c
 have := NF h.v
 simp only [LS, List.length_cons, List.length_append, List.length_nil]
 omega
theorem LD : ∀ {l : List Fl}, (∀ x ∈ l, V3 x) → (∀ x ∈ l, x.vars.length ≤ 20) → (l.flatMap LS).length ≤ 862 * l.length
 | [], _, _ => by simp
 | v :: l, h, h' => by
  have := WQ (h v Ax) (h' v Ax)
  have := LD (l := l) (fun x hx => h x (by simp [hx])) fun x hx => h' x (by simp [hx])
  simp only [List.flatMap_cons, List.length_append, List.length_cons]
  omega
mutual
theorem OE : ∀ {t : Tm}, Nd t → Fw t → (Jv t).length ≤ 20000 * size t
 | .mk k i n l ks, h, h' => by
  have h1 := G1 h.2.2.2.2.2.1
  have h2 := G1 h.2.2.2.2.2.2
  have h3 := LD h.2.2.1 h'.2.2.1
  have h4 := LC h.2.2.2.2.1 h'.2.2.2
  have h5 := h'.1
  have h6 := h'.2.1
  simp only [Jv, size, List.length_cons, List.length_append, Ju, List.length_nil]
  omega
theorem LC : ∀ {ts : List Tm}, L5 ts → Su ts → (Ew ts).length ≤ 20000 * CE ts
 | [], _, _ => by simp [Ew]
 | t :: ts, h, h' => by
  have := OE h.1 h'.1
  have := LC h.2 h'.2
  simp only [Ew, CE, List.length_append]
  omega
end
theorem Ov : ∀ {ts : List Tm} {i : Nat} {t : Tm}, ts[i]? = some t → Ew (ts.take (i + 1)) = Ew (ts.take i) ++ Jv t
 | [], i, t, h => by simp at h
 | a :: ts, 0, t, h => by simp at h; subst h; simp [Ew]
 | a :: ts, i + 1, t, h => by
  simp at h
  simp only [List.take_succ_cons, Ew, Ov h, List.append_assoc]
theorem QL {α : Type} {f : α → List UInt8} {l : List α} {i : Nat} {x : α} (h : l[i]? = some x) : (l.take (i + 1)).flatMap f = (l.take i).flatMap f ++ f x := by
 rw [List.take_add_one, h]
 simp
theorem OL : ∀ {ts : List Tm}, Su ts → ∀ i, Su (ts.take i)
 | [], _, i => by simp [Su]
 | t :: ts, h, 0 => trivial
 | t :: ts, h, i + 1 => ⟨h.1, OL h.2 i⟩
theorem TO {ts : List Tm} (h : L5 ts) (h' : Su ts) (i : Nat) {t : Tm} (ht : ts[i]? = some t) : (Ew (ts.take i)).length + 20000 * size t ≤ 20000 * CE ts := by
 have h1 := LC (Rn h i) (OL h' i)
 have h2 := OH ht
 have h3 := PX (ts := ts) (i + 1)
 omega
theorem VU {ts : List Tm} (h : L5 ts) (h' : Su ts) (i : Nat) : (Ew (ts.take i)).length ≤ 20000 * CE ts := by
 have h1 := LC (Rn h i) (OL h' i)
 have h3 := PX (ts := ts) i
 omega
theorem Tt {l : List Fl} (h : ∀ x ∈ l, V3 x) (h' : ∀ x ∈ l, x.vars.length ≤ 20) (hl : l.length ≤ 20) (i : Nat) : ((l.take i).flatMap LS).length ≤ 17240 := by
 have := LD (l := l.take i) (fun x hx => h x (List.mem_of_mem_take hx)) (fun x hx => h' x (List.mem_of_mem_take hx))
 have : (l.take i).length ≤ 20 := by simp; omega
 omega
theorem U1 {l : List Fl} (h : ∀ x ∈ l, V3 x) (h' : ∀ x ∈ l, x.vars.length ≤ 20) (hl : l.length ≤ 20) : (l.flatMap LS).length ≤ 17240 := by
 have := LD h h'
 omega
theorem S4 {l : List Db} (h : ∀ v ∈ l, Je v.index ∧ Je v.plus) (hl : l.length ≤ 20) (i : Nat) : ((l.take i).flatMap LQ).length ≤ 840 := by
 have := NF (l := l.take i) (fun x hx => h x (List.mem_of_mem_take hx))
 have : (l.take i).length ≤ 20 := by simp; omega
 omega
theorem PJ {U e : TypeId} {b : Nat} {l l' : List UInt8} {T : List Bc} (h : BW U e b l T) (hl : l = l') : BW U e b l' T := hl ▸ h
theorem ZG (U e : TypeId) (b : Nat) (l : List UInt8) : ∃ T, BW U e b l T := ⟨_, .nilp, none, 0, .inl rfl, rfl⟩
def Q4 (c : Nat) (C : HA) (T : List Bc) : Prop := ∃ o cp o' cp', T = [.box c [.vs o (C.coefs.map C0).length cp, .vs o' (Bg C.atoms).length cp', .p (I C.all)], .vec o 1 (C.coefs.map C0) cp, .vec o' 5 (Bg C.atoms) cp']
def GB : Nat → List Tm → List (ByteArray × AV)
 | _, [] => []
 | k, a :: l => (S8 (Jv a), .p (I (k : Nat))) :: GB (k + 1) l
def Pv (c : Nat) (C : HA) (T : List Bc) : Prop := ∃ o cp o' cp' m, T = [.box c [.vs o (C.coefs.map C0).length cp, .vs o' (Bg C.atoms).length cp', .map m, .p (I C.all)], .vec o 1 (C.coefs.map C0) cp, .vec o' 5 (Bg C.atoms) cp', .map m (EG (GB 0 C.atoms))]
theorem UL {a b : List UInt8} (h : S8 a = S8 b) : a = b := by
 have := congrArg (fun x : ByteArray => x.data.toList) h
 simpa [PQ] using this
theorem Mj {t : Tm} (ht : OA t) : ∀ (A : List Tm) (k : Nat), (∀ a ∈ A, OA a) → LO (S8 (Jv t)) (GB k A) = if DA A t < A.length then some (.p (I ((k + DA A t : Nat) : Int))) else none
 | [], k, h => by simp [GB, LO, DA]
 | a :: A, k, h => by
  unfold GB LO
  by_cases e : a = t
  ·subst e
   rw [if_pos rfl]
   simp [DA, List.findIdx_cons, FT]
  rw [if_neg (fun q => e (WM (h a Ax) ht (UL q))), Mj ht A (k + 1) fun x hx => h x (by simp [hx])]
  have h1 : DA (a :: A) t = DA A t + 1 := by simp [DA, List.findIdx_cons, Fc e]
  rw [h1]
  simp only [List.length_cons, Nat.add_lt_add_iff_right]
  split
  ·rw [show k + 1 + DA A t = k + (DA A t + 1) by omega]
  rfl
theorem UO {t : Tm} (ht : OA t) : ∀ (A : List Tm) (k : Nat), (∀ a ∈ A, OA a) → t ∉ A → sset (S8 (Jv t)) (.p (I ((k + A.length : Nat) : Int))) (GB k A) = GB k (A ++ [t])
 | [], k, h, hn => by simp [GB, sset]
 | a :: A, k, h, hn => by
  simp only [List.mem_cons, not_or] at hn
  unfold GB sset
  rw [if_neg (fun q => hn.1 (WM (h a Ax) ht (UL q)).symm)]
  have := UO ht A (k + 1) (fun x hx => h x (by simp [hx])) hn.2
  rw [show k + (a :: A).length = k + 1 + A.length by simp only [List.length_cons]; omega, this]
  rfl
theorem GV {l : List Tm} {t : Tm} (h : t ∉ l) : ¬ DA l t < l.length := fun hl => by
 have := List.findIdx_getElem (w := hl)
 rw [LI] at this
 exact h (this ▸ List.getElem_mem _)
theorem QD {l : List Tm} {t y : Tm} {i : Nat} (hi : l[i]? = some y) (hy : QJ y t = true) (hb : ∀ j, j < i → ∀ x, l[j]? = some x → QJ x t = false) : DA l t = i := by
 obtain ⟨hl, he⟩ := List.getElem?_eq_some_iff.1 hi
 refine (List.findIdx_eq hl).2 ⟨by rw [he]; exact hy, fun j hj => ?_⟩
 have := hb j hj _ (List.getElem?_eq_getElem Aw)
 simp [this]
theorem WA {cs : List Int} {A : List Tm} {al s : Int} {t y : Tm} {i : Nat} {x : Int} (hi : A[i]? = some y) (hy : QJ y t = true) (hb : ∀ j, j < i → ∀ x, A[j]? = some x → QJ x t = false) (hx : cs[i]? = some x) : Hi ⟨cs, A, al⟩ t s = ⟨cs.set i (wr (x + s)), A, wr (al + 1)⟩ := by
 have h := QD hi hy hb
 unfold Hi
 rw [if_pos (by rw [h]; exact (List.getElem?_eq_some_iff.1 hi).1)]
 simp only [h]
 rw [DD hx]
theorem VM {cs : List Int} {A : List Tm} {al s : Int} {t : Tm} {i : Nat} (hi : A.length ≤ i) (hb : ∀ j, j < i → ∀ x, A[j]? = some x → QJ x t = false) : Hi ⟨cs, A, al⟩ t s = ⟨cs ++ [s], A ++ [t], wr (al + 1)⟩ := by
 have h : t ∉ A := fun hm => by
  obtain ⟨j, hj⟩ := HO hm
  have := hb j (by have := (List.getElem?_eq_some_iff.1 hj).1; omega) t hj
  rw [FT rfl] at this
  cases this
 unfold Hi
 rw [if_neg (GV h)]
end Go.Eu
namespace Go.Proofs.YtapmjpihennhaaaGreatDoor
open Go.Abs Go.Eu
structure G3 (GL : List (Nat × Obj)) : Prop where
 itoa : ∀ n : Int, Je n → B1 Tryz.prog 143 [.p (I n)] [.glob GL] (Dq (.p (.str (Sn n))) [.glob GL])
 quote : ∀ s : ByteArray, s.size < EB → (∀ c ∈ s.data.toList, UJ c) → B1 Tryz.prog 144 [.p (.str s)] [.glob GL] (Dq (.p (.str (NP s))) [.glob GL])
abbrev bE (b : Nat) (l : List UInt8) (T : List Bc) : Prop := BW 186 5 b l T
theorem XS {b : Nat} {l : List UInt8} {T : List Bc} (h0 : 0 < l.length) (h : l.length ≤ 70368744177664) (hB : BX 186 5 b l T) : B1 Tryz.prog 123 [.ptr b 0] T (Ht (.p (.str (S8 l))) (BX 186 5 b l)) := by
 obtain ⟨a, o, cp, fr, rfl⟩ := hB
 refine (au b a o cp fr l h0 h).mono ?_
 rintro r H' ⟨rfl, rfl⟩
 exact ⟨Ay, a, o, cp, true, Ay⟩
theorem V4 {b : Nat} {l : List UInt8} {T : List Bc} (h0 : 0 < l.length) (h : l.length ≤ 70368744177664) (hB : bE b l T) : B1 Tryz.prog 123 [.ptr b 0] T (Ht (.p (.str (S8 l))) (BX 186 5 b l)) := by
 obtain ⟨a, o, cp, ha, rfl⟩ := hB
 refine RC (o := o) (e := 5) (fr := false) (rows := He l) (c := cp) Ax (by intro e; have := K4 l; rw [e] at this; simp at this; omega) Zh fun o' ho => ?_
 subst ho
 exact XS h0 h ⟨a, o', cp, false, Ay⟩
theorem gq : Ls Tryz.prog 79 = some 3 := by kernel_rfl
end Go.Proofs.YtapmjpihennhaaaGreatDoor
