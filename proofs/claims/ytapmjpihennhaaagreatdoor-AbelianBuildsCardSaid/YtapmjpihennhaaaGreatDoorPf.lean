/- Part of the proofs: an abstract program logic, plain models and contracts of functions. -/
import Derived.Test.YtapmjpihennhaaaGreatDoorPe
import Derived.Test.YtapmjpihennhaaaGreatDoorPb
import Derived.Test.YtapmjpihennhaaaGreatDoorPc
import Derived.Lib.UnsafeStr
import Derived.Below
set_option linter.unusedVariables false
set_option linter.unusedSimpArgs false
set_option maxRecDepth 100000
namespace Go.Eu
open Go.Abs
structure Fa where
 left : Tm
 right : Tm
 proof : Tm
 same : Bool
 deriving Inhabited
def B2 (e : Fa) : List PV := Ba e.left ++ (Ba e.right ++ (Ba e.proof ++ [.bool e.same]))
theorem JO (e : Fa) : (B2 e).length = 16 := by simp [B2, Bh]
theorem RD (e : Fa) : DP 16 (B2 e) := Fk (n := 5) (m := 11) (IC _) (Fk (n := 5) (m := 6) (IC _) (Fk (n := 5) (m := 1) (IC _) (Ch An HR)))
theorem Ev (l : List Fa) : ∀ r ∈ l.map B2, DP 16 r := FI RD l
theorem CR (e : Fa) : ((B2 e).map AV.p).all one = true := FH (RD e)
def LI : ByteArray := ⟨#[69, 113, 46, 114, 101, 102, 108]⟩
def Xs : ByteArray := ⟨#[69, 113, 46, 115, 121, 109, 109]⟩
def Vl : ByteArray := ⟨#[69, 113, 46, 116, 114, 97, 110, 115]⟩
def Vj : ByteArray := ⟨#[69, 113, 46, 99, 111, 110, 103, 114]⟩
def Gj (n : ByteArray) (t : Tm) (l : List Tm) : Tm := apply (.mk 3 0 n [⟨0, []⟩] []) (t :: l)
def DA (th : BF) : Tm := BP th.carrier []
def Dx (th : BF) (to : Tm) : Tm := .mk 6 0 ⟨#[]⟩ [] [DA th, to]
def CI (th : BF) (a b : Tm) : Tm := BP th.add [a, b]
def CX (th : BF) (a : Tm) : Tm := BP th.neg [a]
def DJ (th : BF) (t : Tm) : Fa := ⟨t, t, Gj LI (DA th) [t], true⟩
def EH (th : BF) (n : Int) (l r : Tm) (args : List Tm) : Fa := ⟨l, r, BP (th.lemmas.getD n.toNat ⟨#[]⟩) args, false⟩
def Fe (th : BF) (e : Fa) : Fa := if e.same = true then e else ⟨e.right, e.left, Gj Xs (DA th) [e.left, e.right, e.proof], false⟩
def Jv (th : BF) (o e : Fa) : Fa := if o.same = true then e else if e.same = true then o else ⟨o.left, e.right, Gj Vl (DA th) [o.left, o.right, e.right, o.proof, e.proof], false⟩
def CZ (th : BF) (o : Fa) (l : List Fa) : Fa := l.foldl (Jv th) o
def Ff (th : BF) (to f g : Tm) (e : Fa) (fs : Tm) : Tm := apply (.mk 3 0 Vj [⟨0, []⟩, ⟨0, []⟩] []) [DA th, to, f, g, e.left, e.right, fs, e.proof]
def DE (th : BF) (f : Tm) (e : Fa) : Fa := if e.same = true then DJ th (apply f [e.left]) else ⟨apply f [e.left], apply f [e.right], Ff th (DA th) f f e (Gj LI (Dx th (DA th)) [f]), false⟩
def Ei (th : BF) (a b : Fa) : Fa :=
 if a.same = true then DE th (BP th.add [a.left]) b
 else ⟨CI th a.left b.left, CI th a.right b.right, Ff th (DA th) (BP th.add [a.left]) (BP th.add [a.right]) b (Ff th (Dx th (DA th)) (BP th.add []) (BP th.add []) a (Gj LI (Dx th (Dx th (DA th))) [BP th.add []])), false⟩
def CU (th : BF) (A : List Tm) (x : CM) : Tm := if x.minus = true then CX th (A.getD x.place.toNat BQ) else A.getD x.place.toNat BQ
def BS (th : BF) (A : List Tm) : List CM → Tm
 | [] => BP th.zero []
 | x :: l => CI th (CU th A x) (BS th A l)
def GD (th : BF) (a b : Tm) : Fa := EH th 0 (CI th a b) (CI th b a) [a, b]
def Dk (th : BF) (a b c : Tm) : Fa := EH th 1 (CI th (CI th a b) c) (CI th a (CI th b c)) [a, b, c]
def HT (th : BF) (t : Tm) : Fa := EH th 2 (CI th (BP th.zero []) t) t [t]
def Qw (th : BF) (a : Tm) : Fa := EH th 3 (CI th (CX th a) a) (BP th.zero []) [a]
def Gi (th : BF) (A : List Tm) (x : CM) : Fa :=
 if x.minus = true then Qw th (A.getD x.place.toNat BQ) else CZ th (GD th (A.getD x.place.toNat BQ) (CX th (A.getD x.place.toNat BQ))) [Qw th (A.getD x.place.toNat BQ)]
def CW (th : BF) (A : List Tm) (x : CM) : List CM → Fa × List CM
 | [] => (DJ th (CI th (CU th A x) (BS th A [])), [x])
 | y :: l =>
  if x.place < y.place ∨ (x.place = y.place ∧ x.minus = y.minus) then (DJ th (CI th (CU th A x) (BS th A (y :: l))), x :: y :: l)
  else if x.place = y.place then (CZ th (Fe th (Dk th (CU th A x) (CU th A y) (BS th A l))) [Ei th (Gi th A x) (DJ th (BS th A l)), HT th (BS th A l)], l)
  else (CZ th (Fe th (Dk th (CU th A x) (CU th A y) (BS th A l))) [Ei th (GD th (CU th A x) (CU th A y)) (DJ th (BS th A l)), Dk th (CU th A y) (CU th A x) (BS th A l), DE th (BP th.add [CU th A y]) (CW th A x l).1], y :: (CW th A x l).2)
def Ct (th : BF) (A : List Tm) (b : List CM) : List CM → Fa × List CM
 | [] => (HT th (BS th A b), b)
 | x :: a => (CZ th (Dk th (CU th A x) (BS th A a) (BS th A b)) [DE th (BP th.add [CU th A x]) (Ct th A b a).1, (CW th A x (Ct th A b a).2).1], (CW th A x (Ct th A b a).2).2)
def Ha (th : BF) (A : List Tm) (x : CM) : Fa :=
 if x.minus = true then EH th 5 (CX th (CU th A x)) (A.getD x.place.toNat BQ) [A.getD x.place.toNat BQ] else DJ th (CX th (CU th A x))
def Cl (th : BF) (A : List Tm) : List CM → Fa × List CM
 | [] => (EH th 6 (CX th (BP th.zero [])) (BP th.zero []) [], [])
 | x :: l => (CZ th (EH th 4 (CX th (CI th (CU th A x) (BS th A l))) (CI th (CX th (CU th A x)) (CX th (BS th A l))) [CU th A x, BS th A l]) [Ei th (Ha th A x) (Cl th A l).1], ⟨x.place, !x.minus⟩ :: (Cl th A l).2)
noncomputable def Bk (th : BF) (A : List Tm) : Nat → Tm → Fa × List CM
 | 0, t => (DJ th t, [])
 | n + 1, t =>
  if (C8 th t).1 = 1 then
   (CZ th (Ei th (Bk th A n ((C8 th t).2.getD 0 BQ)).1 (Bk th A n ((C8 th t).2.getD 1 BQ)).1) [(Ct th A (Bk th A n ((C8 th t).2.getD 1 BQ)).2 (Bk th A n ((C8 th t).2.getD 0 BQ)).2).1], (Ct th A (Bk th A n ((C8 th t).2.getD 1 BQ)).2 (Bk th A n ((C8 th t).2.getD 0 BQ)).2).2)
  else if (C8 th t).1 = 2 then (DJ th t, [])
  else if (C8 th t).1 = 3 then
   (CZ th (DE th (BP th.neg []) (Bk th A n ((C8 th t).2.getD 0 BQ)).1) [(Cl th A (Bk th A n ((C8 th t).2.getD 0 BQ)).2).1], (Cl th A (Bk th A n ((C8 th t).2.getD 0 BQ)).2).2)
  else (CZ th (Fe th (HT th t)) [GD th (BP th.zero []) t], [⟨(Cu A t : Int), false⟩])
structure GU (th : BF) : Prop where
 car : th.carrier.size < Dp
 add : th.add.size < Dp
 zero : th.zero.size < Dp
 neg : th.neg.size < Dp
 lem : ∀ s ∈ th.lemmas, s.size < Dp
theorem GU.getD {th : BF} (h : GU th) (n : Nat) : (th.lemmas.getD n ⟨#[]⟩).size < Dp := by
 cases e : th.lemmas[n]? with
 | none => simp [List.getD, e]; decide
 | some s => simp [List.getD, e]; exact h.lem s (List.mem_of_getElem? e)
theorem FY {n : ByteArray} {l : List Tm} (h : n.size < Dp) (hl : JS l) : Nd (BP n l) :=
 KN ⟨h, by decide, by simp, by decide, trivial, ⟨by decide, by decide⟩, ⟨by decide, by decide⟩⟩ hl
theorem E5 {n : ByteArray} {l : List Tm} : size (BP n l) = 1 + By l + l.length := by simp [BP, Hp, size, By]
theorem RC : Ui ⟨0, []⟩ := ⟨by simp, ⟨by decide, by decide⟩, by simp⟩
theorem MT {n : ByteArray} {t : Tm} {l : List Tm} (h : n.size < Dp) (ht : Nd t) (hl : JS l) : Nd (Gj n t l) :=
 KN ⟨h, by decide, by simpa using RC, by decide, trivial, ⟨by decide, by decide⟩, ⟨by decide, by decide⟩⟩ ⟨ht, hl⟩
theorem Iz {n : ByteArray} {t : Tm} {l : List Tm} : size (Gj n t l) = 2 + size t + By l + l.length := by simp [Gj, Hp, size, By]; omega
theorem HH {th : BF} (h : GU th) : Nd (DA th) := FY h.car trivial
theorem G0 {th : BF} : size (DA th) = 1 := by simp [DA, E5, By]
theorem Oc {th : BF} (h : GU th) {t : Tm} (ht : Nd t) : Nd (Dx th t) := ⟨by decide, by decide, by simp, by simp [Dp], ⟨HH h, ht, trivial⟩, ⟨by decide, by decide⟩, ⟨by decide, by decide⟩⟩
theorem PC {th : BF} {t : Tm} : size (Dx th t) = 2 + size t := by simp [Dx, size, By, G0]; omega
theorem Cr {th : BF} (h : GU th) {a b : Tm} (ha : Nd a) (hb : Nd b) : Nd (CI th a b) := FY h.add ⟨ha, hb, trivial⟩
theorem Dt {th : BF} {a b : Tm} : size (CI th a b) = 3 + size a + size b := by simp [CI, E5, By]; omega
theorem Ip {th : BF} (h : GU th) {a : Tm} (ha : Nd a) : Nd (CX th a) := FY h.neg ⟨ha, trivial⟩
theorem KH {th : BF} {a : Tm} : size (CX th a) = 2 + size a := by simp [CX, E5, By]; omega
theorem Ew {th : BF} (h : GU th) : Nd (BP th.zero []) := FY h.zero trivial
theorem HX {th : BF} : size (BP th.zero []) = 1 := by simp [E5, By]
theorem OT {f t : Tm} (hf : Nd f) (ht : Nd t) : Nd (apply f [t]) := KN hf ⟨ht, trivial⟩
theorem RW {f t : Tm} : size (apply f [t]) = size f + size t + 1 := by simp [Hp, By]
theorem Ki {n : ByteArray} {l : List Tm} {t : Tm} : apply (BP n l) [t] = BP n (l ++ [t]) := by simp [BP, apply]
structure Lw (e : Fa) (lt rt : Tm) (B : Nat) : Prop where
 l : e.left = lt
 r : e.right = rt
 s : e.same = true → lt = rt
 nl : Nd lt
 nr : Nd rt
 nd : Nd e.proof
 sz : size e.proof ≤ B
theorem Jt {th : BF} (h : GU th) {t : Tm} (ht : Nd t) : Lw (DJ th t) t t (4 + size t) :=
 ⟨rfl, rfl, fun _ => rfl, ht, ht, MT Al (HH h) ⟨ht, trivial⟩, by simp [DJ, Iz, By, G0]; omega⟩
theorem Hc {th : BF} (h : GU th) {n : Int} {l r : Tm} {args : List Tm} (hl : Nd l) (hr : Nd r) (ha : JS args) : Lw (EH th n l r args) l r (1 + By args + args.length) :=
 ⟨rfl, rfl, (fun q => by cases q), hl, hr, FY (h.getD _) ha, by simp [EH, E5]⟩
theorem SN {th : BF} (h : GU th) {e : Fa} {l r : Tm} {B : Nat} (he : Lw e l r B) : Lw (Fe th e) r l (B + size l + size r + 6) := by
 unfold Fe
 obtain ⟨h1, h2, h3, h4, h5, h6, h7⟩ := he
 split
 ·rename_i hs; have := h3 hs; subst this; exact ⟨h1, h2, fun _ => rfl, h5, h4, h6, by omega⟩
 ·subst h1 h2
  exact ⟨Ao, Ao, (fun q => by cases q), h5, h4, MT Al (HH h) ⟨h4, h5, h6, trivial⟩, by simp only [Iz, By, G0, List.length_cons, List.length_nil]; omega⟩
theorem EL {th : BF} (h : GU th) {e f : Fa} {l m r : Tm} {B C : Nat} (he : Lw e l m B) (hf : Lw f m r C) : Lw (Jv th e f) l r (B + C + size l + size m + size r + 8) := by
 unfold Jv
 obtain ⟨h1, h2, h3, h4, h5, h6, h7⟩ := he
 obtain ⟨g1, g2, g3, g4, g5, g6, g7⟩ := hf
 split
 ·rename_i hs; have := h3 hs; subst this; exact ⟨g1, g2, g3, g4, g5, g6, by omega⟩
 ·split
  ·rename_i hs; have := g3 hs; subst this; exact ⟨h1, h2, fun hh => h3 hh, h4, h5, h6, by omega⟩
  ·subst h1 h2 g2
   exact ⟨Ao, Ao, (fun q => by cases q), h4, g5, MT Al (HH h) ⟨h4, h5, g5, h6, g6, trivial⟩, by simp only [Iz, By, G0, List.length_cons, List.length_nil]; omega⟩
theorem MH {th : BF} (h : GU th) {to f g fs : Tm} {e : Fa} {l r : Tm} {B : Nat} (he : Lw e l r B) (ht : Nd to) (hf : Nd f) (hg : Nd g) (hs : Nd fs) : Nd (Ff th to f g e fs) := by
 obtain ⟨h1, h2, h3, h4, h5, h6, h7⟩ := he
 subst h1 h2
 exact KN ⟨by decide, by decide, by simpa using RC, by decide, trivial, ⟨by decide, by decide⟩, ⟨by decide, by decide⟩⟩ ⟨HH h, ht, hf, hg, h4, h5, hs, h6, trivial⟩
theorem Jh {th : BF} {to f g fs : Tm} {e : Fa} {l r : Tm} {B : Nat} (he : Lw e l r B) : size (Ff th to f g e fs) ≤ 10 + size to + size f + size g + size l + size r + size fs + B := by
 obtain ⟨h1, h2, h3, h4, h5, h6, h7⟩ := he
 subst h1 h2
 simp only [Ff, Hp, size, By, G0, List.length_cons, List.length_nil]
 omega
theorem LR {th : BF} (h : GU th) {f : Tm} (hf : Nd f) {e : Fa} {l r : Tm} {B : Nat} (he : Lw e l r B) : Lw (DE th f e) (apply f [l]) (apply f [r]) (B + 3 * size f + size l + size r + 20) := by
 unfold DE
 split
 ·rename_i hs
  have hr := Jt h (OT hf he.nl)
  obtain ⟨h1, h2, h3, h4, h5, h6, h7⟩ := he
  have := h3 hs
  subst this
  rw [h1]
  exact ⟨hr.l, hr.r, fun _ => Ao, hr.nl, hr.nr, hr.nd, by have := hr.sz; rw [RW] at this; omega⟩
 ·have hc := MH h he (HH h) hf hf (MT (n := LI) (l := [f]) Al (Oc h (HH h)) ⟨hf, trivial⟩)
  have hz := Jh (th := th) (to := DA th) (f := f) (g := f) (fs := Gj LI (Dx th (DA th)) [f]) he
  simp only [Iz, PC, G0, By, List.length_cons, List.length_nil] at hz
  exact ⟨by rw [← he.l], by rw [← he.r], (fun q => by cases q), OT hf he.nl, OT hf he.nr, hc, by simp only; omega⟩
theorem RL {th : BF} (h : GU th) {a b : Fa} {l r l' r' : Tm} {B C : Nat} (ha : Lw a l r B) (hb : Lw b l' r' C) : Lw (Ei th a b) (CI th l l') (CI th r r') (B + C + 3 * size l + 3 * size r + size l' + size r' + 60) := by
 unfold Ei
 split
 ·rename_i hs
  have := ha.s hs
  subst this
  have hu := LR h (f := BP th.add [l]) (FY h.add ⟨ha.nl, trivial⟩) hb
  simp only [Ki, List.cons_append, List.nil_append] at hu
  rw [ha.l]
  exact ⟨hu.l, hu.r, hu.s, hu.nl, hu.nr, hu.nd, by have := hu.sz; simp only [E5, By, List.length_cons, List.length_nil] at this; omega⟩
 ·have hp : Nd (BP th.add []) := FY h.add trivial
  have hin := MH h ha (Oc h (HH h)) hp hp (MT (n := LI) (l := [BP th.add []]) Al (Oc h (Oc h (HH h))) ⟨hp, trivial⟩)
  have hin2 := Jh (th := th) (to := Dx th (DA th)) (f := BP th.add []) (g := BP th.add []) (fs := Gj LI (Dx th (Dx th (DA th))) [BP th.add []]) ha
  have hl : Nd (BP th.add [l]) := FY h.add ⟨ha.nl, trivial⟩
  have hr : Nd (BP th.add [r]) := FY h.add ⟨ha.nr, trivial⟩
  have hc := MH h hb (HH h) hl hr hin
  have hz := Jh (th := th) (to := DA th) (f := BP th.add [l]) (g := BP th.add [r]) (fs := Ff th (Dx th (DA th)) (BP th.add []) (BP th.add []) a (Gj LI (Dx th (Dx th (DA th))) [BP th.add []])) hb
  simp only [Iz, PC, G0, E5, By, List.length_cons, List.length_nil] at hz hin2
  rw [ha.l, ha.r]
  exact ⟨by rw [← hb.l], by rw [← hb.r], (fun q => by cases q), Cr h ha.nl hb.nl, Cr h ha.nr hb.nr, hc, by simp only; omega⟩
theorem Lw.up {e : Fa} {l r : Tm} {B C : Nat} (h : Lw e l r B) (hb : B ≤ C) : Lw e l r C := ⟨h.l, h.r, h.s, h.nl, h.nr, h.nd, Nat.le_trans h.sz hb⟩
structure TI (A : List Tm) : Prop where
 nd : JS A
 sz : ∀ t ∈ A, size t ≤ 4096
theorem TI.get {A : List Tm} (h : TI A) (i : Nat) : Nd (A.getD i BQ) ∧ size (A.getD i BQ) ≤ 4096 := by
 cases e : A[i]? with
 | none => simp [List.getD, e]; exact ⟨⟨by decide, by decide, by simp, by decide, trivial, ⟨by decide, by decide⟩, ⟨by decide, by decide⟩⟩, by simp [BQ, size, By]⟩
 | some t => simp [List.getD, e]; exact ⟨Dn h.nd e, h.sz t (List.mem_of_getElem? e)⟩
theorem _root_.Go.AR {α : Prop} (h : α := by simp only [List.length_cons]; omega) : α := h
section
variable {th : BF} {A : List Tm} (h : GU th) (hA : TI A)
include h hA
theorem Is (x : CM) : Nd (CU th A x) ∧ size (CU th A x) ≤ 4098 := by
 have := hA.get x.place.toNat
 unfold CU
 split
 ·exact ⟨Ip h this.1, by rw [KH]; omega⟩
 ·exact ⟨this.1, by omega⟩
theorem DX : ∀ l : List CM, Nd (BS th A l) ∧ size (BS th A l) ≤ 1 + 4101 * l.length
 | [] => ⟨Ew h, by simp [BS, HX]⟩
 | x :: l => by
  have h1 := DX l
  have h2 := Is h hA x
  exact ⟨Cr h h2.1 h1.1, by simp only [BS, Dt, List.length_cons]; omega⟩
theorem Tc (x : CM) : Lw (Gi th A x) (CI th (CU th A x) (CU th A ⟨x.place, !x.minus⟩)) (BP th.zero []) 100000 := by
 obtain ⟨p, m⟩ := x
 have ha := hA.get p.toNat
 have hn := Ip h ha.1
 have hc := Hc h (n := 3) (Cr h hn ha.1) (Ew h) (args := [A.getD p.toNat BQ]) ⟨ha.1, trivial⟩
 simp only [By, List.length_cons, List.length_nil] at hc
 cases m
 ·have hq := Hc h (n := 0) (Cr h ha.1 hn) (Cr h hn ha.1) (args := [A.getD p.toNat BQ, CX th (A.getD p.toNat BQ)]) ⟨ha.1, hn, trivial⟩
  have := EL h hq hc
  simp only [By, List.length_cons, List.length_nil, Dt, KH, HX] at this
  exact this.up Am
 ·exact hc.up Am
theorem PJ (x : CM) : ∀ l : List CM, l.length ≤ 61 → Lw (CW th A x l).1 (CI th (CU th A x) (BS th A l)) (BS th A (CW th A x l).2) (10000000 * (l.length + 1)) ∧ (CW th A x l).2.length ≤ l.length + 1
 | [], _ => by
  have hx := Is h hA x
  have hp := Cr h hx.1 (Ew h)
  have := Jt h hp
  simp only [Dt, HX] at this
  exact ⟨this.up Ah, by simp [CW]⟩
 | y :: l, hl => by
  simp only [List.length_cons] at hl
  have hx := Is h hA x
  have hy := Is h hA y
  have ht := DX h hA l
  have hw := DX h hA (y :: l)
  unfold CW
  split
  ·have := Jt h (Cr h hx.1 hw.1)
   simp only [Dt, List.length_cons] at this hw
   exact ⟨this.up AR, by simp⟩
  ·have h1 := SN h (Hc h (n := 1) (Cr h (Cr h hx.1 hy.1) ht.1) (Cr h hx.1 (Cr h hy.1 ht.1)) (args := [CU th A x, CU th A y, BS th A l]) ⟨hx.1, hy.1, ht.1, trivial⟩)
   simp only [By, List.length_cons, List.length_nil, Dt] at h1
   split
   ·rename_i h2 h3
    have hxy : CU th A ⟨x.place, !x.minus⟩ = CU th A y := by
     obtain ⟨px, mx⟩ := x
     obtain ⟨py, my⟩ := y
     simp only at h3 h2 ⊢
     subst h3
     cases mx <;> cases my <;> simp_all
    have h4 := RL h (Tc h hA x) (Jt h ht.1)
    rw [hxy] at h4
    have h5 := Hc h (n := 2) (Cr h (Ew h) ht.1) ht.1 (args := [BS th A l]) ⟨ht.1, trivial⟩
    have := EL h (EL h h1 h4) h5
    simp only [By, List.length_cons, List.length_nil, Dt, HX] at this
    exact ⟨this.up AR, by simp; omega⟩
   ·have hi := PJ x l Am
    have hti := DX h hA (CW th A x l).2
    have h4 := RL h (Hc h (n := 0) (Cr h hx.1 hy.1) (Cr h hy.1 hx.1) (args := [CU th A x, CU th A y]) ⟨hx.1, hy.1, trivial⟩) (Jt h ht.1)
    have h5 := Hc h (n := 1) (Cr h (Cr h hy.1 hx.1) ht.1) (Cr h hy.1 (Cr h hx.1 ht.1)) (args := [CU th A y, CU th A x, BS th A l]) ⟨hy.1, hx.1, ht.1, trivial⟩
    have h6 := LR h (f := BP th.add [CU th A y]) (FY h.add ⟨hy.1, trivial⟩) hi.1
    simp only [Ki, List.cons_append, List.nil_append] at h6
    have := EL h (EL h (EL h h1 h4) h5) h6
    have hi2 := hi.2
    simp only [By, List.length_cons, List.length_nil, Dt, E5] at this
    exact ⟨this.up AR, by simp; omega⟩
theorem RN (b : List CM) : ∀ a : List CM, a.length + b.length ≤ 61 → Lw (Ct th A b a).1 (CI th (BS th A a) (BS th A b)) (BS th A (Ct th A b a).2) (700000000 * (a.length + 1)) ∧ (Ct th A b a).2.length ≤ a.length + b.length
 | [], hl => by
  have hb := DX h hA b
  have := Hc h (n := 2) (Cr h (Ew h) hb.1) hb.1 (args := [BS th A b]) ⟨hb.1, trivial⟩
  simp only [By, List.length_cons, List.length_nil] at this hl
  exact ⟨this.up (by simp only [List.length_nil]; omega), by simp [Ct]⟩
 | x :: a, hl => by
  simp only [List.length_cons] at hl
  have hm := RN b a Am
  have hi := PJ h hA x (Ct th A b a).2 Am
  have hx := Is h hA x
  have ha := DX h hA a
  have hb := DX h hA b
  have hr := DX h hA (Ct th A b a).2
  have ho := DX h hA (CW th A x (Ct th A b a).2).2
  have h1 := Hc h (n := 1) (Cr h (Cr h hx.1 ha.1) hb.1) (Cr h hx.1 (Cr h ha.1 hb.1)) (args := [CU th A x, BS th A a, BS th A b]) ⟨hx.1, ha.1, hb.1, trivial⟩
  have h2 := LR h (f := BP th.add [CU th A x]) (FY h.add ⟨hx.1, trivial⟩) hm.1
  simp only [Ki, List.cons_append, List.nil_append] at h2
  have := EL h (EL h h1 h2) hi.1
  have hm2 := hm.2
  have hi2 := hi.2
  simp only [By, List.length_cons, List.length_nil, Dt, E5] at this
  exact ⟨this.up AR, by simp only [Ct, List.length_cons]; omega⟩
theorem Qf (x : CM) : Lw (Ha th A x) (CX th (CU th A x)) (CU th A ⟨x.place, !x.minus⟩) 10000 := by
 obtain ⟨p, m⟩ := x
 have ha := hA.get p.toNat
 have hx := Is h hA ⟨p, m⟩
 cases m
 ·have := Jt h (Ip h hx.1)
  rw [KH] at this
  exact this.up Am
 ·have := Hc h (n := 5) (Ip h hx.1) ha.1 (args := [A.getD p.toNat BQ]) ⟨ha.1, trivial⟩
  simp only [By, List.length_cons, List.length_nil] at this
  exact this.up Am
theorem Po : ∀ l : List CM, l.length ≤ 61 → Lw (Cl th A l).1 (CX th (BS th A l)) (BS th A (Cl th A l).2) (10000000 * (l.length + 1)) ∧ (Cl th A l).2.length = l.length
 | [], hl => by
  have := Hc h (n := 6) (Ip h (Ew h)) (Ew h) (args := []) trivial
  simp only [By, List.length_nil] at this
  exact ⟨this.up An, Ao⟩
 | x :: l, hl => by
  simp only [List.length_cons] at hl
  have hn := Po l Am
  have hx := Is h hA x
  have hl1 := DX h hA l
  have hy := Is h hA ⟨x.place, !x.minus⟩
  have ho := DX h hA (Cl th A l).2
  have h1 := Hc h (n := 4) (Ip h (Cr h hx.1 hl1.1)) (Cr h (Ip h hx.1) (Ip h hl1.1)) (args := [CU th A x, BS th A l]) ⟨hx.1, hl1.1, trivial⟩
  have := EL h h1 (RL h (Qf h hA x) hn.1)
  have hn2 := hn.2
  simp only [By, List.length_cons, List.length_nil, Dt, KH] at this
  exact ⟨this.up AR, by simp [Cl, hn2]⟩
end
mutual
def Cn : Tm → Prop
 | .mk k i n l ks => ((k ≠ 0 → k ≠ 12 → i = 0) ∧ (k ≠ 3 → n = ⟨#[]⟩) ∧ (k ≠ 2 → k ≠ 3 → l = []) ∧ (ks.length : Int) = arity k) ∧ Tj ks
def Tj : List Tm → Prop
 | [] => True
 | t :: ts => Cn t ∧ Tj ts
end
theorem Sx : ∀ {ks : List Tm}, (∀ (j : Nat) (t : Tm), ks[j]? = some t → Cn t) → Tj ks
 | [], _ => trivial
 | t :: ts, h => ⟨h 0 t rfl, Sx fun j t' ht => h (j + 1) t' (by simpa using ht)⟩
theorem OE : ∀ {ks : List Tm} {t : Tm}, Tj ks → t ∈ ks → Cn t
 | [], t, _, h => by simp at h
 | a :: ts, t, hn, h => by
  rcases List.mem_cons.1 h with rfl | h
  ·exact hn.1
  ·exact OE hn.2 h
theorem MB : ∀ {a b : List Tm}, Tj (a ++ b) ↔ Tj a ∧ Tj b
 | [], b => by simp [Tj]
 | x :: a, b => by simp only [List.cons_append, Tj, MB (a := a), and_assoc]
theorem Ii : ∀ (t : Tm), Cn t → Cn (Bo t).1 ∧ Tj (Bo t).2 ∧ apply (Bo t).1 (Bo t).2 = t
 | .mk k i n l [f, a], h => by
  unfold Bo
  split
  ·rename_i hk
   obtain ⟨h1, h2, h3⟩ := Ii f h.2.1
   obtain ⟨e1, e2, e3, _⟩ := h.1
   subst hk
   refine ⟨h1, MB.2 ⟨h2, h.2.2.1, trivial⟩, ?_⟩
   simp only
   rw [← RZ, h3, e1 Al Al, e2 Al, e3 Al Al]
   rfl
  ·exact ⟨h, trivial, Ao⟩
 | .mk k i n l [], h => by unfold Bo; exact ⟨h, trivial, rfl⟩
 | .mk k i n l [a], h => by unfold Bo; exact ⟨h, trivial, rfl⟩
 | .mk k i n l (a :: b :: c :: r), h => by unfold Bo; exact ⟨h, trivial, rfl⟩
mutual
theorem NH : ∀ (t : Tm), LX t → NA (Bo t).2
 | .mk k i n l [f, a], h => by
  unfold Bo
  split
  ·exact O4 (NH f h.2.1) h.2.2
  ·trivial
 | .mk k i n l [], h => by unfold Bo; trivial
 | .mk k i n l [a], h => by unfold Bo; trivial
 | .mk k i n l (a :: b :: c :: r), h => by unfold Bo; trivial
theorem O4 : ∀ {a b : List Tm}, NA a → NA b → NA (a ++ b)
 | [], b, _, h => h
 | x :: a, b, h, h' => ⟨h.1, O4 h.2 h'⟩
end
theorem Md : ∀ {ks : List Tm} {t : Tm}, NA ks → t ∈ ks → LX t
 | [], t, _, h => by simp at h
 | a :: ts, t, hn, h => by
  rcases List.mem_cons.1 h with rfl | h
  ·exact hn.1
  ·exact Md hn.2 h
theorem Nb {a b : ByteArray} (h : a.toList = b.toList) : a = b := by
 rw [Dw, Dw] at h
 obtain ⟨⟨x⟩⟩ := a
 obtain ⟨⟨y⟩⟩ := b
 simp only at h
 rw [h]
theorem Kl {t : Tm} {n : ByteArray} (hc : Cn t) (h : DK t n = true) : t = .mk 3 0 n [] [] := by
 obtain ⟨k, i, m, l, ks⟩ := t
 simp only [DK, Tm.kind, Tm.name, Tm.levels, Bool.and_eq_true, beq_iff_eq] at h
 obtain ⟨⟨rfl, h2⟩, h3⟩ := h
 obtain ⟨⟨e1, _, _, e4⟩, _⟩ := hc
 have e5 := Nb h2
 rw [e1 Al Al, e5, List.length_eq_zero_iff.1 (by omega : l.length = 0), List.length_eq_zero_iff.1 (by have : arity 3 = 0 := rfl; omega : ks.length = 0)]
theorem R2 {th : BF} {t : Tm} (hc : Cn t) (h : (C8 th t).1 = 1) : t = CI th ((C8 th t).2.getD 0 BQ) ((C8 th t).2.getD 1 BQ) := by
 obtain ⟨h1, h2, h3⟩ := Ii t hc
 have hl := F5.1 h
 rw [GM (by rw [h]; decide) (by rw [h]; decide)] at hl ⊢
 unfold C8 at h
 split at h
 ·rename_i hn
  simp only [Bool.and_eq_true] at hn
  rw [Kl h1 hn.1] at h3
  match hs : (Bo t).2, hl with
  | [a, b], _ => rw [hs] at h3; exact h3.symm
 ·split at h
  ·exact absurd h An
  ·split at h
   ·exact absurd h An
   ·exact absurd h An
theorem WT {th : BF} {t : Tm} (hc : Cn t) (h : (C8 th t).1 = 3) : t = CX th ((C8 th t).2.getD 0 BQ) := by
 obtain ⟨h1, h2, h3⟩ := Ii t hc
 have hl := F5.2 h
 rw [GM (by rw [h]; decide) (by rw [h]; decide)] at hl ⊢
 unfold C8 at h
 split at h
 ·exact absurd h An
 ·split at h
  ·exact absurd h An
  ·split at h
   ·rename_i hn
    simp only [Bool.and_eq_true] at hn
    rw [Kl h1 hn.1] at h3
    match hs : (Bo t).2, hl with
    | [a], _ => rw [hs] at h3; exact h3.symm
   ·exact absurd h An
theorem UM {th : BF} {t : Tm} (hc : Cn t) (h : (C8 th t).1 = 2) : t = BP th.zero [] := by
 obtain ⟨h1, h2, h3⟩ := Ii t hc
 unfold C8 at h
 split at h
 ·exact absurd h An
 ·split at h
  ·rename_i hn
   simp only [Bool.and_eq_true, beq_iff_eq] at hn
   rw [Kl h1 hn.1, List.length_eq_zero_iff.1 (by omega : (Bo t).2.length = 0)] at h3
   exact h3.symm
  ·split at h
   ·exact absurd h An
   ·exact absurd h An
theorem P4 (th : BF) (t : Tm) : (C8 th t).1 = 0 ∨ (C8 th t).1 = 1 ∨ (C8 th t).1 = 2 ∨ (C8 th t).1 = 3 := by
 unfold C8
 split
 ·simp
 ·split
  ·simp
  ·split <;> simp
theorem RJ : ∀ {a b : List Tm}, Pt a → Pt b → Pt (a ++ b)
 | [], b, _, h => h
 | x :: a, b, h, h' => ⟨h.1, RJ h.2 h'⟩
theorem Pp : ∀ (t : Tm), Fw t → Pt (Bo t).2
 | .mk k i n l [f, a], h => by
  unfold Bo
  split
  ·exact RJ (Pp f h.2.2.2.1) h.2.2.2.2
  ·trivial
 | .mk k i n l [], h => by unfold Bo; trivial
 | .mk k i n l [a], h => by unfold Bo; trivial
 | .mk k i n l (a :: b :: c :: r), h => by unfold Bo; trivial
structure Fb (t : Tm) : Prop where
 cn : Cn t
 nd : Nd t
 nq : LX t
 fw : Fw t
theorem Fb.arg {t : Tm} (h : Fb t) {i : Nat} {x : Tm} (hx : (Bo t).2[i]? = some x) : Fb x ∧ size x < size t := by
 obtain ⟨h1, h2, h3⟩ := Ii t h.cn
 refine ⟨⟨OE h2 (List.mem_of_getElem? hx), Dn (PF t h.nd).2 hx, Md (NH t h.nq) (List.mem_of_getElem? hx), LZ (Pp t h.fw) (List.mem_of_getElem? hx)⟩, ?_⟩
 have := E8 t
 have := DD hx
 have := size_pos (Bo t).1
 omega
theorem Fb.op {th : BF} {t : Tm} (h : Fb t) : ((C8 th t).1 = 1 → Fb ((C8 th t).2.getD 0 BQ) ∧ Fb ((C8 th t).2.getD 1 BQ) ∧ size ((C8 th t).2.getD 0 BQ) + size ((C8 th t).2.getD 1 BQ) < size t) ∧ ((C8 th t).1 = 3 → Fb ((C8 th t).2.getD 0 BQ) ∧ size ((C8 th t).2.getD 0 BQ) < size t) := by
 constructor
 ·intro ho
  have hl := F5.1 ho
  have hp := R2 h.cn ho
  rw [GM (by rw [ho]; decide) (by rw [ho]; decide)] at hl hp ⊢
  have hz := congrArg size hp
  rw [Dt] at hz
  match hs : (Bo t).2, hl with
  | [a, b], _ =>
   rw [hs] at hz
   exact ⟨(h.arg (i := 0) (by rw [hs]; rfl)).1, (h.arg (i := 1) (by rw [hs]; rfl)).1, by omega⟩
 ·intro ho
  have hl := F5.2 ho
  rw [GM (by rw [ho]; decide) (by rw [ho]; decide)] at hl ⊢
  match hs : (Bo t).2, hl with
  | [a], _ => exact h.arg (i := 0) (by rw [hs]; rfl)
noncomputable def Cs (th : BF) : Nat → Tm → List Tm
 | 0, _ => []
 | n + 1, t =>
  if (C8 th t).1 = 1 then Cs th n ((C8 th t).2.getD 0 BQ) ++ Cs th n ((C8 th t).2.getD 1 BQ)
  else if (C8 th t).1 = 2 then []
  else if (C8 th t).1 = 3 then Cs th n ((C8 th t).2.getD 0 BQ)
  else [t]
theorem Em {l : List Tm} {t : Tm} (h : t ∈ l) : Cu l t < l.length ∧ l.getD (Cu l t) BQ = t := by
 have h1 : Cu l t < l.length := List.findIdx_lt_length.2 ⟨t, h, by simp [Hk]⟩
 refine ⟨h1, ?_⟩
 have := List.findIdx_getElem (w := h1)
 rw [Hk] at this
 unfold Cu at h1 ⊢
 simp [List.getD, List.getElem?_eq_getElem h1, this]
theorem J7 {th : BF} {A : List Tm} (h : GU th) (hA : TI A) : ∀ (n : Nat) (t : Tm), size t ≤ n → Fb t → size t ≤ 4096 → (Cs th n t).length ≤ 61 → (∀ a ∈ Cs th n t, a ∈ A) → Lw (Bk th A n t).1 t (BS th A (Bk th A n t).2) (50000000000 * size t) ∧ (Bk th A n t).2.length ≤ (Cs th n t).length
 | 0, t, hn, _, _, _, _ => by have := size_pos t; omega
 | n + 1, t, hn, ht, hs, hl, ha => by
  have hpos := size_pos t
  unfold Bk
  unfold Cs at hl ha ⊢
  rcases P4 th t with ho | ho | ho | ho
  ·simp only [ho, show ((0 : Int) = 1) = False by decide, show ((0 : Int) = 2) = False by decide, show ((0 : Int) = 3) = False by decide, if_false] at hl ha ⊢
   have hm := Em (ha t An)
   have h1 := SN h (Hc h (n := 2) (Cr h (Ew h) ht.nd) ht.nd (args := [t]) ⟨ht.nd, trivial⟩)
   have h2 := Hc h (n := 0) (Cr h (Ew h) ht.nd) (Cr h ht.nd (Ew h)) (args := [BP th.zero [], t]) ⟨Ew h, ht.nd, trivial⟩
   have := EL h h1 h2
   simp only [By, List.length_cons, List.length_nil, Dt, HX] at this
   refine ⟨?_, by simp⟩
   have e : BS th A [⟨(Cu A t : Int), false⟩] = CI th t (BP th.zero []) := by
    show CI th (if false = true then _ else A.getD ((Cu A t : Int)).toNat BQ) _ = _
    rw [if_neg Al, Int.toNat_natCast, hm.2]
    rfl
   rw [e]
   exact this.up Am
  ·simp only [ho, if_true] at hl ha ⊢
   obtain ⟨t1, t2, hsz⟩ := ht.op.1 ho
   have hp := R2 ht.cn ho
   generalize (C8 th t).2.getD 0 BQ = x at *
   generalize (C8 th t).2.getD 1 BQ = y at *
   simp only [List.length_append] at hl
   obtain ⟨p1, q1⟩ := J7 h hA n x Am t1 Am Am (fun a hm => ha a (by simp [hm]))
   obtain ⟨p2, q2⟩ := J7 h hA n y Am t2 Am Am (fun a hm => ha a (by simp [hm]))
   obtain ⟨p3, q3⟩ := RN h hA (Bk th A n y).2 (Bk th A n x).2 Am
   have := EL h (RL h p1 p2) p3
   rw [← hp] at this
   have o1 := DX h hA (Bk th A n x).2
   have o2 := DX h hA (Bk th A n y).2
   have o3 := DX h hA (Ct th A (Bk th A n y).2 (Bk th A n x).2).2
   simp only [Dt] at this
   exact ⟨this.up Am, by simp only [List.length_append]; omega⟩
  ·simp only [ho, show ((2 : Int) = 1) = False by decide, if_false, if_true] at hl ha ⊢
   have := Jt h ht.nd
   have e := UM ht.cn ho
   refine ⟨?_, by simp⟩
   simp only [BS]
   rw [← e]
   exact this.up Am
  ·simp only [ho, show ((3 : Int) = 1) = False by decide, show ((3 : Int) = 2) = False by decide, if_false, if_true] at hl ha ⊢
   obtain ⟨t1, hsz⟩ := ht.op.2 ho
   have hp := WT ht.cn ho
   generalize (C8 th t).2.getD 0 BQ = x at *
   obtain ⟨p1, q1⟩ := J7 h hA n x Am t1 Am Am (fun a hm => ha a hm)
   obtain ⟨p3, q3⟩ := Po h hA (Bk th A n x).2 Am
   have h2 := LR h (f := BP th.neg []) (FY h.neg trivial) p1
   simp only [Ki, List.nil_append] at h2
   have := EL h h2 p3
   rw [show BP th.neg [x] = t from hp.symm] at this
   have o1 := DX h hA (Bk th A n x).2
   have o3 := DX h hA (Cl th A (Bk th A n x).2).2
   simp only [E5, By, List.length_cons, List.length_nil] at this
   exact ⟨this.up Am, by omega⟩
end Go.Eu
namespace Go.Proofs.YtapmjpihennhaaaGreatDoor
open Go.Abs Go.Eu
theorem T4 : ∀ (t : Tm), GX Tryz.prog 97 [.agg ((Ba t).map .p)] (fun v => ∃ b : Bool, v = .p (.bool b) ∧ (b = true → Qd t ∧ (t.kind ≠ 3 → t.name.toList = []) ∧ (t.kind ≠ 0 → t.kind ≠ 12 → t.index = 0) ∧ (t.kind ≠ 2 → t.kind ≠ 3 → t.levels = []))) := by
 intro t
 obtain ⟨tk, ti, tn, tl, ts⟩ := t
 refine A3 Tryz.func97 Ao ZM (n := 57) Ao Ao ?_
 refine As ?_
 refine Aq ?_
 refine BH Ao Ao (Bb Ao) fun b1 => ?_
 refine Ap Ao Ao (At Ao) ?_
 refine Au Ao ?_
 refine As ?_
 refine As ?_
 refine CB [1] 19 (fun y => y = .p (.bool (decide (tk < 0) || decide (tk ≥ 13) || (ts.length : Int) != arity tk))) ?_ ?_
 ·refine CJ (fun k => false) Dq ?_
  refine Ay Ao Ao (fun _ => Av CN Ao Ao) trivial ?_
  refine BK (j := 0) rfl rfl rfl (fun H i hi => Ax (i := i) DQ rfl hi rfl) (by repeat' first | exact trivial | refine And.intro ?_ ?_ | ((refine Or.inr (And.intro ?_ ?_) <;> repeat (first | exact List.Mem.head _ | apply List.Mem.tail)); done) | exact Or.inl Ai) trivial ?_
  refine Ay Ao Ao (fun _ => A7 Ao Ao Ao) trivial ?_
  refine Ay Ao Ao (fun _ => Ar Ao) trivial ?_
  refine Jy 6 Ao (fun g => ?_) (fun g => ?_)
  ·(try simp only [sd, se] at g)
   refine CY Ao Ao Ao Ao Ao trivial ?_
   refine CY Ao Ao Ao Ao Ao trivial ?_
   refine CY Ao Ao Ao Ao Ao trivial ?_
   refine Ay Ao Ao (fun _ => A2 Ao Ao) trivial ?_
   refine Ay Ao Ao (fun _ => Ar Ao) trivial ?_
   refine CY Ao Ao Ao Ao Ao trivial ?_
   refine CY Ao Ao Ao Ao Ao trivial ?_
   refine CY Ao Ao Ao Ao Ao trivial ?_
   refine CY Ao Ao Ao Ao Ao trivial ?_
   refine CY Ao Ao Ao Ao Ao trivial ?_
   refine CY Ao Ao Ao Ao Ao trivial ?_
   refine CY Ao Ao Ao Ao Ao trivial ?_
   refine Ay Ao Ao (fun _ => A2 Ao Ao) trivial ?_
   refine CA Ao Ai ?_
   exact ⟨Ao, Ao, AG, (by refine pB ?_; first | (simp_all; done) | (rw [decide_eq_false (by omega : ¬ tk < 0), decide_eq_false (by omega : ¬ tk ≥ 13)]; simp [Bt]; done)), ⟨Ao, trivial⟩⟩
  ·(try simp only [sd, se] at g)
   refine CD Ao Ao Ao Ao (fun _ => Av CN Ao Ao) trivial ?_
   refine DF (i := 0) rfl rfl rfl rfl rfl (fun H i hi => Ax (i := i) DQ rfl hi rfl) (by repeat' first | exact trivial | refine And.intro ?_ ?_ | ((refine Or.inr (And.intro ?_ ?_) <;> repeat (first | exact List.Mem.head _ | apply List.Mem.tail)); done) | exact Or.inl Ai) trivial ?_
   refine CD Ao Ao Ao Ao (fun _ => A7 Ao Ao Ao) trivial ?_
   refine Ay Ao Ao (fun _ => A2 Ao Ao) trivial ?_
   refine Ay Ao Ao (fun _ => Ar Ao) trivial ?_
   refine Jy 11 Ao (fun g1 => ?_) (fun g1 => ?_)
   ·(try simp only [sd, se] at g1)
    refine CY Ao Ao Ao Ao Ao trivial ?_
    refine CY Ao Ao Ao Ao Ao trivial ?_
    refine CY Ao Ao Ao Ao Ao trivial ?_
    refine CY Ao Ao Ao Ao Ao trivial ?_
    refine CY Ao Ao Ao Ao Ao trivial ?_
    refine CY Ao Ao Ao Ao Ao trivial ?_
    refine CY Ao Ao Ao Ao Ao trivial ?_
    refine Ay Ao Ao (fun _ => A2 Ao Ao) trivial ?_
    refine CA Ao Ai ?_
    exact ⟨Ao, Ao, AG, (by refine pB ?_; first | (simp_all; done) | (rw [decide_eq_false (by omega : ¬ tk < 0), decide_eq_false (by omega : ¬ tk ≥ 13)]; simp [Bt]; done)), ⟨Ao, trivial⟩⟩
   ·(try simp only [sd, se] at g1)
    refine CD Ao Ao Ao Ao (fun _ => Av CN Ao Ao) trivial ?_
    refine DF (i := 0) rfl rfl rfl rfl rfl (fun H i hi => Ax (i := i) DC rfl hi rfl) (by repeat' first | exact trivial | refine And.intro ?_ ?_ | ((refine Or.inr (And.intro ?_ ?_) <;> repeat (first | exact List.Mem.head _ | apply List.Mem.tail)); done) | exact Or.inl Ai) trivial ?_
    refine CD Ao Ao Ao Ao (fun _ => Bx B4 Ao (Bt _)) trivial ?_
    refine CD Ao Ao Ao Ao (fun _ => Av CN Ao Ao) trivial ?_
    refine DF (i := 0) rfl rfl rfl rfl rfl (fun H i hi => Ax (i := i) DQ rfl hi rfl) (by repeat' first | exact trivial | refine And.intro ?_ ?_ | ((refine Or.inr (And.intro ?_ ?_) <;> repeat (first | exact List.Mem.head _ | apply List.Mem.tail)); done) | exact Or.inl Ai) trivial ?_
    refine CD Ao Ao Ao Ao (fun _ => Bf Ao Ao (VR tk) Ao) trivial ?_
    refine CD Ao Ao Ao Ao (fun _ => A7 Ao Ao Ao) trivial ?_
    refine Ay Ao Ao (fun _ => A2 Ao Ao) trivial ?_
    refine CA Ao Ai ?_
    exact ⟨Ao, Ao, AG, (by refine pB ?_; first | (simp_all; done) | (rw [decide_eq_false (by omega : ¬ tk < 0), decide_eq_false (by omega : ¬ tk ≥ 13)]; simp [Bt]; done)), ⟨Ao, trivial⟩⟩
 rintro _ rfl
 refine A4 Ao (fun c => ?_) (fun c => ?_)
 ·(try simp only [sd, se] at c)
  refine As ?_
  refine Aq ?_
  refine Ap Ao Ao (At Ao) ?_
  refine Au Ao ?_
  refine A5 ?_
  refine ⟨Ao, _, [], Bj Ao, List.nil_sublist _, ⟨⟨_, Ao, ?_⟩, Ao⟩⟩
  exact fun h => absurd h An
 ·(try simp only [sd, se] at c)
  have hf : Qd (.mk tk ti tn tl ts) := by simp only [Qd]; omega
  refine BD ?_
  refine As ?_
  refine As ?_
  refine CB [1] 32 (fun y => ∃ b : Bool, y = .p (.bool b) ∧ (b = false → tk ≠ 0 → tk ≠ 12 → ti = 0)) ?_ ?_
  ·refine Aq ?_
   refine Ap Ao Ao (Av CN Ao Ao) ?_
   refine Ap Ao Ao (Ax (i := 0) DQ Ao Ao Ao) ?_
   refine Ap Ao Ao (A7 Ao Ao Ao) ?_
   refine Ap Ao Ao (Ar Ao) ?_
   refine Bm 23 Ao (fun g => ?_) (fun g => ?_)
   ·(try simp only [sd, se] at g)
    refine Az Ao Ao Ao Ao (Av CN Ao Ao) ?_
    refine Az Ao Ao Ao Ao (Ax (i := 0) DQ Ao Ao Ao) ?_
    refine Az Ao Ao Ao Ao (A7 Ao Ao Ao) ?_
    refine Ap Ao Ao (A2 Ao Ao) ?_
    refine Ap Ao Ao (Ar Ao) ?_
    refine Bm 28 Ao (fun g1 => ?_) (fun g1 => ?_)
    ·(try simp only [sd, se] at g1)
     refine Az Ao Ao Ao Ao (Av CN Ao Ao) ?_
     refine Az Ao Ao Ao Ao (Ax (i := 0) DQ Ao Ao Ao) ?_
     refine Az Ao Ao Ao Ao (A7 Ao Ao Ao) ?_
     refine Ap Ao Ao (A2 Ao Ao) ?_
     refine Au Ao ?_
     exact ⟨Ao, Ao, AG, (by refine ⟨_, rfl, fun h => ?_⟩; simp_all; done), ⟨Ao, trivial⟩⟩
    ·(try simp only [sd, se] at g1)
     refine A0 Ao Ao Ao Ao Ao ?_
     refine A0 Ao Ao Ao Ao Ao ?_
     refine A0 Ao Ao Ao Ao Ao ?_
     refine Ap Ao Ao (A2 Ao Ao) ?_
     refine Au Ao ?_
     exact ⟨Ao, Ao, AG, (by refine ⟨_, rfl, fun h => ?_⟩; simp_all; done), ⟨Ao, trivial⟩⟩
   ·(try simp only [sd, se] at g)
    refine A0 Ao Ao Ao Ao Ao ?_
    refine A0 Ao Ao Ao Ao Ao ?_
    refine A0 Ao Ao Ao Ao Ao ?_
    refine Ap Ao Ao (A2 Ao Ao) ?_
    refine Ap Ao Ao (Ar Ao) ?_
    refine A0 Ao Ao Ao Ao Ao ?_
    refine A0 Ao Ao Ao Ao Ao ?_
    refine A0 Ao Ao Ao Ao Ao ?_
    refine Ap Ao Ao (A2 Ao Ao) ?_
    refine Au Ao ?_
    exact ⟨Ao, Ao, AG, (by refine ⟨_, rfl, fun h => ?_⟩; simp_all; done), ⟨Ao, trivial⟩⟩
  rintro _ ⟨q, rfl, hq⟩
  refine A4 Ao (fun c1 => ?_) (fun c1 => ?_)
  ·(try simp only [sd, se] at c1)
   refine As ?_
   refine Aq ?_
   refine Ap Ao Ao (At Ao) ?_
   refine Au Ao ?_
   refine A5 ?_
   refine ⟨Ao, _, [], Bj Ao, List.nil_sublist _, ⟨⟨_, Ao, ?_⟩, Ao⟩⟩
   exact fun h => absurd h An
  ·(try simp only [sd, se] at c1)
   have hix := hq (by simpa using c1)
   refine BD ?_
   refine As ?_
   refine As ?_
   refine CB [1] 40 (fun y => ∃ b : Bool, y = .p (.bool b) ∧ (b = false → tk ≠ 3 → tn.toList = [])) ?_ ?_
   ·refine Aq ?_
    refine Ap Ao Ao (Av CN Ao Ao) ?_
    refine Ap Ao Ao (Ax (i := 0) GO Ao Ao Ao) ?_
    refine Ap Ao Ao (K1 Ao Ao) ?_
    refine Ap Ao Ao (Ar Ao) ?_
    refine Bm 36 Ao (fun g => ?_) (fun g => ?_)
    ·(try simp only [sd, se] at g)
     refine Az Ao Ao Ao Ao (Av CN Ao Ao) ?_
     refine Az Ao Ao Ao Ao (Ax (i := 0) DQ Ao Ao Ao) ?_
     refine Az Ao Ao Ao Ao (A7 Ao Ao Ao) ?_
     refine Ap Ao Ao (A2 Ao Ao) ?_
     refine Au Ao ?_
     exact ⟨Ao, Ao, AG, (by refine ⟨_, rfl, fun h => ?_⟩; simp_all; done), ⟨Ao, trivial⟩⟩
    ·(try simp only [sd, se] at g)
     refine A0 Ao Ao Ao Ao Ao ?_
     refine A0 Ao Ao Ao Ao Ao ?_
     refine A0 Ao Ao Ao Ao Ao ?_
     refine Ap Ao Ao (A2 Ao Ao) ?_
     refine Au Ao ?_
     exact ⟨Ao, Ao, AG, (by refine ⟨_, rfl, fun h => ?_⟩; simp_all; done), ⟨Ao, trivial⟩⟩
   rintro _ ⟨r, rfl, hr⟩
   refine A4 Ao (fun c2 => ?_) (fun c2 => ?_)
   ·(try simp only [sd, se] at c2)
    refine As ?_
    refine Aq ?_
    refine Ap Ao Ao (At Ao) ?_
    refine Au Ao ?_
    refine A5 ?_
    refine ⟨Ao, _, [], Bj Ao, List.nil_sublist _, ⟨⟨_, Ao, ?_⟩, Ao⟩⟩
    exact fun h => absurd h An
   ·(try simp only [sd, se] at c2)
    have hn := hr (by simpa using c2)
    refine BD ?_
    refine As ?_
    refine As ?_
    refine Aq ?_
    refine Ap Ao Ao (Av CN Ao Ao) ?_
    refine Ap Ao Ao (Ax (i := 0) DQ Ao Ao Ao) ?_
    refine Ap Ao Ao (A7 Ao Ao Ao) ?_
    refine Au Ao ?_
    refine A4 Ao (fun c3 => ?_) (fun c3 => ?_)
    ·(try simp only [sd, se] at c3)
     have hk1 := c3
     refine As ?_
     refine Aq ?_
     refine Ap Ao Ao (Av CN Ao Ao) ?_
     refine Ap Ao Ao (Ax (i := 0) IM Ao Ao Ao) ?_
     refine Ap Ao Ao (Bx G8 Ao (List.length_map _)) ?_
     refine Ap Ao Ao (A7 Ao Ao Ao) ?_
     refine Ap Ao Ao (At Ao) ?_
     refine Au Ao ?_
     refine A5 ?_
     refine ⟨Ao, _, [], Bj Ao, List.nil_sublist _, ⟨⟨_, Ao, ?_⟩, Ao⟩⟩
     exact fun _ => ⟨hf, hn, hix, fun k1 _ => absurd hk1 k1⟩
    ·(try simp only [sd, se] at c3)
     refine BD ?_
     refine As ?_
     refine CB [] 2 (fun y => y = .p (.bool ((((tl.length : Nat) : Int) == (0 : Int)) || ((tk : Int) == (3 : Int))))) ?_ ?_
     ·refine Aq ?_
      refine Ap Ao Ao (Av CN Ao Ao) ?_
      refine Ap Ao Ao (Ax (i := 0) IM Ao Ao Ao) ?_
      refine Ap Ao Ao (Bx G8 Ao (List.length_map _)) ?_
      refine Ap Ao Ao (A7 Ao Ao Ao) ?_
      refine Ap Ao Ao (Ar Ao) ?_
      refine Bm 52 Ao (fun g => ?_) (fun g => ?_)
      ·(try simp only [sd, se] at g)
       refine A0 Ao Ao Ao Ao Ao ?_
       refine A0 Ao Ao Ao Ao Ao ?_
       refine A0 Ao Ao Ao Ao Ao ?_
       refine Ap Ao Ao (A2 Ao Ao) ?_
       refine Ap Ao Ao (At Ao) ?_
       refine Au Ao ?_
       exact ⟨Ao, Ao, AG, AF, trivial⟩
      ·(try simp only [sd, se] at g)
       refine Az Ao Ao Ao Ao (Av CN Ao Ao) ?_
       refine Az Ao Ao Ao Ao (Ax (i := 0) DQ Ao Ao Ao) ?_
       refine Az Ao Ao Ao Ao (A7 Ao Ao Ao) ?_
       refine Ap Ao Ao (A2 Ao Ao) ?_
       refine Ap Ao Ao (At Ao) ?_
       refine Au Ao ?_
       exact ⟨Ao, Ao, AG, AF, trivial⟩
     rintro _ rfl
     refine A5 ?_
     refine ⟨Ao, _, [], Bj Ao, List.nil_sublist _, ⟨⟨_, Ao, ?_⟩, Ao⟩⟩
     exact fun h => ⟨hf, hn, hix, fun k1 k3 => by simp only [Tm.kind] at k1 k3; simp [k3] at h; exact h⟩
theorem S1 : ∀ (n : Nat) (t : Tm) (d vars params metas levels : Int), (size t ≤ n) → (Nd t) → (0 ≤ d) → (d + n < Dp) → GX Tryz.prog 52 [.agg ((Ba t).map .p), .p (I d), .p (I vars), .p (I params), .p (I metas), .p (I levels)] (fun v => ∃ e : Int, v = .p (I e) ∧ (e = 0 → wf vars metas d t ∧ LX t ∧ Cn t)) := by
 intro n
 induction n with
 | zero => intro t d vars params metas levels h; cases t; simp [size] at h
 | succ n ih =>
  intro t d vars params metas levels h1 h2 h3 h4
  simp only [Dp] at h4
  obtain ⟨tk, ti, tn, tl, ts⟩ := t
  simp only [size] at h1
  simp only [Nd, II, Dp] at h2
  have hks := IF ts
  refine A3 Tryz.func52 Ao aA (n := 107) Ao Ao ?_
  refine As ?_
  refine Aq ?_
  refine BH Ao Ao (Bb Ao) fun b6 => ?_
  refine Ap Ao Ao (At Ao) ?_
  refine Au Ao ?_
  refine As ?_
  refine As ?_
  refine Aq ?_
  refine Ap Ao Ao (Aw (i := 0) BI Ao Ao Ao) ?_
  refine GY Ao Ao (BR Ao Ao (T4 (.mk tk ti tn tl ts : Tm)) (.inl Ao)) ?_
  rintro _ ⟨b, rfl, hb⟩
  refine Ap Ao Ao (Co Ao) ?_
  refine Au Ao ?_
  refine A4 Ao (fun c => ?_) (fun c => ?_)
  ·(try simp only [sd, se] at c)
   refine As ?_
   refine Aq ?_
   refine Ap Ao Ao (At Ao) ?_
   refine Au Ao ?_
   refine A5 ?_
   refine ⟨Ao, _, [], Bj Ao, List.nil_sublist _, ⟨⟨_, Ao, ?_⟩, Ao⟩⟩
   exact fun h => absurd h Al
  ·(try simp only [sd, se] at c)
   have hf := hb (by simpa using c)
   refine BD ?_
   refine As ?_
   refine As ?_
   refine CB [1, 2, 3, 4, 5, 6] 28 (fun y => ∃ b : Bool, y = .p (.bool b) ∧ (b = false → tk = 3 → Oe tn)) ?_ ?_
   ·refine Aq ?_
    refine Ap Ao Ao (Av CN Ao Ao) ?_
    refine Ap Ao Ao (Ax (i := 0) DQ Ao Ao Ao) ?_
    refine Ap Ao Ao (A7 Ao Ao Ao) ?_
    refine Ap Ao Ao (Ar Ao) ?_
    refine Bm 23 Ao (fun g => ?_) (fun g => ?_)
    ·(try simp only [sd, se] at g)
     refine Az Ao Ao Ao Ao (Av CN Ao Ao) ?_
     refine Az Ao Ao Ao Ao (Ax (i := 0) GO Ao Ao Ao) ?_
     refine J9 Ao Ao Ao Ao (BR Ao Ao (UN tn h2.1) (.inl Ao)) ?_
     rintro _ ⟨b1, rfl, hb1⟩
     refine Az Ao Ao Ao Ao (Co Ao) ?_
     refine Ap Ao Ao (A2 Ao Ao) ?_
     refine Au Ao ?_
     exact ⟨Ao, Ao, AG, (by refine ⟨_, rfl, fun h => ?_⟩; simp_all; done), ⟨Ao, Ao, Ao, Ao, Ao, Ao, trivial⟩⟩
    ·(try simp only [sd, se] at g)
     refine A0 Ao Ao Ao Ao Ao ?_
     refine A0 Ao Ao Ao Ao Ao ?_
     refine A0 Ao Ao Ao Ao Ao ?_
     refine A0 Ao Ao Ao Ao Ao ?_
     refine Ap Ao Ao (A2 Ao Ao) ?_
     refine Au Ao ?_
     exact ⟨Ao, Ao, AG, (by refine ⟨_, rfl, fun h => ?_⟩; simp_all; done), ⟨Ao, Ao, Ao, Ao, Ao, Ao, trivial⟩⟩
   rintro _ ⟨q, rfl, hq⟩
   refine A4 Ao (fun c1 => ?_) (fun c1 => ?_)
   ·(try simp only [sd, se] at c1)
    refine As ?_
    refine Aq ?_
    refine Ap Ao Ao (At Ao) ?_
    refine Au Ao ?_
    refine A5 ?_
    refine ⟨Ao, _, [], Bj Ao, List.nil_sublist _, ⟨⟨_, Ao, ?_⟩, Ao⟩⟩
    exact fun h => absurd h Al
   ·(try simp only [sd, se] at c1)
    have hnm := hq (by simpa using c1)
    refine BD ?_
    refine As ?_
    refine As ?_
    refine Aq ?_
    refine Ap Ao Ao (Av CN Ao Ao) ?_
    refine Ap Ao Ao (Ax (i := 0) IM Ao Ao Ao) ?_
    refine Ap Ao Ao (Bx G8 Ao (List.length_map _)) ?_
    refine Ap Ao Ao (A7 Ao Ao Ao) ?_
    refine Au Ao ?_
    refine A4 Ao (fun c2 => ?_) (fun c2 => ?_)
    ·(try simp only [sd, se] at c2)
     refine As ?_
     refine Aq ?_
     refine Ap Ao Ao (At Ao) ?_
     refine Au Ao ?_
     refine A5 ?_
     refine ⟨Ao, _, [], Bj Ao, List.nil_sublist _, ⟨⟨_, Ao, ?_⟩, Ao⟩⟩
     exact fun h => absurd h Al
    ·(try simp only [sd, se] at c2)
     refine BD ?_
     refine As ?_
     refine As ?_
     refine Aq ?_
     refine Ap Ao Ao (At Ao) ?_
     refine Au Ao ?_
     refine BU ?_
     refine CS (α := Nat) (fun i => ⟨107, mk [(1, .p (I d)), (2, .p (I vars)), (3, .p (I params)), (4, .p (I metas)), (5, .p (I levels)), (6, .ptr b6 0), (13, .p (I (i : Int)))], [.box b6 [.p (I tk), .p (I ti), .p (.str tn), .p (.lst (List.map Db tl)), .p (.lst (BO ts))]], []⟩) (fun i => tl.length - i) (fun i => i ≤ tl.length) 0 AN ?_ ?_
     ·exact B8 ⟨we Ao, we Ao, we Ao, we Ao, we Ao, we Ao, we Ao, trivial⟩ (leH (is := [0]) Ao (wl (oe Ao) (ET)))
     rintro i hC
     try simp only at hC
     have hi := hC
     refine As ?_
     refine As ?_
     refine Aq ?_
     refine Ap Ao Ao (Ar Ao) ?_
     refine Ap Ao Ao (Av CN Ao Ao) ?_
     refine Ap Ao Ao (Ax (i := 0) IM Ao Ao Ao) ?_
     refine Ap Ao Ao (Bx G8 Ao (List.length_map _)) ?_
     refine Ap Ao Ao (A7 Ao Ao Ao) ?_
     refine Au Ao ?_
     refine A4 Ao (fun c3 => ?_) (fun c3 => ?_)
     ·(try simp only [sd, se] at c3)
      refine BD ?_
      refine As ?_
      refine BU ?_
      refine As ?_
      refine Aq ?_
      refine Ap Ao Ao (Av CN Ao Ao) ?_
      refine Ap Ao Ao (Ax (i := 0) IM Ao Ao Ao) ?_
      refine Ap Ao Ao (Ar Ao) ?_
      obtain ⟨x, hx⟩ := BM (l := tl) (i := i) Am
      refine Ap Ao Ao (BJ G8 Ao Ao Am (IQ hx) (Ao)) ?_
      refine Ap Ao Ao (Be D1 Ao (Ao)) ?_
      refine Ap Ao Ao (Ar Ao) ?_
      refine Ap Ao Ao (Ar Ao) ?_
      refine GY Ao Ao (BR Ao Ao (Ux x params levels (h2.2.2.1 _ (List.mem_of_getElem? hx))) (.inl Ao)) ?_
      rintro _ ⟨le, rfl⟩
      refine Ap Ao Ao (At Ao) ?_
      refine Au Ao ?_
      refine As ?_
      refine Aq ?_
      refine Ap Ao Ao (Ar Ao) ?_
      refine Ap Ao Ao (A7 Ao Ao Ao) ?_
      refine Au Ao ?_
      refine A4 Ao (fun c4 => ?_) (fun c4 => ?_)
      ·(try simp only [sd, se] at c4)
       refine As ?_
       refine Aq ?_
       refine Ap Ao Ao (Ar Ao) ?_
       refine Ap Ao Ao (At Ao) ?_
       refine Au Ao ?_
       refine A5 ?_
       refine ⟨Ao, _, [], Bj Ao, List.nil_sublist _, ⟨⟨_, Ao, ?_⟩, Ao⟩⟩
       exact fun h => absurd h Aj
      ·(try simp only [sd, se] at c4)
       refine BD ?_
       refine Aq ?_
       refine Ap Ao Ao (Ar Ao) ?_
       refine Ap Ao Ao (CT Ao Ao Am Am) ?_
       refine Ap Ao Ao (At Ao) ?_
       refine Au Ao ?_
       refine ⟨(i + 1), AT, by omega, B8 ⟨we rfl, we rfl, we rfl, we rfl, we rfl, we rfl, we rfl, trivial⟩ (leH (is := [0]) rfl (wl (oe rfl) (ET)))⟩
     ·(try simp only [sd, se] at c3)
      refine CL ?_
      refine As ?_
      refine As ?_
      refine CB [1, 2, 3, 4, 5, 6] 66 (fun y => ∃ b : Bool, y = .p (.bool b) ∧ (b = false → tk = 0 → 0 ≤ ti ∧ ti - d < vars)) ?_ ?_
      ·refine Aq ?_
       refine Ap Ao Ao (Av CN Ao Ao) ?_
       refine Ap Ao Ao (Ax (i := 0) DQ Ao Ao Ao) ?_
       refine Ap Ao Ao (A7 Ao Ao Ao) ?_
       refine Ap Ao Ao (Ar Ao) ?_
       refine Bm 54 Ao (fun g => ?_) (fun g => ?_)
       ·(try simp only [sd, se] at g)
        refine Az Ao Ao Ao Ao (Av CN Ao Ao) ?_
        refine Az Ao Ao Ao Ao (Ax (i := 0) DQ Ao Ao Ao) ?_
        refine Az Ao Ao Ao Ao (A7 Ao Ao Ao) ?_
        refine Az Ao Ao Ao Ao (Ar Ao) ?_
        refine Bm 58 Ao (fun g1 => ?_) (fun g1 => ?_)
        ·(try simp only [sd, se] at g1)
         refine A0 Ao Ao Ao Ao Ao ?_
         refine A0 Ao Ao Ao Ao Ao ?_
         refine A0 Ao Ao Ao Ao Ao ?_
         refine A0 Ao Ao Ao Ao Ao ?_
         refine A0 Ao Ao Ao Ao Ao ?_
         refine A0 Ao Ao Ao Ao Ao ?_
         refine Az Ao Ao Ao Ao (A2 Ao Ao) ?_
         refine Ap Ao Ao (A2 Ao Ao) ?_
         refine Au Ao ?_
         exact ⟨rfl, rfl, AG, (by refine ⟨_, rfl, fun h => ?_⟩; first | (simp_all; done) | (simp_all <;> omega)), ⟨rfl, rfl, rfl, rfl, rfl, rfl, trivial⟩⟩
        ·(try simp only [sd, se] at g1)
         refine Az Ao Ao Ao Ao (Av CN Ao Ao) ?_
         refine Az Ao Ao Ao Ao (Ax (i := 0) DQ Ao Ao Ao) ?_
         refine Az Ao Ao Ao Ao (Ar Ao) ?_
         refine Az Ao Ao Ao Ao (Ed Ao Ao Am Am) ?_
         refine Az Ao Ao Ao Ao (Ar Ao) ?_
         refine Az Ao Ao Ao Ao (A7 Ao Ao Ao) ?_
         refine Az Ao Ao Ao Ao (A2 Ao Ao) ?_
         refine Ap Ao Ao (A2 Ao Ao) ?_
         refine Au Ao ?_
         exact ⟨rfl, rfl, AG, (by refine ⟨_, rfl, fun h => ?_⟩; first | (simp_all; done) | (simp_all <;> omega)), ⟨rfl, rfl, rfl, rfl, rfl, rfl, trivial⟩⟩
       ·(try simp only [sd, se] at g)
        refine A0 Ao Ao Ao Ao Ao ?_
        refine A0 Ao Ao Ao Ao Ao ?_
        refine A0 Ao Ao Ao Ao Ao ?_
        refine A0 Ao Ao Ao Ao Ao ?_
        refine Cg Ao Ao Ao Ao ?_
        refine Cg Ao Ao Ao Ao ?_
        refine Cg Ao Ao Ao Ao ?_
        refine Cg Ao Ao Ao Ao ?_
        refine Cg Ao Ao Ao Ao ?_
        refine Cg Ao Ao Ao Ao ?_
        refine A0 Ao Ao Ao Ao Ao ?_
        refine Ap Ao Ao (A2 Ao Ao) ?_
        refine Au Ao ?_
        exact ⟨rfl, rfl, AG, (by refine ⟨_, rfl, fun h => ?_⟩; first | (simp_all; done) | (simp_all <;> omega)), ⟨rfl, rfl, rfl, rfl, rfl, rfl, trivial⟩⟩
      rintro _ ⟨r, rfl, hr⟩
      refine A4 Ao (fun c4 => ?_) (fun c4 => ?_)
      ·(try simp only [sd, se] at c4)
       refine As ?_
       refine Aq ?_
       refine Ap Ao Ao (At Ao) ?_
       refine Au Ao ?_
       refine A5 ?_
       refine ⟨Ao, _, [], Bj Ao, List.nil_sublist _, ⟨⟨_, Ao, ?_⟩, Ao⟩⟩
       exact fun h => absurd h Al
      ·(try simp only [sd, se] at c4)
       have hv1 := hr (by simpa using c4)
       refine BD ?_
       refine As ?_
       refine As ?_
       refine CB [1, 2, 3, 4, 5, 6] 80 (fun y => ∃ b : Bool, y = .p (.bool b) ∧ (b = false → tk = 12 → 0 ≤ ti ∧ ti < metas)) ?_ ?_
       ·refine Aq ?_
        refine Ap Ao Ao (Av CN Ao Ao) ?_
        refine Ap Ao Ao (Ax (i := 0) DQ Ao Ao Ao) ?_
        refine Ap Ao Ao (A7 Ao Ao Ao) ?_
        refine Ap Ao Ao (Ar Ao) ?_
        refine Bm 70 Ao (fun g => ?_) (fun g => ?_)
        ·(try simp only [sd, se] at g)
         refine Az Ao Ao Ao Ao (Av CN Ao Ao) ?_
         refine Az Ao Ao Ao Ao (Ax (i := 0) DQ Ao Ao Ao) ?_
         refine Az Ao Ao Ao Ao (A7 Ao Ao Ao) ?_
         refine Az Ao Ao Ao Ao (Ar Ao) ?_
         refine Bm 74 Ao (fun g1 => ?_) (fun g1 => ?_)
         ·(try simp only [sd, se] at g1)
          refine A0 Ao Ao Ao Ao Ao ?_
          refine A0 Ao Ao Ao Ao Ao ?_
          refine A0 Ao Ao Ao Ao Ao ?_
          refine A0 Ao Ao Ao Ao Ao ?_
          refine Az Ao Ao Ao Ao (A2 Ao Ao) ?_
          refine Ap Ao Ao (A2 Ao Ao) ?_
          refine Au Ao ?_
          exact ⟨rfl, rfl, AG, (by refine ⟨_, rfl, fun h => ?_⟩; first | (simp_all; done) | (simp_all <;> omega)), ⟨rfl, rfl, rfl, rfl, rfl, rfl, trivial⟩⟩
         ·(try simp only [sd, se] at g1)
          refine Az Ao Ao Ao Ao (Av CN Ao Ao) ?_
          refine Az Ao Ao Ao Ao (Ax (i := 0) DQ Ao Ao Ao) ?_
          refine Az Ao Ao Ao Ao (Ar Ao) ?_
          refine Az Ao Ao Ao Ao (A7 Ao Ao Ao) ?_
          refine Az Ao Ao Ao Ao (A2 Ao Ao) ?_
          refine Ap Ao Ao (A2 Ao Ao) ?_
          refine Au Ao ?_
          exact ⟨rfl, rfl, AG, (by refine ⟨_, rfl, fun h => ?_⟩; first | (simp_all; done) | (simp_all <;> omega)), ⟨rfl, rfl, rfl, rfl, rfl, rfl, trivial⟩⟩
        ·(try simp only [sd, se] at g)
         refine A0 Ao Ao Ao Ao Ao ?_
         refine A0 Ao Ao Ao Ao Ao ?_
         refine A0 Ao Ao Ao Ao Ao ?_
         refine A0 Ao Ao Ao Ao Ao ?_
         refine Cg Ao Ao Ao Ao ?_
         refine Cg Ao Ao Ao Ao ?_
         refine Cg Ao Ao Ao Ao ?_
         refine Cg Ao Ao Ao Ao ?_
         refine A0 Ao Ao Ao Ao Ao ?_
         refine Ap Ao Ao (A2 Ao Ao) ?_
         refine Au Ao ?_
         exact ⟨rfl, rfl, AG, (by refine ⟨_, rfl, fun h => ?_⟩; first | (simp_all; done) | (simp_all <;> omega)), ⟨rfl, rfl, rfl, rfl, rfl, rfl, trivial⟩⟩
       rintro _ ⟨r2, rfl, hr2⟩
       refine A4 Ao (fun c5 => ?_) (fun c5 => ?_)
       ·(try simp only [sd, se] at c5)
        refine As ?_
        refine Aq ?_
        refine Ap Ao Ao (At Ao) ?_
        refine Au Ao ?_
        refine A5 ?_
        refine ⟨Ao, _, [], Bj Ao, List.nil_sublist _, ⟨⟨_, Ao, ?_⟩, Ao⟩⟩
        exact fun h => absurd h Al
       ·(try simp only [sd, se] at c5)
        have hv2 := hr2 (by simpa using c5)
        refine BD ?_
        refine As ?_
        refine As ?_
        refine Aq ?_
        refine Ap Ao Ao (At Ao) ?_
        refine Au Ao ?_
        refine BU ?_
        refine CS (α := Nat) (fun i => ⟨107, mk [(1, .p (I d)), (2, .p (I vars)), (3, .p (I params)), (4, .p (I metas)), (5, .p (I levels)), (6, .ptr b6 0), (15, .p (I (i : Int)))], [.box b6 [.p (I tk), .p (I ti), .p (.str tn), .p (.lst (List.map Db tl)), .p (.lst (BO ts))]], []⟩) (fun i => ts.length - i) (fun i => i ≤ ts.length ∧ (∀ j, j < i → ∀ x, ts[j]? = some x → wf vars metas (d + below tk j) x ∧ LX x ∧ Cn x)) 0 (⟨by omega, fun j h => by omega⟩) ?_ ?_
        ·exact B8 ⟨we Ao, we Ao, we Ao, we Ao, we Ao, we Ao, we Ao, trivial⟩ (leH (is := [0]) Ao (wl (oe Ao) (ET)))
        rintro i hC1
        try simp only at hC1
        obtain ⟨hi, hC⟩ := hC1
        have hbl := Dj tk i
        refine As ?_
        refine As ?_
        refine Aq ?_
        refine Ap Ao Ao (Ar Ao) ?_
        refine Ap Ao Ao (Av CN Ao Ao) ?_
        refine Ap Ao Ao (Ax (i := 0) DC Ao Ao Ao) ?_
        refine Ap Ao Ao (Bx B4 Ao (Bt _)) ?_
        refine Ap Ao Ao (A7 Ao Ao Ao) ?_
        refine Au Ao ?_
        refine A4 Ao (fun c6 => ?_) (fun c6 => ?_)
        ·(try simp only [sd, se] at c6)
         refine BD ?_
         refine As ?_
         refine BU ?_
         refine As ?_
         refine CJ (fun k => Nat.beq k 15) Dq ?_
         refine Ay Ao Ao (fun _ => Av CN Ao Ao) trivial ?_
         refine BK (j := 0) rfl rfl rfl (fun H i hi => Ax (i := i) DC rfl hi rfl) (by repeat' first | exact trivial | refine And.intro ?_ ?_ | ((refine Or.inr (And.intro ?_ ?_) <;> repeat (first | exact List.Mem.head _ | apply List.Mem.tail)); done) | exact Or.inl Ai) trivial ?_
         refine Ay Ao Ao (fun _ => Ar Ao) trivial ?_
         obtain ⟨x, hx⟩ := BM (l := ts) (i := i) Am
         refine Ay Ao Ao (fun _ => BJ B4 Ao Ao Am (B9 hx) (Bh _)) trivial ?_
         refine Ay Ao Ao (fun _ => Be BI Ao (Bh _)) trivial ?_
         refine Ay Ao Ao (fun _ => Ar Ao) trivial ?_
         refine Ay Ao Ao (fun _ => Av CN Ao Ao) trivial ?_
         refine BK (j := 0) rfl rfl rfl (fun H i hi => Ax (i := i) DQ rfl hi rfl) (by repeat' first | exact trivial | refine And.intro ?_ ?_ | ((refine Or.inr (And.intro ?_ ?_) <;> repeat (first | exact List.Mem.head _ | apply List.Mem.tail)); done) | exact Or.inl Ai) trivial ?_
         refine Ay Ao Ao (fun _ => Ar Ao) trivial ?_
         refine Ay Ao Ao (fun _ => Bf Ao Ao (Qr tk (i : Int)) Ao) trivial ?_
         refine Ay Ao Ao (fun _ => CT Ao Ao Am Am) trivial ?_
         refine Ay Ao Ao (fun _ => Ar Ao) trivial ?_
         refine Ay Ao Ao (fun _ => Ar Ao) trivial ?_
         refine Ay Ao Ao (fun _ => Ar Ao) trivial ?_
         refine Ay Ao Ao (fun _ => Ar Ao) trivial ?_
         refine V5 [] rfl rfl (BR rfl rfl (ih x ((d : Int) + (below tk (i : Int) : Int)) vars params metas levels (by have := DD hx; omega) (Dn h2.2.2.2.2.1 hx) (by have := Dj tk i; omega) (by have := Dj tk i; simp only [Dp]; omega)) (.inl rfl)) Ai (⟨_, 1, rfl, fun h => absurd h Al⟩) (by repeat' first | exact trivial | refine And.intro ?_ ?_ | ((refine Or.inr (And.intro ?_ ?_) <;> repeat (first | exact List.Mem.head _ | apply List.Mem.tail)); done) | exact Or.inl Ai) ?_
         rintro _ ⟨e, rfl, he⟩
         refine ⟨trivial, ?_⟩
         refine Ay Ao Ao (fun _ => At Ao) trivial ?_
         refine CA Ao Ai ?_
         refine As ?_
         refine Aq ?_
         refine Ap Ao Ao (Ar Ao) ?_
         refine Ap Ao Ao (A7 Ao Ao Ao) ?_
         refine Au Ao ?_
         refine A4 Ao (fun c7 => ?_) (fun c7 => ?_)
         ·(try simp only [sd, se] at c7)
          refine As ?_
          refine Aq ?_
          refine Ap Ao Ao (Ar Ao) ?_
          refine Ap Ao Ao (At Ao) ?_
          refine Au Ao ?_
          refine A5 ?_
          refine ⟨Ao, _, [], Bj Ao, List.nil_sublist _, ⟨⟨_, Ao, ?_⟩, Ao⟩⟩
          exact fun h => absurd h Aj
         ·(try simp only [sd, se] at c7)
          refine BD ?_
          refine Aq ?_
          refine Ap Ao Ao (Ar Ao) ?_
          refine Ap Ao Ao (CT Ao Ao Am Am) ?_
          refine Ap Ao Ao (At Ao) ?_
          refine Au Ao ?_
          refine ⟨(i + 1), AT, ⟨by omega, FG hC hx (he Am)⟩, B8 ⟨we rfl, we rfl, we rfl, we rfl, we rfl, we rfl, we rfl, trivial⟩ (leH (is := [0]) rfl (wl (oe rfl) (ET)))⟩
        ·(try simp only [sd, se] at c6)
         refine CL ?_
         refine As ?_
         refine Aq ?_
         refine Ap Ao Ao (At Ao) ?_
         refine Au Ao ?_
         refine A5 ?_
         refine ⟨Ao, _, [], Bj Ao, List.nil_sublist _, ⟨⟨_, Ao, ?_⟩, Ao⟩⟩
         have hq0 : ∀ c ∈ tn.data.toList, Q8 c := if h : tk = 3 then SC (hnm h) else UJ (hf.2.1 h)
         exact fun _ => ⟨⟨hf.1.1, hf.1.2.1, hf.1.2.2, hv1, hv2, R7 fun j x hx => by have h9 := (hC j (by have := (List.getElem?_eq_some_iff.1 hx).1; omega) x hx).1; simpa using h9⟩, ⟨hq0, Q7 fun j x hx => (hC j (by have := (List.getElem?_eq_some_iff.1 hx).1; omega) x hx).2.1⟩, ⟨⟨hf.2.2.1, fun k => Nb ((hf.2.1 k).trans (by rw [Dw])), hf.2.2.2, hf.1.2.2⟩, Sx fun j x hx => (hC j (by have := (List.getElem?_eq_some_iff.1 hx).1; omega) x hx).2.2⟩⟩
end Go.Proofs.YtapmjpihennhaaaGreatDoor
namespace Go.Abs
theorem K0 (a : ByteArray) : (a == a) = true := (MapKept.bytes_beq a a).2 rfl
theorem Qm {a b : ByteArray} (h : a ≠ b) : (a == b) = false := by
 cases e : (a == b)
 ·rfl
 ·exact absurd ((MapKept.bytes_beq a b).1 e) h
def JR (k : ByteArray) : List (ByteArray × AV) → Option AV
 | [] => none
 | (j, x) :: r => if j = k then some x else JR k r
def sset (k : ByteArray) (v : AV) : List (ByteArray × AV) → List (ByteArray × AV)
 | [] => [(k, v)]
 | (j, x) :: r => if j = k then (j, v) :: r else (j, x) :: sset k v r
def DY (l : List (ByteArray × AV)) : List (PV × AV) := l.map fun p => (.str p.1, p.2)
def Js (P : Program) (T : TypeId) : Option TypeId :=
 match P.underlying T with
 | some (.map k e) => match P.underlying k with
  | some .string => some e
  | _ => none
 | _ => none
theorem LA {P : Program} {T e : TypeId} (h : Js P T = some e) : ∃ k, P.underlying T = some (.map k e) ∧ P.underlying k = some .string := by
 unfold Js at h
 split at h
 ·rename_i k e' hu
  split at h
  ·rename_i hk; injection h with h; subst h; exact ⟨k, hu, hk⟩
  ·cases h
 ·cases h
section
variable {F : Nat → Prop} {w : World}
theorem Kp {k : ByteArray} : ∀ {l : List (ByteArray × AV)} {es : List MapEntry} (i : Nat), DO F w (DY l) es →
  (JR k l = none ∧ Instr.findNow .string (.string k) es i = some none) ∨ ∃ j e x, JR k l = some x ∧ Instr.findNow .string (.string k) es i = some (some (i + j, e.val)) ∧ es[j]? = some e ∧ e.key = .string k ∧ CF F w x e.val
 | [], es, i, h => by simp only [DY, List.map_nil, DO] at h; subst h; exact .inl ⟨rfl, rfl⟩
 | (j, x) :: l, es, i, h => by
  simp only [DY, List.map_cons, DO] at h
  obtain ⟨e, es', rfl, hk, hx, hr⟩ := h
  simp only [CQ] at hk
  by_cases hj : j = k
  ·subst hj
   exact .inr ⟨0, e, x, by simp [JR], by simp [Instr.findNow, hk, Instr.sameNow, K0], rfl, hk, hx⟩
  ·have hne : (k == j) = false := Qm (Ne.symm hj)
   rcases Kp (k := k) (i + 1) hr with ⟨h1, h2⟩ | ⟨q, e', x', h1, h2, h3, h4, h5⟩
   ·exact .inl ⟨by simp [JR, hj, h1], by simp [Instr.findNow, hk, Instr.sameNow, hne, h2]⟩
   ·exact .inr ⟨q + 1, e', x', by simp [JR, hj, h1], by simp [Instr.findNow, hk, Instr.sameNow, hne, h2]; omega, by simpa using h3, h4, h5⟩
theorem Ny {k : ByteArray} {v : AV} {u : Value} {c : Nat} : ∀ {l : List (ByteArray × AV)} {es : List MapEntry}, DO F w (DY l) es → JR k l = none → CF F w v u → DO F w (DY (sset k v l)) (es ++ [{ key := .string k, val := u, born := c }])
 | [], es, h, _, hv => by
  simp only [DY, List.map_nil, DO] at h
  subst h
  simp only [sset, DY, List.map_cons, List.map_nil, List.nil_append, DO]
  exact ⟨_, [], Ao, by simp [CQ], hv, rfl⟩
 | (j, x) :: l, es, h, hm, hv => by
  simp only [DY, List.map_cons, DO] at h
  obtain ⟨e, es', rfl, hk, hx, hr⟩ := h
  by_cases hj : j = k
  ·simp [JR, hj] at hm
  ·simp only [JR, if_neg hj] at hm
   simp only [sset, if_neg hj, DY, List.map_cons, List.cons_append, DO]
   exact ⟨e, _, Ao, hk, hx, Ny hr hm hv⟩
theorem Ov {k : ByteArray} {v : AV} {u : Value} : ∀ {l : List (ByteArray × AV)} {es : List MapEntry} {j : Nat} (i : Nat) {y : Value}, DO F w (DY l) es → Instr.findNow .string (.string k) es i = some (some (i + j, y)) → CF F w v u → DO F w (DY (sset k v l)) (es.modify j fun e => { e with key := .string k, val := u })
 | [], es, j, i, y, h, hf, _ => by simp only [DY, List.map_nil, DO] at h; subst h; simp [Instr.findNow] at hf
 | (q, x) :: l, es, j, i, y, h, hf, hv => by
  simp only [DY, List.map_cons, DO] at h
  obtain ⟨e, es', rfl, hk, hx, hr⟩ := h
  simp only [CQ] at hk
  by_cases hj : q = k
  ·subst hj
   simp [Instr.findNow, hk, Instr.sameNow, K0] at hf
   obtain ⟨rfl, _⟩ : j = 0 ∧ True := ⟨by omega, trivial⟩
   simp only [sset, if_true, DY, List.map_cons, DO]
   exact ⟨_, es', Ao, by simp [CQ], hv, hr⟩
  ·have hne : (k == q) = false := Qm (Ne.symm hj)
   simp only [Instr.findNow, hk, Instr.sameNow, if_true, hne] at hf
   cases j with
   | zero =>
    have : ∀ (es : List MapEntry) (m : Nat) (y : Value) (r : Nat), Instr.findNow .string (.string k) es m = some (some (r, y)) → m ≤ r := by
     intro es
     induction es with
     | nil => intro m y r h; simp [Instr.findNow] at h
     | cons e es ih =>
      intro m y r h
      simp only [Instr.findNow] at h
      split at h
      ·simp at h; omega
      ·have := ih _ _ _ h; omega
      ·cases h
    have := this _ _ _ _ hf
    omega
   | succ j =>
    simp only [sset, if_neg hj, DY, List.map_cons, List.modify_succ_cons, DO]
    exact ⟨e, _, Ao, by simpa [CQ] using hk, hx, Ov (i + 1) hr (by rw [show i + 1 + j = i + (j + 1) by omega]; exact hf) hv⟩
end
section
variable {P : Program} {dst : Option Tmp} {ty : TypeId} {pos : String} {aft : Array Edge} {g : Option (Nat × Bool)} {ρ : Operand → AV} {H : List BL} {x y z : Operand} {v : AV}
theorem M3 {T e : TypeId} {b i : Nat} {l : List (ByteArray × AV)} {k : ByteArray} {zv : Value} {za : AV} (hT : Js P T = some e) (hz : zeroOf P e = some zv) (hza : ∀ F w, CF F w za zv) (hx : ρ x = .map b) (hy : ρ y = .p (.str k)) (hi : H[i]? = some (.map b (DY l))) :
  DS P ⟨dst, .lookup T x y true, ty, pos, aft, g⟩ ρ H (.tup [(JR k l).getD za, .p (.bool (JR k l).isSome)]) H :=
 CK fun F w E hH hE => by
  obtain ⟨kt, hu, hk⟩ := LA hT
  have h1 := hE x Ac
  have h2 := hE y Ac
  rw [hx] at h1
  rw [hy] at h2
  simp only [CF, CQ] at h1 h2
  obtain ⟨es, clk, hb, hr⟩ := hH.obj _ (List.mem_of_getElem? hi)
  have hzv : (zeroValue e).run P w = .ok zv w := by
   unfold zeroOf at hz
   cases hi : P.info? e with
   | none => simp [hi] at hz
   | some i => have hz' : i.zero = some zv := by simpa [hi] using hz
               simp [zeroValue, typeInfo, hi, hz', Sem.run_bind]
  have hkey : MapKept.IsKey .string (.string k) := trivial
  rcases Kp (k := k) 0 hr with ⟨h3, h4⟩ | ⟨j, e', x', h3, h4, h5, h6, h7⟩
  ·refine ⟨.tuple #[zv, .bool false], ?_, ?_⟩
   ·simp [execOp, Instr.lookup, Sem.run_bind, run_underlying hu, h1, h2, MapKept.run_getObj_map hb, MapKept.run_checkKey hk hkey, MapKept.run_findKey hk h4, hzv]
   ·simp only [h3, CF, Bu, CQ]
    exact ⟨[zv, .bool false], Ao, _, _, Ao, hza F w, _, _, Ao, Ao, Ao⟩
  ·refine ⟨.tuple #[e'.val, .bool true], ?_, ?_⟩
   ·simp [execOp, Instr.lookup, Sem.run_bind, run_underlying hu, h1, h2, MapKept.run_getObj_map hb, MapKept.run_checkKey hk hkey, MapKept.run_findKey hk h4]
   ·simp only [h3, CF, Bu, CQ]
    exact ⟨[e'.val, .bool true], Ao, _, _, Ao, h7, _, _, Ao, Ao, Ao⟩
theorem Mo {T e : TypeId} {b i : Nat} {l : List (ByteArray × AV)} {k : ByteArray} {va : AV} (hT : Js P T = some e) (hx : ρ x = .map b) (hy : ρ y = .p (.str k)) (hz : ρ z = va) (hi : H[i]? = some (.map b (DY l))) :
  DS P ⟨dst, .mapUpdate T x y z, ty, pos, aft, g⟩ ρ H (.p .any) (H.set i (.map b (DY (sset k va l)))) :=
 (F4 (R := Yn (.p .any) (H.set i (.map b (DY (sset k va l))))) fun F w E hH hE => by
  obtain ⟨kt, hu, hk⟩ := LA hT
  have h1 := hE x Ac
  have h2 := hE y Ac
  have h0 := hE z Ac
  rw [hx] at h1
  rw [hy] at h2
  rw [hz] at h0
  simp only [CF, CQ] at h1 h2
  obtain ⟨es, clk, hb, hr⟩ := hH.obj _ (List.mem_of_getElem? hi)
  have hFb : F b := hH.sub _ (List.mem_of_getElem? hi) b rfl
  have hlt := hH.bd b hFb
  have hkey : MapKept.IsKey .string (.string k) := trivial
  have fin : ∀ (es' : Array MapEntry) (clk' : Nat), DO F w (DY (sset k va l)) es'.toList → Trans F H w F (H.set i (.map b (DY (sset k va l)))) { w with heap := w.heap.setIfInBounds b (.map es' clk') } ∧ HRel F (H.set i (.map b (DY (sset k va l)))) { w with heap := w.heap.setIfInBounds b (.map es' clk') } := by
   intro es' clk' hr'
   have hw : E6 b (.map es' clk') w { w with heap := w.heap.setIfInBounds b (.map es' clk') } := ⟨rfl, rfl, rfl, rfl⟩
   have st := hw.stable hFb
   exact ⟨hw.trans hi Ao Ao, hw.HRel hH hi Ao Ao ⟨es', clk', hw.self hlt, DO.mono st _ _ hr'⟩⟩
  rcases Kp (k := k) 0 hr with ⟨h3, h4⟩ | ⟨j, e', x', h3, h4, h5, h6, h7⟩
  ·have hr' := Ny (c := clk) hr h3 h0
   obtain ⟨f1, f2⟩ := fin (es.push { key := .string k, val := E z, born := clk }) (clk + 1) (by simpa using hr')
   refine ⟨_, _, F, ?_, ⟨Ao, Ao⟩, f1, f2⟩
   simp [execOp, Instr.mapUpdate, Sem.run_bind, run_underlying hu, h1, h2, MapKept.run_getObj_map hb, MapKept.run_checkKey hk hkey, MapKept.run_findKey hk h4, MapKept.run_setObj_map _ hb]
  ·have hr' := Ov (v := va) (u := E z) 0 hr h4 h0
   obtain ⟨f1, f2⟩ := fin (es.modify j fun e => { e with key := .string k, val := E z }) clk (by simpa using hr')
   refine ⟨_, _, F, ?_, ⟨Ao, Ao⟩, f1, f2⟩
   have h5' : es[j]? = some e' := by simpa using h5
   simp [execOp, Instr.mapUpdate, Sem.run_bind, run_underlying hu, h1, h2, MapKept.run_getObj_map hb, MapKept.run_checkKey hk hkey, MapKept.run_findKey hk h4, MapKept.run_setObj_map _ hb, h5', h6, Instr.keyThatStays, Instr.sameBits, K0])
end
section
variable {P : Program} {dst : Option Tmp} {ty : TypeId} {pos : String} {aft : Array Edge} {g : Option (Nat × Bool)} {ρ : Operand → AV} {H : List BL} {x y z : Operand} {v : AV}
def appendTR (i : Nat) (e : TypeId) (rows : List (List PV)) (H : List BL) : DM → List BL → Prop
 | .val v, H' => ∃ o c, v = .vs o rows.length c ∧ H' = H.set i (.vecT o e false rows c)
 | .panic _, _ => False
theorem SB {F : Nat → Prop} {w : World} {o : Option Nat} {e : TypeId} {rows : List (List PV)} {c : Nat} (h : Fc F w (.vecT o e false rows c)) : Fc F w (.vec o 1 rows c) := by
 cases o with
 | none => exact h
 | some b =>
  obtain ⟨vs, h1, h2, h3, h4⟩ := h
  exact ⟨vs, e, by simpa using h1, by omega, h3, h4⟩
theorem Ru {F : Nat → Prop} {w : World} {c : Nat} {rows : List (List PV)} {vs : List Value} {T : TypeId} (hH : HRel F H w) (hr : ∀ r ∈ rows, r.length = 1) (hl : Bu F w (rows.flatten.map .p) (vs.take rows.flatten.length)) (hc : c ≤ vs.length) (hcl : rows.length ≤ c) :
  ∃ v H' F', (∃ b c, v = .vs (some b) rows.length c ∧ H' = .vecT (some b) T false rows c :: H) ∧ Trans F H w F' H' (World.push w (.cells ⟨vs⟩ T (0, 0))) ∧ HRel F' H' (World.push w (.cells ⟨vs⟩ T (0, 0))) ∧ CF F' (World.push w (.cells ⟨vs⟩ T (0, 0))) v (.slice (some ⟨w.heap.size, 0, none⟩) rows.length c) := by
 refine ⟨.vs (some w.heap.size) rows.length c, _, _, ⟨w.heap.size, c, Ao, Ao⟩, Gw H (.vecT (some w.heap.size) T false rows c) _ (.inl Ao), ?_, by simp [CF]⟩
 refine HV hH (.vecT (some w.heap.size) T false rows c) _ Ao ?_
 refine ⟨⟨vs⟩, GC _, by simpa using hc, hcl, ?_⟩
 refine Ft (vs := vs.take rows.flatten.length) hr ?_ (Bu.mono (Ej _ fun b h => h) _ _ hl)
 have := GP (GC (w := w) (.cells ⟨vs⟩ T (0, 0))) 0 rows.flatten.length
 simpa using this
theorem Mm {T T2 e : TypeId} {bytes c i n : Nat} {o : Option Nat} {rows : List (List PV)} {s : ByteArray} {zv : Value} (hT : E3 P T = some (e, 1, bytes)) (hu2 : P.underlying T2 = some .string) (hz : zeroOf P e = some zv) (hzs : zv.cells.size = 1) (hb0 : Nat.blt 0 bytes = true)
  (hx : ρ x = .vs o n c) (hn : n = rows.length) (hi : H[i]? = some (.vecT o e false rows c)) (hy : ρ y = .p (.str s)) (hroom : 2 * (rows.length + s.size) * bytes ≤ 281474976710656) :
  C6 P ⟨dst, .call { callee := .builtin .append, args := #[x, y], argTypes := #[T, T2] }, ty, pos, aft, g⟩ ρ H (appendTR i e (rows ++ D4 s) H) :=
 FW fun F w E hH hE => by
  subst hn
  obtain ⟨sz, hsz⟩ : ∃ sz, sz = 1 := ⟨1, rfl⟩
  obtain ⟨rows', hrw⟩ : ∃ r, r = D4 s := ⟨_, rfl⟩
  have hsol : ∀ r ∈ rows', DP sz r := by subst hsz; subst hrw; exact M7 s
  have hsl : rows'.length = s.size := by subst hrw; exact GH s
  rw [← hrw]
  rw [← hsl] at hroom
  rw [← hsz] at hT hzs
  have hr' : ∀ r ∈ rows', r.length = sz := fun r hr => (hsol r hr).1
  have hb0 : (Nat.blt 0 sz && Nat.blt 0 bytes) = true := by subst hsz; simpa using hb0
  simp only [Bool.and_eq_true, Nat.blt_eq] at hb0
  obtain ⟨hu, inf, hinf, hs, hby⟩ := E1 hT
  have h1 := hE x AU
  have h2 := hE y AU
  rw [hx] at h1
  rw [hy] at h2
  have hobjT := hH.obj _ (List.mem_of_getElem? hi)
  have hobj : Fc F w (.vec o sz rows c) := by subst hsz; exact SB hobjT
  obtain ⟨ns, hEy, hns, hnsl, hnsr⟩ := Iq (P := P) h2 hrw.symm hsz
  obtain ⟨os, hos, hosl, hosr⟩ := FM (P := P) hobj h1
  have hEx : ∃ base, E x = .slice base rows.length c ∧ (∀ b, o = some b → base = some ⟨b, 0, none⟩) := by
   cases o with
   | none =>
    simp only [CF] at h1
    obtain ⟨e1, e2, a, ha⟩ := h1
    refine ⟨a, ?_, fun b hb => by cases hb⟩
    rw [ha, e1, e2]
   | some b => simp only [CF] at h1; exact ⟨_, h1, fun b' hb => by injection hb with hb; subst hb; rfl⟩
  obtain ⟨base, hEx, hbase⟩ := hEx
  unfold zeroOf at hz
  have hz' : ∃ j, P.info? e = some j ∧ j.zero = some zv := by
   cases hq : P.info? e with
   | none => simp [hq] at hz
   | some j => exact ⟨j, rfl, by simpa [hq] using hz⟩
  obtain ⟨j, hj, hz'⟩ := hz'
  have hzv : ∀ w, (zeroValue e).run P w = .ok zv w := fun w => by simp [zeroValue, typeInfo, hj, hz', Sem.run_bind]
  have hti : ∀ w, (typeInfo e).run P w = .ok inf w := fun w => by simp [typeInfo, hinf]
  have hszr : ∀ w, (sizeOf e).run P w = .ok sz w := fun w => by simp [sizeOf, typeInfo, hinf, hs]
  have hlens := hobj.lens
  have hlall : ∀ r ∈ rows ++ rows', r.length = sz := by
   intro r hr
   rcases List.mem_append.1 hr with hr | hr
   ·exact hlens r hr
   ·exact hr' r hr
  have hlen : (rows ++ rows').length = rows.length + rows'.length := by simp
  have hlenof : ∀ w, (Builtin.lenOf (E y)).run P w = .ok rows'.length w := fun w => by rw [hEy, hsl]; rfl
  by_cases hcap : rows.length + rows'.length ≤ c
  ·-- there is room
   have hrun : ∀ w', (match base with | some a => (storeCells (a.add (rows.length * sz)) ns).run P w = .ok () w' | none => w' = w) →
     (execOp E ⟨dst, .call { callee := .builtin .append, args := #[x, y], argTypes := #[T, T2] }, ty, pos, aft, g⟩).run P w = .ok (.value (.slice base (rows.length + rows'.length) c)) w' := by
    intro w' hst
    have hEx' := hEx
    simp only [execOp, resolve, invoke, builtin, Builtin.append_, hEx, Sem.run_bind, Sem.run_pure, Result.andThen_ok, List.map_toArray, List.map_cons, List.map_nil, List.getElem?_toArray, List.getElem?_cons_zero, List.getElem?_cons_succ, run_underlying hu, run_underlying hu2, hszr, pure_bind,
     Bool.false_eq_true, if_false, hlenof, Bool.not_false, if_true]
    rw [if_pos hcap]
    simp only [Sem.run_bind, hns, Result.andThen_ok]
    cases base with
    | none => simp only at hst; subst hst; simp
    | some a => simp only at hst; simp [hst]
   cases o with
   | none =>
    obtain ⟨rfl, rfl⟩ := hobj
    have hr0 : rows' = [] := by simpa using hcap
    subst hr0
    have hns0 : ns = [] := by
     apply List.eq_nil_of_length_eq_zero; simpa using hnsl
    subst hns0
    have hset : H.set i (.vecT none e false ([] ++ []) 0) = H := by
     rw [List.append_nil]
     apply List.ext_getElem?
     intro k
     rw [List.getElem?_set]
     split
     ·rename_i hk; subst hk; rw [hi]; split
      ·rfl
      ·rename_i hge; rw [List.getElem?_eq_none Am] at hi; cases hi
     ·rfl
    refine ⟨_, w, .vs none 0 0, H, F, hrun w ?_, ⟨none, 0, Ao, hset.symm⟩, .refl, hH, ?_⟩
    ·cases base with
     | none => rfl
     | some a => rfl
    ·simp only [CF]; exact ⟨trivial, trivial, base, rfl⟩
   | some b =>
    obtain ⟨vs, hb, hcs, hcl, hrows⟩ := hobjT
    obtain ⟨vs⟩ := vs
    simp only [Bool.false_eq_true, if_false] at hb
    rw [← hsz] at hrows
    have hbase' := hbase b rfl
    subst hbase'
    have hcs' : c * sz ≤ vs.length := by rw [hsz, Nat.mul_one]; simpa using hcs
    have hlt : b < w.heap.size := (Array.getElem?_eq_some_iff.1 hb).1
    have hF : F b := hH.sub _ (List.mem_of_getElem? hi) b rfl
    cases hrr : rows' with
    | nil =>
     subst hrr
     have hns0 : ns = [] := by
      apply List.eq_nil_of_length_eq_zero; simpa using hnsl
     subst hns0
     have hset : H.set i (.vecT (some b) e false (rows ++ []) c) = H := by
      rw [List.append_nil]
      apply List.ext_getElem?
      intro k
      rw [List.getElem?_set]
      split
      ·rename_i hk; subst hk; rw [hi]; split
       ·rfl
       ·rename_i hge; rw [List.getElem?_eq_none Am] at hi; cases hi
      ·rfl
     refine ⟨_, w, .vs (some b) (rows ++ []).length c, H, F, hrun w Ao, ⟨some b, c, Ao, hset.symm⟩, .refl, hH, ?_⟩
     simp [CF]
    | cons r0 rr =>
     rw [← hrr]
     have hnsne : ns ≠ [] := by
      intro e0; rw [e0] at hnsl; rw [hrr] at hnsl; simp [Nat.succ_mul] at hnsl; omega
     have hw : E6 b (.cells ⟨splice vs (rows.length * sz) ns⟩ e (0, 0)) w (w.setCells b (rows.length * sz) ns) := ED ns hb hnsne
     have hfit : rows.length * sz + ns.length ≤ vs.length := by
      have : (rows.length + rows'.length) * sz ≤ c * sz := Nat.mul_le_mul_right sz hcap
      rw [Nat.add_mul] at this
      omega
     have st := hw.stable hF
     have hb' := hw.self hlt
     refine ⟨_, w.setCells b (rows.length * sz) ns, .vs (some b) (rows ++ rows').length c, _, F, hrun _ ?_, ⟨some b, c, Ao, Ao⟩, hw.trans hi Ao Ao, hw.HRel hH hi Ao Ao ?_, by simp [CF]⟩
     ·have ht := MU hb (o := rows.length * sz) (n := ns.length) hfit
      have h1' : ∀ u ∈ ns, u.oneCell' = true := Hd hnsr (Ni hsol)
      have := run_storeCells_cells (P := P) b (rows.length * sz) ns 0 w (fun q hq => by simpa using (ht q hq).1) (fun q hq => by simpa using (ht q hq).2) h1'
      simp only [Nat.add_zero] at this
      simp only [Addr.add_mid, Nat.zero_add]
      exact this
     ·refine ⟨⟨splice vs (rows.length * sz) ns⟩, by simpa using hb', by simp only [ES, List.size_toArray]; simpa using hcs, by simp; omega, ?_⟩
      rw [← hsz]
      refine Ie ?_ ?_
      ·have : ∀ {rs : List (List PV)} {q : Nat}, q + rs.length * sz ≤ rows.length * sz → Bw F w b sz q rs → Bw F (w.setCells b (rows.length * sz) ns) b sz q rs := by
        intro rs
        induction rs with
        | nil => intro q _ _; simp [Bw]
        | cons a rs ih2 =>
         intro q hq ha
         simp only [Bw] at ha ⊢
         simp only [List.length_cons, Nat.succ_mul] at hq
         exact ⟨ha.1, Gg hb hb' st (.inl (by rw [ha.1]; omega)) ha.2.1, ih2 Am ha.2.2⟩
       exact this Am hrows
      ·refine Ft (vs := ns) hr' ?_ (Bu.mono st _ _ hnsr)
       intro q u hq
       have := Hl ns vs (rows.length * sz) q u hq hfit
       simp [World.cell?, hb', this]
  ·-- a new array
   have hcap' : c < rows.length + rows'.length := by omega
   generalize hnc : Question.cut (.appendCap (rows.length + rows'.length) c e) (w.tape w.drawn (.appendCap (rows.length + rows'.length) c e)) = newCap
   have hncge : rows.length + rows'.length ≤ newCap := by rw [← hnc]; simp only [Question.cut]; omega
   have hnext := L0 hcap'
   have hask : ∀ (b : Nat) w, (askRoom b).run P w = .ok () w := by intro b w; unfold askRoom; split <;> rfl
   let w1 : World := { w with drawn := w.drawn + 1 }
   have same : C2 F w F w1 := ⟨Nat.le_refl _, fun _ _ _ => rfl, fun _ h _ => h⟩
   have hobj' : Fc F w1 (.vec o sz rows c) := Fc.mono same _ (fun _ _ => rfl) hobj
   obtain ⟨ns', hEy', hns', hnsl', hnsr'⟩ := Iq (P := P) (CF.mono same _ _ h2) hrw.symm hsz
   obtain ⟨os', hos', hosl', hosr'⟩ := FM (P := P) hobj' (CF.mono same _ _ h1)
   let vs : List Value := os' ++ ns' ++ (Builtin.zeroCells zv.cells (newCap - (rows.length + rows'.length))).toList
   have hrun : (execOp E ⟨dst, .call { callee := .builtin .append, args := #[x, y], argTypes := #[T, T2] }, ty, pos, aft, g⟩).run P w = .ok (.value (.slice (some ⟨w.heap.size, 0, none⟩) (rows.length + rows'.length) newCap)) (World.push w1 (.cells ⟨vs⟩ e (0, 0))) := by
    have hos2 := hos'
    rw [hEx] at hos2
    simp only [execOp, resolve, invoke, builtin, Builtin.append_, hEx, Sem.run_bind, Sem.run_pure, Result.andThen_ok, List.map_toArray, List.map_cons, List.map_nil, List.getElem?_toArray, List.getElem?_cons_zero, List.getElem?_cons_succ, run_underlying hu, run_underlying hu2, hszr, pure_bind,
     Bool.false_eq_true, if_false, hlenof, Bool.not_false, if_true]
    rw [if_neg hcap]
    simp only [Sem.run_bind, hti, Result.andThen_ok, hby]
    rw [if_neg Ah]
    simp only [Sem.run_bind, Sem.run_pure, Result.andThen_ok, hti, hby, pure_bind]
    rw [if_neg (by
     have : Builtin.nextslicecap (rows.length + rows'.length) c * bytes ≤ 2 * (rows.length + rows'.length) * bytes := Nat.mul_le_mul_right bytes hnext
     simp; omega)]
    have hch : (choose (.appendCap (rows.length + rows'.length) c e)).run P w = .ok newCap w1 := by
     simp only [choose, Sem.run, Question.forced, Bool.false_eq_true, if_false, hnc]
     rfl
    simp only [Sem.run_bind, Sem.run_pure, Result.andThen_ok, pure_bind, hch, hti, hask, hos2, hns', hzv, newRow, newObj, Sem.run, Result.andThen]
    have evs : (⟨os'⟩ ++ ⟨ns'⟩ ++ Builtin.zeroCells zv.cells (newCap - (rows.length + rows'.length)) : Array Value) = ⟨vs⟩ := by
     apply Array.ext'; simp [vs]
    rw [evs]
    rfl
   have hvl : vs.length = newCap * sz := by
    simp only [vs, List.length_append, hosl', hnsl', Array.length_toList, JY, hzs]
    rw [← Nat.add_mul, ← Nat.add_mul]
    congr 1
    omega
   have hlen2 : (rows ++ rows').flatten.length = (rows.length + rows'.length) * sz := by rw [Ss hlall, hlen]
   have hpre : Bu F w1 ((rows ++ rows').flatten.map .p) (vs.take ((rows ++ rows').flatten.length)) := by
    have e1 : vs.take ((rows ++ rows').flatten.length) = os' ++ ns' := by
     rw [hlen2]
     have : (os' ++ ns').length = (rows.length + rows'.length) * sz := by rw [List.length_append, hosl', hnsl', Nat.add_mul]
     rw [← this]
     exact List.take_left
    rw [e1, List.flatten_append, List.map_append]
    exact hosr'.append hnsr'
   -- the tracked object lies in the new array
   have hH1 : HRel F H w1 := hH.stable' same (fun _ h => h) (fun _ _ _ _ => rfl) hH.bd
   have t1 : Trans F H w F H w1 := ⟨Nat.le_refl _, fun _ _ _ => rfl, fun _ h _ => h, fun _ h => .inl h, fun o ho b hb => .inl ⟨o, ho, hb⟩, rfl, rfl, rfl⟩
   obtain ⟨v', H', F', ⟨b', c', hv', hH'⟩, ht, hHr, hrep⟩ := Ru (T := e) (c := newCap) (vs := vs) (H := H) hH1 (by subst hsz; exact hlall) hpre (by rw [hvl, hsz]; omega) (by rw [hlen]; exact hncge)
   subst hv'
   subst hH'
   have hset : H.set i (.vecT (some b') e false (rows ++ rows') c') = H.take i ++ .vecT (some b') e false (rows ++ rows') c' :: H.drop (i + 1) := by
    rw [List.set_eq_take_append_cons_drop, if_pos (List.getElem?_eq_some_iff.1 hi).1]
   have hperm : (BL.vecT (some b') e false (rows ++ rows') c' :: H.eraseIdx i).Perm (H.set i (.vecT (some b') e false (rows ++ rows') c')) := by
    rw [hset, List.eraseIdx_eq_take_drop_succ]
    exact List.perm_middle.symm
   have hsub : (BL.vecT (some b') e false (rows ++ rows') c' :: H.eraseIdx i).Sublist (BL.vecT (some b') e false (rows ++ rows') c' :: H) := (List.eraseIdx_sublist H i).cons_cons _
   refine ⟨_, _, .vs (some b') (rows ++ rows').length c', H.set i (.vecT (some b') e false (rows ++ rows') c'), F', hrun, ⟨some b', c', Ao, Ao⟩, ?_, (hHr.sublist hsub).perm hperm, by rw [← hlen]; exact hrep⟩
   have := (t1.trans hH.bd ht).sublist hsub
   exact { this with keys := fun o ho => this.keys o (hperm.mem_iff.2 ho) }
theorem M6 {T e : TypeId} {b n c i : Nat} {fr : Bool} {rows : List (List PV)} (hx : ρ x = .vs (some b) n c) (hi : H[i]? = some (.vecT (some b) e fr rows c)) (h0 : Nat.blt 0 rows.length = true) :
  DS P ⟨dst, .call { callee := .builtin .unsafeSliceData, args := #[x], argTypes := #[T] }, ty, pos, aft, g⟩ ρ H (.ptr b 0) H :=
 CK fun F w E hH hE => by
  have h1 := hE x AU
  rw [hx] at h1
  simp only [CF] at h1
  obtain ⟨vs, _, _, hcl, _⟩ := hH.obj _ (List.mem_of_getElem? hi)
  refine ⟨.pointer (some ⟨b, 0, none⟩), ?_, by simp [CF]⟩
  have := Go.Lib.run_unsafeSliceData_row (P := P) (w := w) #[T] ty ⟨b, 0, none⟩ n c (by rw [Nat.blt_eq] at h0; omega)
  simp only [execOp, resolve, invoke, builtin, List.map_toArray, List.map_cons, List.map_nil, h1, Sem.run_bind, this, Result.andThen_ok, Sem.run_pure, pure_bind]
theorem Pc {w : World} {b n : Nat} {vs : Array Value} {T : TypeId} {fr : Bool} (hb : w.heap[b]? = some (.cells vs T (0, if fr then n else 0))) (hn : n ≠ 0) : w.freeze ⟨b, 0, none⟩ n = { w with heap := w.heap.setIfInBounds b (.cells vs T (0, n)) } := by
 obtain ⟨hlt, hg⟩ := Array.getElem?_eq_some_iff.1 hb
 unfold World.freeze
 rw [if_neg hn]
 congr 1
 apply Array.ext
 ·simp
 ·intro i h1 h2
  simp only [Array.getElem_modify, Array.getElem_setIfInBounds]
  split
  ·rename_i hi
   subst hi
   rw [hg]
   cases fr
   ·simp
   ·simp [Ne.symm hn]
  ·rename_i hi
   rw [Array.getElem_setIfInBounds, if_neg hi]
theorem Jd {F : Nat → Prop} {w : World} {b : Nat} : ∀ {l : List UInt8} {o : Nat}, Bw F w b 1 o (l.map fun b => [PV.int .u8 b.toNat]) → ∀ j x, l[j]? = some x → w.cell? ⟨b, o + j, none⟩ = some (.int .u8 x.toNat)
 | [], o, _, j, x, h => by simp at h
 | a :: l, o, h, j, x, hj => by
  simp only [List.map_cons, Bw, CO, CQ] at h
  obtain ⟨_, ⟨⟨v, h1, h2⟩, _⟩, h3⟩ := h
  cases j with
  | zero => simp at hj; subst hj; subst h2; exact h1
  | succ j => have := Jd h3 j x (by simpa using hj); rw [show o + (j + 1) = o + 1 + j by omega]; exact this
theorem N5 {F : Nat → Prop} {w : World} {b : Nat} {s : ByteArray} (h : Bw F w b 1 0 (D4 s)) : ∀ j x, s.data.toList[j]? = some x → w.cell? ⟨b, j, none⟩ = some (.int .u8 x.toNat) := fun j x hj => by
 have := Jd (o := 0) h j x hj
 rwa [Nat.zero_add] at this
theorem Ja {F : Nat → Prop} {w : World} {b : Nat} : ∀ {l : List UInt8} {o : Nat}, (∀ j x, l[j]? = some x → w.cell? ⟨b, o + j, none⟩ = some (.int .u8 x.toNat)) → Bw F w b 1 o (l.map fun b => [PV.int .u8 b.toNat])
 | [], o, _ => by simp [Bw]
 | a :: l, o, h => by
  simp only [List.map_cons, Bw, CO, CQ]
  exact ⟨Ao, ⟨⟨_, h 0 a Ao, Ao⟩, trivial⟩, Ja fun j x hj => by rw [show o + 1 + j = o + (j + 1) by omega]; exact h (j + 1) x (by simpa using hj)⟩
theorem OD {F : Nat → Prop} {w : World} {b : Nat} {s : ByteArray} (h : ∀ j x, s.data.toList[j]? = some x → w.cell? ⟨b, j, none⟩ = some (.int .u8 x.toNat)) : Bw F w b 1 0 (D4 s) := Ja (o := 0) fun j x hj => by rw [Nat.zero_add]; exact h j x hj
theorem M4 {T U e : TypeId} {b c i : Nat} {fr : Bool} {s : ByteArray} (hp : P.underlying T = some (.pointer e)) (hc1 : P.cellsOf e = 1) (hx : ρ x = .ptr b 0) (hy : ρ y = .p (.int .i64 s.size)) (hi : H[i]? = some (.vecT (some b) e fr (D4 s) c)) (h0 : s.size ≠ 0) (h63 : s.size ≤ 9223372036854775807) :
  DS P ⟨dst, .call { callee := .builtin .unsafeString, args := #[x, y], argTypes := #[T, U] }, ty, pos, aft, g⟩ ρ H (.p (.str s)) (H.set i (.vecT (some b) e true (D4 s) c)) :=
 (FW (R := Yn (.p (.str s)) (H.set i (.vecT (some b) e true (D4 s) c)))) fun F w E hH hE => by
  have h1 := hE x AU
  have h2 := hE y AU
  rw [hx] at h1
  rw [hy] at h2
  simp only [CF, CQ] at h1 h2
  obtain ⟨vs, hb, hcs, hcl, hrows⟩ := hH.obj _ (List.mem_of_getElem? hi)
  have hFb : F b := hH.sub _ (List.mem_of_getElem? hi) b rfl
  have hlt := hH.bd b hFb
  rw [GH] at hcl hb
  have hl : s.data.toList.length = s.size := by simp
  have hce : ∀ (w' : World) (fz : Nat × Nat), w'.heap[b]? = some (.cells vs e fz) → ∀ j, w'.cell? ⟨b, j, none⟩ = vs[j]? := fun w' fz h j => by simp [World.cell?, h]
  have hcell := N5 hrows
  have hrun := Go.Lib.run_unsafeString_row (P := P) (w := w) T U ty e hp hc1 b vs.size (by simp [World.shape?, hb]) s.data.toList (by intro q; rw [q] at hl; exact h0 hl.symm) (by rw [hl]; omega) Am (fun j x hj => by have := hcell j x hj; rw [Addr.add_mid, Nat.zero_add]; exact this)
  rw [hl, Pc hb h0] at hrun
  have hw : E6 b (.cells vs e (0, s.size)) w { w with heap := w.heap.setIfInBounds b (.cells vs e (0, s.size)) } := ⟨rfl, rfl, rfl, rfl⟩
  refine ⟨.string s, _, .p (.str s), _, F, ?_, ⟨Ao, Ao⟩, hw.trans hi Ao Ao, hw.HRel hH hi Ao Ao ⟨vs, by rw [hw.self hlt, GH]; simp, hcs, by rw [GH]; omega, OD fun j x hj => ?_⟩, by simp [CF, CQ]⟩
  ·simp only [execOp, resolve, invoke, builtin, List.map_toArray, List.map_cons, List.map_nil, h1, h2, Sem.run_bind, hrun, Result.andThen_ok, Sem.run_pure, pure_bind]
  ·rw [hce _ _ (hw.self hlt)]
   rw [← hce w _ hb]
   exact hcell j x hj
theorem EI {a b : ByteArray} {T U : TypeId} (hx : ρ x = .p (.str a)) (hy : ρ y = .p (.str b)) (hsz : a.size + b.size ≤ 9223372036854775807) : DS P ⟨dst, .binOp .add T x y U, ty, pos, aft, g⟩ ρ H (.p (.str (a ++ b))) H :=
 CK fun F w E hH hE => by
  have e1 := hE x Ac
  have e2 := hE y Ac
  rw [hx] at e1
  rw [hy] at e2
  simp only [CF, CQ] at e1 e2
  have hm : ¬ (((a.size + b.size : Nat) : Int) > IntKind.i64.max) := by rw [show IntKind.i64.max = 9223372036854775807 from rfl]; omega
  have h1 : (Op.stringOp .add a b).run P w = .ok (.string (a ++ b)) w := by
   unfold Op.stringOp
   simp only [if_neg hm]
   rfl
  exact ⟨.string (a ++ b), by simp [execOp, Sem.run_bind, IW, e1, e2, binOp, h1], by simp [CF, CQ]⟩
theorem Ij (op : BinOp) (t : TypeId) (a b : Option Addr) (w : World) : (eqGuard op t x y (.pointer a) (.pointer b)).run P w = .ok () w := by
 unfold eqGuard
 split <;> rfl
theorem QQ {T U : TypeId} {t : TypeId} (hT : P.underlying T = some (.pointer t)) (hx : ρ x = .nilp) (hy : ρ y = .nilp) : DS P ⟨dst, .binOp .eql T x y U, ty, pos, aft, g⟩ ρ H (.p (.bool true)) H :=
 CK fun F w E hH hE => by
  have e1 := hE x Ac
  have e2 := hE y Ac
  rw [hx] at e1
  rw [hy] at e2
  simp only [CF] at e1 e2
  refine ⟨.bool true, ?_, by simp [CF, CQ]⟩
  have h : ∀ d : Nat, (Op.equalIn (d + 1) T (.pointer none) (.pointer none)).run P w = .ok true w := fun d => by
   simp [Op.equalIn, run_underlying hT]
  have h2 : (binOp .eql T (.pointer none) (.pointer none)).run P w = .ok (.bool true) w := by
   simp only [binOp]
   simp [Op.equal, Op.maxDepth, h 9999]
  simp only [execOp, Sem.run_bind, Ij, e1, e2, h2, Result.andThen_ok, Sem.run_pure]
theorem M1 {T U : TypeId} {t : TypeId} {b o : Nat} (hT : P.underlying T = some (.pointer t)) (hx : ρ x = .ptr b o) (hy : ρ y = .nilp) : DS P ⟨dst, .binOp .eql T x y U, ty, pos, aft, g⟩ ρ H (.p (.bool false)) H :=
 CK fun F w E hH hE => by
  have e1 := hE x Ac
  have e2 := hE y Ac
  rw [hx] at e1
  rw [hy] at e2
  simp only [CF] at e1 e2
  refine ⟨.bool false, ?_, by simp [CF, CQ]⟩
  have h : ∀ d : Nat, (Op.equalIn (d + 1) T (.pointer (some ⟨b, o, none⟩)) (.pointer none)).run P w = .ok false w := fun d => by
   simp [Op.equalIn, run_underlying hT]
  have h2 : (binOp .eql T (.pointer (some ⟨b, o, none⟩)) (.pointer none)).run P w = .ok (.bool false) w := by
   simp only [binOp]
   simp [Op.equal, Op.maxDepth, h 9999]
  simp only [execOp, Sem.run_bind, Ij, e1, e2, h2, Result.andThen_ok, Sem.run_pure]
theorem Pm {T U : TypeId} {t : TypeId} {j : TypeInfo} {b o : Nat} (hT : P.underlying T = some (.pointer t)) (ht : P.info? t = some j) (hx : ρ x = .ptr b o) (hy : ρ y = .ptr b o) : DS P ⟨dst, .binOp .neq T x y U, ty, pos, aft, g⟩ ρ H (.p (.bool false)) H :=
 CK fun F w E hH hE => by
  have e1 := hE x Ac
  have e2 := hE y Ac
  rw [hx] at e1
  rw [hy] at e2
  simp only [CF] at e1 e2
  refine ⟨.bool false, ?_, by simp [CF, CQ]⟩
  have := Go.Lib.run_neq_ptr_same (P := P) w ⟨b, o, none⟩ hT ht
  simp [execOp, Sem.run_bind, Ij, e1, e2, this]
end
section
variable {P : Program} {r : Option Nat} {ops : Array Oper} {Q : Ck → Bq → Prop} {k : Nat} {n : Nat} {τ : Nat → AV} {H H' : List BL} {D : List Di} {dst : Option Tmp} {op : Op} {ty : TypeId} {pos : String} {aft : Array Edge} {g : Option (Nat × Bool)} {v : AV}
theorem Qz {T : TypeId} {cs : List AV} (ho : ops[k]? = some ⟨dst, op, ty, pos, aft, none⟩) (hd : G7 dst n = true) (h : C6 P ⟨dst, op, ty, pos, aft, none⟩ (ev τ) H (Qy T cs H))
  (next : ∀ b, AL P r ops (k + 1) ⟨n, put τ dst (.ptr b 0), .boxT b T cs :: H, D⟩ Q) : AL P r ops k ⟨n, τ, H, D⟩ Q :=
 ER (S := ⟨n, τ, H, D⟩) ho Ag (Fh hd) h (fun v H' ⟨b, h1, h2⟩ => by subst h1; subst h2; exact next b) (fun _ _ h => h.elim)
theorem Uh {i : Nat} {e : TypeId} {rows : List (List PV)} (ho : ops[k]? = some ⟨dst, op, ty, pos, aft, none⟩) (hd : G7 dst n = true) (h : C6 P ⟨dst, op, ty, pos, aft, none⟩ (ev τ) H (appendTR i e rows H))
  (next : ∀ o c, AL P r ops (k + 1) ⟨n, put τ dst (.vs o rows.length c), H.set i (.vecT o e false rows c), D⟩ Q) : AL P r ops k ⟨n, τ, H, D⟩ Q :=
 ER (S := ⟨n, τ, H, D⟩) ho Ag (Fh hd) h (fun v H' ⟨o, c, h1, h2⟩ => by subst h1; subst h2; exact next o c) (fun _ _ h => h.elim)
end
section
variable {P : Program} {dst : Option Tmp} {ty : TypeId} {pos : String} {aft : Array Edge} {g : Option (Nat × Bool)} {ρ : Operand → AV} {H : List BL} {x f : Operand}
theorem ON {c : Call} {fid : FuncId} {fn : Func} {b o : Nat} (hc : c.callee = .value f) (hf : ρ f = .p (.fn fid)) (ha : c.args = #[x]) (hx : ρ x = .ptr b o) (hfn : P.funcs[fid]? = some fn) (hname : (fn.name == "runtime.NumGoroutine") = false) (hb : fn.body.isNone = true) (hn : Extern.findNext fn = none) (he : Extern.find fn = some Extern.AbiNoEscape.same) :
  DS P ⟨dst, .call c, ty, pos, aft, g⟩ ρ H (.ptr b o) H :=
 CK fun F w E hH hE => by
  have h1 := hE x (by simp [Op.operands, Call.operands, ha])
  have h2 := hE f (by simp [Op.operands, Call.operands, hc])
  rw [hx] at h1
  rw [hf] at h2
  simp only [CF, CQ] at h1 h2
  refine ⟨.pointer (some ⟨b, o, none⟩), ?_, by simp [CF]⟩
  have h3 := run_callFunc_extern (P := P) hfn hname hb hn he #[.pointer (some ⟨b, o, none⟩)] w
  rw [Go.Lib.run_noEscape] at h3
  simp [execOp, resolve, hc, Deferred.ofValue, h2, invoke, ha, h1, h3]
end
theorem Kc {P : Program} {f : FuncId} {GL : List (Nat × Obj)} {A : List AV} {u : Value} {v : PV} (hen : BZ P f = true) (hu : ∀ F w, CF F w (.p v) u) (h : ∀ F (w : World) vs, (∀ p ∈ GL, w.heap[p.1]? = some p.2) → Bu F w A vs → Calls P f ⟨vs⟩ w fun e w' => e = .returned u ∧ Go.RowKit.Below w.heap.size w w') :
  Bl P f A [.glob GL] (DG (.p v) [.glob GL]) := by
 refine ⟨hen, fun F w vs hH hv => ?_⟩
 have hg := hH.obj _ (List.mem_singleton.2 rfl)
 refine (h F w vs (fun p hp => (hg p hp).1) hv).mono ?_
 rintro e w' ⟨rfl, hb⟩
 refine ⟨.val (.p v), [.glob GL], F, ⟨Ao, Ao⟩, ⟨u, Ao, hu _ _⟩, ⟨fun o ho b hk => ?_, (by show ([] : List Nat).Nodup; exact List.nodup_nil), fun o ho => ?_, fun b hF => Nat.lt_of_lt_of_le (hH.bd b hF) hb.size⟩, ⟨hb.size, fun b hlt _ => hb.block b hlt, fun b hF _ => hF, fun b hF => .inl hF, fun o ho b hk => ?_, hb.os, hb.output, hb.tape⟩⟩
 ·rw [List.mem_singleton] at ho; subst ho; simp [BL.key] at hk
 ·rw [List.mem_singleton] at ho; subst ho
  intro p hp
  obtain ⟨h1, h2⟩ := hg p hp
  exact ⟨by rw [hb.block _ (Array.getElem?_eq_some_iff.1 h1).1]; exact h1, h2⟩
 ·rw [List.mem_singleton] at ho; subst ho; simp [BL.key] at hk
section
variable {P : Program} {ops : Array Oper} {n : Nat} {τ₀ τ : Nat → AV} {D : List Di} {Q : Ck → Bq → Prop} {opn : Nat → Bool} {k : Nat} {T : List BL} {dst : Option Tmp} {ty : TypeId} {pos : String} {aft : Array Edge} {c : Call} {f : Operand} {fid : FuncId} {first caps A : List AV} {v : AV} {C : List BL → Prop}
theorem FQ {r : Option Nat} (fr : List BL) (ho : ops[k]? = some ⟨dst, .call c, ty, pos, aft, none⟩) (hd : G7 dst n = true)
  (hc : c.callee = .value f) (hf : (ev τ f = .p (.fn fid) ∧ first = [] ∧ caps = []) ∨ ev τ f = .fn (.func fid) first caps) (h : Bl P fid A T (GB v C)) (hA : GA (first ++ c.args.toList.map (ev τ) ++ caps) A)
  (next : ∀ T', C T' → AL P r ops (k + 1) ⟨n, put τ dst v, fr ++ T', D⟩ Q) : AL P r ops k ⟨n, τ, fr ++ T, D⟩ Q :=
 GI fr ho hd hc hf h hA (fun v' T' ⟨h1, h2⟩ => by subst h1; exact next T' h2) (fun _ _ h => h.elim)
theorem FV {rd ef effs fx} (fr : List BL) (fx' : List (Nat × Sp)) (ho : ops[k]? = some ⟨dst, .call c, ty, pos, aft, none⟩) (hn : opn k = true)
  (hc : c.callee = .value f) (hf : (ev τ f = .p (.fn fid) ∧ first = [] ∧ caps = []) ∨ ev τ f = .fn (.func fid) first caps) (h : Bl P fid A T (GB v C)) (hA : GA (first ++ c.args.toList.map (ev τ) ++ caps) A) (haft : Ek ops k (fx'.map (·.1)) = true) (hex : ∃ T', C T')
  (next : ∀ T', C T' → Ji ops k (fr ++ T) (fr ++ T') rd ∧ G6 k (.eff v (fr ++ T')) fx ∧ Dr P ops n τ₀ D Q opn (k + 1) (put τ dst v) (fr ++ T') rd ((k, fr ++ T, fr ++ T') :: ef) (true :: effs) (fx' ++ fx)) : Dr P ops n τ₀ D Q opn k τ (fr ++ T) rd ef effs fx := by
 have hop : C6 P ⟨dst, .call c, ty, pos, aft, none⟩ (ev τ) (fr ++ T) (fun r H' => ∃ T', GB v C r T' ∧ H' = fr ++ T') := by
  refine C6.permR (Gx (H := fr ++ T) (Hs := T) (Hf := fr) hc hf List.perm_append_comm (h.args hA) (.inl Ao)) ?_
  rintro r H1 ⟨T', hR, rfl⟩
  exact ⟨fr ++ T', List.perm_append_comm, T', hR, Ao⟩
 obtain ⟨T', hT⟩ := hex
 exact KS fx' ho hn hop haft ⟨v, _, T', ⟨Ao, hT⟩, Ao⟩ (fun _ _ ⟨_, h, _⟩ => h.elim) (fun v' H' ⟨T', ⟨h1, h2⟩, h3⟩ => by subst h1; subst h3; exact next T' h2)
end
def GF (l : List UInt8) : List (List PV) := l.map fun b => [PV.int .u8 b.toNat]
theorem Ro (s : ByteArray) : D4 s = GF s.data.toList := rfl
theorem JH (l : List UInt8) : (GF l).length = l.length := by simp [GF]
theorem OJ (a b : List UInt8) : GF a ++ GF b = GF (a ++ b) := by simp [GF]
def BW (U e : TypeId) (b : Nat) (l : List UInt8) (T : List BL) : Prop :=
 ∃ a o cp, (a = .nilp ∨ a = .ptr b 0) ∧ T = [.boxT b U [a, .vs o (GF l).length cp], .vecT o e false (GF l) cp]
def BX (U e : TypeId) (b : Nat) (l : List UInt8) (T : List BL) : Prop :=
 ∃ a o cp fr, T = [.boxT b U [a, .vs (some o) (GF l).length cp], .vecT (some o) e fr (GF l) cp]
def QJ (l : List UInt8) : ByteArray := ⟨l.toArray⟩
theorem KU (l : List UInt8) : (QJ l).size = l.length := by simp [QJ, ByteArray.size]
theorem RA (U e : TypeId) (b : Nat) : BW U e b [] [.boxT b U [.nilp, .vs none 0 0], .vecT none e false [] 0] := ⟨.nilp, none, 0, .inl rfl, rfl⟩
theorem XY {b : Nat} {T : TypeId} {cs cs' : List AV} (h : GA cs cs') : JW (.boxT b T cs) (.boxT b T cs') := ⟨rfl, fun F w hr => by
 obtain ⟨vs, h1, h2⟩ := hr
 exact ⟨vs, h1, JF h h2⟩⟩
theorem LD {n : Nat} {τ : Nat → AV} {H : List BL} {D : List Di} {e : TypeId} : F8 ⟨n, τ, H, D⟩ ⟨n, τ, .vecT none e false [] 0 :: H, D⟩ := by
 intro F a w hs
 have hH : HRel F (.vecT none e false [] 0 :: H) w := ⟨fun o ho b hb => by
   rcases List.mem_cons.1 ho with rfl | ho
   ·cases hb
   ·exact hs.heap.sub o ho b hb, by simpa [List.filterMap_cons, BL.key] using hs.heap.nodup, fun o ho => by
   rcases List.mem_cons.1 ho with rfl | ho
   ·exact ⟨Ao, Ao⟩
   ·exact hs.heap.obj o ho, hs.heap.bd⟩
 refine ⟨F, ⟨hs.size, hs.tmp, hH, hs.defs⟩, { Trans.refl (F := F) (H := H) (w := w) with keys := fun o ho b hb => ?_ }⟩
 rcases List.mem_cons.1 ho with rfl | ho
 ·cases hb
 ·exact .inl ⟨o, ho, hb⟩
theorem OH {P : Program} {f : FuncId} {A : List AV} {H : List BL} {R : DM → List BL → Prop} {o : Option Nat} {e : TypeId} {fr : Bool} {rows : List (List PV)} {c : Nat} (hm : BL.vecT o e fr rows c ∈ H) (hne : rows ≠ []) (hen : BZ P f = true) (h : ∀ b, o = some b → Bl P f A H R) : Bl P f A H R := by
 refine ⟨hen, fun F w vs hH hv => ?_⟩
 cases o with
 | none => exact absurd (hH.obj _ hm).1 hne
 | some b => exact (h b rfl).2 F w vs hH hv
section
variable {P : Program} {dst : Option Tmp} {ty : TypeId} {pos : String} {aft : Array Edge} {g : Option (Nat × Bool)} {ρ : Operand → AV} {H : List BL} {x y z : Operand}
theorem IY {T e : TypeId} {b i : Nat} {l : List (ByteArray × AV)} {k : ByteArray} {zv : Value} {za v : AV} {ok : Bool} (hT : Js P T = some e) (hz : zeroOf P e = some zv) (hza : ∀ F w, CF F w za zv) (hx : ρ x = .map b) (hy : ρ y = .p (.str k)) (hi : H[i]? = some (.map b (DY l))) (hv : (JR k l).getD za = v) (hok : (JR k l).isSome = ok) :
  DS P ⟨dst, .lookup T x y true, ty, pos, aft, g⟩ ρ H (.tup [v, .p (.bool ok)]) H := by subst hv; subst hok; exact M3 hT hz hza hx hy hi
theorem LQ {T e : TypeId} {b i : Nat} {l l' : List (ByteArray × AV)} {k : ByteArray} {va : AV} (hT : Js P T = some e) (hx : ρ x = .map b) (hy : ρ y = .p (.str k)) (hz : ρ z = va) (hi : H[i]? = some (.map b (DY l))) (hl : sset k va l = l') :
  DS P ⟨dst, .mapUpdate T x y z, ty, pos, aft, g⟩ ρ H (.p .any) (H.set i (.map b (DY l'))) := by subst hl; exact Mo hT hx hy hz hi
end
theorem K7 {P : Program} {f : FuncId} {A : List AV} {H H' : List BL} {R R' : DM → List BL → Prop} (h : Bl P f A H R) (hp : H'.Perm H) (hr : ∀ r H1, R r H1 → ∃ H2, H1.Perm H2 ∧ R' r H2) : Bl P f A H' R' := by
 refine ⟨h.1, fun F w vs hH hv => (h.2 F w vs (hH.perm hp) hv).mono ?_⟩
 rintro e w' ⟨r, H1, F', h1, h2, h3, h4⟩
 obtain ⟨H2, hp2, hR⟩ := hr r H1 h1
 refine ⟨r, H2, F', hR, h2, h3.perm hp2, ?_⟩
 exact ⟨h4.size, fun b hb hn => h4.same b hb fun o ho => hn o (hp.mem_iff.2 ho), fun b hb hn => h4.keep b hb fun o ho => hn o (hp.mem_iff.2 ho), h4.fresh, fun o ho b hk => by
  rcases h4.keys o (hp2.mem_iff.2 ho) b hk with ⟨o', ho', hk'⟩ | h5
  ·exact .inl ⟨o', hp.mem_iff.2 ho', hk'⟩
  ·exact .inr h5, h4.os, h4.out, h4.tape⟩
theorem OY {P : Program} {f : FuncId} {A : List AV} {Hs : List BL} {R : DM → List BL → Prop} (h : Bl P f A Hs R) (Hf : List BL) : Bl P f A (Hs ++ Hf) (fun r H' => ∃ H1, R r H1 ∧ H' = H1 ++ Hf) := by
 refine ⟨h.1, fun F w vs hH hv => (h.2 F w vs (hH.sublist (List.sublist_append_left _ _)) hv).mono ?_⟩
 rintro e w' ⟨r, H1, F', h1, h2, h3, h4⟩
 exact ⟨r, H1 ++ Hf, F', ⟨H1, h1, Ao⟩, h2, hH.frame h3 h4, h4.frame (H := Hs ++ Hf) (List.Perm.refl _)⟩
end Go.Abs
namespace Go.Proofs.YtapmjpihennhaaaGreatDoor
open Go.Abs Go.Eu
theorem Ln : Tryz.prog.underlying 183 = some (.pointer 186) := by kernel_rfl
theorem Q0 : Tryz.prog.underlying 227 = some .unsafePointer := by kernel_rfl
theorem VJ : (Tryz.prog.info? 186).isSome = true := by kernel_rfl
noncomputable def XV : TypeInfo := (Tryz.prog.info? 186).get VJ
theorem P7 : Tryz.prog.info? 186 = some XV := (Option.some_get VJ).symm
theorem Tv : (XV.size == 0) = false := by kernel_rfl
theorem US : liesAt Tryz.prog Tryz.prog.depth 186 (2 / Tryz.prog.cellsOf 186) 0 186 1 = true := by kernel_rfl
theorem UZ : Tryz.prog.underlying 214 = some (.pointer 5) := by kernel_rfl
theorem cellsByte : Tryz.prog.cellsOf 5 = 1 := by kernel_rfl
theorem Wx : ∀ (b : Nat) (v : AV), Bl Tryz.prog 153 [.ptr b 0] [.boxT b 186 [.nilp, v]] (DG (.tup []) [.boxT b 186 [.ptr b 0, v]]) := by
 intro b v
 refine A3 Tryz.func153 Ao VO (n := 20) Ao Ao ?_
 refine As ?_
 refine Aq ?_
 refine Ap Ao Ao (Ar Ao) ?_
 refine Ap Ao Ao (BT Ao) ?_
 refine Ap Ao Ao (Av LF Ao Ao) ?_
 refine Ap Ao Ao (EA (i := 0) Qs Ao Ao Ao) ?_
 refine Ap Ao Ao (QQ Ln Ao Ao) ?_
 refine Au Ao ?_
 refine A4 Ao (fun c => ?_) (fun c => by cases c)
 refine Aq ?_
 refine Ap Ao Ao (Ar Ao) ?_
 refine Ap Ao Ao (Ar Ao) ?_
 refine Ap Ao Ao (N6 (i := 0) Ln Q0 P7 Tv Ao Ao Ao) ?_
 refine Ap Ao Ao (ON Ao Ao Ao Ao Tryz.func158 Ai Ai Ai Ai) ?_
 refine Ap Ao Ao (Lv (i := 0) (cs := [_, _]) Q0 Ln P7 US Ao Ao) ?_
 refine Ap Ao Ao (BT Ao) ?_
 refine Ap Ao Ao (Av LF Ao Ao) ?_
 refine Ap Ao Ao (IP (i := 0) Qs Ao Ao Ao Ao Ao Ao) ?_
 refine Au Ao ?_
 refine ⟨Ao, _, _, Ao, (Cf (is := [0]) Ao), ?_⟩
 all_goals exact ⟨rfl, rfl⟩
theorem XP : ∀ (b : Nat) (v : AV), Bl Tryz.prog 153 [.ptr b 0] [.boxT b 186 [.ptr b 0, v]] (DG (.tup []) [.boxT b 186 [.ptr b 0, v]]) := by
 intro b v
 refine A3 Tryz.func153 Ao VO (n := 20) Ao Ao ?_
 refine As ?_
 refine Aq ?_
 refine Ap Ao Ao (Ar Ao) ?_
 refine Ap Ao Ao (BT Ao) ?_
 refine Ap Ao Ao (Av LF Ao Ao) ?_
 refine Ap Ao Ao (EA (i := 0) Qs Ao Ao Ao) ?_
 refine Ap Ao Ao (M1 Ln Ao Ao) ?_
 refine Au Ao ?_
 refine A4 Ao (fun c => by cases c) (fun c => ?_)
 refine As ?_
 refine Aq ?_
 refine Ap Ao Ao (Ar Ao) ?_
 refine Ap Ao Ao (BT Ao) ?_
 refine Ap Ao Ao (Av LF Ao Ao) ?_
 refine Ap Ao Ao (EA (i := 0) Qs Ao Ao Ao) ?_
 refine Ap Ao Ao (Ar Ao) ?_
 refine Ap Ao Ao (Pm Ln P7 Ao Ao) ?_
 refine Au Ao ?_
 refine A4 Ao (fun c1 => by cases c1) (fun c1 => ?_)
 refine BD ?_
 refine ⟨Ao, _, _, Ao, (Cf (is := [0]) Ao), ?_⟩
 all_goals exact ⟨rfl, rfl⟩
theorem aF {a v : AV} {b : Nat} (h : a = .nilp ∨ a = .ptr b 0) : Bl Tryz.prog 153 [.ptr b 0] [.boxT b 186 [a, v]] (DG (.tup []) [.boxT b 186 [.ptr b 0, v]]) := by
 rcases h with rfl | rfl
 ·exact Wx b v
 ·exact XP b v
theorem Vr : ∀ (b : Nat) (a : AV) (o : Option Nat) (cp : Nat) (r : List (List PV)) (s : ByteArray), (a = .nilp ∨ a = .ptr b 0) → (r.length + s.size ≤ 70368744177664) → Bl Tryz.prog 142 [.ptr b 0, .p (.str s)] [.boxT b 186 [a, .vs o (r).length cp], .vecT o 5 false (r) cp] (fun x H' => ∃ o' cp', x = .val (.tup [.p (I s.size), .p .nilIface]) ∧ H' = [.boxT b 186 [.ptr b 0, .vs o' (r ++ D4 s).length cp'], .vecT o' 5 false (r ++ D4 s) cp']) := by
 intro b a o cp r s h1 h2
 refine A3 Tryz.func142 Ao YK (n := 19) Ao Ao ?_
 refine As ?_
 refine Aq ?_
 refine Ap Ao Ao (At Ao) ?_
 refine Ap Ao Ao (At Ao) ?_
 refine Au Ao ?_
 refine As ?_
 refine Aq ?_
 refine Ap Ao Ao (Ar Ao) ?_
 refine Ap Ao Ao (CH [0] Ao (.inl ⟨Ao, Ao, Ao⟩) (aF h1) ⟨_, _, Ao, Ao, Ao⟩ Al Ao (.inl Ao)) ?_
 refine Au Ao ?_
 refine As ?_
 refine Aq ?_
 refine Ap Ao Ao (Ar Ao) ?_
 refine Ap Ao Ao (Ar Ao) ?_
 refine Ap Ao Ao (BT Ao) ?_
 refine Ap Ao Ao (Av LF Ao Ao) ?_
 refine Ap Ao Ao (EA (i := 0) Qv Ao Ao Ao) ?_
 refine Ap Ao Ao (Ar Ao) ?_
 refine Uh Ao Ao (Mm (i := 1) VD Wf bG Ao Ao Ao Ao Ao Ao Am) fun o1 cp1 => ?_
 refine Ap Ao Ao (BT Ao) ?_
 refine Ap Ao Ao (Av LF Ao Ao) ?_
 refine Ap Ao Ao (IP (i := 0) Qv Ao Ao Ao Ao Ao Ao) ?_
 refine Au Ao ?_
 refine As ?_
 refine Aq ?_
 refine Ap Ao Ao (Ar Ao) ?_
 refine Ap Ao Ao (GK Wf Ao) ?_
 refine Ap Ao Ao (At Ao) ?_
 refine Ap Ao Ao (At Ao) ?_
 refine Au Ao ?_
 refine A5 ?_
 refine ⟨Ao, _, _, ⟨_, _, Ao, Ao, ⟨_, _, Ao, Ao, Ao⟩⟩, (Cf (is := [0, 1]) Ao), ?_⟩
 exact ⟨_, _, Ao, Ao⟩
theorem R1 {b : Nat} {l : List UInt8} {s : ByteArray} {T : List BL} (h : l.length + s.size ≤ 70368744177664) (hB : BW 186 5 b l T) : Bl Tryz.prog 142 [.ptr b 0, .p (.str s)] T (GB (.tup [.p (I s.size), .p .nilIface]) (BW 186 5 b (l ++ s.data.toList))) := by
 obtain ⟨a, o, cp, ha, rfl⟩ := hB
 refine (Vr b a o cp (GF l) s ha (by rw [JH]; exact h)).mono ?_
 rintro r H' ⟨o', cp', rfl, rfl⟩
 exact ⟨Ao, .ptr b 0, o', cp', .inr Ao, by rw [Ro, OJ]⟩
theorem VS : ∀ (b : Nat) (a : AV) (o : Nat) (cp : Nat) (fr : Bool) (l : List UInt8), (0 < l.length) → (l.length ≤ 70368744177664) → Bl Tryz.prog 123 [.ptr b 0] [.boxT b 186 [a, .vs (some o) (GF l).length cp], .vecT (some o) 5 fr (GF l) cp] (fun x H' => x = .val (.p (.str (QJ l))) ∧ H' = [.boxT b 186 [a, .vs (some o) (GF l).length cp], .vecT (some o) 5 true (GF l) cp]) := by
 intro b a o cp fr l h1 h2
 refine A3 Tryz.func123 Ao U8 (n := 14) Ao Ao ?_
 refine As ?_
 refine Aq ?_
 refine Ap Ao Ao (At Ao) ?_
 refine Au Ao ?_
 refine As ?_
 refine CJ (fun k => false) Dq ?_
 refine Ay Ao Ao (fun _ => Ar Ao) trivial ?_
 refine Ay Ao Ao (fun _ => BT Ao) trivial ?_
 refine Ay Ao Ao (fun _ => Av LF Ao Ao) trivial ?_
 refine BK (j := 0) rfl rfl rfl (fun H i hi => EA (i := i) Qv rfl hi rfl) (by repeat' first | exact trivial | refine And.intro ?_ ?_ | ((refine Or.inr (And.intro ?_ ?_) <;> repeat (first | exact List.Mem.head _ | apply List.Mem.tail)); done) | exact Or.inl Ai) trivial ?_
 refine BK (j := 1) rfl rfl rfl (fun H i hi => M6 (i := i) rfl hi (by rw [JH, Nat.blt_eq]; exact h1)) (by repeat' first | exact trivial | refine And.intro ?_ ?_ | ((refine Or.inr (And.intro ?_ ?_) <;> repeat (first | exact List.Mem.head _ | apply List.Mem.tail)); done) | exact Or.inl Ai) trivial ?_
 refine Ay Ao Ao (fun _ => Ar Ao) trivial ?_
 refine Ay Ao Ao (fun _ => BT Ao) trivial ?_
 refine Ay Ao Ao (fun _ => Av LF Ao Ao) trivial ?_
 refine BK (j := 0) rfl rfl rfl (fun H i hi => EA (i := i) Qv rfl hi rfl) (by repeat' first | exact trivial | refine And.intro ?_ ?_ | ((refine Or.inr (And.intro ?_ ?_) <;> repeat (first | exact List.Mem.head _ | apply List.Mem.tail)); done) | exact Or.inl Ai) trivial ?_
 refine Ay Ao Ao (fun _ => KD VD Ao (JH _)) trivial ?_
 refine Cd rfl rfl (M4 (i := 1) (s := QJ l) UZ cellsByte rfl rfl rfl (by rw [KU]; omega) (by rw [KU]; omega)) (by repeat' first | exact trivial | refine And.intro ?_ ?_ | ((refine Or.inr (And.intro ?_ ?_) <;> repeat (first | exact List.Mem.head _ | apply List.Mem.tail)); done) | exact Or.inl Ai) trivial ?_
 refine Ay Ao Ao (fun _ => At Ao) trivial ?_
 refine CA Ao Ai ?_
 refine A5 ?_
 refine ⟨Ao, _, _, ⟨_, _, Ao, Ao, Ao⟩, (Cf (is := [0, 1]) Ao), ?_⟩
 exact ⟨Ao, Ao⟩
end Go.Proofs.YtapmjpihennhaaaGreatDoor
namespace Go.Eu
open Go.Abs
open Go.Lib (decDigits itoa)
theorem UI (l : Eg) : DP 2 (Db l) := ⟨rfl, by simp [Db]⟩
theorem UB (l : C7) : DP 2 (D5 l) := ⟨rfl, by simp [D5]⟩
theorem Um (m : Eg) : ((Db m).map AV.p).all one = true := FH (UI m)
theorem S6 (m : C7) : ((D5 m).map AV.p).all one = true := FH (UB m)
def O1 (n : Int) : ByteArray := QJ (itoa n)
def Ku (s : ByteArray) : ByteArray := QJ (Fv s)
theorem Mj (l : List UInt8) : (QJ l).data.toList = l := by simp [QJ]
theorem HW (a b : ByteArray) : (a ++ b).data.toList = a.data.toList ++ b.data.toList := by simp [ByteArray.data_append]
theorem Fs (n : Int) : (O1 n).data.toList = itoa n := Mj _
theorem Ep (s : ByteArray) : (Ku s).data.toList = Fv s := Mj _
theorem P6 : ∀ (k u : Nat), u < 10 ^ (k + 1) → (decDigits u).length ≤ k + 1
 | 0, u, h => by
  rw [JB, if_pos Am]
  simp
 | k + 1, u, h => by
  rw [JB]
  split
  ·simp
  ·have := P6 k (u / 10) (by rw [Nat.div_lt_iff_lt_mul Al]; rw [Nat.pow_succ] at h; exact h)
   simp only [List.length_append, List.length_cons, List.length_nil]
   omega
theorem FO {n : Int} (h : II n) : (itoa n).length ≤ 20 := by
 unfold II at h
 unfold itoa
 split
 ·have := P6 18 n.natAbs Am
  simp only [List.length_cons]
  omega
 ·have := P6 18 n.toNat Am
  omega
theorem Gv {n : Int} (h : II n) : (O1 n).size ≤ 20 := by
 unfold O1; rw [KU]; exact FO h
theorem H5 (s : ByteArray) : (Fv s).length = s.size + 2 := by simp [Fv]
theorem Pk (s : ByteArray) : (Ku s).size = s.size + 2 := by unfold Ku; rw [KU, H5]
theorem aa (a : UInt8) : (⟨#[a]⟩ : ByteArray).size = 1 := rfl
theorem Wl (a : UInt8) : (⟨#[a]⟩ : ByteArray).data.toList = [a] := rfl
theorem Ti {v : C7} (h : II v.index ∧ II v.plus) : (JT v).length ≤ 42 := by
 have := FO h.1
 have := FO h.2
 simp only [JT, List.length_cons, List.length_append]
 omega
theorem K3 : ∀ {l : List C7}, (∀ v ∈ l, II v.index ∧ II v.plus) → (l.flatMap JT).length ≤ 42 * l.length
 | [], _ => by simp
 | v :: l, h => by
  have := Ti (h v An)
  have := K3 (l := l) fun x hx => h x (by simp [hx])
  simp only [List.flatMap_cons, List.length_append, List.length_cons]
  omega
theorem TO {l : Eg} (h : Ui l) (hv : l.vars.length ≤ 20) : (JQ l).length ≤ 862 := by
 have := FO h.c
 have := K3 h.v
 simp only [JQ, List.length_cons, List.length_append, List.length_nil]
 omega
theorem JN : ∀ {l : List Eg}, (∀ x ∈ l, Ui x) → (∀ x ∈ l, x.vars.length ≤ 20) → (l.flatMap JQ).length ≤ 862 * l.length
 | [], _, _ => by simp
 | v :: l, h, h' => by
  have := TO (h v An) (h' v An)
  have := JN (l := l) (fun x hx => h x (by simp [hx])) fun x hx => h' x (by simp [hx])
  simp only [List.flatMap_cons, List.length_append, List.length_cons]
  omega
mutual
theorem Lg : ∀ {t : Tm}, Nd t → Fw t → (Hn t).length ≤ 20000 * size t
 | .mk k i n l ks, h, h' => by
  have h1 := FO h.2.2.2.2.2.1
  have h2 := FO h.2.2.2.2.2.2
  have h3 := JN h.2.2.1 h'.2.2.1
  have h4 := JE h.2.2.2.2.1 h'.2.2.2
  have h5 := h'.1
  have h6 := h'.2.1
  simp only [Hn, size, List.length_cons, List.length_append, H5, List.length_nil]
  omega
theorem JE : ∀ {ts : List Tm}, JS ts → Pt ts → (D2 ts).length ≤ 20000 * By ts
 | [], _, _ => by simp [D2]
 | t :: ts, h, h' => by
  have := Lg h.1 h'.1
  have := JE h.2 h'.2
  simp only [D2, By, List.length_append]
  omega
end
theorem Lm : ∀ {ts : List Tm} {i : Nat} {t : Tm}, ts[i]? = some t → D2 (ts.take (i + 1)) = D2 (ts.take i) ++ Hn t
 | [], i, t, h => by simp at h
 | a :: ts, 0, t, h => by simp at h; subst h; simp [D2]
 | a :: ts, i + 1, t, h => by
  simp at h
  simp only [List.take_succ_cons, D2, Lm h, List.append_assoc]
theorem NO {α : Type} {f : α → List UInt8} {l : List α} {i : Nat} {x : α} (h : l[i]? = some x) : (l.take (i + 1)).flatMap f = (l.take i).flatMap f ++ f x := by
 rw [List.take_add_one, h]
 simp
theorem Lu : ∀ {ts : List Tm}, Pt ts → ∀ i, Pt (ts.take i)
 | [], _, i => by simp [Pt]
 | t :: ts, h, 0 => trivial
 | t :: ts, h, i + 1 => ⟨h.1, Lu h.2 i⟩
theorem QE {ts : List Tm} (h : JS ts) (h' : Pt ts) (i : Nat) {t : Tm} (ht : ts[i]? = some t) : (D2 (ts.take i)).length + 20000 * size t ≤ 20000 * By ts := by
 have h1 := JE (O2 h i) (Lu h' i)
 have h2 := Ls ht
 have h3 := MQ (ts := ts) (i + 1)
 omega
theorem Re {ts : List Tm} (h : JS ts) (h' : Pt ts) (i : Nat) : (D2 (ts.take i)).length ≤ 20000 * By ts := by
 have h1 := JE (O2 h i) (Lu h' i)
 have h3 := MQ (ts := ts) i
 omega
theorem P5 {l : List Eg} (h : ∀ x ∈ l, Ui x) (h' : ∀ x ∈ l, x.vars.length ≤ 20) (hl : l.length ≤ 20) (i : Nat) : ((l.take i).flatMap JQ).length ≤ 17240 := by
 have := JN (l := l.take i) (fun x hx => h x (List.mem_of_mem_take hx)) (fun x hx => h' x (List.mem_of_mem_take hx))
 have : (l.take i).length ≤ 20 := by simp; omega
 omega
theorem Rj {l : List Eg} (h : ∀ x ∈ l, Ui x) (h' : ∀ x ∈ l, x.vars.length ≤ 20) (hl : l.length ≤ 20) : (l.flatMap JQ).length ≤ 17240 := by
 have := JN h h'
 omega
theorem P8 {l : List C7} (h : ∀ v ∈ l, II v.index ∧ II v.plus) (hl : l.length ≤ 20) (i : Nat) : ((l.take i).flatMap JT).length ≤ 840 := by
 have := K3 (l := l.take i) (fun x hx => h x (List.mem_of_mem_take hx))
 have : (l.take i).length ≤ 20 := by simp; omega
 omega
theorem MZ {U e : TypeId} {b : Nat} {l l' : List UInt8} {T : List BL} (h : BW U e b l T) (hl : l = l') : BW U e b l' T := hl ▸ h
theorem U1 (U e : TypeId) (b : Nat) (l : List UInt8) : ∃ T, BW U e b l T := ⟨_, .nilp, none, 0, .inl rfl, rfl⟩
def Oh (c : Nat) (C : GV) (T : List BL) : Prop := ∃ o cp o' cp', T = [.box c [.vs o (C.coefs.map Ca).length cp, .vs o' (BO C.atoms).length cp', .p (I C.all)], .vec o 1 (C.coefs.map Ca) cp, .vec o' 5 (BO C.atoms) cp']
def Et : Nat → List Tm → List (ByteArray × AV)
 | _, [] => []
 | k, a :: l => (QJ (Hn a), .p (I (k : Nat))) :: Et (k + 1) l
def My (c : Nat) (C : GV) (T : List BL) : Prop := ∃ o cp o' cp' m, T = [.box c [.vs o (C.coefs.map Ca).length cp, .vs o' (BO C.atoms).length cp', .map m, .p (I C.all)], .vec o 1 (C.coefs.map Ca) cp, .vec o' 5 (BO C.atoms) cp', .map m (DY (Et 0 C.atoms))]
theorem RG {a b : List UInt8} (h : QJ a = QJ b) : a = b := by
 have := congrArg (fun x : ByteArray => x.data.toList) h
 simpa [Mj] using this
theorem KJ {t : Tm} (ht : LX t) : ∀ (A : List Tm) (k : Nat), (∀ a ∈ A, LX a) → JR (QJ (Hn t)) (Et k A) = if Cu A t < A.length then some (.p (I ((k + Cu A t : Nat) : Int))) else none
 | [], k, h => by simp [Et, JR, Cu]
 | a :: A, k, h => by
  unfold Et JR
  by_cases e : a = t
  ·subst e
   rw [if_pos rfl]
   simp [Cu, List.findIdx_cons, Dl]
  ·rw [if_neg (fun q => e (Sh (h a An) ht (RG q))), KJ ht A (k + 1) fun x hx => h x (by simp [hx])]
   have h1 : Cu (a :: A) t = Cu A t + 1 := by simp [Cu, List.findIdx_cons, Ds e]
   rw [h1]
   simp only [List.length_cons, Nat.add_lt_add_iff_right]
   split
   ·rw [show k + 1 + Cu A t = k + (Cu A t + 1) by omega]
   ·rfl
theorem RH {t : Tm} (ht : LX t) : ∀ (A : List Tm) (k : Nat), (∀ a ∈ A, LX a) → t ∉ A → sset (QJ (Hn t)) (.p (I ((k + A.length : Nat) : Int))) (Et k A) = Et k (A ++ [t])
 | [], k, h, hn => by simp [Et, sset]
 | a :: A, k, h, hn => by
  simp only [List.mem_cons, not_or] at hn
  unfold Et sset
  rw [if_neg (fun q => hn.1 (Sh (h a An) ht (RG q)).symm)]
  have := RH ht A (k + 1) (fun x hx => h x (by simp [hx])) hn.2
  rw [show k + (a :: A).length = k + 1 + A.length by simp only [List.length_cons]; omega, this]
  rfl
theorem FC {l : List Tm} {t : Tm} (h : t ∉ l) : ¬ Cu l t < l.length := fun hl => by
 have := List.findIdx_getElem (w := hl)
 rw [Hk] at this
 exact h (this ▸ List.getElem_mem _)
theorem NL {l : List Tm} {t y : Tm} {i : Nat} (hi : l[i]? = some y) (hy : NF y t = true) (hb : ∀ j, j < i → ∀ x, l[j]? = some x → NF x t = false) : Cu l t = i := by
 obtain ⟨hl, he⟩ := List.getElem?_eq_some_iff.1 hi
 refine (List.findIdx_eq hl).2 ⟨by rw [he]; exact hy, fun j hj => ?_⟩
 have := hb j hj _ (List.getElem?_eq_getElem Am)
 simp [this]
theorem Tf {cs : List Int} {A : List Tm} {al s : Int} {t y : Tm} {i : Nat} {x : Int} (hi : A[i]? = some y) (hy : NF y t = true) (hb : ∀ j, j < i → ∀ x, A[j]? = some x → NF x t = false) (hx : cs[i]? = some x) : GR ⟨cs, A, al⟩ t s = ⟨cs.set i (wr (x + s)), A, wr (al + 1)⟩ := by
 have h := NL hi hy hb
 unfold GR
 rw [if_pos (by rw [h]; exact (List.getElem?_eq_some_iff.1 hi).1)]
 simp only [h]
 rw [Cm hx]
theorem RQ {cs : List Int} {A : List Tm} {al s : Int} {t : Tm} {i : Nat} (hi : A.length ≤ i) (hb : ∀ j, j < i → ∀ x, A[j]? = some x → NF x t = false) : GR ⟨cs, A, al⟩ t s = ⟨cs ++ [s], A ++ [t], wr (al + 1)⟩ := by
 have h : t ∉ A := fun hm => by
  obtain ⟨j, hj⟩ := Fu hm
  have := hb j (by have := (List.getElem?_eq_some_iff.1 hj).1; omega) t hj
  rw [Dl rfl] at this
  cases this
 unfold GR
 rw [if_neg (FC h)]
end Go.Eu
namespace Go.Proofs.YtapmjpihennhaaaGreatDoor
open Go.Abs Go.Eu
structure Gh (GL : List (Nat × Obj)) : Prop where
 itoa : ∀ n : Int, II n → Bl Tryz.prog 143 [.p (I n)] [.glob GL] (DG (.p (.str (O1 n))) [.glob GL])
 quote : ∀ s : ByteArray, s.size < Dp → (∀ c ∈ s.data.toList, Q8 c) → Bl Tryz.prog 144 [.p (.str s)] [.glob GL] (DG (.p (.str (Ku s))) [.glob GL])
abbrev Wk (b : Nat) (l : List UInt8) (T : List BL) : Prop := BW 186 5 b l T
theorem TD {b : Nat} {l : List UInt8} {T : List BL} (h0 : 0 < l.length) (h : l.length ≤ 70368744177664) (hB : BX 186 5 b l T) : Bl Tryz.prog 123 [.ptr b 0] T (GB (.p (.str (QJ l))) (BX 186 5 b l)) := by
 obtain ⟨a, o, cp, fr, rfl⟩ := hB
 refine (VS b a o cp fr l h0 h).mono ?_
 rintro r H' ⟨rfl, rfl⟩
 exact ⟨Ao, a, o, cp, true, Ao⟩
theorem Sw {b : Nat} {l : List UInt8} {T : List BL} (h0 : 0 < l.length) (h : l.length ≤ 70368744177664) (hB : Wk b l T) : Bl Tryz.prog 123 [.ptr b 0] T (GB (.p (.str (QJ l))) (BX 186 5 b l)) := by
 obtain ⟨a, o, cp, ha, rfl⟩ := hB
 refine OH (o := o) (e := 5) (fr := false) (rows := GF l) (c := cp) An (by intro e; have := JH l; rw [e] at this; simp at this; omega) U8 fun o' ho => ?_
 subst ho
 exact TD h0 h ⟨a, o', cp, false, Ao⟩
theorem Zf : Js Tryz.prog 79 = some 3 := by kernel_rfl
end Go.Proofs.YtapmjpihennhaaaGreatDoor
