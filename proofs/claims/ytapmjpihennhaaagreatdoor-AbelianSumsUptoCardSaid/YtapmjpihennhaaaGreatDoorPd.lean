/- Part of the proofs: an abstract program logic, plain models and contracts of functions. -/
import Derived.Test.YtapmjpihennhaaaGreatDoorPc
import Derived.Test.YtapmjpihennhaaaGreatDoorPb
import Derived.Lib.ItoaNum
import Derived.Lib.AppendStr
import Derived.Lib.Builder
import Derived.Laws.Externs
import Derived.Lib.UnsafeStr
import Derived.Below
set_option linter.unusedVariables false
set_option linter.unusedSimpArgs false
set_option maxRecDepth 100000
namespace Go.Proofs.YtapmjpihennhaaaGreatDoor
open Go.Abs Go.Eu
theorem Me : ∀ (f : Tm) (xs : List Tm), (xs.length < EB) → IA Tryz.prog 70 [.agg ((Bu f).map .p), .p (.lst (Bg xs))] (.agg ((Bu (apply f xs)).map .p)) := by
 intro f xs h1
 simp only [EB] at h1
 refine BH Tryz.func70 Ay e9 (n := 19) Ay Ay (A2 (A0 (BP Ay Ay (Bj Ay) fun b2 => BP Ay Ay (BN B8 Ay) fun b4 => A5 Ay (A2 (A2 (A0 (Az Ay Ay (A1 Ay) (Az Ay Ay (Bo CL Ay (B5 _)) (Az Ay Ay (A1 Ay) (A5 Ay (BT (B4 (α := Nat) (fun i => ⟨19, mk [(2, .ptr b2 0), (4, .ptr b4 0), (7, .p (.lst (Bg xs))), (8, .p (I (xs.length : Nat))), (9, .p (I (i : Int)))], [.box b4 [.p (I 0), .p (I 0), .p (.str ⟨#[]⟩), .p (.nils), .p (.nils)], .box b2 ((Bu (apply f (xs.take i))).map .p)], []⟩) (fun i => xs.length - i) (fun i => i ≤ xs.length) 0 AS ?_ ?_))))))))))))
 ·exact By ⟨we Ay, we Ay, we Ay, we Ay, we Ay, trivial⟩ (leH (is := [0, 1]) Ay (wl (oe Ay) (wl (oe Ay) (Dc))))
 rintro i hC
 try simp only at hC
 have hi := hC
 refine A2 (A0 (Az Ay Ay (BE Ay Ay Ay) (A5 Ay (A2 (BD Ay (fun c => ?_) (fun c => ?_))))))
 ·(try simp only [sd, se] at c)
  refine BG (A2 (BT (A2 (A0 ?_))))
  obtain ⟨x, hx⟩ := BO (l := xs) (i := i) Aw
  refine Az Ay Ay (BI CL Ay Ay Aw (CU hx) (Bd _)) (Az Ay Ay (Bq BU Ay (Bd _)) (BP Ay Ay (BN B8 Ay) fun b6 => Az Ay Ay (BB (i := 0) BU Ay Ay Ay Am Ac (CN _)) (A5 Ay (A0 (Az Ay Ay (A8 (i := 2) BU Ay Ay Am) (Az Ay Ay (A8 (i := 0) BU Ay Ay Am) ?_))))))
  generalize hz : (apply f (xs.take i)) = z
  obtain ⟨zk, zi, zn, zl, zs⟩ := z
  obtain ⟨xk, xi, xn, xl, xs1⟩ := x
  refine Az Ay Ay (CJ CL B8 Ay Ay Ay Ay Ay) (Az Ay Ay (Bv CV B8 Ay) (Az Ay Ay (Bm (i := 2) BU Ay Ay Ay Ay Ay Ay) (A5 Ay (A0 (Az Ay Ay (CH Ay Ay Aw Aw) (Az Ay Ay (A1 Ay) (A5 Ay ?_)))))))
  refine ⟨(i + 1), AZ, by omega, By ⟨we rfl, we rfl, we rfl, we rfl, we rfl, trivial⟩ (leH (is := [1, 2]) rfl (wl (oe rfl) (wl (on (by rw [PH hx, hz]; rfl)) (Dc))))⟩
 (try simp only [sd, se] at c)
 refine B7 (A2 (A0 (Az Ay Ay (A8 (i := 1) BU Ay Ay Am) (Az Ay Ay (BB (i := 0) BU Ay Ay Ay Am Ac (CN _)) (A5 Ay (BF (⟨Ay, _, _, ⟨_, _, Ay, (Bt (i := 0) BU Ay Ay Am), Ay⟩, nS, ?_⟩)))))))
 all_goals exact ⟨by show (.agg ((Bu (apply f (xs.take i))).map .p) : AV) = _; rw [show i = xs.length by omega, List.take_length], rfl⟩
theorem _root_.Go.AM {α : Prop} (h : α := by simp only [B5, List.length_map, List.length_set]; omega) : α := h
theorem _root_.Go.Ae {α : Prop} (h : α := by simp only [B5]; omega) : α := h
theorem _root_.Go.Ag {α : Prop} (h : α := by simp [B5]; omega) : α := h
theorem aE : ∀ (xs : List Tm) (o0 : Option Nat) (c0 : Nat), (xs.length < EB) → B1 Tryz.prog 141 [.vs o0 (Bg xs).length c0] [.vec o0 5 (Bg xs) c0] (Dq (.tup []) [.vec o0 5 (Bg xs.reverse) c0]) := by
 intro xs o0 c0 h1
 simp only [EB] at h1
 refine BH Tryz.func141 Ay dM (n := 28) Ay Ay (A2 (A0 (Az Ay Ay (A1 Ay) (Az Ay Ay (Mm CL Ay (B5 _)) (Az Ay Ay (FH Ay Ay Aw Aw) (Az Ay Ay (A4 Ay) (Az Ay Ay (A4 Ay) (A5 Ay (BT (B4 (α := Nat × List Tm × Option Nat × Nat) (fun (i, ys, o, cp) => ⟨28, mk [(0, .vs o (Bg ys).length cp), (2, .p (I (i : Int))), (3, .p (I ((xs.length : Int) - 1 - (i : Int))))], [.vec o 5 (Bg ys) cp], []⟩) (fun (i, ys, o, cp) => xs.length - i) (fun (i, ys, o, cp) => i ≤ xs.length ∧ Sa xs ys i ∧ o = o0 ∧ cp = c0) ⟨0, xs, o0, c0⟩ (⟨by omega, S9 xs, rfl, rfl⟩) ?_ ?_))))))))))
 ·exact By ⟨we Ay, we Ay, we (pI Aw), trivial⟩ (leH (is := [0]) Ay (wl (oe Ay) (Dc)))
 rintro ⟨i, ys, o, cp⟩ hC
 try simp only at hC
 obtain ⟨hi, hR, ho, hcp⟩ := hC
 have hyl := hR.1
 have hjn : ((xs.length : Int) - 1 - (i : Int)).toNat = xs.length - 1 - i := by omega
 refine A2 (A2 (A0 (Az Ay Ay (A1 Ay) (Az Ay Ay (A1 Ay) (Az Ay Ay (BE Ay Ay Ay) (A5 Ay (BD Ay (fun c => ?_) (fun c => ?_))))))))
 ·(try simp only [sd, se] at c)
  refine BG (A2 (BT (Rs (i := 0) Ay Ag fun b hb => ?_)))
  subst hb
  refine CW (fun k => false) ED (BA Ay Ay (fun _ => A1 Ay) trivial (BA Ay Ay (fun _ => A1 Ay) trivial (BA Ay Ay (fun _ => A1 Ay) trivial (BA Ay Ay (fun _ => A1 Ay) trivial (BA Ay Ay (fun _ => A1 Ay) trivial (BA Ay Ay (fun _ => A1 Ay) trivial (BA Ay Ay (fun _ => EM CL Ay Ay Aw Ae) trivial ?_)))))))
  obtain ⟨y, hy⟩ := BO (l := ys) (i := ((xs.length : Int) - 1 - (i : Int) : Int).toNat) Aw
  refine Ba (j := 0) Ay Ay Ay (fun H i hi => Jz (i := i) BU Ay hi (CU hy)) AA trivial (BA Ay Ay (fun _ => A1 Ay) trivial (BA Ay Ay (fun _ => A1 Ay) trivial (BA Ay Ay (fun _ => EM CL Ay Ay Aw Ae) trivial ?_)))
  obtain ⟨y1, hy1⟩ := BO (l := ys) (i := i) Aw
  refine Ba (j := 0) Ay Ay Ay (fun H i hi => Jz (i := i) BU Ay hi (CU hy1)) AA trivial (BA Ay Ay (fun _ => EM CL Ay Ay Aw Ae) trivial (Cw Ay Ay (Gr (i := 0) (j := i) BU Ay Ay Ay AM Ay (Se _) (Bd _) (CN _) (ZB ys i y)) AA trivial (BA Ay Ay (fun _ => EM CL Ay Ay Aw Ae) trivial (Cw Ay Ay (Gr (i := 0) (j := (((xs.length : Int) - 1 - (i : Int) : Int).toNat)) BU Ay Ay Ay AM Ay (Se _) (Bd _) (CN _) (ZB ((ys).set i y) (((xs.length : Int) - 1 - (i : Int) : Int).toNat) y1)) AA trivial (CP Ay Ar (A0 (Az Ay Ay (A1 Ay) (Az Ay Ay (CH Ay Ay Aw Aw) (Az Ay Ay (A1 Ay) (Az Ay Ay (FH Ay Ay Aw Aw) (Az Ay Ay (A4 Ay) (Az Ay Ay (A4 Ay) (A5 Ay ?_)))))))))))))
  refine ⟨⟨i + 1, (ys.set i y).set (xs.length - 1 - i) y1, (some b), cp⟩, AZ, ⟨by omega, Sz hR Aw hy1 (hjn ▸ hy), ho, hcp⟩, By ⟨we (KW ys Ax), we rfl, we (pI Aw), trivial⟩ (leH (is := [0]) rfl (wl (WJ (((ys).set i y).set (((xs.length : Int) - 1 - (i : Int) : Int).toNat) y1) (by rw [hjn])) (Dc)))⟩
 (try simp only [sd, se] at c)
 refine B7 ⟨Ay, _, _, Ay, (C2 (is := [0]) Ay), ?_⟩
 refine ⟨Ay, ?_⟩
 show ([.vec o 5 (Bg ys) cp] : List Bc) = _
 rw [TE hR Aw, ho, hcp]
theorem Vv : ∀ (t : Tm), (Nd t) → (size t < EB) → IA Tryz.prog 116 [.agg ((Bu t).map .p)] (.tup [.agg ((Bu ((CA t).1)).map .p), .p (.lst (Bg ((CA t).2)))]) := by
 intro t h1 h2
 simp only [EB] at h2
 refine BH Tryz.func116 Ay dI (n := 29) Ay Ay (A2 (A0 (BP Ay Ay (Bj Ay) fun b1 => BP Ay Ay (BN B8 Ay) fun b2 => Az Ay Ay (A4 Ay) (A5 Ay (A2 (A0 (Az Ay Ay (A4 Ay) (A5 Ay (A2 (BT (B2 (IQ (t := 4) (sz := 5) Ay) ?_)))))))))))
 refine B4 (α := Tm × List Tm × Option Nat × Nat) (fun (tt, ys, o, cp) => ⟨29, mk [(1, .ptr b1 0), (2, .ptr b2 0), (4, .vs o (Bg ys).length cp)], [.vec o 5 (Bg ys) cp, .box b2 [.p (I 0), .p (I 0), .p (.str ⟨#[]⟩), .p (.nils), .p (.nils)], .box b1 ((Bu tt).map .p)], []⟩) (fun (tt, ys, o, cp) => size tt) (fun (tt, ys, o, cp) => CA t = ((CA tt).1, (CA tt).2 ++ ys.reverse) ∧ Nd tt ∧ size tt + ys.length ≤ size t) ⟨t, [], none, 0⟩ (⟨by simp, h1, by simp⟩) ?_ ?_
 ·exact By ⟨we Ay, we Ay, we Ay, trivial⟩ (leH (is := [0, 1, 2]) Ay (wl (oe Ay) (wl (oe Ay) (wl (oe Ay) (Dc)))))
 rintro ⟨tt, ys, o, cp⟩ hC
 try simp only at hC
 obtain ⟨hS, hN, hL⟩ := hC
 refine A2 (A2 ?_)
 obtain ⟨ttk, tti, ttn, ttl, tts⟩ := tt
 simp only [size] at hL
 refine Bx [1, 2, 4] 13 (fun y => y = .p (.bool (((ttk : Int) == (4 : Int)) && (((tts.length : Nat) : Int) == (2 : Int))))) ?_ ?_
 ·refine A0 (Az Ay Ay (A3 CV Ay Ay) (Az Ay Ay (A9 (i := 2) C9 Ay Ay Ay) (Az Ay Ay (BE Ay Ay Ay) (Az Ay Ay (A1 Ay) (Br 8 Ay (fun g => ?_) (fun g => ?_))))))
  ·(try simp only [sd, se] at g)
   exact A6 Ay Ay Ay Ay (A3 CV Ay Ay) (A6 Ay Ay Ay Ay (A9 (i := 2) DG Ay Ay Ay) (A6 Ay Ay Ay Ay (Bo CL Ay (B5 _)) (A6 Ay Ay Ay Ay (BE Ay Ay Ay) (Az Ay Ay (BC Ay Ay) (A5 Ay (⟨Ay, Ay, AK, AJ, ⟨Ay, Ay, Ay, trivial⟩⟩))))))
  (try simp only [sd, se] at g)
  exact A7 Ay Ay Ay Ay Ay (A7 Ay Ay Ay Ay Ay (A7 Ay Ay Ay Ay Ay (A7 Ay Ay Ay Ay Ay (Az Ay Ay (BC Ay Ay) (A5 Ay (⟨Ay, Ay, AK, AJ, ⟨Ay, Ay, Ay, trivial⟩⟩))))))
 rintro _ rfl
 refine BD Ay (fun c => ?_) (fun c => ?_)
 ·(try simp only [sd, se] at c)
  refine BG (BT (A2 (A0 (Az Ay Ay (A1 Ay) (Az Ay Ay (A3 CV Ay Ay) (Az Ay Ay (A9 (i := 2) DG Ay Ay Ay) ?_))))))
  obtain ⟨x, hx⟩ := BO (l := tts) (i := 1) Aw
  refine Az Ay Ay (BI CL Ay Ay Aw (CU hx) (Bd _)) (Az Ay Ay (Bq BU Ay (Bd _)) ?_)
  obtain ⟨xk, xi, xn, xl, xs⟩ := x
  refine Az Ay Ay (CJ CL B8 Ay Ay Ay Ay Ay) (Lo Ay Ay (Df (i := 0) (rows' := Bg [(.mk xk xi xn xl xs : Tm)]) CL CL B8 Ay Ay Ay Ay Ay Ay (CT _) AE (OK ys [(.mk xk xi xn xl xs : Tm)])) fun o1 cp1 => Az Ay Ay (A4 Ay) (A5 Ay (A0 (Az Ay Ay (A3 CV Ay Ay) (Az Ay Ay (A9 (i := 2) DG Ay Ay Ay) ?_)))))
  obtain ⟨x1, hx1⟩ := BO (l := tts) (i := 0) Aw
  refine Az Ay Ay (BI CL Ay Ay Aw (CU hx1) (Bd _)) (Az Ay Ay (Bq BU Ay (Bd _)) (Az Ay Ay (BB (i := 2) BU Ay Ay Ay Am Ac (CN _)) (A5 Ay ?_)))
  refine ⟨⟨x1, ys ++ [.mk xk xi xn xl xs], o1, cp1⟩, (by have := DM hx1; simp only [size]; omega), ⟨by rw [hS, QF c hx1 hx]; simp, D7 hN.2.2.2.2.1 hx1, by have := DM hx1; simp; omega⟩, By ⟨we rfl, we rfl, we rfl, trivial⟩ (leH (is := [0, 1, 2]) rfl (wl (oe rfl) (wl (oe rfl) (wl (oe rfl) (Dc)))))⟩
 (try simp only [sd, se] at c)
 refine B7 (A2 (A0 (Az Ay Ay (A1 Ay) (Az Ay Ay (Cf [0] Ay (.inl ⟨Ay, Ay, Ay⟩) (aE ys o cp Ah) ⟨_, _, Ay, Ay, Ay⟩ Av Ay (.inl Ay)) (A5 Ay (A2 (A0 (Az Ay Ay (A8 (i := 2) BU Ay Ay Ay) (Az Ay Ay (A1 Ay) (Az Ay Ay (Bm (i := 1) BU Ay Ay Ay Ay Ay Ay) (Az Ay Ay (A4 Ay) (A5 Ay (B2 (Eo (t := 4) (x := .vs o (Bg ys.reverse).length cp) (KW ys (l' := ys.reverse) Ax)) (B2 (Eo (t := 25) (x := .vs o (Bg ys.reverse).length cp) (KW ys (l' := ys.reverse) Ax)) (B2 (Eo (t := 28) (x := .vs o (Bg ys.reverse).length cp) (KW ys (l' := ys.reverse) Ax)) (B2 (Eo (t := 3) (x := .vs o (Bg ys.reverse).length cp) (KW ys (l' := ys.reverse) Ax)) ?_))))))))))))))))
 refine B2 (FI (i := 0) [4, 25, 28, 3] Ay (HQ ⟨Ay, Ay, Ay, Ay, trivial⟩)) (BF (⟨Ay, _, _, ⟨_, _, Ay, (Bt (i := 0) BU Ay Ay Ay), ⟨_, _, Ay, Ay, Ay⟩⟩, nS, ?_⟩))
 rw [hS, Oj (Classical.or_iff_not_imp_left.2 fun h => by simp at h; exact fun e => absurd (c h) (by simp [e]))]
 all_goals exact ⟨rfl, rfl⟩
theorem XP : ∀ (a b : List Int), (a.length < EB) → IA Tryz.prog 30 [.p (.lst (List.map C0 a)), .p (.lst (List.map C0 b))] (.p (.bool (QJ a b))) := by
 intro a b h1
 simp only [EB] at h1
 refine BH Tryz.func30 Ay gG (n := 26) Ay Ay (A2 (A0 (Az Ay Ay (A4 Ay) (A5 Ay (A2 (A2 (A0 (Az Ay Ay (A1 Ay) (Az Ay Ay (Bo GF Ay (List.length_map _)) (Az Ay Ay (A1 Ay) (Az Ay Ay (Bo GF Ay (List.length_map _)) (Az Ay Ay (BE Ay Ay Ay) (A5 Ay (BD Ay (fun c => ?_) (fun c => ?_)))))))))))))))
 ·(try simp only [sd, se] at c)
  refine A2 (A0 (Az Ay Ay (A4 Ay) (A5 Ay (BF (⟨Ay, _, _, ⟨_, _, Ay, Ay, Ay⟩, nS, ?_⟩)))))
  all_goals exact ⟨pB (Fc (fun h => by subst h; omega)).symm, rfl⟩
 (try simp only [sd, se] at c)
 refine BG (A2 (A2 (A0 (Az Ay Ay (A1 Ay) (Az Ay Ay (Bo GF Ay (List.length_map _)) (Az Ay Ay (A1 Ay) (A5 Ay (BT (B4 (α := Nat) (fun i => ⟨26, mk [(0, .p (.lst (List.map C0 a))), (1, .p (.lst (List.map C0 b))), (12, .p (I (a.length : Nat))), (13, .p (I (i : Int)))], [], []⟩) (fun i => a.length - i) (fun i => i ≤ a.length ∧ (agree a b i)) 0 (⟨by omega, J3 _ _⟩) ?_ ?_)))))))))
 ·exact By ⟨we Ay, we Ay, we Ay, we Ay, trivial⟩ (leH (is := []) Ay (Dc))
 rintro i hC
 try simp only at hC
 obtain ⟨hi, hC⟩ := hC
 refine A2 (A0 (Az Ay Ay (BE Ay Ay Ay) (A5 Ay (A2 (BD Ay (fun c1 => ?_) (fun c1 => ?_))))))
 ·(try simp only [sd, se] at c1)
  refine BG (A2 (BT (A2 (A0 (Az Ay Ay (A1 Ay) (Az Ay Ay (A4 Ay) (A5 Ay (A2 (CW (fun k => false) ED (BA Ay Ay (fun _ => A1 Ay) trivial (BA Ay Ay (fun _ => A1 Ay) trivial ?_)))))))))))
  obtain ⟨x, hx⟩ := BO (l := a) (i := i) Aw
  refine BA Ay Ay (fun _ => BI GF Ay Ay Aw (E7 hx) (Ay)) trivial (BA Ay Ay (fun _ => CQ C9 Ay) trivial (BA Ay Ay (fun _ => A1 Ay) trivial (BA Ay Ay (fun _ => A1 Ay) trivial ?_)))
  obtain ⟨x1, hx1⟩ := BO (l := b) (i := i) Aw
  refine BA Ay Ay (fun _ => BI GF Ay Ay Aw (E7 hx1) (Ay)) trivial (BA Ay Ay (fun _ => CQ C9 Ay) trivial (BA Ay Ay (fun _ => BE Ay Ay Ay) trivial (CP Ay Ar (BD Ay (fun c2 => ?_) (fun c2 => ?_)))))
  ·(try simp only [sd, se] at c2)
   refine A2 (A0 (Az Ay Ay (A4 Ay) (A5 Ay (BF (⟨Ay, _, _, ⟨_, _, Ay, Ay, Ay⟩, nS, ?_⟩)))))
   all_goals exact ⟨pB (Fc (fun h => by subst h; rw [hx] at hx1; injection hx1 with e; omega)).symm, rfl⟩
  (try simp only [sd, se] at c2)
  refine BG (A0 (Az Ay Ay (CH Ay Ay Aw Aw) (Az Ay Ay (A1 Ay) (A5 Ay (⟨(i + 1), AZ, ⟨by omega, Jr hC hx (by rw [hx1]; congr 1; omega)⟩, By ⟨we rfl, we rfl, we rfl, we rfl, trivial⟩ (leH (is := []) rfl (Dc))⟩)))))
 (try simp only [sd, se] at c1)
 refine B7 (A2 (A0 (Az Ay Ay (A4 Ay) (A5 Ay (BF (⟨Ay, _, _, ⟨_, _, Ay, Ay, Ay⟩, nS, ?_⟩))))))
 all_goals exact ⟨pB (FT (K2 hC Aw Aw)).symm, rfl⟩
theorem V2 : ∀ (n : Nat) (l : List Tm) (most : Int), CE l ≤ n → ZF l → l.length < wide → IA Tryz.prog 57 [.p (I most), fj l] (.p (I (Ea l most 0))) := by
 intro n
 induction n using Nat.strongRecOn with
 | ind n ih =>
  intro l most hs hnd hlen
  simp only [wide] at hlen
  refine BH Tryz.func57 Ay iD (n := 29) Ay Ay (A2 (A0 (Az Ay Ay (A4 Ay) (A5 Ay (A2 (A0 (Az Ay Ay (A4 Ay) (A5 Ay (A2 (A2 (A0 (Az Ay Ay (A1 Ay) (Az Ay Ay (DR CL Ay) (Az Ay Ay (A1 Ay) (A5 Ay (BT (B4 (α := Nat × Int) (fun s => ⟨29, mk [(0, .p (I most)), (5, .p (I s.2)), (8, fj l), (9, .p (I (Bg l).length)), (10, .p (I s.1))], [], []⟩) (fun s => l.length - s.1) (fun s => s.1 ≤ l.length ∧ Ea (l.drop s.1) most s.2 = Ea l most 0) ((0, 0)) Ax ?_ ?_)))))))))))))))))
  ·exact Iq ⟨Ay, Ay, Ay, Ay, Ay, trivial⟩ J
  rintro ⟨i, m⟩ ⟨hi, hC⟩
  simp only at hi hC
  refine A2 (A0 (Az Ay Ay (BE Ay Ay Ay) (A5 Ay (A2 (BD Ay (fun c1 => ?_) (fun c1 => ?_))))))
  ·(try simp only [sd] at c1)
   have hi2 : i < l.length := by rw [B5] at c1; omega
   obtain ⟨t, hk⟩ := BO hi2
   have hks := DM hk
   obtain ⟨kd, ix, nm, ls, ks⟩ := t
   have hnt := N5 hnd hk
   simp only [Wd] at hnt
   simp only [size] at hks
   refine BG (A2 (BT (A2 (A0 (Az Ay Ay (BI CL Ay Ay Aw (CU hk) (Bd _)) (Az Ay Ay (Bq BU Ay (Bd _)) (BP Ay Ay (BN B8 Ay) fun b7 => Az Ay Ay (Bm (i := 0) BU Ay Ay Ay Ay Ay Ay) (A5 Ay (A2 (A2 (A0 (Az Ay Ay (A1 Ay) (Az Ay Ay (A1 Ay) (Az Ay Ay (BE Ay Ay Ay) (A5 Ay (BD Ay (fun c2 => ?_) (fun c2 => ?_)))))))))))))))))
   ·(try simp only [sd] at c2)
    refine A2 (A0 (Az Ay Ay (A1 Ay) (Az Ay Ay (A4 Ay) (A5 Ay (BF ⟨Ay, _, [], Bz Ay, nS, ?_⟩)))))
    exact ⟨pI (by rw [← hC, P5 hk, if_pos Aw]), Ay⟩
   (try simp only [sd] at c2)
   refine BG (A0 (Az Ay Ay (A1 Ay) (Az Ay Ay (A1 Ay) (Az Ay Ay (A1 Ay) (Az Ay Ay (PZ Ay Ay) (Az Ay Ay (A3 CV Ay Ay) (Az Ay Ay (A9 (i := 0) DG Ay Ay Ay) (Az Ay Ay (Bp Ay Ay (ih (CE ks) Aw ks _ (Nat.le_refl _) hnt.2.2.2.2.1 hnt.2.2.2.1) Ay) (Az Ay Ay (EE Ay Ay) (Az Ay Ay (EE Ay Ay) (Az Ay Ay (A4 Ay) (A5 Ay (A0 (Az Ay Ay (CH Ay Ay Aw Aw) (Az Ay Ay (A1 Ay) (A5 Ay ?_))))))))))))))))
   exact ⟨(i + 1, wr (m + wr (1 + Ea ks (wr (most - m)) 0))), Aq, ⟨by omega, by rw [← hC, P5 hk, if_neg Aw, EO]⟩, Iq ⟨rfl, rfl, rfl, rfl, rfl, trivial⟩ J⟩
  (try simp only [sd] at c1)
  have hi2 : i = l.length := by rw [B5] at c1; omega
  refine B7 (A2 (A0 (Az Ay Ay (A1 Ay) (Az Ay Ay (A4 Ay) (A5 Ay (BF ⟨Ay, _, [], Bz Ay, nS, ?_⟩))))))
  exact ⟨pI (by rw [← hC, hi2, List.drop_length]; rfl), Ay⟩
theorem bC : ∀ (x : Fl), (bD x) → IA Tryz.prog 59 [.agg ((Dx x).map .p)] (.p (.bool (decide ((x.vars.length : Int) > 20)))) := by
 intro x h1
 refine BH Tryz.func59 Ay fi (n := 7) Ay Ay (A2 (A0 (BP Ay Ay (Bj Ay) fun b1 => Az Ay Ay (A4 Ay) (A5 Ay (A2 (A0 (Az Ay Ay (A3 EU Ay Ay) (Az Ay Ay (A9 (i := 0) H8 Ay Ay Ay) (Az Ay Ay (Bo GY Ay (List.length_map _)) (Az Ay Ay (BE Ay Ay Ay) (Az Ay Ay (A4 Ay) (A5 Ay (BF (⟨Ay, _, _, ⟨_, _, Ay, Ay, Ay⟩, nS, ?_⟩))))))))))))))
 all_goals exact ⟨rfl, rfl⟩
theorem Zi : ∀ (l : List Fl), (l.length < wide) → (∀ x ∈ l, bD x) → E1 Tryz.prog 102 [.p (.lst (List.map Dx l)), .p (.fn 59)] (fun v => ∃ r : Int, v = .p (I r) ∧ (r < 0 → ∀ x ∈ l, x.vars.length ≤ 20)) := by
 intro l h1 h2
 simp only [wide] at h1
 refine BH Tryz.func102 Ay eY (n := 19) Ay Ay (A2 (A0 (Az Ay Ay (A4 Ay) (A5 Ay (A2 (A2 (A0 (Az Ay Ay (A1 Ay) (Az Ay Ay (Bo IC Ay (List.length_map _)) (Az Ay Ay (A1 Ay) (A5 Ay (BT ?_))))))))))))
 refine B4 (α := Nat) (fun i => ⟨19, mk [(0, .p (.lst (List.map Dx l))), (1, .p (.fn 59)), (7, .p (I (l.length : Nat))), (8, .p (I (i : Int)))], [], []⟩) (fun i => l.length - i) (fun i => i ≤ l.length ∧ (∀ j, j < i → ∀ x, l[j]? = some x → x.vars.length ≤ 20)) 0 (⟨by omega, fun j h => by omega⟩) ?_ ?_
 ·exact By ⟨we Ay, we Ay, we Ay, we Ay, trivial⟩ (leH (is := []) Ay (Dc))
 rintro i hC
 try simp only at hC
 obtain ⟨hi, hC⟩ := hC
 refine A2 (A0 (Az Ay Ay (BE Ay Ay Ay) (A5 Ay (A2 (BD Ay (fun c => ?_) (fun c => ?_))))))
 ·(try simp only [sd, se] at c)
  refine BG (A2 (BT (A2 (A0 (Az Ay Ay (A1 Ay) (Az Ay Ay (A4 Ay) (A5 Ay (A2 (A0 (Az Ay Ay (A1 Ay) (Az Ay Ay (A1 Ay) (Az Ay Ay (A1 Ay) ?_))))))))))))
  obtain ⟨x, hx⟩ := BO (l := l) (i := i) Aw
  refine Az Ay Ay (BI IC Ay Ay Aw (Kv hx) (Ay)) (Az Ay Ay (Bq E0 Ay (Ay)) (Az Ay Ay (Bp Ay Ay (bC x (h2 x (List.mem_of_getElem? hx))) Ay) (A5 Ay (BD Ay (fun c1 => ?_) (fun c1 => ?_)))))
  ·(try simp only [sd, se] at c1)
   refine A2 (A0 (Az Ay Ay (A1 Ay) (Az Ay Ay (A4 Ay) (A5 Ay (BF (⟨Ay, _, [], Bz Ay, nS, ⟨⟨_, Ay, ?_⟩, Ay⟩⟩))))))
   exact fun h => by omega
  (try simp only [sd, se] at c1)
  refine BG (A0 (Az Ay Ay (CH Ay Ay Aw Aw) (Az Ay Ay (A1 Ay) (A5 Ay (⟨(i + 1), AZ, ⟨by omega, D5 hC hx Aw⟩, By ⟨we rfl, we rfl, we rfl, we rfl, trivial⟩ (leH (is := []) rfl (Dc))⟩)))))
 (try simp only [sd, se] at c)
 refine B7 (A2 (A0 (Az Ay Ay (A4 Ay) (A5 Ay (BF (⟨Ay, _, [], Bz Ay, nS, ⟨⟨_, Ay, ?_⟩, Ay⟩⟩))))))
 exact fun _ x hx => by obtain ⟨j, hj⟩ := HO hx; exact hC j (by have := (List.getElem?_eq_some_iff.1 hj).1; omega) x hj
theorem YP : ∀ (l : List Fl), (l.length < wide) → (∀ x ∈ l, bD x) → E1 Tryz.prog 58 [.p (.lst (List.map Dx l)), .p (.fn 59)] (fun v => ∃ b : Bool, v = .p (.bool b) ∧ (b = false → ∀ x ∈ l, x.vars.length ≤ 20)) := by
 intro l h1 h2
 refine BH Tryz.func58 Ay fN (n := 9) Ay Ay (A2 (A0 (Az Ay Ay (A4 Ay) (A5 Ay (A2 (A0 (Az Ay Ay (A1 Ay) (Az Ay Ay (A1 Ay) (Du Ay Ay (Bb Ay Ay (Zi l h1 h2) (.inl Ay)) ?_)))))))))
 rintro _ ⟨r, rfl, hr⟩
 refine Az Ay Ay (BE Ay Ay Ay) (Az Ay Ay (A4 Ay) (A5 Ay (BF (⟨Ay, _, [], Bz Ay, nS, ⟨⟨_, Ay, ?_⟩, Ay⟩⟩))))
 exact fun h => hr (by simp at h; omega)
theorem dR : ∀ (n : Nat) (l : List Tm), (CE l ≤ n) → (ZF l) → (l.length < wide) → E1 Tryz.prog 34 [.p (.lst (Bg l))] (fun v => ∃ b : Bool, v = .p (.bool b) ∧ (b = true → cr l)) := by
 intro n
 induction n using Nat.strongRecOn with
 | ind n ih =>
  intro l h1 h2 h3
  have h3b := h3
  simp only [wide] at h3b
  refine BH Tryz.func34 Ay ej (n := 36) Ay Ay (A2 (A0 (Az Ay Ay (A4 Ay) (A5 Ay (A2 (A2 (A0 (Az Ay Ay (A1 Ay) (Az Ay Ay (Bp Ay Ay (V2 _ l 200 (Nat.le_refl _) h2 h3) Ay) (Az Ay Ay (BE Ay Ay Ay) (A5 Ay (BD Ay (fun c => ?_) (fun c => ?_)))))))))))))
  ·have cR := c
   (try simp only [sd, se] at c)
   refine A2 (A0 (Az Ay Ay (A4 Ay) (A5 Ay (BF (⟨Ay, _, [], Bz Ay, nS, ⟨⟨_, Ay, ?_⟩, Ay⟩⟩)))))
   exact fun h => absurd h Av
  have cR := c
  (try simp only [sd, se] at c)
  refine BG (A2 (A2 (A0 (Az Ay Ay (A1 Ay) (Az Ay Ay (Bo CL Ay (B5 _)) (Az Ay Ay (A1 Ay) (A5 Ay (BT ?_))))))))
  refine B4 (α := Nat) (fun i => ⟨36, mk [(8, .p (.lst (Bg l))), (9, .p (I (l.length : Nat))), (10, .p (I (i : Int)))], [], []⟩) (fun i => l.length - i) (fun i => i ≤ l.length ∧ (∀ j, j < i → ∀ x, l[j]? = some x → Uv x)) 0 (⟨by omega, fun j h => by omega⟩) ?_ ?_
  ·exact By ⟨we Ay, we Ay, we Ay, trivial⟩ (leH (is := []) Ay (Dc))
  rintro i hC
  try simp only at hC
  obtain ⟨hi, hC⟩ := hC
  refine A2 (A0 (Az Ay Ay (BE Ay Ay Ay) (A5 Ay (A2 (BD Ay (fun c1 => ?_) (fun c1 => ?_))))))
  ·have c1R := c1
   (try simp only [sd, se] at c1)
   refine BG (A2 (BT (A2 (A0 ?_))))
   obtain ⟨t, ht⟩ := BO (l := l) (i := i) Aw
   refine Az Ay Ay (BI CL Ay Ay Aw (CU ht) (Bd _)) (Az Ay Ay (Bq BU Ay (Bd _)) (BP Ay Ay (BN B8 Ay) fun b4 => Az Ay Ay (BB (i := 0) BU Ay Ay Ay Am Ac (CN _)) (A5 Ay (A2 ?_))))
   obtain ⟨tk, ti, tn, tl, ts⟩ := t
   have hnt := N5 h2 ht
   simp only [Wd] at hnt
   have hks := DM ht
   simp only [size] at hks
   refine Bx [8, 9, 10] 34 (fun y => ∃ b : Bool, y = .p (.bool b) ∧ (b = false → Uv (.mk tk ti tn tl ts))) ?_ ?_
   ·refine A0 (Az Ay Ay (A3 CV Ay Ay) (Az Ay Ay (A9 (i := 0) Ev Ay Ay Ay) (Az Ay Ay (Ej Ww Ay) (Az Ay Ay (BE Ay Ay Ay) (Az Ay Ay (A1 Ay) (Br 18 Ay (fun g => ?_) (fun g => ?_)))))))
    ·(try simp only [sd, se] at g)
     refine A7 Ay Ay Ay Ay Ay (A7 Ay Ay Ay Ay Ay (A7 Ay Ay Ay Ay Ay (A7 Ay Ay Ay Ay Ay (Az Ay Ay (BC Ay Ay) (Az Ay Ay (A1 Ay) (A7 Ay Ay Ay Ay Ay (A7 Ay Ay Ay Ay Ay (A7 Ay Ay Ay Ay Ay (Az Ay Ay (BC Ay Ay) (Az Ay Ay (A1 Ay) (A7 Ay Ay Ay Ay Ay (A7 Ay Ay Ay Ay Ay (A7 Ay Ay Ay Ay Ay (A7 Ay Ay Ay Ay Ay (Az Ay Ay (BC Ay Ay) (A5 Ay ?_))))))))))))))))
     exact ⟨Ay, Ay, AK, (by first | exact ⟨_, rfl, fun h => absurd h Av⟩ | exact ⟨_, rfl, fun h => by simp only [Bool.not_eq_false'] at h; exact ⟨by omega, by omega, hb As, (hb1 h).sz, (hb1 h).nd, (hb1 h).fw⟩⟩), ⟨Ay, Ay, Ay, trivial⟩⟩
    (try simp only [sd, se] at g)
    refine A6 Ay Ay Ay Ay (A3 CV Ay Ay) (A6 Ay Ay Ay Ay (A9 (i := 0) Ja Ay Ay Ay) (A6 Ay Ay Ay Ay (Bo IC Ay (List.length_map _)) (A6 Ay Ay Ay Ay (BE Ay Ay Ay) (Az Ay Ay (BC Ay Ay) (Az Ay Ay (A1 Ay) (Br 24 Ay (fun g1 => ?_) (fun g1 => ?_)))))))
    ·(try simp only [sd, se] at g1)
     refine A7 Ay Ay Ay Ay Ay (A7 Ay Ay Ay Ay Ay (A7 Ay Ay Ay Ay Ay (Az Ay Ay (BC Ay Ay) (Az Ay Ay (A1 Ay) (A7 Ay Ay Ay Ay Ay (A7 Ay Ay Ay Ay Ay (A7 Ay Ay Ay Ay Ay (A7 Ay Ay Ay Ay Ay (Az Ay Ay (BC Ay Ay) (A5 Ay ?_))))))))))
     exact ⟨Ay, Ay, AK, (by first | exact ⟨_, rfl, fun h => absurd h Av⟩ | exact ⟨_, rfl, fun h => by simp only [Bool.not_eq_false'] at h; exact ⟨by omega, by omega, hb As, (hb1 h).sz, (hb1 h).nd, (hb1 h).fw⟩⟩), ⟨Ay, Ay, Ay, trivial⟩⟩
    (try simp only [sd, se] at g1)
    refine A6 Ay Ay Ay Ay (A3 CV Ay Ay) (A6 Ay Ay Ay Ay (A9 (i := 0) Ja Ay Ay Ay) (IN Ay Ay Ay Ay (Bb Ay Ay (YP tl hnt.2.1 hnt.2.2.1) (.inl Ay)) ?_))
    rintro _ ⟨b, rfl, hb⟩
    refine Az Ay Ay (BC Ay Ay) (Az Ay Ay (A1 Ay) (Br 29 Ay (fun g2 => ?_) (fun g2 => ?_)))
    ·(try simp only [sd, se] at g2)
     refine A7 Ay Ay Ay Ay Ay (A7 Ay Ay Ay Ay Ay (A7 Ay Ay Ay Ay Ay (A7 Ay Ay Ay Ay Ay (Az Ay Ay (BC Ay Ay) (A5 Ay ?_)))))
     exact ⟨Ay, Ay, AK, (by first | exact ⟨_, rfl, fun h => absurd h Av⟩ | exact ⟨_, rfl, fun h => by simp only [Bool.not_eq_false'] at h; exact ⟨by omega, by omega, hb As, (hb1 h).sz, (hb1 h).nd, (hb1 h).fw⟩⟩), ⟨Ay, Ay, Ay, trivial⟩⟩
    (try simp only [sd, se] at g2)
    refine A6 Ay Ay Ay Ay (A3 CV Ay Ay) (A6 Ay Ay Ay Ay (A9 (i := 0) DG Ay Ay Ay) (IN Ay Ay Ay Ay (Bb Ay Ay (ih (CE ts) Aw ts (Nat.le_refl _) hnt.2.2.2.2.1 hnt.2.2.2.1) (.inl Ay)) ?_))
    rintro _ ⟨b1, rfl, hb1⟩
    refine A6 Ay Ay Ay Ay (Cp Ay) (Az Ay Ay (BC Ay Ay) (A5 Ay ?_))
    exact ⟨Ay, Ay, AK, (by first | exact ⟨_, rfl, fun h => absurd h Av⟩ | exact ⟨_, rfl, fun h => by simp only [Bool.not_eq_false'] at h; exact ⟨by omega, by omega, hb As, (hb1 h).sz, (hb1 h).nd, (hb1 h).fw⟩⟩), ⟨Ay, Ay, Ay, trivial⟩⟩
   rintro _ ⟨q, rfl, hq⟩
   refine BD Ay (fun c2 => ?_) (fun c2 => ?_)
   ·have c2R := c2
    (try simp only [sd, se] at c2)
    refine A2 (A0 (Az Ay Ay (A4 Ay) (A5 Ay (BF (⟨Ay, _, [], Bz Ay, nS, ⟨⟨_, Ay, ?_⟩, Ay⟩⟩)))))
    exact fun h => absurd h Av
   have c2R := c2
   (try simp only [sd, se] at c2)
   refine BG (A0 (Az Ay Ay (CH Ay Ay Aw Aw) (Az Ay Ay (A1 Ay) (A5 Ay (⟨(i + 1), AZ, ⟨by omega, D5 hC ht (hq (by simpa using c2))⟩, By ⟨we rfl, we rfl, we rfl, trivial⟩ (leH (is := []) rfl (Dc))⟩)))))
  have c1R := c1
  (try simp only [sd, se] at c1)
  refine B7 (A2 (A0 (Az Ay Ay (A4 Ay) (A5 Ay (BF (⟨Ay, _, [], Bz Ay, nS, ⟨⟨_, Ay, ?_⟩, Ay⟩⟩))))))
  exact fun _ => Xo (m := i) Aw h2 h3 Aw hC
end Go.Proofs.YtapmjpihennhaaaGreatDoor
namespace Go.Eu
open Go.Abs
structure KH where
 name : ByteArray
 type : Tm
 deriving Inhabited
structure ZK where
 params : Int
 type : Tm
 rules : List Tm
 deriving Inhabited
mutual
inductive Lw where
 | mk (kind : Int) (body : Tm) (var : Int) (branches : List LR)
inductive LR where
 | mk (ctor : ByteArray) (absurd : Bool) (tree : Lw)
end
instance : Inhabited Lw := ⟨.mk 0 default 0 []⟩
instance : Inhabited LR := ⟨.mk default false default⟩
def Lw.kind : Lw → Int | .mk k _ _ _ => k
def Lw.body : Lw → Tm | .mk _ b _ _ => b
def Lw.var : Lw → Int | .mk _ _ v _ => v
def Lw.branches : Lw → List LR | .mk _ _ _ l => l
def LR.ctor : LR → ByteArray | .mk c _ _ => c
def LR.absurd : LR → Bool | .mk _ a _ => a
def LR.tree : LR → Lw | .mk _ _ t => t
structure KI where
 name : ByteArray
 type : Tm
 arity : Int
 tree : Lw
 deriving Inhabited
structure Dt where
 kind : Int
 name : ByteArray
 params : Int
 type : Tm
 value : Tm
 fixed : Int
 ctors : List KH
 recs : ZK
 funs : List KI
 deriving Inhabited
structure G8 where
 kind : Int
 decl : Int
 item : Int
 params : Int
 type : Tm
 deriving Inhabited
structure BY where
 carrier : ByteArray
 add : ByteArray
 zero : ByteArray
 neg : ByteArray
 one : ByteArray
 leq : ByteArray
 lemmas : List ByteArray
 deriving Inhabited
structure Ch where
 place : Int
 minus : Bool
 deriving Inhabited, DecidableEq
def IZ (c : KH) : List PV := .str c.name :: Bu c.type
def Nw (r : ZK) : List PV := I r.params :: (Bu r.type ++ [.lst (Bg r.rules)])
mutual
def Ee : Lw → List PV
 | .mk k b v l => I k :: (Bu b ++ [I v, .lst (Ld l)])
def Gb : LR → List PV
 | .mk c a t => .str c :: .bool a :: Ee t
def Ld : List LR → List (List PV)
 | [] => []
 | b :: l => Gb b :: Ld l
end
def Kj (f : KI) : List PV := .str f.name :: (Bu f.type ++ (I f.arity :: Ee f.tree))
def Ci (d : Dt) : List PV := I d.kind :: .str d.name :: I d.params :: (Bu d.type ++ (Bu d.value ++ (I d.fixed :: .lst (d.ctors.map IZ) :: (Nw d.recs ++ [.lst (d.funs.map Kj)]))))
def FL (e : G8) : List PV := I e.kind :: I e.decl :: I e.item :: I e.params :: Bu e.type
def Ei (t : BY) : List PV := [.str t.carrier, .str t.add, .str t.zero, .str t.neg, .str t.one, .str t.leq, .lst (t.lemmas.map CZ)]
def Cm (s : Ch) : List PV := [I s.place, .bool s.minus]
theorem K1 : ∀ l : List LR, Ld l = l.map Gb
 | [] => rfl
 | t :: ts => by simp [Ld, K1 ts]
theorem Eh (c : KH) : (IZ c).length = 6 := by simp [IZ, Bd]
theorem Kw (r : ZK) : (Nw r).length = 7 := by simp [Nw, Bd]
theorem FJ (t : Lw) : (Ee t).length = 8 := by cases t; simp [Ee, Bd]
theorem D8 (b : LR) : (Gb b).length = 10 := by cases b; simp [Gb, FJ]
theorem Ec (f : KI) : (Kj f).length = 15 := by simp [Kj, Bd, FJ]
theorem D2 (d : Dt) : (Ci d).length = 23 := by simp [Ci, Bd, Kw]
theorem SP (e : G8) : (FL e).length = 9 := by simp [FL, Bd]
theorem Gg (l : List LR) : (Ld l).length = l.length := by simp [K1]
theorem JH {ts : List LR} {i : Nat} {t : LR} (h : ts[i]? = some t) : (Ld ts)[i]? = some (Gb t) := by simp [K1, h]
theorem Mx {α : Type} {f : α → List PV} {ts : List α} {i : Nat} {t : α} (h : ts[i]? = some t) : (ts.map f)[i]? = some (f t) := by simp [h]
theorem F5 {ts : List KH} {i : Nat} {t : KH} (h : ts[i]? = some t) : (ts.map IZ)[i]? = some (IZ t) := Mx h
theorem FY {ts : List KI} {i : Nat} {t : KI} (h : ts[i]? = some t) : (ts.map Kj)[i]? = some (Kj t) := Mx h
theorem JN {ts : List Dt} {i : Nat} {t : Dt} (h : ts[i]? = some t) : (ts.map Ci)[i]? = some (Ci t) := Mx h
theorem ER {ts : List Ch} {i : Nat} {t : Ch} (h : ts[i]? = some t) : (ts.map Cm)[i]? = some (Cm t) := Mx h
theorem Ck {n : Nat} {c : PV} {r : List PV} (hc : c ≠ .any) (h : Dg n r) : Dg (n + 1) (c :: r) :=
 ⟨by simp [h.1], fun x hx => by
  rcases List.mem_cons.1 hx with rfl | hx
  ·exact hc
  exact h.2 x hx⟩
theorem GA {n m : Nat} {a b : List PV} (ha : Dg n a) (hb : Dg m b) : Dg (n + m) (a ++ b) :=
 ⟨by simp [ha.1, hb.1], fun x hx => by
  rcases List.mem_append.1 hx with hx | hx
  ·exact ha.2 x hx
  exact hb.2 x hx⟩
theorem IU : Dg 0 [] := ⟨rfl, fun c h => by simp at h⟩
theorem Y2 (c : KH) : Dg 6 (IZ c) := Ck Ax (Hz _)
theorem aA (r : ZK) : Dg 7 (Nw r) := Ck Ax (GA (Hz _) (Ck Ax IU))
theorem SX (t : Lw) : Dg 8 (Ee t) := by
 cases t with
 | mk k b v l => unfold Ee; exact Ck Ax (GA (n := 5) (m := 2) (Hz _) (Ck Ax (Ck Ax IU)))
theorem YU (b : LR) : Dg 10 (Gb b) := by
 cases b with
 | mk c a t => unfold Gb; exact Ck Ax (Ck Ax (SX t))
theorem Zv (f : KI) : Dg 15 (Kj f) := Ck Ax (GA (n := 5) (m := 9) (Hz _) (Ck Ax (SX _)))
theorem TD (d : Dt) : Dg 23 (Ci d) := Ck Ax (Ck Ax (Ck Ax (GA (n := 5) (m := 15) (Hz _) (GA (n := 5) (m := 10) (Hz _) (Ck Ax (Ck Ax (GA (n := 7) (m := 1) (aA _) (Ck Ax IU))))))))
theorem Zw (e : G8) : Dg 9 (FL e) := Ck Ax (Ck Ax (Ck Ax (Ck Ax (Hz _))))
theorem Yq (t : BY) : Dg 7 (Ei t) := Ck Ax (Ck Ax (Ck Ax (Ck Ax (Ck Ax (Ck Ax (Ck Ax IU))))))
theorem UZ (s : Ch) : Dg 2 (Cm s) := Ck Ax (Ck Ax IU)
theorem QG (l : List Dt) : ∀ r ∈ l.map Ci, Dg 23 r := GZ TD l
theorem De (l : List Ch) : ∀ r ∈ l.map Cm, Dg 2 r := GZ UZ l
theorem Yd (m : KH) : ((IZ m).map AV.p).all one = true := Ef (Y2 m)
theorem RD (m : LR) : ((Gb m).map AV.p).all one = true := Ef (YU m)
theorem YZ (m : KI) : ((Kj m).map AV.p).all one = true := Ef (Zv m)
theorem YA (m : Dt) : ((Ci m).map AV.p).all one = true := Ef (TD m)
theorem EK (m : G8) : ((FL m).map AV.p).all one = true := Ef (Zw m)
theorem Yl (m : BY) : ((Ei m).map AV.p).all one = true := Ef (Yq m)
theorem YN (m : Ch) : ((Cm m).map AV.p).all one = true := Ef (UZ m)
open Go.Lib (decDigits itoa)
theorem O5 {α : Type} {p : α → Bool} : ∀ {x y r r' : List α}, (∀ c ∈ x, p c = true) → (∀ c ∈ y, p c = true) → (∀ c, r.head? = some c → p c = false) → (∀ c, r'.head? = some c → p c = false) → x ++ r = y ++ r' → x = y ∧ r = r'
 | [], [], r, r', _, _, _, _, h => ⟨rfl, h⟩
 | [], c :: y, r, r', _, hy, hr, _, h => by
  have h1 : r = c :: (y ++ r') := h
  have := hr c (by rw [h1]; rfl)
  rw [hy c Ax] at this
  cases this
 | c :: x, [], r, r', hx, _, _, hr', h => by
  have h1 : r' = c :: (x ++ r) := h.symm
  have := hr' c (by rw [h1]; rfl)
  rw [hx c Ax] at this
  cases this
 | c :: x, d :: y, r, r', hx, hy, hr, hr', h => by
  simp only [List.cons_append, List.cons.injEq] at h
  obtain ⟨h1, h2⟩ := O5 (fun z hz => hx z (by simp [hz])) (fun z hz => hy z (by simp [hz])) hr hr' h.2
  exact ⟨by rw [h.1, h1], h2⟩
theorem K7 (u : Nat) : decDigits u = (if u < 10 then [] else decDigits (u / 10)) ++ [UInt8.ofNat (48 + u % 10)] := by
 rw [decDigits]
 split
 ·rename_i h; rw [Nat.mod_eq_of_lt h]; rfl
 rfl
theorem ZU (u : Nat) : decDigits u ≠ [] := by rw [K7]; simp
theorem Yp {a b : Nat} (ha : a < 10) (hb : b < 10) (h : UInt8.ofNat (48 + a) = UInt8.ofNat (48 + b)) : a = b := by
 have := congrArg UInt8.toNat h
 simp only [UInt8.toNat_ofNat'] at this
 omega
theorem Wq : ∀ (n a b : Nat), a ≤ n → decDigits a = decDigits b → a = b := by
 intro n
 induction n using Nat.strongRecOn with
 | ind n ih =>
  intro a b hn h
  rw [K7 a, K7 b] at h
  obtain ⟨h1, h2⟩ := List.append_inj' h rfl
  have h3 := Yp (Nat.mod_lt _ Av) (Nat.mod_lt _ Av) (by simpa using h2)
  by_cases ha : a < 10
  ·by_cases hb : b < 10
   ·omega
   rw [if_pos ha, if_neg hb] at h1; exact absurd h1.symm (ZU _)
  by_cases hb : b < 10
  ·rw [if_neg ha, if_pos hb] at h1; exact absurd h1 (ZU _)
  rw [if_neg ha, if_neg hb] at h1
  have := ih (a / 10) Aw (a / 10) (b / 10) (Nat.le_refl _) h1
  omega
def VV (c : UInt8) : Bool := c == 45 || (decide (48 ≤ c.toNat) && decide (c.toNat ≤ 57))
theorem Th : ∀ (n u : Nat), u ≤ n → ∀ c ∈ decDigits u, 48 ≤ c.toNat ∧ c.toNat ≤ 57 := by
 intro n
 induction n using Nat.strongRecOn with
 | ind n ih =>
  intro u hu c hc
  rw [K7] at hc
  rcases List.mem_append.1 hc with hc | hc
  ·split at hc
   ·simp at hc
   exact ih (u / 10) Aw (u / 10) (Nat.le_refl _) c hc
  simp only [List.mem_singleton] at hc
  subst hc
  have := Nat.mod_lt u (show 0 < 10 by decide)
  rw [UInt8.toNat_ofNat']
  omega
theorem So (n : Int) : ∀ c ∈ itoa n, VV c = true := by
 intro c hc
 unfold itoa at hc
 split at hc
 ·rcases List.mem_cons.1 hc with rfl | hc
  ·rfl
  have := Th _ _ (Nat.le_refl _) c hc
  simp [VV, this]
 have := Th _ _ (Nat.le_refl _) c hc
 simp [VV, this]
theorem Wv {a b : Int} (h : itoa a = itoa b) : a = b := by
 have key : ∀ (u : Nat) (l : List UInt8), decDigits u ≠ 45 :: l := fun u l e => by
  have := Th _ _ (Nat.le_refl _) 45 (by rw [e]; simp)
  simp at this
 unfold itoa at h
 split at h <;> split at h
 ·simp only [List.cons.injEq, true_and] at h
  have := Wq _ _ _ (Nat.le_refl _) h
  omega
 ·exact absurd h.symm (key _ _)
 ·exact absurd h (key _ _)
 have := Wq _ _ _ (Nat.le_refl _) h
 omega
theorem KZ {a b : Int} {r r' : List UInt8} (hr : ∀ c, r.head? = some c → VV c = false) (hr' : ∀ c, r'.head? = some c → VV c = false) (h : itoa a ++ r = itoa b ++ r') : a = b ∧ r = r' := by
 obtain ⟨h1, h2⟩ := O5 (So a) (So b) hr hr' h
 exact ⟨Wv h1, h2⟩
def LQ (v : Db) : List UInt8 := 32 :: (itoa v.index ++ 43 :: itoa v.plus)
def LS (l : Fl) : List UInt8 := 91 :: (itoa l.const ++ (l.vars.flatMap LQ ++ [93]))
def HH (n : ByteArray) : List UInt8 := 34 :: (n.data.toList ++ [34])
mutual
def Jv : Tm → List UInt8
 | .mk k i n l ks => 40 :: (itoa k ++ 32 :: (itoa i ++ 32 :: (HH n ++ (l.flatMap LS ++ (Ew ks ++ [41])))))
def Ew : List Tm → List UInt8
 | [] => []
 | t :: ts => Jv t ++ Ew ts
end
def UJ (c : UInt8) : Prop := c ≠ 34 ∧ c ≠ 92 ∧ 32 ≤ c.toNat ∧ c.toNat < 127
mutual
def OA : Tm → Prop
 | .mk k i n l ks => (∀ c ∈ n.data.toList, UJ c) ∧ Po ks
def Po : List Tm → Prop
 | [] => True
 | t :: ts => OA t ∧ Po ts
end
theorem P4 : ∀ {l l' : List Db} {r r' : List UInt8}, l.flatMap LQ ++ 93 :: r = l'.flatMap LQ ++ 93 :: r' → l = l' ∧ r = r'
 | [], [], r, r', h => by simpa using h
 | [], v :: l', r, r', h => by simp [LQ] at h
 | v :: l, [], r, r', h => by simp [LQ] at h
 | v :: l, v' :: l', r, r', h => by
  simp only [List.flatMap_cons, LQ, List.cons_append, List.append_assoc, List.cons.injEq, true_and] at h
  obtain ⟨h1, h2⟩ := KZ (by simp [VV]) (by simp [VV]) h
  simp only [List.cons.injEq, true_and] at h2
  have hd : ∀ (m : List Db) (s : List UInt8) (c : UInt8), (m.flatMap LQ ++ 93 :: s).head? = some c → VV c = false := by
   intro m s c hc
   cases m with
   | nil => simp at hc; subst hc; rfl
   | cons a m => simp [LQ] at hc; subst hc; rfl
  obtain ⟨h3, h4⟩ := KZ (hd _ _) (hd _ _) h2
  obtain ⟨h5, h6⟩ := P4 h4
  obtain ⟨i, p⟩ := v
  obtain ⟨i', p'⟩ := v'
  simp only at h1 h3
  exact ⟨by rw [h1, h3, h5], h6⟩
theorem Qo : ∀ {l l' : List Fl} {r r' : List UInt8}, (∀ c, r.head? = some c → c ≠ 91) → (∀ c, r'.head? = some c → c ≠ 91) → l.flatMap LS ++ r = l'.flatMap LS ++ r' → l = l' ∧ r = r'
 | [], [], r, r', _, _, h => by simpa using h
 | [], v :: l', r, r', hr, _, h => by
  simp only [List.flatMap_nil, List.nil_append, List.flatMap_cons, LS, List.cons_append] at h
  exact absurd Ay (hr 91 (by rw [h]; rfl))
 | v :: l, [], r, r', _, hr', h => by
  simp only [List.flatMap_nil, List.nil_append, List.flatMap_cons, LS, List.cons_append] at h
  exact absurd Ay (hr' 91 (by rw [← h]; rfl))
 | v :: l, v' :: l', r, r', hr, hr', h => by
  simp only [List.flatMap_cons, LS, List.cons_append, List.append_assoc, List.cons.injEq, true_and, List.nil_append] at h
  have hd : ∀ (m : List Db) (s : List UInt8) (c : UInt8), (m.flatMap LQ ++ 93 :: s).head? = some c → VV c = false := by
   intro m s c hc
   cases m with
   | nil => simp at hc; subst hc; rfl
   | cons a m => simp [LQ] at hc; subst hc; rfl
  obtain ⟨h1, h2⟩ := KZ (hd _ _) (hd _ _) h
  obtain ⟨h3, h4⟩ := P4 h2
  obtain ⟨h5, h6⟩ := Qo hr hr' h4
  obtain ⟨c, vs⟩ := v
  obtain ⟨c', vs'⟩ := v'
  simp only at h1 h3
  exact ⟨by rw [h1, h3, h5], h6⟩
theorem VT {n n' : ByteArray} {r r' : List UInt8} (hn : ∀ c ∈ n.data.toList, c ≠ 34) (hn' : ∀ c ∈ n'.data.toList, c ≠ 34) (h : HH n ++ r = HH n' ++ r') : n = n' ∧ r = r' := by
 simp only [HH, List.cons_append, List.append_assoc, List.cons.injEq, true_and, List.nil_append] at h
 obtain ⟨h1, h2⟩ := O5 (p := fun c => c != 34) (fun c hc => by simpa using hn c hc) (fun c hc => by simpa using hn' c hc) Ax Ax h
 simp only [List.cons.injEq, true_and] at h2
 obtain ⟨⟨l⟩⟩ := n
 obtain ⟨⟨l'⟩⟩ := n'
 simp only at h1
 exact ⟨by rw [h1], h2⟩
theorem OS : ∀ (ts : List Tm) (s : List UInt8) (c : UInt8), (Ew ts ++ 41 :: s).head? = some c → c ≠ 91
 | [], s, c, h => by simp [Ew] at h; subst h; decide
 | .mk k i n l ks :: ts, s, c, h => by simp [Ew, Jv] at h; subst h; decide
mutual
theorem key_inj : ∀ {t u : Tm} {r r' : List UInt8}, OA t → OA u → Jv t ++ r = Jv u ++ r' → t = u ∧ r = r'
 | .mk k i n l ks, .mk k' i' n' l' ks', r, r', ht, hu, h => by
  simp only [Jv, List.cons_append, List.append_assoc, List.cons.injEq, true_and, List.nil_append] at h
  obtain ⟨h1, h2⟩ := KZ (by simp [VV]) (by simp [VV]) h
  simp only [List.cons.injEq, true_and] at h2
  obtain ⟨h3, h4⟩ := KZ (by simp [VV]) (by simp [VV]) h2
  simp only [List.cons.injEq, true_and] at h4
  obtain ⟨h5, h6⟩ := VT (fun c hc => (ht.1 c hc).1) (fun c hc => (hu.1 c hc).1) h4
  obtain ⟨h7, h8⟩ := Qo (OS _ _) (OS _ _) h6
  obtain ⟨h9, h10⟩ := Sf ht.2 hu.2 h8
  exact ⟨by rw [h1, h3, h5, h7, h9], h10⟩
theorem Sf : ∀ {ts us : List Tm} {r r' : List UInt8}, Po ts → Po us → Ew ts ++ 41 :: r = Ew us ++ 41 :: r' → ts = us ∧ r = r'
 | [], [], r, r', _, _, h => by simpa [Ew] using h
 | [], .mk k i n l ks :: us, r, r', _, _, h => by simp [Ew, Jv] at h
 | .mk k i n l ks :: ts, [], r, r', _, _, h => by simp [Ew, Jv] at h
 | t :: ts, u :: us, r, r', ht, hu, h => by
  simp only [Ew, List.append_assoc] at h
  obtain ⟨h1, h2⟩ := key_inj ht.1 hu.1 h
  obtain ⟨h3, h4⟩ := Sf ht.2 hu.2 h2
  exact ⟨by rw [h1, h3], h4⟩
end
theorem WM {t u : Tm} (ht : OA t) (hu : OA u) (h : Jv t = Jv u) : t = u := (key_inj (r := []) (r' := []) ht hu (by rw [h])).1
def Ds (t : Tm) (n : ByteArray) : Bool := t.kind == 3 && t.name.toList == n.toList && (t.levels.length : Int) == 0
def DU (th : BY) (t : Tm) : Int × List Tm :=
 if (Ds (CA t).1 th.add && ((CA t).2.length : Int) == 2) = true then (1, (CA t).2)
 else if (Ds (CA t).1 th.zero && ((CA t).2.length : Int) == 0) = true then (2, [])
 else if (Ds (CA t).1 th.neg && ((CA t).2.length : Int) == 1) = true then (3, (CA t).2)
 else (0, [])
def ic (th : BY) (t : Tm) : Bool :=
 !(Ds (CA t).1 th.add && ((CA t).2.length : Int) == 2 || Ds (CA t).1 th.zero && ((CA t).2.length : Int) == 0 || Ds (CA t).1 th.neg && ((CA t).2.length : Int) == 1)
structure HA where
 coefs : List Int
 atoms : List Tm
 all : Int
noncomputable def DA (l : List Tm) (t : Tm) : Nat := l.findIdx fun a => QJ a t
noncomputable def Hi (c : HA) (t : Tm) (s : Int) : HA :=
 if DA c.atoms t < c.atoms.length then ⟨c.coefs.set (DA c.atoms t) (wr (c.coefs.getD (DA c.atoms t) 0 + s)), c.atoms, wr (c.all + 1)⟩ else ⟨c.coefs ++ [s], c.atoms ++ [t], wr (c.all + 1)⟩
noncomputable def CX (th : BY) : Nat → HA → Tm → Int → HA
 | 0, c, _, _ => c
 | n + 1, c, t, s =>
  if c.all > 200 then c
  else if (DU th t).1 = 1 then CX th n (CX th n c ((DU th t).2.getD 0 Be) s) ((DU th t).2.getD 1 Be) s
  else if (DU th t).1 = 2 then c
  else if (DU th t).1 = 3 then CX th n c ((DU th t).2.getD 0 Be) (wr (-s))
  else Hi c t s
structure Ij (c : HA) : Prop where
 len : c.coefs.length = c.atoms.length
 lo : (c.atoms.length : Int) ≤ c.all
 hi : c.all ≤ 201
theorem YI {c : HA} {t : Tm} {s : Int} (h : Ij c) (ha : c.all ≤ 200) : Ij (Hi c t s) := by
 obtain ⟨h1, h2, h3⟩ := h
 have hw : wr (c.all + 1) = c.all + 1 := I3 (by constructor <;> omega)
 unfold Hi
 split
 ·exact ⟨by simpa using h1, by simp only [hw]; omega, by simp only [hw]; omega⟩
 exact ⟨by simp [h1], by simp only [hw, List.length_append, List.length_cons, List.length_nil]; omega, by simp only [hw]; omega⟩
theorem En {th : BY} : ∀ (n : Nat) (c : HA) (t : Tm) (s : Int), Ij c → Ij (CX th n c t s)
 | 0, c, t, s, h => h
 | n + 1, c, t, s, h => by
  unfold CX
  split
  ·exact h
  split
  ·exact En n _ _ _ (En n _ _ _ h)
  split
  ·exact h
  split
  ·exact En n _ _ _ h
  exact YI h Aw
theorem Ho {th : BY} {t : Tm} : (DU th t).1 ≠ 0 → (DU th t).1 ≠ 2 → (DU th t).2 = (CA t).2 := by
 unfold DU
 split
 ·intros; rfl
 split
 ·intro _ h; exact absurd rfl h
 split
 ·intros; rfl
 intro h; exact absurd rfl h
theorem HU {th : BY} {t : Tm} : ((DU th t).1 = 1 → (DU th t).2.length = 2) ∧ ((DU th t).1 = 3 → (DU th t).2.length = 1) := by
 unfold DU
 split
 ·rename_i h; simp at h; simp; omega
 split
 ·simp
 split
 ·rename_i h; simp at h; simp; omega
 simp
end Go.Eu
namespace Go.Proofs.YtapmjpihennhaaaGreatDoor
open Go.Abs Go.Eu
theorem On : ∀ (t : Tm) (n : ByteArray), IA Tryz.prog 56 [.agg ((Bu t).map .p), .p (.str n)] (.p (.bool (Ds t n))) := by
 intro t n
 obtain ⟨tk, ti, tn, tl, ts⟩ := t
 refine BH Tryz.func56 Ay gk (n := 20) Ay Ay (A2 (A0 (BP Ay Ay (Bj Ay) fun b2 => Az Ay Ay (A4 Ay) (A5 Ay (A2 (Bx [] 4 (fun y => y = .p (.bool ((((tk : Int) == (3 : Int)) && (tn.toList == n.toList)) && (((tl.length : Nat) : Int) == (0 : Int))))) ?_ ?_))))))
 ·refine A0 (Az Ay Ay (A3 CV Ay Ay) (Az Ay Ay (A9 (i := 0) C9 Ay Ay Ay) (Az Ay Ay (BE Ay Ay Ay) (Az Ay Ay (A1 Ay) (Br 8 Ay (fun g => ?_) (fun g => ?_))))))
  ·(try simp only [sd, se] at g)
   refine A6 Ay Ay Ay Ay (A3 CV Ay Ay) (A6 Ay Ay Ay Ay (A9 (i := 0) Ev Ay Ay Ay) (A6 Ay Ay Ay Ay (A1 Ay) (A6 Ay Ay Ay Ay (F6 Ay Ay) (Az Ay Ay (BC Ay Ay) (Az Ay Ay (A1 Ay) (Br 14 Ay (fun g1 => ?_) (fun g1 => ?_)))))))
   ·(try simp only [sd, se] at g1)
    exact A6 Ay Ay Ay Ay (A3 CV Ay Ay) (A6 Ay Ay Ay Ay (A9 (i := 0) Ja Ay Ay Ay) (A6 Ay Ay Ay Ay (Bo IC Ay (List.length_map _)) (A6 Ay Ay Ay Ay (BE Ay Ay Ay) (Az Ay Ay (BC Ay Ay) (Az Ay Ay (A4 Ay) (A5 Ay ⟨Ay, Ay, AK, AJ, trivial⟩))))))
   (try simp only [sd, se] at g1)
   exact A7 Ay Ay Ay Ay Ay (A7 Ay Ay Ay Ay Ay (A7 Ay Ay Ay Ay Ay (A7 Ay Ay Ay Ay Ay (Az Ay Ay (BC Ay Ay) (Az Ay Ay (A4 Ay) (A5 Ay ⟨Ay, Ay, AK, AJ, trivial⟩))))))
  (try simp only [sd, se] at g)
  exact A7 Ay Ay Ay Ay Ay (A7 Ay Ay Ay Ay Ay (A7 Ay Ay Ay Ay Ay (A7 Ay Ay Ay Ay Ay (Az Ay Ay (BC Ay Ay) (Az Ay Ay (A1 Ay) (A7 Ay Ay Ay Ay Ay (A7 Ay Ay Ay Ay Ay (A7 Ay Ay Ay Ay Ay (A7 Ay Ay Ay Ay Ay (Az Ay Ay (BC Ay Ay) (Az Ay Ay (A4 Ay) (A5 Ay ⟨Ay, Ay, AK, AJ, trivial⟩))))))))))))
 rintro _ rfl
 refine BF (⟨Ay, _, _, ⟨_, _, Ay, Ay, Ay⟩, nS, ?_⟩)
 all_goals exact ⟨rfl, rfl⟩
theorem Ot : ∀ (t : Tm) (n : ByteArray), IA Tryz.prog 117 [.agg ((Bu t).map .p), .p (.str n)] (.p (.bool (Ds t n))) := by
 intro t n
 obtain ⟨tk, ti, tn, tl, ts⟩ := t
 refine BH Tryz.func117 Ay bh (n := 20) Ay Ay (A2 (A0 (BP Ay Ay (Bj Ay) fun b2 => Az Ay Ay (A4 Ay) (A5 Ay (A2 (Bx [] 4 (fun y => y = .p (.bool ((((tk : Int) == (3 : Int)) && (tn.toList == n.toList)) && (((tl.length : Nat) : Int) == (0 : Int))))) ?_ ?_))))))
 ·refine A0 (Az Ay Ay (A3 CV Ay Ay) (Az Ay Ay (A9 (i := 0) C9 Ay Ay Ay) (Az Ay Ay (BE Ay Ay Ay) (Az Ay Ay (A1 Ay) (Br 8 Ay (fun g => ?_) (fun g => ?_))))))
  ·(try simp only [sd, se] at g)
   refine A6 Ay Ay Ay Ay (A3 CV Ay Ay) (A6 Ay Ay Ay Ay (A9 (i := 0) Ev Ay Ay Ay) (A6 Ay Ay Ay Ay (A1 Ay) (A6 Ay Ay Ay Ay (F6 Ay Ay) (Az Ay Ay (BC Ay Ay) (Az Ay Ay (A1 Ay) (Br 14 Ay (fun g1 => ?_) (fun g1 => ?_)))))))
   ·(try simp only [sd, se] at g1)
    exact A6 Ay Ay Ay Ay (A3 CV Ay Ay) (A6 Ay Ay Ay Ay (A9 (i := 0) Ja Ay Ay Ay) (A6 Ay Ay Ay Ay (Bo IC Ay (List.length_map _)) (A6 Ay Ay Ay Ay (BE Ay Ay Ay) (Az Ay Ay (BC Ay Ay) (Az Ay Ay (A4 Ay) (A5 Ay ⟨Ay, Ay, AK, AJ, trivial⟩))))))
   (try simp only [sd, se] at g1)
   exact A7 Ay Ay Ay Ay Ay (A7 Ay Ay Ay Ay Ay (A7 Ay Ay Ay Ay Ay (A7 Ay Ay Ay Ay Ay (Az Ay Ay (BC Ay Ay) (Az Ay Ay (A4 Ay) (A5 Ay ⟨Ay, Ay, AK, AJ, trivial⟩))))))
  (try simp only [sd, se] at g)
  exact A7 Ay Ay Ay Ay Ay (A7 Ay Ay Ay Ay Ay (A7 Ay Ay Ay Ay Ay (A7 Ay Ay Ay Ay Ay (Az Ay Ay (BC Ay Ay) (Az Ay Ay (A1 Ay) (A7 Ay Ay Ay Ay Ay (A7 Ay Ay Ay Ay Ay (A7 Ay Ay Ay Ay Ay (A7 Ay Ay Ay Ay Ay (Az Ay Ay (BC Ay Ay) (Az Ay Ay (A4 Ay) (A5 Ay ⟨Ay, Ay, AK, AJ, trivial⟩))))))))))))
 rintro _ rfl
 refine BF (⟨Ay, _, _, ⟨_, _, Ay, Ay, Ay⟩, nS, ?_⟩)
 all_goals exact ⟨rfl, rfl⟩
theorem ZM : ∀ (th : BY) (t : Tm), (Nd t) → (size t < 1000000) → IA Tryz.prog 79 [.agg ((Ei th).map .p), .agg ((Bu t).map .p)] (.tup [.p (I ((DU th t).1)), .p (.lst (Bg ((DU th t).2)))]) := by
 intro th t h1 h2
 obtain ⟨BQ, BK, BL, BM, BS, BR, thm⟩ := th
 refine BH Tryz.func79 Ay fA (n := 45) Ay Ay (A2 (A0 (BP Ay Ay (Bj Ay) fun b2 => BP Ay Ay (Bj Ay) fun b3 => Az Ay Ay (A4 Ay) (Az Ay Ay (A4 Ay) (A5 Ay (A2 (A0 (Az Ay Ay (A8 (i := 0) BU Ay Ay Am) (Az Ay Ay (Bp Ay Ay (Vv t h1 Ah) Ay) (Az Ay Ay (A1 Ay) (Az Ay Ay (Bi Ay Ay) (Az Ay Ay (Bi Ay Ay) (BP Ay Ay (BN B8 Ay) fun b6 => Az Ay Ay (BB (i := 0) BU Ay Ay Ay Am Ac (CN _)) (Az Ay Ay (A4 Ay) (A5 Ay (A2 (BT (A2 (Bx [2, 6, 7] 13 (fun y => y = .p (.bool ((Ds ((CA t).1) BK) && (((((CA t).2).length : Nat) : Int) == (2 : Int))))) ?_ ?_)))))))))))))))))))
 ·refine A0 (Az Ay Ay (A8 (i := 0) BU Ay Ay Am) (Az Ay Ay (A3 Dy Ay Ay) (Az Ay Ay (A9 (i := 2) Ev Ay Ay Ay) (Az Ay Ay (Bp Ay Ay (Ot ((CA t).1) BK) Ay) (Az Ay Ay (A1 Ay) (Br 18 Ay (fun g => ?_) (fun g => ?_)))))))
  ·(try simp only [sd, se] at g)
   exact A6 Ay Ay Ay Ay (A1 Ay) (A6 Ay Ay Ay Ay (Bo CL Ay (B5 _)) (A6 Ay Ay Ay Ay (BE Ay Ay Ay) (Az Ay Ay (BC Ay Ay) (Az Ay Ay (A4 Ay) (A5 Ay (⟨Ay, Ay, AK, AJ, ⟨Ay, Ay, Ay, trivial⟩⟩))))))
  (try simp only [sd, se] at g)
  exact A7 Ay Ay Ay Ay Ay (A7 Ay Ay Ay Ay Ay (A7 Ay Ay Ay Ay Ay (Az Ay Ay (BC Ay Ay) (Az Ay Ay (A4 Ay) (A5 Ay (⟨Ay, Ay, AK, AJ, ⟨Ay, Ay, Ay, trivial⟩⟩))))))
 rintro _ rfl
 refine BD Ay (fun c => ?_) (fun c => ?_)
 ·have cR := c
  (try simp only [sd, se] at c)
  refine A2 (A0 (Az Ay Ay (A1 Ay) (Az Ay Ay (A4 Ay) (Az Ay Ay (A4 Ay) (A5 Ay (BF (⟨Ay, _, _, ⟨_, _, Ay, Ay, ⟨_, _, Ay, Ay, Ay⟩⟩, nS, ?_⟩)))))))
  simp only [DU]; rw [if_pos cR]
  all_goals exact ⟨rfl, rfl⟩
 have cR := c
 (try simp only [sd, se] at c)
 refine A2 (Bx [2, 6, 7] 24 (fun y => y = .p (.bool ((Ds ((CA t).1) BL) && (((((CA t).2).length : Nat) : Int) == (0 : Int))))) ?_ ?_)
 ·refine A0 (Az Ay Ay (A8 (i := 0) BU Ay Ay Am) (Az Ay Ay (A3 Dy Ay Ay) (Az Ay Ay (A9 (i := 2) Ev Ay Ay Ay) (Az Ay Ay (Bp Ay Ay (Ot ((CA t).1) BL) Ay) (Az Ay Ay (A1 Ay) (Br 29 Ay (fun g => ?_) (fun g => ?_)))))))
  ·(try simp only [sd, se] at g)
   exact A6 Ay Ay Ay Ay (A1 Ay) (A6 Ay Ay Ay Ay (Bo CL Ay (B5 _)) (A6 Ay Ay Ay Ay (BE Ay Ay Ay) (Az Ay Ay (BC Ay Ay) (Az Ay Ay (A4 Ay) (A5 Ay (⟨Ay, Ay, AK, AJ, ⟨Ay, Ay, Ay, trivial⟩⟩))))))
  (try simp only [sd, se] at g)
  exact A7 Ay Ay Ay Ay Ay (A7 Ay Ay Ay Ay Ay (A7 Ay Ay Ay Ay Ay (Az Ay Ay (BC Ay Ay) (Az Ay Ay (A4 Ay) (A5 Ay (⟨Ay, Ay, AK, AJ, ⟨Ay, Ay, Ay, trivial⟩⟩))))))
 rintro _ rfl
 refine BD Ay (fun c1 => ?_) (fun c1 => ?_)
 ·have c1R := c1
  (try simp only [sd, se] at c1)
  refine A2 (A0 (Az Ay Ay (A4 Ay) (Az Ay Ay (A4 Ay) (A5 Ay (B2 (El 5) (BF (⟨Ay, _, _, ⟨_, _, Ay, Ay, ⟨_, _, Ay, Ay, Ay⟩⟩, nS, ?_⟩)))))))
  simp only [DU]; rw [if_neg (by rw [cR]; decide), if_pos c1R]
  all_goals exact ⟨rfl, rfl⟩
 have c1R := c1
 (try simp only [sd, se] at c1)
 refine A2 (Bx [7] 34 (fun y => y = .p (.bool ((Ds ((CA t).1) BM) && (((((CA t).2).length : Nat) : Int) == (1 : Int))))) ?_ ?_)
 ·refine A0 (Az Ay Ay (A8 (i := 0) BU Ay Ay Am) (Az Ay Ay (A3 Dy Ay Ay) (Az Ay Ay (A9 (i := 2) Ev Ay Ay Ay) (Az Ay Ay (Bp Ay Ay (Ot ((CA t).1) BM) Ay) (Az Ay Ay (A1 Ay) (Br 39 Ay (fun g => ?_) (fun g => ?_)))))))
  ·(try simp only [sd, se] at g)
   exact A6 Ay Ay Ay Ay (A1 Ay) (A6 Ay Ay Ay Ay (Bo CL Ay (B5 _)) (A6 Ay Ay Ay Ay (BE Ay Ay Ay) (Az Ay Ay (BC Ay Ay) (Az Ay Ay (A4 Ay) (A5 Ay (⟨Ay, Ay, AK, AJ, ⟨Ay, trivial⟩⟩))))))
  (try simp only [sd, se] at g)
  exact A7 Ay Ay Ay Ay Ay (A7 Ay Ay Ay Ay Ay (A7 Ay Ay Ay Ay Ay (Az Ay Ay (BC Ay Ay) (Az Ay Ay (A4 Ay) (A5 Ay (⟨Ay, Ay, AK, AJ, ⟨Ay, trivial⟩⟩))))))
 rintro _ rfl
 refine BD Ay (fun c2 => ?_) (fun c2 => ?_)
 ·have c2R := c2
  (try simp only [sd, se] at c2)
  refine A2 (A0 (Az Ay Ay (A1 Ay) (Az Ay Ay (A4 Ay) (Az Ay Ay (A4 Ay) (A5 Ay (BF (⟨Ay, _, _, ⟨_, _, Ay, Ay, ⟨_, _, Ay, Ay, Ay⟩⟩, nS, ?_⟩)))))))
  simp only [DU]; rw [if_neg (by rw [cR]; decide), if_neg (by rw [c1R]; decide), if_pos c2R]
  all_goals exact ⟨rfl, rfl⟩
 have c2R := c2
 (try simp only [sd, se] at c2)
 refine BG (A2 (A0 (Az Ay Ay (A4 Ay) (Az Ay Ay (A4 Ay) (A5 Ay (B2 (El 5) (BF (⟨Ay, _, _, ⟨_, _, Ay, Ay, ⟨_, _, Ay, Ay, Ay⟩⟩, nS, ?_⟩))))))))
 simp only [DU]; rw [if_neg (by rw [cR]; decide), if_neg (by rw [c1R]; decide), if_neg (by rw [c2R]; decide)]
 all_goals exact ⟨rfl, rfl⟩
end Go.Proofs.YtapmjpihennhaaaGreatDoor
namespace Go.Eu
open Go.Abs
def Bh (n : ByteArray) (l : List Tm) : Tm := apply (.mk 3 0 n [] []) l
def Ic (th : BY) (x : Tm) : Nat → Tm → Tm
 | 0, o => o
 | k + 1, o => Bh th.add [x, Ic th x k o]
def Mp (th : BY) (n : Int) (x : Tm) : Tm := if n < 0 then Bh th.neg [x] else x
def It (th : BY) : List Int → List Tm → Tm
 | n :: cs, x :: ays => Ic th (Mp th n x) n.natAbs (It th cs ays)
 | _, _ => Bh th.zero []
def RH : Int → List Int → Bool
 | _, [] => true
 | a, n :: l => if n < -200 ∨ n > 200 then false else if a + max n (-n) > 200 then false else RH (a + max n (-n)) l
def HS (th : BY) (cs : List Int) (ays : List Tm) : Tm := if cs.length = ays.length ∧ RH 0 cs = true then It th cs ays else Be
theorem VJ {th : BY} {cs : List Int} {ays : List Tm} {i : Nat} {n : Int} {x : Tm} (h1 : cs[i]? = some n) (h2 : ays[i]? = some x) : It th (cs.drop i) (ays.drop i) = Ic th (Mp th n x) n.natAbs (It th (cs.drop (i + 1)) (ays.drop (i + 1))) := by
 rw [EI h1, EI h2, It]
theorem Rr {th : BY} {cs : List Int} {ays : List Tm} {i : Nat} (h : cs.length ≤ i) : It th (cs.drop i) (ays.drop i) = Bh th.zero [] := by
 rw [List.drop_eq_nil_of_le h]; simp [It]
theorem Q9 {a : Int} {cs : List Int} {i : Nat} {n : Int} (h : cs[i]? = some n) : RH a (cs.drop i) = (if n < -200 ∨ n > 200 then false else if a + max n (-n) > 200 then false else RH (a + max n (-n)) (cs.drop (i + 1))) := by
 rw [EI h, RH]
theorem OV {a : Int} {cs : List Int} {i : Nat} (h : i < cs.length) : RH a (cs.drop i) = (if cs.getD i 0 < -200 ∨ cs.getD i 0 > 200 then false else if a + max (cs.getD i 0) (-(cs.getD i 0)) > 200 then false else RH (a + max (cs.getD i 0) (-(cs.getD i 0))) (cs.drop (i + 1))) := by
 obtain ⟨n, hn⟩ : ∃ n, cs[i]? = some n := ⟨_, List.getElem?_eq_getElem h⟩
 rw [Q9 hn, DD hn]
theorem Qs {th : BY} {cs : List Int} {us : List Tm} {m : Nat} (h0 : 0 < m) (h : m ≤ cs.length) (h' : cs.length = us.length) : It th (cs.drop (m - 1)) (us.drop (m - 1)) = Ic th (Mp th (cs.getD (m - 1) 0) (us.getD (m - 1) Be)) (cs.getD (m - 1) 0).natAbs (It th (cs.drop m) (us.drop m)) := by
 obtain ⟨k, rfl⟩ : ∃ k, m = k + 1 := ⟨m - 1, by omega⟩
 simp only [Nat.add_sub_cancel]
 obtain ⟨n, hn⟩ : ∃ n, cs[k]? = some n := ⟨_, List.getElem?_eq_getElem Aw⟩
 obtain ⟨u, hu⟩ : ∃ n, us[k]? = some n := ⟨_, List.getElem?_eq_getElem Aw⟩
 rw [VJ hn hu, DD hn, DD hu]
theorem V6 {th : BY} {n : Int} {x o : Tm} : Ic th (Mp th n x) n.natAbs o = Ic th (Bh th.neg [x]) (-n).toNat (Ic th x n.toNat o) := by
 unfold Mp
 by_cases h : n < 0
 ·rw [if_pos h, show n.toNat = 0 by omega, show n.natAbs = (-n).toNat by omega]; rfl
 rw [if_neg h, show (-n).toNat = 0 by omega, show n.natAbs = n.toNat by omega]; rfl
theorem JZ {th : BY} {cs : List Int} {us : List Tm} (h : ¬ (cs.length = us.length ∧ RH 0 cs = true)) : HS th cs us = Be := if_neg h
theorem Qi {th : BY} {cs : List Int} {us : List Tm} (h : cs.length = us.length) (h' : RH 0 cs = true) : HS th cs us = It th cs us := if_pos ⟨h, h'⟩
theorem Rc : ∀ {l : List Int} {a : Int}, RH a l = true → ∀ n ∈ l, -200 ≤ n ∧ n ≤ 200
 | [], a, _, n, h => by simp at h
 | m :: l, a, h, n, hn => by
  unfold RH at h
  split at h
  ·cases h
  rename_i h1
  split at h
  ·cases h
  rcases List.mem_cons.1 hn with rfl | hn
  ·omega
  exact Rc h n hn
theorem R5 {l : List Int} (h : RH 0 l = true) (j : Nat) : -200 ≤ l.getD j 0 ∧ l.getD j 0 ≤ 200 := by
 cases e : l[j]? with
 | none => simp [List.getD, e]
 | some n => rw [DD e]; exact Rc h n (List.mem_of_getElem? e)
def Vu {σ : Type} (st : σ → Int → Int → σ) (xs : List Int) : Nat → σ → σ
 | 0, s => s
 | m + 1, s => Vu st xs m (st s m (xs.getD m 0))
theorem Vn {σ : Type} {st : σ → Int → Int → σ} {xs : List Int} {m j : Nat} {x : Int} {s : σ} (hx : xs[j]? = some x) (hm : m = j + 1) : Vu st xs (m - 1) (st s ((m : Int) - 1) x) = Vu st xs m s := by
 subst hm
 rw [Nat.add_sub_cancel, Vu, DD hx]
 congr 2
 omega
def Ua (th : BY) (us : List Tm) (s : Tm) (d n : Int) : Tm := Ic th (Mp th n (us.getD d.toNat Be)) n.natAbs s
theorem UT {th : BY} {cs : List Int} {us : List Tm} (h : cs.length = us.length) : ∀ (m : Nat), m ≤ cs.length → Vu (Ua th us) cs m (It th (cs.drop m) (us.drop m)) = It th cs us
 | 0, _ => by simp [Vu]
 | m + 1, hm => by
  have := Qs (th := th) (cs := cs) (us := us) (m := m + 1) Aw hm h
  simp only [Nat.add_sub_cancel] at this
  rw [Vu, ← UT h m Aw, this]
  rfl
theorem Ya {th : BY} {cs : List Int} {us : List Tm} (h : cs.length = us.length) : Vu (Ua th us) cs cs.length (Bh th.zero []) = It th cs us := by
 rw [← UT h cs.length (Nat.le_refl _), Rr (Nat.le_refl _)]
end Go.Eu
namespace Go.Eu
def Nz (c : Int) : Bool := (decide (c ≥ 97) && decide (c ≤ 122)) || (decide (c ≥ 65) && decide (c ≤ 90)) || c == 95
def J9 (c : UInt8) : Prop := Nz c.toNat = true ∨ c.toNat = 39 ∨ c.toNat = 46 ∨ (48 ≤ c.toNat ∧ c.toNat ≤ 57)
def RO (s : ByteArray) : Prop := ∀ c ∈ s.data.toList, J9 c
theorem a7 {c : UInt8} (h : J9 c) : UJ c := by
 have hr : 39 ≤ c.toNat ∧ c.toNat < 127 ∧ c.toNat ≠ 92 := by
  simp only [J9, Nz, Bool.or_eq_true, Bool.and_eq_true, decide_eq_true_eq, beq_iff_eq] at h
  omega
 refine ⟨fun e => ?_, fun e => ?_, by omega, by omega⟩ <;> subst e <;> simp at hr
theorem M4 {s : ByteArray} {i : Nat} {x : UInt8} (h : ∀ j, j < i → ∀ c, s.data.toList[j]? = some c → J9 c) (hx : s[i]? = some x) (hp : J9 x) : ∀ j, j < i + 1 → ∀ c, s.data.toList[j]? = some c → J9 c := by
 intro j hj c hc
 by_cases e : j = i
 ·subst e
  have h2 : s.data.toList[j]? = some x := by
   rw [Array.getElem?_toList]
   exact hx
  rw [h2] at hc
  cases hc
  exact hp
 exact h j Aw c hc
theorem W9 {s : ByteArray} (h : ∀ j, j < s.size → ∀ c, s.data.toList[j]? = some c → J9 c) : RO s := by
 intro c hc
 obtain ⟨j, hj⟩ := List.mem_iff_getElem?.1 hc
 exact h j (by have := (List.getElem?_eq_some_iff.1 hj).1; simpa using this) c hj
theorem UA : ∀ {ks : List Tm}, (∀ (j : Nat) (t : Tm), ks[j]? = some t → OA t) → Po ks
 | [], _ => trivial
 | t :: ts, h => ⟨h 0 t rfl, UA fun j t' ht => h (j + 1) t' (by simpa using ht)⟩
theorem X0 {n : ByteArray} (h : n.toList = []) : ∀ c ∈ n.data.toList, UJ c := by
 intro c hc
 rw [Em] at h
 rw [h] at hc
 simp at hc
theorem Xg {n : ByteArray} (h : RO n) : ∀ c ∈ n.data.toList, UJ c := fun c hc => a7 (h c hc)
end Go.Eu
namespace Go.Abs
section
variable {P : Program} {H : List Bc} {dst : Option Tmp} {ty : TypeId} {pos : String} {aft : Array Edge} {x y : Operand} {ρ : Operand → AV} {g : Option (Nat × Bool)}
end
section
variable {P : Program} {dst : Option Tmp} {ty : TypeId} {pos : String} {aft : Array Edge} {g : Option (Nat × Bool)} {ρ : Operand → AV} {H : List Bc} {x y z : Operand} {v : AV}
def E3 (s : ByteArray) : List (List PV) := s.data.toList.map fun b => [PV.int .u8 b.toNat]
theorem Hp (s : ByteArray) : (E3 s).length = s.size := by simp [E3]
theorem Px (s : ByteArray) : ∀ r ∈ E3 s, Dg 1 r := by
 intro r hr
 obtain ⟨b, _, rfl⟩ := List.mem_map.1 hr
 exact ⟨Ay, fun c hc => by simp at hc; subst hc; simp⟩
theorem KV {F : Nat → Prop} {w : World} {s : ByteArray} {rows : List (List PV)} {sz : Nat} {u : Value} (h : Cc F w (.p (.str s)) u) (hr : E3 s = rows) (hs : sz = 1) :
  ∃ us, u = .string s ∧ (Builtin.firstCells sz rows.length u).run P w = .ok ⟨us⟩ w ∧ us.length = rows.length * sz ∧ CF F w (rows.flatten.map .p) us := by
 subst hs
 subst hr
 simp only [Cc, Cg] at h
 subst h
 refine ⟨s.data.toList.map fun b => Value.int .u8 b.toNat, Ay, ?_, by simp [E3], ?_⟩
 ·rw [Hp]
  exact Go.Lib.run_firstCells_string (P := P) w 1 s
 unfold E3
 induction s.data.toList with
 | nil => simp [CF]
 | cons b l ih => simp only [List.map_cons, List.flatten_cons, List.map_append, List.map_nil, List.singleton_append, CF]; exact ⟨_, _, rfl, by simp [Cc, Cg], ih⟩
end
section
variable {P : Program} {dst : Option Tmp} {ty : TypeId} {pos : String} {aft : Array Edge} {g : Option (Nat × Bool)} {ρ : Operand → AV} {H : List Bc} {x y z : Operand} {v : AV}
theorem E6 {T U : TypeId} {n b o i : Nat} {cs : List AV} (hT : DY P T = some (false, n)) (hx : ρ x = .ptr b o) (hi : H[i]? = some (.boxT b U cs)) (hv : cs[o]? = some v) :
  Dw P ⟨dst, .load T x, ty, pos, aft, g⟩ ρ H v H :=
 Cd fun F w E hH hE => by
  obtain ⟨d, hu, hd, hz⟩ := E5 hT
  have h1 := hE x Ai
  rw [hx] at h1
  simp only [Cc] at h1
  obtain ⟨vs, hb, hl⟩ := hH.obj _ (List.mem_of_getElem? hi)
  obtain ⟨u, hu', hr⟩ := hl.get hv
  refine ⟨u, ?_, hr⟩
  simp only [execOp, Instr.loadAt, h1, Instr.sureAddr, Sem.run_bind, Sem.run_pure, Result.andThen_ok, FQ (w := w) hu hd (b := b) (o := o) (v := u) (by simp [World.cell?, hb, hu'])]
theorem Kb {T U : TypeId} {bl : Bool} {n b o i : Nat} {cs us : List AV} (hT : DY P T = some (bl, n + 1)) (hx : ρ x = .ptr b o) (hi : H[i]? = some (.boxT b U cs)) (hy : EJ (ρ y) = some us) (hn : us.length = n + 1)
  (ho : Nat.ble (o + (n + 1)) cs.length = true) (h1 : us.all one = true) : Dw P ⟨dst, .store T x y, ty, pos, aft, g⟩ ρ H (.p .any) (H.set i (.boxT b U (splice cs o us))) :=
 HW fun F w E hH hE => by
  have e1 := hE x Ai
  have e2 := hE y Ai
  rw [hx] at e1
  simp only [Cc] at e1
  obtain ⟨vs, hb, hl⟩ := hH.obj _ (List.mem_of_getElem? hi)
  obtain ⟨ws, hc, hl'⟩ := JM e2 hy
  have hlen := hl'.length
  have hw : GH b (.cells ⟨splice vs o ws⟩ U (0, 0)) w (w.setCells b o ws) := E4 ws hb (by intro e; rw [e] at hlen; simp at hlen; omega)
  have hlt : b < w.heap.size := (Array.getElem?_eq_some_iff.1 hb).1
  have hF : F b := hH.sub _ (List.mem_of_getElem? hi) b rfl
  refine ⟨w.setCells b o ws, _, F, ?_, ⟨Ay, Ay⟩, hw.trans hi Ay Ay, hw.HRel hH hi Ay Ay ?_⟩
  ·have hst := H4 (T := T) (v := E y) (o := o) hT hb hc Aw (by rw [hl.length]; simpa [Nat.ble_eq] using ho) (JW hl' h1)
   simp only [execOp, Instr.storeAt, e1, Instr.sureAddr, Sem.run_bind, Sem.run_pure, Result.andThen_ok, hst]
  exact ⟨splice vs o ws, hw.self hlt, CF.splice (CF.mono (hw.stable hF) _ _ hl) (CF.mono (hw.stable hF) _ _ hl')⟩
def Up (T : TypeId) (cs : List AV) (H : List Bc) : D1 → List Bc → Prop
 | .val v, H' => ∃ b, v = .ptr b 0 ∧ H' = .boxT b T cs :: H
 | .panic _, _ => False
theorem OM {T : TypeId} {z : Value} {cs : List AV} (hT : zeroOf P T = some z) (hc : z.cells.toList.map G7 = cs) : DZ P ⟨dst, .alloc T, ty, pos, aft, g⟩ ρ H (Up T cs H) :=
 Gq fun F w E hH hE => by
  have hl : CF F w cs z.cells.toList := by subst hc; exact GW _
  refine ⟨.pointer (some ⟨w.heap.size, 0, none⟩), _, .ptr w.heap.size 0, _, _, ?_, ⟨w.heap.size, Ay, Ay⟩, Ih H (.boxT w.heap.size T cs) _ (.inl Ay), JS hH (.boxT w.heap.size T cs) _ Ay ⟨z.cells.toList, Hw _, CF.mono (Fz _ fun b h => h) cs _ hl⟩, ?_⟩
  ·unfold zeroOf at hT
   cases hi : P.info? T with
   | none => simp [hi] at hT
   | some i =>
    have hz : i.zero = some z := by simpa [hi] using hT
    have hzv : (zeroValue T).run P w = .ok z w := by simp [zeroValue, typeInfo, hi, hz, Sem.run_bind]
    simp only [execOp, Instr.alloc, newVar, newRow, newObj, hzv, Sem.run_bind, Sem.run, Result.andThen, Sem.run_pure]
    rfl
  simp [Cc]
theorem Qw {src d t U : TypeId} {j : TypeInfo} {b o i : Nat} {cs : List AV} (hs : P.underlying src = some (.pointer t)) (hd : P.underlying d = some .unsafePointer) (ht : P.info? t = some j) (hj : (j.size == 0) = false) (hx : ρ x = .ptr b o) (hi : H[i]? = some (.boxT b U cs)) (ho : Nat.blt o cs.length = true) :
  Dw P ⟨dst, .convert src d x, ty, pos, aft, g⟩ ρ H (.ptr b o) H :=
 Cd fun F w E hH hE => by
  have h1 := hE x Ai
  rw [hx] at h1
  simp only [Cc] at h1
  obtain ⟨vs, hb, hl⟩ := hH.obj _ (List.mem_of_getElem? hi)
  refine ⟨.pointer (some ⟨b, o, none⟩), ?_, by simp [Cc]⟩
  have := Go.Lib.run_to_unsafe (P := P) w ⟨b, o, none⟩ hs hd ht (by simpa using hj) (e := U) (cells := vs.length) (by simp [World.shape?, hb]) (by rw [hl.length]; simpa [Nat.blt_eq] using ho)
  simp only [execOp, h1, Sem.run_bind, this, Result.andThen_ok, Sem.run_pure]
theorem Oy {src d U : TypeId} {j : TypeInfo} {b i : Nat} {cs : List AV} (hs : P.underlying src = some .unsafePointer) (hd : P.underlying d = some (.pointer U)) (ht : P.info? U = some j) (hlies : liesAt P P.depth U (cs.length / P.cellsOf U) 0 U 1 = true) (hx : ρ x = .ptr b 0) (hi : H[i]? = some (.boxT b U cs)) :
  Dw P ⟨dst, .convert src d x, ty, pos, aft, g⟩ ρ H (.ptr b 0) H :=
 Cd fun F w E hH hE => by
  have h1 := hE x Ai
  rw [hx] at h1
  simp only [Cc] at h1
  obtain ⟨vs, hb, hl⟩ := hH.obj _ (List.mem_of_getElem? hi)
  refine ⟨.pointer (some ⟨b, 0, none⟩), ?_, by simp [Cc]⟩
  have := Go.Lib.run_from_unsafe (P := P) w ⟨b, 0, none⟩ hs hd ht (e := U) (cells := vs.length) (by simp [World.shape?, hb]) (by rw [hl.length]; exact hlies)
  simp only [execOp, h1, Sem.run_bind, this, Result.andThen_ok, Sem.run_pure]
theorem O6 {n : Int} {T : TypeId} (hx : ρ x = .p (.int .i64 n)) : Dw P ⟨dst, .unOp .neg T x, ty, pos, aft, g⟩ ρ H (.p (.int .i64 (wr (0 - n)))) H :=
 Cd fun F w E hH hE => by
  have e1 := hE x Ai
  rw [hx] at e1
  simp only [Cc, Cg] at e1
  exact ⟨.int .i64 (wr (0 - n)), by simp [execOp, Sem.run_bind, e1, Op.unary, Op.intArith], by simp [Cc, Cg]⟩
theorem MY {n : Int} {T : TypeId} (hx : ρ x = .p (.int .i64 n)) (h1 : -9223372036854775808 ≤ -n) (h2 : -n ≤ 9223372036854775807) : Dw P ⟨dst, .unOp .neg T x, ty, pos, aft, g⟩ ρ H (.p (.int .i64 (-n))) H := by
 have h := O6 (P := P) (dst := dst) (ty := ty) (pos := pos) (aft := aft) (g := g) (H := H) (T := T) hx
 rwa [show wr (0 - n) = -n by rw [Int.zero_sub]; exact Rg (k := .i64) h1 h2] at h
end
end Go.Abs
namespace Go.Proofs.YtapmjpihennhaaaGreatDoor
open Go.Abs Go.Eu
theorem RZ : ∀ (n : ByteArray) (l : List Tm), (l.length < EB) → IA Tryz.prog 41 [.p (.str n), .p (.lst (Bg l))] (.agg ((Bu (Bh n l)).map .p)) := by
 intro n l h1
 refine BH Tryz.func41 Ay e6 (n := 9) Ay Ay (A2 (A0 (BP Ay Ay (BN B8 Ay) fun b4 => A5 Ay (A2 (A0 (Az Ay Ay (A1 Ay) (Az Ay Ay (Bv CV B8 Ay) (Az Ay Ay (A1 Ay) (Az Ay Ay (DJ Ay Ay (MG (.mk 3 0 n [] [] : Tm) l h1) (aw (Cs Ay) (aw (we Ay) (C7)))) (Az Ay Ay (BB (i := 0) BU Ay Ay Ay Am Ac (CN _)) (A5 Ay (BF (⟨Ay, _, _, ⟨_, _, Ay, (Bt (i := 0) BU Ay Ay Am), Ay⟩, nS, ?_⟩)))))))))))))
 all_goals exact ⟨rfl, rfl⟩
theorem Ep : ∀ (n : ByteArray) (l : List Tm), (l.length < EB) → IA Tryz.prog 39 [.p (.str n), .p (.lst (Bg l))] (.agg ((Bu (Bh n l)).map .p)) := by
 intro n l h1
 refine BH Tryz.func39 Ay iA (n := 9) Ay Ay (A2 (A0 (BP Ay Ay (BN B8 Ay) fun b4 => A5 Ay (A2 (A0 (Az Ay Ay (A1 Ay) (Az Ay Ay (Bv CV B8 Ay) (Az Ay Ay (A1 Ay) (Az Ay Ay (DJ Ay Ay (Me (.mk 3 0 n [] [] : Tm) l h1) (aw (Cs Ay) (aw (we Ay) (C7)))) (Az Ay Ay (BB (i := 0) BU Ay Ay Ay Am Ac (CN _)) (A5 Ay (BF (⟨Ay, _, _, ⟨_, _, Ay, (Bt (i := 0) BU Ay Ay Am), Ay⟩, nS, ?_⟩)))))))))))))
 all_goals exact ⟨rfl, rfl⟩
theorem _root_.Go.AO {α : Prop} (h : α := by simp only [List.length_cons, List.length_nil, EB]; omega) : α := h
theorem XE : ∀ (th : BY) (cs : List Int) (us : List Tm), (cs.length < EB) → IA Tryz.prog 14 [.agg ((Ei th).map .p), .p (.lst (List.map C0 cs)), .p (.lst (Bg us))] (.agg ((Bu (HS th cs us)).map .p)) := by
 intro th cs us h1
 simp only [EB] at h1
 obtain ⟨BQ, BK, BL, BM, BS, BR, thm⟩ := th
 refine BH Tryz.func14 Ay iL (n := 103) Ay Ay (A2 (A0 (BP Ay Ay (Bj Ay) fun b3 => BP Ay Ay (BN B8 Ay) fun b6 => A5 Ay (A2 (A2 (A0 (Az Ay Ay (A1 Ay) (Az Ay Ay (Bo GF Ay (List.length_map _)) (Az Ay Ay (A1 Ay) (Az Ay Ay (Bo CL Ay (B5 _)) (Az Ay Ay (BE Ay Ay Ay) (A5 Ay (BD Ay (fun c => ?_) (fun c => ?_))))))))))))))
 ·(try simp only [sd, se] at c)
  refine A2 (A0 (Az Ay Ay (Bv CV B8 Ay) (Az Ay Ay (Bm (i := 0) BU Ay Ay Ay Ay Ay Ay) (A5 Ay (B2 (Cv (i := 0) Ay) (BF (⟨Ay, _, _, ⟨_, _, Ay, (Bt (i := 0) BU Ay Ay Ay), Ay⟩, nS, ?_⟩)))))))
  rw [JZ (fun h => c Aw)]
  all_goals exact ⟨rfl, rfl⟩
 (try simp only [sd, se] at c)
 refine BG (A2 (A0 (Az Ay Ay (A4 Ay) (A5 Ay (A2 (A2 (A0 (Az Ay Ay (A4 Ay) (A5 Ay (BT ?_))))))))))
 refine B4 (α := Nat × Int) (fun (i, al) => ⟨103, mk [(1, .p (.lst (List.map C0 cs))), (2, .p (.lst (Bg us))), (3, .ptr b3 0), (6, .ptr b6 0), (7, .p (I al)), (8, .p (I (i : Int)))], [.box b6 [.p (I 0), .p (I 0), .p (.str ⟨#[]⟩), .p (.nils), .p (.nils)], .box b3 [.p (.str BQ), .p (.str BK), .p (.str BL), .p (.str BM), .p (.str BS), .p (.str BR), .p (.lst (List.map CZ thm))]], []⟩) (fun (i, al) => cs.length - i) (fun (i, al) => i ≤ cs.length ∧ (RH 0 cs = RH al (cs.drop i) ∧ 0 ≤ al ∧ al ≤ 200)) ⟨0, 0⟩ (⟨by omega, by simp, by omega, by omega⟩) ?_ ?_
 ·exact By ⟨we Ay, we Ay, we Ay, we Ay, we Ay, we Ay, trivial⟩ (leH (is := [0, 1]) Ay (wl (oe Ay) (wl (oe Ay) (Dc))))
 rintro ⟨i, al⟩ hC
 try simp only at hC
 obtain ⟨hi, hC, ha1, ha2⟩ := hC
 refine A2 (A2 (A0 (Az Ay Ay (A1 Ay) (Az Ay Ay (A1 Ay) (Az Ay Ay (Bo GF Ay (List.length_map _)) (Az Ay Ay (BE Ay Ay Ay) (A5 Ay (BD Ay (fun c1 => ?_) (fun c1 => ?_)))))))))
 ·(try simp only [sd, se] at c1)
  refine BG (A2 (BT (A2 (A2 (Bx [1, 2, 3, 6, 7, 8] 36 (fun y => y = .p (.bool (decide (cs.getD i 0 < -200) || decide (cs.getD i 0 > 200)))) ?_ ?_)))))
  ·refine A0 (Az Ay Ay (A1 Ay) (Az Ay Ay (A1 Ay) ?_))
   obtain ⟨x, hx⟩ := BO (l := cs) (i := i) Aw
   refine Az Ay Ay (BI GF Ay Ay Aw (E7 hx) (Ay)) (Az Ay Ay (CQ C9 Ay) (Az Ay Ay (BE Ay Ay Ay) (Az Ay Ay (A1 Ay) (Br 30 Ay (fun g => ?_) (fun g => ?_)))))
   ·(try simp only [sd, se] at g)
    refine A7 Ay Ay Ay Ay Ay (A7 Ay Ay Ay Ay Ay (A7 Ay Ay Ay Ay Ay (A7 Ay Ay Ay Ay Ay (A7 Ay Ay Ay Ay Ay (Az Ay Ay (BC Ay Ay) (A5 Ay ?_))))))
    exact ⟨rfl, rfl, AK, (by refine pB ?_; (first | rw [DD hx] | skip); simp_all <;> omega), ⟨rfl, rfl, rfl, rfl, rfl, rfl, trivial⟩⟩
   (try simp only [sd, se] at g)
   refine A6 Ay Ay Ay Ay (A1 Ay) (A6 Ay Ay Ay Ay (A1 Ay) (A6 Ay Ay Ay Ay (BI GF Ay Ay Aw (E7 hx) (Ay)) (A6 Ay Ay Ay Ay (CQ C9 Ay) (A6 Ay Ay Ay Ay (BE Ay Ay Ay) (Az Ay Ay (BC Ay Ay) (A5 Ay ?_))))))
   exact ⟨rfl, rfl, AK, (by refine pB ?_; (first | rw [DD hx] | skip); simp_all <;> omega), ⟨rfl, rfl, rfl, rfl, rfl, rfl, trivial⟩⟩
  rintro _ rfl
  refine BD Ay (fun c2 => ?_) (fun c2 => ?_)
  ·(try simp only [sd, se] at c2)
   refine A2 (A0 (Az Ay Ay (Bv CV B8 Ay) (Az Ay Ay (Bm (i := 0) BU Ay Ay Ay Ay Ay Ay) (A5 Ay (B2 (Cv (i := 0) Ay) (BF (⟨Ay, _, _, ⟨_, _, Ay, (Bt (i := 0) BU Ay Ay Ay), Ay⟩, nS, ?_⟩)))))))
   rw [JZ (by intro h; rw [hC, OV Aw, if_pos Aw] at h; cases h.2)]
   all_goals exact ⟨rfl, rfl⟩
  (try simp only [sd, se] at c2)
  refine BG (A2 (CW (fun k => false) ED (BA Ay Ay (fun _ => A1 Ay) trivial (BA Ay Ay (fun _ => A1 Ay) trivial (BA Ay Ay (fun _ => A1 Ay) trivial ?_)))))
  obtain ⟨x, hx⟩ := BO (l := cs) (i := i) Aw
  have hgx := DD (d := (0 : Int)) hx
  refine BA Ay Ay (fun _ => BI GF Ay Ay Aw (E7 hx) (Ay)) trivial (BA Ay Ay (fun _ => CQ C9 Ay) trivial (BA Ay Ay (fun _ => A1 Ay) trivial (BA Ay Ay (fun _ => A1 Ay) trivial (BA Ay Ay (fun _ => BI GF Ay Ay Aw (E7 hx) (Ay)) trivial (BA Ay Ay (fun _ => CQ C9 Ay) trivial (BA Ay Ay (fun _ => MY Ay Aw Aw) trivial (BA Ay Ay (fun _ => Jl Ay Ay) trivial (BA Ay Ay (fun _ => CH Ay Ay Aw Aw) trivial (BA Ay Ay (fun _ => A4 Ay) trivial (CP Ay Ar (A2 (A0 (Az Ay Ay (A1 Ay) (Az Ay Ay (BE Ay Ay Ay) (A5 Ay (BD Ay (fun c3 => ?_) (fun c3 => ?_)))))))))))))))))
  ·(try simp only [sd, se] at c3)
   refine A2 (A0 (Az Ay Ay (Bv CV B8 Ay) (Az Ay Ay (Bm (i := 0) BU Ay Ay Ay Ay Ay Ay) (A5 Ay (B2 (Cv (i := 0) Ay) (BF (⟨Ay, _, _, ⟨_, _, Ay, (Bt (i := 0) BU Ay Ay Ay), Ay⟩, nS, ?_⟩)))))))
   rw [JZ (by intro h; rw [hC, OV Aw, if_neg Aw, if_pos Aw] at h; cases h.2)]
   all_goals exact ⟨rfl, rfl⟩
  (try simp only [sd, se] at c3)
  refine BG (A0 (Az Ay Ay (A1 Ay) (Az Ay Ay (CH Ay Ay Aw Aw) (Az Ay Ay (A4 Ay) (A5 Ay ?_)))))
  refine ⟨⟨i + 1, al + max (cs.getD i 0) (-(cs.getD i 0))⟩, AZ, ⟨by omega, by rw [OV Aw, if_neg Aw, if_neg Aw] at hC; exact ⟨hC, by omega, by omega⟩⟩, By ⟨we rfl, we rfl, we rfl, we rfl, we (pI Aw), we rfl, trivial⟩ (leH (is := [0, 1]) rfl (wl (oe rfl) (wl (oe rfl) (Dc))))⟩
 (try simp only [sd, se] at c1)
 refine B7 (A2 (A0 (Az Ay Ay (A3 Dy Ay Ay) (Az Ay Ay (A9 (i := 1) Ev Ay Ay Ay) (Az Ay Ay (DJ Ay Ay (RZ BL [] AO) (aw (we Ay) (aw (Cs Ay) (C7)))) (BP Ay Ay (BN B8 Ay) fun b9 => Az Ay Ay (BB (i := 0) BU Ay Ay Ay Am Ac (CN _)) (A5 Ay (A2 (A2 (A0 (Az Ay Ay (A1 Ay) (Az Ay Ay (Bo GF Ay (List.length_map _)) (Az Ay Ay (FH Ay Ay Aw Aw) (Az Ay Ay (A4 Ay) (A5 Ay (BT ?_))))))))))))))))
 refine B4 (α := Nat) (fun m => ⟨103, mk [(1, .p (.lst (List.map C0 cs))), (2, .p (.lst (Bg us))), (3, .ptr b3 0), (6, .ptr b6 0), (9, .ptr b9 0), (10, .p (I ((m : Int) - 1)))], [.box b9 ((Bu (It (BY.mk BQ BK BL BM BS BR thm) (cs.drop m) (us.drop m))).map .p), .box b6 [.p (I 0), .p (I 0), .p (.str ⟨#[]⟩), .p (.nils), .p (.nils)], .box b3 [.p (.str BQ), .p (.str BK), .p (.str BL), .p (.str BM), .p (.str BS), .p (.str BR), .p (.lst (List.map CZ thm))]], []⟩) (fun m => m) (fun m => m ≤ cs.length) cs.length AS ?_ ?_
 ·exact By ⟨we Ay, we Ay, we Ay, we Ay, we Ay, we (pI Aw), trivial⟩ (leH (is := [0, 1, 2]) Ay (wl (ob (by rw [Rr (Nat.le_refl _)])) (wl (oe Ay) (wl (oe Ay) (Dc)))))
 rintro m hC1
 try simp only at hC1
 refine A2 (A2 (A0 (Az Ay Ay (A1 Ay) (Az Ay Ay (BE Ay Ay Ay) (A5 Ay (BD Ay (fun c2 => ?_) (fun c2 => ?_)))))))
 ·(try simp only [sd, se] at c2)
  refine BG (A2 (BT (A2 (A2 (A0 (Az Ay Ay (A4 Ay) (A5 Ay (BT (B4 (α := Nat) (fun k => ⟨103, mk [(1, .p (.lst (List.map C0 cs))), (2, .p (.lst (Bg us))), (3, .ptr b3 0), (6, .ptr b6 0), (9, .ptr b9 0), (10, .p (I ((m : Int) - 1))), (11, .p (I (k : Int)))], [.box b9 ((Bu (Ic (BY.mk BQ BK BL BM BS BR thm) (us.getD (m - 1) Be) k (It (BY.mk BQ BK BL BM BS BR thm) (cs.drop m) (us.drop m)))).map .p), .box b6 [.p (I 0), .p (I 0), .p (.str ⟨#[]⟩), .p (.nils), .p (.nils)], .box b3 [.p (.str BQ), .p (.str BK), .p (.str BL), .p (.str BM), .p (.str BS), .p (.str BR), .p (.lst (List.map CZ thm))]], []⟩) (fun k => (cs.getD (m - 1) 0).toNat - k) (fun k => (k : Int) ≤ max (cs.getD (m - 1) 0) 0) 0 Aw ?_ ?_)))))))))
  ·exact By ⟨we Ay, we Ay, we Ay, we Ay, we Ay, we Ay, we Ay, trivial⟩ (leH (is := [0, 1, 2]) Ay (wl (oe Ay) (wl (oe Ay) (wl (oe Ay) (Dc)))))
  rintro k hC2
  try simp only at hC2
  have hok : RH 0 cs = true := by rw [hC, show i = cs.length by omega, List.drop_length]; rfl
  have hrg := R5 hok (m - 1)
  refine A2 (A2 (A0 (Az Ay Ay (A1 Ay) (Az Ay Ay (A1 Ay) (Az Ay Ay (A1 Ay) ?_)))))
  obtain ⟨x, hx⟩ := BO (l := cs) (i := ((m : Int) - 1 : Int).toNat) Aw
  have hgx := DD (d := (0 : Int)) hx
  rw [show ((m : Int) - 1).toNat = m - 1 by omega] at hgx
  refine Az Ay Ay (BI GF Ay Ay Aw (E7 hx) (Ay)) (Az Ay Ay (CQ C9 Ay) (Az Ay Ay (BE Ay Ay Ay) (A5 Ay (BD Ay (fun c3 => ?_) (fun c3 => ?_)))))
  ·(try simp only [sd, se] at c3)
   refine BG (A2 (BT (CW (fun k => false) ED (BA Ay Ay (fun _ => A3 Dy Ay Ay) trivial (Ba (j := 2) Ay Ay Ay (fun H i hi => A9 (i := i) Ev Ay hi Ay) AA trivial (BA Ay Ay (fun _ => A1 Ay) trivial (BA Ay Ay (fun _ => A1 Ay) trivial ?_)))))))
   obtain ⟨x1, hx1⟩ := BO (l := us) (i := ((m : Int) - 1 : Int).toNat) Aw
   have hgy := DD (d := Be) hx1
   rw [show ((m : Int) - 1).toNat = m - 1 by omega] at hgy
   refine BA Ay Ay (fun _ => BI CL Ay Ay Aw (CU hx1) (Bd _)) trivial (BA Ay Ay (fun _ => Bq BU Ay (Bd _)) trivial (Ba (j := 0) Ay Ay Ay (fun H i hi => A8 (i := i) BU Ay hi Am) AA trivial ?_))
   obtain ⟨x1k, x1i, x1n, x1l, x1s⟩ := x1
   generalize hz : Ic (BY.mk BQ BK BL BM BS BR thm) (us.getD (m - 1) Be) k (It (BY.mk BQ BK BL BM BS BR thm) (cs.drop m) (us.drop m)) = z
   obtain ⟨zk, zi, zn, zl, zs⟩ := z
   refine BA Ay Ay (fun _ => CJ CL B8 Ay Ay Ay Ay Ay) trivial (BA Ay Ay (fun _ => Bp Ay Ay (RZ BK [(.mk x1k x1i x1n x1l x1s : Tm), (.mk zk zi zn zl zs : Tm)] AO) Ay) trivial (Cw Ay Ay (BB (i := 0) BU Ay Ay Ay Am Ac (CN _)) AA trivial (CP Ay Ar (A0 (Az Ay Ay (A1 Ay) (Az Ay Ay (CH Ay Ay Aw Aw) (Az Ay Ay (A4 Ay) (A5 Ay ?_))))))))
   refine ⟨(k + 1), AZ, by first | trivial | omega | (simp only; omega) | (simp; omega), By ⟨we rfl, we rfl, we rfl, we rfl, we rfl, we rfl, we rfl, trivial⟩ (leH (is := [0, 1, 2]) rfl (wl (ob (by rw [Ic, hz, hgy])) (wl (oe rfl) (wl (oe rfl) (Dc)))))⟩
  (try simp only [sd, se] at c3)
  refine B7 (A2 (A0 (Az Ay Ay (A4 Ay) (A5 Ay (BT (B4 (α := Nat) (fun q => ⟨103, mk [(1, .p (.lst (List.map C0 cs))), (2, .p (.lst (Bg us))), (3, .ptr b3 0), (6, .ptr b6 0), (9, .ptr b9 0), (10, .p (I ((m : Int) - 1))), (12, .p (I (q : Int)))], [.box b9 ((Bu (Ic (BY.mk BQ BK BL BM BS BR thm) (Bh BM [(us.getD (m - 1) Be)]) q (Ic (BY.mk BQ BK BL BM BS BR thm) (us.getD (m - 1) Be) (cs.getD (m - 1) 0).toNat (It (BY.mk BQ BK BL BM BS BR thm) (cs.drop m) (us.drop m))))).map .p), .box b6 [.p (I 0), .p (I 0), .p (.str ⟨#[]⟩), .p (.nils), .p (.nils)], .box b3 [.p (.str BQ), .p (.str BK), .p (.str BL), .p (.str BM), .p (.str BS), .p (.str BR), .p (.lst (List.map CZ thm))]], []⟩) (fun q => (-(cs.getD (m - 1) 0)).toNat - q) (fun q => (q : Int) ≤ max (-(cs.getD (m - 1) 0)) 0) 0 Aw ?_ ?_))))))
  ·exact By ⟨we Ay, we Ay, we Ay, we Ay, we Ay, we Ay, we Ay, trivial⟩ (leH (is := [0, 1, 2]) Ay (wl (ob (by rw [show k = (cs.getD (m - 1) 0).toNat by omega]; rfl)) (wl (oe Ay) (wl (oe Ay) (Dc)))))
  rintro q hC3
  try simp only at hC3
  have hok : RH 0 cs = true := by rw [hC, show i = cs.length by omega, List.drop_length]; rfl
  have hrg := R5 hok (m - 1)
  refine A2 (A2 (A0 (Az Ay Ay (A1 Ay) (Az Ay Ay (A1 Ay) (Az Ay Ay (A1 Ay) ?_)))))
  obtain ⟨x1, hx1⟩ := BO (l := cs) (i := ((m : Int) - 1 : Int).toNat) Aw
  have hgx := DD (d := (0 : Int)) hx1
  rw [show ((m : Int) - 1).toNat = m - 1 by omega] at hgx
  refine Az Ay Ay (BI GF Ay Ay Aw (E7 hx1) (Ay)) (Az Ay Ay (CQ C9 Ay) (Az Ay Ay (MY Ay Aw Aw) (Az Ay Ay (BE Ay Ay Ay) (A5 Ay (BD Ay (fun c4 => ?_) (fun c4 => ?_))))))
  ·(try simp only [sd, se] at c4)
   refine BG (A2 (BT (CW (fun k => false) ED (BA Ay Ay (fun _ => A3 Dy Ay Ay) trivial (Ba (j := 2) Ay Ay Ay (fun H i hi => A9 (i := i) Ev Ay hi Ay) AA trivial (BA Ay Ay (fun _ => A3 Dy Ay Ay) trivial (Ba (j := 2) Ay Ay Ay (fun H i hi => A9 (i := i) Ev Ay hi Ay) AA trivial (BA Ay Ay (fun _ => A1 Ay) trivial (BA Ay Ay (fun _ => A1 Ay) trivial ?_)))))))))
   obtain ⟨x2, hx2⟩ := BO (l := us) (i := ((m : Int) - 1 : Int).toNat) Aw
   have hgy := DD (d := Be) hx2
   rw [show ((m : Int) - 1).toNat = m - 1 by omega] at hgy
   refine BA Ay Ay (fun _ => BI CL Ay Ay Aw (CU hx2) (Bd _)) trivial (BA Ay Ay (fun _ => Bq BU Ay (Bd _)) trivial ?_)
   obtain ⟨x2k, x2i, x2n, x2l, x2s⟩ := x2
   refine BA Ay Ay (fun _ => CJ CL B8 Ay Ay Ay Ay Ay) trivial (BA Ay Ay (fun _ => Bp Ay Ay (RZ BM [(.mk x2k x2i x2n x2l x2s : Tm)] AO) Ay) trivial (Ba (j := 0) Ay Ay Ay (fun H i hi => A8 (i := i) BU Ay hi Am) AA trivial ?_))
   generalize hz : Bh BM [(.mk x2k x2i x2n x2l x2s : Tm)] = z
   obtain ⟨zk, zi, zn, zl, zs⟩ := z
   generalize hz1 : Ic (BY.mk BQ BK BL BM BS BR thm) (Bh BM [(us.getD (m - 1) Be)]) q (Ic (BY.mk BQ BK BL BM BS BR thm) (us.getD (m - 1) Be) (cs.getD (m - 1) 0).toNat (It (BY.mk BQ BK BL BM BS BR thm) (cs.drop m) (us.drop m))) = z1
   obtain ⟨z1k, z1i, z1n, z1l, z1s⟩ := z1
   refine BA Ay Ay (fun _ => CJ CL B8 Ay Ay Ay Ay Ay) trivial (BA Ay Ay (fun _ => Bp Ay Ay (RZ BK [(.mk zk zi zn zl zs : Tm), (.mk z1k z1i z1n z1l z1s : Tm)] AO) Ay) trivial (Cw Ay Ay (BB (i := 0) BU Ay Ay Ay Am Ac (CN _)) AA trivial (CP Ay Ar (A0 (Az Ay Ay (A1 Ay) (Az Ay Ay (CH Ay Ay Aw Aw) (Az Ay Ay (A4 Ay) (A5 Ay ?_))))))))
   refine ⟨(q + 1), AZ, by first | trivial | omega | (simp only; omega) | (simp; omega), By ⟨we rfl, we rfl, we rfl, we rfl, we rfl, we rfl, we rfl, trivial⟩ (leH (is := [0, 1, 2]) rfl (wl (ob (by rw [Ic, hz1, hgy, hz])) (wl (oe rfl) (wl (oe rfl) (Dc)))))⟩
  (try simp only [sd, se] at c4)
  refine B7 (A0 (Az Ay Ay (A1 Ay) (Az Ay Ay (FH Ay Ay Aw Aw) (Az Ay Ay (A4 Ay) (A5 Ay ?_)))))
  refine ⟨(m - 1), AZ, by first | trivial | omega | (simp only; omega) | (simp; omega), By ⟨we rfl, we rfl, we rfl, we rfl, we rfl, we (pI Aw), trivial⟩ (leH (is := [0, 1, 2]) rfl (wl (ob (by rw [Qs Aw Aw Aw, V6, show q = (-(cs.getD (m - 1) 0)).toNat by omega])) (wl (oe rfl) (wl (oe rfl) (Dc)))))⟩
 (try simp only [sd, se] at c2)
 refine B7 (A2 (A0 (Az Ay Ay (A8 (i := 0) BU Ay Ay Am) (Az Ay Ay (BB (i := 1) BU Ay Ay Ay Am Ac (CN _)) (A5 Ay (BF (⟨Ay, _, _, ⟨_, _, Ay, (Bt (i := 1) BU Ay Ay Am), Ay⟩, nS, ?_⟩)))))))
 rw [Qi Aw (by rw [hC, show i = cs.length by omega, List.drop_length]; rfl), show m = 0 by omega]
 all_goals exact ⟨rfl, rfl⟩
theorem Zz : ∀ {σ : Type} (st : σ → Int → Int → σ) (HP : σ → List Bc → Prop) (l b1 : Nat) (xs : List Int) (hy : ∀ s d n T, 0 ≤ d → xs[d.toNat]? = some n → HP s T → H6 Tryz.prog l [.p (I d), .p (I n)] T (Ht (.p (.bool true)) (HP (st s d n)))) (s : σ) (T0 : List Bc), xs.length < EB → HP s T0 → B1 Tryz.prog 71 [.fn (.yield l) [] [], .ptr b1 0] (.box b1 [.p (.lst (List.map C0 xs))] :: T0) (Ht (.tup []) (fun H => ∃ T, HP (Vu st xs xs.length s) T ∧ H = .box b1 [.p (.lst (List.map C0 xs))] :: T)) := by
 intro σ st HP l b1 xs hy s T0 h1 h2
 simp only [EB] at h1
 refine BH Tryz.func71 Ay fZ (n := 19) Ay Ay (A2 (A0 (Az Ay Ay (A9 (i := 0) PB Ay Ay Ay) (Az Ay Ay (Bo GF Ay (List.length_map _)) (Az Ay Ay (FH Ay Ay Aw Aw) (Az Ay Ay (A4 Ay) (A5 Ay (BT (B4 (α := Nat × σ × List Bc) (fun (m, q, U) => ⟨19, mk [(0, .fn (.yield l) [] []), (1, .ptr b1 0), (3, .p (I ((m : Int) - 1)))], (.box b1 [.p (.lst (List.map C0 xs))] :: U), []⟩) (fun (m, q, U) => m) (fun (m, q, U) => m ≤ xs.length ∧ Vu st xs m q = Vu st xs xs.length s ∧ HP q U) ⟨xs.length, s, T0⟩ (⟨by omega, rfl, h2⟩) ?_ ?_)))))))))
 ·exact By ⟨we Ay, we Ay, we Ay, trivial⟩ (Pg [0] [_] (l' := [_]) Ay (wl (oe Ay) (Dc)))
 rintro ⟨m, q, U⟩ hC
 try simp only at hC
 obtain ⟨hm, hB, hK⟩ := hC
 refine A2 (A2 (A0 (Az Ay Ay (A1 Ay) (Az Ay Ay (BE Ay Ay Ay) (A5 Ay (BD Ay (fun c => ?_) (fun c => ?_)))))))
 ·(try simp only [sd, se] at c)
  refine BG (A2 (BT (A2 (A0 (Az Ay Ay (A1 Ay) (Az Ay Ay (A1 Ay) (Az Ay Ay (A9 (i := 0) PB Ay Ay Ay) (Az Ay Ay (A1 Ay) ?_))))))))
  obtain ⟨x, hx⟩ := BO (l := xs) (i := ((m : Int) - 1 : Int).toNat) Aw
  refine Az Ay Ay (BI GF Ay Ay Aw (E7 hx) (Ay)) (Az Ay Ay (CQ C9 Ay) (Gf [_] Ay Ay Ay Ay (hy q _ _ _ Aw hx hK) Ay ?_ (fun _ _ h => h.elim)))
  rintro _ T ⟨rfl, hT⟩
  refine Az Ay Ay (Cp Ay) (A5 Ay ?_)
  refine BD Ay (fun c1 => by cases c1) (fun c1 => ?_)
  refine BG (A0 (Az Ay Ay (A1 Ay) (Az Ay Ay (FH Ay Ay Aw Aw) (Az Ay Ay (A4 Ay) (A5 Ay ?_)))))
  refine ⟨⟨m - 1, st q ((m : Int) - 1) x, T⟩, AZ, ⟨by omega, by rw [← hB]; exact Vn hx Aw, by assumption⟩, By ⟨we rfl, we rfl, we (pI Aw), trivial⟩ (Pg [0] [_] (l' := [_]) rfl (wl (oe rfl) (Dc)))⟩
 (try simp only [sd, se] at c)
 refine B7 ⟨Ay, _, _, Ay, (Fu [0] [_] Ay), ?_⟩
 rw [← hB, show m = 0 by omega]
 exact ⟨Ay, _, hK, Ay⟩
theorem eI : ∀ (xs : List Int), B1 Tryz.prog 40 [.p (.lst (List.map C0 xs))] [] (fun r H' => ∃ b, r = .val (.fn (.func 71) [] [.ptr b 0]) ∧ H' = [.box b [.p (.lst (List.map C0 xs))]]) := by
 intro xs
 refine BH Tryz.func40 Ay fg (n := 4) Ay Ay (A2 (A0 (BP Ay Ay (Bj Ay) fun b1 => Az Ay Ay (A4 Ay) (A5 Ay (A2 (A0 (Az Ay Ay (DQ Ay Ay) (Az Ay Ay (A4 Ay) (A5 Ay (BF (⟨Ay, _, _, ⟨_, _, Ay, Ay, Ay⟩, (C2 (is := [0]) Ay), ?_⟩)))))))))))
 exact ⟨_, Ay, Ay⟩
theorem Oa : ∀ (th : BY) (cs : List Int) (us : List Tm), (cs.length < EB) → IA Tryz.prog 13 [.agg ((Ei th).map .p), .p (.lst (List.map C0 cs)), .p (.lst (Bg us))] (.agg ((Bu (HS th cs us)).map .p)) := by
 intro th cs us h1
 simp only [EB] at h1
 obtain ⟨BQ, BK, BL, BM, BS, BR, thm⟩ := th
 refine Gv Tryz.func13 Ay gj (n := 75) Ay Ay (A2 (A0 (BP Ay Ay (Bj Ay) fun b3 => BP Ay Ay (Bj Ay) fun b5 => BP Ay Ay (BN B8 Ay) fun b6 => A5 Ay (A2 (A0 (Az Ay Ay (A4 Ay) (A5 Ay (A2 (A2 (A0 (Az Ay Ay (A1 Ay) (Az Ay Ay (Bo GF Ay (List.length_map _)) (Az Ay Ay (A1 Ay) (A5 Ay (BT ?_)))))))))))))))
 refine B4 (α := Nat × Int) (fun (i, al) => ⟨75, mk [(1, .p (.lst (List.map C0 cs))), (3, .ptr b3 0), (5, .ptr b5 0), (6, .ptr b6 0), (7, .p (I al)), (11, .p .any), (12, .p .any), (13, .p .any), (14, .p (.lst (List.map C0 cs))), (15, .p (I (cs.length : Nat))), (16, .p (I (i : Int))), (48, .p .any), (49, .p .any), (50, .p .any), (51, .p .any), (52, .p .any), (53, .p .any), (54, .p .any), (55, .p .any), (56, .p .any), (57, .p .any), (58, .p .any), (59, .p .any), (60, .p .any), (61, .p .any), (62, .p .any), (63, .p .any), (64, .p .any), (65, .p .any), (66, .p .any), (67, .p .any), (68, .p .any), (69, .p .any), (70, .p .any), (71, .p .any), (72, .p .any), (73, .p .any)], [.box b6 [.p (I 0), .p (I 0), .p (.str ⟨#[]⟩), .p (.nils), .p (.nils)], .box b5 [.p (.lst (Bg us))], .box b3 [.p (.str BQ), .p (.str BK), .p (.str BL), .p (.str BM), .p (.str BS), .p (.str BR), .p (.lst (List.map CZ thm))]], []⟩) (fun (i, al) => cs.length - i) (fun (i, al) => i ≤ cs.length ∧ (RH 0 cs = RH al (cs.drop i) ∧ 0 ≤ al ∧ al ≤ 200)) ⟨0, 0⟩ (⟨by omega, by simp, by omega, by omega⟩) ?_ ?_
 ·exact By ⟨we Ay, we Ay, we Ay, we Ay, we Ay, CK _, CK _, CK _, we Ay, we Ay, we Ay, CK _, CK _, CK _, CK _, CK _, CK _, CK _, CK _, CK _, CK _, CK _, CK _, CK _, CK _, CK _, CK _, CK _, CK _, CK _, CK _, CK _, CK _, CK _, CK _, CK _, CK _, trivial⟩ (leH (is := [0, 1, 2]) Ay (wl (oe Ay) (wl (oe Ay) (wl (oe Ay) (Dc)))))
 rintro ⟨i, al⟩ hC
 try simp only at hC
 obtain ⟨hi, hC, ha1, ha2⟩ := hC
 refine A2 (A0 (Az Ay Ay (BE Ay Ay Ay) (A5 Ay (A2 (BD Ay (fun c => ?_) (fun c => ?_))))))
 ·(try simp only [sd, se] at c)
  refine BG (A2 (BT (A2 (A0 ?_))))
  obtain ⟨x, hx⟩ := BO (l := cs) (i := i) Aw
  refine Az Ay Ay (BI GF Ay Ay Aw (E7 hx) (Ay)) (Az Ay Ay (CQ C9 Ay) (Az Ay Ay (A4 Ay) (A5 Ay (A2 (A2 (Bx [1, 3, 5, 6, 7, 9, 11, 12, 13, 14, 15, 16, 48, 49, 50, 51, 52, 53, 54, 55, 56, 57, 58, 59, 60, 61, 62, 63, 64, 65, 66, 67, 68, 69, 70, 71, 72, 73] 25 (fun y => y = .p (.bool ((decide ((x : Int) < (-200 : Int))) || (decide ((x : Int) > (200 : Int)))))) ?_ ?_))))))
  ·refine A0 (Az Ay Ay (A1 Ay) (Az Ay Ay (BE Ay Ay Ay) (Az Ay Ay (A1 Ay) (Br 22 Ay (fun g => ?_) (fun g => ?_)))))
   ·(try simp only [sd, se] at g)
    exact A7 Ay Ay Ay Ay Ay (A7 Ay Ay Ay Ay Ay (Az Ay Ay (BC Ay Ay) (A5 Ay (⟨Ay, Ay, AK, AJ, ⟨Ay, Ay, Ay, Ay, Ay, Ay, Ay, Ay, Ay, Ay, Ay, Ay, Ay, Ay, Ay, Ay, Ay, Ay, Ay, Ay, Ay, Ay, Ay, Ay, Ay, Ay, Ay, Ay, Ay, Ay, Ay, Ay, Ay, Ay, Ay, Ay, Ay, Ay, trivial⟩⟩))))
   (try simp only [sd, se] at g)
   exact A6 Ay Ay Ay Ay (A1 Ay) (A6 Ay Ay Ay Ay (BE Ay Ay Ay) (Az Ay Ay (BC Ay Ay) (A5 Ay (⟨Ay, Ay, AK, AJ, ⟨Ay, Ay, Ay, Ay, Ay, Ay, Ay, Ay, Ay, Ay, Ay, Ay, Ay, Ay, Ay, Ay, Ay, Ay, Ay, Ay, Ay, Ay, Ay, Ay, Ay, Ay, Ay, Ay, Ay, Ay, Ay, Ay, Ay, Ay, Ay, Ay, Ay, Ay, trivial⟩⟩))))
  rintro _ rfl
  refine BD Ay (fun c1 => ?_) (fun c1 => ?_)
  ·(try simp only [sd, se] at c1)
   refine A2 (A0 (Az Ay Ay (Bv CV B8 Ay) (Az Ay Ay (Bm (i := 0) BU Ay Ay Ay Ay Ay Ay) (A5 Ay (B2 (Cv (i := 0) Ay) (BF (⟨_, _, ⟨_, _, Ay, (Bt (i := 0) BU Ay Ay Ay), Ay⟩, nS, ?_⟩)))))))
   rw [JZ (by intro h; rw [hC, Q9 hx, if_pos Aw] at h; cases h.2)]
   all_goals exact ⟨rfl, rfl⟩
  (try simp only [sd, se] at c1)
  refine BG (A2 (A0 (Az Ay Ay (A1 Ay) (Az Ay Ay (A1 Ay) (Az Ay Ay (A1 Ay) (Az Ay Ay (MY Ay Aw Aw) (Az Ay Ay (Jl Ay Ay) (Az Ay Ay (CH Ay Ay Aw Aw) (Az Ay Ay (A4 Ay) (A5 Ay (A2 (A0 (Az Ay Ay (A1 Ay) (Az Ay Ay (BE Ay Ay Ay) (A5 Ay (BD Ay (fun c2 => ?_) (fun c2 => ?_)))))))))))))))))
  ·(try simp only [sd, se] at c2)
   refine A2 (A0 (Az Ay Ay (Bv CV B8 Ay) (Az Ay Ay (Bm (i := 0) BU Ay Ay Ay Ay Ay Ay) (A5 Ay (B2 (Cv (i := 0) Ay) (BF (⟨_, _, ⟨_, _, Ay, (Bt (i := 0) BU Ay Ay Ay), Ay⟩, nS, ?_⟩)))))))
   rw [JZ (by intro h; rw [hC, Q9 hx, if_neg Aw, if_pos Aw] at h; cases h.2)]
   all_goals exact ⟨rfl, rfl⟩
  (try simp only [sd, se] at c2)
  refine BG (A0 (Az Ay Ay (CH Ay Ay Aw Aw) (Az Ay Ay (A1 Ay) (A5 Ay ?_))))
  refine ⟨⟨i + 1, al + max x (-x)⟩, AZ, ⟨by omega, by rw [Q9 hx, if_neg Aw, if_neg Aw] at hC; exact ⟨hC, by omega, by omega⟩⟩, By ⟨we rfl, we rfl, we rfl, we rfl, we rfl, CK _, CK _, CK _, we rfl, we rfl, we rfl, CK _, CK _, CK _, CK _, CK _, CK _, CK _, CK _, CK _, CK _, CK _, CK _, CK _, CK _, CK _, CK _, CK _, CK _, CK _, CK _, CK _, CK _, CK _, CK _, CK _, CK _, trivial⟩ (leH (is := [0, 1, 2]) rfl (wl (oe rfl) (wl (oe rfl) (wl (oe rfl) (Dc)))))⟩
 (try simp only [sd, se] at c)
 refine B7 (A2 (A2 (A0 (Az Ay Ay (A1 Ay) (Az Ay Ay (Bo GF Ay (List.length_map _)) (Az Ay Ay (A9 (i := 1) DG Ay Ay Ay) (Az Ay Ay (Bo CL Ay (B5 _)) (Az Ay Ay (BE Ay Ay Ay) (A5 Ay (BD Ay (fun c1 => ?_) (fun c1 => ?_)))))))))))
 ·(try simp only [sd, se] at c1)
  refine A2 (A0 (Az Ay Ay (Bv CV B8 Ay) (Az Ay Ay (Bm (i := 0) BU Ay Ay Ay Ay Ay Ay) (A5 Ay (B2 (Cv (i := 0) Ay) (BF (⟨_, _, ⟨_, _, Ay, (Bt (i := 0) BU Ay Ay Ay), Ay⟩, nS, ?_⟩)))))))
  rw [JZ (fun h => absurd h.1 Aw)]
  all_goals exact ⟨rfl, rfl⟩
 (try simp only [sd, se] at c1)
 refine BG (A2 (A0 (Az Ay Ay (A3 Dy Ay Ay) (Az Ay Ay (A9 (i := 2) Ev Ay Ay Ay) (Az Ay Ay (DJ Ay Ay (Ep BL [] AO) (aw (we Ay) (aw (Cs Ay) (C7)))) (BP Ay Ay (BN B8 Ay) fun b10 => Az Ay Ay (BB (i := 0) BU Ay Ay Ay Am Ac (CN _)) (A5 Ay (A2 (A2 (A0 (Az Ay Ay (A1 Ay) ?_)))))))))))
 refine PA [] Ay Ay Ay (.inl ⟨Ay, Ay, Ay⟩) (eI cs) Ay Ax (aw (we Ay) C7) ?_ (fun _ _ ⟨_, h, _⟩ => by cases h)
 rintro _ _ ⟨bn, h, rfl⟩
 cases h
 refine A5 Ay (BT (J0 (.inr Ay) fun dd l L hL => ⟨_, _, DB (is := [2, 0, 6, 3, 5]) Av ⟨_, _, Ay, Ay, ⟨_, _, Ay, Ay, ⟨_, _, Ay, Ay, ⟨_, _, Ay, Ay, ⟨_, _, Ay, Ay, Ay⟩⟩⟩⟩⟩, ?_⟩))
 have hy : ∀ (s : Tm) (d : Int) (t : Int) (T : List Bc), 0 ≤ d → cs[d.toNat]? = some t → (fun (s : Tm) (T : List Bc) => T = [.loop l L, .box b3 [.p (.str BQ), .p (.str BK), .p (.str BL), .p (.str BM), .p (.str BS), .p (.str BR), .p (.lst (List.map CZ thm))], .box b10 ((Bu s).map .p), .box b5 [.p (.lst (Bg us))]]) s T → H6 Tryz.prog l [.p (I d), .p (I t)] T (Ht (.p (.bool true)) ((fun (s : Tm) (T : List Bc) => T = [.loop l L, .box b3 [.p (.str BQ), .p (.str BK), .p (.str BL), .p (.str BM), .p (.str BS), .p (.str BR), .p (.lst (List.map CZ thm))], .box b10 ((Bu s).map .p), .box b5 [.p (.lst (Bg us))]]) ((Ua (BY.mk BQ BK BL BM BS BR thm) us) s d t))) := by
  rintro s d tt T hd hxt rfl
  have hdl := (List.getElem?_eq_some_iff.1 hxt).1
  have hok : RH 0 cs = true := by rw [hC, show i = cs.length by omega, List.drop_length]; rfl
  have htt := Rc hok tt (List.mem_of_getElem? hxt)
  obtain ⟨LB, hLB⟩ : ∃ x, x = Bc.loop l { L with state := .busy } := ⟨_, rfl⟩
  subst hL
  refine LK (i := 0) Ay Ay Ay Ay (A2 (A0 (Az Ay Ay (A4 Ay) (A5 Ay (A0 (Az Ay Ay (A4 Ay) (A5 Ay ⟨Ay, 0, Ay, ?_⟩)))))))
  rw [← hLB]
  refine BT (A2 (A0 (Az Ay Ay (A9 (i := 3) DG Ay Ay Ay) (Az Ay Ay (A1 Ay) ?_))))
  obtain ⟨x, hx⟩ := BO (l := us) (i := (d : Int).toNat) Aw
  have hgy := DD (d := Be) hx
  refine Az Ay Ay (BI CL Ay Ay Aw (CU hx) (Bd _)) (Az Ay Ay (Bq BU Ay (Bd _)) (BP Ay Ay (BN B8 Ay) fun b13 => Az Ay Ay (BB (i := 0) BU Ay Ay Ay Am Ac (CN _)) (A5 Ay (A2 (A2 (A0 (Az Ay Ay (A1 Ay) (Az Ay Ay (BE Ay Ay Ay) (A5 Ay (BD Ay (fun c2 => ?_) (fun c2 => ?_)))))))))))
  ·(try simp only [sd, se] at c2)
   refine A0 (Az Ay Ay (A3 Dy Ay Ay) (Az Ay Ay (A9 (i := 2) Ev Ay Ay Ay) (Az Ay Ay (A8 (i := 0) BU Ay Ay Am) ?_)))
   obtain ⟨xk, xi, xn, xl, xs⟩ := x
   refine Az Ay Ay (CJ CL B8 Ay Ay Ay Ay Ay) (Az Ay Ay (Bp Ay Ay (Ep BM [(.mk xk xi xn xl xs : Tm)] AO) Ay) (Az Ay Ay (BB (i := 0) BU Ay Ay Ay Am Ac (CN _)) (A5 Ay (A2 (A0 (Az Ay Ay (A1 Ay) (Az Ay Ay (A1 Ay) (Az Ay Ay (MY Ay Aw Aw) (Az Ay Ay (Jl Ay Ay) (Az Ay Ay (A1 Ay) (A5 Ay (BT ?_))))))))))))
   refine B4 (α := Nat) (fun k => ⟨75, mk [(3, .ptr b3 0), (10, .ptr b10 0), (13, .ptr b13 0), (64, .p (I (max (tt : Int) (-tt : Int)))), (65, .p (I (k : Int)))], [.box b13 ((Bu (Bh BM [(.mk xk xi xn xl xs : Tm)])).map .p), LB, .box b3 [.p (.str BQ), .p (.str BK), .p (.str BL), .p (.str BM), .p (.str BS), .p (.str BR), .p (.lst (List.map CZ thm))], .box b10 ((Bu (Ic (BY.mk BQ BK BL BM BS BR thm) (Mp (BY.mk BQ BK BL BM BS BR thm) tt (us.getD d.toNat Be)) k s)).map .p), .box b5 [.p (.lst (Bg us))]], []⟩) (fun k => tt.natAbs - k) (fun k => (k : Int) ≤ max tt (-tt)) 0 Aw ?_ ?_
   ·exact By ⟨we Ay, we Ay, we Ay, we Ay, we Ay, trivial⟩ (leH (is := [0, 1, 2, 3, 4]) Ay (wl (oe Ay) (wl (oe Ay) (wl (oe Ay) (wl (oe Ay) (wl (oe Ay) (Dc)))))))
   rintro k hC1
   try simp only at hC1
   refine A2 (A0 (Az Ay Ay (BE Ay Ay Ay) (A5 Ay (A2 (BD Ay (fun c3 => ?_) (fun c3 => ?_))))))
   ·(try simp only [sd, se] at c3)
    refine BG (A2 (BT (A0 (Az Ay Ay (A3 Dy Ay Ay) (Az Ay Ay (A9 (i := 2) Ev Ay Ay Ay) (Az Ay Ay (A8 (i := 0) BU Ay Ay Am) (Az Ay Ay (A8 (i := 3) BU Ay Ay Am) ?_)))))))
    generalize hz : Bh BM [(.mk xk xi xn xl xs : Tm)] = z
    obtain ⟨zk, zi, zn, zl, zs⟩ := z
    generalize hz1 : Ic (BY.mk BQ BK BL BM BS BR thm) (Mp (BY.mk BQ BK BL BM BS BR thm) tt (us.getD d.toNat Be)) k s = z1
    obtain ⟨z1k, z1i, z1n, z1l, z1s⟩ := z1
    refine Az Ay Ay (CJ CL B8 Ay Ay Ay Ay Ay) (Az Ay Ay (Bp Ay Ay (Ep BK [(.mk zk zi zn zl zs : Tm), (.mk z1k z1i z1n z1l z1s : Tm)] AO) Ay) (Az Ay Ay (BB (i := 3) BU Ay Ay Ay Am Ac (CN _)) (A5 Ay (A0 (Az Ay Ay (CH Ay Ay Aw Aw) (Az Ay Ay (A1 Ay) (A5 Ay ?_)))))))
    refine ⟨(k + 1), AZ, by first | trivial | omega | (simp only; omega) | (simp; omega), By ⟨we rfl, we rfl, we rfl, we rfl, we rfl, trivial⟩ (leH (is := [0, 1, 2, 3, 4]) rfl (wl (oe rfl) (wl (oe rfl) (wl (oe rfl) (wl (ob (by rw [Ic, hz1, Mp, if_pos Aw, hgy, hz])) (wl (oe rfl) (Dc)))))))⟩
   (try simp only [sd, se] at c3)
   refine B7 ?_
   subst hLB
   refine ⟨1, _, Ay, C2 (is := [1, 2, 3, 4]) Ay, ?_⟩
   obtain rfl : k = tt.natAbs := by omega
   exact ⟨Ay, Ay⟩
  (try simp only [sd, se] at c2)
  refine BG (A2 (A0 (Az Ay Ay (A1 Ay) (Az Ay Ay (A1 Ay) (Az Ay Ay (MY Ay Aw Aw) (Az Ay Ay (Jl Ay Ay) (Az Ay Ay (A1 Ay) (A5 Ay (BT (B4 (α := Nat) (fun k => ⟨75, mk [(3, .ptr b3 0), (10, .ptr b10 0), (13, .ptr b13 0), (64, .p (I (max (tt : Int) (-tt : Int)))), (65, .p (I (k : Int)))], [.box b13 ((Bu x).map .p), LB, .box b3 [.p (.str BQ), .p (.str BK), .p (.str BL), .p (.str BM), .p (.str BS), .p (.str BR), .p (.lst (List.map CZ thm))], .box b10 ((Bu (Ic (BY.mk BQ BK BL BM BS BR thm) (Mp (BY.mk BQ BK BL BM BS BR thm) tt (us.getD d.toNat Be)) k s)).map .p), .box b5 [.p (.lst (Bg us))]], []⟩) (fun k => tt.natAbs - k) (fun k => (k : Int) ≤ max tt (-tt)) 0 Aw ?_ ?_))))))))))
  ·exact By ⟨we Ay, we Ay, we Ay, we Ay, we Ay, trivial⟩ (leH (is := [0, 1, 2, 3, 4]) Ay (wl (oe Ay) (wl (oe Ay) (wl (oe Ay) (wl (oe Ay) (wl (oe Ay) (Dc)))))))
  rintro k hC1
  try simp only at hC1
  refine A2 (A0 (Az Ay Ay (BE Ay Ay Ay) (A5 Ay (A2 (BD Ay (fun c3 => ?_) (fun c3 => ?_))))))
  ·(try simp only [sd, se] at c3)
   refine BG (A2 (BT (A0 (Az Ay Ay (A3 Dy Ay Ay) (Az Ay Ay (A9 (i := 2) Ev Ay Ay Ay) (Az Ay Ay (A8 (i := 0) BU Ay Ay Am) (Az Ay Ay (A8 (i := 3) BU Ay Ay Am) ?_)))))))
   obtain ⟨xk, xi, xn, xl, xs⟩ := x
   generalize hz : Ic (BY.mk BQ BK BL BM BS BR thm) (Mp (BY.mk BQ BK BL BM BS BR thm) tt (us.getD d.toNat Be)) k s = z
   obtain ⟨zk, zi, zn, zl, zs⟩ := z
   refine Az Ay Ay (CJ CL B8 Ay Ay Ay Ay Ay) (Az Ay Ay (Bp Ay Ay (Ep BK [(.mk xk xi xn xl xs : Tm), (.mk zk zi zn zl zs : Tm)] AO) Ay) (Az Ay Ay (BB (i := 3) BU Ay Ay Ay Am Ac (CN _)) (A5 Ay (A0 (Az Ay Ay (CH Ay Ay Aw Aw) (Az Ay Ay (A1 Ay) (A5 Ay ?_)))))))
   refine ⟨(k + 1), AZ, by first | trivial | omega | (simp only; omega) | (simp; omega), By ⟨we rfl, we rfl, we rfl, we rfl, we rfl, trivial⟩ (leH (is := [0, 1, 2, 3, 4]) rfl (wl (oe rfl) (wl (oe rfl) (wl (oe rfl) (wl (ob (by rw [Ic, hz, Mp, if_neg Aw, hgy])) (wl (oe rfl) (Dc)))))))⟩
  (try simp only [sd, se] at c3)
  refine B7 ?_
  subst hLB
  refine ⟨1, _, Ay, C2 (is := [1, 2, 3, 4]) Ay, ?_⟩
  obtain rfl : k = tt.natAbs := by omega
  exact ⟨Ay, Ay⟩
 refine (Zz (Ua (BY.mk BQ BK BL BM BS BR thm) us) (fun (s : Tm) (T : List Bc) => T = [.loop l L, .box b3 [.p (.str BQ), .p (.str BK), .p (.str BL), .p (.str BM), .p (.str BS), .p (.str BR), .p (.lst (List.map CZ thm))], .box b10 ((Bu s).map .p), .box b5 [.p (.lst (Bg us))]]) l bn cs hy (Bh BL []) _ (h1) Ay).mono ?_
 rintro (v | v) H' hR
 rotate_left
 ·exact hR.elim
 obtain ⟨rfl, _, rfl, rfl⟩ := hR
 subst hL
 refine ⟨1, _, Ay, Ax, ?_⟩
 refine A2 (A0 (Az Ay Ay (A8 (i := 2) BU Ay Ay Am) (Az Ay Ay (BB (i := 5) BU Ay Ay Ay Am Ac (CN _)) (A5 Ay (BF (⟨4, Ay, _, _, ⟨_, _, Ay, (Bt (i := 4) BU Ay Ay Am), Ay⟩, nS, ?_⟩))))))
 rw [Qi Aw (by rw [hC, show i = cs.length by omega, List.drop_length]; rfl), Ya Aw]
 all_goals exact ⟨rfl, rfl⟩
theorem Qb : ∀ (c : Int), IA Tryz.prog 133 [.p (.int .u8 c)] (.p (.bool (Nz c))) := by
 intro c
 refine BH Tryz.func133 Ay dF (n := 21) Ay Ay (A2 (A0 (Az Ay Ay (A4 Ay) (A5 Ay (A2 (Bx [] 2 (fun y => y = .p (.bool ((((decide ((c : Int) ≥ (97 : Int))) && (decide ((c : Int) ≤ (122 : Int)))) || ((decide ((c : Int) ≥ (65 : Int))) && (decide ((c : Int) ≤ (90 : Int))))) || ((c : Int) == (95 : Int))))) ?_ ?_))))))
 ·refine A0 (Az Ay Ay (A1 Ay) (Az Ay Ay (BE Ay Ay Ay) (Az Ay Ay (A1 Ay) (Br 5 Ay (fun g => ?_) (fun g => ?_)))))
  ·(try simp only [sd, se] at g)
   refine A6 Ay Ay Ay Ay (A1 Ay) (A6 Ay Ay Ay Ay (BE Ay Ay Ay) (Az Ay Ay (BC Ay Ay) (Az Ay Ay (A1 Ay) (Br 9 Ay (fun g1 => ?_) (fun g1 => ?_)))))
   ·(try simp only [sd, se] at g1)
    exact A7 Ay Ay Ay Ay Ay (A7 Ay Ay Ay Ay Ay (A7 Ay Ay Ay Ay Ay (CD Ay Ay Ay Ay (CD Ay Ay Ay Ay (A7 Ay Ay Ay Ay Ay (Az Ay Ay (BC Ay Ay) (Az Ay Ay (A1 Ay) (A7 Ay Ay Ay Ay Ay (A7 Ay Ay Ay Ay Ay (Az Ay Ay (BC Ay Ay) (Az Ay Ay (A4 Ay) (A5 Ay ⟨Ay, Ay, AK, AJ, trivial⟩))))))))))))
   (try simp only [sd, se] at g1)
   refine A6 Ay Ay Ay Ay (A1 Ay) (A6 Ay Ay Ay Ay (BE Ay Ay Ay) (A6 Ay Ay Ay Ay (A1 Ay) (Br 12 Ay (fun g2 => ?_) (fun g2 => ?_))))
   ·(try simp only [sd, se] at g2)
    refine A6 Ay Ay Ay Ay (A1 Ay) (A6 Ay Ay Ay Ay (BE Ay Ay Ay) (A6 Ay Ay Ay Ay (BC Ay Ay) (Az Ay Ay (BC Ay Ay) (Az Ay Ay (A1 Ay) (Br 17 Ay (fun g3 => ?_) (fun g3 => ?_))))))
    ·(try simp only [sd, se] at g3)
     exact A7 Ay Ay Ay Ay Ay (A7 Ay Ay Ay Ay Ay (Az Ay Ay (BC Ay Ay) (Az Ay Ay (A4 Ay) (A5 Ay ⟨Ay, Ay, AK, AJ, trivial⟩))))
    (try simp only [sd, se] at g3)
    exact A6 Ay Ay Ay Ay (A1 Ay) (A6 Ay Ay Ay Ay (BE Ay Ay Ay) (Az Ay Ay (BC Ay Ay) (Az Ay Ay (A4 Ay) (A5 Ay ⟨Ay, Ay, AK, AJ, trivial⟩))))
   (try simp only [sd, se] at g2)
   exact A7 Ay Ay Ay Ay Ay (A7 Ay Ay Ay Ay Ay (A6 Ay Ay Ay Ay (BC Ay Ay) (Az Ay Ay (BC Ay Ay) (Az Ay Ay (A1 Ay) (A6 Ay Ay Ay Ay (A1 Ay) (A6 Ay Ay Ay Ay (BE Ay Ay Ay) (Az Ay Ay (BC Ay Ay) (Az Ay Ay (A4 Ay) (A5 Ay ⟨Ay, Ay, AK, AJ, trivial⟩)))))))))
  (try simp only [sd, se] at g)
  refine A7 Ay Ay Ay Ay Ay (A7 Ay Ay Ay Ay Ay (Az Ay Ay (BC Ay Ay) (Az Ay Ay (A1 Ay) (A6 Ay Ay Ay Ay (A1 Ay) (A6 Ay Ay Ay Ay (BE Ay Ay Ay) (A6 Ay Ay Ay Ay (A1 Ay) (Br 12 Ay (fun g1 => ?_) (fun g1 => ?_))))))))
  ·(try simp only [sd, se] at g1)
   refine A6 Ay Ay Ay Ay (A1 Ay) (A6 Ay Ay Ay Ay (BE Ay Ay Ay) (A6 Ay Ay Ay Ay (BC Ay Ay) (Az Ay Ay (BC Ay Ay) (Az Ay Ay (A1 Ay) (Br 17 Ay (fun g2 => ?_) (fun g2 => ?_))))))
   ·(try simp only [sd, se] at g2)
    exact A7 Ay Ay Ay Ay Ay (A7 Ay Ay Ay Ay Ay (Az Ay Ay (BC Ay Ay) (Az Ay Ay (A4 Ay) (A5 Ay ⟨Ay, Ay, AK, AJ, trivial⟩))))
   (try simp only [sd, se] at g2)
   exact A6 Ay Ay Ay Ay (A1 Ay) (A6 Ay Ay Ay Ay (BE Ay Ay Ay) (Az Ay Ay (BC Ay Ay) (Az Ay Ay (A4 Ay) (A5 Ay ⟨Ay, Ay, AK, AJ, trivial⟩))))
  (try simp only [sd, se] at g1)
  exact A7 Ay Ay Ay Ay Ay (A7 Ay Ay Ay Ay Ay (A6 Ay Ay Ay Ay (BC Ay Ay) (Az Ay Ay (BC Ay Ay) (Az Ay Ay (A1 Ay) (A6 Ay Ay Ay Ay (A1 Ay) (A6 Ay Ay Ay Ay (BE Ay Ay Ay) (Az Ay Ay (BC Ay Ay) (Az Ay Ay (A4 Ay) (A5 Ay ⟨Ay, Ay, AK, AJ, trivial⟩)))))))))
 rintro _ rfl
 refine BF (⟨Ay, _, _, ⟨_, _, Ay, Ay, Ay⟩, nS, ?_⟩)
 all_goals exact ⟨pB (by simp_all [Nz]), rfl⟩
theorem T4 : ∀ (s : ByteArray), (s.size < EB) → E1 Tryz.prog 98 [.p (.str s)] (fun v => ∃ b : Bool, v = .p (.bool b) ∧ (b = true → RO s)) := by
 intro s h1
 simp only [EB] at h1
 refine BH Tryz.func98 Ay iE (n := 45) Ay Ay (A2 (A0 (Az Ay Ay (A4 Ay) (A5 Ay (A2 (A2 (Bx [0] 12 (fun y => ∃ b : Bool, y = .p (.bool b) ∧ True) ?_ ?_)))))))
 ·refine A0 (Az Ay Ay (A1 Ay) (Az Ay Ay (F6 Ay Ay) (Az Ay Ay (A1 Ay) (Br 8 Ay (fun g => ?_) (fun g => ?_)))))
  ·(try simp only [sd, se] at g)
   exact A7 Ay Ay Ay Ay Ay (A7 Ay Ay Ay Ay Ay (A7 Ay Ay Ay Ay Ay (Az Ay Ay (BC Ay Ay) (A5 Ay (⟨Ay, Ay, AK, ⟨_, Ay, trivial⟩, ⟨Ay, trivial⟩⟩)))))
  (try simp only [sd, se] at g)
  exact A6 Ay Ay Ay Ay (A1 Ay) (A6 Ay Ay Ay Ay (Ej Ww Ay) (A6 Ay Ay Ay Ay (BE Ay Ay Ay) (Az Ay Ay (BC Ay Ay) (A5 Ay (⟨Ay, Ay, AK, ⟨_, Ay, trivial⟩, ⟨Ay, trivial⟩⟩)))))
 rintro _ ⟨q, rfl, hq⟩
 refine BD Ay (fun c => ?_) (fun c => ?_)
 ·(try simp only [sd, se] at c)
  refine A2 (A0 (Az Ay Ay (A4 Ay) (A5 Ay (BF (⟨Ay, _, [], Bz Ay, nS, ⟨⟨_, Ay, ?_⟩, Ay⟩⟩)))))
  exact fun h => absurd h Ax
 (try simp only [sd, se] at c)
 refine BG (A2 (A0 (Az Ay Ay (A4 Ay) (A5 Ay (A2 (A2 (A0 (Az Ay Ay (A4 Ay) (A5 Ay (BT ?_))))))))))
 refine B4 (α := Nat × Bool) (fun (i, f) => ⟨45, mk [(0, .p (.str s)), (3, .p (.bool f)), (4, .p (I (i : Int)))], [], []⟩) (fun (i, f) => s.size - i) (fun (i, f) => i ≤ s.size ∧ (∀ j, j < i → ∀ c, s.data.toList[j]? = some c → J9 c)) ⟨0, true⟩ (⟨by omega, fun j h => by omega⟩) ?_ ?_
 ·exact By ⟨we Ay, we Ay, we Ay, trivial⟩ (leH (is := []) Ay (Dc))
 rintro ⟨i, f⟩ hC
 try simp only at hC
 obtain ⟨hi, hC⟩ := hC
 refine A2 (A2 (A0 (Az Ay Ay (A1 Ay) (Az Ay Ay (A1 Ay) (Az Ay Ay (Ej Ww Ay) (Az Ay Ay (BE Ay Ay Ay) (A5 Ay (BD Ay (fun c1 => ?_) (fun c1 => ?_)))))))))
 ·(try simp only [sd, se] at c1)
  refine BG (A2 (BT (A2 (A0 (Az Ay Ay (A1 Ay) (Az Ay Ay (A1 Ay) ?_))))))
  obtain ⟨ch, hch⟩ : ∃ c, (s)[i]? = some c := ⟨_, getElem?_pos s i Aw⟩
  refine Az Ay Ay (Pq Ww Ay Ay Aw (by simpa using hch)) (Az Ay Ay (A4 Ay) (A5 Ay (A2 (A2 (A0 (Az Ay Ay (A1 Ay) (A5 Ay (BD Ay (fun c2 => ?_) (fun c2 => ?_)))))))))
  ·(try simp only [sd, se] at c2)
   refine A2 (A2 (A0 (Az Ay Ay (A1 Ay) (Az Ay Ay (Bp Ay Ay (Qb ch.toNat) Ay) (Az Ay Ay (Cp Ay) (A5 Ay (BD Ay (fun c3 => ?_) (fun c3 => ?_))))))))
   ·(try simp only [sd, se] at c3)
    refine A2 (A0 (Az Ay Ay (A4 Ay) (A5 Ay (BF (⟨Ay, _, [], Bz Ay, nS, ⟨⟨_, Ay, ?_⟩, Ay⟩⟩)))))
    exact fun h => absurd h Ax
   (try simp only [sd, se] at c3)
   refine BG (A2 (A0 (Az Ay Ay (A4 Ay) (A5 Ay (B7 (A0 (Az Ay Ay (A1 Ay) (Az Ay Ay (CH Ay Ay Aw Aw) (Az Ay Ay (A4 Ay) (A5 Ay ?_))))))))))
   refine ⟨⟨i + 1, false⟩, AZ, ⟨by omega, M4 hC hch (by first | exact hok | (simp only [J9]; simp_all; done) | (simp only [J9]; simp_all <;> omega))⟩, By ⟨we rfl, we rfl, we rfl, trivial⟩ (leH (is := []) rfl (Dc))⟩
  (try simp only [sd, se] at c2)
  refine BG (A2 (A2 (A0 (Az Ay Ay (A1 Ay) (Az Ay Ay (BE Ay Ay Ay) (A5 Ay (BD Ay (fun c3 => ?_) (fun c3 => ?_))))))))
  ·(try simp only [sd, se] at c3)
   refine A2 (A0 (Az Ay Ay (A4 Ay) (A5 Ay (B7 (A0 (Az Ay Ay (A1 Ay) (Az Ay Ay (CH Ay Ay Aw Aw) (Az Ay Ay (A4 Ay) (A5 Ay ?_)))))))))
   refine ⟨⟨i + 1, true⟩, AZ, ⟨by omega, M4 hC hch (by first | exact hok | (simp only [J9]; simp_all; done) | (simp only [J9]; simp_all <;> omega))⟩, By ⟨we rfl, we rfl, we rfl, trivial⟩ (leH (is := []) rfl (Dc))⟩
  (try simp only [sd, se] at c3)
  refine BG (A2 (Bx [0, 3, 4] 42 (fun y => ∃ b : Bool, y = .p (.bool b) ∧ (b = false → J9 ch)) ?_ ?_))
  ·refine A0 (Az Ay Ay (A1 Ay) (Az Ay Ay (Bp Ay Ay (Qb ch.toNat) Ay) (Az Ay Ay (Cp Ay) (Az Ay Ay (A1 Ay) (Br 31 Ay (fun g => ?_) (fun g => ?_))))))
   ·(try simp only [sd, se] at g)
    refine A6 Ay Ay Ay Ay (A1 Ay) (A6 Ay Ay Ay Ay (BE Ay Ay Ay) (Az Ay Ay (BC Ay Ay) (Az Ay Ay (A1 Ay) (Br 35 Ay (fun g1 => ?_) (fun g1 => ?_)))))
    ·(try simp only [sd, se] at g1)
     refine A6 Ay Ay Ay Ay (A1 Ay) (A6 Ay Ay Ay Ay (BE Ay Ay Ay) (A6 Ay Ay Ay Ay (A1 Ay) (Br 38 Ay (fun g2 => ?_) (fun g2 => ?_))))
     ·(try simp only [sd, se] at g2)
      refine A7 Ay Ay Ay Ay Ay (A7 Ay Ay Ay Ay Ay (A6 Ay Ay Ay Ay (BC Ay Ay) (Az Ay Ay (BC Ay Ay) (A5 Ay ?_))))
      exact ⟨rfl, rfl, AK, (by refine ⟨_, rfl, fun h => ?_⟩; simp only [J9]; first | (simp_all; done) | (simp_all <;> omega)), ⟨rfl, rfl, rfl, trivial⟩⟩
     (try simp only [sd, se] at g2)
     refine A6 Ay Ay Ay Ay (A1 Ay) (A6 Ay Ay Ay Ay (BE Ay Ay Ay) (A6 Ay Ay Ay Ay (BC Ay Ay) (Az Ay Ay (BC Ay Ay) (A5 Ay ?_))))
     exact ⟨rfl, rfl, AK, (by refine ⟨_, rfl, fun h => ?_⟩; simp only [J9]; first | (simp_all; done) | (simp_all <;> omega)), ⟨rfl, rfl, rfl, trivial⟩⟩
    (try simp only [sd, se] at g1)
    refine A7 Ay Ay Ay Ay Ay (A7 Ay Ay Ay Ay Ay (A7 Ay Ay Ay Ay Ay (CD Ay Ay Ay Ay (CD Ay Ay Ay Ay (A7 Ay Ay Ay Ay Ay (Az Ay Ay (BC Ay Ay) (A5 Ay ?_)))))))
    exact ⟨rfl, rfl, AK, (by refine ⟨_, rfl, fun h => ?_⟩; simp only [J9]; first | (simp_all; done) | (simp_all <;> omega)), ⟨rfl, rfl, rfl, trivial⟩⟩
   (try simp only [sd, se] at g)
   refine A7 Ay Ay Ay Ay Ay (A7 Ay Ay Ay Ay Ay (Az Ay Ay (BC Ay Ay) (Az Ay Ay (A1 Ay) (A7 Ay Ay Ay Ay Ay (A7 Ay Ay Ay Ay Ay (A7 Ay Ay Ay Ay Ay (CD Ay Ay Ay Ay (CD Ay Ay Ay Ay (A7 Ay Ay Ay Ay Ay (Az Ay Ay (BC Ay Ay) (A5 Ay ?_)))))))))))
   exact ⟨rfl, rfl, AK, (by refine ⟨_, rfl, fun h => ?_⟩; simp only [J9]; first | (simp_all; done) | (simp_all <;> omega)), ⟨rfl, rfl, rfl, trivial⟩⟩
  rintro _ ⟨r, rfl, hr⟩
  refine BD Ay (fun c4 => ?_) (fun c4 => ?_)
  ·(try simp only [sd, se] at c4)
   refine A2 (A0 (Az Ay Ay (A4 Ay) (A5 Ay (BF (⟨Ay, _, [], Bz Ay, nS, ⟨⟨_, Ay, ?_⟩, Ay⟩⟩)))))
   exact fun h => absurd h Ax
  (try simp only [sd, se] at c4)
  have hok := hr (by simpa using c4)
  refine BG (A0 (Az Ay Ay (A1 Ay) (Az Ay Ay (CH Ay Ay Aw Aw) (Az Ay Ay (A4 Ay) (A5 Ay ?_)))))
  refine ⟨⟨i + 1, f⟩, AZ, ⟨by omega, M4 hC hch (by first | exact hok | (simp only [J9]; simp_all; done) | (simp only [J9]; simp_all <;> omega))⟩, By ⟨we rfl, we rfl, we rfl, trivial⟩ (leH (is := []) rfl (Dc))⟩
 (try simp only [sd, se] at c1)
 refine B7 (A2 (A0 (Az Ay Ay (A1 Ay) (Az Ay Ay (Cp Ay) (Az Ay Ay (A4 Ay) (A5 Ay (BF (⟨Ay, _, [], Bz Ay, nS, ⟨⟨_, Ay, ?_⟩, Ay⟩⟩))))))))
 have e : i = s.size := by omega
 subst e
 exact fun _ => W9 hC
end Go.Proofs.YtapmjpihennhaaaGreatDoor
namespace Go.Eu
open Go.Abs
structure G2 where
 left : Tm
 right : Tm
 proof : Tm
 same : Bool
 deriving Inhabited
def CS (e : G2) : List PV := Bu e.left ++ (Bu e.right ++ (Bu e.proof ++ [.bool e.same]))
theorem K5 (e : G2) : (CS e).length = 16 := by simp [CS, Bd]
theorem Un (e : G2) : Dg 16 (CS e) := GA (n := 5) (m := 11) (Hz _) (GA (n := 5) (m := 6) (Hz _) (GA (n := 5) (m := 1) (Hz _) (Ck Ax IU)))
theorem F7 (l : List G2) : ∀ r ∈ l.map CS, Dg 16 r := GZ Un l
theorem Co (e : G2) : ((CS e).map AV.p).all one = true := Ef (Un e)
def Nj : ByteArray := ⟨#[69, 113, 46, 114, 101, 102, 108]⟩
def dw : ByteArray := ⟨#[69, 113, 46, 115, 121, 109, 109]⟩
def Z7 : ByteArray := ⟨#[69, 113, 46, 116, 114, 97, 110, 115]⟩
def aj : ByteArray := ⟨#[69, 113, 46, 99, 111, 110, 103, 114]⟩
def ID (n : ByteArray) (t : Tm) (l : List Tm) : Tm := apply (.mk 3 0 n [⟨0, []⟩] []) (t :: l)
def Dh (th : BY) : Tm := Bh th.carrier []
def Et (th : BY) (to : Tm) : Tm := .mk 6 0 ⟨#[]⟩ [] [Dh th, to]
def Ce (th : BY) (a b : Tm) : Tm := Bh th.add [a, b]
def Cu (th : BY) (a : Tm) : Tm := Bh th.neg [a]
def Dp (th : BY) (t : Tm) : G2 := ⟨t, t, ID Nj (Dh th) [t], true⟩
def FM (th : BY) (n : Int) (l r : Tm) (args : List Tm) : G2 := ⟨l, r, Bh (th.lemmas.getD n.toNat ⟨#[]⟩) args, false⟩
def G6 (th : BY) (e : G2) : G2 := if e.same = true then e else ⟨e.right, e.left, ID dw (Dh th) [e.left, e.right, e.proof], false⟩
def L2 (th : BY) (o e : G2) : G2 := if o.same = true then e else if e.same = true then o else ⟨o.left, e.right, ID Z7 (Dh th) [o.left, o.right, e.right, o.proof, e.proof], false⟩
def Cx (th : BY) (o : G2) (l : List G2) : G2 := l.foldl (L2 th) o
def HD (th : BY) (to f g : Tm) (e : G2) (fs : Tm) : Tm := apply (.mk 3 0 aj [⟨0, []⟩, ⟨0, []⟩] []) [Dh th, to, f, g, e.left, e.right, fs, e.proof]
def Dj (th : BY) (f : Tm) (e : G2) : G2 := if e.same = true then Dp th (apply f [e.left]) else ⟨apply f [e.left], apply f [e.right], HD th (Dh th) f f e (ID Nj (Et th (Dh th)) [f]), false⟩
def Fx (th : BY) (a b : G2) : G2 :=
 if a.same = true then Dj th (Bh th.add [a.left]) b
 else ⟨Ce th a.left b.left, Ce th a.right b.right, HD th (Dh th) (Bh th.add [a.left]) (Bh th.add [a.right]) b (HD th (Et th (Dh th)) (Bh th.add []) (Bh th.add []) a (ID Nj (Et th (Et th (Dh th))) [Bh th.add []])), false⟩
def Cr (th : BY) (A : List Tm) (x : Ch) : Tm := if x.minus = true then Cu th (A.getD x.place.toNat Be) else A.getD x.place.toNat Be
def Bk (th : BY) (A : List Tm) : List Ch → Tm
 | [] => Bh th.zero []
 | x :: l => Ce th (Cr th A x) (Bk th A l)
def Hr (th : BY) (a b : Tm) : G2 := FM th 0 (Ce th a b) (Ce th b a) [a, b]
def EZ (th : BY) (a b c : Tm) : G2 := FM th 1 (Ce th (Ce th a b) c) (Ce th a (Ce th b c)) [a, b, c]
def JQ (th : BY) (t : Tm) : G2 := FM th 2 (Ce th (Bh th.zero []) t) t [t]
def UM (th : BY) (a : Tm) : G2 := FM th 3 (Ce th (Cu th a) a) (Bh th.zero []) [a]
def IM (th : BY) (A : List Tm) (x : Ch) : G2 :=
 if x.minus = true then UM th (A.getD x.place.toNat Be) else Cx th (Hr th (A.getD x.place.toNat Be) (Cu th (A.getD x.place.toNat Be))) [UM th (A.getD x.place.toNat Be)]
def Ct (th : BY) (A : List Tm) (x : Ch) : List Ch → G2 × List Ch
 | [] => (Dp th (Ce th (Cr th A x) (Bk th A [])), [x])
 | y :: l =>
  if x.place < y.place ∨ (x.place = y.place ∧ x.minus = y.minus) then (Dp th (Ce th (Cr th A x) (Bk th A (y :: l))), x :: y :: l)
  else if x.place = y.place then (Cx th (G6 th (EZ th (Cr th A x) (Cr th A y) (Bk th A l))) [Fx th (IM th A x) (Dp th (Bk th A l)), JQ th (Bk th A l)], l)
  else (Cx th (G6 th (EZ th (Cr th A x) (Cr th A y) (Bk th A l))) [Fx th (Hr th (Cr th A x) (Cr th A y)) (Dp th (Bk th A l)), EZ th (Cr th A y) (Cr th A x) (Bk th A l), Dj th (Bh th.add [Cr th A y]) (Ct th A x l).1], y :: (Ct th A x l).2)
def DN (th : BY) (A : List Tm) (b : List Ch) : List Ch → G2 × List Ch
 | [] => (JQ th (Bk th A b), b)
 | x :: a => (Cx th (EZ th (Cr th A x) (Bk th A a) (Bk th A b)) [Dj th (Bh th.add [Cr th A x]) (DN th A b a).1, (Ct th A x (DN th A b a).2).1], (Ct th A x (DN th A b a).2).2)
def JI (th : BY) (A : List Tm) (x : Ch) : G2 :=
 if x.minus = true then FM th 5 (Cu th (Cr th A x)) (A.getD x.place.toNat Be) [A.getD x.place.toNat Be] else Dp th (Cu th (Cr th A x))
def DE (th : BY) (A : List Tm) : List Ch → G2 × List Ch
 | [] => (FM th 6 (Cu th (Bh th.zero [])) (Bh th.zero []) [], [])
 | x :: l => (Cx th (FM th 4 (Cu th (Ce th (Cr th A x) (Bk th A l))) (Ce th (Cu th (Cr th A x)) (Cu th (Bk th A l))) [Cr th A x, Bk th A l]) [Fx th (JI th A x) (DE th A l).1], ⟨x.place, !x.minus⟩ :: (DE th A l).2)
noncomputable def B0 (th : BY) (A : List Tm) : Nat → Tm → G2 × List Ch
 | 0, t => (Dp th t, [])
 | n + 1, t =>
  if (DU th t).1 = 1 then
   (Cx th (Fx th (B0 th A n ((DU th t).2.getD 0 Be)).1 (B0 th A n ((DU th t).2.getD 1 Be)).1) [(DN th A (B0 th A n ((DU th t).2.getD 1 Be)).2 (B0 th A n ((DU th t).2.getD 0 Be)).2).1], (DN th A (B0 th A n ((DU th t).2.getD 1 Be)).2 (B0 th A n ((DU th t).2.getD 0 Be)).2).2)
  else if (DU th t).1 = 2 then (Dp th t, [])
  else if (DU th t).1 = 3 then
   (Cx th (Dj th (Bh th.neg []) (B0 th A n ((DU th t).2.getD 0 Be)).1) [(DE th A (B0 th A n ((DU th t).2.getD 0 Be)).2).1], (DE th A (B0 th A n ((DU th t).2.getD 0 Be)).2).2)
  else (Cx th (G6 th (JQ th t)) [Hr th (Bh th.zero []) t], [⟨(DA A t : Int), false⟩])
structure G4 (th : BY) : Prop where
 car : th.carrier.size < EB
 add : th.add.size < EB
 zero : th.zero.size < EB
 neg : th.neg.size < EB
 lem : ∀ s ∈ th.lemmas, s.size < EB
theorem G4.getD {th : BY} (h : G4 th) (n : Nat) : (th.lemmas.getD n ⟨#[]⟩).size < EB := by
 cases e : th.lemmas[n]? with
 | none => simp [List.getD, e]; decide
 | some s => simp [List.getD, e]; exact h.lem s (List.mem_of_getElem? e)
theorem Gs {n : ByteArray} {l : List Tm} (h : n.size < EB) (hl : L5 l) : Nd (Bh n l) :=
 MO ⟨h, by decide, by simp, by decide, trivial, ⟨by decide, by decide⟩, ⟨by decide, by decide⟩⟩ hl
theorem GK {n : ByteArray} {l : List Tm} : size (Bh n l) = 1 + CE l + l.length := by simp [Bh, Jm, size, CE]
theorem Uo : V3 ⟨0, []⟩ := ⟨by simp, ⟨by decide, by decide⟩, by simp⟩
theorem PE {n : ByteArray} {t : Tm} {l : List Tm} (h : n.size < EB) (ht : Nd t) (hl : L5 l) : Nd (ID n t l) :=
 MO ⟨h, by decide, by simpa using Uo, by decide, trivial, ⟨by decide, by decide⟩, ⟨by decide, by decide⟩⟩ ⟨ht, hl⟩
theorem KP {n : ByteArray} {t : Tm} {l : List Tm} : size (ID n t l) = 2 + size t + CE l + l.length := by simp [ID, Jm, size, CE]; omega
theorem I5 {th : BY} (h : G4 th) : Nd (Dh th) := Gs h.car trivial
theorem Ie {th : BY} : size (Dh th) = 1 := by simp [Dh, GK, CE]
theorem Qu {th : BY} (h : G4 th) {t : Tm} (ht : Nd t) : Nd (Et th t) := ⟨by decide, by decide, by simp, by simp [EB], ⟨I5 h, ht, trivial⟩, ⟨by decide, by decide⟩, ⟨by decide, by decide⟩⟩
theorem SE {th : BY} {t : Tm} : size (Et th t) = 2 + size t := by simp [Et, size, CE, Ie]; omega
theorem DH {th : BY} (h : G4 th) {a b : Tm} (ha : Nd a) (hb : Nd b) : Nd (Ce th a b) := Gs h.add ⟨ha, hb, trivial⟩
theorem Eg {th : BY} {a b : Tm} : size (Ce th a b) = 3 + size a + size b := by simp [Ce, GK, CE]; omega
theorem Kr {th : BY} (h : G4 th) {a : Tm} (ha : Nd a) : Nd (Cu th a) := Gs h.neg ⟨ha, trivial⟩
theorem MB {th : BY} {a : Tm} : size (Cu th a) = 2 + size a := by simp [Cu, GK, CE]; omega
theorem GC {th : BY} (h : G4 th) : Nd (Bh th.zero []) := Gs h.zero trivial
theorem JL {th : BY} : size (Bh th.zero []) = 1 := by simp [GK, CE]
theorem Q3 {f t : Tm} (hf : Nd f) (ht : Nd t) : Nd (apply f [t]) := MO hf ⟨ht, trivial⟩
theorem U9 {f t : Tm} : size (apply f [t]) = size f + size t + 1 := by simp [Jm, CE]
theorem MS {n : ByteArray} {l : List Tm} {t : Tm} : apply (Bh n l) [t] = Bh n (l ++ [t]) := by simp [Bh, apply]
structure Oh (e : G2) (lt rt : Tm) (B : Nat) : Prop where
 l : e.left = lt
 r : e.right = rt
 s : e.same = true → lt = rt
 nl : Nd lt
 nr : Nd rt
 nd : Nd e.proof
 sz : size e.proof ≤ B
theorem Lt {th : BY} (h : G4 th) {t : Tm} (ht : Nd t) : Oh (Dp th t) t t (4 + size t) :=
 ⟨rfl, rfl, fun _ => rfl, ht, ht, PE Av (I5 h) ⟨ht, trivial⟩, by simp [Dp, KP, CE, Ie]; omega⟩
theorem JV {th : BY} (h : G4 th) {n : Int} {l r : Tm} {args : List Tm} (hl : Nd l) (hr : Nd r) (ha : L5 args) : Oh (FM th n l r args) l r (1 + CE args + args.length) :=
 ⟨rfl, rfl, (fun q => by cases q), hl, hr, Gs (h.getD _) ha, by simp [FM, GK]⟩
theorem WU {th : BY} (h : G4 th) {e : G2} {l r : Tm} {B : Nat} (he : Oh e l r B) : Oh (G6 th e) r l (B + size l + size r + 6) := by
 unfold G6
 obtain ⟨h1, h2, h3, h4, h5, h6, h7⟩ := he
 split
 ·rename_i hs; have := h3 hs; subst this; exact ⟨h1, h2, fun _ => rfl, h5, h4, h6, by omega⟩
 subst h1 h2
 exact ⟨Ay, Ay, (fun q => by cases q), h5, h4, PE Av (I5 h) ⟨h4, h5, h6, trivial⟩, by simp only [KP, CE, Ie, List.length_cons, List.length_nil]; omega⟩
theorem FU {th : BY} (h : G4 th) {e f : G2} {l m r : Tm} {B C : Nat} (he : Oh e l m B) (hf : Oh f m r C) : Oh (L2 th e f) l r (B + C + size l + size m + size r + 8) := by
 unfold L2
 obtain ⟨h1, h2, h3, h4, h5, h6, h7⟩ := he
 obtain ⟨g1, g2, g3, g4, g5, g6, g7⟩ := hf
 split
 ·rename_i hs; have := h3 hs; subst this; exact ⟨g1, g2, g3, g4, g5, g6, by omega⟩
 split
 ·rename_i hs; have := g3 hs; subst this; exact ⟨h1, h2, fun hh => h3 hh, h4, h5, h6, by omega⟩
 subst h1 h2 g2
 exact ⟨Ay, Ay, (fun q => by cases q), h4, g5, PE Av (I5 h) ⟨h4, h5, g5, h6, g6, trivial⟩, by simp only [KP, CE, Ie, List.length_cons, List.length_nil]; omega⟩
theorem OJ {th : BY} (h : G4 th) {to f g fs : Tm} {e : G2} {l r : Tm} {B : Nat} (he : Oh e l r B) (ht : Nd to) (hf : Nd f) (hg : Nd g) (hs : Nd fs) : Nd (HD th to f g e fs) := by
 obtain ⟨h1, h2, h3, h4, h5, h6, h7⟩ := he
 subst h1 h2
 exact MO ⟨by decide, by decide, by simpa using Uo, by decide, trivial, ⟨by decide, by decide⟩, ⟨by decide, by decide⟩⟩ ⟨I5 h, ht, hf, hg, h4, h5, hs, h6, trivial⟩
theorem L0 {th : BY} {to f g fs : Tm} {e : G2} {l r : Tm} {B : Nat} (he : Oh e l r B) : size (HD th to f g e fs) ≤ 10 + size to + size f + size g + size l + size r + size fs + B := by
 obtain ⟨h1, h2, h3, h4, h5, h6, h7⟩ := he
 subst h1 h2
 simp only [HD, Jm, size, CE, Ie, List.length_cons, List.length_nil]
 omega
theorem N7 {th : BY} (h : G4 th) {f : Tm} (hf : Nd f) {e : G2} {l r : Tm} {B : Nat} (he : Oh e l r B) : Oh (Dj th f e) (apply f [l]) (apply f [r]) (B + 3 * size f + size l + size r + 20) := by
 unfold Dj
 split
 ·rename_i hs
  have hr := Lt h (Q3 hf he.nl)
  obtain ⟨h1, h2, h3, h4, h5, h6, h7⟩ := he
  have := h3 hs
  subst this
  rw [h1]
  exact ⟨hr.l, hr.r, fun _ => Ay, hr.nl, hr.nr, hr.nd, by have := hr.sz; rw [U9] at this; omega⟩
 have hc := OJ h he (I5 h) hf hf (PE (n := Nj) (l := [f]) Av (Qu h (I5 h)) ⟨hf, trivial⟩)
 have hz := L0 (th := th) (to := Dh th) (f := f) (g := f) (fs := ID Nj (Et th (Dh th)) [f]) he
 simp only [KP, SE, Ie, CE, List.length_cons, List.length_nil] at hz
 exact ⟨by rw [← he.l], by rw [← he.r], (fun q => by cases q), Q3 hf he.nl, Q3 hf he.nr, hc, by simp only; omega⟩
theorem UP {th : BY} (h : G4 th) {a b : G2} {l r l' r' : Tm} {B C : Nat} (ha : Oh a l r B) (hb : Oh b l' r' C) : Oh (Fx th a b) (Ce th l l') (Ce th r r') (B + C + 3 * size l + 3 * size r + size l' + size r' + 60) := by
 unfold Fx
 split
 ·rename_i hs
  have := ha.s hs
  subst this
  have hu := N7 h (f := Bh th.add [l]) (Gs h.add ⟨ha.nl, trivial⟩) hb
  simp only [MS, List.cons_append, List.nil_append] at hu
  rw [ha.l]
  exact ⟨hu.l, hu.r, hu.s, hu.nl, hu.nr, hu.nd, by have := hu.sz; simp only [GK, CE, List.length_cons, List.length_nil] at this; omega⟩
 have hp : Nd (Bh th.add []) := Gs h.add trivial
 have hin := OJ h ha (Qu h (I5 h)) hp hp (PE (n := Nj) (l := [Bh th.add []]) Av (Qu h (Qu h (I5 h))) ⟨hp, trivial⟩)
 have hin2 := L0 (th := th) (to := Et th (Dh th)) (f := Bh th.add []) (g := Bh th.add []) (fs := ID Nj (Et th (Et th (Dh th))) [Bh th.add []]) ha
 have hl : Nd (Bh th.add [l]) := Gs h.add ⟨ha.nl, trivial⟩
 have hr : Nd (Bh th.add [r]) := Gs h.add ⟨ha.nr, trivial⟩
 have hc := OJ h hb (I5 h) hl hr hin
 have hz := L0 (th := th) (to := Dh th) (f := Bh th.add [l]) (g := Bh th.add [r]) (fs := HD th (Et th (Dh th)) (Bh th.add []) (Bh th.add []) a (ID Nj (Et th (Et th (Dh th))) [Bh th.add []])) hb
 simp only [KP, SE, Ie, GK, CE, List.length_cons, List.length_nil] at hz hin2
 rw [ha.l, ha.r]
 exact ⟨by rw [← hb.l], by rw [← hb.r], (fun q => by cases q), DH h ha.nl hb.nl, DH h ha.nr hb.nr, hc, by simp only; omega⟩
theorem Oh.up {e : G2} {l r : Tm} {B C : Nat} (h : Oh e l r B) (hb : B ≤ C) : Oh e l r C := ⟨h.l, h.r, h.s, h.nl, h.nr, h.nd, Nat.le_trans h.sz hb⟩
structure Vh (A : List Tm) : Prop where
 nd : L5 A
 sz : ∀ t ∈ A, size t ≤ 4096
theorem Vh.get {A : List Tm} (h : Vh A) (i : Nat) : Nd (A.getD i Be) ∧ size (A.getD i Be) ≤ 4096 := by
 cases e : A[i]? with
 | none => simp [List.getD, e]; exact ⟨⟨by decide, by decide, by simp, by decide, trivial, ⟨by decide, by decide⟩, ⟨by decide, by decide⟩⟩, by simp [Be, size, CE]⟩
 | some t => simp [List.getD, e]; exact ⟨D7 h.nd e, h.sz t (List.mem_of_getElem? e)⟩
theorem _root_.Go.AX {α : Prop} (h : α := by simp only [List.length_cons]; omega) : α := h
section
variable {th : BY} {A : List Tm} (h : G4 th) (hA : Vh A)
include h hA
theorem Ku (x : Ch) : Nd (Cr th A x) ∧ size (Cr th A x) ≤ 4098 := by
 have := hA.get x.place.toNat
 unfold Cr
 split
 ·exact ⟨Kr h this.1, by rw [MB]; omega⟩
 exact ⟨this.1, by omega⟩
theorem EF : ∀ l : List Ch, Nd (Bk th A l) ∧ size (Bk th A l) ≤ 1 + 4101 * l.length
 | [] => ⟨GC h, by simp [Bk, JL]⟩
 | x :: l => by
  have h1 := EF l
  have h2 := Ku h hA x
  exact ⟨DH h h2.1 h1.1, by simp only [Bk, Eg, List.length_cons]; omega⟩
theorem Wj (x : Ch) : Oh (IM th A x) (Ce th (Cr th A x) (Cr th A ⟨x.place, !x.minus⟩)) (Bh th.zero []) 100000 := by
 obtain ⟨p, m⟩ := x
 have ha := hA.get p.toNat
 have hn := Kr h ha.1
 have hc := JV h (n := 3) (DH h hn ha.1) (GC h) (args := [A.getD p.toNat Be]) ⟨ha.1, trivial⟩
 simp only [CE, List.length_cons, List.length_nil] at hc
 cases m
 ·have hq := JV h (n := 0) (DH h ha.1 hn) (DH h hn ha.1) (args := [A.getD p.toNat Be, Cu th (A.getD p.toNat Be)]) ⟨ha.1, hn, trivial⟩
  have := FU h hq hc
  simp only [CE, List.length_cons, List.length_nil, Eg, MB, JL] at this
  exact this.up Aw
 exact hc.up Aw
theorem Sl (x : Ch) : ∀ l : List Ch, l.length ≤ 61 → Oh (Ct th A x l).1 (Ce th (Cr th A x) (Bk th A l)) (Bk th A (Ct th A x l).2) (10000000 * (l.length + 1)) ∧ (Ct th A x l).2.length ≤ l.length + 1
 | [], _ => by
  have hx := Ku h hA x
  have hp := DH h hx.1 (GC h)
  have := Lt h hp
  simp only [Eg, JL] at this
  exact ⟨this.up Aq, by simp [Ct]⟩
 | y :: l, hl => by
  simp only [List.length_cons] at hl
  have hx := Ku h hA x
  have hy := Ku h hA y
  have ht := EF h hA l
  have hw := EF h hA (y :: l)
  unfold Ct
  split
  ·have := Lt h (DH h hx.1 hw.1)
   simp only [Eg, List.length_cons] at this hw
   exact ⟨this.up AX, by simp⟩
  have h1 := WU h (JV h (n := 1) (DH h (DH h hx.1 hy.1) ht.1) (DH h hx.1 (DH h hy.1 ht.1)) (args := [Cr th A x, Cr th A y, Bk th A l]) ⟨hx.1, hy.1, ht.1, trivial⟩)
  simp only [CE, List.length_cons, List.length_nil, Eg] at h1
  split
  ·rename_i h2 h3
   have hxy : Cr th A ⟨x.place, !x.minus⟩ = Cr th A y := by
    obtain ⟨px, mx⟩ := x
    obtain ⟨py, my⟩ := y
    simp only at h3 h2 ⊢
    subst h3
    cases mx <;> cases my <;> simp_all
   have h4 := UP h (Wj h hA x) (Lt h ht.1)
   rw [hxy] at h4
   have h5 := JV h (n := 2) (DH h (GC h) ht.1) ht.1 (args := [Bk th A l]) ⟨ht.1, trivial⟩
   have := FU h (FU h h1 h4) h5
   simp only [CE, List.length_cons, List.length_nil, Eg, JL] at this
   exact ⟨this.up AX, by simp; omega⟩
  have hi := Sl x l Aw
  have hti := EF h hA (Ct th A x l).2
  have h4 := UP h (JV h (n := 0) (DH h hx.1 hy.1) (DH h hy.1 hx.1) (args := [Cr th A x, Cr th A y]) ⟨hx.1, hy.1, trivial⟩) (Lt h ht.1)
  have h5 := JV h (n := 1) (DH h (DH h hy.1 hx.1) ht.1) (DH h hy.1 (DH h hx.1 ht.1)) (args := [Cr th A y, Cr th A x, Bk th A l]) ⟨hy.1, hx.1, ht.1, trivial⟩
  have h6 := N7 h (f := Bh th.add [Cr th A y]) (Gs h.add ⟨hy.1, trivial⟩) hi.1
  simp only [MS, List.cons_append, List.nil_append] at h6
  have := FU h (FU h (FU h h1 h4) h5) h6
  have hi2 := hi.2
  simp only [CE, List.length_cons, List.length_nil, Eg, GK] at this
  exact ⟨this.up AX, by simp; omega⟩
theorem UQ (b : List Ch) : ∀ a : List Ch, a.length + b.length ≤ 61 → Oh (DN th A b a).1 (Ce th (Bk th A a) (Bk th A b)) (Bk th A (DN th A b a).2) (700000000 * (a.length + 1)) ∧ (DN th A b a).2.length ≤ a.length + b.length
 | [], hl => by
  have hb := EF h hA b
  have := JV h (n := 2) (DH h (GC h) hb.1) hb.1 (args := [Bk th A b]) ⟨hb.1, trivial⟩
  simp only [CE, List.length_cons, List.length_nil] at this hl
  exact ⟨this.up (by simp only [List.length_nil]; omega), by simp [DN]⟩
 | x :: a, hl => by
  simp only [List.length_cons] at hl
  have hm := UQ b a Aw
  have hi := Sl h hA x (DN th A b a).2 Aw
  have hx := Ku h hA x
  have ha := EF h hA a
  have hb := EF h hA b
  have hr := EF h hA (DN th A b a).2
  have ho := EF h hA (Ct th A x (DN th A b a).2).2
  have h1 := JV h (n := 1) (DH h (DH h hx.1 ha.1) hb.1) (DH h hx.1 (DH h ha.1 hb.1)) (args := [Cr th A x, Bk th A a, Bk th A b]) ⟨hx.1, ha.1, hb.1, trivial⟩
  have h2 := N7 h (f := Bh th.add [Cr th A x]) (Gs h.add ⟨hx.1, trivial⟩) hm.1
  simp only [MS, List.cons_append, List.nil_append] at h2
  have := FU h (FU h h1 h2) hi.1
  have hm2 := hm.2
  have hi2 := hi.2
  simp only [CE, List.length_cons, List.length_nil, Eg, GK] at this
  exact ⟨this.up AX, by simp only [DN, List.length_cons]; omega⟩
theorem Tc (x : Ch) : Oh (JI th A x) (Cu th (Cr th A x)) (Cr th A ⟨x.place, !x.minus⟩) 10000 := by
 obtain ⟨p, m⟩ := x
 have ha := hA.get p.toNat
 have hx := Ku h hA ⟨p, m⟩
 cases m
 ·have := Lt h (Kr h hx.1)
  rw [MB] at this
  exact this.up Aw
 have := JV h (n := 5) (Kr h hx.1) ha.1 (args := [A.getD p.toNat Be]) ⟨ha.1, trivial⟩
 simp only [CE, List.length_cons, List.length_nil] at this
 exact this.up Aw
theorem Sq : ∀ l : List Ch, l.length ≤ 61 → Oh (DE th A l).1 (Cu th (Bk th A l)) (Bk th A (DE th A l).2) (10000000 * (l.length + 1)) ∧ (DE th A l).2.length = l.length
 | [], hl => by
  have := JV h (n := 6) (Kr h (GC h)) (GC h) (args := []) trivial
  simp only [CE, List.length_nil] at this
  exact ⟨this.up Ax, Ay⟩
 | x :: l, hl => by
  simp only [List.length_cons] at hl
  have hn := Sq l Aw
  have hx := Ku h hA x
  have hl1 := EF h hA l
  have hy := Ku h hA ⟨x.place, !x.minus⟩
  have ho := EF h hA (DE th A l).2
  have h1 := JV h (n := 4) (Kr h (DH h hx.1 hl1.1)) (DH h (Kr h hx.1) (Kr h hl1.1)) (args := [Cr th A x, Bk th A l]) ⟨hx.1, hl1.1, trivial⟩
  have := FU h h1 (UP h (Tc h hA x) hn.1)
  have hn2 := hn.2
  simp only [CE, List.length_cons, List.length_nil, Eg, MB] at this
  exact ⟨this.up AX, by simp [DE, hn2]⟩
end
mutual
def Cn : Tm → Prop
 | .mk k i n l ks => ((k ≠ 0 → k ≠ 12 → i = 0) ∧ (k ≠ 3 → n = ⟨#[]⟩) ∧ (k ≠ 2 → k ≠ 3 → l = []) ∧ (ks.length : Int) = arity k) ∧ Xl ks
def Xl : List Tm → Prop
 | [] => True
 | t :: ts => Cn t ∧ Xl ts
end
theorem Wh : ∀ {ks : List Tm}, (∀ (j : Nat) (t : Tm), ks[j]? = some t → Cn t) → Xl ks
 | [], _ => trivial
 | t :: ts, h => ⟨h 0 t rfl, Wh fun j t' ht => h (j + 1) t' (by simpa using ht)⟩
theorem RB : ∀ {ks : List Tm} {t : Tm}, Xl ks → t ∈ ks → Cn t
 | [], t, _, h => by simp at h
 | a :: ts, t, hn, h => by
  rcases List.mem_cons.1 h with rfl | h
  ·exact hn.1
  exact RB hn.2 h
theorem OR : ∀ {a b : List Tm}, Xl (a ++ b) ↔ Xl a ∧ Xl b
 | [], b => by simp [Xl]
 | x :: a, b => by simp only [List.cons_append, Xl, OR (a := a), and_assoc]
theorem Kc : ∀ (t : Tm), Cn t → Cn (CA t).1 ∧ Xl (CA t).2 ∧ apply (CA t).1 (CA t).2 = t
 | .mk k i n l [f, a], h => by
  unfold CA
  split
  ·rename_i hk
   obtain ⟨h1, h2, h3⟩ := Kc f h.2.1
   obtain ⟨e1, e2, e3, _⟩ := h.1
   subst hk
   refine ⟨h1, OR.2 ⟨h2, h.2.2.1, trivial⟩, ?_⟩
   simp only
   rw [← VE, h3, e1 Av Av, e2 Av, e3 Av Av]
   rfl
  ·exact ⟨h, trivial, Ay⟩
 | .mk k i n l [], h => by unfold CA; exact ⟨h, trivial, rfl⟩
 | .mk k i n l [a], h => by unfold CA; exact ⟨h, trivial, rfl⟩
 | .mk k i n l (a :: b :: c :: r), h => by unfold CA; exact ⟨h, trivial, rfl⟩
mutual
theorem QU : ∀ (t : Tm), OA t → Po (CA t).2
 | .mk k i n l [f, a], h => by
  unfold CA
  split
  ·exact R3 (QU f h.2.1) h.2.2
  ·trivial
 | .mk k i n l [], h => by unfold CA; trivial
 | .mk k i n l [a], h => by unfold CA; trivial
 | .mk k i n l (a :: b :: c :: r), h => by unfold CA; trivial
theorem R3 : ∀ {a b : List Tm}, Po a → Po b → Po (a ++ b)
 | [], b, _, h => h
 | x :: a, b, h, h' => ⟨h.1, R3 h.2 h'⟩
end
theorem Pe : ∀ {ks : List Tm} {t : Tm}, Po ks → t ∈ ks → OA t
 | [], t, _, h => by simp at h
 | a :: ts, t, hn, h => by
  rcases List.mem_cons.1 h with rfl | h
  ·exact hn.1
  exact Pe hn.2 h
theorem QM {a b : ByteArray} (h : a.toList = b.toList) : a = b := by
 rw [Em, Em] at h
 obtain ⟨⟨x⟩⟩ := a
 obtain ⟨⟨y⟩⟩ := b
 simp only at h
 rw [h]
theorem NS {t : Tm} {n : ByteArray} (hc : Cn t) (h : Ds t n = true) : t = .mk 3 0 n [] [] := by
 obtain ⟨k, i, m, l, ks⟩ := t
 simp only [Ds, Tm.kind, Tm.name, Tm.levels, Bool.and_eq_true, beq_iff_eq] at h
 obtain ⟨⟨rfl, h2⟩, h3⟩ := h
 obtain ⟨⟨e1, _, _, e4⟩, _⟩ := hc
 have e5 := QM h2
 rw [e1 Av Av, e5, List.length_eq_zero_iff.1 (by omega : l.length = 0), List.length_eq_zero_iff.1 (by have : arity 3 = 0 := rfl; omega : ks.length = 0)]
theorem WH {th : BY} {t : Tm} (hc : Cn t) (h : (DU th t).1 = 1) : t = Ce th ((DU th t).2.getD 0 Be) ((DU th t).2.getD 1 Be) := by
 obtain ⟨h1, h2, h3⟩ := Kc t hc
 have hl := HU.1 h
 rw [Ho (by rw [h]; decide) (by rw [h]; decide)] at hl ⊢
 unfold DU at h
 split at h
 ·rename_i hn
  simp only [Bool.and_eq_true] at hn
  rw [NS h1 hn.1] at h3
  match hs : (CA t).2, hl with
  | [a, b], _ => rw [hs] at h3; exact h3.symm
 split at h
 ·exact absurd h Ax
 split at h
 ·exact absurd h Ax
 exact absurd h Ax
theorem Zo {th : BY} {t : Tm} (hc : Cn t) (h : (DU th t).1 = 3) : t = Cu th ((DU th t).2.getD 0 Be) := by
 obtain ⟨h1, h2, h3⟩ := Kc t hc
 have hl := HU.2 h
 rw [Ho (by rw [h]; decide) (by rw [h]; decide)] at hl ⊢
 unfold DU at h
 split at h
 ·exact absurd h Ax
 split at h
 ·exact absurd h Ax
 split at h
 ·rename_i hn
  simp only [Bool.and_eq_true] at hn
  rw [NS h1 hn.1] at h3
  match hs : (CA t).2, hl with
  | [a], _ => rw [hs] at h3; exact h3.symm
 exact absurd h Ax
theorem Yf {th : BY} {t : Tm} (hc : Cn t) (h : (DU th t).1 = 2) : t = Bh th.zero [] := by
 obtain ⟨h1, h2, h3⟩ := Kc t hc
 unfold DU at h
 split at h
 ·exact absurd h Ax
 split at h
 ·rename_i hn
  simp only [Bool.and_eq_true, beq_iff_eq] at hn
  rw [NS h1 hn.1, List.length_eq_zero_iff.1 (by omega : (CA t).2.length = 0)] at h3
  exact h3.symm
 split at h
 ·exact absurd h Ax
 exact absurd h Ax
theorem Sy (th : BY) (t : Tm) : (DU th t).1 = 0 ∨ (DU th t).1 = 1 ∨ (DU th t).1 = 2 ∨ (DU th t).1 = 3 := by
 unfold DU
 split
 ·simp
 split
 ·simp
 split <;> simp
theorem T3 : ∀ {a b : List Tm}, Su a → Su b → Su (a ++ b)
 | [], b, _, h => h
 | x :: a, b, h, h' => ⟨h.1, T3 h.2 h'⟩
theorem R1 : ∀ (t : Tm), Fw t → Su (CA t).2
 | .mk k i n l [f, a], h => by
  unfold CA
  split
  ·exact T3 (R1 f h.2.2.2.1) h.2.2.2.2
  ·trivial
 | .mk k i n l [], h => by unfold CA; trivial
 | .mk k i n l [a], h => by unfold CA; trivial
 | .mk k i n l (a :: b :: c :: r), h => by unfold CA; trivial
structure Gj (t : Tm) : Prop where
 cn : Cn t
 nd : Nd t
 nq : OA t
 fw : Fw t
theorem Gj.arg {t : Tm} (h : Gj t) {i : Nat} {x : Tm} (hx : (CA t).2[i]? = some x) : Gj x ∧ size x < size t := by
 obtain ⟨h1, h2, h3⟩ := Kc t h.cn
 refine ⟨⟨RB h2 (List.mem_of_getElem? hx), D7 (Sg t h.nd).2 hx, Pe (QU t h.nq) (List.mem_of_getElem? hx), Ny (R1 t h.fw) (List.mem_of_getElem? hx)⟩, ?_⟩
 have := GQ t
 have := DM hx
 have := size_pos (CA t).1
 omega
theorem Gj.op {th : BY} {t : Tm} (h : Gj t) : ((DU th t).1 = 1 → Gj ((DU th t).2.getD 0 Be) ∧ Gj ((DU th t).2.getD 1 Be) ∧ size ((DU th t).2.getD 0 Be) + size ((DU th t).2.getD 1 Be) < size t) ∧ ((DU th t).1 = 3 → Gj ((DU th t).2.getD 0 Be) ∧ size ((DU th t).2.getD 0 Be) < size t) := by
 constructor
 ·intro ho
  have hl := HU.1 ho
  have hp := WH h.cn ho
  rw [Ho (by rw [ho]; decide) (by rw [ho]; decide)] at hl hp ⊢
  have hz := congrArg size hp
  rw [Eg] at hz
  match hs : (CA t).2, hl with
  | [a, b], _ =>
   rw [hs] at hz
   exact ⟨(h.arg (i := 0) (by rw [hs]; rfl)).1, (h.arg (i := 1) (by rw [hs]; rfl)).1, by omega⟩
 intro ho
 have hl := HU.2 ho
 rw [Ho (by rw [ho]; decide) (by rw [ho]; decide)] at hl ⊢
 match hs : (CA t).2, hl with
 | [a], _ => exact h.arg (i := 0) (by rw [hs]; rfl)
noncomputable def DL (th : BY) : Nat → Tm → List Tm
 | 0, _ => []
 | n + 1, t =>
  if (DU th t).1 = 1 then DL th n ((DU th t).2.getD 0 Be) ++ DL th n ((DU th t).2.getD 1 Be)
  else if (DU th t).1 = 2 then []
  else if (DU th t).1 = 3 then DL th n ((DU th t).2.getD 0 Be)
  else [t]
theorem Fy {l : List Tm} {t : Tm} (h : t ∈ l) : DA l t < l.length ∧ l.getD (DA l t) Be = t := by
 have h1 : DA l t < l.length := List.findIdx_lt_length.2 ⟨t, h, by simp [LI]⟩
 refine ⟨h1, ?_⟩
 have := List.findIdx_getElem (w := h1)
 rw [LI] at this
 unfold DA at h1 ⊢
 simp [List.getD, List.getElem?_eq_getElem h1, this]
theorem M0 {th : BY} {A : List Tm} (h : G4 th) (hA : Vh A) : ∀ (n : Nat) (t : Tm), size t ≤ n → Gj t → size t ≤ 4096 → (DL th n t).length ≤ 61 → (∀ a ∈ DL th n t, a ∈ A) → Oh (B0 th A n t).1 t (Bk th A (B0 th A n t).2) (50000000000 * size t) ∧ (B0 th A n t).2.length ≤ (DL th n t).length
 | 0, t, hn, _, _, _, _ => by have := size_pos t; omega
 | n + 1, t, hn, ht, hs, hl, ha => by
  have hpos := size_pos t
  unfold B0
  unfold DL at hl ha ⊢
  rcases Sy th t with ho | ho | ho | ho
  ·simp only [ho, show ((0 : Int) = 1) = False by decide, show ((0 : Int) = 2) = False by decide, show ((0 : Int) = 3) = False by decide, if_false] at hl ha ⊢
   have hm := Fy (ha t Ax)
   have h1 := WU h (JV h (n := 2) (DH h (GC h) ht.nd) ht.nd (args := [t]) ⟨ht.nd, trivial⟩)
   have h2 := JV h (n := 0) (DH h (GC h) ht.nd) (DH h ht.nd (GC h)) (args := [Bh th.zero [], t]) ⟨GC h, ht.nd, trivial⟩
   have := FU h h1 h2
   simp only [CE, List.length_cons, List.length_nil, Eg, JL] at this
   refine ⟨?_, by simp⟩
   have e : Bk th A [⟨(DA A t : Int), false⟩] = Ce th t (Bh th.zero []) := by
    show Ce th (if false = true then _ else A.getD ((DA A t : Int)).toNat Be) _ = _
    rw [if_neg Av, Int.toNat_natCast, hm.2]
    rfl
   rw [e]
   exact this.up Aw
  ·simp only [ho, if_true] at hl ha ⊢
   obtain ⟨t1, t2, hsz⟩ := ht.op.1 ho
   have hp := WH ht.cn ho
   generalize (DU th t).2.getD 0 Be = x at *
   generalize (DU th t).2.getD 1 Be = y at *
   simp only [List.length_append] at hl
   obtain ⟨p1, q1⟩ := M0 h hA n x Aw t1 Aw Aw (fun a hm => ha a (by simp [hm]))
   obtain ⟨p2, q2⟩ := M0 h hA n y Aw t2 Aw Aw (fun a hm => ha a (by simp [hm]))
   obtain ⟨p3, q3⟩ := UQ h hA (B0 th A n y).2 (B0 th A n x).2 Aw
   have := FU h (UP h p1 p2) p3
   rw [← hp] at this
   have o1 := EF h hA (B0 th A n x).2
   have o2 := EF h hA (B0 th A n y).2
   have o3 := EF h hA (DN th A (B0 th A n y).2 (B0 th A n x).2).2
   simp only [Eg] at this
   exact ⟨this.up Aw, by simp only [List.length_append]; omega⟩
  ·simp only [ho, show ((2 : Int) = 1) = False by decide, if_false, if_true] at hl ha ⊢
   have := Lt h ht.nd
   have e := Yf ht.cn ho
   refine ⟨?_, by simp⟩
   simp only [Bk]
   rw [← e]
   exact this.up Aw
  simp only [ho, show ((3 : Int) = 1) = False by decide, show ((3 : Int) = 2) = False by decide, if_false, if_true] at hl ha ⊢
  obtain ⟨t1, hsz⟩ := ht.op.2 ho
  have hp := Zo ht.cn ho
  generalize (DU th t).2.getD 0 Be = x at *
  obtain ⟨p1, q1⟩ := M0 h hA n x Aw t1 Aw Aw (fun a hm => ha a hm)
  obtain ⟨p3, q3⟩ := Sq h hA (B0 th A n x).2 Aw
  have h2 := N7 h (f := Bh th.neg []) (Gs h.neg trivial) p1
  simp only [MS, List.nil_append] at h2
  have := FU h h2 p3
  rw [show Bh th.neg [x] = t from hp.symm] at this
  have o1 := EF h hA (B0 th A n x).2
  have o3 := EF h hA (DE th A (B0 th A n x).2).2
  simp only [GK, CE, List.length_cons, List.length_nil] at this
  exact ⟨this.up Aw, by omega⟩
end Go.Eu
namespace Go.Proofs.YtapmjpihennhaaaGreatDoor
open Go.Abs Go.Eu
theorem X1 : ∀ (t : Tm), E1 Tryz.prog 97 [.agg ((Bu t).map .p)] (fun v => ∃ b : Bool, v = .p (.bool b) ∧ (b = true → TX t ∧ (t.kind ≠ 3 → t.name.toList = []) ∧ (t.kind ≠ 0 → t.kind ≠ 12 → t.index = 0) ∧ (t.kind ≠ 2 → t.kind ≠ 3 → t.levels = []))) := by
 intro t
 obtain ⟨tk, ti, tn, tl, ts⟩ := t
 refine BH Tryz.func97 Ay gQ (n := 57) Ay Ay (A2 (A0 (BP Ay Ay (Bj Ay) fun b1 => Az Ay Ay (A4 Ay) (A5 Ay (A2 (A2 (Bx [1] 19 (fun y => y = .p (.bool (decide (tk < 0) || decide (tk ≥ 13) || (ts.length : Int) != arity tk))) ?_ ?_)))))))
 ·refine CW (fun k => false) ED (BA Ay Ay (fun _ => A3 CV Ay Ay) trivial (Ba (j := 0) Ay Ay Ay (fun H i hi => A9 (i := i) C9 Ay hi Ay) AA trivial (BA Ay Ay (fun _ => BE Ay Ay Ay) trivial (BA Ay Ay (fun _ => A1 Ay) trivial (J1 6 Ay (fun g => ?_) (fun g => ?_))))))
  ·(try simp only [sd, se] at g)
   exact CY Ay Ay Ay Ay Ay trivial (CY Ay Ay Ay Ay Ay trivial (CY Ay Ay Ay Ay Ay trivial (BA Ay Ay (fun _ => BC Ay Ay) trivial (BA Ay Ay (fun _ => A1 Ay) trivial (CY Ay Ay Ay Ay Ay trivial (CY Ay Ay Ay Ay Ay trivial (CY Ay Ay Ay Ay Ay trivial (CY Ay Ay Ay Ay Ay trivial (CY Ay Ay Ay Ay Ay trivial (CY Ay Ay Ay Ay Ay trivial (CY Ay Ay Ay Ay Ay trivial (BA Ay Ay (fun _ => BC Ay Ay) trivial (CP Ay Ar (⟨Ay, Ay, AK, (by refine pB ?_; first | (simp_all; done) | (rw [decide_eq_false (by omega : ¬ tk < 0), decide_eq_false (by omega : ¬ tk ≥ 13)]; simp [B5]; done)), ⟨Ay, trivial⟩⟩))))))))))))))
  (try simp only [sd, se] at g)
  refine CI Ay Ay Ay Ay (fun _ => A3 CV Ay Ay) trivial (Da (i := 0) Ay Ay Ay Ay Ay (fun H i hi => A9 (i := i) C9 Ay hi Ay) AA trivial (CI Ay Ay Ay Ay (fun _ => BE Ay Ay Ay) trivial (BA Ay Ay (fun _ => BC Ay Ay) trivial (BA Ay Ay (fun _ => A1 Ay) trivial (J1 11 Ay (fun g1 => ?_) (fun g1 => ?_))))))
  ·(try simp only [sd, se] at g1)
   exact CY Ay Ay Ay Ay Ay trivial (CY Ay Ay Ay Ay Ay trivial (CY Ay Ay Ay Ay Ay trivial (CY Ay Ay Ay Ay Ay trivial (CY Ay Ay Ay Ay Ay trivial (CY Ay Ay Ay Ay Ay trivial (CY Ay Ay Ay Ay Ay trivial (BA Ay Ay (fun _ => BC Ay Ay) trivial (CP Ay Ar (⟨Ay, Ay, AK, (by refine pB ?_; first | (simp_all; done) | (rw [decide_eq_false (by omega : ¬ tk < 0), decide_eq_false (by omega : ¬ tk ≥ 13)]; simp [B5]; done)), ⟨Ay, trivial⟩⟩)))))))))
  (try simp only [sd, se] at g1)
  exact CI Ay Ay Ay Ay (fun _ => A3 CV Ay Ay) trivial (Da (i := 0) Ay Ay Ay Ay Ay (fun H i hi => A9 (i := i) DG Ay hi Ay) AA trivial (CI Ay Ay Ay Ay (fun _ => Bo CL Ay (B5 _)) trivial (CI Ay Ay Ay Ay (fun _ => A3 CV Ay Ay) trivial (Da (i := 0) Ay Ay Ay Ay Ay (fun H i hi => A9 (i := i) C9 Ay hi Ay) AA trivial (CI Ay Ay Ay Ay (fun _ => Bp Ay Ay (Z2 tk) Ay) trivial (CI Ay Ay Ay Ay (fun _ => BE Ay Ay Ay) trivial (BA Ay Ay (fun _ => BC Ay Ay) trivial (CP Ay Ar (⟨Ay, Ay, AK, (by refine pB ?_; first | (simp_all; done) | (rw [decide_eq_false (by omega : ¬ tk < 0), decide_eq_false (by omega : ¬ tk ≥ 13)]; simp [B5]; done)), ⟨Ay, trivial⟩⟩)))))))))
 rintro _ rfl
 refine BD Ay (fun c => ?_) (fun c => ?_)
 ·(try simp only [sd, se] at c)
  refine A2 (A0 (Az Ay Ay (A4 Ay) (A5 Ay (BF (⟨Ay, _, [], Bz Ay, nS, ⟨⟨_, Ay, ?_⟩, Ay⟩⟩)))))
  exact fun h => absurd h Ax
 (try simp only [sd, se] at c)
 have hf : TX (.mk tk ti tn tl ts) := by simp only [TX]; omega
 refine BG (A2 (A2 (Bx [1] 32 (fun y => ∃ b : Bool, y = .p (.bool b) ∧ (b = false → tk ≠ 0 → tk ≠ 12 → ti = 0)) ?_ ?_)))
 ·refine A0 (Az Ay Ay (A3 CV Ay Ay) (Az Ay Ay (A9 (i := 0) C9 Ay Ay Ay) (Az Ay Ay (BE Ay Ay Ay) (Az Ay Ay (A1 Ay) (Br 23 Ay (fun g => ?_) (fun g => ?_))))))
  ·(try simp only [sd, se] at g)
   refine A6 Ay Ay Ay Ay (A3 CV Ay Ay) (A6 Ay Ay Ay Ay (A9 (i := 0) C9 Ay Ay Ay) (A6 Ay Ay Ay Ay (BE Ay Ay Ay) (Az Ay Ay (BC Ay Ay) (Az Ay Ay (A1 Ay) (Br 28 Ay (fun g1 => ?_) (fun g1 => ?_))))))
   ·(try simp only [sd, se] at g1)
    exact A6 Ay Ay Ay Ay (A3 CV Ay Ay) (A6 Ay Ay Ay Ay (A9 (i := 0) C9 Ay Ay Ay) (A6 Ay Ay Ay Ay (BE Ay Ay Ay) (Az Ay Ay (BC Ay Ay) (A5 Ay (⟨Ay, Ay, AK, (by refine ⟨_, rfl, fun h => ?_⟩; simp_all; done), ⟨Ay, trivial⟩⟩)))))
   (try simp only [sd, se] at g1)
   exact A7 Ay Ay Ay Ay Ay (A7 Ay Ay Ay Ay Ay (A7 Ay Ay Ay Ay Ay (Az Ay Ay (BC Ay Ay) (A5 Ay (⟨Ay, Ay, AK, (by refine ⟨_, rfl, fun h => ?_⟩; simp_all; done), ⟨Ay, trivial⟩⟩)))))
  (try simp only [sd, se] at g)
  exact A7 Ay Ay Ay Ay Ay (A7 Ay Ay Ay Ay Ay (A7 Ay Ay Ay Ay Ay (Az Ay Ay (BC Ay Ay) (Az Ay Ay (A1 Ay) (A7 Ay Ay Ay Ay Ay (A7 Ay Ay Ay Ay Ay (A7 Ay Ay Ay Ay Ay (Az Ay Ay (BC Ay Ay) (A5 Ay (⟨Ay, Ay, AK, (by refine ⟨_, rfl, fun h => ?_⟩; simp_all; done), ⟨Ay, trivial⟩⟩))))))))))
 rintro _ ⟨q, rfl, hq⟩
 refine BD Ay (fun c1 => ?_) (fun c1 => ?_)
 ·(try simp only [sd, se] at c1)
  refine A2 (A0 (Az Ay Ay (A4 Ay) (A5 Ay (BF (⟨Ay, _, [], Bz Ay, nS, ⟨⟨_, Ay, ?_⟩, Ay⟩⟩)))))
  exact fun h => absurd h Ax
 (try simp only [sd, se] at c1)
 have hix := hq (by simpa using c1)
 refine BG (A2 (A2 (Bx [1] 40 (fun y => ∃ b : Bool, y = .p (.bool b) ∧ (b = false → tk ≠ 3 → tn.toList = [])) ?_ ?_)))
 ·refine A0 (Az Ay Ay (A3 CV Ay Ay) (Az Ay Ay (A9 (i := 0) Ev Ay Ay Ay) (Az Ay Ay (LA Ay Ay) (Az Ay Ay (A1 Ay) (Br 36 Ay (fun g => ?_) (fun g => ?_))))))
  ·(try simp only [sd, se] at g)
   exact A6 Ay Ay Ay Ay (A3 CV Ay Ay) (A6 Ay Ay Ay Ay (A9 (i := 0) C9 Ay Ay Ay) (A6 Ay Ay Ay Ay (BE Ay Ay Ay) (Az Ay Ay (BC Ay Ay) (A5 Ay (⟨Ay, Ay, AK, (by refine ⟨_, rfl, fun h => ?_⟩; simp_all; done), ⟨Ay, trivial⟩⟩)))))
  (try simp only [sd, se] at g)
  exact A7 Ay Ay Ay Ay Ay (A7 Ay Ay Ay Ay Ay (A7 Ay Ay Ay Ay Ay (Az Ay Ay (BC Ay Ay) (A5 Ay (⟨Ay, Ay, AK, (by refine ⟨_, rfl, fun h => ?_⟩; simp_all; done), ⟨Ay, trivial⟩⟩)))))
 rintro _ ⟨r, rfl, hr⟩
 refine BD Ay (fun c2 => ?_) (fun c2 => ?_)
 ·(try simp only [sd, se] at c2)
  refine A2 (A0 (Az Ay Ay (A4 Ay) (A5 Ay (BF (⟨Ay, _, [], Bz Ay, nS, ⟨⟨_, Ay, ?_⟩, Ay⟩⟩)))))
  exact fun h => absurd h Ax
 (try simp only [sd, se] at c2)
 have hn := hr (by simpa using c2)
 refine BG (A2 (A2 (A0 (Az Ay Ay (A3 CV Ay Ay) (Az Ay Ay (A9 (i := 0) C9 Ay Ay Ay) (Az Ay Ay (BE Ay Ay Ay) (A5 Ay (BD Ay (fun c3 => ?_) (fun c3 => ?_)))))))))
 ·(try simp only [sd, se] at c3)
  have hk1 := c3
  refine A2 (A0 (Az Ay Ay (A3 CV Ay Ay) (Az Ay Ay (A9 (i := 0) Ja Ay Ay Ay) (Az Ay Ay (Bo IC Ay (List.length_map _)) (Az Ay Ay (BE Ay Ay Ay) (Az Ay Ay (A4 Ay) (A5 Ay (BF (⟨Ay, _, [], Bz Ay, nS, ⟨⟨_, Ay, ?_⟩, Ay⟩⟩)))))))))
  exact fun _ => ⟨hf, hn, hix, fun k1 _ => absurd hk1 k1⟩
 (try simp only [sd, se] at c3)
 refine BG (A2 (Bx [] 2 (fun y => y = .p (.bool ((((tl.length : Nat) : Int) == (0 : Int)) || ((tk : Int) == (3 : Int))))) ?_ ?_))
 ·refine A0 (Az Ay Ay (A3 CV Ay Ay) (Az Ay Ay (A9 (i := 0) Ja Ay Ay Ay) (Az Ay Ay (Bo IC Ay (List.length_map _)) (Az Ay Ay (BE Ay Ay Ay) (Az Ay Ay (A1 Ay) (Br 52 Ay (fun g => ?_) (fun g => ?_)))))))
  ·(try simp only [sd, se] at g)
   exact A7 Ay Ay Ay Ay Ay (A7 Ay Ay Ay Ay Ay (A7 Ay Ay Ay Ay Ay (Az Ay Ay (BC Ay Ay) (Az Ay Ay (A4 Ay) (A5 Ay ⟨Ay, Ay, AK, AJ, trivial⟩)))))
  (try simp only [sd, se] at g)
  exact A6 Ay Ay Ay Ay (A3 CV Ay Ay) (A6 Ay Ay Ay Ay (A9 (i := 0) C9 Ay Ay Ay) (A6 Ay Ay Ay Ay (BE Ay Ay Ay) (Az Ay Ay (BC Ay Ay) (Az Ay Ay (A4 Ay) (A5 Ay ⟨Ay, Ay, AK, AJ, trivial⟩)))))
 rintro _ rfl
 refine BF (⟨Ay, _, [], Bz Ay, nS, ⟨⟨_, Ay, ?_⟩, Ay⟩⟩)
 exact fun h => ⟨hf, hn, hix, fun k1 k3 => by simp only [Tm.kind] at k1 k3; simp [k3] at h; exact h⟩
theorem Wa : ∀ (n : Nat) (t : Tm) (d vars params metas levels : Int), (size t ≤ n) → (Nd t) → (0 ≤ d) → (d + n < EB) → E1 Tryz.prog 52 [.agg ((Bu t).map .p), .p (I d), .p (I vars), .p (I params), .p (I metas), .p (I levels)] (fun v => ∃ e : Int, v = .p (I e) ∧ (e = 0 → wf vars metas d t ∧ OA t ∧ Cn t)) := by
 intro n
 induction n with
 | zero => intro t d vars params metas levels h; cases t; simp [size] at h
 | succ n ih =>
  intro t d vars params metas levels h1 h2 h3 h4
  simp only [EB] at h4
  obtain ⟨tk, ti, tn, tl, ts⟩ := t
  simp only [size] at h1
  simp only [Nd, Je, EB] at h2
  have hks := Jq ts
  refine BH Tryz.func52 Ay ek (n := 107) Ay Ay (A2 (A0 (BP Ay Ay (Bj Ay) fun b6 => Az Ay Ay (A4 Ay) (A5 Ay (A2 (A2 (A0 (Az Ay Ay (A8 (i := 0) BU Ay Ay Ay) (Du Ay Ay (Bb Ay Ay (X1 (.mk tk ti tn tl ts : Tm)) (.inl Ay)) ?_)))))))))
  rintro _ ⟨b, rfl, hb⟩
  refine Az Ay Ay (Cp Ay) (A5 Ay (BD Ay (fun c => ?_) (fun c => ?_)))
  ·(try simp only [sd, se] at c)
   refine A2 (A0 (Az Ay Ay (A4 Ay) (A5 Ay (BF (⟨Ay, _, [], Bz Ay, nS, ⟨⟨_, Ay, ?_⟩, Ay⟩⟩)))))
   exact fun h => absurd h Av
  (try simp only [sd, se] at c)
  have hf := hb (by simpa using c)
  refine BG (A2 (A2 (Bx [1, 2, 3, 4, 5, 6] 28 (fun y => ∃ b : Bool, y = .p (.bool b) ∧ (b = false → tk = 3 → RO tn)) ?_ ?_)))
  ·refine A0 (Az Ay Ay (A3 CV Ay Ay) (Az Ay Ay (A9 (i := 0) C9 Ay Ay Ay) (Az Ay Ay (BE Ay Ay Ay) (Az Ay Ay (A1 Ay) (Br 23 Ay (fun g => ?_) (fun g => ?_))))))
   ·(try simp only [sd, se] at g)
    refine A6 Ay Ay Ay Ay (A3 CV Ay Ay) (A6 Ay Ay Ay Ay (A9 (i := 0) Ev Ay Ay Ay) (IN Ay Ay Ay Ay (Bb Ay Ay (T4 tn h2.1) (.inl Ay)) ?_))
    rintro _ ⟨b1, rfl, hb1⟩
    exact A6 Ay Ay Ay Ay (Cp Ay) (Az Ay Ay (BC Ay Ay) (A5 Ay (⟨Ay, Ay, AK, (by refine ⟨_, rfl, fun h => ?_⟩; simp_all; done), ⟨Ay, Ay, Ay, Ay, Ay, Ay, trivial⟩⟩)))
   (try simp only [sd, se] at g)
   exact A7 Ay Ay Ay Ay Ay (A7 Ay Ay Ay Ay Ay (A7 Ay Ay Ay Ay Ay (A7 Ay Ay Ay Ay Ay (Az Ay Ay (BC Ay Ay) (A5 Ay (⟨Ay, Ay, AK, (by refine ⟨_, rfl, fun h => ?_⟩; simp_all; done), ⟨Ay, Ay, Ay, Ay, Ay, Ay, trivial⟩⟩))))))
  rintro _ ⟨q, rfl, hq⟩
  refine BD Ay (fun c1 => ?_) (fun c1 => ?_)
  ·(try simp only [sd, se] at c1)
   refine A2 (A0 (Az Ay Ay (A4 Ay) (A5 Ay (BF (⟨Ay, _, [], Bz Ay, nS, ⟨⟨_, Ay, ?_⟩, Ay⟩⟩)))))
   exact fun h => absurd h Av
  (try simp only [sd, se] at c1)
  have hnm := hq (by simpa using c1)
  refine BG (A2 (A2 (A0 (Az Ay Ay (A3 CV Ay Ay) (Az Ay Ay (A9 (i := 0) Ja Ay Ay Ay) (Az Ay Ay (Bo IC Ay (List.length_map _)) (Az Ay Ay (BE Ay Ay Ay) (A5 Ay (BD Ay (fun c2 => ?_) (fun c2 => ?_))))))))))
  ·(try simp only [sd, se] at c2)
   refine A2 (A0 (Az Ay Ay (A4 Ay) (A5 Ay (BF (⟨Ay, _, [], Bz Ay, nS, ⟨⟨_, Ay, ?_⟩, Ay⟩⟩)))))
   exact fun h => absurd h Av
  (try simp only [sd, se] at c2)
  refine BG (A2 (A2 (A0 (Az Ay Ay (A4 Ay) (A5 Ay (BT (B4 (α := Nat) (fun i => ⟨107, mk [(1, .p (I d)), (2, .p (I vars)), (3, .p (I params)), (4, .p (I metas)), (5, .p (I levels)), (6, .ptr b6 0), (13, .p (I (i : Int)))], [.box b6 [.p (I tk), .p (I ti), .p (.str tn), .p (.lst (List.map Dx tl)), .p (.lst (Bg ts))]], []⟩) (fun i => tl.length - i) (fun i => i ≤ tl.length) 0 AS ?_ ?_)))))))
  ·exact By ⟨we Ay, we Ay, we Ay, we Ay, we Ay, we Ay, we Ay, trivial⟩ (leH (is := [0]) Ay (wl (oe Ay) (Dc)))
  rintro i hC
  try simp only at hC
  have hi := hC
  refine A2 (A2 (A0 (Az Ay Ay (A1 Ay) (Az Ay Ay (A3 CV Ay Ay) (Az Ay Ay (A9 (i := 0) Ja Ay Ay Ay) (Az Ay Ay (Bo IC Ay (List.length_map _)) (Az Ay Ay (BE Ay Ay Ay) (A5 Ay (BD Ay (fun c3 => ?_) (fun c3 => ?_))))))))))
  ·(try simp only [sd, se] at c3)
   refine BG (A2 (BT (A2 (A0 (Az Ay Ay (A3 CV Ay Ay) (Az Ay Ay (A9 (i := 0) Ja Ay Ay Ay) (Az Ay Ay (A1 Ay) ?_)))))))
   obtain ⟨x, hx⟩ := BO (l := tl) (i := i) Aw
   refine Az Ay Ay (BI IC Ay Ay Aw (Kv hx) (Ay)) (Az Ay Ay (Bq E0 Ay (Ay)) (Az Ay Ay (A1 Ay) (Az Ay Ay (A1 Ay) (Du Ay Ay (Bb Ay Ay (Y9 x params levels (h2.2.2.1 _ (List.mem_of_getElem? hx))) (.inl Ay)) ?_))))
   rintro _ ⟨le, rfl⟩
   refine Az Ay Ay (A4 Ay) (A5 Ay (A2 (A0 (Az Ay Ay (A1 Ay) (Az Ay Ay (BE Ay Ay Ay) (A5 Ay (BD Ay (fun c4 => ?_) (fun c4 => ?_))))))))
   ·(try simp only [sd, se] at c4)
    refine A2 (A0 (Az Ay Ay (A1 Ay) (Az Ay Ay (A4 Ay) (A5 Ay (BF (⟨Ay, _, [], Bz Ay, nS, ⟨⟨_, Ay, ?_⟩, Ay⟩⟩))))))
    exact fun h => absurd h As
   (try simp only [sd, se] at c4)
   refine BG (A0 (Az Ay Ay (A1 Ay) (Az Ay Ay (CH Ay Ay Aw Aw) (Az Ay Ay (A4 Ay) (A5 Ay ?_)))))
   refine ⟨(i + 1), AZ, by omega, By ⟨we rfl, we rfl, we rfl, we rfl, we rfl, we rfl, we rfl, trivial⟩ (leH (is := [0]) rfl (wl (oe rfl) (Dc)))⟩
  (try simp only [sd, se] at c3)
  refine B7 (A2 (A2 (Bx [1, 2, 3, 4, 5, 6] 66 (fun y => ∃ b : Bool, y = .p (.bool b) ∧ (b = false → tk = 0 → 0 ≤ ti ∧ ti - d < vars)) ?_ ?_)))
  ·refine A0 (Az Ay Ay (A3 CV Ay Ay) (Az Ay Ay (A9 (i := 0) C9 Ay Ay Ay) (Az Ay Ay (BE Ay Ay Ay) (Az Ay Ay (A1 Ay) (Br 54 Ay (fun g => ?_) (fun g => ?_))))))
   ·(try simp only [sd, se] at g)
    refine A6 Ay Ay Ay Ay (A3 CV Ay Ay) (A6 Ay Ay Ay Ay (A9 (i := 0) C9 Ay Ay Ay) (A6 Ay Ay Ay Ay (BE Ay Ay Ay) (A6 Ay Ay Ay Ay (A1 Ay) (Br 58 Ay (fun g1 => ?_) (fun g1 => ?_)))))
    ·(try simp only [sd, se] at g1)
     refine A7 Ay Ay Ay Ay Ay (A7 Ay Ay Ay Ay Ay (A7 Ay Ay Ay Ay Ay (A7 Ay Ay Ay Ay Ay (A7 Ay Ay Ay Ay Ay (A7 Ay Ay Ay Ay Ay (A6 Ay Ay Ay Ay (BC Ay Ay) (Az Ay Ay (BC Ay Ay) (A5 Ay ?_))))))))
     exact ⟨rfl, rfl, AK, (by refine ⟨_, rfl, fun h => ?_⟩; first | (simp_all; done) | (simp_all <;> omega)), ⟨rfl, rfl, rfl, rfl, rfl, rfl, trivial⟩⟩
    (try simp only [sd, se] at g1)
    refine A6 Ay Ay Ay Ay (A3 CV Ay Ay) (A6 Ay Ay Ay Ay (A9 (i := 0) C9 Ay Ay Ay) (A6 Ay Ay Ay Ay (A1 Ay) (A6 Ay Ay Ay Ay (FH Ay Ay Aw Aw) (A6 Ay Ay Ay Ay (A1 Ay) (A6 Ay Ay Ay Ay (BE Ay Ay Ay) (A6 Ay Ay Ay Ay (BC Ay Ay) (Az Ay Ay (BC Ay Ay) (A5 Ay ?_))))))))
    exact ⟨rfl, rfl, AK, (by refine ⟨_, rfl, fun h => ?_⟩; first | (simp_all; done) | (simp_all <;> omega)), ⟨rfl, rfl, rfl, rfl, rfl, rfl, trivial⟩⟩
   (try simp only [sd, se] at g)
   refine A7 Ay Ay Ay Ay Ay (A7 Ay Ay Ay Ay Ay (A7 Ay Ay Ay Ay Ay (A7 Ay Ay Ay Ay Ay (CD Ay Ay Ay Ay (CD Ay Ay Ay Ay (CD Ay Ay Ay Ay (CD Ay Ay Ay Ay (CD Ay Ay Ay Ay (CD Ay Ay Ay Ay (A7 Ay Ay Ay Ay Ay (Az Ay Ay (BC Ay Ay) (A5 Ay ?_))))))))))))
   exact ⟨rfl, rfl, AK, (by refine ⟨_, rfl, fun h => ?_⟩; first | (simp_all; done) | (simp_all <;> omega)), ⟨rfl, rfl, rfl, rfl, rfl, rfl, trivial⟩⟩
  rintro _ ⟨r, rfl, hr⟩
  refine BD Ay (fun c4 => ?_) (fun c4 => ?_)
  ·(try simp only [sd, se] at c4)
   refine A2 (A0 (Az Ay Ay (A4 Ay) (A5 Ay (BF (⟨Ay, _, [], Bz Ay, nS, ⟨⟨_, Ay, ?_⟩, Ay⟩⟩)))))
   exact fun h => absurd h Av
  (try simp only [sd, se] at c4)
  have hv1 := hr (by simpa using c4)
  refine BG (A2 (A2 (Bx [1, 2, 3, 4, 5, 6] 80 (fun y => ∃ b : Bool, y = .p (.bool b) ∧ (b = false → tk = 12 → 0 ≤ ti ∧ ti < metas)) ?_ ?_)))
  ·refine A0 (Az Ay Ay (A3 CV Ay Ay) (Az Ay Ay (A9 (i := 0) C9 Ay Ay Ay) (Az Ay Ay (BE Ay Ay Ay) (Az Ay Ay (A1 Ay) (Br 70 Ay (fun g => ?_) (fun g => ?_))))))
   ·(try simp only [sd, se] at g)
    refine A6 Ay Ay Ay Ay (A3 CV Ay Ay) (A6 Ay Ay Ay Ay (A9 (i := 0) C9 Ay Ay Ay) (A6 Ay Ay Ay Ay (BE Ay Ay Ay) (A6 Ay Ay Ay Ay (A1 Ay) (Br 74 Ay (fun g1 => ?_) (fun g1 => ?_)))))
    ·(try simp only [sd, se] at g1)
     refine A7 Ay Ay Ay Ay Ay (A7 Ay Ay Ay Ay Ay (A7 Ay Ay Ay Ay Ay (A7 Ay Ay Ay Ay Ay (A6 Ay Ay Ay Ay (BC Ay Ay) (Az Ay Ay (BC Ay Ay) (A5 Ay ?_))))))
     exact ⟨rfl, rfl, AK, (by refine ⟨_, rfl, fun h => ?_⟩; first | (simp_all; done) | (simp_all <;> omega)), ⟨rfl, rfl, rfl, rfl, rfl, rfl, trivial⟩⟩
    (try simp only [sd, se] at g1)
    refine A6 Ay Ay Ay Ay (A3 CV Ay Ay) (A6 Ay Ay Ay Ay (A9 (i := 0) C9 Ay Ay Ay) (A6 Ay Ay Ay Ay (A1 Ay) (A6 Ay Ay Ay Ay (BE Ay Ay Ay) (A6 Ay Ay Ay Ay (BC Ay Ay) (Az Ay Ay (BC Ay Ay) (A5 Ay ?_))))))
    exact ⟨rfl, rfl, AK, (by refine ⟨_, rfl, fun h => ?_⟩; first | (simp_all; done) | (simp_all <;> omega)), ⟨rfl, rfl, rfl, rfl, rfl, rfl, trivial⟩⟩
   (try simp only [sd, se] at g)
   refine A7 Ay Ay Ay Ay Ay (A7 Ay Ay Ay Ay Ay (A7 Ay Ay Ay Ay Ay (A7 Ay Ay Ay Ay Ay (CD Ay Ay Ay Ay (CD Ay Ay Ay Ay (CD Ay Ay Ay Ay (CD Ay Ay Ay Ay (A7 Ay Ay Ay Ay Ay (Az Ay Ay (BC Ay Ay) (A5 Ay ?_))))))))))
   exact ⟨rfl, rfl, AK, (by refine ⟨_, rfl, fun h => ?_⟩; first | (simp_all; done) | (simp_all <;> omega)), ⟨rfl, rfl, rfl, rfl, rfl, rfl, trivial⟩⟩
  rintro _ ⟨r2, rfl, hr2⟩
  refine BD Ay (fun c5 => ?_) (fun c5 => ?_)
  ·(try simp only [sd, se] at c5)
   refine A2 (A0 (Az Ay Ay (A4 Ay) (A5 Ay (BF (⟨Ay, _, [], Bz Ay, nS, ⟨⟨_, Ay, ?_⟩, Ay⟩⟩)))))
   exact fun h => absurd h Av
  (try simp only [sd, se] at c5)
  have hv2 := hr2 (by simpa using c5)
  refine BG (A2 (A2 (A0 (Az Ay Ay (A4 Ay) (A5 Ay (BT ?_))))))
  refine B4 (α := Nat) (fun i => ⟨107, mk [(1, .p (I d)), (2, .p (I vars)), (3, .p (I params)), (4, .p (I metas)), (5, .p (I levels)), (6, .ptr b6 0), (15, .p (I (i : Int)))], [.box b6 [.p (I tk), .p (I ti), .p (.str tn), .p (.lst (List.map Dx tl)), .p (.lst (Bg ts))]], []⟩) (fun i => ts.length - i) (fun i => i ≤ ts.length ∧ (∀ j, j < i → ∀ x, ts[j]? = some x → wf vars metas (d + below tk j) x ∧ OA x ∧ Cn x)) 0 (⟨by omega, fun j h => by omega⟩) ?_ ?_
  ·exact By ⟨we Ay, we Ay, we Ay, we Ay, we Ay, we Ay, we Ay, trivial⟩ (leH (is := [0]) Ay (wl (oe Ay) (Dc)))
  rintro i hC1
  try simp only at hC1
  obtain ⟨hi, hC⟩ := hC1
  have hbl := EX tk i
  refine A2 (A2 (A0 (Az Ay Ay (A1 Ay) (Az Ay Ay (A3 CV Ay Ay) (Az Ay Ay (A9 (i := 0) DG Ay Ay Ay) (Az Ay Ay (Bo CL Ay (B5 _)) (Az Ay Ay (BE Ay Ay Ay) (A5 Ay (BD Ay (fun c6 => ?_) (fun c6 => ?_))))))))))
  ·(try simp only [sd, se] at c6)
   refine BG (A2 (BT (A2 (CW (fun k => Nat.beq k 15) ED (BA Ay Ay (fun _ => A3 CV Ay Ay) trivial (Ba (j := 0) Ay Ay Ay (fun H i hi => A9 (i := i) DG Ay hi Ay) AA trivial (BA Ay Ay (fun _ => A1 Ay) trivial ?_)))))))
   obtain ⟨x, hx⟩ := BO (l := ts) (i := i) Aw
   refine BA Ay Ay (fun _ => BI CL Ay Ay Aw (CU hx) (Bd _)) trivial (BA Ay Ay (fun _ => Bq BU Ay (Bd _)) trivial (BA Ay Ay (fun _ => A1 Ay) trivial (BA Ay Ay (fun _ => A3 CV Ay Ay) trivial (Ba (j := 0) Ay Ay Ay (fun H i hi => A9 (i := i) C9 Ay hi Ay) AA trivial (BA Ay Ay (fun _ => A1 Ay) trivial (BA Ay Ay (fun _ => Bp Ay Ay (UW tk (i : Int)) Ay) trivial (BA Ay Ay (fun _ => CH Ay Ay Aw Aw) trivial (BA Ay Ay (fun _ => A1 Ay) trivial (BA Ay Ay (fun _ => A1 Ay) trivial (BA Ay Ay (fun _ => A1 Ay) trivial (BA Ay Ay (fun _ => A1 Ay) trivial ?_)))))))))))
   refine JD [] Ay Ay (Bb Ay Ay (ih x ((d : Int) + (below tk (i : Int) : Int)) vars params metas levels (by have := DM hx; omega) (D7 h2.2.2.2.2.1 hx) (by have := EX tk i; omega) (by have := EX tk i; simp only [EB]; omega)) (.inl Ay)) Ar (⟨_, 1, Ay, fun h => absurd h Av⟩) AA ?_
   rintro _ ⟨e, rfl, he⟩
   refine ⟨trivial, ?_⟩
   refine BA Ay Ay (fun _ => A4 Ay) trivial (CP Ay Ar (A2 (A0 (Az Ay Ay (A1 Ay) (Az Ay Ay (BE Ay Ay Ay) (A5 Ay (BD Ay (fun c7 => ?_) (fun c7 => ?_))))))))
   ·(try simp only [sd, se] at c7)
    refine A2 (A0 (Az Ay Ay (A1 Ay) (Az Ay Ay (A4 Ay) (A5 Ay (BF (⟨Ay, _, [], Bz Ay, nS, ⟨⟨_, Ay, ?_⟩, Ay⟩⟩))))))
    exact fun h => absurd h As
   (try simp only [sd, se] at c7)
   refine BG (A0 (Az Ay Ay (A1 Ay) (Az Ay Ay (CH Ay Ay Aw Aw) (Az Ay Ay (A4 Ay) (A5 Ay (⟨(i + 1), AZ, ⟨by omega, D5 hC hx (he Aw)⟩, By ⟨we rfl, we rfl, we rfl, we rfl, we rfl, we rfl, we rfl, trivial⟩ (leH (is := [0]) rfl (wl (oe rfl) (Dc)))⟩))))))
  (try simp only [sd, se] at c6)
  refine B7 (A2 (A0 (Az Ay Ay (A4 Ay) (A5 Ay (BF (⟨Ay, _, [], Bz Ay, nS, ⟨⟨_, Ay, ?_⟩, Ay⟩⟩))))))
  have hq0 : ∀ c ∈ tn.data.toList, UJ c := if h : tk = 3 then Xg (hnm h) else X0 (hf.2.1 h)
  exact fun _ => ⟨⟨hf.1.1, hf.1.2.1, hf.1.2.2, hv1, hv2, WO fun j x hx => by have h9 := (hC j (by have := (List.getElem?_eq_some_iff.1 hx).1; omega) x hx).1; simpa using h9⟩, ⟨hq0, UA fun j x hx => (hC j (by have := (List.getElem?_eq_some_iff.1 hx).1; omega) x hx).2.1⟩, ⟨⟨hf.2.2.1, fun k => QM ((hf.2.1 k).trans (by rw [Em])), hf.2.2.2, hf.1.2.2⟩, Wh fun j x hx => (hC j (by have := (List.getElem?_eq_some_iff.1 hx).1; omega) x hx).2.2⟩⟩
end Go.Proofs.YtapmjpihennhaaaGreatDoor
namespace Go.Abs
theorem NJ (a : ByteArray) : (a == a) = true := (MapKept.bytes_beq a a).2 rfl
theorem Ug {a b : ByteArray} (h : a ≠ b) : (a == b) = false := by
 cases e : (a == b)
 ·rfl
 exact absurd ((MapKept.bytes_beq a b).1 e) h
def LO (k : ByteArray) : List (ByteArray × AV) → Option AV
 | [] => none
 | (j, x) :: r => if j = k then some x else LO k r
def sset (k : ByteArray) (v : AV) : List (ByteArray × AV) → List (ByteArray × AV)
 | [] => [(k, v)]
 | (j, x) :: r => if j = k then (j, v) :: r else (j, x) :: sset k v r
def EG (l : List (ByteArray × AV)) : List (PV × AV) := l.map fun p => (.str p.1, p.2)
def Ls (P : Program) (T : TypeId) : Option TypeId :=
 match P.underlying T with
 | some (.map k e) => match P.underlying k with
  | some .string => some e
  | _ => none
 | _ => none
theorem NV {P : Program} {T e : TypeId} (h : Ls P T = some e) : ∃ k, P.underlying T = some (.map k e) ∧ P.underlying k = some .string := by
 unfold Ls at h
 split at h
 ·rename_i k e' hu
  split at h
  ·rename_i hk; injection h with h; subst h; exact ⟨k, hu, hk⟩
  cases h
 cases h
section
variable {F : Nat → Prop} {w : World}
theorem NI {k : ByteArray} : ∀ {l : List (ByteArray × AV)} {es : List MapEntry} (i : Nat), D3 F w (EG l) es →
  (LO k l = none ∧ Instr.findNow .string (.string k) es i = some none) ∨ ∃ j e x, LO k l = some x ∧ Instr.findNow .string (.string k) es i = some (some (i + j, e.val)) ∧ es[j]? = some e ∧ e.key = .string k ∧ Cc F w x e.val
 | [], es, i, h => by simp only [EG, List.map_nil, D3] at h; subst h; exact .inl ⟨rfl, rfl⟩
 | (j, x) :: l, es, i, h => by
  simp only [EG, List.map_cons, D3] at h
  obtain ⟨e, es', rfl, hk, hx, hr⟩ := h
  simp only [Cg] at hk
  by_cases hj : j = k
  ·subst hj
   exact .inr ⟨0, e, x, by simp [LO], by simp [Instr.findNow, hk, Instr.sameNow, NJ], rfl, hk, hx⟩
  have hne : (k == j) = false := Ug (Ne.symm hj)
  rcases NI (k := k) (i + 1) hr with ⟨h1, h2⟩ | ⟨q, e', x', h1, h2, h3, h4, h5⟩
  ·exact .inl ⟨by simp [LO, hj, h1], by simp [Instr.findNow, hk, Instr.sameNow, hne, h2]⟩
  exact .inr ⟨q + 1, e', x', by simp [LO, hj, h1], by simp [Instr.findNow, hk, Instr.sameNow, hne, h2]; omega, by simpa using h3, h4, h5⟩
theorem QI {k : ByteArray} {v : AV} {u : Value} {c : Nat} : ∀ {l : List (ByteArray × AV)} {es : List MapEntry}, D3 F w (EG l) es → LO k l = none → Cc F w v u → D3 F w (EG (sset k v l)) (es ++ [{ key := .string k, val := u, born := c }])
 | [], es, h, _, hv => by
  simp only [EG, List.map_nil, D3] at h
  subst h
  simp only [sset, EG, List.map_cons, List.map_nil, List.nil_append, D3]
  exact ⟨_, [], Ay, by simp [Cg], hv, rfl⟩
 | (j, x) :: l, es, h, hm, hv => by
  simp only [EG, List.map_cons, D3] at h
  obtain ⟨e, es', rfl, hk, hx, hr⟩ := h
  by_cases hj : j = k
  ·simp [LO, hj] at hm
  simp only [LO, if_neg hj] at hm
  simp only [sset, if_neg hj, EG, List.map_cons, List.cons_append, D3]
  exact ⟨e, _, Ay, hk, hx, QI hr hm hv⟩
theorem SW {k : ByteArray} {v : AV} {u : Value} : ∀ {l : List (ByteArray × AV)} {es : List MapEntry} {j : Nat} (i : Nat) {y : Value}, D3 F w (EG l) es → Instr.findNow .string (.string k) es i = some (some (i + j, y)) → Cc F w v u → D3 F w (EG (sset k v l)) (es.modify j fun e => { e with key := .string k, val := u })
 | [], es, j, i, y, h, hf, _ => by simp only [EG, List.map_nil, D3] at h; subst h; simp [Instr.findNow] at hf
 | (q, x) :: l, es, j, i, y, h, hf, hv => by
  simp only [EG, List.map_cons, D3] at h
  obtain ⟨e, es', rfl, hk, hx, hr⟩ := h
  simp only [Cg] at hk
  by_cases hj : q = k
  ·subst hj
   simp [Instr.findNow, hk, Instr.sameNow, NJ] at hf
   obtain ⟨rfl, _⟩ : j = 0 ∧ True := ⟨by omega, trivial⟩
   simp only [sset, if_true, EG, List.map_cons, D3]
   exact ⟨_, es', Ay, by simp [Cg], hv, hr⟩
  have hne : (k == q) = false := Ug (Ne.symm hj)
  simp only [Instr.findNow, hk, Instr.sameNow, if_true, hne] at hf
  cases j with
  | zero =>
   have : ∀ (es : List MapEntry) (m : Nat) (y : Value) (r : Nat), Instr.findNow .string (.string k) es m = some (some (r, y)) → m ≤ r := by
    intro es
    induction es with
    | nil => intro m y r h; simp [Instr.findNow] at h
    | cons e es ih =>
     intro m y r h
     simp only [Instr.findNow] at h
     split at h
     ·simp at h; omega
     ·have := ih _ _ _ h; omega
     cases h
   have := this _ _ _ _ hf
   omega
  | succ j =>
   simp only [sset, if_neg hj, EG, List.map_cons, List.modify_succ_cons, D3]
   exact ⟨e, _, Ay, by simpa [Cg] using hk, hx, SW (i + 1) hr (by rw [show i + 1 + j = i + (j + 1) by omega]; exact hf) hv⟩
end
section
variable {P : Program} {dst : Option Tmp} {ty : TypeId} {pos : String} {aft : Array Edge} {g : Option (Nat × Bool)} {ρ : Operand → AV} {H : List Bc} {x y z : Operand} {v : AV}
theorem P1 {T e : TypeId} {b i : Nat} {l : List (ByteArray × AV)} {k : ByteArray} {zv : Value} {za : AV} (hT : Ls P T = some e) (hz : zeroOf P e = some zv) (hza : ∀ F w, Cc F w za zv) (hx : ρ x = .map b) (hy : ρ y = .p (.str k)) (hi : H[i]? = some (.map b (EG l))) :
  Dw P ⟨dst, .lookup T x y true, ty, pos, aft, g⟩ ρ H (.tup [(LO k l).getD za, .p (.bool (LO k l).isSome)]) H :=
 Cd fun F w E hH hE => by
  obtain ⟨kt, hu, hk⟩ := NV hT
  have h1 := hE x Ai
  have h2 := hE y Ai
  rw [hx] at h1
  rw [hy] at h2
  simp only [Cc, Cg] at h1 h2
  obtain ⟨es, clk, hb, hr⟩ := hH.obj _ (List.mem_of_getElem? hi)
  have hzv : (zeroValue e).run P w = .ok zv w := by
   unfold zeroOf at hz
   cases hi : P.info? e with
   | none => simp [hi] at hz
   | some i => have hz' : i.zero = some zv := by simpa [hi] using hz
               simp [zeroValue, typeInfo, hi, hz', Sem.run_bind]
  have hkey : MapKept.IsKey .string (.string k) := trivial
  rcases NI (k := k) 0 hr with ⟨h3, h4⟩ | ⟨j, e', x', h3, h4, h5, h6, h7⟩
  ·refine ⟨.tuple #[zv, .bool false], ?_, ?_⟩
   ·simp [execOp, Instr.lookup, Sem.run_bind, run_underlying hu, h1, h2, MapKept.run_getObj_map hb, MapKept.run_checkKey hk hkey, MapKept.run_findKey hk h4, hzv]
   simp only [h3, Cc, CF, Cg]
   exact ⟨[zv, .bool false], Ay, _, _, Ay, hza F w, _, _, Ay, Ay, Ay⟩
  refine ⟨.tuple #[e'.val, .bool true], ?_, ?_⟩
  ·simp [execOp, Instr.lookup, Sem.run_bind, run_underlying hu, h1, h2, MapKept.run_getObj_map hb, MapKept.run_checkKey hk hkey, MapKept.run_findKey hk h4]
  simp only [h3, Cc, CF, Cg]
  exact ⟨[e'.val, .bool true], Ay, _, _, Ay, h7, _, _, Ay, Ay, Ay⟩
theorem Ou {T e : TypeId} {b i : Nat} {l : List (ByteArray × AV)} {k : ByteArray} {va : AV} (hT : Ls P T = some e) (hx : ρ x = .map b) (hy : ρ y = .p (.str k)) (hz : ρ z = va) (hi : H[i]? = some (.map b (EG l))) :
  Dw P ⟨dst, .mapUpdate T x y z, ty, pos, aft, g⟩ ρ H (.p .any) (H.set i (.map b (EG (sset k va l)))) :=
 (HW (R := eg (.p .any) (H.set i (.map b (EG (sset k va l))))) fun F w E hH hE => by
  obtain ⟨kt, hu, hk⟩ := NV hT
  have h1 := hE x Ai
  have h2 := hE y Ai
  have h0 := hE z Ai
  rw [hx] at h1
  rw [hy] at h2
  rw [hz] at h0
  simp only [Cc, Cg] at h1 h2
  obtain ⟨es, clk, hb, hr⟩ := hH.obj _ (List.mem_of_getElem? hi)
  have hFb : F b := hH.sub _ (List.mem_of_getElem? hi) b rfl
  have hlt := hH.bd b hFb
  have hkey : MapKept.IsKey .string (.string k) := trivial
  have fin : ∀ (es' : Array MapEntry) (clk' : Nat), D3 F w (EG (sset k va l)) es'.toList → Trans F H w F (H.set i (.map b (EG (sset k va l)))) { w with heap := w.heap.setIfInBounds b (.map es' clk') } ∧ HRel F (H.set i (.map b (EG (sset k va l)))) { w with heap := w.heap.setIfInBounds b (.map es' clk') } := by
   intro es' clk' hr'
   have hw : GH b (.map es' clk') w { w with heap := w.heap.setIfInBounds b (.map es' clk') } := ⟨rfl, rfl, rfl, rfl⟩
   have st := hw.stable hFb
   exact ⟨hw.trans hi Ay Ay, hw.HRel hH hi Ay Ay ⟨es', clk', hw.self hlt, D3.mono st _ _ hr'⟩⟩
  rcases NI (k := k) 0 hr with ⟨h3, h4⟩ | ⟨j, e', x', h3, h4, h5, h6, h7⟩
  ·have hr' := QI (c := clk) hr h3 h0
   obtain ⟨f1, f2⟩ := fin (es.push { key := .string k, val := E z, born := clk }) (clk + 1) (by simpa using hr')
   refine ⟨_, _, F, ?_, ⟨Ay, Ay⟩, f1, f2⟩
   simp [execOp, Instr.mapUpdate, Sem.run_bind, run_underlying hu, h1, h2, MapKept.run_getObj_map hb, MapKept.run_checkKey hk hkey, MapKept.run_findKey hk h4, MapKept.run_setObj_map _ hb]
  have hr' := SW (v := va) (u := E z) 0 hr h4 h0
  obtain ⟨f1, f2⟩ := fin (es.modify j fun e => { e with key := .string k, val := E z }) clk (by simpa using hr')
  refine ⟨_, _, F, ?_, ⟨Ay, Ay⟩, f1, f2⟩
  have h5' : es[j]? = some e' := by simpa using h5
  simp [execOp, Instr.mapUpdate, Sem.run_bind, run_underlying hu, h1, h2, MapKept.run_getObj_map hb, MapKept.run_checkKey hk hkey, MapKept.run_findKey hk h4, MapKept.run_setObj_map _ hb, h5', h6, Instr.keyThatStays, Instr.sameBits, NJ])
end
section
variable {P : Program} {dst : Option Tmp} {ty : TypeId} {pos : String} {aft : Array Edge} {g : Option (Nat × Bool)} {ρ : Operand → AV} {H : List Bc} {x y z : Operand} {v : AV}
def appendTR (i : Nat) (e : TypeId) (rows : List (List PV)) (H : List Bc) : D1 → List Bc → Prop
 | .val v, H' => ∃ o c, v = .vs o rows.length c ∧ H' = H.set i (.vecT o e false rows c)
 | .panic _, _ => False
theorem Wm {F : Nat → Prop} {w : World} {o : Option Nat} {e : TypeId} {rows : List (List PV)} {c : Nat} (h : G5 F w (.vecT o e false rows c)) : G5 F w (.vec o 1 rows c) := by
 cases o with
 | none => exact h
 | some b =>
  obtain ⟨vs, h1, h2, h3, h4⟩ := h
  exact ⟨vs, e, by simpa using h1, by omega, h3, h4⟩
theorem VR {F : Nat → Prop} {w : World} {c : Nat} {rows : List (List PV)} {vs : List Value} {T : TypeId} (hH : HRel F H w) (hr : ∀ r ∈ rows, r.length = 1) (hl : CF F w (rows.flatten.map .p) (vs.take rows.flatten.length)) (hc : c ≤ vs.length) (hcl : rows.length ≤ c) :
  ∃ v H' F', (∃ b c, v = .vs (some b) rows.length c ∧ H' = .vecT (some b) T false rows c :: H) ∧ Trans F H w F' H' (World.push w (.cells ⟨vs⟩ T (0, 0))) ∧ HRel F' H' (World.push w (.cells ⟨vs⟩ T (0, 0))) ∧ Cc F' (World.push w (.cells ⟨vs⟩ T (0, 0))) v (.slice (some ⟨w.heap.size, 0, none⟩) rows.length c) := by
 refine ⟨.vs (some w.heap.size) rows.length c, _, _, ⟨w.heap.size, c, Ay, Ay⟩, Ih H (.vecT (some w.heap.size) T false rows c) _ (.inl Ay), ?_, by simp [Cc]⟩
 refine JS hH (.vecT (some w.heap.size) T false rows c) _ Ay ?_
 refine ⟨⟨vs⟩, Hw _, by simpa using hc, hcl, ?_⟩
 refine HR (vs := vs.take rows.flatten.length) hr ?_ (CF.mono (Fz _ fun b h => h) _ _ hl)
 have := Hg (Hw (w := w) (.cells ⟨vs⟩ T (0, 0))) 0 rows.flatten.length
 simpa using this
theorem Og {T T2 e : TypeId} {bytes c i n : Nat} {o : Option Nat} {rows : List (List PV)} {s : ByteArray} {zv : Value} (hT : Fk P T = some (e, 1, bytes)) (hu2 : P.underlying T2 = some .string) (hz : zeroOf P e = some zv) (hzs : zv.cells.size = 1) (hb0 : Nat.blt 0 bytes = true)
  (hx : ρ x = .vs o n c) (hn : n = rows.length) (hi : H[i]? = some (.vecT o e false rows c)) (hy : ρ y = .p (.str s)) (hroom : 2 * (rows.length + s.size) * bytes ≤ 281474976710656) :
  DZ P ⟨dst, .call { callee := .builtin .append, args := #[x, y], argTypes := #[T, T2] }, ty, pos, aft, g⟩ ρ H (appendTR i e (rows ++ E3 s) H) :=
 Gq fun F w E hH hE => by
  subst hn
  obtain ⟨sz, hsz⟩ : ∃ sz, sz = 1 := ⟨1, rfl⟩
  obtain ⟨rows', hrw⟩ : ∃ r, r = E3 s := ⟨_, rfl⟩
  have hsol : ∀ r ∈ rows', Dg sz r := by subst hsz; subst hrw; exact Px s
  have hsl : rows'.length = s.size := by subst hrw; exact Hp s
  rw [← hrw]
  rw [← hsl] at hroom
  rw [← hsz] at hT hzs
  have hr' : ∀ r ∈ rows', r.length = sz := fun r hr => (hsol r hr).1
  have hb0 : (Nat.blt 0 sz && Nat.blt 0 bytes) = true := by subst hsz; simpa using hb0
  simp only [Bool.and_eq_true, Nat.blt_eq] at hb0
  obtain ⟨hu, inf, hinf, hs, hby⟩ := GD hT
  have h1 := hE x Aa
  have h2 := hE y Aa
  rw [hx] at h1
  rw [hy] at h2
  have hobjT := hH.obj _ (List.mem_of_getElem? hi)
  have hobj : G5 F w (.vec o sz rows c) := by subst hsz; exact Wm hobjT
  obtain ⟨ns, hEy, hns, hnsl, hnsr⟩ := KV (P := P) h2 hrw.symm hsz
  obtain ⟨os, hos, hosl, hosr⟩ := Gl (P := P) hobj h1
  have hEx : ∃ base, E x = .slice base rows.length c ∧ (∀ b, o = some b → base = some ⟨b, 0, none⟩) := by
   cases o with
   | none =>
    simp only [Cc] at h1
    obtain ⟨e1, e2, a, ha⟩ := h1
    refine ⟨a, ?_, fun b hb => by cases hb⟩
    rw [ha, e1, e2]
   | some b => simp only [Cc] at h1; exact ⟨_, h1, fun b' hb => by injection hb with hb; subst hb; rfl⟩
  obtain ⟨base, hEx, hbase⟩ := hEx
  unfold zeroOf at hz
  have hz' : ∃ j, P.info? e = some j ∧ j.zero = some zv := by
   cases hq : P.info? e with
   | none => simp [hq] at hz
   | some j => exact ⟨j, rfl, by simpa [hq] using hz⟩
  obtain ⟨j, hj, hz'⟩ := hz'
  have hzv : ∀ w, (zeroValue e).run P w = .ok zv w := fun w => by simp [zeroValue, typeInfo, hj, hz', Sem.run_bind]
  have hti : ∀ w, (typeInfo e).run P w = .ok inf w := fun w => by simp [typeInfo, hinf]
  have hszr : ∀ w, (sizeOf e).run P w = .ok sz w := fun w => by simp [sizeOf, typeInfo, hinf, hs]
  have hlens := hobj.lens
  have hlall : ∀ r ∈ rows ++ rows', r.length = sz := by
   intro r hr
   rcases List.mem_append.1 hr with hr | hr
   ·exact hlens r hr
   exact hr' r hr
  have hlen : (rows ++ rows').length = rows.length + rows'.length := by simp
  have hlenof : ∀ w, (Builtin.lenOf (E y)).run P w = .ok rows'.length w := fun w => by rw [hEy, hsl]; rfl
  by_cases hcap : rows.length + rows'.length ≤ c
  ·-- there is room
   have hrun : ∀ w', (match base with | some a => (storeCells (a.add (rows.length * sz)) ns).run P w = .ok () w' | none => w' = w) →
     (execOp E ⟨dst, .call { callee := .builtin .append, args := #[x, y], argTypes := #[T, T2] }, ty, pos, aft, g⟩).run P w = .ok (.value (.slice base (rows.length + rows'.length) c)) w' := by
    intro w' hst
    have hEx' := hEx
    simp only [execOp, resolve, invoke, builtin, Builtin.append_, hEx, Sem.run_bind, Sem.run_pure, Result.andThen_ok, List.map_toArray, List.map_cons, List.map_nil, List.getElem?_toArray, List.getElem?_cons_zero, List.getElem?_cons_succ, run_underlying hu, run_underlying hu2, hszr, pure_bind,
     Bool.false_eq_true, if_false, hlenof, Bool.not_false, if_true]
    rw [if_pos hcap]
    simp only [Sem.run_bind, hns, Result.andThen_ok]
    cases base with
    | none => simp only at hst; subst hst; simp
    | some a => simp only at hst; simp [hst]
   cases o with
   | none =>
    obtain ⟨rfl, rfl⟩ := hobj
    have hr0 : rows' = [] := by simpa using hcap
    subst hr0
    have hns0 : ns = [] := by
     apply List.eq_nil_of_length_eq_zero; simpa using hnsl
    subst hns0
    have hset : H.set i (.vecT none e false ([] ++ []) 0) = H := by
     rw [List.append_nil]
     apply List.ext_getElem?
     intro k
     rw [List.getElem?_set]
     split
     ·rename_i hk; subst hk; rw [hi]; split
      ·rfl
      rename_i hge; rw [List.getElem?_eq_none Aw] at hi; cases hi
     rfl
    refine ⟨_, w, .vs none 0 0, H, F, hrun w ?_, ⟨none, 0, Ay, hset.symm⟩, .refl, hH, ?_⟩
    ·cases base with
     | none => rfl
     | some a => rfl
    ·simp only [Cc]; exact ⟨trivial, trivial, base, rfl⟩
   | some b =>
    obtain ⟨vs, hb, hcs, hcl, hrows⟩ := hobjT
    obtain ⟨vs⟩ := vs
    simp only [Bool.false_eq_true, if_false] at hb
    rw [← hsz] at hrows
    have hbase' := hbase b rfl
    subst hbase'
    have hcs' : c * sz ≤ vs.length := by rw [hsz, Nat.mul_one]; simpa using hcs
    have hlt : b < w.heap.size := (Array.getElem?_eq_some_iff.1 hb).1
    have hF : F b := hH.sub _ (List.mem_of_getElem? hi) b rfl
    cases hrr : rows' with
    | nil =>
     subst hrr
     have hns0 : ns = [] := by
      apply List.eq_nil_of_length_eq_zero; simpa using hnsl
     subst hns0
     have hset : H.set i (.vecT (some b) e false (rows ++ []) c) = H := by
      rw [List.append_nil]
      apply List.ext_getElem?
      intro k
      rw [List.getElem?_set]
      split
      ·rename_i hk; subst hk; rw [hi]; split
       ·rfl
       rename_i hge; rw [List.getElem?_eq_none Aw] at hi; cases hi
      rfl
     refine ⟨_, w, .vs (some b) (rows ++ []).length c, H, F, hrun w Ay, ⟨some b, c, Ay, hset.symm⟩, .refl, hH, ?_⟩
     simp [Cc]
    | cons r0 rr =>
     rw [← hrr]
     have hnsne : ns ≠ [] := by
      intro e0; rw [e0] at hnsl; rw [hrr] at hnsl; simp [Nat.succ_mul] at hnsl; omega
     have hw : GH b (.cells ⟨splice vs (rows.length * sz) ns⟩ e (0, 0)) w (w.setCells b (rows.length * sz) ns) := E4 ns hb hnsne
     have hfit : rows.length * sz + ns.length ≤ vs.length := by
      have : (rows.length + rows'.length) * sz ≤ c * sz := Nat.mul_le_mul_right sz hcap
      rw [Nat.add_mul] at this
      omega
     have st := hw.stable hF
     have hb' := hw.self hlt
     refine ⟨_, w.setCells b (rows.length * sz) ns, .vs (some b) (rows ++ rows').length c, _, F, hrun _ ?_, ⟨some b, c, Ay, Ay⟩, hw.trans hi Ay Ay, hw.HRel hH hi Ay Ay ?_, by simp [Cc]⟩
     ·have ht := PM hb (o := rows.length * sz) (n := ns.length) hfit
      have h1' : ∀ u ∈ ns, u.oneCell' = true := JW hnsr (QZ hsol)
      have := run_storeCells_cells (P := P) b (rows.length * sz) ns 0 w (fun q hq => by simpa using (ht q hq).1) (fun q hq => by simpa using (ht q hq).2) h1'
      simp only [Nat.add_zero] at this
      simp only [Addr.add_mid, Nat.zero_add]
      exact this
     refine ⟨⟨splice vs (rows.length * sz) ns⟩, by simpa using hb', by simp only [Fa, List.size_toArray]; simpa using hcs, by simp; omega, ?_⟩
     rw [← hsz]
     refine KS ?_ ?_
     ·have : ∀ {rs : List (List PV)} {q : Nat}, q + rs.length * sz ≤ rows.length * sz → CG F w b sz q rs → CG F (w.setCells b (rows.length * sz) ns) b sz q rs := by
       intro rs
       induction rs with
       | nil => intro q _ _; simp [CG]
       | cons a rs ih2 =>
        intro q hq ha
        simp only [CG] at ha ⊢
        simp only [List.length_cons, Nat.succ_mul] at hq
        exact ⟨ha.1, IH hb hb' st (.inl (by rw [ha.1]; omega)) ha.2.1, ih2 Aw ha.2.2⟩
      exact this Aw hrows
     refine HR (vs := ns) hr' ?_ (CF.mono st _ _ hnsr)
     intro q u hq
     have := Jj ns vs (rows.length * sz) q u hq hfit
     simp [World.cell?, hb', this]
  -- a new array
  have hcap' : c < rows.length + rows'.length := by omega
  generalize hnc : Question.cut (.appendCap (rows.length + rows'.length) c e) (w.tape w.drawn (.appendCap (rows.length + rows'.length) c e)) = newCap
  have hncge : rows.length + rows'.length ≤ newCap := by rw [← hnc]; simp only [Question.cut]; omega
  have hnext := OZ hcap'
  have hask : ∀ (b : Nat) w, (askRoom b).run P w = .ok () w := by intro b w; unfold askRoom; split <;> rfl
  let w1 : World := { w with drawn := w.drawn + 1 }
  have same : DW F w F w1 := ⟨Nat.le_refl _, fun _ _ _ => rfl, fun _ h _ => h⟩
  have hobj' : G5 F w1 (.vec o sz rows c) := G5.mono same _ (fun _ _ => rfl) hobj
  obtain ⟨ns', hEy', hns', hnsl', hnsr'⟩ := KV (P := P) (Cc.mono same _ _ h2) hrw.symm hsz
  obtain ⟨os', hos', hosl', hosr'⟩ := Gl (P := P) hobj' (Cc.mono same _ _ h1)
  let vs : List Value := os' ++ ns' ++ (Builtin.zeroCells zv.cells (newCap - (rows.length + rows'.length))).toList
  have hrun : (execOp E ⟨dst, .call { callee := .builtin .append, args := #[x, y], argTypes := #[T, T2] }, ty, pos, aft, g⟩).run P w = .ok (.value (.slice (some ⟨w.heap.size, 0, none⟩) (rows.length + rows'.length) newCap)) (World.push w1 (.cells ⟨vs⟩ e (0, 0))) := by
   have hos2 := hos'
   rw [hEx] at hos2
   simp only [execOp, resolve, invoke, builtin, Builtin.append_, hEx, Sem.run_bind, Sem.run_pure, Result.andThen_ok, List.map_toArray, List.map_cons, List.map_nil, List.getElem?_toArray, List.getElem?_cons_zero, List.getElem?_cons_succ, run_underlying hu, run_underlying hu2, hszr, pure_bind,
    Bool.false_eq_true, if_false, hlenof, Bool.not_false, if_true]
   rw [if_neg hcap]
   simp only [Sem.run_bind, hti, Result.andThen_ok, hby]
   rw [if_neg Aq]
   simp only [Sem.run_bind, Sem.run_pure, Result.andThen_ok, hti, hby, pure_bind]
   rw [if_neg (by
    have : Builtin.nextslicecap (rows.length + rows'.length) c * bytes ≤ 2 * (rows.length + rows'.length) * bytes := Nat.mul_le_mul_right bytes hnext
    simp; omega)]
   have hch : (choose (.appendCap (rows.length + rows'.length) c e)).run P w = .ok newCap w1 := by
    simp only [choose, Sem.run, Question.forced, Bool.false_eq_true, if_false, hnc]
    rfl
   simp only [Sem.run_bind, Sem.run_pure, Result.andThen_ok, pure_bind, hch, hti, hask, hos2, hns', hzv, newRow, newObj, Sem.run, Result.andThen]
   have evs : (⟨os'⟩ ++ ⟨ns'⟩ ++ Builtin.zeroCells zv.cells (newCap - (rows.length + rows'.length)) : Array Value) = ⟨vs⟩ := by
    apply Array.ext'; simp [vs]
   rw [evs]
   rfl
  have hvl : vs.length = newCap * sz := by
   simp only [vs, List.length_append, hosl', hnsl', Array.length_toList, LW, hzs]
   rw [← Nat.add_mul, ← Nat.add_mul]
   congr 1
   omega
  have hlen2 : (rows ++ rows').flatten.length = (rows.length + rows'.length) * sz := by rw [Vq hlall, hlen]
  have hpre : CF F w1 ((rows ++ rows').flatten.map .p) (vs.take ((rows ++ rows').flatten.length)) := by
   have e1 : vs.take ((rows ++ rows').flatten.length) = os' ++ ns' := by
    rw [hlen2]
    have : (os' ++ ns').length = (rows.length + rows'.length) * sz := by rw [List.length_append, hosl', hnsl', Nat.add_mul]
    rw [← this]
    exact List.take_left
   rw [e1, List.flatten_append, List.map_append]
   exact hosr'.append hnsr'
  -- the tracked object lies in the new array
  have hH1 : HRel F H w1 := hH.stable' same (fun _ h => h) (fun _ _ _ _ => rfl) hH.bd
  have t1 : Trans F H w F H w1 := ⟨Nat.le_refl _, fun _ _ _ => rfl, fun _ h _ => h, fun _ h => .inl h, fun o ho b hb => .inl ⟨o, ho, hb⟩, rfl, rfl, rfl⟩
  obtain ⟨v', H', F', ⟨b', c', hv', hH'⟩, ht, hHr, hrep⟩ := VR (T := e) (c := newCap) (vs := vs) (H := H) hH1 (by subst hsz; exact hlall) hpre (by rw [hvl, hsz]; omega) (by rw [hlen]; exact hncge)
  subst hv'
  subst hH'
  have hset : H.set i (.vecT (some b') e false (rows ++ rows') c') = H.take i ++ .vecT (some b') e false (rows ++ rows') c' :: H.drop (i + 1) := by
   rw [List.set_eq_take_append_cons_drop, if_pos (List.getElem?_eq_some_iff.1 hi).1]
  have hperm : (Bc.vecT (some b') e false (rows ++ rows') c' :: H.eraseIdx i).Perm (H.set i (.vecT (some b') e false (rows ++ rows') c')) := by
   rw [hset, List.eraseIdx_eq_take_drop_succ]
   exact List.perm_middle.symm
  have hsub : (Bc.vecT (some b') e false (rows ++ rows') c' :: H.eraseIdx i).Sublist (Bc.vecT (some b') e false (rows ++ rows') c' :: H) := (List.eraseIdx_sublist H i).cons_cons _
  refine ⟨_, _, .vs (some b') (rows ++ rows').length c', H.set i (.vecT (some b') e false (rows ++ rows') c'), F', hrun, ⟨some b', c', Ay, Ay⟩, ?_, (hHr.sublist hsub).perm hperm, by rw [← hlen]; exact hrep⟩
  have := (t1.trans hH.bd ht).sublist hsub
  exact { this with keys := fun o ho => this.keys o (hperm.mem_iff.2 ho) }
theorem Py {T e : TypeId} {b n c i : Nat} {fr : Bool} {rows : List (List PV)} (hx : ρ x = .vs (some b) n c) (hi : H[i]? = some (.vecT (some b) e fr rows c)) (h0 : Nat.blt 0 rows.length = true) :
  Dw P ⟨dst, .call { callee := .builtin .unsafeSliceData, args := #[x], argTypes := #[T] }, ty, pos, aft, g⟩ ρ H (.ptr b 0) H :=
 Cd fun F w E hH hE => by
  have h1 := hE x Aa
  rw [hx] at h1
  simp only [Cc] at h1
  obtain ⟨vs, _, _, hcl, _⟩ := hH.obj _ (List.mem_of_getElem? hi)
  refine ⟨.pointer (some ⟨b, 0, none⟩), ?_, by simp [Cc]⟩
  have := Go.Lib.run_unsafeSliceData_row (P := P) (w := w) #[T] ty ⟨b, 0, none⟩ n c (by rw [Nat.blt_eq] at h0; omega)
  simp only [execOp, resolve, invoke, builtin, List.map_toArray, List.map_cons, List.map_nil, h1, Sem.run_bind, this, Result.andThen_ok, Sem.run_pure, pure_bind]
theorem SF {w : World} {b n : Nat} {vs : Array Value} {T : TypeId} {fr : Bool} (hb : w.heap[b]? = some (.cells vs T (0, if fr then n else 0))) (hn : n ≠ 0) : w.freeze ⟨b, 0, none⟩ n = { w with heap := w.heap.setIfInBounds b (.cells vs T (0, n)) } := by
 obtain ⟨hlt, hg⟩ := Array.getElem?_eq_some_iff.1 hb
 unfold World.freeze
 rw [if_neg hn]
 congr 1
 apply Array.ext
 ·simp
 intro i h1 h2
 simp only [Array.getElem_modify, Array.getElem_setIfInBounds]
 split
 ·rename_i hi
  subst hi
  rw [hg]
  cases fr
  ·simp
  simp [Ne.symm hn]
 rename_i hi
 rw [Array.getElem_setIfInBounds, if_neg hi]
theorem LX {F : Nat → Prop} {w : World} {b : Nat} : ∀ {l : List UInt8} {o : Nat}, CG F w b 1 o (l.map fun b => [PV.int .u8 b.toNat]) → ∀ j x, l[j]? = some x → w.cell? ⟨b, o + j, none⟩ = some (.int .u8 x.toNat)
 | [], o, _, j, x, h => by simp at h
 | a :: l, o, h, j, x, hj => by
  simp only [List.map_cons, CG, Cj, Cg] at h
  obtain ⟨_, ⟨⟨v, h1, h2⟩, _⟩, h3⟩ := h
  cases j with
  | zero => simp at hj; subst hj; subst h2; exact h1
  | succ j => have := LX h3 j x (by simpa using hj); rw [show o + (j + 1) = o + 1 + j by omega]; exact this
theorem RY {F : Nat → Prop} {w : World} {b : Nat} {s : ByteArray} (h : CG F w b 1 0 (E3 s)) : ∀ j x, s.data.toList[j]? = some x → w.cell? ⟨b, j, none⟩ = some (.int .u8 x.toNat) := fun j x hj => by
 have := LX (o := 0) h j x hj
 rwa [Nat.zero_add] at this
theorem Lf {F : Nat → Prop} {w : World} {b : Nat} : ∀ {l : List UInt8} {o : Nat}, (∀ j x, l[j]? = some x → w.cell? ⟨b, o + j, none⟩ = some (.int .u8 x.toNat)) → CG F w b 1 o (l.map fun b => [PV.int .u8 b.toNat])
 | [], o, _ => by simp [CG]
 | a :: l, o, h => by
  simp only [List.map_cons, CG, Cj, Cg]
  exact ⟨Ay, ⟨⟨_, h 0 a Ay, Ay⟩, trivial⟩, Lf fun j x hj => by rw [show o + 1 + j = o + (j + 1) by omega]; exact h (j + 1) x (by simpa using hj)⟩
theorem RW {F : Nat → Prop} {w : World} {b : Nat} {s : ByteArray} (h : ∀ j x, s.data.toList[j]? = some x → w.cell? ⟨b, j, none⟩ = some (.int .u8 x.toNat)) : CG F w b 1 0 (E3 s) := Lf (o := 0) fun j x hj => by rw [Nat.zero_add]; exact h j x hj
theorem Ps {T U e : TypeId} {b c i : Nat} {fr : Bool} {s : ByteArray} (hp : P.underlying T = some (.pointer e)) (hc1 : P.cellsOf e = 1) (hx : ρ x = .ptr b 0) (hy : ρ y = .p (.int .i64 s.size)) (hi : H[i]? = some (.vecT (some b) e fr (E3 s) c)) (h0 : s.size ≠ 0) (h63 : s.size ≤ 9223372036854775807) :
  Dw P ⟨dst, .call { callee := .builtin .unsafeString, args := #[x, y], argTypes := #[T, U] }, ty, pos, aft, g⟩ ρ H (.p (.str s)) (H.set i (.vecT (some b) e true (E3 s) c)) :=
 (Gq (R := eg (.p (.str s)) (H.set i (.vecT (some b) e true (E3 s) c)))) fun F w E hH hE => by
  have h1 := hE x Aa
  have h2 := hE y Aa
  rw [hx] at h1
  rw [hy] at h2
  simp only [Cc, Cg] at h1 h2
  obtain ⟨vs, hb, hcs, hcl, hrows⟩ := hH.obj _ (List.mem_of_getElem? hi)
  have hFb : F b := hH.sub _ (List.mem_of_getElem? hi) b rfl
  have hlt := hH.bd b hFb
  rw [Hp] at hcl hb
  have hl : s.data.toList.length = s.size := by simp
  have hce : ∀ (w' : World) (fz : Nat × Nat), w'.heap[b]? = some (.cells vs e fz) → ∀ j, w'.cell? ⟨b, j, none⟩ = vs[j]? := fun w' fz h j => by simp [World.cell?, h]
  have hcell := RY hrows
  have hrun := Go.Lib.run_unsafeString_row (P := P) (w := w) T U ty e hp hc1 b vs.size (by simp [World.shape?, hb]) s.data.toList (by intro q; rw [q] at hl; exact h0 hl.symm) (by rw [hl]; omega) Aw (fun j x hj => by have := hcell j x hj; rw [Addr.add_mid, Nat.zero_add]; exact this)
  rw [hl, SF hb h0] at hrun
  have hw : GH b (.cells vs e (0, s.size)) w { w with heap := w.heap.setIfInBounds b (.cells vs e (0, s.size)) } := ⟨rfl, rfl, rfl, rfl⟩
  refine ⟨.string s, _, .p (.str s), _, F, ?_, ⟨Ay, Ay⟩, hw.trans hi Ay Ay, hw.HRel hH hi Ay Ay ⟨vs, by rw [hw.self hlt, Hp]; simp, hcs, by rw [Hp]; omega, RW fun j x hj => ?_⟩, by simp [Cc, Cg]⟩
  ·simp only [execOp, resolve, invoke, builtin, List.map_toArray, List.map_cons, List.map_nil, h1, h2, Sem.run_bind, hrun, Result.andThen_ok, Sem.run_pure, pure_bind]
  rw [hce _ _ (hw.self hlt)]
  rw [← hce w _ hb]
  exact hcell j x hj
theorem EY {a b : ByteArray} {T U : TypeId} (hx : ρ x = .p (.str a)) (hy : ρ y = .p (.str b)) (hsz : a.size + b.size ≤ 9223372036854775807) : Dw P ⟨dst, .binOp .add T x y U, ty, pos, aft, g⟩ ρ H (.p (.str (a ++ b))) H :=
 Cd fun F w E hH hE => by
  have e1 := hE x Ai
  have e2 := hE y Ai
  rw [hx] at e1
  rw [hy] at e2
  simp only [Cc, Cg] at e1 e2
  have hm : ¬ (((a.size + b.size : Nat) : Int) > IntKind.i64.max) := by rw [show IntKind.i64.max = 9223372036854775807 from rfl]; omega
  have h1 : (Op.stringOp .add a b).run P w = .ok (.string (a ++ b)) w := by
   unfold Op.stringOp
   simp only [if_neg hm]
   rfl
  exact ⟨.string (a ++ b), by simp [execOp, Sem.run_bind, Kf, e1, e2, binOp, h1], by simp [Cc, Cg]⟩
theorem Kh (op : BinOp) (t : TypeId) (a b : Option Addr) (w : World) : (eqGuard op t x y (.pointer a) (.pointer b)).run P w = .ok () w := by
 unfold eqGuard
 split <;> rfl
theorem S6 {T U : TypeId} {t : TypeId} (hT : P.underlying T = some (.pointer t)) (hx : ρ x = .nilp) (hy : ρ y = .nilp) : Dw P ⟨dst, .binOp .eql T x y U, ty, pos, aft, g⟩ ρ H (.p (.bool true)) H :=
 Cd fun F w E hH hE => by
  have e1 := hE x Ai
  have e2 := hE y Ai
  rw [hx] at e1
  rw [hy] at e2
  simp only [Cc] at e1 e2
  refine ⟨.bool true, ?_, by simp [Cc, Cg]⟩
  have h : ∀ d : Nat, (Op.equalIn (d + 1) T (.pointer none) (.pointer none)).run P w = .ok true w := fun d => by
   simp [Op.equalIn, run_underlying hT]
  have h2 : (binOp .eql T (.pointer none) (.pointer none)).run P w = .ok (.bool true) w := by
   simp only [binOp]
   simp [Op.equal, Op.maxDepth, h 9999]
  simp only [execOp, Sem.run_bind, Kh, e1, e2, h2, Result.andThen_ok, Sem.run_pure]
theorem Pt {T U : TypeId} {t : TypeId} {b o : Nat} (hT : P.underlying T = some (.pointer t)) (hx : ρ x = .ptr b o) (hy : ρ y = .nilp) : Dw P ⟨dst, .binOp .eql T x y U, ty, pos, aft, g⟩ ρ H (.p (.bool false)) H :=
 Cd fun F w E hH hE => by
  have e1 := hE x Ai
  have e2 := hE y Ai
  rw [hx] at e1
  rw [hy] at e2
  simp only [Cc] at e1 e2
  refine ⟨.bool false, ?_, by simp [Cc, Cg]⟩
  have h : ∀ d : Nat, (Op.equalIn (d + 1) T (.pointer (some ⟨b, o, none⟩)) (.pointer none)).run P w = .ok false w := fun d => by
   simp [Op.equalIn, run_underlying hT]
  have h2 : (binOp .eql T (.pointer (some ⟨b, o, none⟩)) (.pointer none)).run P w = .ok (.bool false) w := by
   simp only [binOp]
   simp [Op.equal, Op.maxDepth, h 9999]
  simp only [execOp, Sem.run_bind, Kh, e1, e2, h2, Result.andThen_ok, Sem.run_pure]
theorem Ro {T U : TypeId} {t : TypeId} {j : TypeInfo} {b o : Nat} (hT : P.underlying T = some (.pointer t)) (ht : P.info? t = some j) (hx : ρ x = .ptr b o) (hy : ρ y = .ptr b o) : Dw P ⟨dst, .binOp .neq T x y U, ty, pos, aft, g⟩ ρ H (.p (.bool false)) H :=
 Cd fun F w E hH hE => by
  have e1 := hE x Ai
  have e2 := hE y Ai
  rw [hx] at e1
  rw [hy] at e2
  simp only [Cc] at e1 e2
  refine ⟨.bool false, ?_, by simp [Cc, Cg]⟩
  have := Go.Lib.run_neq_ptr_same (P := P) w ⟨b, o, none⟩ hT ht
  simp [execOp, Sem.run_bind, Kh, e1, e2, this]
end
section
variable {P : Program} {r : Option Nat} {ops : Array Oper} {Q : DC → CC → Prop} {k : Nat} {n : Nat} {τ : Nat → AV} {H H' : List Bc} {D : List Eb} {dst : Option Tmp} {op : Op} {ty : TypeId} {pos : String} {aft : Array Edge} {g : Option (Nat × Bool)} {v : AV}
theorem UY {T : TypeId} {cs : List AV} (ho : ops[k]? = some ⟨dst, op, ty, pos, aft, none⟩) (hd : Is dst n = true) (h : DZ P ⟨dst, op, ty, pos, aft, none⟩ (ev τ) H (Up T cs H))
  (next : ∀ b, AL P r ops (k + 1) ⟨n, put τ dst (.ptr b 0), .boxT b T cs :: H, D⟩ Q) : AL P r ops k ⟨n, τ, H, D⟩ Q :=
 FO (S := ⟨n, τ, H, D⟩) ho Ap (HL hd) h (fun v H' ⟨b, h1, h2⟩ => by subst h1; subst h2; exact next b) (fun _ _ h => h.elim)
theorem Ys {i : Nat} {e : TypeId} {rows : List (List PV)} (ho : ops[k]? = some ⟨dst, op, ty, pos, aft, none⟩) (hd : Is dst n = true) (h : DZ P ⟨dst, op, ty, pos, aft, none⟩ (ev τ) H (appendTR i e rows H))
  (next : ∀ o c, AL P r ops (k + 1) ⟨n, put τ dst (.vs o rows.length c), H.set i (.vecT o e false rows c), D⟩ Q) : AL P r ops k ⟨n, τ, H, D⟩ Q :=
 FO (S := ⟨n, τ, H, D⟩) ho Ap (HL hd) h (fun v H' ⟨o, c, h1, h2⟩ => by subst h1; subst h2; exact next o c) (fun _ _ h => h.elim)
end
section
variable {P : Program} {dst : Option Tmp} {ty : TypeId} {pos : String} {aft : Array Edge} {g : Option (Nat × Bool)} {ρ : Operand → AV} {H : List Bc} {x f : Operand}
theorem RJ {c : Call} {fid : FuncId} {fn : Func} {b o : Nat} (hc : c.callee = .value f) (hf : ρ f = .p (.fn fid)) (ha : c.args = #[x]) (hx : ρ x = .ptr b o) (hfn : P.funcs[fid]? = some fn) (hname : (fn.name == "runtime.NumGoroutine") = false) (hb : fn.body.isNone = true) (hn : Extern.findNext fn = none) (he : Extern.find fn = some Extern.AbiNoEscape.same) :
  Dw P ⟨dst, .call c, ty, pos, aft, g⟩ ρ H (.ptr b o) H :=
 Cd fun F w E hH hE => by
  have h1 := hE x (by simp [Op.operands, Call.operands, ha])
  have h2 := hE f (by simp [Op.operands, Call.operands, hc])
  rw [hx] at h1
  rw [hf] at h2
  simp only [Cc, Cg] at h1 h2
  refine ⟨.pointer (some ⟨b, o, none⟩), ?_, by simp [Cc]⟩
  have h3 := run_callFunc_extern (P := P) hfn hname hb hn he #[.pointer (some ⟨b, o, none⟩)] w
  rw [Go.Lib.run_noEscape] at h3
  simp [execOp, resolve, hc, Deferred.ofValue, h2, invoke, ha, h1, h3]
end
theorem Mn {P : Program} {f : FuncId} {GL : List (Nat × Obj)} {A : List AV} {u : Value} {v : PV} (hen : Bl P f = true) (hu : ∀ F w, Cc F w (.p v) u) (h : ∀ F (w : World) vs, (∀ p ∈ GL, w.heap[p.1]? = some p.2) → CF F w A vs → Calls P f ⟨vs⟩ w fun e w' => e = .returned u ∧ Go.RowKit.Below w.heap.size w w') :
  B1 P f A [.glob GL] (Dq (.p v) [.glob GL]) := by
 refine ⟨hen, fun F w vs hH hv => ?_⟩
 have hg := hH.obj _ (List.mem_singleton.2 rfl)
 refine (h F w vs (fun p hp => (hg p hp).1) hv).mono ?_
 rintro e w' ⟨rfl, hb⟩
 refine ⟨.val (.p v), [.glob GL], F, ⟨Ay, Ay⟩, ⟨u, Ay, hu _ _⟩, ⟨fun o ho b hk => ?_, (by show ([] : List Nat).Nodup; exact List.nodup_nil), fun o ho => ?_, fun b hF => Nat.lt_of_lt_of_le (hH.bd b hF) hb.size⟩, ⟨hb.size, fun b hlt _ => hb.block b hlt, fun b hF _ => hF, fun b hF => .inl hF, fun o ho b hk => ?_, hb.os, hb.output, hb.tape⟩⟩
 ·rw [List.mem_singleton] at ho; subst ho; simp [Bc.key] at hk
 ·rw [List.mem_singleton] at ho; subst ho
  intro p hp
  obtain ⟨h1, h2⟩ := hg p hp
  exact ⟨by rw [hb.block _ (Array.getElem?_eq_some_iff.1 h1).1]; exact h1, h2⟩
 rw [List.mem_singleton] at ho; subst ho; simp [Bc.key] at hk
section
variable {P : Program} {ops : Array Oper} {n : Nat} {τ₀ τ : Nat → AV} {D : List Eb} {Q : DC → CC → Prop} {opn : Nat → Bool} {k : Nat} {T : List Bc} {dst : Option Tmp} {ty : TypeId} {pos : String} {aft : Array Edge} {c : Call} {f : Operand} {fid : FuncId} {first caps A : List AV} {v : AV} {C : List Bc → Prop}
theorem Gx {r : Option Nat} (fr : List Bc) (ho : ops[k]? = some ⟨dst, .call c, ty, pos, aft, none⟩) (hd : Is dst n = true)
  (hc : c.callee = .value f) (hf : (ev τ f = .p (.fn fid) ∧ first = [] ∧ caps = []) ∨ ev τ f = .fn (.func fid) first caps) (h : B1 P fid A T (Ht v C)) (hA : Hc (first ++ c.args.toList.map (ev τ) ++ caps) A)
  (next : ∀ T', C T' → AL P r ops (k + 1) ⟨n, put τ dst v, fr ++ T', D⟩ Q) : AL P r ops k ⟨n, τ, fr ++ T, D⟩ Q :=
 Gu fr ho hd hc hf h hA (fun v' T' ⟨h1, h2⟩ => by subst h1; exact next T' h2) (fun _ _ h => h.elim)
theorem Gp {rd ef effs fx} (fr : List Bc) (fx' : List (Nat × Sp)) (ho : ops[k]? = some ⟨dst, .call c, ty, pos, aft, none⟩) (hn : opn k = true)
  (hc : c.callee = .value f) (hf : (ev τ f = .p (.fn fid) ∧ first = [] ∧ caps = []) ∨ ev τ f = .fn (.func fid) first caps) (h : B1 P fid A T (Ht v C)) (hA : Hc (first ++ c.args.toList.map (ev τ) ++ caps) A) (haft : FW ops k (fx'.map (·.1)) = true) (hex : ∃ T', C T')
  (next : ∀ T', C T' → Lp ops k (fr ++ T) (fr ++ T') rd ∧ Ik k (.eff v (fr ++ T')) fx ∧ Dr P ops n τ₀ D Q opn (k + 1) (put τ dst v) (fr ++ T') rd ((k, fr ++ T, fr ++ T') :: ef) (true :: effs) (fx' ++ fx)) : Dr P ops n τ₀ D Q opn k τ (fr ++ T) rd ef effs fx := by
 have hop : DZ P ⟨dst, .call c, ty, pos, aft, none⟩ (ev τ) (fr ++ T) (fun r H' => ∃ T', Ht v C r T' ∧ H' = fr ++ T') := by
  refine DZ.permR (Ig (H := fr ++ T) (Hs := T) (Hf := fr) hc hf List.perm_append_comm (h.args hA) (.inl Ay)) ?_
  rintro r H1 ⟨T', hR, rfl⟩
  exact ⟨fr ++ T', List.perm_append_comm, T', hR, Ay⟩
 obtain ⟨T', hT⟩ := hex
 exact Ms fx' ho hn hop haft ⟨v, _, T', ⟨Ay, hT⟩, Ay⟩ (fun _ _ ⟨_, h, _⟩ => h.elim) (fun v' H' ⟨T', ⟨h1, h2⟩, h3⟩ => by subst h1; subst h3; exact next T' h2)
end
def He (l : List UInt8) : List (List PV) := l.map fun b => [PV.int .u8 b.toNat]
theorem Us (s : ByteArray) : E3 s = He s.data.toList := rfl
theorem K4 (l : List UInt8) : (He l).length = l.length := by simp [He]
theorem RK (a b : List UInt8) : He a ++ He b = He (a ++ b) := by simp [He]
def BW (U e : TypeId) (b : Nat) (l : List UInt8) (T : List Bc) : Prop :=
 ∃ a o cp, (a = .nilp ∨ a = .ptr b 0) ∧ T = [.boxT b U [a, .vs o (He l).length cp], .vecT o e false (He l) cp]
def BX (U e : TypeId) (b : Nat) (l : List UInt8) (T : List Bc) : Prop :=
 ∃ a o cp fr, T = [.boxT b U [a, .vs (some o) (He l).length cp], .vecT (some o) e fr (He l) cp]
def S8 (l : List UInt8) : ByteArray := ⟨l.toArray⟩
theorem L9 (l : List UInt8) : (S8 l).size = l.length := by simp [S8, ByteArray.size]
theorem Ul (U e : TypeId) (b : Nat) : BW U e b [] [.boxT b U [.nilp, .vs none 0 0], .vecT none e false [] 0] := ⟨.nilp, none, 0, .inl rfl, rfl⟩
theorem bM {b : Nat} {T : TypeId} {cs cs' : List AV} (h : Hc cs cs') : Kq (.boxT b T cs) (.boxT b T cs') := ⟨rfl, fun F w hr => by
 obtain ⟨vs, h1, h2⟩ := hr
 exact ⟨vs, h1, K9 h h2⟩⟩
theorem NW {n : Nat} {τ : Nat → AV} {H : List Bc} {D : List Eb} {e : TypeId} : Hn ⟨n, τ, H, D⟩ ⟨n, τ, .vecT none e false [] 0 :: H, D⟩ := by
 intro F a w hs
 have hH : HRel F (.vecT none e false [] 0 :: H) w := ⟨fun o ho b hb => by
   rcases List.mem_cons.1 ho with rfl | ho
   ·cases hb
   ·exact hs.heap.sub o ho b hb, by simpa [List.filterMap_cons, Bc.key] using hs.heap.nodup, fun o ho => by
   rcases List.mem_cons.1 ho with rfl | ho
   ·exact ⟨Ay, Ay⟩
   exact hs.heap.obj o ho, hs.heap.bd⟩
 refine ⟨F, ⟨hs.size, hs.tmp, hH, hs.defs⟩, { Trans.refl (F := F) (H := H) (w := w) with keys := fun o ho b hb => ?_ }⟩
 rcases List.mem_cons.1 ho with rfl | ho
 ·cases hb
 exact .inl ⟨o, ho, hb⟩
theorem RC {P : Program} {f : FuncId} {A : List AV} {H : List Bc} {R : D1 → List Bc → Prop} {o : Option Nat} {e : TypeId} {fr : Bool} {rows : List (List PV)} {c : Nat} (hm : Bc.vecT o e fr rows c ∈ H) (hne : rows ≠ []) (hen : Bl P f = true) (h : ∀ b, o = some b → B1 P f A H R) : B1 P f A H R := by
 refine ⟨hen, fun F w vs hH hv => ?_⟩
 cases o with
 | none => exact absurd (hH.obj _ hm).1 hne
 | some b => exact (h b rfl).2 F w vs hH hv
section
variable {P : Program} {dst : Option Tmp} {ty : TypeId} {pos : String} {aft : Array Edge} {g : Option (Nat × Bool)} {ρ : Operand → AV} {H : List Bc} {x y z : Operand}
theorem Kp {T e : TypeId} {b i : Nat} {l : List (ByteArray × AV)} {k : ByteArray} {zv : Value} {za v : AV} {ok : Bool} (hT : Ls P T = some e) (hz : zeroOf P e = some zv) (hza : ∀ F w, Cc F w za zv) (hx : ρ x = .map b) (hy : ρ y = .p (.str k)) (hi : H[i]? = some (.map b (EG l))) (hv : (LO k l).getD za = v) (hok : (LO k l).isSome = ok) :
  Dw P ⟨dst, .lookup T x y true, ty, pos, aft, g⟩ ρ H (.tup [v, .p (.bool ok)]) H := by subst hv; subst hok; exact P1 hT hz hza hx hy hi
theorem Nt {T e : TypeId} {b i : Nat} {l l' : List (ByteArray × AV)} {k : ByteArray} {va : AV} (hT : Ls P T = some e) (hx : ρ x = .map b) (hy : ρ y = .p (.str k)) (hz : ρ z = va) (hi : H[i]? = some (.map b (EG l))) (hl : sset k va l = l') :
  Dw P ⟨dst, .mapUpdate T x y z, ty, pos, aft, g⟩ ρ H (.p .any) (H.set i (.map b (EG l'))) := by subst hl; exact Ou hT hx hy hz hi
end
theorem Ni {P : Program} {f : FuncId} {A : List AV} {H H' : List Bc} {R R' : D1 → List Bc → Prop} (h : B1 P f A H R) (hp : H'.Perm H) (hr : ∀ r H1, R r H1 → ∃ H2, H1.Perm H2 ∧ R' r H2) : B1 P f A H' R' := by
 refine ⟨h.1, fun F w vs hH hv => (h.2 F w vs (hH.perm hp) hv).mono ?_⟩
 rintro e w' ⟨r, H1, F', h1, h2, h3, h4⟩
 obtain ⟨H2, hp2, hR⟩ := hr r H1 h1
 refine ⟨r, H2, F', hR, h2, h3.perm hp2, ?_⟩
 exact ⟨h4.size, fun b hb hn => h4.same b hb fun o ho => hn o (hp.mem_iff.2 ho), fun b hb hn => h4.keep b hb fun o ho => hn o (hp.mem_iff.2 ho), h4.fresh, fun o ho b hk => by
  rcases h4.keys o (hp2.mem_iff.2 ho) b hk with ⟨o', ho', hk'⟩ | h5
  ·exact .inl ⟨o', hp.mem_iff.2 ho', hk'⟩
  exact .inr h5, h4.os, h4.out, h4.tape⟩
theorem Qv {P : Program} {f : FuncId} {A : List AV} {Hs : List Bc} {R : D1 → List Bc → Prop} (h : B1 P f A Hs R) (Hf : List Bc) : B1 P f A (Hs ++ Hf) (fun r H' => ∃ H1, R r H1 ∧ H' = H1 ++ Hf) := by
 refine ⟨h.1, fun F w vs hH hv => (h.2 F w vs (hH.sublist (List.sublist_append_left _ _)) hv).mono ?_⟩
 rintro e w' ⟨r, H1, F', h1, h2, h3, h4⟩
 exact ⟨r, H1 ++ Hf, F', ⟨H1, h1, Ay⟩, h2, hH.frame h3 h4, h4.frame (H := Hs ++ Hf) (List.Perm.refl _)⟩
end Go.Abs
namespace Go.Proofs.YtapmjpihennhaaaGreatDoor
open Go.Abs Go.Eu
theorem OO : Tryz.prog.underlying 183 = some (.pointer 186) := by kernel_rfl
theorem UG : Tryz.prog.underlying 227 = some .unsafePointer := by kernel_rfl
theorem ZD : (Tryz.prog.info? 186).isSome = true := by kernel_rfl
noncomputable def eH : TypeInfo := (Tryz.prog.info? 186).get ZD
theorem S1 : Tryz.prog.info? 186 = some eH := (Option.some_get ZD).symm
theorem Ye : (eH.size == 0) = false := by kernel_rfl
theorem YG : liesAt Tryz.prog Tryz.prog.depth 186 (2 / Tryz.prog.cellsOf 186) 0 186 1 = true := by kernel_rfl
theorem YH : Tryz.prog.underlying 214 = some (.pointer 5) := by kernel_rfl
theorem cellsByte : Tryz.prog.cellsOf 5 = 1 := by kernel_rfl
theorem bW : ∀ (b : Nat) (v : AV), B1 Tryz.prog 153 [.ptr b 0] [.boxT b 186 [.nilp, v]] (Dq (.tup []) [.boxT b 186 [.ptr b 0, v]]) := by
 intro b v
 refine BH Tryz.func153 Ay ZE (n := 20) Ay Ay (A2 (A0 (Az Ay Ay (A1 Ay) (Az Ay Ay (Bn Ay) (Az Ay Ay (A3 Nl Ay Ay) (Az Ay Ay (E6 (i := 0) Uk Ay Ay Ay) (Az Ay Ay (S6 OO Ay Ay) (A5 Ay ?_))))))))
 refine BD Ay (fun c => ?_) (fun c => by cases c)
 refine A0 (Az Ay Ay (A1 Ay) (Az Ay Ay (A1 Ay) (Az Ay Ay (Qw (i := 0) OO UG S1 Ye Ay Ay Ay) (Az Ay Ay (RJ Ay Ay Ay Ay Tryz.func158 Ar Ar Ar Ar) (Az Ay Ay (Oy (i := 0) (cs := [_, _]) UG OO S1 YG Ay Ay) (Az Ay Ay (Bn Ay) (Az Ay Ay (A3 Nl Ay Ay) (Az Ay Ay (Kb (i := 0) Uk Ay Ay Ay Ay Ay Ay) (A5 Ay ⟨Ay, _, _, Ay, (C2 (is := [0]) Ay), ?_⟩)))))))))
 all_goals exact ⟨rfl, rfl⟩
theorem bj : ∀ (b : Nat) (v : AV), B1 Tryz.prog 153 [.ptr b 0] [.boxT b 186 [.ptr b 0, v]] (Dq (.tup []) [.boxT b 186 [.ptr b 0, v]]) := by
 intro b v
 refine BH Tryz.func153 Ay ZE (n := 20) Ay Ay (A2 (A0 (Az Ay Ay (A1 Ay) (Az Ay Ay (Bn Ay) (Az Ay Ay (A3 Nl Ay Ay) (Az Ay Ay (E6 (i := 0) Uk Ay Ay Ay) (Az Ay Ay (Pt OO Ay Ay) (A5 Ay ?_))))))))
 refine BD Ay (fun c => by cases c) (fun c => ?_)
 refine A2 (A0 (Az Ay Ay (A1 Ay) (Az Ay Ay (Bn Ay) (Az Ay Ay (A3 Nl Ay Ay) (Az Ay Ay (E6 (i := 0) Uk Ay Ay Ay) (Az Ay Ay (A1 Ay) (Az Ay Ay (Ro OO S1 Ay Ay) (A5 Ay ?_))))))))
 refine BD Ay (fun c1 => by cases c1) (fun c1 => ?_)
 refine BG ⟨Ay, _, _, Ay, (C2 (is := [0]) Ay), ?_⟩
 all_goals exact ⟨rfl, rfl⟩
theorem gp {a v : AV} {b : Nat} (h : a = .nilp ∨ a = .ptr b 0) : B1 Tryz.prog 153 [.ptr b 0] [.boxT b 186 [a, v]] (Dq (.tup []) [.boxT b 186 [.ptr b 0, v]]) := by
 rcases h with rfl | rfl
 ·exact bW b v
 exact bj b v
theorem aI : ∀ (b : Nat) (a : AV) (o : Option Nat) (cp : Nat) (r : List (List PV)) (s : ByteArray), (a = .nilp ∨ a = .ptr b 0) → (r.length + s.size ≤ 70368744177664) → B1 Tryz.prog 142 [.ptr b 0, .p (.str s)] [.boxT b 186 [a, .vs o (r).length cp], .vecT o 5 false (r) cp] (fun x H' => ∃ o' cp', x = .val (.tup [.p (I s.size), .p .nilIface]) ∧ H' = [.boxT b 186 [.ptr b 0, .vs o' (r ++ E3 s).length cp'], .vecT o' 5 false (r ++ E3 s) cp']) := by
 intro b a o cp r s h1 h2
 refine BH Tryz.func142 Ay dv (n := 19) Ay Ay (A2 (A0 (Az Ay Ay (A4 Ay) (Az Ay Ay (A4 Ay) (A5 Ay (A2 (A0 (Az Ay Ay (A1 Ay) (Az Ay Ay (Cf [0] Ay (.inl ⟨Ay, Ay, Ay⟩) (gp h1) ⟨_, _, Ay, Ay, Ay⟩ Av Ay (.inl Ay)) (A5 Ay (A2 (A0 (Az Ay Ay (A1 Ay) (Az Ay Ay (A1 Ay) (Az Ay Ay (Bn Ay) (Az Ay Ay (A3 Nl Ay Ay) (Az Ay Ay (E6 (i := 0) Uf Ay Ay Ay) (Az Ay Ay (A1 Ay) (Ys Ay Ay (Og (i := 1) ZR Ww jR Ay Ay Ay Ay Ay Ay Aw) fun o1 cp1 => Az Ay Ay (Bn Ay) (Az Ay Ay (A3 Nl Ay Ay) (Az Ay Ay (Kb (i := 0) Uf Ay Ay Ay Ay Ay Ay) (A5 Ay (A2 (A0 (Az Ay Ay (A1 Ay) ?_)))))))))))))))))))))))))
 refine Az Ay Ay (Ej Ww Ay) (Az Ay Ay (A4 Ay) (Az Ay Ay (A4 Ay) (A5 Ay (BF (⟨Ay, _, _, ⟨_, _, Ay, Ay, ⟨_, _, Ay, Ay, Ay⟩⟩, (C2 (is := [0, 1]) Ay), ?_⟩)))))
 exact ⟨_, _, Ay, Ay⟩
theorem Xf {b : Nat} {l : List UInt8} {s : ByteArray} {T : List Bc} (h : l.length + s.size ≤ 70368744177664) (hB : BW 186 5 b l T) : B1 Tryz.prog 142 [.ptr b 0, .p (.str s)] T (Ht (.tup [.p (I s.size), .p .nilIface]) (BW 186 5 b (l ++ s.data.toList))) := by
 obtain ⟨a, o, cp, ha, rfl⟩ := hB
 refine (aI b a o cp (He l) s ha (by rw [K4]; exact h)).mono ?_
 rintro r H' ⟨o', cp', rfl, rfl⟩
 exact ⟨Ay, .ptr b 0, o', cp', .inr Ay, by rw [Us, RK]⟩
theorem au : ∀ (b : Nat) (a : AV) (o : Nat) (cp : Nat) (fr : Bool) (l : List UInt8), (0 < l.length) → (l.length ≤ 70368744177664) → B1 Tryz.prog 123 [.ptr b 0] [.boxT b 186 [a, .vs (some o) (He l).length cp], .vecT (some o) 5 fr (He l) cp] (fun x H' => x = .val (.p (.str (S8 l))) ∧ H' = [.boxT b 186 [a, .vs (some o) (He l).length cp], .vecT (some o) 5 true (He l) cp]) := by
 intro b a o cp fr l h1 h2
 refine BH Tryz.func123 Ay Zh (n := 14) Ay Ay (A2 (A0 (Az Ay Ay (A4 Ay) (A5 Ay (A2 (CW (fun k => false) ED (BA Ay Ay (fun _ => A1 Ay) trivial (BA Ay Ay (fun _ => Bn Ay) trivial (BA Ay Ay (fun _ => A3 Nl Ay Ay) trivial (Ba (j := 0) Ay Ay Ay (fun H i hi => E6 (i := i) Uf Ay hi Ay) AA trivial (Ba (j := 1) Ay Ay Ay (fun H i hi => Py (i := i) Ay hi (by rw [K4, Nat.blt_eq]; exact h1)) AA trivial (BA Ay Ay (fun _ => A1 Ay) trivial (BA Ay Ay (fun _ => Bn Ay) trivial (BA Ay Ay (fun _ => A3 Nl Ay Ay) trivial (Ba (j := 0) Ay Ay Ay (fun H i hi => E6 (i := i) Uf Ay hi Ay) AA trivial (BA Ay Ay (fun _ => Mm ZR Ay (K4 _)) trivial ?_))))))))))))))))
 refine Cw Ay Ay (Ps (i := 1) (s := S8 l) YH cellsByte Ay Ay Ay (by rw [L9]; omega) (by rw [L9]; omega)) AA trivial (BA Ay Ay (fun _ => A4 Ay) trivial (CP Ay Ar (BF (⟨Ay, _, _, ⟨_, _, Ay, Ay, Ay⟩, (C2 (is := [0, 1]) Ay), ?_⟩))))
 exact ⟨Ay, Ay⟩
end Go.Proofs.YtapmjpihennhaaaGreatDoor
