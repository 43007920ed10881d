/- Part of the proofs: an abstract program logic, plain models and contracts of functions. -/
import Derived.Test.YtapmjpihennhaaaGreatDoorPc
import Derived.Test.YtapmjpihennhaaaGreatDoorPb
import Derived.Lib.ItoaNum
import Derived.Lib.AppendStr
import Derived.Lib.Builder
import Derived.Laws.Externs
import Derived.Lib.UnsafeStr
import Derived.Below
set_option linter.unusedVariables false
set_option linter.unusedSimpArgs false
set_option maxRecDepth 100000
namespace Go.Proofs.YtapmjpihennhaaaGreatDoor
open Go.Abs Go.Eu
theorem LY : ∀ (f : Tm) (xs : List Tm), (xs.length < EC) → G5 Tryz.prog 70 [.agg ((Be f).map .p), .p (.lst (BR xs))] (.agg ((Be (apply f xs)).map .p)) := by
 intro f xs h1
 simp only [EC] at h1
 refine A8 Tryz.func70 At dF (n := 19) At At (Ax (Av (BM At At (Bh At) fun b2 => BM At At (BK B7 At) fun b4 => Az At (Ax (Ax (Av (Au At At (Aw At) (Au At At (Bp By At (Bo _)) (Au At At (Aw At) ?_)))))))))
 refine Az At (Ba (CM (α := Nat) (fun i => ⟨19, mk [(2, .ptr b2 0), (4, .ptr b4 0), (7, .p (.lst (BR xs))), (8, .p (I (xs.length : Nat))), (9, .p (I (i : Int)))], [.box b4 [.p (I 0), .p (I 0), .p (.str ⟨#[]⟩), .p (.nils), .p (.nils)], .box b2 ((Be (apply f (xs.take i))).map .p)], []⟩) (fun i => xs.length - i) (fun i => i ≤ xs.length) 0 AS ?_ ?_))
 ·exact B8 ⟨we At, we At, we At, we At, we At, trivial⟩ (leH (is := [0, 1]) At (wl (oe At) (wl (oe At) (D4))))
 rintro i hC
 try simp only at hC
 have hi := hC
 refine Ax (Av (Au At At (BA At At At) (Az At (Ax (A9 At (fun c => ?_) (fun c => ?_))))))
 ·(try simp only [sd, se] at c)
  refine BC (Ax (Ba (Ax (Av ?_))))
  obtain ⟨x, hx⟩ := BP (l := xs) (i := i) Ar
  refine Au At At (BL By At At Ar (CH hx) (Bj _)) (Au At At (Bi BO At (Bj _)) (BM At At (BK B7 At) fun b6 => Au At At (A6 (i := 0) BO At At At Ak Ac (CF _)) (Az At (Av (Au At At (A0 (i := 2) BO At At Ak) (Au At At (A0 (i := 0) BO At At Ak) ?_))))))
  generalize hz : (apply f (xs.take i)) = z
  obtain ⟨zk, zi, zn, zl, zs⟩ := z
  obtain ⟨xk, xi, xn, xl, xs1⟩ := x
  refine Au At At (CO By B7 At At At At At) (Au At At (Br CX B7 At) (Au At At (Bk (i := 2) BO At At At At At At) (Az At (Av (Au At At (CS At At Ar Ar) (Au At At (Aw At) (Az At ?_)))))))
  refine ⟨(i + 1), AZ, by omega, B8 ⟨we rfl, we rfl, we rfl, we rfl, we rfl, trivial⟩ (leH (is := [1, 2]) rfl (wl (oe rfl) (wl (on (by rw [OM hx, hz]; rfl)) (D4))))⟩
 ·(try simp only [sd, se] at c)
  refine CL (Ax (Av (Au At At (A0 (i := 1) BO At At Ak) (Au At At (A6 (i := 0) BO At At At Ak Ac (CF _)) (Az At (BB (⟨At, _, _, ⟨_, _, At, (Bn (i := 0) BO At At Ak), At⟩, (List.nil_sublist _), ?_⟩)))))))
  all_goals exact ⟨by show (.agg ((Be (apply f (xs.take i))).map .p) : AV) = _; rw [show i = xs.length by omega, List.take_length], rfl⟩
theorem _root_.Go.AK {α : Prop} (h : α := by simp only [Bo, List.length_map, List.length_set]; omega) : α := h
theorem _root_.Go.Ad {α : Prop} (h : α := by simp only [Bo]; omega) : α := h
theorem _root_.Go.Af {α : Prop} (h : α := by simp [Bo]; omega) : α := h
theorem ZA : ∀ (xs : List Tm) (o0 : Option Nat) (c0 : Nat), (xs.length < EC) → Bt Tryz.prog 141 [.vs o0 (BR xs).length c0] [.vec o0 5 (BR xs) c0] (DC (.tup []) [.vec o0 5 (BR xs.reverse) c0]) := by
 intro xs o0 c0 h1
 simp only [EC] at h1
 refine A8 Tryz.func141 At ct (n := 28) At At (Ax (Av (Au At At (Aw At) (Au At At (JO By At (Bo _)) (Au At At (FA At At Ar Ar) (Au At At (Ay At) (Au At At (Ay At) (Az At (Ba (CM (α := Nat × List Tm × Option Nat × Nat) (fun (i, ys, o, cp) => ⟨28, mk [(0, .vs o (BR ys).length cp), (2, .p (I (i : Int))), (3, .p (I ((xs.length : Int) - 1 - (i : Int))))], [.vec o 5 (BR ys) cp], []⟩) (fun (i, ys, o, cp) => xs.length - i) (fun (i, ys, o, cp) => i ≤ xs.length ∧ Qo xs ys i ∧ o = o0 ∧ cp = c0) ⟨0, xs, o0, c0⟩ (⟨by omega, Rx xs, rfl, rfl⟩) ?_ ?_))))))))))
 ·exact B8 ⟨we At, we At, we (pI Ar), trivial⟩ (leH (is := [0]) At (wl (oe At) (D4)))
 rintro ⟨i, ys, o, cp⟩ hC
 try simp only at hC
 obtain ⟨hi, hR, ho, hcp⟩ := hC
 have hyl := hR.1
 have hjn : ((xs.length : Int) - 1 - (i : Int)).toNat = xs.length - 1 - i := by omega
 refine Ax (Ax (Av (Au At At (Aw At) (Au At At (Aw At) (Au At At (BA At At At) (Az At (A9 At (fun c => ?_) (fun c => ?_))))))))
 ·(try simp only [sd, se] at c)
  refine BC (Ax (Ba (RB (i := 0) At Af fun b hb => ?_)))
  subst hb
  refine CQ (fun k => false) D0 (A4 At At (fun _ => Aw At) trivial (A4 At At (fun _ => Aw At) trivial (A4 At At (fun _ => Aw At) trivial (A4 At At (fun _ => Aw At) trivial (A4 At At (fun _ => Aw At) trivial (A4 At At (fun _ => Aw At) trivial (A4 At At (fun _ => Df By At At Ar Ad) trivial ?_)))))))
  obtain ⟨y, hy⟩ := BP (l := ys) (i := ((xs.length : Int) - 1 - (i : Int) : Int).toNat) Ar
  refine BQ (j := 0) At At At (fun H i hi => HK (i := i) BO At hi (CH hy)) AA trivial (A4 At At (fun _ => Aw At) trivial (A4 At At (fun _ => Aw At) trivial (A4 At At (fun _ => Df By At At Ar Ad) trivial ?_)))
  obtain ⟨y1, hy1⟩ := BP (l := ys) (i := i) Ar
  refine BQ (j := 0) At At At (fun H i hi => HK (i := i) BO At hi (CH hy1)) AA trivial (A4 At At (fun _ => Df By At At Ar Ad) trivial (Cr At At (Fy (i := 0) (j := i) BO At At At AK At (Rc _) (Bj _) (CF _) (YQ ys i y)) AA trivial (A4 At At (fun _ => Df By At At Ar Ad) trivial (Cr At At (Fy (i := 0) (j := (((xs.length : Int) - 1 - (i : Int) : Int).toNat)) BO At At At AK At (Rc _) (Bj _) (CF _) (YQ ((ys).set i y) (((xs.length : Int) - 1 - (i : Int) : Int).toNat) y1)) AA trivial (CK At An (Av (Au At At (Aw At) (Au At At (CS At At Ar Ar) (Au At At (Aw At) (Au At At (FA At At Ar Ar) (Au At At (Ay At) ?_)))))))))))
  refine Au At At (Ay At) (Az At (⟨⟨i + 1, (ys.set i y).set (xs.length - 1 - i) y1, (some b), cp⟩, AZ, ⟨by omega, SS hR Ar hy1 (hjn ▸ hy), ho, hcp⟩, B8 ⟨we (Jg ys As), we rfl, we (pI Ar), trivial⟩ (leH (is := [0]) rfl (wl (WI (((ys).set i y).set (((xs.length : Int) - 1 - (i : Int) : Int).toNat) y1) (by rw [hjn])) (D4)))⟩))
 ·(try simp only [sd, se] at c)
  refine CL ⟨At, _, _, At, (Cj (is := [0]) At), ?_⟩
  refine ⟨At, ?_⟩
  show ([.vec o 5 (BR ys) cp] : List BT) = _
  rw [R1 hR Ar, ho, hcp]
theorem VN : ∀ (t : Tm), (Nd t) → (size t < EC) → G5 Tryz.prog 116 [.agg ((Be t).map .p)] (.tup [.agg ((Be ((Bq t).1)).map .p), .p (.lst (BR ((Bq t).2)))]) := by
 intro t h1 h2
 simp only [EC] at h2
 refine A8 Tryz.func116 At cD (n := 29) At At (Ax (Av (BM At At (Bh At) fun b1 => BM At At (BK B7 At) fun b2 => Au At At (Ay At) (Az At (Ax (Av (Au At At (Ay At) (Az At (Ax ?_)))))))))
 refine Ba (CG (GZ (t := 4) (sz := 5) At) ?_)
 refine CM (α := Tm × List Tm × Option Nat × Nat) (fun (tt, ys, o, cp) => ⟨29, mk [(1, .ptr b1 0), (2, .ptr b2 0), (4, .vs o (BR ys).length cp)], [.vec o 5 (BR ys) cp, .box b2 [.p (I 0), .p (I 0), .p (.str ⟨#[]⟩), .p (.nils), .p (.nils)], .box b1 ((Be tt).map .p)], []⟩) (fun (tt, ys, o, cp) => size tt) (fun (tt, ys, o, cp) => Bq t = ((Bq tt).1, (Bq tt).2 ++ ys.reverse) ∧ Nd tt ∧ size tt + ys.length ≤ size t) ⟨t, [], none, 0⟩ (⟨by simp, h1, by simp⟩) ?_ ?_
 ·exact B8 ⟨we At, we At, we At, trivial⟩ (leH (is := [0, 1, 2]) At (wl (oe At) (wl (oe At) (wl (oe At) (D4)))))
 rintro ⟨tt, ys, o, cp⟩ hC
 try simp only at hC
 obtain ⟨hS, hN, hL⟩ := hC
 refine Ax (Ax ?_)
 obtain ⟨ttk, tti, ttn, ttl, tts⟩ := tt
 simp only [size] at hL
 refine CA [1, 2, 4] 13 (fun y => y = .p (.bool (((ttk : Int) == (4 : Int)) && (((tts.length : Nat) : Int) == (2 : Int))))) ?_ ?_
 ·refine Av (Au At At (A1 CX At At) (Au At At (A2 (i := 2) De At At At) (Au At At (BA At At At) (Au At At (Aw At) (Bm 8 At (fun g => ?_) (fun g => ?_))))))
  ·(try simp only [sd, se] at g)
   exact A3 At At At At (A1 CX At At) (A3 At At At At (A2 (i := 2) DQ At At At) (A3 At At At At (Bp By At (Bo _)) (A3 At At At At (BA At At At) (Au At At (A7 At At) (Az At (⟨At, At, AJ, AI, ⟨At, At, At, trivial⟩⟩))))))
  ·(try simp only [sd, se] at g)
   exact A5 At At At At At (A5 At At At At At (A5 At At At At At (A5 At At At At At (Au At At (A7 At At) (Az At (⟨At, At, AJ, AI, ⟨At, At, At, trivial⟩⟩))))))
 rintro _ rfl
 refine A9 At (fun c => ?_) (fun c => ?_)
 ·(try simp only [sd, se] at c)
  refine BC (Ba (Ax (Av (Au At At (Aw At) (Au At At (A1 CX At At) (Au At At (A2 (i := 2) DQ At At At) ?_))))))
  obtain ⟨x, hx⟩ := BP (l := tts) (i := 1) Ar
  refine Au At At (BL By At At Ar (CH hx) (Bj _)) (Au At At (Bi BO At (Bj _)) ?_)
  obtain ⟨xk, xi, xn, xl, xs⟩ := x
  refine Au At At (CO By B7 At At At At At) (P9 At At (DX (i := 0) (rows' := BR [(.mk xk xi xn xl xs : Tm)]) By By B7 At At At At At At (CC _) AE (Lg ys [(.mk xk xi xn xl xs : Tm)])) fun o1 cp1 => Au At At (Ay At) (Az At (Av (Au At At (A1 CX At At) (Au At At (A2 (i := 2) DQ At At At) ?_)))))
  obtain ⟨x1, hx1⟩ := BP (l := tts) (i := 0) Ar
  refine Au At At (BL By At At Ar (CH hx1) (Bj _)) (Au At At (Bi BO At (Bj _)) (Au At At (A6 (i := 2) BO At At At Ak Ac (CF _)) (Az At ?_)))
  refine ⟨⟨x1, ys ++ [.mk xk xi xn xl xs], o1, cp1⟩, (by have := DE hx1; simp only [size]; omega), ⟨by rw [hS, PX c hx1 hx]; simp, DY hN.2.2.2.2.1 hx1, by have := DE hx1; simp; omega⟩, B8 ⟨we rfl, we rfl, we rfl, trivial⟩ (leH (is := [0, 1, 2]) rfl (wl (oe rfl) (wl (oe rfl) (wl (oe rfl) (D4)))))⟩
 ·(try simp only [sd, se] at c)
  refine CL (Ax (Av (Au At At (Aw At) (Au At At (B6 [0] At (.inl ⟨At, At, At⟩) (ZA ys o cp Ag) ⟨_, _, At, At, At⟩ Aq At (.inl At)) (Az At (Ax (Av (Au At At (A0 (i := 2) BO At At At) (Au At At (Aw At) (Au At At (Bk (i := 1) BO At At At At At At) (Au At At (Ay At) ?_)))))))))))
  refine Az At (CG (EU (t := 4) (x := .vs o (BR ys.reverse).length cp) (Jg ys (l' := ys.reverse) As)) (CG (EU (t := 25) (x := .vs o (BR ys.reverse).length cp) (Jg ys (l' := ys.reverse) As)) (CG (EU (t := 28) (x := .vs o (BR ys.reverse).length cp) (Jg ys (l' := ys.reverse) As)) (CG (EU (t := 3) (x := .vs o (BR ys.reverse).length cp) (Jg ys (l' := ys.reverse) As)) (CG (HJ (i := 0) [4, 25, 28, 3] At (ID ⟨At, At, At, At, trivial⟩)) (BB (⟨At, _, _, ⟨_, _, At, (Bn (i := 0) BO At At At), ⟨_, _, At, At, At⟩⟩, (List.nil_sublist _), ?_⟩)))))))
  rw [hS, OQ (Classical.or_iff_not_imp_left.2 fun h => by simp at h; exact fun e => absurd (c h) (by simp [e]))]
  all_goals exact ⟨rfl, rfl⟩
theorem UU : ∀ (a b : List Int), (a.length < EC) → G5 Tryz.prog 30 [.p (.lst (List.map Cf a)), .p (.lst (List.map Cf b))] (.p (.bool (Mx a b))) := by
 intro a b h1
 simp only [EC] at h1
 refine A8 Tryz.func30 At fH (n := 26) At At (Ax (Av (Au At At (Ay At) (Az At (Ax (Ax (Av (Au At At (Aw At) (Au At At (Bp D9 At (List.length_map _)) (Au At At (Aw At) (Au At At (Bp D9 At (List.length_map _)) ?_)))))))))))
 refine Au At At (BA At At At) (Az At (A9 At (fun c => ?_) (fun c => ?_)))
 ·(try simp only [sd, se] at c)
  refine Ax (Av (Au At At (Ay At) (Az At (BB (⟨At, _, _, ⟨_, _, At, At, At⟩, (List.nil_sublist _), ?_⟩)))))
  all_goals exact ⟨pB (DK (fun h => by subst h; omega)).symm, rfl⟩
 ·(try simp only [sd, se] at c)
  refine BC (Ax (Ax (Av (Au At At (Aw At) (Au At At (Bp D9 At (List.length_map _)) (Au At At (Aw At) (Az At (Ba (CM (α := Nat) (fun i => ⟨26, mk [(0, .p (.lst (List.map Cf a))), (1, .p (.lst (List.map Cf b))), (12, .p (I (a.length : Nat))), (13, .p (I (i : Int)))], [], []⟩) (fun i => a.length - i) (fun i => i ≤ a.length ∧ (agree a b i)) 0 (⟨by omega, Is _ _⟩) ?_ ?_)))))))))
  ·exact B8 ⟨we At, we At, we At, we At, trivial⟩ (leH (is := []) At (D4))
  rintro i hC
  try simp only at hC
  obtain ⟨hi, hC⟩ := hC
  refine Ax (Av (Au At At (BA At At At) (Az At (Ax (A9 At (fun c1 => ?_) (fun c1 => ?_))))))
  ·(try simp only [sd, se] at c1)
   refine BC (Ax (Ba (Ax (Av (Au At At (Aw At) (Au At At (Ay At) (Az At (Ax (CQ (fun k => false) D0 (A4 At At (fun _ => Aw At) trivial (A4 At At (fun _ => Aw At) trivial ?_)))))))))))
   obtain ⟨x, hx⟩ := BP (l := a) (i := i) Ar
   refine A4 At At (fun _ => BL D9 At At Ar (Ds hx) (At)) trivial (A4 At At (fun _ => CI De At) trivial (A4 At At (fun _ => Aw At) trivial (A4 At At (fun _ => Aw At) trivial ?_)))
   obtain ⟨x1, hx1⟩ := BP (l := b) (i := i) Ar
   refine A4 At At (fun _ => BL D9 At At Ar (Ds hx1) (At)) trivial (A4 At At (fun _ => CI De At) trivial (A4 At At (fun _ => BA At At At) trivial (CK At An (A9 At (fun c2 => ?_) (fun c2 => ?_)))))
   ·(try simp only [sd, se] at c2)
    refine Ax (Av (Au At At (Ay At) (Az At (BB (⟨At, _, _, ⟨_, _, At, At, At⟩, (List.nil_sublist _), ?_⟩)))))
    all_goals exact ⟨pB (DK (fun h => by subst h; rw [hx] at hx1; injection hx1 with e; omega)).symm, rfl⟩
   ·(try simp only [sd, se] at c2)
    refine BC (Av (Au At At (CS At At Ar Ar) (Au At At (Aw At) (Az At (⟨(i + 1), AZ, ⟨by omega, Ij hC hx (by rw [hx1]; congr 1; omega)⟩, B8 ⟨we rfl, we rfl, we rfl, we rfl, trivial⟩ (leH (is := []) rfl (D4))⟩)))))
  ·(try simp only [sd, se] at c1)
   refine CL (Ax (Av (Au At At (Ay At) (Az At (BB (⟨At, _, _, ⟨_, _, At, At, At⟩, (List.nil_sublist _), ?_⟩))))))
   all_goals exact ⟨pB (C3 (Jt hC Ar Ar)).symm, rfl⟩
theorem Vc : ∀ (n : Nat) (l : List Tm) (most : Int), B4 l ≤ n → Vt l → l.length < wide → G5 Tryz.prog 57 [.p (I most), cx l] (.p (I (D2 l most 0))) := by
 intro n
 induction n using Nat.strongRecOn with
 | ind n ih =>
  intro l most hs hnd hlen
  simp only [wide] at hlen
  refine A8 Tryz.func57 At fR (n := 29) At At (Ax (Av (Au At At (Ay At) (Az At (Ax (Av (Au At At (Ay At) (Az At (Ax (Ax (Av ?_)))))))))))
  refine Au At At (Aw At) (Au At At (C8 By At) (Au At At (Aw At) (Az At (Ba (CM (α := Nat × Int) (fun s => ⟨29, mk [(0, .p (I most)), (5, .p (I s.2)), (8, cx l), (9, .p (I (BR l).length)), (10, .p (I s.1))], [], []⟩) (fun s => l.length - s.1) (fun s => s.1 ≤ l.length ∧ D2 (l.drop s.1) most s.2 = D2 l most 0) ((0, 0)) As ?_ ?_)))))
  ·exact Hk ⟨At, At, At, At, At, trivial⟩ J
  rintro ⟨i, m⟩ ⟨hi, hC⟩
  simp only at hi hC
  refine Ax (Av (Au At At (BA At At At) (Az At (Ax (A9 At (fun c1 => ?_) (fun c1 => ?_))))))
  ·(try simp only [sd] at c1)
   have hi2 : i < l.length := by rw [Bo] at c1; omega
   obtain ⟨t, hk⟩ := BP hi2
   have hks := DE hk
   obtain ⟨kd, ix, nm, ls, ks⟩ := t
   have hnt := Ms hnd hk
   simp only [Wd] at hnt
   simp only [size] at hks
   refine BC (Ax (Ba (Ax (Av (Au At At (BL By At At Ar (CH hk) (Bj _)) (Au At At (Bi BO At (Bj _)) (BM At At (BK B7 At) fun b7 => Au At At (Bk (i := 0) BO At At At At At At) (Az At (Ax (Ax ?_))))))))))
   refine Av (Au At At (Aw At) (Au At At (Aw At) (Au At At (BA At At At) (Az At (A9 At (fun c2 => ?_) (fun c2 => ?_))))))
   ·(try simp only [sd] at c2)
    refine Ax (Av (Au At At (Aw At) (Au At At (Ay At) (Az At (BB ⟨At, _, [], Bu At, List.nil_sublist _, ?_⟩)))))
    exact ⟨pI (by rw [← hC, PE hk, if_pos Ar]), At⟩
   ·(try simp only [sd] at c2)
    refine BC (Av (Au At At (Aw At) (Au At At (Aw At) (Au At At (Aw At) (Au At At (NZ At At) (Au At At (A1 CX At At) (Au At At (A2 (i := 0) DQ At At At) (Au At At (Bg At At (ih (B4 ks) Ar ks _ (Nat.le_refl _) hnt.2.2.2.2.1 hnt.2.2.2.1) At) (Au At At (D7 At At) (Au At At (D7 At At) (Au At At (Ay At) ?_)))))))))))
    refine Az At (Av (Au At At (CS At At Ar Ar) (Au At At (Aw At) (Az At ?_))))
    exact ⟨(i + 1, wr (m + wr (1 + D2 ks (wr (most - m)) 0))), Am, ⟨by omega, by rw [← hC, PE hk, if_neg Ar, Dv]⟩, Hk ⟨rfl, rfl, rfl, rfl, rfl, trivial⟩ J⟩
  ·(try simp only [sd] at c1)
   have hi2 : i = l.length := by rw [Bo] at c1; omega
   refine CL (Ax (Av (Au At At (Aw At) (Au At At (Ay At) (Az At (BB ⟨At, _, [], Bu At, List.nil_sublist _, ?_⟩))))))
   exact ⟨pI (by rw [← hC, hi2, List.drop_length]; rfl), At⟩
theorem Y1 : ∀ (x : FC), (Zt x) → G5 Tryz.prog 59 [.agg ((Dw x).map .p)] (.p (.bool (decide ((x.vars.length : Int) > 20)))) := by
 intro x h1
 refine A8 Tryz.func59 At dh (n := 7) At At (Ax (Av (BM At At (Bh At) fun b1 => Au At At (Ay At) (Az At (Ax (Av (Au At At (A1 D8 At At) (Au At At (A2 (i := 0) HC At At At) (Au At At (Bp Fq At (List.length_map _)) (Au At At (BA At At At) ?_))))))))))
 refine Au At At (Ay At) (Az At (BB (⟨At, _, _, ⟨_, _, At, At, At⟩, (List.nil_sublist _), ?_⟩)))
 all_goals exact ⟨rfl, rfl⟩
theorem Ye : ∀ (l : List FC), (l.length < wide) → (∀ x ∈ l, Zt x) → G9 Tryz.prog 102 [.p (.lst (List.map Dw l)), .p (.fn 59)] (fun v => ∃ r : Int, v = .p (I r) ∧ (r < 0 → ∀ x ∈ l, x.vars.length ≤ 20)) := by
 intro l h1 h2
 simp only [wide] at h1
 refine A8 Tryz.func102 At cq (n := 19) At At (Ax (Av (Au At At (Ay At) (Az At (Ax (Ax (Av (Au At At (Aw At) (Au At At (Bp Hr At (List.length_map _)) (Au At At (Aw At) (Az At ?_)))))))))))
 refine Ba ?_
 refine CM (α := Nat) (fun i => ⟨19, mk [(0, .p (.lst (List.map Dw l))), (1, .p (.fn 59)), (7, .p (I (l.length : Nat))), (8, .p (I (i : Int)))], [], []⟩) (fun i => l.length - i) (fun i => i ≤ l.length ∧ (∀ j, j < i → ∀ x, l[j]? = some x → x.vars.length ≤ 20)) 0 (⟨by omega, fun j h => by omega⟩) ?_ ?_
 ·exact B8 ⟨we At, we At, we At, we At, trivial⟩ (leH (is := []) At (D4))
 rintro i hC
 try simp only at hC
 obtain ⟨hi, hC⟩ := hC
 refine Ax (Av (Au At At (BA At At At) (Az At (Ax (A9 At (fun c => ?_) (fun c => ?_))))))
 ·(try simp only [sd, se] at c)
  refine BC (Ax (Ba (Ax (Av (Au At At (Aw At) (Au At At (Ay At) (Az At (Ax (Av (Au At At (Aw At) (Au At At (Aw At) ?_)))))))))))
  refine Au At At (Aw At) ?_
  obtain ⟨x, hx⟩ := BP (l := l) (i := i) Ar
  refine Au At At (BL Hr At At Ar (Jh hx) (At)) (Au At At (Bi EM At (At)) (Au At At (Bg At At (Y1 x (h2 x (List.mem_of_getElem? hx))) At) (Az At (A9 At (fun c1 => ?_) (fun c1 => ?_)))))
  ·(try simp only [sd, se] at c1)
   refine Ax (Av (Au At At (Aw At) (Au At At (Ay At) (Az At (BB (⟨At, _, [], Bu At, List.nil_sublist _, ⟨⟨_, At, ?_⟩, At⟩⟩))))))
   exact fun h => by omega
  ·(try simp only [sd, se] at c1)
   refine BC (Av (Au At At (CS At At Ar Ar) (Au At At (Aw At) (Az At (⟨(i + 1), AZ, ⟨by omega, Dl hC hx Ar⟩, B8 ⟨we rfl, we rfl, we rfl, we rfl, trivial⟩ (leH (is := []) rfl (D4))⟩)))))
 ·(try simp only [sd, se] at c)
  refine CL (Ax (Av (Au At At (Ay At) (Az At (BB (⟨At, _, [], Bu At, List.nil_sublist _, ⟨⟨_, At, ?_⟩, At⟩⟩))))))
  exact fun _ x hx => by obtain ⟨j, hj⟩ := Fh hx; exact hC j (by have := (List.getElem?_eq_some_iff.1 hj).1; omega) x hj
theorem XV : ∀ (l : List FC), (l.length < wide) → (∀ x ∈ l, Zt x) → G9 Tryz.prog 58 [.p (.lst (List.map Dw l)), .p (.fn 59)] (fun v => ∃ b : Bool, v = .p (.bool b) ∧ (b = false → ∀ x ∈ l, x.vars.length ≤ 20)) := by
 intro l h1 h2
 refine A8 Tryz.func58 At ep (n := 9) At At (Ax (Av (Au At At (Ay At) (Az At (Ax (Av (Au At At (Aw At) (Au At At (Aw At) (Ff At At (Bb At At (Ye l h1 h2) (.inl At)) ?_)))))))))
 rintro _ ⟨r, rfl, hr⟩
 refine Au At At (BA At At At) (Au At At (Ay At) (Az At (BB (⟨At, _, [], Bu At, List.nil_sublist _, ⟨⟨_, At, ?_⟩, At⟩⟩))))
 exact fun h => hr (by simp at h; omega)
theorem bK : ∀ (n : Nat) (l : List Tm), (B4 l ≤ n) → (Vt l) → (l.length < wide) → G9 Tryz.prog 34 [.p (.lst (BR l))] (fun v => ∃ b : Bool, v = .p (.bool b) ∧ (b = true → aF l)) := by
 intro n
 induction n using Nat.strongRecOn with
 | ind n ih =>
  intro l h1 h2 h3
  have h3b := h3
  simp only [wide] at h3b
  refine A8 Tryz.func34 At fh (n := 36) At At (Ax (Av (Au At At (Ay At) (Az At (Ax (Ax (Av (Au At At (Aw At) (Au At At (Bg At At (Vc _ l 200 (Nat.le_refl _) h2 h3) At) (Au At At (BA At At At) (Az At ?_)))))))))))
  refine A9 At (fun c => ?_) (fun c => ?_)
  ·have cR := c
   (try simp only [sd, se] at c)
   refine Ax (Av (Au At At (Ay At) (Az At (BB (⟨At, _, [], Bu At, List.nil_sublist _, ⟨⟨_, At, ?_⟩, At⟩⟩)))))
   exact fun h => absurd h Aq
  ·have cR := c
   (try simp only [sd, se] at c)
   refine BC (Ax (Ax (Av (Au At At (Aw At) (Au At At (Bp By At (Bo _)) (Au At At (Aw At) (Az At (Ba ?_))))))))
   refine CM (α := Nat) (fun i => ⟨36, mk [(8, .p (.lst (BR l))), (9, .p (I (l.length : Nat))), (10, .p (I (i : Int)))], [], []⟩) (fun i => l.length - i) (fun i => i ≤ l.length ∧ (∀ j, j < i → ∀ x, l[j]? = some x → Tv x)) 0 (⟨by omega, fun j h => by omega⟩) ?_ ?_
   ·exact B8 ⟨we At, we At, we At, trivial⟩ (leH (is := []) At (D4))
   rintro i hC
   try simp only at hC
   obtain ⟨hi, hC⟩ := hC
   refine Ax (Av (Au At At (BA At At At) (Az At (Ax (A9 At (fun c1 => ?_) (fun c1 => ?_))))))
   ·have c1R := c1
    (try simp only [sd, se] at c1)
    refine BC (Ax (Ba (Ax (Av ?_))))
    obtain ⟨t, ht⟩ := BP (l := l) (i := i) Ar
    refine Au At At (BL By At At Ar (CH ht) (Bj _)) (Au At At (Bi BO At (Bj _)) (BM At At (BK B7 At) fun b4 => Au At At (A6 (i := 0) BO At At At Ak Ac (CF _)) (Az At (Ax ?_))))
    obtain ⟨tk, ti, tn, tl, ts⟩ := t
    have hnt := Ms h2 ht
    simp only [Wd] at hnt
    have hks := DE ht
    simp only [size] at hks
    refine CA [8, 9, 10] 34 (fun y => ∃ b : Bool, y = .p (.bool b) ∧ (b = false → Tv (.mk tk ti tn tl ts))) ?_ ?_
    ·refine Av (Au At At (A1 CX At At) (Au At At (A2 (i := 0) FU At At At) (Au At At (Gx Ys At) (Au At At (BA At At At) (Au At At (Aw At) (Bm 18 At (fun g => ?_) (fun g => ?_)))))))
     ·(try simp only [sd, se] at g)
      refine A5 At At At At At (A5 At At At At At (A5 At At At At At (A5 At At At At At (Au At At (A7 At At) (Au At At (Aw At) (A5 At At At At At (A5 At At At At At (A5 At At At At At (Au At At (A7 At At) (Au At At (Aw At) (A5 At At At At At ?_)))))))))))
      refine A5 At At At At At (A5 At At At At At (A5 At At At At At (Au At At (A7 At At) (Az At ?_))))
      exact ⟨At, At, AJ, (by first | exact ⟨_, rfl, fun h => absurd h Aq⟩ | exact ⟨_, rfl, fun h => by simp only [Bool.not_eq_false'] at h; exact ⟨by omega, by omega, hb Ao, (hb1 h).sz, (hb1 h).nd, (hb1 h).fw⟩⟩), ⟨At, At, At, trivial⟩⟩
     ·(try simp only [sd, se] at g)
      refine A3 At At At At (A1 CX At At) (A3 At At At At (A2 (i := 0) I7 At At At) (A3 At At At At (Bp Hr At (List.length_map _)) (A3 At At At At (BA At At At) (Au At At (A7 At At) (Au At At (Aw At) (Bm 24 At (fun g1 => ?_) (fun g1 => ?_)))))))
      ·(try simp only [sd, se] at g1)
       refine A5 At At At At At (A5 At At At At At (A5 At At At At At (Au At At (A7 At At) (Au At At (Aw At) (A5 At At At At At (A5 At At At At At (A5 At At At At At (A5 At At At At At (Au At At (A7 At At) (Az At ?_))))))))))
       exact ⟨At, At, AJ, (by first | exact ⟨_, rfl, fun h => absurd h Aq⟩ | exact ⟨_, rfl, fun h => by simp only [Bool.not_eq_false'] at h; exact ⟨by omega, by omega, hb Ao, (hb1 h).sz, (hb1 h).nd, (hb1 h).fw⟩⟩), ⟨At, At, At, trivial⟩⟩
      ·(try simp only [sd, se] at g1)
       refine A3 At At At At (A1 CX At At) (A3 At At At At (A2 (i := 0) I7 At At At) (Js At At At At (Bb At At (XV tl hnt.2.1 hnt.2.2.1) (.inl At)) ?_))
       rintro _ ⟨b, rfl, hb⟩
       refine Au At At (A7 At At) (Au At At (Aw At) (Bm 29 At (fun g2 => ?_) (fun g2 => ?_)))
       ·(try simp only [sd, se] at g2)
        refine A5 At At At At At (A5 At At At At At (A5 At At At At At (A5 At At At At At (Au At At (A7 At At) (Az At ?_)))))
        exact ⟨At, At, AJ, (by first | exact ⟨_, rfl, fun h => absurd h Aq⟩ | exact ⟨_, rfl, fun h => by simp only [Bool.not_eq_false'] at h; exact ⟨by omega, by omega, hb Ao, (hb1 h).sz, (hb1 h).nd, (hb1 h).fw⟩⟩), ⟨At, At, At, trivial⟩⟩
       ·(try simp only [sd, se] at g2)
        refine A3 At At At At (A1 CX At At) (A3 At At At At (A2 (i := 0) DQ At At At) (Js At At At At (Bb At At (ih (B4 ts) Ar ts (Nat.le_refl _) hnt.2.2.2.2.1 hnt.2.2.2.1) (.inl At)) ?_))
        rintro _ ⟨b1, rfl, hb1⟩
        refine A3 At At At At (Cg At) (Au At At (A7 At At) (Az At ?_))
        exact ⟨At, At, AJ, (by first | exact ⟨_, rfl, fun h => absurd h Aq⟩ | exact ⟨_, rfl, fun h => by simp only [Bool.not_eq_false'] at h; exact ⟨by omega, by omega, hb Ao, (hb1 h).sz, (hb1 h).nd, (hb1 h).fw⟩⟩), ⟨At, At, At, trivial⟩⟩
    rintro _ ⟨q, rfl, hq⟩
    refine A9 At (fun c2 => ?_) (fun c2 => ?_)
    ·have c2R := c2
     (try simp only [sd, se] at c2)
     refine Ax (Av (Au At At (Ay At) (Az At (BB (⟨At, _, [], Bu At, List.nil_sublist _, ⟨⟨_, At, ?_⟩, At⟩⟩)))))
     exact fun h => absurd h Aq
    ·have c2R := c2
     (try simp only [sd, se] at c2)
     refine BC (Av (Au At At (CS At At Ar Ar) (Au At At (Aw At) (Az At (⟨(i + 1), AZ, ⟨by omega, Dl hC ht (hq (by simpa using c2))⟩, B8 ⟨we rfl, we rfl, we rfl, trivial⟩ (leH (is := []) rfl (D4))⟩)))))
   ·have c1R := c1
    (try simp only [sd, se] at c1)
    refine CL (Ax (Av (Au At At (Ay At) (Az At (BB (⟨At, _, [], Bu At, List.nil_sublist _, ⟨⟨_, At, ?_⟩, At⟩⟩))))))
    exact fun _ => Xk (m := i) Ar h2 h3 Ar hC
end Go.Proofs.YtapmjpihennhaaaGreatDoor
namespace Go.Eu
open Go.Abs
structure fy where
 name : ByteArray
 type : Tm
 deriving Inhabited
structure cv where
 params : Int
 type : Tm
 rules : List Tm
 deriving Inhabited
mutual
inductive To where
 | mk (kind : Int) (body : Tm) (var : Int) (branches : List Uq)
inductive Uq where
 | mk (ctor : ByteArray) (absurd : Bool) (tree : To)
end
instance : Inhabited To := ⟨.mk 0 default 0 []⟩
instance : Inhabited Uq := ⟨.mk default false default⟩
def To.kind : To → Int | .mk k _ _ _ => k
def To.body : To → Tm | .mk _ b _ _ => b
def To.var : To → Int | .mk _ _ v _ => v
def To.branches : To → List Uq | .mk _ _ _ l => l
def Uq.ctor : Uq → ByteArray | .mk c _ _ => c
def Uq.absurd : Uq → Bool | .mk _ a _ => a
def Uq.tree : Uq → To | .mk _ _ t => t
structure fj where
 name : ByteArray
 type : Tm
 arity : Int
 tree : To
 deriving Inhabited
structure Kb where
 kind : Int
 name : ByteArray
 params : Int
 type : Tm
 value : Tm
 fixed : Int
 ctors : List fy
 recs : cv
 funs : List fj
 deriving Inhabited
structure UN where
 kind : Int
 decl : Int
 item : Int
 params : Int
 type : Tm
 deriving Inhabited
structure BJ where
 carrier : ByteArray
 add : ByteArray
 zero : ByteArray
 neg : ByteArray
 one : ByteArray
 leq : ByteArray
 lemmas : List ByteArray
 deriving Inhabited
structure CY where
 place : Int
 minus : Bool
 deriving Inhabited, DecidableEq
def Z3 (c : fy) : List PV := .str c.name :: Be c.type
def WS (r : cv) : List PV := I r.params :: (Be r.type ++ [.lst (BR r.rules)])
mutual
def UX : To → List PV
 | .mk k b v l => I k :: (Be b ++ [I v, .lst (YJ l)])
def aD : Uq → List PV
 | .mk c a t => .str c :: .bool a :: UX t
def YJ : List Uq → List (List PV)
 | [] => []
 | b :: l => aD b :: YJ l
end
def dD (f : fj) : List PV := .str f.name :: (Be f.type ++ (I f.arity :: UX f.tree))
def DZ (d : Kb) : List PV := I d.kind :: .str d.name :: I d.params :: (Be d.type ++ (Be d.value ++ (I d.fixed :: .lst (d.ctors.map Z3) :: (WS d.recs ++ [.lst (d.funs.map dD)]))))
def OV (e : UN) : List PV := I e.kind :: I e.decl :: I e.item :: I e.params :: Be e.type
def EE (t : BJ) : List PV := [.str t.carrier, .str t.add, .str t.zero, .str t.neg, .str t.one, .str t.leq, .lst (t.lemmas.map Ch)]
def Ca (s : CY) : List PV := [I s.place, .bool s.minus]
theorem Ud (r : cv) : (WS r).length = 7 := by simp [WS, Bj]
theorem JP (d : Kb) : (DZ d).length = 23 := by simp [DZ, Bj, Ud]
theorem Gz (e : UN) : (OV e).length = 9 := by simp [OV, Bj]
theorem P1 {α : Type} {f : α → List PV} {ts : List α} {i : Nat} {t : α} (h : ts[i]? = some t) : (ts.map f)[i]? = some (f t) := by simp [h]
theorem Vs {ts : List Kb} {i : Nat} {t : Kb} (h : ts[i]? = some t) : (ts.map DZ)[i]? = some (DZ t) := P1 h
theorem D1 {ts : List CY} {i : Nat} {t : CY} (h : ts[i]? = some t) : (ts.map Ca)[i]? = some (Ca t) := P1 h
theorem Ct {n : Nat} {c : PV} {r : List PV} (hc : c ≠ .any) (h : Dj n r) : Dj (n + 1) (c :: r) :=
 ⟨by simp [h.1], fun x hx => by
  rcases List.mem_cons.1 hx with rfl | hx
  ·exact hc
  ·exact h.2 x hx⟩
theorem GY {n m : Nat} {a b : List PV} (ha : Dj n a) (hb : Dj m b) : Dj (n + m) (a ++ b) :=
 ⟨by simp [ha.1, hb.1], fun x hx => by
  rcases List.mem_append.1 hx with hx | hx
  ·exact ha.2 x hx
  ·exact hb.2 x hx⟩
theorem IW : Dj 0 [] := ⟨rfl, fun c h => by simp at h⟩
theorem ZN (r : cv) : Dj 7 (WS r) := Ct As (GY (Iw _) (Ct As IW))
theorem V5 (d : Kb) : Dj 23 (DZ d) := Ct As (Ct As (Ct As (GY (n := 5) (m := 15) (Iw _) (GY (n := 5) (m := 10) (Iw _) (Ct As (Ct As (GY (n := 7) (m := 1) (ZN _) (Ct As IW))))))))
theorem Zq (e : UN) : Dj 9 (OV e) := Ct As (Ct As (Ct As (Ct As (Iw _))))
theorem Wp (t : BJ) : Dj 7 (EE t) := Ct As (Ct As (Ct As (Ct As (Ct As (Ct As (Ct As IW))))))
theorem Sf (s : CY) : Dj 2 (Ca s) := Ct As (Ct As IW)
theorem T5 (l : List Kb) : ∀ r ∈ l.map DZ, Dj 23 r := Fi V5 l
theorem DL (l : List CY) : ∀ r ∈ l.map Ca, Dj 2 r := Fi Sf l
theorem Xv (m : Kb) : ((DZ m).map AV.p).all one = true := Fk (V5 m)
theorem Pp (m : UN) : ((OV m).map AV.p).all one = true := Fk (Zq m)
theorem TC (m : BJ) : ((EE m).map AV.p).all one = true := Fk (Wp m)
theorem XU (m : CY) : ((Ca m).map AV.p).all one = true := Fk (Sf m)
open Go.Lib (decDigits itoa)
theorem OJ {α : Type} {p : α → Bool} : ∀ {x y r r' : List α}, (∀ c ∈ x, p c = true) → (∀ c ∈ y, p c = true) → (∀ c, r.head? = some c → p c = false) → (∀ c, r'.head? = some c → p c = false) → x ++ r = y ++ r' → x = y ∧ r = r'
 | [], [], r, r', _, _, _, _, h => ⟨rfl, h⟩
 | [], c :: y, r, r', _, hy, hr, _, h => by
  have h1 : r = c :: (y ++ r') := h
  have := hr c (by rw [h1]; rfl)
  rw [hy c As] at this
  cases this
 | c :: x, [], r, r', hx, _, _, hr', h => by
  have h1 : r' = c :: (x ++ r) := h.symm
  have := hr' c (by rw [h1]; rfl)
  rw [hx c As] at this
  cases this
 | c :: x, d :: y, r, r', hx, hy, hr, hr', h => by
  simp only [List.cons_append, List.cons.injEq] at h
  obtain ⟨h1, h2⟩ := OJ (fun z hz => hx z (by simp [hz])) (fun z hz => hy z (by simp [hz])) hr hr' h.2
  exact ⟨by rw [h.1, h1], h2⟩
theorem Jp (u : Nat) : decDigits u = (if u < 10 then [] else decDigits (u / 10)) ++ [UInt8.ofNat (48 + u % 10)] := by
 rw [decDigits]
 split
 ·rename_i h; rw [Nat.mod_eq_of_lt h]; rfl
 ·rfl
theorem X8 (u : Nat) : decDigits u ≠ [] := by rw [Jp]; simp
theorem XL {a b : Nat} (ha : a < 10) (hb : b < 10) (h : UInt8.ofNat (48 + a) = UInt8.ofNat (48 + b)) : a = b := by
 have := congrArg UInt8.toNat h
 simp only [UInt8.toNat_ofNat'] at this
 omega
theorem Vq : ∀ (n a b : Nat), a ≤ n → decDigits a = decDigits b → a = b := by
 intro n
 induction n using Nat.strongRecOn with
 | ind n ih =>
  intro a b hn h
  rw [Jp a, Jp b] at h
  obtain ⟨h1, h2⟩ := List.append_inj' h rfl
  have h3 := XL (Nat.mod_lt _ Aq) (Nat.mod_lt _ Aq) (by simpa using h2)
  by_cases ha : a < 10
  ·by_cases hb : b < 10
   ·omega
   ·rw [if_pos ha, if_neg hb] at h1; exact absurd h1.symm (X8 _)
  ·by_cases hb : b < 10
   ·rw [if_neg ha, if_pos hb] at h1; exact absurd h1 (X8 _)
   ·rw [if_neg ha, if_neg hb] at h1
    have := ih (a / 10) Ar (a / 10) (b / 10) (Nat.le_refl _) h1
    omega
def UL (c : UInt8) : Bool := c == 45 || (decide (48 ≤ c.toNat) && decide (c.toNat ≤ 57))
theorem SK : ∀ (n u : Nat), u ≤ n → ∀ c ∈ decDigits u, 48 ≤ c.toNat ∧ c.toNat ≤ 57 := by
 intro n
 induction n using Nat.strongRecOn with
 | ind n ih =>
  intro u hu c hc
  rw [Jp] at hc
  rcases List.mem_append.1 hc with hc | hc
  ·split at hc
   ·simp at hc
   ·exact ih (u / 10) Ar (u / 10) (Nat.le_refl _) c hc
  ·simp only [List.mem_singleton] at hc
   subst hc
   have := Nat.mod_lt u (show 0 < 10 by decide)
   rw [UInt8.toNat_ofNat']
   omega
theorem Q4 (n : Int) : ∀ c ∈ itoa n, UL c = true := by
 intro c hc
 unfold itoa at hc
 split at hc
 ·rcases List.mem_cons.1 hc with rfl | hc
  ·rfl
  ·have := SK _ _ (Nat.le_refl _) c hc
   simp [UL, this]
 ·have := SK _ _ (Nat.le_refl _) c hc
  simp [UL, this]
theorem Ut {a b : Int} (h : itoa a = itoa b) : a = b := by
 have key : ∀ (u : Nat) (l : List UInt8), decDigits u ≠ 45 :: l := fun u l e => by
  have := SK _ _ (Nat.le_refl _) 45 (by rw [e]; simp)
  simp at this
 unfold itoa at h
 split at h <;> split at h
 ·simp only [List.cons.injEq, true_and] at h
  have := Vq _ _ _ (Nat.le_refl _) h
  omega
 ·exact absurd h.symm (key _ _)
 ·exact absurd h (key _ _)
 ·have := Vq _ _ _ (Nat.le_refl _) h
  omega
theorem JI {a b : Int} {r r' : List UInt8} (hr : ∀ c, r.head? = some c → UL c = false) (hr' : ∀ c, r'.head? = some c → UL c = false) (h : itoa a ++ r = itoa b ++ r') : a = b ∧ r = r' := by
 obtain ⟨h1, h2⟩ := OJ (Q4 a) (Q4 b) hr hr' h
 exact ⟨Ut h1, h2⟩
def KI (v : DJ) : List UInt8 := 32 :: (itoa v.index ++ 43 :: itoa v.plus)
def KF (l : FC) : List UInt8 := 91 :: (itoa l.const ++ (l.vars.flatMap KI ++ [93]))
def GM (n : ByteArray) : List UInt8 := 34 :: (n.data.toList ++ [34])
mutual
def Ir : Tm → List UInt8
 | .mk k i n l ks => 40 :: (itoa k ++ 32 :: (itoa i ++ 32 :: (GM n ++ (l.flatMap KF ++ (EN ks ++ [41])))))
def EN : List Tm → List UInt8
 | [] => []
 | t :: ts => Ir t ++ EN ts
end
def Sm (c : UInt8) : Prop := c ≠ 34 ∧ c ≠ 92 ∧ 32 ≤ c.toNat ∧ c.toNat < 127
mutual
def My : Tm → Prop
 | .mk k i n l ks => (∀ c ∈ n.data.toList, Sm c) ∧ Of ks
def Of : List Tm → Prop
 | [] => True
 | t :: ts => My t ∧ Of ts
end
theorem PC : ∀ {l l' : List DJ} {r r' : List UInt8}, l.flatMap KI ++ 93 :: r = l'.flatMap KI ++ 93 :: r' → l = l' ∧ r = r'
 | [], [], r, r', h => by simpa using h
 | [], v :: l', r, r', h => by simp [KI] at h
 | v :: l, [], r, r', h => by simp [KI] at h
 | v :: l, v' :: l', r, r', h => by
  simp only [List.flatMap_cons, KI, List.cons_append, List.append_assoc, List.cons.injEq, true_and] at h
  obtain ⟨h1, h2⟩ := JI (by simp [UL]) (by simp [UL]) h
  simp only [List.cons.injEq, true_and] at h2
  have hd : ∀ (m : List DJ) (s : List UInt8) (c : UInt8), (m.flatMap KI ++ 93 :: s).head? = some c → UL c = false := by
   intro m s c hc
   cases m with
   | nil => simp at hc; subst hc; rfl
   | cons a m => simp [KI] at hc; subst hc; rfl
  obtain ⟨h3, h4⟩ := JI (hd _ _) (hd _ _) h2
  obtain ⟨h5, h6⟩ := PC h4
  obtain ⟨i, p⟩ := v
  obtain ⟨i', p'⟩ := v'
  simp only at h1 h3
  exact ⟨by rw [h1, h3, h5], h6⟩
theorem PY : ∀ {l l' : List FC} {r r' : List UInt8}, (∀ c, r.head? = some c → c ≠ 91) → (∀ c, r'.head? = some c → c ≠ 91) → l.flatMap KF ++ r = l'.flatMap KF ++ r' → l = l' ∧ r = r'
 | [], [], r, r', _, _, h => by simpa using h
 | [], v :: l', r, r', hr, _, h => by
  simp only [List.flatMap_nil, List.nil_append, List.flatMap_cons, KF, List.cons_append] at h
  exact absurd At (hr 91 (by rw [h]; rfl))
 | v :: l, [], r, r', _, hr', h => by
  simp only [List.flatMap_nil, List.nil_append, List.flatMap_cons, KF, List.cons_append] at h
  exact absurd At (hr' 91 (by rw [← h]; rfl))
 | v :: l, v' :: l', r, r', hr, hr', h => by
  simp only [List.flatMap_cons, KF, List.cons_append, List.append_assoc, List.cons.injEq, true_and, List.nil_append] at h
  have hd : ∀ (m : List DJ) (s : List UInt8) (c : UInt8), (m.flatMap KI ++ 93 :: s).head? = some c → UL c = false := by
   intro m s c hc
   cases m with
   | nil => simp at hc; subst hc; rfl
   | cons a m => simp [KI] at hc; subst hc; rfl
  obtain ⟨h1, h2⟩ := JI (hd _ _) (hd _ _) h
  obtain ⟨h3, h4⟩ := PC h2
  obtain ⟨h5, h6⟩ := PY hr hr' h4
  obtain ⟨c, vs⟩ := v
  obtain ⟨c', vs'⟩ := v'
  simp only at h1 h3
  exact ⟨by rw [h1, h3, h5], h6⟩
theorem Tr {n n' : ByteArray} {r r' : List UInt8} (hn : ∀ c ∈ n.data.toList, c ≠ 34) (hn' : ∀ c ∈ n'.data.toList, c ≠ 34) (h : GM n ++ r = GM n' ++ r') : n = n' ∧ r = r' := by
 simp only [GM, List.cons_append, List.append_assoc, List.cons.injEq, true_and, List.nil_append] at h
 obtain ⟨h1, h2⟩ := OJ (p := fun c => c != 34) (fun c hc => by simpa using hn c hc) (fun c hc => by simpa using hn' c hc) As As h
 simp only [List.cons.injEq, true_and] at h2
 obtain ⟨⟨l⟩⟩ := n
 obtain ⟨⟨l'⟩⟩ := n'
 simp only at h1
 exact ⟨by rw [h1], h2⟩
theorem OH : ∀ (ts : List Tm) (s : List UInt8) (c : UInt8), (EN ts ++ 41 :: s).head? = some c → c ≠ 91
 | [], s, c, h => by simp [EN] at h; subst h; decide
 | .mk k i n l ks :: ts, s, c, h => by simp [EN, Ir] at h; subst h; decide
mutual
theorem key_inj : ∀ {t u : Tm} {r r' : List UInt8}, My t → My u → Ir t ++ r = Ir u ++ r' → t = u ∧ r = r'
 | .mk k i n l ks, .mk k' i' n' l' ks', r, r', ht, hu, h => by
  simp only [Ir, List.cons_append, List.append_assoc, List.cons.injEq, true_and, List.nil_append] at h
  obtain ⟨h1, h2⟩ := JI (by simp [UL]) (by simp [UL]) h
  simp only [List.cons.injEq, true_and] at h2
  obtain ⟨h3, h4⟩ := JI (by simp [UL]) (by simp [UL]) h2
  simp only [List.cons.injEq, true_and] at h4
  obtain ⟨h5, h6⟩ := Tr (fun c hc => (ht.1 c hc).1) (fun c hc => (hu.1 c hc).1) h4
  obtain ⟨h7, h8⟩ := PY (OH _ _) (OH _ _) h6
  obtain ⟨h9, h10⟩ := Qg ht.2 hu.2 h8
  exact ⟨by rw [h1, h3, h5, h7, h9], h10⟩
theorem Qg : ∀ {ts us : List Tm} {r r' : List UInt8}, Of ts → Of us → EN ts ++ 41 :: r = EN us ++ 41 :: r' → ts = us ∧ r = r'
 | [], [], r, r', _, _, h => by simpa [EN] using h
 | [], .mk k i n l ks :: us, r, r', _, _, h => by simp [EN, Ir] at h
 | .mk k i n l ks :: ts, [], r, r', _, _, h => by simp [EN, Ir] at h
 | t :: ts, u :: us, r, r', ht, hu, h => by
  simp only [EN, List.append_assoc] at h
  obtain ⟨h1, h2⟩ := key_inj ht.1 hu.1 h
  obtain ⟨h3, h4⟩ := Qg ht.2 hu.2 h2
  exact ⟨by rw [h1, h3], h4⟩
end
theorem WN {t u : Tm} (ht : My t) (hu : My u) (h : Ir t = Ir u) : t = u := (key_inj (r := []) (r' := []) ht hu (by rw [h])).1
def DN (t : Tm) (n : ByteArray) : Bool := t.kind == 3 && t.name.toList == n.toList && (t.levels.length : Int) == 0
def Cu (th : BJ) (t : Tm) : Int × List Tm :=
 if (DN (Bq t).1 th.add && ((Bq t).2.length : Int) == 2) = true then (1, (Bq t).2)
 else if (DN (Bq t).1 th.zero && ((Bq t).2.length : Int) == 0) = true then (2, [])
 else if (DN (Bq t).1 th.neg && ((Bq t).2.length : Int) == 1) = true then (3, (Bq t).2)
 else (0, [])
def Hh (th : BJ) (t : Tm) : Bool :=
 !(DN (Bq t).1 th.add && ((Bq t).2.length : Int) == 2 || DN (Bq t).1 th.zero && ((Bq t).2.length : Int) == 0 || DN (Bq t).1 th.neg && ((Bq t).2.length : Int) == 1)
structure FQ where
 coefs : List Int
 atoms : List Tm
 all : Int
noncomputable def Cl (l : List Tm) (t : Tm) : Nat := l.findIdx fun a => Mx a t
noncomputable def ET (c : FQ) (t : Tm) (s : Int) : FQ :=
 if Cl c.atoms t < c.atoms.length then ⟨c.coefs.set (Cl c.atoms t) (wr (c.coefs.getD (Cl c.atoms t) 0 + s)), c.atoms, wr (c.all + 1)⟩ else ⟨c.coefs ++ [s], c.atoms ++ [t], wr (c.all + 1)⟩
noncomputable def Bw (th : BJ) : Nat → FQ → Tm → Int → FQ
 | 0, c, _, _ => c
 | n + 1, c, t, s =>
  if c.all > 200 then c
  else if (Cu th t).1 = 1 then Bw th n (Bw th n c ((Cu th t).2.getD 0 BZ) s) ((Cu th t).2.getD 1 BZ) s
  else if (Cu th t).1 = 2 then c
  else if (Cu th t).1 = 3 then Bw th n c ((Cu th t).2.getD 0 BZ) (wr (-s))
  else ET c t s
structure Ft (c : FQ) : Prop where
 len : c.coefs.length = c.atoms.length
 lo : (c.atoms.length : Int) ≤ c.all
 hi : c.all ≤ 201
theorem Ws {c : FQ} {t : Tm} {s : Int} (h : Ft c) (ha : c.all ≤ 200) : Ft (ET c t s) := by
 obtain ⟨h1, h2, h3⟩ := h
 have hw : wr (c.all + 1) = c.all + 1 := FZ (by constructor <;> omega)
 unfold ET
 split
 ·exact ⟨by simpa using h1, by simp only [hw]; omega, by simp only [hw]; omega⟩
 ·exact ⟨by simp [h1], by simp only [hw, List.length_append, List.length_cons, List.length_nil]; omega, by simp only [hw]; omega⟩
theorem Dh {th : BJ} : ∀ (n : Nat) (c : FQ) (t : Tm) (s : Int), Ft c → Ft (Bw th n c t s)
 | 0, c, t, s, h => h
 | n + 1, c, t, s, h => by
  unfold Bw
  split
  ·exact h
  ·split
   ·exact Dh n _ _ _ (Dh n _ _ _ h)
   ·split
    ·exact h
    ·split
     ·exact Dh n _ _ _ h
     ·exact Ws h Ar
theorem Gt {th : BJ} {t : Tm} : (Cu th t).1 ≠ 0 → (Cu th t).1 ≠ 2 → (Cu th t).2 = (Bq t).2 := by
 unfold Cu
 split
 ·intros; rfl
 ·split
  ·intro _ h; exact absurd rfl h
  ·split
   ·intros; rfl
   ·intro h; exact absurd rfl h
theorem Gc {th : BJ} {t : Tm} : ((Cu th t).1 = 1 → (Cu th t).2.length = 2) ∧ ((Cu th t).1 = 3 → (Cu th t).2.length = 1) := by
 unfold Cu
 split
 ·rename_i h; simp at h; simp; omega
 ·split
  ·simp
  ·split
   ·rename_i h; simp at h; simp; omega
   ·simp
end Go.Eu
namespace Go.Proofs.YtapmjpihennhaaaGreatDoor
open Go.Abs Go.Eu
theorem FV : ∀ (t : Tm) (n : ByteArray), G5 Tryz.prog 56 [.agg ((Be t).map .p), .p (.str n)] (.p (.bool (DN t n))) := by
 intro t n
 obtain ⟨tk, ti, tn, tl, ts⟩ := t
 refine A8 Tryz.func56 At fK (n := 20) At At (Ax (Av (BM At At (Bh At) fun b2 => Au At At (Ay At) (Az At (Ax (CA [] 4 (fun y => y = .p (.bool ((((tk : Int) == (3 : Int)) && (tn.toList == n.toList)) && (((tl.length : Nat) : Int) == (0 : Int))))) ?_ ?_))))))
 ·refine Av (Au At At (A1 CX At At) (Au At At (A2 (i := 0) De At At At) (Au At At (BA At At At) (Au At At (Aw At) (Bm 8 At (fun g => ?_) (fun g => ?_))))))
  ·(try simp only [sd, se] at g)
   refine A3 At At At At (A1 CX At At) (A3 At At At At (A2 (i := 0) FU At At At) (A3 At At At At (Aw At) (A3 At At At At (Fs At At) (Au At At (A7 At At) (Au At At (Aw At) (Bm 14 At (fun g1 => ?_) (fun g1 => ?_)))))))
   ·(try simp only [sd, se] at g1)
    exact A3 At At At At (A1 CX At At) (A3 At At At At (A2 (i := 0) I7 At At At) (A3 At At At At (Bp Hr At (List.length_map _)) (A3 At At At At (BA At At At) (Au At At (A7 At At) (Au At At (Ay At) (Az At ⟨At, At, AJ, AI, trivial⟩))))))
   ·(try simp only [sd, se] at g1)
    exact A5 At At At At At (A5 At At At At At (A5 At At At At At (A5 At At At At At (Au At At (A7 At At) (Au At At (Ay At) (Az At ⟨At, At, AJ, AI, trivial⟩))))))
  ·(try simp only [sd, se] at g)
   refine A5 At At At At At (A5 At At At At At (A5 At At At At At (A5 At At At At At (Au At At (A7 At At) (Au At At (Aw At) (A5 At At At At At (A5 At At At At At (A5 At At At At At (A5 At At At At At (Au At At (A7 At At) (Au At At (Ay At) ?_)))))))))))
   exact Az At ⟨At, At, AJ, AI, trivial⟩
 rintro _ rfl
 refine BB (⟨At, _, _, ⟨_, _, At, At, At⟩, (List.nil_sublist _), ?_⟩)
 all_goals exact ⟨rfl, rfl⟩
theorem NF : ∀ (t : Tm) (n : ByteArray), G5 Tryz.prog 117 [.agg ((Be t).map .p), .p (.str n)] (.p (.bool (DN t n))) := by
 intro t n
 obtain ⟨tk, ti, tn, tl, ts⟩ := t
 refine A8 Tryz.func117 At aO (n := 20) At At (Ax (Av (BM At At (Bh At) fun b2 => Au At At (Ay At) (Az At (Ax (CA [] 4 (fun y => y = .p (.bool ((((tk : Int) == (3 : Int)) && (tn.toList == n.toList)) && (((tl.length : Nat) : Int) == (0 : Int))))) ?_ ?_))))))
 ·refine Av (Au At At (A1 CX At At) (Au At At (A2 (i := 0) De At At At) (Au At At (BA At At At) (Au At At (Aw At) (Bm 8 At (fun g => ?_) (fun g => ?_))))))
  ·(try simp only [sd, se] at g)
   refine A3 At At At At (A1 CX At At) (A3 At At At At (A2 (i := 0) FU At At At) (A3 At At At At (Aw At) (A3 At At At At (Fs At At) (Au At At (A7 At At) (Au At At (Aw At) (Bm 14 At (fun g1 => ?_) (fun g1 => ?_)))))))
   ·(try simp only [sd, se] at g1)
    exact A3 At At At At (A1 CX At At) (A3 At At At At (A2 (i := 0) I7 At At At) (A3 At At At At (Bp Hr At (List.length_map _)) (A3 At At At At (BA At At At) (Au At At (A7 At At) (Au At At (Ay At) (Az At ⟨At, At, AJ, AI, trivial⟩))))))
   ·(try simp only [sd, se] at g1)
    exact A5 At At At At At (A5 At At At At At (A5 At At At At At (A5 At At At At At (Au At At (A7 At At) (Au At At (Ay At) (Az At ⟨At, At, AJ, AI, trivial⟩))))))
  ·(try simp only [sd, se] at g)
   refine A5 At At At At At (A5 At At At At At (A5 At At At At At (A5 At At At At At (Au At At (A7 At At) (Au At At (Aw At) (A5 At At At At At (A5 At At At At At (A5 At At At At At (A5 At At At At At (Au At At (A7 At At) (Au At At (Ay At) ?_)))))))))))
   exact Az At ⟨At, At, AJ, AI, trivial⟩
 rintro _ rfl
 refine BB (⟨At, _, _, ⟨_, _, At, At, At⟩, (List.nil_sublist _), ?_⟩)
 all_goals exact ⟨rfl, rfl⟩
theorem _root_.Go.AP {α : Prop} (h : α := by first | rfl | (refine pB ?_; simp_all [Hh]; done)) : α := h
theorem Sr : ∀ (th : BJ) (t : Tm), (Nd t) → (size t < 1000000) → G5 Tryz.prog 32 [.agg ((EE th).map .p), .agg ((Be t).map .p)] (.p (.bool (Hh th t))) := by
 intro th t h1 h2
 obtain ⟨BG, BD, BE, BF, BH, BI, thm⟩ := th
 refine A8 Tryz.func32 At dY (n := 44) At At (Ax (Av (BM At At (Bh At) fun b2 => BM At At (Bh At) fun b3 => Au At At (Ay At) (Az At (Ax (Av (Au At At (A0 (i := 0) BO At At Ak) (Au At At (Bg At At (M6 _ t (Nat.le_refl _) Ag) At) (Au At At (Aw At) ?_)))))))))
 refine Au At At (BY At At) (Au At At (BY At At) (BM At At (BK B7 At) fun b5 => Au At At (A6 (i := 0) BO At At At Ak Ac (CF _)) (Au At At (Ay At) (Az At (Ax (CA [] 4 (fun y => y = .p (.bool (Hh (BJ.mk BG BD BE BF BH BI thm) t))) ?_ ?_))))))
 ·refine Av (Au At At (A0 (i := 0) BO At At Ak) (Au At At (A1 DU At At) (Au At At (A2 (i := 2) FU At At At) (Au At At (Bg At At (FV ((Bq t).1) BD) At) (Au At At (Aw At) (Bm 16 At (fun g => ?_) (fun g => ?_)))))))
  ·(try simp only [sd, se] at g)
   refine A3 At At At At (Aw At) (A3 At At At At (Bp By At (Bo _)) (A3 At At At At (BA At At At) (Au At At (A7 At At) (Au At At (Aw At) (Bm 21 At (fun g1 => ?_) (fun g1 => ?_))))))
   ·(try simp only [sd, se] at g1)
    refine A5 At At At At At (A5 At At At At At (A5 At At At At At (A5 At At At At At (A5 At At At At At (Cc At At At At (Cc At At At At (Cc At At At At (A5 At At At At At (Au At At (A7 At At) (Au At At (Aw At) (A5 At At At At At ?_)))))))))))
    refine A5 At At At At At (A5 At At At At At (A5 At At At At At (A5 At At At At At (Cc At At At At (Cc At At At At (Cc At At At At (A5 At At At At At (Au At At (A7 At At) (Au At At (Cg At) (Au At At (Ay At) (Az At ?_)))))))))))
    exact ⟨At, At, AJ, AP, trivial⟩
   ·(try simp only [sd, se] at g1)
    refine A3 At At At At (A0 (i := 0) BO At At Ak) (A3 At At At At (A1 DU At At) (A3 At At At At (A2 (i := 2) FU At At At) (A3 At At At At (Bg At At (FV ((Bq t).1) BE) At) (A3 At At At At (Aw At) (Bm 26 At (fun g2 => ?_) (fun g2 => ?_))))))
    ·(try simp only [sd, se] at g2)
     refine A3 At At At At (Aw At) (A3 At At At At (Bp By At (Bo _)) (A3 At At At At (BA At At At) (A3 At At At At (A7 At At) (Au At At (A7 At At) (Au At At (Aw At) (Bm 32 At (fun g3 => ?_) (fun g3 => ?_)))))))
     ·(try simp only [sd, se] at g3)
      refine A5 At At At At At (A5 At At At At At (A5 At At At At At (A5 At At At At At (A5 At At At At At (Cc At At At At (Cc At At At At (Cc At At At At (A5 At At At At At (Au At At (A7 At At) (Au At At (Cg At) (Au At At (Ay At) ?_)))))))))))
      exact Az At ⟨At, At, AJ, AP, trivial⟩
     ·(try simp only [sd, se] at g3)
      refine A3 At At At At (A0 (i := 0) BO At At Ak) (A3 At At At At (A1 DU At At) (A3 At At At At (A2 (i := 2) FU At At At) (A3 At At At At (Bg At At (FV ((Bq t).1) BF) At) (A3 At At At At (Aw At) (Bm 37 At (fun g4 => ?_) (fun g4 => ?_))))))
      ·(try simp only [sd, se] at g4)
       exact A3 At At At At (Aw At) (A3 At At At At (Bp By At (Bo _)) (A3 At At At At (BA At At At) (A3 At At At At (A7 At At) (Au At At (A7 At At) (Au At At (Cg At) (Au At At (Ay At) (Az At ⟨At, At, AJ, AP, trivial⟩)))))))
      ·(try simp only [sd, se] at g4)
       exact A5 At At At At At (A5 At At At At At (A5 At At At At At (A3 At At At At (A7 At At) (Au At At (A7 At At) (Au At At (Cg At) (Au At At (Ay At) (Az At ⟨At, At, AJ, AP, trivial⟩)))))))
    ·(try simp only [sd, se] at g2)
     refine A5 At At At At At (A5 At At At At At (A5 At At At At At (A3 At At At At (A7 At At) (Au At At (A7 At At) (Au At At (Aw At) (A3 At At At At (A0 (i := 0) BO At At Ak) (A3 At At At At (A1 DU At At) (A3 At At At At (A2 (i := 2) FU At At At) (A3 At At At At (Bg At At (FV ((Bq t).1) BF) At) (A3 At At At At (Aw At) (Bm 37 At (fun g3 => ?_) (fun g3 => ?_))))))))))))
     ·(try simp only [sd, se] at g3)
      exact A3 At At At At (Aw At) (A3 At At At At (Bp By At (Bo _)) (A3 At At At At (BA At At At) (A3 At At At At (A7 At At) (Au At At (A7 At At) (Au At At (Cg At) (Au At At (Ay At) (Az At ⟨At, At, AJ, AP, trivial⟩)))))))
     ·(try simp only [sd, se] at g3)
      exact A5 At At At At At (A5 At At At At At (A5 At At At At At (A3 At At At At (A7 At At) (Au At At (A7 At At) (Au At At (Cg At) (Au At At (Ay At) (Az At ⟨At, At, AJ, AP, trivial⟩)))))))
  ·(try simp only [sd, se] at g)
   refine A5 At At At At At (A5 At At At At At (A5 At At At At At (Au At At (A7 At At) (Au At At (Aw At) (A3 At At At At (A0 (i := 0) BO At At Ak) (A3 At At At At (A1 DU At At) (A3 At At At At (A2 (i := 2) FU At At At) (A3 At At At At (Bg At At (FV ((Bq t).1) BE) At) (A3 At At At At (Aw At) (Bm 26 At (fun g1 => ?_) (fun g1 => ?_)))))))))))
   ·(try simp only [sd, se] at g1)
    refine A3 At At At At (Aw At) (A3 At At At At (Bp By At (Bo _)) (A3 At At At At (BA At At At) (A3 At At At At (A7 At At) (Au At At (A7 At At) (Au At At (Aw At) (Bm 32 At (fun g2 => ?_) (fun g2 => ?_)))))))
    ·(try simp only [sd, se] at g2)
     refine A5 At At At At At (A5 At At At At At (A5 At At At At At (A5 At At At At At (A5 At At At At At (Cc At At At At (Cc At At At At (Cc At At At At (A5 At At At At At (Au At At (A7 At At) (Au At At (Cg At) (Au At At (Ay At) ?_)))))))))))
     exact Az At ⟨At, At, AJ, AP, trivial⟩
    ·(try simp only [sd, se] at g2)
     refine A3 At At At At (A0 (i := 0) BO At At Ak) (A3 At At At At (A1 DU At At) (A3 At At At At (A2 (i := 2) FU At At At) (A3 At At At At (Bg At At (FV ((Bq t).1) BF) At) (A3 At At At At (Aw At) (Bm 37 At (fun g3 => ?_) (fun g3 => ?_))))))
     ·(try simp only [sd, se] at g3)
      exact A3 At At At At (Aw At) (A3 At At At At (Bp By At (Bo _)) (A3 At At At At (BA At At At) (A3 At At At At (A7 At At) (Au At At (A7 At At) (Au At At (Cg At) (Au At At (Ay At) (Az At ⟨At, At, AJ, AP, trivial⟩)))))))
     ·(try simp only [sd, se] at g3)
      exact A5 At At At At At (A5 At At At At At (A5 At At At At At (A3 At At At At (A7 At At) (Au At At (A7 At At) (Au At At (Cg At) (Au At At (Ay At) (Az At ⟨At, At, AJ, AP, trivial⟩)))))))
   ·(try simp only [sd, se] at g1)
    refine A5 At At At At At (A5 At At At At At (A5 At At At At At (A3 At At At At (A7 At At) (Au At At (A7 At At) (Au At At (Aw At) (A3 At At At At (A0 (i := 0) BO At At Ak) (A3 At At At At (A1 DU At At) (A3 At At At At (A2 (i := 2) FU At At At) (A3 At At At At (Bg At At (FV ((Bq t).1) BF) At) (A3 At At At At (Aw At) (Bm 37 At (fun g2 => ?_) (fun g2 => ?_))))))))))))
    ·(try simp only [sd, se] at g2)
     exact A3 At At At At (Aw At) (A3 At At At At (Bp By At (Bo _)) (A3 At At At At (BA At At At) (A3 At At At At (A7 At At) (Au At At (A7 At At) (Au At At (Cg At) (Au At At (Ay At) (Az At ⟨At, At, AJ, AP, trivial⟩)))))))
    ·(try simp only [sd, se] at g2)
     exact A5 At At At At At (A5 At At At At At (A5 At At At At At (A3 At At At At (A7 At At) (Au At At (A7 At At) (Au At At (Cg At) (Au At At (Ay At) (Az At ⟨At, At, AJ, AP, trivial⟩)))))))
 rintro _ rfl
 refine BB (⟨At, _, _, ⟨_, _, At, At, At⟩, (List.nil_sublist _), ?_⟩)
 all_goals exact ⟨rfl, rfl⟩
theorem YI : ∀ (th : BJ) (t : Tm), (Nd t) → (size t < 1000000) → G5 Tryz.prog 79 [.agg ((EE th).map .p), .agg ((Be t).map .p)] (.tup [.p (I ((Cu th t).1)), .p (.lst (BR ((Cu th t).2)))]) := by
 intro th t h1 h2
 obtain ⟨BG, BD, BE, BF, BH, BI, thm⟩ := th
 refine A8 Tryz.func79 At eI (n := 45) At At (Ax (Av (BM At At (Bh At) fun b2 => BM At At (Bh At) fun b3 => Au At At (Ay At) (Au At At (Ay At) (Az At (Ax (Av (Au At At (A0 (i := 0) BO At At Ak) (Au At At (Bg At At (VN t h1 Ag) At) ?_)))))))))
 refine Au At At (Aw At) (Au At At (BY At At) (Au At At (BY At At) (BM At At (BK B7 At) fun b6 => Au At At (A6 (i := 0) BO At At At Ak Ac (CF _)) (Au At At (Ay At) (Az At (Ax (Ba (Ax (CA [2, 6, 7] 13 (fun y => y = .p (.bool ((DN ((Bq t).1) BD) && (((((Bq t).2).length : Nat) : Int) == (2 : Int))))) ?_ ?_)))))))))
 ·refine Av (Au At At (A0 (i := 0) BO At At Ak) (Au At At (A1 DU At At) (Au At At (A2 (i := 2) FU At At At) (Au At At (Bg At At (NF ((Bq t).1) BD) At) (Au At At (Aw At) (Bm 18 At (fun g => ?_) (fun g => ?_)))))))
  ·(try simp only [sd, se] at g)
   exact A3 At At At At (Aw At) (A3 At At At At (Bp By At (Bo _)) (A3 At At At At (BA At At At) (Au At At (A7 At At) (Au At At (Ay At) (Az At (⟨At, At, AJ, AI, ⟨At, At, At, trivial⟩⟩))))))
  ·(try simp only [sd, se] at g)
   exact A5 At At At At At (A5 At At At At At (A5 At At At At At (Au At At (A7 At At) (Au At At (Ay At) (Az At (⟨At, At, AJ, AI, ⟨At, At, At, trivial⟩⟩))))))
 rintro _ rfl
 refine A9 At (fun c => ?_) (fun c => ?_)
 ·have cR := c
  (try simp only [sd, se] at c)
  refine Ax (Av (Au At At (Aw At) (Au At At (Ay At) (Au At At (Ay At) (Az At (BB (⟨At, _, _, ⟨_, _, At, At, ⟨_, _, At, At, At⟩⟩, (List.nil_sublist _), ?_⟩)))))))
  simp only [Cu]; rw [if_pos cR]
  all_goals exact ⟨rfl, rfl⟩
 ·have cR := c
  (try simp only [sd, se] at c)
  refine Ax (CA [2, 6, 7] 24 (fun y => y = .p (.bool ((DN ((Bq t).1) BE) && (((((Bq t).2).length : Nat) : Int) == (0 : Int))))) ?_ ?_)
  ·refine Av (Au At At (A0 (i := 0) BO At At Ak) (Au At At (A1 DU At At) (Au At At (A2 (i := 2) FU At At At) (Au At At (Bg At At (NF ((Bq t).1) BE) At) (Au At At (Aw At) (Bm 29 At (fun g => ?_) (fun g => ?_)))))))
   ·(try simp only [sd, se] at g)
    exact A3 At At At At (Aw At) (A3 At At At At (Bp By At (Bo _)) (A3 At At At At (BA At At At) (Au At At (A7 At At) (Au At At (Ay At) (Az At (⟨At, At, AJ, AI, ⟨At, At, At, trivial⟩⟩))))))
   ·(try simp only [sd, se] at g)
    exact A5 At At At At At (A5 At At At At At (A5 At At At At At (Au At At (A7 At At) (Au At At (Ay At) (Az At (⟨At, At, AJ, AI, ⟨At, At, At, trivial⟩⟩))))))
  rintro _ rfl
  refine A9 At (fun c1 => ?_) (fun c1 => ?_)
  ·have c1R := c1
   (try simp only [sd, se] at c1)
   refine Ax (Av (Au At At (Ay At) (Au At At (Ay At) (Az At (CG (Ef 5) (BB (⟨At, _, _, ⟨_, _, At, At, ⟨_, _, At, At, At⟩⟩, (List.nil_sublist _), ?_⟩)))))))
   simp only [Cu]; rw [if_neg (by rw [cR]; decide), if_pos c1R]
   all_goals exact ⟨rfl, rfl⟩
  ·have c1R := c1
   (try simp only [sd, se] at c1)
   refine Ax (CA [7] 34 (fun y => y = .p (.bool ((DN ((Bq t).1) BF) && (((((Bq t).2).length : Nat) : Int) == (1 : Int))))) ?_ ?_)
   ·refine Av (Au At At (A0 (i := 0) BO At At Ak) (Au At At (A1 DU At At) (Au At At (A2 (i := 2) FU At At At) (Au At At (Bg At At (NF ((Bq t).1) BF) At) (Au At At (Aw At) (Bm 39 At (fun g => ?_) (fun g => ?_)))))))
    ·(try simp only [sd, se] at g)
     exact A3 At At At At (Aw At) (A3 At At At At (Bp By At (Bo _)) (A3 At At At At (BA At At At) (Au At At (A7 At At) (Au At At (Ay At) (Az At (⟨At, At, AJ, AI, ⟨At, trivial⟩⟩))))))
    ·(try simp only [sd, se] at g)
     exact A5 At At At At At (A5 At At At At At (A5 At At At At At (Au At At (A7 At At) (Au At At (Ay At) (Az At (⟨At, At, AJ, AI, ⟨At, trivial⟩⟩))))))
   rintro _ rfl
   refine A9 At (fun c2 => ?_) (fun c2 => ?_)
   ·have c2R := c2
    (try simp only [sd, se] at c2)
    refine Ax (Av (Au At At (Aw At) (Au At At (Ay At) (Au At At (Ay At) (Az At (BB (⟨At, _, _, ⟨_, _, At, At, ⟨_, _, At, At, At⟩⟩, (List.nil_sublist _), ?_⟩)))))))
    simp only [Cu]; rw [if_neg (by rw [cR]; decide), if_neg (by rw [c1R]; decide), if_pos c2R]
    all_goals exact ⟨rfl, rfl⟩
   ·have c2R := c2
    (try simp only [sd, se] at c2)
    refine BC (Ax (Av (Au At At (Ay At) (Au At At (Ay At) (Az At (CG (Ef 5) (BB (⟨At, _, _, ⟨_, _, At, At, ⟨_, _, At, At, At⟩⟩, (List.nil_sublist _), ?_⟩))))))))
    simp only [Cu]; rw [if_neg (by rw [cR]; decide), if_neg (by rw [c1R]; decide), if_neg (by rw [c2R]; decide)]
    all_goals exact ⟨rfl, rfl⟩
end Go.Proofs.YtapmjpihennhaaaGreatDoor
namespace Go.Eu
open Go.Abs
def BS (n : ByteArray) (l : List Tm) : Tm := apply (.mk 3 0 n [] []) l
def Eo (th : BJ) (x : Tm) : Nat → Tm → Tm
 | 0, o => o
 | k + 1, o => BS th.add [x, Eo th x k o]
def E8 (th : BJ) (n : Int) (x : Tm) : Tm := if n < 0 then BS th.neg [x] else x
def Dx (th : BJ) : List Int → List Tm → Tm
 | n :: cs, x :: ays => Eo th (E8 th n x) n.natAbs (Dx th cs ays)
 | _, _ => BS th.zero []
def Mi : Int → List Int → Bool
 | _, [] => true
 | a, n :: l => if n < -200 ∨ n > 200 then false else if a + max n (-n) > 200 then false else Mi (a + max n (-n)) l
def EO (th : BJ) (cs : List Int) (ays : List Tm) : Tm := if cs.length = ays.length ∧ Mi 0 cs = true then Dx th cs ays else BZ
theorem Tl {th : BJ} {cs : List Int} {ays : List Tm} {i : Nat} {n : Int} {x : Tm} (h1 : cs[i]? = some n) (h2 : ays[i]? = some x) : Dx th (cs.drop i) (ays.drop i) = Eo th (E8 th n x) n.natAbs (Dx th (cs.drop (i + 1)) (ays.drop (i + 1))) := by
 rw [Dd h1, Dd h2, Dx]
theorem RM {th : BJ} {cs : List Int} {ays : List Tm} {i : Nat} (h : cs.length ≤ i) : Dx th (cs.drop i) (ays.drop i) = BS th.zero [] := by
 rw [List.drop_eq_nil_of_le h]; simp [Dx]
theorem Pu {a : Int} {cs : List Int} {i : Nat} {n : Int} (h : cs[i]? = some n) : Mi a (cs.drop i) = (if n < -200 ∨ n > 200 then false else if a + max n (-n) > 200 then false else Mi (a + max n (-n)) (cs.drop (i + 1))) := by
 rw [Dd h, Mi]
theorem NT {a : Int} {cs : List Int} {i : Nat} (h : i < cs.length) : Mi a (cs.drop i) = (if cs.getD i 0 < -200 ∨ cs.getD i 0 > 200 then false else if a + max (cs.getD i 0) (-(cs.getD i 0)) > 200 then false else Mi (a + max (cs.getD i 0) (-(cs.getD i 0))) (cs.drop (i + 1))) := by
 obtain ⟨n, hn⟩ : ∃ n, cs[i]? = some n := ⟨_, List.getElem?_eq_getElem h⟩
 rw [Pu hn, Cs hn]
theorem PB {th : BJ} {cs : List Int} {us : List Tm} {m : Nat} (h0 : 0 < m) (h : m ≤ cs.length) (h' : cs.length = us.length) : Dx th (cs.drop (m - 1)) (us.drop (m - 1)) = Eo th (E8 th (cs.getD (m - 1) 0) (us.getD (m - 1) BZ)) (cs.getD (m - 1) 0).natAbs (Dx th (cs.drop m) (us.drop m)) := by
 obtain ⟨k, rfl⟩ : ∃ k, m = k + 1 := ⟨m - 1, by omega⟩
 simp only [Nat.add_sub_cancel]
 obtain ⟨n, hn⟩ : ∃ n, cs[k]? = some n := ⟨_, List.getElem?_eq_getElem Ar⟩
 obtain ⟨u, hu⟩ : ∃ n, us[k]? = some n := ⟨_, List.getElem?_eq_getElem Ar⟩
 rw [Tl hn hu, Cs hn, Cs hu]
theorem VK {th : BJ} {n : Int} {x o : Tm} : Eo th (E8 th n x) n.natAbs o = Eo th (BS th.neg [x]) (-n).toNat (Eo th x n.toNat o) := by
 unfold E8
 by_cases h : n < 0
 ·rw [if_pos h, show n.toNat = 0 by omega, show n.natAbs = (-n).toNat by omega]; rfl
 ·rw [if_neg h, show (-n).toNat = 0 by omega, show n.natAbs = n.toNat by omega]; rfl
theorem Ia {th : BJ} {cs : List Int} {us : List Tm} (h : ¬ (cs.length = us.length ∧ Mi 0 cs = true)) : EO th cs us = BZ := if_neg h
theorem IY {th : BJ} {cs : List Int} {us : List Tm} (h : cs.length = us.length) (h' : Mi 0 cs = true) : EO th cs us = Dx th cs us := if_pos ⟨h, h'⟩
theorem QD : ∀ {l : List Int} {a : Int}, Mi a l = true → ∀ n ∈ l, -200 ≤ n ∧ n ≤ 200
 | [], a, _, n, h => by simp at h
 | m :: l, a, h, n, hn => by
  unfold Mi at h
  split at h
  ·cases h
  ·rename_i h1
   split at h
   ·cases h
   ·rcases List.mem_cons.1 hn with rfl | hn
    ·omega
    ·exact QD h n hn
theorem RZ {l : List Int} (h : Mi 0 l = true) (j : Nat) : -200 ≤ l.getD j 0 ∧ l.getD j 0 ≤ 200 := by
 cases e : l[j]? with
 | none => simp [List.getD, e]
 | some n => rw [Cs e]; exact QD h n (List.mem_of_getElem? e)
def VL {σ : Type} (st : σ → Int → Int → σ) (xs : List Int) : Nat → σ → σ
 | 0, s => s
 | m + 1, s => VL st xs m (st s m (xs.getD m 0))
theorem VA {σ : Type} {st : σ → Int → Int → σ} {xs : List Int} {m j : Nat} {x : Int} {s : σ} (hx : xs[j]? = some x) (hm : m = j + 1) : VL st xs (m - 1) (st s ((m : Int) - 1) x) = VL st xs m s := by
 subst hm
 rw [Nat.add_sub_cancel, VL, Cs hx]
 congr 2
 omega
def Sh (th : BJ) (us : List Tm) (s : Tm) (d n : Int) : Tm := Eo th (E8 th n (us.getD d.toNat BZ)) n.natAbs s
theorem S0 {th : BJ} {cs : List Int} {us : List Tm} (h : cs.length = us.length) : ∀ (m : Nat), m ≤ cs.length → VL (Sh th us) cs m (Dx th (cs.drop m) (us.drop m)) = Dx th cs us
 | 0, _ => by simp [VL]
 | m + 1, hm => by
  have := PB (th := th) (cs := cs) (us := us) (m := m + 1) Ar hm h
  simp only [Nat.add_sub_cancel] at this
  rw [VL, ← S0 h m Ar, this]
  rfl
theorem Wj {th : BJ} {cs : List Int} {us : List Tm} (h : cs.length = us.length) : VL (Sh th us) cs cs.length (BS th.zero []) = Dx th cs us := by
 rw [← S0 h cs.length (Nat.le_refl _), RM (Nat.le_refl _)]
end Go.Eu
namespace Go.Eu
def M3 (c : Int) : Bool := (decide (c ≥ 97) && decide (c ≤ 122)) || (decide (c ≥ 65) && decide (c ≤ 90)) || c == 95
def Iu (c : UInt8) : Prop := M3 c.toNat = true ∨ c.toNat = 39 ∨ c.toNat = 46 ∨ (48 ≤ c.toNat ∧ c.toNat ≤ 57)
def QK (s : ByteArray) : Prop := ∀ c ∈ s.data.toList, Iu c
theorem Yt {c : UInt8} (h : Iu c) : Sm c := by
 have hr : 39 ≤ c.toNat ∧ c.toNat < 127 ∧ c.toNat ≠ 92 := by
  simp only [Iu, M3, Bool.or_eq_true, Bool.and_eq_true, decide_eq_true_eq, beq_iff_eq] at h
  omega
 refine ⟨fun e => ?_, fun e => ?_, by omega, by omega⟩ <;> subst e <;> simp at hr
theorem ME {s : ByteArray} {i : Nat} {x : UInt8} (h : ∀ j, j < i → ∀ c, s.data.toList[j]? = some c → Iu c) (hx : s[i]? = some x) (hp : Iu x) : ∀ j, j < i + 1 → ∀ c, s.data.toList[j]? = some c → Iu c := by
 intro j hj c hc
 by_cases e : j = i
 ·subst e
  have h2 : s.data.toList[j]? = some x := by
   rw [Array.getElem?_toList]
   exact hx
  rw [h2] at hc
  cases hc
  exact hp
 ·exact h j Ar c hc
theorem WK {s : ByteArray} (h : ∀ j, j < s.size → ∀ c, s.data.toList[j]? = some c → Iu c) : QK s := by
 intro c hc
 obtain ⟨j, hj⟩ := List.mem_iff_getElem?.1 hc
 exact h j (by have := (List.getElem?_eq_some_iff.1 hj).1; simpa using this) c hj
theorem TM : ∀ {ks : List Tm}, (∀ (j : Nat) (t : Tm), ks[j]? = some t → My t) → Of ks
 | [], _ => trivial
 | t :: ts, h => ⟨h 0 t rfl, TM fun j t' ht => h (j + 1) t' (by simpa using ht)⟩
theorem Wx {n : ByteArray} (h : n.toList = []) : ∀ c ∈ n.data.toList, Sm c := by
 intro c hc
 rw [EH] at h
 rw [h] at hc
 simp at hc
theorem U3 {n : ByteArray} (h : QK n) : ∀ c ∈ n.data.toList, Sm c := fun c hc => Yt (h c hc)
end Go.Eu
namespace Go.Abs
section
variable {P : Program} {H : List BT} {dst : Option Tmp} {ty : TypeId} {pos : String} {aft : Array Edge} {x y : Operand} {ρ : Operand → AV} {g : Option (Nat × Bool)}
end
section
variable {P : Program} {dst : Option Tmp} {ty : TypeId} {pos : String} {aft : Array Edge} {g : Option (Nat × Bool)} {ρ : Operand → AV} {H : List BT} {x y z : Operand} {v : AV}
def EP (s : ByteArray) : List (List PV) := s.data.toList.map fun b => [PV.int .u8 b.toNat]
theorem G0 (s : ByteArray) : (EP s).length = s.size := by simp [EP]
theorem Oc (s : ByteArray) : ∀ r ∈ EP s, Dj 1 r := by
 intro r hr
 obtain ⟨b, _, rfl⟩ := List.mem_map.1 hr
 exact ⟨At, fun c hc => by simp at hc; subst hc; simp⟩
theorem JX {F : Nat → Prop} {w : World} {s : ByteArray} {rows : List (List PV)} {sz : Nat} {u : Value} (h : CR F w (.p (.str s)) u) (hr : EP s = rows) (hs : sz = 1) :
  ∃ us, u = .string s ∧ (Builtin.firstCells sz rows.length u).run P w = .ok ⟨us⟩ w ∧ us.length = rows.length * sz ∧ B0 F w (rows.flatten.map .p) us := by
 subst hs
 subst hr
 simp only [CR, CV] at h
 subst h
 refine ⟨s.data.toList.map fun b => Value.int .u8 b.toNat, At, ?_, by simp [EP], ?_⟩
 ·rw [G0]
  exact Go.Lib.run_firstCells_string (P := P) w 1 s
 ·unfold EP
  induction s.data.toList with
  | nil => simp [B0]
  | cons b l ih => simp only [List.map_cons, List.flatten_cons, List.map_append, List.map_nil, List.singleton_append, B0]; exact ⟨_, _, rfl, by simp [CR, CV], ih⟩
end
section
variable {P : Program} {dst : Option Tmp} {ty : TypeId} {pos : String} {aft : Array Edge} {g : Option (Nat × Bool)} {ρ : Operand → AV} {H : List BT} {x y z : Operand} {v : AV}
theorem EX {T U : TypeId} {n b o i : Nat} {cs : List AV} (hT : Di P T = some (false, n)) (hx : ρ x = .ptr b o) (hi : H[i]? = some (.boxT b U cs)) (hv : cs[o]? = some v) :
  Dg P ⟨dst, .load T x, ty, pos, aft, g⟩ ρ H v H :=
 CT fun F w E hH hE => by
  obtain ⟨d, hu, hd, hz⟩ := EY hT
  have h1 := hE x Ah
  rw [hx] at h1
  simp only [CR] at h1
  obtain ⟨vs, hb, hl⟩ := hH.obj _ (List.mem_of_getElem? hi)
  obtain ⟨u, hu', hr⟩ := hl.get hv
  refine ⟨u, ?_, hr⟩
  simp only [execOp, Instr.loadAt, h1, Instr.sureAddr, Sem.run_bind, Sem.run_pure, Result.andThen_ok, E0 (w := w) hu hd (b := b) (o := o) (v := u) (by simp [World.cell?, hb, hu'])]
theorem JL {T U : TypeId} {bl : Bool} {n b o i : Nat} {cs us : List AV} (hT : Di P T = some (bl, n + 1)) (hx : ρ x = .ptr b o) (hi : H[i]? = some (.boxT b U cs)) (hy : Ei (ρ y) = some us) (hn : us.length = n + 1)
  (ho : Nat.ble (o + (n + 1)) cs.length = true) (h1 : us.all one = true) : Dg P ⟨dst, .store T x y, ty, pos, aft, g⟩ ρ H (.p .any) (H.set i (.boxT b U (splice cs o us))) :=
 Gf fun F w E hH hE => by
  have e1 := hE x Ah
  have e2 := hE y Ah
  rw [hx] at e1
  simp only [CR] at e1
  obtain ⟨vs, hb, hl⟩ := hH.obj _ (List.mem_of_getElem? hi)
  obtain ⟨ws, hc, hl'⟩ := IG e2 hy
  have hlen := hl'.length
  have hw : FY b (.cells ⟨splice vs o ws⟩ U (0, 0)) w (w.setCells b o ws) := Ea ws hb (by intro e; rw [e] at hlen; simp at hlen; omega)
  have hlt : b < w.heap.size := (Array.getElem?_eq_some_iff.1 hb).1
  have hF : F b := hH.sub _ (List.mem_of_getElem? hi) b rfl
  refine ⟨w.setCells b o ws, _, F, ?_, ⟨At, At⟩, hw.trans hi At At, hw.HRel hH hi At At ?_⟩
  ·have hst := G8 (T := T) (v := E y) (o := o) hT hb hc Ar (by rw [hl.length]; simpa [Nat.ble_eq] using ho) (II hl' h1)
   simp only [execOp, Instr.storeAt, e1, Instr.sureAddr, Sem.run_bind, Sem.run_pure, Result.andThen_ok, hst]
  ·exact ⟨splice vs o ws, hw.self hlt, B0.splice (B0.mono (hw.stable hF) _ _ hl) (B0.mono (hw.stable hF) _ _ hl')⟩
def Sz (T : TypeId) (cs : List AV) (H : List BT) : Db → List BT → Prop
 | .val v, H' => ∃ b, v = .ptr b 0 ∧ H' = .boxT b T cs :: H
 | .panic _, _ => False
theorem Ns {T : TypeId} {z : Value} {cs : List AV} (hT : zeroOf P T = some z) (hc : z.cells.toList.map Gu = cs) : DB P ⟨dst, .alloc T, ty, pos, aft, g⟩ ρ H (Sz T cs H) :=
 FF fun F w E hH hE => by
  have hl : B0 F w cs z.cells.toList := by subst hc; exact Fc _
  refine ⟨.pointer (some ⟨w.heap.size, 0, none⟩), _, .ptr w.heap.size 0, _, _, ?_, ⟨w.heap.size, At, At⟩, He H (.boxT w.heap.size T cs) _ (.inl At), IZ hH (.boxT w.heap.size T cs) _ At ⟨z.cells.toList, Gr _, B0.mono (FD _ fun b h => h) cs _ hl⟩, ?_⟩
  ·unfold zeroOf at hT
   cases hi : P.info? T with
   | none => simp [hi] at hT
   | some i =>
    have hz : i.zero = some z := by simpa [hi] using hT
    have hzv : (zeroValue T).run P w = .ok z w := by simp [zeroValue, typeInfo, hi, hz, Sem.run_bind]
    simp only [execOp, Instr.alloc, newVar, newRow, newObj, hzv, Sem.run_bind, Sem.run, Result.andThen, Sem.run_pure]
    rfl
  ·simp [CR]
theorem Pw {src d t U : TypeId} {j : TypeInfo} {b o i : Nat} {cs : List AV} (hs : P.underlying src = some (.pointer t)) (hd : P.underlying d = some .unsafePointer) (ht : P.info? t = some j) (hj : (j.size == 0) = false) (hx : ρ x = .ptr b o) (hi : H[i]? = some (.boxT b U cs)) (ho : Nat.blt o cs.length = true) :
  Dg P ⟨dst, .convert src d x, ty, pos, aft, g⟩ ρ H (.ptr b o) H :=
 CT fun F w E hH hE => by
  have h1 := hE x Ah
  rw [hx] at h1
  simp only [CR] at h1
  obtain ⟨vs, hb, hl⟩ := hH.obj _ (List.mem_of_getElem? hi)
  refine ⟨.pointer (some ⟨b, o, none⟩), ?_, by simp [CR]⟩
  have := Go.Lib.run_to_unsafe (P := P) w ⟨b, o, none⟩ hs hd ht (by simpa using hj) (e := U) (cells := vs.length) (by simp [World.shape?, hb]) (by rw [hl.length]; simpa [Nat.blt_eq] using ho)
  simp only [execOp, h1, Sem.run_bind, this, Result.andThen_ok, Sem.run_pure]
theorem NJ {src d U : TypeId} {j : TypeInfo} {b i : Nat} {cs : List AV} (hs : P.underlying src = some .unsafePointer) (hd : P.underlying d = some (.pointer U)) (ht : P.info? U = some j) (hlies : liesAt P P.depth U (cs.length / P.cellsOf U) 0 U 1 = true) (hx : ρ x = .ptr b 0) (hi : H[i]? = some (.boxT b U cs)) :
  Dg P ⟨dst, .convert src d x, ty, pos, aft, g⟩ ρ H (.ptr b 0) H :=
 CT fun F w E hH hE => by
  have h1 := hE x Ah
  rw [hx] at h1
  simp only [CR] at h1
  obtain ⟨vs, hb, hl⟩ := hH.obj _ (List.mem_of_getElem? hi)
  refine ⟨.pointer (some ⟨b, 0, none⟩), ?_, by simp [CR]⟩
  have := Go.Lib.run_from_unsafe (P := P) w ⟨b, 0, none⟩ hs hd ht (e := U) (cells := vs.length) (by simp [World.shape?, hb]) (by rw [hl.length]; exact hlies)
  simp only [execOp, h1, Sem.run_bind, this, Result.andThen_ok, Sem.run_pure]
theorem K0 {n : Int} {T : TypeId} (hx : ρ x = .p (.int .i64 n)) : Dg P ⟨dst, .unOp .neg T x, ty, pos, aft, g⟩ ρ H (.p (.int .i64 (wr (0 - n)))) H :=
 CT fun F w E hH hE => by
  have e1 := hE x Ah
  rw [hx] at e1
  simp only [CR, CV] at e1
  exact ⟨.int .i64 (wr (0 - n)), by simp [execOp, Sem.run_bind, e1, Op.unary, Op.intArith], by simp [CR, CV]⟩
theorem LM {n : Int} {T : TypeId} (hx : ρ x = .p (.int .i64 n)) (h1 : -9223372036854775808 ≤ -n) (h2 : -n ≤ 9223372036854775807) : Dg P ⟨dst, .unOp .neg T x, ty, pos, aft, g⟩ ρ H (.p (.int .i64 (-n))) H := by
 have h := K0 (P := P) (dst := dst) (ty := ty) (pos := pos) (aft := aft) (g := g) (H := H) (T := T) hx
 rwa [show wr (0 - n) = -n by rw [Int.zero_sub]; exact Mp (k := .i64) h1 h2] at h
end
end Go.Abs
namespace Go.Proofs.YtapmjpihennhaaaGreatDoor
open Go.Abs Go.Eu
theorem Pd : ∀ (n : ByteArray) (l : List Tm), (l.length < EC) → G5 Tryz.prog 41 [.p (.str n), .p (.lst (BR l))] (.agg ((Be (BS n l)).map .p)) := by
 intro n l h1
 refine A8 Tryz.func41 At dW (n := 9) At At (Ax (Av (BM At At (BK B7 At) fun b4 => Az At (Ax (Av (Au At At (Aw At) (Au At At (Br CX B7 At) (Au At At (Aw At) (Au At At (DA At At (Ky (.mk 3 0 n [] [] : Tm) l h1) (aw (Cq At) (aw (we At) (Cv)))) (Au At At (A6 (i := 0) BO At At At Ak Ac (CF _)) ?_))))))))))
 refine Az At (BB (⟨At, _, _, ⟨_, _, At, (Bn (i := 0) BO At At Ak), At⟩, (List.nil_sublist _), ?_⟩))
 all_goals exact ⟨rfl, rfl⟩
theorem EL : ∀ (n : ByteArray) (l : List Tm), (l.length < EC) → G5 Tryz.prog 39 [.p (.str n), .p (.lst (BR l))] (.agg ((Be (BS n l)).map .p)) := by
 intro n l h1
 refine A8 Tryz.func39 At eG (n := 9) At At (Ax (Av (BM At At (BK B7 At) fun b4 => Az At (Ax (Av (Au At At (Aw At) (Au At At (Br CX B7 At) (Au At At (Aw At) (Au At At (DA At At (LY (.mk 3 0 n [] [] : Tm) l h1) (aw (Cq At) (aw (we At) (Cv)))) (Au At At (A6 (i := 0) BO At At At Ak Ac (CF _)) ?_))))))))))
 refine Az At (BB (⟨At, _, _, ⟨_, _, At, (Bn (i := 0) BO At At Ak), At⟩, (List.nil_sublist _), ?_⟩))
 all_goals exact ⟨rfl, rfl⟩
theorem _root_.Go.AN {α : Prop} (h : α := by simp only [List.length_cons, List.length_nil, EC]; omega) : α := h
theorem VO : ∀ (th : BJ) (cs : List Int) (us : List Tm), (cs.length < EC) → G5 Tryz.prog 14 [.agg ((EE th).map .p), .p (.lst (List.map Cf cs)), .p (.lst (BR us))] (.agg ((Be (EO th cs us)).map .p)) := by
 intro th cs us h1
 simp only [EC] at h1
 obtain ⟨BG, BD, BE, BF, BH, BI, thm⟩ := th
 refine A8 Tryz.func14 At e8 (n := 103) At At (Ax (Av (BM At At (Bh At) fun b3 => BM At At (BK B7 At) fun b6 => Az At (Ax (Ax (Av (Au At At (Aw At) (Au At At (Bp D9 At (List.length_map _)) (Au At At (Aw At) ?_)))))))))
 refine Au At At (Bp By At (Bo _)) (Au At At (BA At At At) (Az At (A9 At (fun c => ?_) (fun c => ?_))))
 ·(try simp only [sd, se] at c)
  refine Ax (Av (Au At At (Br CX B7 At) (Au At At (Bk (i := 0) BO At At At At At At) (Az At (CG (C9 (i := 0) At) (BB (⟨At, _, _, ⟨_, _, At, (Bn (i := 0) BO At At At), At⟩, (List.nil_sublist _), ?_⟩)))))))
  rw [Ia (fun h => c Ar)]
  all_goals exact ⟨rfl, rfl⟩
 ·(try simp only [sd, se] at c)
  refine BC (Ax (Av (Au At At (Ay At) (Az At (Ax (Ax (Av (Au At At (Ay At) (Az At (Ba ?_))))))))))
  refine CM (α := Nat × Int) (fun (i, al) => ⟨103, mk [(1, .p (.lst (List.map Cf cs))), (2, .p (.lst (BR us))), (3, .ptr b3 0), (6, .ptr b6 0), (7, .p (I al)), (8, .p (I (i : Int)))], [.box b6 [.p (I 0), .p (I 0), .p (.str ⟨#[]⟩), .p (.nils), .p (.nils)], .box b3 [.p (.str BG), .p (.str BD), .p (.str BE), .p (.str BF), .p (.str BH), .p (.str BI), .p (.lst (List.map Ch thm))]], []⟩) (fun (i, al) => cs.length - i) (fun (i, al) => i ≤ cs.length ∧ (Mi 0 cs = Mi al (cs.drop i) ∧ 0 ≤ al ∧ al ≤ 200)) ⟨0, 0⟩ (⟨by omega, by simp, by omega, by omega⟩) ?_ ?_
  ·exact B8 ⟨we At, we At, we At, we At, we At, we At, trivial⟩ (leH (is := [0, 1]) At (wl (oe At) (wl (oe At) (D4))))
  rintro ⟨i, al⟩ hC
  try simp only at hC
  obtain ⟨hi, hC, ha1, ha2⟩ := hC
  refine Ax (Ax (Av (Au At At (Aw At) (Au At At (Aw At) (Au At At (Bp D9 At (List.length_map _)) (Au At At (BA At At At) (Az At (A9 At (fun c1 => ?_) (fun c1 => ?_)))))))))
  ·(try simp only [sd, se] at c1)
   refine BC (Ax (Ba (Ax (Ax (CA [1, 2, 3, 6, 7, 8] 36 (fun y => y = .p (.bool (decide (cs.getD i 0 < -200) || decide (cs.getD i 0 > 200)))) ?_ ?_)))))
   ·refine Av (Au At At (Aw At) (Au At At (Aw At) ?_))
    obtain ⟨x, hx⟩ := BP (l := cs) (i := i) Ar
    refine Au At At (BL D9 At At Ar (Ds hx) (At)) (Au At At (CI De At) (Au At At (BA At At At) (Au At At (Aw At) (Bm 30 At (fun g => ?_) (fun g => ?_)))))
    ·(try simp only [sd, se] at g)
     refine A5 At At At At At (A5 At At At At At (A5 At At At At At (A5 At At At At At (A5 At At At At At (Au At At (A7 At At) (Az At ?_))))))
     exact ⟨rfl, rfl, AJ, (by refine pB ?_; (first | rw [Cs hx] | skip); simp_all <;> omega), ⟨rfl, rfl, rfl, rfl, rfl, rfl, trivial⟩⟩
    ·(try simp only [sd, se] at g)
     refine A3 At At At At (Aw At) (A3 At At At At (Aw At) (A3 At At At At (BL D9 At At Ar (Ds hx) (At)) (A3 At At At At (CI De At) (A3 At At At At (BA At At At) (Au At At (A7 At At) (Az At ?_))))))
     exact ⟨rfl, rfl, AJ, (by refine pB ?_; (first | rw [Cs hx] | skip); simp_all <;> omega), ⟨rfl, rfl, rfl, rfl, rfl, rfl, trivial⟩⟩
   rintro _ rfl
   refine A9 At (fun c2 => ?_) (fun c2 => ?_)
   ·(try simp only [sd, se] at c2)
    refine Ax (Av (Au At At (Br CX B7 At) (Au At At (Bk (i := 0) BO At At At At At At) (Az At (CG (C9 (i := 0) At) (BB (⟨At, _, _, ⟨_, _, At, (Bn (i := 0) BO At At At), At⟩, (List.nil_sublist _), ?_⟩)))))))
    rw [Ia (by intro h; rw [hC, NT Ar, if_pos Ar] at h; cases h.2)]
    all_goals exact ⟨rfl, rfl⟩
   ·(try simp only [sd, se] at c2)
    refine BC (Ax (CQ (fun k => false) D0 (A4 At At (fun _ => Aw At) trivial (A4 At At (fun _ => Aw At) trivial (A4 At At (fun _ => Aw At) trivial ?_)))))
    obtain ⟨x, hx⟩ := BP (l := cs) (i := i) Ar
    have hgx := Cs (d := (0 : Int)) hx
    refine A4 At At (fun _ => BL D9 At At Ar (Ds hx) (At)) trivial (A4 At At (fun _ => CI De At) trivial (A4 At At (fun _ => Aw At) trivial (A4 At At (fun _ => Aw At) trivial (A4 At At (fun _ => BL D9 At At Ar (Ds hx) (At)) trivial (A4 At At (fun _ => CI De At) trivial (A4 At At (fun _ => LM At Ar Ar) trivial (A4 At At (fun _ => Jq At At) trivial (A4 At At (fun _ => CS At At Ar Ar) trivial (A4 At At (fun _ => Ay At) trivial (CK At An (Ax ?_)))))))))))
    refine Av (Au At At (Aw At) (Au At At (BA At At At) (Az At (A9 At (fun c3 => ?_) (fun c3 => ?_)))))
    ·(try simp only [sd, se] at c3)
     refine Ax (Av (Au At At (Br CX B7 At) (Au At At (Bk (i := 0) BO At At At At At At) (Az At (CG (C9 (i := 0) At) (BB (⟨At, _, _, ⟨_, _, At, (Bn (i := 0) BO At At At), At⟩, (List.nil_sublist _), ?_⟩)))))))
     rw [Ia (by intro h; rw [hC, NT Ar, if_neg Ar, if_pos Ar] at h; cases h.2)]
     all_goals exact ⟨rfl, rfl⟩
    ·(try simp only [sd, se] at c3)
     refine BC (Av (Au At At (Aw At) (Au At At (CS At At Ar Ar) (Au At At (Ay At) (Az At ?_)))))
     refine ⟨⟨i + 1, al + max (cs.getD i 0) (-(cs.getD i 0))⟩, AZ, ⟨by omega, by rw [NT Ar, if_neg Ar, if_neg Ar] at hC; exact ⟨hC, by omega, by omega⟩⟩, B8 ⟨we rfl, we rfl, we rfl, we rfl, we (pI Ar), we rfl, trivial⟩ (leH (is := [0, 1]) rfl (wl (oe rfl) (wl (oe rfl) (D4))))⟩
  ·(try simp only [sd, se] at c1)
   refine CL (Ax (Av (Au At At (A1 DU At At) (Au At At (A2 (i := 1) FU At At At) (Au At At (DA At At (Pd BE [] AN) (aw (we At) (aw (Cq At) (Cv)))) (BM At At (BK B7 At) fun b9 => Au At At (A6 (i := 0) BO At At At Ak Ac (CF _)) (Az At (Ax (Ax (Av ?_))))))))))
   refine Au At At (Aw At) (Au At At (Bp D9 At (List.length_map _)) (Au At At (FA At At Ar Ar) (Au At At (Ay At) (Az At (Ba (CM (α := Nat) (fun m => ⟨103, mk [(1, .p (.lst (List.map Cf cs))), (2, .p (.lst (BR us))), (3, .ptr b3 0), (6, .ptr b6 0), (9, .ptr b9 0), (10, .p (I ((m : Int) - 1)))], [.box b9 ((Be (Dx (BJ.mk BG BD BE BF BH BI thm) (cs.drop m) (us.drop m))).map .p), .box b6 [.p (I 0), .p (I 0), .p (.str ⟨#[]⟩), .p (.nils), .p (.nils)], .box b3 [.p (.str BG), .p (.str BD), .p (.str BE), .p (.str BF), .p (.str BH), .p (.str BI), .p (.lst (List.map Ch thm))]], []⟩) (fun m => m) (fun m => m ≤ cs.length) cs.length AS ?_ ?_))))))
   ·exact B8 ⟨we At, we At, we At, we At, we At, we (pI Ar), trivial⟩ (leH (is := [0, 1, 2]) At (wl (ob (by rw [RM (Nat.le_refl _)])) (wl (oe At) (wl (oe At) (D4)))))
   rintro m hC1
   try simp only at hC1
   refine Ax (Ax (Av (Au At At (Aw At) (Au At At (BA At At At) (Az At (A9 At (fun c2 => ?_) (fun c2 => ?_)))))))
   ·(try simp only [sd, se] at c2)
    refine BC (Ax (Ba (Ax (Ax (Av (Au At At (Ay At) (Az At (Ba (CM (α := Nat) (fun k => ⟨103, mk [(1, .p (.lst (List.map Cf cs))), (2, .p (.lst (BR us))), (3, .ptr b3 0), (6, .ptr b6 0), (9, .ptr b9 0), (10, .p (I ((m : Int) - 1))), (11, .p (I (k : Int)))], [.box b9 ((Be (Eo (BJ.mk BG BD BE BF BH BI thm) (us.getD (m - 1) BZ) k (Dx (BJ.mk BG BD BE BF BH BI thm) (cs.drop m) (us.drop m)))).map .p), .box b6 [.p (I 0), .p (I 0), .p (.str ⟨#[]⟩), .p (.nils), .p (.nils)], .box b3 [.p (.str BG), .p (.str BD), .p (.str BE), .p (.str BF), .p (.str BH), .p (.str BI), .p (.lst (List.map Ch thm))]], []⟩) (fun k => (cs.getD (m - 1) 0).toNat - k) (fun k => (k : Int) ≤ max (cs.getD (m - 1) 0) 0) 0 Ar ?_ ?_)))))))))
    ·exact B8 ⟨we At, we At, we At, we At, we At, we At, we At, trivial⟩ (leH (is := [0, 1, 2]) At (wl (oe At) (wl (oe At) (wl (oe At) (D4)))))
    rintro k hC2
    try simp only at hC2
    have hok : Mi 0 cs = true := by rw [hC, show i = cs.length by omega, List.drop_length]; rfl
    have hrg := RZ hok (m - 1)
    refine Ax (Ax (Av (Au At At (Aw At) (Au At At (Aw At) (Au At At (Aw At) ?_)))))
    obtain ⟨x, hx⟩ := BP (l := cs) (i := ((m : Int) - 1 : Int).toNat) Ar
    have hgx := Cs (d := (0 : Int)) hx
    rw [show ((m : Int) - 1).toNat = m - 1 by omega] at hgx
    refine Au At At (BL D9 At At Ar (Ds hx) (At)) (Au At At (CI De At) (Au At At (BA At At At) (Az At (A9 At (fun c3 => ?_) (fun c3 => ?_)))))
    ·(try simp only [sd, se] at c3)
     refine BC (Ax (Ba (CQ (fun k => false) D0 (A4 At At (fun _ => A1 DU At At) trivial (BQ (j := 2) At At At (fun H i hi => A2 (i := i) FU At hi At) AA trivial (A4 At At (fun _ => Aw At) trivial (A4 At At (fun _ => Aw At) trivial ?_)))))))
     obtain ⟨x1, hx1⟩ := BP (l := us) (i := ((m : Int) - 1 : Int).toNat) Ar
     have hgy := Cs (d := BZ) hx1
     rw [show ((m : Int) - 1).toNat = m - 1 by omega] at hgy
     refine A4 At At (fun _ => BL By At At Ar (CH hx1) (Bj _)) trivial (A4 At At (fun _ => Bi BO At (Bj _)) trivial (BQ (j := 0) At At At (fun H i hi => A0 (i := i) BO At hi Ak) AA trivial ?_))
     obtain ⟨x1k, x1i, x1n, x1l, x1s⟩ := x1
     generalize hz : Eo (BJ.mk BG BD BE BF BH BI thm) (us.getD (m - 1) BZ) k (Dx (BJ.mk BG BD BE BF BH BI thm) (cs.drop m) (us.drop m)) = z
     obtain ⟨zk, zi, zn, zl, zs⟩ := z
     refine A4 At At (fun _ => CO By B7 At At At At At) trivial (A4 At At (fun _ => Bg At At (Pd BD [(.mk x1k x1i x1n x1l x1s : Tm), (.mk zk zi zn zl zs : Tm)] AN) At) trivial (Cr At At (A6 (i := 0) BO At At At Ak Ac (CF _)) AA trivial (CK At An (Av (Au At At (Aw At) (Au At At (CS At At Ar Ar) (Au At At (Ay At) (Az At ?_))))))))
     refine ⟨(k + 1), AZ, by first | trivial | omega | (simp only; omega) | (simp; omega), B8 ⟨we rfl, we rfl, we rfl, we rfl, we rfl, we rfl, we rfl, trivial⟩ (leH (is := [0, 1, 2]) rfl (wl (ob (by rw [Eo, hz, hgy])) (wl (oe rfl) (wl (oe rfl) (D4)))))⟩
    ·(try simp only [sd, se] at c3)
     refine CL (Ax (Av (Au At At (Ay At) (Az At (Ba (CM (α := Nat) (fun q => ⟨103, mk [(1, .p (.lst (List.map Cf cs))), (2, .p (.lst (BR us))), (3, .ptr b3 0), (6, .ptr b6 0), (9, .ptr b9 0), (10, .p (I ((m : Int) - 1))), (12, .p (I (q : Int)))], [.box b9 ((Be (Eo (BJ.mk BG BD BE BF BH BI thm) (BS BF [(us.getD (m - 1) BZ)]) q (Eo (BJ.mk BG BD BE BF BH BI thm) (us.getD (m - 1) BZ) (cs.getD (m - 1) 0).toNat (Dx (BJ.mk BG BD BE BF BH BI thm) (cs.drop m) (us.drop m))))).map .p), .box b6 [.p (I 0), .p (I 0), .p (.str ⟨#[]⟩), .p (.nils), .p (.nils)], .box b3 [.p (.str BG), .p (.str BD), .p (.str BE), .p (.str BF), .p (.str BH), .p (.str BI), .p (.lst (List.map Ch thm))]], []⟩) (fun q => (-(cs.getD (m - 1) 0)).toNat - q) (fun q => (q : Int) ≤ max (-(cs.getD (m - 1) 0)) 0) 0 Ar ?_ ?_))))))
     ·exact B8 ⟨we At, we At, we At, we At, we At, we At, we At, trivial⟩ (leH (is := [0, 1, 2]) At (wl (ob (by rw [show k = (cs.getD (m - 1) 0).toNat by omega]; rfl)) (wl (oe At) (wl (oe At) (D4)))))
     rintro q hC3
     try simp only at hC3
     have hok : Mi 0 cs = true := by rw [hC, show i = cs.length by omega, List.drop_length]; rfl
     have hrg := RZ hok (m - 1)
     refine Ax (Ax (Av (Au At At (Aw At) (Au At At (Aw At) (Au At At (Aw At) ?_)))))
     obtain ⟨x1, hx1⟩ := BP (l := cs) (i := ((m : Int) - 1 : Int).toNat) Ar
     have hgx := Cs (d := (0 : Int)) hx1
     rw [show ((m : Int) - 1).toNat = m - 1 by omega] at hgx
     refine Au At At (BL D9 At At Ar (Ds hx1) (At)) (Au At At (CI De At) (Au At At (LM At Ar Ar) (Au At At (BA At At At) (Az At (A9 At (fun c4 => ?_) (fun c4 => ?_))))))
     ·(try simp only [sd, se] at c4)
      refine BC (Ax (Ba (CQ (fun k => false) D0 (A4 At At (fun _ => A1 DU At At) trivial (BQ (j := 2) At At At (fun H i hi => A2 (i := i) FU At hi At) AA trivial (A4 At At (fun _ => A1 DU At At) trivial (BQ (j := 2) At At At (fun H i hi => A2 (i := i) FU At hi At) AA trivial (A4 At At (fun _ => Aw At) trivial (A4 At At (fun _ => Aw At) trivial ?_)))))))))
      obtain ⟨x2, hx2⟩ := BP (l := us) (i := ((m : Int) - 1 : Int).toNat) Ar
      have hgy := Cs (d := BZ) hx2
      rw [show ((m : Int) - 1).toNat = m - 1 by omega] at hgy
      refine A4 At At (fun _ => BL By At At Ar (CH hx2) (Bj _)) trivial (A4 At At (fun _ => Bi BO At (Bj _)) trivial ?_)
      obtain ⟨x2k, x2i, x2n, x2l, x2s⟩ := x2
      refine A4 At At (fun _ => CO By B7 At At At At At) trivial (A4 At At (fun _ => Bg At At (Pd BF [(.mk x2k x2i x2n x2l x2s : Tm)] AN) At) trivial (BQ (j := 0) At At At (fun H i hi => A0 (i := i) BO At hi Ak) AA trivial ?_))
      generalize hz : BS BF [(.mk x2k x2i x2n x2l x2s : Tm)] = z
      obtain ⟨zk, zi, zn, zl, zs⟩ := z
      generalize hz1 : Eo (BJ.mk BG BD BE BF BH BI thm) (BS BF [(us.getD (m - 1) BZ)]) q (Eo (BJ.mk BG BD BE BF BH BI thm) (us.getD (m - 1) BZ) (cs.getD (m - 1) 0).toNat (Dx (BJ.mk BG BD BE BF BH BI thm) (cs.drop m) (us.drop m))) = z1
      obtain ⟨z1k, z1i, z1n, z1l, z1s⟩ := z1
      refine A4 At At (fun _ => CO By B7 At At At At At) trivial (A4 At At (fun _ => Bg At At (Pd BD [(.mk zk zi zn zl zs : Tm), (.mk z1k z1i z1n z1l z1s : Tm)] AN) At) trivial (Cr At At (A6 (i := 0) BO At At At Ak Ac (CF _)) AA trivial (CK At An (Av (Au At At (Aw At) (Au At At (CS At At Ar Ar) (Au At At (Ay At) (Az At ?_))))))))
      refine ⟨(q + 1), AZ, by first | trivial | omega | (simp only; omega) | (simp; omega), B8 ⟨we rfl, we rfl, we rfl, we rfl, we rfl, we rfl, we rfl, trivial⟩ (leH (is := [0, 1, 2]) rfl (wl (ob (by rw [Eo, hz1, hgy, hz])) (wl (oe rfl) (wl (oe rfl) (D4)))))⟩
     ·(try simp only [sd, se] at c4)
      refine CL (Av (Au At At (Aw At) (Au At At (FA At At Ar Ar) (Au At At (Ay At) (Az At ?_)))))
      refine ⟨(m - 1), AZ, by first | trivial | omega | (simp only; omega) | (simp; omega), B8 ⟨we rfl, we rfl, we rfl, we rfl, we rfl, we (pI Ar), trivial⟩ (leH (is := [0, 1, 2]) rfl (wl (ob (by rw [PB Ar Ar Ar, VK, show q = (-(cs.getD (m - 1) 0)).toNat by omega])) (wl (oe rfl) (wl (oe rfl) (D4)))))⟩
   ·(try simp only [sd, se] at c2)
    refine CL (Ax (Av (Au At At (A0 (i := 0) BO At At Ak) (Au At At (A6 (i := 1) BO At At At Ak Ac (CF _)) (Az At (BB (⟨At, _, _, ⟨_, _, At, (Bn (i := 1) BO At At Ak), At⟩, (List.nil_sublist _), ?_⟩)))))))
    rw [IY Ar (by rw [hC, show i = cs.length by omega, List.drop_length]; rfl), show m = 0 by omega]
    all_goals exact ⟨rfl, rfl⟩
theorem Y5 : ∀ {σ : Type} (st : σ → Int → Int → σ) (HP : σ → List BT → Prop) (l b1 : Nat) (xs : List Int) (hy : ∀ s d n T, 0 ≤ d → xs[d.toNat]? = some n → HP s T → HB Tryz.prog l [.p (I d), .p (I n)] T (Gm (.p (.bool true)) (HP (st s d n)))) (s : σ) (T0 : List BT), xs.length < EC → HP s T0 → Bt Tryz.prog 71 [.fn (.yield l) [] [], .ptr b1 0] (.box b1 [.p (.lst (List.map Cf xs))] :: T0) (Gm (.tup []) (fun H => ∃ T, HP (VL st xs xs.length s) T ∧ H = .box b1 [.p (.lst (List.map Cf xs))] :: T)) := by
 intro σ st HP l b1 xs hy s T0 h1 h2
 simp only [EC] at h1
 refine A8 Tryz.func71 At eH (n := 19) At At (Ax (Av (Au At At (A2 (i := 0) Nq At At At) (Au At At (Bp D9 At (List.length_map _)) (Au At At (FA At At Ar Ar) (Au At At (Ay At) (Az At (Ba (CM (α := Nat × σ × List BT) (fun (m, q, U) => ⟨19, mk [(0, .fn (.yield l) [] []), (1, .ptr b1 0), (3, .p (I ((m : Int) - 1)))], (.box b1 [.p (.lst (List.map Cf xs))] :: U), []⟩) (fun (m, q, U) => m) (fun (m, q, U) => m ≤ xs.length ∧ VL st xs m q = VL st xs xs.length s ∧ HP q U) ⟨xs.length, s, T0⟩ (⟨by omega, rfl, h2⟩) ?_ ?_)))))))))
 ·exact B8 ⟨we At, we At, we At, trivial⟩ (QW [0] [_] (l' := [_]) At (wl (oe At) (D4)))
 rintro ⟨m, q, U⟩ hC
 try simp only at hC
 obtain ⟨hm, hB, hK⟩ := hC
 refine Ax (Ax (Av (Au At At (Aw At) (Au At At (BA At At At) (Az At (A9 At (fun c => ?_) (fun c => ?_)))))))
 ·(try simp only [sd, se] at c)
  refine BC (Ax (Ba (Ax (Av (Au At At (Aw At) (Au At At (Aw At) (Au At At (A2 (i := 0) Nq At At At) (Au At At (Aw At) ?_))))))))
  obtain ⟨x, hx⟩ := BP (l := xs) (i := ((m : Int) - 1 : Int).toNat) Ar
  refine Au At At (BL D9 At At Ar (Ds hx) (At)) (Au At At (CI De At) (J9 [_] At At At At (hy q _ _ _ Ar hx hK) At ?_ (fun _ _ h => h.elim)))
  rintro _ T ⟨rfl, hT⟩
  refine Au At At (Cg At) (Az At ?_)
  refine A9 At (fun c1 => by cases c1) (fun c1 => ?_)
  refine BC (Av (Au At At (Aw At) (Au At At (FA At At Ar Ar) (Au At At (Ay At) (Az At ?_)))))
  refine ⟨⟨m - 1, st q ((m : Int) - 1) x, T⟩, AZ, ⟨by omega, by rw [← hB]; exact VA hx Ar, by assumption⟩, B8 ⟨we rfl, we rfl, we (pI Ar), trivial⟩ (QW [0] [_] (l' := [_]) rfl (wl (oe rfl) (D4)))⟩
 ·(try simp only [sd, se] at c)
  refine CL ⟨At, _, _, At, (Gj [0] [_] At), ?_⟩
  rw [← hB, show m = 0 by omega]
  exact ⟨At, _, hK, At⟩
theorem cC : ∀ (xs : List Int), Bt Tryz.prog 40 [.p (.lst (List.map Cf xs))] [] (fun r H' => ∃ b, r = .val (.fn (.func 71) [] [.ptr b 0]) ∧ H' = [.box b [.p (.lst (List.map Cf xs))]]) := by
 intro xs
 refine A8 Tryz.func40 At fZ (n := 4) At At (Ax (Av (BM At At (Bh At) fun b1 => Au At At (Ay At) (Az At (Ax (Av (Au At At (Cw At At) (Au At At (Ay At) (Az At (BB ?_))))))))))
 refine ⟨At, _, _, ⟨_, _, At, At, At⟩, (Cj (is := [0]) At), ?_⟩
 exact ⟨_, At, At⟩
theorem JT : ∀ (th : BJ) (cs : List Int) (us : List Tm), (cs.length < EC) → G5 Tryz.prog 13 [.agg ((EE th).map .p), .p (.lst (List.map Cf cs)), .p (.lst (BR us))] (.agg ((Be (EO th cs us)).map .p)) := by
 intro th cs us h1
 simp only [EC] at h1
 obtain ⟨BG, BD, BE, BF, BH, BI, thm⟩ := th
 refine Fu Tryz.func13 At eX (n := 75) At At (Ax (Av (BM At At (Bh At) fun b3 => BM At At (Bh At) fun b5 => BM At At (BK B7 At) fun b6 => Az At (Ax (Av (Au At At (Ay At) (Az At (Ax ?_))))))))
 refine Ax (Av (Au At At (Aw At) (Au At At (Bp D9 At (List.length_map _)) (Au At At (Aw At) (Az At (Ba ?_))))))
 refine CM (α := Nat × Int) (fun (i, al) => ⟨75, mk [(1, .p (.lst (List.map Cf cs))), (3, .ptr b3 0), (5, .ptr b5 0), (6, .ptr b6 0), (7, .p (I al)), (11, .p .any), (12, .p .any), (13, .p .any), (14, .p (.lst (List.map Cf cs))), (15, .p (I (cs.length : Nat))), (16, .p (I (i : Int))), (48, .p .any), (49, .p .any), (50, .p .any), (51, .p .any), (52, .p .any), (53, .p .any), (54, .p .any), (55, .p .any), (56, .p .any), (57, .p .any), (58, .p .any), (59, .p .any), (60, .p .any), (61, .p .any), (62, .p .any), (63, .p .any), (64, .p .any), (65, .p .any), (66, .p .any), (67, .p .any), (68, .p .any), (69, .p .any), (70, .p .any), (71, .p .any), (72, .p .any), (73, .p .any)], [.box b6 [.p (I 0), .p (I 0), .p (.str ⟨#[]⟩), .p (.nils), .p (.nils)], .box b5 [.p (.lst (BR us))], .box b3 [.p (.str BG), .p (.str BD), .p (.str BE), .p (.str BF), .p (.str BH), .p (.str BI), .p (.lst (List.map Ch thm))]], []⟩) (fun (i, al) => cs.length - i) (fun (i, al) => i ≤ cs.length ∧ (Mi 0 cs = Mi al (cs.drop i) ∧ 0 ≤ al ∧ al ≤ 200)) ⟨0, 0⟩ (⟨by omega, by simp, by omega, by omega⟩) ?_ ?_
 ·exact B8 ⟨we At, we At, we At, we At, we At, CE _, CE _, CE _, we At, we At, we At, CE _, CE _, CE _, CE _, CE _, CE _, CE _, CE _, CE _, CE _, CE _, CE _, CE _, CE _, CE _, CE _, CE _, CE _, CE _, CE _, CE _, CE _, CE _, CE _, CE _, CE _, trivial⟩ (leH (is := [0, 1, 2]) At (wl (oe At) (wl (oe At) (wl (oe At) (D4)))))
 rintro ⟨i, al⟩ hC
 try simp only at hC
 obtain ⟨hi, hC, ha1, ha2⟩ := hC
 refine Ax (Av (Au At At (BA At At At) (Az At (Ax (A9 At (fun c => ?_) (fun c => ?_))))))
 ·(try simp only [sd, se] at c)
  refine BC (Ax (Ba (Ax (Av ?_))))
  obtain ⟨x, hx⟩ := BP (l := cs) (i := i) Ar
  refine Au At At (BL D9 At At Ar (Ds hx) (At)) (Au At At (CI De At) (Au At At (Ay At) (Az At (Ax (Ax (CA [1, 3, 5, 6, 7, 9, 11, 12, 13, 14, 15, 16, 48, 49, 50, 51, 52, 53, 54, 55, 56, 57, 58, 59, 60, 61, 62, 63, 64, 65, 66, 67, 68, 69, 70, 71, 72, 73] 25 (fun y => y = .p (.bool ((decide ((x : Int) < (-200 : Int))) || (decide ((x : Int) > (200 : Int)))))) ?_ ?_))))))
  ·refine Av (Au At At (Aw At) (Au At At (BA At At At) (Au At At (Aw At) (Bm 22 At (fun g => ?_) (fun g => ?_)))))
   ·(try simp only [sd, se] at g)
    exact A5 At At At At At (A5 At At At At At (Au At At (A7 At At) (Az At (⟨At, At, AJ, AI, ⟨At, At, At, At, At, At, At, At, At, At, At, At, At, At, At, At, At, At, At, At, At, At, At, At, At, At, At, At, At, At, At, At, At, At, At, At, At, At, trivial⟩⟩))))
   ·(try simp only [sd, se] at g)
    exact A3 At At At At (Aw At) (A3 At At At At (BA At At At) (Au At At (A7 At At) (Az At (⟨At, At, AJ, AI, ⟨At, At, At, At, At, At, At, At, At, At, At, At, At, At, At, At, At, At, At, At, At, At, At, At, At, At, At, At, At, At, At, At, At, At, At, At, At, At, trivial⟩⟩))))
  rintro _ rfl
  refine A9 At (fun c1 => ?_) (fun c1 => ?_)
  ·(try simp only [sd, se] at c1)
   refine Ax (Av (Au At At (Br CX B7 At) (Au At At (Bk (i := 0) BO At At At At At At) (Az At (CG (C9 (i := 0) At) (BB (⟨_, _, ⟨_, _, At, (Bn (i := 0) BO At At At), At⟩, (List.nil_sublist _), ?_⟩)))))))
   rw [Ia (by intro h; rw [hC, Pu hx, if_pos Ar] at h; cases h.2)]
   all_goals exact ⟨rfl, rfl⟩
  ·(try simp only [sd, se] at c1)
   refine BC (Ax (Av (Au At At (Aw At) (Au At At (Aw At) (Au At At (Aw At) (Au At At (LM At Ar Ar) (Au At At (Jq At At) (Au At At (CS At At Ar Ar) (Au At At (Ay At) (Az At (Ax ?_)))))))))))
   refine Av (Au At At (Aw At) (Au At At (BA At At At) (Az At (A9 At (fun c2 => ?_) (fun c2 => ?_)))))
   ·(try simp only [sd, se] at c2)
    refine Ax (Av (Au At At (Br CX B7 At) (Au At At (Bk (i := 0) BO At At At At At At) (Az At (CG (C9 (i := 0) At) (BB (⟨_, _, ⟨_, _, At, (Bn (i := 0) BO At At At), At⟩, (List.nil_sublist _), ?_⟩)))))))
    rw [Ia (by intro h; rw [hC, Pu hx, if_neg Ar, if_pos Ar] at h; cases h.2)]
    all_goals exact ⟨rfl, rfl⟩
   ·(try simp only [sd, se] at c2)
    refine BC (Av (Au At At (CS At At Ar Ar) (Au At At (Aw At) (Az At ?_))))
    refine ⟨⟨i + 1, al + max x (-x)⟩, AZ, ⟨by omega, by rw [Pu hx, if_neg Ar, if_neg Ar] at hC; exact ⟨hC, by omega, by omega⟩⟩, B8 ⟨we rfl, we rfl, we rfl, we rfl, we rfl, CE _, CE _, CE _, we rfl, we rfl, we rfl, CE _, CE _, CE _, CE _, CE _, CE _, CE _, CE _, CE _, CE _, CE _, CE _, CE _, CE _, CE _, CE _, CE _, CE _, CE _, CE _, CE _, CE _, CE _, CE _, CE _, CE _, trivial⟩ (leH (is := [0, 1, 2]) rfl (wl (oe rfl) (wl (oe rfl) (wl (oe rfl) (D4)))))⟩
 ·(try simp only [sd, se] at c)
  refine CL (Ax (Ax (Av (Au At At (Aw At) (Au At At (Bp D9 At (List.length_map _)) (Au At At (A2 (i := 1) DQ At At At) (Au At At (Bp By At (Bo _)) (Au At At (BA At At At) (Az At (A9 At (fun c1 => ?_) (fun c1 => ?_)))))))))))
  ·(try simp only [sd, se] at c1)
   refine Ax (Av (Au At At (Br CX B7 At) (Au At At (Bk (i := 0) BO At At At At At At) (Az At (CG (C9 (i := 0) At) (BB (⟨_, _, ⟨_, _, At, (Bn (i := 0) BO At At At), At⟩, (List.nil_sublist _), ?_⟩)))))))
   rw [Ia (fun h => absurd h.1 Ar)]
   all_goals exact ⟨rfl, rfl⟩
  ·(try simp only [sd, se] at c1)
   refine BC (Ax (Av (Au At At (A1 DU At At) (Au At At (A2 (i := 2) FU At At At) (Au At At (DA At At (EL BE [] AN) (aw (we At) (aw (Cq At) (Cv)))) (BM At At (BK B7 At) fun b10 => Au At At (A6 (i := 0) BO At At At Ak Ac (CF _)) (Az At (Ax (Ax (Av ?_))))))))))
   refine Au At At (Aw At) ?_
   refine M7 [] At At At (.inl ⟨At, At, At⟩) (cC cs) At As (aw (we At) Cv) ?_ (fun _ _ ⟨_, h, _⟩ => by cases h)
   rintro _ _ ⟨bn, h, rfl⟩
   cases h
   refine Az At (Ba (Iy (.inr At) fun dd l L hL => ⟨_, _, Cx (is := [2, 0, 6, 3, 5]) Aq ⟨_, _, At, At, ⟨_, _, At, At, ⟨_, _, At, At, ⟨_, _, At, At, ⟨_, _, At, At, At⟩⟩⟩⟩⟩, ?_⟩))
   have hy : ∀ (s : Tm) (d : Int) (t : Int) (T : List BT), 0 ≤ d → cs[d.toNat]? = some t → (fun (s : Tm) (T : List BT) => T = [.loop l L, .box b3 [.p (.str BG), .p (.str BD), .p (.str BE), .p (.str BF), .p (.str BH), .p (.str BI), .p (.lst (List.map Ch thm))], .box b10 ((Be s).map .p), .box b5 [.p (.lst (BR us))]]) s T → HB Tryz.prog l [.p (I d), .p (I t)] T (Gm (.p (.bool true)) ((fun (s : Tm) (T : List BT) => T = [.loop l L, .box b3 [.p (.str BG), .p (.str BD), .p (.str BE), .p (.str BF), .p (.str BH), .p (.str BI), .p (.lst (List.map Ch thm))], .box b10 ((Be s).map .p), .box b5 [.p (.lst (BR us))]]) ((Sh (BJ.mk BG BD BE BF BH BI thm) us) s d t))) := by
    rintro s d tt T hd hxt rfl
    have hdl := (List.getElem?_eq_some_iff.1 hxt).1
    have hok : Mi 0 cs = true := by rw [hC, show i = cs.length by omega, List.drop_length]; rfl
    have htt := QD hok tt (List.mem_of_getElem? hxt)
    obtain ⟨LB, hLB⟩ : ∃ x, x = BT.loop l { L with state := .busy } := ⟨_, rfl⟩
    subst hL
    refine Ju (i := 0) At At At At (Ax (Av (Au At At (Ay At) (Az At (Av (Au At At (Ay At) (Az At ⟨At, 0, At, ?_⟩)))))))
    rw [← hLB]
    refine Ba (Ax (Av (Au At At (A2 (i := 3) DQ At At At) (Au At At (Aw At) ?_))))
    obtain ⟨x, hx⟩ := BP (l := us) (i := (d : Int).toNat) Ar
    have hgy := Cs (d := BZ) hx
    refine Au At At (BL By At At Ar (CH hx) (Bj _)) (Au At At (Bi BO At (Bj _)) (BM At At (BK B7 At) fun b13 => Au At At (A6 (i := 0) BO At At At Ak Ac (CF _)) (Az At (Ax (Ax (Av (Au At At (Aw At) (Au At At (BA At At At) (Az At (A9 At (fun c2 => ?_) (fun c2 => ?_)))))))))))
    ·(try simp only [sd, se] at c2)
     refine Av (Au At At (A1 DU At At) (Au At At (A2 (i := 2) FU At At At) (Au At At (A0 (i := 0) BO At At Ak) ?_)))
     obtain ⟨xk, xi, xn, xl, xs⟩ := x
     refine Au At At (CO By B7 At At At At At) (Au At At (Bg At At (EL BF [(.mk xk xi xn xl xs : Tm)] AN) At) (Au At At (A6 (i := 0) BO At At At Ak Ac (CF _)) (Az At (Ax (Av (Au At At (Aw At) (Au At At (Aw At) (Au At At (LM At Ar Ar) (Au At At (Jq At At) (Au At At (Aw At) (Az At ?_)))))))))))
     refine Ba (CM (α := Nat) (fun k => ⟨75, mk [(3, .ptr b3 0), (10, .ptr b10 0), (13, .ptr b13 0), (64, .p (I (max (tt : Int) (-tt : Int)))), (65, .p (I (k : Int)))], [.box b13 ((Be (BS BF [(.mk xk xi xn xl xs : Tm)])).map .p), LB, .box b3 [.p (.str BG), .p (.str BD), .p (.str BE), .p (.str BF), .p (.str BH), .p (.str BI), .p (.lst (List.map Ch thm))], .box b10 ((Be (Eo (BJ.mk BG BD BE BF BH BI thm) (E8 (BJ.mk BG BD BE BF BH BI thm) tt (us.getD d.toNat BZ)) k s)).map .p), .box b5 [.p (.lst (BR us))]], []⟩) (fun k => tt.natAbs - k) (fun k => (k : Int) ≤ max tt (-tt)) 0 Ar ?_ ?_)
     ·exact B8 ⟨we At, we At, we At, we At, we At, trivial⟩ (leH (is := [0, 1, 2, 3, 4]) At (wl (oe At) (wl (oe At) (wl (oe At) (wl (oe At) (wl (oe At) (D4)))))))
     rintro k hC1
     try simp only at hC1
     refine Ax (Av (Au At At (BA At At At) (Az At (Ax (A9 At (fun c3 => ?_) (fun c3 => ?_))))))
     ·(try simp only [sd, se] at c3)
      refine BC (Ax (Ba (Av (Au At At (A1 DU At At) (Au At At (A2 (i := 2) FU At At At) (Au At At (A0 (i := 0) BO At At Ak) (Au At At (A0 (i := 3) BO At At Ak) ?_)))))))
      generalize hz : BS BF [(.mk xk xi xn xl xs : Tm)] = z
      obtain ⟨zk, zi, zn, zl, zs⟩ := z
      generalize hz1 : Eo (BJ.mk BG BD BE BF BH BI thm) (E8 (BJ.mk BG BD BE BF BH BI thm) tt (us.getD d.toNat BZ)) k s = z1
      obtain ⟨z1k, z1i, z1n, z1l, z1s⟩ := z1
      refine Au At At (CO By B7 At At At At At) (Au At At (Bg At At (EL BD [(.mk zk zi zn zl zs : Tm), (.mk z1k z1i z1n z1l z1s : Tm)] AN) At) (Au At At (A6 (i := 3) BO At At At Ak Ac (CF _)) (Az At (Av (Au At At (CS At At Ar Ar) (Au At At (Aw At) (Az At ?_)))))))
      refine ⟨(k + 1), AZ, by first | trivial | omega | (simp only; omega) | (simp; omega), B8 ⟨we rfl, we rfl, we rfl, we rfl, we rfl, trivial⟩ (leH (is := [0, 1, 2, 3, 4]) rfl (wl (oe rfl) (wl (oe rfl) (wl (oe rfl) (wl (ob (by rw [Eo, hz1, E8, if_pos Ar, hgy, hz])) (wl (oe rfl) (D4)))))))⟩
     ·(try simp only [sd, se] at c3)
      refine CL ?_
      subst hLB
      refine ⟨1, _, At, Cj (is := [1, 2, 3, 4]) At, ?_⟩
      obtain rfl : k = tt.natAbs := by omega
      exact ⟨At, At⟩
    ·(try simp only [sd, se] at c2)
     refine BC (Ax (Av (Au At At (Aw At) (Au At At (Aw At) (Au At At (LM At Ar Ar) (Au At At (Jq At At) (Au At At (Aw At) (Az At (Ba (CM (α := Nat) (fun k => ⟨75, mk [(3, .ptr b3 0), (10, .ptr b10 0), (13, .ptr b13 0), (64, .p (I (max (tt : Int) (-tt : Int)))), (65, .p (I (k : Int)))], [.box b13 ((Be x).map .p), LB, .box b3 [.p (.str BG), .p (.str BD), .p (.str BE), .p (.str BF), .p (.str BH), .p (.str BI), .p (.lst (List.map Ch thm))], .box b10 ((Be (Eo (BJ.mk BG BD BE BF BH BI thm) (E8 (BJ.mk BG BD BE BF BH BI thm) tt (us.getD d.toNat BZ)) k s)).map .p), .box b5 [.p (.lst (BR us))]], []⟩) (fun k => tt.natAbs - k) (fun k => (k : Int) ≤ max tt (-tt)) 0 Ar ?_ ?_))))))))))
     ·exact B8 ⟨we At, we At, we At, we At, we At, trivial⟩ (leH (is := [0, 1, 2, 3, 4]) At (wl (oe At) (wl (oe At) (wl (oe At) (wl (oe At) (wl (oe At) (D4)))))))
     rintro k hC1
     try simp only at hC1
     refine Ax (Av (Au At At (BA At At At) (Az At (Ax (A9 At (fun c3 => ?_) (fun c3 => ?_))))))
     ·(try simp only [sd, se] at c3)
      refine BC (Ax (Ba (Av (Au At At (A1 DU At At) (Au At At (A2 (i := 2) FU At At At) (Au At At (A0 (i := 0) BO At At Ak) (Au At At (A0 (i := 3) BO At At Ak) ?_)))))))
      obtain ⟨xk, xi, xn, xl, xs⟩ := x
      generalize hz : Eo (BJ.mk BG BD BE BF BH BI thm) (E8 (BJ.mk BG BD BE BF BH BI thm) tt (us.getD d.toNat BZ)) k s = z
      obtain ⟨zk, zi, zn, zl, zs⟩ := z
      refine Au At At (CO By B7 At At At At At) (Au At At (Bg At At (EL BD [(.mk xk xi xn xl xs : Tm), (.mk zk zi zn zl zs : Tm)] AN) At) (Au At At (A6 (i := 3) BO At At At Ak Ac (CF _)) (Az At (Av (Au At At (CS At At Ar Ar) (Au At At (Aw At) (Az At ?_)))))))
      refine ⟨(k + 1), AZ, by first | trivial | omega | (simp only; omega) | (simp; omega), B8 ⟨we rfl, we rfl, we rfl, we rfl, we rfl, trivial⟩ (leH (is := [0, 1, 2, 3, 4]) rfl (wl (oe rfl) (wl (oe rfl) (wl (oe rfl) (wl (ob (by rw [Eo, hz, E8, if_neg Ar, hgy])) (wl (oe rfl) (D4)))))))⟩
     ·(try simp only [sd, se] at c3)
      refine CL ?_
      subst hLB
      refine ⟨1, _, At, Cj (is := [1, 2, 3, 4]) At, ?_⟩
      obtain rfl : k = tt.natAbs := by omega
      exact ⟨At, At⟩
   refine (Y5 (Sh (BJ.mk BG BD BE BF BH BI thm) us) (fun (s : Tm) (T : List BT) => T = [.loop l L, .box b3 [.p (.str BG), .p (.str BD), .p (.str BE), .p (.str BF), .p (.str BH), .p (.str BI), .p (.lst (List.map Ch thm))], .box b10 ((Be s).map .p), .box b5 [.p (.lst (BR us))]]) l bn cs hy (BS BE []) _ (h1) At).mono ?_
   rintro (v | v) H' hR
   rotate_left
   ·exact hR.elim
   obtain ⟨rfl, _, rfl, rfl⟩ := hR
   subst hL
   refine ⟨1, _, At, As, ?_⟩
   refine Ax (Av (Au At At (A0 (i := 2) BO At At Ak) (Au At At (A6 (i := 5) BO At At At Ak Ac (CF _)) (Az At (BB (⟨4, At, _, _, ⟨_, _, At, (Bn (i := 4) BO At At Ak), At⟩, (List.nil_sublist _), ?_⟩))))))
   rw [IY Ar (by rw [hC, show i = cs.length by omega, List.drop_length]; rfl), Wj Ar]
   all_goals exact ⟨rfl, rfl⟩
theorem O2 : ∀ (c : Int), G5 Tryz.prog 133 [.p (.int .u8 c)] (.p (.bool (M3 c))) := by
 intro c
 refine A8 Tryz.func133 At aR (n := 21) At At (Ax (Av (Au At At (Ay At) (Az At (Ax (CA [] 2 (fun y => y = .p (.bool ((((decide ((c : Int) ≥ (97 : Int))) && (decide ((c : Int) ≤ (122 : Int)))) || ((decide ((c : Int) ≥ (65 : Int))) && (decide ((c : Int) ≤ (90 : Int))))) || ((c : Int) == (95 : Int))))) ?_ ?_))))))
 ·refine Av (Au At At (Aw At) (Au At At (BA At At At) (Au At At (Aw At) (Bm 5 At (fun g => ?_) (fun g => ?_)))))
  ·(try simp only [sd, se] at g)
   refine A3 At At At At (Aw At) (A3 At At At At (BA At At At) (Au At At (A7 At At) (Au At At (Aw At) (Bm 9 At (fun g1 => ?_) (fun g1 => ?_)))))
   ·(try simp only [sd, se] at g1)
    refine A5 At At At At At (A5 At At At At At (A5 At At At At At (Cc At At At At (Cc At At At At (A5 At At At At At (Au At At (A7 At At) (Au At At (Aw At) (A5 At At At At At (A5 At At At At At (Au At At (A7 At At) (Au At At (Ay At) ?_)))))))))))
    exact Az At ⟨At, At, AJ, AI, trivial⟩
   ·(try simp only [sd, se] at g1)
    refine A3 At At At At (Aw At) (A3 At At At At (BA At At At) (A3 At At At At (Aw At) (Bm 12 At (fun g2 => ?_) (fun g2 => ?_))))
    ·(try simp only [sd, se] at g2)
     refine A3 At At At At (Aw At) (A3 At At At At (BA At At At) (A3 At At At At (A7 At At) (Au At At (A7 At At) (Au At At (Aw At) (Bm 17 At (fun g3 => ?_) (fun g3 => ?_))))))
     ·(try simp only [sd, se] at g3)
      exact A5 At At At At At (A5 At At At At At (Au At At (A7 At At) (Au At At (Ay At) (Az At ⟨At, At, AJ, AI, trivial⟩))))
     ·(try simp only [sd, se] at g3)
      exact A3 At At At At (Aw At) (A3 At At At At (BA At At At) (Au At At (A7 At At) (Au At At (Ay At) (Az At ⟨At, At, AJ, AI, trivial⟩))))
    ·(try simp only [sd, se] at g2)
     exact A5 At At At At At (A5 At At At At At (A3 At At At At (A7 At At) (Au At At (A7 At At) (Au At At (Aw At) (A3 At At At At (Aw At) (A3 At At At At (BA At At At) (Au At At (A7 At At) (Au At At (Ay At) (Az At ⟨At, At, AJ, AI, trivial⟩)))))))))
  ·(try simp only [sd, se] at g)
   refine A5 At At At At At (A5 At At At At At (Au At At (A7 At At) (Au At At (Aw At) (A3 At At At At (Aw At) (A3 At At At At (BA At At At) (A3 At At At At (Aw At) (Bm 12 At (fun g1 => ?_) (fun g1 => ?_))))))))
   ·(try simp only [sd, se] at g1)
    refine A3 At At At At (Aw At) (A3 At At At At (BA At At At) (A3 At At At At (A7 At At) (Au At At (A7 At At) (Au At At (Aw At) (Bm 17 At (fun g2 => ?_) (fun g2 => ?_))))))
    ·(try simp only [sd, se] at g2)
     exact A5 At At At At At (A5 At At At At At (Au At At (A7 At At) (Au At At (Ay At) (Az At ⟨At, At, AJ, AI, trivial⟩))))
    ·(try simp only [sd, se] at g2)
     exact A3 At At At At (Aw At) (A3 At At At At (BA At At At) (Au At At (A7 At At) (Au At At (Ay At) (Az At ⟨At, At, AJ, AI, trivial⟩))))
   ·(try simp only [sd, se] at g1)
    exact A5 At At At At At (A5 At At At At At (A3 At At At At (A7 At At) (Au At At (A7 At At) (Au At At (Aw At) (A3 At At At At (Aw At) (A3 At At At At (BA At At At) (Au At At (A7 At At) (Au At At (Ay At) (Az At ⟨At, At, AJ, AI, trivial⟩)))))))))
 rintro _ rfl
 refine BB (⟨At, _, _, ⟨_, _, At, At, At⟩, (List.nil_sublist _), ?_⟩)
 all_goals exact ⟨pB (by simp_all [M3]), rfl⟩
theorem XB : ∀ (s : ByteArray), (s.size < EC) → G9 Tryz.prog 98 [.p (.str s)] (fun v => ∃ b : Bool, v = .p (.bool b) ∧ (b = true → QK s)) := by
 intro s h1
 simp only [EC] at h1
 refine A8 Tryz.func98 At fG (n := 45) At At (Ax (Av (Au At At (Ay At) (Az At (Ax (Ax (CA [0] 12 (fun y => ∃ b : Bool, y = .p (.bool b) ∧ True) ?_ ?_)))))))
 ·refine Av (Au At At (Aw At) (Au At At (Fs At At) (Au At At (Aw At) (Bm 8 At (fun g => ?_) (fun g => ?_)))))
  ·(try simp only [sd, se] at g)
   exact A5 At At At At At (A5 At At At At At (A5 At At At At At (Au At At (A7 At At) (Az At (⟨At, At, AJ, ⟨_, At, trivial⟩, ⟨At, trivial⟩⟩)))))
  ·(try simp only [sd, se] at g)
   exact A3 At At At At (Aw At) (A3 At At At At (Gx Ys At) (A3 At At At At (BA At At At) (Au At At (A7 At At) (Az At (⟨At, At, AJ, ⟨_, At, trivial⟩, ⟨At, trivial⟩⟩)))))
 rintro _ ⟨q, rfl, hq⟩
 refine A9 At (fun c => ?_) (fun c => ?_)
 ·(try simp only [sd, se] at c)
  refine Ax (Av (Au At At (Ay At) (Az At (BB (⟨At, _, [], Bu At, List.nil_sublist _, ⟨⟨_, At, ?_⟩, At⟩⟩)))))
  exact fun h => absurd h As
 ·(try simp only [sd, se] at c)
  refine BC (Ax (Av (Au At At (Ay At) (Az At (Ax (Ax (Av (Au At At (Ay At) (Az At (Ba ?_))))))))))
  refine CM (α := Nat × Bool) (fun (i, f) => ⟨45, mk [(0, .p (.str s)), (3, .p (.bool f)), (4, .p (I (i : Int)))], [], []⟩) (fun (i, f) => s.size - i) (fun (i, f) => i ≤ s.size ∧ (∀ j, j < i → ∀ c, s.data.toList[j]? = some c → Iu c)) ⟨0, true⟩ (⟨by omega, fun j h => by omega⟩) ?_ ?_
  ·exact B8 ⟨we At, we At, we At, trivial⟩ (leH (is := []) At (D4))
  rintro ⟨i, f⟩ hC
  try simp only at hC
  obtain ⟨hi, hC⟩ := hC
  refine Ax (Ax (Av (Au At At (Aw At) (Au At At (Aw At) (Au At At (Gx Ys At) (Au At At (BA At At At) (Az At (A9 At (fun c1 => ?_) (fun c1 => ?_)))))))))
  ·(try simp only [sd, se] at c1)
   refine BC (Ax (Ba (Ax (Av (Au At At (Aw At) (Au At At (Aw At) ?_))))))
   obtain ⟨ch, hch⟩ : ∃ c, (s)[i]? = some c := ⟨_, getElem?_pos s i Ar⟩
   refine Au At At (Ol Ys At At Ar (by simpa using hch)) (Au At At (Ay At) (Az At (Ax (Ax (Av (Au At At (Aw At) (Az At (A9 At (fun c2 => ?_) (fun c2 => ?_)))))))))
   ·(try simp only [sd, se] at c2)
    refine Ax (Ax (Av (Au At At (Aw At) (Au At At (Bg At At (O2 ch.toNat) At) (Au At At (Cg At) (Az At (A9 At (fun c3 => ?_) (fun c3 => ?_))))))))
    ·(try simp only [sd, se] at c3)
     refine Ax (Av (Au At At (Ay At) (Az At (BB (⟨At, _, [], Bu At, List.nil_sublist _, ⟨⟨_, At, ?_⟩, At⟩⟩)))))
     exact fun h => absurd h As
    ·(try simp only [sd, se] at c3)
     refine BC (Ax (Av (Au At At (Ay At) (Az At (CL (Av (Au At At (Aw At) (Au At At (CS At At Ar Ar) (Au At At (Ay At) (Az At ?_))))))))))
     refine ⟨⟨i + 1, false⟩, AZ, ⟨by omega, ME hC hch (by first | exact hok | (simp only [Iu]; simp_all; done) | (simp only [Iu]; simp_all <;> omega))⟩, B8 ⟨we rfl, we rfl, we rfl, trivial⟩ (leH (is := []) rfl (D4))⟩
   ·(try simp only [sd, se] at c2)
    refine BC (Ax (Ax (Av (Au At At (Aw At) (Au At At (BA At At At) (Az At (A9 At (fun c3 => ?_) (fun c3 => ?_))))))))
    ·(try simp only [sd, se] at c3)
     refine Ax (Av (Au At At (Ay At) (Az At (CL (Av (Au At At (Aw At) (Au At At (CS At At Ar Ar) (Au At At (Ay At) (Az At ?_)))))))))
     refine ⟨⟨i + 1, true⟩, AZ, ⟨by omega, ME hC hch (by first | exact hok | (simp only [Iu]; simp_all; done) | (simp only [Iu]; simp_all <;> omega))⟩, B8 ⟨we rfl, we rfl, we rfl, trivial⟩ (leH (is := []) rfl (D4))⟩
    ·(try simp only [sd, se] at c3)
     refine BC (Ax (CA [0, 3, 4] 42 (fun y => ∃ b : Bool, y = .p (.bool b) ∧ (b = false → Iu ch)) ?_ ?_))
     ·refine Av (Au At At (Aw At) (Au At At (Bg At At (O2 ch.toNat) At) (Au At At (Cg At) (Au At At (Aw At) (Bm 31 At (fun g => ?_) (fun g => ?_))))))
      ·(try simp only [sd, se] at g)
       refine A3 At At At At (Aw At) (A3 At At At At (BA At At At) (Au At At (A7 At At) (Au At At (Aw At) (Bm 35 At (fun g1 => ?_) (fun g1 => ?_)))))
       ·(try simp only [sd, se] at g1)
        refine A3 At At At At (Aw At) (A3 At At At At (BA At At At) (A3 At At At At (Aw At) (Bm 38 At (fun g2 => ?_) (fun g2 => ?_))))
        ·(try simp only [sd, se] at g2)
         refine A5 At At At At At (A5 At At At At At (A3 At At At At (A7 At At) (Au At At (A7 At At) (Az At ?_))))
         exact ⟨rfl, rfl, AJ, (by refine ⟨_, rfl, fun h => ?_⟩; simp only [Iu]; first | (simp_all; done) | (simp_all <;> omega)), ⟨rfl, rfl, rfl, trivial⟩⟩
        ·(try simp only [sd, se] at g2)
         refine A3 At At At At (Aw At) (A3 At At At At (BA At At At) (A3 At At At At (A7 At At) (Au At At (A7 At At) (Az At ?_))))
         exact ⟨rfl, rfl, AJ, (by refine ⟨_, rfl, fun h => ?_⟩; simp only [Iu]; first | (simp_all; done) | (simp_all <;> omega)), ⟨rfl, rfl, rfl, trivial⟩⟩
       ·(try simp only [sd, se] at g1)
        refine A5 At At At At At (A5 At At At At At (A5 At At At At At (Cc At At At At (Cc At At At At (A5 At At At At At (Au At At (A7 At At) (Az At ?_)))))))
        exact ⟨rfl, rfl, AJ, (by refine ⟨_, rfl, fun h => ?_⟩; simp only [Iu]; first | (simp_all; done) | (simp_all <;> omega)), ⟨rfl, rfl, rfl, trivial⟩⟩
      ·(try simp only [sd, se] at g)
       refine A5 At At At At At (A5 At At At At At (Au At At (A7 At At) (Au At At (Aw At) (A5 At At At At At (A5 At At At At At (A5 At At At At At (Cc At At At At (Cc At At At At (A5 At At At At At (Au At At (A7 At At) (Az At ?_)))))))))))
       exact ⟨rfl, rfl, AJ, (by refine ⟨_, rfl, fun h => ?_⟩; simp only [Iu]; first | (simp_all; done) | (simp_all <;> omega)), ⟨rfl, rfl, rfl, trivial⟩⟩
     rintro _ ⟨r, rfl, hr⟩
     refine A9 At (fun c4 => ?_) (fun c4 => ?_)
     ·(try simp only [sd, se] at c4)
      refine Ax (Av (Au At At (Ay At) (Az At (BB (⟨At, _, [], Bu At, List.nil_sublist _, ⟨⟨_, At, ?_⟩, At⟩⟩)))))
      exact fun h => absurd h As
     ·(try simp only [sd, se] at c4)
      have hok := hr (by simpa using c4)
      refine BC (Av (Au At At (Aw At) (Au At At (CS At At Ar Ar) (Au At At (Ay At) (Az At ?_)))))
      refine ⟨⟨i + 1, f⟩, AZ, ⟨by omega, ME hC hch (by first | exact hok | (simp only [Iu]; simp_all; done) | (simp only [Iu]; simp_all <;> omega))⟩, B8 ⟨we rfl, we rfl, we rfl, trivial⟩ (leH (is := []) rfl (D4))⟩
  ·(try simp only [sd, se] at c1)
   refine CL (Ax (Av (Au At At (Aw At) (Au At At (Cg At) (Au At At (Ay At) (Az At (BB (⟨At, _, [], Bu At, List.nil_sublist _, ⟨⟨_, At, ?_⟩, At⟩⟩))))))))
   have e : i = s.size := by omega
   subst e
   exact fun _ => WK hC
end Go.Proofs.YtapmjpihennhaaaGreatDoor
namespace Go.Eu
open Go.Abs
structure GF where
 left : Tm
 right : Tm
 proof : Tm
 same : Bool
 deriving Inhabited
def CJ (e : GF) : List PV := Be e.left ++ (Be e.right ++ (Be e.proof ++ [.bool e.same]))
theorem J7 (e : GF) : (CJ e).length = 16 := by simp [CJ, Bj]
theorem TE (e : GF) : Dj 16 (CJ e) := GY (n := 5) (m := 11) (Iw _) (GY (n := 5) (m := 6) (Iw _) (GY (n := 5) (m := 1) (Iw _) (Ct As IW)))
theorem FP (l : List GF) : ∀ r ∈ l.map CJ, Dj 16 r := Fi TE l
theorem Cb (e : GF) : ((CJ e).map AV.p).all one = true := Fk (TE e)
def MP : ByteArray := ⟨#[69, 113, 46, 114, 101, 102, 108]⟩
def bB : ByteArray := ⟨#[69, 113, 46, 115, 121, 109, 109]⟩
def Yg : ByteArray := ⟨#[69, 113, 46, 116, 114, 97, 110, 115]⟩
def ZD : ByteArray := ⟨#[69, 113, 46, 99, 111, 110, 103, 114]⟩
def HO (n : ByteArray) (t : Tm) (l : List Tm) : Tm := apply (.mk 3 0 n [⟨0, []⟩] []) (t :: l)
def DO (th : BJ) : Tm := BS th.carrier []
def EJ (th : BJ) (to : Tm) : Tm := .mk 6 0 ⟨#[]⟩ [] [DO th, to]
def CW (th : BJ) (a b : Tm) : Tm := BS th.add [a, b]
def Ck (th : BJ) (a : Tm) : Tm := BS th.neg [a]
def DW (th : BJ) (t : Tm) : GF := ⟨t, t, HO MP (DO th) [t], true⟩
def Eh (th : BJ) (n : Int) (l r : Tm) (args : List Tm) : GF := ⟨l, r, BS (th.lemmas.getD n.toNat ⟨#[]⟩) args, false⟩
def GG (th : BJ) (e : GF) : GF := if e.same = true then e else ⟨e.right, e.left, HO bB (DO th) [e.left, e.right, e.proof], false⟩
def Kt (th : BJ) (o e : GF) : GF := if o.same = true then e else if e.same = true then o else ⟨o.left, e.right, HO Yg (DO th) [o.left, o.right, e.right, o.proof, e.proof], false⟩
def Cm (th : BJ) (o : GF) (l : List GF) : GF := l.foldl (Kt th) o
def GN (th : BJ) (to f g : Tm) (e : GF) (fs : Tm) : Tm := apply (.mk 3 0 ZD [⟨0, []⟩, ⟨0, []⟩] []) [DO th, to, f, g, e.left, e.right, fs, e.proof]
def DS (th : BJ) (f : Tm) (e : GF) : GF := if e.same = true then DW th (apply f [e.left]) else ⟨apply f [e.left], apply f [e.right], GN th (DO th) f f e (HO MP (EJ th (DO th)) [f]), false⟩
def FH (th : BJ) (a b : GF) : GF :=
 if a.same = true then DS th (BS th.add [a.left]) b
 else ⟨CW th a.left b.left, CW th a.right b.right, GN th (DO th) (BS th.add [a.left]) (BS th.add [a.right]) b (GN th (EJ th (DO th)) (BS th.add []) (BS th.add []) a (HO MP (EJ th (EJ th (DO th))) [BS th.add []])), false⟩
def Ce (th : BJ) (A : List Tm) (x : CY) : Tm := if x.minus = true then Ck th (A.getD x.place.toNat BZ) else A.getD x.place.toNat BZ
def Bc (th : BJ) (A : List Tm) : List CY → Tm
 | [] => BS th.zero []
 | x :: l => CW th (Ce th A x) (Bc th A l)
def Gn (th : BJ) (a b : Tm) : GF := Eh th 0 (CW th a b) (CW th b a) [a, b]
def D3 (th : BJ) (a b c : Tm) : GF := Eh th 1 (CW th (CW th a b) c) (CW th a (CW th b c)) [a, b, c]
def IV (th : BJ) (t : Tm) : GF := Eh th 2 (CW th (BS th.zero []) t) t [t]
def Sc (th : BJ) (a : Tm) : GF := Eh th 3 (CW th (Ck th a) a) (BS th.zero []) [a]
def HD (th : BJ) (A : List Tm) (x : CY) : GF :=
 if x.minus = true then Sc th (A.getD x.place.toNat BZ) else Cm th (Gn th (A.getD x.place.toNat BZ) (Ck th (A.getD x.place.toNat BZ))) [Sc th (A.getD x.place.toNat BZ)]
def Ci (th : BJ) (A : List Tm) (x : CY) : List CY → GF × List CY
 | [] => (DW th (CW th (Ce th A x) (Bc th A [])), [x])
 | y :: l =>
  if x.place < y.place ∨ (x.place = y.place ∧ x.minus = y.minus) then (DW th (CW th (Ce th A x) (Bc th A (y :: l))), x :: y :: l)
  else if x.place = y.place then (Cm th (GG th (D3 th (Ce th A x) (Ce th A y) (Bc th A l))) [FH th (HD th A x) (DW th (Bc th A l)), IV th (Bc th A l)], l)
  else (Cm th (GG th (D3 th (Ce th A x) (Ce th A y) (Bc th A l))) [FH th (Gn th (Ce th A x) (Ce th A y)) (DW th (Bc th A l)), D3 th (Ce th A y) (Ce th A x) (Bc th A l), DS th (BS th.add [Ce th A y]) (Ci th A x l).1], y :: (Ci th A x l).2)
def C6 (th : BJ) (A : List Tm) (b : List CY) : List CY → GF × List CY
 | [] => (IV th (Bc th A b), b)
 | x :: a => (Cm th (D3 th (Ce th A x) (Bc th A a) (Bc th A b)) [DS th (BS th.add [Ce th A x]) (C6 th A b a).1, (Ci th A x (C6 th A b a).2).1], (Ci th A x (C6 th A b a).2).2)
def IP (th : BJ) (A : List Tm) (x : CY) : GF :=
 if x.minus = true then Eh th 5 (Ck th (Ce th A x)) (A.getD x.place.toNat BZ) [A.getD x.place.toNat BZ] else DW th (Ck th (Ce th A x))
def Cz (th : BJ) (A : List Tm) : List CY → GF × List CY
 | [] => (Eh th 6 (Ck th (BS th.zero [])) (BS th.zero []) [], [])
 | x :: l => (Cm th (Eh th 4 (Ck th (CW th (Ce th A x) (Bc th A l))) (CW th (Ck th (Ce th A x)) (Ck th (Bc th A l))) [Ce th A x, Bc th A l]) [FH th (IP th A x) (Cz th A l).1], ⟨x.place, !x.minus⟩ :: (Cz th A l).2)
noncomputable def Bv (th : BJ) (A : List Tm) : Nat → Tm → GF × List CY
 | 0, t => (DW th t, [])
 | n + 1, t =>
  if (Cu th t).1 = 1 then
   (Cm th (FH th (Bv th A n ((Cu th t).2.getD 0 BZ)).1 (Bv th A n ((Cu th t).2.getD 1 BZ)).1) [(C6 th A (Bv th A n ((Cu th t).2.getD 1 BZ)).2 (Bv th A n ((Cu th t).2.getD 0 BZ)).2).1], (C6 th A (Bv th A n ((Cu th t).2.getD 1 BZ)).2 (Bv th A n ((Cu th t).2.getD 0 BZ)).2).2)
  else if (Cu th t).1 = 2 then (DW th t, [])
  else if (Cu th t).1 = 3 then
   (Cm th (DS th (BS th.neg []) (Bv th A n ((Cu th t).2.getD 0 BZ)).1) [(Cz th A (Bv th A n ((Cu th t).2.getD 0 BZ)).2).1], (Cz th A (Bv th A n ((Cu th t).2.getD 0 BZ)).2).2)
  else (Cm th (GG th (IV th t)) [Gn th (BS th.zero []) t], [⟨(Cl A t : Int), false⟩])
structure GP (th : BJ) : Prop where
 car : th.carrier.size < EC
 add : th.add.size < EC
 zero : th.zero.size < EC
 neg : th.neg.size < EC
 lem : ∀ s ∈ th.lemmas, s.size < EC
theorem GP.getD {th : BJ} (h : GP th) (n : Nat) : (th.lemmas.getD n ⟨#[]⟩).size < EC := by
 cases e : th.lemmas[n]? with
 | none => simp [List.getD, e]; decide
 | some s => simp [List.getD, e]; exact h.lem s (List.mem_of_getElem? e)
theorem F5 {n : ByteArray} {l : List Tm} (h : n.size < EC) (hl : Ic l) : Nd (BS n l) :=
 LS ⟨h, by decide, by simp, by decide, trivial, ⟨by decide, by decide⟩, ⟨by decide, by decide⟩⟩ hl
theorem DM {n : ByteArray} {l : List Tm} : size (BS n l) = 1 + B4 l + l.length := by simp [BS, Ip, size, B4]
theorem Sw : W8 ⟨0, []⟩ := ⟨by simp, ⟨by decide, by decide⟩, by simp⟩
theorem N7 {n : ByteArray} {t : Tm} {l : List Tm} (h : n.size < EC) (ht : Nd t) (hl : Ic l) : Nd (HO n t l) :=
 LS ⟨h, by decide, by simpa using Sw, by decide, trivial, ⟨by decide, by decide⟩, ⟨by decide, by decide⟩⟩ ⟨ht, hl⟩
theorem JB {n : ByteArray} {t : Tm} {l : List Tm} : size (HO n t l) = 2 + size t + B4 l + l.length := by simp [HO, Ip, size, B4]; omega
theorem H8 {th : BJ} (h : GP th) : Nd (DO th) := F5 h.car trivial
theorem Hp {th : BJ} : size (DO th) = 1 := by simp [DO, DM, B4]
theorem QA {th : BJ} (h : GP th) {t : Tm} (ht : Nd t) : Nd (EJ th t) := ⟨by decide, by decide, by simp, by simp [EC], ⟨H8 h, ht, trivial⟩, ⟨by decide, by decide⟩, ⟨by decide, by decide⟩⟩
theorem RJ {th : BJ} {t : Tm} : size (EJ th t) = 2 + size t := by simp [EJ, size, B4, Hp]; omega
theorem C2 {th : BJ} (h : GP th) {a b : Tm} (ha : Nd a) (hb : Nd b) : Nd (CW th a b) := F5 h.add ⟨ha, hb, trivial⟩
theorem EF {th : BJ} {a b : Tm} : size (CW th a b) = 3 + size a + size b := by simp [CW, DM, B4]; omega
theorem JK {th : BJ} (h : GP th) {a : Tm} (ha : Nd a) : Nd (Ck th a) := F5 h.neg ⟨ha, trivial⟩
theorem LQ {th : BJ} {a : Tm} : size (Ck th a) = 2 + size a := by simp [Ck, DM, B4]; omega
theorem FN {th : BJ} (h : GP th) : Nd (BS th.zero []) := F5 h.zero trivial
theorem IH {th : BJ} : size (BS th.zero []) = 1 := by simp [DM, B4]
theorem QQ {f t : Tm} (hf : Nd f) (ht : Nd t) : Nd (apply f [t]) := LS hf ⟨ht, trivial⟩
theorem Tf {f t : Tm} : size (apply f [t]) = size f + size t + 1 := by simp [Ip, B4]
theorem K1 {n : ByteArray} {l : List Tm} {t : Tm} : apply (BS n l) [t] = BS n (l ++ [t]) := by simp [BS, apply]
structure NP (e : GF) (lt rt : Tm) (B : Nat) : Prop where
 l : e.left = lt
 r : e.right = rt
 s : e.same = true → lt = rt
 nl : Nd lt
 nr : Nd rt
 nd : Nd e.proof
 sz : size e.proof ≤ B
theorem KX {th : BJ} (h : GP th) {t : Tm} (ht : Nd t) : NP (DW th t) t t (4 + size t) :=
 ⟨rfl, rfl, fun _ => rfl, ht, ht, N7 Aq (H8 h) ⟨ht, trivial⟩, by simp [DW, JB, B4, Hp]; omega⟩
theorem IM {th : BJ} (h : GP th) {n : Int} {l r : Tm} {args : List Tm} (hl : Nd l) (hr : Nd r) (ha : Ic args) : NP (Eh th n l r args) l r (1 + B4 args + args.length) :=
 ⟨rfl, rfl, (fun q => by cases q), hl, hr, F5 (h.getD _) ha, by simp [Eh, DM]⟩
theorem Uv {th : BJ} (h : GP th) {e : GF} {l r : Tm} {B : Nat} (he : NP e l r B) : NP (GG th e) r l (B + size l + size r + 6) := by
 unfold GG
 obtain ⟨h1, h2, h3, h4, h5, h6, h7⟩ := he
 split
 ·rename_i hs; have := h3 hs; subst this; exact ⟨h1, h2, fun _ => rfl, h5, h4, h6, by omega⟩
 ·subst h1 h2
  exact ⟨At, At, (fun q => by cases q), h5, h4, N7 Aq (H8 h) ⟨h4, h5, h6, trivial⟩, by simp only [JB, B4, Hp, List.length_cons, List.length_nil]; omega⟩
theorem El {th : BJ} (h : GP th) {e f : GF} {l m r : Tm} {B C : Nat} (he : NP e l m B) (hf : NP f m r C) : NP (Kt th e f) l r (B + C + size l + size m + size r + 8) := by
 unfold Kt
 obtain ⟨h1, h2, h3, h4, h5, h6, h7⟩ := he
 obtain ⟨g1, g2, g3, g4, g5, g6, g7⟩ := hf
 split
 ·rename_i hs; have := h3 hs; subst this; exact ⟨g1, g2, g3, g4, g5, g6, by omega⟩
 ·split
  ·rename_i hs; have := g3 hs; subst this; exact ⟨h1, h2, fun hh => h3 hh, h4, h5, h6, by omega⟩
  ·subst h1 h2 g2
   exact ⟨At, At, (fun q => by cases q), h4, g5, N7 Aq (H8 h) ⟨h4, h5, g5, h6, g6, trivial⟩, by simp only [JB, B4, Hp, List.length_cons, List.length_nil]; omega⟩
theorem NK {th : BJ} (h : GP th) {to f g fs : Tm} {e : GF} {l r : Tm} {B : Nat} (he : NP e l r B) (ht : Nd to) (hf : Nd f) (hg : Nd g) (hs : Nd fs) : Nd (GN th to f g e fs) := by
 obtain ⟨h1, h2, h3, h4, h5, h6, h7⟩ := he
 subst h1 h2
 exact LS ⟨by decide, by decide, by simpa using Sw, by decide, trivial, ⟨by decide, by decide⟩, ⟨by decide, by decide⟩⟩ ⟨H8 h, ht, hf, hg, h4, h5, hs, h6, trivial⟩
theorem Ku {th : BJ} {to f g fs : Tm} {e : GF} {l r : Tm} {B : Nat} (he : NP e l r B) : size (GN th to f g e fs) ≤ 10 + size to + size f + size g + size l + size r + size fs + B := by
 obtain ⟨h1, h2, h3, h4, h5, h6, h7⟩ := he
 subst h1 h2
 simp only [GN, Ip, size, B4, Hp, List.length_cons, List.length_nil]
 omega
theorem Mt {th : BJ} (h : GP th) {f : Tm} (hf : Nd f) {e : GF} {l r : Tm} {B : Nat} (he : NP e l r B) : NP (DS th f e) (apply f [l]) (apply f [r]) (B + 3 * size f + size l + size r + 20) := by
 unfold DS
 split
 ·rename_i hs
  have hr := KX h (QQ hf he.nl)
  obtain ⟨h1, h2, h3, h4, h5, h6, h7⟩ := he
  have := h3 hs
  subst this
  rw [h1]
  exact ⟨hr.l, hr.r, fun _ => At, hr.nl, hr.nr, hr.nd, by have := hr.sz; rw [Tf] at this; omega⟩
 ·have hc := NK h he (H8 h) hf hf (N7 (n := MP) (l := [f]) Aq (QA h (H8 h)) ⟨hf, trivial⟩)
  have hz := Ku (th := th) (to := DO th) (f := f) (g := f) (fs := HO MP (EJ th (DO th)) [f]) he
  simp only [JB, RJ, Hp, B4, List.length_cons, List.length_nil] at hz
  exact ⟨by rw [← he.l], by rw [← he.r], (fun q => by cases q), QQ hf he.nl, QQ hf he.nr, hc, by simp only; omega⟩
theorem Sx {th : BJ} (h : GP th) {a b : GF} {l r l' r' : Tm} {B C : Nat} (ha : NP a l r B) (hb : NP b l' r' C) : NP (FH th a b) (CW th l l') (CW th r r') (B + C + 3 * size l + 3 * size r + size l' + size r' + 60) := by
 unfold FH
 split
 ·rename_i hs
  have := ha.s hs
  subst this
  have hu := Mt h (f := BS th.add [l]) (F5 h.add ⟨ha.nl, trivial⟩) hb
  simp only [K1, List.cons_append, List.nil_append] at hu
  rw [ha.l]
  exact ⟨hu.l, hu.r, hu.s, hu.nl, hu.nr, hu.nd, by have := hu.sz; simp only [DM, B4, List.length_cons, List.length_nil] at this; omega⟩
 ·have hp : Nd (BS th.add []) := F5 h.add trivial
  have hin := NK h ha (QA h (H8 h)) hp hp (N7 (n := MP) (l := [BS th.add []]) Aq (QA h (QA h (H8 h))) ⟨hp, trivial⟩)
  have hin2 := Ku (th := th) (to := EJ th (DO th)) (f := BS th.add []) (g := BS th.add []) (fs := HO MP (EJ th (EJ th (DO th))) [BS th.add []]) ha
  have hl : Nd (BS th.add [l]) := F5 h.add ⟨ha.nl, trivial⟩
  have hr : Nd (BS th.add [r]) := F5 h.add ⟨ha.nr, trivial⟩
  have hc := NK h hb (H8 h) hl hr hin
  have hz := Ku (th := th) (to := DO th) (f := BS th.add [l]) (g := BS th.add [r]) (fs := GN th (EJ th (DO th)) (BS th.add []) (BS th.add []) a (HO MP (EJ th (EJ th (DO th))) [BS th.add []])) hb
  simp only [JB, RJ, Hp, DM, B4, List.length_cons, List.length_nil] at hz hin2
  rw [ha.l, ha.r]
  exact ⟨by rw [← hb.l], by rw [← hb.r], (fun q => by cases q), C2 h ha.nl hb.nl, C2 h ha.nr hb.nr, hc, by simp only; omega⟩
theorem NP.up {e : GF} {l r : Tm} {B C : Nat} (h : NP e l r B) (hb : B ≤ C) : NP e l r C := ⟨h.l, h.r, h.s, h.nl, h.nr, h.nd, Nat.le_trans h.sz hb⟩
structure WQ (A : List Tm) : Prop where
 nd : Ic A
 sz : ∀ t ∈ A, size t ≤ 4096
theorem WQ.get {A : List Tm} (h : WQ A) (i : Nat) : Nd (A.getD i BZ) ∧ size (A.getD i BZ) ≤ 4096 := by
 cases e : A[i]? with
 | none => simp [List.getD, e]; exact ⟨⟨by decide, by decide, by simp, by decide, trivial, ⟨by decide, by decide⟩, ⟨by decide, by decide⟩⟩, by simp [BZ, size, B4]⟩
 | some t => simp [List.getD, e]; exact ⟨DY h.nd e, h.sz t (List.mem_of_getElem? e)⟩
theorem _root_.Go.AX {α : Prop} (h : α := by simp only [List.length_cons]; omega) : α := h
section
variable {th : BJ} {A : List Tm} (h : GP th) (hA : WQ A)
include h hA
theorem Jc (x : CY) : Nd (Ce th A x) ∧ size (Ce th A x) ≤ 4098 := by
 have := hA.get x.place.toNat
 unfold Ce
 split
 ·exact ⟨JK h this.1, by rw [LQ]; omega⟩
 ·exact ⟨this.1, by omega⟩
theorem Dt : ∀ l : List CY, Nd (Bc th A l) ∧ size (Bc th A l) ≤ 1 + 4101 * l.length
 | [] => ⟨FN h, by simp [Bc, IH]⟩
 | x :: l => by
  have h1 := Dt l
  have h2 := Jc h hA x
  exact ⟨C2 h h2.1 h1.1, by simp only [Bc, EF, List.length_cons]; omega⟩
theorem US (x : CY) : NP (HD th A x) (CW th (Ce th A x) (Ce th A ⟨x.place, !x.minus⟩)) (BS th.zero []) 100000 := by
 obtain ⟨p, m⟩ := x
 have ha := hA.get p.toNat
 have hn := JK h ha.1
 have hc := IM h (n := 3) (C2 h hn ha.1) (FN h) (args := [A.getD p.toNat BZ]) ⟨ha.1, trivial⟩
 simp only [B4, List.length_cons, List.length_nil] at hc
 cases m
 ·have hq := IM h (n := 0) (C2 h ha.1 hn) (C2 h hn ha.1) (args := [A.getD p.toNat BZ, Ck th (A.getD p.toNat BZ)]) ⟨ha.1, hn, trivial⟩
  have := El h hq hc
  simp only [B4, List.length_cons, List.length_nil, EF, LQ, IH] at this
  exact this.up Ar
 ·exact hc.up Ar
theorem Q2 (x : CY) : ∀ l : List CY, l.length ≤ 61 → NP (Ci th A x l).1 (CW th (Ce th A x) (Bc th A l)) (Bc th A (Ci th A x l).2) (10000000 * (l.length + 1)) ∧ (Ci th A x l).2.length ≤ l.length + 1
 | [], _ => by
  have hx := Jc h hA x
  have hp := C2 h hx.1 (FN h)
  have := KX h hp
  simp only [EF, IH] at this
  exact ⟨this.up Am, by simp [Ci]⟩
 | y :: l, hl => by
  simp only [List.length_cons] at hl
  have hx := Jc h hA x
  have hy := Jc h hA y
  have ht := Dt h hA l
  have hw := Dt h hA (y :: l)
  unfold Ci
  split
  ·have := KX h (C2 h hx.1 hw.1)
   simp only [EF, List.length_cons] at this hw
   exact ⟨this.up AX, by simp⟩
  ·have h1 := Uv h (IM h (n := 1) (C2 h (C2 h hx.1 hy.1) ht.1) (C2 h hx.1 (C2 h hy.1 ht.1)) (args := [Ce th A x, Ce th A y, Bc th A l]) ⟨hx.1, hy.1, ht.1, trivial⟩)
   simp only [B4, List.length_cons, List.length_nil, EF] at h1
   split
   ·rename_i h2 h3
    have hxy : Ce th A ⟨x.place, !x.minus⟩ = Ce th A y := by
     obtain ⟨px, mx⟩ := x
     obtain ⟨py, my⟩ := y
     simp only at h3 h2 ⊢
     subst h3
     cases mx <;> cases my <;> simp_all
    have h4 := Sx h (US h hA x) (KX h ht.1)
    rw [hxy] at h4
    have h5 := IM h (n := 2) (C2 h (FN h) ht.1) ht.1 (args := [Bc th A l]) ⟨ht.1, trivial⟩
    have := El h (El h h1 h4) h5
    simp only [B4, List.length_cons, List.length_nil, EF, IH] at this
    exact ⟨this.up AX, by simp; omega⟩
   ·have hi := Q2 x l Ar
    have hti := Dt h hA (Ci th A x l).2
    have h4 := Sx h (IM h (n := 0) (C2 h hx.1 hy.1) (C2 h hy.1 hx.1) (args := [Ce th A x, Ce th A y]) ⟨hx.1, hy.1, trivial⟩) (KX h ht.1)
    have h5 := IM h (n := 1) (C2 h (C2 h hy.1 hx.1) ht.1) (C2 h hy.1 (C2 h hx.1 ht.1)) (args := [Ce th A y, Ce th A x, Bc th A l]) ⟨hy.1, hx.1, ht.1, trivial⟩
    have h6 := Mt h (f := BS th.add [Ce th A y]) (F5 h.add ⟨hy.1, trivial⟩) hi.1
    simp only [K1, List.cons_append, List.nil_append] at h6
    have := El h (El h (El h h1 h4) h5) h6
    have hi2 := hi.2
    simp only [B4, List.length_cons, List.length_nil, EF, DM] at this
    exact ⟨this.up AX, by simp; omega⟩
theorem TN (b : List CY) : ∀ a : List CY, a.length + b.length ≤ 61 → NP (C6 th A b a).1 (CW th (Bc th A a) (Bc th A b)) (Bc th A (C6 th A b a).2) (700000000 * (a.length + 1)) ∧ (C6 th A b a).2.length ≤ a.length + b.length
 | [], hl => by
  have hb := Dt h hA b
  have := IM h (n := 2) (C2 h (FN h) hb.1) hb.1 (args := [Bc th A b]) ⟨hb.1, trivial⟩
  simp only [B4, List.length_cons, List.length_nil] at this hl
  exact ⟨this.up (by simp only [List.length_nil]; omega), by simp [C6]⟩
 | x :: a, hl => by
  simp only [List.length_cons] at hl
  have hm := TN b a Ar
  have hi := Q2 h hA x (C6 th A b a).2 Ar
  have hx := Jc h hA x
  have ha := Dt h hA a
  have hb := Dt h hA b
  have hr := Dt h hA (C6 th A b a).2
  have ho := Dt h hA (Ci th A x (C6 th A b a).2).2
  have h1 := IM h (n := 1) (C2 h (C2 h hx.1 ha.1) hb.1) (C2 h hx.1 (C2 h ha.1 hb.1)) (args := [Ce th A x, Bc th A a, Bc th A b]) ⟨hx.1, ha.1, hb.1, trivial⟩
  have h2 := Mt h (f := BS th.add [Ce th A x]) (F5 h.add ⟨hx.1, trivial⟩) hm.1
  simp only [K1, List.cons_append, List.nil_append] at h2
  have := El h (El h h1 h2) hi.1
  have hm2 := hm.2
  have hi2 := hi.2
  simp only [B4, List.length_cons, List.length_nil, EF, DM] at this
  exact ⟨this.up AX, by simp only [C6, List.length_cons]; omega⟩
theorem Rt (x : CY) : NP (IP th A x) (Ck th (Ce th A x)) (Ce th A ⟨x.place, !x.minus⟩) 10000 := by
 obtain ⟨p, m⟩ := x
 have ha := hA.get p.toNat
 have hx := Jc h hA ⟨p, m⟩
 cases m
 ·have := KX h (JK h hx.1)
  rw [LQ] at this
  exact this.up Ar
 ·have := IM h (n := 5) (JK h hx.1) ha.1 (args := [A.getD p.toNat BZ]) ⟨ha.1, trivial⟩
  simp only [B4, List.length_cons, List.length_nil] at this
  exact this.up Ar
theorem QY : ∀ l : List CY, l.length ≤ 61 → NP (Cz th A l).1 (Ck th (Bc th A l)) (Bc th A (Cz th A l).2) (10000000 * (l.length + 1)) ∧ (Cz th A l).2.length = l.length
 | [], hl => by
  have := IM h (n := 6) (JK h (FN h)) (FN h) (args := []) trivial
  simp only [B4, List.length_nil] at this
  exact ⟨this.up As, At⟩
 | x :: l, hl => by
  simp only [List.length_cons] at hl
  have hn := QY l Ar
  have hx := Jc h hA x
  have hl1 := Dt h hA l
  have hy := Jc h hA ⟨x.place, !x.minus⟩
  have ho := Dt h hA (Cz th A l).2
  have h1 := IM h (n := 4) (JK h (C2 h hx.1 hl1.1)) (C2 h (JK h hx.1) (JK h hl1.1)) (args := [Ce th A x, Bc th A l]) ⟨hx.1, hl1.1, trivial⟩
  have := El h h1 (Sx h (Rt h hA x) hn.1)
  have hn2 := hn.2
  simp only [B4, List.length_cons, List.length_nil, EF, LQ] at this
  exact ⟨this.up AX, by simp [Cz, hn2]⟩
end
mutual
def Cn : Tm → Prop
 | .mk k i n l ks => ((k ≠ 0 → k ≠ 12 → i = 0) ∧ (k ≠ 3 → n = ⟨#[]⟩) ∧ (k ≠ 2 → k ≠ 3 → l = []) ∧ (ks.length : Int) = arity k) ∧ WZ ks
def WZ : List Tm → Prop
 | [] => True
 | t :: ts => Cn t ∧ WZ ts
end
theorem WT : ∀ {ks : List Tm}, (∀ (j : Nat) (t : Tm), ks[j]? = some t → Cn t) → WZ ks
 | [], _ => trivial
 | t :: ts, h => ⟨h 0 t rfl, WT fun j t' ht => h (j + 1) t' (by simpa using ht)⟩
theorem QR : ∀ {ks : List Tm} {t : Tm}, WZ ks → t ∈ ks → Cn t
 | [], t, _, h => by simp at h
 | a :: ts, t, hn, h => by
  rcases List.mem_cons.1 h with rfl | h
  ·exact hn.1
  ·exact QR hn.2 h
theorem M8 : ∀ {a b : List Tm}, WZ (a ++ b) ↔ WZ a ∧ WZ b
 | [], b => by simp [WZ]
 | x :: a, b => by simp only [List.cons_append, WZ, M8 (a := a), and_assoc]
theorem JU : ∀ (t : Tm), Cn t → Cn (Bq t).1 ∧ WZ (Bq t).2 ∧ apply (Bq t).1 (Bq t).2 = t
 | .mk k i n l [f, a], h => by
  unfold Bq
  split
  ·rename_i hk
   obtain ⟨h1, h2, h3⟩ := JU f h.2.1
   obtain ⟨e1, e2, e3, _⟩ := h.1
   subst hk
   refine ⟨h1, M8.2 ⟨h2, h.2.2.1, trivial⟩, ?_⟩
   simp only
   rw [← Ts, h3, e1 Aq Aq, e2 Aq, e3 Aq Aq]
   rfl
  ·exact ⟨h, trivial, At⟩
 | .mk k i n l [], h => by unfold Bq; exact ⟨h, trivial, rfl⟩
 | .mk k i n l [a], h => by unfold Bq; exact ⟨h, trivial, rfl⟩
 | .mk k i n l (a :: b :: c :: r), h => by unfold Bq; exact ⟨h, trivial, rfl⟩
mutual
theorem O4 : ∀ (t : Tm), My t → Of (Bq t).2
 | .mk k i n l [f, a], h => by
  unfold Bq
  split
  ·exact RP (O4 f h.2.1) h.2.2
  ·trivial
 | .mk k i n l [], h => by unfold Bq; trivial
 | .mk k i n l [a], h => by unfold Bq; trivial
 | .mk k i n l (a :: b :: c :: r), h => by unfold Bq; trivial
theorem RP : ∀ {a b : List Tm}, Of a → Of b → Of (a ++ b)
 | [], b, _, h => h
 | x :: a, b, h, h' => ⟨h.1, RP h.2 h'⟩
end
theorem OA : ∀ {ks : List Tm} {t : Tm}, Of ks → t ∈ ks → My t
 | [], t, _, h => by simp at h
 | a :: ts, t, hn, h => by
  rcases List.mem_cons.1 h with rfl | h
  ·exact hn.1
  ·exact OA hn.2 h
theorem Ou {a b : ByteArray} (h : a.toList = b.toList) : a = b := by
 rw [EH, EH] at h
 obtain ⟨⟨x⟩⟩ := a
 obtain ⟨⟨y⟩⟩ := b
 simp only at h
 rw [h]
theorem MC {t : Tm} {n : ByteArray} (hc : Cn t) (h : DN t n = true) : t = .mk 3 0 n [] [] := by
 obtain ⟨k, i, m, l, ks⟩ := t
 simp only [DN, Tm.kind, Tm.name, Tm.levels, Bool.and_eq_true, beq_iff_eq] at h
 obtain ⟨⟨rfl, h2⟩, h3⟩ := h
 obtain ⟨⟨e1, _, _, e4⟩, _⟩ := hc
 have e5 := Ou h2
 rw [e1 Aq Aq, e5, List.length_eq_zero_iff.1 (by omega : l.length = 0), List.length_eq_zero_iff.1 (by have : arity 3 = 0 := rfl; omega : ks.length = 0)]
theorem Ul {th : BJ} {t : Tm} (hc : Cn t) (h : (Cu th t).1 = 1) : t = CW th ((Cu th t).2.getD 0 BZ) ((Cu th t).2.getD 1 BZ) := by
 obtain ⟨h1, h2, h3⟩ := JU t hc
 have hl := Gc.1 h
 rw [Gt (by rw [h]; decide) (by rw [h]; decide)] at hl ⊢
 unfold Cu at h
 split at h
 ·rename_i hn
  simp only [Bool.and_eq_true] at hn
  rw [MC h1 hn.1] at h3
  match hs : (Bq t).2, hl with
  | [a, b], _ => rw [hs] at h3; exact h3.symm
 ·split at h
  ·exact absurd h As
  ·split at h
   ·exact absurd h As
   ·exact absurd h As
theorem ZL {th : BJ} {t : Tm} (hc : Cn t) (h : (Cu th t).1 = 3) : t = Ck th ((Cu th t).2.getD 0 BZ) := by
 obtain ⟨h1, h2, h3⟩ := JU t hc
 have hl := Gc.2 h
 rw [Gt (by rw [h]; decide) (by rw [h]; decide)] at hl ⊢
 unfold Cu at h
 split at h
 ·exact absurd h As
 ·split at h
  ·exact absurd h As
  ·split at h
   ·rename_i hn
    simp only [Bool.and_eq_true] at hn
    rw [MC h1 hn.1] at h3
    match hs : (Bq t).2, hl with
    | [a], _ => rw [hs] at h3; exact h3.symm
   ·exact absurd h As
theorem Xm {th : BJ} {t : Tm} (hc : Cn t) (h : (Cu th t).1 = 2) : t = BS th.zero [] := by
 obtain ⟨h1, h2, h3⟩ := JU t hc
 unfold Cu at h
 split at h
 ·exact absurd h As
 ·split at h
  ·rename_i hn
   simp only [Bool.and_eq_true, beq_iff_eq] at hn
   rw [MC h1 hn.1, List.length_eq_zero_iff.1 (by omega : (Bq t).2.length = 0)] at h3
   exact h3.symm
  ·split at h
   ·exact absurd h As
   ·exact absurd h As
theorem Sb (th : BJ) (t : Tm) : (Cu th t).1 = 0 ∨ (Cu th t).1 = 1 ∨ (Cu th t).1 = 2 ∨ (Cu th t).1 = 3 := by
 unfold Cu
 split
 ·simp
 ·split
  ·simp
  ·split <;> simp
theorem TB : ∀ {a b : List Tm}, Rg a → Rg b → Rg (a ++ b)
 | [], b, _, h => h
 | x :: a, b, h, h' => ⟨h.1, TB h.2 h'⟩
theorem Qy : ∀ (t : Tm), Fw t → Rg (Bq t).2
 | .mk k i n l [f, a], h => by
  unfold Bq
  split
  ·exact TB (Qy f h.2.2.2.1) h.2.2.2.2
  ·trivial
 | .mk k i n l [], h => by unfold Bq; trivial
 | .mk k i n l [a], h => by unfold Bq; trivial
 | .mk k i n l (a :: b :: c :: r), h => by unfold Bq; trivial
structure ER (t : Tm) : Prop where
 cn : Cn t
 nd : Nd t
 nq : My t
 fw : Fw t
theorem ER.arg {t : Tm} (h : ER t) {i : Nat} {x : Tm} (hx : (Bq t).2[i]? = some x) : ER x ∧ size x < size t := by
 obtain ⟨h1, h2, h3⟩ := JU t h.cn
 refine ⟨⟨QR h2 (List.mem_of_getElem? hx), DY (OR t h.nd).2 hx, OA (O4 t h.nq) (List.mem_of_getElem? hx), M1 (Qy t h.fw) (List.mem_of_getElem? hx)⟩, ?_⟩
 have := Ew t
 have := DE hx
 have := size_pos (Bq t).1
 omega
theorem ER.op {th : BJ} {t : Tm} (h : ER t) : ((Cu th t).1 = 1 → ER ((Cu th t).2.getD 0 BZ) ∧ ER ((Cu th t).2.getD 1 BZ) ∧ size ((Cu th t).2.getD 0 BZ) + size ((Cu th t).2.getD 1 BZ) < size t) ∧ ((Cu th t).1 = 3 → ER ((Cu th t).2.getD 0 BZ) ∧ size ((Cu th t).2.getD 0 BZ) < size t) := by
 constructor
 ·intro ho
  have hl := Gc.1 ho
  have hp := Ul h.cn ho
  rw [Gt (by rw [ho]; decide) (by rw [ho]; decide)] at hl hp ⊢
  have hz := congrArg size hp
  rw [EF] at hz
  match hs : (Bq t).2, hl with
  | [a, b], _ =>
   rw [hs] at hz
   exact ⟨(h.arg (i := 0) (by rw [hs]; rfl)).1, (h.arg (i := 1) (by rw [hs]; rfl)).1, by omega⟩
 ·intro ho
  have hl := Gc.2 ho
  rw [Gt (by rw [ho]; decide) (by rw [ho]; decide)] at hl ⊢
  match hs : (Bq t).2, hl with
  | [a], _ => exact h.arg (i := 0) (by rw [hs]; rfl)
noncomputable def Cd (th : BJ) : Nat → Tm → List Tm
 | 0, _ => []
 | n + 1, t =>
  if (Cu th t).1 = 1 then Cd th n ((Cu th t).2.getD 0 BZ) ++ Cd th n ((Cu th t).2.getD 1 BZ)
  else if (Cu th t).1 = 2 then []
  else if (Cu th t).1 = 3 then Cd th n ((Cu th t).2.getD 0 BZ)
  else [t]
theorem Da {l : List Tm} {t : Tm} (h : t ∈ l) : Cl l t < l.length ∧ l.getD (Cl l t) BZ = t := by
 have h1 : Cl l t < l.length := List.findIdx_lt_length.2 ⟨t, h, by simp [F9]⟩
 refine ⟨h1, ?_⟩
 have := List.findIdx_getElem (w := h1)
 rw [F9] at this
 unfold Cl at h1 ⊢
 simp [List.getD, List.getElem?_eq_getElem h1, this]
theorem K4 {th : BJ} {A : List Tm} (h : GP th) (hA : WQ A) : ∀ (n : Nat) (t : Tm), size t ≤ n → ER t → size t ≤ 4096 → (Cd th n t).length ≤ 61 → (∀ a ∈ Cd th n t, a ∈ A) → NP (Bv th A n t).1 t (Bc th A (Bv th A n t).2) (50000000000 * size t) ∧ (Bv th A n t).2.length ≤ (Cd th n t).length
 | 0, t, hn, _, _, _, _ => by have := size_pos t; omega
 | n + 1, t, hn, ht, hs, hl, ha => by
  have hpos := size_pos t
  unfold Bv
  unfold Cd at hl ha ⊢
  rcases Sb th t with ho | ho | ho | ho
  ·simp only [ho, show ((0 : Int) = 1) = False by decide, show ((0 : Int) = 2) = False by decide, show ((0 : Int) = 3) = False by decide, if_false] at hl ha ⊢
   have hm := Da (ha t As)
   have h1 := Uv h (IM h (n := 2) (C2 h (FN h) ht.nd) ht.nd (args := [t]) ⟨ht.nd, trivial⟩)
   have h2 := IM h (n := 0) (C2 h (FN h) ht.nd) (C2 h ht.nd (FN h)) (args := [BS th.zero [], t]) ⟨FN h, ht.nd, trivial⟩
   have := El h h1 h2
   simp only [B4, List.length_cons, List.length_nil, EF, IH] at this
   refine ⟨?_, by simp⟩
   have e : Bc th A [⟨(Cl A t : Int), false⟩] = CW th t (BS th.zero []) := by
    show CW th (if false = true then _ else A.getD ((Cl A t : Int)).toNat BZ) _ = _
    rw [if_neg Aq, Int.toNat_natCast, hm.2]
    rfl
   rw [e]
   exact this.up Ar
  ·simp only [ho, if_true] at hl ha ⊢
   obtain ⟨t1, t2, hsz⟩ := ht.op.1 ho
   have hp := Ul ht.cn ho
   generalize (Cu th t).2.getD 0 BZ = x at *
   generalize (Cu th t).2.getD 1 BZ = y at *
   simp only [List.length_append] at hl
   obtain ⟨p1, q1⟩ := K4 h hA n x Ar t1 Ar Ar (fun a hm => ha a (by simp [hm]))
   obtain ⟨p2, q2⟩ := K4 h hA n y Ar t2 Ar Ar (fun a hm => ha a (by simp [hm]))
   obtain ⟨p3, q3⟩ := TN h hA (Bv th A n y).2 (Bv th A n x).2 Ar
   have := El h (Sx h p1 p2) p3
   rw [← hp] at this
   have o1 := Dt h hA (Bv th A n x).2
   have o2 := Dt h hA (Bv th A n y).2
   have o3 := Dt h hA (C6 th A (Bv th A n y).2 (Bv th A n x).2).2
   simp only [EF] at this
   exact ⟨this.up Ar, by simp only [List.length_append]; omega⟩
  ·simp only [ho, show ((2 : Int) = 1) = False by decide, if_false, if_true] at hl ha ⊢
   have := KX h ht.nd
   have e := Xm ht.cn ho
   refine ⟨?_, by simp⟩
   simp only [Bc]
   rw [← e]
   exact this.up Ar
  ·simp only [ho, show ((3 : Int) = 1) = False by decide, show ((3 : Int) = 2) = False by decide, if_false, if_true] at hl ha ⊢
   obtain ⟨t1, hsz⟩ := ht.op.2 ho
   have hp := ZL ht.cn ho
   generalize (Cu th t).2.getD 0 BZ = x at *
   obtain ⟨p1, q1⟩ := K4 h hA n x Ar t1 Ar Ar (fun a hm => ha a hm)
   obtain ⟨p3, q3⟩ := QY h hA (Bv th A n x).2 Ar
   have h2 := Mt h (f := BS th.neg []) (F5 h.neg trivial) p1
   simp only [K1, List.nil_append] at h2
   have := El h h2 p3
   rw [show BS th.neg [x] = t from hp.symm] at this
   have o1 := Dt h hA (Bv th A n x).2
   have o3 := Dt h hA (Cz th A (Bv th A n x).2).2
   simp only [DM, B4, List.length_cons, List.length_nil] at this
   exact ⟨this.up Ar, by omega⟩
end Go.Eu
namespace Go.Proofs.YtapmjpihennhaaaGreatDoor
open Go.Abs Go.Eu
theorem W2 : ∀ (t : Tm), G9 Tryz.prog 97 [.agg ((Be t).map .p)] (fun v => ∃ b : Bool, v = .p (.bool b) ∧ (b = true → SG t ∧ (t.kind ≠ 3 → t.name.toList = []) ∧ (t.kind ≠ 0 → t.kind ≠ 12 → t.index = 0) ∧ (t.kind ≠ 2 → t.kind ≠ 3 → t.levels = []))) := by
 intro t
 obtain ⟨tk, ti, tn, tl, ts⟩ := t
 refine A8 Tryz.func97 At eo (n := 57) At At (Ax (Av (BM At At (Bh At) fun b1 => Au At At (Ay At) (Az At (Ax (Ax (CA [1] 19 (fun y => y = .p (.bool (decide (tk < 0) || decide (tk ≥ 13) || (ts.length : Int) != arity tk))) ?_ ?_)))))))
 ·refine CQ (fun k => false) D0 (A4 At At (fun _ => A1 CX At At) trivial (BQ (j := 0) At At At (fun H i hi => A2 (i := i) De At hi At) AA trivial (A4 At At (fun _ => BA At At At) trivial (A4 At At (fun _ => Aw At) trivial (I0 6 At (fun g => ?_) (fun g => ?_))))))
  ·(try simp only [sd, se] at g)
   refine CN At At At At At trivial (CN At At At At At trivial (CN At At At At At trivial (A4 At At (fun _ => A7 At At) trivial (A4 At At (fun _ => Aw At) trivial (CN At At At At At trivial (CN At At At At At trivial (CN At At At At At trivial (CN At At At At At trivial (CN At At At At At trivial (CN At At At At At trivial (CN At At At At At trivial ?_)))))))))))
   exact A4 At At (fun _ => A7 At At) trivial (CK At An (⟨At, At, AJ, (by refine pB ?_; first | (simp_all; done) | (rw [decide_eq_false (by omega : ¬ tk < 0), decide_eq_false (by omega : ¬ tk ≥ 13)]; simp [Bo]; done)), ⟨At, trivial⟩⟩))
  ·(try simp only [sd, se] at g)
   refine CB At At At At (fun _ => A1 CX At At) trivial (C5 (i := 0) At At At At At (fun H i hi => A2 (i := i) De At hi At) AA trivial (CB At At At At (fun _ => BA At At At) trivial (A4 At At (fun _ => A7 At At) trivial (A4 At At (fun _ => Aw At) trivial (I0 11 At (fun g1 => ?_) (fun g1 => ?_))))))
   ·(try simp only [sd, se] at g1)
    exact CN At At At At At trivial (CN At At At At At trivial (CN At At At At At trivial (CN At At At At At trivial (CN At At At At At trivial (CN At At At At At trivial (CN At At At At At trivial (A4 At At (fun _ => A7 At At) trivial (CK At An (⟨At, At, AJ, (by refine pB ?_; first | (simp_all; done) | (rw [decide_eq_false (by omega : ¬ tk < 0), decide_eq_false (by omega : ¬ tk ≥ 13)]; simp [Bo]; done)), ⟨At, trivial⟩⟩)))))))))
   ·(try simp only [sd, se] at g1)
    exact CB At At At At (fun _ => A1 CX At At) trivial (C5 (i := 0) At At At At At (fun H i hi => A2 (i := i) DQ At hi At) AA trivial (CB At At At At (fun _ => Bp By At (Bo _)) trivial (CB At At At At (fun _ => A1 CX At At) trivial (C5 (i := 0) At At At At At (fun H i hi => A2 (i := i) De At hi At) AA trivial (CB At At At At (fun _ => Bg At At (ZV tk) At) trivial (CB At At At At (fun _ => BA At At At) trivial (A4 At At (fun _ => A7 At At) trivial (CK At An (⟨At, At, AJ, (by refine pB ?_; first | (simp_all; done) | (rw [decide_eq_false (by omega : ¬ tk < 0), decide_eq_false (by omega : ¬ tk ≥ 13)]; simp [Bo]; done)), ⟨At, trivial⟩⟩)))))))))
 rintro _ rfl
 refine A9 At (fun c => ?_) (fun c => ?_)
 ·(try simp only [sd, se] at c)
  refine Ax (Av (Au At At (Ay At) (Az At (BB (⟨At, _, [], Bu At, List.nil_sublist _, ⟨⟨_, At, ?_⟩, At⟩⟩)))))
  exact fun h => absurd h As
 ·(try simp only [sd, se] at c)
  have hf : SG (.mk tk ti tn tl ts) := by simp only [SG]; omega
  refine BC (Ax (Ax (CA [1] 32 (fun y => ∃ b : Bool, y = .p (.bool b) ∧ (b = false → tk ≠ 0 → tk ≠ 12 → ti = 0)) ?_ ?_)))
  ·refine Av (Au At At (A1 CX At At) (Au At At (A2 (i := 0) De At At At) (Au At At (BA At At At) (Au At At (Aw At) (Bm 23 At (fun g => ?_) (fun g => ?_))))))
   ·(try simp only [sd, se] at g)
    refine A3 At At At At (A1 CX At At) (A3 At At At At (A2 (i := 0) De At At At) (A3 At At At At (BA At At At) (Au At At (A7 At At) (Au At At (Aw At) (Bm 28 At (fun g1 => ?_) (fun g1 => ?_))))))
    ·(try simp only [sd, se] at g1)
     exact A3 At At At At (A1 CX At At) (A3 At At At At (A2 (i := 0) De At At At) (A3 At At At At (BA At At At) (Au At At (A7 At At) (Az At (⟨At, At, AJ, (by refine ⟨_, rfl, fun h => ?_⟩; simp_all; done), ⟨At, trivial⟩⟩)))))
    ·(try simp only [sd, se] at g1)
     exact A5 At At At At At (A5 At At At At At (A5 At At At At At (Au At At (A7 At At) (Az At (⟨At, At, AJ, (by refine ⟨_, rfl, fun h => ?_⟩; simp_all; done), ⟨At, trivial⟩⟩)))))
   ·(try simp only [sd, se] at g)
    exact A5 At At At At At (A5 At At At At At (A5 At At At At At (Au At At (A7 At At) (Au At At (Aw At) (A5 At At At At At (A5 At At At At At (A5 At At At At At (Au At At (A7 At At) (Az At (⟨At, At, AJ, (by refine ⟨_, rfl, fun h => ?_⟩; simp_all; done), ⟨At, trivial⟩⟩))))))))))
  rintro _ ⟨q, rfl, hq⟩
  refine A9 At (fun c1 => ?_) (fun c1 => ?_)
  ·(try simp only [sd, se] at c1)
   refine Ax (Av (Au At At (Ay At) (Az At (BB (⟨At, _, [], Bu At, List.nil_sublist _, ⟨⟨_, At, ?_⟩, At⟩⟩)))))
   exact fun h => absurd h As
  ·(try simp only [sd, se] at c1)
   have hix := hq (by simpa using c1)
   refine BC (Ax (Ax (CA [1] 40 (fun y => ∃ b : Bool, y = .p (.bool b) ∧ (b = false → tk ≠ 3 → tn.toList = [])) ?_ ?_)))
   ·refine Av (Au At At (A1 CX At At) (Au At At (A2 (i := 0) FU At At At) (Au At At (MB At At) (Au At At (Aw At) (Bm 36 At (fun g => ?_) (fun g => ?_))))))
    ·(try simp only [sd, se] at g)
     exact A3 At At At At (A1 CX At At) (A3 At At At At (A2 (i := 0) De At At At) (A3 At At At At (BA At At At) (Au At At (A7 At At) (Az At (⟨At, At, AJ, (by refine ⟨_, rfl, fun h => ?_⟩; simp_all; done), ⟨At, trivial⟩⟩)))))
    ·(try simp only [sd, se] at g)
     exact A5 At At At At At (A5 At At At At At (A5 At At At At At (Au At At (A7 At At) (Az At (⟨At, At, AJ, (by refine ⟨_, rfl, fun h => ?_⟩; simp_all; done), ⟨At, trivial⟩⟩)))))
   rintro _ ⟨r, rfl, hr⟩
   refine A9 At (fun c2 => ?_) (fun c2 => ?_)
   ·(try simp only [sd, se] at c2)
    refine Ax (Av (Au At At (Ay At) (Az At (BB (⟨At, _, [], Bu At, List.nil_sublist _, ⟨⟨_, At, ?_⟩, At⟩⟩)))))
    exact fun h => absurd h As
   ·(try simp only [sd, se] at c2)
    have hn := hr (by simpa using c2)
    refine BC (Ax (Ax (Av (Au At At (A1 CX At At) (Au At At (A2 (i := 0) De At At At) (Au At At (BA At At At) (Az At (A9 At (fun c3 => ?_) (fun c3 => ?_)))))))))
    ·(try simp only [sd, se] at c3)
     have hk1 := c3
     refine Ax (Av (Au At At (A1 CX At At) (Au At At (A2 (i := 0) I7 At At At) (Au At At (Bp Hr At (List.length_map _)) (Au At At (BA At At At) (Au At At (Ay At) (Az At (BB (⟨At, _, [], Bu At, List.nil_sublist _, ⟨⟨_, At, ?_⟩, At⟩⟩)))))))))
     exact fun _ => ⟨hf, hn, hix, fun k1 _ => absurd hk1 k1⟩
    ·(try simp only [sd, se] at c3)
     refine BC (Ax (CA [] 2 (fun y => y = .p (.bool ((((tl.length : Nat) : Int) == (0 : Int)) || ((tk : Int) == (3 : Int))))) ?_ ?_))
     ·refine Av (Au At At (A1 CX At At) (Au At At (A2 (i := 0) I7 At At At) (Au At At (Bp Hr At (List.length_map _)) (Au At At (BA At At At) (Au At At (Aw At) (Bm 52 At (fun g => ?_) (fun g => ?_)))))))
      ·(try simp only [sd, se] at g)
       exact A5 At At At At At (A5 At At At At At (A5 At At At At At (Au At At (A7 At At) (Au At At (Ay At) (Az At ⟨At, At, AJ, AI, trivial⟩)))))
      ·(try simp only [sd, se] at g)
       exact A3 At At At At (A1 CX At At) (A3 At At At At (A2 (i := 0) De At At At) (A3 At At At At (BA At At At) (Au At At (A7 At At) (Au At At (Ay At) (Az At ⟨At, At, AJ, AI, trivial⟩)))))
     rintro _ rfl
     refine BB (⟨At, _, [], Bu At, List.nil_sublist _, ⟨⟨_, At, ?_⟩, At⟩⟩)
     exact fun h => ⟨hf, hn, hix, fun k1 k3 => by simp only [Tm.kind] at k1 k3; simp [k3] at h; exact h⟩
theorem VM : ∀ (n : Nat) (t : Tm) (d vars params metas levels : Int), (size t ≤ n) → (Nd t) → (0 ≤ d) → (d + n < EC) → G9 Tryz.prog 52 [.agg ((Be t).map .p), .p (I d), .p (I vars), .p (I params), .p (I metas), .p (I levels)] (fun v => ∃ e : Int, v = .p (I e) ∧ (e = 0 → wf vars metas d t ∧ My t ∧ Cn t)) := by
 intro n
 induction n with
 | zero => intro t d vars params metas levels h; cases t; simp [size] at h
 | succ n ih =>
  intro t d vars params metas levels h1 h2 h3 h4
  simp only [EC] at h4
  obtain ⟨tk, ti, tn, tl, ts⟩ := t
  simp only [size] at h1
  simp only [Nd, rng, EC] at h2
  have hks := Iv ts
  refine A8 Tryz.func52 At et (n := 107) At At (Ax (Av (BM At At (Bh At) fun b6 => Au At At (Ay At) (Az At (Ax (Ax (Av (Au At At (A0 (i := 0) BO At At At) (Ff At At (Bb At At (W2 (.mk tk ti tn tl ts : Tm)) (.inl At)) ?_)))))))))
  rintro _ ⟨b, rfl, hb⟩
  refine Au At At (Cg At) (Az At (A9 At (fun c => ?_) (fun c => ?_)))
  ·(try simp only [sd, se] at c)
   refine Ax (Av (Au At At (Ay At) (Az At (BB (⟨At, _, [], Bu At, List.nil_sublist _, ⟨⟨_, At, ?_⟩, At⟩⟩)))))
   exact fun h => absurd h Aq
  ·(try simp only [sd, se] at c)
   have hf := hb (by simpa using c)
   refine BC (Ax (Ax (CA [1, 2, 3, 4, 5, 6] 28 (fun y => ∃ b : Bool, y = .p (.bool b) ∧ (b = false → tk = 3 → QK tn)) ?_ ?_)))
   ·refine Av (Au At At (A1 CX At At) (Au At At (A2 (i := 0) De At At At) (Au At At (BA At At At) (Au At At (Aw At) (Bm 23 At (fun g => ?_) (fun g => ?_))))))
    ·(try simp only [sd, se] at g)
     refine A3 At At At At (A1 CX At At) (A3 At At At At (A2 (i := 0) FU At At At) (Js At At At At (Bb At At (XB tn h2.1) (.inl At)) ?_))
     rintro _ ⟨b1, rfl, hb1⟩
     exact A3 At At At At (Cg At) (Au At At (A7 At At) (Az At (⟨At, At, AJ, (by refine ⟨_, rfl, fun h => ?_⟩; simp_all; done), ⟨At, At, At, At, At, At, trivial⟩⟩)))
    ·(try simp only [sd, se] at g)
     exact A5 At At At At At (A5 At At At At At (A5 At At At At At (A5 At At At At At (Au At At (A7 At At) (Az At (⟨At, At, AJ, (by refine ⟨_, rfl, fun h => ?_⟩; simp_all; done), ⟨At, At, At, At, At, At, trivial⟩⟩))))))
   rintro _ ⟨q, rfl, hq⟩
   refine A9 At (fun c1 => ?_) (fun c1 => ?_)
   ·(try simp only [sd, se] at c1)
    refine Ax (Av (Au At At (Ay At) (Az At (BB (⟨At, _, [], Bu At, List.nil_sublist _, ⟨⟨_, At, ?_⟩, At⟩⟩)))))
    exact fun h => absurd h Aq
   ·(try simp only [sd, se] at c1)
    have hnm := hq (by simpa using c1)
    refine BC (Ax (Ax (Av (Au At At (A1 CX At At) (Au At At (A2 (i := 0) I7 At At At) (Au At At (Bp Hr At (List.length_map _)) (Au At At (BA At At At) (Az At (A9 At (fun c2 => ?_) (fun c2 => ?_))))))))))
    ·(try simp only [sd, se] at c2)
     refine Ax (Av (Au At At (Ay At) (Az At (BB (⟨At, _, [], Bu At, List.nil_sublist _, ⟨⟨_, At, ?_⟩, At⟩⟩)))))
     exact fun h => absurd h Aq
    ·(try simp only [sd, se] at c2)
     refine BC (Ax (Ax (Av (Au At At (Ay At) (Az At (Ba (CM (α := Nat) (fun i => ⟨107, mk [(1, .p (I d)), (2, .p (I vars)), (3, .p (I params)), (4, .p (I metas)), (5, .p (I levels)), (6, .ptr b6 0), (13, .p (I (i : Int)))], [.box b6 [.p (I tk), .p (I ti), .p (.str tn), .p (.lst (List.map Dw tl)), .p (.lst (BR ts))]], []⟩) (fun i => tl.length - i) (fun i => i ≤ tl.length) 0 AS ?_ ?_)))))))
     ·exact B8 ⟨we At, we At, we At, we At, we At, we At, we At, trivial⟩ (leH (is := [0]) At (wl (oe At) (D4)))
     rintro i hC
     try simp only at hC
     have hi := hC
     refine Ax (Ax (Av (Au At At (Aw At) (Au At At (A1 CX At At) (Au At At (A2 (i := 0) I7 At At At) (Au At At (Bp Hr At (List.length_map _)) (Au At At (BA At At At) (Az At (A9 At (fun c3 => ?_) (fun c3 => ?_))))))))))
     ·(try simp only [sd, se] at c3)
      refine BC (Ax (Ba (Ax (Av (Au At At (A1 CX At At) (Au At At (A2 (i := 0) I7 At At At) (Au At At (Aw At) ?_)))))))
      obtain ⟨x, hx⟩ := BP (l := tl) (i := i) Ar
      refine Au At At (BL Hr At At Ar (Jh hx) (At)) (Au At At (Bi EM At (At)) (Au At At (Aw At) (Au At At (Aw At) (Ff At At (Bb At At (Xs x params levels (h2.2.2.1 _ (List.mem_of_getElem? hx))) (.inl At)) ?_))))
      rintro _ ⟨le, rfl⟩
      refine Au At At (Ay At) (Az At (Ax (Av (Au At At (Aw At) (Au At At (BA At At At) (Az At (A9 At (fun c4 => ?_) (fun c4 => ?_))))))))
      ·(try simp only [sd, se] at c4)
       refine Ax (Av (Au At At (Aw At) (Au At At (Ay At) (Az At (BB (⟨At, _, [], Bu At, List.nil_sublist _, ⟨⟨_, At, ?_⟩, At⟩⟩))))))
       exact fun h => absurd h Ao
      ·(try simp only [sd, se] at c4)
       refine BC (Av (Au At At (Aw At) (Au At At (CS At At Ar Ar) (Au At At (Ay At) (Az At ?_)))))
       refine ⟨(i + 1), AZ, by omega, B8 ⟨we rfl, we rfl, we rfl, we rfl, we rfl, we rfl, we rfl, trivial⟩ (leH (is := [0]) rfl (wl (oe rfl) (D4)))⟩
     ·(try simp only [sd, se] at c3)
      refine CL (Ax (Ax (CA [1, 2, 3, 4, 5, 6] 66 (fun y => ∃ b : Bool, y = .p (.bool b) ∧ (b = false → tk = 0 → 0 ≤ ti ∧ ti - d < vars)) ?_ ?_)))
      ·refine Av (Au At At (A1 CX At At) (Au At At (A2 (i := 0) De At At At) (Au At At (BA At At At) (Au At At (Aw At) (Bm 54 At (fun g => ?_) (fun g => ?_))))))
       ·(try simp only [sd, se] at g)
        refine A3 At At At At (A1 CX At At) (A3 At At At At (A2 (i := 0) De At At At) (A3 At At At At (BA At At At) (A3 At At At At (Aw At) (Bm 58 At (fun g1 => ?_) (fun g1 => ?_)))))
        ·(try simp only [sd, se] at g1)
         refine A5 At At At At At (A5 At At At At At (A5 At At At At At (A5 At At At At At (A5 At At At At At (A5 At At At At At (A3 At At At At (A7 At At) (Au At At (A7 At At) (Az At ?_))))))))
         exact ⟨rfl, rfl, AJ, (by refine ⟨_, rfl, fun h => ?_⟩; first | (simp_all; done) | (simp_all <;> omega)), ⟨rfl, rfl, rfl, rfl, rfl, rfl, trivial⟩⟩
        ·(try simp only [sd, se] at g1)
         refine A3 At At At At (A1 CX At At) (A3 At At At At (A2 (i := 0) De At At At) (A3 At At At At (Aw At) (A3 At At At At (FA At At Ar Ar) (A3 At At At At (Aw At) (A3 At At At At (BA At At At) (A3 At At At At (A7 At At) (Au At At (A7 At At) (Az At ?_))))))))
         exact ⟨rfl, rfl, AJ, (by refine ⟨_, rfl, fun h => ?_⟩; first | (simp_all; done) | (simp_all <;> omega)), ⟨rfl, rfl, rfl, rfl, rfl, rfl, trivial⟩⟩
       ·(try simp only [sd, se] at g)
        refine A5 At At At At At (A5 At At At At At (A5 At At At At At (A5 At At At At At (Cc At At At At (Cc At At At At (Cc At At At At (Cc At At At At (Cc At At At At (Cc At At At At (A5 At At At At At (Au At At (A7 At At) ?_)))))))))))
        refine Az At ?_
        exact ⟨rfl, rfl, AJ, (by refine ⟨_, rfl, fun h => ?_⟩; first | (simp_all; done) | (simp_all <;> omega)), ⟨rfl, rfl, rfl, rfl, rfl, rfl, trivial⟩⟩
      rintro _ ⟨r, rfl, hr⟩
      refine A9 At (fun c4 => ?_) (fun c4 => ?_)
      ·(try simp only [sd, se] at c4)
       refine Ax (Av (Au At At (Ay At) (Az At (BB (⟨At, _, [], Bu At, List.nil_sublist _, ⟨⟨_, At, ?_⟩, At⟩⟩)))))
       exact fun h => absurd h Aq
      ·(try simp only [sd, se] at c4)
       have hv1 := hr (by simpa using c4)
       refine BC (Ax (Ax (CA [1, 2, 3, 4, 5, 6] 80 (fun y => ∃ b : Bool, y = .p (.bool b) ∧ (b = false → tk = 12 → 0 ≤ ti ∧ ti < metas)) ?_ ?_)))
       ·refine Av (Au At At (A1 CX At At) (Au At At (A2 (i := 0) De At At At) (Au At At (BA At At At) (Au At At (Aw At) (Bm 70 At (fun g => ?_) (fun g => ?_))))))
        ·(try simp only [sd, se] at g)
         refine A3 At At At At (A1 CX At At) (A3 At At At At (A2 (i := 0) De At At At) (A3 At At At At (BA At At At) (A3 At At At At (Aw At) (Bm 74 At (fun g1 => ?_) (fun g1 => ?_)))))
         ·(try simp only [sd, se] at g1)
          refine A5 At At At At At (A5 At At At At At (A5 At At At At At (A5 At At At At At (A3 At At At At (A7 At At) (Au At At (A7 At At) (Az At ?_))))))
          exact ⟨rfl, rfl, AJ, (by refine ⟨_, rfl, fun h => ?_⟩; first | (simp_all; done) | (simp_all <;> omega)), ⟨rfl, rfl, rfl, rfl, rfl, rfl, trivial⟩⟩
         ·(try simp only [sd, se] at g1)
          refine A3 At At At At (A1 CX At At) (A3 At At At At (A2 (i := 0) De At At At) (A3 At At At At (Aw At) (A3 At At At At (BA At At At) (A3 At At At At (A7 At At) (Au At At (A7 At At) (Az At ?_))))))
          exact ⟨rfl, rfl, AJ, (by refine ⟨_, rfl, fun h => ?_⟩; first | (simp_all; done) | (simp_all <;> omega)), ⟨rfl, rfl, rfl, rfl, rfl, rfl, trivial⟩⟩
        ·(try simp only [sd, se] at g)
         refine A5 At At At At At (A5 At At At At At (A5 At At At At At (A5 At At At At At (Cc At At At At (Cc At At At At (Cc At At At At (Cc At At At At (A5 At At At At At (Au At At (A7 At At) (Az At ?_))))))))))
         exact ⟨rfl, rfl, AJ, (by refine ⟨_, rfl, fun h => ?_⟩; first | (simp_all; done) | (simp_all <;> omega)), ⟨rfl, rfl, rfl, rfl, rfl, rfl, trivial⟩⟩
       rintro _ ⟨r2, rfl, hr2⟩
       refine A9 At (fun c5 => ?_) (fun c5 => ?_)
       ·(try simp only [sd, se] at c5)
        refine Ax (Av (Au At At (Ay At) (Az At (BB (⟨At, _, [], Bu At, List.nil_sublist _, ⟨⟨_, At, ?_⟩, At⟩⟩)))))
        exact fun h => absurd h Aq
       ·(try simp only [sd, se] at c5)
        have hv2 := hr2 (by simpa using c5)
        refine BC (Ax (Ax (Av (Au At At (Ay At) (Az At (Ba ?_))))))
        refine CM (α := Nat) (fun i => ⟨107, mk [(1, .p (I d)), (2, .p (I vars)), (3, .p (I params)), (4, .p (I metas)), (5, .p (I levels)), (6, .ptr b6 0), (15, .p (I (i : Int)))], [.box b6 [.p (I tk), .p (I ti), .p (.str tn), .p (.lst (List.map Dw tl)), .p (.lst (BR ts))]], []⟩) (fun i => ts.length - i) (fun i => i ≤ ts.length ∧ (∀ j, j < i → ∀ x, ts[j]? = some x → wf vars metas (d + below tk j) x ∧ My x ∧ Cn x)) 0 (⟨by omega, fun j h => by omega⟩) ?_ ?_
        ·exact B8 ⟨we At, we At, we At, we At, we At, we At, we At, trivial⟩ (leH (is := [0]) At (wl (oe At) (D4)))
        rintro i hC1
        try simp only at hC1
        obtain ⟨hi, hC⟩ := hC1
        have hbl := D5 tk i
        refine Ax (Ax (Av (Au At At (Aw At) (Au At At (A1 CX At At) (Au At At (A2 (i := 0) DQ At At At) (Au At At (Bp By At (Bo _)) (Au At At (BA At At At) (Az At (A9 At (fun c6 => ?_) (fun c6 => ?_))))))))))
        ·(try simp only [sd, se] at c6)
         refine BC (Ax (Ba (Ax (CQ (fun k => Nat.beq k 15) D0 (A4 At At (fun _ => A1 CX At At) trivial (BQ (j := 0) At At At (fun H i hi => A2 (i := i) DQ At hi At) AA trivial (A4 At At (fun _ => Aw At) trivial ?_)))))))
         obtain ⟨x, hx⟩ := BP (l := ts) (i := i) Ar
         refine A4 At At (fun _ => BL By At At Ar (CH hx) (Bj _)) trivial (A4 At At (fun _ => Bi BO At (Bj _)) trivial (A4 At At (fun _ => Aw At) trivial (A4 At At (fun _ => A1 CX At At) trivial (BQ (j := 0) At At At (fun H i hi => A2 (i := i) De At hi At) AA trivial (A4 At At (fun _ => Aw At) trivial (A4 At At (fun _ => Bg At At (S4 tk (i : Int)) At) trivial (A4 At At (fun _ => CS At At Ar Ar) trivial (A4 At At (fun _ => Aw At) trivial (A4 At At (fun _ => Aw At) trivial (A4 At At (fun _ => Aw At) trivial (A4 At At (fun _ => Aw At) trivial ?_)))))))))))
         refine VS [] At At (Bb At At (ih x ((d : Int) + (below tk (i : Int) : Int)) vars params metas levels (by have := DE hx; omega) (DY h2.2.2.2.2.1 hx) (by have := D5 tk i; omega) (by have := D5 tk i; simp only [EC]; omega)) (.inl At)) An (⟨_, 1, At, fun h => absurd h Aq⟩) AA ?_
         rintro _ ⟨e, rfl, he⟩
         refine ⟨trivial, ?_⟩
         refine A4 At At (fun _ => Ay At) trivial (CK At An (Ax (Av (Au At At (Aw At) (Au At At (BA At At At) (Az At (A9 At (fun c7 => ?_) (fun c7 => ?_))))))))
         ·(try simp only [sd, se] at c7)
          refine Ax (Av (Au At At (Aw At) (Au At At (Ay At) (Az At (BB (⟨At, _, [], Bu At, List.nil_sublist _, ⟨⟨_, At, ?_⟩, At⟩⟩))))))
          exact fun h => absurd h Ao
         ·(try simp only [sd, se] at c7)
          refine BC (Av (Au At At (Aw At) (Au At At (CS At At Ar Ar) (Au At At (Ay At) (Az At (⟨(i + 1), AZ, ⟨by omega, Dl hC hx (he Ar)⟩, B8 ⟨we rfl, we rfl, we rfl, we rfl, we rfl, we rfl, we rfl, trivial⟩ (leH (is := [0]) rfl (wl (oe rfl) (D4)))⟩))))))
        ·(try simp only [sd, se] at c6)
         refine CL (Ax (Av (Au At At (Ay At) (Az At (BB (⟨At, _, [], Bu At, List.nil_sublist _, ⟨⟨_, At, ?_⟩, At⟩⟩))))))
         have hq0 : ∀ c ∈ tn.data.toList, Sm c := if h : tk = 3 then U3 (hnm h) else Wx (hf.2.1 h)
         exact fun _ => ⟨⟨hf.1.1, hf.1.2.1, hf.1.2.2, hv1, hv2, Vr fun j x hx => by have h9 := (hC j (by have := (List.getElem?_eq_some_iff.1 hx).1; omega) x hx).1; simpa using h9⟩, ⟨hq0, TM fun j x hx => (hC j (by have := (List.getElem?_eq_some_iff.1 hx).1; omega) x hx).2.1⟩, ⟨⟨hf.2.2.1, fun k => Ou ((hf.2.1 k).trans (by rw [EH])), hf.2.2.2, hf.1.2.2⟩, WT fun j x hx => (hC j (by have := (List.getElem?_eq_some_iff.1 hx).1; omega) x hx).2.2⟩⟩
end Go.Proofs.YtapmjpihennhaaaGreatDoor
namespace Go.Abs
theorem MM (a : ByteArray) : (a == a) = true := (MapKept.bytes_beq a a).2 rfl
theorem Se {a b : ByteArray} (h : a ≠ b) : (a == b) = false := by
 cases e : (a == b)
 ·rfl
 ·exact absurd ((MapKept.bytes_beq a b).1 e) h
def KG (k : ByteArray) : List (ByteArray × AV) → Option AV
 | [] => none
 | (j, x) :: r => if j = k then some x else KG k r
def sset (k : ByteArray) (v : AV) : List (ByteArray × AV) → List (ByteArray × AV)
 | [] => [(k, v)]
 | (j, x) :: r => if j = k then (j, v) :: r else (j, x) :: sset k v r
def Du (l : List (ByteArray × AV)) : List (PV × AV) := l.map fun p => (.str p.1, p.2)
def Km (P : Program) (T : TypeId) : Option TypeId :=
 match P.underlying T with
 | some (.map k e) => match P.underlying k with
  | some .string => some e
  | _ => none
 | _ => none
theorem Me {P : Program} {T e : TypeId} (h : Km P T = some e) : ∃ k, P.underlying T = some (.map k e) ∧ P.underlying k = some .string := by
 unfold Km at h
 split at h
 ·rename_i k e' hu
  split at h
  ·rename_i hk; injection h with h; subst h; exact ⟨k, hu, hk⟩
  ·cases h
 ·cases h
section
variable {F : Nat → Prop} {w : World}
theorem Lt {k : ByteArray} : ∀ {l : List (ByteArray × AV)} {es : List MapEntry} (i : Nat), Dk F w (Du l) es →
  (KG k l = none ∧ Instr.findNow .string (.string k) es i = some none) ∨ ∃ j e x, KG k l = some x ∧ Instr.findNow .string (.string k) es i = some (some (i + j, e.val)) ∧ es[j]? = some e ∧ e.key = .string k ∧ CR F w x e.val
 | [], es, i, h => by simp only [Du, List.map_nil, Dk] at h; subst h; exact .inl ⟨rfl, rfl⟩
 | (j, x) :: l, es, i, h => by
  simp only [Du, List.map_cons, Dk] at h
  obtain ⟨e, es', rfl, hk, hx, hr⟩ := h
  simp only [CV] at hk
  by_cases hj : j = k
  ·subst hj
   exact .inr ⟨0, e, x, by simp [KG], by simp [Instr.findNow, hk, Instr.sameNow, MM], rfl, hk, hx⟩
  ·have hne : (k == j) = false := Se (Ne.symm hj)
   rcases Lt (k := k) (i + 1) hr with ⟨h1, h2⟩ | ⟨q, e', x', h1, h2, h3, h4, h5⟩
   ·exact .inl ⟨by simp [KG, hj, h1], by simp [Instr.findNow, hk, Instr.sameNow, hne, h2]⟩
   ·exact .inr ⟨q + 1, e', x', by simp [KG, hj, h1], by simp [Instr.findNow, hk, Instr.sameNow, hne, h2]; omega, by simpa using h3, h4, h5⟩
theorem PD {k : ByteArray} {v : AV} {u : Value} {c : Nat} : ∀ {l : List (ByteArray × AV)} {es : List MapEntry}, Dk F w (Du l) es → KG k l = none → CR F w v u → Dk F w (Du (sset k v l)) (es ++ [{ key := .string k, val := u, born := c }])
 | [], es, h, _, hv => by
  simp only [Du, List.map_nil, Dk] at h
  subst h
  simp only [sset, Du, List.map_cons, List.map_nil, List.nil_append, Dk]
  exact ⟨_, [], At, by simp [CV], hv, rfl⟩
 | (j, x) :: l, es, h, hm, hv => by
  simp only [Du, List.map_cons, Dk] at h
  obtain ⟨e, es', rfl, hk, hx, hr⟩ := h
  by_cases hj : j = k
  ·simp [KG, hj] at hm
  ·simp only [KG, if_neg hj] at hm
   simp only [sset, if_neg hj, Du, List.map_cons, List.cons_append, Dk]
   exact ⟨e, _, At, hk, hx, PD hr hm hv⟩
theorem Ql {k : ByteArray} {v : AV} {u : Value} : ∀ {l : List (ByteArray × AV)} {es : List MapEntry} {j : Nat} (i : Nat) {y : Value}, Dk F w (Du l) es → Instr.findNow .string (.string k) es i = some (some (i + j, y)) → CR F w v u → Dk F w (Du (sset k v l)) (es.modify j fun e => { e with key := .string k, val := u })
 | [], es, j, i, y, h, hf, _ => by simp only [Du, List.map_nil, Dk] at h; subst h; simp [Instr.findNow] at hf
 | (q, x) :: l, es, j, i, y, h, hf, hv => by
  simp only [Du, List.map_cons, Dk] at h
  obtain ⟨e, es', rfl, hk, hx, hr⟩ := h
  simp only [CV] at hk
  by_cases hj : q = k
  ·subst hj
   simp [Instr.findNow, hk, Instr.sameNow, MM] at hf
   obtain ⟨rfl, _⟩ : j = 0 ∧ True := ⟨by omega, trivial⟩
   simp only [sset, if_true, Du, List.map_cons, Dk]
   exact ⟨_, es', At, by simp [CV], hv, hr⟩
  ·have hne : (k == q) = false := Se (Ne.symm hj)
   simp only [Instr.findNow, hk, Instr.sameNow, if_true, hne] at hf
   cases j with
   | zero =>
    have : ∀ (es : List MapEntry) (m : Nat) (y : Value) (r : Nat), Instr.findNow .string (.string k) es m = some (some (r, y)) → m ≤ r := by
     intro es
     induction es with
     | nil => intro m y r h; simp [Instr.findNow] at h
     | cons e es ih =>
      intro m y r h
      simp only [Instr.findNow] at h
      split at h
      ·simp at h; omega
      ·have := ih _ _ _ h; omega
      ·cases h
    have := this _ _ _ _ hf
    omega
   | succ j =>
    simp only [sset, if_neg hj, Du, List.map_cons, List.modify_succ_cons, Dk]
    exact ⟨e, _, At, by simpa [CV] using hk, hx, Ql (i + 1) hr (by rw [show i + 1 + j = i + (j + 1) by omega]; exact hf) hv⟩
end
section
variable {P : Program} {dst : Option Tmp} {ty : TypeId} {pos : String} {aft : Array Edge} {g : Option (Nat × Bool)} {ρ : Operand → AV} {H : List BT} {x y z : Operand} {v : AV}
theorem Od {T e : TypeId} {b i : Nat} {l : List (ByteArray × AV)} {k : ByteArray} {zv : Value} {za : AV} (hT : Km P T = some e) (hz : zeroOf P e = some zv) (hza : ∀ F w, CR F w za zv) (hx : ρ x = .map b) (hy : ρ y = .p (.str k)) (hi : H[i]? = some (.map b (Du l))) :
  Dg P ⟨dst, .lookup T x y true, ty, pos, aft, g⟩ ρ H (.tup [(KG k l).getD za, .p (.bool (KG k l).isSome)]) H :=
 CT fun F w E hH hE => by
  obtain ⟨kt, hu, hk⟩ := Me hT
  have h1 := hE x Ah
  have h2 := hE y Ah
  rw [hx] at h1
  rw [hy] at h2
  simp only [CR, CV] at h1 h2
  obtain ⟨es, clk, hb, hr⟩ := hH.obj _ (List.mem_of_getElem? hi)
  have hzv : (zeroValue e).run P w = .ok zv w := by
   unfold zeroOf at hz
   cases hi : P.info? e with
   | none => simp [hi] at hz
   | some i => have hz' : i.zero = some zv := by simpa [hi] using hz
               simp [zeroValue, typeInfo, hi, hz', Sem.run_bind]
  have hkey : MapKept.IsKey .string (.string k) := trivial
  rcases Lt (k := k) 0 hr with ⟨h3, h4⟩ | ⟨j, e', x', h3, h4, h5, h6, h7⟩
  ·refine ⟨.tuple #[zv, .bool false], ?_, ?_⟩
   ·simp [execOp, Instr.lookup, Sem.run_bind, run_underlying hu, h1, h2, MapKept.run_getObj_map hb, MapKept.run_checkKey hk hkey, MapKept.run_findKey hk h4, hzv]
   ·simp only [h3, CR, B0, CV]
    exact ⟨[zv, .bool false], At, _, _, At, hza F w, _, _, At, At, At⟩
  ·refine ⟨.tuple #[e'.val, .bool true], ?_, ?_⟩
   ·simp [execOp, Instr.lookup, Sem.run_bind, run_underlying hu, h1, h2, MapKept.run_getObj_map hb, MapKept.run_checkKey hk hkey, MapKept.run_findKey hk h4]
   ·simp only [h3, CR, B0, CV]
    exact ⟨[e'.val, .bool true], At, _, _, At, h7, _, _, At, At, At⟩
theorem Ng {T e : TypeId} {b i : Nat} {l : List (ByteArray × AV)} {k : ByteArray} {va : AV} (hT : Km P T = some e) (hx : ρ x = .map b) (hy : ρ y = .p (.str k)) (hz : ρ z = va) (hi : H[i]? = some (.map b (Du l))) :
  Dg P ⟨dst, .mapUpdate T x y z, ty, pos, aft, g⟩ ρ H (.p .any) (H.set i (.map b (Du (sset k va l)))) :=
 (Gf (R := dB (.p .any) (H.set i (.map b (Du (sset k va l))))) fun F w E hH hE => by
  obtain ⟨kt, hu, hk⟩ := Me hT
  have h1 := hE x Ah
  have h2 := hE y Ah
  have h0 := hE z Ah
  rw [hx] at h1
  rw [hy] at h2
  rw [hz] at h0
  simp only [CR, CV] at h1 h2
  obtain ⟨es, clk, hb, hr⟩ := hH.obj _ (List.mem_of_getElem? hi)
  have hFb : F b := hH.sub _ (List.mem_of_getElem? hi) b rfl
  have hlt := hH.bd b hFb
  have hkey : MapKept.IsKey .string (.string k) := trivial
  have fin : ∀ (es' : Array MapEntry) (clk' : Nat), Dk F w (Du (sset k va l)) es'.toList → Trans F H w F (H.set i (.map b (Du (sset k va l)))) { w with heap := w.heap.setIfInBounds b (.map es' clk') } ∧ HRel F (H.set i (.map b (Du (sset k va l)))) { w with heap := w.heap.setIfInBounds b (.map es' clk') } := by
   intro es' clk' hr'
   have hw : FY b (.map es' clk') w { w with heap := w.heap.setIfInBounds b (.map es' clk') } := ⟨rfl, rfl, rfl, rfl⟩
   have st := hw.stable hFb
   exact ⟨hw.trans hi At At, hw.HRel hH hi At At ⟨es', clk', hw.self hlt, Dk.mono st _ _ hr'⟩⟩
  rcases Lt (k := k) 0 hr with ⟨h3, h4⟩ | ⟨j, e', x', h3, h4, h5, h6, h7⟩
  ·have hr' := PD (c := clk) hr h3 h0
   obtain ⟨f1, f2⟩ := fin (es.push { key := .string k, val := E z, born := clk }) (clk + 1) (by simpa using hr')
   refine ⟨_, _, F, ?_, ⟨At, At⟩, f1, f2⟩
   simp [execOp, Instr.mapUpdate, Sem.run_bind, run_underlying hu, h1, h2, MapKept.run_getObj_map hb, MapKept.run_checkKey hk hkey, MapKept.run_findKey hk h4, MapKept.run_setObj_map _ hb]
  ·have hr' := Ql (v := va) (u := E z) 0 hr h4 h0
   obtain ⟨f1, f2⟩ := fin (es.modify j fun e => { e with key := .string k, val := E z }) clk (by simpa using hr')
   refine ⟨_, _, F, ?_, ⟨At, At⟩, f1, f2⟩
   have h5' : es[j]? = some e' := by simpa using h5
   simp [execOp, Instr.mapUpdate, Sem.run_bind, run_underlying hu, h1, h2, MapKept.run_getObj_map hb, MapKept.run_checkKey hk hkey, MapKept.run_findKey hk h4, MapKept.run_setObj_map _ hb, h5', h6, Instr.keyThatStays, Instr.sameBits, MM])
end
section
variable {P : Program} {dst : Option Tmp} {ty : TypeId} {pos : String} {aft : Array Edge} {g : Option (Nat × Bool)} {ρ : Operand → AV} {H : List BT} {x y z : Operand} {v : AV}
def appendTR (i : Nat) (e : TypeId) (rows : List (List PV)) (H : List BT) : Db → List BT → Prop
 | .val v, H' => ∃ o c, v = .vs o rows.length c ∧ H' = H.set i (.vecT o e false rows c)
 | .panic _, _ => False
theorem WO {F : Nat → Prop} {w : World} {o : Option Nat} {e : TypeId} {rows : List (List PV)} {c : Nat} (h : F7 F w (.vecT o e false rows c)) : F7 F w (.vec o 1 rows c) := by
 cases o with
 | none => exact h
 | some b =>
  obtain ⟨vs, h1, h2, h3, h4⟩ := h
  exact ⟨vs, e, by simpa using h1, by omega, h3, h4⟩
theorem Tp {F : Nat → Prop} {w : World} {c : Nat} {rows : List (List PV)} {vs : List Value} {T : TypeId} (hH : HRel F H w) (hr : ∀ r ∈ rows, r.length = 1) (hl : B0 F w (rows.flatten.map .p) (vs.take rows.flatten.length)) (hc : c ≤ vs.length) (hcl : rows.length ≤ c) :
  ∃ v H' F', (∃ b c, v = .vs (some b) rows.length c ∧ H' = .vecT (some b) T false rows c :: H) ∧ Trans F H w F' H' (World.push w (.cells ⟨vs⟩ T (0, 0))) ∧ HRel F' H' (World.push w (.cells ⟨vs⟩ T (0, 0))) ∧ CR F' (World.push w (.cells ⟨vs⟩ T (0, 0))) v (.slice (some ⟨w.heap.size, 0, none⟩) rows.length c) := by
 refine ⟨.vs (some w.heap.size) rows.length c, _, _, ⟨w.heap.size, c, At, At⟩, He H (.vecT (some w.heap.size) T false rows c) _ (.inl At), ?_, by simp [CR]⟩
 refine IZ hH (.vecT (some w.heap.size) T false rows c) _ At ?_
 refine ⟨⟨vs⟩, Gr _, by simpa using hc, hcl, ?_⟩
 refine GO (vs := vs.take rows.flatten.length) hr ?_ (B0.mono (FD _ fun b h => h) _ _ hl)
 have := G4 (Gr (w := w) (.cells ⟨vs⟩ T (0, 0))) 0 rows.flatten.length
 simpa using this
theorem N3 {T T2 e : TypeId} {bytes c i n : Nat} {o : Option Nat} {rows : List (List PV)} {s : ByteArray} {zv : Value} (hT : FB P T = some (e, 1, bytes)) (hu2 : P.underlying T2 = some .string) (hz : zeroOf P e = some zv) (hzs : zv.cells.size = 1) (hb0 : Nat.blt 0 bytes = true)
  (hx : ρ x = .vs o n c) (hn : n = rows.length) (hi : H[i]? = some (.vecT o e false rows c)) (hy : ρ y = .p (.str s)) (hroom : 2 * (rows.length + s.size) * bytes ≤ 281474976710656) :
  DB P ⟨dst, .call { callee := .builtin .append, args := #[x, y], argTypes := #[T, T2] }, ty, pos, aft, g⟩ ρ H (appendTR i e (rows ++ EP s) H) :=
 FF fun F w E hH hE => by
  subst hn
  obtain ⟨sz, hsz⟩ : ∃ sz, sz = 1 := ⟨1, rfl⟩
  obtain ⟨rows', hrw⟩ : ∃ r, r = EP s := ⟨_, rfl⟩
  have hsol : ∀ r ∈ rows', Dj sz r := by subst hsz; subst hrw; exact Oc s
  have hsl : rows'.length = s.size := by subst hrw; exact G0 s
  rw [← hrw]
  rw [← hsl] at hroom
  rw [← hsz] at hT hzs
  have hr' : ∀ r ∈ rows', r.length = sz := fun r hr => (hsol r hr).1
  have hb0 : (Nat.blt 0 sz && Nat.blt 0 bytes) = true := by subst hsz; simpa using hb0
  simp only [Bool.and_eq_true, Nat.blt_eq] at hb0
  obtain ⟨hu, inf, hinf, hs, hby⟩ := Eb hT
  have h1 := hE x Aa
  have h2 := hE y Aa
  rw [hx] at h1
  rw [hy] at h2
  have hobjT := hH.obj _ (List.mem_of_getElem? hi)
  have hobj : F7 F w (.vec o sz rows c) := by subst hsz; exact WO hobjT
  obtain ⟨ns, hEy, hns, hnsl, hnsr⟩ := JX (P := P) h2 hrw.symm hsz
  obtain ⟨os, hos, hosl, hosr⟩ := Fv (P := P) hobj h1
  have hEx : ∃ base, E x = .slice base rows.length c ∧ (∀ b, o = some b → base = some ⟨b, 0, none⟩) := by
   cases o with
   | none =>
    simp only [CR] at h1
    obtain ⟨e1, e2, a, ha⟩ := h1
    refine ⟨a, ?_, fun b hb => by cases hb⟩
    rw [ha, e1, e2]
   | some b => simp only [CR] at h1; exact ⟨_, h1, fun b' hb => by injection hb with hb; subst hb; rfl⟩
  obtain ⟨base, hEx, hbase⟩ := hEx
  unfold zeroOf at hz
  have hz' : ∃ j, P.info? e = some j ∧ j.zero = some zv := by
   cases hq : P.info? e with
   | none => simp [hq] at hz
   | some j => exact ⟨j, rfl, by simpa [hq] using hz⟩
  obtain ⟨j, hj, hz'⟩ := hz'
  have hzv : ∀ w, (zeroValue e).run P w = .ok zv w := fun w => by simp [zeroValue, typeInfo, hj, hz', Sem.run_bind]
  have hti : ∀ w, (typeInfo e).run P w = .ok inf w := fun w => by simp [typeInfo, hinf]
  have hszr : ∀ w, (sizeOf e).run P w = .ok sz w := fun w => by simp [sizeOf, typeInfo, hinf, hs]
  have hlens := hobj.lens
  have hlall : ∀ r ∈ rows ++ rows', r.length = sz := by
   intro r hr
   rcases List.mem_append.1 hr with hr | hr
   ·exact hlens r hr
   ·exact hr' r hr
  have hlen : (rows ++ rows').length = rows.length + rows'.length := by simp
  have hlenof : ∀ w, (Builtin.lenOf (E y)).run P w = .ok rows'.length w := fun w => by rw [hEy, hsl]; rfl
  by_cases hcap : rows.length + rows'.length ≤ c
  ·-- there is room
   have hrun : ∀ w', (match base with | some a => (storeCells (a.add (rows.length * sz)) ns).run P w = .ok () w' | none => w' = w) →
     (execOp E ⟨dst, .call { callee := .builtin .append, args := #[x, y], argTypes := #[T, T2] }, ty, pos, aft, g⟩).run P w = .ok (.value (.slice base (rows.length + rows'.length) c)) w' := by
    intro w' hst
    have hEx' := hEx
    simp only [execOp, resolve, invoke, builtin, Builtin.append_, hEx, Sem.run_bind, Sem.run_pure, Result.andThen_ok, List.map_toArray, List.map_cons, List.map_nil, List.getElem?_toArray, List.getElem?_cons_zero, List.getElem?_cons_succ, run_underlying hu, run_underlying hu2, hszr, pure_bind,
     Bool.false_eq_true, if_false, hlenof, Bool.not_false, if_true]
    rw [if_pos hcap]
    simp only [Sem.run_bind, hns, Result.andThen_ok]
    cases base with
    | none => simp only at hst; subst hst; simp
    | some a => simp only at hst; simp [hst]
   cases o with
   | none =>
    obtain ⟨rfl, rfl⟩ := hobj
    have hr0 : rows' = [] := by simpa using hcap
    subst hr0
    have hns0 : ns = [] := by
     apply List.eq_nil_of_length_eq_zero; simpa using hnsl
    subst hns0
    have hset : H.set i (.vecT none e false ([] ++ []) 0) = H := by
     rw [List.append_nil]
     apply List.ext_getElem?
     intro k
     rw [List.getElem?_set]
     split
     ·rename_i hk; subst hk; rw [hi]; split
      ·rfl
      ·rename_i hge; rw [List.getElem?_eq_none Ar] at hi; cases hi
     ·rfl
    refine ⟨_, w, .vs none 0 0, H, F, hrun w ?_, ⟨none, 0, At, hset.symm⟩, .refl, hH, ?_⟩
    ·cases base with
     | none => rfl
     | some a => rfl
    ·simp only [CR]; exact ⟨trivial, trivial, base, rfl⟩
   | some b =>
    obtain ⟨vs, hb, hcs, hcl, hrows⟩ := hobjT
    obtain ⟨vs⟩ := vs
    simp only [Bool.false_eq_true, if_false] at hb
    rw [← hsz] at hrows
    have hbase' := hbase b rfl
    subst hbase'
    have hcs' : c * sz ≤ vs.length := by rw [hsz, Nat.mul_one]; simpa using hcs
    have hlt : b < w.heap.size := (Array.getElem?_eq_some_iff.1 hb).1
    have hF : F b := hH.sub _ (List.mem_of_getElem? hi) b rfl
    cases hrr : rows' with
    | nil =>
     subst hrr
     have hns0 : ns = [] := by
      apply List.eq_nil_of_length_eq_zero; simpa using hnsl
     subst hns0
     have hset : H.set i (.vecT (some b) e false (rows ++ []) c) = H := by
      rw [List.append_nil]
      apply List.ext_getElem?
      intro k
      rw [List.getElem?_set]
      split
      ·rename_i hk; subst hk; rw [hi]; split
       ·rfl
       ·rename_i hge; rw [List.getElem?_eq_none Ar] at hi; cases hi
      ·rfl
     refine ⟨_, w, .vs (some b) (rows ++ []).length c, H, F, hrun w At, ⟨some b, c, At, hset.symm⟩, .refl, hH, ?_⟩
     simp [CR]
    | cons r0 rr =>
     rw [← hrr]
     have hnsne : ns ≠ [] := by
      intro e0; rw [e0] at hnsl; rw [hrr] at hnsl; simp [Nat.succ_mul] at hnsl; omega
     have hw : FY b (.cells ⟨splice vs (rows.length * sz) ns⟩ e (0, 0)) w (w.setCells b (rows.length * sz) ns) := Ea ns hb hnsne
     have hfit : rows.length * sz + ns.length ≤ vs.length := by
      have : (rows.length + rows'.length) * sz ≤ c * sz := Nat.mul_le_mul_right sz hcap
      rw [Nat.add_mul] at this
      omega
     have st := hw.stable hF
     have hb' := hw.self hlt
     refine ⟨_, w.setCells b (rows.length * sz) ns, .vs (some b) (rows ++ rows').length c, _, F, hrun _ ?_, ⟨some b, c, At, At⟩, hw.trans hi At At, hw.HRel hH hi At At ?_, by simp [CR]⟩
     ·have ht := Nx hb (o := rows.length * sz) (n := ns.length) hfit
      have h1' : ∀ u ∈ ns, u.oneCell' = true := II hnsr (Pa hsol)
      have := run_storeCells_cells (P := P) b (rows.length * sz) ns 0 w (fun q hq => by simpa using (ht q hq).1) (fun q hq => by simpa using (ht q hq).2) h1'
      simp only [Nat.add_zero] at this
      simp only [Addr.add_mid, Nat.zero_add]
      exact this
     ·refine ⟨⟨splice vs (rows.length * sz) ns⟩, by simpa using hb', by simp only [E3, List.size_toArray]; simpa using hcs, by simp; omega, ?_⟩
      rw [← hsz]
      refine JZ ?_ ?_
      ·have : ∀ {rs : List (List PV)} {q : Nat}, q + rs.length * sz ≤ rows.length * sz → B9 F w b sz q rs → B9 F (w.setCells b (rows.length * sz) ns) b sz q rs := by
        intro rs
        induction rs with
        | nil => intro q _ _; simp [B9]
        | cons a rs ih2 =>
         intro q hq ha
         simp only [B9] at ha ⊢
         simp only [List.length_cons, Nat.succ_mul] at hq
         exact ⟨ha.1, HN hb hb' st (.inl (by rw [ha.1]; omega)) ha.2.1, ih2 Ar ha.2.2⟩
       exact this Ar hrows
      ·refine GO (vs := ns) hr' ?_ (B0.mono st _ _ hnsr)
       intro q u hq
       have := Ie ns vs (rows.length * sz) q u hq hfit
       simp [World.cell?, hb', this]
  ·-- a new array
   have hcap' : c < rows.length + rows'.length := by omega
   generalize hnc : Question.cut (.appendCap (rows.length + rows'.length) c e) (w.tape w.drawn (.appendCap (rows.length + rows'.length) c e)) = newCap
   have hncge : rows.length + rows'.length ≤ newCap := by rw [← hnc]; simp only [Question.cut]; omega
   have hnext := NN hcap'
   have hask : ∀ (b : Nat) w, (askRoom b).run P w = .ok () w := by intro b w; unfold askRoom; split <;> rfl
   let w1 : World := { w with drawn := w.drawn + 1 }
   have same : C7 F w F w1 := ⟨Nat.le_refl _, fun _ _ _ => rfl, fun _ h _ => h⟩
   have hobj' : F7 F w1 (.vec o sz rows c) := F7.mono same _ (fun _ _ => rfl) hobj
   obtain ⟨ns', hEy', hns', hnsl', hnsr'⟩ := JX (P := P) (CR.mono same _ _ h2) hrw.symm hsz
   obtain ⟨os', hos', hosl', hosr'⟩ := Fv (P := P) hobj' (CR.mono same _ _ h1)
   let vs : List Value := os' ++ ns' ++ (Builtin.zeroCells zv.cells (newCap - (rows.length + rows'.length))).toList
   have hrun : (execOp E ⟨dst, .call { callee := .builtin .append, args := #[x, y], argTypes := #[T, T2] }, ty, pos, aft, g⟩).run P w = .ok (.value (.slice (some ⟨w.heap.size, 0, none⟩) (rows.length + rows'.length) newCap)) (World.push w1 (.cells ⟨vs⟩ e (0, 0))) := by
    have hos2 := hos'
    rw [hEx] at hos2
    simp only [execOp, resolve, invoke, builtin, Builtin.append_, hEx, Sem.run_bind, Sem.run_pure, Result.andThen_ok, List.map_toArray, List.map_cons, List.map_nil, List.getElem?_toArray, List.getElem?_cons_zero, List.getElem?_cons_succ, run_underlying hu, run_underlying hu2, hszr, pure_bind,
     Bool.false_eq_true, if_false, hlenof, Bool.not_false, if_true]
    rw [if_neg hcap]
    simp only [Sem.run_bind, hti, Result.andThen_ok, hby]
    rw [if_neg Am]
    simp only [Sem.run_bind, Sem.run_pure, Result.andThen_ok, hti, hby, pure_bind]
    rw [if_neg (by
     have : Builtin.nextslicecap (rows.length + rows'.length) c * bytes ≤ 2 * (rows.length + rows'.length) * bytes := Nat.mul_le_mul_right bytes hnext
     simp; omega)]
    have hch : (choose (.appendCap (rows.length + rows'.length) c e)).run P w = .ok newCap w1 := by
     simp only [choose, Sem.run, Question.forced, Bool.false_eq_true, if_false, hnc]
     rfl
    simp only [Sem.run_bind, Sem.run_pure, Result.andThen_ok, pure_bind, hch, hti, hask, hos2, hns', hzv, newRow, newObj, Sem.run, Result.andThen]
    have evs : (⟨os'⟩ ++ ⟨ns'⟩ ++ Builtin.zeroCells zv.cells (newCap - (rows.length + rows'.length)) : Array Value) = ⟨vs⟩ := by
     apply Array.ext'; simp [vs]
    rw [evs]
    rfl
   have hvl : vs.length = newCap * sz := by
    simp only [vs, List.length_append, hosl', hnsl', Array.length_toList, KR, hzs]
    rw [← Nat.add_mul, ← Nat.add_mul]
    congr 1
    omega
   have hlen2 : (rows ++ rows').flatten.length = (rows.length + rows'.length) * sz := by rw [Ua hlall, hlen]
   have hpre : B0 F w1 ((rows ++ rows').flatten.map .p) (vs.take ((rows ++ rows').flatten.length)) := by
    have e1 : vs.take ((rows ++ rows').flatten.length) = os' ++ ns' := by
     rw [hlen2]
     have : (os' ++ ns').length = (rows.length + rows'.length) * sz := by rw [List.length_append, hosl', hnsl', Nat.add_mul]
     rw [← this]
     exact List.take_left
    rw [e1, List.flatten_append, List.map_append]
    exact hosr'.append hnsr'
   -- the tracked object lies in the new array
   have hH1 : HRel F H w1 := hH.stable' same (fun _ h => h) (fun _ _ _ _ => rfl) hH.bd
   have t1 : Trans F H w F H w1 := ⟨Nat.le_refl _, fun _ _ _ => rfl, fun _ h _ => h, fun _ h => .inl h, fun o ho b hb => .inl ⟨o, ho, hb⟩, rfl, rfl, rfl⟩
   obtain ⟨v', H', F', ⟨b', c', hv', hH'⟩, ht, hHr, hrep⟩ := Tp (T := e) (c := newCap) (vs := vs) (H := H) hH1 (by subst hsz; exact hlall) hpre (by rw [hvl, hsz]; omega) (by rw [hlen]; exact hncge)
   subst hv'
   subst hH'
   have hset : H.set i (.vecT (some b') e false (rows ++ rows') c') = H.take i ++ .vecT (some b') e false (rows ++ rows') c' :: H.drop (i + 1) := by
    rw [List.set_eq_take_append_cons_drop, if_pos (List.getElem?_eq_some_iff.1 hi).1]
   have hperm : (BT.vecT (some b') e false (rows ++ rows') c' :: H.eraseIdx i).Perm (H.set i (.vecT (some b') e false (rows ++ rows') c')) := by
    rw [hset, List.eraseIdx_eq_take_drop_succ]
    exact List.perm_middle.symm
   have hsub : (BT.vecT (some b') e false (rows ++ rows') c' :: H.eraseIdx i).Sublist (BT.vecT (some b') e false (rows ++ rows') c' :: H) := (List.eraseIdx_sublist H i).cons_cons _
   refine ⟨_, _, .vs (some b') (rows ++ rows').length c', H.set i (.vecT (some b') e false (rows ++ rows') c'), F', hrun, ⟨some b', c', At, At⟩, ?_, (hHr.sublist hsub).perm hperm, by rw [← hlen]; exact hrep⟩
   have := (t1.trans hH.bd ht).sublist hsub
   exact { this with keys := fun o ho => this.keys o (hperm.mem_iff.2 ho) }
theorem Om {T e : TypeId} {b n c i : Nat} {fr : Bool} {rows : List (List PV)} (hx : ρ x = .vs (some b) n c) (hi : H[i]? = some (.vecT (some b) e fr rows c)) (h0 : Nat.blt 0 rows.length = true) :
  Dg P ⟨dst, .call { callee := .builtin .unsafeSliceData, args := #[x], argTypes := #[T] }, ty, pos, aft, g⟩ ρ H (.ptr b 0) H :=
 CT fun F w E hH hE => by
  have h1 := hE x Aa
  rw [hx] at h1
  simp only [CR] at h1
  obtain ⟨vs, _, _, hcl, _⟩ := hH.obj _ (List.mem_of_getElem? hi)
  refine ⟨.pointer (some ⟨b, 0, none⟩), ?_, by simp [CR]⟩
  have := Go.Lib.run_unsafeSliceData_row (P := P) (w := w) #[T] ty ⟨b, 0, none⟩ n c (by rw [Nat.blt_eq] at h0; omega)
  simp only [execOp, resolve, invoke, builtin, List.map_toArray, List.map_cons, List.map_nil, h1, Sem.run_bind, this, Result.andThen_ok, Sem.run_pure, pure_bind]
theorem Qw {w : World} {b n : Nat} {vs : Array Value} {T : TypeId} {fr : Bool} (hb : w.heap[b]? = some (.cells vs T (0, if fr then n else 0))) (hn : n ≠ 0) : w.freeze ⟨b, 0, none⟩ n = { w with heap := w.heap.setIfInBounds b (.cells vs T (0, n)) } := by
 obtain ⟨hlt, hg⟩ := Array.getElem?_eq_some_iff.1 hb
 unfold World.freeze
 rw [if_neg hn]
 congr 1
 apply Array.ext
 ·simp
 ·intro i h1 h2
  simp only [Array.getElem_modify, Array.getElem_setIfInBounds]
  split
  ·rename_i hi
   subst hi
   rw [hg]
   cases fr
   ·simp
   ·simp [Ne.symm hn]
  ·rename_i hi
   rw [Array.getElem_setIfInBounds, if_neg hi]
theorem KP {F : Nat → Prop} {w : World} {b : Nat} : ∀ {l : List UInt8} {o : Nat}, B9 F w b 1 o (l.map fun b => [PV.int .u8 b.toNat]) → ∀ j x, l[j]? = some x → w.cell? ⟨b, o + j, none⟩ = some (.int .u8 x.toNat)
 | [], o, _, j, x, h => by simp at h
 | a :: l, o, h, j, x, hj => by
  simp only [List.map_cons, B9, CZ, CV] at h
  obtain ⟨_, ⟨⟨v, h1, h2⟩, _⟩, h3⟩ := h
  cases j with
  | zero => simp at hj; subst hj; subst h2; exact h1
  | succ j => have := KP h3 j x (by simpa using hj); rw [show o + (j + 1) = o + 1 + j by omega]; exact this
theorem QS {F : Nat → Prop} {w : World} {b : Nat} {s : ByteArray} (h : B9 F w b 1 0 (EP s)) : ∀ j x, s.data.toList[j]? = some x → w.cell? ⟨b, j, none⟩ = some (.int .u8 x.toNat) := fun j x hj => by
 have := KP (o := 0) h j x hj
 rwa [Nat.zero_add] at this
theorem KV {F : Nat → Prop} {w : World} {b : Nat} : ∀ {l : List UInt8} {o : Nat}, (∀ j x, l[j]? = some x → w.cell? ⟨b, o + j, none⟩ = some (.int .u8 x.toNat)) → B9 F w b 1 o (l.map fun b => [PV.int .u8 b.toNat])
 | [], o, _ => by simp [B9]
 | a :: l, o, h => by
  simp only [List.map_cons, B9, CZ, CV]
  exact ⟨At, ⟨⟨_, h 0 a At, At⟩, trivial⟩, KV fun j x hj => by rw [show o + 1 + j = o + (j + 1) by omega]; exact h (j + 1) x (by simpa using hj)⟩
theorem Po {F : Nat → Prop} {w : World} {b : Nat} {s : ByteArray} (h : ∀ j x, s.data.toList[j]? = some x → w.cell? ⟨b, j, none⟩ = some (.int .u8 x.toNat)) : B9 F w b 1 0 (EP s) := KV (o := 0) fun j x hj => by rw [Nat.zero_add]; exact h j x hj
theorem Oj {T U e : TypeId} {b c i : Nat} {fr : Bool} {s : ByteArray} (hp : P.underlying T = some (.pointer e)) (hc1 : P.cellsOf e = 1) (hx : ρ x = .ptr b 0) (hy : ρ y = .p (.int .i64 s.size)) (hi : H[i]? = some (.vecT (some b) e fr (EP s) c)) (h0 : s.size ≠ 0) (h63 : s.size ≤ 9223372036854775807) :
  Dg P ⟨dst, .call { callee := .builtin .unsafeString, args := #[x, y], argTypes := #[T, U] }, ty, pos, aft, g⟩ ρ H (.p (.str s)) (H.set i (.vecT (some b) e true (EP s) c)) :=
 (FF (R := dB (.p (.str s)) (H.set i (.vecT (some b) e true (EP s) c)))) fun F w E hH hE => by
  have h1 := hE x Aa
  have h2 := hE y Aa
  rw [hx] at h1
  rw [hy] at h2
  simp only [CR, CV] at h1 h2
  obtain ⟨vs, hb, hcs, hcl, hrows⟩ := hH.obj _ (List.mem_of_getElem? hi)
  have hFb : F b := hH.sub _ (List.mem_of_getElem? hi) b rfl
  have hlt := hH.bd b hFb
  rw [G0] at hcl hb
  have hl : s.data.toList.length = s.size := by simp
  have hce : ∀ (w' : World) (fz : Nat × Nat), w'.heap[b]? = some (.cells vs e fz) → ∀ j, w'.cell? ⟨b, j, none⟩ = vs[j]? := fun w' fz h j => by simp [World.cell?, h]
  have hcell := QS hrows
  have hrun := Go.Lib.run_unsafeString_row (P := P) (w := w) T U ty e hp hc1 b vs.size (by simp [World.shape?, hb]) s.data.toList (by intro q; rw [q] at hl; exact h0 hl.symm) (by rw [hl]; omega) Ar (fun j x hj => by have := hcell j x hj; rw [Addr.add_mid, Nat.zero_add]; exact this)
  rw [hl, Qw hb h0] at hrun
  have hw : FY b (.cells vs e (0, s.size)) w { w with heap := w.heap.setIfInBounds b (.cells vs e (0, s.size)) } := ⟨rfl, rfl, rfl, rfl⟩
  refine ⟨.string s, _, .p (.str s), _, F, ?_, ⟨At, At⟩, hw.trans hi At At, hw.HRel hH hi At At ⟨vs, by rw [hw.self hlt, G0]; simp, hcs, by rw [G0]; omega, Po fun j x hj => ?_⟩, by simp [CR, CV]⟩
  ·simp only [execOp, resolve, invoke, builtin, List.map_toArray, List.map_cons, List.map_nil, h1, h2, Sem.run_bind, hrun, Result.andThen_ok, Sem.run_pure, pure_bind]
  ·rw [hce _ _ (hw.self hlt)]
   rw [← hce w _ hb]
   exact hcell j x hj
theorem Ej {a b : ByteArray} {T U : TypeId} (hx : ρ x = .p (.str a)) (hy : ρ y = .p (.str b)) (hsz : a.size + b.size ≤ 9223372036854775807) : Dg P ⟨dst, .binOp .add T x y U, ty, pos, aft, g⟩ ρ H (.p (.str (a ++ b))) H :=
 CT fun F w E hH hE => by
  have e1 := hE x Ah
  have e2 := hE y Ah
  rw [hx] at e1
  rw [hy] at e2
  simp only [CR, CV] at e1 e2
  have hm : ¬ (((a.size + b.size : Nat) : Int) > IntKind.i64.max) := by rw [show IntKind.i64.max = 9223372036854775807 from rfl]; omega
  have h1 : (Op.stringOp .add a b).run P w = .ok (.string (a ++ b)) w := by
   unfold Op.stringOp
   simp only [if_neg hm]
   rfl
  exact ⟨.string (a ++ b), by simp [execOp, Sem.run_bind, Ji, e1, e2, binOp, h1], by simp [CR, CV]⟩
theorem Jf (op : BinOp) (t : TypeId) (a b : Option Addr) (w : World) : (eqGuard op t x y (.pointer a) (.pointer b)).run P w = .ok () w := by
 unfold eqGuard
 split <;> rfl
theorem SM {T U : TypeId} {t : TypeId} (hT : P.underlying T = some (.pointer t)) (hx : ρ x = .nilp) (hy : ρ y = .nilp) : Dg P ⟨dst, .binOp .eql T x y U, ty, pos, aft, g⟩ ρ H (.p (.bool true)) H :=
 CT fun F w E hH hE => by
  have e1 := hE x Ah
  have e2 := hE y Ah
  rw [hx] at e1
  rw [hy] at e2
  simp only [CR] at e1 e2
  refine ⟨.bool true, ?_, by simp [CR, CV]⟩
  have h : ∀ d : Nat, (Op.equalIn (d + 1) T (.pointer none) (.pointer none)).run P w = .ok true w := fun d => by
   simp [Op.equalIn, run_underlying hT]
  have h2 : (binOp .eql T (.pointer none) (.pointer none)).run P w = .ok (.bool true) w := by
   simp only [binOp]
   simp [Op.equal, Op.maxDepth, h 9999]
  simp only [execOp, Sem.run_bind, Jf, e1, e2, h2, Result.andThen_ok, Sem.run_pure]
theorem OW {T U : TypeId} {t : TypeId} {b o : Nat} (hT : P.underlying T = some (.pointer t)) (hx : ρ x = .ptr b o) (hy : ρ y = .nilp) : Dg P ⟨dst, .binOp .eql T x y U, ty, pos, aft, g⟩ ρ H (.p (.bool false)) H :=
 CT fun F w E hH hE => by
  have e1 := hE x Ah
  have e2 := hE y Ah
  rw [hx] at e1
  rw [hy] at e2
  simp only [CR] at e1 e2
  refine ⟨.bool false, ?_, by simp [CR, CV]⟩
  have h : ∀ d : Nat, (Op.equalIn (d + 1) T (.pointer (some ⟨b, o, none⟩)) (.pointer none)).run P w = .ok false w := fun d => by
   simp [Op.equalIn, run_underlying hT]
  have h2 : (binOp .eql T (.pointer (some ⟨b, o, none⟩)) (.pointer none)).run P w = .ok (.bool false) w := by
   simp only [binOp]
   simp [Op.equal, Op.maxDepth, h 9999]
  simp only [execOp, Sem.run_bind, Jf, e1, e2, h2, Result.andThen_ok, Sem.run_pure]
theorem Qa {T U : TypeId} {t : TypeId} {j : TypeInfo} {b o : Nat} (hT : P.underlying T = some (.pointer t)) (ht : P.info? t = some j) (hx : ρ x = .ptr b o) (hy : ρ y = .ptr b o) : Dg P ⟨dst, .binOp .neq T x y U, ty, pos, aft, g⟩ ρ H (.p (.bool false)) H :=
 CT fun F w E hH hE => by
  have e1 := hE x Ah
  have e2 := hE y Ah
  rw [hx] at e1
  rw [hy] at e2
  simp only [CR] at e1 e2
  refine ⟨.bool false, ?_, by simp [CR, CV]⟩
  have := Go.Lib.run_neq_ptr_same (P := P) w ⟨b, o, none⟩ hT ht
  simp [execOp, Sem.run_bind, Jf, e1, e2, this]
end
section
variable {P : Program} {r : Option Nat} {ops : Array Oper} {Q : Cy → B2 → Prop} {k : Nat} {n : Nat} {τ : Nat → AV} {H H' : List BT} {D : List EB} {dst : Option Tmp} {op : Op} {ty : TypeId} {pos : String} {aft : Array Edge} {g : Option (Nat × Bool)} {v : AV}
theorem Tc {T : TypeId} {cs : List AV} (ho : ops[k]? = some ⟨dst, op, ty, pos, aft, none⟩) (hd : Ht dst n = true) (h : DB P ⟨dst, op, ty, pos, aft, none⟩ (ev τ) H (Sz T cs H))
  (next : ∀ b, AL P r ops (k + 1) ⟨n, put τ dst (.ptr b 0), .boxT b T cs :: H, D⟩ Q) : AL P r ops k ⟨n, τ, H, D⟩ Q :=
 Ep (S := ⟨n, τ, H, D⟩) ho Al (GW hd) h (fun v H' ⟨b, h1, h2⟩ => by subst h1; subst h2; exact next b) (fun _ _ h => h.elim)
theorem XY {i : Nat} {e : TypeId} {rows : List (List PV)} (ho : ops[k]? = some ⟨dst, op, ty, pos, aft, none⟩) (hd : Ht dst n = true) (h : DB P ⟨dst, op, ty, pos, aft, none⟩ (ev τ) H (appendTR i e rows H))
  (next : ∀ o c, AL P r ops (k + 1) ⟨n, put τ dst (.vs o rows.length c), H.set i (.vecT o e false rows c), D⟩ Q) : AL P r ops k ⟨n, τ, H, D⟩ Q :=
 Ep (S := ⟨n, τ, H, D⟩) ho Al (GW hd) h (fun v H' ⟨o, c, h1, h2⟩ => by subst h1; subst h2; exact next o c) (fun _ _ h => h.elim)
end
section
variable {P : Program} {dst : Option Tmp} {ty : TypeId} {pos : String} {aft : Array Edge} {g : Option (Nat × Bool)} {ρ : Operand → AV} {H : List BT} {x f : Operand}
theorem QB {c : Call} {fid : FuncId} {fn : Func} {b o : Nat} (hc : c.callee = .value f) (hf : ρ f = .p (.fn fid)) (ha : c.args = #[x]) (hx : ρ x = .ptr b o) (hfn : P.funcs[fid]? = some fn) (hname : (fn.name == "runtime.NumGoroutine") = false) (hb : fn.body.isNone = true) (hn : Extern.findNext fn = none) (he : Extern.find fn = some Extern.AbiNoEscape.same) :
  Dg P ⟨dst, .call c, ty, pos, aft, g⟩ ρ H (.ptr b o) H :=
 CT fun F w E hH hE => by
  have h1 := hE x (by simp [Op.operands, Call.operands, ha])
  have h2 := hE f (by simp [Op.operands, Call.operands, hc])
  rw [hx] at h1
  rw [hf] at h2
  simp only [CR, CV] at h1 h2
  refine ⟨.pointer (some ⟨b, o, none⟩), ?_, by simp [CR]⟩
  have h3 := run_callFunc_extern (P := P) hfn hname hb hn he #[.pointer (some ⟨b, o, none⟩)] w
  rw [Go.Lib.run_noEscape] at h3
  simp [execOp, resolve, hc, Deferred.ofValue, h2, invoke, ha, h1, h3]
end
theorem Ln {P : Program} {f : FuncId} {GL : List (Nat × Obj)} {A : List AV} {u : Value} {v : PV} (hen : Bf P f = true) (hu : ∀ F w, CR F w (.p v) u) (h : ∀ F (w : World) vs, (∀ p ∈ GL, w.heap[p.1]? = some p.2) → B0 F w A vs → Calls P f ⟨vs⟩ w fun e w' => e = .returned u ∧ Go.RowKit.Below w.heap.size w w') :
  Bt P f A [.glob GL] (DC (.p v) [.glob GL]) := by
 refine ⟨hen, fun F w vs hH hv => ?_⟩
 have hg := hH.obj _ (List.mem_singleton.2 rfl)
 refine (h F w vs (fun p hp => (hg p hp).1) hv).mono ?_
 rintro e w' ⟨rfl, hb⟩
 refine ⟨.val (.p v), [.glob GL], F, ⟨At, At⟩, ⟨u, At, hu _ _⟩, ⟨fun o ho b hk => ?_, (by show ([] : List Nat).Nodup; exact List.nodup_nil), fun o ho => ?_, fun b hF => Nat.lt_of_lt_of_le (hH.bd b hF) hb.size⟩, ⟨hb.size, fun b hlt _ => hb.block b hlt, fun b hF _ => hF, fun b hF => .inl hF, fun o ho b hk => ?_, hb.os, hb.output, hb.tape⟩⟩
 ·rw [List.mem_singleton] at ho; subst ho; simp [BT.key] at hk
 ·rw [List.mem_singleton] at ho; subst ho
  intro p hp
  obtain ⟨h1, h2⟩ := hg p hp
  exact ⟨by rw [hb.block _ (Array.getElem?_eq_some_iff.1 h1).1]; exact h1, h2⟩
 ·rw [List.mem_singleton] at ho; subst ho; simp [BT.key] at hk
section
variable {P : Program} {ops : Array Oper} {n : Nat} {τ₀ τ : Nat → AV} {D : List EB} {Q : Cy → B2 → Prop} {opn : Nat → Bool} {k : Nat} {T : List BT} {dst : Option Tmp} {ty : TypeId} {pos : String} {aft : Array Edge} {c : Call} {f : Operand} {fid : FuncId} {first caps A : List AV} {v : AV} {C : List BT → Prop}
theorem GD {r : Option Nat} (fr : List BT) (ho : ops[k]? = some ⟨dst, .call c, ty, pos, aft, none⟩) (hd : Ht dst n = true)
  (hc : c.callee = .value f) (hf : (ev τ f = .p (.fn fid) ∧ first = [] ∧ caps = []) ∨ ev τ f = .fn (.func fid) first caps) (h : Bt P fid A T (Gm v C)) (hA : G1 (first ++ c.args.toList.map (ev τ) ++ caps) A)
  (next : ∀ T', C T' → AL P r ops (k + 1) ⟨n, put τ dst v, fr ++ T', D⟩ Q) : AL P r ops k ⟨n, τ, fr ++ T, D⟩ Q :=
 Gk fr ho hd hc hf h hA (fun v' T' ⟨h1, h2⟩ => by subst h1; exact next T' h2) (fun _ _ h => h.elim)
theorem F4 {rd ef effs fx} (fr : List BT) (fx' : List (Nat × Sp)) (ho : ops[k]? = some ⟨dst, .call c, ty, pos, aft, none⟩) (hn : opn k = true)
  (hc : c.callee = .value f) (hf : (ev τ f = .p (.fn fid) ∧ first = [] ∧ caps = []) ∨ ev τ f = .fn (.func fid) first caps) (h : Bt P fid A T (Gm v C)) (hA : G1 (first ++ c.args.toList.map (ev τ) ++ caps) A) (haft : Ev ops k (fx'.map (·.1)) = true) (hex : ∃ T', C T')
  (next : ∀ T', C T' → Kr ops k (fr ++ T) (fr ++ T') rd ∧ Hq k (.eff v (fr ++ T')) fx ∧ Dr P ops n τ₀ D Q opn (k + 1) (put τ dst v) (fr ++ T') rd ((k, fr ++ T, fr ++ T') :: ef) (true :: effs) (fx' ++ fx)) : Dr P ops n τ₀ D Q opn k τ (fr ++ T) rd ef effs fx := by
 have hop : DB P ⟨dst, .call c, ty, pos, aft, none⟩ (ev τ) (fr ++ T) (fun r H' => ∃ T', Gm v C r T' ∧ H' = fr ++ T') := by
  refine DB.permR (Ho (H := fr ++ T) (Hs := T) (Hf := fr) hc hf List.perm_append_comm (h.args hA) (.inl At)) ?_
  rintro r H1 ⟨T', hR, rfl⟩
  exact ⟨fr ++ T', List.perm_append_comm, T', hR, At⟩
 obtain ⟨T', hT⟩ := hex
 exact LI fx' ho hn hop haft ⟨v, _, T', ⟨At, hT⟩, At⟩ (fun _ _ ⟨_, h, _⟩ => h.elim) (fun v' H' ⟨T', ⟨h1, h2⟩, h3⟩ => by subst h1; subst h3; exact next T' h2)
end
def Gq (l : List UInt8) : List (List PV) := l.map fun b => [PV.int .u8 b.toNat]
theorem Tx (s : ByteArray) : EP s = Gq s.data.toList := rfl
theorem KB (l : List UInt8) : (Gq l).length = l.length := by simp [Gq]
theorem P8 (a b : List UInt8) : Gq a ++ Gq b = Gq (a ++ b) := by simp [Gq]
def BW (U e : TypeId) (b : Nat) (l : List UInt8) (T : List BT) : Prop :=
 ∃ a o cp, (a = .nilp ∨ a = .ptr b 0) ∧ T = [.boxT b U [a, .vs o (Gq l).length cp], .vecT o e false (Gq l) cp]
def BX (U e : TypeId) (b : Nat) (l : List UInt8) (T : List BT) : Prop :=
 ∃ a o cp fr, T = [.boxT b U [a, .vs (some o) (Gq l).length cp], .vecT (some o) e fr (Gq l) cp]
def Rv (l : List UInt8) : ByteArray := ⟨l.toArray⟩
theorem K3 (l : List UInt8) : (Rv l).size = l.length := by simp [Rv, ByteArray.size]
theorem TQ (U e : TypeId) (b : Nat) : BW U e b [] [.boxT b U [.nilp, .vs none 0 0], .vecT none e false [] 0] := ⟨.nilp, none, 0, .inl rfl, rfl⟩
theorem ay {b : Nat} {T : TypeId} {cs cs' : List AV} (h : G1 cs cs') : KO (.boxT b T cs) (.boxT b T cs') := ⟨rfl, fun F w hr => by
 obtain ⟨vs, h1, h2⟩ := hr
 exact ⟨vs, h1, Jo h h2⟩⟩
theorem Md {n : Nat} {τ : Nat → AV} {H : List BT} {D : List EB} {e : TypeId} : Gs ⟨n, τ, H, D⟩ ⟨n, τ, .vecT none e false [] 0 :: H, D⟩ := by
 intro F a w hs
 have hH : HRel F (.vecT none e false [] 0 :: H) w := ⟨fun o ho b hb => by
   rcases List.mem_cons.1 ho with rfl | ho
   ·cases hb
   ·exact hs.heap.sub o ho b hb, by simpa [List.filterMap_cons, BT.key] using hs.heap.nodup, fun o ho => by
   rcases List.mem_cons.1 ho with rfl | ho
   ·exact ⟨At, At⟩
   ·exact hs.heap.obj o ho, hs.heap.bd⟩
 refine ⟨F, ⟨hs.size, hs.tmp, hH, hs.defs⟩, { Trans.refl (F := F) (H := H) (w := w) with keys := fun o ho b hb => ?_ }⟩
 rcases List.mem_cons.1 ho with rfl | ho
 ·cases hb
 ·exact .inl ⟨o, ho, hb⟩
theorem Pe {P : Program} {f : FuncId} {A : List AV} {H : List BT} {R : Db → List BT → Prop} {o : Option Nat} {e : TypeId} {fr : Bool} {rows : List (List PV)} {c : Nat} (hm : BT.vecT o e fr rows c ∈ H) (hne : rows ≠ []) (hen : Bf P f = true) (h : ∀ b, o = some b → Bt P f A H R) : Bt P f A H R := by
 refine ⟨hen, fun F w vs hH hv => ?_⟩
 cases o with
 | none => exact absurd (hH.obj _ hm).1 hne
 | some b => exact (h b rfl).2 F w vs hH hv
section
variable {P : Program} {dst : Option Tmp} {ty : TypeId} {pos : String} {aft : Array Edge} {g : Option (Nat × Bool)} {ρ : Operand → AV} {H : List BT} {x y z : Operand}
theorem JQ {T e : TypeId} {b i : Nat} {l : List (ByteArray × AV)} {k : ByteArray} {zv : Value} {za v : AV} {ok : Bool} (hT : Km P T = some e) (hz : zeroOf P e = some zv) (hza : ∀ F w, CR F w za zv) (hx : ρ x = .map b) (hy : ρ y = .p (.str k)) (hi : H[i]? = some (.map b (Du l))) (hv : (KG k l).getD za = v) (hok : (KG k l).isSome = ok) :
  Dg P ⟨dst, .lookup T x y true, ty, pos, aft, g⟩ ρ H (.tup [v, .p (.bool ok)]) H := by subst hv; subst hok; exact Od hT hz hza hx hy hi
theorem Mm {T e : TypeId} {b i : Nat} {l l' : List (ByteArray × AV)} {k : ByteArray} {va : AV} (hT : Km P T = some e) (hx : ρ x = .map b) (hy : ρ y = .p (.str k)) (hz : ρ z = va) (hi : H[i]? = some (.map b (Du l))) (hl : sset k va l = l') :
  Dg P ⟨dst, .mapUpdate T x y z, ty, pos, aft, g⟩ ρ H (.p .any) (H.set i (.map b (Du l'))) := by subst hl; exact Ng hT hx hy hz hi
end
theorem MW {P : Program} {f : FuncId} {A : List AV} {H H' : List BT} {R R' : Db → List BT → Prop} (h : Bt P f A H R) (hp : H'.Perm H) (hr : ∀ r H1, R r H1 → ∃ H2, H1.Perm H2 ∧ R' r H2) : Bt P f A H' R' := by
 refine ⟨h.1, fun F w vs hH hv => (h.2 F w vs (hH.perm hp) hv).mono ?_⟩
 rintro e w' ⟨r, H1, F', h1, h2, h3, h4⟩
 obtain ⟨H2, hp2, hR⟩ := hr r H1 h1
 refine ⟨r, H2, F', hR, h2, h3.perm hp2, ?_⟩
 exact ⟨h4.size, fun b hb hn => h4.same b hb fun o ho => hn o (hp.mem_iff.2 ho), fun b hb hn => h4.keep b hb fun o ho => hn o (hp.mem_iff.2 ho), h4.fresh, fun o ho b hk => by
  rcases h4.keys o (hp2.mem_iff.2 ho) b hk with ⟨o', ho', hk'⟩ | h5
  ·exact .inl ⟨o', hp.mem_iff.2 ho', hk'⟩
  ·exact .inr h5, h4.os, h4.out, h4.tape⟩
theorem Pj {P : Program} {f : FuncId} {A : List AV} {Hs : List BT} {R : Db → List BT → Prop} (h : Bt P f A Hs R) (Hf : List BT) : Bt P f A (Hs ++ Hf) (fun r H' => ∃ H1, R r H1 ∧ H' = H1 ++ Hf) := by
 refine ⟨h.1, fun F w vs hH hv => (h.2 F w vs (hH.sublist (List.sublist_append_left _ _)) hv).mono ?_⟩
 rintro e w' ⟨r, H1, F', h1, h2, h3, h4⟩
 exact ⟨r, H1 ++ Hf, F', ⟨H1, h1, At⟩, h2, hH.frame h3 h4, h4.frame (H := Hs ++ Hf) (List.Perm.refl _)⟩
end Go.Abs
namespace Go.Proofs.YtapmjpihennhaaaGreatDoor
open Go.Abs Go.Eu
theorem NI : Tryz.prog.underlying 183 = some (.pointer 186) := by kernel_rfl
theorem TJ : Tryz.prog.underlying 227 = some .unsafePointer := by kernel_rfl
theorem YF : (Tryz.prog.info? 186).isSome = true := by kernel_rfl
noncomputable def br : TypeInfo := (Tryz.prog.info? 186).get YF
theorem SZ : Tryz.prog.info? 186 = some br := (Option.some_get YF).symm
theorem XT : (br.size == 0) = false := by kernel_rfl
theorem Wn : liesAt Tryz.prog Tryz.prog.depth 186 (2 / Tryz.prog.cellsOf 186) 0 186 1 = true := by kernel_rfl
theorem XI : Tryz.prog.underlying 214 = some (.pointer 5) := by kernel_rfl
theorem cellsByte : Tryz.prog.cellsOf 5 = 1 := by kernel_rfl
theorem cr : ∀ (b : Nat) (v : AV), Bt Tryz.prog 153 [.ptr b 0] [.boxT b 186 [.nilp, v]] (DC (.tup []) [.boxT b 186 [.ptr b 0, v]]) := by
 intro b v
 refine A8 Tryz.func153 At YD (n := 20) At At (Ax (Av (Au At At (Aw At) (Au At At (Bd At) (Au At At (A1 MY At At) (Au At At (EX (i := 0) TY At At At) (Au At At (SM NI At At) (Az At ?_))))))))
 refine A9 At (fun c => ?_) (fun c => by cases c)
 refine Av (Au At At (Aw At) (Au At At (Aw At) (Au At At (Pw (i := 0) NI TJ SZ XT At At At) (Au At At (QB At At At At Tryz.func158 An An An An) (Au At At (NJ (i := 0) (cs := [_, _]) TJ NI SZ Wn At At) (Au At At (Bd At) (Au At At (A1 MY At At) (Au At At (JL (i := 0) TY At At At At At At) (Az At ⟨At, _, _, At, (Cj (is := [0]) At), ?_⟩)))))))))
 all_goals exact ⟨rfl, rfl⟩
theorem bX : ∀ (b : Nat) (v : AV), Bt Tryz.prog 153 [.ptr b 0] [.boxT b 186 [.ptr b 0, v]] (DC (.tup []) [.boxT b 186 [.ptr b 0, v]]) := by
 intro b v
 refine A8 Tryz.func153 At YD (n := 20) At At (Ax (Av (Au At At (Aw At) (Au At At (Bd At) (Au At At (A1 MY At At) (Au At At (EX (i := 0) TY At At At) (Au At At (OW NI At At) (Az At ?_))))))))
 refine A9 At (fun c => by cases c) (fun c => ?_)
 refine Ax (Av (Au At At (Aw At) (Au At At (Bd At) (Au At At (A1 MY At At) (Au At At (EX (i := 0) TY At At At) (Au At At (Aw At) (Au At At (Qa NI SZ At At) (Az At ?_))))))))
 refine A9 At (fun c1 => by cases c1) (fun c1 => ?_)
 refine BC ⟨At, _, _, At, (Cj (is := [0]) At), ?_⟩
 all_goals exact ⟨rfl, rfl⟩
theorem dX {a v : AV} {b : Nat} (h : a = .nilp ∨ a = .ptr b 0) : Bt Tryz.prog 153 [.ptr b 0] [.boxT b 186 [a, v]] (DC (.tup []) [.boxT b 186 [.ptr b 0, v]]) := by
 rcases h with rfl | rfl
 ·exact cr b v
 ·exact bX b v
theorem Y8 : ∀ (b : Nat) (a : AV) (o : Option Nat) (cp : Nat) (r : List (List PV)) (s : ByteArray), (a = .nilp ∨ a = .ptr b 0) → (r.length + s.size ≤ 70368744177664) → Bt Tryz.prog 142 [.ptr b 0, .p (.str s)] [.boxT b 186 [a, .vs o (r).length cp], .vecT o 5 false (r) cp] (fun x H' => ∃ o' cp', x = .val (.tup [.p (I s.size), .p .nilIface]) ∧ H' = [.boxT b 186 [.ptr b 0, .vs o' (r ++ EP s).length cp'], .vecT o' 5 false (r ++ EP s) cp']) := by
 intro b a o cp r s h1 h2
 refine A8 Tryz.func142 At au (n := 19) At At (Ax (Av (Au At At (Ay At) (Au At At (Ay At) (Az At (Ax (Av (Au At At (Aw At) (Au At At (B6 [0] At (.inl ⟨At, At, At⟩) (dX h1) ⟨_, _, At, At, At⟩ Aq At (.inl At)) (Az At (Ax ?_)))))))))))
 refine Av (Au At At (Aw At) (Au At At (Aw At) (Au At At (Bd At) (Au At At (A1 MY At At) (Au At At (EX (i := 0) Si At At At) (Au At At (Aw At) (XY At At (N3 (i := 1) X9 Ys gU At At At At At At Ar) fun o1 cp1 => Au At At (Bd At) (Au At At (A1 MY At At) (Au At At (JL (i := 0) Si At At At At At At) (Az At ?_))))))))))
 refine Ax (Av (Au At At (Aw At) (Au At At (Gx Ys At) (Au At At (Ay At) (Au At At (Ay At) (Az At (BB (⟨At, _, _, ⟨_, _, At, At, ⟨_, _, At, At, At⟩⟩, (Cj (is := [0, 1]) At), ?_⟩))))))))
 exact ⟨_, _, At, At⟩
theorem Vz {b : Nat} {l : List UInt8} {s : ByteArray} {T : List BT} (h : l.length + s.size ≤ 70368744177664) (hB : BW 186 5 b l T) : Bt Tryz.prog 142 [.ptr b 0, .p (.str s)] T (Gm (.tup [.p (I s.size), .p .nilIface]) (BW 186 5 b (l ++ s.data.toList))) := by
 obtain ⟨a, o, cp, ha, rfl⟩ := hB
 refine (Y8 b a o cp (Gq l) s ha (by rw [KB]; exact h)).mono ?_
 rintro r H' ⟨o', cp', rfl, rfl⟩
 exact ⟨At, .ptr b 0, o', cp', .inr At, by rw [Tx, P8]⟩
theorem Yn : ∀ (b : Nat) (a : AV) (o : Nat) (cp : Nat) (fr : Bool) (l : List UInt8), (0 < l.length) → (l.length ≤ 70368744177664) → Bt Tryz.prog 123 [.ptr b 0] [.boxT b 186 [a, .vs (some o) (Gq l).length cp], .vecT (some o) 5 fr (Gq l) cp] (fun x H' => x = .val (.p (.str (Rv l))) ∧ H' = [.boxT b 186 [a, .vs (some o) (Gq l).length cp], .vecT (some o) 5 true (Gq l) cp]) := by
 intro b a o cp fr l h1 h2
 refine A8 Tryz.func123 At YZ (n := 14) At At (Ax (Av (Au At At (Ay At) (Az At (Ax (CQ (fun k => false) D0 (A4 At At (fun _ => Aw At) trivial (A4 At At (fun _ => Bd At) trivial (A4 At At (fun _ => A1 MY At At) trivial (BQ (j := 0) At At At (fun H i hi => EX (i := i) Si At hi At) AA trivial (BQ (j := 1) At At At (fun H i hi => Om (i := i) At hi (by rw [KB, Nat.blt_eq]; exact h1)) AA trivial ?_)))))))))))
 refine A4 At At (fun _ => Aw At) trivial (A4 At At (fun _ => Bd At) trivial (A4 At At (fun _ => A1 MY At At) trivial (BQ (j := 0) At At At (fun H i hi => EX (i := i) Si At hi At) AA trivial (A4 At At (fun _ => JO X9 At (KB _)) trivial (Cr At At (Oj (i := 1) (s := Rv l) XI cellsByte At At At (by rw [K3]; omega) (by rw [K3]; omega)) AA trivial (A4 At At (fun _ => Ay At) trivial (CK At An (BB (⟨At, _, _, ⟨_, _, At, At, At⟩, (Cj (is := [0, 1]) At), ?_⟩)))))))))
 exact ⟨At, At⟩
end Go.Proofs.YtapmjpihennhaaaGreatDoor
