/- Part of the proofs: an abstract program logic, plain models and contracts of functions. -/
import Derived.Test.YtapmjpihennhaaaGreatDoorPh
set_option linter.unusedVariables false
set_option linter.unusedSimpArgs false
set_option maxRecDepth 100000
namespace Go.Proofs.YtapmjpihennhaaaGreatDoor
open Go.Abs Go.Eu
theorem Yo : ∀ (b0 : Nat) (t a : Tm), (Nd t) → Bt Tryz.prog 33 [.agg ((Be a).map .p), .ptr b0 0] [.box b0 ((Be t).map .p)] (DC (.p (.bool (Mx t a))) [.box b0 ((Be t).map .p)]) := by
 intro b0 t a h1
 refine A8 Tryz.func33 At eJ (n := 7) At At (Ax (Av (BM At At (Bh At) fun b2 => Au At At (Ay At) (Az At (Ax (Av (Au At At (A0 (i := 1) BO At At Ak) (Au At At (A0 (i := 0) BO At At Ak) (Au At At (Bg At At (Kl _ t a (Nat.le_refl _) h1) At) (Au At At (Ay At) ?_))))))))))
 refine Az At (BB (⟨At, _, _, ⟨_, _, At, At, At⟩, (Cj (is := [1]) At), ?_⟩))
 all_goals exact ⟨rfl, rfl⟩
theorem XA : ∀ (b0 : Nat) (t : Tm) (l : List Tm), (Nd t) → (l.length < 1000000) → Bt Tryz.prog 50 [.p (.lst (BR l)), .fn (.func 33) [] [.ptr b0 0]] [.box b0 ((Be t).map .p)] (DC (.p (I (SP l t))) [.box b0 ((Be t).map .p)]) := by
 intro b0 t l h1 h2
 refine A8 Tryz.func50 At Zk (n := 19) At At (Ax (Av (Au At At (Ay At) (Az At (Ax (Ax (Av (Au At At (Aw At) (Au At At (Bp By At (Bo _)) (Au At At (Aw At) (Az At ?_)))))))))))
 refine Ba ?_
 refine CM (α := Nat) (fun i => ⟨19, mk [(0, .p (.lst (BR l))), (1, .fn (.func 33) [] [.ptr b0 0]), (7, .p (I (l.length : Nat))), (8, .p (I (i : Int)))], [.box b0 ((Be t).map .p)], []⟩) (fun i => l.length - i) (fun i => i ≤ l.length ∧ (∀ j, j < i → ∀ y, l[j]? = some y → y ≠ t)) 0 (⟨by omega, fun j h => by omega⟩) ?_ ?_
 ·exact B8 ⟨we At, we At, we At, we At, trivial⟩ (leH (is := [0]) At (wl (oe At) (D4)))
 rintro i hC
 try simp only at hC
 obtain ⟨hi, hC⟩ := hC
 refine Ax (Av (Au At At (BA At At At) (Az At (Ax (A9 At (fun c => ?_) (fun c => ?_))))))
 ·(try simp only [sd, se] at c)
  refine BC (Ax (Ba (Ax (Av (Au At At (Aw At) (Au At At (Ay At) (Az At (Ax (Av (Au At At (Aw At) (Au At At (Aw At) ?_)))))))))))
  refine Au At At (Aw At) ?_
  obtain ⟨x, hx⟩ := BP (l := l) (i := i) Ar
  refine Au At At (BL By At At Ar (CH hx) (Bj _)) (Au At At (Bi BO At (Bj _)) (Au At At (B6 [0] At (.inr At) (Yo b0 t x h1) ⟨_, _, At, At, At⟩ Aq At (.inl At)) (Az At (A9 At (fun c1 => ?_) (fun c1 => ?_)))))
  ·(try simp only [sd, se] at c1)
   refine Ax (Av (Au At At (Aw At) (Au At At (Ay At) (Az At (BB (⟨At, _, _, ⟨_, _, At, At, At⟩, (Cj (is := [0]) At), ?_⟩))))))
   all_goals exact ⟨by show (.p (I (i : Int)) : AV) = _; rw [L0 hx ((F9.1 (by simpa using c1)).symm) hC], rfl⟩
  ·(try simp only [sd, se] at c1)
   refine BC (Av (Au At At (CS At At Ar Ar) (Au At At (Aw At) (Az At ?_))))
   refine ⟨(i + 1), AZ, ⟨by omega, Dl (p := fun _ (y : Tm) => y ≠ t) hC hx (fun e => by subst e; simp [C3] at c1)⟩, B8 ⟨we rfl, we rfl, we rfl, we rfl, trivial⟩ (leH (is := [0]) rfl (wl (oe rfl) (D4)))⟩
 ·(try simp only [sd, se] at c)
  refine CL (Ax (Av (Au At At (Ay At) (Az At (BB (⟨At, _, _, ⟨_, _, At, At, At⟩, (Cj (is := [0]) At), ?_⟩))))))
  all_goals exact ⟨by show (.p (I (-1)) : AV) = _; rw [NM fun j hj => hC j Ar], rfl⟩
theorem W3 : ∀ (b0 : Nat) (t : Tm) (l : List Tm), (Nd t) → (l.length < 1000000) → Bt Tryz.prog 27 [.p (.lst (BR l)), .fn (.func 33) [] [.ptr b0 0]] [.box b0 ((Be t).map .p)] (DC (.p (.bool (decide (SP l t ≥ 0)))) [.box b0 ((Be t).map .p)]) := by
 intro b0 t l h1 h2
 refine A8 Tryz.func27 At cl (n := 9) At At (Ax (Av (Au At At (Ay At) (Az At (Ax (Av (Au At At (Aw At) (Au At At (Aw At) (Au At At (B6 [0] At (.inl ⟨At, At, At⟩) (XA b0 t l h1 h2) ⟨_, _, At, At, At⟩ Aq At (.inl At)) (Au At At (BA At At At) (Au At At (Ay At) ?_)))))))))))
 refine Az At (BB (⟨At, _, _, ⟨_, _, At, At, At⟩, (Cj (is := [0]) At), ?_⟩))
 all_goals exact ⟨rfl, rfl⟩
theorem _root_.Go.AG {α : Prop} (h : α := by simp only [List.length_map, List.length_append, List.length_cons, List.length_nil, Bo]; omega) : α := h
theorem Xr : ∀ (GL : List (Nat × Obj)) (hG : Gl GL) (th : BJ) (cs : List Int) (us : List Tm), (th.lemmas.length ≤ 8796093021952) → (cs.length < wide) → (∀ x ∈ cs, -128 ≤ x ∧ x ≤ 127) → (Vt us) → (us.length < wide) → Bt Tryz.prog 8 [.agg ((EE th).map .p), .p (.lst (List.map KW cs)), .p (.lst (BR us))] [.glob GL] (DC (.p (.bool true)) [.glob GL]) := by
 intro GL hG th cs us h1 h2 h3 h4 h5
 have h2b := h2
 have h5b := h5
 simp only [wide] at h2b h5b
 refine A8 Tryz.func8 At gP (n := 130) At At (Ax (Av (BM At At (Bh At) fun b3 => Au At At (Ay At) (Az At (Ax (Ax (CA [1, 2, 3] 56 (fun y => ∃ b : Bool, y = .p (.bool b) ∧ (b = false → ((GP th ∧ RV th) ∧ cs.length = us.length) ∧ us.length ≤ 8 ∧ ∀ t ∈ us, ER t ∧ size t ≤ 200)) ?_ ?_)))))))
 ·refine Av (Au At At (A0 (i := 0) EG At At At) (Ff At At (Bb At At (SN th h1) (.inl At)) ?_))
  rintro _ ⟨b, rfl, hb⟩
  refine Au At At (Cg At) (Au At At (Aw At) (Bm 19 At (fun g => ?_) (fun g => ?_)))
  ·(try simp only [sd, se] at g)
   refine A5 At At At At At (A5 At At At At At (A5 At At At At At (A5 At At At At At (A5 At At At At At (Au At At (A7 At At) (Au At At (Aw At) (A5 At At At At At (A5 At At At At At (A5 At At At At At (Au At At (A7 At At) (Au At At (Aw At) ?_)))))))))))
   refine A5 At At At At At (A5 At At At At At (A5 At At At At At (Au At At (A7 At At) (Au At At (Aw At) (A5 At At At At At (A5 At At At At At (A5 At At At At At (A5 At At At At At (A5 At At At At At (Au At At (A7 At At) (Au At At (Aw At) ?_)))))))))))
   refine A5 At At At At At (A5 At At At At At (A5 At At At At At (A5 At At At At At (A5 At At At At At (Au At At (A7 At At) (Au At At (Aw At) (A5 At At At At At (A5 At At At At At (A5 At At At At At (A5 At At At At At (A5 At At At At At ?_)))))))))))
   exact Au At At (A7 At At) (Az At (⟨At, At, AJ, (by refine ⟨_, rfl, fun h => ?_⟩; first | (exact absurd h Aq) | (simp_all [RV]; done) | (simp_all [RV]; omega)), ⟨At, At, At, trivial⟩⟩))
  ·(try simp only [sd, se] at g)
   refine A3 At At At At (Aw At) (A3 At At At At (Bp SJ At (List.length_map _)) (A3 At At At At (Aw At) (A3 At At At At (Bp By At (Bo _)) (A3 At At At At (BA At At At) (Au At At (A7 At At) (Au At At (Aw At) (Bm 26 At (fun g1 => ?_) (fun g1 => ?_))))))))
   ·(try simp only [sd, se] at g1)
    refine A5 At At At At At (A5 At At At At At (A5 At At At At At (Au At At (A7 At At) (Au At At (Aw At) (A5 At At At At At (A5 At At At At At (A5 At At At At At (Au At At (A7 At At) (Au At At (Aw At) (A5 At At At At At (A5 At At At At At ?_)))))))))))
    refine A5 At At At At At (A5 At At At At At (A5 At At At At At (Au At At (A7 At At) (Au At At (Aw At) (A5 At At At At At (A5 At At At At At (A5 At At At At At (A5 At At At At At (A5 At At At At At (Au At At (A7 At At) (Au At At (Aw At) ?_)))))))))))
    exact A5 At At At At At (A5 At At At At At (A5 At At At At At (A5 At At At At At (A5 At At At At At (Au At At (A7 At At) (Az At (⟨At, At, AJ, (by refine ⟨_, rfl, fun h => ?_⟩; first | (exact absurd h Aq) | (simp_all [RV]; done) | (simp_all [RV]; omega)), ⟨At, At, At, trivial⟩⟩)))))))
   ·(try simp only [sd, se] at g1)
    refine A3 At At At At (Aw At) (A3 At At At At (Bp By At (Bo _)) (A3 At At At At (BA At At At) (Au At At (A7 At At) (Au At At (Aw At) (Bm 31 At (fun g2 => ?_) (fun g2 => ?_))))))
    ·(try simp only [sd, se] at g2)
     refine A5 At At At At At (A5 At At At At At (A5 At At At At At (Au At At (A7 At At) (Au At At (Aw At) (A5 At At At At At (A5 At At At At At (A5 At At At At At (A5 At At At At At (A5 At At At At At (Au At At (A7 At At) (Au At At (Aw At) ?_)))))))))))
     refine A5 At At At At At (A5 At At At At At (A5 At At At At At (A5 At At At At At (A5 At At At At At (Au At At (A7 At At) (Au At At (Aw At) (A5 At At At At At (A5 At At At At At (A5 At At At At At (A5 At At At At At (A5 At At At At At ?_)))))))))))
     exact Au At At (A7 At At) (Az At (⟨At, At, AJ, (by refine ⟨_, rfl, fun h => ?_⟩; first | (exact absurd h Aq) | (simp_all [RV]; done) | (simp_all [RV]; omega)), ⟨At, At, At, trivial⟩⟩))
    ·(try simp only [sd, se] at g2)
     refine A3 At At At At (Aw At) (Js At At At At (Bb At At (Ld us h4 h5) (.inl At)) ?_)
     rintro _ ⟨b1, rfl, hb1⟩
     refine A3 At At At At (Cg At) (Au At At (A7 At At) (Au At At (Aw At) (Bm 36 At (fun g3 => ?_) (fun g3 => ?_))))
     ·(try simp only [sd, se] at g3)
      refine A5 At At At At At (A5 At At At At At (A5 At At At At At (A5 At At At At At (A5 At At At At At (Au At At (A7 At At) (Au At At (Aw At) (A5 At At At At At (A5 At At At At At (A5 At At At At At (A5 At At At At At (A5 At At At At At ?_)))))))))))
      exact Au At At (A7 At At) (Au At At (Aw At) (A5 At At At At At (A5 At At At At At (A5 At At At At At (A5 At At At At At (A5 At At At At At (Au At At (A7 At At) (Az At (⟨At, At, AJ, (by refine ⟨_, rfl, fun h => ?_⟩; first | (exact absurd h Aq) | (simp_all [RV]; done) | (simp_all [RV]; omega)), ⟨At, At, At, trivial⟩⟩)))))))))
     ·(try simp only [sd, se] at g3)
      refine A3 At At At At (A1 DU At At) ?_
      obtain ⟨BG, BD, BE, BF, BH, BI, thm⟩ := th
      refine A3 At At At At (A2 (i := 0) FU At At At) (A3 At At At At (A1 DU At At) (A3 At At At At (A2 (i := 0) FU At At At) (A3 At At At At (Fs At At) (Au At At (A7 At At) (Au At At (Aw At) (Bm 43 At (fun g4 => ?_) (fun g4 => ?_)))))))
      ·(try simp only [sd, se] at g4)
       refine A5 At At At At At (A5 At At At At At (A5 At At At At At (A5 At At At At At (A5 At At At At At (Au At At (A7 At At) (Au At At (Aw At) (A5 At At At At At (A5 At At At At At (A5 At At At At At (A5 At At At At At (A5 At At At At At ?_)))))))))))
       exact Au At At (A7 At At) (Az At (⟨At, At, AJ, (by refine ⟨_, rfl, fun h => ?_⟩; first | (exact absurd h Aq) | (simp_all [RV]; done) | (simp_all [RV]; omega)), ⟨At, At, At, trivial⟩⟩))
      ·(try simp only [sd, se] at g4)
       refine A3 At At At At (A1 DU At At) (A3 At At At At (A2 (i := 0) FU At At At) (A3 At At At At (A1 DU At At) (A3 At At At At (A2 (i := 0) FU At At At) (A3 At At At At (Fs At At) (Au At At (A7 At At) (Au At At (Aw At) (Bm 50 At (fun g5 => ?_) (fun g5 => ?_))))))))
       ·(try simp only [sd, se] at g5)
        exact A5 At At At At At (A5 At At At At At (A5 At At At At At (A5 At At At At At (A5 At At At At At (Au At At (A7 At At) (Az At (⟨At, At, AJ, (by refine ⟨_, rfl, fun h => ?_⟩; first | (exact absurd h Aq) | (simp_all [RV]; done) | (simp_all [RV]; omega)), ⟨At, At, At, trivial⟩⟩)))))))
       ·(try simp only [sd, se] at g5)
        exact A3 At At At At (A1 DU At At) (A3 At At At At (A2 (i := 0) FU At At At) (A3 At At At At (A1 DU At At) (A3 At At At At (A2 (i := 0) FU At At At) (A3 At At At At (Fs At At) (Au At At (A7 At At) (Az At (⟨At, At, AJ, (by refine ⟨_, rfl, fun h => ?_⟩; first | (exact absurd h Aq) | (simp_all [RV]; done) | (simp_all [RV]; omega)), ⟨At, At, At, trivial⟩⟩)))))))
 rintro _ ⟨q, rfl, hq⟩
 refine A9 At (fun c => ?_) (fun c => ?_)
 ·(try simp only [sd, se] at c)
  refine Ax (Av (Au At At (B6 [1] At (.inl ⟨At, At, At⟩) (En GL hG ) ⟨_, _, At, At, At⟩ Aq At (.inl At)) (Au At At (Ay At) (Az At (BB (⟨At, _, _, ⟨_, _, At, At, At⟩, (Cj (is := [1]) At), ?_⟩))))))
  all_goals exact ⟨rfl, rfl⟩
 ·(try simp only [sd, se] at c)
  obtain ⟨⟨⟨hq1, hq2⟩, hq3⟩, hq4, hq5⟩ := hq (by simpa using c)
  refine BC (Ax (Av (Au At At (Ay At) (Au At At (Ay At) (Az At (Ax (Av (Au At At (Ay At) (Az At (Ax (Ax ?_)))))))))))
  refine Av (Au At At (Aw At) (Au At At (Bp By At (Bo _)) (Au At At (Aw At) (Az At (Ba (CG (GZ (t := 7) (sz := 1) At) (CG (GZ (t := 8) (sz := 1) At) (CG (GZ (t := 9) (sz := 5) At) ?_))))))))
  refine CM (α := Nat × List Int × List Int × List Tm × Option Nat × Nat × Option Nat × Nat × Option Nat × Nat) (fun (i, A, W, L, o, cp, o1, cp1, o2, cp2) => ⟨130, mk [(1, .p (.lst (List.map KW cs))), (2, .p (.lst (BR us))), (3, .ptr b3 0), (7, .vs o (List.map Cf A).length cp), (8, .vs o1 (List.map Cf W).length cp1), (9, .vs o2 (BR L).length cp2), (58, .p (.lst (BR us))), (59, .p (I (us.length : Nat))), (60, .p (I (i : Int)))], [.vec o2 5 (BR L) cp2, .vec o1 1 (List.map Cf W) cp1, .vec o 1 (List.map Cf A) cp, .box b3 ((EE th).map .p), .glob GL], []⟩) (fun (i, A, W, L, o, cp, o1, cp1, o2, cp2) => us.length - i) (fun (i, A, W, L, o, cp, o1, cp1, o2, cp2) => i ≤ us.length ∧ ((∀ j, j < i → ∀ y, us[j]? = some y → Hh th y = true ∧ y ∉ us.take j) ∧ A = (Ml cs).take i ∧ W = Fo A ∧ L = Er A (us.take i))) ⟨0, [], [], [], none, 0, none, 0, none, 0⟩ (⟨by omega, fun j h => by omega, by simp, rfl, rfl⟩) ?_ ?_
  ·exact B8 ⟨we At, we At, we At, we At, we At, we At, we At, we At, we At, trivial⟩ (leH (is := [0, 1, 2, 3, 4]) At (wl (oe At) (wl (oe At) (wl (oe At) (wl (oe At) (wl (oe At) (D4)))))))
  rintro ⟨i, A, W, L, o, cp, o1, cp1, o2, cp2⟩ hC
  try simp only at hC
  obtain ⟨hi, hC⟩ := hC
  have hAn : A.length ≤ 8 := by rw [hC.2.1]; simp [Ml]; omega
  have hWn : W.length ≤ 8 := by have := MF A; rw [hC.2.2.1]; omega
  have hLn : L.length ≤ 8 := by have := Lw A (us.take i); rw [hC.2.2.2]; omega
  refine Ax (Av (Au At At (BA At At At) (Az At (Ax (A9 At (fun c1 => ?_) (fun c1 => ?_))))))
  ·(try simp only [sd, se] at c1)
   refine BC (Ax (Ba (Ax (Av (Au At At (Aw At) ?_)))))
   obtain ⟨x, hx⟩ := BP (l := us) (i := i) Ar
   refine Au At At (BL By At At Ar (CH hx) (Bj _)) (Au At At (Bi BO At (Bj _)) (BM At At (BK B7 At) fun b11 => Au At At (Ay At) (Au At At (A6 (i := 0) BO At At At Ak Ac (CF _)) (Az At (Ax (Ax (CA [1, 2, 3, 7, 8, 9, 10, 11, 58, 59, 60] 75 (fun y => ∃ b : Bool, y = .p (.bool b) ∧ (b = false → Hh th x = true ∧ x ∉ us.take i)) ?_ ?_)))))))
   ·refine Av (Au At At (A0 (i := 4) EG At At At) (Au At At (A0 (i := 0) BO At At Ak) (Au At At (Bg At At (Sr th x (hq5 _ (List.mem_of_getElem? hx)).1.nd (by have := (hq5 _ (List.mem_of_getElem? hx)).2; omega)) At) (Au At At (Cg At) (Au At At (Aw At) (Bm 69 At (fun g => ?_) (fun g => ?_)))))))
    ·(try simp only [sd, se] at g)
     exact A5 At At At At At (A5 At At At At At (A5 At At At At At (A5 At At At At At (A5 At At At At At (Au At At (A7 At At) (Az At (⟨At, At, AJ, (by refine ⟨_, rfl, fun h => ?_⟩; first | (exact absurd h Aq) | exact ⟨by simpa using g, fun hm => absurd (Rj.2 hm) (by simpa using h)⟩), ⟨At, At, At, At, At, At, At, At, At, At, At, trivial⟩⟩)))))))
    ·(try simp only [sd, se] at g)
     exact A3 At At At At (Aw At) (A3 At At At At (Aw At) (A3 At At At At (EA (lo := 0) (hi := i) By At (Bz (CC _)) At ⟨_, At⟩ (Nat.zero_le _) AU (YN us i)) (A3 At At At At (Cw At At) (A3 At At At At (B6 [0] At (.inl ⟨At, At, At⟩) (W3 b11 x (us.take i) (hq5 _ (List.mem_of_getElem? hx)).1.nd Am) ⟨_, _, At, At, At⟩ Aq At (.inl At)) (Au At At (A7 At At) (Az At (⟨At, At, AJ, (by refine ⟨_, rfl, fun h => ?_⟩; first | (exact absurd h Aq) | exact ⟨by simpa using g, fun hm => absurd (Rj.2 hm) (by simpa using h)⟩), ⟨At, At, At, At, At, At, At, At, At, At, At, trivial⟩⟩)))))))
   rintro _ ⟨r, rfl, hr⟩
   refine A9 At (fun c2 => ?_) (fun c2 => ?_)
   ·(try simp only [sd, se] at c2)
    refine Ax (Av (Au At At (B6 [5] At (.inl ⟨At, At, At⟩) (En GL hG ) ⟨_, _, At, At, At⟩ Aq At (.inl At)) (Au At At (Ay At) (Az At (BB (⟨At, _, _, ⟨_, _, At, At, At⟩, (Cj (is := [5]) At), ?_⟩))))))
    all_goals exact ⟨rfl, rfl⟩
   ·(try simp only [sd, se] at c2)
    obtain ⟨hr1, hr2⟩ := hr (by simpa using c2)
    refine BC (Ax (Av (Au At At (Aw At) (Au At At (Aw At) ?_))))
    obtain ⟨x1, hx1⟩ := BP (l := cs) (i := i) Ar
    have hb := h3 _ (List.mem_of_getElem? hx1)
    refine Au At At (BL SJ At At Ar (MJ hx1) (At)) (Au At At (CI Zr At) (Au At At (Lu An An At Ar Ar) (Au At At (Xa At At Aq) (Au At At (Ay At) (Az At (Ax (Av (Au At At (Aw At) (Au At At (Aw At) (Au At At (CO D9 S9 At At At At At) (P9 At At (DX (i := 3) (rows' := List.map Cf [(((x1 : Int)).tmod (20 : Int))]) D9 D9 S9 At At At At At At (KE _) AG (IE (f := Cf) A [(((x1 : Int)).tmod (20 : Int))])) fun o3 cp3 => ?_)))))))))))
    refine Au At At (Ay At) (Az At (Ax (Av (Au At At (Aw At) (Au At At (BA At At At) (Az At (A9 At (fun c3 => ?_) (fun c3 => ?_))))))))
    ·(try simp only [sd, se] at c3)
     refine CQ (fun k => Nat.beq k 3 || Nat.beq k 7) D0 (A4 At At (fun _ => Aw At) trivial (A4 At At (fun _ => Aw At) trivial (A4 At At (fun _ => CO D9 S9 At At At At At) trivial (JE [(4, .free (.vs o2 (BR L).length cp2)), (5, .read [.box b11 ((Be x).map .p)] (.agg ((Be x).map .p))), (6, .free (.p (.lst (BR [x]))))] At At (DX (i := 2) (rows' := List.map Cf [(((x1 : Int)).tmod (20 : Int))]) D9 D9 S9 At At At At At At (KE _) AG (IE (f := Cf) W [(((x1 : Int)).tmod (20 : Int))])) An fun o4 cp4 => ⟨AA, trivial, ?_⟩))))
     refine A4 At At (fun _ => Aw At) AM (BQ (j := 0) At At At (fun H i hi => A0 (i := i) BO At hi Ak) AA AM (A4 At At (fun _ => BU (rows := BR [x]) By B7 At At At At (Bz (CC _)) (C1 _)) AM (JE [] At At (DX (i := 1) (rows' := BR [x]) By By B7 At At At At At At (CC _) AG (Lg L [x])) An fun o5 cp5 => ⟨AA, AM, ?_⟩)))
     refine A4 At At (fun _ => Ay At) AM (A4 At At (fun _ => Ay At) AM (CK At An (Av (Au At At (CS At At Ar Ar) (Au At At (Aw At) (Az At (⟨⟨i + 1, A ++ [(((x1 : Int)).tmod (20 : Int))], W ++ [(((x1 : Int)).tmod (20 : Int))], L ++ [x], o3, cp3, o4, cp4, o5, cp5⟩, AZ, ⟨by omega, (by have k := RC hC.2.1 hC.2.2.1 hC.2.2.2 hx hx1; have u := Dl (p := fun j (y : Tm) => Hh th y = true ∧ y ∉ us.take j) hC.1 hx ⟨hr1, hr2⟩; first | exact ⟨u, k.1, (k.2.1 (by simpa using c3)).1, (k.2.1 (by simpa using c3)).2⟩ | exact ⟨u, k.1, (k.2.2 (by simpa using c3)).1, (k.2.2 (by simpa using c3)).2⟩)⟩, B8 ⟨we rfl, we rfl, we rfl, we rfl, we rfl, we rfl, we rfl, we rfl, we rfl, trivial⟩ (leH (is := [1, 2, 3, 4, 5]) rfl (wl (oe rfl) (wl (oe rfl) (wl (oe rfl) (wl (oe rfl) (wl (oe rfl) (D4)))))))⟩)))))))
    ·(try simp only [sd, se] at c3)
     refine BC (Av (Au At At (CS At At Ar Ar) (Au At At (Aw At) (Az At (⟨⟨i + 1, A ++ [(((x1 : Int)).tmod (20 : Int))], W, L, o3, cp3, o1, cp1, o2, cp2⟩, AZ, ⟨by omega, (by have k := RC hC.2.1 hC.2.2.1 hC.2.2.2 hx hx1; have u := Dl (p := fun j (y : Tm) => Hh th y = true ∧ y ∉ us.take j) hC.1 hx ⟨hr1, hr2⟩; first | exact ⟨u, k.1, (k.2.1 (by simpa using c3)).1, (k.2.1 (by simpa using c3)).2⟩ | exact ⟨u, k.1, (k.2.2 (by simpa using c3)).1, (k.2.2 (by simpa using c3)).2⟩)⟩, B8 ⟨we rfl, we rfl, we rfl, we rfl, we rfl, we rfl, we rfl, we rfl, we rfl, trivial⟩ (leH (is := [1, 2, 3, 4, 5]) rfl (wl (oe rfl) (wl (oe rfl) (wl (oe rfl) (wl (oe rfl) (wl (oe rfl) (D4)))))))⟩)))))
  ·(try simp only [sd, se] at c1)
   have hA2 : A = Ml cs := by rw [hC.2.1]; exact List.take_of_length_le (by simp [Ml]; omega)
   have hAl : A.length = us.length := by rw [hA2]; simp [Ml]; omega
   have hAb : ED A ≤ 152 := by rw [hA2]; have := V3 cs; omega
   have hU : us.take i = us := List.take_of_length_le Ar
   have hW := hC.2.2.1
   have hL := hC.2.2.2
   have hat : ∀ u ∈ us, (Cu th u).1 = 0 := fun u hu => by obtain ⟨j, hj⟩ := Fh hu; exact Oo (hC.1 j (by have := (List.getElem?_eq_some_iff.1 hj).1; omega) u hj).1
   have hF := Tn (th := th) hAl hat (T8 fun j hj y hy => (hC.1 j Ar y hy).2) Ar
   have hnd : Nd (EO th A us) := So hq1 fun t ht => (hq5 t ht).1.nd
   have hsz : size (EO th A us) < 1000000 := PM fun t ht => (hq5 t ht).2
   refine CL (Ax (Ax (Av (Au At At (A0 (i := 3) EG At At At) (Au At At (Aw At) (Au At At (Aw At) (C4 (HJ (i := 2) [7, 99] At (ID ⟨At, At, trivial⟩)) (Au At At (Bg At At (VO th A us Ag) At) (Ff At At (Bb At At (MN (EO th A us) 65536 8 65536 65536 hnd hsz) (.inl At)) ?_)))))))))
   rintro _ ⟨e, rfl, he⟩
   refine Au At At (BA At At At) (Az At (A9 At (fun c2 => ?_) (fun c2 => ?_)))
   ·(try simp only [sd, se] at c2)
    refine Ax (Av (Au At At (B6 [3] At (.inl ⟨At, At, At⟩) (En GL hG ) ⟨_, _, At, At, At⟩ Aq At (.inl At)) (Au At At (Ay At) (Az At (BB (⟨At, _, _, ⟨_, _, At, At, At⟩, (Cj (is := [3]) At), ?_⟩))))))
    all_goals exact ⟨rfl, rfl⟩
   ·(try simp only [sd, se] at c2)
    have hok : ER (EO th A us) := by
     obtain ⟨k1, k2⟩ := he (by simpa using c2)
     exact ⟨k2, hnd, k1, XW hq2 fun t ht => (hq5 t ht).1.fw⟩
    refine BC (Ax (CQ (fun k => false) D0 (BQ (j := 2) At At At (fun H i hi => A0 (i := i) EG At hi At) AA trivial (BQ (j := 2) At At At (fun H i hi => A0 (i := i) EG At hi At) AA trivial (A4 At At (fun _ => Aw At) trivial (A4 At At (fun _ => Aw At) trivial (A4 At At (fun _ => Bg At At (JT th A us Ag) At) trivial (CD [3] At At At (.inl ⟨At, At, At⟩) (Io GL hG th (EO th A us) hok hsz) ⟨_, _, At, At, At⟩ (Cp _) (aw (we At) (aw (we At) (Cv))) AA trivial (A4 At At (fun _ => Aw At) trivial (A4 At At (fun _ => BY At At) trivial (A4 At At (fun _ => BY At At) trivial ?_)))))))))))
    refine A4 At At (fun _ => BY At At) trivial (A4 At At (fun _ => Ay At) trivial (A4 At At (fun _ => Ay At) trivial (A4 At At (fun _ => Ay At) trivial (CK At An (Ax (CA [] 6 (fun y => y = .p (.bool true)) ?_ ?_))))))
    ·refine Av (Au At At (Aw At) (Au At At (BA At At At) (Au At At (Aw At) (Bm 117 At (fun g => ?_) (fun g => ?_)))))
     ·(try simp only [sd, se] at g)
      refine A3 At At At At (Aw At) (A3 At At At At (Aw At) (A3 At At At At (RI (i := 1) At At At (Kw ((B5 th (EO th A us)).1) W (by rw [hF]; have := MF A; simp only [EC]; omega) (by rw [hF, hW])) ⟨_, _, At, .inl At, ⟨_, _, At, .inr (.inr ⟨At, At⟩), At⟩⟩ At) (Au At At (A7 At At) (Au At At (Aw At) (A3 At At At At (Aw At) (A3 At At At At (Aw At) (A3 At At At At (RI (i := 0) At At At (Qb ((B5 th (EO th A us)).2.1) L (by rw [hF]; exact QE fun t ht => (hq5 t (Lz ht)).1.nd) (by rw [hF]; have := Lw A us; simp only; omega) (by rw [hF, hL, hU])) ⟨_, _, At, .inl At, ⟨_, _, At, .inr (.inr ⟨At, At⟩), At⟩⟩ At) (Au At At (A7 At At) (Au At At (Aw At) ?_)))))))))
      exact A3 At At At At (B6 [3] At (.inl ⟨At, At, At⟩) (En GL hG ) ⟨_, _, At, At, At⟩ Aq At (.inl At)) (Au At At (A7 At At) (Au At At (Ay At) (Az At ⟨At, At, AJ, (by first | rfl | (refine absurd g ?_; simp [hF]; done)), trivial⟩)))
     ·(try simp only [sd, se] at g)
      refine A5 At At At At At (A5 At At At At At (A5 At At At At At (Au At At (A7 At At) (Au At At (Aw At) (A5 At At At At At (A5 At At At At At (A5 At At At At At (Au At At (A7 At At) (Au At At (Aw At) (A5 At At At At At (Au At At (A7 At At) ?_)))))))))))
      exact Au At At (Ay At) (Az At ⟨At, At, AJ, (by first | rfl | (refine absurd g ?_; simp [hF]; done)), trivial⟩)
    rintro _ rfl
    refine BB (⟨At, _, _, ⟨_, _, At, At, At⟩, (Cj (is := [3]) At), ?_⟩)
    all_goals exact ⟨rfl, rfl⟩
end Go.Proofs.YtapmjpihennhaaaGreatDoor
