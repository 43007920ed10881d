/- Part of the proofs: an abstract program logic, plain models and contracts of functions. -/
import Derived.Test.YtapmjpihennhaaaGreatDoorPd
import Derived.Test.YtapmjpihennhaaaGreatDoorPb
import Derived.Test.YtapmjpihennhaaaGreatDoorPc
import Derived.Lib.ItoaNum
import Derived.Lib.AppendStr
import Derived.Lib.Builder
import Derived.Laws.Externs
set_option linter.unusedVariables false
set_option linter.unusedSimpArgs false
set_option maxRecDepth 100000
namespace Go.Proofs.YtapmjpihennhaaaGreatDoor
open Go.Abs Go.Eu
theorem _root_.Go.Aj {α : Prop} (h : α := by assumption) : α := h
theorem T5 : ∀ {σ : Type} (st : σ → Int → Tm → σ × Bool) (Inv : Nat → σ → Prop) (HP : Bool → σ → List BL → Prop) (l b2 b3 b4 : Nat) (hI : ∀ m s d t, Inv (m + 1) s → Inv m (st s d t).1) (hy : ∀ m s d t T, Nd t → Inv (m + 1) s → HP true s T → GZ Tryz.prog l [.p (I d), TV t] T (GB (.p (.bool (st s d t).2)) (HP (st s d t).2 (st s d t).1))) (n : Nat) (t : Tm) (d : Int) (s : σ) (T0 : List BL) (m : Nat), size t ≤ n → Nd t → 0 ≤ d → d + n < 4611686018427387904 → Inv (m + size t) s → HP true s T0 → Bl Tryz.prog 115 [TV t, .p (I d), .ptr b2 0, .ptr b3 0, .ptr b4 0] (.box b2 [.fn (.yield l) [] []] :: .box b3 Kn :: .box b4 [.fn (.func 115) [] [.ptr b2 0, .ptr b3 0, .ptr b4 0]] :: T0) (GB (.p (.bool (Da st t d s).2)) (fun H => ∃ T, HP (Da st t d s).2 (Da st t d s).1 T ∧ H = .box b2 [.fn (.yield l) [] []] :: .box b3 Kn :: .box b4 [.fn (.func 115) [] [.ptr b2 0, .ptr b3 0, .ptr b4 0]] :: T)) := by
 intro σ st Inv HP l b2 b3 b4 hI hy n
 induction n with
 | zero => intro t d s T0 m h; cases t; simp [size] at h
 | succ n ih =>
  intro t d s T0 m h1 h2 h3 h4 h5 h6
  obtain ⟨tk, ti, tn, tl, ts⟩ := t
  have h2' := h2
  simp only [size] at h1 h5
  simp only [Nd, II, Dp] at h2
  refine A3 Tryz.func115 Ao Xt (n := 50) Ao Ao ?_
  refine As ?_
  refine Aq ?_
  refine BH Ao Ao (Bb Ao) fun b5 => ?_
  refine Ap Ao Ao (At Ao) ?_
  refine Au Ao ?_
  refine As ?_
  refine As ?_
  refine Aq ?_
  refine Ap Ao Ao (Ax (i := 1) Wq Ao Ao Ao) ?_
  refine Ap Ao Ao (Ar Ao) ?_
  refine Ap Ao Ao (Aw (i := 0) BI Ao Ao Ao) ?_
  refine JI [_, _, _, _] Ao Ao Ao Ao (hy (m + By ts) _ _ _ _ h2' (by rw [Nat.add_assoc, Nat.add_comm (By ts)]; exact h5) h6) Ao ?_ (fun _ _ h => h.elim)
  rintro _ T ⟨rfl, hT⟩
  refine Ap Ao Ao (Co Ao) ?_
  refine Au Ao ?_
  refine A4 Ao (fun c => ?_) (fun c => ?_)
  ·(try simp only [sd, se] at c)
   refine As ?_
   refine Aq ?_
   refine Ap Ao Ao (At Ao) ?_
   refine Au Ao ?_
   refine A5 ?_
   refine ⟨Ao, _, _, ⟨_, _, Ao, Ao, Ao⟩, (F9 [1, 2, 3] [_, _, _, _] Ao), ?_⟩
   rw [Pn c]
   rw [c] at hT
   exact ⟨Ao, _, hT, Ao⟩
  ·(try simp only [sd, se] at c)
   rw [c] at hT
   refine BD ?_
   refine As ?_
   refine Aq ?_
   refine Ap Ao Ao (At Ao) ?_
   refine Au Ao ?_
   refine As ?_
   refine As ?_
   refine CB [1, 3, 4, 5, 8] 24 (fun y => y = .p (.bool ((decide ((tk : Int) ≥ (0 : Int))) && (decide ((tk : Int) < (13 : Int)))))) ?_ ?_
   ·refine Aq ?_
    refine Ap Ao Ao (Av CN Ao Ao) ?_
    refine Ap Ao Ao (Ax (i := 0) DQ Ao Ao Ao) ?_
    refine Ap Ao Ao (A7 Ao Ao Ao) ?_
    refine Ap Ao Ao (Ar Ao) ?_
    refine Bm 20 Ao (fun g => ?_) (fun g => ?_)
    ·(try simp only [sd, se] at g)
     refine Az Ao Ao Ao Ao (Av CN Ao Ao) ?_
     refine Az Ao Ao Ao Ao (Ax (i := 0) DQ Ao Ao Ao) ?_
     refine Az Ao Ao Ao Ao (A7 Ao Ao Ao) ?_
     refine Ap Ao Ao (A2 Ao Ao) ?_
     refine Au Ao ?_
     exact ⟨Ao, Ao, AG, AF, ⟨Ao, Ao, Ao, Ao, Ao, trivial⟩⟩
    ·(try simp only [sd, se] at g)
     refine A0 Ao Ao Ao Ao Ao ?_
     refine A0 Ao Ao Ao Ao Ao ?_
     refine A0 Ao Ao Ao Ao Ao ?_
     refine Ap Ao Ao (A2 Ao Ao) ?_
     refine Au Ao ?_
     exact ⟨Ao, Ao, AG, AF, ⟨Ao, Ao, Ao, Ao, Ao, trivial⟩⟩
   rintro _ rfl
   refine A4 Ao (fun c1 => ?_) (fun c1 => ?_)
   ·(try simp only [sd, se] at c1)
    refine Aq ?_
    refine Ap Ao Ao (Av CN Ao Ao) ?_
    refine Ap Ao Ao (Ax (i := 0) DQ Ao Ao Ao) ?_
    refine Ap Ao Ao (Eo VH U3 Ao Ao Am Am) ?_
    refine Ap Ao Ao (Av G9 Ao Ao) ?_
    refine Ap Ao Ao (Ax (i := 2) DQ Ao Ao (TJ Am)) ?_
    refine Ap Ao Ao (At Ao) ?_
    refine Au Ao ?_
    refine As ?_
    refine As ?_
    refine Aq ?_
    refine Ap Ao Ao (Av CN Ao Ao) ?_
    refine Ap Ao Ao (Ax (i := 0) DC Ao Ao Ao) ?_
    refine Ap Ao Ao (Bx B4 Ao (Bt _)) ?_
    refine Ap Ao Ao (Ar Ao) ?_
    refine Au Ao ?_
    refine BU ?_
    refine CS (α := Nat × σ × List BL) (fun (i, q, U) => ⟨50, mk [(1, .p (I d)), (4, .ptr b4 0), (8, .p (I (HF tk))), (31, .p (.lst (BO ts))), (32, .p (I (ts.length : Nat))), (33, .p (I (i : Int)))], (.box b2 [.fn (.yield l) [] []] :: .box b3 Kn :: .box b4 [.fn (.func 115) [] [.ptr b2 0, .ptr b3 0, .ptr b4 0]] :: U), []⟩) (fun (i, q, U) => ts.length - i) (fun (i, q, U) => i ≤ ts.length ∧ (Dd st tk d i q (ts.drop i) = Dd st tk d 0 (st s d (.mk tk ti tn tl ts)).1 ts ∧ Inv (m + By (ts.drop i)) q ∧ HP true q U)) ⟨0, (st s d (.mk tk ti tn tl ts)).1, T⟩ (⟨by omega, by simp, by simpa using hI _ _ _ _ (by rw [Nat.add_assoc, Nat.add_comm (By ts)]; exact h5), by assumption⟩) ?_ ?_
    ·exact B8 ⟨we Ao, we Ao, we Ao, we Ao, we Ao, we Ao, trivial⟩ (Oo [1, 2, 3] [_, _, _, _] (l' := [_, _, _]) Ao (wl (oe Ao) (wl (oe Ao) (wl (oe Ao) (ET)))))
    rintro ⟨i, q, U⟩ hC
    try simp only at hC
    obtain ⟨hi, hC, hJ, hK⟩ := hC
    refine As ?_
    refine Aq ?_
    refine Ap Ao Ao (A7 Ao Ao Ao) ?_
    refine Au Ao ?_
    refine As ?_
    refine A4 Ao (fun c2 => ?_) (fun c2 => ?_)
    ·(try simp only [sd, se] at c2)
     refine BD ?_
     refine As ?_
     refine BU ?_
     refine As ?_
     refine Aq ?_
     refine Ap Ao Ao (Ar Ao) ?_
     obtain ⟨x, hx⟩ := BM (l := ts) (i := i) Am
     refine Ap Ao Ao (BJ B4 Ao Ao Am (B9 hx) (Bh _)) ?_
     refine Ap Ao Ao (Be BI Ao (Bh _)) ?_
     refine BH Ao Ao (BG B0 Ao) fun b10 => ?_
     refine Ap Ao Ao (At Ao) ?_
     refine Ap Ao Ao (A1 (i := 0) BI Ao Ao Ao Af AX (B3 _)) ?_
     refine Au Ao ?_
     refine As ?_
     refine Aq ?_
     refine Ap Ao Ao (Ar Ao) ?_
     refine Ap Ao Ao (At Ao) ?_
     refine Au Ao ?_
     refine As ?_
     refine As ?_
     refine Aq ?_
     refine Ap Ao Ao (Ar Ao) ?_
     refine Ap Ao Ao (Ar Ao) ?_
     refine Ap Ao Ao (A7 Ao Ao Ao) ?_
     refine Au Ao ?_
     refine A4 Ao (fun c3 => ?_) (fun c3 => ?_)
     ·(try simp only [sd, se] at c3)
      refine Aq ?_
      refine Ap Ao Ao (Ar Ao) ?_
      refine Ap Ao Ao (CT Ao Ao Am Am) ?_
      refine Ap Ao Ao (At Ao) ?_
      refine Au Ao ?_
      refine B5 (EC (t := 11) (x := .p (I (d + below tk i))) (pI (by have := PT (k := tk) (i := i) Am Am; omega))) ?_
      refine As ?_
      refine Aq ?_
      refine Ap Ao Ao (Ax (i := 3) Na Ao Ao Ao) ?_
      refine Ap Ao Ao (Aw (i := 0) BI Ao Ao Af) ?_
      refine Ap Ao Ao (Ar Ao) ?_
      refine GI [_] Ao Ao Ao (.inr Ao) (ih x (d + below tk i) q _ (m + By (ts.drop (i + 1))) (by have := DD hx; omega) (Dn h2.2.2.2.2.1 hx) (by have := Dj tk i; omega) (by have := Dj tk i; omega) (by rw [Dc hx, By] at hJ; rw [Nat.add_assoc, Nat.add_comm (By _)]; exact hJ) hK) (aw (we Ao) (aw (we Ao) (aw (we Ao) (aw (we Ao) (aw (we Ao) (Ci)))))) ?_ (fun _ _ h => h.elim)
      rintro _ _ ⟨rfl, T1, hT1, rfl⟩
      refine Ap Ao Ao (Co Ao) ?_
      refine Au Ao ?_
      refine A4 Ao (fun c4 => ?_) (fun c4 => ?_)
      ·(try simp only [sd, se] at c4)
       refine As ?_
       refine Aq ?_
       refine Ap Ao Ao (At Ao) ?_
       refine Au Ao ?_
       refine A5 ?_
       refine ⟨Ao, _, _, ⟨_, _, Ao, Ao, Ao⟩, (F9 [1, 2, 3] [_, _, _, _] Ao), ?_⟩
       rw [Fq Aj, ← hC, Gl hx c4]
       rw [c4] at hT1
       exact ⟨Ao, _, hT1, Ao⟩
      ·(try simp only [sd, se] at c4)
       rw [c4] at hT1
       refine BD ?_
       refine Aq ?_
       refine Ap Ao Ao (CT Ao Ao Am Am) ?_
       refine Ap Ao Ao (Ar Ao) ?_
       refine Au Ao ?_
       refine ⟨⟨i + 1, (Da st x (d + below tk i) q).1, T1⟩, AT, ⟨by omega, ⟨by rw [← hC]; exact (Hv hx Aj).symm, by rw [Dc hx, By] at hJ; exact Gu hI x _ _ _ (by rw [Nat.add_assoc, Nat.add_comm (By _)]; exact hJ) Aj, by assumption⟩⟩, B8 ⟨we rfl, we rfl, we rfl, we rfl, we rfl, we rfl, trivial⟩ (Oo [1, 2, 3] [_, _, _, _] (l' := [_, _, _]) rfl (wl (oe rfl) (wl (oe rfl) (wl (oe rfl) (ET)))))⟩
     ·(try simp only [sd, se] at c3)
      refine BD ?_
      refine B5 (EC (t := 11) (x := .p (I (d + below tk i))) (pI (by have := Nc (k := tk) (i := i) Am; omega))) ?_
      refine As ?_
      refine Aq ?_
      refine Ap Ao Ao (Ax (i := 3) Na Ao Ao Ao) ?_
      refine Ap Ao Ao (Aw (i := 0) BI Ao Ao Af) ?_
      refine Ap Ao Ao (Ar Ao) ?_
      refine GI [_] Ao Ao Ao (.inr Ao) (ih x (d + below tk i) q _ (m + By (ts.drop (i + 1))) (by have := DD hx; omega) (Dn h2.2.2.2.2.1 hx) (by have := Dj tk i; omega) (by have := Dj tk i; omega) (by rw [Dc hx, By] at hJ; rw [Nat.add_assoc, Nat.add_comm (By _)]; exact hJ) hK) (aw (we Ao) (aw (we Ao) (aw (we Ao) (aw (we Ao) (aw (we Ao) (Ci)))))) ?_ (fun _ _ h => h.elim)
      rintro _ _ ⟨rfl, T1, hT1, rfl⟩
      refine Ap Ao Ao (Co Ao) ?_
      refine Au Ao ?_
      refine A4 Ao (fun c4 => ?_) (fun c4 => ?_)
      ·(try simp only [sd, se] at c4)
       refine As ?_
       refine Aq ?_
       refine Ap Ao Ao (At Ao) ?_
       refine Au Ao ?_
       refine A5 ?_
       refine ⟨Ao, _, _, ⟨_, _, Ao, Ao, Ao⟩, (F9 [1, 2, 3] [_, _, _, _] Ao), ?_⟩
       rw [Fq Aj, ← hC, Gl hx c4]
       rw [c4] at hT1
       exact ⟨Ao, _, hT1, Ao⟩
      ·(try simp only [sd, se] at c4)
       rw [c4] at hT1
       refine BD ?_
       refine Aq ?_
       refine Ap Ao Ao (CT Ao Ao Am Am) ?_
       refine Ap Ao Ao (Ar Ao) ?_
       refine Au Ao ?_
       refine ⟨⟨i + 1, (Da st x (d + below tk i) q).1, T1⟩, AT, ⟨by omega, ⟨by rw [← hC]; exact (Hv hx Aj).symm, by rw [Dc hx, By] at hJ; exact Gu hI x _ _ _ (by rw [Nat.add_assoc, Nat.add_comm (By _)]; exact hJ) Aj, by assumption⟩⟩, B8 ⟨we rfl, we rfl, we rfl, we rfl, we rfl, we rfl, trivial⟩ (Oo [1, 2, 3] [_, _, _, _] (l' := [_, _, _]) rfl (wl (oe rfl) (wl (oe rfl) (wl (oe rfl) (ET)))))⟩
    ·(try simp only [sd, se] at c2)
     refine CL ?_
     refine As ?_
     refine Aq ?_
     refine Ap Ao Ao (At Ao) ?_
     refine Au Ao ?_
     refine A5 ?_
     refine ⟨Ao, _, _, ⟨_, _, Ao, Ao, Ao⟩, (F9 [0, 1, 2] [_, _, _] Ao), ?_⟩
     rw [Fq Aj, ← hC, show i = ts.length by omega, List.drop_length]
     exact ⟨Ao, _, hK, Ao⟩
   ·(try simp only [sd, se] at c1)
    have hbx := PA (k := tk) Am
    refine BD ?_
    refine As ?_
    refine As ?_
    refine Aq ?_
    refine Ap Ao Ao (Av CN Ao Ao) ?_
    refine Ap Ao Ao (Ax (i := 0) DC Ao Ao Ao) ?_
    refine Ap Ao Ao (Bx B4 Ao (Bt _)) ?_
    refine Ap Ao Ao (Ar Ao) ?_
    refine Au Ao ?_
    refine BU ?_
    refine CS (α := Nat × σ × List BL) (fun (i, q, U) => ⟨50, mk [(1, .p (I d)), (4, .ptr b4 0), (8, .p (I (-1))), (31, .p (.lst (BO ts))), (32, .p (I (ts.length : Nat))), (33, .p (I (i : Int)))], (.box b2 [.fn (.yield l) [] []] :: .box b3 Kn :: .box b4 [.fn (.func 115) [] [.ptr b2 0, .ptr b3 0, .ptr b4 0]] :: U), []⟩) (fun (i, q, U) => ts.length - i) (fun (i, q, U) => i ≤ ts.length ∧ (Dd st tk d i q (ts.drop i) = Dd st tk d 0 (st s d (.mk tk ti tn tl ts)).1 ts ∧ Inv (m + By (ts.drop i)) q ∧ HP true q U)) ⟨0, (st s d (.mk tk ti tn tl ts)).1, T⟩ (⟨by omega, by simp, by simpa using hI _ _ _ _ (by rw [Nat.add_assoc, Nat.add_comm (By ts)]; exact h5), by assumption⟩) ?_ ?_
    ·exact B8 ⟨we Ao, we Ao, we Ao, we Ao, we Ao, we Ao, trivial⟩ (Oo [1, 2, 3] [_, _, _, _] (l' := [_, _, _]) Ao (wl (oe Ao) (wl (oe Ao) (wl (oe Ao) (ET)))))
    rintro ⟨i, q, U⟩ hC
    try simp only at hC
    obtain ⟨hi, hC, hJ, hK⟩ := hC
    refine As ?_
    refine Aq ?_
    refine Ap Ao Ao (A7 Ao Ao Ao) ?_
    refine Au Ao ?_
    refine As ?_
    refine A4 Ao (fun c2 => ?_) (fun c2 => ?_)
    ·(try simp only [sd, se] at c2)
     refine BD ?_
     refine As ?_
     refine BU ?_
     refine As ?_
     refine Aq ?_
     refine Ap Ao Ao (Ar Ao) ?_
     obtain ⟨x, hx⟩ := BM (l := ts) (i := i) Am
     refine Ap Ao Ao (BJ B4 Ao Ao Am (B9 hx) (Bh _)) ?_
     refine Ap Ao Ao (Be BI Ao (Bh _)) ?_
     refine BH Ao Ao (BG B0 Ao) fun b10 => ?_
     refine Ap Ao Ao (At Ao) ?_
     refine Ap Ao Ao (A1 (i := 0) BI Ao Ao Ao Af AX (B3 _)) ?_
     refine Au Ao ?_
     refine As ?_
     refine Aq ?_
     refine Ap Ao Ao (Ar Ao) ?_
     refine Ap Ao Ao (At Ao) ?_
     refine Au Ao ?_
     refine As ?_
     refine As ?_
     refine Aq ?_
     refine Ap Ao Ao (Ar Ao) ?_
     refine Ap Ao Ao (Ar Ao) ?_
     refine Ap Ao Ao (A7 Ao Ao Ao) ?_
     refine Au Ao ?_
     refine A4 Ao (fun c3 => ?_) (fun c3 => ?_)
     ·(try simp only [sd, se] at c3)
      refine Aq ?_
      refine Ap Ao Ao (Ar Ao) ?_
      refine Ap Ao Ao (CT Ao Ao Am Am) ?_
      refine Ap Ao Ao (At Ao) ?_
      refine Au Ao ?_
      refine B5 (EC (t := 11) (x := .p (I (d + below tk i))) (pI (by have := PT (k := tk) (i := i) Am Am; omega))) ?_
      refine As ?_
      refine Aq ?_
      refine Ap Ao Ao (Ax (i := 3) Na Ao Ao Ao) ?_
      refine Ap Ao Ao (Aw (i := 0) BI Ao Ao Af) ?_
      refine Ap Ao Ao (Ar Ao) ?_
      refine GI [_] Ao Ao Ao (.inr Ao) (ih x (d + below tk i) q _ (m + By (ts.drop (i + 1))) (by have := DD hx; omega) (Dn h2.2.2.2.2.1 hx) (by have := Dj tk i; omega) (by have := Dj tk i; omega) (by rw [Dc hx, By] at hJ; rw [Nat.add_assoc, Nat.add_comm (By _)]; exact hJ) hK) (aw (we Ao) (aw (we Ao) (aw (we Ao) (aw (we Ao) (aw (we Ao) (Ci)))))) ?_ (fun _ _ h => h.elim)
      rintro _ _ ⟨rfl, T1, hT1, rfl⟩
      refine Ap Ao Ao (Co Ao) ?_
      refine Au Ao ?_
      refine A4 Ao (fun c4 => ?_) (fun c4 => ?_)
      ·(try simp only [sd, se] at c4)
       refine As ?_
       refine Aq ?_
       refine Ap Ao Ao (At Ao) ?_
       refine Au Ao ?_
       refine A5 ?_
       refine ⟨Ao, _, _, ⟨_, _, Ao, Ao, Ao⟩, (F9 [1, 2, 3] [_, _, _, _] Ao), ?_⟩
       rw [Fq Aj, ← hC, Gl hx c4]
       rw [c4] at hT1
       exact ⟨Ao, _, hT1, Ao⟩
      ·(try simp only [sd, se] at c4)
       rw [c4] at hT1
       refine BD ?_
       refine Aq ?_
       refine Ap Ao Ao (CT Ao Ao Am Am) ?_
       refine Ap Ao Ao (Ar Ao) ?_
       refine Au Ao ?_
       refine ⟨⟨i + 1, (Da st x (d + below tk i) q).1, T1⟩, AT, ⟨by omega, ⟨by rw [← hC]; exact (Hv hx Aj).symm, by rw [Dc hx, By] at hJ; exact Gu hI x _ _ _ (by rw [Nat.add_assoc, Nat.add_comm (By _)]; exact hJ) Aj, by assumption⟩⟩, B8 ⟨we rfl, we rfl, we rfl, we rfl, we rfl, we rfl, trivial⟩ (Oo [1, 2, 3] [_, _, _, _] (l' := [_, _, _]) rfl (wl (oe rfl) (wl (oe rfl) (wl (oe rfl) (ET)))))⟩
     ·(try simp only [sd, se] at c3)
      refine BD ?_
      refine B5 (EC (t := 11) (x := .p (I (d + below tk i))) (pI (by have := Nc (k := tk) (i := i) Am; omega))) ?_
      refine As ?_
      refine Aq ?_
      refine Ap Ao Ao (Ax (i := 3) Na Ao Ao Ao) ?_
      refine Ap Ao Ao (Aw (i := 0) BI Ao Ao Af) ?_
      refine Ap Ao Ao (Ar Ao) ?_
      refine GI [_] Ao Ao Ao (.inr Ao) (ih x (d + below tk i) q _ (m + By (ts.drop (i + 1))) (by have := DD hx; omega) (Dn h2.2.2.2.2.1 hx) (by have := Dj tk i; omega) (by have := Dj tk i; omega) (by rw [Dc hx, By] at hJ; rw [Nat.add_assoc, Nat.add_comm (By _)]; exact hJ) hK) (aw (we Ao) (aw (we Ao) (aw (we Ao) (aw (we Ao) (aw (we Ao) (Ci)))))) ?_ (fun _ _ h => h.elim)
      rintro _ _ ⟨rfl, T1, hT1, rfl⟩
      refine Ap Ao Ao (Co Ao) ?_
      refine Au Ao ?_
      refine A4 Ao (fun c4 => ?_) (fun c4 => ?_)
      ·(try simp only [sd, se] at c4)
       refine As ?_
       refine Aq ?_
       refine Ap Ao Ao (At Ao) ?_
       refine Au Ao ?_
       refine A5 ?_
       refine ⟨Ao, _, _, ⟨_, _, Ao, Ao, Ao⟩, (F9 [1, 2, 3] [_, _, _, _] Ao), ?_⟩
       rw [Fq Aj, ← hC, Gl hx c4]
       rw [c4] at hT1
       exact ⟨Ao, _, hT1, Ao⟩
      ·(try simp only [sd, se] at c4)
       rw [c4] at hT1
       refine BD ?_
       refine Aq ?_
       refine Ap Ao Ao (CT Ao Ao Am Am) ?_
       refine Ap Ao Ao (Ar Ao) ?_
       refine Au Ao ?_
       refine ⟨⟨i + 1, (Da st x (d + below tk i) q).1, T1⟩, AT, ⟨by omega, ⟨by rw [← hC]; exact (Hv hx Aj).symm, by rw [Dc hx, By] at hJ; exact Gu hI x _ _ _ (by rw [Nat.add_assoc, Nat.add_comm (By _)]; exact hJ) Aj, by assumption⟩⟩, B8 ⟨we rfl, we rfl, we rfl, we rfl, we rfl, we rfl, trivial⟩ (Oo [1, 2, 3] [_, _, _, _] (l' := [_, _, _]) rfl (wl (oe rfl) (wl (oe rfl) (wl (oe rfl) (ET)))))⟩
    ·(try simp only [sd, se] at c2)
     refine CL ?_
     refine As ?_
     refine Aq ?_
     refine Ap Ao Ao (At Ao) ?_
     refine Au Ao ?_
     refine A5 ?_
     refine ⟨Ao, _, _, ⟨_, _, Ao, Ao, Ao⟩, (F9 [0, 1, 2] [_, _, _] Ao), ?_⟩
     rw [Fq Aj, ← hC, show i = ts.length by omega, List.drop_length]
     exact ⟨Ao, _, hK, Ao⟩
theorem Wc : G5 Tryz.prog 114 [] (.agg Kn) := by
 refine A3 Tryz.func114 Ao XG (n := 15) Ao Ao ?_
 refine As ?_
 refine Aq ?_
 refine BH Ao Ao (BG So Ao) fun b0 => ?_
 refine Au Ao ?_
 refine As ?_
 refine Aq ?_
 refine Ap Ao Ao (Bi G9 HS Ao) ?_
 refine Ap Ao Ao (Bi G9 HS Ao) ?_
 refine Ap Ao Ao (Bi G9 HS Ao) ?_
 refine Ap Ao Ao (Bi G9 HS Ao) ?_
 refine Ap Ao Ao (Bi G9 HS Ao) ?_
 refine Ap Ao Ao (Bi G9 HS Ao) ?_
 refine Ap Ao Ao (Bi G9 HS Ao) ?_
 refine Ap Ao Ao (Bi G9 HS Ao) ?_
 refine Ap Ao Ao (Bi G9 HS Ao) ?_
 refine Ap Ao Ao (Bi G9 HS Ao) ?_
 refine Ap Ao Ao (Bi G9 HS Ao) ?_
 refine Ap Ao Ao (Bi G9 HS Ao) ?_
 refine Ap Ao Ao (Bi G9 HS Ao) ?_
 refine Ap Ao Ao (I2 VH U3 So Ao) ?_
 refine Ap Ao Ao (Bc (i := 0) SP Ao Ao Ao Ao Ao Ao) ?_
 refine Au Ao ?_
 refine A5 ?_
 refine ⟨Ao, _, _, ⟨_, _, Ao, (Bg (i := 0) SP Ao Ao Ao), Ao⟩, (List.nil_sublist _), ?_⟩
 all_goals exact ⟨rfl, rfl⟩
theorem Si : ∀ (t : Tm), Bl Tryz.prog 78 [.agg ((Ba t).map .p)] [] (fun r H' => ∃ b, r = .val (.fn (.func 113) [] [.ptr b 0]) ∧ H' = [.box b ((Ba t).map .p)]) := by
 intro t
 refine A3 Tryz.func78 Ao Ze (n := 4) Ao Ao ?_
 refine As ?_
 refine Aq ?_
 refine BH Ao Ao (Bb Ao) fun b1 => ?_
 refine Ap Ao Ao (At Ao) ?_
 refine Au Ao ?_
 refine As ?_
 refine Aq ?_
 refine Ap Ao Ao (Cy Ao Ao) ?_
 refine Ap Ao Ao (At Ao) ?_
 refine Au Ao ?_
 refine A5 ?_
 refine ⟨Ao, _, _, ⟨_, _, Ao, Ao, Ao⟩, (Cf (is := [0]) Ao), ?_⟩
 exact ⟨_, Ao, Ao⟩
theorem SG : ∀ {σ : Type} (st : σ → Int → Tm → σ × Bool) (Inv : Nat → σ → Prop) (HP : Bool → σ → List BL → Prop) (l b1 : Nat) (hI : ∀ m s d t, Inv (m + 1) s → Inv m (st s d t).1) (hy : ∀ m s d t T, Nd t → Inv (m + 1) s → HP true s T → GZ Tryz.prog l [.p (I d), TV t] T (GB (.p (.bool (st s d t).2)) (HP (st s d t).2 (st s d t).1))) (t : Tm) (s : σ) (T0 : List BL) (m : Nat), Nd t → size t < 4611686018427387904 → Inv (m + size t) s → HP true s T0 → Bl Tryz.prog 113 [.fn (.yield l) [] [], .ptr b1 0] (.box b1 ((Ba t).map .p) :: T0) (GB (.tup []) (fun H => ∃ T, HP (Da st t 0 s).2 (Da st t 0 s).1 T ∧ H = .box b1 ((Ba t).map .p) :: T)) := by
 intro σ st Inv HP l b1 hI hy t s T0 m h1 h2 h3 h4
 refine A3 Tryz.func113 Ao XM (n := 10) Ao Ao ?_
 refine As ?_
 refine Aq ?_
 refine BH Ao Ao (Bb Ao) fun b2 => ?_
 refine Au Ao ?_
 refine As ?_
 refine Aq ?_
 refine Ap Ao Ao (Bf Ao Ao (Wc ) Ao) ?_
 refine BH Ao Ao (BG So Ao) fun b3 => ?_
 refine Ap Ao Ao (Bc (i := 0) SP Ao Ao Ao Ao Ao Ao) ?_
 refine Au Ao ?_
 refine As ?_
 refine Aq ?_
 refine BH Ao Ao (BG XN Ao) fun b4 => ?_
 refine Au Ao ?_
 refine As ?_
 refine Aq ?_
 refine Ap Ao Ao (Cy Ao Ao) ?_
 refine Ap Ao Ao (Bc (i := 0) Na Ao Ao Ao Ao Ao Ao) ?_
 refine Au Ao ?_
 refine Aq ?_
 refine Ap Ao Ao (Ax (i := 0) Na Ao Ao Ao) ?_
 refine Ap Ao Ao (Aw (i := 3) BI Ao Ao Af) ?_
 refine FT ((List.reverse_perm [_, _, _, _]).symm.append_right _) ?_
 refine GI [_] Ao Ao Ao (.inr Ao) (T5 st Inv HP l b2 b3 b4 hI hy _ t 0 s T0 m (Nat.le_refl _) h1 Am Am h3 h4) (aw (we Ao) (aw (we Ao) (aw (we Ao) (aw (we Ao) (aw (we Ao) (Ci)))))) ?_ (fun _ _ h => h.elim)
 rintro _ _ ⟨rfl, T, hT, rfl⟩
 refine Au Ao ?_
 refine ⟨Ao, _, _, Ao, (F9 [0] [_, _, _, _] Ao), ?_⟩
 exact ⟨Ao, _, hT, Ao⟩
theorem RB : ∀ (t : Tm), (Nd t) → (size t < 1152921504606846976) → G5 Tryz.prog 46 [.agg ((Ba t).map .p)] (.p (I (size t : Nat))) := by
 intro t h1 h2
 refine FR Tryz.func46 Ao ZZ (n := 11) Ao Ao ?_
 refine As ?_
 refine Aq ?_
 refine BH Ao Ao (Bb Ao) fun b1 => ?_
 refine Ap Ao Ao (At Ao) ?_
 refine Au Ao ?_
 refine As ?_
 refine Aq ?_
 refine BH Ao Ao (BG Tn Ao) fun b3 => ?_
 refine Ap Ao Ao (Bc (i := 0) DQ Ao Ao Ao Ao Ao Ao) ?_
 refine Au Ao ?_
 refine As ?_
 refine As ?_
 refine Aq ?_
 refine Ap Ao Ao (Aw (i := 1) BI Ao Ao Af) ?_
 refine Lk [] Ao Ao Ao (.inl ⟨Ao, Ao, Ao⟩) (Si t) Ao An (aw (we Ao) Ci) ?_ (fun _ _ ⟨_, h, _⟩ => by cases h)
 rintro _ _ ⟨bn, h, rfl⟩
 cases h
 refine Au Ao ?_
 refine BU ?_
 refine Hz (.inr Ao) fun dd l L hL => ?_
 refine ⟨_, _, Cj (is := [2, 0, 3]) Al ⟨_, _, Ao, Ao, ⟨_, _, Ao, Ao, ⟨_, _, Ao, Ao, Ao⟩⟩⟩, ?_⟩
 have hy : ∀ (m : Nat) (s : Int) (d : Int) (t : Tm) (T : List BL), Nd t → (fun _ _ => True) (m + 1) s → (fun (_ : Bool) (s : Int) (T : List BL) => T = [.loop l L, .box b3 [.p (I s)]]) true s T → GZ Tryz.prog l [.p (I d), TV t] T (GB (.p (.bool (Qg s d t).2)) ((fun (_ : Bool) (s : Int) (T : List BL) => T = [.loop l L, .box b3 [.p (I s)]]) (Qg s d t).2 (Qg s d t).1)) := by
  rintro m s d tt T hnd hinv rfl
  subst hL
  refine I4 (i := 0) Ao Ao Ao Ao ?_
  refine BD ?_
  refine ⟨Ao, 0, Ao, ?_⟩
  refine BU ?_
  refine Aq ?_
  refine Ap Ao Ao (Ax (i := 1) DQ Ao Ao Ao) ?_
  refine Ap Ao Ao (D8 Ao Ao) ?_
  refine Ap Ao Ao (Bc (i := 1) DQ Ao Ao Ao Ao Ao Ao) ?_
  refine Au Ao ?_
  refine ⟨0, _, Ao, Cf (is := [0, 1]) Ao, ?_⟩
  exact ⟨Ao, Ao⟩
 refine (SG Qg (fun _ _ => True) (fun (_ : Bool) (s : Int) (T : List BL) => T = [.loop l L, .box b3 [.p (I s)]]) l bn (fun _ _ _ _ _ => trivial) hy t 0 _ 0 (h1) Am (trivial) Ao).mono ?_
 rintro (v | v) H' hR
 rotate_left
 ·exact hR.elim
 obtain ⟨rfl, _, rfl, rfl⟩ := hR
 subst hL
 refine ⟨1, _, Ao, An, ?_⟩
 refine As ?_
 refine Aq ?_
 refine Ap Ao Ao (Ax (i := 1) DQ Ao Ao Ao) ?_
 refine Ap Ao Ao (At Ao) ?_
 refine Au Ao ?_
 refine A5 ?_
 refine ⟨2, Ao, _, _, ⟨_, _, Ao, Ao, Ao⟩, (List.nil_sublist _), ?_⟩
 all_goals exact ⟨pI (by rw [PH 4611686018427387904 (Int.le_refl _) t 0 0 Am Am]; simp), rfl⟩
theorem Ke : ∀ (f : Tm) (xs : List Tm), (xs.length < Dp) → G5 Tryz.prog 70 [.agg ((Ba f).map .p), .p (.lst (BO xs))] (.agg ((Ba (apply f xs)).map .p)) := by
 intro f xs h1
 simp only [Dp] at h1
 refine A3 Tryz.func70 Ao aL (n := 19) Ao Ao ?_
 refine As ?_
 refine Aq ?_
 refine BH Ao Ao (Bb Ao) fun b2 => ?_
 refine BH Ao Ao (BG B0 Ao) fun b4 => ?_
 refine Au Ao ?_
 refine As ?_
 refine As ?_
 refine Aq ?_
 refine Ap Ao Ao (Ar Ao) ?_
 refine Ap Ao Ao (Bx B4 Ao (Bt _)) ?_
 refine Ap Ao Ao (Ar Ao) ?_
 refine Au Ao ?_
 refine BU ?_
 refine CS (α := Nat) (fun i => ⟨19, mk [(2, .ptr b2 0), (4, .ptr b4 0), (7, .p (.lst (BO xs))), (8, .p (I (xs.length : Nat))), (9, .p (I (i : Int)))], [.box b4 [.p (I 0), .p (I 0), .p (.str ⟨#[]⟩), .p (.nils), .p (.nils)], .box b2 ((Ba (apply f (xs.take i))).map .p)], []⟩) (fun i => xs.length - i) (fun i => i ≤ xs.length) 0 AN ?_ ?_
 ·exact B8 ⟨we Ao, we Ao, we Ao, we Ao, we Ao, trivial⟩ (leH (is := [0, 1]) Ao (wl (oe Ao) (wl (oe Ao) (ET))))
 rintro i hC
 try simp only at hC
 have hi := hC
 refine As ?_
 refine Aq ?_
 refine Ap Ao Ao (A7 Ao Ao Ao) ?_
 refine Au Ao ?_
 refine As ?_
 refine A4 Ao (fun c => ?_) (fun c => ?_)
 ·(try simp only [sd, se] at c)
  refine BD ?_
  refine As ?_
  refine BU ?_
  refine As ?_
  refine Aq ?_
  obtain ⟨x, hx⟩ := BM (l := xs) (i := i) Am
  refine Ap Ao Ao (BJ B4 Ao Ao Am (B9 hx) (Bh _)) ?_
  refine Ap Ao Ao (Be BI Ao (Bh _)) ?_
  refine BH Ao Ao (BG B0 Ao) fun b6 => ?_
  refine Ap Ao Ao (A1 (i := 0) BI Ao Ao Ao Af AX (B3 _)) ?_
  refine Au Ao ?_
  refine Aq ?_
  refine Ap Ao Ao (Aw (i := 2) BI Ao Ao Af) ?_
  refine Ap Ao Ao (Aw (i := 0) BI Ao Ao Af) ?_
  generalize hz : (apply f (xs.take i)) = z
  obtain ⟨zk, zi, zn, zl, zs⟩ := z
  obtain ⟨xk, xi, xn, xl, xs1⟩ := x
  refine Ap Ao Ao (CE B4 B0 Ao Ao Ao Ao Ao) ?_
  refine Ap Ao Ao (Bi CN B0 Ao) ?_
  refine Ap Ao Ao (Bc (i := 2) BI Ao Ao Ao Ao Ao Ao) ?_
  refine Au Ao ?_
  refine Aq ?_
  refine Ap Ao Ao (CT Ao Ao Am Am) ?_
  refine Ap Ao Ao (Ar Ao) ?_
  refine Au Ao ?_
  refine ⟨(i + 1), AT, by omega, B8 ⟨we rfl, we rfl, we rfl, we rfl, we rfl, trivial⟩ (leH (is := [1, 2]) rfl (wl (oe rfl) (wl (on (by rw [MM hx, hz]; rfl)) (ET))))⟩
 ·(try simp only [sd, se] at c)
  refine CL ?_
  refine As ?_
  refine Aq ?_
  refine Ap Ao Ao (Aw (i := 1) BI Ao Ao Af) ?_
  refine Ap Ao Ao (A1 (i := 0) BI Ao Ao Ao Af AX (B3 _)) ?_
  refine Au Ao ?_
  refine A5 ?_
  refine ⟨Ao, _, _, ⟨_, _, Ao, (Bg (i := 0) BI Ao Ao Af), Ao⟩, (List.nil_sublist _), ?_⟩
  all_goals exact ⟨by show (.agg ((Ba (apply f (xs.take i))).map .p) : AV) = _; rw [show i = xs.length by omega, List.take_length], rfl⟩
theorem _root_.Go.AH {α : Prop} (h : α := by simp only [Bt, List.length_map, List.length_set]; omega) : α := h
theorem _root_.Go.AY {α : Prop} (h : α := by simp only [Bt]; omega) : α := h
theorem _root_.Go.Aa {α : Prop} (h : α := by simp [Bt]; omega) : α := h
theorem V0 : ∀ (xs : List Tm) (o0 : Option Nat) (c0 : Nat), (xs.length < Dp) → Bl Tryz.prog 141 [.vs o0 (BO xs).length c0] [.vec o0 5 (BO xs) c0] (DG (.tup []) [.vec o0 5 (BO xs.reverse) c0]) := by
 intro xs o0 c0 h1
 simp only [Dp] at h1
 refine A3 Tryz.func141 Ao XW (n := 28) Ao Ao ?_
 refine As ?_
 refine Aq ?_
 refine Ap Ao Ao (Ar Ao) ?_
 refine Ap Ao Ao (KD B4 Ao (Bt _)) ?_
 refine Ap Ao Ao (Ed Ao Ao Am Am) ?_
 refine Ap Ao Ao (At Ao) ?_
 refine Ap Ao Ao (At Ao) ?_
 refine Au Ao ?_
 refine BU ?_
 refine CS (α := Nat × List Tm × Option Nat × Nat) (fun (i, ys, o, cp) => ⟨28, mk [(0, .vs o (BO ys).length cp), (2, .p (I (i : Int))), (3, .p (I ((xs.length : Int) - 1 - (i : Int))))], [.vec o 5 (BO ys) cp], []⟩) (fun (i, ys, o, cp) => xs.length - i) (fun (i, ys, o, cp) => i ≤ xs.length ∧ Ph xs ys i ∧ o = o0 ∧ cp = c0) ⟨0, xs, o0, c0⟩ (⟨by omega, QW xs, rfl, rfl⟩) ?_ ?_
 ·exact B8 ⟨we Ao, we Ao, we (pI Am), trivial⟩ (leH (is := [0]) Ao (wl (oe Ao) (ET)))
 rintro ⟨i, ys, o, cp⟩ hC
 try simp only at hC
 obtain ⟨hi, hR, ho, hcp⟩ := hC
 have hyl := hR.1
 have hjn : ((xs.length : Int) - 1 - (i : Int)).toNat = xs.length - 1 - i := by omega
 refine As ?_
 refine As ?_
 refine Aq ?_
 refine Ap Ao Ao (Ar Ao) ?_
 refine Ap Ao Ao (Ar Ao) ?_
 refine Ap Ao Ao (A7 Ao Ao Ao) ?_
 refine Au Ao ?_
 refine A4 Ao (fun c => ?_) (fun c => ?_)
 ·(try simp only [sd, se] at c)
  refine BD ?_
  refine As ?_
  refine BU ?_
  refine Pe (i := 0) Ao Aa fun b hb => ?_
  subst hb
  refine CJ (fun k => false) Dq ?_
  refine Ay Ao Ao (fun _ => Ar Ao) trivial ?_
  refine Ay Ao Ao (fun _ => Ar Ao) trivial ?_
  refine Ay Ao Ao (fun _ => Ar Ao) trivial ?_
  refine Ay Ao Ao (fun _ => Ar Ao) trivial ?_
  refine Ay Ao Ao (fun _ => Ar Ao) trivial ?_
  refine Ay Ao Ao (fun _ => Ar Ao) trivial ?_
  refine Ay Ao Ao (fun _ => De B4 Ao Ao Am AY) trivial ?_
  obtain ⟨y, hy⟩ := BM (l := ys) (i := ((xs.length : Int) - 1 - (i : Int) : Int).toNat) Am
  refine BK (j := 0) rfl rfl rfl (fun H i hi => IG (i := i) BI rfl hi (B9 hy)) (by repeat' first | exact trivial | refine And.intro ?_ ?_ | ((refine Or.inr (And.intro ?_ ?_) <;> repeat (first | exact List.Mem.head _ | apply List.Mem.tail)); done) | exact Or.inl Ai) trivial ?_
  refine Ay Ao Ao (fun _ => Ar Ao) trivial ?_
  refine Ay Ao Ao (fun _ => Ar Ao) trivial ?_
  refine Ay Ao Ao (fun _ => De B4 Ao Ao Am AY) trivial ?_
  obtain ⟨y1, hy1⟩ := BM (l := ys) (i := i) Am
  refine BK (j := 0) rfl rfl rfl (fun H i hi => IG (i := i) BI rfl hi (B9 hy1)) (by repeat' first | exact trivial | refine And.intro ?_ ?_ | ((refine Or.inr (And.intro ?_ ?_) <;> repeat (first | exact List.Mem.head _ | apply List.Mem.tail)); done) | exact Or.inl Ai) trivial ?_
  refine Ay Ao Ao (fun _ => De B4 Ao Ao Am AY) trivial ?_
  refine Cd rfl rfl (FU (i := 0) (j := i) BI rfl rfl rfl AH rfl (O6 _) (Bh _) (B3 _) (Uy ys i y)) (by repeat' first | exact trivial | refine And.intro ?_ ?_ | ((refine Or.inr (And.intro ?_ ?_) <;> repeat (first | exact List.Mem.head _ | apply List.Mem.tail)); done) | exact Or.inl Ai) trivial ?_
  refine Ay Ao Ao (fun _ => De B4 Ao Ao Am AY) trivial ?_
  refine Cd rfl rfl (FU (i := 0) (j := (((xs.length : Int) - 1 - (i : Int) : Int).toNat)) BI rfl rfl rfl AH rfl (O6 _) (Bh _) (B3 _) (Uy ((ys).set i y) (((xs.length : Int) - 1 - (i : Int) : Int).toNat) y1)) (by repeat' first | exact trivial | refine And.intro ?_ ?_ | ((refine Or.inr (And.intro ?_ ?_) <;> repeat (first | exact List.Mem.head _ | apply List.Mem.tail)); done) | exact Or.inl Ai) trivial ?_
  refine CA Ao Ai ?_
  refine Aq ?_
  refine Ap Ao Ao (Ar Ao) ?_
  refine Ap Ao Ao (CT Ao Ao Am Am) ?_
  refine Ap Ao Ao (Ar Ao) ?_
  refine Ap Ao Ao (Ed Ao Ao Am Am) ?_
  refine Ap Ao Ao (At Ao) ?_
  refine Ap Ao Ao (At Ao) ?_
  refine Au Ao ?_
  refine ⟨⟨i + 1, (ys.set i y).set (xs.length - 1 - i) y1, (some b), cp⟩, AT, ⟨by omega, QV hR Am hy1 (hjn ▸ hy), ho, hcp⟩, B8 ⟨we (Iy ys An), we rfl, we (pI Am), trivial⟩ (leH (is := [0]) rfl (wl (SF (((ys).set i y).set (((xs.length : Int) - 1 - (i : Int) : Int).toNat) y1) (by rw [hjn])) (ET)))⟩
 ·(try simp only [sd, se] at c)
  refine CL ?_
  refine ⟨Ao, _, _, Ao, (Cf (is := [0]) Ao), ?_⟩
  refine ⟨Ao, ?_⟩
  show ([.vec o 5 (BO ys) cp] : List BL) = _
  rw [QO hR Am, ho, hcp]
theorem Sr : ∀ (t : Tm), (Nd t) → (size t < Dp) → G5 Tryz.prog 116 [.agg ((Ba t).map .p)] (.tup [.agg ((Ba ((Bo t).1)).map .p), .p (.lst (BO ((Bo t).2)))]) := by
 intro t h1 h2
 simp only [Dp] at h2
 refine A3 Tryz.func116 Ao XH (n := 29) Ao Ao ?_
 refine As ?_
 refine Aq ?_
 refine BH Ao Ao (Bb Ao) fun b1 => ?_
 refine BH Ao Ao (BG B0 Ao) fun b2 => ?_
 refine Ap Ao Ao (At Ao) ?_
 refine Au Ao ?_
 refine As ?_
 refine Aq ?_
 refine Ap Ao Ao (At Ao) ?_
 refine Au Ao ?_
 refine As ?_
 refine BU ?_
 refine B5 (Kz (t := 4) (sz := 5) Ao) ?_
 refine CS (α := Tm × List Tm × Option Nat × Nat) (fun (tt, ys, o, cp) => ⟨29, mk [(1, .ptr b1 0), (2, .ptr b2 0), (4, .vs o (BO ys).length cp)], [.vec o 5 (BO ys) cp, .box b2 [.p (I 0), .p (I 0), .p (.str ⟨#[]⟩), .p (.nils), .p (.nils)], .box b1 ((Ba tt).map .p)], []⟩) (fun (tt, ys, o, cp) => size tt) (fun (tt, ys, o, cp) => Bo t = ((Bo tt).1, (Bo tt).2 ++ ys.reverse) ∧ Nd tt ∧ size tt + ys.length ≤ size t) ⟨t, [], none, 0⟩ (⟨by simp, h1, by simp⟩) ?_ ?_
 ·exact B8 ⟨we Ao, we Ao, we Ao, trivial⟩ (leH (is := [0, 1, 2]) Ao (wl (oe Ao) (wl (oe Ao) (wl (oe Ao) (ET)))))
 rintro ⟨tt, ys, o, cp⟩ hC
 try simp only at hC
 obtain ⟨hS, hN, hL⟩ := hC
 refine As ?_
 refine As ?_
 obtain ⟨ttk, tti, ttn, ttl, tts⟩ := tt
 simp only [size] at hL
 refine CB [1, 2, 4] 13 (fun y => y = .p (.bool (((ttk : Int) == (4 : Int)) && (((tts.length : Nat) : Int) == (2 : Int))))) ?_ ?_
 ·refine Aq ?_
  refine Ap Ao Ao (Av CN Ao Ao) ?_
  refine Ap Ao Ao (Ax (i := 2) DQ Ao Ao Ao) ?_
  refine Ap Ao Ao (A7 Ao Ao Ao) ?_
  refine Ap Ao Ao (Ar Ao) ?_
  refine Bm 8 Ao (fun g => ?_) (fun g => ?_)
  ·(try simp only [sd, se] at g)
   refine Az Ao Ao Ao Ao (Av CN Ao Ao) ?_
   refine Az Ao Ao Ao Ao (Ax (i := 2) DC Ao Ao Ao) ?_
   refine Az Ao Ao Ao Ao (Bx B4 Ao (Bt _)) ?_
   refine Az Ao Ao Ao Ao (A7 Ao Ao Ao) ?_
   refine Ap Ao Ao (A2 Ao Ao) ?_
   refine Au Ao ?_
   exact ⟨Ao, Ao, AG, AF, ⟨Ao, Ao, Ao, trivial⟩⟩
  ·(try simp only [sd, se] at g)
   refine A0 Ao Ao Ao Ao Ao ?_
   refine A0 Ao Ao Ao Ao Ao ?_
   refine A0 Ao Ao Ao Ao Ao ?_
   refine A0 Ao Ao Ao Ao Ao ?_
   refine Ap Ao Ao (A2 Ao Ao) ?_
   refine Au Ao ?_
   exact ⟨Ao, Ao, AG, AF, ⟨Ao, Ao, Ao, trivial⟩⟩
 rintro _ rfl
 refine A4 Ao (fun c => ?_) (fun c => ?_)
 ·(try simp only [sd, se] at c)
  refine BD ?_
  refine BU ?_
  refine As ?_
  refine Aq ?_
  refine Ap Ao Ao (Ar Ao) ?_
  refine Ap Ao Ao (Av CN Ao Ao) ?_
  refine Ap Ao Ao (Ax (i := 2) DC Ao Ao Ao) ?_
  obtain ⟨x, hx⟩ := BM (l := tts) (i := 1) Am
  refine Ap Ao Ao (BJ B4 Ao Ao Am (B9 hx) (Bh _)) ?_
  refine Ap Ao Ao (Be BI Ao (Bh _)) ?_
  obtain ⟨xk, xi, xn, xl, xs⟩ := x
  refine Ap Ao Ao (CE B4 B0 Ao Ao Ao Ao Ao) ?_
  refine V9 Ao Ao (En (i := 0) (rows' := BO [(.mk xk xi xn xl xs : Tm)]) B4 B4 B0 Ao Ao Ao Ao Ao Ao (B6 _) AB (NJ ys [(.mk xk xi xn xl xs : Tm)])) fun o1 cp1 => ?_
  refine Ap Ao Ao (At Ao) ?_
  refine Au Ao ?_
  refine Aq ?_
  refine Ap Ao Ao (Av CN Ao Ao) ?_
  refine Ap Ao Ao (Ax (i := 2) DC Ao Ao Ao) ?_
  obtain ⟨x1, hx1⟩ := BM (l := tts) (i := 0) Am
  refine Ap Ao Ao (BJ B4 Ao Ao Am (B9 hx1) (Bh _)) ?_
  refine Ap Ao Ao (Be BI Ao (Bh _)) ?_
  refine Ap Ao Ao (A1 (i := 2) BI Ao Ao Ao Af AX (B3 _)) ?_
  refine Au Ao ?_
  refine ⟨⟨x1, ys ++ [.mk xk xi xn xl xs], o1, cp1⟩, (by have := DD hx1; simp only [size]; omega), ⟨by rw [hS, NT c hx1 hx]; simp, Dn hN.2.2.2.2.1 hx1, by have := DD hx1; simp; omega⟩, B8 ⟨we rfl, we rfl, we rfl, trivial⟩ (leH (is := [0, 1, 2]) rfl (wl (oe rfl) (wl (oe rfl) (wl (oe rfl) (ET)))))⟩
 ·(try simp only [sd, se] at c)
  refine CL ?_
  refine As ?_
  refine Aq ?_
  refine Ap Ao Ao (Ar Ao) ?_
  refine Ap Ao Ao (CH [0] Ao (.inl ⟨Ao, Ao, Ao⟩) (V0 ys o cp Ab) ⟨_, _, Ao, Ao, Ao⟩ Al Ao (.inl Ao)) ?_
  refine Au Ao ?_
  refine As ?_
  refine Aq ?_
  refine Ap Ao Ao (Aw (i := 2) BI Ao Ao Ao) ?_
  refine Ap Ao Ao (Ar Ao) ?_
  refine Ap Ao Ao (Bc (i := 1) BI Ao Ao Ao Ao Ao Ao) ?_
  refine Ap Ao Ao (At Ao) ?_
  refine Au Ao ?_
  refine B5 (EC (t := 4) (x := .vs o (BO ys.reverse).length cp) (Iy ys (l' := ys.reverse) An)) ?_
  refine B5 (EC (t := 25) (x := .vs o (BO ys.reverse).length cp) (Iy ys (l' := ys.reverse) An)) ?_
  refine B5 (EC (t := 28) (x := .vs o (BO ys.reverse).length cp) (Iy ys (l' := ys.reverse) An)) ?_
  refine B5 (EC (t := 3) (x := .vs o (BO ys.reverse).length cp) (Iy ys (l' := ys.reverse) An)) ?_
  refine B5 (IE (i := 0) [4, 25, 28, 3] Ao (IA ⟨Ao, Ao, Ao, Ao, trivial⟩)) ?_
  refine A5 ?_
  refine ⟨Ao, _, _, ⟨_, _, Ao, (Bg (i := 0) BI Ao Ao Ao), ⟨_, _, Ao, Ao, Ao⟩⟩, (List.nil_sublist _), ?_⟩
  rw [hS, Mf (Classical.or_iff_not_imp_left.2 fun h => by simp at h; exact fun e => absurd (c h) (by simp [e]))]
  all_goals exact ⟨rfl, rfl⟩
theorem SV : ∀ (a b : List Int), (a.length < Dp) → G5 Tryz.prog 30 [.p (.lst (List.map Ca a)), .p (.lst (List.map Ca b))] (.p (.bool (NF a b))) := by
 intro a b h1
 simp only [Dp] at h1
 refine A3 Tryz.func30 Ao ZJ (n := 26) Ao Ao ?_
 refine As ?_
 refine Aq ?_
 refine Ap Ao Ao (At Ao) ?_
 refine Au Ao ?_
 refine As ?_
 refine As ?_
 refine Aq ?_
 refine Ap Ao Ao (Ar Ao) ?_
 refine Ap Ao Ao (Bx E0 Ao (List.length_map _)) ?_
 refine Ap Ao Ao (Ar Ao) ?_
 refine Ap Ao Ao (Bx E0 Ao (List.length_map _)) ?_
 refine Ap Ao Ao (A7 Ao Ao Ao) ?_
 refine Au Ao ?_
 refine A4 Ao (fun c => ?_) (fun c => ?_)
 ·(try simp only [sd, se] at c)
  refine As ?_
  refine Aq ?_
  refine Ap Ao Ao (At Ao) ?_
  refine Au Ao ?_
  refine A5 ?_
  refine ⟨Ao, _, _, ⟨_, _, Ao, Ao, Ao⟩, (List.nil_sublist _), ?_⟩
  all_goals exact ⟨pB (Ds (fun h => by subst h; omega)).symm, rfl⟩
 ·(try simp only [sd, se] at c)
  refine BD ?_
  refine As ?_
  refine As ?_
  refine Aq ?_
  refine Ap Ao Ao (Ar Ao) ?_
  refine Ap Ao Ao (Bx E0 Ao (List.length_map _)) ?_
  refine Ap Ao Ao (Ar Ao) ?_
  refine Au Ao ?_
  refine BU ?_
  refine CS (α := Nat) (fun i => ⟨26, mk [(0, .p (.lst (List.map Ca a))), (1, .p (.lst (List.map Ca b))), (12, .p (I (a.length : Nat))), (13, .p (I (i : Int)))], [], []⟩) (fun i => a.length - i) (fun i => i ≤ a.length ∧ (agree a b i)) 0 (⟨by omega, IB _ _⟩) ?_ ?_
  ·exact B8 ⟨we Ao, we Ao, we Ao, we Ao, trivial⟩ (leH (is := []) Ao (ET))
  rintro i hC
  try simp only at hC
  obtain ⟨hi, hC⟩ := hC
  refine As ?_
  refine Aq ?_
  refine Ap Ao Ao (A7 Ao Ao Ao) ?_
  refine Au Ao ?_
  refine As ?_
  refine A4 Ao (fun c1 => ?_) (fun c1 => ?_)
  ·(try simp only [sd, se] at c1)
   refine BD ?_
   refine As ?_
   refine BU ?_
   refine As ?_
   refine Aq ?_
   refine Ap Ao Ao (Ar Ao) ?_
   refine Ap Ao Ao (At Ao) ?_
   refine Au Ao ?_
   refine As ?_
   refine CJ (fun k => false) Dq ?_
   refine Ay Ao Ao (fun _ => Ar Ao) trivial ?_
   refine Ay Ao Ao (fun _ => Ar Ao) trivial ?_
   obtain ⟨x, hx⟩ := BM (l := a) (i := i) Am
   refine Ay Ao Ao (fun _ => BJ E0 Ao Ao Am (D7 hx) (Ao)) trivial ?_
   refine Ay Ao Ao (fun _ => CG DQ Ao) trivial ?_
   refine Ay Ao Ao (fun _ => Ar Ao) trivial ?_
   refine Ay Ao Ao (fun _ => Ar Ao) trivial ?_
   obtain ⟨x1, hx1⟩ := BM (l := b) (i := i) Am
   refine Ay Ao Ao (fun _ => BJ E0 Ao Ao Am (D7 hx1) (Ao)) trivial ?_
   refine Ay Ao Ao (fun _ => CG DQ Ao) trivial ?_
   refine Ay Ao Ao (fun _ => A7 Ao Ao Ao) trivial ?_
   refine CA Ao Ai ?_
   refine A4 Ao (fun c2 => ?_) (fun c2 => ?_)
   ·(try simp only [sd, se] at c2)
    refine As ?_
    refine Aq ?_
    refine Ap Ao Ao (At Ao) ?_
    refine Au Ao ?_
    refine A5 ?_
    refine ⟨Ao, _, _, ⟨_, _, Ao, Ao, Ao⟩, (List.nil_sublist _), ?_⟩
    all_goals exact ⟨pB (Ds (fun h => by subst h; rw [hx] at hx1; injection hx1 with e; omega)).symm, rfl⟩
   ·(try simp only [sd, se] at c2)
    refine BD ?_
    refine Aq ?_
    refine Ap Ao Ao (CT Ao Ao Am Am) ?_
    refine Ap Ao Ao (Ar Ao) ?_
    refine Au Ao ?_
    refine ⟨(i + 1), AT, ⟨by omega, H6 hC hx (by rw [hx1]; congr 1; omega)⟩, B8 ⟨we rfl, we rfl, we rfl, we rfl, trivial⟩ (leH (is := []) rfl (ET))⟩
  ·(try simp only [sd, se] at c1)
   refine CL ?_
   refine As ?_
   refine Aq ?_
   refine Ap Ao Ao (At Ao) ?_
   refine Au Ao ?_
   refine A5 ?_
   refine ⟨Ao, _, _, ⟨_, _, Ao, Ao, Ao⟩, (List.nil_sublist _), ?_⟩
   all_goals exact ⟨pB (Dl (JC hC Am Am)).symm, rfl⟩
theorem TB : ∀ (n : Nat) (l : List Tm) (most : Int), By l ≤ n → TA l → l.length < wide → G5 Tryz.prog 57 [.p (I most), Yq l] (.p (I (Dg l most 0))) := by
 intro n
 induction n using Nat.strongRecOn with
 | ind n ih =>
  intro l most hs hnd hlen
  simp only [wide] at hlen
  refine A3 Tryz.func57 Ao Zc (n := 29) Ao Ao ?_
  refine As ?_
  refine Aq ?_
  refine Ap Ao Ao (At Ao) ?_
  refine Au Ao ?_
  refine As ?_
  refine Aq ?_
  refine Ap Ao Ao (At Ao) ?_
  refine Au Ao ?_
  refine As ?_
  refine As ?_
  refine Aq ?_
  refine Ap Ao Ao (Ar Ao) ?_
  refine Ap Ao Ao (Cx B4 Ao) ?_
  refine Ap Ao Ao (Ar Ao) ?_
  refine Au Ao ?_
  refine BU ?_
  refine CS (α := Nat × Int) (fun s => ⟨29, mk [(0, .p (I most)), (5, .p (I s.2)), (8, Yq l), (9, .p (I (BO l).length)), (10, .p (I s.1))], [], []⟩) (fun s => l.length - s.1) (fun s => s.1 ≤ l.length ∧ Dg (l.drop s.1) most s.2 = Dg l most 0) ((0, 0)) An ?_ ?_
  ·exact Gr ⟨Ao, Ao, Ao, Ao, Ao, trivial⟩ J
  rintro ⟨i, m⟩ ⟨hi, hC⟩
  simp only at hi hC
  refine As ?_
  refine Aq ?_
  refine Ap Ao Ao (A7 Ao Ao Ao) ?_
  refine Au Ao ?_
  refine As ?_
  refine A4 Ao (fun c1 => ?_) (fun c1 => ?_)
  ·(try simp only [sd] at c1)
   have hi2 : i < l.length := by rw [Bt] at c1; omega
   obtain ⟨t, hk⟩ := BM hi2
   have hks := DD hk
   obtain ⟨kd, ix, nm, ls, ks⟩ := t
   have hnt := Lf hnd hk
   simp only [Wd] at hnt
   simp only [size] at hks
   refine BD ?_
   refine As ?_
   refine BU ?_
   refine As ?_
   refine Aq ?_
   refine Ap Ao Ao (BJ B4 Ao Ao Am (B9 hk) (Bh _)) ?_
   refine Ap Ao Ao (Be BI Ao (Bh _)) ?_
   refine BH Ao Ao (BG B0 Ao) fun b7 => ?_
   refine Ap Ao Ao (Bc (i := 0) BI Ao Ao Ao Ao Ao Ao) ?_
   refine Au Ao ?_
   refine As ?_
   refine As ?_
   refine Aq ?_
   refine Ap Ao Ao (Ar Ao) ?_
   refine Ap Ao Ao (Ar Ao) ?_
   refine Ap Ao Ao (A7 Ao Ao Ao) ?_
   refine Au Ao ?_
   refine A4 Ao (fun c2 => ?_) (fun c2 => ?_)
   ·(try simp only [sd] at c2)
    refine As ?_
    refine Aq ?_
    refine Ap Ao Ao (Ar Ao) ?_
    refine Ap Ao Ao (At Ao) ?_
    refine Au Ao ?_
    refine A5 ?_
    refine ⟨Ao, _, [], Bj Ao, List.nil_sublist _, ?_⟩
    exact ⟨pI (by rw [← hC, Nj hk, if_pos Am]), Ao⟩
   ·(try simp only [sd] at c2)
    refine BD ?_
    refine Aq ?_
    refine Ap Ao Ao (Ar Ao) ?_
    refine Ap Ao Ao (Ar Ao) ?_
    refine Ap Ao Ao (Ar Ao) ?_
    refine Ap Ao Ao (PO Ao Ao) ?_
    refine Ap Ao Ao (Av CN Ao Ao) ?_
    refine Ap Ao Ao (Ax (i := 0) DC Ao Ao Ao) ?_
    refine Ap Ao Ao (Bf Ao Ao (ih (By ks) Am ks _ (Nat.le_refl _) hnt.2.2.2.2.1 hnt.2.2.2.1) Ao) ?_
    refine Ap Ao Ao (D8 Ao Ao) ?_
    refine Ap Ao Ao (D8 Ao Ao) ?_
    refine Ap Ao Ao (At Ao) ?_
    refine Au Ao ?_
    refine Aq ?_
    refine Ap Ao Ao (CT Ao Ao Am Am) ?_
    refine Ap Ao Ao (Ar Ao) ?_
    refine Au Ao ?_
    exact ⟨(i + 1, wr (m + wr (1 + Dg ks (wr (most - m)) 0))), Ah, ⟨by omega, by rw [← hC, Nj hk, if_neg Am, DZ]⟩, Gr ⟨rfl, rfl, rfl, rfl, rfl, trivial⟩ J⟩
  ·(try simp only [sd] at c1)
   have hi2 : i = l.length := by rw [Bt] at c1; omega
   refine CL ?_
   refine As ?_
   refine Aq ?_
   refine Ap Ao Ao (Ar Ao) ?_
   refine Ap Ao Ao (At Ao) ?_
   refine Au Ao ?_
   refine A5 ?_
   refine ⟨Ao, _, [], Bj Ao, List.nil_sublist _, ?_⟩
   exact ⟨pI (by rw [← hC, hi2, List.drop_length]; rfl), Ao⟩
theorem WR : ∀ (x : Eg), (Wi x) → G5 Tryz.prog 59 [.agg ((Db x).map .p)] (.p (.bool (decide ((x.vars.length : Int) > 20)))) := by
 intro x h1
 refine A3 Tryz.func59 Ao aN (n := 7) Ao Ao ?_
 refine As ?_
 refine Aq ?_
 refine BH Ao Ao (Bb Ao) fun b1 => ?_
 refine Ap Ao Ao (At Ao) ?_
 refine Au Ao ?_
 refine As ?_
 refine Aq ?_
 refine Ap Ao Ao (Av Dh Ao Ao) ?_
 refine Ap Ao Ao (Ax (i := 0) Ge Ao Ao Ao) ?_
 refine Ap Ao Ao (Bx FJ Ao (List.length_map _)) ?_
 refine Ap Ao Ao (A7 Ao Ao Ao) ?_
 refine Ap Ao Ao (At Ao) ?_
 refine Au Ao ?_
 refine A5 ?_
 refine ⟨Ao, _, _, ⟨_, _, Ao, Ao, Ao⟩, (List.nil_sublist _), ?_⟩
 all_goals exact ⟨rfl, rfl⟩
theorem WU : ∀ (l : List Eg), (l.length < wide) → (∀ x ∈ l, Wi x) → GX Tryz.prog 102 [.p (.lst (List.map Db l)), .p (.fn 59)] (fun v => ∃ r : Int, v = .p (I r) ∧ (r < 0 → ∀ x ∈ l, x.vars.length ≤ 20)) := by
 intro l h1 h2
 simp only [wide] at h1
 refine A3 Tryz.func102 Ao Xb (n := 19) Ao Ao ?_
 refine As ?_
 refine Aq ?_
 refine Ap Ao Ao (At Ao) ?_
 refine Au Ao ?_
 refine As ?_
 refine As ?_
 refine Aq ?_
 refine Ap Ao Ao (Ar Ao) ?_
 refine Ap Ao Ao (Bx G8 Ao (List.length_map _)) ?_
 refine Ap Ao Ao (Ar Ao) ?_
 refine Au Ao ?_
 refine BU ?_
 refine CS (α := Nat) (fun i => ⟨19, mk [(0, .p (.lst (List.map Db l))), (1, .p (.fn 59)), (7, .p (I (l.length : Nat))), (8, .p (I (i : Int)))], [], []⟩) (fun i => l.length - i) (fun i => i ≤ l.length ∧ (∀ j, j < i → ∀ x, l[j]? = some x → x.vars.length ≤ 20)) 0 (⟨by omega, fun j h => by omega⟩) ?_ ?_
 ·exact B8 ⟨we Ao, we Ao, we Ao, we Ao, trivial⟩ (leH (is := []) Ao (ET))
 rintro i hC
 try simp only at hC
 obtain ⟨hi, hC⟩ := hC
 refine As ?_
 refine Aq ?_
 refine Ap Ao Ao (A7 Ao Ao Ao) ?_
 refine Au Ao ?_
 refine As ?_
 refine A4 Ao (fun c => ?_) (fun c => ?_)
 ·(try simp only [sd, se] at c)
  refine BD ?_
  refine As ?_
  refine BU ?_
  refine As ?_
  refine Aq ?_
  refine Ap Ao Ao (Ar Ao) ?_
  refine Ap Ao Ao (At Ao) ?_
  refine Au Ao ?_
  refine As ?_
  refine Aq ?_
  refine Ap Ao Ao (Ar Ao) ?_
  refine Ap Ao Ao (Ar Ao) ?_
  refine Ap Ao Ao (Ar Ao) ?_
  obtain ⟨x, hx⟩ := BM (l := l) (i := i) Am
  refine Ap Ao Ao (BJ G8 Ao Ao Am (IQ hx) (Ao)) ?_
  refine Ap Ao Ao (Be D1 Ao (Ao)) ?_
  refine Ap Ao Ao (Bf Ao Ao (WR x (h2 x (List.mem_of_getElem? hx))) Ao) ?_
  refine Au Ao ?_
  refine A4 Ao (fun c1 => ?_) (fun c1 => ?_)
  ·(try simp only [sd, se] at c1)
   refine As ?_
   refine Aq ?_
   refine Ap Ao Ao (Ar Ao) ?_
   refine Ap Ao Ao (At Ao) ?_
   refine Au Ao ?_
   refine A5 ?_
   refine ⟨Ao, _, [], Bj Ao, List.nil_sublist _, ⟨⟨_, Ao, ?_⟩, Ao⟩⟩
   exact fun h => by omega
  ·(try simp only [sd, se] at c1)
   refine BD ?_
   refine Aq ?_
   refine Ap Ao Ao (CT Ao Ao Am Am) ?_
   refine Ap Ao Ao (Ar Ao) ?_
   refine Au Ao ?_
   refine ⟨(i + 1), AT, ⟨by omega, FG hC hx Am⟩, B8 ⟨we rfl, we rfl, we rfl, we rfl, trivial⟩ (leH (is := []) rfl (ET))⟩
 ·(try simp only [sd, se] at c)
  refine CL ?_
  refine As ?_
  refine Aq ?_
  refine Ap Ao Ao (At Ao) ?_
  refine Au Ao ?_
  refine A5 ?_
  refine ⟨Ao, _, [], Bj Ao, List.nil_sublist _, ⟨⟨_, Ao, ?_⟩, Ao⟩⟩
  exact fun _ x hx => by obtain ⟨j, hj⟩ := Fu hx; exact hC j (by have := (List.getElem?_eq_some_iff.1 hj).1; omega) x hj
theorem UH : ∀ (l : List Eg), (l.length < wide) → (∀ x ∈ l, Wi x) → GX Tryz.prog 58 [.p (.lst (List.map Db l)), .p (.fn 59)] (fun v => ∃ b : Bool, v = .p (.bool b) ∧ (b = false → ∀ x ∈ l, x.vars.length ≤ 20)) := by
 intro l h1 h2
 refine A3 Tryz.func58 Ao Z5 (n := 9) Ao Ao ?_
 refine As ?_
 refine Aq ?_
 refine Ap Ao Ao (At Ao) ?_
 refine Au Ao ?_
 refine As ?_
 refine Aq ?_
 refine Ap Ao Ao (Ar Ao) ?_
 refine Ap Ao Ao (Ar Ao) ?_
 refine GY Ao Ao (BR Ao Ao (WU l h1 h2) (.inl Ao)) ?_
 rintro _ ⟨r, rfl, hr⟩
 refine Ap Ao Ao (A7 Ao Ao Ao) ?_
 refine Ap Ao Ao (At Ao) ?_
 refine Au Ao ?_
 refine A5 ?_
 refine ⟨Ao, _, [], Bj Ao, List.nil_sublist _, ⟨⟨_, Ao, ?_⟩, Ao⟩⟩
 exact fun h => hr (by simp at h; omega)
theorem Wr : ∀ (n : Nat) (l : List Tm), (By l ≤ n) → (TA l) → (l.length < wide) → GX Tryz.prog 34 [.p (.lst (BO l))] (fun v => ∃ b : Bool, v = .p (.bool b) ∧ (b = true → Wn l)) := by
 intro n
 induction n using Nat.strongRecOn with
 | ind n ih =>
  intro l h1 h2 h3
  have h3b := h3
  simp only [wide] at h3b
  refine A3 Tryz.func34 Ao aO (n := 36) Ao Ao ?_
  refine As ?_
  refine Aq ?_
  refine Ap Ao Ao (At Ao) ?_
  refine Au Ao ?_
  refine As ?_
  refine As ?_
  refine Aq ?_
  refine Ap Ao Ao (Ar Ao) ?_
  refine Ap Ao Ao (Bf Ao Ao (TB _ l 200 (Nat.le_refl _) h2 h3) Ao) ?_
  refine Ap Ao Ao (A7 Ao Ao Ao) ?_
  refine Au Ao ?_
  refine A4 Ao (fun c => ?_) (fun c => ?_)
  ·have cR := c
   (try simp only [sd, se] at c)
   refine As ?_
   refine Aq ?_
   refine Ap Ao Ao (At Ao) ?_
   refine Au Ao ?_
   refine A5 ?_
   refine ⟨Ao, _, [], Bj Ao, List.nil_sublist _, ⟨⟨_, Ao, ?_⟩, Ao⟩⟩
   exact fun h => absurd h Al
  ·have cR := c
   (try simp only [sd, se] at c)
   refine BD ?_
   refine As ?_
   refine As ?_
   refine Aq ?_
   refine Ap Ao Ao (Ar Ao) ?_
   refine Ap Ao Ao (Bx B4 Ao (Bt _)) ?_
   refine Ap Ao Ao (Ar Ao) ?_
   refine Au Ao ?_
   refine BU ?_
   refine CS (α := Nat) (fun i => ⟨36, mk [(8, .p (.lst (BO l))), (9, .p (I (l.length : Nat))), (10, .p (I (i : Int)))], [], []⟩) (fun i => l.length - i) (fun i => i ≤ l.length ∧ (∀ j, j < i → ∀ x, l[j]? = some x → RR x)) 0 (⟨by omega, fun j h => by omega⟩) ?_ ?_
   ·exact B8 ⟨we Ao, we Ao, we Ao, trivial⟩ (leH (is := []) Ao (ET))
   rintro i hC
   try simp only at hC
   obtain ⟨hi, hC⟩ := hC
   refine As ?_
   refine Aq ?_
   refine Ap Ao Ao (A7 Ao Ao Ao) ?_
   refine Au Ao ?_
   refine As ?_
   refine A4 Ao (fun c1 => ?_) (fun c1 => ?_)
   ·have c1R := c1
    (try simp only [sd, se] at c1)
    refine BD ?_
    refine As ?_
    refine BU ?_
    refine As ?_
    refine Aq ?_
    obtain ⟨t, ht⟩ := BM (l := l) (i := i) Am
    refine Ap Ao Ao (BJ B4 Ao Ao Am (B9 ht) (Bh _)) ?_
    refine Ap Ao Ao (Be BI Ao (Bh _)) ?_
    refine BH Ao Ao (BG B0 Ao) fun b4 => ?_
    refine Ap Ao Ao (A1 (i := 0) BI Ao Ao Ao Af AX (B3 _)) ?_
    refine Au Ao ?_
    refine As ?_
    obtain ⟨tk, ti, tn, tl, ts⟩ := t
    have hnt := Lf h2 ht
    simp only [Wd] at hnt
    have hks := DD ht
    simp only [size] at hks
    refine CB [8, 9, 10] 34 (fun y => ∃ b : Bool, y = .p (.bool b) ∧ (b = false → RR (.mk tk ti tn tl ts))) ?_ ?_
    ·refine Aq ?_
     refine Ap Ao Ao (Av CN Ao Ao) ?_
     refine Ap Ao Ao (Ax (i := 0) GO Ao Ao Ao) ?_
     refine Ap Ao Ao (GK Wf Ao) ?_
     refine Ap Ao Ao (A7 Ao Ao Ao) ?_
     refine Ap Ao Ao (Ar Ao) ?_
     refine Bm 18 Ao (fun g => ?_) (fun g => ?_)
     ·(try simp only [sd, se] at g)
      refine A0 Ao Ao Ao Ao Ao ?_
      refine A0 Ao Ao Ao Ao Ao ?_
      refine A0 Ao Ao Ao Ao Ao ?_
      refine A0 Ao Ao Ao Ao Ao ?_
      refine Ap Ao Ao (A2 Ao Ao) ?_
      refine Ap Ao Ao (Ar Ao) ?_
      refine A0 Ao Ao Ao Ao Ao ?_
      refine A0 Ao Ao Ao Ao Ao ?_
      refine A0 Ao Ao Ao Ao Ao ?_
      refine Ap Ao Ao (A2 Ao Ao) ?_
      refine Ap Ao Ao (Ar Ao) ?_
      refine A0 Ao Ao Ao Ao Ao ?_
      refine A0 Ao Ao Ao Ao Ao ?_
      refine A0 Ao Ao Ao Ao Ao ?_
      refine A0 Ao Ao Ao Ao Ao ?_
      refine Ap Ao Ao (A2 Ao Ao) ?_
      refine Au Ao ?_
      exact ⟨Ao, Ao, AG, (by first | exact ⟨_, rfl, fun h => absurd h Al⟩ | exact ⟨_, rfl, fun h => by simp only [Bool.not_eq_false'] at h; exact ⟨by omega, by omega, hb Aj, (hb1 h).sz, (hb1 h).nd, (hb1 h).fw⟩⟩), ⟨Ao, Ao, Ao, trivial⟩⟩
     ·(try simp only [sd, se] at g)
      refine Az Ao Ao Ao Ao (Av CN Ao Ao) ?_
      refine Az Ao Ao Ao Ao (Ax (i := 0) IM Ao Ao Ao) ?_
      refine Az Ao Ao Ao Ao (Bx G8 Ao (List.length_map _)) ?_
      refine Az Ao Ao Ao Ao (A7 Ao Ao Ao) ?_
      refine Ap Ao Ao (A2 Ao Ao) ?_
      refine Ap Ao Ao (Ar Ao) ?_
      refine Bm 24 Ao (fun g1 => ?_) (fun g1 => ?_)
      ·(try simp only [sd, se] at g1)
       refine A0 Ao Ao Ao Ao Ao ?_
       refine A0 Ao Ao Ao Ao Ao ?_
       refine A0 Ao Ao Ao Ao Ao ?_
       refine Ap Ao Ao (A2 Ao Ao) ?_
       refine Ap Ao Ao (Ar Ao) ?_
       refine A0 Ao Ao Ao Ao Ao ?_
       refine A0 Ao Ao Ao Ao Ao ?_
       refine A0 Ao Ao Ao Ao Ao ?_
       refine A0 Ao Ao Ao Ao Ao ?_
       refine Ap Ao Ao (A2 Ao Ao) ?_
       refine Au Ao ?_
       exact ⟨Ao, Ao, AG, (by first | exact ⟨_, rfl, fun h => absurd h Al⟩ | exact ⟨_, rfl, fun h => by simp only [Bool.not_eq_false'] at h; exact ⟨by omega, by omega, hb Aj, (hb1 h).sz, (hb1 h).nd, (hb1 h).fw⟩⟩), ⟨Ao, Ao, Ao, trivial⟩⟩
      ·(try simp only [sd, se] at g1)
       refine Az Ao Ao Ao Ao (Av CN Ao Ao) ?_
       refine Az Ao Ao Ao Ao (Ax (i := 0) IM Ao Ao Ao) ?_
       refine J9 Ao Ao Ao Ao (BR Ao Ao (UH tl hnt.2.1 hnt.2.2.1) (.inl Ao)) ?_
       rintro _ ⟨b, rfl, hb⟩
       refine Ap Ao Ao (A2 Ao Ao) ?_
       refine Ap Ao Ao (Ar Ao) ?_
       refine Bm 29 Ao (fun g2 => ?_) (fun g2 => ?_)
       ·(try simp only [sd, se] at g2)
        refine A0 Ao Ao Ao Ao Ao ?_
        refine A0 Ao Ao Ao Ao Ao ?_
        refine A0 Ao Ao Ao Ao Ao ?_
        refine A0 Ao Ao Ao Ao Ao ?_
        refine Ap Ao Ao (A2 Ao Ao) ?_
        refine Au Ao ?_
        exact ⟨Ao, Ao, AG, (by first | exact ⟨_, rfl, fun h => absurd h Al⟩ | exact ⟨_, rfl, fun h => by simp only [Bool.not_eq_false'] at h; exact ⟨by omega, by omega, hb Aj, (hb1 h).sz, (hb1 h).nd, (hb1 h).fw⟩⟩), ⟨Ao, Ao, Ao, trivial⟩⟩
       ·(try simp only [sd, se] at g2)
        refine Az Ao Ao Ao Ao (Av CN Ao Ao) ?_
        refine Az Ao Ao Ao Ao (Ax (i := 0) DC Ao Ao Ao) ?_
        refine J9 Ao Ao Ao Ao (BR Ao Ao (ih (By ts) Am ts (Nat.le_refl _) hnt.2.2.2.2.1 hnt.2.2.2.1) (.inl Ao)) ?_
        rintro _ ⟨b1, rfl, hb1⟩
        refine Az Ao Ao Ao Ao (Co Ao) ?_
        refine Ap Ao Ao (A2 Ao Ao) ?_
        refine Au Ao ?_
        exact ⟨Ao, Ao, AG, (by first | exact ⟨_, rfl, fun h => absurd h Al⟩ | exact ⟨_, rfl, fun h => by simp only [Bool.not_eq_false'] at h; exact ⟨by omega, by omega, hb Aj, (hb1 h).sz, (hb1 h).nd, (hb1 h).fw⟩⟩), ⟨Ao, Ao, Ao, trivial⟩⟩
    rintro _ ⟨q, rfl, hq⟩
    refine A4 Ao (fun c2 => ?_) (fun c2 => ?_)
    ·have c2R := c2
     (try simp only [sd, se] at c2)
     refine As ?_
     refine Aq ?_
     refine Ap Ao Ao (At Ao) ?_
     refine Au Ao ?_
     refine A5 ?_
     refine ⟨Ao, _, [], Bj Ao, List.nil_sublist _, ⟨⟨_, Ao, ?_⟩, Ao⟩⟩
     exact fun h => absurd h Al
    ·have c2R := c2
     (try simp only [sd, se] at c2)
     refine BD ?_
     refine Aq ?_
     refine Ap Ao Ao (CT Ao Ao Am Am) ?_
     refine Ap Ao Ao (Ar Ao) ?_
     refine Au Ao ?_
     refine ⟨(i + 1), AT, ⟨by omega, FG hC ht (hq (by simpa using c2))⟩, B8 ⟨we rfl, we rfl, we rfl, trivial⟩ (leH (is := []) rfl (ET))⟩
   ·have c1R := c1
    (try simp only [sd, se] at c1)
    refine CL ?_
    refine As ?_
    refine Aq ?_
    refine Ap Ao Ao (At Ao) ?_
    refine Au Ao ?_
    refine A5 ?_
    refine ⟨Ao, _, [], Bj Ao, List.nil_sublist _, ⟨⟨_, Ao, ?_⟩, Ao⟩⟩
    exact fun _ => T3 (m := i) Am h2 h3 Am hC
end Go.Proofs.YtapmjpihennhaaaGreatDoor
namespace Go.Eu
open Go.Abs
structure aW where
 name : ByteArray
 type : Tm
 deriving Inhabited
structure Ym where
 params : Int
 type : Tm
 rules : List Tm
 deriving Inhabited
mutual
inductive Ri where
 | mk (kind : Int) (body : Tm) (var : Int) (branches : List Sd)
inductive Sd where
 | mk (ctor : ByteArray) (absurd : Bool) (tree : Ri)
end
instance : Inhabited Ri := ⟨.mk 0 default 0 []⟩
instance : Inhabited Sd := ⟨.mk default false default⟩
def Ri.kind : Ri → Int | .mk k _ _ _ => k
def Ri.body : Ri → Tm | .mk _ b _ _ => b
def Ri.var : Ri → Int | .mk _ _ v _ => v
def Ri.branches : Ri → List Sd | .mk _ _ _ l => l
def Sd.ctor : Sd → ByteArray | .mk c _ _ => c
def Sd.absurd : Sd → Bool | .mk _ a _ => a
def Sd.tree : Sd → Ri | .mk _ _ t => t
structure a7 where
 name : ByteArray
 type : Tm
 arity : Int
 tree : Ri
 deriving Inhabited
structure Jp where
 kind : Int
 name : ByteArray
 params : Int
 type : Tm
 value : Tm
 fixed : Int
 ctors : List aW
 recs : Ym
 funs : List a7
 deriving Inhabited
structure Ry where
 kind : Int
 decl : Int
 item : Int
 params : Int
 type : Tm
 deriving Inhabited
structure BF where
 carrier : ByteArray
 add : ByteArray
 zero : ByteArray
 neg : ByteArray
 one : ByteArray
 leq : ByteArray
 lemmas : List ByteArray
 deriving Inhabited
structure CM where
 place : Int
 minus : Bool
 deriving Inhabited, DecidableEq
def Wm (c : aW) : List PV := .str c.name :: Ba c.type
def TC (r : Ym) : List PV := I r.params :: (Ba r.type ++ [.lst (BO r.rules)])
mutual
def SR : Ri → List PV
 | .mk k b v l => I k :: (Ba b ++ [I v, .lst (VF l)])
def Xo : Sd → List PV
 | .mk c a t => .str c :: .bool a :: SR t
def VF : List Sd → List (List PV)
 | [] => []
 | b :: l => Xo b :: VF l
end
def Ys (f : a7) : List PV := .str f.name :: (Ba f.type ++ (I f.arity :: SR f.tree))
def DL (d : Jp) : List PV := I d.kind :: .str d.name :: I d.params :: (Ba d.type ++ (Ba d.value ++ (I d.fixed :: .lst (d.ctors.map Wm) :: (TC d.recs ++ [.lst (d.funs.map Ys)]))))
def NC (e : Ry) : List PV := I e.kind :: I e.decl :: I e.item :: I e.params :: Ba e.type
def Ef (t : BF) : List PV := [.str t.carrier, .str t.add, .str t.zero, .str t.neg, .str t.one, .str t.leq, .lst (t.lemmas.map CV)]
def CP (s : CM) : List PV := [I s.place, .bool s.minus]
theorem S7 (r : Ym) : (TC r).length = 7 := by simp [TC, Bh]
theorem I0 (d : Jp) : (DL d).length = 23 := by simp [DL, Bh, S7]
theorem GG (e : Ry) : (NC e).length = 9 := by simp [NC, Bh]
theorem OB {α : Type} {f : α → List PV} {ts : List α} {i : Nat} {t : α} (h : ts[i]? = some t) : (ts.map f)[i]? = some (f t) := by simp [h]
theorem R4 {ts : List Jp} {i : Nat} {t : Jp} (h : ts[i]? = some t) : (ts.map DL)[i]? = some (DL t) := OB h
theorem Df {ts : List CM} {i : Nat} {t : CM} (h : ts[i]? = some t) : (ts.map CP)[i]? = some (CP t) := OB h
theorem Ch {n : Nat} {c : PV} {r : List PV} (hc : c ≠ .any) (h : DP n r) : DP (n + 1) (c :: r) :=
 ⟨by simp [h.1], fun x hx => by
  rcases List.mem_cons.1 hx with rfl | hx
  ·exact hc
  ·exact h.2 x hx⟩
theorem Fk {n m : Nat} {a b : List PV} (ha : DP n a) (hb : DP m b) : DP (n + m) (a ++ b) :=
 ⟨by simp [ha.1, hb.1], fun x hx => by
  rcases List.mem_append.1 hx with hx | hx
  ·exact ha.2 x hx
  ·exact hb.2 x hx⟩
theorem HR : DP 0 [] := ⟨rfl, fun c h => by simp at h⟩
theorem WH (r : Ym) : DP 7 (TC r) := Ch An (Fk (IC _) (Ch An HR))
theorem TL (d : Jp) : DP 23 (DL d) := Ch An (Ch An (Ch An (Fk (n := 5) (m := 15) (IC _) (Fk (n := 5) (m := 10) (IC _) (Ch An (Ch An (Fk (n := 7) (m := 1) (WH _) (Ch An HR))))))))
theorem WL (e : Ry) : DP 9 (NC e) := Ch An (Ch An (Ch An (Ch An (IC _))))
theorem Ue (t : BF) : DP 7 (Ef t) := Ch An (Ch An (Ch An (Ch An (Ch An (Ch An (Ch An HR))))))
theorem RM (s : CM) : DP 2 (CP s) := Ch An (Ch An HR)
theorem Rn (l : List Jp) : ∀ r ∈ l.map DL, DP 23 r := FI TL l
theorem C9 (l : List CM) : ∀ r ∈ l.map CP, DP 2 r := FI RM l
theorem Ul (m : Jp) : ((DL m).map AV.p).all one = true := FH (TL m)
theorem OF (m : Ry) : ((NC m).map AV.p).all one = true := FH (WL m)
theorem Uu (m : BF) : ((Ef m).map AV.p).all one = true := FH (Ue m)
theorem UF (m : CM) : ((CP m).map AV.p).all one = true := FH (RM m)
open Go.Lib (decDigits itoa)
theorem MX {α : Type} {p : α → Bool} : ∀ {x y r r' : List α}, (∀ c ∈ x, p c = true) → (∀ c ∈ y, p c = true) → (∀ c, r.head? = some c → p c = false) → (∀ c, r'.head? = some c → p c = false) → x ++ r = y ++ r' → x = y ∧ r = r'
 | [], [], r, r', _, _, _, _, h => ⟨rfl, h⟩
 | [], c :: y, r, r', _, hy, hr, _, h => by
  have h1 : r = c :: (y ++ r') := h
  have := hr c (by rw [h1]; rfl)
  rw [hy c An] at this
  cases this
 | c :: x, [], r, r', hx, _, _, hr', h => by
  have h1 : r' = c :: (x ++ r) := h.symm
  have := hr' c (by rw [h1]; rfl)
  rw [hx c An] at this
  cases this
 | c :: x, d :: y, r, r', hx, hy, hr, hr', h => by
  simp only [List.cons_append, List.cons.injEq] at h
  obtain ⟨h1, h2⟩ := MX (fun z hz => hx z (by simp [hz])) (fun z hz => hy z (by simp [hz])) hr hr' h.2
  exact ⟨by rw [h.1, h1], h2⟩
theorem JB (u : Nat) : decDigits u = (if u < 10 then [] else decDigits (u / 10)) ++ [UInt8.ofNat (48 + u % 10)] := by
 rw [decDigits]
 split
 ·rename_i h; rw [Nat.mod_eq_of_lt h]; rfl
 ·rfl
theorem VG (u : Nat) : decDigits u ≠ [] := by rw [JB]; simp
theorem UU {a b : Nat} (ha : a < 10) (hb : b < 10) (h : UInt8.ofNat (48 + a) = UInt8.ofNat (48 + b)) : a = b := by
 have := congrArg UInt8.toNat h
 simp only [UInt8.toNat_ofNat'] at this
 omega
theorem SQ : ∀ (n a b : Nat), a ≤ n → decDigits a = decDigits b → a = b := by
 intro n
 induction n using Nat.strongRecOn with
 | ind n ih =>
  intro a b hn h
  rw [JB a, JB b] at h
  obtain ⟨h1, h2⟩ := List.append_inj' h rfl
  have h3 := UU (Nat.mod_lt _ Al) (Nat.mod_lt _ Al) (by simpa using h2)
  by_cases ha : a < 10
  ·by_cases hb : b < 10
   ·omega
   ·rw [if_pos ha, if_neg hb] at h1; exact absurd h1.symm (VG _)
  ·by_cases hb : b < 10
   ·rw [if_neg ha, if_pos hb] at h1; exact absurd h1 (VG _)
   ·rw [if_neg ha, if_neg hb] at h1
    have := ih (a / 10) Am (a / 10) (b / 10) (Nat.le_refl _) h1
    omega
def RS (c : UInt8) : Bool := c == 45 || (decide (48 ≤ c.toNat) && decide (c.toNat ≤ 57))
theorem QP : ∀ (n u : Nat), u ≤ n → ∀ c ∈ decDigits u, 48 ≤ c.toNat ∧ c.toNat ≤ 57 := by
 intro n
 induction n using Nat.strongRecOn with
 | ind n ih =>
  intro u hu c hc
  rw [JB] at hc
  rcases List.mem_append.1 hc with hc | hc
  ·split at hc
   ·simp at hc
   ·exact ih (u / 10) Am (u / 10) (Nat.le_refl _) c hc
  ·simp only [List.mem_singleton] at hc
   subst hc
   have := Nat.mod_lt u (show 0 < 10 by decide)
   rw [UInt8.toNat_ofNat']
   omega
theorem PK (n : Int) : ∀ c ∈ itoa n, RS c = true := by
 intro c hc
 unfold itoa at hc
 split at hc
 ·rcases List.mem_cons.1 hc with rfl | hc
  ·rfl
  ·have := QP _ _ (Nat.le_refl _) c hc
   simp [RS, this]
 ·have := QP _ _ (Nat.le_refl _) c hc
  simp [RS, this]
theorem S8 {a b : Int} (h : itoa a = itoa b) : a = b := by
 have key : ∀ (u : Nat) (l : List UInt8), decDigits u ≠ 45 :: l := fun u l e => by
  have := QP _ _ (Nat.le_refl _) 45 (by rw [e]; simp)
  simp at this
 unfold itoa at h
 split at h <;> split at h
 ·simp only [List.cons.injEq, true_and] at h
  have := SQ _ _ _ (Nat.le_refl _) h
  omega
 ·exact absurd h.symm (key _ _)
 ·exact absurd h (key _ _)
 ·have := SQ _ _ _ (Nat.le_refl _) h
  omega
theorem Ig {a b : Int} {r r' : List UInt8} (hr : ∀ c, r.head? = some c → RS c = false) (hr' : ∀ c, r'.head? = some c → RS c = false) (h : itoa a ++ r = itoa b ++ r') : a = b ∧ r = r' := by
 obtain ⟨h1, h2⟩ := MX (PK a) (PK b) hr hr' h
 exact ⟨S8 h1, h2⟩
def JT (v : C7) : List UInt8 := 32 :: (itoa v.index ++ 43 :: itoa v.plus)
def JQ (l : Eg) : List UInt8 := 91 :: (itoa l.const ++ (l.vars.flatMap JT ++ [93]))
def Fv (n : ByteArray) : List UInt8 := 34 :: (n.data.toList ++ [34])
mutual
def Hn : Tm → List UInt8
 | .mk k i n l ks => 40 :: (itoa k ++ 32 :: (itoa i ++ 32 :: (Fv n ++ (l.flatMap JQ ++ (D2 ks ++ [41])))))
def D2 : List Tm → List UInt8
 | [] => []
 | t :: ts => Hn t ++ D2 ts
end
def Q8 (c : UInt8) : Prop := c ≠ 34 ∧ c ≠ 92 ∧ 32 ≤ c.toNat ∧ c.toNat < 127
mutual
def LX : Tm → Prop
 | .mk k i n l ks => (∀ c ∈ n.data.toList, Q8 c) ∧ NA ks
def NA : List Tm → Prop
 | [] => True
 | t :: ts => LX t ∧ NA ts
end
theorem Nf : ∀ {l l' : List C7} {r r' : List UInt8}, l.flatMap JT ++ 93 :: r = l'.flatMap JT ++ 93 :: r' → l = l' ∧ r = r'
 | [], [], r, r', h => by simpa using h
 | [], v :: l', r, r', h => by simp [JT] at h
 | v :: l, [], r, r', h => by simp [JT] at h
 | v :: l, v' :: l', r, r', h => by
  simp only [List.flatMap_cons, JT, List.cons_append, List.append_assoc, List.cons.injEq, true_and] at h
  obtain ⟨h1, h2⟩ := Ig (by simp [RS]) (by simp [RS]) h
  simp only [List.cons.injEq, true_and] at h2
  have hd : ∀ (m : List C7) (s : List UInt8) (c : UInt8), (m.flatMap JT ++ 93 :: s).head? = some c → RS c = false := by
   intro m s c hc
   cases m with
   | nil => simp at hc; subst hc; rfl
   | cons a m => simp [JT] at hc; subst hc; rfl
  obtain ⟨h3, h4⟩ := Ig (hd _ _) (hd _ _) h2
  obtain ⟨h5, h6⟩ := Nf h4
  obtain ⟨i, p⟩ := v
  obtain ⟨i', p'⟩ := v'
  simp only at h1 h3
  exact ⟨by rw [h1, h3, h5], h6⟩
theorem NY : ∀ {l l' : List Eg} {r r' : List UInt8}, (∀ c, r.head? = some c → c ≠ 91) → (∀ c, r'.head? = some c → c ≠ 91) → l.flatMap JQ ++ r = l'.flatMap JQ ++ r' → l = l' ∧ r = r'
 | [], [], r, r', _, _, h => by simpa using h
 | [], v :: l', r, r', hr, _, h => by
  simp only [List.flatMap_nil, List.nil_append, List.flatMap_cons, JQ, List.cons_append] at h
  exact absurd Ao (hr 91 (by rw [h]; rfl))
 | v :: l, [], r, r', _, hr', h => by
  simp only [List.flatMap_nil, List.nil_append, List.flatMap_cons, JQ, List.cons_append] at h
  exact absurd Ao (hr' 91 (by rw [← h]; rfl))
 | v :: l, v' :: l', r, r', hr, hr', h => by
  simp only [List.flatMap_cons, JQ, List.cons_append, List.append_assoc, List.cons.injEq, true_and, List.nil_append] at h
  have hd : ∀ (m : List C7) (s : List UInt8) (c : UInt8), (m.flatMap JT ++ 93 :: s).head? = some c → RS c = false := by
   intro m s c hc
   cases m with
   | nil => simp at hc; subst hc; rfl
   | cons a m => simp [JT] at hc; subst hc; rfl
  obtain ⟨h1, h2⟩ := Ig (hd _ _) (hd _ _) h
  obtain ⟨h3, h4⟩ := Nf h2
  obtain ⟨h5, h6⟩ := NY hr hr' h4
  obtain ⟨c, vs⟩ := v
  obtain ⟨c', vs'⟩ := v'
  simp only at h1 h3
  exact ⟨by rw [h1, h3, h5], h6⟩
theorem Rh {n n' : ByteArray} {r r' : List UInt8} (hn : ∀ c ∈ n.data.toList, c ≠ 34) (hn' : ∀ c ∈ n'.data.toList, c ≠ 34) (h : Fv n ++ r = Fv n' ++ r') : n = n' ∧ r = r' := by
 simp only [Fv, List.cons_append, List.append_assoc, List.cons.injEq, true_and, List.nil_append] at h
 obtain ⟨h1, h2⟩ := MX (p := fun c => c != 34) (fun c hc => by simpa using hn c hc) (fun c hc => by simpa using hn' c hc) An An h
 simp only [List.cons.injEq, true_and] at h2
 obtain ⟨⟨l⟩⟩ := n
 obtain ⟨⟨l'⟩⟩ := n'
 simp only at h1
 exact ⟨by rw [h1], h2⟩
theorem Lp : ∀ (ts : List Tm) (s : List UInt8) (c : UInt8), (D2 ts ++ 41 :: s).head? = some c → c ≠ 91
 | [], s, c, h => by simp [D2] at h; subst h; decide
 | .mk k i n l ks :: ts, s, c, h => by simp [D2, Hn] at h; subst h; decide
mutual
theorem key_inj : ∀ {t u : Tm} {r r' : List UInt8}, LX t → LX u → Hn t ++ r = Hn u ++ r' → t = u ∧ r = r'
 | .mk k i n l ks, .mk k' i' n' l' ks', r, r', ht, hu, h => by
  simp only [Hn, List.cons_append, List.append_assoc, List.cons.injEq, true_and, List.nil_append] at h
  obtain ⟨h1, h2⟩ := Ig (by simp [RS]) (by simp [RS]) h
  simp only [List.cons.injEq, true_and] at h2
  obtain ⟨h3, h4⟩ := Ig (by simp [RS]) (by simp [RS]) h2
  simp only [List.cons.injEq, true_and] at h4
  obtain ⟨h5, h6⟩ := Rh (fun c hc => (ht.1 c hc).1) (fun c hc => (hu.1 c hc).1) h4
  obtain ⟨h7, h8⟩ := NY (Lp _ _) (Lp _ _) h6
  obtain ⟨h9, h10⟩ := Ot ht.2 hu.2 h8
  exact ⟨by rw [h1, h3, h5, h7, h9], h10⟩
theorem Ot : ∀ {ts us : List Tm} {r r' : List UInt8}, NA ts → NA us → D2 ts ++ 41 :: r = D2 us ++ 41 :: r' → ts = us ∧ r = r'
 | [], [], r, r', _, _, h => by simpa [D2] using h
 | [], .mk k i n l ks :: us, r, r', _, _, h => by simp [D2, Hn] at h
 | .mk k i n l ks :: ts, [], r, r', _, _, h => by simp [D2, Hn] at h
 | t :: ts, u :: us, r, r', ht, hu, h => by
  simp only [D2, List.append_assoc] at h
  obtain ⟨h1, h2⟩ := key_inj ht.1 hu.1 h
  obtain ⟨h3, h4⟩ := Ot ht.2 hu.2 h2
  exact ⟨by rw [h1, h3], h4⟩
end
theorem Sh {t u : Tm} (ht : LX t) (hu : LX u) (h : Hn t = Hn u) : t = u := (key_inj (r := []) (r' := []) ht hu (by rw [h])).1
def DK (t : Tm) (n : ByteArray) : Bool := t.kind == 3 && t.name.toList == n.toList && (t.levels.length : Int) == 0
def C8 (th : BF) (t : Tm) : Int × List Tm :=
 if (DK (Bo t).1 th.add && ((Bo t).2.length : Int) == 2) = true then (1, (Bo t).2)
 else if (DK (Bo t).1 th.zero && ((Bo t).2.length : Int) == 0) = true then (2, [])
 else if (DK (Bo t).1 th.neg && ((Bo t).2.length : Int) == 1) = true then (3, (Bo t).2)
 else (0, [])
def ao (th : BF) (t : Tm) : Bool :=
 !(DK (Bo t).1 th.add && ((Bo t).2.length : Int) == 2 || DK (Bo t).1 th.zero && ((Bo t).2.length : Int) == 0 || DK (Bo t).1 th.neg && ((Bo t).2.length : Int) == 1)
structure GV where
 coefs : List Int
 atoms : List Tm
 all : Int
noncomputable def Cu (l : List Tm) (t : Tm) : Nat := l.findIdx fun a => NF a t
noncomputable def GR (c : GV) (t : Tm) (s : Int) : GV :=
 if Cu c.atoms t < c.atoms.length then ⟨c.coefs.set (Cu c.atoms t) (wr (c.coefs.getD (Cu c.atoms t) 0 + s)), c.atoms, wr (c.all + 1)⟩ else ⟨c.coefs ++ [s], c.atoms ++ [t], wr (c.all + 1)⟩
noncomputable def B7 (th : BF) : Nat → GV → Tm → Int → GV
 | 0, c, _, _ => c
 | n + 1, c, t, s =>
  if c.all > 200 then c
  else if (C8 th t).1 = 1 then B7 th n (B7 th n c ((C8 th t).2.getD 0 BQ) s) ((C8 th t).2.getD 1 BQ) s
  else if (C8 th t).1 = 2 then c
  else if (C8 th t).1 = 3 then B7 th n c ((C8 th t).2.getD 0 BQ) (wr (-s))
  else GR c t s
structure Gs (c : GV) : Prop where
 len : c.coefs.length = c.atoms.length
 lo : (c.atoms.length : Int) ≤ c.all
 hi : c.all ≤ 201
theorem Ty {c : GV} {t : Tm} {s : Int} (h : Gs c) (ha : c.all ≤ 200) : Gs (GR c t s) := by
 obtain ⟨h1, h2, h3⟩ := h
 have hw : wr (c.all + 1) = c.all + 1 := HU (by constructor <;> omega)
 unfold GR
 split
 ·exact ⟨by simpa using h1, by simp only [hw]; omega, by simp only [hw]; omega⟩
 ·exact ⟨by simp [h1], by simp only [hw, List.length_append, List.length_cons, List.length_nil]; omega, by simp only [hw]; omega⟩
theorem Dv {th : BF} : ∀ (n : Nat) (c : GV) (t : Tm) (s : Int), Gs c → Gs (B7 th n c t s)
 | 0, c, t, s, h => h
 | n + 1, c, t, s, h => by
  unfold B7
  split
  ·exact h
  ·split
   ·exact Dv n _ _ _ (Dv n _ _ _ h)
   ·split
    ·exact h
    ·split
     ·exact Dv n _ _ _ h
     ·exact Ty h Am
theorem GM {th : BF} {t : Tm} : (C8 th t).1 ≠ 0 → (C8 th t).1 ≠ 2 → (C8 th t).2 = (Bo t).2 := by
 unfold C8
 split
 ·intros; rfl
 ·split
  ·intro _ h; exact absurd rfl h
  ·split
   ·intros; rfl
   ·intro h; exact absurd rfl h
theorem F5 {th : BF} {t : Tm} : ((C8 th t).1 = 1 → (C8 th t).2.length = 2) ∧ ((C8 th t).1 = 3 → (C8 th t).2.length = 1) := by
 unfold C8
 split
 ·rename_i h; simp at h; simp; omega
 ·split
  ·simp
  ·split
   ·rename_i h; simp at h; simp; omega
   ·simp
end Go.Eu
namespace Go.Proofs.YtapmjpihennhaaaGreatDoor
open Go.Abs Go.Eu
theorem Ly : ∀ (t : Tm) (n : ByteArray), G5 Tryz.prog 56 [.agg ((Ba t).map .p), .p (.str n)] (.p (.bool (DK t n))) := by
 intro t n
 obtain ⟨tk, ti, tn, tl, ts⟩ := t
 refine A3 Tryz.func56 Ao aT (n := 20) Ao Ao ?_
 refine As ?_
 refine Aq ?_
 refine BH Ao Ao (Bb Ao) fun b2 => ?_
 refine Ap Ao Ao (At Ao) ?_
 refine Au Ao ?_
 refine As ?_
 refine CB [] 4 (fun y => y = .p (.bool ((((tk : Int) == (3 : Int)) && (tn.toList == n.toList)) && (((tl.length : Nat) : Int) == (0 : Int))))) ?_ ?_
 ·refine Aq ?_
  refine Ap Ao Ao (Av CN Ao Ao) ?_
  refine Ap Ao Ao (Ax (i := 0) DQ Ao Ao Ao) ?_
  refine Ap Ao Ao (A7 Ao Ao Ao) ?_
  refine Ap Ao Ao (Ar Ao) ?_
  refine Bm 8 Ao (fun g => ?_) (fun g => ?_)
  ·(try simp only [sd, se] at g)
   refine Az Ao Ao Ao Ao (Av CN Ao Ao) ?_
   refine Az Ao Ao Ao Ao (Ax (i := 0) GO Ao Ao Ao) ?_
   refine Az Ao Ao Ao Ao (Ar Ao) ?_
   refine Az Ao Ao Ao Ao (JJ Ao Ao) ?_
   refine Ap Ao Ao (A2 Ao Ao) ?_
   refine Ap Ao Ao (Ar Ao) ?_
   refine Bm 14 Ao (fun g1 => ?_) (fun g1 => ?_)
   ·(try simp only [sd, se] at g1)
    refine Az Ao Ao Ao Ao (Av CN Ao Ao) ?_
    refine Az Ao Ao Ao Ao (Ax (i := 0) IM Ao Ao Ao) ?_
    refine Az Ao Ao Ao Ao (Bx G8 Ao (List.length_map _)) ?_
    refine Az Ao Ao Ao Ao (A7 Ao Ao Ao) ?_
    refine Ap Ao Ao (A2 Ao Ao) ?_
    refine Ap Ao Ao (At Ao) ?_
    refine Au Ao ?_
    exact ⟨Ao, Ao, AG, AF, trivial⟩
   ·(try simp only [sd, se] at g1)
    refine A0 Ao Ao Ao Ao Ao ?_
    refine A0 Ao Ao Ao Ao Ao ?_
    refine A0 Ao Ao Ao Ao Ao ?_
    refine A0 Ao Ao Ao Ao Ao ?_
    refine Ap Ao Ao (A2 Ao Ao) ?_
    refine Ap Ao Ao (At Ao) ?_
    refine Au Ao ?_
    exact ⟨Ao, Ao, AG, AF, trivial⟩
  ·(try simp only [sd, se] at g)
   refine A0 Ao Ao Ao Ao Ao ?_
   refine A0 Ao Ao Ao Ao Ao ?_
   refine A0 Ao Ao Ao Ao Ao ?_
   refine A0 Ao Ao Ao Ao Ao ?_
   refine Ap Ao Ao (A2 Ao Ao) ?_
   refine Ap Ao Ao (Ar Ao) ?_
   refine A0 Ao Ao Ao Ao Ao ?_
   refine A0 Ao Ao Ao Ao Ao ?_
   refine A0 Ao Ao Ao Ao Ao ?_
   refine A0 Ao Ao Ao Ao Ao ?_
   refine Ap Ao Ao (A2 Ao Ao) ?_
   refine Ap Ao Ao (At Ao) ?_
   refine Au Ao ?_
   exact ⟨Ao, Ao, AG, AF, trivial⟩
 rintro _ rfl
 refine A5 ?_
 refine ⟨Ao, _, _, ⟨_, _, Ao, Ao, Ao⟩, (List.nil_sublist _), ?_⟩
 all_goals exact ⟨rfl, rfl⟩
theorem MJ : ∀ (t : Tm) (n : ByteArray), G5 Tryz.prog 117 [.agg ((Ba t).map .p), .p (.str n)] (.p (.bool (DK t n))) := by
 intro t n
 obtain ⟨tk, ti, tn, tl, ts⟩ := t
 refine A3 Tryz.func117 Ao X9 (n := 20) Ao Ao ?_
 refine As ?_
 refine Aq ?_
 refine BH Ao Ao (Bb Ao) fun b2 => ?_
 refine Ap Ao Ao (At Ao) ?_
 refine Au Ao ?_
 refine As ?_
 refine CB [] 4 (fun y => y = .p (.bool ((((tk : Int) == (3 : Int)) && (tn.toList == n.toList)) && (((tl.length : Nat) : Int) == (0 : Int))))) ?_ ?_
 ·refine Aq ?_
  refine Ap Ao Ao (Av CN Ao Ao) ?_
  refine Ap Ao Ao (Ax (i := 0) DQ Ao Ao Ao) ?_
  refine Ap Ao Ao (A7 Ao Ao Ao) ?_
  refine Ap Ao Ao (Ar Ao) ?_
  refine Bm 8 Ao (fun g => ?_) (fun g => ?_)
  ·(try simp only [sd, se] at g)
   refine Az Ao Ao Ao Ao (Av CN Ao Ao) ?_
   refine Az Ao Ao Ao Ao (Ax (i := 0) GO Ao Ao Ao) ?_
   refine Az Ao Ao Ao Ao (Ar Ao) ?_
   refine Az Ao Ao Ao Ao (JJ Ao Ao) ?_
   refine Ap Ao Ao (A2 Ao Ao) ?_
   refine Ap Ao Ao (Ar Ao) ?_
   refine Bm 14 Ao (fun g1 => ?_) (fun g1 => ?_)
   ·(try simp only [sd, se] at g1)
    refine Az Ao Ao Ao Ao (Av CN Ao Ao) ?_
    refine Az Ao Ao Ao Ao (Ax (i := 0) IM Ao Ao Ao) ?_
    refine Az Ao Ao Ao Ao (Bx G8 Ao (List.length_map _)) ?_
    refine Az Ao Ao Ao Ao (A7 Ao Ao Ao) ?_
    refine Ap Ao Ao (A2 Ao Ao) ?_
    refine Ap Ao Ao (At Ao) ?_
    refine Au Ao ?_
    exact ⟨Ao, Ao, AG, AF, trivial⟩
   ·(try simp only [sd, se] at g1)
    refine A0 Ao Ao Ao Ao Ao ?_
    refine A0 Ao Ao Ao Ao Ao ?_
    refine A0 Ao Ao Ao Ao Ao ?_
    refine A0 Ao Ao Ao Ao Ao ?_
    refine Ap Ao Ao (A2 Ao Ao) ?_
    refine Ap Ao Ao (At Ao) ?_
    refine Au Ao ?_
    exact ⟨Ao, Ao, AG, AF, trivial⟩
  ·(try simp only [sd, se] at g)
   refine A0 Ao Ao Ao Ao Ao ?_
   refine A0 Ao Ao Ao Ao Ao ?_
   refine A0 Ao Ao Ao Ao Ao ?_
   refine A0 Ao Ao Ao Ao Ao ?_
   refine Ap Ao Ao (A2 Ao Ao) ?_
   refine Ap Ao Ao (Ar Ao) ?_
   refine A0 Ao Ao Ao Ao Ao ?_
   refine A0 Ao Ao Ao Ao Ao ?_
   refine A0 Ao Ao Ao Ao Ao ?_
   refine A0 Ao Ao Ao Ao Ao ?_
   refine Ap Ao Ao (A2 Ao Ao) ?_
   refine Ap Ao Ao (At Ao) ?_
   refine Au Ao ?_
   exact ⟨Ao, Ao, AG, AF, trivial⟩
 rintro _ rfl
 refine A5 ?_
 refine ⟨Ao, _, _, ⟨_, _, Ao, Ao, Ao⟩, (List.nil_sublist _), ?_⟩
 all_goals exact ⟨rfl, rfl⟩
theorem U6 : ∀ (th : BF) (t : Tm), (Nd t) → (size t < 1000000) → G5 Tryz.prog 79 [.agg ((Ef th).map .p), .agg ((Ba t).map .p)] (.tup [.p (I ((C8 th t).1)), .p (.lst (BO ((C8 th t).2)))]) := by
 intro th t h1 h2
 obtain ⟨BA, A6, A8, A9, BC, BB, thm⟩ := th
 refine A3 Tryz.func79 Ao ZT (n := 45) Ao Ao ?_
 refine As ?_
 refine Aq ?_
 refine BH Ao Ao (Bb Ao) fun b2 => ?_
 refine BH Ao Ao (Bb Ao) fun b3 => ?_
 refine Ap Ao Ao (At Ao) ?_
 refine Ap Ao Ao (At Ao) ?_
 refine Au Ao ?_
 refine As ?_
 refine Aq ?_
 refine Ap Ao Ao (Aw (i := 0) BI Ao Ao Af) ?_
 refine Ap Ao Ao (Bf Ao Ao (Sr t h1 Ab) Ao) ?_
 refine Ap Ao Ao (Ar Ao) ?_
 refine Ap Ao Ao (BY Ao Ao) ?_
 refine Ap Ao Ao (BY Ao Ao) ?_
 refine BH Ao Ao (BG B0 Ao) fun b6 => ?_
 refine Ap Ao Ao (A1 (i := 0) BI Ao Ao Ao Af AX (B3 _)) ?_
 refine Ap Ao Ao (At Ao) ?_
 refine Au Ao ?_
 refine As ?_
 refine BU ?_
 refine As ?_
 refine CB [2, 6, 7] 13 (fun y => y = .p (.bool ((DK ((Bo t).1) A6) && (((((Bo t).2).length : Nat) : Int) == (2 : Int))))) ?_ ?_
 ·refine Aq ?_
  refine Ap Ao Ao (Aw (i := 0) BI Ao Ao Af) ?_
  refine Ap Ao Ao (Av Du Ao Ao) ?_
  refine Ap Ao Ao (Ax (i := 2) GO Ao Ao Ao) ?_
  refine Ap Ao Ao (Bf Ao Ao (MJ ((Bo t).1) A6) Ao) ?_
  refine Ap Ao Ao (Ar Ao) ?_
  refine Bm 18 Ao (fun g => ?_) (fun g => ?_)
  ·(try simp only [sd, se] at g)
   refine Az Ao Ao Ao Ao (Ar Ao) ?_
   refine Az Ao Ao Ao Ao (Bx B4 Ao (Bt _)) ?_
   refine Az Ao Ao Ao Ao (A7 Ao Ao Ao) ?_
   refine Ap Ao Ao (A2 Ao Ao) ?_
   refine Ap Ao Ao (At Ao) ?_
   refine Au Ao ?_
   exact ⟨Ao, Ao, AG, AF, ⟨Ao, Ao, Ao, trivial⟩⟩
  ·(try simp only [sd, se] at g)
   refine A0 Ao Ao Ao Ao Ao ?_
   refine A0 Ao Ao Ao Ao Ao ?_
   refine A0 Ao Ao Ao Ao Ao ?_
   refine Ap Ao Ao (A2 Ao Ao) ?_
   refine Ap Ao Ao (At Ao) ?_
   refine Au Ao ?_
   exact ⟨Ao, Ao, AG, AF, ⟨Ao, Ao, Ao, trivial⟩⟩
 rintro _ rfl
 refine A4 Ao (fun c => ?_) (fun c => ?_)
 ·have cR := c
  (try simp only [sd, se] at c)
  refine As ?_
  refine Aq ?_
  refine Ap Ao Ao (Ar Ao) ?_
  refine Ap Ao Ao (At Ao) ?_
  refine Ap Ao Ao (At Ao) ?_
  refine Au Ao ?_
  refine A5 ?_
  refine ⟨Ao, _, _, ⟨_, _, Ao, Ao, ⟨_, _, Ao, Ao, Ao⟩⟩, (List.nil_sublist _), ?_⟩
  simp only [C8]; rw [if_pos cR]
  all_goals exact ⟨rfl, rfl⟩
 ·have cR := c
  (try simp only [sd, se] at c)
  refine As ?_
  refine CB [2, 6, 7] 24 (fun y => y = .p (.bool ((DK ((Bo t).1) A8) && (((((Bo t).2).length : Nat) : Int) == (0 : Int))))) ?_ ?_
  ·refine Aq ?_
   refine Ap Ao Ao (Aw (i := 0) BI Ao Ao Af) ?_
   refine Ap Ao Ao (Av Du Ao Ao) ?_
   refine Ap Ao Ao (Ax (i := 2) GO Ao Ao Ao) ?_
   refine Ap Ao Ao (Bf Ao Ao (MJ ((Bo t).1) A8) Ao) ?_
   refine Ap Ao Ao (Ar Ao) ?_
   refine Bm 29 Ao (fun g => ?_) (fun g => ?_)
   ·(try simp only [sd, se] at g)
    refine Az Ao Ao Ao Ao (Ar Ao) ?_
    refine Az Ao Ao Ao Ao (Bx B4 Ao (Bt _)) ?_
    refine Az Ao Ao Ao Ao (A7 Ao Ao Ao) ?_
    refine Ap Ao Ao (A2 Ao Ao) ?_
    refine Ap Ao Ao (At Ao) ?_
    refine Au Ao ?_
    exact ⟨Ao, Ao, AG, AF, ⟨Ao, Ao, Ao, trivial⟩⟩
   ·(try simp only [sd, se] at g)
    refine A0 Ao Ao Ao Ao Ao ?_
    refine A0 Ao Ao Ao Ao Ao ?_
    refine A0 Ao Ao Ao Ao Ao ?_
    refine Ap Ao Ao (A2 Ao Ao) ?_
    refine Ap Ao Ao (At Ao) ?_
    refine Au Ao ?_
    exact ⟨Ao, Ao, AG, AF, ⟨Ao, Ao, Ao, trivial⟩⟩
  rintro _ rfl
  refine A4 Ao (fun c1 => ?_) (fun c1 => ?_)
  ·have c1R := c1
   (try simp only [sd, se] at c1)
   refine As ?_
   refine Aq ?_
   refine Ap Ao Ao (At Ao) ?_
   refine Ap Ao Ao (At Ao) ?_
   refine Au Ao ?_
   refine B5 (EF 5) ?_
   refine A5 ?_
   refine ⟨Ao, _, _, ⟨_, _, Ao, Ao, ⟨_, _, Ao, Ao, Ao⟩⟩, (List.nil_sublist _), ?_⟩
   simp only [C8]; rw [if_neg (by rw [cR]; decide), if_pos c1R]
   all_goals exact ⟨rfl, rfl⟩
  ·have c1R := c1
   (try simp only [sd, se] at c1)
   refine As ?_
   refine CB [7] 34 (fun y => y = .p (.bool ((DK ((Bo t).1) A9) && (((((Bo t).2).length : Nat) : Int) == (1 : Int))))) ?_ ?_
   ·refine Aq ?_
    refine Ap Ao Ao (Aw (i := 0) BI Ao Ao Af) ?_
    refine Ap Ao Ao (Av Du Ao Ao) ?_
    refine Ap Ao Ao (Ax (i := 2) GO Ao Ao Ao) ?_
    refine Ap Ao Ao (Bf Ao Ao (MJ ((Bo t).1) A9) Ao) ?_
    refine Ap Ao Ao (Ar Ao) ?_
    refine Bm 39 Ao (fun g => ?_) (fun g => ?_)
    ·(try simp only [sd, se] at g)
     refine Az Ao Ao Ao Ao (Ar Ao) ?_
     refine Az Ao Ao Ao Ao (Bx B4 Ao (Bt _)) ?_
     refine Az Ao Ao Ao Ao (A7 Ao Ao Ao) ?_
     refine Ap Ao Ao (A2 Ao Ao) ?_
     refine Ap Ao Ao (At Ao) ?_
     refine Au Ao ?_
     exact ⟨Ao, Ao, AG, AF, ⟨Ao, trivial⟩⟩
    ·(try simp only [sd, se] at g)
     refine A0 Ao Ao Ao Ao Ao ?_
     refine A0 Ao Ao Ao Ao Ao ?_
     refine A0 Ao Ao Ao Ao Ao ?_
     refine Ap Ao Ao (A2 Ao Ao) ?_
     refine Ap Ao Ao (At Ao) ?_
     refine Au Ao ?_
     exact ⟨Ao, Ao, AG, AF, ⟨Ao, trivial⟩⟩
   rintro _ rfl
   refine A4 Ao (fun c2 => ?_) (fun c2 => ?_)
   ·have c2R := c2
    (try simp only [sd, se] at c2)
    refine As ?_
    refine Aq ?_
    refine Ap Ao Ao (Ar Ao) ?_
    refine Ap Ao Ao (At Ao) ?_
    refine Ap Ao Ao (At Ao) ?_
    refine Au Ao ?_
    refine A5 ?_
    refine ⟨Ao, _, _, ⟨_, _, Ao, Ao, ⟨_, _, Ao, Ao, Ao⟩⟩, (List.nil_sublist _), ?_⟩
    simp only [C8]; rw [if_neg (by rw [cR]; decide), if_neg (by rw [c1R]; decide), if_pos c2R]
    all_goals exact ⟨rfl, rfl⟩
   ·have c2R := c2
    (try simp only [sd, se] at c2)
    refine BD ?_
    refine As ?_
    refine Aq ?_
    refine Ap Ao Ao (At Ao) ?_
    refine Ap Ao Ao (At Ao) ?_
    refine Au Ao ?_
    refine B5 (EF 5) ?_
    refine A5 ?_
    refine ⟨Ao, _, _, ⟨_, _, Ao, Ao, ⟨_, _, Ao, Ao, Ao⟩⟩, (List.nil_sublist _), ?_⟩
    simp only [C8]; rw [if_neg (by rw [cR]; decide), if_neg (by rw [c1R]; decide), if_neg (by rw [c2R]; decide)]
    all_goals exact ⟨rfl, rfl⟩
end Go.Proofs.YtapmjpihennhaaaGreatDoor
namespace Go.Eu
open Go.Abs
def BP (n : ByteArray) (l : List Tm) : Tm := apply (.mk 3 0 n [] []) l
def Gz (th : BF) (x : Tm) : Nat → Tm → Tm
 | 0, o => o
 | k + 1, o => BP th.add [x, Gz th x k o]
def KX (th : BF) (n : Int) (x : Tm) : Tm := if n < 0 then BP th.neg [x] else x
def G4 (th : BF) : List Int → List Tm → Tm
 | n :: cs, x :: ays => Gz th (KX th n x) n.natAbs (G4 th cs ays)
 | _, _ => BP th.zero []
def OI : Int → List Int → Bool
 | _, [] => true
 | a, n :: l => if n < -200 ∨ n > 200 then false else if a + max n (-n) > 200 then false else OI (a + max n (-n)) l
def Gd (th : BF) (cs : List Int) (ays : List Tm) : Tm := if cs.length = ays.length ∧ OI 0 cs = true then G4 th cs ays else BQ
theorem Rf {th : BF} {cs : List Int} {ays : List Tm} {i : Nat} {n : Int} {x : Tm} (h1 : cs[i]? = some n) (h2 : ays[i]? = some x) : G4 th (cs.drop i) (ays.drop i) = Gz th (KX th n x) n.natAbs (G4 th (cs.drop (i + 1)) (ays.drop (i + 1))) := by
 rw [Dc h1, Dc h2, G4]
theorem Oq {th : BF} {cs : List Int} {ays : List Tm} {i : Nat} (h : cs.length ≤ i) : G4 th (cs.drop i) (ays.drop i) = BP th.zero [] := by
 rw [List.drop_eq_nil_of_le h]; simp [G4]
theorem OU {a : Int} {cs : List Int} {i : Nat} {n : Int} (h : cs[i]? = some n) : OI a (cs.drop i) = (if n < -200 ∨ n > 200 then false else if a + max n (-n) > 200 then false else OI (a + max n (-n)) (cs.drop (i + 1))) := by
 rw [Dc h, OI]
theorem MR {a : Int} {cs : List Int} {i : Nat} (h : i < cs.length) : OI a (cs.drop i) = (if cs.getD i 0 < -200 ∨ cs.getD i 0 > 200 then false else if a + max (cs.getD i 0) (-(cs.getD i 0)) > 200 then false else OI (a + max (cs.getD i 0) (-(cs.getD i 0))) (cs.drop (i + 1))) := by
 obtain ⟨n, hn⟩ : ∃ n, cs[i]? = some n := ⟨_, List.getElem?_eq_getElem h⟩
 rw [OU hn, Cm hn]
theorem NW {th : BF} {cs : List Int} {us : List Tm} {m : Nat} (h0 : 0 < m) (h : m ≤ cs.length) (h' : cs.length = us.length) : G4 th (cs.drop (m - 1)) (us.drop (m - 1)) = Gz th (KX th (cs.getD (m - 1) 0) (us.getD (m - 1) BQ)) (cs.getD (m - 1) 0).natAbs (G4 th (cs.drop m) (us.drop m)) := by
 obtain ⟨k, rfl⟩ : ∃ k, m = k + 1 := ⟨m - 1, by omega⟩
 simp only [Nat.add_sub_cancel]
 obtain ⟨n, hn⟩ : ∃ n, cs[k]? = some n := ⟨_, List.getElem?_eq_getElem Am⟩
 obtain ⟨u, hu⟩ : ∃ n, us[k]? = some n := ⟨_, List.getElem?_eq_getElem Am⟩
 rw [Rf hn hu, Cm hn, Cm hu]
theorem TM {th : BF} {n : Int} {x o : Tm} : Gz th (KX th n x) n.natAbs o = Gz th (BP th.neg [x]) (-n).toNat (Gz th x n.toNat o) := by
 unfold KX
 by_cases h : n < 0
 ·rw [if_pos h, show n.toNat = 0 by omega, show n.natAbs = (-n).toNat by omega]; rfl
 ·rw [if_neg h, show (-n).toNat = 0 by omega, show n.natAbs = n.toNat by omega]; rfl
theorem HN {th : BF} {cs : List Int} {us : List Tm} (h : ¬ (cs.length = us.length ∧ OI 0 cs = true)) : Gd th cs us = BQ := if_neg h
theorem NV {th : BF} {cs : List Int} {us : List Tm} (h : cs.length = us.length) (h' : OI 0 cs = true) : Gd th cs us = G4 th cs us := if_pos ⟨h, h'⟩
theorem OZ : ∀ {l : List Int} {a : Int}, OI a l = true → ∀ n ∈ l, -200 ≤ n ∧ n ≤ 200
 | [], a, _, n, h => by simp at h
 | m :: l, a, h, n, hn => by
  unfold OI at h
  split at h
  ·cases h
  ·rename_i h1
   split at h
   ·cases h
   ·rcases List.mem_cons.1 hn with rfl | hn
    ·omega
    ·exact OZ h n hn
theorem Pd {l : List Int} (h : OI 0 l = true) (j : Nat) : -200 ≤ l.getD j 0 ∧ l.getD j 0 ≤ 200 := by
 cases e : l[j]? with
 | none => simp [List.getD, e]
 | some n => rw [Cm e]; exact OZ h n (List.mem_of_getElem? e)
def SO {σ : Type} (st : σ → Int → Int → σ) (xs : List Int) : Nat → σ → σ
 | 0, s => s
 | m + 1, s => SO st xs m (st s m (xs.getD m 0))
theorem Sk {σ : Type} {st : σ → Int → Int → σ} {xs : List Int} {m j : Nat} {x : Int} {s : σ} (hx : xs[j]? = some x) (hm : m = j + 1) : SO st xs (m - 1) (st s ((m : Int) - 1) x) = SO st xs m s := by
 subst hm
 rw [Nat.add_sub_cancel, SO, Cm hx]
 congr 2
 omega
def Ql (th : BF) (us : List Tm) (s : Tm) (d n : Int) : Tm := Gz th (KX th n (us.getD d.toNat BQ)) n.natAbs s
theorem RI {th : BF} {cs : List Int} {us : List Tm} (h : cs.length = us.length) : ∀ (m : Nat), m ≤ cs.length → SO (Ql th us) cs m (G4 th (cs.drop m) (us.drop m)) = G4 th cs us
 | 0, _ => by simp [SO]
 | m + 1, hm => by
  have := NW (th := th) (cs := cs) (us := us) (m := m + 1) Am hm h
  simp only [Nat.add_sub_cancel] at this
  rw [SO, ← RI h m Am, this]
  rfl
theorem UE {th : BF} {cs : List Int} {us : List Tm} (h : cs.length = us.length) : SO (Ql th us) cs cs.length (BP th.zero []) = G4 th cs us := by
 rw [← RI h cs.length (Nat.le_refl _), Oq (Nat.le_refl _)]
end Go.Eu
namespace Go.Eu
def Lc (c : Int) : Bool := (decide (c ≥ 97) && decide (c ≤ 122)) || (decide (c ≥ 65) && decide (c ≤ 90)) || c == 95
def Ho (c : UInt8) : Prop := Lc c.toNat = true ∨ c.toNat = 39 ∨ c.toNat = 46 ∨ (48 ≤ c.toNat ∧ c.toNat ≤ 57)
def Oe (s : ByteArray) : Prop := ∀ c ∈ s.data.toList, Ho c
theorem Va {c : UInt8} (h : Ho c) : Q8 c := by
 have hr : 39 ≤ c.toNat ∧ c.toNat < 127 ∧ c.toNat ≠ 92 := by
  simp only [Ho, Lc, Bool.or_eq_true, Bool.and_eq_true, decide_eq_true_eq, beq_iff_eq] at h
  omega
 refine ⟨fun e => ?_, fun e => ?_, by omega, by omega⟩ <;> subst e <;> simp at hr
theorem Kq {s : ByteArray} {i : Nat} {x : UInt8} (h : ∀ j, j < i → ∀ c, s.data.toList[j]? = some c → Ho c) (hx : s[i]? = some x) (hp : Ho x) : ∀ j, j < i + 1 → ∀ c, s.data.toList[j]? = some c → Ho c := by
 intro j hj c hc
 by_cases e : j = i
 ·subst e
  have h2 : s.data.toList[j]? = some x := by
   rw [Array.getElem?_toList]
   exact hx
  rw [h2] at hc
  cases hc
  exact hp
 ·exact h j Am c hc
theorem Su {s : ByteArray} (h : ∀ j, j < s.size → ∀ c, s.data.toList[j]? = some c → Ho c) : Oe s := by
 intro c hc
 obtain ⟨j, hj⟩ := List.mem_iff_getElem?.1 hc
 exact h j (by have := (List.getElem?_eq_some_iff.1 hj).1; simpa using this) c hj
theorem Q7 : ∀ {ks : List Tm}, (∀ (j : Nat) (t : Tm), ks[j]? = some t → LX t) → NA ks
 | [], _ => trivial
 | t :: ts, h => ⟨h 0 t rfl, Q7 fun j t' ht => h (j + 1) t' (by simpa using ht)⟩
theorem UJ {n : ByteArray} (h : n.toList = []) : ∀ c ∈ n.data.toList, Q8 c := by
 intro c hc
 rw [Dw] at h
 rw [h] at hc
 simp at hc
theorem SC {n : ByteArray} (h : Oe n) : ∀ c ∈ n.data.toList, Q8 c := fun c hc => Va (h c hc)
end Go.Eu
namespace Go.Abs
section
variable {P : Program} {H : List BL} {dst : Option Tmp} {ty : TypeId} {pos : String} {aft : Array Edge} {x y : Operand} {ρ : Operand → AV} {g : Option (Nat × Bool)}
end
section
variable {P : Program} {dst : Option Tmp} {ty : TypeId} {pos : String} {aft : Array Edge} {g : Option (Nat × Bool)} {ρ : Operand → AV} {H : List BL} {x y z : Operand} {v : AV}
def D4 (s : ByteArray) : List (List PV) := s.data.toList.map fun b => [PV.int .u8 b.toNat]
theorem GH (s : ByteArray) : (D4 s).length = s.size := by simp [D4]
theorem M7 (s : ByteArray) : ∀ r ∈ D4 s, DP 1 r := by
 intro r hr
 obtain ⟨b, _, rfl⟩ := List.mem_map.1 hr
 exact ⟨Ao, fun c hc => by simp at hc; subst hc; simp⟩
theorem Iq {F : Nat → Prop} {w : World} {s : ByteArray} {rows : List (List PV)} {sz : Nat} {u : Value} (h : CF F w (.p (.str s)) u) (hr : D4 s = rows) (hs : sz = 1) :
  ∃ us, u = .string s ∧ (Builtin.firstCells sz rows.length u).run P w = .ok ⟨us⟩ w ∧ us.length = rows.length * sz ∧ Bu F w (rows.flatten.map .p) us := by
 subst hs
 subst hr
 simp only [CF, CQ] at h
 subst h
 refine ⟨s.data.toList.map fun b => Value.int .u8 b.toNat, Ao, ?_, by simp [D4], ?_⟩
 ·rw [GH]
  exact Go.Lib.run_firstCells_string (P := P) w 1 s
 ·unfold D4
  induction s.data.toList with
  | nil => simp [Bu]
  | cons b l ih => simp only [List.map_cons, List.flatten_cons, List.map_append, List.map_nil, List.singleton_append, Bu]; exact ⟨_, _, rfl, by simp [CF, CQ], ih⟩
end
section
variable {P : Program} {dst : Option Tmp} {ty : TypeId} {pos : String} {aft : Array Edge} {g : Option (Nat × Bool)} {ρ : Operand → AV} {H : List BL} {x y z : Operand} {v : AV}
theorem EA {T U : TypeId} {n b o i : Nat} {cs : List AV} (hT : DR P T = some (false, n)) (hx : ρ x = .ptr b o) (hi : H[i]? = some (.boxT b U cs)) (hv : cs[o]? = some v) :
  DS P ⟨dst, .load T x, ty, pos, aft, g⟩ ρ H v H :=
 CK fun F w E hH hE => by
  obtain ⟨d, hu, hd, hz⟩ := D9 hT
  have h1 := hE x Ac
  rw [hx] at h1
  simp only [CF] at h1
  obtain ⟨vs, hb, hl⟩ := hH.obj _ (List.mem_of_getElem? hi)
  obtain ⟨u, hu', hr⟩ := hl.get hv
  refine ⟨u, ?_, hr⟩
  simp only [execOp, Instr.loadAt, h1, Instr.sureAddr, Sem.run_bind, Sem.run_pure, Result.andThen_ok, EN (w := w) hu hd (b := b) (o := o) (v := u) (by simp [World.cell?, hb, hu'])]
theorem IP {T U : TypeId} {bl : Bool} {n b o i : Nat} {cs us : List AV} (hT : DR P T = some (bl, n + 1)) (hx : ρ x = .ptr b o) (hi : H[i]? = some (.boxT b U cs)) (hy : EJ (ρ y) = some us) (hn : us.length = n + 1)
  (ho : Nat.ble (o + (n + 1)) cs.length = true) (h1 : us.all one = true) : DS P ⟨dst, .store T x y, ty, pos, aft, g⟩ ρ H (.p .any) (H.set i (.boxT b U (splice cs o us))) :=
 F4 fun F w E hH hE => by
  have e1 := hE x Ac
  have e2 := hE y Ac
  rw [hx] at e1
  simp only [CF] at e1
  obtain ⟨vs, hb, hl⟩ := hH.obj _ (List.mem_of_getElem? hi)
  obtain ⟨ws, hc, hl'⟩ := Hi e2 hy
  have hlen := hl'.length
  have hw : E6 b (.cells ⟨splice vs o ws⟩ U (0, 0)) w (w.setCells b o ws) := ED ws hb (by intro e; rw [e] at hlen; simp at hlen; omega)
  have hlt : b < w.heap.size := (Array.getElem?_eq_some_iff.1 hb).1
  have hF : F b := hH.sub _ (List.mem_of_getElem? hi) b rfl
  refine ⟨w.setCells b o ws, _, F, ?_, ⟨Ao, Ao⟩, hw.trans hi Ao Ao, hw.HRel hH hi Ao Ao ?_⟩
  ·have hst := Gb (T := T) (v := E y) (o := o) hT hb hc Am (by rw [hl.length]; simpa [Nat.ble_eq] using ho) (Hd hl' h1)
   simp only [execOp, Instr.storeAt, e1, Instr.sureAddr, Sem.run_bind, Sem.run_pure, Result.andThen_ok, hst]
  ·exact ⟨splice vs o ws, hw.self hlt, Bu.splice (Bu.mono (hw.stable hF) _ _ hl) (Bu.mono (hw.stable hF) _ _ hl')⟩
def Qy (T : TypeId) (cs : List AV) (H : List BL) : DM → List BL → Prop
 | .val v, H' => ∃ b, v = .ptr b 0 ∧ H' = .boxT b T cs :: H
 | .panic _, _ => False
theorem L8 {T : TypeId} {z : Value} {cs : List AV} (hT : zeroOf P T = some z) (hc : z.cells.toList.map GJ = cs) : C6 P ⟨dst, .alloc T, ty, pos, aft, g⟩ ρ H (Qy T cs H) :=
 FW fun F w E hH hE => by
  have hl : Bu F w cs z.cells.toList := by subst hc; exact FB _
  refine ⟨.pointer (some ⟨w.heap.size, 0, none⟩), _, .ptr w.heap.size 0, _, _, ?_, ⟨w.heap.size, Ao, Ao⟩, Gw H (.boxT w.heap.size T cs) _ (.inl Ao), HV hH (.boxT w.heap.size T cs) _ Ao ⟨z.cells.toList, GC _, Bu.mono (Ej _ fun b h => h) cs _ hl⟩, ?_⟩
  ·unfold zeroOf at hT
   cases hi : P.info? T with
   | none => simp [hi] at hT
   | some i =>
    have hz : i.zero = some z := by simpa [hi] using hT
    have hzv : (zeroValue T).run P w = .ok z w := by simp [zeroValue, typeInfo, hi, hz, Sem.run_bind]
    simp only [execOp, Instr.alloc, newVar, newRow, newObj, hzv, Sem.run_bind, Sem.run, Result.andThen, Sem.run_pure]
    rfl
  ·simp [CF]
theorem N6 {src d t U : TypeId} {j : TypeInfo} {b o i : Nat} {cs : List AV} (hs : P.underlying src = some (.pointer t)) (hd : P.underlying d = some .unsafePointer) (ht : P.info? t = some j) (hj : (j.size == 0) = false) (hx : ρ x = .ptr b o) (hi : H[i]? = some (.boxT b U cs)) (ho : Nat.blt o cs.length = true) :
  DS P ⟨dst, .convert src d x, ty, pos, aft, g⟩ ρ H (.ptr b o) H :=
 CK fun F w E hH hE => by
  have h1 := hE x Ac
  rw [hx] at h1
  simp only [CF] at h1
  obtain ⟨vs, hb, hl⟩ := hH.obj _ (List.mem_of_getElem? hi)
  refine ⟨.pointer (some ⟨b, o, none⟩), ?_, by simp [CF]⟩
  have := Go.Lib.run_to_unsafe (P := P) w ⟨b, o, none⟩ hs hd ht (by simpa using hj) (e := U) (cells := vs.length) (by simp [World.shape?, hb]) (by rw [hl.length]; simpa [Nat.blt_eq] using ho)
  simp only [execOp, h1, Sem.run_bind, this, Result.andThen_ok, Sem.run_pure]
theorem Lv {src d U : TypeId} {j : TypeInfo} {b i : Nat} {cs : List AV} (hs : P.underlying src = some .unsafePointer) (hd : P.underlying d = some (.pointer U)) (ht : P.info? U = some j) (hlies : liesAt P P.depth U (cs.length / P.cellsOf U) 0 U 1 = true) (hx : ρ x = .ptr b 0) (hi : H[i]? = some (.boxT b U cs)) :
  DS P ⟨dst, .convert src d x, ty, pos, aft, g⟩ ρ H (.ptr b 0) H :=
 CK fun F w E hH hE => by
  have h1 := hE x Ac
  rw [hx] at h1
  simp only [CF] at h1
  obtain ⟨vs, hb, hl⟩ := hH.obj _ (List.mem_of_getElem? hi)
  refine ⟨.pointer (some ⟨b, 0, none⟩), ?_, by simp [CF]⟩
  have := Go.Lib.run_from_unsafe (P := P) w ⟨b, 0, none⟩ hs hd ht (e := U) (cells := vs.length) (by simp [World.shape?, hb]) (by rw [hl.length]; exact hlies)
  simp only [execOp, h1, Sem.run_bind, this, Result.andThen_ok, Sem.run_pure]
theorem Li {n : Int} {T : TypeId} (hx : ρ x = .p (.int .i64 n)) : DS P ⟨dst, .unOp .neg T x, ty, pos, aft, g⟩ ρ H (.p (.int .i64 (wr (0 - n)))) H :=
 CK fun F w E hH hE => by
  have e1 := hE x Ac
  rw [hx] at e1
  simp only [CF, CQ] at e1
  exact ⟨.int .i64 (wr (0 - n)), by simp [execOp, Sem.run_bind, e1, Op.unary, Op.intArith], by simp [CF, CQ]⟩
theorem Kh {n : Int} {T : TypeId} (hx : ρ x = .p (.int .i64 n)) (h1 : -9223372036854775808 ≤ -n) (h2 : -n ≤ 9223372036854775807) : DS P ⟨dst, .unOp .neg T x, ty, pos, aft, g⟩ ρ H (.p (.int .i64 (-n))) H := by
 have h := Li (P := P) (dst := dst) (ty := ty) (pos := pos) (aft := aft) (g := g) (H := H) (T := T) hx
 rwa [show wr (0 - n) = -n by rw [Int.zero_sub]; exact OA (k := .i64) h1 h2] at h
end
end Go.Abs
namespace Go.Proofs.YtapmjpihennhaaaGreatDoor
open Go.Abs Go.Eu
theorem N7 : ∀ (n : ByteArray) (l : List Tm), (l.length < Dp) → G5 Tryz.prog 41 [.p (.str n), .p (.lst (BO l))] (.agg ((Ba (BP n l)).map .p)) := by
 intro n l h1
 refine A3 Tryz.func41 Ao ZS (n := 9) Ao Ao ?_
 refine As ?_
 refine Aq ?_
 refine BH Ao Ao (BG B0 Ao) fun b4 => ?_
 refine Au Ao ?_
 refine As ?_
 refine Aq ?_
 refine Ap Ao Ao (Ar Ao) ?_
 refine Ap Ao Ao (Bi CN B0 Ao) ?_
 refine Ap Ao Ao (Ar Ao) ?_
 refine Ap Ao Ao (C0 Ao Ao (Kf (.mk 3 0 n [] [] : Tm) l h1) (aw (Cc Ao) (aw (we Ao) (Ci)))) ?_
 refine Ap Ao Ao (A1 (i := 0) BI Ao Ao Ao Af AX (B3 _)) ?_
 refine Au Ao ?_
 refine A5 ?_
 refine ⟨Ao, _, _, ⟨_, _, Ao, (Bg (i := 0) BI Ao Ao Af), Ao⟩, (List.nil_sublist _), ?_⟩
 all_goals exact ⟨rfl, rfl⟩
theorem Dz : ∀ (n : ByteArray) (l : List Tm), (l.length < Dp) → G5 Tryz.prog 39 [.p (.str n), .p (.lst (BO l))] (.agg ((Ba (BP n l)).map .p)) := by
 intro n l h1
 refine A3 Tryz.func39 Ao Yt (n := 9) Ao Ao ?_
 refine As ?_
 refine Aq ?_
 refine BH Ao Ao (BG B0 Ao) fun b4 => ?_
 refine Au Ao ?_
 refine As ?_
 refine Aq ?_
 refine Ap Ao Ao (Ar Ao) ?_
 refine Ap Ao Ao (Bi CN B0 Ao) ?_
 refine Ap Ao Ao (Ar Ao) ?_
 refine Ap Ao Ao (C0 Ao Ao (Ke (.mk 3 0 n [] [] : Tm) l h1) (aw (Cc Ao) (aw (we Ao) (Ci)))) ?_
 refine Ap Ao Ao (A1 (i := 0) BI Ao Ao Ao Af AX (B3 _)) ?_
 refine Au Ao ?_
 refine A5 ?_
 refine ⟨Ao, _, _, ⟨_, _, Ao, (Bg (i := 0) BI Ao Ao Af), Ao⟩, (List.nil_sublist _), ?_⟩
 all_goals exact ⟨rfl, rfl⟩
theorem _root_.Go.AI {α : Prop} (h : α := by simp only [List.length_cons, List.length_nil, Dp]; omega) : α := h
theorem Sb : ∀ (th : BF) (cs : List Int) (us : List Tm), (cs.length < Dp) → G5 Tryz.prog 14 [.agg ((Ef th).map .p), .p (.lst (List.map Ca cs)), .p (.lst (BO us))] (.agg ((Ba (Gd th cs us)).map .p)) := by
 intro th cs us h1
 simp only [Dp] at h1
 obtain ⟨BA, A6, A8, A9, BC, BB, thm⟩ := th
 refine A3 Tryz.func14 Ao Y8 (n := 103) Ao Ao ?_
 refine As ?_
 refine Aq ?_
 refine BH Ao Ao (Bb Ao) fun b3 => ?_
 refine BH Ao Ao (BG B0 Ao) fun b6 => ?_
 refine Au Ao ?_
 refine As ?_
 refine As ?_
 refine Aq ?_
 refine Ap Ao Ao (Ar Ao) ?_
 refine Ap Ao Ao (Bx E0 Ao (List.length_map _)) ?_
 refine Ap Ao Ao (Ar Ao) ?_
 refine Ap Ao Ao (Bx B4 Ao (Bt _)) ?_
 refine Ap Ao Ao (A7 Ao Ao Ao) ?_
 refine Au Ao ?_
 refine A4 Ao (fun c => ?_) (fun c => ?_)
 ·(try simp only [sd, se] at c)
  refine As ?_
  refine Aq ?_
  refine Ap Ao Ao (Bi CN B0 Ao) ?_
  refine Ap Ao Ao (Bc (i := 0) BI Ao Ao Ao Ao Ao Ao) ?_
  refine Au Ao ?_
  refine B5 (Cw (i := 0) Ao) ?_
  refine A5 ?_
  refine ⟨Ao, _, _, ⟨_, _, Ao, (Bg (i := 0) BI Ao Ao Ao), Ao⟩, (List.nil_sublist _), ?_⟩
  rw [HN (fun h => c Am)]
  all_goals exact ⟨rfl, rfl⟩
 ·(try simp only [sd, se] at c)
  refine BD ?_
  refine As ?_
  refine Aq ?_
  refine Ap Ao Ao (At Ao) ?_
  refine Au Ao ?_
  refine As ?_
  refine As ?_
  refine Aq ?_
  refine Ap Ao Ao (At Ao) ?_
  refine Au Ao ?_
  refine BU ?_
  refine CS (α := Nat × Int) (fun (i, al) => ⟨103, mk [(1, .p (.lst (List.map Ca cs))), (2, .p (.lst (BO us))), (3, .ptr b3 0), (6, .ptr b6 0), (7, .p (I al)), (8, .p (I (i : Int)))], [.box b6 [.p (I 0), .p (I 0), .p (.str ⟨#[]⟩), .p (.nils), .p (.nils)], .box b3 [.p (.str BA), .p (.str A6), .p (.str A8), .p (.str A9), .p (.str BC), .p (.str BB), .p (.lst (List.map CV thm))]], []⟩) (fun (i, al) => cs.length - i) (fun (i, al) => i ≤ cs.length ∧ (OI 0 cs = OI al (cs.drop i) ∧ 0 ≤ al ∧ al ≤ 200)) ⟨0, 0⟩ (⟨by omega, by simp, by omega, by omega⟩) ?_ ?_
  ·exact B8 ⟨we Ao, we Ao, we Ao, we Ao, we Ao, we Ao, trivial⟩ (leH (is := [0, 1]) Ao (wl (oe Ao) (wl (oe Ao) (ET))))
  rintro ⟨i, al⟩ hC
  try simp only at hC
  obtain ⟨hi, hC, ha1, ha2⟩ := hC
  refine As ?_
  refine As ?_
  refine Aq ?_
  refine Ap Ao Ao (Ar Ao) ?_
  refine Ap Ao Ao (Ar Ao) ?_
  refine Ap Ao Ao (Bx E0 Ao (List.length_map _)) ?_
  refine Ap Ao Ao (A7 Ao Ao Ao) ?_
  refine Au Ao ?_
  refine A4 Ao (fun c1 => ?_) (fun c1 => ?_)
  ·(try simp only [sd, se] at c1)
   refine BD ?_
   refine As ?_
   refine BU ?_
   refine As ?_
   refine As ?_
   refine CB [1, 2, 3, 6, 7, 8] 36 (fun y => y = .p (.bool (decide (cs.getD i 0 < -200) || decide (cs.getD i 0 > 200)))) ?_ ?_
   ·refine Aq ?_
    refine Ap Ao Ao (Ar Ao) ?_
    refine Ap Ao Ao (Ar Ao) ?_
    obtain ⟨x, hx⟩ := BM (l := cs) (i := i) Am
    refine Ap Ao Ao (BJ E0 Ao Ao Am (D7 hx) (Ao)) ?_
    refine Ap Ao Ao (CG DQ Ao) ?_
    refine Ap Ao Ao (A7 Ao Ao Ao) ?_
    refine Ap Ao Ao (Ar Ao) ?_
    refine Bm 30 Ao (fun g => ?_) (fun g => ?_)
    ·(try simp only [sd, se] at g)
     refine A0 Ao Ao Ao Ao Ao ?_
     refine A0 Ao Ao Ao Ao Ao ?_
     refine A0 Ao Ao Ao Ao Ao ?_
     refine A0 Ao Ao Ao Ao Ao ?_
     refine A0 Ao Ao Ao Ao Ao ?_
     refine Ap Ao Ao (A2 Ao Ao) ?_
     refine Au Ao ?_
     exact ⟨rfl, rfl, AG, (by refine pB ?_; (first | rw [Cm hx] | skip); simp_all <;> omega), ⟨rfl, rfl, rfl, rfl, rfl, rfl, trivial⟩⟩
    ·(try simp only [sd, se] at g)
     refine Az Ao Ao Ao Ao (Ar Ao) ?_
     refine Az Ao Ao Ao Ao (Ar Ao) ?_
     refine Az Ao Ao Ao Ao (BJ E0 Ao Ao Am (D7 hx) (Ao)) ?_
     refine Az Ao Ao Ao Ao (CG DQ Ao) ?_
     refine Az Ao Ao Ao Ao (A7 Ao Ao Ao) ?_
     refine Ap Ao Ao (A2 Ao Ao) ?_
     refine Au Ao ?_
     exact ⟨rfl, rfl, AG, (by refine pB ?_; (first | rw [Cm hx] | skip); simp_all <;> omega), ⟨rfl, rfl, rfl, rfl, rfl, rfl, trivial⟩⟩
   rintro _ rfl
   refine A4 Ao (fun c2 => ?_) (fun c2 => ?_)
   ·(try simp only [sd, se] at c2)
    refine As ?_
    refine Aq ?_
    refine Ap Ao Ao (Bi CN B0 Ao) ?_
    refine Ap Ao Ao (Bc (i := 0) BI Ao Ao Ao Ao Ao Ao) ?_
    refine Au Ao ?_
    refine B5 (Cw (i := 0) Ao) ?_
    refine A5 ?_
    refine ⟨Ao, _, _, ⟨_, _, Ao, (Bg (i := 0) BI Ao Ao Ao), Ao⟩, (List.nil_sublist _), ?_⟩
    rw [HN (by intro h; rw [hC, MR Am, if_pos Am] at h; cases h.2)]
    all_goals exact ⟨rfl, rfl⟩
   ·(try simp only [sd, se] at c2)
    refine BD ?_
    refine As ?_
    refine CJ (fun k => false) Dq ?_
    refine Ay Ao Ao (fun _ => Ar Ao) trivial ?_
    refine Ay Ao Ao (fun _ => Ar Ao) trivial ?_
    refine Ay Ao Ao (fun _ => Ar Ao) trivial ?_
    obtain ⟨x, hx⟩ := BM (l := cs) (i := i) Am
    have hgx := Cm (d := (0 : Int)) hx
    refine Ay Ao Ao (fun _ => BJ E0 Ao Ao Am (D7 hx) (Ao)) trivial ?_
    refine Ay Ao Ao (fun _ => CG DQ Ao) trivial ?_
    refine Ay Ao Ao (fun _ => Ar Ao) trivial ?_
    refine Ay Ao Ao (fun _ => Ar Ao) trivial ?_
    refine Ay Ao Ao (fun _ => BJ E0 Ao Ao Am (D7 hx) (Ao)) trivial ?_
    refine Ay Ao Ao (fun _ => CG DQ Ao) trivial ?_
    refine Ay Ao Ao (fun _ => Kh Ao Am Am) trivial ?_
    refine Ay Ao Ao (fun _ => I3 Ao Ao) trivial ?_
    refine Ay Ao Ao (fun _ => CT Ao Ao Am Am) trivial ?_
    refine Ay Ao Ao (fun _ => At Ao) trivial ?_
    refine CA Ao Ai ?_
    refine As ?_
    refine Aq ?_
    refine Ap Ao Ao (Ar Ao) ?_
    refine Ap Ao Ao (A7 Ao Ao Ao) ?_
    refine Au Ao ?_
    refine A4 Ao (fun c3 => ?_) (fun c3 => ?_)
    ·(try simp only [sd, se] at c3)
     refine As ?_
     refine Aq ?_
     refine Ap Ao Ao (Bi CN B0 Ao) ?_
     refine Ap Ao Ao (Bc (i := 0) BI Ao Ao Ao Ao Ao Ao) ?_
     refine Au Ao ?_
     refine B5 (Cw (i := 0) Ao) ?_
     refine A5 ?_
     refine ⟨Ao, _, _, ⟨_, _, Ao, (Bg (i := 0) BI Ao Ao Ao), Ao⟩, (List.nil_sublist _), ?_⟩
     rw [HN (by intro h; rw [hC, MR Am, if_neg Am, if_pos Am] at h; cases h.2)]
     all_goals exact ⟨rfl, rfl⟩
    ·(try simp only [sd, se] at c3)
     refine BD ?_
     refine Aq ?_
     refine Ap Ao Ao (Ar Ao) ?_
     refine Ap Ao Ao (CT Ao Ao Am Am) ?_
     refine Ap Ao Ao (At Ao) ?_
     refine Au Ao ?_
     refine ⟨⟨i + 1, al + max (cs.getD i 0) (-(cs.getD i 0))⟩, AT, ⟨by omega, by rw [MR Am, if_neg Am, if_neg Am] at hC; exact ⟨hC, by omega, by omega⟩⟩, B8 ⟨we rfl, we rfl, we rfl, we rfl, we (pI Am), we rfl, trivial⟩ (leH (is := [0, 1]) rfl (wl (oe rfl) (wl (oe rfl) (ET))))⟩
  ·(try simp only [sd, se] at c1)
   refine CL ?_
   refine As ?_
   refine Aq ?_
   refine Ap Ao Ao (Av Du Ao Ao) ?_
   refine Ap Ao Ao (Ax (i := 1) GO Ao Ao Ao) ?_
   refine Ap Ao Ao (C0 Ao Ao (N7 A8 [] AI) (aw (we Ao) (aw (Cc Ao) (Ci)))) ?_
   refine BH Ao Ao (BG B0 Ao) fun b9 => ?_
   refine Ap Ao Ao (A1 (i := 0) BI Ao Ao Ao Af AX (B3 _)) ?_
   refine Au Ao ?_
   refine As ?_
   refine As ?_
   refine Aq ?_
   refine Ap Ao Ao (Ar Ao) ?_
   refine Ap Ao Ao (Bx E0 Ao (List.length_map _)) ?_
   refine Ap Ao Ao (Ed Ao Ao Am Am) ?_
   refine Ap Ao Ao (At Ao) ?_
   refine Au Ao ?_
   refine BU ?_
   refine CS (α := Nat) (fun m => ⟨103, mk [(1, .p (.lst (List.map Ca cs))), (2, .p (.lst (BO us))), (3, .ptr b3 0), (6, .ptr b6 0), (9, .ptr b9 0), (10, .p (I ((m : Int) - 1)))], [.box b9 ((Ba (G4 (BF.mk BA A6 A8 A9 BC BB thm) (cs.drop m) (us.drop m))).map .p), .box b6 [.p (I 0), .p (I 0), .p (.str ⟨#[]⟩), .p (.nils), .p (.nils)], .box b3 [.p (.str BA), .p (.str A6), .p (.str A8), .p (.str A9), .p (.str BC), .p (.str BB), .p (.lst (List.map CV thm))]], []⟩) (fun m => m) (fun m => m ≤ cs.length) cs.length AN ?_ ?_
   ·exact B8 ⟨we Ao, we Ao, we Ao, we Ao, we Ao, we (pI Am), trivial⟩ (leH (is := [0, 1, 2]) Ao (wl (ob (by rw [Oq (Nat.le_refl _)])) (wl (oe Ao) (wl (oe Ao) (ET)))))
   rintro m hC1
   try simp only at hC1
   refine As ?_
   refine As ?_
   refine Aq ?_
   refine Ap Ao Ao (Ar Ao) ?_
   refine Ap Ao Ao (A7 Ao Ao Ao) ?_
   refine Au Ao ?_
   refine A4 Ao (fun c2 => ?_) (fun c2 => ?_)
   ·(try simp only [sd, se] at c2)
    refine BD ?_
    refine As ?_
    refine BU ?_
    refine As ?_
    refine As ?_
    refine Aq ?_
    refine Ap Ao Ao (At Ao) ?_
    refine Au Ao ?_
    refine BU ?_
    refine CS (α := Nat) (fun k => ⟨103, mk [(1, .p (.lst (List.map Ca cs))), (2, .p (.lst (BO us))), (3, .ptr b3 0), (6, .ptr b6 0), (9, .ptr b9 0), (10, .p (I ((m : Int) - 1))), (11, .p (I (k : Int)))], [.box b9 ((Ba (Gz (BF.mk BA A6 A8 A9 BC BB thm) (us.getD (m - 1) BQ) k (G4 (BF.mk BA A6 A8 A9 BC BB thm) (cs.drop m) (us.drop m)))).map .p), .box b6 [.p (I 0), .p (I 0), .p (.str ⟨#[]⟩), .p (.nils), .p (.nils)], .box b3 [.p (.str BA), .p (.str A6), .p (.str A8), .p (.str A9), .p (.str BC), .p (.str BB), .p (.lst (List.map CV thm))]], []⟩) (fun k => (cs.getD (m - 1) 0).toNat - k) (fun k => (k : Int) ≤ max (cs.getD (m - 1) 0) 0) 0 Am ?_ ?_
    ·exact B8 ⟨we Ao, we Ao, we Ao, we Ao, we Ao, we Ao, we Ao, trivial⟩ (leH (is := [0, 1, 2]) Ao (wl (oe Ao) (wl (oe Ao) (wl (oe Ao) (ET)))))
    rintro k hC2
    try simp only at hC2
    have hok : OI 0 cs = true := by rw [hC, show i = cs.length by omega, List.drop_length]; rfl
    have hrg := Pd hok (m - 1)
    refine As ?_
    refine As ?_
    refine Aq ?_
    refine Ap Ao Ao (Ar Ao) ?_
    refine Ap Ao Ao (Ar Ao) ?_
    refine Ap Ao Ao (Ar Ao) ?_
    obtain ⟨x, hx⟩ := BM (l := cs) (i := ((m : Int) - 1 : Int).toNat) Am
    have hgx := Cm (d := (0 : Int)) hx
    rw [show ((m : Int) - 1).toNat = m - 1 by omega] at hgx
    refine Ap Ao Ao (BJ E0 Ao Ao Am (D7 hx) (Ao)) ?_
    refine Ap Ao Ao (CG DQ Ao) ?_
    refine Ap Ao Ao (A7 Ao Ao Ao) ?_
    refine Au Ao ?_
    refine A4 Ao (fun c3 => ?_) (fun c3 => ?_)
    ·(try simp only [sd, se] at c3)
     refine BD ?_
     refine As ?_
     refine BU ?_
     refine CJ (fun k => false) Dq ?_
     refine Ay Ao Ao (fun _ => Av Du Ao Ao) trivial ?_
     refine BK (j := 2) rfl rfl rfl (fun H i hi => Ax (i := i) GO rfl hi rfl) (by repeat' first | exact trivial | refine And.intro ?_ ?_ | ((refine Or.inr (And.intro ?_ ?_) <;> repeat (first | exact List.Mem.head _ | apply List.Mem.tail)); done) | exact Or.inl Ai) trivial ?_
     refine Ay Ao Ao (fun _ => Ar Ao) trivial ?_
     refine Ay Ao Ao (fun _ => Ar Ao) trivial ?_
     obtain ⟨x1, hx1⟩ := BM (l := us) (i := ((m : Int) - 1 : Int).toNat) Am
     have hgy := Cm (d := BQ) hx1
     rw [show ((m : Int) - 1).toNat = m - 1 by omega] at hgy
     refine Ay Ao Ao (fun _ => BJ B4 Ao Ao Am (B9 hx1) (Bh _)) trivial ?_
     refine Ay Ao Ao (fun _ => Be BI Ao (Bh _)) trivial ?_
     refine BK (j := 0) rfl rfl rfl (fun H i hi => Aw (i := i) BI rfl hi Af) (by repeat' first | exact trivial | refine And.intro ?_ ?_ | ((refine Or.inr (And.intro ?_ ?_) <;> repeat (first | exact List.Mem.head _ | apply List.Mem.tail)); done) | exact Or.inl Ai) trivial ?_
     obtain ⟨x1k, x1i, x1n, x1l, x1s⟩ := x1
     generalize hz : Gz (BF.mk BA A6 A8 A9 BC BB thm) (us.getD (m - 1) BQ) k (G4 (BF.mk BA A6 A8 A9 BC BB thm) (cs.drop m) (us.drop m)) = z
     obtain ⟨zk, zi, zn, zl, zs⟩ := z
     refine Ay Ao Ao (fun _ => CE B4 B0 Ao Ao Ao Ao Ao) trivial ?_
     refine Ay Ao Ao (fun _ => Bf Ao Ao (N7 A6 [(.mk x1k x1i x1n x1l x1s : Tm), (.mk zk zi zn zl zs : Tm)] AI) Ao) trivial ?_
     refine Cd rfl rfl (A1 (i := 0) BI rfl rfl rfl Af AX (B3 _)) (by repeat' first | exact trivial | refine And.intro ?_ ?_ | ((refine Or.inr (And.intro ?_ ?_) <;> repeat (first | exact List.Mem.head _ | apply List.Mem.tail)); done) | exact Or.inl Ai) trivial ?_
     refine CA Ao Ai ?_
     refine Aq ?_
     refine Ap Ao Ao (Ar Ao) ?_
     refine Ap Ao Ao (CT Ao Ao Am Am) ?_
     refine Ap Ao Ao (At Ao) ?_
     refine Au Ao ?_
     refine ⟨(k + 1), AT, by first | trivial | omega | (simp only; omega) | (simp; omega), B8 ⟨we rfl, we rfl, we rfl, we rfl, we rfl, we rfl, we rfl, trivial⟩ (leH (is := [0, 1, 2]) rfl (wl (ob (by rw [Gz, hz, hgy])) (wl (oe rfl) (wl (oe rfl) (ET)))))⟩
    ·(try simp only [sd, se] at c3)
     refine CL ?_
     refine As ?_
     refine Aq ?_
     refine Ap Ao Ao (At Ao) ?_
     refine Au Ao ?_
     refine BU ?_
     refine CS (α := Nat) (fun q => ⟨103, mk [(1, .p (.lst (List.map Ca cs))), (2, .p (.lst (BO us))), (3, .ptr b3 0), (6, .ptr b6 0), (9, .ptr b9 0), (10, .p (I ((m : Int) - 1))), (12, .p (I (q : Int)))], [.box b9 ((Ba (Gz (BF.mk BA A6 A8 A9 BC BB thm) (BP A9 [(us.getD (m - 1) BQ)]) q (Gz (BF.mk BA A6 A8 A9 BC BB thm) (us.getD (m - 1) BQ) (cs.getD (m - 1) 0).toNat (G4 (BF.mk BA A6 A8 A9 BC BB thm) (cs.drop m) (us.drop m))))).map .p), .box b6 [.p (I 0), .p (I 0), .p (.str ⟨#[]⟩), .p (.nils), .p (.nils)], .box b3 [.p (.str BA), .p (.str A6), .p (.str A8), .p (.str A9), .p (.str BC), .p (.str BB), .p (.lst (List.map CV thm))]], []⟩) (fun q => (-(cs.getD (m - 1) 0)).toNat - q) (fun q => (q : Int) ≤ max (-(cs.getD (m - 1) 0)) 0) 0 Am ?_ ?_
     ·exact B8 ⟨we Ao, we Ao, we Ao, we Ao, we Ao, we Ao, we Ao, trivial⟩ (leH (is := [0, 1, 2]) Ao (wl (ob (by rw [show k = (cs.getD (m - 1) 0).toNat by omega]; rfl)) (wl (oe Ao) (wl (oe Ao) (ET)))))
     rintro q hC3
     try simp only at hC3
     have hok : OI 0 cs = true := by rw [hC, show i = cs.length by omega, List.drop_length]; rfl
     have hrg := Pd hok (m - 1)
     refine As ?_
     refine As ?_
     refine Aq ?_
     refine Ap Ao Ao (Ar Ao) ?_
     refine Ap Ao Ao (Ar Ao) ?_
     refine Ap Ao Ao (Ar Ao) ?_
     obtain ⟨x1, hx1⟩ := BM (l := cs) (i := ((m : Int) - 1 : Int).toNat) Am
     have hgx := Cm (d := (0 : Int)) hx1
     rw [show ((m : Int) - 1).toNat = m - 1 by omega] at hgx
     refine Ap Ao Ao (BJ E0 Ao Ao Am (D7 hx1) (Ao)) ?_
     refine Ap Ao Ao (CG DQ Ao) ?_
     refine Ap Ao Ao (Kh Ao Am Am) ?_
     refine Ap Ao Ao (A7 Ao Ao Ao) ?_
     refine Au Ao ?_
     refine A4 Ao (fun c4 => ?_) (fun c4 => ?_)
     ·(try simp only [sd, se] at c4)
      refine BD ?_
      refine As ?_
      refine BU ?_
      refine CJ (fun k => false) Dq ?_
      refine Ay Ao Ao (fun _ => Av Du Ao Ao) trivial ?_
      refine BK (j := 2) rfl rfl rfl (fun H i hi => Ax (i := i) GO rfl hi rfl) (by repeat' first | exact trivial | refine And.intro ?_ ?_ | ((refine Or.inr (And.intro ?_ ?_) <;> repeat (first | exact List.Mem.head _ | apply List.Mem.tail)); done) | exact Or.inl Ai) trivial ?_
      refine Ay Ao Ao (fun _ => Av Du Ao Ao) trivial ?_
      refine BK (j := 2) rfl rfl rfl (fun H i hi => Ax (i := i) GO rfl hi rfl) (by repeat' first | exact trivial | refine And.intro ?_ ?_ | ((refine Or.inr (And.intro ?_ ?_) <;> repeat (first | exact List.Mem.head _ | apply List.Mem.tail)); done) | exact Or.inl Ai) trivial ?_
      refine Ay Ao Ao (fun _ => Ar Ao) trivial ?_
      refine Ay Ao Ao (fun _ => Ar Ao) trivial ?_
      obtain ⟨x2, hx2⟩ := BM (l := us) (i := ((m : Int) - 1 : Int).toNat) Am
      have hgy := Cm (d := BQ) hx2
      rw [show ((m : Int) - 1).toNat = m - 1 by omega] at hgy
      refine Ay Ao Ao (fun _ => BJ B4 Ao Ao Am (B9 hx2) (Bh _)) trivial ?_
      refine Ay Ao Ao (fun _ => Be BI Ao (Bh _)) trivial ?_
      obtain ⟨x2k, x2i, x2n, x2l, x2s⟩ := x2
      refine Ay Ao Ao (fun _ => CE B4 B0 Ao Ao Ao Ao Ao) trivial ?_
      refine Ay Ao Ao (fun _ => Bf Ao Ao (N7 A9 [(.mk x2k x2i x2n x2l x2s : Tm)] AI) Ao) trivial ?_
      refine BK (j := 0) rfl rfl rfl (fun H i hi => Aw (i := i) BI rfl hi Af) (by repeat' first | exact trivial | refine And.intro ?_ ?_ | ((refine Or.inr (And.intro ?_ ?_) <;> repeat (first | exact List.Mem.head _ | apply List.Mem.tail)); done) | exact Or.inl Ai) trivial ?_
      generalize hz : BP A9 [(.mk x2k x2i x2n x2l x2s : Tm)] = z
      obtain ⟨zk, zi, zn, zl, zs⟩ := z
      generalize hz1 : Gz (BF.mk BA A6 A8 A9 BC BB thm) (BP A9 [(us.getD (m - 1) BQ)]) q (Gz (BF.mk BA A6 A8 A9 BC BB thm) (us.getD (m - 1) BQ) (cs.getD (m - 1) 0).toNat (G4 (BF.mk BA A6 A8 A9 BC BB thm) (cs.drop m) (us.drop m))) = z1
      obtain ⟨z1k, z1i, z1n, z1l, z1s⟩ := z1
      refine Ay Ao Ao (fun _ => CE B4 B0 Ao Ao Ao Ao Ao) trivial ?_
      refine Ay Ao Ao (fun _ => Bf Ao Ao (N7 A6 [(.mk zk zi zn zl zs : Tm), (.mk z1k z1i z1n z1l z1s : Tm)] AI) Ao) trivial ?_
      refine Cd rfl rfl (A1 (i := 0) BI rfl rfl rfl Af AX (B3 _)) (by repeat' first | exact trivial | refine And.intro ?_ ?_ | ((refine Or.inr (And.intro ?_ ?_) <;> repeat (first | exact List.Mem.head _ | apply List.Mem.tail)); done) | exact Or.inl Ai) trivial ?_
      refine CA Ao Ai ?_
      refine Aq ?_
      refine Ap Ao Ao (Ar Ao) ?_
      refine Ap Ao Ao (CT Ao Ao Am Am) ?_
      refine Ap Ao Ao (At Ao) ?_
      refine Au Ao ?_
      refine ⟨(q + 1), AT, by first | trivial | omega | (simp only; omega) | (simp; omega), B8 ⟨we rfl, we rfl, we rfl, we rfl, we rfl, we rfl, we rfl, trivial⟩ (leH (is := [0, 1, 2]) rfl (wl (ob (by rw [Gz, hz1, hgy, hz])) (wl (oe rfl) (wl (oe rfl) (ET)))))⟩
     ·(try simp only [sd, se] at c4)
      refine CL ?_
      refine Aq ?_
      refine Ap Ao Ao (Ar Ao) ?_
      refine Ap Ao Ao (Ed Ao Ao Am Am) ?_
      refine Ap Ao Ao (At Ao) ?_
      refine Au Ao ?_
      refine ⟨(m - 1), AT, by first | trivial | omega | (simp only; omega) | (simp; omega), B8 ⟨we rfl, we rfl, we rfl, we rfl, we rfl, we (pI Am), trivial⟩ (leH (is := [0, 1, 2]) rfl (wl (ob (by rw [NW Am Am Am, TM, show q = (-(cs.getD (m - 1) 0)).toNat by omega])) (wl (oe rfl) (wl (oe rfl) (ET)))))⟩
   ·(try simp only [sd, se] at c2)
    refine CL ?_
    refine As ?_
    refine Aq ?_
    refine Ap Ao Ao (Aw (i := 0) BI Ao Ao Af) ?_
    refine Ap Ao Ao (A1 (i := 1) BI Ao Ao Ao Af AX (B3 _)) ?_
    refine Au Ao ?_
    refine A5 ?_
    refine ⟨Ao, _, _, ⟨_, _, Ao, (Bg (i := 1) BI Ao Ao Af), Ao⟩, (List.nil_sublist _), ?_⟩
    rw [NV Am (by rw [hC, show i = cs.length by omega, List.drop_length]; rfl), show m = 0 by omega]
    all_goals exact ⟨rfl, rfl⟩
theorem V3 : ∀ {σ : Type} (st : σ → Int → Int → σ) (HP : σ → List BL → Prop) (l b1 : Nat) (xs : List Int) (hy : ∀ s d n T, 0 ≤ d → xs[d.toNat]? = some n → HP s T → GZ Tryz.prog l [.p (I d), .p (I n)] T (GB (.p (.bool true)) (HP (st s d n)))) (s : σ) (T0 : List BL), xs.length < Dp → HP s T0 → Bl Tryz.prog 71 [.fn (.yield l) [] [], .ptr b1 0] (.box b1 [.p (.lst (List.map Ca xs))] :: T0) (GB (.tup []) (fun H => ∃ T, HP (SO st xs xs.length s) T ∧ H = .box b1 [.p (.lst (List.map Ca xs))] :: T)) := by
 intro σ st HP l b1 xs hy s T0 h1 h2
 simp only [Dp] at h1
 refine A3 Tryz.func71 Ao ZK (n := 19) Ao Ao ?_
 refine As ?_
 refine Aq ?_
 refine Ap Ao Ao (Ax (i := 0) Lq Ao Ao Ao) ?_
 refine Ap Ao Ao (Bx E0 Ao (List.length_map _)) ?_
 refine Ap Ao Ao (Ed Ao Ao Am Am) ?_
 refine Ap Ao Ao (At Ao) ?_
 refine Au Ao ?_
 refine BU ?_
 refine CS (α := Nat × σ × List BL) (fun (m, q, U) => ⟨19, mk [(0, .fn (.yield l) [] []), (1, .ptr b1 0), (3, .p (I ((m : Int) - 1)))], (.box b1 [.p (.lst (List.map Ca xs))] :: U), []⟩) (fun (m, q, U) => m) (fun (m, q, U) => m ≤ xs.length ∧ SO st xs m q = SO st xs xs.length s ∧ HP q U) ⟨xs.length, s, T0⟩ (⟨by omega, rfl, h2⟩) ?_ ?_
 ·exact B8 ⟨we Ao, we Ao, we Ao, trivial⟩ (Oo [0] [_] (l' := [_]) Ao (wl (oe Ao) (ET)))
 rintro ⟨m, q, U⟩ hC
 try simp only at hC
 obtain ⟨hm, hB, hK⟩ := hC
 refine As ?_
 refine As ?_
 refine Aq ?_
 refine Ap Ao Ao (Ar Ao) ?_
 refine Ap Ao Ao (A7 Ao Ao Ao) ?_
 refine Au Ao ?_
 refine A4 Ao (fun c => ?_) (fun c => ?_)
 ·(try simp only [sd, se] at c)
  refine BD ?_
  refine As ?_
  refine BU ?_
  refine As ?_
  refine Aq ?_
  refine Ap Ao Ao (Ar Ao) ?_
  refine Ap Ao Ao (Ar Ao) ?_
  refine Ap Ao Ao (Ax (i := 0) Lq Ao Ao Ao) ?_
  refine Ap Ao Ao (Ar Ao) ?_
  obtain ⟨x, hx⟩ := BM (l := xs) (i := ((m : Int) - 1 : Int).toNat) Am
  refine Ap Ao Ao (BJ E0 Ao Ao Am (D7 hx) (Ao)) ?_
  refine Ap Ao Ao (CG DQ Ao) ?_
  refine JI [_] Ao Ao Ao Ao (hy q _ _ _ Am hx hK) Ao ?_ (fun _ _ h => h.elim)
  rintro _ T ⟨rfl, hT⟩
  refine Ap Ao Ao (Co Ao) ?_
  refine Au Ao ?_
  refine A4 Ao (fun c1 => by cases c1) (fun c1 => ?_)
  refine BD ?_
  refine Aq ?_
  refine Ap Ao Ao (Ar Ao) ?_
  refine Ap Ao Ao (Ed Ao Ao Am Am) ?_
  refine Ap Ao Ao (At Ao) ?_
  refine Au Ao ?_
  refine ⟨⟨m - 1, st q ((m : Int) - 1) x, T⟩, AT, ⟨by omega, by rw [← hB]; exact Sk hx Am, by assumption⟩, B8 ⟨we rfl, we rfl, we (pI Am), trivial⟩ (Oo [0] [_] (l' := [_]) rfl (wl (oe rfl) (ET)))⟩
 ·(try simp only [sd, se] at c)
  refine CL ?_
  refine ⟨Ao, _, _, Ao, (F9 [0] [_] Ao), ?_⟩
  rw [← hB, show m = 0 by omega]
  exact ⟨Ao, _, hK, Ao⟩
theorem X3 : ∀ (xs : List Int), Bl Tryz.prog 40 [.p (.lst (List.map Ca xs))] [] (fun r H' => ∃ b, r = .val (.fn (.func 71) [] [.ptr b 0]) ∧ H' = [.box b [.p (.lst (List.map Ca xs))]]) := by
 intro xs
 refine A3 Tryz.func40 Ao aI (n := 4) Ao Ao ?_
 refine As ?_
 refine Aq ?_
 refine BH Ao Ao (Bb Ao) fun b1 => ?_
 refine Ap Ao Ao (At Ao) ?_
 refine Au Ao ?_
 refine As ?_
 refine Aq ?_
 refine Ap Ao Ao (Cy Ao Ao) ?_
 refine Ap Ao Ao (At Ao) ?_
 refine Au Ao ?_
 refine A5 ?_
 refine ⟨Ao, _, _, ⟨_, _, Ao, Ao, Ao⟩, (Cf (is := [0]) Ao), ?_⟩
 exact ⟨_, Ao, Ao⟩
theorem J2 : ∀ (th : BF) (cs : List Int) (us : List Tm), (cs.length < Dp) → G5 Tryz.prog 13 [.agg ((Ef th).map .p), .p (.lst (List.map Ca cs)), .p (.lst (BO us))] (.agg ((Ba (Gd th cs us)).map .p)) := by
 intro th cs us h1
 simp only [Dp] at h1
 obtain ⟨BA, A6, A8, A9, BC, BB, thm⟩ := th
 refine FR Tryz.func13 Ao aJ (n := 75) Ao Ao ?_
 refine As ?_
 refine Aq ?_
 refine BH Ao Ao (Bb Ao) fun b3 => ?_
 refine BH Ao Ao (Bb Ao) fun b5 => ?_
 refine BH Ao Ao (BG B0 Ao) fun b6 => ?_
 refine Au Ao ?_
 refine As ?_
 refine Aq ?_
 refine Ap Ao Ao (At Ao) ?_
 refine Au Ao ?_
 refine As ?_
 refine As ?_
 refine Aq ?_
 refine Ap Ao Ao (Ar Ao) ?_
 refine Ap Ao Ao (Bx E0 Ao (List.length_map _)) ?_
 refine Ap Ao Ao (Ar Ao) ?_
 refine Au Ao ?_
 refine BU ?_
 refine CS (α := Nat × Int) (fun (i, al) => ⟨75, mk [(1, .p (.lst (List.map Ca cs))), (3, .ptr b3 0), (5, .ptr b5 0), (6, .ptr b6 0), (7, .p (I al)), (11, .p .any), (12, .p .any), (13, .p .any), (14, .p (.lst (List.map Ca cs))), (15, .p (I (cs.length : Nat))), (16, .p (I (i : Int))), (48, .p .any), (49, .p .any), (50, .p .any), (51, .p .any), (52, .p .any), (53, .p .any), (54, .p .any), (55, .p .any), (56, .p .any), (57, .p .any), (58, .p .any), (59, .p .any), (60, .p .any), (61, .p .any), (62, .p .any), (63, .p .any), (64, .p .any), (65, .p .any), (66, .p .any), (67, .p .any), (68, .p .any), (69, .p .any), (70, .p .any), (71, .p .any), (72, .p .any), (73, .p .any)], [.box b6 [.p (I 0), .p (I 0), .p (.str ⟨#[]⟩), .p (.nils), .p (.nils)], .box b5 [.p (.lst (BO us))], .box b3 [.p (.str BA), .p (.str A6), .p (.str A8), .p (.str A9), .p (.str BC), .p (.str BB), .p (.lst (List.map CV thm))]], []⟩) (fun (i, al) => cs.length - i) (fun (i, al) => i ≤ cs.length ∧ (OI 0 cs = OI al (cs.drop i) ∧ 0 ≤ al ∧ al ≤ 200)) ⟨0, 0⟩ (⟨by omega, by simp, by omega, by omega⟩) ?_ ?_
 ·exact B8 ⟨we Ao, we Ao, we Ao, we Ao, we Ao, Bz _, Bz _, Bz _, we Ao, we Ao, we Ao, Bz _, Bz _, Bz _, Bz _, Bz _, Bz _, Bz _, Bz _, Bz _, Bz _, Bz _, Bz _, Bz _, Bz _, Bz _, Bz _, Bz _, Bz _, Bz _, Bz _, Bz _, Bz _, Bz _, Bz _, Bz _, Bz _, trivial⟩ (leH (is := [0, 1, 2]) Ao (wl (oe Ao) (wl (oe Ao) (wl (oe Ao) (ET)))))
 rintro ⟨i, al⟩ hC
 try simp only at hC
 obtain ⟨hi, hC, ha1, ha2⟩ := hC
 refine As ?_
 refine Aq ?_
 refine Ap Ao Ao (A7 Ao Ao Ao) ?_
 refine Au Ao ?_
 refine As ?_
 refine A4 Ao (fun c => ?_) (fun c => ?_)
 ·(try simp only [sd, se] at c)
  refine BD ?_
  refine As ?_
  refine BU ?_
  refine As ?_
  refine Aq ?_
  obtain ⟨x, hx⟩ := BM (l := cs) (i := i) Am
  refine Ap Ao Ao (BJ E0 Ao Ao Am (D7 hx) (Ao)) ?_
  refine Ap Ao Ao (CG DQ Ao) ?_
  refine Ap Ao Ao (At Ao) ?_
  refine Au Ao ?_
  refine As ?_
  refine As ?_
  refine CB [1, 3, 5, 6, 7, 9, 11, 12, 13, 14, 15, 16, 48, 49, 50, 51, 52, 53, 54, 55, 56, 57, 58, 59, 60, 61, 62, 63, 64, 65, 66, 67, 68, 69, 70, 71, 72, 73] 25 (fun y => y = .p (.bool ((decide ((x : Int) < (-200 : Int))) || (decide ((x : Int) > (200 : Int)))))) ?_ ?_
  ·refine Aq ?_
   refine Ap Ao Ao (Ar Ao) ?_
   refine Ap Ao Ao (A7 Ao Ao Ao) ?_
   refine Ap Ao Ao (Ar Ao) ?_
   refine Bm 22 Ao (fun g => ?_) (fun g => ?_)
   ·(try simp only [sd, se] at g)
    refine A0 Ao Ao Ao Ao Ao ?_
    refine A0 Ao Ao Ao Ao Ao ?_
    refine Ap Ao Ao (A2 Ao Ao) ?_
    refine Au Ao ?_
    exact ⟨Ao, Ao, AG, AF, ⟨Ao, Ao, Ao, Ao, Ao, Ao, Ao, Ao, Ao, Ao, Ao, Ao, Ao, Ao, Ao, Ao, Ao, Ao, Ao, Ao, Ao, Ao, Ao, Ao, Ao, Ao, Ao, Ao, Ao, Ao, Ao, Ao, Ao, Ao, Ao, Ao, Ao, Ao, trivial⟩⟩
   ·(try simp only [sd, se] at g)
    refine Az Ao Ao Ao Ao (Ar Ao) ?_
    refine Az Ao Ao Ao Ao (A7 Ao Ao Ao) ?_
    refine Ap Ao Ao (A2 Ao Ao) ?_
    refine Au Ao ?_
    exact ⟨Ao, Ao, AG, AF, ⟨Ao, Ao, Ao, Ao, Ao, Ao, Ao, Ao, Ao, Ao, Ao, Ao, Ao, Ao, Ao, Ao, Ao, Ao, Ao, Ao, Ao, Ao, Ao, Ao, Ao, Ao, Ao, Ao, Ao, Ao, Ao, Ao, Ao, Ao, Ao, Ao, Ao, Ao, trivial⟩⟩
  rintro _ rfl
  refine A4 Ao (fun c1 => ?_) (fun c1 => ?_)
  ·(try simp only [sd, se] at c1)
   refine As ?_
   refine Aq ?_
   refine Ap Ao Ao (Bi CN B0 Ao) ?_
   refine Ap Ao Ao (Bc (i := 0) BI Ao Ao Ao Ao Ao Ao) ?_
   refine Au Ao ?_
   refine B5 (Cw (i := 0) Ao) ?_
   refine A5 ?_
   refine ⟨_, _, ⟨_, _, Ao, (Bg (i := 0) BI Ao Ao Ao), Ao⟩, (List.nil_sublist _), ?_⟩
   rw [HN (by intro h; rw [hC, OU hx, if_pos Am] at h; cases h.2)]
   all_goals exact ⟨rfl, rfl⟩
  ·(try simp only [sd, se] at c1)
   refine BD ?_
   refine As ?_
   refine Aq ?_
   refine Ap Ao Ao (Ar Ao) ?_
   refine Ap Ao Ao (Ar Ao) ?_
   refine Ap Ao Ao (Ar Ao) ?_
   refine Ap Ao Ao (Kh Ao Am Am) ?_
   refine Ap Ao Ao (I3 Ao Ao) ?_
   refine Ap Ao Ao (CT Ao Ao Am Am) ?_
   refine Ap Ao Ao (At Ao) ?_
   refine Au Ao ?_
   refine As ?_
   refine Aq ?_
   refine Ap Ao Ao (Ar Ao) ?_
   refine Ap Ao Ao (A7 Ao Ao Ao) ?_
   refine Au Ao ?_
   refine A4 Ao (fun c2 => ?_) (fun c2 => ?_)
   ·(try simp only [sd, se] at c2)
    refine As ?_
    refine Aq ?_
    refine Ap Ao Ao (Bi CN B0 Ao) ?_
    refine Ap Ao Ao (Bc (i := 0) BI Ao Ao Ao Ao Ao Ao) ?_
    refine Au Ao ?_
    refine B5 (Cw (i := 0) Ao) ?_
    refine A5 ?_
    refine ⟨_, _, ⟨_, _, Ao, (Bg (i := 0) BI Ao Ao Ao), Ao⟩, (List.nil_sublist _), ?_⟩
    rw [HN (by intro h; rw [hC, OU hx, if_neg Am, if_pos Am] at h; cases h.2)]
    all_goals exact ⟨rfl, rfl⟩
   ·(try simp only [sd, se] at c2)
    refine BD ?_
    refine Aq ?_
    refine Ap Ao Ao (CT Ao Ao Am Am) ?_
    refine Ap Ao Ao (Ar Ao) ?_
    refine Au Ao ?_
    refine ⟨⟨i + 1, al + max x (-x)⟩, AT, ⟨by omega, by rw [OU hx, if_neg Am, if_neg Am] at hC; exact ⟨hC, by omega, by omega⟩⟩, B8 ⟨we rfl, we rfl, we rfl, we rfl, we rfl, Bz _, Bz _, Bz _, we rfl, we rfl, we rfl, Bz _, Bz _, Bz _, Bz _, Bz _, Bz _, Bz _, Bz _, Bz _, Bz _, Bz _, Bz _, Bz _, Bz _, Bz _, Bz _, Bz _, Bz _, Bz _, Bz _, Bz _, Bz _, Bz _, Bz _, Bz _, Bz _, trivial⟩ (leH (is := [0, 1, 2]) rfl (wl (oe rfl) (wl (oe rfl) (wl (oe rfl) (ET)))))⟩
 ·(try simp only [sd, se] at c)
  refine CL ?_
  refine As ?_
  refine As ?_
  refine Aq ?_
  refine Ap Ao Ao (Ar Ao) ?_
  refine Ap Ao Ao (Bx E0 Ao (List.length_map _)) ?_
  refine Ap Ao Ao (Ax (i := 1) DC Ao Ao Ao) ?_
  refine Ap Ao Ao (Bx B4 Ao (Bt _)) ?_
  refine Ap Ao Ao (A7 Ao Ao Ao) ?_
  refine Au Ao ?_
  refine A4 Ao (fun c1 => ?_) (fun c1 => ?_)
  ·(try simp only [sd, se] at c1)
   refine As ?_
   refine Aq ?_
   refine Ap Ao Ao (Bi CN B0 Ao) ?_
   refine Ap Ao Ao (Bc (i := 0) BI Ao Ao Ao Ao Ao Ao) ?_
   refine Au Ao ?_
   refine B5 (Cw (i := 0) Ao) ?_
   refine A5 ?_
   refine ⟨_, _, ⟨_, _, Ao, (Bg (i := 0) BI Ao Ao Ao), Ao⟩, (List.nil_sublist _), ?_⟩
   rw [HN (fun h => absurd h.1 Am)]
   all_goals exact ⟨rfl, rfl⟩
  ·(try simp only [sd, se] at c1)
   refine BD ?_
   refine As ?_
   refine Aq ?_
   refine Ap Ao Ao (Av Du Ao Ao) ?_
   refine Ap Ao Ao (Ax (i := 2) GO Ao Ao Ao) ?_
   refine Ap Ao Ao (C0 Ao Ao (Dz A8 [] AI) (aw (we Ao) (aw (Cc Ao) (Ci)))) ?_
   refine BH Ao Ao (BG B0 Ao) fun b10 => ?_
   refine Ap Ao Ao (A1 (i := 0) BI Ao Ao Ao Af AX (B3 _)) ?_
   refine Au Ao ?_
   refine As ?_
   refine As ?_
   refine Aq ?_
   refine Ap Ao Ao (Ar Ao) ?_
   refine Lk [] Ao Ao Ao (.inl ⟨Ao, Ao, Ao⟩) (X3 cs) Ao An (aw (we Ao) Ci) ?_ (fun _ _ ⟨_, h, _⟩ => by cases h)
   rintro _ _ ⟨bn, h, rfl⟩
   cases h
   refine Au Ao ?_
   refine BU ?_
   refine Hz (.inr Ao) fun dd l L hL => ?_
   refine ⟨_, _, Cj (is := [2, 0, 6, 3, 5]) Al ⟨_, _, Ao, Ao, ⟨_, _, Ao, Ao, ⟨_, _, Ao, Ao, ⟨_, _, Ao, Ao, ⟨_, _, Ao, Ao, Ao⟩⟩⟩⟩⟩, ?_⟩
   have hy : ∀ (s : Tm) (d : Int) (t : Int) (T : List BL), 0 ≤ d → cs[d.toNat]? = some t → (fun (s : Tm) (T : List BL) => T = [.loop l L, .box b3 [.p (.str BA), .p (.str A6), .p (.str A8), .p (.str A9), .p (.str BC), .p (.str BB), .p (.lst (List.map CV thm))], .box b10 ((Ba s).map .p), .box b5 [.p (.lst (BO us))]]) s T → GZ Tryz.prog l [.p (I d), .p (I t)] T (GB (.p (.bool true)) ((fun (s : Tm) (T : List BL) => T = [.loop l L, .box b3 [.p (.str BA), .p (.str A6), .p (.str A8), .p (.str A9), .p (.str BC), .p (.str BB), .p (.lst (List.map CV thm))], .box b10 ((Ba s).map .p), .box b5 [.p (.lst (BO us))]]) ((Ql (BF.mk BA A6 A8 A9 BC BB thm) us) s d t))) := by
    rintro s d tt T hd hxt rfl
    have hdl := (List.getElem?_eq_some_iff.1 hxt).1
    have hok : OI 0 cs = true := by rw [hC, show i = cs.length by omega, List.drop_length]; rfl
    have htt := OZ hok tt (List.mem_of_getElem? hxt)
    obtain ⟨LB, hLB⟩ : ∃ x, x = BL.loop l { L with state := .busy } := ⟨_, rfl⟩
    subst hL
    refine I4 (i := 0) Ao Ao Ao Ao ?_
    refine As ?_
    refine Aq ?_
    refine Ap Ao Ao (At Ao) ?_
    refine Au Ao ?_
    refine Aq ?_
    refine Ap Ao Ao (At Ao) ?_
    refine Au Ao ?_
    refine ⟨Ao, 0, Ao, ?_⟩
    rw [← hLB]
    refine BU ?_
    refine As ?_
    refine Aq ?_
    refine Ap Ao Ao (Ax (i := 3) DC Ao Ao Ao) ?_
    refine Ap Ao Ao (Ar Ao) ?_
    obtain ⟨x, hx⟩ := BM (l := us) (i := (d : Int).toNat) Am
    have hgy := Cm (d := BQ) hx
    refine Ap Ao Ao (BJ B4 Ao Ao Am (B9 hx) (Bh _)) ?_
    refine Ap Ao Ao (Be BI Ao (Bh _)) ?_
    refine BH Ao Ao (BG B0 Ao) fun b13 => ?_
    refine Ap Ao Ao (A1 (i := 0) BI Ao Ao Ao Af AX (B3 _)) ?_
    refine Au Ao ?_
    refine As ?_
    refine As ?_
    refine Aq ?_
    refine Ap Ao Ao (Ar Ao) ?_
    refine Ap Ao Ao (A7 Ao Ao Ao) ?_
    refine Au Ao ?_
    refine A4 Ao (fun c2 => ?_) (fun c2 => ?_)
    ·(try simp only [sd, se] at c2)
     refine Aq ?_
     refine Ap Ao Ao (Av Du Ao Ao) ?_
     refine Ap Ao Ao (Ax (i := 2) GO Ao Ao Ao) ?_
     refine Ap Ao Ao (Aw (i := 0) BI Ao Ao Af) ?_
     obtain ⟨xk, xi, xn, xl, xs⟩ := x
     refine Ap Ao Ao (CE B4 B0 Ao Ao Ao Ao Ao) ?_
     refine Ap Ao Ao (Bf Ao Ao (Dz A9 [(.mk xk xi xn xl xs : Tm)] AI) Ao) ?_
     refine Ap Ao Ao (A1 (i := 0) BI Ao Ao Ao Af AX (B3 _)) ?_
     refine Au Ao ?_
     refine As ?_
     refine Aq ?_
     refine Ap Ao Ao (Ar Ao) ?_
     refine Ap Ao Ao (Ar Ao) ?_
     refine Ap Ao Ao (Kh Ao Am Am) ?_
     refine Ap Ao Ao (I3 Ao Ao) ?_
     refine Ap Ao Ao (Ar Ao) ?_
     refine Au Ao ?_
     refine BU ?_
     refine CS (α := Nat) (fun k => ⟨75, mk [(3, .ptr b3 0), (10, .ptr b10 0), (13, .ptr b13 0), (64, .p (I (max (tt : Int) (-tt : Int)))), (65, .p (I (k : Int)))], [.box b13 ((Ba (BP A9 [(.mk xk xi xn xl xs : Tm)])).map .p), LB, .box b3 [.p (.str BA), .p (.str A6), .p (.str A8), .p (.str A9), .p (.str BC), .p (.str BB), .p (.lst (List.map CV thm))], .box b10 ((Ba (Gz (BF.mk BA A6 A8 A9 BC BB thm) (KX (BF.mk BA A6 A8 A9 BC BB thm) tt (us.getD d.toNat BQ)) k s)).map .p), .box b5 [.p (.lst (BO us))]], []⟩) (fun k => tt.natAbs - k) (fun k => (k : Int) ≤ max tt (-tt)) 0 Am ?_ ?_
     ·exact B8 ⟨we Ao, we Ao, we Ao, we Ao, we Ao, trivial⟩ (leH (is := [0, 1, 2, 3, 4]) Ao (wl (oe Ao) (wl (oe Ao) (wl (oe Ao) (wl (oe Ao) (wl (oe Ao) (ET)))))))
     rintro k hC1
     try simp only at hC1
     refine As ?_
     refine Aq ?_
     refine Ap Ao Ao (A7 Ao Ao Ao) ?_
     refine Au Ao ?_
     refine As ?_
     refine A4 Ao (fun c3 => ?_) (fun c3 => ?_)
     ·(try simp only [sd, se] at c3)
      refine BD ?_
      refine As ?_
      refine BU ?_
      refine Aq ?_
      refine Ap Ao Ao (Av Du Ao Ao) ?_
      refine Ap Ao Ao (Ax (i := 2) GO Ao Ao Ao) ?_
      refine Ap Ao Ao (Aw (i := 0) BI Ao Ao Af) ?_
      refine Ap Ao Ao (Aw (i := 3) BI Ao Ao Af) ?_
      generalize hz : BP A9 [(.mk xk xi xn xl xs : Tm)] = z
      obtain ⟨zk, zi, zn, zl, zs⟩ := z
      generalize hz1 : Gz (BF.mk BA A6 A8 A9 BC BB thm) (KX (BF.mk BA A6 A8 A9 BC BB thm) tt (us.getD d.toNat BQ)) k s = z1
      obtain ⟨z1k, z1i, z1n, z1l, z1s⟩ := z1
      refine Ap Ao Ao (CE B4 B0 Ao Ao Ao Ao Ao) ?_
      refine Ap Ao Ao (Bf Ao Ao (Dz A6 [(.mk zk zi zn zl zs : Tm), (.mk z1k z1i z1n z1l z1s : Tm)] AI) Ao) ?_
      refine Ap Ao Ao (A1 (i := 3) BI Ao Ao Ao Af AX (B3 _)) ?_
      refine Au Ao ?_
      refine Aq ?_
      refine Ap Ao Ao (CT Ao Ao Am Am) ?_
      refine Ap Ao Ao (Ar Ao) ?_
      refine Au Ao ?_
      refine ⟨(k + 1), AT, by first | trivial | omega | (simp only; omega) | (simp; omega), B8 ⟨we rfl, we rfl, we rfl, we rfl, we rfl, trivial⟩ (leH (is := [0, 1, 2, 3, 4]) rfl (wl (oe rfl) (wl (oe rfl) (wl (oe rfl) (wl (ob (by rw [Gz, hz1, KX, if_pos Am, hgy, hz])) (wl (oe rfl) (ET)))))))⟩
     ·(try simp only [sd, se] at c3)
      refine CL ?_
      subst hLB
      refine ⟨1, _, Ao, Cf (is := [1, 2, 3, 4]) Ao, ?_⟩
      obtain rfl : k = tt.natAbs := by omega
      exact ⟨Ao, Ao⟩
    ·(try simp only [sd, se] at c2)
     refine BD ?_
     refine As ?_
     refine Aq ?_
     refine Ap Ao Ao (Ar Ao) ?_
     refine Ap Ao Ao (Ar Ao) ?_
     refine Ap Ao Ao (Kh Ao Am Am) ?_
     refine Ap Ao Ao (I3 Ao Ao) ?_
     refine Ap Ao Ao (Ar Ao) ?_
     refine Au Ao ?_
     refine BU ?_
     refine CS (α := Nat) (fun k => ⟨75, mk [(3, .ptr b3 0), (10, .ptr b10 0), (13, .ptr b13 0), (64, .p (I (max (tt : Int) (-tt : Int)))), (65, .p (I (k : Int)))], [.box b13 ((Ba x).map .p), LB, .box b3 [.p (.str BA), .p (.str A6), .p (.str A8), .p (.str A9), .p (.str BC), .p (.str BB), .p (.lst (List.map CV thm))], .box b10 ((Ba (Gz (BF.mk BA A6 A8 A9 BC BB thm) (KX (BF.mk BA A6 A8 A9 BC BB thm) tt (us.getD d.toNat BQ)) k s)).map .p), .box b5 [.p (.lst (BO us))]], []⟩) (fun k => tt.natAbs - k) (fun k => (k : Int) ≤ max tt (-tt)) 0 Am ?_ ?_
     ·exact B8 ⟨we Ao, we Ao, we Ao, we Ao, we Ao, trivial⟩ (leH (is := [0, 1, 2, 3, 4]) Ao (wl (oe Ao) (wl (oe Ao) (wl (oe Ao) (wl (oe Ao) (wl (oe Ao) (ET)))))))
     rintro k hC1
     try simp only at hC1
     refine As ?_
     refine Aq ?_
     refine Ap Ao Ao (A7 Ao Ao Ao) ?_
     refine Au Ao ?_
     refine As ?_
     refine A4 Ao (fun c3 => ?_) (fun c3 => ?_)
     ·(try simp only [sd, se] at c3)
      refine BD ?_
      refine As ?_
      refine BU ?_
      refine Aq ?_
      refine Ap Ao Ao (Av Du Ao Ao) ?_
      refine Ap Ao Ao (Ax (i := 2) GO Ao Ao Ao) ?_
      refine Ap Ao Ao (Aw (i := 0) BI Ao Ao Af) ?_
      refine Ap Ao Ao (Aw (i := 3) BI Ao Ao Af) ?_
      obtain ⟨xk, xi, xn, xl, xs⟩ := x
      generalize hz : Gz (BF.mk BA A6 A8 A9 BC BB thm) (KX (BF.mk BA A6 A8 A9 BC BB thm) tt (us.getD d.toNat BQ)) k s = z
      obtain ⟨zk, zi, zn, zl, zs⟩ := z
      refine Ap Ao Ao (CE B4 B0 Ao Ao Ao Ao Ao) ?_
      refine Ap Ao Ao (Bf Ao Ao (Dz A6 [(.mk xk xi xn xl xs : Tm), (.mk zk zi zn zl zs : Tm)] AI) Ao) ?_
      refine Ap Ao Ao (A1 (i := 3) BI Ao Ao Ao Af AX (B3 _)) ?_
      refine Au Ao ?_
      refine Aq ?_
      refine Ap Ao Ao (CT Ao Ao Am Am) ?_
      refine Ap Ao Ao (Ar Ao) ?_
      refine Au Ao ?_
      refine ⟨(k + 1), AT, by first | trivial | omega | (simp only; omega) | (simp; omega), B8 ⟨we rfl, we rfl, we rfl, we rfl, we rfl, trivial⟩ (leH (is := [0, 1, 2, 3, 4]) rfl (wl (oe rfl) (wl (oe rfl) (wl (oe rfl) (wl (ob (by rw [Gz, hz, KX, if_neg Am, hgy])) (wl (oe rfl) (ET)))))))⟩
     ·(try simp only [sd, se] at c3)
      refine CL ?_
      subst hLB
      refine ⟨1, _, Ao, Cf (is := [1, 2, 3, 4]) Ao, ?_⟩
      obtain rfl : k = tt.natAbs := by omega
      exact ⟨Ao, Ao⟩
   refine (V3 (Ql (BF.mk BA A6 A8 A9 BC BB thm) us) (fun (s : Tm) (T : List BL) => T = [.loop l L, .box b3 [.p (.str BA), .p (.str A6), .p (.str A8), .p (.str A9), .p (.str BC), .p (.str BB), .p (.lst (List.map CV thm))], .box b10 ((Ba s).map .p), .box b5 [.p (.lst (BO us))]]) l bn cs hy (BP A8 []) _ (h1) Ao).mono ?_
   rintro (v | v) H' hR
   rotate_left
   ·exact hR.elim
   obtain ⟨rfl, _, rfl, rfl⟩ := hR
   subst hL
   refine ⟨1, _, Ao, An, ?_⟩
   refine As ?_
   refine Aq ?_
   refine Ap Ao Ao (Aw (i := 2) BI Ao Ao Af) ?_
   refine Ap Ao Ao (A1 (i := 5) BI Ao Ao Ao Af AX (B3 _)) ?_
   refine Au Ao ?_
   refine A5 ?_
   refine ⟨4, Ao, _, _, ⟨_, _, Ao, (Bg (i := 4) BI Ao Ao Af), Ao⟩, (List.nil_sublist _), ?_⟩
   rw [NV Am (by rw [hC, show i = cs.length by omega, List.drop_length]; rfl), UE Am]
   all_goals exact ⟨rfl, rfl⟩
theorem Ng : ∀ (c : Int), G5 Tryz.prog 133 [.p (.int .u8 c)] (.p (.bool (Lc c))) := by
 intro c
 refine A3 Tryz.func133 Ao YR (n := 21) Ao Ao ?_
 refine As ?_
 refine Aq ?_
 refine Ap Ao Ao (At Ao) ?_
 refine Au Ao ?_
 refine As ?_
 refine CB [] 2 (fun y => y = .p (.bool ((((decide ((c : Int) ≥ (97 : Int))) && (decide ((c : Int) ≤ (122 : Int)))) || ((decide ((c : Int) ≥ (65 : Int))) && (decide ((c : Int) ≤ (90 : Int))))) || ((c : Int) == (95 : Int))))) ?_ ?_
 ·refine Aq ?_
  refine Ap Ao Ao (Ar Ao) ?_
  refine Ap Ao Ao (A7 Ao Ao Ao) ?_
  refine Ap Ao Ao (Ar Ao) ?_
  refine Bm 5 Ao (fun g => ?_) (fun g => ?_)
  ·(try simp only [sd, se] at g)
   refine Az Ao Ao Ao Ao (Ar Ao) ?_
   refine Az Ao Ao Ao Ao (A7 Ao Ao Ao) ?_
   refine Ap Ao Ao (A2 Ao Ao) ?_
   refine Ap Ao Ao (Ar Ao) ?_
   refine Bm 9 Ao (fun g1 => ?_) (fun g1 => ?_)
   ·(try simp only [sd, se] at g1)
    refine A0 Ao Ao Ao Ao Ao ?_
    refine A0 Ao Ao Ao Ao Ao ?_
    refine A0 Ao Ao Ao Ao Ao ?_
    refine Cg Ao Ao Ao Ao ?_
    refine Cg Ao Ao Ao Ao ?_
    refine A0 Ao Ao Ao Ao Ao ?_
    refine Ap Ao Ao (A2 Ao Ao) ?_
    refine Ap Ao Ao (Ar Ao) ?_
    refine A0 Ao Ao Ao Ao Ao ?_
    refine A0 Ao Ao Ao Ao Ao ?_
    refine Ap Ao Ao (A2 Ao Ao) ?_
    refine Ap Ao Ao (At Ao) ?_
    refine Au Ao ?_
    exact ⟨Ao, Ao, AG, AF, trivial⟩
   ·(try simp only [sd, se] at g1)
    refine Az Ao Ao Ao Ao (Ar Ao) ?_
    refine Az Ao Ao Ao Ao (A7 Ao Ao Ao) ?_
    refine Az Ao Ao Ao Ao (Ar Ao) ?_
    refine Bm 12 Ao (fun g2 => ?_) (fun g2 => ?_)
    ·(try simp only [sd, se] at g2)
     refine Az Ao Ao Ao Ao (Ar Ao) ?_
     refine Az Ao Ao Ao Ao (A7 Ao Ao Ao) ?_
     refine Az Ao Ao Ao Ao (A2 Ao Ao) ?_
     refine Ap Ao Ao (A2 Ao Ao) ?_
     refine Ap Ao Ao (Ar Ao) ?_
     refine Bm 17 Ao (fun g3 => ?_) (fun g3 => ?_)
     ·(try simp only [sd, se] at g3)
      refine A0 Ao Ao Ao Ao Ao ?_
      refine A0 Ao Ao Ao Ao Ao ?_
      refine Ap Ao Ao (A2 Ao Ao) ?_
      refine Ap Ao Ao (At Ao) ?_
      refine Au Ao ?_
      exact ⟨Ao, Ao, AG, AF, trivial⟩
     ·(try simp only [sd, se] at g3)
      refine Az Ao Ao Ao Ao (Ar Ao) ?_
      refine Az Ao Ao Ao Ao (A7 Ao Ao Ao) ?_
      refine Ap Ao Ao (A2 Ao Ao) ?_
      refine Ap Ao Ao (At Ao) ?_
      refine Au Ao ?_
      exact ⟨Ao, Ao, AG, AF, trivial⟩
    ·(try simp only [sd, se] at g2)
     refine A0 Ao Ao Ao Ao Ao ?_
     refine A0 Ao Ao Ao Ao Ao ?_
     refine Az Ao Ao Ao Ao (A2 Ao Ao) ?_
     refine Ap Ao Ao (A2 Ao Ao) ?_
     refine Ap Ao Ao (Ar Ao) ?_
     refine Az Ao Ao Ao Ao (Ar Ao) ?_
     refine Az Ao Ao Ao Ao (A7 Ao Ao Ao) ?_
     refine Ap Ao Ao (A2 Ao Ao) ?_
     refine Ap Ao Ao (At Ao) ?_
     refine Au Ao ?_
     exact ⟨Ao, Ao, AG, AF, trivial⟩
  ·(try simp only [sd, se] at g)
   refine A0 Ao Ao Ao Ao Ao ?_
   refine A0 Ao Ao Ao Ao Ao ?_
   refine Ap Ao Ao (A2 Ao Ao) ?_
   refine Ap Ao Ao (Ar Ao) ?_
   refine Az Ao Ao Ao Ao (Ar Ao) ?_
   refine Az Ao Ao Ao Ao (A7 Ao Ao Ao) ?_
   refine Az Ao Ao Ao Ao (Ar Ao) ?_
   refine Bm 12 Ao (fun g1 => ?_) (fun g1 => ?_)
   ·(try simp only [sd, se] at g1)
    refine Az Ao Ao Ao Ao (Ar Ao) ?_
    refine Az Ao Ao Ao Ao (A7 Ao Ao Ao) ?_
    refine Az Ao Ao Ao Ao (A2 Ao Ao) ?_
    refine Ap Ao Ao (A2 Ao Ao) ?_
    refine Ap Ao Ao (Ar Ao) ?_
    refine Bm 17 Ao (fun g2 => ?_) (fun g2 => ?_)
    ·(try simp only [sd, se] at g2)
     refine A0 Ao Ao Ao Ao Ao ?_
     refine A0 Ao Ao Ao Ao Ao ?_
     refine Ap Ao Ao (A2 Ao Ao) ?_
     refine Ap Ao Ao (At Ao) ?_
     refine Au Ao ?_
     exact ⟨Ao, Ao, AG, AF, trivial⟩
    ·(try simp only [sd, se] at g2)
     refine Az Ao Ao Ao Ao (Ar Ao) ?_
     refine Az Ao Ao Ao Ao (A7 Ao Ao Ao) ?_
     refine Ap Ao Ao (A2 Ao Ao) ?_
     refine Ap Ao Ao (At Ao) ?_
     refine Au Ao ?_
     exact ⟨Ao, Ao, AG, AF, trivial⟩
   ·(try simp only [sd, se] at g1)
    refine A0 Ao Ao Ao Ao Ao ?_
    refine A0 Ao Ao Ao Ao Ao ?_
    refine Az Ao Ao Ao Ao (A2 Ao Ao) ?_
    refine Ap Ao Ao (A2 Ao Ao) ?_
    refine Ap Ao Ao (Ar Ao) ?_
    refine Az Ao Ao Ao Ao (Ar Ao) ?_
    refine Az Ao Ao Ao Ao (A7 Ao Ao Ao) ?_
    refine Ap Ao Ao (A2 Ao Ao) ?_
    refine Ap Ao Ao (At Ao) ?_
    refine Au Ao ?_
    exact ⟨Ao, Ao, AG, AF, trivial⟩
 rintro _ rfl
 refine A5 ?_
 refine ⟨Ao, _, _, ⟨_, _, Ao, Ao, Ao⟩, (List.nil_sublist _), ?_⟩
 all_goals exact ⟨pB (by simp_all [Lc]), rfl⟩
theorem UN : ∀ (s : ByteArray), (s.size < Dp) → GX Tryz.prog 98 [.p (.str s)] (fun v => ∃ b : Bool, v = .p (.bool b) ∧ (b = true → Oe s)) := by
 intro s h1
 simp only [Dp] at h1
 refine A3 Tryz.func98 Ao ZQ (n := 45) Ao Ao ?_
 refine As ?_
 refine Aq ?_
 refine Ap Ao Ao (At Ao) ?_
 refine Au Ao ?_
 refine As ?_
 refine As ?_
 refine CB [0] 12 (fun y => ∃ b : Bool, y = .p (.bool b) ∧ True) ?_ ?_
 ·refine Aq ?_
  refine Ap Ao Ao (Ar Ao) ?_
  refine Ap Ao Ao (JJ Ao Ao) ?_
  refine Ap Ao Ao (Ar Ao) ?_
  refine Bm 8 Ao (fun g => ?_) (fun g => ?_)
  ·(try simp only [sd, se] at g)
   refine A0 Ao Ao Ao Ao Ao ?_
   refine A0 Ao Ao Ao Ao Ao ?_
   refine A0 Ao Ao Ao Ao Ao ?_
   refine Ap Ao Ao (A2 Ao Ao) ?_
   refine Au Ao ?_
   exact ⟨Ao, Ao, AG, ⟨_, Ao, trivial⟩, ⟨Ao, trivial⟩⟩
  ·(try simp only [sd, se] at g)
   refine Az Ao Ao Ao Ao (Ar Ao) ?_
   refine Az Ao Ao Ao Ao (GK Wf Ao) ?_
   refine Az Ao Ao Ao Ao (A7 Ao Ao Ao) ?_
   refine Ap Ao Ao (A2 Ao Ao) ?_
   refine Au Ao ?_
   exact ⟨Ao, Ao, AG, ⟨_, Ao, trivial⟩, ⟨Ao, trivial⟩⟩
 rintro _ ⟨q, rfl, hq⟩
 refine A4 Ao (fun c => ?_) (fun c => ?_)
 ·(try simp only [sd, se] at c)
  refine As ?_
  refine Aq ?_
  refine Ap Ao Ao (At Ao) ?_
  refine Au Ao ?_
  refine A5 ?_
  refine ⟨Ao, _, [], Bj Ao, List.nil_sublist _, ⟨⟨_, Ao, ?_⟩, Ao⟩⟩
  exact fun h => absurd h An
 ·(try simp only [sd, se] at c)
  refine BD ?_
  refine As ?_
  refine Aq ?_
  refine Ap Ao Ao (At Ao) ?_
  refine Au Ao ?_
  refine As ?_
  refine As ?_
  refine Aq ?_
  refine Ap Ao Ao (At Ao) ?_
  refine Au Ao ?_
  refine BU ?_
  refine CS (α := Nat × Bool) (fun (i, f) => ⟨45, mk [(0, .p (.str s)), (3, .p (.bool f)), (4, .p (I (i : Int)))], [], []⟩) (fun (i, f) => s.size - i) (fun (i, f) => i ≤ s.size ∧ (∀ j, j < i → ∀ c, s.data.toList[j]? = some c → Ho c)) ⟨0, true⟩ (⟨by omega, fun j h => by omega⟩) ?_ ?_
  ·exact B8 ⟨we Ao, we Ao, we Ao, trivial⟩ (leH (is := []) Ao (ET))
  rintro ⟨i, f⟩ hC
  try simp only at hC
  obtain ⟨hi, hC⟩ := hC
  refine As ?_
  refine As ?_
  refine Aq ?_
  refine Ap Ao Ao (Ar Ao) ?_
  refine Ap Ao Ao (Ar Ao) ?_
  refine Ap Ao Ao (GK Wf Ao) ?_
  refine Ap Ao Ao (A7 Ao Ao Ao) ?_
  refine Au Ao ?_
  refine A4 Ao (fun c1 => ?_) (fun c1 => ?_)
  ·(try simp only [sd, se] at c1)
   refine BD ?_
   refine As ?_
   refine BU ?_
   refine As ?_
   refine Aq ?_
   refine Ap Ao Ao (Ar Ao) ?_
   refine Ap Ao Ao (Ar Ao) ?_
   obtain ⟨ch, hch⟩ : ∃ c, (s)[i]? = some c := ⟨_, getElem?_pos s i Am⟩
   refine Ap Ao Ao (M8 Wf Ao Ao Am (by simpa using hch)) ?_
   refine Ap Ao Ao (At Ao) ?_
   refine Au Ao ?_
   refine As ?_
   refine As ?_
   refine Aq ?_
   refine Ap Ao Ao (Ar Ao) ?_
   refine Au Ao ?_
   refine A4 Ao (fun c2 => ?_) (fun c2 => ?_)
   ·(try simp only [sd, se] at c2)
    refine As ?_
    refine As ?_
    refine Aq ?_
    refine Ap Ao Ao (Ar Ao) ?_
    refine Ap Ao Ao (Bf Ao Ao (Ng ch.toNat) Ao) ?_
    refine Ap Ao Ao (Co Ao) ?_
    refine Au Ao ?_
    refine A4 Ao (fun c3 => ?_) (fun c3 => ?_)
    ·(try simp only [sd, se] at c3)
     refine As ?_
     refine Aq ?_
     refine Ap Ao Ao (At Ao) ?_
     refine Au Ao ?_
     refine A5 ?_
     refine ⟨Ao, _, [], Bj Ao, List.nil_sublist _, ⟨⟨_, Ao, ?_⟩, Ao⟩⟩
     exact fun h => absurd h An
    ·(try simp only [sd, se] at c3)
     refine BD ?_
     refine As ?_
     refine Aq ?_
     refine Ap Ao Ao (At Ao) ?_
     refine Au Ao ?_
     refine CL ?_
     refine Aq ?_
     refine Ap Ao Ao (Ar Ao) ?_
     refine Ap Ao Ao (CT Ao Ao Am Am) ?_
     refine Ap Ao Ao (At Ao) ?_
     refine Au Ao ?_
     refine ⟨⟨i + 1, false⟩, AT, ⟨by omega, Kq hC hch (by first | exact hok | (simp only [Ho]; simp_all; done) | (simp only [Ho]; simp_all <;> omega))⟩, B8 ⟨we rfl, we rfl, we rfl, trivial⟩ (leH (is := []) rfl (ET))⟩
   ·(try simp only [sd, se] at c2)
    refine BD ?_
    refine As ?_
    refine As ?_
    refine Aq ?_
    refine Ap Ao Ao (Ar Ao) ?_
    refine Ap Ao Ao (A7 Ao Ao Ao) ?_
    refine Au Ao ?_
    refine A4 Ao (fun c3 => ?_) (fun c3 => ?_)
    ·(try simp only [sd, se] at c3)
     refine As ?_
     refine Aq ?_
     refine Ap Ao Ao (At Ao) ?_
     refine Au Ao ?_
     refine CL ?_
     refine Aq ?_
     refine Ap Ao Ao (Ar Ao) ?_
     refine Ap Ao Ao (CT Ao Ao Am Am) ?_
     refine Ap Ao Ao (At Ao) ?_
     refine Au Ao ?_
     refine ⟨⟨i + 1, true⟩, AT, ⟨by omega, Kq hC hch (by first | exact hok | (simp only [Ho]; simp_all; done) | (simp only [Ho]; simp_all <;> omega))⟩, B8 ⟨we rfl, we rfl, we rfl, trivial⟩ (leH (is := []) rfl (ET))⟩
    ·(try simp only [sd, se] at c3)
     refine BD ?_
     refine As ?_
     refine CB [0, 3, 4] 42 (fun y => ∃ b : Bool, y = .p (.bool b) ∧ (b = false → Ho ch)) ?_ ?_
     ·refine Aq ?_
      refine Ap Ao Ao (Ar Ao) ?_
      refine Ap Ao Ao (Bf Ao Ao (Ng ch.toNat) Ao) ?_
      refine Ap Ao Ao (Co Ao) ?_
      refine Ap Ao Ao (Ar Ao) ?_
      refine Bm 31 Ao (fun g => ?_) (fun g => ?_)
      ·(try simp only [sd, se] at g)
       refine Az Ao Ao Ao Ao (Ar Ao) ?_
       refine Az Ao Ao Ao Ao (A7 Ao Ao Ao) ?_
       refine Ap Ao Ao (A2 Ao Ao) ?_
       refine Ap Ao Ao (Ar Ao) ?_
       refine Bm 35 Ao (fun g1 => ?_) (fun g1 => ?_)
       ·(try simp only [sd, se] at g1)
        refine Az Ao Ao Ao Ao (Ar Ao) ?_
        refine Az Ao Ao Ao Ao (A7 Ao Ao Ao) ?_
        refine Az Ao Ao Ao Ao (Ar Ao) ?_
        refine Bm 38 Ao (fun g2 => ?_) (fun g2 => ?_)
        ·(try simp only [sd, se] at g2)
         refine A0 Ao Ao Ao Ao Ao ?_
         refine A0 Ao Ao Ao Ao Ao ?_
         refine Az Ao Ao Ao Ao (A2 Ao Ao) ?_
         refine Ap Ao Ao (A2 Ao Ao) ?_
         refine Au Ao ?_
         exact ⟨rfl, rfl, AG, (by refine ⟨_, rfl, fun h => ?_⟩; simp only [Ho]; first | (simp_all; done) | (simp_all <;> omega)), ⟨rfl, rfl, rfl, trivial⟩⟩
        ·(try simp only [sd, se] at g2)
         refine Az Ao Ao Ao Ao (Ar Ao) ?_
         refine Az Ao Ao Ao Ao (A7 Ao Ao Ao) ?_
         refine Az Ao Ao Ao Ao (A2 Ao Ao) ?_
         refine Ap Ao Ao (A2 Ao Ao) ?_
         refine Au Ao ?_
         exact ⟨rfl, rfl, AG, (by refine ⟨_, rfl, fun h => ?_⟩; simp only [Ho]; first | (simp_all; done) | (simp_all <;> omega)), ⟨rfl, rfl, rfl, trivial⟩⟩
       ·(try simp only [sd, se] at g1)
        refine A0 Ao Ao Ao Ao Ao ?_
        refine A0 Ao Ao Ao Ao Ao ?_
        refine A0 Ao Ao Ao Ao Ao ?_
        refine Cg Ao Ao Ao Ao ?_
        refine Cg Ao Ao Ao Ao ?_
        refine A0 Ao Ao Ao Ao Ao ?_
        refine Ap Ao Ao (A2 Ao Ao) ?_
        refine Au Ao ?_
        exact ⟨rfl, rfl, AG, (by refine ⟨_, rfl, fun h => ?_⟩; simp only [Ho]; first | (simp_all; done) | (simp_all <;> omega)), ⟨rfl, rfl, rfl, trivial⟩⟩
      ·(try simp only [sd, se] at g)
       refine A0 Ao Ao Ao Ao Ao ?_
       refine A0 Ao Ao Ao Ao Ao ?_
       refine Ap Ao Ao (A2 Ao Ao) ?_
       refine Ap Ao Ao (Ar Ao) ?_
       refine A0 Ao Ao Ao Ao Ao ?_
       refine A0 Ao Ao Ao Ao Ao ?_
       refine A0 Ao Ao Ao Ao Ao ?_
       refine Cg Ao Ao Ao Ao ?_
       refine Cg Ao Ao Ao Ao ?_
       refine A0 Ao Ao Ao Ao Ao ?_
       refine Ap Ao Ao (A2 Ao Ao) ?_
       refine Au Ao ?_
       exact ⟨rfl, rfl, AG, (by refine ⟨_, rfl, fun h => ?_⟩; simp only [Ho]; first | (simp_all; done) | (simp_all <;> omega)), ⟨rfl, rfl, rfl, trivial⟩⟩
     rintro _ ⟨r, rfl, hr⟩
     refine A4 Ao (fun c4 => ?_) (fun c4 => ?_)
     ·(try simp only [sd, se] at c4)
      refine As ?_
      refine Aq ?_
      refine Ap Ao Ao (At Ao) ?_
      refine Au Ao ?_
      refine A5 ?_
      refine ⟨Ao, _, [], Bj Ao, List.nil_sublist _, ⟨⟨_, Ao, ?_⟩, Ao⟩⟩
      exact fun h => absurd h An
     ·(try simp only [sd, se] at c4)
      have hok := hr (by simpa using c4)
      refine BD ?_
      refine Aq ?_
      refine Ap Ao Ao (Ar Ao) ?_
      refine Ap Ao Ao (CT Ao Ao Am Am) ?_
      refine Ap Ao Ao (At Ao) ?_
      refine Au Ao ?_
      refine ⟨⟨i + 1, f⟩, AT, ⟨by omega, Kq hC hch (by first | exact hok | (simp only [Ho]; simp_all; done) | (simp only [Ho]; simp_all <;> omega))⟩, B8 ⟨we rfl, we rfl, we rfl, trivial⟩ (leH (is := []) rfl (ET))⟩
  ·(try simp only [sd, se] at c1)
   refine CL ?_
   refine As ?_
   refine Aq ?_
   refine Ap Ao Ao (Ar Ao) ?_
   refine Ap Ao Ao (Co Ao) ?_
   refine Ap Ao Ao (At Ao) ?_
   refine Au Ao ?_
   refine A5 ?_
   refine ⟨Ao, _, [], Bj Ao, List.nil_sublist _, ⟨⟨_, Ao, ?_⟩, Ao⟩⟩
   have e : i = s.size := by omega
   subst e
   exact fun _ => Su hC
end Go.Proofs.YtapmjpihennhaaaGreatDoor
