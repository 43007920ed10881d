/- Part of the proofs: an abstract program logic, plain models and contracts of functions. -/
import Derived.Test.YtapmjpihennhaaaGreatDoorPb
import Derived.Test.YtapmjpihennhaaaGreatDoorPc
set_option linter.unusedVariables false
set_option linter.unusedSimpArgs false
set_option maxRecDepth 100000
namespace Go.Proofs.YtapmjpihennhaaaGreatDoor
open Go.Abs Go.Eu
theorem _root_.Go.Ai {α : Prop} (h : α := by kernel_rfl) : α := h
theorem _root_.Go.J {α : Prop} (h : α := by first | exact List.Sublist.refl _ | exact .cons _ (.refl _) | exact .cons _ (.cons _ (.refl _)) | exact .cons _ (.cons _ (.cons _ (.refl _))) | exact .cons _ (.cons _ (.cons _ (.cons _ (.refl _))))) : α := h
theorem _root_.Go.Ak {α : Prop} (h : α := by simp_all) : α := h
theorem _root_.Go.AG {α : Prop} (h : α := by first | exact List.Sublist.refl _ | exact List.sublist_cons_self _ _) : α := h
theorem UT : ∀ (a b : Eg), a.vars.length < Dp → G5 Tryz.prog 69 [LV a, LV b] (.p (.bool (NF a b))) := by
 intro a b hb
 obtain ⟨ac, av⟩ := a
 obtain ⟨bc, bv⟩ := b
 simp only [Dp] at hb
 refine A3 Tryz.func69 Ao Zq (n := 38) Ao Ao ?_
 refine As ?_
 refine Aq ?_
 refine BH Ao Ao (Bb Ao) fun b2 => ?_
 refine BH Ao Ao (Bb Ao) fun b3 => ?_
 refine Ap Ao Ao (At Ao) ?_
 refine Au Ao ?_
 refine As ?_
 refine As ?_
 refine CB [0, 1, 2, 3, 4, 5] 19 (fun y => y = .p (.bool (ac != bc || (av.length : Int) != bv.length))) ?_ ?_
 ·refine Aq ?_
  refine Ap Ao Ao (Av Dh Ao Ao) ?_
  refine Ap Ao Ao (Ax (i := 1) DQ Ao Ao Ao) ?_
  refine Ap Ao Ao (Av Dh Ao Ao) ?_
  refine Ap Ao Ao (Ax (i := 0) DQ Ao Ao Ao) ?_
  refine Ap Ao Ao (A7 Ao Ao Ao) ?_
  refine Ap Ao Ao (Ar Ao) ?_
  refine Bm 11 Ao (fun g1 => ?_) (fun g1 => ?_)
  ·(try simp only [sd] at g1)
   refine A0 Ao Ao Ao Ao Ao ?_
   refine A0 Ao Ao Ao Ao Ao ?_
   refine A0 Ao Ao Ao Ao Ao ?_
   refine A0 Ao Ao Ao Ao Ao ?_
   refine A0 Ao Ao Ao Ao Ao ?_
   refine A0 Ao Ao Ao Ao Ao ?_
   refine A0 Ao Ao Ao Ao Ao ?_
   refine Ap Ao Ao (A2 Ao Ao) ?_
   refine Au Ao ?_
   exact ⟨Ao, Ao, AG, pB Ak, ⟨Ao, Ao, Ao, Ao, Ao, Ao, trivial⟩⟩
  ·(try simp only [sd] at g1)
   refine Az Ao Ao Ao Ao (Av Dh Ao Ao) ?_
   refine Az Ao Ao Ao Ao (Ax (i := 1) Ge Ao Ao Ao) ?_
   refine Az Ao Ao Ao Ao (Cx FJ Ao) ?_
   refine Az Ao Ao Ao Ao (Av Dh Ao Ao) ?_
   refine Az Ao Ao Ao Ao (Ax (i := 0) Ge Ao Ao Ao) ?_
   refine Az Ao Ao Ao Ao (Cx FJ Ao) ?_
   refine Az Ao Ao Ao Ao (A7 Ao Ao Ao) ?_
   refine Ap Ao Ao (A2 Ao Ao) ?_
   refine Au Ao ?_
   exact ⟨Ao, Ao, AG, pB Ak, ⟨Ao, Ao, Ao, Ao, Ao, Ao, trivial⟩⟩
 rintro _ rfl
 refine A4 Ao (fun c2 => ?_) (fun c2 => ?_)
 ·(try simp only [sd] at c2)
  refine As ?_
  refine Aq ?_
  refine Ap Ao Ao (At Ao) ?_
  refine Au Ao ?_
  refine A5 ?_
  refine ⟨Ao, _, [], Bj Ao, List.nil_sublist _, ?_⟩
  exact ⟨pB (Ds (fun h => by simp at h; simp [h] at *)).symm, rfl⟩
 ·(try simp only [sd] at c2)
  have h1 : ac = bc ∧ av.length = bv.length := by simp at c2; omega
  refine BD ?_
  refine As ?_
  refine As ?_
  refine Aq ?_
  refine Ap Ao Ao (At Ao) ?_
  refine Au Ao ?_
  refine BU ?_
  refine HZ (av.length) (fun i => agree av bv i) (fun i => ⟨38, mk [(2, .ptr b2 0), (3, .ptr b3 0), (5, .p (I i))], [.box b3 ((Db ⟨bc, bv⟩).map .p), .box b2 ((Db ⟨ac, av⟩).map .p)], []⟩) (0) Am (IB _ _) ?_ ?_
  ·exact Gr ⟨Ao, Ao, Ao, trivial⟩ J
  intro i hi hC
  refine As ?_
  refine As ?_
  refine Aq ?_
  refine Ap Ao Ao (Ar Ao) ?_
  refine Ap Ao Ao (Av Dh Ao Ao) ?_
  refine Ap Ao Ao (Ax (i := 1) Ge Ao Ao Ao) ?_
  refine Ap Ao Ao (Cx FJ Ao) ?_
  refine Ap Ao Ao (A7 Ao Ao Ao) ?_
  refine Au Ao ?_
  refine A4 Ao (fun c3 => ?_) (fun c3 => ?_)
  ·(try simp only [sd] at c3)
   have hi2 : i < av.length := by simp at c3; omega
   obtain ⟨x, hx⟩ := BM hi2
   obtain ⟨y, hy⟩ := BM (l := bv) (i := i) Am
   refine BD ?_
   refine As ?_
   refine BU ?_
   refine As ?_
   refine CJ (fun k => false) Dq ?_
   refine Ay Ao Ao (fun _ => Av Dh Ao Ao) trivial ?_
   refine BK (j := 1) rfl rfl rfl (fun H i hi => Ax (i := i) Ge rfl hi rfl) (by repeat' first | exact trivial | refine And.intro ?_ ?_ | exact Or.inl Ai | (refine Or.inr (And.intro ?_ ?_) <;> repeat (first | exact List.Mem.head _ | apply List.Mem.tail))) trivial ?_
   refine Ay Ao Ao (fun _ => Ar Ao) trivial ?_
   refine Ay Ao Ao (fun _ => BJ FJ Ao Ao Am (FP hx) (Ao)) trivial ?_
   refine Ay Ao Ao (fun _ => Be Nh Ao (Ao)) trivial ?_
   refine Ay Ao Ao (fun _ => Av Dh Ao Ao) trivial ?_
   refine BK (j := 0) rfl rfl rfl (fun H i hi => Ax (i := i) Ge rfl hi rfl) (by repeat' first | exact trivial | refine And.intro ?_ ?_ | exact Or.inl Ai | (refine Or.inr (And.intro ?_ ?_) <;> repeat (first | exact List.Mem.head _ | apply List.Mem.tail))) trivial ?_
   refine Ay Ao Ao (fun _ => Ar Ao) trivial ?_
   refine Ay Ao Ao (fun _ => BJ FJ Ao Ao Am (FP hy) (Ao)) trivial ?_
   refine Ay Ao Ao (fun _ => Be Nh Ao (Ao)) trivial ?_
   refine Ay Ao Ao (fun _ => Rk Xu Ao Ao) trivial ?_
   refine CA Ao Ai ?_
   refine A4 Ao (fun c4 => ?_) (fun c4 => ?_)
   ·(try simp only [sd] at c4)
    refine As ?_
    refine Aq ?_
    refine Ap Ao Ao (At Ao) ?_
    refine Au Ao ?_
    refine A5 ?_
    refine ⟨Ao, _, [], Bj Ao, List.nil_sublist _, ?_⟩
    exact ⟨pB (Ds (fun h => by simp at h; obtain ⟨_, rfl⟩ := h; rw [hx] at hy; injection hy with hy; subst hy; simp_all)).symm, rfl⟩
   ·(try simp only [sd] at c4)
    have hxy : x = y := by obtain ⟨x1, x2⟩ := x; obtain ⟨y1, y2⟩ := y; simp at c4; simp [c4]
    subst hxy
    refine BD ?_
    refine Aq ?_
    refine Ap Ao Ao (Ar Ao) ?_
    refine Ap Ao Ao (CT Ao Ao Am Am) ?_
    refine Ap Ao Ao (At Ao) ?_
    refine Au Ao ?_
    exact ⟨by omega, H6 hC hx hy, Gr ⟨rfl, rfl, rfl, trivial⟩ J⟩
  ·(try simp only [sd] at c3)
   have hi2 : i = av.length := by simp at c3; omega
   refine CL ?_
   refine As ?_
   refine Aq ?_
   refine Ap Ao Ao (At Ao) ?_
   refine Au Ao ?_
   refine A5 ?_
   refine ⟨Ao, _, [], Bj Ao, List.nil_sublist _, ?_⟩
   exact ⟨pB (Dl (by rw [h1.1, JC hC Am Am])).symm, Ao⟩
theorem KR : ∀ (a b : List Eg), a.length < Dp → (∀ l ∈ a, Ui l) → G5 Tryz.prog 38 [Yp a, Yp b] (.p (.bool (NF a b))) := by
 intro a b hb hn
 simp only [Dp] at hb
 refine A3 Tryz.func38 Ao Z0 (n := 27) Ao Ao ?_
 refine As ?_
 refine Aq ?_
 refine Ap Ao Ao (At Ao) ?_
 refine Au Ao ?_
 refine As ?_
 refine As ?_
 refine Aq ?_
 refine Ap Ao Ao (Ar Ao) ?_
 refine Ap Ao Ao (Cx G8 Ao) ?_
 refine Ap Ao Ao (Ar Ao) ?_
 refine Ap Ao Ao (Cx G8 Ao) ?_
 refine Ap Ao Ao (A7 Ao Ao Ao) ?_
 refine Au Ao ?_
 refine A4 Ao (fun c1 => ?_) (fun c1 => ?_)
 ·(try simp only [sd] at c1)
  refine As ?_
  refine Aq ?_
  refine Ap Ao Ao (At Ao) ?_
  refine Au Ao ?_
  refine A5 ?_
  refine ⟨Ao, _, [], Bj Ao, List.nil_sublist _, ?_⟩
  exact ⟨pB (Ds (fun h => by subst h; simp at *)).symm, rfl⟩
 ·(try simp only [sd] at c1)
  have h1 : a.length = b.length := by simp at c1; omega
  refine BD ?_
  refine As ?_
  refine As ?_
  refine Aq ?_
  refine Ap Ao Ao (At Ao) ?_
  refine Au Ao ?_
  refine BU ?_
  refine HZ (a.length) (fun i => agree a b i) (fun i => ⟨27, mk [(0, Yp a), (1, Yp b), (5, .p (I i))], [], []⟩) (0) Am (IB _ _) ?_ ?_
  ·exact Gr ⟨Ao, Ao, Ao, trivial⟩ J
  intro i hi hC
  refine As ?_
  refine As ?_
  refine Aq ?_
  refine Ap Ao Ao (Ar Ao) ?_
  refine Ap Ao Ao (Ar Ao) ?_
  refine Ap Ao Ao (Cx G8 Ao) ?_
  refine Ap Ao Ao (A7 Ao Ao Ao) ?_
  refine Au Ao ?_
  refine A4 Ao (fun c2 => ?_) (fun c2 => ?_)
  ·(try simp only [sd] at c2)
   have hi2 : i < a.length := by simp at c2; omega
   obtain ⟨x, hx⟩ := BM hi2
   obtain ⟨y, hy⟩ := BM (l := b) (i := i) Am
   refine BD ?_
   refine As ?_
   refine BU ?_
   refine As ?_
   refine CJ (fun k => false) Dq ?_
   refine Ay Ao Ao (fun _ => Ar Ao) trivial ?_
   refine Ay Ao Ao (fun _ => Ar Ao) trivial ?_
   refine Ay Ao Ao (fun _ => BJ G8 Ao Ao Am (IQ hx) (KV _)) trivial ?_
   refine Ay Ao Ao (fun _ => Be D1 Ao (KV _)) trivial ?_
   refine Ay Ao Ao (fun _ => Ar Ao) trivial ?_
   refine Ay Ao Ao (fun _ => Ar Ao) trivial ?_
   refine Ay Ao Ao (fun _ => BJ G8 Ao Ao Am (IQ hy) (KV _)) trivial ?_
   refine Ay Ao Ao (fun _ => Be D1 Ao (KV _)) trivial ?_
   refine Ay Ao Ao (fun _ => Bf Ao Ao (UT x y (hn x (List.mem_of_getElem? hx)).vars) Ao) trivial ?_
   refine Ay Ao Ao (fun _ => Co Ao) trivial ?_
   refine CA Ao Ai ?_
   refine A4 Ao (fun c3 => ?_) (fun c3 => ?_)
   ·(try simp only [sd] at c3)
    refine As ?_
    refine Aq ?_
    refine Ap Ao Ao (At Ao) ?_
    refine Au Ao ?_
    refine A5 ?_
    refine ⟨Ao, _, [], Bj Ao, List.nil_sublist _, ?_⟩
    exact ⟨pB (Ds (fun h => by subst h; rw [hx] at hy; injection hy with hy; subst hy; simp [Dl] at *)).symm, rfl⟩
   ·(try simp only [sd] at c3)
    have hxy : x = y := Hk.1 (by simpa using c3)
    subst hxy
    refine BD ?_
    refine Aq ?_
    refine Ap Ao Ao (Ar Ao) ?_
    refine Ap Ao Ao (CT Ao Ao Am Am) ?_
    refine Ap Ao Ao (At Ao) ?_
    refine Au Ao ?_
    exact ⟨by omega, H6 hC hx hy, Gr ⟨rfl, rfl, rfl, trivial⟩ J⟩
  ·(try simp only [sd] at c2)
   have hi2 : i = a.length := by simp at c2; omega
   refine CL ?_
   refine As ?_
   refine Aq ?_
   refine Ap Ao Ao (At Ao) ?_
   refine Au Ao ?_
   refine A5 ?_
   refine ⟨Ao, _, [], Bj Ao, List.nil_sublist _, ?_⟩
   exact ⟨pB (Dl (JC hC Am Am)).symm, Ao⟩
theorem P3 : ∀ (n : Nat) (a b : Tm), size a ≤ n → Nd a → G5 Tryz.prog 12 [TV a, TV b] (.p (.bool (NF a b))) := by
 intro n
 induction n with
 | zero => intro a b h; cases a; simp [size] at h
 | succ n ih =>
  intro a b hs hnd
  obtain ⟨ak, ai, an, al, aks⟩ := a
  obtain ⟨bk, bi, bn, bl, bks⟩ := b
  simp only [size] at hs
  simp only [Nd, Dp] at hnd
  obtain ⟨hn1, hn2, hn3, hn4, hn5, hn6⟩ := hnd
  refine A3 Tryz.func12 Ao Yy (n := 61) Ao Ao ?_
  refine As ?_
  refine Aq ?_
  refine BH Ao Ao (Bb Ao) fun b2 => ?_
  refine BH Ao Ao (Bb Ao) fun b3 => ?_
  refine Ap Ao Ao (At Ao) ?_
  refine Au Ao ?_
  refine As ?_
  refine As ?_
  refine CB [0, 1, 2, 3, 4, 5] 41 (fun y => y = .p (.bool (ak != bk || ai != bi || !(an.toList == bn.toList) || !(NF al bl) || (((BO aks).length : Int) != (BO bks).length)))) ?_ ?_
  ·refine Aq ?_
   refine Ap Ao Ao (Av CN Ao Ao) ?_
   refine Ap Ao Ao (Ax (i := 1) DQ Ao Ao Ao) ?_
   refine Ap Ao Ao (Av CN Ao Ao) ?_
   refine Ap Ao Ao (Ax (i := 0) DQ Ao Ao Ao) ?_
   refine Ap Ao Ao (A7 Ao Ao Ao) ?_
   refine Ap Ao Ao (Ar Ao) ?_
   refine Bm 11 Ao (fun g1 => ?_) (fun g1 => ?_)
   ·(try simp only [sd] at g1)
    refine A0 Ao Ao Ao Ao Ao ?_
    refine A0 Ao Ao Ao Ao Ao ?_
    refine A0 Ao Ao Ao Ao Ao ?_
    refine A0 Ao Ao Ao Ao Ao ?_
    refine A0 Ao Ao Ao Ao Ao ?_
    refine Ap Ao Ao (A2 Ao Ao) ?_
    refine Ap Ao Ao (Ar Ao) ?_
    refine Bm 18 Ao (fun g2 => ?_) (fun g2 => ?_)
    ·(try simp only [sd] at g2)
     refine A0 Ao Ao Ao Ao Ao ?_
     refine A0 Ao Ao Ao Ao Ao ?_
     refine A0 Ao Ao Ao Ao Ao ?_
     refine A0 Ao Ao Ao Ao Ao ?_
     refine A0 Ao Ao Ao Ao Ao ?_
     refine Ap Ao Ao (A2 Ao Ao) ?_
     refine Ap Ao Ao (Ar Ao) ?_
     refine Bm 25 Ao (fun g3 => ?_) (fun g3 => ?_)
     ·(try simp only [sd] at g3)
      refine A0 Ao Ao Ao Ao Ao ?_
      refine A0 Ao Ao Ao Ao Ao ?_
      refine A0 Ao Ao Ao Ao Ao ?_
      refine A0 Ao Ao Ao Ao Ao ?_
      refine A0 Ao Ao Ao Ao Ao ?_
      refine A0 Ao Ao Ao Ao Ao ?_
      refine Ap Ao Ao (A2 Ao Ao) ?_
      refine Ap Ao Ao (Ar Ao) ?_
      refine Bm 33 Ao (fun g4 => ?_) (fun g4 => ?_)
      ·(try simp only [sd] at g4)
       refine A0 Ao Ao Ao Ao Ao ?_
       refine A0 Ao Ao Ao Ao Ao ?_
       refine A0 Ao Ao Ao Ao Ao ?_
       refine A0 Ao Ao Ao Ao Ao ?_
       refine A0 Ao Ao Ao Ao Ao ?_
       refine A0 Ao Ao Ao Ao Ao ?_
       refine A0 Ao Ao Ao Ao Ao ?_
       refine Ap Ao Ao (A2 Ao Ao) ?_
       refine Au Ao ?_
       exact ⟨Ao, Ao, AG, pB Ak, ⟨Ao, Ao, Ao, Ao, Ao, Ao, trivial⟩⟩
      ·(try simp only [sd] at g4)
       refine Az Ao Ao Ao Ao (Av CN Ao Ao) ?_
       refine Az Ao Ao Ao Ao (Ax (i := 1) DC Ao Ao Ao) ?_
       refine Az Ao Ao Ao Ao (Cx B4 Ao) ?_
       refine Az Ao Ao Ao Ao (Av CN Ao Ao) ?_
       refine Az Ao Ao Ao Ao (Ax (i := 0) DC Ao Ao Ao) ?_
       refine Az Ao Ao Ao Ao (Cx B4 Ao) ?_
       refine Az Ao Ao Ao Ao (A7 Ao Ao Ao) ?_
       refine Ap Ao Ao (A2 Ao Ao) ?_
       refine Au Ao ?_
       exact ⟨Ao, Ao, AG, pB Ak, ⟨Ao, Ao, Ao, Ao, Ao, Ao, trivial⟩⟩
     ·(try simp only [sd] at g3)
      refine Az Ao Ao Ao Ao (Av CN Ao Ao) ?_
      refine Az Ao Ao Ao Ao (Ax (i := 1) IM Ao Ao Ao) ?_
      refine Az Ao Ao Ao Ao (Av CN Ao Ao) ?_
      refine Az Ao Ao Ao Ao (Ax (i := 0) IM Ao Ao Ao) ?_
      refine Az Ao Ao Ao Ao (Bf Ao Ao (KR al bl hn2 hn3) Ao) ?_
      refine Az Ao Ao Ao Ao (Co Ao) ?_
      refine Ap Ao Ao (A2 Ao Ao) ?_
      refine Ap Ao Ao (Ar Ao) ?_
      refine Bm 33 Ao (fun g5 => ?_) (fun g5 => ?_)
      ·(try simp only [sd] at g5)
       refine A0 Ao Ao Ao Ao Ao ?_
       refine A0 Ao Ao Ao Ao Ao ?_
       refine A0 Ao Ao Ao Ao Ao ?_
       refine A0 Ao Ao Ao Ao Ao ?_
       refine A0 Ao Ao Ao Ao Ao ?_
       refine A0 Ao Ao Ao Ao Ao ?_
       refine A0 Ao Ao Ao Ao Ao ?_
       refine Ap Ao Ao (A2 Ao Ao) ?_
       refine Au Ao ?_
       exact ⟨Ao, Ao, AG, pB Ak, ⟨Ao, Ao, Ao, Ao, Ao, Ao, trivial⟩⟩
      ·(try simp only [sd] at g5)
       refine Az Ao Ao Ao Ao (Av CN Ao Ao) ?_
       refine Az Ao Ao Ao Ao (Ax (i := 1) DC Ao Ao Ao) ?_
       refine Az Ao Ao Ao Ao (Cx B4 Ao) ?_
       refine Az Ao Ao Ao Ao (Av CN Ao Ao) ?_
       refine Az Ao Ao Ao Ao (Ax (i := 0) DC Ao Ao Ao) ?_
       refine Az Ao Ao Ao Ao (Cx B4 Ao) ?_
       refine Az Ao Ao Ao Ao (A7 Ao Ao Ao) ?_
       refine Ap Ao Ao (A2 Ao Ao) ?_
       refine Au Ao ?_
       exact ⟨Ao, Ao, AG, pB Ak, ⟨Ao, Ao, Ao, Ao, Ao, Ao, trivial⟩⟩
    ·(try simp only [sd] at g2)
     refine Az Ao Ao Ao Ao (Av CN Ao Ao) ?_
     refine Az Ao Ao Ao Ao (Ax (i := 1) GO Ao Ao Ao) ?_
     refine Az Ao Ao Ao Ao (Av CN Ao Ao) ?_
     refine Az Ao Ao Ao Ao (Ax (i := 0) GO Ao Ao Ao) ?_
     refine Az Ao Ao Ao Ao (K1 Ao Ao) ?_
     refine Ap Ao Ao (A2 Ao Ao) ?_
     refine Ap Ao Ao (Ar Ao) ?_
     refine Bm 25 Ao (fun g6 => ?_) (fun g6 => ?_)
     ·(try simp only [sd] at g6)
      refine A0 Ao Ao Ao Ao Ao ?_
      refine A0 Ao Ao Ao Ao Ao ?_
      refine A0 Ao Ao Ao Ao Ao ?_
      refine A0 Ao Ao Ao Ao Ao ?_
      refine A0 Ao Ao Ao Ao Ao ?_
      refine A0 Ao Ao Ao Ao Ao ?_
      refine Ap Ao Ao (A2 Ao Ao) ?_
      refine Ap Ao Ao (Ar Ao) ?_
      refine Bm 33 Ao (fun g7 => ?_) (fun g7 => ?_)
      ·(try simp only [sd] at g7)
       refine A0 Ao Ao Ao Ao Ao ?_
       refine A0 Ao Ao Ao Ao Ao ?_
       refine A0 Ao Ao Ao Ao Ao ?_
       refine A0 Ao Ao Ao Ao Ao ?_
       refine A0 Ao Ao Ao Ao Ao ?_
       refine A0 Ao Ao Ao Ao Ao ?_
       refine A0 Ao Ao Ao Ao Ao ?_
       refine Ap Ao Ao (A2 Ao Ao) ?_
       refine Au Ao ?_
       exact ⟨Ao, Ao, AG, pB Ak, ⟨Ao, Ao, Ao, Ao, Ao, Ao, trivial⟩⟩
      ·(try simp only [sd] at g7)
       refine Az Ao Ao Ao Ao (Av CN Ao Ao) ?_
       refine Az Ao Ao Ao Ao (Ax (i := 1) DC Ao Ao Ao) ?_
       refine Az Ao Ao Ao Ao (Cx B4 Ao) ?_
       refine Az Ao Ao Ao Ao (Av CN Ao Ao) ?_
       refine Az Ao Ao Ao Ao (Ax (i := 0) DC Ao Ao Ao) ?_
       refine Az Ao Ao Ao Ao (Cx B4 Ao) ?_
       refine Az Ao Ao Ao Ao (A7 Ao Ao Ao) ?_
       refine Ap Ao Ao (A2 Ao Ao) ?_
       refine Au Ao ?_
       exact ⟨Ao, Ao, AG, pB Ak, ⟨Ao, Ao, Ao, Ao, Ao, Ao, trivial⟩⟩
     ·(try simp only [sd] at g6)
      refine Az Ao Ao Ao Ao (Av CN Ao Ao) ?_
      refine Az Ao Ao Ao Ao (Ax (i := 1) IM Ao Ao Ao) ?_
      refine Az Ao Ao Ao Ao (Av CN Ao Ao) ?_
      refine Az Ao Ao Ao Ao (Ax (i := 0) IM Ao Ao Ao) ?_
      refine Az Ao Ao Ao Ao (Bf Ao Ao (KR al bl hn2 hn3) Ao) ?_
      refine Az Ao Ao Ao Ao (Co Ao) ?_
      refine Ap Ao Ao (A2 Ao Ao) ?_
      refine Ap Ao Ao (Ar Ao) ?_
      refine Bm 33 Ao (fun g8 => ?_) (fun g8 => ?_)
      ·(try simp only [sd] at g8)
       refine A0 Ao Ao Ao Ao Ao ?_
       refine A0 Ao Ao Ao Ao Ao ?_
       refine A0 Ao Ao Ao Ao Ao ?_
       refine A0 Ao Ao Ao Ao Ao ?_
       refine A0 Ao Ao Ao Ao Ao ?_
       refine A0 Ao Ao Ao Ao Ao ?_
       refine A0 Ao Ao Ao Ao Ao ?_
       refine Ap Ao Ao (A2 Ao Ao) ?_
       refine Au Ao ?_
       exact ⟨Ao, Ao, AG, pB Ak, ⟨Ao, Ao, Ao, Ao, Ao, Ao, trivial⟩⟩
      ·(try simp only [sd] at g8)
       refine Az Ao Ao Ao Ao (Av CN Ao Ao) ?_
       refine Az Ao Ao Ao Ao (Ax (i := 1) DC Ao Ao Ao) ?_
       refine Az Ao Ao Ao Ao (Cx B4 Ao) ?_
       refine Az Ao Ao Ao Ao (Av CN Ao Ao) ?_
       refine Az Ao Ao Ao Ao (Ax (i := 0) DC Ao Ao Ao) ?_
       refine Az Ao Ao Ao Ao (Cx B4 Ao) ?_
       refine Az Ao Ao Ao Ao (A7 Ao Ao Ao) ?_
       refine Ap Ao Ao (A2 Ao Ao) ?_
       refine Au Ao ?_
       exact ⟨Ao, Ao, AG, pB Ak, ⟨Ao, Ao, Ao, Ao, Ao, Ao, trivial⟩⟩
   ·(try simp only [sd] at g1)
    refine Az Ao Ao Ao Ao (Av CN Ao Ao) ?_
    refine Az Ao Ao Ao Ao (Ax (i := 1) DQ Ao Ao Ao) ?_
    refine Az Ao Ao Ao Ao (Av CN Ao Ao) ?_
    refine Az Ao Ao Ao Ao (Ax (i := 0) DQ Ao Ao Ao) ?_
    refine Az Ao Ao Ao Ao (A7 Ao Ao Ao) ?_
    refine Ap Ao Ao (A2 Ao Ao) ?_
    refine Ap Ao Ao (Ar Ao) ?_
    refine Bm 18 Ao (fun g9 => ?_) (fun g9 => ?_)
    ·(try simp only [sd] at g9)
     refine A0 Ao Ao Ao Ao Ao ?_
     refine A0 Ao Ao Ao Ao Ao ?_
     refine A0 Ao Ao Ao Ao Ao ?_
     refine A0 Ao Ao Ao Ao Ao ?_
     refine A0 Ao Ao Ao Ao Ao ?_
     refine Ap Ao Ao (A2 Ao Ao) ?_
     refine Ap Ao Ao (Ar Ao) ?_
     refine Bm 25 Ao (fun g10 => ?_) (fun g10 => ?_)
     ·(try simp only [sd] at g10)
      refine A0 Ao Ao Ao Ao Ao ?_
      refine A0 Ao Ao Ao Ao Ao ?_
      refine A0 Ao Ao Ao Ao Ao ?_
      refine A0 Ao Ao Ao Ao Ao ?_
      refine A0 Ao Ao Ao Ao Ao ?_
      refine A0 Ao Ao Ao Ao Ao ?_
      refine Ap Ao Ao (A2 Ao Ao) ?_
      refine Ap Ao Ao (Ar Ao) ?_
      refine Bm 33 Ao (fun g11 => ?_) (fun g11 => ?_)
      ·(try simp only [sd] at g11)
       refine A0 Ao Ao Ao Ao Ao ?_
       refine A0 Ao Ao Ao Ao Ao ?_
       refine A0 Ao Ao Ao Ao Ao ?_
       refine A0 Ao Ao Ao Ao Ao ?_
       refine A0 Ao Ao Ao Ao Ao ?_
       refine A0 Ao Ao Ao Ao Ao ?_
       refine A0 Ao Ao Ao Ao Ao ?_
       refine Ap Ao Ao (A2 Ao Ao) ?_
       refine Au Ao ?_
       exact ⟨Ao, Ao, AG, pB Ak, ⟨Ao, Ao, Ao, Ao, Ao, Ao, trivial⟩⟩
      ·(try simp only [sd] at g11)
       refine Az Ao Ao Ao Ao (Av CN Ao Ao) ?_
       refine Az Ao Ao Ao Ao (Ax (i := 1) DC Ao Ao Ao) ?_
       refine Az Ao Ao Ao Ao (Cx B4 Ao) ?_
       refine Az Ao Ao Ao Ao (Av CN Ao Ao) ?_
       refine Az Ao Ao Ao Ao (Ax (i := 0) DC Ao Ao Ao) ?_
       refine Az Ao Ao Ao Ao (Cx B4 Ao) ?_
       refine Az Ao Ao Ao Ao (A7 Ao Ao Ao) ?_
       refine Ap Ao Ao (A2 Ao Ao) ?_
       refine Au Ao ?_
       exact ⟨Ao, Ao, AG, pB Ak, ⟨Ao, Ao, Ao, Ao, Ao, Ao, trivial⟩⟩
     ·(try simp only [sd] at g10)
      refine Az Ao Ao Ao Ao (Av CN Ao Ao) ?_
      refine Az Ao Ao Ao Ao (Ax (i := 1) IM Ao Ao Ao) ?_
      refine Az Ao Ao Ao Ao (Av CN Ao Ao) ?_
      refine Az Ao Ao Ao Ao (Ax (i := 0) IM Ao Ao Ao) ?_
      refine Az Ao Ao Ao Ao (Bf Ao Ao (KR al bl hn2 hn3) Ao) ?_
      refine Az Ao Ao Ao Ao (Co Ao) ?_
      refine Ap Ao Ao (A2 Ao Ao) ?_
      refine Ap Ao Ao (Ar Ao) ?_
      refine Bm 33 Ao (fun g12 => ?_) (fun g12 => ?_)
      ·(try simp only [sd] at g12)
       refine A0 Ao Ao Ao Ao Ao ?_
       refine A0 Ao Ao Ao Ao Ao ?_
       refine A0 Ao Ao Ao Ao Ao ?_
       refine A0 Ao Ao Ao Ao Ao ?_
       refine A0 Ao Ao Ao Ao Ao ?_
       refine A0 Ao Ao Ao Ao Ao ?_
       refine A0 Ao Ao Ao Ao Ao ?_
       refine Ap Ao Ao (A2 Ao Ao) ?_
       refine Au Ao ?_
       exact ⟨Ao, Ao, AG, pB Ak, ⟨Ao, Ao, Ao, Ao, Ao, Ao, trivial⟩⟩
      ·(try simp only [sd] at g12)
       refine Az Ao Ao Ao Ao (Av CN Ao Ao) ?_
       refine Az Ao Ao Ao Ao (Ax (i := 1) DC Ao Ao Ao) ?_
       refine Az Ao Ao Ao Ao (Cx B4 Ao) ?_
       refine Az Ao Ao Ao Ao (Av CN Ao Ao) ?_
       refine Az Ao Ao Ao Ao (Ax (i := 0) DC Ao Ao Ao) ?_
       refine Az Ao Ao Ao Ao (Cx B4 Ao) ?_
       refine Az Ao Ao Ao Ao (A7 Ao Ao Ao) ?_
       refine Ap Ao Ao (A2 Ao Ao) ?_
       refine Au Ao ?_
       exact ⟨Ao, Ao, AG, pB Ak, ⟨Ao, Ao, Ao, Ao, Ao, Ao, trivial⟩⟩
    ·(try simp only [sd] at g9)
     refine Az Ao Ao Ao Ao (Av CN Ao Ao) ?_
     refine Az Ao Ao Ao Ao (Ax (i := 1) GO Ao Ao Ao) ?_
     refine Az Ao Ao Ao Ao (Av CN Ao Ao) ?_
     refine Az Ao Ao Ao Ao (Ax (i := 0) GO Ao Ao Ao) ?_
     refine Az Ao Ao Ao Ao (K1 Ao Ao) ?_
     refine Ap Ao Ao (A2 Ao Ao) ?_
     refine Ap Ao Ao (Ar Ao) ?_
     refine Bm 25 Ao (fun g13 => ?_) (fun g13 => ?_)
     ·(try simp only [sd] at g13)
      refine A0 Ao Ao Ao Ao Ao ?_
      refine A0 Ao Ao Ao Ao Ao ?_
      refine A0 Ao Ao Ao Ao Ao ?_
      refine A0 Ao Ao Ao Ao Ao ?_
      refine A0 Ao Ao Ao Ao Ao ?_
      refine A0 Ao Ao Ao Ao Ao ?_
      refine Ap Ao Ao (A2 Ao Ao) ?_
      refine Ap Ao Ao (Ar Ao) ?_
      refine Bm 33 Ao (fun g14 => ?_) (fun g14 => ?_)
      ·(try simp only [sd] at g14)
       refine A0 Ao Ao Ao Ao Ao ?_
       refine A0 Ao Ao Ao Ao Ao ?_
       refine A0 Ao Ao Ao Ao Ao ?_
       refine A0 Ao Ao Ao Ao Ao ?_
       refine A0 Ao Ao Ao Ao Ao ?_
       refine A0 Ao Ao Ao Ao Ao ?_
       refine A0 Ao Ao Ao Ao Ao ?_
       refine Ap Ao Ao (A2 Ao Ao) ?_
       refine Au Ao ?_
       exact ⟨Ao, Ao, AG, pB Ak, ⟨Ao, Ao, Ao, Ao, Ao, Ao, trivial⟩⟩
      ·(try simp only [sd] at g14)
       refine Az Ao Ao Ao Ao (Av CN Ao Ao) ?_
       refine Az Ao Ao Ao Ao (Ax (i := 1) DC Ao Ao Ao) ?_
       refine Az Ao Ao Ao Ao (Cx B4 Ao) ?_
       refine Az Ao Ao Ao Ao (Av CN Ao Ao) ?_
       refine Az Ao Ao Ao Ao (Ax (i := 0) DC Ao Ao Ao) ?_
       refine Az Ao Ao Ao Ao (Cx B4 Ao) ?_
       refine Az Ao Ao Ao Ao (A7 Ao Ao Ao) ?_
       refine Ap Ao Ao (A2 Ao Ao) ?_
       refine Au Ao ?_
       exact ⟨Ao, Ao, AG, pB Ak, ⟨Ao, Ao, Ao, Ao, Ao, Ao, trivial⟩⟩
     ·(try simp only [sd] at g13)
      refine Az Ao Ao Ao Ao (Av CN Ao Ao) ?_
      refine Az Ao Ao Ao Ao (Ax (i := 1) IM Ao Ao Ao) ?_
      refine Az Ao Ao Ao Ao (Av CN Ao Ao) ?_
      refine Az Ao Ao Ao Ao (Ax (i := 0) IM Ao Ao Ao) ?_
      refine Az Ao Ao Ao Ao (Bf Ao Ao (KR al bl hn2 hn3) Ao) ?_
      refine Az Ao Ao Ao Ao (Co Ao) ?_
      refine Ap Ao Ao (A2 Ao Ao) ?_
      refine Ap Ao Ao (Ar Ao) ?_
      refine Bm 33 Ao (fun g15 => ?_) (fun g15 => ?_)
      ·(try simp only [sd] at g15)
       refine A0 Ao Ao Ao Ao Ao ?_
       refine A0 Ao Ao Ao Ao Ao ?_
       refine A0 Ao Ao Ao Ao Ao ?_
       refine A0 Ao Ao Ao Ao Ao ?_
       refine A0 Ao Ao Ao Ao Ao ?_
       refine A0 Ao Ao Ao Ao Ao ?_
       refine A0 Ao Ao Ao Ao Ao ?_
       refine Ap Ao Ao (A2 Ao Ao) ?_
       refine Au Ao ?_
       exact ⟨Ao, Ao, AG, pB Ak, ⟨Ao, Ao, Ao, Ao, Ao, Ao, trivial⟩⟩
      ·(try simp only [sd] at g15)
       refine Az Ao Ao Ao Ao (Av CN Ao Ao) ?_
       refine Az Ao Ao Ao Ao (Ax (i := 1) DC Ao Ao Ao) ?_
       refine Az Ao Ao Ao Ao (Cx B4 Ao) ?_
       refine Az Ao Ao Ao Ao (Av CN Ao Ao) ?_
       refine Az Ao Ao Ao Ao (Ax (i := 0) DC Ao Ao Ao) ?_
       refine Az Ao Ao Ao Ao (Cx B4 Ao) ?_
       refine Az Ao Ao Ao Ao (A7 Ao Ao Ao) ?_
       refine Ap Ao Ao (A2 Ao Ao) ?_
       refine Au Ao ?_
       exact ⟨Ao, Ao, AG, pB Ak, ⟨Ao, Ao, Ao, Ao, Ao, Ao, trivial⟩⟩
  rintro _ rfl
  refine A4 Ao (fun c16 => ?_) (fun c16 => ?_)
  ·(try simp only [sd] at c16)
   refine As ?_
   refine Aq ?_
   refine Ap Ao Ao (At Ao) ?_
   refine Au Ao ?_
   refine A5 ?_
   refine ⟨Ao, _, [], Bj Ao, List.nil_sublist _, ?_⟩
   exact ⟨pB (Ds (fun h => by simp at h; simp [h, Dl] at *)).symm, rfl⟩
  ·(try simp only [sd] at c16)
   have h1 : ak = bk ∧ ai = bi ∧ an.toList = bn.toList ∧ al = bl ∧ aks.length = bks.length := by simp [Bt, Hk] at c16; obtain ⟨⟨⟨⟨e1, e2⟩, e3⟩, e4⟩, e5⟩ := c16; exact ⟨e1, e2, e3, e4, by omega⟩
   refine BD ?_
   refine As ?_
   refine As ?_
   refine Aq ?_
   refine Ap Ao Ao (At Ao) ?_
   refine Au Ao ?_
   refine BU ?_
   refine HZ (aks.length) (fun i => agree aks bks i) (fun i => ⟨61, mk [(2, .ptr b2 0), (3, .ptr b3 0), (5, .p (I i))], [.box b3 ((Ba (.mk bk bi bn bl bks)).map .p), .box b2 ((Ba (.mk ak ai an al aks)).map .p)], []⟩) (0) Am (IB _ _) ?_ ?_
   ·exact Gr ⟨Ao, Ao, Ao, trivial⟩ J
   intro i hi hC
   refine As ?_
   refine As ?_
   refine Aq ?_
   refine Ap Ao Ao (Ar Ao) ?_
   refine Ap Ao Ao (Av CN Ao Ao) ?_
   refine Ap Ao Ao (Ax (i := 1) DC Ao Ao Ao) ?_
   refine Ap Ao Ao (Cx B4 Ao) ?_
   refine Ap Ao Ao (A7 Ao Ao Ao) ?_
   refine Au Ao ?_
   refine A4 Ao (fun c17 => ?_) (fun c17 => ?_)
   ·(try simp only [sd] at c17)
    have hi2 : i < aks.length := by simp [Bt] at c17; omega
    obtain ⟨x, hx⟩ := BM hi2
    obtain ⟨y, hy⟩ := BM (l := bks) (i := i) Am
    refine BD ?_
    refine As ?_
    refine BU ?_
    refine As ?_
    refine CJ (fun k => false) Dq ?_
    refine Ay Ao Ao (fun _ => Av CN Ao Ao) trivial ?_
    refine BK (j := 1) rfl rfl rfl (fun H i hi => Ax (i := i) DC rfl hi rfl) (by repeat' first | exact trivial | refine And.intro ?_ ?_ | exact Or.inl Ai | (refine Or.inr (And.intro ?_ ?_) <;> repeat (first | exact List.Mem.head _ | apply List.Mem.tail))) trivial ?_
    refine Ay Ao Ao (fun _ => Ar Ao) trivial ?_
    refine Ay Ao Ao (fun _ => BJ B4 Ao Ao Am (B9 hx) (Bh _)) trivial ?_
    refine Ay Ao Ao (fun _ => Be BI Ao (Bh _)) trivial ?_
    refine Ay Ao Ao (fun _ => Av CN Ao Ao) trivial ?_
    refine BK (j := 0) rfl rfl rfl (fun H i hi => Ax (i := i) DC rfl hi rfl) (by repeat' first | exact trivial | refine And.intro ?_ ?_ | exact Or.inl Ai | (refine Or.inr (And.intro ?_ ?_) <;> repeat (first | exact List.Mem.head _ | apply List.Mem.tail))) trivial ?_
    refine Ay Ao Ao (fun _ => Ar Ao) trivial ?_
    refine Ay Ao Ao (fun _ => BJ B4 Ao Ao Am (B9 hy) (Bh _)) trivial ?_
    refine Ay Ao Ao (fun _ => Be BI Ao (Bh _)) trivial ?_
    refine Ay Ao Ao (fun _ => Bf Ao Ao (ih x y (by have := DD hx; omega) (Dn hn5 hx)) Ao) trivial ?_
    refine Ay Ao Ao (fun _ => Co Ao) trivial ?_
    refine CA Ao Ai ?_
    refine A4 Ao (fun c18 => ?_) (fun c18 => ?_)
    ·(try simp only [sd] at c18)
     refine As ?_
     refine Aq ?_
     refine Ap Ao Ao (At Ao) ?_
     refine Au Ao ?_
     refine A5 ?_
     refine ⟨Ao, _, [], Bj Ao, List.nil_sublist _, ?_⟩
     exact ⟨pB (Ds (fun h => by simp at h; obtain ⟨_, _, _, _, rfl⟩ := h; rw [hx] at hy; injection hy with hy; subst hy; simp [Dl] at *)).symm, rfl⟩
    ·(try simp only [sd] at c18)
     have hxy : x = y := Hk.1 (by simpa using c18)
     subst hxy
     refine BD ?_
     refine Aq ?_
     refine Ap Ao Ao (Ar Ao) ?_
     refine Ap Ao Ao (CT Ao Ao Am Am) ?_
     refine Ap Ao Ao (At Ao) ?_
     refine Au Ao ?_
     exact ⟨by omega, H6 hC hx hy, Gr ⟨rfl, rfl, rfl, trivial⟩ J⟩
   ·(try simp only [sd] at c17)
    have hi2 : i = aks.length := by simp [Bt] at c17; omega
    refine CL ?_
    refine As ?_
    refine Aq ?_
    refine Ap Ao Ao (At Ao) ?_
    refine Au Ao ?_
    refine A5 ?_
    refine ⟨Ao, _, [], Bj Ao, List.nil_sublist _, ?_⟩
    exact ⟨pB (Dl (by obtain ⟨e1, e2, e3, e4, e5⟩ := h1; rw [e1, e2, e4, Pr e3, JC hC Am Am])).symm, rfl⟩
theorem _root_.Go.Ad {α : Prop} (h : α := by simp_all [arity]) : α := h
theorem VR : ∀ (k : Int), G5 Tryz.prog 132 [.p (I k)] (.p (I (arity k))) := by
 intro k
 refine A3 Tryz.func132 Ao Ww (n := 15) Ao Ao ?_
 refine As ?_
 refine Aq ?_
 refine Ap Ao Ao (At Ao) ?_
 refine Au Ao ?_
 refine As ?_
 refine As ?_
 refine Aq ?_
 refine Ap Ao Ao (Ar Ao) ?_
 refine Au Ao ?_
 refine BU ?_
 refine As ?_
 refine As ?_
 refine Aq ?_
 refine Ap Ao Ao (A7 Ao Ao Ao) ?_
 refine Ap Ao Ao (At Ao) ?_
 refine Au Ao ?_
 refine A4 Ao (fun c1 => ?_) (fun c1 => ?_)
 ·(try simp only [sd] at c1)
  refine BD ?_
  refine A4 Ao (fun c2 => ?_) (fun c2 => ?_)
  ·(try simp only [sd] at c2)
   refine As ?_
   refine Aq ?_
   refine Ap Ao Ao (At Ao) ?_
   refine Au Ao ?_
   refine A5 ?_
   refine ⟨Ao, _, [], Bj Ao, List.nil_sublist _, ?_⟩
   exact ⟨pI Ad, Ao⟩
  ·(try simp only [sd] at c2)
   refine As ?_
   refine As ?_
   refine Aq ?_
   refine Ap Ao Ao (A7 Ao Ao Ao) ?_
   refine Ap Ao Ao (At Ao) ?_
   refine Au Ao ?_
   refine A4 Ao (fun c3 => ?_) (fun c3 => ?_)
   ·(try simp only [sd] at c3)
    refine BD ?_
    refine A4 Ao (fun c4 => ?_) (fun c4 => ?_)
    ·(try simp only [sd] at c4)
     refine As ?_
     refine Aq ?_
     refine Ap Ao Ao (At Ao) ?_
     refine Au Ao ?_
     refine A5 ?_
     refine ⟨Ao, _, [], Bj Ao, List.nil_sublist _, ?_⟩
     exact ⟨pI Ad, Ao⟩
    ·(try simp only [sd] at c4)
     refine As ?_
     refine As ?_
     refine Aq ?_
     refine Ap Ao Ao (A7 Ao Ao Ao) ?_
     refine Ap Ao Ao (At Ao) ?_
     refine Au Ao ?_
     refine A4 Ao (fun c5 => ?_) (fun c5 => ?_)
     ·(try simp only [sd] at c5)
      refine BD ?_
      refine A4 Ao (fun c6 => ?_) (fun c6 => ?_)
      ·(try simp only [sd] at c6)
       refine As ?_
       refine Aq ?_
       refine Ap Ao Ao (At Ao) ?_
       refine Au Ao ?_
       refine A5 ?_
       refine ⟨Ao, _, [], Bj Ao, List.nil_sublist _, ?_⟩
       exact ⟨pI Ad, Ao⟩
      ·(try simp only [sd] at c6)
       refine BD ?_
       refine As ?_
       refine Aq ?_
       refine Ap Ao Ao (At Ao) ?_
       refine Au Ao ?_
       refine A5 ?_
       refine ⟨Ao, _, [], Bj Ao, List.nil_sublist _, ?_⟩
       exact ⟨pI Ad, Ao⟩
     ·(try simp only [sd] at c5)
      refine Aq ?_
      refine Ap Ao Ao (A7 Ao Ao Ao) ?_
      refine Ap Ao Ao (At Ao) ?_
      refine Au Ao ?_
      refine A4 Ao (fun c7 => ?_) (fun c7 => ?_)
      ·(try simp only [sd] at c7)
       refine As ?_
       refine Aq ?_
       refine Ap Ao Ao (At Ao) ?_
       refine Au Ao ?_
       refine A5 ?_
       refine ⟨Ao, _, [], Bj Ao, List.nil_sublist _, ?_⟩
       exact ⟨pI Ad, Ao⟩
      ·(try simp only [sd] at c7)
       refine BD ?_
       refine As ?_
       refine Aq ?_
       refine Ap Ao Ao (At Ao) ?_
       refine Au Ao ?_
       refine A5 ?_
       refine ⟨Ao, _, [], Bj Ao, List.nil_sublist _, ?_⟩
       exact ⟨pI Ad, Ao⟩
   ·(try simp only [sd] at c3)
    refine Aq ?_
    refine Ap Ao Ao (A7 Ao Ao Ao) ?_
    refine Ap Ao Ao (At Ao) ?_
    refine Au Ao ?_
    refine A4 Ao (fun c8 => ?_) (fun c8 => ?_)
    ·(try simp only [sd] at c8)
     refine As ?_
     refine Aq ?_
     refine Ap Ao Ao (At Ao) ?_
     refine Au Ao ?_
     refine A5 ?_
     refine ⟨Ao, _, [], Bj Ao, List.nil_sublist _, ?_⟩
     exact ⟨pI Ad, Ao⟩
    ·(try simp only [sd] at c8)
     refine As ?_
     refine As ?_
     refine Aq ?_
     refine Ap Ao Ao (A7 Ao Ao Ao) ?_
     refine Ap Ao Ao (At Ao) ?_
     refine Au Ao ?_
     refine A4 Ao (fun c9 => ?_) (fun c9 => ?_)
     ·(try simp only [sd] at c9)
      refine BD ?_
      refine A4 Ao (fun c10 => ?_) (fun c10 => ?_)
      ·(try simp only [sd] at c10)
       refine As ?_
       refine Aq ?_
       refine Ap Ao Ao (At Ao) ?_
       refine Au Ao ?_
       refine A5 ?_
       refine ⟨Ao, _, [], Bj Ao, List.nil_sublist _, ?_⟩
       exact ⟨pI Ad, Ao⟩
      ·(try simp only [sd] at c10)
       refine BD ?_
       refine As ?_
       refine Aq ?_
       refine Ap Ao Ao (At Ao) ?_
       refine Au Ao ?_
       refine A5 ?_
       refine ⟨Ao, _, [], Bj Ao, List.nil_sublist _, ?_⟩
       exact ⟨pI Ad, Ao⟩
     ·(try simp only [sd] at c9)
      refine Aq ?_
      refine Ap Ao Ao (A7 Ao Ao Ao) ?_
      refine Ap Ao Ao (At Ao) ?_
      refine Au Ao ?_
      refine A4 Ao (fun c11 => ?_) (fun c11 => ?_)
      ·(try simp only [sd] at c11)
       refine As ?_
       refine Aq ?_
       refine Ap Ao Ao (At Ao) ?_
       refine Au Ao ?_
       refine A5 ?_
       refine ⟨Ao, _, [], Bj Ao, List.nil_sublist _, ?_⟩
       exact ⟨pI Ad, Ao⟩
      ·(try simp only [sd] at c11)
       refine BD ?_
       refine As ?_
       refine Aq ?_
       refine Ap Ao Ao (At Ao) ?_
       refine Au Ao ?_
       refine A5 ?_
       refine ⟨Ao, _, [], Bj Ao, List.nil_sublist _, ?_⟩
       exact ⟨pI Ad, Ao⟩
 ·(try simp only [sd] at c1)
  refine As ?_
  refine Aq ?_
  refine Ap Ao Ao (A7 Ao Ao Ao) ?_
  refine Ap Ao Ao (At Ao) ?_
  refine Au Ao ?_
  refine A4 Ao (fun c12 => ?_) (fun c12 => ?_)
  ·(try simp only [sd] at c12)
   refine BD ?_
   refine A4 Ao (fun c13 => ?_) (fun c13 => ?_)
   ·(try simp only [sd] at c13)
    refine As ?_
    refine Aq ?_
    refine Ap Ao Ao (At Ao) ?_
    refine Au Ao ?_
    refine A5 ?_
    refine ⟨Ao, _, [], Bj Ao, List.nil_sublist _, ?_⟩
    exact ⟨pI Ad, Ao⟩
   ·(try simp only [sd] at c13)
    refine As ?_
    refine As ?_
    refine Aq ?_
    refine Ap Ao Ao (A7 Ao Ao Ao) ?_
    refine Ap Ao Ao (At Ao) ?_
    refine Au Ao ?_
    refine A4 Ao (fun c14 => ?_) (fun c14 => ?_)
    ·(try simp only [sd] at c14)
     refine BD ?_
     refine A4 Ao (fun c15 => ?_) (fun c15 => ?_)
     ·(try simp only [sd] at c15)
      refine As ?_
      refine Aq ?_
      refine Ap Ao Ao (At Ao) ?_
      refine Au Ao ?_
      refine A5 ?_
      refine ⟨Ao, _, [], Bj Ao, List.nil_sublist _, ?_⟩
      exact ⟨pI Ad, Ao⟩
     ·(try simp only [sd] at c15)
      refine As ?_
      refine As ?_
      refine Aq ?_
      refine Ap Ao Ao (A7 Ao Ao Ao) ?_
      refine Ap Ao Ao (At Ao) ?_
      refine Au Ao ?_
      refine A4 Ao (fun c16 => ?_) (fun c16 => ?_)
      ·(try simp only [sd] at c16)
       refine BD ?_
       refine A4 Ao (fun c17 => ?_) (fun c17 => ?_)
       ·(try simp only [sd] at c17)
        refine As ?_
        refine Aq ?_
        refine Ap Ao Ao (At Ao) ?_
        refine Au Ao ?_
        refine A5 ?_
        refine ⟨Ao, _, [], Bj Ao, List.nil_sublist _, ?_⟩
        exact ⟨pI Ad, Ao⟩
       ·(try simp only [sd] at c17)
        refine BD ?_
        refine As ?_
        refine Aq ?_
        refine Ap Ao Ao (At Ao) ?_
        refine Au Ao ?_
        refine A5 ?_
        refine ⟨Ao, _, [], Bj Ao, List.nil_sublist _, ?_⟩
        exact ⟨pI Ad, Ao⟩
      ·(try simp only [sd] at c16)
       refine Aq ?_
       refine Ap Ao Ao (A7 Ao Ao Ao) ?_
       refine Ap Ao Ao (At Ao) ?_
       refine Au Ao ?_
       refine A4 Ao (fun c18 => ?_) (fun c18 => ?_)
       ·(try simp only [sd] at c18)
        refine As ?_
        refine Aq ?_
        refine Ap Ao Ao (At Ao) ?_
        refine Au Ao ?_
        refine A5 ?_
        refine ⟨Ao, _, [], Bj Ao, List.nil_sublist _, ?_⟩
        exact ⟨pI Ad, Ao⟩
       ·(try simp only [sd] at c18)
        refine BD ?_
        refine As ?_
        refine Aq ?_
        refine Ap Ao Ao (At Ao) ?_
        refine Au Ao ?_
        refine A5 ?_
        refine ⟨Ao, _, [], Bj Ao, List.nil_sublist _, ?_⟩
        exact ⟨pI Ad, Ao⟩
    ·(try simp only [sd] at c14)
     refine Aq ?_
     refine Ap Ao Ao (A7 Ao Ao Ao) ?_
     refine Ap Ao Ao (At Ao) ?_
     refine Au Ao ?_
     refine A4 Ao (fun c19 => ?_) (fun c19 => ?_)
     ·(try simp only [sd] at c19)
      refine As ?_
      refine Aq ?_
      refine Ap Ao Ao (At Ao) ?_
      refine Au Ao ?_
      refine A5 ?_
      refine ⟨Ao, _, [], Bj Ao, List.nil_sublist _, ?_⟩
      exact ⟨pI Ad, Ao⟩
     ·(try simp only [sd] at c19)
      refine As ?_
      refine As ?_
      refine Aq ?_
      refine Ap Ao Ao (A7 Ao Ao Ao) ?_
      refine Ap Ao Ao (At Ao) ?_
      refine Au Ao ?_
      refine A4 Ao (fun c20 => ?_) (fun c20 => ?_)
      ·(try simp only [sd] at c20)
       refine BD ?_
       refine A4 Ao (fun c21 => ?_) (fun c21 => ?_)
       ·(try simp only [sd] at c21)
        refine As ?_
        refine Aq ?_
        refine Ap Ao Ao (At Ao) ?_
        refine Au Ao ?_
        refine A5 ?_
        refine ⟨Ao, _, [], Bj Ao, List.nil_sublist _, ?_⟩
        exact ⟨pI Ad, Ao⟩
       ·(try simp only [sd] at c21)
        refine BD ?_
        refine As ?_
        refine Aq ?_
        refine Ap Ao Ao (At Ao) ?_
        refine Au Ao ?_
        refine A5 ?_
        refine ⟨Ao, _, [], Bj Ao, List.nil_sublist _, ?_⟩
        exact ⟨pI Ad, Ao⟩
      ·(try simp only [sd] at c20)
       refine Aq ?_
       refine Ap Ao Ao (A7 Ao Ao Ao) ?_
       refine Ap Ao Ao (At Ao) ?_
       refine Au Ao ?_
       refine A4 Ao (fun c22 => ?_) (fun c22 => ?_)
       ·(try simp only [sd] at c22)
        refine As ?_
        refine Aq ?_
        refine Ap Ao Ao (At Ao) ?_
        refine Au Ao ?_
        refine A5 ?_
        refine ⟨Ao, _, [], Bj Ao, List.nil_sublist _, ?_⟩
        exact ⟨pI Ad, Ao⟩
       ·(try simp only [sd] at c22)
        refine BD ?_
        refine As ?_
        refine Aq ?_
        refine Ap Ao Ao (At Ao) ?_
        refine Au Ao ?_
        refine A5 ?_
        refine ⟨Ao, _, [], Bj Ao, List.nil_sublist _, ?_⟩
        exact ⟨pI Ad, Ao⟩
  ·(try simp only [sd] at c12)
   refine As ?_
   refine Aq ?_
   refine Ap Ao Ao (A7 Ao Ao Ao) ?_
   refine Ap Ao Ao (At Ao) ?_
   refine Au Ao ?_
   refine A4 Ao (fun c23 => ?_) (fun c23 => ?_)
   ·(try simp only [sd] at c23)
    refine BD ?_
    refine A4 Ao (fun c24 => ?_) (fun c24 => ?_)
    ·(try simp only [sd] at c24)
     refine As ?_
     refine Aq ?_
     refine Ap Ao Ao (At Ao) ?_
     refine Au Ao ?_
     refine A5 ?_
     refine ⟨Ao, _, [], Bj Ao, List.nil_sublist _, ?_⟩
     exact ⟨pI Ad, Ao⟩
    ·(try simp only [sd] at c24)
     refine As ?_
     refine As ?_
     refine Aq ?_
     refine Ap Ao Ao (A7 Ao Ao Ao) ?_
     refine Ap Ao Ao (At Ao) ?_
     refine Au Ao ?_
     refine A4 Ao (fun c25 => ?_) (fun c25 => ?_)
     ·(try simp only [sd] at c25)
      refine BD ?_
      refine A4 Ao (fun c26 => ?_) (fun c26 => ?_)
      ·(try simp only [sd] at c26)
       refine As ?_
       refine Aq ?_
       refine Ap Ao Ao (At Ao) ?_
       refine Au Ao ?_
       refine A5 ?_
       refine ⟨Ao, _, [], Bj Ao, List.nil_sublist _, ?_⟩
       exact ⟨pI Ad, Ao⟩
      ·(try simp only [sd] at c26)
       refine As ?_
       refine As ?_
       refine Aq ?_
       refine Ap Ao Ao (A7 Ao Ao Ao) ?_
       refine Ap Ao Ao (At Ao) ?_
       refine Au Ao ?_
       refine A4 Ao (fun c27 => ?_) (fun c27 => ?_)
       ·(try simp only [sd] at c27)
        refine BD ?_
        refine A4 Ao (fun c28 => ?_) (fun c28 => ?_)
        ·(try simp only [sd] at c28)
         refine As ?_
         refine Aq ?_
         refine Ap Ao Ao (At Ao) ?_
         refine Au Ao ?_
         refine A5 ?_
         refine ⟨Ao, _, [], Bj Ao, List.nil_sublist _, ?_⟩
         exact ⟨pI Ad, Ao⟩
        ·(try simp only [sd] at c28)
         refine BD ?_
         refine As ?_
         refine Aq ?_
         refine Ap Ao Ao (At Ao) ?_
         refine Au Ao ?_
         refine A5 ?_
         refine ⟨Ao, _, [], Bj Ao, List.nil_sublist _, ?_⟩
         exact ⟨pI Ad, Ao⟩
       ·(try simp only [sd] at c27)
        refine Aq ?_
        refine Ap Ao Ao (A7 Ao Ao Ao) ?_
        refine Ap Ao Ao (At Ao) ?_
        refine Au Ao ?_
        refine A4 Ao (fun c29 => ?_) (fun c29 => ?_)
        ·(try simp only [sd] at c29)
         refine As ?_
         refine Aq ?_
         refine Ap Ao Ao (At Ao) ?_
         refine Au Ao ?_
         refine A5 ?_
         refine ⟨Ao, _, [], Bj Ao, List.nil_sublist _, ?_⟩
         exact ⟨pI Ad, Ao⟩
        ·(try simp only [sd] at c29)
         refine BD ?_
         refine As ?_
         refine Aq ?_
         refine Ap Ao Ao (At Ao) ?_
         refine Au Ao ?_
         refine A5 ?_
         refine ⟨Ao, _, [], Bj Ao, List.nil_sublist _, ?_⟩
         exact ⟨pI Ad, Ao⟩
     ·(try simp only [sd] at c25)
      refine Aq ?_
      refine Ap Ao Ao (A7 Ao Ao Ao) ?_
      refine Ap Ao Ao (At Ao) ?_
      refine Au Ao ?_
      refine A4 Ao (fun c30 => ?_) (fun c30 => ?_)
      ·(try simp only [sd] at c30)
       refine As ?_
       refine Aq ?_
       refine Ap Ao Ao (At Ao) ?_
       refine Au Ao ?_
       refine A5 ?_
       refine ⟨Ao, _, [], Bj Ao, List.nil_sublist _, ?_⟩
       exact ⟨pI Ad, Ao⟩
      ·(try simp only [sd] at c30)
       refine As ?_
       refine As ?_
       refine Aq ?_
       refine Ap Ao Ao (A7 Ao Ao Ao) ?_
       refine Ap Ao Ao (At Ao) ?_
       refine Au Ao ?_
       refine A4 Ao (fun c31 => ?_) (fun c31 => ?_)
       ·(try simp only [sd] at c31)
        refine BD ?_
        refine A4 Ao (fun c32 => ?_) (fun c32 => ?_)
        ·(try simp only [sd] at c32)
         refine As ?_
         refine Aq ?_
         refine Ap Ao Ao (At Ao) ?_
         refine Au Ao ?_
         refine A5 ?_
         refine ⟨Ao, _, [], Bj Ao, List.nil_sublist _, ?_⟩
         exact ⟨pI Ad, Ao⟩
        ·(try simp only [sd] at c32)
         refine BD ?_
         refine As ?_
         refine Aq ?_
         refine Ap Ao Ao (At Ao) ?_
         refine Au Ao ?_
         refine A5 ?_
         refine ⟨Ao, _, [], Bj Ao, List.nil_sublist _, ?_⟩
         exact ⟨pI Ad, Ao⟩
       ·(try simp only [sd] at c31)
        refine Aq ?_
        refine Ap Ao Ao (A7 Ao Ao Ao) ?_
        refine Ap Ao Ao (At Ao) ?_
        refine Au Ao ?_
        refine A4 Ao (fun c33 => ?_) (fun c33 => ?_)
        ·(try simp only [sd] at c33)
         refine As ?_
         refine Aq ?_
         refine Ap Ao Ao (At Ao) ?_
         refine Au Ao ?_
         refine A5 ?_
         refine ⟨Ao, _, [], Bj Ao, List.nil_sublist _, ?_⟩
         exact ⟨pI Ad, Ao⟩
        ·(try simp only [sd] at c33)
         refine BD ?_
         refine As ?_
         refine Aq ?_
         refine Ap Ao Ao (At Ao) ?_
         refine Au Ao ?_
         refine A5 ?_
         refine ⟨Ao, _, [], Bj Ao, List.nil_sublist _, ?_⟩
         exact ⟨pI Ad, Ao⟩
   ·(try simp only [sd] at c23)
    refine Aq ?_
    refine Ap Ao Ao (A7 Ao Ao Ao) ?_
    refine Ap Ao Ao (At Ao) ?_
    refine Au Ao ?_
    refine A4 Ao (fun c34 => ?_) (fun c34 => ?_)
    ·(try simp only [sd] at c34)
     refine As ?_
     refine Aq ?_
     refine Ap Ao Ao (At Ao) ?_
     refine Au Ao ?_
     refine A5 ?_
     refine ⟨Ao, _, [], Bj Ao, List.nil_sublist _, ?_⟩
     exact ⟨pI Ad, Ao⟩
    ·(try simp only [sd] at c34)
     refine As ?_
     refine As ?_
     refine Aq ?_
     refine Ap Ao Ao (A7 Ao Ao Ao) ?_
     refine Ap Ao Ao (At Ao) ?_
     refine Au Ao ?_
     refine A4 Ao (fun c35 => ?_) (fun c35 => ?_)
     ·(try simp only [sd] at c35)
      refine BD ?_
      refine A4 Ao (fun c36 => ?_) (fun c36 => ?_)
      ·(try simp only [sd] at c36)
       refine As ?_
       refine Aq ?_
       refine Ap Ao Ao (At Ao) ?_
       refine Au Ao ?_
       refine A5 ?_
       refine ⟨Ao, _, [], Bj Ao, List.nil_sublist _, ?_⟩
       exact ⟨pI Ad, Ao⟩
      ·(try simp only [sd] at c36)
       refine As ?_
       refine As ?_
       refine Aq ?_
       refine Ap Ao Ao (A7 Ao Ao Ao) ?_
       refine Ap Ao Ao (At Ao) ?_
       refine Au Ao ?_
       refine A4 Ao (fun c37 => ?_) (fun c37 => ?_)
       ·(try simp only [sd] at c37)
        refine BD ?_
        refine A4 Ao (fun c38 => ?_) (fun c38 => ?_)
        ·(try simp only [sd] at c38)
         refine As ?_
         refine Aq ?_
         refine Ap Ao Ao (At Ao) ?_
         refine Au Ao ?_
         refine A5 ?_
         refine ⟨Ao, _, [], Bj Ao, List.nil_sublist _, ?_⟩
         exact ⟨pI Ad, Ao⟩
        ·(try simp only [sd] at c38)
         refine BD ?_
         refine As ?_
         refine Aq ?_
         refine Ap Ao Ao (At Ao) ?_
         refine Au Ao ?_
         refine A5 ?_
         refine ⟨Ao, _, [], Bj Ao, List.nil_sublist _, ?_⟩
         exact ⟨pI Ad, Ao⟩
       ·(try simp only [sd] at c37)
        refine Aq ?_
        refine Ap Ao Ao (A7 Ao Ao Ao) ?_
        refine Ap Ao Ao (At Ao) ?_
        refine Au Ao ?_
        refine A4 Ao (fun c39 => ?_) (fun c39 => ?_)
        ·(try simp only [sd] at c39)
         refine As ?_
         refine Aq ?_
         refine Ap Ao Ao (At Ao) ?_
         refine Au Ao ?_
         refine A5 ?_
         refine ⟨Ao, _, [], Bj Ao, List.nil_sublist _, ?_⟩
         exact ⟨pI Ad, Ao⟩
        ·(try simp only [sd] at c39)
         refine BD ?_
         refine As ?_
         refine Aq ?_
         refine Ap Ao Ao (At Ao) ?_
         refine Au Ao ?_
         refine A5 ?_
         refine ⟨Ao, _, [], Bj Ao, List.nil_sublist _, ?_⟩
         exact ⟨pI Ad, Ao⟩
     ·(try simp only [sd] at c35)
      refine Aq ?_
      refine Ap Ao Ao (A7 Ao Ao Ao) ?_
      refine Ap Ao Ao (At Ao) ?_
      refine Au Ao ?_
      refine A4 Ao (fun c40 => ?_) (fun c40 => ?_)
      ·(try simp only [sd] at c40)
       refine As ?_
       refine Aq ?_
       refine Ap Ao Ao (At Ao) ?_
       refine Au Ao ?_
       refine A5 ?_
       refine ⟨Ao, _, [], Bj Ao, List.nil_sublist _, ?_⟩
       exact ⟨pI Ad, Ao⟩
      ·(try simp only [sd] at c40)
       refine As ?_
       refine As ?_
       refine Aq ?_
       refine Ap Ao Ao (A7 Ao Ao Ao) ?_
       refine Ap Ao Ao (At Ao) ?_
       refine Au Ao ?_
       refine A4 Ao (fun c41 => ?_) (fun c41 => ?_)
       ·(try simp only [sd] at c41)
        refine BD ?_
        refine A4 Ao (fun c42 => ?_) (fun c42 => ?_)
        ·(try simp only [sd] at c42)
         refine As ?_
         refine Aq ?_
         refine Ap Ao Ao (At Ao) ?_
         refine Au Ao ?_
         refine A5 ?_
         refine ⟨Ao, _, [], Bj Ao, List.nil_sublist _, ?_⟩
         exact ⟨pI Ad, Ao⟩
        ·(try simp only [sd] at c42)
         refine BD ?_
         refine As ?_
         refine Aq ?_
         refine Ap Ao Ao (At Ao) ?_
         refine Au Ao ?_
         refine A5 ?_
         refine ⟨Ao, _, [], Bj Ao, List.nil_sublist _, ?_⟩
         exact ⟨pI Ad, Ao⟩
       ·(try simp only [sd] at c41)
        refine Aq ?_
        refine Ap Ao Ao (A7 Ao Ao Ao) ?_
        refine Ap Ao Ao (At Ao) ?_
        refine Au Ao ?_
        refine A4 Ao (fun c43 => ?_) (fun c43 => ?_)
        ·(try simp only [sd] at c43)
         refine As ?_
         refine Aq ?_
         refine Ap Ao Ao (At Ao) ?_
         refine Au Ao ?_
         refine A5 ?_
         refine ⟨Ao, _, [], Bj Ao, List.nil_sublist _, ?_⟩
         exact ⟨pI Ad, Ao⟩
        ·(try simp only [sd] at c43)
         refine BD ?_
         refine As ?_
         refine Aq ?_
         refine Ap Ao Ao (At Ao) ?_
         refine Au Ao ?_
         refine A5 ?_
         refine ⟨Ao, _, [], Bj Ao, List.nil_sublist _, ?_⟩
         exact ⟨pI Ad, Ao⟩
theorem Qr : ∀ (k i : Int), G5 Tryz.prog 100 [.p (I k), .p (I i)] (.p (I (below k i))) := by
 intro k i
 refine A3 Tryz.func100 Ao YC (n := 27) Ao Ao ?_
 refine As ?_
 refine Aq ?_
 refine Ap Ao Ao (At Ao) ?_
 refine Au Ao ?_
 refine As ?_
 refine As ?_
 refine CB [0, 1, 4] 26 (fun y => y = .p (.bool ((i == 1 && (k == 5 || k == 6 || k == 7)) || (i == 2 && k == 11)))) ?_ ?_
 ·refine Aq ?_
  refine Ap Ao Ao (Ar Ao) ?_
  refine Ap Ao Ao (A7 Ao Ao Ao) ?_
  refine Ap Ao Ao (Ar Ao) ?_
  refine Bm 7 Ao (fun g1 => ?_) (fun g1 => ?_)
  ·(try simp only [sd] at g1)
   refine Az Ao Ao Ao Ao (Ar Ao) ?_
   refine Az Ao Ao Ao Ao (A7 Ao Ao Ao) ?_
   refine Az Ao Ao Ao Ao (Ar Ao) ?_
   refine Bm 10 Ao (fun g2 => ?_) (fun g2 => ?_)
   ·(try simp only [sd] at g2)
    refine A0 Ao Ao Ao Ao Ao ?_
    refine A0 Ao Ao Ao Ao Ao ?_
    refine Az Ao Ao Ao Ao (A2 Ao Ao) ?_
    refine Az Ao Ao Ao Ao (Ar Ao) ?_
    refine Bm 14 Ao (fun g3 => ?_) (fun g3 => ?_)
    ·(try simp only [sd] at g3)
     refine A0 Ao Ao Ao Ao Ao ?_
     refine A0 Ao Ao Ao Ao Ao ?_
     refine Az Ao Ao Ao Ao (A2 Ao Ao) ?_
     refine Ap Ao Ao (A2 Ao Ao) ?_
     refine Ap Ao Ao (Ar Ao) ?_
     refine Bm 19 Ao (fun g4 => ?_) (fun g4 => ?_)
     ·(try simp only [sd] at g4)
      refine A0 Ao Ao Ao Ao Ao ?_
      refine A0 Ao Ao Ao Ao Ao ?_
      refine A0 Ao Ao Ao Ao Ao ?_
      refine Cg Ao Ao Ao Ao ?_
      refine Cg Ao Ao Ao Ao ?_
      refine A0 Ao Ao Ao Ao Ao ?_
      refine Ap Ao Ao (A2 Ao Ao) ?_
      refine Au Ao ?_
      exact ⟨Ao, Ao, AG, pB Ak, ⟨Ao, Ao, Ao, trivial⟩⟩
     ·(try simp only [sd] at g4)
      refine Az Ao Ao Ao Ao (Ar Ao) ?_
      refine Az Ao Ao Ao Ao (A7 Ao Ao Ao) ?_
      refine Az Ao Ao Ao Ao (Ar Ao) ?_
      refine Bm 22 Ao (fun g5 => ?_) (fun g5 => ?_)
      ·(try simp only [sd] at g5)
       refine Az Ao Ao Ao Ao (Ar Ao) ?_
       refine Az Ao Ao Ao Ao (A7 Ao Ao Ao) ?_
       refine Az Ao Ao Ao Ao (A2 Ao Ao) ?_
       refine Ap Ao Ao (A2 Ao Ao) ?_
       refine Au Ao ?_
       exact ⟨Ao, Ao, AG, pB Ak, ⟨Ao, Ao, Ao, trivial⟩⟩
      ·(try simp only [sd] at g5)
       refine A0 Ao Ao Ao Ao Ao ?_
       refine A0 Ao Ao Ao Ao Ao ?_
       refine Az Ao Ao Ao Ao (A2 Ao Ao) ?_
       refine Ap Ao Ao (A2 Ao Ao) ?_
       refine Au Ao ?_
       exact ⟨Ao, Ao, AG, pB Ak, ⟨Ao, Ao, Ao, trivial⟩⟩
    ·(try simp only [sd] at g3)
     refine Az Ao Ao Ao Ao (Ar Ao) ?_
     refine Az Ao Ao Ao Ao (A7 Ao Ao Ao) ?_
     refine Az Ao Ao Ao Ao (A2 Ao Ao) ?_
     refine Ap Ao Ao (A2 Ao Ao) ?_
     refine Ap Ao Ao (Ar Ao) ?_
     refine Bm 19 Ao (fun g6 => ?_) (fun g6 => ?_)
     ·(try simp only [sd] at g6)
      refine A0 Ao Ao Ao Ao Ao ?_
      refine A0 Ao Ao Ao Ao Ao ?_
      refine A0 Ao Ao Ao Ao Ao ?_
      refine Cg Ao Ao Ao Ao ?_
      refine Cg Ao Ao Ao Ao ?_
      refine A0 Ao Ao Ao Ao Ao ?_
      refine Ap Ao Ao (A2 Ao Ao) ?_
      refine Au Ao ?_
      exact ⟨Ao, Ao, AG, pB Ak, ⟨Ao, Ao, Ao, trivial⟩⟩
     ·(try simp only [sd] at g6)
      refine Az Ao Ao Ao Ao (Ar Ao) ?_
      refine Az Ao Ao Ao Ao (A7 Ao Ao Ao) ?_
      refine Az Ao Ao Ao Ao (Ar Ao) ?_
      refine Bm 22 Ao (fun g7 => ?_) (fun g7 => ?_)
      ·(try simp only [sd] at g7)
       refine Az Ao Ao Ao Ao (Ar Ao) ?_
       refine Az Ao Ao Ao Ao (A7 Ao Ao Ao) ?_
       refine Az Ao Ao Ao Ao (A2 Ao Ao) ?_
       refine Ap Ao Ao (A2 Ao Ao) ?_
       refine Au Ao ?_
       exact ⟨Ao, Ao, AG, pB Ak, ⟨Ao, Ao, Ao, trivial⟩⟩
      ·(try simp only [sd] at g7)
       refine A0 Ao Ao Ao Ao Ao ?_
       refine A0 Ao Ao Ao Ao Ao ?_
       refine Az Ao Ao Ao Ao (A2 Ao Ao) ?_
       refine Ap Ao Ao (A2 Ao Ao) ?_
       refine Au Ao ?_
       exact ⟨Ao, Ao, AG, pB Ak, ⟨Ao, Ao, Ao, trivial⟩⟩
   ·(try simp only [sd] at g2)
    refine Az Ao Ao Ao Ao (Ar Ao) ?_
    refine Az Ao Ao Ao Ao (A7 Ao Ao Ao) ?_
    refine Az Ao Ao Ao Ao (A2 Ao Ao) ?_
    refine Az Ao Ao Ao Ao (Ar Ao) ?_
    refine Bm 14 Ao (fun g8 => ?_) (fun g8 => ?_)
    ·(try simp only [sd] at g8)
     refine A0 Ao Ao Ao Ao Ao ?_
     refine A0 Ao Ao Ao Ao Ao ?_
     refine Az Ao Ao Ao Ao (A2 Ao Ao) ?_
     refine Ap Ao Ao (A2 Ao Ao) ?_
     refine Ap Ao Ao (Ar Ao) ?_
     refine Bm 19 Ao (fun g9 => ?_) (fun g9 => ?_)
     ·(try simp only [sd] at g9)
      refine A0 Ao Ao Ao Ao Ao ?_
      refine A0 Ao Ao Ao Ao Ao ?_
      refine A0 Ao Ao Ao Ao Ao ?_
      refine Cg Ao Ao Ao Ao ?_
      refine Cg Ao Ao Ao Ao ?_
      refine A0 Ao Ao Ao Ao Ao ?_
      refine Ap Ao Ao (A2 Ao Ao) ?_
      refine Au Ao ?_
      exact ⟨Ao, Ao, AG, pB Ak, ⟨Ao, Ao, Ao, trivial⟩⟩
     ·(try simp only [sd] at g9)
      refine Az Ao Ao Ao Ao (Ar Ao) ?_
      refine Az Ao Ao Ao Ao (A7 Ao Ao Ao) ?_
      refine Az Ao Ao Ao Ao (Ar Ao) ?_
      refine Bm 22 Ao (fun g10 => ?_) (fun g10 => ?_)
      ·(try simp only [sd] at g10)
       refine Az Ao Ao Ao Ao (Ar Ao) ?_
       refine Az Ao Ao Ao Ao (A7 Ao Ao Ao) ?_
       refine Az Ao Ao Ao Ao (A2 Ao Ao) ?_
       refine Ap Ao Ao (A2 Ao Ao) ?_
       refine Au Ao ?_
       exact ⟨Ao, Ao, AG, pB Ak, ⟨Ao, Ao, Ao, trivial⟩⟩
      ·(try simp only [sd] at g10)
       refine A0 Ao Ao Ao Ao Ao ?_
       refine A0 Ao Ao Ao Ao Ao ?_
       refine Az Ao Ao Ao Ao (A2 Ao Ao) ?_
       refine Ap Ao Ao (A2 Ao Ao) ?_
       refine Au Ao ?_
       exact ⟨Ao, Ao, AG, pB Ak, ⟨Ao, Ao, Ao, trivial⟩⟩
    ·(try simp only [sd] at g8)
     refine Az Ao Ao Ao Ao (Ar Ao) ?_
     refine Az Ao Ao Ao Ao (A7 Ao Ao Ao) ?_
     refine Az Ao Ao Ao Ao (A2 Ao Ao) ?_
     refine Ap Ao Ao (A2 Ao Ao) ?_
     refine Ap Ao Ao (Ar Ao) ?_
     refine Bm 19 Ao (fun g11 => ?_) (fun g11 => ?_)
     ·(try simp only [sd] at g11)
      refine A0 Ao Ao Ao Ao Ao ?_
      refine A0 Ao Ao Ao Ao Ao ?_
      refine A0 Ao Ao Ao Ao Ao ?_
      refine Cg Ao Ao Ao Ao ?_
      refine Cg Ao Ao Ao Ao ?_
      refine A0 Ao Ao Ao Ao Ao ?_
      refine Ap Ao Ao (A2 Ao Ao) ?_
      refine Au Ao ?_
      exact ⟨Ao, Ao, AG, pB Ak, ⟨Ao, Ao, Ao, trivial⟩⟩
     ·(try simp only [sd] at g11)
      refine Az Ao Ao Ao Ao (Ar Ao) ?_
      refine Az Ao Ao Ao Ao (A7 Ao Ao Ao) ?_
      refine Az Ao Ao Ao Ao (Ar Ao) ?_
      refine Bm 22 Ao (fun g12 => ?_) (fun g12 => ?_)
      ·(try simp only [sd] at g12)
       refine Az Ao Ao Ao Ao (Ar Ao) ?_
       refine Az Ao Ao Ao Ao (A7 Ao Ao Ao) ?_
       refine Az Ao Ao Ao Ao (A2 Ao Ao) ?_
       refine Ap Ao Ao (A2 Ao Ao) ?_
       refine Au Ao ?_
       exact ⟨Ao, Ao, AG, pB Ak, ⟨Ao, Ao, Ao, trivial⟩⟩
      ·(try simp only [sd] at g12)
       refine A0 Ao Ao Ao Ao Ao ?_
       refine A0 Ao Ao Ao Ao Ao ?_
       refine Az Ao Ao Ao Ao (A2 Ao Ao) ?_
       refine Ap Ao Ao (A2 Ao Ao) ?_
       refine Au Ao ?_
       exact ⟨Ao, Ao, AG, pB Ak, ⟨Ao, Ao, Ao, trivial⟩⟩
  ·(try simp only [sd] at g1)
   refine A0 Ao Ao Ao Ao Ao ?_
   refine A0 Ao Ao Ao Ao Ao ?_
   refine A0 Ao Ao Ao Ao Ao ?_
   refine Cg Ao Ao Ao Ao ?_
   refine Cg Ao Ao Ao Ao ?_
   refine A0 Ao Ao Ao Ao Ao ?_
   refine A0 Ao Ao Ao Ao Ao ?_
   refine Cg Ao Ao Ao Ao ?_
   refine Cg Ao Ao Ao Ao ?_
   refine A0 Ao Ao Ao Ao Ao ?_
   refine Ap Ao Ao (A2 Ao Ao) ?_
   refine Ap Ao Ao (Ar Ao) ?_
   refine Bm 19 Ao (fun g13 => ?_) (fun g13 => ?_)
   ·(try simp only [sd] at g13)
    refine A0 Ao Ao Ao Ao Ao ?_
    refine A0 Ao Ao Ao Ao Ao ?_
    refine A0 Ao Ao Ao Ao Ao ?_
    refine Cg Ao Ao Ao Ao ?_
    refine Cg Ao Ao Ao Ao ?_
    refine A0 Ao Ao Ao Ao Ao ?_
    refine Ap Ao Ao (A2 Ao Ao) ?_
    refine Au Ao ?_
    exact ⟨Ao, Ao, AG, pB Ak, ⟨Ao, Ao, Ao, trivial⟩⟩
   ·(try simp only [sd] at g13)
    refine Az Ao Ao Ao Ao (Ar Ao) ?_
    refine Az Ao Ao Ao Ao (A7 Ao Ao Ao) ?_
    refine Az Ao Ao Ao Ao (Ar Ao) ?_
    refine Bm 22 Ao (fun g14 => ?_) (fun g14 => ?_)
    ·(try simp only [sd] at g14)
     refine Az Ao Ao Ao Ao (Ar Ao) ?_
     refine Az Ao Ao Ao Ao (A7 Ao Ao Ao) ?_
     refine Az Ao Ao Ao Ao (A2 Ao Ao) ?_
     refine Ap Ao Ao (A2 Ao Ao) ?_
     refine Au Ao ?_
     exact ⟨Ao, Ao, AG, pB Ak, ⟨Ao, Ao, Ao, trivial⟩⟩
    ·(try simp only [sd] at g14)
     refine A0 Ao Ao Ao Ao Ao ?_
     refine A0 Ao Ao Ao Ao Ao ?_
     refine Az Ao Ao Ao Ao (A2 Ao Ao) ?_
     refine Ap Ao Ao (A2 Ao Ao) ?_
     refine Au Ao ?_
     exact ⟨Ao, Ao, AG, pB Ak, ⟨Ao, Ao, Ao, trivial⟩⟩
 rintro _ rfl
 refine A4 Ao (fun c15 => ?_) (fun c15 => ?_)
 ·(try simp only [sd] at c15)
  refine As ?_
  refine Aq ?_
  refine Ap Ao Ao (At Ao) ?_
  refine Au Ao ?_
  refine A5 ?_
  refine ⟨Ao, _, [], Bj Ao, List.nil_sublist _, ?_⟩
  exact ⟨pI (by simp only [below, *]; rfl), Ao⟩
 ·(try simp only [sd] at c15)
  refine BD ?_
  refine As ?_
  refine Aq ?_
  refine Ap Ao Ao (At Ao) ?_
  refine Au Ao ?_
  refine A5 ?_
  refine ⟨Ao, _, [], Bj Ao, List.nil_sublist _, ?_⟩
  exact ⟨pI (by simp only [below, *]; rfl), Ao⟩
theorem UL : ∀ (l : Eg), Ui l → GX Tryz.prog 134 [LV l] Lz := by
 intro l hn
 obtain ⟨lc, lv⟩ := l
 have hb := hn.vars
 simp only [Dp] at hb
 refine A3 Tryz.func134 Ao W7 (n := 67) Ao Ao ?_
 refine As ?_
 refine Aq ?_
 refine BH Ao Ao (Bb Ao) fun b1 => ?_
 refine Ap Ao Ao (At Ao) ?_
 refine Au Ao ?_
 refine As ?_
 refine As ?_
 refine CB [0, 1, 2, 3, 4] 12 Lz ?_ ?_
 ·refine Aq ?_
  refine Ap Ao Ao (Av Dh Ao Ao) ?_
  refine Ap Ao Ao (Ax (i := 0) DQ Ao Ao Ao) ?_
  refine Ap Ao Ao (A7 Ao Ao Ao) ?_
  refine Ap Ao Ao (Ar Ao) ?_
  refine Bm 8 Ao (fun g1 => ?_) (fun g1 => ?_)
  ·(try simp only [sd] at g1)
   refine A0 Ao Ao Ao Ao Ao ?_
   refine A0 Ao Ao Ao Ao Ao ?_
   refine A0 Ao Ao Ao Ao Ao ?_
   refine Ap Ao Ao (A2 Ao Ao) ?_
   refine Au Ao ?_
   exact ⟨Ao, Ao, AG, ⟨_, Ao⟩, ⟨Ao, Ao, Ao, Ao, Ao, trivial⟩⟩
  ·(try simp only [sd] at g1)
   refine Az Ao Ao Ao Ao (Av Dh Ao Ao) ?_
   refine Az Ao Ao Ao Ao (Ax (i := 0) DQ Ao Ao Ao) ?_
   refine Az Ao Ao Ao Ao (A7 Ao Ao Ao) ?_
   refine Ap Ao Ao (A2 Ao Ao) ?_
   refine Au Ao ?_
   exact ⟨Ao, Ao, AG, ⟨_, Ao⟩, ⟨Ao, Ao, Ao, Ao, Ao, trivial⟩⟩
 rintro _ ⟨q1, rfl⟩
 refine A4 Ao (fun c2 => ?_) (fun c2 => ?_)
 ·(try simp only [sd] at c2)
  refine As ?_
  refine Aq ?_
  refine Ap Ao Ao (At Ao) ?_
  refine Au Ao ?_
  refine A5 ?_
  refine ⟨Ao, _, [], Bj Ao, List.nil_sublist _, ⟨⟨_, Ao⟩, Ao⟩⟩
 ·(try simp only [sd] at c2)
  refine BD ?_
  refine As ?_
  refine As ?_
  refine Aq ?_
  refine Ap Ao Ao (At Ao) ?_
  refine Au Ao ?_
  refine BU ?_
  refine HZ (lv.length) (fun _ => True) (fun i => ⟨67, mk [(1, .ptr b1 0), (3, .p (I i))], [.box b1 ((Db ⟨lc, lv⟩).map .p)], []⟩) (0) Am (trivial) ?_ ?_
  ·exact Gr ⟨Ao, Ao, trivial⟩ J
  intro i hi hC
  refine As ?_
  refine As ?_
  refine Aq ?_
  refine Ap Ao Ao (Ar Ao) ?_
  refine Ap Ao Ao (Av Dh Ao Ao) ?_
  refine Ap Ao Ao (Ax (i := 0) Ge Ao Ao Ao) ?_
  refine Ap Ao Ao (Cx FJ Ao) ?_
  refine Ap Ao Ao (A7 Ao Ao Ao) ?_
  refine Au Ao ?_
  refine A4 Ao (fun c3 => ?_) (fun c3 => ?_)
  ·(try simp only [sd] at c3)
   have hi2 : i < lv.length := by simp at c3; omega
   obtain ⟨v, hv⟩ := BM hi2
   obtain ⟨w, hw⟩ := BM (l := lv) (i := i - 1) Am
   refine BD ?_
   refine As ?_
   refine BU ?_
   refine As ?_
   refine Aq ?_
   refine Ap Ao Ao (Av Dh Ao Ao) ?_
   refine Ap Ao Ao (Ax (i := 0) Ge Ao Ao Ao) ?_
   refine Ap Ao Ao (Ar Ao) ?_
   refine Ap Ao Ao (BJ FJ Ao Ao Am (FP hv) (Ao)) ?_
   refine Ap Ao Ao (Be Nh Ao (Ao)) ?_
   refine BH Ao Ao (BG KT Ao) fun b4 => ?_
   refine Ap Ao Ao (Bc (i := 0) Nh Ao Ao Ao Ao Ao Ao) ?_
   refine Au Ao ?_
   refine As ?_
   refine As ?_
   refine CB [0, 1, 2, 3, 4] 42 Lz ?_ ?_
   ·refine Aq ?_
    refine Ap Ao Ao (Av E4 Ao Ao) ?_
    refine Ap Ao Ao (Ax (i := 0) DQ Ao Ao Ao) ?_
    refine Ap Ao Ao (A7 Ao Ao Ao) ?_
    refine Ap Ao Ao (Ar Ao) ?_
    refine Bm 28 Ao (fun g4 => ?_) (fun g4 => ?_)
    ·(try simp only [sd] at g4)
     refine A0 Ao Ao Ao Ao Ao ?_
     refine A0 Ao Ao Ao Ao Ao ?_
     refine A0 Ao Ao Ao Ao Ao ?_
     refine Ap Ao Ao (A2 Ao Ao) ?_
     refine Ap Ao Ao (Ar Ao) ?_
     refine Bm 33 Ao (fun g5 => ?_) (fun g5 => ?_)
     ·(try simp only [sd] at g5)
      refine A0 Ao Ao Ao Ao Ao ?_
      refine A0 Ao Ao Ao Ao Ao ?_
      refine A0 Ao Ao Ao Ao Ao ?_
      refine Ap Ao Ao (A2 Ao Ao) ?_
      refine Ap Ao Ao (Ar Ao) ?_
      refine Bm 38 Ao (fun g6 => ?_) (fun g6 => ?_)
      ·(try simp only [sd] at g6)
       refine A0 Ao Ao Ao Ao Ao ?_
       refine A0 Ao Ao Ao Ao Ao ?_
       refine A0 Ao Ao Ao Ao Ao ?_
       refine Ap Ao Ao (A2 Ao Ao) ?_
       refine Au Ao ?_
       exact ⟨Ao, Ao, AG, ⟨_, Ao⟩, ⟨Ao, Ao, Ao, Ao, Ao, trivial⟩⟩
      ·(try simp only [sd] at g6)
       refine Az Ao Ao Ao Ao (Av E4 Ao Ao) ?_
       refine Az Ao Ao Ao Ao (Ax (i := 0) DQ Ao Ao Ao) ?_
       refine Az Ao Ao Ao Ao (A7 Ao Ao Ao) ?_
       refine Ap Ao Ao (A2 Ao Ao) ?_
       refine Au Ao ?_
       exact ⟨Ao, Ao, AG, ⟨_, Ao⟩, ⟨Ao, Ao, Ao, Ao, Ao, trivial⟩⟩
     ·(try simp only [sd] at g5)
      refine Az Ao Ao Ao Ao (Av E4 Ao Ao) ?_
      refine Az Ao Ao Ao Ao (Ax (i := 0) DQ Ao Ao Ao) ?_
      refine Az Ao Ao Ao Ao (A7 Ao Ao Ao) ?_
      refine Ap Ao Ao (A2 Ao Ao) ?_
      refine Ap Ao Ao (Ar Ao) ?_
      refine Bm 38 Ao (fun g7 => ?_) (fun g7 => ?_)
      ·(try simp only [sd] at g7)
       refine A0 Ao Ao Ao Ao Ao ?_
       refine A0 Ao Ao Ao Ao Ao ?_
       refine A0 Ao Ao Ao Ao Ao ?_
       refine Ap Ao Ao (A2 Ao Ao) ?_
       refine Au Ao ?_
       exact ⟨Ao, Ao, AG, ⟨_, Ao⟩, ⟨Ao, Ao, Ao, Ao, Ao, trivial⟩⟩
      ·(try simp only [sd] at g7)
       refine Az Ao Ao Ao Ao (Av E4 Ao Ao) ?_
       refine Az Ao Ao Ao Ao (Ax (i := 0) DQ Ao Ao Ao) ?_
       refine Az Ao Ao Ao Ao (A7 Ao Ao Ao) ?_
       refine Ap Ao Ao (A2 Ao Ao) ?_
       refine Au Ao ?_
       exact ⟨Ao, Ao, AG, ⟨_, Ao⟩, ⟨Ao, Ao, Ao, Ao, Ao, trivial⟩⟩
    ·(try simp only [sd] at g4)
     refine Az Ao Ao Ao Ao (Av E4 Ao Ao) ?_
     refine Az Ao Ao Ao Ao (Ax (i := 0) DQ Ao Ao Ao) ?_
     refine Az Ao Ao Ao Ao (A7 Ao Ao Ao) ?_
     refine Ap Ao Ao (A2 Ao Ao) ?_
     refine Ap Ao Ao (Ar Ao) ?_
     refine Bm 33 Ao (fun g8 => ?_) (fun g8 => ?_)
     ·(try simp only [sd] at g8)
      refine A0 Ao Ao Ao Ao Ao ?_
      refine A0 Ao Ao Ao Ao Ao ?_
      refine A0 Ao Ao Ao Ao Ao ?_
      refine Ap Ao Ao (A2 Ao Ao) ?_
      refine Ap Ao Ao (Ar Ao) ?_
      refine Bm 38 Ao (fun g9 => ?_) (fun g9 => ?_)
      ·(try simp only [sd] at g9)
       refine A0 Ao Ao Ao Ao Ao ?_
       refine A0 Ao Ao Ao Ao Ao ?_
       refine A0 Ao Ao Ao Ao Ao ?_
       refine Ap Ao Ao (A2 Ao Ao) ?_
       refine Au Ao ?_
       exact ⟨Ao, Ao, AG, ⟨_, Ao⟩, ⟨Ao, Ao, Ao, Ao, Ao, trivial⟩⟩
      ·(try simp only [sd] at g9)
       refine Az Ao Ao Ao Ao (Av E4 Ao Ao) ?_
       refine Az Ao Ao Ao Ao (Ax (i := 0) DQ Ao Ao Ao) ?_
       refine Az Ao Ao Ao Ao (A7 Ao Ao Ao) ?_
       refine Ap Ao Ao (A2 Ao Ao) ?_
       refine Au Ao ?_
       exact ⟨Ao, Ao, AG, ⟨_, Ao⟩, ⟨Ao, Ao, Ao, Ao, Ao, trivial⟩⟩
     ·(try simp only [sd] at g8)
      refine Az Ao Ao Ao Ao (Av E4 Ao Ao) ?_
      refine Az Ao Ao Ao Ao (Ax (i := 0) DQ Ao Ao Ao) ?_
      refine Az Ao Ao Ao Ao (A7 Ao Ao Ao) ?_
      refine Ap Ao Ao (A2 Ao Ao) ?_
      refine Ap Ao Ao (Ar Ao) ?_
      refine Bm 38 Ao (fun g10 => ?_) (fun g10 => ?_)
      ·(try simp only [sd] at g10)
       refine A0 Ao Ao Ao Ao Ao ?_
       refine A0 Ao Ao Ao Ao Ao ?_
       refine A0 Ao Ao Ao Ao Ao ?_
       refine Ap Ao Ao (A2 Ao Ao) ?_
       refine Au Ao ?_
       exact ⟨Ao, Ao, AG, ⟨_, Ao⟩, ⟨Ao, Ao, Ao, Ao, Ao, trivial⟩⟩
      ·(try simp only [sd] at g10)
       refine Az Ao Ao Ao Ao (Av E4 Ao Ao) ?_
       refine Az Ao Ao Ao Ao (Ax (i := 0) DQ Ao Ao Ao) ?_
       refine Az Ao Ao Ao Ao (A7 Ao Ao Ao) ?_
       refine Ap Ao Ao (A2 Ao Ao) ?_
       refine Au Ao ?_
       exact ⟨Ao, Ao, AG, ⟨_, Ao⟩, ⟨Ao, Ao, Ao, Ao, Ao, trivial⟩⟩
   rintro _ ⟨q7, rfl⟩
   refine A4 Ao (fun c11 => ?_) (fun c11 => ?_)
   ·(try simp only [sd] at c11)
    refine As ?_
    refine Aq ?_
    refine Ap Ao Ao (At Ao) ?_
    refine Au Ao ?_
    refine A5 ?_
    refine ⟨Ao, _, [], Bj Ao, List.nil_sublist _, ⟨⟨_, Ao⟩, Ao⟩⟩
   ·(try simp only [sd] at c11)
    refine BD ?_
    refine As ?_
    refine As ?_
    refine CB [0, 1, 2, 3, 4] 56 Lz ?_ ?_
    ·refine CJ (fun k => false) Dq ?_
     refine Ay Ao Ao (fun _ => Ar Ao) trivial ?_
     refine Ay Ao Ao (fun _ => A7 Ao Ao Ao) trivial ?_
     refine Ay Ao Ao (fun _ => Ar Ao) trivial ?_
     refine Jy 45 Ao (fun g12 => ?_) (fun g12 => ?_)
     ·(try simp only [sd] at g12)
      refine CD Ao Ao Ao Ao (fun _ => Av Dh Ao Ao) trivial ?_
      refine DF (i := 1) rfl rfl rfl rfl rfl (fun H i hi => Ax (i := i) Ge rfl hi rfl) (by repeat' first | exact trivial | refine And.intro ?_ ?_ | exact Or.inl Ai | (refine Or.inr (And.intro ?_ ?_) <;> repeat (first | exact List.Mem.head _ | apply List.Mem.tail))) trivial ?_
      refine CD Ao Ao Ao Ao (fun _ => Ar Ao) trivial ?_
      refine CD Ao Ao Ao Ao (fun _ => Ed Ao Ao Am Am) trivial ?_
      refine CD Ao Ao Ao Ao (fun _ => BJ FJ Ao Ao (by simp_all; omega) (by rw [show ((i : Int) - 1).toNat = i - 1 by omega]; exact FP hw) (Ao)) trivial ?_
      refine CD Ao Ao Ao Ao (fun _ => C3 E4 Ao Ao) trivial ?_
      refine CD Ao Ao Ao Ao (fun _ => CG DQ Ao) trivial ?_
      refine CD Ao Ao Ao Ao (fun _ => Av E4 Ao Ao) trivial ?_
      refine DF (i := 0) rfl rfl rfl rfl rfl (fun H i hi => Ax (i := i) DQ rfl hi rfl) (by repeat' first | exact trivial | refine And.intro ?_ ?_ | exact Or.inl Ai | (refine Or.inr (And.intro ?_ ?_) <;> repeat (first | exact List.Mem.head _ | apply List.Mem.tail))) trivial ?_
      refine CD Ao Ao Ao Ao (fun _ => A7 Ao Ao Ao) trivial ?_
      refine Ay Ao Ao (fun _ => A2 Ao Ao) trivial ?_
      refine CA Ao Ai ?_
      exact ⟨Ao, Ao, AG, ⟨_, Ao⟩, ⟨Ao, Ao, Ao, Ao, Ao, trivial⟩⟩
     ·(try simp only [sd] at g12)
      refine CY Ao Ao Ao Ao Ao trivial ?_
      refine CY Ao Ao Ao Ao Ao trivial ?_
      refine CY Ao Ao Ao Ao Ao trivial ?_
      refine CY Ao Ao Ao Ao Ao trivial ?_
      refine CY Ao Ao Ao Ao Ao trivial ?_
      refine CY Ao Ao Ao Ao Ao trivial ?_
      refine CY Ao Ao Ao Ao Ao trivial ?_
      refine CY Ao Ao Ao Ao Ao trivial ?_
      refine CY Ao Ao Ao Ao Ao trivial ?_
      refine CY Ao Ao Ao Ao Ao trivial ?_
      refine Ay Ao Ao (fun _ => A2 Ao Ao) trivial ?_
      refine CA Ao Ai ?_
      exact ⟨Ao, Ao, AG, ⟨_, Ao⟩, ⟨Ao, Ao, Ao, Ao, Ao, trivial⟩⟩
    rintro _ ⟨q9, rfl⟩
    refine A4 Ao (fun c13 => ?_) (fun c13 => ?_)
    ·(try simp only [sd] at c13)
     refine As ?_
     refine Aq ?_
     refine Ap Ao Ao (At Ao) ?_
     refine Au Ao ?_
     refine A5 ?_
     refine ⟨Ao, _, [], Bj Ao, List.nil_sublist _, ⟨⟨_, Ao⟩, Ao⟩⟩
    ·(try simp only [sd] at c13)
     refine BD ?_
     refine As ?_
     refine CB [0, 1, 2, 3, 4] 66 Lz ?_ ?_
     ·refine Aq ?_
      refine Ap Ao Ao (Av Dh Ao Ao) ?_
      refine Ap Ao Ao (Ax (i := 1) DQ Ao Ao Ao) ?_
      refine Ap Ao Ao (A7 Ao Ao Ao) ?_
      refine Ap Ao Ao (Ar Ao) ?_
      refine Bm 60 Ao (fun g14 => ?_) (fun g14 => ?_)
      ·(try simp only [sd] at g14)
       refine Az Ao Ao Ao Ao (Av E4 Ao Ao) ?_
       refine Az Ao Ao Ao Ao (Ax (i := 0) DQ Ao Ao Ao) ?_
       refine Az Ao Ao Ao Ao (Av Dh Ao Ao) ?_
       refine Az Ao Ao Ao Ao (Ax (i := 1) DQ Ao Ao Ao) ?_
       refine Az Ao Ao Ao Ao (A7 Ao Ao Ao) ?_
       refine Ap Ao Ao (A2 Ao Ao) ?_
       refine Au Ao ?_
       exact ⟨Ao, Ao, AG, ⟨_, Ao⟩, ⟨Ao, Ao, Ao, Ao, Ao, trivial⟩⟩
      ·(try simp only [sd] at g14)
       refine A0 Ao Ao Ao Ao Ao ?_
       refine A0 Ao Ao Ao Ao Ao ?_
       refine A0 Ao Ao Ao Ao Ao ?_
       refine A0 Ao Ao Ao Ao Ao ?_
       refine A0 Ao Ao Ao Ao Ao ?_
       refine Ap Ao Ao (A2 Ao Ao) ?_
       refine Au Ao ?_
       exact ⟨Ao, Ao, AG, ⟨_, Ao⟩, ⟨Ao, Ao, Ao, Ao, Ao, trivial⟩⟩
     rintro _ ⟨q11, rfl⟩
     refine A4 Ao (fun c15 => ?_) (fun c15 => ?_)
     ·(try simp only [sd] at c15)
      refine As ?_
      refine Aq ?_
      refine Ap Ao Ao (At Ao) ?_
      refine Au Ao ?_
      refine A5 ?_
      refine ⟨Ao, _, [], Bj Ao, List.nil_sublist _, ⟨⟨_, Ao⟩, Ao⟩⟩
     ·(try simp only [sd] at c15)
      refine BD ?_
      refine Aq ?_
      refine Ap Ao Ao (Ar Ao) ?_
      refine Ap Ao Ao (CT Ao Ao Am Am) ?_
      refine Ap Ao Ao (At Ao) ?_
      refine Au Ao ?_
      exact ⟨by omega, trivial, Gr ⟨rfl, rfl, trivial⟩ J⟩
  ·(try simp only [sd] at c3)
   refine CL ?_
   refine As ?_
   refine Aq ?_
   refine Ap Ao Ao (At Ao) ?_
   refine Au Ao ?_
   refine A5 ?_
   refine ⟨Ao, _, [], Bj Ao, List.nil_sublist _, ⟨⟨_, Ao⟩, Ao⟩⟩
theorem Ux : ∀ (l : Eg) (a b : Int), Ui l → GX Tryz.prog 99 [LV l, .p (I a), .p (I b)] Xp := by
 intro l pa pb hn
 have hn0 := hn
 obtain ⟨lc, lv⟩ := l
 have hb := hn.vars
 simp only [Dp] at hb
 refine A3 Tryz.func99 Ao aH (n := 61) Ao Ao ?_
 refine As ?_
 refine Aq ?_
 refine BH Ao Ao (Bb Ao) fun b3 => ?_
 refine Ap Ao Ao (At Ao) ?_
 refine Au Ao ?_
 refine As ?_
 refine As ?_
 refine Aq ?_
 refine Ap Ao Ao (Aw (i := 0) D1 Ao Ao Ao) ?_
 refine GY Ao Ao (BR Ao Ao (UL _ hn0) (.inl Ao)) ?_
 rintro _ ⟨q, rfl⟩
 refine Ap Ao Ao (Co Ao) ?_
 refine Au Ao ?_
 refine A4 Ao (fun c1 => ?_) (fun c1 => ?_)
 ·(try simp only [sd] at c1)
  refine As ?_
  refine Aq ?_
  refine Ap Ao Ao (At Ao) ?_
  refine Au Ao ?_
  refine A5 ?_
  refine ⟨Ao, _, [], Bj Ao, List.nil_sublist _, ⟨⟨_, Ao⟩, Ao⟩⟩
 ·(try simp only [sd] at c1)
  refine BD ?_
  refine As ?_
  refine As ?_
  refine Aq ?_
  refine Ap Ao Ao (At Ao) ?_
  refine Au Ao ?_
  refine BU ?_
  refine HZ (lv.length) (fun _ => True) (fun i => ⟨61, mk [(1, .p (I pa)), (2, .p (I pb)), (3, .ptr b3 0), (7, .p (I i))], [.box b3 ((Db ⟨lc, lv⟩).map .p)], []⟩) (0) Am (trivial) ?_ ?_
  ·exact Gr ⟨Ao, Ao, Ao, Ao, trivial⟩ J
  intro i hi hC
  refine As ?_
  refine As ?_
  refine Aq ?_
  refine Ap Ao Ao (Ar Ao) ?_
  refine Ap Ao Ao (Av Dh Ao Ao) ?_
  refine Ap Ao Ao (Ax (i := 0) Ge Ao Ao Ao) ?_
  refine Ap Ao Ao (Cx FJ Ao) ?_
  refine Ap Ao Ao (A7 Ao Ao Ao) ?_
  refine Au Ao ?_
  refine A4 Ao (fun c2 => ?_) (fun c2 => ?_)
  ·(try simp only [sd] at c2)
   have hi2 : i < lv.length := by simp at c2; omega
   obtain ⟨v, hv⟩ := BM hi2
   refine BD ?_
   refine As ?_
   refine BU ?_
   refine As ?_
   refine CB [0, 1, 2, 3, 6, 7, 8] 35 Lz ?_ ?_
   ·refine Aq ?_
    refine Ap Ao Ao (Av Dh Ao Ao) ?_
    refine Ap Ao Ao (Ax (i := 0) Ge Ao Ao Ao) ?_
    refine Ap Ao Ao (Ar Ao) ?_
    refine Ap Ao Ao (BJ FJ Ao Ao Am (FP hv) (Ao)) ?_
    refine Ap Ao Ao (C3 E4 Ao Ao) ?_
    refine Ap Ao Ao (CG DQ Ao) ?_
    refine Ap Ao Ao (A7 Ao Ao Ao) ?_
    refine Ap Ao Ao (Ar Ao) ?_
    refine Bm 26 Ao (fun g3 => ?_) (fun g3 => ?_)
    ·(try simp only [sd] at g3)
     refine Az Ao Ao Ao Ao (Av Dh Ao Ao) ?_
     refine Az Ao Ao Ao Ao (Ax (i := 0) Ge Ao Ao Ao) ?_
     refine Az Ao Ao Ao Ao (Ar Ao) ?_
     refine Az Ao Ao Ao Ao (BJ FJ Ao Ao Am (FP hv) (Ao)) ?_
     refine Az Ao Ao Ao Ao (C3 E4 Ao Ao) ?_
     refine Az Ao Ao Ao Ao (CG DQ Ao) ?_
     refine Az Ao Ao Ao Ao (Ar Ao) ?_
     refine Az Ao Ao Ao Ao (A7 Ao Ao Ao) ?_
     refine Ap Ao Ao (A2 Ao Ao) ?_
     refine Au Ao ?_
     exact ⟨Ao, Ao, AG, ⟨_, Ao⟩, ⟨Ao, Ao, Ao, Ao, Ao, Ao, Ao, trivial⟩⟩
    ·(try simp only [sd] at g3)
     refine A0 Ao Ao Ao Ao Ao ?_
     refine A0 Ao Ao Ao Ao Ao ?_
     refine A0 Ao Ao Ao Ao Ao ?_
     refine A0 Ao Ao Ao Ao Ao ?_
     refine A0 Ao Ao Ao Ao Ao ?_
     refine A0 Ao Ao Ao Ao Ao ?_
     refine A0 Ao Ao Ao Ao Ao ?_
     refine A0 Ao Ao Ao Ao Ao ?_
     refine Ap Ao Ao (A2 Ao Ao) ?_
     refine Au Ao ?_
     exact ⟨Ao, Ao, AG, ⟨_, Ao⟩, ⟨Ao, Ao, Ao, Ao, Ao, Ao, Ao, trivial⟩⟩
   rintro _ ⟨q6, rfl⟩
   refine A4 Ao (fun c4 => ?_) (fun c4 => ?_)
   ·(try simp only [sd] at c4)
    refine As ?_
    refine Aq ?_
    refine Ap Ao Ao (At Ao) ?_
    refine Au Ao ?_
    refine A5 ?_
    refine ⟨Ao, _, [], Bj Ao, List.nil_sublist _, ⟨⟨_, Ao⟩, Ao⟩⟩
   ·(try simp only [sd] at c4)
    refine BD ?_
    refine Aq ?_
    refine Ap Ao Ao (Ar Ao) ?_
    refine Ap Ao Ao (CT Ao Ao Am Am) ?_
    refine Ap Ao Ao (At Ao) ?_
    refine Au Ao ?_
    exact ⟨by omega, trivial, Gr ⟨rfl, rfl, rfl, rfl, trivial⟩ J⟩
  ·(try simp only [sd] at c2)
   refine CL ?_
   refine As ?_
   refine As ?_
   refine Aq ?_
   refine Ap Ao Ao (At Ao) ?_
   refine Au Ao ?_
   refine BU ?_
   refine HZ (lv.length) (fun _ => True) (fun i => ⟨61, mk [(1, .p (I pa)), (2, .p (I pb)), (3, .ptr b3 0), (8, .p (I i))], [.box b3 ((Db ⟨lc, lv⟩).map .p)], []⟩) (0) Am (trivial) ?_ ?_
   ·exact Gr ⟨Ao, Ao, Ao, Ao, trivial⟩ J
   intro i hi hC
   refine As ?_
   refine As ?_
   refine Aq ?_
   refine Ap Ao Ao (Ar Ao) ?_
   refine Ap Ao Ao (Av Dh Ao Ao) ?_
   refine Ap Ao Ao (Ax (i := 0) Ge Ao Ao Ao) ?_
   refine Ap Ao Ao (Cx FJ Ao) ?_
   refine Ap Ao Ao (A7 Ao Ao Ao) ?_
   refine Au Ao ?_
   refine A4 Ao (fun c5 => ?_) (fun c5 => ?_)
   ·(try simp only [sd] at c5)
    have hi2 : i < lv.length := by simp at c5; omega
    obtain ⟨v, hv⟩ := BM hi2
    refine BD ?_
    refine As ?_
    refine BU ?_
    refine As ?_
    refine CB [0, 1, 2, 3, 6, 7, 8] 60 Lz ?_ ?_
    ·refine Aq ?_
     refine Ap Ao Ao (Av Dh Ao Ao) ?_
     refine Ap Ao Ao (Ax (i := 0) Ge Ao Ao Ao) ?_
     refine Ap Ao Ao (Ar Ao) ?_
     refine Ap Ao Ao (BJ FJ Ao Ao Am (FP hv) (Ao)) ?_
     refine Ap Ao Ao (C3 E4 Ao Ao) ?_
     refine Ap Ao Ao (CG DQ Ao) ?_
     refine Ap Ao Ao (A7 Ao Ao Ao) ?_
     refine Ap Ao Ao (Ar Ao) ?_
     refine Bm 50 Ao (fun g6 => ?_) (fun g6 => ?_)
     ·(try simp only [sd] at g6)
      refine Az Ao Ao Ao Ao (Av Dh Ao Ao) ?_
      refine Az Ao Ao Ao Ao (Ax (i := 0) Ge Ao Ao Ao) ?_
      refine Az Ao Ao Ao Ao (Ar Ao) ?_
      refine Az Ao Ao Ao Ao (BJ FJ Ao Ao Am (FP hv) (Ao)) ?_
      refine Az Ao Ao Ao Ao (C3 E4 Ao Ao) ?_
      refine Az Ao Ao Ao Ao (CG DQ Ao) ?_
      refine Az Ao Ao Ao Ao (PO Ao Ao) ?_
      refine Az Ao Ao Ao Ao (Ar Ao) ?_
      refine Az Ao Ao Ao Ao (A7 Ao Ao Ao) ?_
      refine Ap Ao Ao (A2 Ao Ao) ?_
      refine Au Ao ?_
      exact ⟨Ao, Ao, AG, ⟨_, Ao⟩, ⟨Ao, Ao, Ao, Ao, Ao, Ao, Ao, trivial⟩⟩
     ·(try simp only [sd] at g6)
      refine A0 Ao Ao Ao Ao Ao ?_
      refine A0 Ao Ao Ao Ao Ao ?_
      refine A0 Ao Ao Ao Ao Ao ?_
      refine A0 Ao Ao Ao Ao Ao ?_
      refine A0 Ao Ao Ao Ao Ao ?_
      refine A0 Ao Ao Ao Ao Ao ?_
      refine A0 Ao Ao Ao Ao Ao ?_
      refine A0 Ao Ao Ao Ao Ao ?_
      refine A0 Ao Ao Ao Ao Ao ?_
      refine Ap Ao Ao (A2 Ao Ao) ?_
      refine Au Ao ?_
      exact ⟨Ao, Ao, AG, ⟨_, Ao⟩, ⟨Ao, Ao, Ao, Ao, Ao, Ao, Ao, trivial⟩⟩
    rintro _ ⟨q11, rfl⟩
    refine A4 Ao (fun c7 => ?_) (fun c7 => ?_)
    ·(try simp only [sd] at c7)
     refine As ?_
     refine Aq ?_
     refine Ap Ao Ao (At Ao) ?_
     refine Au Ao ?_
     refine A5 ?_
     refine ⟨Ao, _, [], Bj Ao, List.nil_sublist _, ⟨⟨_, Ao⟩, Ao⟩⟩
    ·(try simp only [sd] at c7)
     refine BD ?_
     refine Aq ?_
     refine Ap Ao Ao (Ar Ao) ?_
     refine Ap Ao Ao (CT Ao Ao Am Am) ?_
     refine Ap Ao Ao (At Ao) ?_
     refine Au Ao ?_
     exact ⟨by omega, trivial, Gr ⟨rfl, rfl, rfl, rfl, trivial⟩ J⟩
   ·(try simp only [sd] at c5)
    refine CL ?_
    refine As ?_
    refine Aq ?_
    refine Ap Ao Ao (At Ao) ?_
    refine Au Ao ?_
    refine A5 ?_
    refine ⟨Ao, _, [], Bj Ao, List.nil_sublist _, ⟨⟨_, Ao⟩, Ao⟩⟩
theorem _root_.Go.AX {α : Prop} (h : α := by first | rfl | simp [Bh]) : α := h
theorem _root_.Go.AT {α : Prop} (h : α := by first | omega | (simp only; omega)) : α := h
theorem _root_.Go.Af {α : Prop} (h : α := by simp [Bh]) : α := h
theorem _root_.Go.AN {α : Prop} (h : α := by first | trivial | omega | simp | (simp; omega)) : α := h
theorem Kf : ∀ (f : Tm) (xs : List Tm), (xs.length < Dp) → G5 Tryz.prog 60 [.agg ((Ba f).map .p), .p (.lst (BO xs))] (.agg ((Ba (apply f xs)).map .p)) := by
 intro f xs h1
 simp only [Dp] at h1
 refine A3 Tryz.func60 Ao Y9 (n := 20) Ao Ao ?_
 refine As ?_
 refine Aq ?_
 refine BH Ao Ao (Bb Ao) fun b2 => ?_
 refine BH Ao Ao (BG B0 Ao) fun b4 => ?_
 refine Au Ao ?_
 refine As ?_
 refine As ?_
 refine Aq ?_
 refine Ap Ao Ao (At Ao) ?_
 refine Au Ao ?_
 refine BU ?_
 refine CS (α := Nat) (fun i => ⟨20, mk [(1, .p (.lst (BO xs))), (2, .ptr b2 0), (4, .ptr b4 0), (5, .p (I (i : Int)))], [.box b4 [.p (I 0), .p (I 0), .p (.str ⟨#[]⟩), .p (.nils), .p (.nils)], .box b2 ((Ba (apply f (xs.take i))).map .p)], []⟩) (fun i => xs.length - i) (fun i => i ≤ xs.length) 0 AN ?_ ?_
 ·exact B8 ⟨we Ao, we Ao, we Ao, we Ao, trivial⟩ (leH (is := [0, 1]) Ao (wl (oe Ao) (wl (oe Ao) (ET))))
 rintro i hC
 try simp only at hC
 have hi := hC
 refine As ?_
 refine As ?_
 refine Aq ?_
 refine Ap Ao Ao (Ar Ao) ?_
 refine Ap Ao Ao (Ar Ao) ?_
 refine Ap Ao Ao (Bx B4 Ao (Bt _)) ?_
 refine Ap Ao Ao (A7 Ao Ao Ao) ?_
 refine Au Ao ?_
 refine A4 Ao (fun c => ?_) (fun c => ?_)
 ·(try simp only [sd, se] at c)
  refine BD ?_
  refine As ?_
  refine BU ?_
  refine CJ (fun k => false) Dq ?_
  refine BK (j := 1) rfl rfl rfl (fun H i hi => Aw (i := i) BI rfl hi Af) (by repeat' first | exact trivial | refine And.intro ?_ ?_ | ((refine Or.inr (And.intro ?_ ?_) <;> repeat (first | exact List.Mem.head _ | apply List.Mem.tail)); done) | exact Or.inl Ai) trivial ?_
  refine Ay Ao Ao (fun _ => Ar Ao) trivial ?_
  refine Ay Ao Ao (fun _ => Ar Ao) trivial ?_
  obtain ⟨x, hx⟩ := BM (l := xs) (i := i) Am
  refine Ay Ao Ao (fun _ => BJ B4 Ao Ao Am (B9 hx) (Bh _)) trivial ?_
  refine Ay Ao Ao (fun _ => Be BI Ao (Bh _)) trivial ?_
  generalize hz : (apply f (xs.take i)) = z
  obtain ⟨zk, zi, zn, zl, zs⟩ := z
  obtain ⟨xk, xi, xn, xl, xs1⟩ := x
  refine Ay Ao Ao (fun _ => CE B4 B0 Ao Ao Ao Ao Ao) trivial ?_
  refine Ay Ao Ao (fun _ => Bi CN B0 Ao) trivial ?_
  refine Cd rfl rfl (Bc (i := 1) BI rfl rfl rfl rfl rfl rfl) (by repeat' first | exact trivial | refine And.intro ?_ ?_ | ((refine Or.inr (And.intro ?_ ?_) <;> repeat (first | exact List.Mem.head _ | apply List.Mem.tail)); done) | exact Or.inl Ai) trivial ?_
  refine CA Ao Ai ?_
  refine Aq ?_
  refine Ap Ao Ao (Ar Ao) ?_
  refine Ap Ao Ao (CT Ao Ao Am Am) ?_
  refine Ap Ao Ao (At Ao) ?_
  refine Au Ao ?_
  refine ⟨(i + 1), AT, by omega, B8 ⟨we rfl, we rfl, we rfl, we rfl, trivial⟩ (leH (is := [0, 1]) rfl (wl (oe rfl) (wl (on (by rw [MM hx, hz]; rfl)) (ET))))⟩
 ·(try simp only [sd, se] at c)
  refine CL ?_
  refine As ?_
  refine Aq ?_
  refine Ap Ao Ao (Aw (i := 1) BI Ao Ao Af) ?_
  refine Ap Ao Ao (A1 (i := 0) BI Ao Ao Ao Af AX (B3 _)) ?_
  refine Au Ao ?_
  refine A5 ?_
  refine ⟨Ao, _, _, ⟨_, _, Ao, (Bg (i := 0) BI Ao Ao Af), Ao⟩, (List.nil_sublist _), ?_⟩
  all_goals exact ⟨by show (.agg ((Ba (apply f (xs.take i))).map .p) : AV) = _; rw [show i = xs.length by omega, List.take_length], rfl⟩
theorem _root_.Go.Ab {α : Prop} (h : α := by simp only [Dp]; omega) : α := h
theorem _root_.Go.AF {α : Prop} (h : α := by first | rfl | (refine pB ?_; simp_all; done) | (refine pB ?_; simp_all <;> (intros; omega))) : α := h
theorem Rq : ∀ (n : Nat) (t : Tm), (size t ≤ n) → (n < Dp) → Bl Tryz.prog 49 [.agg ((Ba t).map .p)] [] (WG (fun v => .tup [.agg ((Ba ((Bo t).1)).map .p), v]) 5 (BO ((Bo t).2))) := by
 intro n
 induction n with
 | zero => intro t h; cases t; simp [size] at h
 | succ n ih =>
  intro t h1 h2
  simp only [Dp] at h2
  refine A3 Tryz.func49 Ao ZA (n := 32) Ao Ao ?_
  refine As ?_
  refine Aq ?_
  refine BH Ao Ao (Bb Ao) fun b1 => ?_
  refine BH Ao Ao (BG B0 Ao) fun b2 => ?_
  refine Ap Ao Ao (At Ao) ?_
  refine Au Ao ?_
  refine As ?_
  refine As ?_
  obtain ⟨tk, ti, tn, tl, ts⟩ := t
  simp only [size] at h1
  refine CB [1, 2] 14 (fun y => y = .p (.bool (((tk : Int) != (4 : Int)) || (((ts.length : Nat) : Int) != (2 : Int))))) ?_ ?_
  ·refine Aq ?_
   refine Ap Ao Ao (Av CN Ao Ao) ?_
   refine Ap Ao Ao (Ax (i := 1) DQ Ao Ao Ao) ?_
   refine Ap Ao Ao (A7 Ao Ao Ao) ?_
   refine Ap Ao Ao (Ar Ao) ?_
   refine Bm 9 Ao (fun g => ?_) (fun g => ?_)
   ·(try simp only [sd, se] at g)
    refine A0 Ao Ao Ao Ao Ao ?_
    refine A0 Ao Ao Ao Ao Ao ?_
    refine A0 Ao Ao Ao Ao Ao ?_
    refine A0 Ao Ao Ao Ao Ao ?_
    refine Ap Ao Ao (A2 Ao Ao) ?_
    refine Au Ao ?_
    exact ⟨Ao, Ao, AG, AF, ⟨Ao, Ao, trivial⟩⟩
   ·(try simp only [sd, se] at g)
    refine Az Ao Ao Ao Ao (Av CN Ao Ao) ?_
    refine Az Ao Ao Ao Ao (Ax (i := 1) DC Ao Ao Ao) ?_
    refine Az Ao Ao Ao Ao (Bx B4 Ao (Bt _)) ?_
    refine Az Ao Ao Ao Ao (A7 Ao Ao Ao) ?_
    refine Ap Ao Ao (A2 Ao Ao) ?_
    refine Au Ao ?_
    exact ⟨Ao, Ao, AG, AF, ⟨Ao, Ao, trivial⟩⟩
  rintro _ rfl
  refine A4 Ao (fun c => ?_) (fun c => ?_)
  ·(try simp only [sd, se] at c)
   refine As ?_
   refine Aq ?_
   refine Ap Ao Ao (Aw (i := 1) BI Ao Ao Ao) ?_
   refine Ap Ao Ao (Bc (i := 0) BI Ao Ao Ao Ao Ao Ao) ?_
   refine Ap Ao Ao (At Ao) ?_
   refine Au Ao ?_
   refine B5 (Kz (t := 3) (sz := 5) Ao) ?_
   refine A5 ?_
   refine ⟨Ao, _, _, ⟨_, _, Ao, (Bg (i := 1) BI Ao Ao Ao), ⟨_, _, Ao, Ao, Ao⟩⟩, (Cf (is := [0]) Ao), ?_⟩
   rw [Mf c]
   all_goals exact ⟨_, _, rfl, rfl⟩
  ·(try simp only [sd, se] at c)
   refine BD ?_
   refine As ?_
   refine Aq ?_
   refine Ap Ao Ao (Av CN Ao Ao) ?_
   refine Ap Ao Ao (Ax (i := 1) DC Ao Ao Ao) ?_
   obtain ⟨x, hx⟩ := BM (l := ts) (i := 0) Am
   refine Ap Ao Ao (BJ B4 Ao Ao Am (B9 hx) (Bh _)) ?_
   refine Ap Ao Ao (Be BI Ao (Bh _)) ?_
   refine VU Ao Ao Ao (.inl ⟨Ao, Ao, Ao⟩) (ih x (by have := DD hx; omega) Ab) (.inl Ao) fun o cp => ?_
   refine Ap Ao Ao (Ar Ao) ?_
   refine Ap Ao Ao (BY Ao Ao) ?_
   refine Ap Ao Ao (BY Ao Ao) ?_
   refine BH Ao Ao (BG B0 Ao) fun b4 => ?_
   refine Ap Ao Ao (A1 (i := 0) BI Ao Ao Ao Af AX (B3 _)) ?_
   refine Ap Ao Ao (At Ao) ?_
   refine Au Ao ?_
   refine As ?_
   refine CJ (fun k => Nat.beq k 7) Dq ?_
   refine BK (j := 0) rfl rfl rfl (fun H i hi => Aw (i := i) BI rfl hi Af) (by repeat' first | exact trivial | refine And.intro ?_ ?_ | ((refine Or.inr (And.intro ?_ ?_) <;> repeat (first | exact List.Mem.head _ | apply List.Mem.tail)); done) | exact Or.inl Ai) trivial ?_
   refine Ay Ao Ao (fun _ => Ar Ao) trivial ?_
   refine Ay Ao Ao (fun _ => Av CN Ao Ao) trivial ?_
   refine BK (j := 3) rfl rfl rfl (fun H i hi => Ax (i := i) DC rfl hi rfl) (by repeat' first | exact trivial | refine And.intro ?_ ?_ | ((refine Or.inr (And.intro ?_ ?_) <;> repeat (first | exact List.Mem.head _ | apply List.Mem.tail)); done) | exact Or.inl Ai) trivial ?_
   obtain ⟨x1, hx1⟩ := BM (l := ts) (i := 1) Am
   refine Ay Ao Ao (fun _ => BJ B4 Ao Ao Am (B9 hx1) (Bh _)) trivial ?_
   refine Ay Ao Ao (fun _ => Be BI Ao (Bh _)) trivial ?_
   obtain ⟨x1k, x1i, x1n, x1l, x1s⟩ := x1
   refine Ay Ao Ao (fun _ => CE B4 B0 Ao Ao Ao Ao Ao) trivial ?_
   refine K4 [] rfl rfl (En (i := 1) (rows' := BO [(.mk x1k x1i x1n x1l x1s : Tm)]) B4 B4 B0 rfl rfl rfl rfl rfl rfl (B6 _) (by have := RX x; have := DD hx; simp [Bt]; omega) (NJ ((Bo x).2) [(.mk x1k x1i x1n x1l x1s : Tm)])) Ai fun o1 cp1 => ⟨(by repeat' first | exact trivial | refine And.intro ?_ ?_ | ((refine Or.inr (And.intro ?_ ?_) <;> repeat (first | exact List.Mem.head _ | apply List.Mem.tail)); done) | exact Or.inl Ai), trivial, ?_⟩
   refine Cd rfl rfl (A1 (i := 2) BI rfl rfl rfl Af AX (B3 _)) (by repeat' first | exact trivial | refine And.intro ?_ ?_ | ((refine Or.inr (And.intro ?_ ?_) <;> repeat (first | exact List.Mem.head _ | apply List.Mem.tail)); done) | exact Or.inl Ai) trivial ?_
   refine Ay Ao Ao (fun _ => At Ao) trivial ?_
   refine CA Ao Ai ?_
   refine A5 ?_
   refine ⟨Ao, _, _, ⟨_, _, Ao, (Bg (i := 2) BI Ao Ao Af), ⟨_, _, Ao, Ao, Ao⟩⟩, (Cf (is := [1]) Ao), ?_⟩
   rw [NT c hx hx1]
   all_goals exact ⟨_, _, rfl, rfl⟩
theorem SK : ∀ (n : Nat) (t : Tm), size t ≤ n → n < Dp → G5 Tryz.prog 49 [TV t] (.tup [TV (Bo t).1, Yq (Bo t).2]) :=
 fun n t h1 h2 => Pv (pre := [_]) (post := []) (Rq n t h1 h2) (fun x _ => Pl x)
theorem UY : ∀ (k : Int) (xs : List Tm) (t : Tm), (xs.length < Dp) → G5 Tryz.prog 103 [.p (I k), .p (.lst (BO xs)), .agg ((Ba t).map .p)] (.agg ((Ba (G3 k xs t)).map .p)) := by
 intro k xs t h1
 simp only [Dp] at h1
 refine A3 Tryz.func103 Ao YO (n := 24) Ao Ao ?_
 refine As ?_
 refine Aq ?_
 refine BH Ao Ao (Bb Ao) fun b5 => ?_
 refine BH Ao Ao (BG B0 Ao) fun b6 => ?_
 refine Au Ao ?_
 refine As ?_
 refine As ?_
 refine Aq ?_
 refine Ap Ao Ao (Ar Ao) ?_
 refine Ap Ao Ao (Bx B4 Ao (Bt _)) ?_
 refine Ap Ao Ao (Ed Ao Ao Am Am) ?_
 refine Ap Ao Ao (At Ao) ?_
 refine Au Ao ?_
 refine BU ?_
 refine CS (α := Nat) (fun m => ⟨24, mk [(0, .p (I k)), (1, .p (.lst (BO xs))), (5, .ptr b5 0), (6, .ptr b6 0), (7, .p (I ((m : Int) - 1)))], [.box b6 [.p (I 0), .p (I 0), .p (.str ⟨#[]⟩), .p (.nils), .p (.nils)], .box b5 ((Ba (G3 k (xs.drop m) t)).map .p)], []⟩) (fun m => m) (fun m => m ≤ xs.length) xs.length AN ?_ ?_
 ·exact B8 ⟨we Ao, we Ao, we Ao, we Ao, we Ao, trivial⟩ (leH (is := [0, 1]) Ao (wl (oe Ao) (wl (ob (by simp [G3])) (ET))))
 rintro m hC
 try simp only at hC
 refine As ?_
 refine As ?_
 refine Aq ?_
 refine Ap Ao Ao (Ar Ao) ?_
 refine Ap Ao Ao (A7 Ao Ao Ao) ?_
 refine Au Ao ?_
 refine A4 Ao (fun c => ?_) (fun c => ?_)
 ·(try simp only [sd, se] at c)
  refine BD ?_
  refine As ?_
  refine BU ?_
  refine CJ (fun k => false) Dq ?_
  refine Ay Ao Ao (fun _ => Ar Ao) trivial ?_
  refine Ay Ao Ao (fun _ => Ar Ao) trivial ?_
  refine Ay Ao Ao (fun _ => Ar Ao) trivial ?_
  obtain ⟨x, hx⟩ := BM (l := xs) (i := ((m : Int) - 1 : Int).toNat) Am
  refine Ay Ao Ao (fun _ => BJ B4 Ao Ao Am (B9 hx) (Bh _)) trivial ?_
  refine Ay Ao Ao (fun _ => Be BI Ao (Bh _)) trivial ?_
  refine BK (j := 1) rfl rfl rfl (fun H i hi => Aw (i := i) BI rfl hi Af) (by repeat' first | exact trivial | refine And.intro ?_ ?_ | ((refine Or.inr (And.intro ?_ ?_) <;> repeat (first | exact List.Mem.head _ | apply List.Mem.tail)); done) | exact Or.inl Ai) trivial ?_
  obtain ⟨xk, xi, xn, xl, xs1⟩ := x
  generalize hz : G3 k (xs.drop m) t = z
  obtain ⟨zk, zi, zn, zl, zs⟩ := z
  refine Ay Ao Ao (fun _ => CE B4 B0 Ao Ao Ao Ao Ao) trivial ?_
  refine Ay Ao Ao (fun _ => Bi CN B0 Ao) trivial ?_
  refine Cd rfl rfl (Bc (i := 1) BI rfl rfl rfl rfl rfl rfl) (by repeat' first | exact trivial | refine And.intro ?_ ?_ | ((refine Or.inr (And.intro ?_ ?_) <;> repeat (first | exact List.Mem.head _ | apply List.Mem.tail)); done) | exact Or.inl Ai) trivial ?_
  refine CA Ao Ai ?_
  refine Aq ?_
  refine Ap Ao Ao (Ar Ao) ?_
  refine Ap Ao Ao (Ed Ao Ao Am Am) ?_
  refine Ap Ao Ao (At Ao) ?_
  refine Au Ao ?_
  refine ⟨(m - 1), AT, by first | trivial | omega | (simp only; omega) | (simp; omega), B8 ⟨we rfl, we rfl, we rfl, we rfl, we (pI Am), trivial⟩ (leH (is := [0, 1]) rfl (wl (oe rfl) (wl (on (by rw [PW hx Am, hz]; rfl)) (ET))))⟩
 ·(try simp only [sd, se] at c)
  refine CL ?_
  refine As ?_
  refine Aq ?_
  refine Ap Ao Ao (Aw (i := 1) BI Ao Ao Af) ?_
  refine Ap Ao Ao (A1 (i := 0) BI Ao Ao Ao Af AX (B3 _)) ?_
  refine Au Ao ?_
  refine A5 ?_
  refine ⟨Ao, _, _, ⟨_, _, Ao, (Bg (i := 0) BI Ao Ao Af), Ao⟩, (List.nil_sublist _), ?_⟩
  all_goals exact ⟨by show (.agg ((Ba (G3 k (xs.drop m) t)).map .p) : AV) = _; rw [show m = 0 by omega]; rfl, rfl⟩
theorem Wh : ∀ (xs : List Tm) (t : Tm), (xs.length < Dp) → G5 Tryz.prog 63 [.p (.lst (BO xs)), .agg ((Ba t).map .p)] (.agg ((Ba (G3 6 xs t)).map .p)) := by
 intro xs t h1
 refine A3 Tryz.func63 Ao Zx (n := 8) Ao Ao ?_
 refine As ?_
 refine Aq ?_
 refine BH Ao Ao (Bb Ao) fun b3 => ?_
 refine BH Ao Ao (BG B0 Ao) fun b4 => ?_
 refine Au Ao ?_
 refine As ?_
 refine Aq ?_
 refine Ap Ao Ao (Ar Ao) ?_
 refine Ap Ao Ao (Aw (i := 1) BI Ao Ao Af) ?_
 refine Ap Ao Ao (Bf Ao Ao (UY 6 xs t (by first | assumption | omega)) Ao) ?_
 refine Ap Ao Ao (A1 (i := 0) BI Ao Ao Ao Af AX (B3 _)) ?_
 refine Au Ao ?_
 refine A5 ?_
 refine ⟨Ao, _, _, ⟨_, _, Ao, (Bg (i := 0) BI Ao Ao Af), Ao⟩, (List.nil_sublist _), ?_⟩
 all_goals exact ⟨rfl, rfl⟩
theorem T7 : ∀ (n : Nat) (t : Tm), (size t ≤ n) → (Nd t) → G5 Tryz.prog 18 [.agg ((Ba t).map .p)] (.p (I (Jb t))) := by
 intro n
 induction n with
 | zero => intro t h; cases t; simp [size] at h
 | succ n ih =>
  intro t h1 h2
  obtain ⟨tk, ti, tn, tl, ts⟩ := t
  simp only [size] at h1
  simp only [Nd, Dp] at h2
  refine A3 Tryz.func18 Ao Zv (n := 21) Ao Ao ?_
  refine As ?_
  refine Aq ?_
  refine BH Ao Ao (Bb Ao) fun b1 => ?_
  refine Ap Ao Ao (At Ao) ?_
  refine Au Ao ?_
  refine As ?_
  refine Aq ?_
  refine Ap Ao Ao (At Ao) ?_
  refine Au Ao ?_
  refine As ?_
  refine As ?_
  refine Aq ?_
  refine Ap Ao Ao (At Ao) ?_
  refine Au Ao ?_
  refine BU ?_
  refine CS (α := Nat × Int) (fun (i, m) => ⟨21, mk [(1, .ptr b1 0), (3, .p (I m)), (4, .p (I (i : Int)))], [.box b1 [.p (I tk), .p (I ti), .p (.str tn), .p (.lst (List.map Db tl)), .p (.lst (BO ts))]], []⟩) (fun (i, m) => ts.length - i) (fun (i, m) => i ≤ ts.length ∧ (L2 m (ts.drop i) = L2 1 ts)) ⟨0, 1⟩ An ?_ ?_
  ·exact B8 ⟨we Ao, we Ao, we Ao, trivial⟩ (leH (is := [0]) Ao (wl (oe Ao) (ET)))
  rintro ⟨i, m⟩ hC
  try simp only at hC
  obtain ⟨hi, hC⟩ := hC
  refine As ?_
  refine As ?_
  refine Aq ?_
  refine Ap Ao Ao (Ar Ao) ?_
  refine Ap Ao Ao (Av CN Ao Ao) ?_
  refine Ap Ao Ao (Ax (i := 0) DC Ao Ao Ao) ?_
  refine Ap Ao Ao (Bx B4 Ao (Bt _)) ?_
  refine Ap Ao Ao (A7 Ao Ao Ao) ?_
  refine Au Ao ?_
  refine A4 Ao (fun c => ?_) (fun c => ?_)
  ·(try simp only [sd, se] at c)
   refine BD ?_
   refine As ?_
   refine BU ?_
   refine Aq ?_
   refine Ap Ao Ao (Ar Ao) ?_
   refine Ap Ao Ao (Av CN Ao Ao) ?_
   refine Ap Ao Ao (Ax (i := 0) DC Ao Ao Ao) ?_
   refine Ap Ao Ao (Ar Ao) ?_
   obtain ⟨x, hx⟩ := BM (l := ts) (i := i) Am
   refine Ap Ao Ao (BJ B4 Ao Ao Am (B9 hx) (Bh _)) ?_
   refine Ap Ao Ao (Be BI Ao (Bh _)) ?_
   refine Ap Ao Ao (Bf Ao Ao (ih x (by have := DD hx; omega) (Dn h2.2.2.2.2.1 hx)) Ao) ?_
   refine Ap Ao Ao (D8 Ao Ao) ?_
   refine Ap Ao Ao (At Ao) ?_
   refine Au Ao ?_
   refine Aq ?_
   refine Ap Ao Ao (Ar Ao) ?_
   refine Ap Ao Ao (CT Ao Ao Am Am) ?_
   refine Ap Ao Ao (At Ao) ?_
   refine Au Ao ?_
   refine ⟨⟨i + 1, wr (m + Jb x)⟩, AT, ⟨by omega, by rw [← hC, Dc hx]; rfl⟩, B8 ⟨we rfl, we rfl, we rfl, trivial⟩ (leH (is := [0]) rfl (wl (oe rfl) (ET)))⟩
  ·(try simp only [sd, se] at c)
   refine CL ?_
   refine As ?_
   refine Aq ?_
   refine Ap Ao Ao (Ar Ao) ?_
   refine Ap Ao Ao (At Ao) ?_
   refine Au Ao ?_
   refine A5 ?_
   refine ⟨Ao, _, _, ⟨_, _, Ao, Ao, Ao⟩, (List.nil_sublist _), ?_⟩
   all_goals exact ⟨pI (by rw [show Jb (.mk tk ti tn tl ts) = L2 1 ts from rfl, ← hC, show i = ts.length by omega, List.drop_length]; rfl), rfl⟩
theorem Tb : ∀ (n : Nat) (t : Tm), (size t ≤ n) → (Nd t) → G5 Tryz.prog 53 [.agg ((Ba t).map .p)] (.p (I (HG t))) := by
 intro n
 induction n with
 | zero => intro t h; cases t; simp [size] at h
 | succ n ih =>
  intro t h1 h2
  obtain ⟨tk, ti, tn, tl, ts⟩ := t
  simp only [size] at h1
  simp only [Nd, Dp] at h2
  refine A3 Tryz.func53 Ao Y0 (n := 22) Ao Ao ?_
  refine As ?_
  refine Aq ?_
  refine BH Ao Ao (Bb Ao) fun b1 => ?_
  refine Ap Ao Ao (At Ao) ?_
  refine Au Ao ?_
  refine As ?_
  refine Aq ?_
  refine Ap Ao Ao (At Ao) ?_
  refine Au Ao ?_
  refine As ?_
  refine As ?_
  refine Aq ?_
  refine Ap Ao Ao (At Ao) ?_
  refine Au Ao ?_
  refine BU ?_
  refine CS (α := Nat × Int) (fun (i, m) => ⟨22, mk [(1, .ptr b1 0), (3, .p (I m)), (4, .p (I (i : Int)))], [.box b1 [.p (I tk), .p (I ti), .p (.str tn), .p (.lst (List.map Db tl)), .p (.lst (BO ts))]], []⟩) (fun (i, m) => ts.length - i) (fun (i, m) => i ≤ ts.length ∧ (KQ m (ts.drop i) = KQ 0 ts)) ⟨0, 0⟩ An ?_ ?_
  ·exact B8 ⟨we Ao, we Ao, we Ao, trivial⟩ (leH (is := [0]) Ao (wl (oe Ao) (ET)))
  rintro ⟨i, m⟩ hC
  try simp only at hC
  obtain ⟨hi, hC⟩ := hC
  refine As ?_
  refine As ?_
  refine Aq ?_
  refine Ap Ao Ao (Ar Ao) ?_
  refine Ap Ao Ao (Av CN Ao Ao) ?_
  refine Ap Ao Ao (Ax (i := 0) DC Ao Ao Ao) ?_
  refine Ap Ao Ao (Bx B4 Ao (Bt _)) ?_
  refine Ap Ao Ao (A7 Ao Ao Ao) ?_
  refine Au Ao ?_
  refine A4 Ao (fun c => ?_) (fun c => ?_)
  ·(try simp only [sd, se] at c)
   refine BD ?_
   refine As ?_
   refine BU ?_
   refine Aq ?_
   refine Ap Ao Ao (Ar Ao) ?_
   refine Ap Ao Ao (Av CN Ao Ao) ?_
   refine Ap Ao Ao (Ax (i := 0) DC Ao Ao Ao) ?_
   refine Ap Ao Ao (Ar Ao) ?_
   obtain ⟨x, hx⟩ := BM (l := ts) (i := i) Am
   refine Ap Ao Ao (BJ B4 Ao Ao Am (B9 hx) (Bh _)) ?_
   refine Ap Ao Ao (Be BI Ao (Bh _)) ?_
   refine Ap Ao Ao (Bf Ao Ao (ih x (by have := DD hx; omega) (Dn h2.2.2.2.2.1 hx)) Ao) ?_
   refine Ap Ao Ao (I3 Ao Ao) ?_
   refine Ap Ao Ao (At Ao) ?_
   refine Au Ao ?_
   refine Aq ?_
   refine Ap Ao Ao (Ar Ao) ?_
   refine Ap Ao Ao (CT Ao Ao Am Am) ?_
   refine Ap Ao Ao (At Ao) ?_
   refine Au Ao ?_
   refine ⟨⟨i + 1, max m (HG x)⟩, AT, ⟨by omega, by rw [← hC, Dc hx]; rfl⟩, B8 ⟨we rfl, we rfl, we rfl, trivial⟩ (leH (is := [0]) rfl (wl (oe rfl) (ET)))⟩
  ·(try simp only [sd, se] at c)
   refine CL ?_
   refine As ?_
   refine Aq ?_
   refine Ap Ao Ao (Ar Ao) ?_
   refine Ap Ao Ao (D8 Ao Ao) ?_
   refine Ap Ao Ao (At Ao) ?_
   refine Au Ao ?_
   refine A5 ?_
   refine ⟨Ao, _, _, ⟨_, _, Ao, Ao, Ao⟩, (List.nil_sublist _), ?_⟩
   all_goals exact ⟨pI (by rw [show HG (.mk tk ti tn tl ts) = wr (KQ 0 ts + 1) from rfl, ← hC, show i = ts.length by omega, List.drop_length]; rfl), rfl⟩
theorem Sv : ∀ (b : Nat) (er nd e : Int), Bl Tryz.prog 147 [.ptr b 0, .p (I e)] [.box b [.p (I er), .p (I nd)]] (DG (.tup []) [.box b [.p (I (Me er e)), .p (I nd)]]) := by
 intro b er nd e
 refine A3 Tryz.func147 Ao XX (n := 13) Ao Ao ?_
 refine As ?_
 refine Aq ?_
 refine Ap Ao Ao (Ar Ao) ?_
 refine Ap Ao Ao (BT Ao) ?_
 refine Ap Ao Ao (Av O8 Ao Ao) ?_
 refine Ap Ao Ao (Ax (i := 0) DQ Ao Ao Ao) ?_
 refine Ap Ao Ao (A7 Ao Ao Ao) ?_
 refine Au Ao ?_
 refine A4 Ao (fun c => ?_) (fun c => ?_)
 ·(try simp only [sd, se] at c)
  refine Aq ?_
  refine Ap Ao Ao (Ar Ao) ?_
  refine Ap Ao Ao (Ar Ao) ?_
  refine Ap Ao Ao (BT Ao) ?_
  refine Ap Ao Ao (Av O8 Ao Ao) ?_
  refine Ap Ao Ao (Bc (i := 0) DQ Ao Ao Ao Ao Ao Ao) ?_
  refine Au Ao ?_
  refine ⟨Ao, _, _, Ao, (Cf (is := [0]) Ao), ?_⟩
  refine ⟨Ao, ?_⟩
  show ([.box b [.p (I e), .p (I nd)]] : List BL) = _
  simp [Me, c]
 ·(try simp only [sd, se] at c)
  refine BD ?_
  refine ⟨Ao, _, _, Ao, (Cf (is := [0]) Ao), ?_⟩
  refine ⟨Ao, ?_⟩
  show ([.box b [.p (I er), .p (I nd)]] : List BL) = _
  simp [Me, c]
theorem _root_.Go.Al {α : Prop} (h : α := by decide) : α := h
theorem QF : ∀ (b : Nat) (er nd i : Int), Bl Tryz.prog 148 [.ptr b 0, .p (I i)] [.box b [.p (I er), .p (I nd)]] (DG (.agg ((Ba (Ra i)).map .p)) [.box b [.p (I (RP er i)), .p (I nd)]]) := by
 intro b er nd i
 refine A3 Tryz.func148 Ao Ye (n := 11) Ao Ao ?_
 refine As ?_
 refine Aq ?_
 refine BH Ao Ao (BG B0 Ao) fun b4 => ?_
 refine Au Ao ?_
 refine As ?_
 refine As ?_
 refine Aq ?_
 refine Ap Ao Ao (Ar Ao) ?_
 refine Ap Ao Ao (A7 Ao Ao Ao) ?_
 refine Au Ao ?_
 refine A4 Ao (fun c => ?_) (fun c => ?_)
 ·(try simp only [sd, se] at c)
  refine Aq ?_
  refine Ap Ao Ao (Ar Ao) ?_
  refine Ap Ao Ao (CH [1] Ao (.inl ⟨Ao, Ao, Ao⟩) (Sv b er nd 24) ⟨_, _, Ao, Ao, Ao⟩ Al Ao (.inl Ao)) ?_
  refine Au Ao ?_
  refine As ?_
  refine Aq ?_
  refine Ap Ao Ao (Ar Ao) ?_
  refine Ap Ao Ao (Bi CN B0 Ao) ?_
  refine Ap Ao Ao (Bc (i := 0) BI Ao Ao Ao Ao Ao Ao) ?_
  refine Au Ao ?_
  refine B5 (Cw (i := 0) Ao) ?_
  refine A5 ?_
  refine ⟨Ao, _, _, ⟨_, _, Ao, (Bg (i := 0) BI Ao Ao Ao), Ao⟩, (Cf (is := [1]) Ao), ?_⟩
  refine ⟨Ao, ?_⟩
  show ([.box b [.p (I (Me er 24)), .p (I nd)]] : List BL) = _
  simp [RP, show i > 65535 by omega]
 ·(try simp only [sd, se] at c)
  refine BD ?_
  refine As ?_
  refine Aq ?_
  refine Ap Ao Ao (Ar Ao) ?_
  refine Ap Ao Ao (Bi CN B0 Ao) ?_
  refine Ap Ao Ao (Bc (i := 0) BI Ao Ao Ao Ao Ao Ao) ?_
  refine Au Ao ?_
  refine B5 (Cw (i := 0) Ao) ?_
  refine A5 ?_
  refine ⟨Ao, _, _, ⟨_, _, Ao, (Bg (i := 0) BI Ao Ao Ao), Ao⟩, (Cf (is := [1]) Ao), ?_⟩
  refine ⟨Ao, ?_⟩
  show ([.box b [.p (I er), .p (I nd)]] : List BL) = _
  simp [RP, show ¬ i > 65535 by omega]
theorem _root_.Go.AB {α : Prop} (h : α := by simp only [Bt, List.length_map, List.length_cons, List.length_nil, List.nil_append, List.length_append]; omega) : α := h
theorem UD : ∀ (n : Nat) (t : Tm) (b : Nat) (by' fr d er nd : Int), (size t ≤ n) → (Nd t) → (0 ≤ d) → (d + n < 2 ^ 62) → Bl Tryz.prog 135 [.ptr b 0, .agg ((Ba t).map .p), .p (I by'), .p (I fr), .p (I d)] [.box b [.p (I er), .p (I nd)]] (DG (.agg ((Ba ((Ec by' fr d er t).1)).map .p)) [.box b [.p (I ((Ec by' fr d er t).2)), .p (I nd)]]) := by
 intro n
 induction n with
 | zero => intro t b by' fr d er nd h; cases t; simp [size] at h
 | succ n ih =>
  intro t b by' fr d er nd h1 h2 h3 h4
  obtain ⟨tk, ti, tn, tl, ts⟩ := t
  simp only [size] at h1
  simp only [Nd, Dp] at h2
  refine A3 Tryz.func135 Ao YG (n := 68) Ao Ao ?_
  refine As ?_
  refine Aq ?_
  refine BH Ao Ao (Bb Ao) fun b6 => ?_
  refine BH Ao Ao (BG B0 Ao) fun b10 => ?_
  refine Au Ao ?_
  refine As ?_
  refine As ?_
  refine Aq ?_
  refine Ap Ao Ao (Av CN Ao Ao) ?_
  refine Ap Ao Ao (Ax (i := 1) DQ Ao Ao Ao) ?_
  refine Ap Ao Ao (A7 Ao Ao Ao) ?_
  refine Au Ao ?_
  refine A4 Ao (fun c => ?_) (fun c => ?_)
  ·(try simp only [sd, se] at c)
   refine As ?_
   refine As ?_
   refine Aq ?_
   refine Ap Ao Ao (Av CN Ao Ao) ?_
   refine Ap Ao Ao (Ax (i := 1) DQ Ao Ao Ao) ?_
   refine Ap Ao Ao (Ar Ao) ?_
   refine Ap Ao Ao (Ar Ao) ?_
   refine Ap Ao Ao (D8 Ao Ao) ?_
   refine Ap Ao Ao (A7 Ao Ao Ao) ?_
   refine Au Ao ?_
   refine A4 Ao (fun c1 => ?_) (fun c1 => ?_)
   ·(try simp only [sd, se] at c1)
    refine As ?_
    refine Aq ?_
    refine Ap Ao Ao (Aw (i := 1) BI Ao Ao Ao) ?_
    refine Ap Ao Ao (Bc (i := 0) BI Ao Ao Ao Ao Ao Ao) ?_
    refine Au Ao ?_
    refine A5 ?_
    refine ⟨Ao, _, _, ⟨_, _, Ao, (Bg (i := 0) BI Ao Ao Ao), Ao⟩, (Cf (is := [2]) Ao), ?_⟩
    refine ⟨by show (.agg [.p (I tk), .p (I ti), .p (.str tn), .p (.lst (List.map Db tl)), .p (.lst (BO ts))] : AV) = _; rw [Ec, if_pos c, if_pos c1]; rfl, ?_⟩
    show ([.box b [.p (I er), .p (I nd)]] : List BL) = _
    rw [Ec, if_pos c, if_pos c1]
   ·(try simp only [sd, se] at c1)
    refine BD ?_
    refine As ?_
    refine As ?_
    refine Aq ?_
    refine Ap Ao Ao (Av CN Ao Ao) ?_
    refine Ap Ao Ao (Ax (i := 1) DQ Ao Ao Ao) ?_
    refine Ap Ao Ao (Ar Ao) ?_
    refine Ap Ao Ao (D8 Ao Ao) ?_
    refine Ap Ao Ao (Ar Ao) ?_
    refine Ap Ao Ao (Ar Ao) ?_
    refine Ap Ao Ao (D8 Ao Ao) ?_
    refine Ap Ao Ao (A7 Ao Ao Ao) ?_
    refine Au Ao ?_
    refine A4 Ao (fun c2 => ?_) (fun c2 => ?_)
    ·(try simp only [sd, se] at c2)
     refine As ?_
     refine Aq ?_
     refine Ap Ao Ao (Ar Ao) ?_
     refine Ap Ao Ao (CH [2] Ao (.inl ⟨Ao, Ao, Ao⟩) (Sv b er nd 24) ⟨_, _, Ao, Ao, Ao⟩ Al Ao (.inl Ao)) ?_
     refine Au Ao ?_
     refine As ?_
     refine Aq ?_
     refine Ap Ao Ao (Aw (i := 1) BI Ao Ao Ao) ?_
     refine Ap Ao Ao (Bc (i := 0) BI Ao Ao Ao Ao Ao Ao) ?_
     refine Au Ao ?_
     refine A5 ?_
     refine ⟨Ao, _, _, ⟨_, _, Ao, (Bg (i := 0) BI Ao Ao Ao), Ao⟩, (Cf (is := [2]) Ao), ?_⟩
     refine ⟨by show (.agg [.p (I tk), .p (I ti), .p (.str tn), .p (.lst (List.map Db tl)), .p (.lst (BO ts))] : AV) = _; rw [Ec, if_pos c, if_neg Am, if_pos c2]; rfl, ?_⟩
     show ([.box b [.p (I (Me er 24)), .p (I nd)]] : List BL) = _
     rw [Ec, if_pos c, if_neg Am, if_pos c2]
    ·(try simp only [sd, se] at c2)
     refine BD ?_
     refine As ?_
     refine Aq ?_
     refine Ap Ao Ao (Ar Ao) ?_
     refine Ap Ao Ao (Av CN Ao Ao) ?_
     refine Ap Ao Ao (Ax (i := 1) DQ Ao Ao Ao) ?_
     refine Ap Ao Ao (Ar Ao) ?_
     refine Ap Ao Ao (D8 Ao Ao) ?_
     refine Ap Ao Ao (CH [2] Ao (.inl ⟨Ao, Ao, Ao⟩) (QF b er nd (wr ((ti : Int) + (by' : Int)))) ⟨_, _, rfl, rfl, rfl⟩ Al rfl (.inl rfl)) ?_
     refine Ap Ao Ao (A1 (i := 0) BI Ao Ao Ao Af AX (B3 _)) ?_
     refine Au Ao ?_
     refine A5 ?_
     refine ⟨Ao, _, _, ⟨_, _, Ao, (Bg (i := 0) BI Ao Ao Af), Ao⟩, (Cf (is := [2]) Ao), ?_⟩
     refine ⟨by show (.agg ((Ba (Ra (wr ((ti : Int) + (by' : Int))))).map .p) : AV) = _; rw [Ec, if_pos c, if_neg Am, if_neg Am], ?_⟩
     show ([.box b [.p (I (RP er (wr ((ti : Int) + (by' : Int))))), .p (I nd)]] : List BL) = _
     rw [Ec, if_pos c, if_neg Am, if_neg Am]
  ·(try simp only [sd, se] at c)
   refine BD ?_
   refine As ?_
   refine Aq ?_
   refine Ap Ao Ao (At Ao) ?_
   refine Au Ao ?_
   refine As ?_
   refine As ?_
   refine Aq ?_
   refine Ap Ao Ao (At Ao) ?_
   refine Au Ao ?_
   refine BU ?_
   refine B5 (Kz (t := 11) (sz := 5) Ao) ?_
   refine CS (α := Nat × List Tm × Int × Option Nat × Nat) (fun (i, ys, e, o, cp) => ⟨68, mk [(0, .ptr b 0), (2, .p (I by')), (3, .p (I fr)), (4, .p (I d)), (6, .ptr b6 0), (10, .ptr b10 0), (11, .vs o (BO ys).length cp), (12, .p (I (i : Int)))], [.vec o 5 (BO ys) cp, .box b10 [.p (I 0), .p (I 0), .p (.str ⟨#[]⟩), .p (.nils), .p (.nils)], .box b6 [.p (I tk), .p (I ti), .p (.str tn), .p (.lst (List.map Db tl)), .p (.lst (BO ts))], .box b [.p (I e), .p (I nd)]], []⟩) (fun (i, ys, e, o, cp) => ts.length - i) (fun (i, ys, e, o, cp) => i ≤ ts.length ∧ (ys.length = i ∧ (ys ++ (Fy by' fr tk d i e (ts.drop i)).1, (Fy by' fr tk d i e (ts.drop i)).2) = Fy by' fr tk d 0 er ts)) ⟨0, [], er, none, 0⟩ An ?_ ?_
   ·exact B8 ⟨we Ao, we Ao, we Ao, we Ao, we Ao, we Ao, we Ao, we Ao, trivial⟩ (leH (is := [0, 1, 2, 3]) Ao (wl (oe Ao) (wl (oe Ao) (wl (oe Ao) (wl (oe Ao) (ET))))))
   rintro ⟨i, ys, e, o, cp⟩ hC
   try simp only at hC
   obtain ⟨hi, hl, hC⟩ := hC
   refine As ?_
   refine As ?_
   refine Aq ?_
   refine Ap Ao Ao (Ar Ao) ?_
   refine Ap Ao Ao (Av CN Ao Ao) ?_
   refine Ap Ao Ao (Ax (i := 2) DC Ao Ao Ao) ?_
   refine Ap Ao Ao (Bx B4 Ao (Bt _)) ?_
   refine Ap Ao Ao (A7 Ao Ao Ao) ?_
   refine Au Ao ?_
   refine A4 Ao (fun c1 => ?_) (fun c1 => ?_)
   ·(try simp only [sd, se] at c1)
    refine BD ?_
    refine As ?_
    refine BU ?_
    refine CJ (fun k => Nat.beq k 17) Dq ?_
    refine Ay Ao Ao (fun _ => Ar Ao) trivial ?_
    refine Ay Ao Ao (fun _ => Ar Ao) trivial ?_
    refine Ay Ao Ao (fun _ => Av CN Ao Ao) trivial ?_
    refine BK (j := 2) rfl rfl rfl (fun H i hi => Ax (i := i) DC rfl hi rfl) (by repeat' first | exact trivial | refine And.intro ?_ ?_ | ((refine Or.inr (And.intro ?_ ?_) <;> repeat (first | exact List.Mem.head _ | apply List.Mem.tail)); done) | exact Or.inl Ai) trivial ?_
    refine Ay Ao Ao (fun _ => Ar Ao) trivial ?_
    obtain ⟨x, hx⟩ := BM (l := ts) (i := i) Am
    refine Ay Ao Ao (fun _ => BJ B4 Ao Ao Am (B9 hx) (Bh _)) trivial ?_
    refine Ay Ao Ao (fun _ => Be BI Ao (Bh _)) trivial ?_
    refine Ay Ao Ao (fun _ => Ar Ao) trivial ?_
    refine Ay Ao Ao (fun _ => Ar Ao) trivial ?_
    refine Ay Ao Ao (fun _ => Ar Ao) trivial ?_
    refine Ay Ao Ao (fun _ => Av CN Ao Ao) trivial ?_
    refine BK (j := 2) rfl rfl rfl (fun H i hi => Ax (i := i) DQ rfl hi rfl) (by repeat' first | exact trivial | refine And.intro ?_ ?_ | ((refine Or.inr (And.intro ?_ ?_) <;> repeat (first | exact List.Mem.head _ | apply List.Mem.tail)); done) | exact Or.inl Ai) trivial ?_
    refine Ay Ao Ao (fun _ => Ar Ao) trivial ?_
    refine Ay Ao Ao (fun _ => Bf Ao Ao (Qr tk (i : Int)) Ao) trivial ?_
    refine Ay Ao Ao (fun _ => CT Ao Ao (by have := Dj tk i; omega) (by have := Dj tk i; omega)) trivial ?_
    refine Cd rfl rfl (CH [3] rfl (.inl ⟨rfl, rfl, rfl⟩) (ih x b by' fr ((d : Int) + (below tk (i : Int) : Int)) e nd (by have := DD hx; omega) (Dn h2.2.2.2.2.1 hx) (by have := Dj tk i; omega) (by have := Dj tk i; omega)) ⟨_, _, rfl, rfl, rfl⟩ Al rfl (.inl rfl)) (by repeat' first | exact trivial | refine And.intro ?_ ?_ | ((refine Or.inr (And.intro ?_ ?_) <;> repeat (first | exact List.Mem.head _ | apply List.Mem.tail)); done) | exact Or.inl Ai) trivial ?_
    generalize hz : (Ec by' fr ((d : Int) + (below tk (i : Int) : Int)) e x).1 = z
    obtain ⟨zk, zi, zn, zl, zs⟩ := z
    refine Ay Ao Ao (fun _ => CE B4 B0 Ao Ao Ao Ao Ao) trivial ?_
    refine K4 [] rfl rfl (En (i := 0) (rows' := BO [(.mk zk zi zn zl zs : Tm)]) B4 B4 B0 rfl rfl rfl rfl rfl rfl (B6 _) AB (NJ ys [(.mk zk zi zn zl zs : Tm)])) Ai fun o1 cp1 => ⟨(by repeat' first | exact trivial | refine And.intro ?_ ?_ | ((refine Or.inr (And.intro ?_ ?_) <;> repeat (first | exact List.Mem.head _ | apply List.Mem.tail)); done) | exact Or.inl Ai), trivial, ?_⟩
    refine Ay Ao Ao (fun _ => At Ao) trivial ?_
    refine CA Ao Ai ?_
    refine Aq ?_
    refine Ap Ao Ao (Ar Ao) ?_
    refine Ap Ao Ao (CT Ao Ao Am Am) ?_
    refine Ap Ao Ao (At Ao) ?_
    refine Au Ao ?_
    refine ⟨⟨i + 1, ys ++ [(Ec by' fr (d + below tk i) e x).1], (Ec by' fr (d + below tk i) e x).2, o1, cp1⟩, AT, ⟨by omega, ⟨by simp [hl], by rw [← hC, Dc hx]; simp [Fy]⟩⟩, B8 ⟨we rfl, we rfl, we rfl, we rfl, we rfl, we rfl, we (VW (ys ++ [(.mk zk zi zn zl zs : Tm)]) (by rw [hz])), we rfl, trivial⟩ (leH (is := [0, 1, 2, 3]) rfl (wl (SF (ys ++ [(.mk zk zi zn zl zs : Tm)]) (by rw [hz])) (wl (oe rfl) (wl (oe rfl) (wl (oe rfl) (ET))))))⟩
   ·(try simp only [sd, se] at c1)
    refine CL ?_
    refine As ?_
    refine Aq ?_
    refine Ap Ao Ao (Ar Ao) ?_
    refine Ap Ao Ao (Av CN Ao Ao) ?_
    refine Cz (IE (i := 0) [11, 65] Ao (IA ⟨Ao, Ao, trivial⟩)) ?_
    refine Ap Ao Ao (Bc (i := 1) DC Ao Ao Ao Ao Ao Ao) ?_
    refine Au Ao ?_
    refine As ?_
    refine Aq ?_
    refine Ap Ao Ao (Aw (i := 1) BI Ao Ao Ao) ?_
    refine Ap Ao Ao (Bc (i := 0) BI Ao Ao Ao Ao Ao Ao) ?_
    refine Au Ao ?_
    refine A5 ?_
    refine ⟨Ao, _, _, ⟨_, _, Ao, (Bg (i := 0) BI Ao Ao Ao), Ao⟩, (Cf (is := [2]) Ao), ?_⟩
    refine ⟨by show (.agg [.p (I tk), .p (I ti), .p (.str tn), .p (.lst (List.map Db tl)), .p (.lst (BO ys))] : AV) = _; rw [Ec, if_neg c]; rw [show i = ts.length by omega, List.drop_length] at hC; rw [← hC]; simp [Fy]; rfl, ?_⟩
    show ([.box b [.p (I e), .p (I nd)]] : List BL) = _
    rw [Ec, if_neg c]; rw [show i = ts.length by omega, List.drop_length] at hC; rw [← hC]; simp [Fy]
end Go.Proofs.YtapmjpihennhaaaGreatDoor
