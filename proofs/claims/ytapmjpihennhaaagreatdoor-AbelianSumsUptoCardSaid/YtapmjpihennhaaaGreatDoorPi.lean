/- Part of the proofs: an abstract program logic, plain models and contracts of functions. -/
import Derived.Test.YtapmjpihennhaaaGreatDoorPd
import Derived.Test.YtapmjpihennhaaaGreatDoorPf
import Derived.Test.YtapmjpihennhaaaGreatDoorPh
set_option linter.unusedVariables false
set_option linter.unusedSimpArgs false
set_option maxRecDepth 100000
namespace Go.Proofs.YtapmjpihennhaaaGreatDoor
open Go.Abs Go.Eu
theorem Rd : ∀ (l : List ByteArray) (s : ByteArray), (l.length < 9000000) → IA Tryz.prog 94 [.p (.lst (List.map CZ l)), .p (.str s)] (.p (.bool (Gi l s))) := by
 intro l s h1
 refine BH Tryz.func94 Ay gy (n := 18) Ay Ay (A2 (A0 (Az Ay Ay (A4 Ay) (A5 Ay (A2 (A2 (A0 (Az Ay Ay (A4 Ay) (A5 Ay (BT ?_))))))))))
 refine B4 (α := Nat) (fun i => ⟨18, mk [(0, .p (.lst (List.map CZ l))), (1, .p (.str s)), (5, .p (I (i : Int)))], [], []⟩) (fun i => l.length - i) (fun i => i ≤ l.length ∧ (∀ j, j < i → ∀ y, l[j]? = some y → y ≠ s)) 0 (⟨by omega, fun j h => by omega⟩) ?_ ?_
 ·exact By ⟨we Ay, we Ay, we Ay, trivial⟩ (leH (is := []) Ay (Dc))
 rintro i hC
 try simp only at hC
 obtain ⟨hi, hC⟩ := hC
 refine A2 (A2 (A0 (Az Ay Ay (A1 Ay) (Az Ay Ay (A1 Ay) (Az Ay Ay (Bo EL Ay (List.length_map _)) (Az Ay Ay (BE Ay Ay Ay) (A5 Ay (BD Ay (fun c => ?_) (fun c => ?_)))))))))
 ·(try simp only [sd, se] at c)
  refine BG (A2 (BT (A2 (A0 (Az Ay Ay (A1 Ay) (Az Ay Ay (A1 Ay) ?_))))))
  obtain ⟨x, hx⟩ := BO (l := l) (i := i) Aw
  refine Az Ay Ay (BI EL Ay Ay Aw (Hv hx) (Ay)) (Az Ay Ay (CQ Ev Ay) (Az Ay Ay (A1 Ay) (Az Ay Ay (F6 Ay Ay) (A5 Ay (BD Ay (fun c1 => ?_) (fun c1 => ?_))))))
  ·(try simp only [sd, se] at c1)
   refine A2 (A0 (Az Ay Ay (A4 Ay) (A5 Ay (BF (⟨Ay, _, _, ⟨_, _, Ay, Ay, Ay⟩, nS, ?_⟩)))))
   all_goals exact ⟨by show (.p (.bool true) : AV) = _; rw [XN hx (JX (by simpa using c1))], rfl⟩
  (try simp only [sd, se] at c1)
  refine BG (A0 (Az Ay Ay (A1 Ay) (Az Ay Ay (CH Ay Ay Aw Aw) (Az Ay Ay (A4 Ay) (A5 Ay ?_)))))
  refine ⟨(i + 1), AZ, ⟨by omega, D5 (p := fun _ (y : ByteArray) => y ≠ s) hC hx (fun e => by subst e; simp at c1)⟩, By ⟨we rfl, we rfl, we rfl, trivial⟩ (leH (is := []) rfl (Dc))⟩
 (try simp only [sd, se] at c)
 refine B7 (A2 (A0 (Az Ay Ay (A4 Ay) (A5 Ay (BF (⟨Ay, _, _, ⟨_, _, Ay, Ay, Ay⟩, nS, ?_⟩))))))
 all_goals exact ⟨by show (.p (.bool false) : AV) = _; rw [Ve fun j hj => hC j Aw], rfl⟩
theorem _root_.Go.AG {α : Prop} (h : α := by simp only [List.length_map, List.length_append, List.length_cons, List.length_nil, List.length_take]; omega) : α := h
theorem K8 : ∀ (d : Dt), (d.ctors.length < 2000000) → (d.funs.length < 2000000) → (d.name.size < 2000000) → IA Tryz.prog 95 [.agg ((Ci d).map .p)] (.p (.lst (List.map CZ (C8 d)))) := by
 intro d h1 h2 h3
 refine BH Tryz.func95 Ay iK (n := 62) Ay Ay (A2 (A0 (BP Ay Ay (Bj Ay) fun b1 => Az Ay Ay (A4 Ay) (A5 Ay (A2 (A2 (A0 (Az Ay Ay (A3 CR Ay Ay) (Az Ay Ay (BJ (i := 0) C9 Ay Ay (Dl _)) (A5 Ay (BT (A2 (A2 (A0 (Az Ay Ay (BE Ay Ay Ay) (Az Ay Ay (A4 Ay) (A5 Ay (Bx [1, 8] 9 (fun y => y = .p (.bool (decide (d.kind = 0 ∨ d.kind = 1 ∨ d.kind = 2)))) ?_ ?_))))))))))))))))))
 ·refine BD Ay (fun c => ?_) (fun c => ?_)
  ·(try simp only [sd, se] at c)
   exact BG (⟨Ay, Ay, (List.Sublist.refl _), (by refine pB (Bool.eq_iff_iff.2 ?_); simp only [beq_iff_eq, decide_eq_true_eq]; omega), ⟨Ay, Ay, trivial⟩⟩)
  (try simp only [sd, se] at c)
  refine A2 (A0 (Az Ay Ay (BE Ay Ay Ay) (Az Ay Ay (A4 Ay) (A5 Ay (BD Ay (fun c1 => ?_) (fun c1 => ?_))))))
  ·(try simp only [sd, se] at c1)
   exact BG (⟨Ay, Ay, (List.Sublist.refl _), (by refine pB (Bool.eq_iff_iff.2 ?_); simp only [beq_iff_eq, decide_eq_true_eq]; omega), ⟨Ay, Ay, trivial⟩⟩)
  (try simp only [sd, se] at c1)
  exact A0 (Az Ay Ay (BE Ay Ay Ay) (Az Ay Ay (A4 Ay) (A5 Ay (⟨Ay, Ay, (List.Sublist.refl _), (by refine pB (Bool.eq_iff_iff.2 ?_); simp only [beq_iff_eq, decide_eq_true_eq]; omega), ⟨Ay, Ay, trivial⟩⟩))))
 rintro _ rfl
 refine BD Ay (fun c => ?_) (fun c => ?_)
 ·(try simp only [sd, se] at c)
  refine A2 (A0 (Az Ay Ay (A3 CR Ay Ay) (Az Ay Ay (BJ (i := 0) Ev Ay Ay (Dz _)) (Az Ay Ay (CJ EL R9 Ay Ay Ay Ay Ay) (Az Ay Ay (A4 Ay) (A5 Ay (BF (⟨Ay, _, _, ⟨_, _, Ay, Ay, Ay⟩, nS, ?_⟩))))))))
  all_goals exact ⟨by show (.p (.lst (List.map CZ [d.name])) : AV) = _; rw [C8, if_pos (by simpa using c)], rfl⟩
 (try simp only [sd, se] at c)
 refine A2 (A0 (Az Ay Ay (BE Ay Ay Ay) (Az Ay Ay (A4 Ay) (A5 Ay (BD Ay (fun c1 => ?_) (fun c1 => ?_))))))
 ·(try simp only [sd, se] at c1)
  refine A2 (A0 (Az Ay Ay (A3 CR Ay Ay) (Az Ay Ay (BJ (i := 0) Ev Ay Ay (Dz _)) (W3 Ay Ay (GO (rows := List.map CZ [d.name]) EL R9 Ay Ay Ay Ay Ay) fun b20 cp => Az Ay Ay (A4 Ay) (A5 Ay (A2 (A2 (A0 (Az Ay Ay (A4 Ay) (A5 Ay (BT (B4 (α := Nat × Option Nat × Nat) (fun (i, o, cp1) => ⟨62, mk [(1, .ptr b1 0), (3, .vs o (List.map CZ (d.name :: (d.ctors.take i).map KH.name)).length cp1), (4, .p (I (i : Int)))], [.vec o 1 (List.map CZ (d.name :: (d.ctors.take i).map KH.name)) cp1, .box b1 ((Ci d).map .p)], []⟩) (fun (i, o, cp1) => d.ctors.length - i) (fun (i, o, cp1) => i ≤ d.ctors.length) ⟨0, (some b20), cp⟩ AS ?_ ?_))))))))))))
  ·exact By ⟨we Ay, we Ay, we Ay, trivial⟩ (leH (is := [0, 1]) Ay (wl (oe Ay) (wl (oe Ay) (Dc))))
  rintro ⟨i, o, cp1⟩ hC
  try simp only at hC
  have hi := hC
  refine A2 (A2 (A0 (Az Ay Ay (A1 Ay) (Az Ay Ay (A3 CR Ay Ay) (Az Ay Ay (BJ (i := 1) G0 Ay Ay (Cy _)) (Az Ay Ay (Bo Ge Ay (List.length_map _)) (Az Ay Ay (BE Ay Ay Ay) (A5 Ay (BD Ay (fun c2 => ?_) (fun c2 => ?_))))))))))
  ·(try simp only [sd, se] at c2)
   refine BG (A2 (BT (A0 (Az Ay Ay (A1 Ay) (Az Ay Ay (A3 CR Ay Ay) (Az Ay Ay (BJ (i := 1) G0 Ay Ay (Cy _)) (Az Ay Ay (A1 Ay) ?_)))))))
   obtain ⟨x, hx⟩ := BO (l := d.ctors) (i := i) Aw
   refine Az Ay Ay (BI Ge Ay Ay Aw (F5 hx) (Eh _)) (Az Ay Ay (CM LY Ay Ay) (Az Ay Ay (EP Ev Ay (II _)) (Az Ay Ay (CJ EL R9 Ay Ay Ay Ay Ay) (Lo Ay Ay (Df (i := 0) (rows' := List.map CZ [x.name]) EL EL R9 Ay Ay Ay Ay Ay Ay (E8 _) AG (HJ (f := CZ) (d.name :: (d.ctors.take i).map KH.name) [x.name])) fun o1 cp2 => Az Ay Ay (A4 Ay) (A5 Ay (A0 (Az Ay Ay (A1 Ay) (Az Ay Ay (CH Ay Ay Aw Aw) (Az Ay Ay (A4 Ay) (A5 Ay ?_))))))))))
   refine ⟨⟨i + 1, o1, cp2⟩, AZ, by omega, By ⟨we rfl, we (UE (f := CZ) ((d.name :: (d.ctors.take i).map KH.name) ++ [x.name]) (by simp [List.take_add_one, hx])), we rfl, trivial⟩ (leH (is := [0, 1]) rfl (wl (UR (f := CZ) ((d.name :: (d.ctors.take i).map KH.name) ++ [x.name]) (by simp [List.take_add_one, hx])) (wl (oe rfl) (Dc))))⟩
  (try simp only [sd, se] at c2)
  refine B7 (A2 (A0 (Az Ay Ay (A1 Ay) (Az Ay Ay (A3 CR Ay Ay) (Az Ay Ay (BJ (i := 1) Ev Ay Ay (Dz _)) (Az Ay Ay (EY Ay Ay (by have : (⟨#[46, 114, 101, 99]⟩ : ByteArray).size = 4 := rfl; omega)) (Az Ay Ay (CJ EL R9 Ay Ay Ay Ay Ay) (Lo Ay Ay (Df (i := 0) (rows' := List.map CZ ([(d.name ++ ⟨#[46, 114, 101, 99]⟩)])) EL EL R9 Ay Ay Ay Ay Ay Ay (E8 _) AG (HJ (f := CZ) (d.name :: (d.ctors.take i).map KH.name) ([(d.name ++ ⟨#[46, 114, 101, 99]⟩)]))) fun o1 cp2 => Az Ay Ay (A4 Ay) (A5 Ay (B2 (FI (i := 0) [42, 2] Ay (HQ ⟨Ay, Ay, trivial⟩)) (BF (⟨Ay, _, _, ⟨_, _, Ay, Ay, Ay⟩, nS, ?_⟩))))))))))))
  all_goals exact ⟨by show (.p (.lst (List.map CZ ((d.name :: (d.ctors.take i).map KH.name) ++ ([(d.name ++ ⟨#[46, 114, 101, 99]⟩)])))) : AV) = _; rw [C8, if_neg (by simpa using c), if_pos (by simpa using c1), List.take_of_length_le Aw]; rfl, rfl⟩
 (try simp only [sd, se] at c1)
 refine A2 (A0 (Az Ay Ay (BE Ay Ay Ay) (Az Ay Ay (A4 Ay) (A5 Ay (BD Ay (fun c2 => ?_) (fun c2 => ?_))))))
 ·(try simp only [sd, se] at c2)
  refine A2 (A0 (Az Ay Ay (A4 Ay) (A5 Ay (A2 (A2 (A0 (Az Ay Ay (A4 Ay) (A5 Ay (BT (B2 (IQ (t := 5) (sz := 1) Ay) (B4 (α := Nat × Option Nat × Nat) (fun (i, o, cp) => ⟨62, mk [(1, .ptr b1 0), (5, .vs o (List.map CZ ((d.funs.take i).map KI.name)).length cp), (6, .p (I (i : Int)))], [.vec o 1 (List.map CZ ((d.funs.take i).map KI.name)) cp, .box b1 ((Ci d).map .p)], []⟩) (fun (i, o, cp) => d.funs.length - i) (fun (i, o, cp) => i ≤ d.funs.length) ⟨0, none, 0⟩ AS ?_ ?_)))))))))))
  ·exact By ⟨we Ay, we Ay, we Ay, trivial⟩ (leH (is := [0, 1]) Ay (wl (oe Ay) (wl (oe Ay) (Dc))))
  rintro ⟨i, o, cp⟩ hC
  try simp only at hC
  have hi := hC
  refine A2 (A2 (A0 (Az Ay Ay (A1 Ay) (Az Ay Ay (A3 CR Ay Ay) (Az Ay Ay (BJ (i := 1) Fj Ay Ay (Cq _)) (Az Ay Ay (Bo FP Ay (List.length_map _)) (Az Ay Ay (BE Ay Ay Ay) (A5 Ay (BD Ay (fun c3 => ?_) (fun c3 => ?_))))))))))
  ·(try simp only [sd, se] at c3)
   refine BG (A2 (BT (A0 (Az Ay Ay (A1 Ay) (Az Ay Ay (A3 CR Ay Ay) (Az Ay Ay (BJ (i := 1) Fj Ay Ay (Cq _)) (Az Ay Ay (A1 Ay) ?_)))))))
   obtain ⟨x, hx⟩ := BO (l := d.funs) (i := i) Aw
   refine Az Ay Ay (BI FP Ay Ay Aw (FY hx) (Ec _)) (Az Ay Ay (CM Jc Ay Ay) (Az Ay Ay (EP Ev Ay (IG _)) (Az Ay Ay (CJ EL R9 Ay Ay Ay Ay Ay) (Lo Ay Ay (Df (i := 0) (rows' := List.map CZ [x.name]) EL EL R9 Ay Ay Ay Ay Ay Ay (E8 _) AG (HJ (f := CZ) ((d.funs.take i).map KI.name) [x.name])) fun o1 cp1 => Az Ay Ay (A4 Ay) (A5 Ay (A0 (Az Ay Ay (A1 Ay) (Az Ay Ay (CH Ay Ay Aw Aw) (Az Ay Ay (A4 Ay) (A5 Ay ?_))))))))))
   refine ⟨⟨i + 1, o1, cp1⟩, AZ, by omega, By ⟨we rfl, we (UE (f := CZ) (((d.funs.take i).map KI.name) ++ [x.name]) (by simp [List.take_add_one, hx])), we rfl, trivial⟩ (leH (is := [0, 1]) rfl (wl (UR (f := CZ) (((d.funs.take i).map KI.name) ++ [x.name]) (by simp [List.take_add_one, hx])) (wl (oe rfl) (Dc))))⟩
  (try simp only [sd, se] at c3)
  refine B7 (A2 (A0 (Az Ay Ay (A1 Ay) (Az Ay Ay (A4 Ay) (A5 Ay (B2 (FI (i := 0) [5, 61, 2] Ay (HQ ⟨Ay, Ay, Ay, trivial⟩)) (BF (⟨Ay, _, _, ⟨_, _, Ay, Ay, Ay⟩, nS, ?_⟩))))))))
  all_goals exact ⟨by show (.p (.lst (List.map CZ ((d.funs.take i).map KI.name))) : AV) = _; rw [C8, if_neg (by simpa using c), if_neg (by simpa using c1), if_pos (by simpa using c2), List.take_of_length_le Aw], rfl⟩
 (try simp only [sd, se] at c2)
 refine BG (A2 (A0 (Az Ay Ay (A4 Ay) (A5 Ay (B2 (El 2) (BF (⟨Ay, _, _, ⟨_, _, Ay, Ay, Ay⟩, nS, ?_⟩)))))))
 all_goals exact ⟨by show (.p (.lst (List.map CZ [])) : AV) = _; rw [C8, if_neg (by simpa using c), if_neg (by simpa using c1), if_neg (by simpa using c2)], rfl⟩
set_option maxHeartbeats 2000000 in
theorem QV : ∀ (d : Dt) (ix : Int) (nm : ByteArray), (d.ctors.length < 2000000) → (d.funs.length < 2000000) → IA Tryz.prog 96 [.agg ((Ci d).map .p), .p (I ix), .p (.str nm)] (.agg ((FL (FK d ix nm)).map .p)) := by
 intro d ix nm h1 h2
 refine BH Tryz.func96 Ay fE (n := 96) Ay Ay (A2 (A0 (BP Ay Ay (Bj Ay) fun b3 => BP Ay Ay (BN JB Ay) fun b6 => A5 Ay (A2 (A0 (Az Ay Ay (A1 Ay) (Az Ay Ay (A3 CR Ay Ay) (Az Ay Ay (BJ (i := 1) C9 Ay Ay (C4 _)) (Az Ay Ay (A3 CR Ay Ay) (Az Ay Ay (Cl (i := 1) BU Ay Ay (F9 _) (Bd _)) (Az Ay Ay (Bv I7 JB (Vr Ay Ay Ay)) (BP Ay Ay (BN JB Ay) fun b7 => Az Ay Ay (BB (i := 0) FC Ay Ay Ay Ao Ad (EK _)) (A5 Ay (A2 (A2 (A0 (Az Ay Ay (A3 CR Ay Ay) (Az Ay Ay (BJ (i := 2) C9 Ay Ay (Dl _)) (A5 Ay (BT (A2 (A0 (Az Ay Ay (BE Ay Ay Ay) ?_)))))))))))))))))))))))
 refine Az Ay Ay (A4 Ay) (A5 Ay (BD Ay (fun c => ?_) (fun c => ?_)))
 ·(try simp only [sd, se] at c)
  refine A0 (Az Ay Ay (A3 I7 Ay Ay) (Az Ay Ay (Di (i := 0) (ds := (FL (G8.mk 0 ix 0 d.params d.type)).map .p) C9 Ay Ay Ay Ay Ay Ay Ay) (A5 Ay (A2 (A0 (Az Ay Ay (A8 (i := 0) FC Ay Ay Ao) (Az Ay Ay (BB (i := 1) FC Ay Ay Ay Ao Ad (EK _)) (A5 Ay (BF (⟨Ay, _, _, ⟨_, _, Ay, (Bt (i := 1) FC Ay Ay Ao), Ay⟩, nS, ?_⟩))))))))))
  all_goals exact ⟨by show (.agg ((FL (G8.mk 0 ix 0 d.params d.type)).map .p) : AV) = _; rw [Li (.inl (by simpa using c)) (k := 0) (by simpa using c)], rfl⟩
 (try simp only [sd, se] at c)
 refine A2 (A0 (Az Ay Ay (BE Ay Ay Ay) (Az Ay Ay (A4 Ay) (A5 Ay (BD Ay (fun c1 => ?_) (fun c1 => ?_))))))
 ·(try simp only [sd, se] at c1)
  refine A0 (Az Ay Ay (A3 I7 Ay Ay) (Az Ay Ay (Di (i := 0) (ds := (FL (G8.mk 1 ix 0 d.params d.type)).map .p) C9 Ay Ay Ay Ay Ay Ay Ay) (A5 Ay (A2 (A0 (Az Ay Ay (A8 (i := 0) FC Ay Ay Ao) (Az Ay Ay (BB (i := 1) FC Ay Ay Ay Ao Ad (EK _)) (A5 Ay (BF (⟨Ay, _, _, ⟨_, _, Ay, (Bt (i := 1) FC Ay Ay Ao), Ay⟩, nS, ?_⟩))))))))))
  all_goals exact ⟨by show (.agg ((FL (G8.mk 1 ix 0 d.params d.type)).map .p) : AV) = _; rw [Li (.inr (.inl (by simpa using c1))) (k := 1) (by simpa using c1)], rfl⟩
 (try simp only [sd, se] at c1)
 refine A2 (A0 (Az Ay Ay (BE Ay Ay Ay) (Az Ay Ay (A4 Ay) (A5 Ay (BD Ay (fun c2 => ?_) (fun c2 => ?_))))))
 ·(try simp only [sd, se] at c2)
  refine A0 (Az Ay Ay (A3 I7 Ay Ay) (Az Ay Ay (Di (i := 0) (ds := (FL (G8.mk 2 ix 0 d.params d.type)).map .p) C9 Ay Ay Ay Ay Ay Ay Ay) (A5 Ay (A2 (A0 (Az Ay Ay (A8 (i := 0) FC Ay Ay Ao) (Az Ay Ay (BB (i := 1) FC Ay Ay Ay Ao Ad (EK _)) (A5 Ay (BF (⟨Ay, _, _, ⟨_, _, Ay, (Bt (i := 1) FC Ay Ay Ao), Ay⟩, nS, ?_⟩))))))))))
  all_goals exact ⟨by show (.agg ((FL (G8.mk 2 ix 0 d.params d.type)).map .p) : AV) = _; rw [Li (.inr (.inr (by simpa using c2))) (k := 2) (by simpa using c2)], rfl⟩
 (try simp only [sd, se] at c2)
 refine A2 (A0 (Az Ay Ay (BE Ay Ay Ay) (Az Ay Ay (A4 Ay) (A5 Ay (BD Ay (fun c3 => ?_) (fun c3 => ?_))))))
 ·(try simp only [sd, se] at c3)
  refine A2 (A0 (Az Ay Ay (A3 I7 Ay Ay) (Az Ay Ay (Di (i := 0) (ds := (FL (G8.mk 3 ix 0 d.params d.type)).map .p) C9 Ay Ay Ay Ay Ay Ay Ay) (A5 Ay (A2 (A2 (A0 (Az Ay Ay (A1 Ay) (Az Ay Ay (A3 CR Ay Ay) (Az Ay Ay (BJ (i := 2) Ev Ay Ay (Dz _)) (Az Ay Ay (F6 Ay Ay) (A5 Ay (BD Ay (fun c4 => ?_) (fun c4 => ?_))))))))))))))
  ·(try simp only [sd, se] at c4)
   refine A2 (A0 (Az Ay Ay (A8 (i := 0) FC Ay Ay Ao) (Az Ay Ay (BB (i := 1) FC Ay Ay Ay Ao Ad (EK _)) (A5 Ay (BF (⟨Ay, _, _, ⟨_, _, Ay, (Bt (i := 1) FC Ay Ay Ao), Ay⟩, nS, ?_⟩))))))
   all_goals exact ⟨by show (.agg ((FL (G8.mk 3 ix 0 d.params d.type)).map .p) : AV) = _; rw [VO (by simpa using c3) (JX (by simpa using c4))], rfl⟩
  (try simp only [sd, se] at c4)
  refine BG (A2 (A2 (A0 (Az Ay Ay (A4 Ay) (A5 Ay (BT ?_))))))
  refine B4 (α := Nat) (fun i => ⟨96, mk [(1, .p (I ix)), (2, .p (.str nm)), (3, .ptr b3 0), (6, .ptr b6 0), (8, .p (I (i : Int)))], [.box b6 [.p (I 0), .p (I 0), .p (I 0), .p (I 0), .p (I 0), .p (I 0), .p (.str ⟨#[]⟩), .p (.nils), .p (.nils)], .box b3 ((Ci d).map .p)], []⟩) (fun i => d.ctors.length - i) (fun i => i ≤ d.ctors.length ∧ (∀ j, j < i → ∀ y, d.ctors[j]? = some y → y.name ≠ nm)) 0 (⟨by omega, fun j h => by omega⟩) ?_ ?_
  ·exact By ⟨we Ay, we Ay, we Ay, we Ay, we Ay, trivial⟩ (leH (is := [1, 2]) Ay (wl (oe Ay) (wl (oe Ay) (Dc))))
  rintro i hC
  try simp only at hC
  obtain ⟨hi, hC⟩ := hC
  refine A2 (A2 (A0 (Az Ay Ay (A1 Ay) (Az Ay Ay (A3 CR Ay Ay) (Az Ay Ay (BJ (i := 1) G0 Ay Ay (Cy _)) (Az Ay Ay (Bo Ge Ay (List.length_map _)) (Az Ay Ay (BE Ay Ay Ay) (A5 Ay (BD Ay (fun c5 => ?_) (fun c5 => ?_))))))))))
  ·(try simp only [sd, se] at c5)
   refine BG (A2 (BT (A2 (A0 (Az Ay Ay (A3 CR Ay Ay) (Az Ay Ay (BJ (i := 1) G0 Ay Ay (Cy _)) (Az Ay Ay (A1 Ay) ?_)))))))
   obtain ⟨x, hx⟩ := BO (l := d.ctors) (i := i) Aw
   refine Az Ay Ay (BI Ge Ay Ay Aw (F5 hx) (Eh _)) (Az Ay Ay (CM LY Ay Ay) (Az Ay Ay (EP Ev Ay (II _)) (Az Ay Ay (A1 Ay) (Az Ay Ay (F6 Ay Ay) (A5 Ay (BD Ay (fun c6 => ?_) (fun c6 => ?_)))))))
   ·(try simp only [sd, se] at c6)
    refine A2 (CW (fun k => false) ED (BA Ay Ay (fun _ => A1 Ay) trivial (BA Ay Ay (fun _ => A1 Ay) trivial (BA Ay Ay (fun _ => A3 CR Ay Ay) trivial (Ba (j := 1) Ay Ay Ay (fun H i hi => BJ (i := i) C9 Ay hi (C4 _)) AA trivial (BA Ay Ay (fun _ => A3 CR Ay Ay) trivial (Ba (j := 1) Ay Ay Ay (fun H i hi => BJ (i := i) G0 Ay hi (Cy _)) AA trivial (BA Ay Ay (fun _ => A1 Ay) trivial (BA Ay Ay (fun _ => BI Ge Ay Ay Aw (F5 hx) (Eh _)) trivial (BA Ay Ay (fun _ => CM LY Ay Ay) trivial (BA Ay Ay (fun _ => D4 BU Ay (F8 _) (Bd _)) trivial (BA Ay Ay (fun _ => Bv I7 JB (Mi Ay Ay Ay Ay Ay)) trivial ?_))))))))))))
    refine Cw Ay Ay (BB (i := 0) FC Ay Ay Ay Ao Ad (EK _)) AA trivial (CP Ay Ar (BF (⟨Ay, _, _, ⟨_, _, Ay, (Bt (i := 0) FC Ay Ay Ao), Ay⟩, nS, ?_⟩)))
    all_goals exact ⟨by show (.agg ((FL (G8.mk 4 ix (i : Int) d.params x.type)).map .p) : AV) = _; rw [TK (j := i) (by simpa using c3) (fun h => by subst h; simp at c4) hx (JX (by simpa using c6)) hC], rfl⟩
   (try simp only [sd, se] at c6)
   refine BG (A0 (Az Ay Ay (A1 Ay) (Az Ay Ay (CH Ay Ay Aw Aw) (Az Ay Ay (A4 Ay) (A5 Ay ?_)))))
   refine ⟨(i + 1), AZ, ⟨by omega, D5 (p := fun _ (y : KH) => y.name ≠ nm) hC hx (fun e => by subst e; simp at c6)⟩, By ⟨we rfl, we rfl, we rfl, we rfl, we rfl, trivial⟩ (leH (is := [0, 1]) rfl (wl (oe rfl) (wl (oe rfl) (Dc))))⟩
  (try simp only [sd, se] at c5)
  refine B7 (A2 (A0 (Az Ay Ay (A1 Ay) (Az Ay Ay (A3 CR Ay Ay) (Az Ay Ay (A3 Ga Ay Ay) (Az Ay Ay (BJ (i := 1) C9 Ay Ay (DS _)) (Az Ay Ay (A3 CR Ay Ay) (Az Ay Ay (A3 Ga Ay Ay) (Az Ay Ay (Cl (i := 1) BU Ay Ay (Ek _) (Bd _)) (Az Ay Ay (Bv I7 JB (Um Ay Ay Ay Ay)) (Az Ay Ay (BB (i := 0) FC Ay Ay Ay Ao Ad (EK _)) (A5 Ay (BF (⟨Ay, _, _, ⟨_, _, Ay, (Bt (i := 0) FC Ay Ay Ao), Ay⟩, nS, ?_⟩))))))))))))))
  all_goals exact ⟨by show (.agg ((FL (G8.mk 5 ix 0 d.recs.params d.recs.type)).map .p) : AV) = _; rw [Uw (by simpa using c3) (fun h => by subst h; simp at c4) fun j hj => hC j Aw], rfl⟩
 (try simp only [sd, se] at c3)
 refine A2 (A0 (Az Ay Ay (A4 Ay) (A5 Ay (BT ?_))))
 refine B4 (α := Nat) (fun i => ⟨96, mk [(1, .p (I ix)), (2, .p (.str nm)), (3, .ptr b3 0), (6, .ptr b6 0), (7, .ptr b7 0), (9, .p (I (i : Int)))], [.box b7 ((FL (G8.mk 0 ix 0 d.params d.type)).map .p), .box b6 [.p (I 0), .p (I 0), .p (I 0), .p (I 0), .p (I 0), .p (I 0), .p (.str ⟨#[]⟩), .p (.nils), .p (.nils)], .box b3 ((Ci d).map .p)], []⟩) (fun i => d.funs.length - i) (fun i => i ≤ d.funs.length ∧ (∀ j, j < i → ∀ y, d.funs[j]? = some y → y.name ≠ nm)) 0 (⟨by omega, fun j h => by omega⟩) ?_ ?_
 ·exact By ⟨we Ay, we Ay, we Ay, we Ay, we Ay, we Ay, trivial⟩ (leH (is := [0, 1, 2]) Ay (wl (oe Ay) (wl (oe Ay) (wl (oe Ay) (Dc)))))
 rintro i hC
 try simp only at hC
 obtain ⟨hi, hC⟩ := hC
 refine A2 (A2 (A0 (Az Ay Ay (A1 Ay) (Az Ay Ay (A3 CR Ay Ay) (Az Ay Ay (BJ (i := 2) Fj Ay Ay (Cq _)) (Az Ay Ay (Bo FP Ay (List.length_map _)) (Az Ay Ay (BE Ay Ay Ay) (A5 Ay (BD Ay (fun c4 => ?_) (fun c4 => ?_))))))))))
 ·(try simp only [sd, se] at c4)
  refine BG (A2 (BT (A2 (A0 (Az Ay Ay (A3 CR Ay Ay) (Az Ay Ay (BJ (i := 2) Fj Ay Ay (Cq _)) (Az Ay Ay (A1 Ay) ?_)))))))
  obtain ⟨x, hx⟩ := BO (l := d.funs) (i := i) Aw
  refine Az Ay Ay (BI FP Ay Ay Aw (FY hx) (Ec _)) (Az Ay Ay (CM Jc Ay Ay) (Az Ay Ay (EP Ev Ay (IG _)) (Az Ay Ay (A1 Ay) (Az Ay Ay (F6 Ay Ay) (A5 Ay (BD Ay (fun c5 => ?_) (fun c5 => ?_)))))))
  ·(try simp only [sd, se] at c5)
   refine A2 (CW (fun k => false) ED (BA Ay Ay (fun _ => A1 Ay) trivial (BA Ay Ay (fun _ => A1 Ay) trivial (BA Ay Ay (fun _ => A3 CR Ay Ay) trivial (Ba (j := 2) Ay Ay Ay (fun H i hi => BJ (i := i) C9 Ay hi (C4 _)) AA trivial (BA Ay Ay (fun _ => A3 CR Ay Ay) trivial (Ba (j := 2) Ay Ay Ay (fun H i hi => BJ (i := i) Fj Ay hi (Cq _)) AA trivial (BA Ay Ay (fun _ => A1 Ay) trivial (BA Ay Ay (fun _ => BI FP Ay Ay Aw (FY hx) (Ec _)) trivial (BA Ay Ay (fun _ => CM Jc Ay Ay) trivial (BA Ay Ay (fun _ => D4 BU Ay (IK _) (Bd _)) trivial (BA Ay Ay (fun _ => Bv I7 JB (Mi Ay Ay Ay Ay Ay)) trivial ?_))))))))))))
   refine Cw Ay Ay (BB (i := 1) FC Ay Ay Ay Ao Ad (EK _)) AA trivial (CP Ay Ar (BF (⟨Ay, _, _, ⟨_, _, Ay, (Bt (i := 1) FC Ay Ay Ao), Ay⟩, nS, ?_⟩)))
   all_goals exact ⟨by show (.agg ((FL (G8.mk 6 ix (i : Int) d.params x.type)).map .p) : AV) = _; rw [U4 (j := i) (not_or.2 ⟨(by simpa using c), not_or.2 ⟨(by simpa using c1), (by simpa using c2)⟩⟩) (by simpa using c3) hx (JX (by simpa using c5)) hC], rfl⟩
  (try simp only [sd, se] at c5)
  refine BG (A0 (Az Ay Ay (A1 Ay) (Az Ay Ay (CH Ay Ay Aw Aw) (Az Ay Ay (A4 Ay) (A5 Ay ?_)))))
  refine ⟨(i + 1), AZ, ⟨by omega, D5 (p := fun _ (y : KI) => y.name ≠ nm) hC hx (fun e => by subst e; simp at c5)⟩, By ⟨we rfl, we rfl, we rfl, we rfl, we rfl, we rfl, trivial⟩ (leH (is := [0, 1, 2]) rfl (wl (oe rfl) (wl (oe rfl) (wl (oe rfl) (Dc)))))⟩
 (try simp only [sd, se] at c4)
 refine B7 (A2 (A0 (Az Ay Ay (A8 (i := 0) FC Ay Ay Ao) (Az Ay Ay (BB (i := 1) FC Ay Ay Ay Ao Ad (EK _)) (A5 Ay (BF (⟨Ay, _, _, ⟨_, _, Ay, (Bt (i := 1) FC Ay Ay Ao), Ay⟩, nS, ?_⟩)))))))
 all_goals exact ⟨by show (.agg ((FL (G8.mk 0 ix 0 d.params d.type)).map .p) : AV) = _; rw [VY (not_or.2 ⟨(by simpa using c), not_or.2 ⟨(by simpa using c1), (by simpa using c2)⟩⟩) (by simpa using c3) fun j hj => hC j Aw], rfl⟩
theorem Ml : ∀ (ds : List Dt) (nm : ByteArray), (IB ds) → IA Tryz.prog 48 [.p (.lst (List.map Ci ds)), .p (.str nm)] (.tup [.agg ((FL ((Ed ds nm).1)).map .p), .p (I ((Ed ds nm).2))]) := by
 intro ds nm h1
 have hl := h1.len
 refine BH Tryz.func48 Ay et (n := 28) Ay Ay (A2 (A0 (BP Ay Ay (BN JB Ay) fun b4 => Az Ay Ay (A4 Ay) (A5 Ay (A2 (A2 (A0 (Az Ay Ay (A4 Ay) (A5 Ay (BT ?_))))))))))
 refine B4 (α := Nat) (fun i => ⟨28, mk [(0, .p (.lst (List.map Ci ds))), (1, .p (.str nm)), (4, .ptr b4 0), (6, .p (I (i : Int)))], [.box b4 [.p (I 0), .p (I 0), .p (I 0), .p (I 0), .p (I 0), .p (I 0), .p (.str ⟨#[]⟩), .p (.nils), .p (.nils)]], []⟩) (fun i => ds.length - i) (fun i => i ≤ ds.length ∧ (∀ j, j < i → ∀ y, ds[j]? = some y → Gi (C8 y) nm = false)) 0 (⟨by omega, fun j h => by omega⟩) ?_ ?_
 ·exact By ⟨we Ay, we Ay, we Ay, we Ay, trivial⟩ (leH (is := [0]) Ay (wl (oe Ay) (Dc)))
 rintro i hC
 try simp only at hC
 obtain ⟨hi, hC⟩ := hC
 refine A2 (A2 (A0 (Az Ay Ay (A1 Ay) (Az Ay Ay (A1 Ay) (Az Ay Ay (Bo Lx Ay (List.length_map _)) (Az Ay Ay (BE Ay Ay Ay) (A5 Ay (BD Ay (fun c => ?_) (fun c => ?_)))))))))
 ·(try simp only [sd, se] at c)
  refine BG (A2 (BT (A2 (A0 (Az Ay Ay (A1 Ay) (Az Ay Ay (A1 Ay) ?_))))))
  obtain ⟨x, hx⟩ := BO (l := ds) (i := i) Aw
  have hD := h1.all _ (List.mem_of_getElem? hx)
  have hcl := hD.cl
  have hfl := hD.fl
  refine Az Ay Ay (BI Lx Ay Ay Aw (JN hx) (D2 _)) (Az Ay Ay (Bq GG Ay (D2 _)) (Az Ay Ay (Bp Ay Ay (K8 x hD.cl hD.fl hD.nm) Ay) (Az Ay Ay (A1 Ay) (Az Ay Ay (Bp Ay Ay (Rd (C8 x) nm (by have := Ly x; omega)) Ay) (A5 Ay (BD Ay (fun c1 => ?_) (fun c1 => ?_)))))))
  ·(try simp only [sd, se] at c1)
   refine A2 (A0 (Az Ay Ay (A1 Ay) (Az Ay Ay (A1 Ay) (Az Ay Ay (BI Lx Ay Ay Aw (JN hx) (D2 _)) (Az Ay Ay (Bq GG Ay (D2 _)) (Az Ay Ay (A1 Ay) (Az Ay Ay (A1 Ay) (Az Ay Ay (Bp Ay Ay (QV x (i : Int) nm hD.cl hD.fl) Ay) (Az Ay Ay (BB (i := 0) FC Ay Ay Ay Ao Ad (EK _)) (Az Ay Ay (A4 Ay) (A5 Ay (BF (⟨Ay, _, _, ⟨_, _, Ay, (Bt (i := 0) FC Ay Ay Ao), ⟨_, _, Ay, Ay, Ay⟩⟩, nS, ?_⟩)))))))))))))
   all_goals exact ⟨by show (.tup [.agg ((FL (FK x (i : Int) nm)).map .p), .p (I 0)] : AV) = _; rw [VN hx hC (by simpa using c1)], rfl⟩
  (try simp only [sd, se] at c1)
  refine BG (A0 (Az Ay Ay (A1 Ay) (Az Ay Ay (CH Ay Ay Aw Aw) (Az Ay Ay (A4 Ay) (A5 Ay (⟨(i + 1), AZ, ⟨by omega, D5 (p := fun _ (y : Dt) => Gi (C8 y) nm = false) hC hx (by simpa using c1)⟩, By ⟨we rfl, we rfl, we rfl, we rfl, trivial⟩ (leH (is := [0]) rfl (wl (oe rfl) (Dc)))⟩))))))
 (try simp only [sd, se] at c)
 refine B7 (A2 (A0 (Az Ay Ay (Bv I7 JB Ay) (Az Ay Ay (Bm (i := 0) FC Ay Ay Ay Ay Ay Ay) (Az Ay Ay (A4 Ay) (A5 Ay (B2 (Cv (i := 0) Ay) (BF (⟨Ay, _, _, ⟨_, _, Ay, (Bt (i := 0) FC Ay Ay Ay), ⟨_, _, Ay, Ay, Ay⟩⟩, nS, ?_⟩)))))))))
 all_goals exact ⟨by show (.tup [.agg [.p (I 0), .p (I 0), .p (I 0), .p (I 0), .p (I 0), .p (I 0), .p (.str ⟨#[]⟩), .p (.lst []), .p (.lst [])], .p (I 9)] : AV) = _; rw [TJ fun j hj => hC j Aw]; rfl, rfl⟩
theorem JU : ∀ (t : Tm), (Nd t) → IA Tryz.prog 136 [.agg ((Bu t).map .p)] (.p (.bool (QJ t Be))) := by
 intro t h1
 refine BH Tryz.func136 Ay bu (n := 6) Ay Ay (A2 (A0 (BP Ay Ay (Bj Ay) fun b1 => Az Ay Ay (A4 Ay) (A5 Ay (A2 (A0 (Az Ay Ay (A8 (i := 0) BU Ay Ay Am) (Az Ay Ay (Bv CV B8 Ay) (Az Ay Ay (DJ Ay Ay (RL _ t (.mk 0 0 ⟨#[]⟩ [] [] : Tm) (Nat.le_refl _) h1) (aw (we Ay) (aw (Cs Ay) (C7)))) (Az Ay Ay (A4 Ay) (A5 Ay (BF (⟨Ay, _, _, ⟨_, _, Ay, Ay, Ay⟩, nS, ?_⟩)))))))))))))
 all_goals exact ⟨rfl, rfl⟩
theorem Tn : ∀ (d : Dt), (Rl d) → E1 Tryz.prog 107 [.agg ((Ci d).map .p)] (Dv) := by
 intro d h1
 refine BH Tryz.func107 Ay eR (n := 87) Ay Ay (A2 (A0 (BP Ay Ay (Bj Ay) fun b1 => Az Ay Ay (A4 Ay) (A5 Ay (A2 (Bx [1] 3 Dv ?_ ?_))))))
 ·refine A0 (Az Ay Ay (A3 CR Ay Ay) (Az Ay Ay (A3 Ga Ay Ay) (Az Ay Ay (BJ (i := 0) C9 Ay Ay (DS _)) (Az Ay Ay (BE Ay Ay Ay) (Az Ay Ay (A1 Ay) (Br 9 Ay (fun g => ?_) (fun g => ?_)))))))
  ·(try simp only [sd, se] at g)
   refine A6 Ay Ay Ay Ay (A3 CR Ay Ay) (A6 Ay Ay Ay Ay (A3 Ga Ay Ay) (A6 Ay Ay Ay Ay (Cl (i := 0) BU Ay Ay (Ek _) (Bd _)) (A6 Ay Ay Ay Ay (Bp Ay Ay (JU d.recs.type (by first | exact h1.rt.nd | exact h1.vl.nd | exact h1.ty.nd)) Ay) (Az Ay Ay (BC Ay Ay) (Az Ay Ay (A1 Ay) (Br 15 Ay (fun g1 => ?_) (fun g1 => ?_)))))))
   ·(try simp only [sd, se] at g1)
    exact A6 Ay Ay Ay Ay (A3 CR Ay Ay) (A6 Ay Ay Ay Ay (A3 Ga Ay Ay) (A6 Ay Ay Ay Ay (BJ (i := 0) DG Ay Ay (DO _)) (A6 Ay Ay Ay Ay (Bo CL Ay (B5 _)) (A6 Ay Ay Ay Ay (BE Ay Ay Ay) (Az Ay Ay (BC Ay Ay) (Az Ay Ay (A4 Ay) (A5 Ay (⟨Ay, Ay, AK, ⟨_, Ay⟩, ⟨Ay, trivial⟩⟩))))))))
   (try simp only [sd, se] at g1)
   exact A7 Ay Ay Ay Ay Ay (A7 Ay Ay Ay Ay Ay (A7 Ay Ay Ay Ay Ay (A7 Ay Ay Ay Ay Ay (A7 Ay Ay Ay Ay Ay (Az Ay Ay (BC Ay Ay) (Az Ay Ay (A4 Ay) (A5 Ay (⟨Ay, Ay, AK, ⟨_, Ay⟩, ⟨Ay, trivial⟩⟩))))))))
  (try simp only [sd, se] at g)
  exact A7 Ay Ay Ay Ay Ay (A7 Ay Ay Ay Ay Ay (A7 Ay Ay Ay Ay Ay (A7 Ay Ay Ay Ay Ay (Az Ay Ay (BC Ay Ay) (Az Ay Ay (A1 Ay) (A7 Ay Ay Ay Ay Ay (A7 Ay Ay Ay Ay Ay (A7 Ay Ay Ay Ay Ay (A7 Ay Ay Ay Ay Ay (A7 Ay Ay Ay Ay Ay (Az Ay Ay (BC Ay Ay) (Az Ay Ay (A4 Ay) (A5 Ay (⟨Ay, Ay, AK, ⟨_, Ay⟩, ⟨Ay, trivial⟩⟩))))))))))))))
 rintro _ ⟨q, rfl⟩
 refine A2 (Bx [1] 4 Dv ?_ ?_)
 ·refine A0 (Az Ay Ay (A3 CR Ay Ay) (Az Ay Ay (BJ (i := 0) C9 Ay Ay (GM _)) (Az Ay Ay (BE Ay Ay Ay) (Az Ay Ay (A1 Ay) (Br 25 Ay (fun g => ?_) (fun g => ?_))))))
  ·(try simp only [sd, se] at g)
   refine A6 Ay Ay Ay Ay (A3 CR Ay Ay) (A6 Ay Ay Ay Ay (BJ (i := 0) G0 Ay Ay (Cy _)) (A6 Ay Ay Ay Ay (Bo Ge Ay (List.length_map _)) (A6 Ay Ay Ay Ay (BE Ay Ay Ay) (Az Ay Ay (BC Ay Ay) (Az Ay Ay (A1 Ay) (Br 31 Ay (fun g1 => ?_) (fun g1 => ?_)))))))
   ·(try simp only [sd, se] at g1)
    exact A6 Ay Ay Ay Ay (A1 Ay) (Az Ay Ay (BC Ay Ay) (Az Ay Ay (A4 Ay) (A5 Ay (⟨Ay, Ay, AK, ⟨_, Ay⟩, ⟨Ay, trivial⟩⟩))))
   (try simp only [sd, se] at g1)
   exact A7 Ay Ay Ay Ay Ay (Az Ay Ay (BC Ay Ay) (Az Ay Ay (A4 Ay) (A5 Ay (⟨Ay, Ay, AK, ⟨_, Ay⟩, ⟨Ay, trivial⟩⟩))))
  (try simp only [sd, se] at g)
  exact A7 Ay Ay Ay Ay Ay (A7 Ay Ay Ay Ay Ay (A7 Ay Ay Ay Ay Ay (A7 Ay Ay Ay Ay Ay (Az Ay Ay (BC Ay Ay) (Az Ay Ay (A1 Ay) (A7 Ay Ay Ay Ay Ay (Az Ay Ay (BC Ay Ay) (Az Ay Ay (A4 Ay) (A5 Ay (⟨Ay, Ay, AK, ⟨_, Ay⟩, ⟨Ay, trivial⟩⟩))))))))))
 rintro _ ⟨q1, rfl⟩
 refine A2 (A2 (A0 (Az Ay Ay (A3 CR Ay Ay) (Az Ay Ay (BJ (i := 0) C9 Ay Ay (Dl _)) (A5 Ay (BT (A2 (A0 (Az Ay Ay (BE Ay Ay Ay) (Az Ay Ay (A4 Ay) (A5 Ay (BD Ay (fun c => ?_) (fun c => ?_)))))))))))))
 ·(try simp only [sd, se] at c)
  refine A2 (Bx [] 2 Dv ?_ ?_)
  ·refine A0 (Az Ay Ay (A3 CR Ay Ay) (Az Ay Ay (Cl (i := 0) BU Ay Ay (GN _) (Bd _)) (Az Ay Ay (Bp Ay Ay (JU d.value (by first | exact h1.rt.nd | exact h1.vl.nd | exact h1.ty.nd)) Ay) (Az Ay Ay (A1 Ay) (Br 41 Ay (fun g => ?_) (fun g => ?_))))))
   ·(try simp only [sd, se] at g)
    refine A6 Ay Ay Ay Ay (A1 Ay) (Az Ay Ay (BC Ay Ay) (Az Ay Ay (A1 Ay) (Br 44 Ay (fun g1 => ?_) (fun g1 => ?_))))
    ·(try simp only [sd, se] at g1)
     exact A6 Ay Ay Ay Ay (A3 CR Ay Ay) (A6 Ay Ay Ay Ay (BJ (i := 0) Fj Ay Ay (Cq _)) (A6 Ay Ay Ay Ay (Bo FP Ay (List.length_map _)) (A6 Ay Ay Ay Ay (BE Ay Ay Ay) (Az Ay Ay (BC Ay Ay) (Az Ay Ay (A4 Ay) (A5 Ay (⟨Ay, Ay, AK, ⟨_, Ay⟩, trivial⟩)))))))
    (try simp only [sd, se] at g1)
    exact A7 Ay Ay Ay Ay Ay (A7 Ay Ay Ay Ay Ay (A7 Ay Ay Ay Ay Ay (A7 Ay Ay Ay Ay Ay (Az Ay Ay (BC Ay Ay) (Az Ay Ay (A4 Ay) (A5 Ay (⟨Ay, Ay, AK, ⟨_, Ay⟩, trivial⟩)))))))
   (try simp only [sd, se] at g)
   exact A7 Ay Ay Ay Ay Ay (Az Ay Ay (BC Ay Ay) (Az Ay Ay (A1 Ay) (A7 Ay Ay Ay Ay Ay (A7 Ay Ay Ay Ay Ay (A7 Ay Ay Ay Ay Ay (A7 Ay Ay Ay Ay Ay (Az Ay Ay (BC Ay Ay) (Az Ay Ay (A4 Ay) (A5 Ay (⟨Ay, Ay, AK, ⟨_, Ay⟩, trivial⟩))))))))))
  rintro _ ⟨q2, rfl⟩
  refine BF (⟨Ay, _, _, ⟨_, _, Ay, Ay, Ay⟩, nS, ?_⟩)
  all_goals exact ⟨⟨_, rfl⟩, rfl⟩
 (try simp only [sd, se] at c)
 refine A2 (A2 (A0 (Az Ay Ay (BE Ay Ay Ay) (Az Ay Ay (A4 Ay) (A5 Ay (Bx [1, 4, 35] 50 Dv ?_ ?_))))))
 ·refine BD Ay (fun c1 => ?_) (fun c1 => ?_)
  ·(try simp only [sd, se] at c1)
   exact BG (⟨Ay, Ay, (List.Sublist.refl _), ⟨_, Ay⟩, ⟨Ay, Ay, Ay, trivial⟩⟩)
  (try simp only [sd, se] at c1)
  exact A0 (Az Ay Ay (BE Ay Ay Ay) (Az Ay Ay (A4 Ay) (A5 Ay (⟨Ay, Ay, (List.Sublist.refl _), ⟨_, Ay⟩, ⟨Ay, Ay, Ay, trivial⟩⟩))))
 rintro _ ⟨q2, rfl⟩
 refine BD Ay (fun c1 => ?_) (fun c1 => ?_)
 ·(try simp only [sd, se] at c1)
  refine A2 (Bx [] 2 Dv ?_ ?_)
  ·refine A0 (Az Ay Ay (A1 Ay) (Az Ay Ay (A1 Ay) (Br 54 Ay (fun g => ?_) (fun g => ?_))))
   ·(try simp only [sd, se] at g)
    exact A6 Ay Ay Ay Ay (A3 CR Ay Ay) (A6 Ay Ay Ay Ay (BJ (i := 0) Fj Ay Ay (Cq _)) (A6 Ay Ay Ay Ay (Bo FP Ay (List.length_map _)) (A6 Ay Ay Ay Ay (BE Ay Ay Ay) (Az Ay Ay (BC Ay Ay) (Az Ay Ay (A4 Ay) (A5 Ay (⟨Ay, Ay, AK, ⟨_, Ay⟩, trivial⟩)))))))
   (try simp only [sd, se] at g)
   exact A7 Ay Ay Ay Ay Ay (A7 Ay Ay Ay Ay Ay (A7 Ay Ay Ay Ay Ay (A7 Ay Ay Ay Ay Ay (Az Ay Ay (BC Ay Ay) (Az Ay Ay (A4 Ay) (A5 Ay (⟨Ay, Ay, AK, ⟨_, Ay⟩, trivial⟩)))))))
  rintro _ ⟨q3, rfl⟩
  refine BF (⟨Ay, _, _, ⟨_, _, Ay, Ay, Ay⟩, nS, ?_⟩)
  all_goals exact ⟨⟨_, rfl⟩, rfl⟩
 (try simp only [sd, se] at c1)
 refine A2 (A0 (Az Ay Ay (BE Ay Ay Ay) (Az Ay Ay (A4 Ay) (A5 Ay (BD Ay (fun c2 => ?_) (fun c2 => ?_))))))
 ·(try simp only [sd, se] at c2)
  refine A2 (Bx [] 2 Dv ?_ ?_)
  ·refine A0 (Az Ay Ay (A3 CR Ay Ay) (Az Ay Ay (Cl (i := 0) BU Ay Ay (GN _) (Bd _)) (Az Ay Ay (Bp Ay Ay (JU d.value (by first | exact h1.rt.nd | exact h1.vl.nd | exact h1.ty.nd)) Ay) (Az Ay Ay (A1 Ay) (Br 65 Ay (fun g => ?_) (fun g => ?_))))))
   ·(try simp only [sd, se] at g)
    exact A6 Ay Ay Ay Ay (A3 CR Ay Ay) (A6 Ay Ay Ay Ay (BJ (i := 0) Fj Ay Ay (Cq _)) (A6 Ay Ay Ay Ay (Bo FP Ay (List.length_map _)) (A6 Ay Ay Ay Ay (BE Ay Ay Ay) (Az Ay Ay (BC Ay Ay) (Az Ay Ay (A4 Ay) (A5 Ay (⟨Ay, Ay, AK, ⟨_, Ay⟩, trivial⟩)))))))
   (try simp only [sd, se] at g)
   exact A7 Ay Ay Ay Ay Ay (A7 Ay Ay Ay Ay Ay (A7 Ay Ay Ay Ay Ay (A7 Ay Ay Ay Ay Ay (Az Ay Ay (BC Ay Ay) (Az Ay Ay (A4 Ay) (A5 Ay (⟨Ay, Ay, AK, ⟨_, Ay⟩, trivial⟩)))))))
  rintro _ ⟨q3, rfl⟩
  refine BF (⟨Ay, _, _, ⟨_, _, Ay, Ay, Ay⟩, nS, ?_⟩)
  all_goals exact ⟨⟨_, rfl⟩, rfl⟩
 (try simp only [sd, se] at c2)
 refine BG (A2 (Bx [] 2 Dv ?_ ?_))
 ·refine A0 (Az Ay Ay (A3 CR Ay Ay) (Az Ay Ay (BJ (i := 0) Ev Ay Ay (Dz _)) (Az Ay Ay (F6 Ay Ay) (Az Ay Ay (A1 Ay) (Br 74 Ay (fun g => ?_) (fun g => ?_))))))
  ·(try simp only [sd, se] at g)
   refine A6 Ay Ay Ay Ay (A3 CR Ay Ay) (A6 Ay Ay Ay Ay (Cl (i := 0) BU Ay Ay (F9 _) (Bd _)) (A6 Ay Ay Ay Ay (Bp Ay Ay (JU d.type (by first | exact h1.rt.nd | exact h1.vl.nd | exact h1.ty.nd)) Ay) (Az Ay Ay (BC Ay Ay) (Az Ay Ay (A1 Ay) (Br 79 Ay (fun g1 => ?_) (fun g1 => ?_))))))
   ·(try simp only [sd, se] at g1)
    refine A6 Ay Ay Ay Ay (A3 CR Ay Ay) (A6 Ay Ay Ay Ay (Cl (i := 0) BU Ay Ay (GN _) (Bd _)) (A6 Ay Ay Ay Ay (Bp Ay Ay (JU d.value (by first | exact h1.rt.nd | exact h1.vl.nd | exact h1.ty.nd)) Ay) (Az Ay Ay (BC Ay Ay) (Az Ay Ay (A1 Ay) (Br 84 Ay (fun g2 => ?_) (fun g2 => ?_))))))
    ·(try simp only [sd, se] at g2)
     exact A6 Ay Ay Ay Ay (A1 Ay) (Az Ay Ay (BC Ay Ay) (Az Ay Ay (A4 Ay) (A5 Ay (⟨Ay, Ay, AK, ⟨_, Ay⟩, trivial⟩))))
    (try simp only [sd, se] at g2)
    exact A7 Ay Ay Ay Ay Ay (Az Ay Ay (BC Ay Ay) (Az Ay Ay (A4 Ay) (A5 Ay (⟨Ay, Ay, AK, ⟨_, Ay⟩, trivial⟩))))
   (try simp only [sd, se] at g1)
   exact A7 Ay Ay Ay Ay Ay (A7 Ay Ay Ay Ay Ay (A7 Ay Ay Ay Ay Ay (Az Ay Ay (BC Ay Ay) (Az Ay Ay (A1 Ay) (A7 Ay Ay Ay Ay Ay (Az Ay Ay (BC Ay Ay) (Az Ay Ay (A4 Ay) (A5 Ay (⟨Ay, Ay, AK, ⟨_, Ay⟩, trivial⟩)))))))))
  (try simp only [sd, se] at g)
  exact A7 Ay Ay Ay Ay Ay (A7 Ay Ay Ay Ay Ay (A7 Ay Ay Ay Ay Ay (Az Ay Ay (BC Ay Ay) (Az Ay Ay (A1 Ay) (A7 Ay Ay Ay Ay Ay (A7 Ay Ay Ay Ay Ay (A7 Ay Ay Ay Ay Ay (Az Ay Ay (BC Ay Ay) (Az Ay Ay (A1 Ay) (A7 Ay Ay Ay Ay Ay (Az Ay Ay (BC Ay Ay) (Az Ay Ay (A4 Ay) (A5 Ay (⟨Ay, Ay, AK, ⟨_, Ay⟩, trivial⟩))))))))))))))
 rintro _ ⟨q3, rfl⟩
 refine BF (⟨Ay, _, _, ⟨_, _, Ay, Ay, Ay⟩, nS, ?_⟩)
 all_goals exact ⟨⟨_, rfl⟩, rfl⟩
theorem Nq : ∀ (t : Tm), (Nd t) → E1 Tryz.prog 149 [.agg ((Bu t).map .p)] (Lb) := by
 intro t h1
 refine BH Tryz.func149 Ay cK (n := 20) Ay Ay (A2 (A0 (BP Ay Ay (Bj Ay) fun b1 => Az Ay Ay (A4 Ay) (A5 Ay (A2 (A0 (Az Ay Ay (A4 Ay) (A5 Ay (A2 (BT (B4 (α := Tm × Int) (fun (y, m) => ⟨20, mk [(1, .ptr b1 0), (3, .p (I m))], [.box b1 ((Bu y).map .p)], []⟩) (fun (y, m) => size y) (fun (y, m) => Nd y) ⟨t, 0⟩ (h1) ?_ ?_)))))))))))
 ·exact By ⟨we Ay, we Ay, trivial⟩ (leH (is := [0]) Ay (wl (oe Ay) (Dc)))
 rintro ⟨y, m⟩ hC
 try simp only at hC
 refine A2 (A2 ?_)
 obtain ⟨yk, yi, yn, yl, ys⟩ := y
 refine Bx [1, 3] 12 (fun y => y = .p (.bool (((yk : Int) == (6 : Int)) && (((ys.length : Nat) : Int) == (2 : Int))))) ?_ ?_
 ·refine A0 (Az Ay Ay (A3 CV Ay Ay) (Az Ay Ay (A9 (i := 0) C9 Ay Ay Ay) (Az Ay Ay (BE Ay Ay Ay) (Az Ay Ay (A1 Ay) (Br 7 Ay (fun g => ?_) (fun g => ?_))))))
  ·(try simp only [sd, se] at g)
   exact A6 Ay Ay Ay Ay (A3 CV Ay Ay) (A6 Ay Ay Ay Ay (A9 (i := 0) DG Ay Ay Ay) (A6 Ay Ay Ay Ay (Bo CL Ay (B5 _)) (A6 Ay Ay Ay Ay (BE Ay Ay Ay) (Az Ay Ay (BC Ay Ay) (A5 Ay (⟨Ay, Ay, AK, AJ, ⟨Ay, Ay, trivial⟩⟩))))))
  (try simp only [sd, se] at g)
  exact A7 Ay Ay Ay Ay Ay (A7 Ay Ay Ay Ay Ay (A7 Ay Ay Ay Ay Ay (A7 Ay Ay Ay Ay Ay (Az Ay Ay (BC Ay Ay) (A5 Ay (⟨Ay, Ay, AK, AJ, ⟨Ay, Ay, trivial⟩⟩))))))
 rintro _ rfl
 refine BD Ay (fun c => ?_) (fun c => ?_)
 ·(try simp only [sd, se] at c)
  refine BG (BT (A2 (A0 (Az Ay Ay (A1 Ay) (Az Ay Ay (EE Ay Ay) (Az Ay Ay (A4 Ay) (A5 Ay (A0 (Az Ay Ay (A3 CV Ay Ay) (Az Ay Ay (A9 (i := 0) DG Ay Ay Ay) ?_))))))))))
  obtain ⟨x, hx⟩ := BO (l := ys) (i := 1) (by first | omega | (simp at c; omega))
  refine Az Ay Ay (BI CL Ay Ay Aw (CU hx) (Bd _)) (Az Ay Ay (Bq BU Ay (Bd _)) (Az Ay Ay (BB (i := 0) BU Ay Ay Ay Am Ac (CN _)) (A5 Ay (⟨⟨x, wr ((m : Int) + (1 : Int))⟩, (by have := DM hx; simp only [size]; omega), (D7 hC.2.2.2.2.1 hx), By ⟨we Ay, we Ay, trivial⟩ (leH (is := [0]) Ay (wl (oe Ay) (Dc)))⟩))))
 (try simp only [sd, se] at c)
 refine B7 (A2 (A0 (Az Ay Ay (A1 Ay) (Az Ay Ay (A4 Ay) (A5 Ay (BF (⟨Ay, _, _, ⟨_, _, Ay, Ay, Ay⟩, nS, ?_⟩)))))))
 all_goals exact ⟨⟨_, rfl⟩, rfl⟩
theorem Qm : ∀ (d : Dt), (Rl d) → E1 Tryz.prog 137 [.agg ((Ci d).map .p)] (Dv) := by
 intro d h1
 have hcl := h1.cl
 refine BH Tryz.func137 Ay bt (n := 32) Ay Ay (A2 (A0 (BP Ay Ay (Bj Ay) fun b1 => Az Ay Ay (A4 Ay) (A5 Ay (A2 (CW (fun k => Nat.beq k 2) ED (BA Ay Ay (fun _ => A3 CR Ay Ay) trivial (Ba (j := 0) Ay Ay Ay (fun H i hi => Cl (i := i) BU Ay hi (F9 _) (Bd _)) AA trivial (JD [(3, .free (.ptr b1 13)), (4, .read [.box b1 ((Ci d).map .p)] (.p (I d.fixed)))] Ay Ay (Bb Ay Ay (Nq d.type h1.ty.nd) (.inl Ay)) Ar (⟨_, 0, Ay⟩) AA ?_)))))))))
 rintro _ ⟨e, rfl⟩
 refine ⟨trivial, ?_⟩
 refine BA Ay Ay (fun _ => A3 CR Ay Ay) AN (Ba (j := 0) Ay Ay Ay (fun H i hi => BJ (i := i) C9 Ay hi (GM _)) AA AN (BA Ay Ay (fun _ => BE Ay Ay Ay) AN (BA Ay Ay (fun _ => A4 Ay) AN (CP Ay Ar (A2 (A2 (A0 (Az Ay Ay (A4 Ay) (A5 Ay (BT (B4 (α := Nat × Bool) (fun (i, b) => ⟨32, mk [(1, .ptr b1 0), (3, .p (.bool b)), (4, .p (I (i : Int)))], [.box b1 ((Ci d).map .p)], []⟩) (fun (i, b) => d.ctors.length - i) (fun (i, b) => i ≤ d.ctors.length) ⟨0, (decide ((e : Int) ≥ (d.fixed : Int)))⟩ AS ?_ ?_)))))))))))
 ·exact By ⟨we Ay, we Ay, we Ay, trivial⟩ (leH (is := [0]) Ay (wl (oe Ay) (Dc)))
 rintro ⟨i, b⟩ hC
 try simp only at hC
 have hi := hC
 refine A2 (A2 (A0 (Az Ay Ay (A1 Ay) (Az Ay Ay (A3 CR Ay Ay) (Az Ay Ay (BJ (i := 0) G0 Ay Ay (Cy _)) (Az Ay Ay (Bo Ge Ay (List.length_map _)) (Az Ay Ay (BE Ay Ay Ay) (A5 Ay (BD Ay (fun c => ?_) (fun c => ?_))))))))))
 ·(try simp only [sd, se] at c)
  refine BG (A2 (BT (Bx [1, 4] 3 Dv ?_ ?_)))
  ·refine CW (fun k => Nat.beq k 8) ED (BA Ay Ay (fun _ => A1 Ay) trivial (BA Ay Ay (fun _ => A1 Ay) trivial (J1 19 Ay (fun g => ?_) (fun g => ?_))))
   ·(try simp only [sd, se] at g)
    refine CI Ay Ay Ay Ay (fun _ => A3 CR Ay Ay) trivial (Da (i := 0) Ay Ay Ay Ay Ay (fun H i hi => BJ (i := i) G0 Ay hi (Cy _)) AA trivial (CI Ay Ay Ay Ay (fun _ => A1 Ay) trivial ?_))
    obtain ⟨x, hx⟩ := BO (l := d.ctors) (i := i) Aw
    refine CI Ay Ay Ay Ay (fun _ => BI Ge Ay Ay Aw (F5 hx) (Eh _)) trivial (CI Ay Ay Ay Ay (fun _ => CM LY Ay Ay) trivial (CI Ay Ay Ay Ay (fun _ => D4 BU Ay (F8 _) (Bd _)) trivial (Xz [(9, .free (.ptr b1 13)), (10, .read [.box b1 ((Ci d).map .p)] (.p (I d.fixed)))] Ay Ay Ay Ay (Bb Ay Ay (Nq x.type (h1.cs _ (List.mem_of_getElem? hx)).ty.nd) (.inl Ay)) Ar (⟨_, 0, Ay⟩) AA ?_)))
    rintro _ ⟨e1, rfl⟩
    refine ⟨trivial, ?_⟩
    exact CI Ay Ay Ay Ay (fun _ => A3 CR Ay Ay) AN (Da (i := 0) Ay Ay Ay Ay Ay (fun H i hi => BJ (i := i) C9 Ay hi (GM _)) AA AN (CI Ay Ay Ay Ay (fun _ => BE Ay Ay Ay) AN (BA Ay Ay (fun _ => BC Ay Ay) AN (BA Ay Ay (fun _ => A4 Ay) AN (CP Ay Ar (⟨Ay, Ay, AK, ⟨_, Ay⟩, ⟨Ay, Ay, trivial⟩⟩))))))
   (try simp only [sd, se] at g)
   exact CY Ay Ay Ay Ay Ay AN (CY Ay Ay Ay Ay Ay AN (CY Ay Ay Ay Ay Ay AN (CY Ay Ay Ay Ay Ay AN (CY Ay Ay Ay Ay Ay AN (CY Ay Ay Ay Ay Ay AN (Wy Ay Ay Ay Ay AN (CY Ay Ay Ay Ay Ay AN (CY Ay Ay Ay Ay Ay AN (CY Ay Ay Ay Ay Ay AN (BA Ay Ay (fun _ => BC Ay Ay) AN (BA Ay Ay (fun _ => A4 Ay) AN (CP Ay Ar (⟨Ay, Ay, AK, ⟨_, Ay⟩, ⟨Ay, Ay, trivial⟩⟩)))))))))))))
  rintro _ ⟨q, rfl⟩
  refine A0 (Az Ay Ay (A1 Ay) (Az Ay Ay (CH Ay Ay Aw Aw) (Az Ay Ay (A4 Ay) (A5 Ay ?_))))
  refine ⟨⟨i + 1, q⟩, AZ, by omega, By ⟨we rfl, we rfl, we rfl, trivial⟩ (leH (is := [0]) rfl (wl (oe rfl) (Dc)))⟩
 (try simp only [sd, se] at c)
 refine B7 (A2 (A0 (Az Ay Ay (A1 Ay) (Az Ay Ay (A4 Ay) (A5 Ay (BF (⟨Ay, _, _, ⟨_, _, Ay, Ay, Ay⟩, nS, ?_⟩)))))))
 all_goals exact ⟨⟨_, rfl⟩, rfl⟩
theorem Sv : ∀ (d : Dt), (Rl d) → E1 Tryz.prog 108 [.agg ((Ci d).map .p)] (Lb) := by
 intro d h1
 have hfl := h1.fl
 refine BH Tryz.func108 Ay dk (n := 96) Ay Ay (A2 (A0 (BP Ay Ay (Bj Ay) fun b1 => Az Ay Ay (A4 Ay) (A5 Ay (A2 (A2 (Bx [1] 16 Dv ?_ ?_)))))))
 ·refine A0 (Az Ay Ay (A3 CR Ay Ay) (Az Ay Ay (BJ (i := 0) C9 Ay Ay (C4 _)) (Az Ay Ay (BE Ay Ay Ay) (Az Ay Ay (A1 Ay) (Br 7 Ay (fun g => ?_) (fun g => ?_))))))
  ·(try simp only [sd, se] at g)
   exact A7 Ay Ay Ay Ay Ay (A7 Ay Ay Ay Ay Ay (A7 Ay Ay Ay Ay Ay (Az Ay Ay (BC Ay Ay) (Az Ay Ay (A1 Ay) (A7 Ay Ay Ay Ay Ay (A7 Ay Ay Ay Ay Ay (A7 Ay Ay Ay Ay Ay (Az Ay Ay (BC Ay Ay) (A5 Ay (⟨Ay, Ay, AK, ⟨_, Ay⟩, ⟨Ay, trivial⟩⟩))))))))))
  (try simp only [sd, se] at g)
  refine A6 Ay Ay Ay Ay (A3 CR Ay Ay) (A6 Ay Ay Ay Ay (BJ (i := 0) C9 Ay Ay (C4 _)) (A6 Ay Ay Ay Ay (BE Ay Ay Ay) (Az Ay Ay (BC Ay Ay) (Az Ay Ay (A1 Ay) (Br 12 Ay (fun g1 => ?_) (fun g1 => ?_))))))
  ·(try simp only [sd, se] at g1)
   exact A7 Ay Ay Ay Ay Ay (A7 Ay Ay Ay Ay Ay (A7 Ay Ay Ay Ay Ay (Az Ay Ay (BC Ay Ay) (A5 Ay (⟨Ay, Ay, AK, ⟨_, Ay⟩, ⟨Ay, trivial⟩⟩)))))
  (try simp only [sd, se] at g1)
  exact A6 Ay Ay Ay Ay (A3 CR Ay Ay) (A6 Ay Ay Ay Ay (BJ (i := 0) C9 Ay Ay (GM _)) (A6 Ay Ay Ay Ay (BE Ay Ay Ay) (Az Ay Ay (BC Ay Ay) (A5 Ay (⟨Ay, Ay, AK, ⟨_, Ay⟩, ⟨Ay, trivial⟩⟩)))))
 rintro _ ⟨q, rfl⟩
 refine BD Ay (fun c => ?_) (fun c => ?_)
 ·(try simp only [sd, se] at c)
  refine A2 (A0 (Az Ay Ay (A4 Ay) (A5 Ay (BF (⟨Ay, _, _, ⟨_, _, Ay, Ay, Ay⟩, nS, ?_⟩)))))
  all_goals exact ⟨⟨_, rfl⟩, rfl⟩
 (try simp only [sd, se] at c)
 refine BG (A2 (A2 (Bx [1] 37 Dv ?_ ?_)))
 ·refine A0 (Az Ay Ay (A3 CR Ay Ay) (Az Ay Ay (BJ (i := 0) G0 Ay Ay (Cy _)) (Az Ay Ay (Bo Ge Ay (List.length_map _)) (Az Ay Ay (BE Ay Ay Ay) (Az Ay Ay (A1 Ay) (Br 21 Ay (fun g => ?_) (fun g => ?_)))))))
  ·(try simp only [sd, se] at g)
   exact A7 Ay Ay Ay Ay Ay (A7 Ay Ay Ay Ay Ay (A7 Ay Ay Ay Ay Ay (A7 Ay Ay Ay Ay Ay (CD Ay Ay Ay Ay (CD Ay Ay Ay Ay (CD Ay Ay Ay Ay (CD Ay Ay Ay Ay (CD Ay Ay Ay Ay (CD Ay Ay Ay Ay (CD Ay Ay Ay Ay (CD Ay Ay Ay Ay (CD Ay Ay Ay Ay (CD Ay Ay Ay Ay (A7 Ay Ay Ay Ay Ay (Az Ay Ay (BC Ay Ay) (A5 Ay (⟨Ay, Ay, AK, ⟨_, Ay⟩, ⟨Ay, trivial⟩⟩)))))))))))))))))
  (try simp only [sd, se] at g)
  refine A6 Ay Ay Ay Ay (A3 CR Ay Ay) (A6 Ay Ay Ay Ay (BJ (i := 0) C9 Ay Ay (Dl _)) (A6 Ay Ay Ay Ay (BE Ay Ay Ay) (A6 Ay Ay Ay Ay (A1 Ay) (Br 25 Ay (fun g1 => ?_) (fun g1 => ?_)))))
  ·(try simp only [sd, se] at g1)
   refine A6 Ay Ay Ay Ay (A3 CR Ay Ay) (A6 Ay Ay Ay Ay (BJ (i := 0) Fj Ay Ay (Cq _)) (A6 Ay Ay Ay Ay (Bo FP Ay (List.length_map _)) (A6 Ay Ay Ay Ay (BE Ay Ay Ay) (A6 Ay Ay Ay Ay (A1 Ay) (Br 30 Ay (fun g2 => ?_) (fun g2 => ?_))))))
   ·(try simp only [sd, se] at g2)
    exact A7 Ay Ay Ay Ay Ay (A7 Ay Ay Ay Ay Ay (A7 Ay Ay Ay Ay Ay (A7 Ay Ay Ay Ay Ay (A6 Ay Ay Ay Ay (BC Ay Ay) (A6 Ay Ay Ay Ay (BC Ay Ay) (Az Ay Ay (BC Ay Ay) (A5 Ay (⟨Ay, Ay, AK, ⟨_, Ay⟩, ⟨Ay, trivial⟩⟩))))))))
   (try simp only [sd, se] at g2)
   exact A6 Ay Ay Ay Ay (A3 CR Ay Ay) (A6 Ay Ay Ay Ay (BJ (i := 0) Fj Ay Ay (Cq _)) (A6 Ay Ay Ay Ay (Bo FP Ay (List.length_map _)) (A6 Ay Ay Ay Ay (BE Ay Ay Ay) (A6 Ay Ay Ay Ay (BC Ay Ay) (A6 Ay Ay Ay Ay (BC Ay Ay) (Az Ay Ay (BC Ay Ay) (A5 Ay (⟨Ay, Ay, AK, ⟨_, Ay⟩, ⟨Ay, trivial⟩⟩))))))))
  (try simp only [sd, se] at g1)
  exact A7 Ay Ay Ay Ay Ay (A7 Ay Ay Ay Ay Ay (A7 Ay Ay Ay Ay Ay (A7 Ay Ay Ay Ay Ay (A7 Ay Ay Ay Ay Ay (CD Ay Ay Ay Ay (CD Ay Ay Ay Ay (CD Ay Ay Ay Ay (CD Ay Ay Ay Ay (A7 Ay Ay Ay Ay Ay (A6 Ay Ay Ay Ay (BC Ay Ay) (Az Ay Ay (BC Ay Ay) (A5 Ay (⟨Ay, Ay, AK, ⟨_, Ay⟩, ⟨Ay, trivial⟩⟩)))))))))))))
 rintro _ ⟨q1, rfl⟩
 refine BD Ay (fun c1 => ?_) (fun c1 => ?_)
 ·(try simp only [sd, se] at c1)
  refine A2 (A0 (Az Ay Ay (A4 Ay) (A5 Ay (BF (⟨Ay, _, _, ⟨_, _, Ay, Ay, Ay⟩, nS, ?_⟩)))))
  all_goals exact ⟨⟨_, rfl⟩, rfl⟩
 (try simp only [sd, se] at c1)
 refine BG (A2 (A2 (A0 (Az Ay Ay (A4 Ay) (A5 Ay (BT (B4 (α := Nat) (fun i => ⟨96, mk [(1, .ptr b1 0), (3, .p (I (i : Int)))], [.box b1 ((Ci d).map .p)], []⟩) (fun i => d.funs.length - i) (fun i => i ≤ d.funs.length) 0 AS ?_ ?_)))))))
 ·exact By ⟨we Ay, we Ay, trivial⟩ (leH (is := [0]) Ay (wl (oe Ay) (Dc)))
 rintro i hC
 try simp only at hC
 have hi := hC
 refine A2 (A2 (A0 (Az Ay Ay (A1 Ay) (Az Ay Ay (A3 CR Ay Ay) (Az Ay Ay (BJ (i := 0) Fj Ay Ay (Cq _)) (Az Ay Ay (Bo FP Ay (List.length_map _)) (Az Ay Ay (BE Ay Ay Ay) (A5 Ay (BD Ay (fun c2 => ?_) (fun c2 => ?_))))))))))
 ·(try simp only [sd, se] at c2)
  refine BG (A2 (BT (A2 (Bx [1, 3] 60 Dv ?_ ?_))))
  ·refine A0 (Az Ay Ay (A3 CR Ay Ay) (Az Ay Ay (BJ (i := 0) Fj Ay Ay (Cq _)) (Az Ay Ay (A1 Ay) ?_)))
   obtain ⟨x, hx⟩ := BO (l := d.funs) (i := i) Aw
   refine Az Ay Ay (BI FP Ay Ay Aw (FY hx) (Ec _)) (Az Ay Ay (CM Jc Ay Ay) (Az Ay Ay (EP C9 Ay (I9 _)) (Az Ay Ay (BE Ay Ay Ay) (Az Ay Ay (A1 Ay) (Br 52 Ay (fun g => ?_) (fun g => ?_))))))
   ·(try simp only [sd, se] at g)
    exact A7 Ay Ay Ay Ay Ay (A7 Ay Ay Ay Ay Ay (A7 Ay Ay Ay Ay Ay (A7 Ay Ay Ay Ay Ay (A7 Ay Ay Ay Ay Ay (A7 Ay Ay Ay Ay Ay (A7 Ay Ay Ay Ay Ay (Az Ay Ay (BC Ay Ay) (A5 Ay (⟨Ay, Ay, AK, ⟨_, Ay⟩, ⟨Ay, Ay, trivial⟩⟩)))))))))
   (try simp only [sd, se] at g)
   exact A6 Ay Ay Ay Ay (A3 CR Ay Ay) (A6 Ay Ay Ay Ay (BJ (i := 0) Fj Ay Ay (Cq _)) (A6 Ay Ay Ay Ay (A1 Ay) (A6 Ay Ay Ay Ay (BI FP Ay Ay Aw (FY hx) (Ec _)) (A6 Ay Ay Ay Ay (CM Jc Ay Ay) (A6 Ay Ay Ay Ay (EP C9 Ay (I9 _)) (A6 Ay Ay Ay Ay (BE Ay Ay Ay) (Az Ay Ay (BC Ay Ay) (A5 Ay (⟨Ay, Ay, AK, ⟨_, Ay⟩, ⟨Ay, Ay, trivial⟩⟩)))))))))
  rintro _ ⟨q2, rfl⟩
  refine BD Ay (fun c3 => ?_) (fun c3 => ?_)
  ·(try simp only [sd, se] at c3)
   refine A2 (A0 (Az Ay Ay (A4 Ay) (A5 Ay (BF (⟨Ay, _, _, ⟨_, _, Ay, Ay, Ay⟩, nS, ?_⟩)))))
   all_goals exact ⟨⟨_, rfl⟩, rfl⟩
  (try simp only [sd, se] at c3)
  refine BG (A0 (Az Ay Ay (A1 Ay) (Az Ay Ay (CH Ay Ay Aw Aw) (Az Ay Ay (A4 Ay) (A5 Ay ?_)))))
  refine ⟨(i + 1), AZ, by omega, By ⟨we rfl, we rfl, trivial⟩ (leH (is := [0]) rfl (wl (oe rfl) (Dc)))⟩
 (try simp only [sd, se] at c2)
 refine B7 (A2 (A2 (Bx [] 95 Dv ?_ ?_)))
 ·refine A0 (Az Ay Ay (A3 CR Ay Ay) (Az Ay Ay (BJ (i := 0) C9 Ay Ay (Dl _)) (Az Ay Ay (BE Ay Ay Ay) (Az Ay Ay (A1 Ay) (Br 64 Ay (fun g => ?_) (fun g => ?_))))))
  ·(try simp only [sd, se] at g)
   refine A6 Ay Ay Ay Ay (A3 CR Ay Ay) (A6 Ay Ay Ay Ay (A3 Ga Ay Ay) (A6 Ay Ay Ay Ay (BJ (i := 0) C9 Ay Ay (DS _)) (A6 Ay Ay Ay Ay (A3 CR Ay Ay) (A6 Ay Ay Ay Ay (BJ (i := 0) C9 Ay Ay (C4 _)) (A6 Ay Ay Ay Ay (BE Ay Ay Ay) (A6 Ay Ay Ay Ay (A1 Ay) (Br 71 Ay (fun g1 => ?_) (fun g1 => ?_))))))))
   ·(try simp only [sd, se] at g1)
    refine A6 Ay Ay Ay Ay (A3 CR Ay Ay) (A6 Ay Ay Ay Ay (A3 Ga Ay Ay) (A6 Ay Ay Ay Ay (BJ (i := 0) C9 Ay Ay (DS _)) (A6 Ay Ay Ay Ay (A3 CR Ay Ay) (A6 Ay Ay Ay Ay (BJ (i := 0) C9 Ay Ay (C4 _)) (A6 Ay Ay Ay Ay (EE Ay Ay) (A6 Ay Ay Ay Ay (BE Ay Ay Ay) (A6 Ay Ay Ay Ay (BC Ay Ay) (A6 Ay Ay Ay Ay (A1 Ay) (Br 80 Ay (fun g2 => ?_) (fun g2 => ?_))))))))))
    ·(try simp only [sd, se] at g2)
     exact A7 Ay Ay Ay Ay Ay (A7 Ay Ay Ay Ay Ay (A7 Ay Ay Ay Ay Ay (A7 Ay Ay Ay Ay Ay (A7 Ay Ay Ay Ay Ay (A7 Ay Ay Ay Ay Ay (A7 Ay Ay Ay Ay Ay (A7 Ay Ay Ay Ay Ay (A6 Ay Ay Ay Ay (BC Ay Ay) (A6 Ay Ay Ay Ay (A1 Ay) (A7 Ay Ay Ay Ay Ay (A7 Ay Ay Ay Ay Ay (A7 Ay Ay Ay Ay Ay (A6 Ay Ay Ay Ay (BC Ay Ay) (Az Ay Ay (BC Ay Ay) (A5 Ay (⟨Ay, Ay, AK, ⟨_, Ay⟩, trivial⟩))))))))))))))))
    (try simp only [sd, se] at g2)
    refine A6 Ay Ay Ay Ay (A3 CR Ay Ay) (A6 Ay Ay Ay Ay (A3 Ga Ay Ay) (A6 Ay Ay Ay Ay (BJ (i := 0) DG Ay Ay (DO _)) (A6 Ay Ay Ay Ay (Bo CL Ay (B5 _)) (A6 Ay Ay Ay Ay (A3 CR Ay Ay) (A6 Ay Ay Ay Ay (BJ (i := 0) G0 Ay Ay (Cy _)) (A6 Ay Ay Ay Ay (Bo Ge Ay (List.length_map _)) (A6 Ay Ay Ay Ay (BE Ay Ay Ay) (A6 Ay Ay Ay Ay (BC Ay Ay) (A6 Ay Ay Ay Ay (A1 Ay) (Br 90 Ay (fun g3 => ?_) (fun g3 => ?_)))))))))))
    ·(try simp only [sd, se] at g3)
     exact A7 Ay Ay Ay Ay Ay (A7 Ay Ay Ay Ay Ay (A7 Ay Ay Ay Ay Ay (A6 Ay Ay Ay Ay (BC Ay Ay) (Az Ay Ay (BC Ay Ay) (A5 Ay (⟨Ay, Ay, AK, ⟨_, Ay⟩, trivial⟩))))))
    (try simp only [sd, se] at g3)
    refine A6 Ay Ay Ay Ay (A8 (i := 0) GG Ay Ay An) (IN Ay Ay Ay Ay (Bb Ay Ay (Qm d h1) (.inl Ay)) ?_)
    rintro _ ⟨q2, rfl⟩
    exact A6 Ay Ay Ay Ay (Cp Ay) (A6 Ay Ay Ay Ay (BC Ay Ay) (Az Ay Ay (BC Ay Ay) (A5 Ay (⟨Ay, Ay, AK, ⟨_, Ay⟩, trivial⟩))))
   (try simp only [sd, se] at g1)
   refine A7 Ay Ay Ay Ay Ay (A7 Ay Ay Ay Ay Ay (A7 Ay Ay Ay Ay Ay (A7 Ay Ay Ay Ay Ay (A7 Ay Ay Ay Ay Ay (A7 Ay Ay Ay Ay Ay (A7 Ay Ay Ay Ay Ay (A6 Ay Ay Ay Ay (BC Ay Ay) (A6 Ay Ay Ay Ay (A1 Ay) (A6 Ay Ay Ay Ay (A3 CR Ay Ay) (A6 Ay Ay Ay Ay (A3 Ga Ay Ay) (A6 Ay Ay Ay Ay (BJ (i := 0) DG Ay Ay (DO _)) (A6 Ay Ay Ay Ay (Bo CL Ay (B5 _)) (A6 Ay Ay Ay Ay (A3 CR Ay Ay) (A6 Ay Ay Ay Ay (BJ (i := 0) G0 Ay Ay (Cy _)) (A6 Ay Ay Ay Ay (Bo Ge Ay (List.length_map _)) (A6 Ay Ay Ay Ay (BE Ay Ay Ay) (A6 Ay Ay Ay Ay (BC Ay Ay) (A6 Ay Ay Ay Ay (A1 Ay) (Br 90 Ay (fun g2 => ?_) (fun g2 => ?_))))))))))))))))))))
   ·(try simp only [sd, se] at g2)
    exact A7 Ay Ay Ay Ay Ay (A7 Ay Ay Ay Ay Ay (A7 Ay Ay Ay Ay Ay (A6 Ay Ay Ay Ay (BC Ay Ay) (Az Ay Ay (BC Ay Ay) (A5 Ay (⟨Ay, Ay, AK, ⟨_, Ay⟩, trivial⟩))))))
   (try simp only [sd, se] at g2)
   refine A6 Ay Ay Ay Ay (A8 (i := 0) GG Ay Ay An) (IN Ay Ay Ay Ay (Bb Ay Ay (Qm d h1) (.inl Ay)) ?_)
   rintro _ ⟨q2, rfl⟩
   exact A6 Ay Ay Ay Ay (Cp Ay) (A6 Ay Ay Ay Ay (BC Ay Ay) (Az Ay Ay (BC Ay Ay) (A5 Ay (⟨Ay, Ay, AK, ⟨_, Ay⟩, trivial⟩))))
  (try simp only [sd, se] at g)
  exact A7 Ay Ay Ay Ay Ay (A7 Ay Ay Ay Ay Ay (A7 Ay Ay Ay Ay Ay (A7 Ay Ay Ay Ay Ay (A7 Ay Ay Ay Ay Ay (A7 Ay Ay Ay Ay Ay (A7 Ay Ay Ay Ay Ay (CD Ay Ay Ay Ay (CD Ay Ay Ay Ay (CD Ay Ay Ay Ay (CD Ay Ay Ay Ay (CD Ay Ay Ay Ay (CD Ay Ay Ay Ay (CD Ay Ay Ay Ay (A7 Ay Ay Ay Ay Ay (A7 Ay Ay Ay Ay Ay (CD Ay Ay Ay Ay (CD Ay Ay Ay Ay (CD Ay Ay Ay Ay (CD Ay Ay Ay Ay (CD Ay Ay Ay Ay (CD Ay Ay Ay Ay (CD Ay Ay Ay Ay (CD Ay Ay Ay Ay (A7 Ay Ay Ay Ay Ay (A7 Ay Ay Ay Ay Ay (CD Ay Ay Ay Ay (CD Ay Ay Ay Ay (CD Ay Ay Ay Ay (A7 Ay Ay Ay Ay Ay (Az Ay Ay (BC Ay Ay) (A5 Ay (⟨Ay, Ay, AK, ⟨_, Ay⟩, trivial⟩))))))))))))))))))))))))))))))))
 rintro _ ⟨q2, rfl⟩
 refine BD Ay (fun c3 => ?_) (fun c3 => ?_)
 ·(try simp only [sd, se] at c3)
  refine A2 (A0 (Az Ay Ay (A4 Ay) (A5 Ay (BF (⟨Ay, _, _, ⟨_, _, Ay, Ay, Ay⟩, nS, ?_⟩)))))
  all_goals exact ⟨⟨_, rfl⟩, rfl⟩
 (try simp only [sd, se] at c3)
 refine BG (A2 (A0 (Az Ay Ay (A4 Ay) (A5 Ay (BF (⟨Ay, _, _, ⟨_, _, Ay, Ay, Ay⟩, nS, ?_⟩))))))
 all_goals exact ⟨⟨_, rfl⟩, rfl⟩
theorem Pr : ∀ (ds : List Dt) (d : Dt), (IB ds) → (Rl d) → E1 Tryz.prog 109 [.p (.lst (List.map Ci ds)), .agg ((Ci d).map .p)] (Lb) := by
 intro ds d h1 h2
 have hn := Ly d
 have hcl := h2.cl
 have hfl := h2.fl
 refine BH Tryz.func109 Ay bV (n := 44) Ay Ay (A2 (A0 (BP Ay Ay (Bj Ay) fun b3 => Az Ay Ay (A4 Ay) (A5 Ay (A2 (A0 (Az Ay Ay (A8 (i := 0) GG Ay Ay An) (Az Ay Ay (Bp Ay Ay (K8 d h2.cl h2.fl h2.nm) Ay) (Az Ay Ay (A4 Ay) (A5 Ay (A2 (A2 (A0 (Az Ay Ay (A4 Ay) (A5 Ay (BT (B4 (α := Nat) (fun i => ⟨44, mk [(0, .p (.lst (List.map Ci ds))), (5, .p (.lst (List.map CZ (C8 d)))), (6, .p (I (i : Int)))], [], []⟩) (fun i => (C8 d).length - i) (fun i => i ≤ (C8 d).length) 0 AS ?_ ?_)))))))))))))))))
 ·exact By ⟨we Ay, we Ay, we Ay, trivial⟩ (leH (is := []) Ay (Dc))
 rintro i hC
 try simp only at hC
 have hi := hC
 refine A2 (A2 (A0 (Az Ay Ay (A1 Ay) (Az Ay Ay (A1 Ay) (Az Ay Ay (Bo EL Ay (List.length_map _)) (Az Ay Ay (BE Ay Ay Ay) (A5 Ay (BD Ay (fun c => ?_) (fun c => ?_)))))))))
 ·(try simp only [sd, se] at c)
  refine BG (A2 (BT (A2 (A2 (A0 (Az Ay Ay (A1 Ay) (Az Ay Ay (A1 Ay) ?_)))))))
  obtain ⟨x, hx⟩ := BO (l := C8 d) (i := i) Aw
  refine Az Ay Ay (BI EL Ay Ay Aw (Hv hx) (Ay)) (Az Ay Ay (CQ Ev Ay) (Du Ay Ay (Bb Ay Ay (T4 x (VX h2 hx)) (.inl Ay)) ?_))
  rintro _ ⟨b, rfl, hb⟩
  refine Az Ay Ay (Cp Ay) (A5 Ay (BD Ay (fun c1 => ?_) (fun c1 => ?_)))
  ·(try simp only [sd, se] at c1)
   refine A2 (A0 (Az Ay Ay (A4 Ay) (A5 Ay (BF (⟨Ay, _, _, ⟨_, _, Ay, Ay, Ay⟩, nS, ?_⟩)))))
   all_goals exact ⟨⟨_, rfl⟩, rfl⟩
  (try simp only [sd, se] at c1)
  refine BG (A2 (A0 (Az Ay Ay (A1 Ay) (Az Ay Ay (A1 Ay) (Az Ay Ay (A1 Ay) (Az Ay Ay (BI EL Ay Ay Aw (Hv hx) (Ay)) (Az Ay Ay (CQ Ev Ay) (Az Ay Ay (Bp Ay Ay (Ml ds x h1) Ay) (Az Ay Ay (A1 Ay) (Az Ay Ay (Bi Ay Ay) (Az Ay Ay (Bi Ay Ay) (BP Ay Ay (BN JB Ay) fun b7 => Az Ay Ay (BB (i := 0) FC Ay Ay Ay Ao Ad (EK _)) (Az Ay Ay (A4 Ay) (A5 Ay (A2 (Bx [0, 5, 6] 43 Dv ?_ ?_))))))))))))))))
  ·refine CW (fun k => false) ED (BA Ay Ay (fun _ => A1 Ay) trivial (BA Ay Ay (fun _ => BE Ay Ay Ay) trivial (BA Ay Ay (fun _ => A1 Ay) trivial (J1 34 Ay (fun g => ?_) (fun g => ?_)))))
   ·(try simp only [sd, se] at g)
    exact CY Ay Ay Ay Ay Ay trivial (CY Ay Ay Ay Ay Ay trivial (CY Ay Ay Ay Ay Ay trivial (CY Ay Ay Ay Ay Ay trivial (CY Ay Ay Ay Ay Ay trivial (CY Ay Ay Ay Ay Ay trivial (CY Ay Ay Ay Ay Ay trivial (CY Ay Ay Ay Ay Ay trivial (BA Ay Ay (fun _ => BC Ay Ay) trivial (CP Ay Ar (⟨Ay, Ay, AK, ⟨_, Ay⟩, ⟨Ay, Ay, Ay, trivial⟩⟩))))))))))
   (try simp only [sd, se] at g)
   exact CI Ay Ay Ay Ay (fun _ => A1 Ay) trivial (CI Ay Ay Ay Ay (fun _ => A1 Ay) trivial (CI Ay Ay Ay Ay (fun _ => Dk (lo := 0) (hi := i) EL Ay (B9 (E8 _)) Ay ⟨_, Ay⟩ (Nat.zero_le _) AU (Pb (f := CZ) (C8 d) i)) trivial (CI Ay Ay Ay Ay (fun _ => A1 Ay) trivial (CI Ay Ay Ay Ay (fun _ => A1 Ay) trivial (CI Ay Ay Ay Ay (fun _ => BI EL Ay Ay Aw (Hv hx) (Ay)) trivial (CI Ay Ay Ay Ay (fun _ => CQ Ev Ay) trivial (CI Ay Ay Ay Ay (fun _ => Bp Ay Ay (Rd ((C8 d).take i) x Aq) Ay) trivial (BA Ay Ay (fun _ => BC Ay Ay) trivial (CP Ay Ar (⟨Ay, Ay, AK, ⟨_, Ay⟩, ⟨Ay, Ay, Ay, trivial⟩⟩))))))))))
  rintro _ ⟨q, rfl⟩
  refine BD Ay (fun c2 => ?_) (fun c2 => ?_)
  ·(try simp only [sd, se] at c2)
   refine A2 (A0 (Az Ay Ay (A4 Ay) (A5 Ay (BF (⟨Ay, _, _, ⟨_, _, Ay, Ay, Ay⟩, nS, ?_⟩)))))
   all_goals exact ⟨⟨_, rfl⟩, rfl⟩
  (try simp only [sd, se] at c2)
  refine BG (A0 (Az Ay Ay (A1 Ay) (Az Ay Ay (CH Ay Ay Aw Aw) (Az Ay Ay (A4 Ay) (A5 Ay ?_)))))
  refine ⟨(i + 1), AZ, by omega, By ⟨we rfl, we rfl, we rfl, trivial⟩ (leH (is := []) rfl (Dc))⟩
 (try simp only [sd, se] at c)
 refine B7 (A2 (A0 (Az Ay Ay (A4 Ay) (A5 Ay (BF (⟨Ay, _, _, ⟨_, _, Ay, Ay, Ay⟩, nS, ?_⟩))))))
 all_goals exact ⟨⟨_, rfl⟩, rfl⟩
theorem Ym : ∀ (t : Tm), (Ss t) → E1 Tryz.prog 157 [.agg ((Bu t).map .p)] (fun v => ∃ (l : List Tm) (q : Tm), v = .tup [.p (.lst (Bg l)), TV q] ∧ l.length < 1000000) := by
 intro t h1
 have hsz := h1.sz
 refine BH Tryz.func157 Ay cc (n := 27) Ay Ay (A2 (A0 (BP Ay Ay (Bj Ay) fun b1 => Az Ay Ay (A4 Ay) (BP Ay Ay (BN B8 Ay) fun b3 => A5 Ay (A2 (A0 (Az Ay Ay (A4 Ay) (A5 Ay (A2 (BT (B2 (IQ (t := 4) (sz := 5) Ay) ?_)))))))))))
 refine B4 (α := Tm × List Tm × Option Nat × Nat) (fun (y, l, o, cp) => ⟨27, mk [(1, .ptr b1 0), (3, .ptr b3 0), (4, .vs o (Bg l).length cp)], [.vec o 5 (Bg l) cp, .box b3 [.p (I 0), .p (I 0), .p (.str ⟨#[]⟩), .p (.nils), .p (.nils)], .box b1 ((Bu y).map .p)], []⟩) (fun (y, l, o, cp) => size y) (fun (y, l, o, cp) => Nd y ∧ l.length + size y ≤ size t) ⟨t, [], none, 0⟩ (⟨h1.nd, by simp⟩) ?_ ?_
 ·exact By ⟨we Ay, we Ay, we Ay, trivial⟩ (leH (is := [0, 1, 2]) Ay (wl (oe Ay) (wl (oe Ay) (wl (oe Ay) (Dc)))))
 rintro ⟨y, l, o, cp⟩ hC
 try simp only at hC
 have hl0 : l.length < 1000000 := by have := hC.2; omega
 refine A2 (A2 ?_)
 obtain ⟨yk, yi, yn, yl, ys⟩ := y
 refine Bx [1, 3, 4] 13 (fun y => y = .p (.bool (((yk : Int) == (6 : Int)) && (((ys.length : Nat) : Int) == (2 : Int))))) ?_ ?_
 ·refine A0 (Az Ay Ay (A3 CV Ay Ay) (Az Ay Ay (A9 (i := 2) C9 Ay Ay Ay) (Az Ay Ay (BE Ay Ay Ay) (Az Ay Ay (A1 Ay) (Br 8 Ay (fun g => ?_) (fun g => ?_))))))
  ·(try simp only [sd, se] at g)
   exact A6 Ay Ay Ay Ay (A3 CV Ay Ay) (A6 Ay Ay Ay Ay (A9 (i := 2) DG Ay Ay Ay) (A6 Ay Ay Ay Ay (Bo CL Ay (B5 _)) (A6 Ay Ay Ay Ay (BE Ay Ay Ay) (Az Ay Ay (BC Ay Ay) (A5 Ay (⟨Ay, Ay, AK, AJ, ⟨Ay, Ay, Ay, trivial⟩⟩))))))
  (try simp only [sd, se] at g)
  exact A7 Ay Ay Ay Ay Ay (A7 Ay Ay Ay Ay Ay (A7 Ay Ay Ay Ay Ay (A7 Ay Ay Ay Ay Ay (Az Ay Ay (BC Ay Ay) (A5 Ay (⟨Ay, Ay, AK, AJ, ⟨Ay, Ay, Ay, trivial⟩⟩))))))
 rintro _ rfl
 refine BD Ay (fun c => ?_) (fun c => ?_)
 ·(try simp only [sd, se] at c)
  refine BG (BT (A2 (A0 (Az Ay Ay (A1 Ay) (Az Ay Ay (A3 CV Ay Ay) (Az Ay Ay (A9 (i := 2) DG Ay Ay Ay) ?_))))))
  obtain ⟨x, hx⟩ := BO (l := ys) (i := 0) (by first | omega | (simp at c; omega))
  refine Az Ay Ay (BI CL Ay Ay Aw (CU hx) (Bd _)) (Az Ay Ay (Bq BU Ay (Bd _)) ?_)
  obtain ⟨xk, xi, xn, xl, xs⟩ := x
  refine Az Ay Ay (CJ CL B8 Ay Ay Ay Ay Ay) (Lo Ay Ay (Df (i := 0) (rows' := Bg [(.mk xk xi xn xl xs : Tm)]) CL CL B8 Ay Ay Ay Ay Ay Ay (CT _) AE (OK l [(.mk xk xi xn xl xs : Tm)])) fun o1 cp1 => Az Ay Ay (A4 Ay) (A5 Ay (A0 (Az Ay Ay (A3 CV Ay Ay) (Az Ay Ay (A9 (i := 2) DG Ay Ay Ay) ?_)))))
  obtain ⟨x1, hx1⟩ := BO (l := ys) (i := 1) (by first | omega | (simp at c; omega))
  refine Az Ay Ay (BI CL Ay Ay Aw (CU hx1) (Bd _)) (Az Ay Ay (Bq BU Ay (Bd _)) (Az Ay Ay (BB (i := 2) BU Ay Ay Ay Am Ac (CN _)) (A5 Ay ?_)))
  refine ⟨⟨x1, l ++ [(.mk xk xi xn xl xs : Tm)], o1, cp1⟩, (by have := DM hx1; simp only [size]; omega), ⟨D7 hC.1.2.2.2.2.1 hx1, by have := DM hx1; have := hC.2; simp only [size] at *; simp only [List.length_append, List.length_cons, List.length_nil]; omega⟩, By ⟨we rfl, we rfl, we rfl, trivial⟩ (leH (is := [0, 1, 2]) rfl (wl (oe rfl) (wl (oe rfl) (wl (oe rfl) (Dc)))))⟩
 (try simp only [sd, se] at c)
 refine B7 (A2 (CW (fun k => false) ED (BA Ay Ay (fun _ => A1 Ay) trivial (Ba (j := 2) Ay Ay Ay (fun H i hi => A8 (i := i) BU Ay hi Ay) AA trivial (BA Ay Ay (fun _ => A4 Ay) trivial (Cw Ay Ay (Bm (i := 1) BU Ay Ay Ay Ay Ay Ay) AA trivial (CP Ay Ar (B2 (FI (i := 0) [4, 25, 2] Ay (HQ ⟨Ay, Ay, Ay, trivial⟩)) (BF (⟨Ay, _, _, ⟨_, _, Ay, Ay, ⟨_, _, Ay, (Bt (i := 0) BU Ay Ay Ay), Ay⟩⟩, nS, ?_⟩))))))))))
 all_goals exact ⟨⟨l, (.mk yk yi yn yl ys : Tm), rfl, by have := hC.2; omega⟩, rfl⟩
theorem Tr : ∀ (d : Dt) (k : Int), (Rl d) → (0 ≤ k) → (k < d.ctors.length) → E1 Tryz.prog 152 [.agg ((Ci d).map .p), .p (I k)] (Lb) := by
 intro d k h1 h2 h3
 have hcl := h1.cl
 refine BH Tryz.func152 Ay cN (n := 23) Ay Ay (A2 (A0 (BP Ay Ay (Bj Ay) fun b2 => Az Ay Ay (A4 Ay) (A5 Ay (A2 (A0 (Az Ay Ay (A3 CR Ay Ay) (Az Ay Ay (BJ (i := 0) G0 Ay Ay (Cy _)) (Az Ay Ay (A1 Ay) ?_)))))))))
 obtain ⟨x, hx⟩ := BO (l := d.ctors) (i := (k : Int).toNat) Aw
 refine Az Ay Ay (BI Ge Ay Ay Aw (F5 hx) (Eh _)) (Az Ay Ay (CM LY Ay Ay) (Az Ay Ay (D4 BU Ay (F8 _) (Bd _)) (Du Ay Ay (Bb Ay Ay (Ym x.type (h1.cs _ (List.mem_of_getElem? hx)).ty) (.inl Ay)) ?_)))
 rintro _ ⟨l, q, rfl, hl⟩
 refine Az Ay Ay (A1 Ay) (Az Ay Ay (Bi Ay Ay) (Az Ay Ay (Bi Ay Ay) (BP Ay Ay (BN B8 Ay) fun b6 => Az Ay Ay (A4 Ay) (Az Ay Ay (BB (i := 0) BU Ay Ay Ay Am Ac (CN _)) (A5 Ay (A2 (A0 (Az Ay Ay (A1 Ay) (Az Ay Ay (Bo CL Ay (B5 _)) (Az Ay Ay (A3 CR Ay Ay) (Az Ay Ay (BJ (i := 1) C9 Ay Ay (GM _)) (Az Ay Ay (PZ Ay Ay) (Az Ay Ay (Jl Ay Ay) (Az Ay Ay (A4 Ay) (A5 Ay (BF (⟨Ay, _, _, ⟨_, _, Ay, Ay, Ay⟩, nS, ?_⟩)))))))))))))))))
 all_goals exact ⟨⟨_, rfl⟩, rfl⟩
theorem _root_.Go.Al {α : Prop} (h : α := by simp [Qn]) : α := h
theorem Pz : ∀ (n : Nat) (s : NT) (t : Tm), (size t ≤ n) → (Nd t) → (IB s.env) → (s.own.length < 9000000) → (Rl s.d) → E1 Tryz.prog 150 [.agg ((F4 s).map .p), .agg ((Bu t).map .p)] (Lb) := by
 intro n
 induction n with
 | zero => intro s t h; cases t; simp [size] at h
 | succ n ih =>
  intro s t h1 h2 h3 h4 h5
  have h3l := h3.len
  obtain ⟨tk, ti, tn, tl, ts⟩ := t
  have hk := h2.2.2.2.2.1
  have hkl := h2.2.2.2.1
  simp only [EB] at hkl
  simp only [size] at h1
  refine BH Tryz.func150 Ay cP (n := 59) Ay Ay (A2 (A0 (BP Ay Ay (Bj Ay) fun b2 => BP Ay Ay (Bj Ay) fun b3 => Az Ay Ay (A4 Ay) (A5 Ay (A2 (A2 (A0 (Az Ay Ay (A3 CV Ay Ay) (Az Ay Ay (A9 (i := 0) C9 Ay Ay Ay) (Az Ay Ay (BE Ay Ay Ay) (A5 Ay (Bx [2, 3] 12 (fun _ => True) ?_ ?_))))))))))))
  ·refine BD Ay (fun c => ?_) (fun c => ?_)
   ·(try simp only [sd, se] at c)
    refine A2 (A0 (Az Ay Ay (A3 KD Ay Ay) (Az Ay Ay (BJ (i := 1) XX Ay Ay (Iw _)) (Az Ay Ay (A3 CV Ay Ay) (Az Ay Ay (A9 (i := 0) Ev Ay Ay Ay) (Az Ay Ay (Bp Ay Ay (Ml s.env tn h3) Ay) (Az Ay Ay (A1 Ay) (Az Ay Ay (Bi Ay Ay) (Az Ay Ay (Bi Ay Ay) (BP Ay Ay (BN JB Ay) fun b5 => Az Ay Ay (BB (i := 0) FC Ay Ay Ay Ao Ad (EK _)) (Az Ay Ay (A4 Ay) (A5 Ay (A2 (A2 (A0 (Az Ay Ay (A1 Ay) (Az Ay Ay (BE Ay Ay Ay) (A5 Ay (BD Ay (fun c1 => ?_) (fun c1 => ?_))))))))))))))))))))
    ·(try simp only [sd, se] at c1)
     refine A2 (A2 (A0 (Az Ay Ay (A3 KD Ay Ay) (Az Ay Ay (BJ (i := 2) LP Ay Ay (R0 _)) (Az Ay Ay (A3 CV Ay Ay) (Az Ay Ay (A9 (i := 1) Ev Ay Ay Ay) (Az Ay Ay (Bp Ay Ay (Rd s.own tn h4) Ay) (Az Ay Ay (Cp Ay) (A5 Ay (BD Ay (fun c2 => ?_) (fun c2 => ?_)))))))))))
     ·(try simp only [sd, se] at c2)
      refine A2 (A0 (Az Ay Ay (A4 Ay) (A5 Ay (BF (⟨Ay, _, _, ⟨_, _, Ay, Ay, Ay⟩, nS, ?_⟩)))))
      all_goals exact ⟨⟨_, rfl⟩, rfl⟩
     (try simp only [sd, se] at c2)
     refine BG (A0 (Az Ay Ay (A3 KD Ay Ay) (Az Ay Ay (Cl (i := 2) GG Ay Ay (QS _) (D2 _)) (Az Ay Ay (A3 KD Ay Ay) (Az Ay Ay (BJ (i := 2) XX Ay Ay (Iw _)) (Az Ay Ay (Bo Lx Ay (List.length_map _)) (Az Ay Ay (A3 CV Ay Ay) (Az Ay Ay (A9 (i := 1) Ev Ay Ay Ay) (Az Ay Ay (Bp Ay Ay (QV s.d (s.env.length : Nat) tn h5.cl h5.fl) Ay) (Az Ay Ay (BB (i := 0) FC Ay Ay Ay Ao Ad (EK _)) (A5 Ay (A2 (A0 (Az Ay Ay (A3 CV Ay Ay) (Az Ay Ay (A9 (i := 1) Ja Ay Ay Ay) (Az Ay Ay (Bo IC Ay (List.length_map _)) (Az Ay Ay (A3 I7 Ay Ay) (Az Ay Ay (BJ (i := 0) C9 Ay Ay (KK _)) ?_))))))))))))))))))
     refine Az Ay Ay (BE Ay Ay Ay) (A5 Ay (BD Ay (fun c3 => ?_) (fun c3 => ?_)))
     ·(try simp only [sd, se] at c3)
      refine A2 (A0 (Az Ay Ay (A4 Ay) (A5 Ay (BF (⟨Ay, _, _, ⟨_, _, Ay, Ay, Ay⟩, nS, ?_⟩)))))
      all_goals exact ⟨⟨_, rfl⟩, rfl⟩
     (try simp only [sd, se] at c3)
     exact BG (⟨Ay, Ay, (C2 (is := [1, 2]) Ay), trivial, ⟨Ay, Ay, trivial⟩⟩)
    (try simp only [sd, se] at c1)
    refine BG (A2 (A0 (Az Ay Ay (A3 CV Ay Ay) (Az Ay Ay (A9 (i := 1) Ja Ay Ay Ay) (Az Ay Ay (Bo IC Ay (List.length_map _)) (Az Ay Ay (A3 I7 Ay Ay) (Az Ay Ay (BJ (i := 0) C9 Ay Ay (KK _)) (Az Ay Ay (BE Ay Ay Ay) (A5 Ay (BD Ay (fun c2 => ?_) (fun c2 => ?_)))))))))))
    ·(try simp only [sd, se] at c2)
     refine A2 (A0 (Az Ay Ay (A4 Ay) (A5 Ay (BF (⟨Ay, _, _, ⟨_, _, Ay, Ay, Ay⟩, nS, ?_⟩)))))
     all_goals exact ⟨⟨_, rfl⟩, rfl⟩
    (try simp only [sd, se] at c2)
    exact BG (⟨Ay, Ay, (C2 (is := [1, 2]) Ay), trivial, ⟨Ay, Ay, trivial⟩⟩)
   (try simp only [sd, se] at c)
   exact BG (⟨Ay, Ay, (List.Sublist.refl _), trivial, ⟨Ay, Ay, trivial⟩⟩)
  intro _ _
  refine A2 (A2 (A0 (Az Ay Ay (A4 Ay) (A5 Ay (BT (B4 (α := Nat) (fun i => ⟨59, mk [(2, .ptr b2 0), (3, .ptr b3 0), (7, .p (I (i : Int)))], [.box b3 [.p (I tk), .p (I ti), .p (.str tn), .p (.lst (List.map Dx tl)), .p (.lst (Bg ts))], .box b2 ((F4 s).map .p)], []⟩) (fun i => ts.length - i) (fun i => i ≤ ts.length) 0 AS ?_ ?_))))))
  ·exact By ⟨we Ay, we Ay, we Ay, trivial⟩ (leH (is := [0, 1]) Ay (wl (oe Ay) (wl (oe Ay) (Dc))))
  rintro i hC
  try simp only at hC
  have hi := hC
  refine A2 (A2 (A0 (Az Ay Ay (A1 Ay) (Az Ay Ay (A3 CV Ay Ay) (Az Ay Ay (A9 (i := 0) DG Ay Ay Ay) (Az Ay Ay (Bo CL Ay (B5 _)) (Az Ay Ay (BE Ay Ay Ay) (A5 Ay (BD Ay (fun c => ?_) (fun c => ?_))))))))))
  ·(try simp only [sd, se] at c)
   refine BG (A2 (BT (A2 (CW (fun k => Nat.beq k 6) ED (Ba (j := 1) Ay Ay Ay (fun H i hi => A8 (i := i) KB Ay hi Al) AA trivial (BA Ay Ay (fun _ => A3 CV Ay Ay) trivial (Ba (j := 0) Ay Ay Ay (fun H i hi => A9 (i := i) DG Ay hi Ay) AA trivial (BA Ay Ay (fun _ => A1 Ay) trivial ?_))))))))
   obtain ⟨x, hx⟩ := BO (l := ts) (i := i) Aw
   refine BA Ay Ay (fun _ => BI CL Ay Ay Aw (CU hx) (Bd _)) trivial (BA Ay Ay (fun _ => Bq BU Ay (Bd _)) trivial (JD [] Ay Ay (Bb Ay Ay (ih s x (by have := DM hx; omega) (D7 hk hx) h3 h4 h5) (.inl Ay)) Ar (⟨_, 0, Ay⟩) AA ?_))
   rintro _ ⟨e, rfl⟩
   refine ⟨trivial, ?_⟩
   refine BA Ay Ay (fun _ => A4 Ay) trivial (CP Ay Ar (A2 (A0 (Az Ay Ay (A1 Ay) (Az Ay Ay (BE Ay Ay Ay) (A5 Ay (BD Ay (fun c1 => ?_) (fun c1 => ?_))))))))
   ·(try simp only [sd, se] at c1)
    refine A2 (A0 (Az Ay Ay (A1 Ay) (Az Ay Ay (A4 Ay) (A5 Ay (BF (⟨Ay, _, _, ⟨_, _, Ay, Ay, Ay⟩, nS, ?_⟩))))))
    all_goals exact ⟨⟨_, rfl⟩, rfl⟩
   (try simp only [sd, se] at c1)
   refine BG (A0 (Az Ay Ay (A1 Ay) (Az Ay Ay (CH Ay Ay Aw Aw) (Az Ay Ay (A4 Ay) (A5 Ay ?_)))))
   refine ⟨(i + 1), AZ, by omega, By ⟨we rfl, we rfl, we rfl, trivial⟩ (leH (is := [0, 1]) rfl (wl (oe rfl) (wl (oe rfl) (Dc))))⟩
  (try simp only [sd, se] at c)
  refine B7 (A2 (A0 (Az Ay Ay (A4 Ay) (A5 Ay (BF (⟨Ay, _, _, ⟨_, _, Ay, Ay, Ay⟩, nS, ?_⟩))))))
  all_goals exact ⟨⟨_, rfl⟩, rfl⟩
theorem GU : ∀ (s : NT) (t : Tm) (vs ps : Int), (Ss t) → (IB s.env) → (s.own.length < 9000000) → (Rl s.d) → E1 Tryz.prog 138 [.agg ((F4 s).map .p), .agg ((Bu t).map .p), .p (I vs), .p (I ps)] (Lb) := by
 intro s t vs ps h1 h2 h3 h4
 refine BH Tryz.func138 Ay cQ (n := 20) Ay Ay (A2 (A0 (BP Ay Ay (Bj Ay) fun b4 => BP Ay Ay (Bj Ay) fun b5 => Az Ay Ay (A4 Ay) (A5 Ay (A2 (A2 (A0 (Az Ay Ay (A8 (i := 0) BU Ay Ay Am) (Az Ay Ay (A1 Ay) (Az Ay Ay (A1 Ay) (Du Ay Ay (Bb Ay Ay (Qd t vs ps 0 0 h1.nd h1.sz) (.inl Ay)) ?_)))))))))))
 rintro _ ⟨e, rfl, he⟩
 refine Az Ay Ay (A4 Ay) (A5 Ay (A2 (A0 (Az Ay Ay (A1 Ay) (Az Ay Ay (BE Ay Ay Ay) (A5 Ay (BD Ay (fun c => ?_) (fun c => ?_))))))))
 ·(try simp only [sd, se] at c)
  refine A2 (A0 (Az Ay Ay (A1 Ay) (Az Ay Ay (A4 Ay) (A5 Ay (BF (⟨Ay, _, _, ⟨_, _, Ay, Ay, Ay⟩, nS, ?_⟩))))))
  all_goals exact ⟨⟨_, rfl⟩, rfl⟩
 (try simp only [sd, se] at c)
 refine BG (A2 (A0 (Az Ay Ay (A8 (i := 1) KB Ay Ay Al) (Az Ay Ay (A8 (i := 0) BU Ay Ay Am) (Du Ay Ay (Bb Ay Ay (Pz (size t) s t (Nat.le_refl _) h1.nd h2 h3 h4) (.inl Ay)) ?_)))))
 rintro _ ⟨e1, rfl⟩
 refine Az Ay Ay (A4 Ay) (A5 Ay (BF (⟨Ay, _, _, ⟨_, _, Ay, Ay, Ay⟩, nS, ?_⟩)))
 all_goals exact ⟨⟨_, rfl⟩, rfl⟩
theorem RR : ∀ (n : Nat) (a b : Lw), (KF a ≤ n) → (JT a) → E1 Tryz.prog 151 [.agg ((Ee a).map .p), .agg ((Ee b).map .p)] (Dv) := by
 intro n
 induction n with
 | zero => intro a b h; have := NG a; omega
 | succ n ih =>
  intro a b h1 h2
  have hal := h2.bl
  refine BH Tryz.func151 Ay dN (n := 74) Ay Ay (A2 (A0 (BP Ay Ay (Bj Ay) fun b2 => BP Ay Ay (Bj Ay) fun b3 => Az Ay Ay (A4 Ay) (A5 Ay (A2 (A2 (Bx [2, 3] 36 (fun y => ∃ q : Bool, y = .p (.bool q) ∧ (q = false → a.branches.length = b.branches.length)) ?_ ?_)))))))
  ·refine A0 (Az Ay Ay (A3 FE Ay Ay) (Az Ay Ay (BJ (i := 1) C9 Ay Ay (Jw _)) (Az Ay Ay (A3 FE Ay Ay) (Az Ay Ay (BJ (i := 0) C9 Ay Ay (Jw _)) (Az Ay Ay (BE Ay Ay Ay) (Az Ay Ay (A1 Ay) (Br 13 Ay (fun g => ?_) (fun g => ?_))))))))
   ·(try simp only [sd, se] at g)
    exact A7 Ay Ay Ay Ay Ay (A7 Ay Ay Ay Ay Ay (A7 Ay Ay Ay Ay Ay (A7 Ay Ay Ay Ay Ay (A7 Ay Ay Ay Ay Ay (Az Ay Ay (BC Ay Ay) (Az Ay Ay (A1 Ay) (A7 Ay Ay Ay Ay Ay (A7 Ay Ay Ay Ay Ay (A7 Ay Ay Ay Ay Ay (A7 Ay Ay Ay Ay Ay (A7 Ay Ay Ay Ay Ay (A7 Ay Ay Ay Ay Ay (Az Ay Ay (BC Ay Ay) (Az Ay Ay (A1 Ay) (A7 Ay Ay Ay Ay Ay (A7 Ay Ay Ay Ay Ay (A7 Ay Ay Ay Ay Ay (A7 Ay Ay Ay Ay Ay (A7 Ay Ay Ay Ay Ay (A7 Ay Ay Ay Ay Ay (A7 Ay Ay Ay Ay Ay (Az Ay Ay (BC Ay Ay) (A5 Ay (⟨Ay, Ay, AK, (by refine ⟨_, rfl, fun h => ?_⟩; first | (exact absurd h Av) | (simp_all; done) | (simp_all; omega)), ⟨Ay, Ay, trivial⟩⟩))))))))))))))))))))))))
   (try simp only [sd, se] at g)
   refine A6 Ay Ay Ay Ay (A3 FE Ay Ay) (A6 Ay Ay Ay Ay (BJ (i := 1) C9 Ay Ay (Hl _)) (A6 Ay Ay Ay Ay (A3 FE Ay Ay) (A6 Ay Ay Ay Ay (BJ (i := 0) C9 Ay Ay (Hl _)) (A6 Ay Ay Ay Ay (BE Ay Ay Ay) (Az Ay Ay (BC Ay Ay) (Az Ay Ay (A1 Ay) (Br 20 Ay (fun g1 => ?_) (fun g1 => ?_))))))))
   ·(try simp only [sd, se] at g1)
    exact A7 Ay Ay Ay Ay Ay (A7 Ay Ay Ay Ay Ay (A7 Ay Ay Ay Ay Ay (A7 Ay Ay Ay Ay Ay (A7 Ay Ay Ay Ay Ay (A7 Ay Ay Ay Ay Ay (Az Ay Ay (BC Ay Ay) (Az Ay Ay (A1 Ay) (A7 Ay Ay Ay Ay Ay (A7 Ay Ay Ay Ay Ay (A7 Ay Ay Ay Ay Ay (A7 Ay Ay Ay Ay Ay (A7 Ay Ay Ay Ay Ay (A7 Ay Ay Ay Ay Ay (A7 Ay Ay Ay Ay Ay (Az Ay Ay (BC Ay Ay) (A5 Ay (⟨Ay, Ay, AK, (by refine ⟨_, rfl, fun h => ?_⟩; first | (exact absurd h Av) | (simp_all; done) | (simp_all; omega)), ⟨Ay, Ay, trivial⟩⟩)))))))))))))))))
   (try simp only [sd, se] at g1)
   refine A6 Ay Ay Ay Ay (A3 FE Ay Ay) (A6 Ay Ay Ay Ay (Cl (i := 1) BU Ay Ay (Gy _) (Bd _)) (A6 Ay Ay Ay Ay (A3 FE Ay Ay) (A6 Ay Ay Ay Ay (Cl (i := 0) BU Ay Ay (Gy _) (Bd _)) (A6 Ay Ay Ay Ay (Bp Ay Ay (RL _ a.body b.body (Nat.le_refl _) h2.body.nd) Ay) (A6 Ay Ay Ay Ay (Cp Ay) (Az Ay Ay (BC Ay Ay) (Az Ay Ay (A1 Ay) (Br 28 Ay (fun g2 => ?_) (fun g2 => ?_)))))))))
   ·(try simp only [sd, se] at g2)
    exact A7 Ay Ay Ay Ay Ay (A7 Ay Ay Ay Ay Ay (A7 Ay Ay Ay Ay Ay (A7 Ay Ay Ay Ay Ay (A7 Ay Ay Ay Ay Ay (A7 Ay Ay Ay Ay Ay (A7 Ay Ay Ay Ay Ay (Az Ay Ay (BC Ay Ay) (A5 Ay (⟨Ay, Ay, AK, (by refine ⟨_, rfl, fun h => ?_⟩; first | (exact absurd h Av) | (simp_all; done) | (simp_all; omega)), ⟨Ay, Ay, trivial⟩⟩)))))))))
   (try simp only [sd, se] at g2)
   exact A6 Ay Ay Ay Ay (A3 FE Ay Ay) (A6 Ay Ay Ay Ay (BJ (i := 1) JO Ay Ay (C3 _)) (A6 Ay Ay Ay Ay (Bo JJ Ay (Gg _)) (A6 Ay Ay Ay Ay (A3 FE Ay Ay) (A6 Ay Ay Ay Ay (BJ (i := 0) JO Ay Ay (C3 _)) (A6 Ay Ay Ay Ay (Bo JJ Ay (Gg _)) (A6 Ay Ay Ay Ay (BE Ay Ay Ay) (Az Ay Ay (BC Ay Ay) (A5 Ay (⟨Ay, Ay, AK, (by refine ⟨_, rfl, fun h => ?_⟩; first | (exact absurd h Av) | (simp_all; done) | (simp_all; omega)), ⟨Ay, Ay, trivial⟩⟩)))))))))
  rintro _ ⟨q, rfl, hq⟩
  refine BD Ay (fun c => ?_) (fun c => ?_)
  ·(try simp only [sd, se] at c)
   refine A2 (A0 (Az Ay Ay (A4 Ay) (A5 Ay (BF (⟨Ay, _, _, ⟨_, _, Ay, Ay, Ay⟩, nS, ?_⟩)))))
   all_goals exact ⟨⟨_, rfl⟩, rfl⟩
  (try simp only [sd, se] at c)
  have hq1 := hq (by simpa using c)
  refine BG (A2 (A2 (A0 (Az Ay Ay (A4 Ay) (A5 Ay (BT (B4 (α := Nat) (fun i => ⟨74, mk [(2, .ptr b2 0), (3, .ptr b3 0), (5, .p (I (i : Int)))], [.box b3 ((Ee b).map .p), .box b2 ((Ee a).map .p)], []⟩) (fun i => a.branches.length - i) (fun i => i ≤ a.branches.length) 0 AS ?_ ?_)))))))
  ·exact By ⟨we Ay, we Ay, we Ay, trivial⟩ (leH (is := [0, 1]) Ay (wl (oe Ay) (wl (oe Ay) (Dc))))
  rintro i hC
  try simp only at hC
  have hi := hC
  refine A2 (A2 (A0 (Az Ay Ay (A1 Ay) (Az Ay Ay (A3 FE Ay Ay) (Az Ay Ay (BJ (i := 1) JO Ay Ay (C3 _)) (Az Ay Ay (Bo JJ Ay (Gg _)) (Az Ay Ay (BE Ay Ay Ay) (A5 Ay (BD Ay (fun c1 => ?_) (fun c1 => ?_))))))))))
  ·(try simp only [sd, se] at c1)
   obtain ⟨x, hx⟩ := BO (l := a.branches) (i := i) Aw
   obtain ⟨x1, hx1⟩ := BO (l := b.branches) (i := i) Aw
   refine BG (A2 (BT (A2 (UC [.val (.ptr b2 (0 + 7)), .val (.p (.lst (Ld a.branches))), .val (.p (I (i : Int))), .val (.ref (Gb x)), .val (.agg ((Gb x).map .p)), .val (.ptr b3 (0 + 7)), .val (.p (.lst (Ld b.branches))), .val (.p (I (i : Int))), .val (.ref (Gb x1)), .val (.agg ((Gb x1).map .p)), .new [.p (.str ⟨#[]⟩), .p (.bool false), .p (I 0), .p (I 0), .p (I 0), .p (.str ⟨#[]⟩), .p (.nils), .p (.nils), .p (I 0), .p (.nils)], .new [.p (.str ⟨#[]⟩), .p (.bool false), .p (I 0), .p (I 0), .p (I 0), .p (.str ⟨#[]⟩), .p (.nils), .p (.nils), .p (I 0), .p (.nils)]] [.p .any, .p .any] [5, 6, 7, 8, 9] ED Ay Ar Ar Ar ?_ ?_))))
   ·exact trivial
   refine B6 Ay (fun Bs => A3 FE Ay Ay) (B6 Ay (fun Bs => BJ (i := Bs.length + 1) JO Ay (B3 Ay) (C3 _)) (B6 Ay (fun Bs => A1 Ay) (B6 Ay (fun Bs => BI JJ Ay Ay Aw (JH hx) (D8 _)) (B6 Ay (fun Bs => Bq Qf Ay (D8 _)) (B6 Ay (fun Bs => A3 FE Ay Ay) (B6 Ay (fun Bs => BJ (i := Bs.length + 0) JO Ay (B3 Ay) (C3 _)) (B6 Ay (fun Bs => A1 Ay) (B6 Ay (fun Bs => BI JJ Ay Ay Aw (JH hx1) (D8 _)) (B6 Ay (fun Bs => Bq Qf Ay (D8 _)) (Re Ay (fun Bs => BN Wo Ay) fun b6 => Re Ay (fun Bs => BN Wo Ay) fun b7 => Tl ?_))))))))))
   refine Mf [.box b6 ((Gb x).map .p), .box b7 [.p (.str ⟨#[]⟩), .p (.bool false), .p (I 0), .p (I 0), .p (I 0), .p (.str ⟨#[]⟩), .p (.nils), .p (.nils), .p (I 0), .p (.nils)]] Ay (BB (i := 0) Qf Ay Ay Ay (by simp [D8]) (by first | rfl | simp [D8]) (RD _)) (Mf [.box b6 ((Gb x).map .p), .box b7 ((Gb x1).map .p)] Ay (BB (i := 1) Qf Ay Ay Ay (by simp [D8]) (by first | rfl | simp [D8]) (RD _)) (V5 (A2 (Bx [2, 3, 5] 73 Dv ?_ ?_))))
   ·refine A0 (Az Ay Ay (A3 KC Ay Ay) (Az Ay Ay (BJ (i := 0) Ev Ay Ay (IE _)) (Az Ay Ay (A3 KC Ay Ay) (Az Ay Ay (BJ (i := 1) Ev Ay Ay (IE _)) (Az Ay Ay (LA Ay Ay) (Az Ay Ay (A1 Ay) (Br 59 Ay (fun g => ?_) (fun g => ?_))))))))
    ·(try simp only [sd, se] at g)
     exact A7 Ay Ay Ay Ay Ay (A7 Ay Ay Ay Ay Ay (A7 Ay Ay Ay Ay Ay (A7 Ay Ay Ay Ay Ay (A7 Ay Ay Ay Ay Ay (Az Ay Ay (BC Ay Ay) (Az Ay Ay (A1 Ay) (A7 Ay Ay Ay Ay Ay (A7 Ay Ay Ay Ay Ay (A7 Ay Ay Ay Ay Ay (A7 Ay Ay Ay Ay Ay (A7 Ay Ay Ay Ay Ay (A7 Ay Ay Ay Ay Ay (Az Ay Ay (BC Ay Ay) (A5 Ay (⟨Ay, Ay, AK, ⟨_, Ay⟩, ⟨Ay, Ay, Ay, trivial⟩⟩)))))))))))))))
    (try simp only [sd, se] at g)
    refine A6 Ay Ay Ay Ay (A3 KC Ay Ay) (A6 Ay Ay Ay Ay (BJ (i := 0) Vf Ay Ay (Ip _)) (A6 Ay Ay Ay Ay (A3 KC Ay Ay) (A6 Ay Ay Ay Ay (BJ (i := 1) Vf Ay Ay (Ip _)) (A6 Ay Ay Ay Ay (TI jD Ay Ay) (Az Ay Ay (BC Ay Ay) (Az Ay Ay (A1 Ay) (Br 66 Ay (fun g1 => ?_) (fun g1 => ?_))))))))
    ·(try simp only [sd, se] at g1)
     exact A7 Ay Ay Ay Ay Ay (A7 Ay Ay Ay Ay Ay (A7 Ay Ay Ay Ay Ay (A7 Ay Ay Ay Ay Ay (A7 Ay Ay Ay Ay Ay (A7 Ay Ay Ay Ay Ay (Az Ay Ay (BC Ay Ay) (A5 Ay (⟨Ay, Ay, AK, ⟨_, Ay⟩, ⟨Ay, Ay, Ay, trivial⟩⟩))))))))
    (try simp only [sd, se] at g1)
    refine A6 Ay Ay Ay Ay (A3 KC Ay Ay) (A6 Ay Ay Ay Ay (Cl (i := 0) Od Ay Ay (Gk _) (FJ _)) (A6 Ay Ay Ay Ay (A3 KC Ay Ay) (A6 Ay Ay Ay Ay (Cl (i := 1) Od Ay Ay (Gk _) (FJ _)) (IN Ay Ay Ay Ay (Bb Ay Ay (ih x.tree x1.tree (by have := O7 hx; omega) (Im h2.bs hx).tr) (.inl Ay)) ?_))))
    rintro _ ⟨q1, rfl⟩
    exact A6 Ay Ay Ay Ay (Cp Ay) (Az Ay Ay (BC Ay Ay) (A5 Ay (⟨Ay, Ay, AK, ⟨_, Ay⟩, ⟨Ay, Ay, Ay, trivial⟩⟩)))
   rintro _ ⟨q1, rfl⟩
   refine BD Ay (fun c2 => ?_) (fun c2 => ?_)
   ·(try simp only [sd, se] at c2)
    refine A2 (A0 (Az Ay Ay (A4 Ay) (A5 Ay (BF (⟨Ay, _, _, ⟨_, _, Ay, Ay, Ay⟩, nS, ?_⟩)))))
    all_goals exact ⟨⟨_, rfl⟩, rfl⟩
   (try simp only [sd, se] at c2)
   refine BG (A0 (Az Ay Ay (A1 Ay) (Az Ay Ay (CH Ay Ay Aw Aw) (Az Ay Ay (A4 Ay) (A5 Ay ?_)))))
   refine ⟨(i + 1), AZ, by omega, By ⟨we rfl, we rfl, we rfl, trivial⟩ (leH (is := [2, 3]) rfl (wl (oe rfl) (wl (oe rfl) (Dc))))⟩
  (try simp only [sd, se] at c1)
  refine B7 (A2 (A0 (Az Ay Ay (A4 Ay) (A5 Ay (BF (⟨Ay, _, _, ⟨_, _, Ay, Ay, Ay⟩, nS, ?_⟩))))))
  all_goals exact ⟨⟨_, rfl⟩, rfl⟩
theorem Tw : ∀ (n : Nat) (s : NT) (t : Lw) (vs dp : Int), (KF t ≤ n) → (JT t) → (IB s.env) → (s.own.length < 9000000) → (Rl s.d) → (0 ≤ dp) → E1 Tryz.prog 139 [.agg ((F4 s).map .p), .agg ((Ee t).map .p), .p (I vs), .p (I dp)] (Lb) := by
 intro n
 induction n with
 | zero => intro s t vs dp h; have := NG t; omega
 | succ n ih =>
  intro s t vs dp h1 h2 h3 h4 h5 h6
  have htl := h2.bl
  refine BH Tryz.func139 Ay cE (n := 110) Ay Ay (A2 (A0 (BP Ay Ay (Bj Ay) fun b4 => BP Ay Ay (Bj Ay) fun b5 => Az Ay Ay (A4 Ay) (A5 Ay (A2 (A2 (A0 (Az Ay Ay (A1 Ay) (Az Ay Ay (BE Ay Ay Ay) (A5 Ay (BD Ay (fun c => ?_) (fun c => ?_))))))))))))
  ·(try simp only [sd, se] at c)
   refine A2 (A0 (Az Ay Ay (A4 Ay) (A5 Ay (BF (⟨Ay, _, _, ⟨_, _, Ay, Ay, Ay⟩, nS, ?_⟩)))))
   all_goals exact ⟨⟨_, rfl⟩, rfl⟩
  (try simp only [sd, se] at c)
  refine BG (A2 (A2 (A0 (Az Ay Ay (A3 FE Ay Ay) (Az Ay Ay (BJ (i := 0) C9 Ay Ay (Jw _)) (A5 Ay (BT (A2 (A0 (Az Ay Ay (BE Ay Ay Ay) (Az Ay Ay (A4 Ay) (A5 Ay (BD Ay (fun c1 => ?_) (fun c1 => ?_))))))))))))))
  ·(try simp only [sd, se] at c1)
   refine A2 (A2 (Bx [2, 4, 5] 28 Dv ?_ ?_))
   ·refine A0 (Az Ay Ay (A3 FE Ay Ay) (Az Ay Ay (BJ (i := 0) C9 Ay Ay (Hl _)) (Az Ay Ay (BE Ay Ay Ay) (Az Ay Ay (A1 Ay) (Br 23 Ay (fun g => ?_) (fun g => ?_))))))
    ·(try simp only [sd, se] at g)
     exact A7 Ay Ay Ay Ay Ay (A7 Ay Ay Ay Ay Ay (A7 Ay Ay Ay Ay Ay (A7 Ay Ay Ay Ay Ay (Az Ay Ay (BC Ay Ay) (A5 Ay (⟨Ay, Ay, AK, ⟨_, Ay⟩, ⟨Ay, Ay, Ay, trivial⟩⟩))))))
    (try simp only [sd, se] at g)
    exact A6 Ay Ay Ay Ay (A3 FE Ay Ay) (A6 Ay Ay Ay Ay (BJ (i := 0) JO Ay Ay (C3 _)) (A6 Ay Ay Ay Ay (Bo JJ Ay (Gg _)) (A6 Ay Ay Ay Ay (BE Ay Ay Ay) (Az Ay Ay (BC Ay Ay) (A5 Ay (⟨Ay, Ay, AK, ⟨_, Ay⟩, ⟨Ay, Ay, Ay, trivial⟩⟩))))))
   rintro _ ⟨q, rfl⟩
   refine BD Ay (fun c2 => ?_) (fun c2 => ?_)
   ·(try simp only [sd, se] at c2)
    refine A2 (A0 (Az Ay Ay (A4 Ay) (A5 Ay (BF (⟨Ay, _, _, ⟨_, _, Ay, Ay, Ay⟩, nS, ?_⟩)))))
    all_goals exact ⟨⟨_, rfl⟩, rfl⟩
   (try simp only [sd, se] at c2)
   refine BG (A2 (A0 (Az Ay Ay (A8 (i := 1) KB Ay Ay Al) (Az Ay Ay (A3 FE Ay Ay) (Az Ay Ay (Cl (i := 0) BU Ay Ay (Gy _) (Bd _)) (Az Ay Ay (A1 Ay) (Az Ay Ay (A3 KD Ay Ay) (Az Ay Ay (A3 CR Ay Ay) (Az Ay Ay (BJ (i := 1) C9 Ay Ay (NQ _)) (Du Ay Ay (Bb Ay Ay (GU s t.body vs s.d.params h2.body h3 h4 h5) (.inl Ay)) ?_))))))))))
   rintro _ ⟨e, rfl⟩
   refine Az Ay Ay (A4 Ay) (A5 Ay (BF (⟨Ay, _, _, ⟨_, _, Ay, Ay, Ay⟩, nS, ?_⟩)))
   all_goals exact ⟨⟨_, rfl⟩, rfl⟩
  (try simp only [sd, se] at c1)
  refine A2 (A0 (Az Ay Ay (BE Ay Ay Ay) (Az Ay Ay (A4 Ay) (A5 Ay (BD Ay (fun c2 => ?_) (fun c2 => ?_))))))
  ·(try simp only [sd, se] at c2)
   refine A2 (A0 (Az Ay Ay (A3 FE Ay Ay) (Az Ay Ay (Cl (i := 0) BU Ay Ay (Gy _) (Bd _)) (Az Ay Ay (Bp Ay Ay (JU t.body h2.body.nd) Ay) (Az Ay Ay (Cp Ay) (A5 Ay (BD Ay (fun c3 => ?_) (fun c3 => ?_))))))))
   ·(try simp only [sd, se] at c3)
    refine A2 (A0 (Az Ay Ay (A4 Ay) (A5 Ay (BF (⟨Ay, _, _, ⟨_, _, Ay, Ay, Ay⟩, nS, ?_⟩)))))
    all_goals exact ⟨⟨_, rfl⟩, rfl⟩
   (try simp only [sd, se] at c3)
   refine BG (A2 (A2 (Bx [2, 3, 4, 5] 51 Dv ?_ ?_)))
   ·refine A0 (Az Ay Ay (A3 FE Ay Ay) (Az Ay Ay (BJ (i := 0) C9 Ay Ay (Hl _)) (Az Ay Ay (BE Ay Ay Ay) (Az Ay Ay (A1 Ay) (Br 46 Ay (fun g => ?_) (fun g => ?_))))))
    ·(try simp only [sd, se] at g)
     exact A7 Ay Ay Ay Ay Ay (A7 Ay Ay Ay Ay Ay (A7 Ay Ay Ay Ay Ay (A7 Ay Ay Ay Ay Ay (Az Ay Ay (BC Ay Ay) (A5 Ay (⟨Ay, Ay, AK, ⟨_, Ay⟩, ⟨Ay, Ay, Ay, Ay, trivial⟩⟩))))))
    (try simp only [sd, se] at g)
    exact A6 Ay Ay Ay Ay (A3 FE Ay Ay) (A6 Ay Ay Ay Ay (BJ (i := 0) C9 Ay Ay (Hl _)) (A6 Ay Ay Ay Ay (A1 Ay) (A6 Ay Ay Ay Ay (BE Ay Ay Ay) (Az Ay Ay (BC Ay Ay) (A5 Ay (⟨Ay, Ay, AK, ⟨_, Ay⟩, ⟨Ay, Ay, Ay, Ay, trivial⟩⟩))))))
   rintro _ ⟨q, rfl⟩
   refine BD Ay (fun c4 => ?_) (fun c4 => ?_)
   ·(try simp only [sd, se] at c4)
    refine A2 (A0 (Az Ay Ay (A4 Ay) (A5 Ay (BF (⟨Ay, _, _, ⟨_, _, Ay, Ay, Ay⟩, nS, ?_⟩)))))
    all_goals exact ⟨⟨_, rfl⟩, rfl⟩
   (try simp only [sd, se] at c4)
   refine BG (A2 (A2 (A0 (Az Ay Ay (A3 FE Ay Ay) (Az Ay Ay (BJ (i := 0) JO Ay Ay (C3 _)) (Az Ay Ay (Bo JJ Ay (Gg _)) (Az Ay Ay (BE Ay Ay Ay) (A5 Ay (BD Ay (fun c5 => ?_) (fun c5 => ?_))))))))))
   ·(try simp only [sd, se] at c5)
    refine A2 (A0 (Az Ay Ay (A4 Ay) (A5 Ay (BF (⟨Ay, _, _, ⟨_, _, Ay, Ay, Ay⟩, nS, ?_⟩)))))
    all_goals exact ⟨⟨_, rfl⟩, rfl⟩
   (try simp only [sd, se] at c5)
   refine BG (A2 (A2 (A0 (Az Ay Ay (A4 Ay) (A5 Ay (BT (B4 (α := Nat) (fun i => ⟨110, mk [(2, .p (I vs)), (3, .p (I dp)), (4, .ptr b4 0), (5, .ptr b5 0), (9, .p (I (i : Int)))], [.box b5 ((Ee t).map .p), .box b4 ((F4 s).map .p)], []⟩) (fun i => t.branches.length - i) (fun i => i ≤ t.branches.length) 0 AS ?_ ?_)))))))
   ·exact By ⟨we Ay, we Ay, we Ay, we Ay, we Ay, trivial⟩ (leH (is := [0, 1]) Ay (wl (oe Ay) (wl (oe Ay) (Dc))))
   rintro i hC
   try simp only at hC
   have hi := hC
   refine A2 (A2 (A0 (Az Ay Ay (A1 Ay) (Az Ay Ay (A3 FE Ay Ay) (Az Ay Ay (BJ (i := 0) JO Ay Ay (C3 _)) (Az Ay Ay (Bo JJ Ay (Gg _)) (Az Ay Ay (BE Ay Ay Ay) (A5 Ay (BD Ay (fun c6 => ?_) (fun c6 => ?_))))))))))
   ·(try simp only [sd, se] at c6)
    refine BG (A2 (BT (A2 (A0 (Az Ay Ay (A3 FE Ay Ay) (Az Ay Ay (BJ (i := 0) JO Ay Ay (C3 _)) (Az Ay Ay (A1 Ay) ?_)))))))
    obtain ⟨x, hx⟩ := BO (l := t.branches) (i := i) Aw
    refine Az Ay Ay (BI JJ Ay Ay Aw (JH hx) (D8 _)) (Az Ay Ay (Bq Qf Ay (D8 _)) (BP Ay Ay (BN Wo Ay) fun b10 => Az Ay Ay (BB (i := 0) Qf Ay Ay Ay (by simp [D8]) (by first | rfl | simp [D8]) (RD _)) (A5 Ay (A2 (A0 (Az Ay Ay (A3 KD Ay Ay) (Az Ay Ay (BJ (i := 2) XX Ay Ay (Iw _)) (Az Ay Ay (A3 KC Ay Ay) (Az Ay Ay (BJ (i := 0) Ev Ay Ay (IE _)) (Az Ay Ay (Bp Ay Ay (Ml s.env x.ctor h3) Ay) (Az Ay Ay (A1 Ay) (Az Ay Ay (Bi Ay Ay) (Az Ay Ay (Bi Ay Ay) (BP Ay Ay (BN JB Ay) fun b11 => Az Ay Ay (BB (i := 0) FC Ay Ay Ay Ao Ad (EK _)) (Az Ay Ay (A4 Ay) (A5 Ay (A2 ?_)))))))))))))))))
    refine A2 (Bx [2, 3, 4, 5, 9, 10, 11] 82 (fun y => ∃ q : Bool, y = .p (.bool q) ∧ (q = false → (Ed s.env x.ctor).2 = 0 ∧ (Ed s.env x.ctor).1.kind = 4)) ?_ ?_)
    ·refine A0 (Az Ay Ay (A1 Ay) (Az Ay Ay (BE Ay Ay Ay) (Az Ay Ay (A1 Ay) (Br 78 Ay (fun g => ?_) (fun g => ?_)))))
     ·(try simp only [sd, se] at g)
      refine A7 Ay Ay Ay Ay Ay (A7 Ay Ay Ay Ay Ay (A7 Ay Ay Ay Ay Ay (Az Ay Ay (BC Ay Ay) (A5 Ay ?_))))
      exact ⟨Ay, Ay, AK, (by refine ⟨_, rfl, fun h => ?_⟩; first | (exact absurd h Av) | exact ⟨by simpa using g, by simpa using h⟩), ⟨Ay, Ay, Ay, Ay, Ay, Ay, Ay, trivial⟩⟩
     (try simp only [sd, se] at g)
     refine A6 Ay Ay Ay Ay (A3 I7 Ay Ay) (A6 Ay Ay Ay Ay (BJ (i := 0) C9 Ay Ay (RN _)) (A6 Ay Ay Ay Ay (BE Ay Ay Ay) (Az Ay Ay (BC Ay Ay) (A5 Ay ?_))))
     exact ⟨Ay, Ay, AK, (by refine ⟨_, rfl, fun h => ?_⟩; first | (exact absurd h Av) | exact ⟨by simpa using g, by simpa using h⟩), ⟨Ay, Ay, Ay, Ay, Ay, Ay, Ay, trivial⟩⟩
    rintro _ ⟨q, rfl, hq⟩
    refine BD Ay (fun c7 => ?_) (fun c7 => ?_)
    ·(try simp only [sd, se] at c7)
     refine A2 (A0 (Az Ay Ay (A4 Ay) (A5 Ay (BF (⟨Ay, _, _, ⟨_, _, Ay, Ay, Ay⟩, nS, ?_⟩)))))
     all_goals exact ⟨⟨_, rfl⟩, rfl⟩
    (try simp only [sd, se] at c7)
    obtain ⟨hq1, hq2⟩ := hq (by simpa using c7)
    obtain ⟨dd, k1, k2, k3, k4⟩ := TL hq1 hq2
    refine BG (A2 (A2 (A0 (Az Ay Ay (A3 KC Ay Ay) (Az Ay Ay (BJ (i := 1) Vf Ay Ay (Ip _)) (A5 Ay (BD Ay (fun c8 => ?_) (fun c8 => ?_))))))))
    ·(try simp only [sd, se] at c8)
     refine A2 (A2 (A0 (Az Ay Ay (A3 KC Ay Ay) (Az Ay Ay (Cl (i := 1) Od Ay Ay (Gk _) (FJ _)) (Az Ay Ay (Bv FE eW Ay) (Du Ay Ay (Bb Ay Ay (B1.args (RR (KF x.tree) x.tree (Lw.mk 0 (.mk 0 0 ⟨#[]⟩ [] [] : Tm) 0 []) (Nat.le_refl _) (Im h2.bs hx).tr) (aw (we Ay) (aw (Cs Ay) (C7)))) (.inl Ay)) ?_))))))
     rintro _ ⟨q2, rfl⟩
     refine Az Ay Ay (Cp Ay) (A5 Ay (BD Ay (fun c9 => ?_) (fun c9 => ?_)))
     ·(try simp only [sd, se] at c9)
      refine A2 (A0 (Az Ay Ay (A4 Ay) (A5 Ay (BF (⟨Ay, _, _, ⟨_, _, Ay, Ay, Ay⟩, nS, ?_⟩)))))
      all_goals exact ⟨⟨_, rfl⟩, rfl⟩
     (try simp only [sd, se] at c9)
     refine BG (B7 (A0 (Az Ay Ay (A1 Ay) (Az Ay Ay (CH Ay Ay Aw Aw) (Az Ay Ay (A4 Ay) (A5 Ay ?_))))))
     refine ⟨(i + 1), AZ, by omega, By ⟨we rfl, we rfl, we rfl, we rfl, we rfl, trivial⟩ (leH (is := [2, 3]) rfl (wl (oe rfl) (wl (oe rfl) (Dc))))⟩
    (try simp only [sd, se] at c8)
    refine BG (A2 (CW (fun k => Nat.beq k 12 || Nat.beq k 16) ED (Ba (j := 3) Ay Ay Ay (fun H i hi => A8 (i := i) KB Ay hi Al) AA trivial (BA Ay Ay (fun _ => A3 KC Ay Ay) trivial (Ba (j := 1) Ay Ay Ay (fun H i hi => Cl (i := i) Od Ay hi (Gk _) (FJ _)) AA trivial (BA Ay Ay (fun _ => A1 Ay) trivial (BA Ay Ay (fun _ => A3 KD Ay Ay) trivial (Ba (j := 3) Ay Ay Ay (fun H i hi => BJ (i := i) XX Ay hi (Iw _)) AA trivial (BA Ay Ay (fun _ => A3 I7 Ay Ay) trivial (Ba (j := 0) Ay Ay Ay (fun H i hi => BJ (i := i) C9 Ay hi (Q1 _)) AA trivial ?_))))))))))
    obtain ⟨x1, hx1⟩ := BO (l := s.env) (i := (((Ed s.env x.ctor).1).decl : Int).toNat) (by have := (List.getElem?_eq_some_iff.1 k2).1; omega)
    refine BA Ay Ay (fun _ => BI Lx Ay Ay Aw (JN hx1) (D2 _)) trivial (BA Ay Ay (fun _ => Bq GG Ay (D2 _)) trivial (BA Ay Ay (fun _ => A3 I7 Ay Ay) trivial (Ba (j := 0) Ay Ay Ay (fun H i hi => BJ (i := i) C9 Ay hi (RI _)) AA trivial (JD [(14, .free (.p (I dp))), (15, .free (.p (I ((dp : Int) + (1 : Int)))))] Ay Ay (Bb Ay Ay (Tr x1 (((Ed s.env x.ctor).1).item) (h3.all _ (List.mem_of_getElem? hx1)) k3 (by have e := Option.some.inj (k2.symm.trans hx1); subst e; exact k4)) (.inl Ay)) Ar (⟨_, 0, Ay⟩) AA ?_))))
    rintro _ ⟨e, rfl⟩
    refine ⟨trivial, ?_⟩
    refine BA Ay Ay (fun _ => EE Ay Ay) AN (BA Ay Ay (fun _ => A1 Ay) AN (BA Ay Ay (fun _ => CH Ay Ay Aw Aw) AN (JD [] Ay Ay (Bb Ay Ay (ih s x.tree (wr ((vs : Int) + (e : Int))) ((dp : Int) + (1 : Int)) (by have := O7 hx; omega) (Im h2.bs hx).tr h3 h4 h5 Aw) (.inl Ay)) Ar (⟨_, 0, Ay⟩) AA ?_)))
    rintro _ ⟨e1, rfl⟩
    refine ⟨AN, ?_⟩
    refine BA Ay Ay (fun _ => A4 Ay) AN (CP Ay Ar (A2 (A0 (Az Ay Ay (A1 Ay) (Az Ay Ay (BE Ay Ay Ay) (A5 Ay (BD Ay (fun c9 => ?_) (fun c9 => ?_))))))))
    ·(try simp only [sd, se] at c9)
     refine A2 (A0 (Az Ay Ay (A1 Ay) (Az Ay Ay (A4 Ay) (A5 Ay (BF (⟨Ay, _, _, ⟨_, _, Ay, Ay, Ay⟩, nS, ?_⟩))))))
     all_goals exact ⟨⟨_, rfl⟩, rfl⟩
    (try simp only [sd, se] at c9)
    refine BG (A0 (Az Ay Ay (A1 Ay) (Az Ay Ay (CH Ay Ay Aw Aw) (Az Ay Ay (A4 Ay) (A5 Ay ?_)))))
    refine ⟨(i + 1), AZ, by omega, By ⟨we rfl, we rfl, we rfl, we rfl, we rfl, trivial⟩ (leH (is := [2, 3]) rfl (wl (oe rfl) (wl (oe rfl) (Dc))))⟩
   (try simp only [sd, se] at c6)
   refine B7 (A2 (A0 (Az Ay Ay (A4 Ay) (A5 Ay (BF (⟨Ay, _, _, ⟨_, _, Ay, Ay, Ay⟩, nS, ?_⟩))))))
   all_goals exact ⟨⟨_, rfl⟩, rfl⟩
  (try simp only [sd, se] at c2)
  refine A2 (A0 (Az Ay Ay (A4 Ay) (A5 Ay (BF (⟨Ay, _, _, ⟨_, _, Ay, Ay, Ay⟩, nS, ?_⟩)))))
  all_goals exact ⟨⟨_, rfl⟩, rfl⟩
theorem VB : ∀ (ds : List Dt) (d : Dt), (IB ds) → (Rl d) → E1 Tryz.prog 110 [.p (.lst (List.map Ci ds)), .agg ((Ci d).map .p)] (Lb) := by
 intro ds d h1 h2
 have hn := Ly d
 have hcl := h2.cl
 have hfl := h2.fl
 have hrl := h2.rl
 refine BH Tryz.func110 Ay ct (n := 161) Ay Ay (A2 (A0 (BP Ay Ay (Bj Ay) fun b3 => Az Ay Ay (A4 Ay) (A5 Ay (A2 (A0 (Az Ay Ay (A1 Ay) (Az Ay Ay (A8 (i := 0) GG Ay Ay An) (Az Ay Ay (WB KD ZV (dB Ay Ay Ay)) (BP Ay Ay (BN ZV Ay) fun b5 => Az Ay Ay (BB (i := 0) KB Ay Ay Ay Al (by first | rfl | simp [Qn]) (Yh _)) (A5 Ay (A2 (A2 (A0 (Az Ay Ay (A3 CR Ay Ay) (Az Ay Ay (BJ (i := 1) C9 Ay Ay (Dl _)) (Az Ay Ay (BE Ay Ay Ay) (A5 Ay (Bx [3, 5] 17 (fun _ => True) ?_ ?_)))))))))))))))))))
 ·refine BD Ay (fun c => ?_) (fun c => ?_)
  ·(try simp only [sd, se] at c)
   refine A2 (A0 (Az Ay Ay (A8 (i := 0) KB Ay Ay Al) (Az Ay Ay (A3 CR Ay Ay) (Az Ay Ay (Cl (i := 1) BU Ay Ay (F9 _) (Bd _)) (Az Ay Ay (A3 CR Ay Ay) (Az Ay Ay (BJ (i := 1) C9 Ay Ay (C4 _)) (Du Ay Ay (Bb Ay Ay (GU (NT.mk ds [] d) d.type 0 d.params h2.ty h1 Ax h2) (.inl Ay)) ?_)))))))
   rintro _ ⟨e, rfl⟩
   refine Az Ay Ay (A4 Ay) (A5 Ay (A2 (A0 (Az Ay Ay (A1 Ay) (Az Ay Ay (BE Ay Ay Ay) (A5 Ay (BD Ay (fun c1 => ?_) (fun c1 => ?_))))))))
   ·(try simp only [sd, se] at c1)
    refine A2 (A0 (Az Ay Ay (A1 Ay) (Az Ay Ay (A4 Ay) (A5 Ay (BF (⟨Ay, _, _, ⟨_, _, Ay, Ay, Ay⟩, nS, ?_⟩))))))
    all_goals exact ⟨⟨_, rfl⟩, rfl⟩
   (try simp only [sd, se] at c1)
   exact BG (⟨Ay, Ay, (List.Sublist.refl _), trivial, ⟨Ay, Ay, trivial⟩⟩)
  (try simp only [sd, se] at c)
  exact BG (⟨Ay, Ay, (List.Sublist.refl _), trivial, ⟨Ay, Ay, trivial⟩⟩)
 intro _ _
 refine A2 (A2 (A0 (Az Ay Ay (A3 CR Ay Ay) (Az Ay Ay (BJ (i := 1) C9 Ay Ay (Dl _)) (A5 Ay (BT (A2 (A2 (A0 (Az Ay Ay (BE Ay Ay Ay) (Az Ay Ay (A4 Ay) (A5 Ay (Bx [3, 5, 33] 34 Dv ?_ ?_)))))))))))))
 ·refine BD Ay (fun c => ?_) (fun c => ?_)
  ·(try simp only [sd, se] at c)
   exact BG (⟨Ay, Ay, (List.Sublist.refl _), ⟨_, Ay⟩, ⟨Ay, Ay, Ay, trivial⟩⟩)
  (try simp only [sd, se] at c)
  exact A0 (Az Ay Ay (BE Ay Ay Ay) (Az Ay Ay (A4 Ay) (A5 Ay (⟨Ay, Ay, (List.Sublist.refl _), ⟨_, Ay⟩, ⟨Ay, Ay, Ay, trivial⟩⟩))))
 rintro _ ⟨q, rfl⟩
 refine BD Ay (fun c => ?_) (fun c => ?_)
 ·(try simp only [sd, se] at c)
  refine A2 (A0 (Az Ay Ay (A8 (i := 0) KB Ay Ay Al) (Az Ay Ay (A3 CR Ay Ay) (Az Ay Ay (Cl (i := 1) BU Ay Ay (GN _) (Bd _)) (Az Ay Ay (A3 CR Ay Ay) (Az Ay Ay (BJ (i := 1) C9 Ay Ay (C4 _)) (Du Ay Ay (Bb Ay Ay (GU (NT.mk ds [] d) d.value 0 d.params h2.vl h1 Ax h2) (.inl Ay)) ?_)))))))
  rintro _ ⟨e, rfl⟩
  refine Az Ay Ay (A4 Ay) (A5 Ay (BF (⟨Ay, _, _, ⟨_, _, Ay, Ay, Ay⟩, nS, ?_⟩)))
  all_goals exact ⟨⟨_, rfl⟩, rfl⟩
 (try simp only [sd, se] at c)
 refine A2 (A0 (Az Ay Ay (BE Ay Ay Ay) (Az Ay Ay (A4 Ay) (A5 Ay (BD Ay (fun c1 => ?_) (fun c1 => ?_))))))
 ·(try simp only [sd, se] at c1)
  have hn1 := Ux (d := d) (by simpa using c1)
  refine A2 (A0 (Az Ay Ay (A3 CR Ay Ay) (Az Ay Ay (BJ (i := 1) Ev Ay Ay (Dz _)) (Az Ay Ay (CJ EL R9 Ay Ay Ay Ay Ay) (Az Ay Ay (A3 KD Ay Ay) (Az Ay Ay (Di (i := 0) (ds := (F4 (NT.mk ds [d.name] d)).map .p) LP Ay Ay Ay Ay Ay Ay Ay) (A5 Ay (A2 (A2 (A0 (Az Ay Ay (A4 Ay) (A5 Ay (BT (B4 (α := Nat) (fun i => ⟨161, mk [(3, .ptr b3 0), (5, .ptr b5 0), (7, .p (I (i : Int)))], [.box b5 ((F4 (NT.mk ds [d.name] d)).map .p), .box b3 ((Ci d).map .p)], []⟩) (fun i => d.ctors.length - i) (fun i => i ≤ d.ctors.length) 0 AS ?_ ?_))))))))))))))
  ·exact By ⟨we Ay, we Ay, we Ay, trivial⟩ (leH (is := [0, 1]) Ay (wl (oe Ay) (wl (oe Ay) (Dc))))
  rintro i hC
  try simp only at hC
  have hi := hC
  refine A2 (A2 (A0 (Az Ay Ay (A1 Ay) (Az Ay Ay (A3 CR Ay Ay) (Az Ay Ay (BJ (i := 1) G0 Ay Ay (Cy _)) (Az Ay Ay (Bo Ge Ay (List.length_map _)) (Az Ay Ay (BE Ay Ay Ay) (A5 Ay (BD Ay (fun c2 => ?_) (fun c2 => ?_))))))))))
  ·(try simp only [sd, se] at c2)
   refine BG (A2 (BT (A2 (CW (fun k => Nat.beq k 9) ED (Ba (j := 0) Ay Ay Ay (fun H i hi => A8 (i := i) KB Ay hi Al) AA trivial (BA Ay Ay (fun _ => A3 CR Ay Ay) trivial (Ba (j := 1) Ay Ay Ay (fun H i hi => BJ (i := i) G0 Ay hi (Cy _)) AA trivial (BA Ay Ay (fun _ => A1 Ay) trivial ?_))))))))
   obtain ⟨x, hx⟩ := BO (l := d.ctors) (i := i) Aw
   refine BA Ay Ay (fun _ => BI Ge Ay Ay Aw (F5 hx) (Eh _)) trivial (BA Ay Ay (fun _ => CM LY Ay Ay) trivial (BA Ay Ay (fun _ => D4 BU Ay (F8 _) (Bd _)) trivial (BA Ay Ay (fun _ => A3 CR Ay Ay) trivial (Ba (j := 1) Ay Ay Ay (fun H i hi => BJ (i := i) C9 Ay hi (C4 _)) AA trivial (JD [] Ay Ay (Bb Ay Ay (GU (NT.mk ds [d.name] d) x.type 0 d.params (h2.cs _ (List.mem_of_getElem? hx)).ty h1 Ax h2) (.inl Ay)) Ar (⟨_, 0, Ay⟩) AA ?_)))))
   rintro _ ⟨e, rfl⟩
   refine ⟨trivial, ?_⟩
   refine BA Ay Ay (fun _ => A4 Ay) trivial (CP Ay Ar (A2 (A0 (Az Ay Ay (A1 Ay) (Az Ay Ay (BE Ay Ay Ay) (A5 Ay (BD Ay (fun c3 => ?_) (fun c3 => ?_))))))))
   ·(try simp only [sd, se] at c3)
    refine A2 (A0 (Az Ay Ay (A1 Ay) (Az Ay Ay (A4 Ay) (A5 Ay (BF (⟨Ay, _, _, ⟨_, _, Ay, Ay, Ay⟩, nS, ?_⟩))))))
    all_goals exact ⟨⟨_, rfl⟩, rfl⟩
   (try simp only [sd, se] at c3)
   refine BG (A0 (Az Ay Ay (A1 Ay) (Az Ay Ay (CH Ay Ay Aw Aw) (Az Ay Ay (A4 Ay) (A5 Ay ?_)))))
   refine ⟨(i + 1), AZ, by omega, By ⟨we rfl, we rfl, we rfl, trivial⟩ (leH (is := [0, 1]) rfl (wl (oe rfl) (wl (oe rfl) (Dc))))⟩
  (try simp only [sd, se] at c2)
  refine B7 (A2 (A0 (Az Ay Ay (A8 (i := 1) GG Ay Ay An) (Az Ay Ay (Bp Ay Ay (K8 d h2.cl h2.fl h2.nm) Ay) (Az Ay Ay (A4 Ay) (A5 Ay (A2 (A0 (Az Ay Ay (A1 Ay) (Az Ay Ay (A1 Ay) (Az Ay Ay (Bo EL Ay (List.length_map _)) (Az Ay Ay (FH Ay Ay Aw Aw) (Az Ay Ay (Dk (lo := 0) (hi := ((((C8 d).length : Nat) : Int) - (1 : Int) : Int).toNat) EL Ay (B9 (E8 _)) Ay ⟨_, pI Aw⟩ (Nat.zero_le _) AU (Pb (f := CZ) (C8 d) (((((C8 d).length : Nat) : Int) - (1 : Int) : Int).toNat))) (Az Ay Ay (A3 KD Ay Ay) (Az Ay Ay (Di (i := 0) (ds := (F4 (NT.mk ds ((C8 d).take (((((C8 d).length : Nat) : Int) - (1 : Int) : Int).toNat)) d)).map .p) LP Ay Ay Ay Ay Ay Ay Ay) (A5 Ay (A2 ?_)))))))))))))))))
  refine A2 (A0 (Az Ay Ay (A8 (i := 0) KB Ay Ay Al) (Az Ay Ay (A3 CR Ay Ay) (Az Ay Ay (A3 Ga Ay Ay) (Az Ay Ay (Cl (i := 1) BU Ay Ay (Ek _) (Bd _)) (Az Ay Ay (A3 CR Ay Ay) (Az Ay Ay (A3 Ga Ay Ay) (Az Ay Ay (BJ (i := 1) C9 Ay Ay (DS _)) (Du Ay Ay (Bb Ay Ay (GU (NT.mk ds ((C8 d).take (((((C8 d).length : Nat) : Int) - (1 : Int) : Int).toNat)) d) d.recs.type 0 d.recs.params h2.rt h1 Aq h2) (.inl Ay)) ?_)))))))))
  rintro _ ⟨e, rfl⟩
  refine Az Ay Ay (A4 Ay) (A5 Ay (A2 (A0 (Az Ay Ay (A1 Ay) (Az Ay Ay (BE Ay Ay Ay) (A5 Ay (BD Ay (fun c3 => ?_) (fun c3 => ?_))))))))
  ·(try simp only [sd, se] at c3)
   refine A2 (A0 (Az Ay Ay (A1 Ay) (Az Ay Ay (A4 Ay) (A5 Ay (BF (⟨Ay, _, _, ⟨_, _, Ay, Ay, Ay⟩, nS, ?_⟩))))))
   all_goals exact ⟨⟨_, rfl⟩, rfl⟩
  (try simp only [sd, se] at c3)
  refine BG (A2 (A0 (Az Ay Ay (A1 Ay) (Az Ay Ay (A3 KD Ay Ay) (Az Ay Ay (Di (i := 0) (ds := (F4 (NT.mk ds (C8 d) d)).map .p) LP Ay Ay Ay Ay Ay Ay Ay) (A5 Ay (A2 (A0 (Az Ay Ay (A4 Ay) (A5 Ay (BT (B4 (α := Nat) (fun i => ⟨161, mk [(3, .ptr b3 0), (5, .ptr b5 0), (11, .p (I (i : Int)))], [.box b5 ((F4 (NT.mk ds (C8 d) d)).map .p), .box b3 ((Ci d).map .p)], []⟩) (fun i => d.recs.rules.length - i) (fun i => i ≤ d.recs.rules.length) 0 AS ?_ ?_))))))))))))
  ·exact By ⟨we Ay, we Ay, we Ay, trivial⟩ (leH (is := [0, 1]) Ay (wl (oe Ay) (wl (oe Ay) (Dc))))
  rintro i hC1
  try simp only at hC1
  have hi := hC1
  refine A2 (A2 (A0 (Az Ay Ay (A1 Ay) (Az Ay Ay (A3 CR Ay Ay) (Az Ay Ay (A3 Ga Ay Ay) (Az Ay Ay (BJ (i := 1) DG Ay Ay (DO _)) (Az Ay Ay (Bo CL Ay (B5 _)) (Az Ay Ay (BE Ay Ay Ay) (A5 Ay (BD Ay (fun c4 => ?_) (fun c4 => ?_)))))))))))
  ·(try simp only [sd, se] at c4)
   refine BG (A2 (BT (A2 (CW (fun k => Nat.beq k 10) ED (Ba (j := 0) Ay Ay Ay (fun H i hi => A8 (i := i) KB Ay hi Al) AA trivial (BA Ay Ay (fun _ => A3 CR Ay Ay) trivial (BA Ay Ay (fun _ => A3 Ga Ay Ay) trivial (Ba (j := 1) Ay Ay Ay (fun H i hi => BJ (i := i) DG Ay hi (DO _)) AA trivial (BA Ay Ay (fun _ => A1 Ay) trivial ?_)))))))))
   obtain ⟨x, hx⟩ := BO (l := d.recs.rules) (i := i) Aw
   refine BA Ay Ay (fun _ => BI CL Ay Ay Aw (CU hx) (Bd _)) trivial (BA Ay Ay (fun _ => Bq BU Ay (Bd _)) trivial (BA Ay Ay (fun _ => A3 CR Ay Ay) trivial (BA Ay Ay (fun _ => A3 Ga Ay Ay) trivial (Ba (j := 1) Ay Ay Ay (fun H i hi => BJ (i := i) C9 Ay hi (DS _)) AA trivial (JD [] Ay Ay (Bb Ay Ay (GU (NT.mk ds (C8 d) d) x 0 d.recs.params (h2.rs _ (List.mem_of_getElem? hx)) h1 (by simp only; omega) h2) (.inl Ay)) Ar (⟨_, 0, Ay⟩) AA ?_)))))
   rintro _ ⟨e1, rfl⟩
   refine ⟨trivial, ?_⟩
   refine BA Ay Ay (fun _ => A4 Ay) trivial (CP Ay Ar (A2 (A0 (Az Ay Ay (A1 Ay) (Az Ay Ay (BE Ay Ay Ay) (A5 Ay (BD Ay (fun c5 => ?_) (fun c5 => ?_))))))))
   ·(try simp only [sd, se] at c5)
    refine A2 (A0 (Az Ay Ay (A1 Ay) (Az Ay Ay (A4 Ay) (A5 Ay (BF (⟨Ay, _, _, ⟨_, _, Ay, Ay, Ay⟩, nS, ?_⟩))))))
    all_goals exact ⟨⟨_, rfl⟩, rfl⟩
   (try simp only [sd, se] at c5)
   refine BG (A0 (Az Ay Ay (A1 Ay) (Az Ay Ay (CH Ay Ay Aw Aw) (Az Ay Ay (A4 Ay) (A5 Ay ?_)))))
   refine ⟨(i + 1), AZ, by omega, By ⟨we rfl, we rfl, we rfl, trivial⟩ (leH (is := [0, 1]) rfl (wl (oe rfl) (wl (oe rfl) (Dc))))⟩
  (try simp only [sd, se] at c4)
  refine B7 (A2 (A0 (Az Ay Ay (A4 Ay) (A5 Ay (BF (⟨Ay, _, _, ⟨_, _, Ay, Ay, Ay⟩, nS, ?_⟩))))))
  all_goals exact ⟨⟨_, rfl⟩, rfl⟩
 (try simp only [sd, se] at c1)
 refine A2 (A0 (Az Ay Ay (BE Ay Ay Ay) (Az Ay Ay (A4 Ay) (A5 Ay (BD Ay (fun c2 => ?_) (fun c2 => ?_))))))
 ·(try simp only [sd, se] at c2)
  refine A2 (A2 (A0 (Az Ay Ay (A4 Ay) (A5 Ay (BT (B4 (α := Nat) (fun i => ⟨161, mk [(3, .ptr b3 0), (5, .ptr b5 0), (13, .p (I (i : Int)))], [.box b5 ((F4 (NT.mk ds [] d)).map .p), .box b3 ((Ci d).map .p)], []⟩) (fun i => d.funs.length - i) (fun i => i ≤ d.funs.length) 0 AS ?_ ?_))))))
  ·exact By ⟨we Ay, we Ay, we Ay, trivial⟩ (leH (is := [0, 1]) Ay (wl (oe Ay) (wl (oe Ay) (Dc))))
  rintro i hC
  try simp only at hC
  have hi := hC
  refine A2 (A2 (A0 (Az Ay Ay (A1 Ay) (Az Ay Ay (A3 CR Ay Ay) (Az Ay Ay (BJ (i := 1) Fj Ay Ay (Cq _)) (Az Ay Ay (Bo FP Ay (List.length_map _)) (Az Ay Ay (BE Ay Ay Ay) (A5 Ay (BD Ay (fun c3 => ?_) (fun c3 => ?_))))))))))
  ·(try simp only [sd, se] at c3)
   refine BG (A2 (BT (A2 (CW (fun k => Nat.beq k 9) ED (Ba (j := 0) Ay Ay Ay (fun H i hi => A8 (i := i) KB Ay hi Al) AA trivial (BA Ay Ay (fun _ => A3 CR Ay Ay) trivial (Ba (j := 1) Ay Ay Ay (fun H i hi => BJ (i := i) Fj Ay hi (Cq _)) AA trivial (BA Ay Ay (fun _ => A1 Ay) trivial ?_))))))))
   obtain ⟨x, hx⟩ := BO (l := d.funs) (i := i) Aw
   refine BA Ay Ay (fun _ => BI FP Ay Ay Aw (FY hx) (Ec _)) trivial (BA Ay Ay (fun _ => CM Jc Ay Ay) trivial (BA Ay Ay (fun _ => D4 BU Ay (IK _) (Bd _)) trivial (BA Ay Ay (fun _ => A3 CR Ay Ay) trivial (Ba (j := 1) Ay Ay Ay (fun H i hi => BJ (i := i) C9 Ay hi (C4 _)) AA trivial (JD [] Ay Ay (Bb Ay Ay (GU (NT.mk ds [] d) x.type 0 d.params (h2.fs _ (List.mem_of_getElem? hx)).ty h1 Ax h2) (.inl Ay)) Ar (⟨_, 0, Ay⟩) AA ?_)))))
   rintro _ ⟨e, rfl⟩
   refine ⟨trivial, ?_⟩
   refine BA Ay Ay (fun _ => A4 Ay) trivial (CP Ay Ar (A2 (A0 (Az Ay Ay (A1 Ay) (Az Ay Ay (BE Ay Ay Ay) (A5 Ay (BD Ay (fun c4 => ?_) (fun c4 => ?_))))))))
   ·(try simp only [sd, se] at c4)
    refine A2 (A0 (Az Ay Ay (A1 Ay) (Az Ay Ay (A4 Ay) (A5 Ay (BF (⟨Ay, _, _, ⟨_, _, Ay, Ay, Ay⟩, nS, ?_⟩))))))
    all_goals exact ⟨⟨_, rfl⟩, rfl⟩
   (try simp only [sd, se] at c4)
   refine BG (A0 (Az Ay Ay (A1 Ay) (Az Ay Ay (CH Ay Ay Aw Aw) (Az Ay Ay (A4 Ay) (A5 Ay ?_)))))
   refine ⟨(i + 1), AZ, by omega, By ⟨we rfl, we rfl, we rfl, trivial⟩ (leH (is := [0, 1]) rfl (wl (oe rfl) (wl (oe rfl) (Dc))))⟩
  (try simp only [sd, se] at c3)
  refine B7 (A2 (A0 (Az Ay Ay (A8 (i := 1) GG Ay Ay An) (Az Ay Ay (Bp Ay Ay (K8 d h2.cl h2.fl h2.nm) Ay) (Az Ay Ay (A3 KD Ay Ay) (Az Ay Ay (Di (i := 0) (ds := (F4 (NT.mk ds (C8 d) d)).map .p) LP Ay Ay Ay Ay Ay Ay Ay) (A5 Ay (A2 (A0 (Az Ay Ay (A4 Ay) (A5 Ay (BT (B4 (α := Nat) (fun i => ⟨161, mk [(3, .ptr b3 0), (5, .ptr b5 0), (15, .p (I (i : Int)))], [.box b5 ((F4 (NT.mk ds (C8 d) d)).map .p), .box b3 ((Ci d).map .p)], []⟩) (fun i => d.funs.length - i) (fun i => i ≤ d.funs.length) 0 AS ?_ ?_)))))))))))))
  ·exact By ⟨we Ay, we Ay, we Ay, trivial⟩ (leH (is := [0, 1]) Ay (wl (oe Ay) (wl (oe Ay) (Dc))))
  rintro i hC1
  try simp only at hC1
  have hi := hC1
  refine A2 (A2 (A0 (Az Ay Ay (A1 Ay) (Az Ay Ay (A3 CR Ay Ay) (Az Ay Ay (BJ (i := 1) Fj Ay Ay (Cq _)) (Az Ay Ay (Bo FP Ay (List.length_map _)) (Az Ay Ay (BE Ay Ay Ay) (A5 Ay (BD Ay (fun c4 => ?_) (fun c4 => ?_))))))))))
  ·(try simp only [sd, se] at c4)
   refine BG (A2 (BT (A2 (CW (fun k => Nat.beq k 13) ED (Ba (j := 0) Ay Ay Ay (fun H i hi => A8 (i := i) KB Ay hi Al) AA trivial (BA Ay Ay (fun _ => A3 CR Ay Ay) trivial (Ba (j := 1) Ay Ay Ay (fun H i hi => BJ (i := i) Fj Ay hi (Cq _)) AA trivial (BA Ay Ay (fun _ => A1 Ay) trivial ?_))))))))
   obtain ⟨x, hx⟩ := BO (l := d.funs) (i := i) Aw
   refine BA Ay Ay (fun _ => BI FP Ay Ay Aw (FY hx) (Ec _)) trivial (BA Ay Ay (fun _ => CM Jc Ay Ay) trivial (BA Ay Ay (fun _ => D4 Od Ay (ML _) (FJ _)) trivial (BA Ay Ay (fun _ => A3 CR Ay Ay) trivial (Ba (j := 1) Ay Ay Ay (fun H i hi => BJ (i := i) Fj Ay hi (Cq _)) AA trivial (BA Ay Ay (fun _ => A1 Ay) trivial (BA Ay Ay (fun _ => BI FP Ay Ay Aw (FY hx) (Ec _)) trivial (BA Ay Ay (fun _ => CM Jc Ay Ay) trivial (BA Ay Ay (fun _ => EP C9 Ay (I9 _)) trivial (JD [] Ay Ay (Bb Ay Ay (Tw (KF x.tree) (NT.mk ds (C8 d) d) x.tree x.arity 0 (Nat.le_refl _) (h2.fs _ (List.mem_of_getElem? hx)).tr h1 (by simp only; omega) h2 Aw) (.inl Ay)) Ar (⟨_, 0, Ay⟩) AA ?_)))))))))
   rintro _ ⟨e, rfl⟩
   refine ⟨trivial, ?_⟩
   refine BA Ay Ay (fun _ => A4 Ay) trivial (CP Ay Ar (A2 (A0 (Az Ay Ay (A1 Ay) (Az Ay Ay (BE Ay Ay Ay) (A5 Ay (BD Ay (fun c5 => ?_) (fun c5 => ?_))))))))
   ·(try simp only [sd, se] at c5)
    refine A2 (A0 (Az Ay Ay (A1 Ay) (Az Ay Ay (A4 Ay) (A5 Ay (BF (⟨Ay, _, _, ⟨_, _, Ay, Ay, Ay⟩, nS, ?_⟩))))))
    all_goals exact ⟨⟨_, rfl⟩, rfl⟩
   (try simp only [sd, se] at c5)
   refine BG (A0 (Az Ay Ay (A1 Ay) (Az Ay Ay (CH Ay Ay Aw Aw) (Az Ay Ay (A4 Ay) (A5 Ay ?_)))))
   refine ⟨(i + 1), AZ, by omega, By ⟨we rfl, we rfl, we rfl, trivial⟩ (leH (is := [0, 1]) rfl (wl (oe rfl) (wl (oe rfl) (Dc))))⟩
  (try simp only [sd, se] at c4)
  refine B7 (A2 (A0 (Az Ay Ay (A4 Ay) (A5 Ay (BF (⟨Ay, _, _, ⟨_, _, Ay, Ay, Ay⟩, nS, ?_⟩))))))
  all_goals exact ⟨⟨_, rfl⟩, rfl⟩
 (try simp only [sd, se] at c2)
 refine BG (A2 (A0 (Az Ay Ay (A4 Ay) (A5 Ay (BF (⟨Ay, _, _, ⟨_, _, Ay, Ay, Ay⟩, nS, ?_⟩))))))
 all_goals exact ⟨⟨_, rfl⟩, rfl⟩
theorem XA : ∀ (ds : List Dt) (d : Dt), (IB ds) → (Rl d) → E1 Tryz.prog 73 [.p (.lst (List.map Ci ds)), .agg ((Ci d).map .p)] (Lb) := by
 intro ds d h1 h2
 refine BH Tryz.func73 Ay iG (n := 32) Ay Ay (A2 (A0 (BP Ay Ay (Bj Ay) fun b3 => Az Ay Ay (A4 Ay) (A5 Ay (A2 (A2 (Bx [0, 3] 14 Dv ?_ ?_)))))))
 ·refine A0 (Az Ay Ay (A3 CR Ay Ay) (Az Ay Ay (BJ (i := 0) C9 Ay Ay (Dl _)) (Az Ay Ay (BE Ay Ay Ay) (Az Ay Ay (A1 Ay) (Br 10 Ay (fun g => ?_) (fun g => ?_))))))
  ·(try simp only [sd, se] at g)
   exact A7 Ay Ay Ay Ay Ay (A7 Ay Ay Ay Ay Ay (A7 Ay Ay Ay Ay Ay (Az Ay Ay (BC Ay Ay) (A5 Ay (⟨Ay, Ay, AK, ⟨_, Ay⟩, ⟨Ay, Ay, trivial⟩⟩)))))
  (try simp only [sd, se] at g)
  exact A6 Ay Ay Ay Ay (A3 CR Ay Ay) (A6 Ay Ay Ay Ay (BJ (i := 0) C9 Ay Ay (Dl _)) (A6 Ay Ay Ay Ay (BE Ay Ay Ay) (Az Ay Ay (BC Ay Ay) (A5 Ay (⟨Ay, Ay, AK, ⟨_, Ay⟩, ⟨Ay, Ay, trivial⟩⟩)))))
 rintro _ ⟨q, rfl⟩
 refine BD Ay (fun c => ?_) (fun c => ?_)
 ·(try simp only [sd, se] at c)
  refine A2 (A0 (Az Ay Ay (A4 Ay) (A5 Ay (BF (⟨Ay, _, _, ⟨_, _, Ay, Ay, Ay⟩, nS, ?_⟩)))))
  all_goals exact ⟨⟨_, rfl⟩, rfl⟩
 (try simp only [sd, se] at c)
 refine BG (A2 (A2 (A0 (Az Ay Ay (A8 (i := 0) GG Ay Ay An) (Du Ay Ay (Bb Ay Ay (Tn d h2) (.inl Ay)) ?_)))))
 rintro _ ⟨q1, rfl⟩
 refine Az Ay Ay (Cp Ay) (A5 Ay (BD Ay (fun c1 => ?_) (fun c1 => ?_)))
 ·(try simp only [sd, se] at c1)
  refine A2 (A0 (Az Ay Ay (A4 Ay) (A5 Ay (BF (⟨Ay, _, _, ⟨_, _, Ay, Ay, Ay⟩, nS, ?_⟩)))))
  all_goals exact ⟨⟨_, rfl⟩, rfl⟩
 (try simp only [sd, se] at c1)
 refine BG (A2 (A2 (A0 (Az Ay Ay (A8 (i := 0) GG Ay Ay An) (Du Ay Ay (Bb Ay Ay (Sv d h2) (.inl Ay)) ?_)))))
 rintro _ ⟨e, rfl⟩
 refine Az Ay Ay (A4 Ay) (A5 Ay (A2 (A0 (Az Ay Ay (A1 Ay) (Az Ay Ay (BE Ay Ay Ay) (A5 Ay (BD Ay (fun c2 => ?_) (fun c2 => ?_))))))))
 ·(try simp only [sd, se] at c2)
  refine A2 (A0 (Az Ay Ay (A1 Ay) (Az Ay Ay (A4 Ay) (A5 Ay (BF (⟨Ay, _, _, ⟨_, _, Ay, Ay, Ay⟩, nS, ?_⟩))))))
  all_goals exact ⟨⟨_, rfl⟩, rfl⟩
 (try simp only [sd, se] at c2)
 refine BG (A2 (A2 (A0 (Az Ay Ay (A1 Ay) (Az Ay Ay (A8 (i := 0) GG Ay Ay An) (Du Ay Ay (Bb Ay Ay (Pr ds d h1 h2) (.inl Ay)) ?_))))))
 rintro _ ⟨e1, rfl⟩
 refine Az Ay Ay (A4 Ay) (A5 Ay (A2 (A0 (Az Ay Ay (A1 Ay) (Az Ay Ay (BE Ay Ay Ay) (A5 Ay (BD Ay (fun c3 => ?_) (fun c3 => ?_))))))))
 ·(try simp only [sd, se] at c3)
  refine A2 (A0 (Az Ay Ay (A1 Ay) (Az Ay Ay (A4 Ay) (A5 Ay (BF (⟨Ay, _, _, ⟨_, _, Ay, Ay, Ay⟩, nS, ?_⟩))))))
  all_goals exact ⟨⟨_, rfl⟩, rfl⟩
 (try simp only [sd, se] at c3)
 refine BG (A2 (A0 (Az Ay Ay (A1 Ay) (Az Ay Ay (A8 (i := 0) GG Ay Ay An) (Du Ay Ay (Bb Ay Ay (VB ds d h1 h2) (.inl Ay)) ?_)))))
 rintro _ ⟨e2, rfl⟩
 refine Az Ay Ay (A4 Ay) (A5 Ay (BF (⟨Ay, _, _, ⟨_, _, Ay, Ay, Ay⟩, nS, ?_⟩)))
 all_goals exact ⟨⟨_, rfl⟩, rfl⟩
theorem Tx : ∀ (ds : List Dt), (IB ds) → E1 Tryz.prog 43 [.p (.lst (List.map Ci ds))] (fun v => ∃ a e : Int, v = .tup [.p (I a), .p (I e)]) := by
 intro ds h1
 have hl := h1.len
 refine BH Tryz.func43 Ay gm (n := 27) Ay Ay (A2 (A0 (Az Ay Ay (A4 Ay) (Az Ay Ay (A4 Ay) (A5 Ay (A2 (A2 (A0 (Az Ay Ay (A1 Ay) (Az Ay Ay (Bo Lx Ay (List.length_map _)) (Az Ay Ay (BE Ay Ay Ay) (A5 Ay (BD Ay (fun c => ?_) (fun c => ?_))))))))))))))
 ·(try simp only [sd, se] at c)
  refine A2 (A0 (Az Ay Ay (A4 Ay) (Az Ay Ay (A4 Ay) (A5 Ay (BF (⟨Ay, _, _, ⟨_, _, Ay, Ay, ⟨_, _, Ay, Ay, Ay⟩⟩, nS, ?_⟩))))))
  all_goals exact ⟨⟨_, _, rfl⟩, rfl⟩
 (try simp only [sd, se] at c)
 refine BG (A2 (A2 (A0 (Az Ay Ay (A4 Ay) (A5 Ay (BT (B4 (α := Nat) (fun i => ⟨27, mk [(0, .p (.lst (List.map Ci ds))), (4, .p (I (i : Int)))], [], []⟩) (fun i => ds.length - i) (fun i => i ≤ ds.length) 0 AS ?_ ?_)))))))
 ·exact By ⟨we Ay, we Ay, trivial⟩ (leH (is := []) Ay (Dc))
 rintro i hC
 try simp only at hC
 have hi := hC
 refine A2 (A2 (A0 (Az Ay Ay (A1 Ay) (Az Ay Ay (A1 Ay) (Az Ay Ay (Bo Lx Ay (List.length_map _)) (Az Ay Ay (BE Ay Ay Ay) (A5 Ay (BD Ay (fun c1 => ?_) (fun c1 => ?_)))))))))
 ·(try simp only [sd, se] at c1)
  refine BG (A2 (BT (A2 (CW (fun k => Nat.beq k 7) ED (BA Ay Ay (fun _ => A1 Ay) trivial (BA Ay Ay (fun _ => A1 Ay) trivial (BA Ay Ay (fun _ => Dk (lo := 0) (hi := i) Lx Ay (B9 (QG _)) Ay ⟨_, Ay⟩ (Nat.zero_le _) AU (Pb (f := Ci) ds i)) trivial (BA Ay Ay (fun _ => A1 Ay) trivial (BA Ay Ay (fun _ => A1 Ay) trivial ?_)))))))))
  obtain ⟨x, hx⟩ := BO (l := ds) (i := i) Aw
  refine BA Ay Ay (fun _ => BI Lx Ay Ay Aw (JN hx) (D2 _)) trivial (BA Ay Ay (fun _ => Bq GG Ay (D2 _)) trivial (JD [] Ay Ay (Bb Ay Ay (XA (ds.take i) x (h1.take _) (h1.all _ (List.mem_of_getElem? hx))) (.inl Ay)) Ar (⟨_, 0, Ay⟩) AA ?_))
  rintro _ ⟨e, rfl⟩
  refine ⟨trivial, ?_⟩
  refine BA Ay Ay (fun _ => A4 Ay) trivial (CP Ay Ar (A2 (A0 (Az Ay Ay (A1 Ay) (Az Ay Ay (BE Ay Ay Ay) (A5 Ay (BD Ay (fun c2 => ?_) (fun c2 => ?_))))))))
  ·(try simp only [sd, se] at c2)
   refine A2 (A0 (Az Ay Ay (A1 Ay) (Az Ay Ay (A1 Ay) (Az Ay Ay (A4 Ay) (Az Ay Ay (A4 Ay) (A5 Ay (BF (⟨Ay, _, _, ⟨_, _, Ay, Ay, ⟨_, _, Ay, Ay, Ay⟩⟩, nS, ?_⟩))))))))
   all_goals exact ⟨⟨_, _, rfl⟩, rfl⟩
  (try simp only [sd, se] at c2)
  refine BG (A0 (Az Ay Ay (A1 Ay) (Az Ay Ay (CH Ay Ay Aw Aw) (Az Ay Ay (A4 Ay) (A5 Ay ?_)))))
  refine ⟨(i + 1), AZ, by omega, By ⟨we rfl, we rfl, trivial⟩ (leH (is := []) rfl (Dc))⟩
 (try simp only [sd, se] at c1)
 refine B7 (A2 (A0 (Az Ay Ay (A4 Ay) (Az Ay Ay (A4 Ay) (A5 Ay (BF (⟨Ay, _, _, ⟨_, _, Ay, Ay, ⟨_, _, Ay, Ay, Ay⟩⟩, nS, ?_⟩)))))))
 all_goals exact ⟨⟨_, _, rfl⟩, rfl⟩
theorem HB : ∀ (t : Tm), (Ss t) → IA Tryz.prog 105 [.agg ((Bu t).map .p)] (.p (.bool (decide (Hu t ≤ 400) && decide (H7 t ≤ 150)))) := by
 intro t h1
 refine BH Tryz.func105 Ay eO (n := 11) Ay Ay (A2 (A0 (BP Ay Ay (Bj Ay) fun b1 => Az Ay Ay (A4 Ay) (A5 Ay (A2 (Bx [] 2 (fun y => y = .p (.bool ((decide ((Hu t : Int) ≤ (400 : Int))) && (decide ((H7 t : Int) ≤ (150 : Int)))))) ?_ ?_))))))
 ·refine A0 (Az Ay Ay (A8 (i := 0) BU Ay Ay Am) (Az Ay Ay (Bp Ay Ay (Q8 _ t (Nat.le_refl _) h1.nd) Ay) (Az Ay Ay (BE Ay Ay Ay) (Az Ay Ay (A1 Ay) (Br 6 Ay (fun g => ?_) (fun g => ?_))))))
  ·(try simp only [sd, se] at g)
   exact A6 Ay Ay Ay Ay (A8 (i := 0) BU Ay Ay Am) (A6 Ay Ay Ay Ay (Bp Ay Ay (Rx _ t (Nat.le_refl _) h1.nd) Ay) (A6 Ay Ay Ay Ay (BE Ay Ay Ay) (Az Ay Ay (BC Ay Ay) (Az Ay Ay (A4 Ay) (A5 Ay ⟨Ay, Ay, AK, AJ, trivial⟩)))))
  (try simp only [sd, se] at g)
  exact A7 Ay Ay Ay Ay Ay (A7 Ay Ay Ay Ay Ay (A7 Ay Ay Ay Ay Ay (Az Ay Ay (BC Ay Ay) (Az Ay Ay (A4 Ay) (A5 Ay ⟨Ay, Ay, AK, AJ, trivial⟩)))))
 rintro _ rfl
 refine BF (⟨Ay, _, _, ⟨_, _, Ay, Ay, Ay⟩, nS, ?_⟩)
 all_goals exact ⟨rfl, rfl⟩
theorem Pp : ∀ (n : Nat) (t : Lw) (dp : Int), (KF t ≤ n) → (JT t) → (-1000 < dp ∧ dp < 1000) → E1 Tryz.prog 106 [.agg ((Ee t).map .p), .p (I dp)] (Dv) := by
 intro n
 induction n with
 | zero => intro t dp h; have := NG t; omega
 | succ n ih =>
  intro t dp h1 h2 h3
  have htl := h2.bl
  refine BH Tryz.func106 Ay cU (n := 47) Ay Ay (A2 (A0 (BP Ay Ay (Bj Ay) fun b2 => Az Ay Ay (A4 Ay) (A5 Ay (A2 (A2 (Bx [1, 2] 19 (fun y => ∃ q : Bool, y = .p (.bool q) ∧ (q = false → dp ≤ 40)) ?_ ?_)))))))
  ·refine A0 (Az Ay Ay (A1 Ay) (Az Ay Ay (BE Ay Ay Ay) (Az Ay Ay (A1 Ay) (Br 8 Ay (fun g => ?_) (fun g => ?_)))))
   ·(try simp only [sd, se] at g)
    exact A7 Ay Ay Ay Ay Ay (A7 Ay Ay Ay Ay Ay (A7 Ay Ay Ay Ay Ay (A7 Ay Ay Ay Ay Ay (Az Ay Ay (BC Ay Ay) (Az Ay Ay (A1 Ay) (A7 Ay Ay Ay Ay Ay (A7 Ay Ay Ay Ay Ay (A7 Ay Ay Ay Ay Ay (A7 Ay Ay Ay Ay Ay (Az Ay Ay (BC Ay Ay) (A5 Ay (⟨Ay, Ay, AK, (by refine ⟨_, rfl, fun h => ?_⟩; first | (exact absurd h Av) | omega), ⟨Ay, Ay, trivial⟩⟩))))))))))))
   (try simp only [sd, se] at g)
   refine A6 Ay Ay Ay Ay (A3 FE Ay Ay) (A6 Ay Ay Ay Ay (BJ (i := 0) JO Ay Ay (C3 _)) (A6 Ay Ay Ay Ay (Bo JJ Ay (Gg _)) (A6 Ay Ay Ay Ay (BE Ay Ay Ay) (Az Ay Ay (BC Ay Ay) (Az Ay Ay (A1 Ay) (Br 14 Ay (fun g1 => ?_) (fun g1 => ?_)))))))
   ·(try simp only [sd, se] at g1)
    exact A7 Ay Ay Ay Ay Ay (A7 Ay Ay Ay Ay Ay (A7 Ay Ay Ay Ay Ay (A7 Ay Ay Ay Ay Ay (Az Ay Ay (BC Ay Ay) (A5 Ay (⟨Ay, Ay, AK, (by refine ⟨_, rfl, fun h => ?_⟩; first | (exact absurd h Av) | omega), ⟨Ay, Ay, trivial⟩⟩))))))
   (try simp only [sd, se] at g1)
   exact A6 Ay Ay Ay Ay (A3 FE Ay Ay) (A6 Ay Ay Ay Ay (Cl (i := 0) BU Ay Ay (Gy _) (Bd _)) (A6 Ay Ay Ay Ay (Bp Ay Ay (HB t.body h2.body) Ay) (A6 Ay Ay Ay Ay (Cp Ay) (Az Ay Ay (BC Ay Ay) (A5 Ay (⟨Ay, Ay, AK, (by refine ⟨_, rfl, fun h => ?_⟩; first | (exact absurd h Av) | omega), ⟨Ay, Ay, trivial⟩⟩))))))
  rintro _ ⟨q, rfl, hq⟩
  refine BD Ay (fun c => ?_) (fun c => ?_)
  ·(try simp only [sd, se] at c)
   refine A2 (A0 (Az Ay Ay (A4 Ay) (A5 Ay (BF (⟨Ay, _, _, ⟨_, _, Ay, Ay, Ay⟩, nS, ?_⟩)))))
   all_goals exact ⟨⟨_, rfl⟩, rfl⟩
  (try simp only [sd, se] at c)
  have hq1 := hq (by simpa using c)
  refine BG (A2 (A2 (A0 (Az Ay Ay (A4 Ay) (A5 Ay (BT (B4 (α := Nat) (fun i => ⟨47, mk [(1, .p (I dp)), (2, .ptr b2 0), (5, .p (I (i : Int)))], [.box b2 ((Ee t).map .p)], []⟩) (fun i => t.branches.length - i) (fun i => i ≤ t.branches.length) 0 AS ?_ ?_)))))))
  ·exact By ⟨we Ay, we Ay, we Ay, trivial⟩ (leH (is := [0]) Ay (wl (oe Ay) (Dc)))
  rintro i hC
  try simp only at hC
  have hi := hC
  refine A2 (A2 (A0 (Az Ay Ay (A1 Ay) (Az Ay Ay (A3 FE Ay Ay) (Az Ay Ay (BJ (i := 0) JO Ay Ay (C3 _)) (Az Ay Ay (Bo JJ Ay (Gg _)) (Az Ay Ay (BE Ay Ay Ay) (A5 Ay (BD Ay (fun c1 => ?_) (fun c1 => ?_))))))))))
  ·(try simp only [sd, se] at c1)
   refine BG (A2 (BT (A2 (Bx [1, 2, 5] 46 Dv ?_ ?_))))
   ·refine A0 (Az Ay Ay (A3 FE Ay Ay) (Az Ay Ay (BJ (i := 0) JO Ay Ay (C3 _)) (Az Ay Ay (A1 Ay) ?_)))
    obtain ⟨x, hx⟩ := BO (l := t.branches) (i := i) Aw
    refine Az Ay Ay (BI JJ Ay Ay Aw (JH hx) (D8 _)) (Az Ay Ay (CM KC Ay Ay) (Az Ay Ay (D4 Od Ay (Gk _) (FJ _)) (Az Ay Ay (A1 Ay) (Az Ay Ay (CH Ay Ay Aw Aw) (Du Ay Ay (Bb Ay Ay (ih x.tree ((dp : Int) + (1 : Int)) (by have := O7 hx; omega) (Im h2.bs hx).tr Aw) (.inl Ay)) ?_)))))
    rintro _ ⟨q1, rfl⟩
    refine Az Ay Ay (Cp Ay) (Az Ay Ay (A1 Ay) (Br 37 Ay (fun g => ?_) (fun g => ?_)))
    ·(try simp only [sd, se] at g)
     exact A7 Ay Ay Ay Ay Ay (A7 Ay Ay Ay Ay Ay (A7 Ay Ay Ay Ay Ay (A7 Ay Ay Ay Ay Ay (A7 Ay Ay Ay Ay Ay (A7 Ay Ay Ay Ay Ay (A7 Ay Ay Ay Ay Ay (A7 Ay Ay Ay Ay Ay (Az Ay Ay (BC Ay Ay) (A5 Ay (⟨Ay, Ay, AK, ⟨_, Ay⟩, ⟨Ay, Ay, Ay, trivial⟩⟩))))))))))
    (try simp only [sd, se] at g)
    exact A6 Ay Ay Ay Ay (A3 FE Ay Ay) (A6 Ay Ay Ay Ay (BJ (i := 0) JO Ay Ay (C3 _)) (A6 Ay Ay Ay Ay (A1 Ay) (A6 Ay Ay Ay Ay (BI JJ Ay Ay Aw (JH hx) (D8 _)) (A6 Ay Ay Ay Ay (CM KC Ay Ay) (A6 Ay Ay Ay Ay (EP Ev Ay (IE _)) (A6 Ay Ay Ay Ay (Ej Ww Ay) (A6 Ay Ay Ay Ay (BE Ay Ay Ay) (Az Ay Ay (BC Ay Ay) (A5 Ay (⟨Ay, Ay, AK, ⟨_, Ay⟩, ⟨Ay, Ay, Ay, trivial⟩⟩))))))))))
   rintro _ ⟨q1, rfl⟩
   refine BD Ay (fun c2 => ?_) (fun c2 => ?_)
   ·(try simp only [sd, se] at c2)
    refine A2 (A0 (Az Ay Ay (A4 Ay) (A5 Ay (BF (⟨Ay, _, _, ⟨_, _, Ay, Ay, Ay⟩, nS, ?_⟩)))))
    all_goals exact ⟨⟨_, rfl⟩, rfl⟩
   (try simp only [sd, se] at c2)
   refine BG (A0 (Az Ay Ay (A1 Ay) (Az Ay Ay (CH Ay Ay Aw Aw) (Az Ay Ay (A4 Ay) (A5 Ay ?_)))))
   refine ⟨(i + 1), AZ, by omega, By ⟨we rfl, we rfl, we rfl, trivial⟩ (leH (is := [0]) rfl (wl (oe rfl) (Dc)))⟩
  (try simp only [sd, se] at c1)
  refine B7 (A2 (A0 (Az Ay Ay (A4 Ay) (A5 Ay (BF (⟨Ay, _, _, ⟨_, _, Ay, Ay, Ay⟩, nS, ?_⟩))))))
  all_goals exact ⟨⟨_, rfl⟩, rfl⟩
theorem SO : ∀ (d : Dt), (Rl d) → E1 Tryz.prog 72 [.agg ((Ci d).map .p)] (Dv) := by
 intro d h1
 have hcl := h1.cl
 have hfl := h1.fl
 have hrl := h1.rl
 refine BH Tryz.func72 Ay gF (n := 124) Ay Ay (A2 (A0 (BP Ay Ay (Bj Ay) fun b1 => Az Ay Ay (A4 Ay) (A5 Ay (A2 (A2 (Bx [1] 47 Dv ?_ ?_)))))))
 ·refine A0 (Az Ay Ay (A3 CR Ay Ay) (Az Ay Ay (BJ (i := 0) Ev Ay Ay (Dz _)) (Az Ay Ay (Ej Ww Ay) (Az Ay Ay (BE Ay Ay Ay) (Az Ay Ay (A1 Ay) (Br 10 Ay (fun g => ?_) (fun g => ?_)))))))
  ·(try simp only [sd, se] at g)
   refine A7 Ay Ay Ay Ay Ay (A7 Ay Ay Ay Ay Ay (A7 Ay Ay Ay Ay Ay (A7 Ay Ay Ay Ay Ay (Az Ay Ay (BC Ay Ay) (Az Ay Ay (A1 Ay) (A7 Ay Ay Ay Ay Ay (A7 Ay Ay Ay Ay Ay (A7 Ay Ay Ay Ay Ay (A7 Ay Ay Ay Ay Ay (Az Ay Ay (BC Ay Ay) (Az Ay Ay (A1 Ay) (A7 Ay Ay Ay Ay Ay (A7 Ay Ay Ay Ay Ay (A7 Ay Ay Ay Ay Ay (A7 Ay Ay Ay Ay Ay (Az Ay Ay (BC Ay Ay) (Az Ay Ay (A1 Ay) (A7 Ay Ay Ay Ay Ay (A7 Ay Ay Ay Ay Ay (A7 Ay Ay Ay Ay Ay (A7 Ay Ay Ay Ay Ay (Az Ay Ay (BC Ay Ay) (Az Ay Ay (A1 Ay) (A7 Ay Ay Ay Ay Ay (A7 Ay Ay Ay Ay Ay (A7 Ay Ay Ay Ay Ay (A7 Ay Ay Ay Ay Ay (A7 Ay Ay Ay Ay Ay (Az Ay Ay (BC Ay Ay) (Az Ay Ay (A1 Ay) (A7 Ay Ay Ay Ay Ay (A7 Ay Ay Ay Ay Ay ?_))))))))))))))))))))))))))))))))
   exact A7 Ay Ay Ay Ay Ay (A7 Ay Ay Ay Ay Ay (A7 Ay Ay Ay Ay Ay (Az Ay Ay (BC Ay Ay) (A5 Ay (⟨Ay, Ay, AK, ⟨_, Ay⟩, ⟨Ay, trivial⟩⟩)))))
  (try simp only [sd, se] at g)
  refine A6 Ay Ay Ay Ay (A3 CR Ay Ay) (A6 Ay Ay Ay Ay (Cl (i := 0) BU Ay Ay (F9 _) (Bd _)) (A6 Ay Ay Ay Ay (Bp Ay Ay (HB d.type h1.ty) Ay) (A6 Ay Ay Ay Ay (Cp Ay) (Az Ay Ay (BC Ay Ay) (Az Ay Ay (A1 Ay) (Br 16 Ay (fun g1 => ?_) (fun g1 => ?_)))))))
  ·(try simp only [sd, se] at g1)
   exact A7 Ay Ay Ay Ay Ay (A7 Ay Ay Ay Ay Ay (A7 Ay Ay Ay Ay Ay (A7 Ay Ay Ay Ay Ay (Az Ay Ay (BC Ay Ay) (Az Ay Ay (A1 Ay) (A7 Ay Ay Ay Ay Ay (A7 Ay Ay Ay Ay Ay (A7 Ay Ay Ay Ay Ay (A7 Ay Ay Ay Ay Ay (Az Ay Ay (BC Ay Ay) (Az Ay Ay (A1 Ay) (A7 Ay Ay Ay Ay Ay (A7 Ay Ay Ay Ay Ay (A7 Ay Ay Ay Ay Ay (A7 Ay Ay Ay Ay Ay (Az Ay Ay (BC Ay Ay) (Az Ay Ay (A1 Ay) (A7 Ay Ay Ay Ay Ay (A7 Ay Ay Ay Ay Ay (A7 Ay Ay Ay Ay Ay (A7 Ay Ay Ay Ay Ay (A7 Ay Ay Ay Ay Ay (Az Ay Ay (BC Ay Ay) (Az Ay Ay (A1 Ay) (A7 Ay Ay Ay Ay Ay (A7 Ay Ay Ay Ay Ay (A7 Ay Ay Ay Ay Ay (A7 Ay Ay Ay Ay Ay (A7 Ay Ay Ay Ay Ay (Az Ay Ay (BC Ay Ay) (A5 Ay (⟨Ay, Ay, AK, ⟨_, Ay⟩, ⟨Ay, trivial⟩⟩))))))))))))))))))))))))))))))))
  (try simp only [sd, se] at g1)
  refine A6 Ay Ay Ay Ay (A3 CR Ay Ay) (A6 Ay Ay Ay Ay (Cl (i := 0) BU Ay Ay (GN _) (Bd _)) (A6 Ay Ay Ay Ay (Bp Ay Ay (HB d.value h1.vl) Ay) (A6 Ay Ay Ay Ay (Cp Ay) (Az Ay Ay (BC Ay Ay) (Az Ay Ay (A1 Ay) (Br 22 Ay (fun g2 => ?_) (fun g2 => ?_)))))))
  ·(try simp only [sd, se] at g2)
   exact A7 Ay Ay Ay Ay Ay (A7 Ay Ay Ay Ay Ay (A7 Ay Ay Ay Ay Ay (A7 Ay Ay Ay Ay Ay (Az Ay Ay (BC Ay Ay) (Az Ay Ay (A1 Ay) (A7 Ay Ay Ay Ay Ay (A7 Ay Ay Ay Ay Ay (A7 Ay Ay Ay Ay Ay (A7 Ay Ay Ay Ay Ay (Az Ay Ay (BC Ay Ay) (Az Ay Ay (A1 Ay) (A7 Ay Ay Ay Ay Ay (A7 Ay Ay Ay Ay Ay (A7 Ay Ay Ay Ay Ay (A7 Ay Ay Ay Ay Ay (A7 Ay Ay Ay Ay Ay (Az Ay Ay (BC Ay Ay) (Az Ay Ay (A1 Ay) (A7 Ay Ay Ay Ay Ay (A7 Ay Ay Ay Ay Ay (A7 Ay Ay Ay Ay Ay (A7 Ay Ay Ay Ay Ay (A7 Ay Ay Ay Ay Ay (Az Ay Ay (BC Ay Ay) (A5 Ay (⟨Ay, Ay, AK, ⟨_, Ay⟩, ⟨Ay, trivial⟩⟩))))))))))))))))))))))))))
  (try simp only [sd, se] at g2)
  refine A6 Ay Ay Ay Ay (A3 CR Ay Ay) (A6 Ay Ay Ay Ay (BJ (i := 0) G0 Ay Ay (Cy _)) (A6 Ay Ay Ay Ay (Bo Ge Ay (List.length_map _)) (A6 Ay Ay Ay Ay (BE Ay Ay Ay) (Az Ay Ay (BC Ay Ay) (Az Ay Ay (A1 Ay) (Br 28 Ay (fun g3 => ?_) (fun g3 => ?_)))))))
  ·(try simp only [sd, se] at g3)
   exact A7 Ay Ay Ay Ay Ay (A7 Ay Ay Ay Ay Ay (A7 Ay Ay Ay Ay Ay (A7 Ay Ay Ay Ay Ay (Az Ay Ay (BC Ay Ay) (Az Ay Ay (A1 Ay) (A7 Ay Ay Ay Ay Ay (A7 Ay Ay Ay Ay Ay (A7 Ay Ay Ay Ay Ay (A7 Ay Ay Ay Ay Ay (A7 Ay Ay Ay Ay Ay (Az Ay Ay (BC Ay Ay) (Az Ay Ay (A1 Ay) (A7 Ay Ay Ay Ay Ay (A7 Ay Ay Ay Ay Ay (A7 Ay Ay Ay Ay Ay (A7 Ay Ay Ay Ay Ay (A7 Ay Ay Ay Ay Ay (Az Ay Ay (BC Ay Ay) (A5 Ay (⟨Ay, Ay, AK, ⟨_, Ay⟩, ⟨Ay, trivial⟩⟩))))))))))))))))))))
  (try simp only [sd, se] at g3)
  refine A6 Ay Ay Ay Ay (A3 CR Ay Ay) (A6 Ay Ay Ay Ay (BJ (i := 0) Fj Ay Ay (Cq _)) (A6 Ay Ay Ay Ay (Bo FP Ay (List.length_map _)) (A6 Ay Ay Ay Ay (BE Ay Ay Ay) (Az Ay Ay (BC Ay Ay) (Az Ay Ay (A1 Ay) (Br 34 Ay (fun g4 => ?_) (fun g4 => ?_)))))))
  ·(try simp only [sd, se] at g4)
   exact A7 Ay Ay Ay Ay Ay (A7 Ay Ay Ay Ay Ay (A7 Ay Ay Ay Ay Ay (A7 Ay Ay Ay Ay Ay (A7 Ay Ay Ay Ay Ay (Az Ay Ay (BC Ay Ay) (Az Ay Ay (A1 Ay) (A7 Ay Ay Ay Ay Ay (A7 Ay Ay Ay Ay Ay (A7 Ay Ay Ay Ay Ay (A7 Ay Ay Ay Ay Ay (A7 Ay Ay Ay Ay Ay (Az Ay Ay (BC Ay Ay) (A5 Ay (⟨Ay, Ay, AK, ⟨_, Ay⟩, ⟨Ay, trivial⟩⟩))))))))))))))
  (try simp only [sd, se] at g4)
  refine A6 Ay Ay Ay Ay (A3 CR Ay Ay) (A6 Ay Ay Ay Ay (A3 Ga Ay Ay) (A6 Ay Ay Ay Ay (Cl (i := 0) BU Ay Ay (Ek _) (Bd _)) (A6 Ay Ay Ay Ay (Bp Ay Ay (HB d.recs.type h1.rt) Ay) (A6 Ay Ay Ay Ay (Cp Ay) (Az Ay Ay (BC Ay Ay) (Az Ay Ay (A1 Ay) (Br 41 Ay (fun g5 => ?_) (fun g5 => ?_))))))))
  ·(try simp only [sd, se] at g5)
   exact A7 Ay Ay Ay Ay Ay (A7 Ay Ay Ay Ay Ay (A7 Ay Ay Ay Ay Ay (A7 Ay Ay Ay Ay Ay (A7 Ay Ay Ay Ay Ay (Az Ay Ay (BC Ay Ay) (A5 Ay (⟨Ay, Ay, AK, ⟨_, Ay⟩, ⟨Ay, trivial⟩⟩)))))))
  (try simp only [sd, se] at g5)
  exact A6 Ay Ay Ay Ay (A3 CR Ay Ay) (A6 Ay Ay Ay Ay (A3 Ga Ay Ay) (A6 Ay Ay Ay Ay (BJ (i := 0) DG Ay Ay (DO _)) (A6 Ay Ay Ay Ay (Bo CL Ay (B5 _)) (A6 Ay Ay Ay Ay (BE Ay Ay Ay) (Az Ay Ay (BC Ay Ay) (A5 Ay (⟨Ay, Ay, AK, ⟨_, Ay⟩, ⟨Ay, trivial⟩⟩)))))))
 rintro _ ⟨q, rfl⟩
 refine BD Ay (fun c => ?_) (fun c => ?_)
 ·(try simp only [sd, se] at c)
  refine A2 (A0 (Az Ay Ay (A4 Ay) (A5 Ay (BF (⟨Ay, _, _, ⟨_, _, Ay, Ay, Ay⟩, nS, ?_⟩)))))
  all_goals exact ⟨⟨_, rfl⟩, rfl⟩
 (try simp only [sd, se] at c)
 refine BG (A2 (A2 (A0 (Az Ay Ay (A4 Ay) (A5 Ay (BT (B4 (α := Nat) (fun i => ⟨124, mk [(1, .ptr b1 0), (3, .p (I (i : Int)))], [.box b1 ((Ci d).map .p)], []⟩) (fun i => d.ctors.length - i) (fun i => i ≤ d.ctors.length) 0 AS ?_ ?_)))))))
 ·exact By ⟨we Ay, we Ay, trivial⟩ (leH (is := [0]) Ay (wl (oe Ay) (Dc)))
 rintro i hC
 try simp only at hC
 have hi := hC
 refine A2 (A2 (A0 (Az Ay Ay (A1 Ay) (Az Ay Ay (A3 CR Ay Ay) (Az Ay Ay (BJ (i := 0) G0 Ay Ay (Cy _)) (Az Ay Ay (Bo Ge Ay (List.length_map _)) (Az Ay Ay (BE Ay Ay Ay) (A5 Ay (BD Ay (fun c1 => ?_) (fun c1 => ?_))))))))))
 ·(try simp only [sd, se] at c1)
  refine BG (A2 (BT (A2 (Bx [1, 3] 72 Dv ?_ ?_))))
  ·refine A0 (Az Ay Ay (A3 CR Ay Ay) (Az Ay Ay (BJ (i := 0) G0 Ay Ay (Cy _)) (Az Ay Ay (A1 Ay) ?_)))
   obtain ⟨x, hx⟩ := BO (l := d.ctors) (i := i) Aw
   refine Az Ay Ay (BI Ge Ay Ay Aw (F5 hx) (Eh _)) (Az Ay Ay (CM LY Ay Ay) (Az Ay Ay (EP Ev Ay (II _)) (Az Ay Ay (Ej Ww Ay) (Az Ay Ay (BE Ay Ay Ay) (Az Ay Ay (A1 Ay) (Br 63 Ay (fun g => ?_) (fun g => ?_)))))))
   ·(try simp only [sd, se] at g)
    exact A7 Ay Ay Ay Ay Ay (A7 Ay Ay Ay Ay Ay (A7 Ay Ay Ay Ay Ay (A7 Ay Ay Ay Ay Ay (A7 Ay Ay Ay Ay Ay (A7 Ay Ay Ay Ay Ay (A7 Ay Ay Ay Ay Ay (A7 Ay Ay Ay Ay Ay (Az Ay Ay (BC Ay Ay) (A5 Ay (⟨Ay, Ay, AK, ⟨_, Ay⟩, ⟨Ay, Ay, trivial⟩⟩))))))))))
   (try simp only [sd, se] at g)
   exact A6 Ay Ay Ay Ay (A3 CR Ay Ay) (A6 Ay Ay Ay Ay (BJ (i := 0) G0 Ay Ay (Cy _)) (A6 Ay Ay Ay Ay (A1 Ay) (A6 Ay Ay Ay Ay (BI Ge Ay Ay Aw (F5 hx) (Eh _)) (A6 Ay Ay Ay Ay (CM LY Ay Ay) (A6 Ay Ay Ay Ay (D4 BU Ay (F8 _) (Bd _)) (A6 Ay Ay Ay Ay (Bp Ay Ay (HB x.type (h1.cs _ (List.mem_of_getElem? hx)).ty) Ay) (A6 Ay Ay Ay Ay (Cp Ay) (Az Ay Ay (BC Ay Ay) (A5 Ay (⟨Ay, Ay, AK, ⟨_, Ay⟩, ⟨Ay, Ay, trivial⟩⟩))))))))))
  rintro _ ⟨q1, rfl⟩
  refine BD Ay (fun c2 => ?_) (fun c2 => ?_)
  ·(try simp only [sd, se] at c2)
   refine A2 (A0 (Az Ay Ay (A4 Ay) (A5 Ay (BF (⟨Ay, _, _, ⟨_, _, Ay, Ay, Ay⟩, nS, ?_⟩)))))
   all_goals exact ⟨⟨_, rfl⟩, rfl⟩
  (try simp only [sd, se] at c2)
  refine BG (A0 (Az Ay Ay (A1 Ay) (Az Ay Ay (CH Ay Ay Aw Aw) (Az Ay Ay (A4 Ay) (A5 Ay ?_)))))
  refine ⟨(i + 1), AZ, by omega, By ⟨we rfl, we rfl, trivial⟩ (leH (is := [0]) rfl (wl (oe rfl) (Dc)))⟩
 (try simp only [sd, se] at c1)
 refine B7 (A2 (A2 (A0 (Az Ay Ay (A4 Ay) (A5 Ay (BT (B4 (α := Nat) (fun i => ⟨124, mk [(1, .ptr b1 0), (4, .p (I (i : Int)))], [.box b1 ((Ci d).map .p)], []⟩) (fun i => d.recs.rules.length - i) (fun i => i ≤ d.recs.rules.length) 0 AS ?_ ?_)))))))
 ·exact By ⟨we Ay, we Ay, trivial⟩ (leH (is := [0]) Ay (wl (oe Ay) (Dc)))
 rintro i hC1
 try simp only at hC1
 have hi := hC1
 refine A2 (A2 (A0 (Az Ay Ay (A1 Ay) (Az Ay Ay (A3 CR Ay Ay) (Az Ay Ay (A3 Ga Ay Ay) (Az Ay Ay (BJ (i := 0) DG Ay Ay (DO _)) (Az Ay Ay (Bo CL Ay (B5 _)) (Az Ay Ay (BE Ay Ay Ay) (A5 Ay (BD Ay (fun c2 => ?_) (fun c2 => ?_)))))))))))
 ·(try simp only [sd, se] at c2)
  refine BG (A2 (BT (A2 (A0 (Az Ay Ay (A3 CR Ay Ay) (Az Ay Ay (A3 Ga Ay Ay) (Az Ay Ay (BJ (i := 0) DG Ay Ay (DO _)) (Az Ay Ay (A1 Ay) ?_))))))))
  obtain ⟨x, hx⟩ := BO (l := d.recs.rules) (i := i) Aw
  refine Az Ay Ay (BI CL Ay Ay Aw (CU hx) (Bd _)) (Az Ay Ay (Bq BU Ay (Bd _)) (Az Ay Ay (Bp Ay Ay (HB x (h1.rs _ (List.mem_of_getElem? hx))) Ay) (Az Ay Ay (Cp Ay) (A5 Ay (BD Ay (fun c3 => ?_) (fun c3 => ?_))))))
  ·(try simp only [sd, se] at c3)
   refine A2 (A0 (Az Ay Ay (A4 Ay) (A5 Ay (BF (⟨Ay, _, _, ⟨_, _, Ay, Ay, Ay⟩, nS, ?_⟩)))))
   all_goals exact ⟨⟨_, rfl⟩, rfl⟩
  (try simp only [sd, se] at c3)
  refine BG (A0 (Az Ay Ay (A1 Ay) (Az Ay Ay (CH Ay Ay Aw Aw) (Az Ay Ay (A4 Ay) (A5 Ay ?_)))))
  refine ⟨(i + 1), AZ, by omega, By ⟨we rfl, we rfl, trivial⟩ (leH (is := [0]) rfl (wl (oe rfl) (Dc)))⟩
 (try simp only [sd, se] at c2)
 refine B7 (A2 (A2 (A0 (Az Ay Ay (A4 Ay) (A5 Ay (BT (B4 (α := Nat) (fun i => ⟨124, mk [(1, .ptr b1 0), (5, .p (I (i : Int)))], [.box b1 ((Ci d).map .p)], []⟩) (fun i => d.funs.length - i) (fun i => i ≤ d.funs.length) 0 AS ?_ ?_)))))))
 ·exact By ⟨we Ay, we Ay, trivial⟩ (leH (is := [0]) Ay (wl (oe Ay) (Dc)))
 rintro i hC2
 try simp only at hC2
 have hi := hC2
 refine A2 (A2 (A0 (Az Ay Ay (A1 Ay) (Az Ay Ay (A3 CR Ay Ay) (Az Ay Ay (BJ (i := 0) Fj Ay Ay (Cq _)) (Az Ay Ay (Bo FP Ay (List.length_map _)) (Az Ay Ay (BE Ay Ay Ay) (A5 Ay (BD Ay (fun c3 => ?_) (fun c3 => ?_))))))))))
 ·(try simp only [sd, se] at c3)
  refine BG (A2 (BT (A2 (Bx [1, 5] 123 Dv ?_ ?_))))
  ·refine A0 (Az Ay Ay (A3 CR Ay Ay) (Az Ay Ay (BJ (i := 0) Fj Ay Ay (Cq _)) (Az Ay Ay (A1 Ay) ?_)))
   obtain ⟨x, hx⟩ := BO (l := d.funs) (i := i) Aw
   refine Az Ay Ay (BI FP Ay Ay Aw (FY hx) (Ec _)) (Az Ay Ay (CM Jc Ay Ay) (Az Ay Ay (EP Ev Ay (IG _)) (Az Ay Ay (Ej Ww Ay) (Az Ay Ay (BE Ay Ay Ay) (Az Ay Ay (A1 Ay) (Br 104 Ay (fun g => ?_) (fun g => ?_)))))))
   ·(try simp only [sd, se] at g)
    exact A7 Ay Ay Ay Ay Ay (A7 Ay Ay Ay Ay Ay (A7 Ay Ay Ay Ay Ay (A7 Ay Ay Ay Ay Ay (A7 Ay Ay Ay Ay Ay (A7 Ay Ay Ay Ay Ay (A7 Ay Ay Ay Ay Ay (A7 Ay Ay Ay Ay Ay (Az Ay Ay (BC Ay Ay) (Az Ay Ay (A1 Ay) (A7 Ay Ay Ay Ay Ay (A7 Ay Ay Ay Ay Ay (A7 Ay Ay Ay Ay Ay (A7 Ay Ay Ay Ay Ay (A7 Ay Ay Ay Ay Ay (A7 Ay Ay Ay Ay Ay (A7 Ay Ay Ay Ay Ay (A7 Ay Ay Ay Ay Ay (Az Ay Ay (BC Ay Ay) (A5 Ay (⟨Ay, Ay, AK, ⟨_, Ay⟩, ⟨Ay, Ay, trivial⟩⟩))))))))))))))))))))
   (try simp only [sd, se] at g)
   refine A6 Ay Ay Ay Ay (A3 CR Ay Ay) (A6 Ay Ay Ay Ay (BJ (i := 0) Fj Ay Ay (Cq _)) (A6 Ay Ay Ay Ay (A1 Ay) (A6 Ay Ay Ay Ay (BI FP Ay Ay Aw (FY hx) (Ec _)) (A6 Ay Ay Ay Ay (CM Jc Ay Ay) (A6 Ay Ay Ay Ay (D4 BU Ay (IK _) (Bd _)) (A6 Ay Ay Ay Ay (Bp Ay Ay (HB x.type (h1.fs _ (List.mem_of_getElem? hx)).ty) Ay) (A6 Ay Ay Ay Ay (Cp Ay) (Az Ay Ay (BC Ay Ay) (Az Ay Ay (A1 Ay) (Br 114 Ay (fun g1 => ?_) (fun g1 => ?_)))))))))))
   ·(try simp only [sd, se] at g1)
    exact A7 Ay Ay Ay Ay Ay (A7 Ay Ay Ay Ay Ay (A7 Ay Ay Ay Ay Ay (A7 Ay Ay Ay Ay Ay (A7 Ay Ay Ay Ay Ay (A7 Ay Ay Ay Ay Ay (A7 Ay Ay Ay Ay Ay (A7 Ay Ay Ay Ay Ay (Az Ay Ay (BC Ay Ay) (A5 Ay (⟨Ay, Ay, AK, ⟨_, Ay⟩, ⟨Ay, Ay, trivial⟩⟩))))))))))
   (try simp only [sd, se] at g1)
   refine A6 Ay Ay Ay Ay (A3 CR Ay Ay) (A6 Ay Ay Ay Ay (BJ (i := 0) Fj Ay Ay (Cq _)) (A6 Ay Ay Ay Ay (A1 Ay) (A6 Ay Ay Ay Ay (BI FP Ay Ay Aw (FY hx) (Ec _)) (A6 Ay Ay Ay Ay (CM Jc Ay Ay) (A6 Ay Ay Ay Ay (D4 Od Ay (ML _) (FJ _)) (IN Ay Ay Ay Ay (Bb Ay Ay (Pp (KF x.tree) x.tree 0 (Nat.le_refl _) (h1.fs _ (List.mem_of_getElem? hx)).tr Aw) (.inl Ay)) ?_))))))
   rintro _ ⟨q1, rfl⟩
   exact A6 Ay Ay Ay Ay (Cp Ay) (Az Ay Ay (BC Ay Ay) (A5 Ay (⟨Ay, Ay, AK, ⟨_, Ay⟩, ⟨Ay, Ay, trivial⟩⟩)))
  rintro _ ⟨q1, rfl⟩
  refine BD Ay (fun c4 => ?_) (fun c4 => ?_)
  ·(try simp only [sd, se] at c4)
   refine A2 (A0 (Az Ay Ay (A4 Ay) (A5 Ay (BF (⟨Ay, _, _, ⟨_, _, Ay, Ay, Ay⟩, nS, ?_⟩)))))
   all_goals exact ⟨⟨_, rfl⟩, rfl⟩
  (try simp only [sd, se] at c4)
  refine BG (A0 (Az Ay Ay (A1 Ay) (Az Ay Ay (CH Ay Ay Aw Aw) (Az Ay Ay (A4 Ay) (A5 Ay ?_)))))
  refine ⟨(i + 1), AZ, by omega, By ⟨we rfl, we rfl, trivial⟩ (leH (is := [0]) rfl (wl (oe rfl) (Dc)))⟩
 (try simp only [sd, se] at c3)
 refine B7 (A2 (A0 (Az Ay Ay (A4 Ay) (A5 Ay (BF (⟨Ay, _, _, ⟨_, _, Ay, Ay, Ay⟩, nS, ?_⟩))))))
 all_goals exact ⟨⟨_, rfl⟩, rfl⟩
theorem Y8 : ∀ (ds : List Dt), (IB ds) → E1 Tryz.prog 42 [.p (.lst (List.map Ci ds))] (Dv) := by
 intro ds h1
 have hl := h1.len
 refine BH Tryz.func42 Ay gJ (n := 23) Ay Ay (A2 (A0 (Az Ay Ay (A4 Ay) (A5 Ay (A2 (A2 (A0 (Az Ay Ay (A4 Ay) (A5 Ay (BT (B4 (α := Nat) (fun i => ⟨23, mk [(0, .p (.lst (List.map Ci ds))), (3, .p (I (i : Int)))], [], []⟩) (fun i => ds.length - i) (fun i => i ≤ ds.length) 0 AS ?_ ?_)))))))))))
 ·exact By ⟨we Ay, we Ay, trivial⟩ (leH (is := []) Ay (Dc))
 rintro i hC
 try simp only at hC
 have hi := hC
 refine A2 (A2 (Bx [0, 3] 11 (fun y => ∃ q : Bool, y = .p (.bool q) ∧ (q = true → i < ds.length)) ?_ ?_))
 ·refine A0 (Az Ay Ay (A1 Ay) (Az Ay Ay (A1 Ay) (Az Ay Ay (Bo Lx Ay (List.length_map _)) (Az Ay Ay (BE Ay Ay Ay) (Az Ay Ay (A1 Ay) (Br 8 Ay (fun g => ?_) (fun g => ?_)))))))
  ·(try simp only [sd, se] at g)
   exact A6 Ay Ay Ay Ay (A1 Ay) (A6 Ay Ay Ay Ay (BE Ay Ay Ay) (Az Ay Ay (BC Ay Ay) (A5 Ay (⟨Ay, Ay, AK, (by refine ⟨_, rfl, fun h => ?_⟩; first | (exact absurd h Av) | omega), ⟨Ay, Ay, trivial⟩⟩))))
  (try simp only [sd, se] at g)
  exact A7 Ay Ay Ay Ay Ay (A7 Ay Ay Ay Ay Ay (Az Ay Ay (BC Ay Ay) (A5 Ay (⟨Ay, Ay, AK, (by refine ⟨_, rfl, fun h => ?_⟩; first | (exact absurd h Av) | omega), ⟨Ay, Ay, trivial⟩⟩))))
 rintro _ ⟨q, rfl, hq⟩
 refine BD Ay (fun c => ?_) (fun c => ?_)
 ·(try simp only [sd, se] at c)
  have hq1 := hq (by simpa using c)
  refine BG (A2 (BT (A2 (A0 (Az Ay Ay (A1 Ay) (Az Ay Ay (A1 Ay) ?_))))))
  obtain ⟨x, hx⟩ := BO (l := ds) (i := i) Aw
  refine Az Ay Ay (BI Lx Ay Ay Aw (JN hx) (D2 _)) (Az Ay Ay (Bq GG Ay (D2 _)) (Du Ay Ay (Bb Ay Ay (SO x (h1.all _ (List.mem_of_getElem? hx))) (.inl Ay)) ?_))
  rintro _ ⟨q1, rfl⟩
  refine Az Ay Ay (Cp Ay) (A5 Ay (BD Ay (fun c1 => ?_) (fun c1 => ?_)))
  ·(try simp only [sd, se] at c1)
   refine A2 (A0 (Az Ay Ay (A4 Ay) (A5 Ay (BF (⟨Ay, _, _, ⟨_, _, Ay, Ay, Ay⟩, nS, ?_⟩)))))
   all_goals exact ⟨⟨_, rfl⟩, rfl⟩
  (try simp only [sd, se] at c1)
  refine BG (A0 (Az Ay Ay (A1 Ay) (Az Ay Ay (CH Ay Ay Aw Aw) (Az Ay Ay (A4 Ay) (A5 Ay ?_)))))
  refine ⟨(i + 1), AZ, by omega, By ⟨we rfl, we rfl, trivial⟩ (leH (is := []) rfl (Dc))⟩
 (try simp only [sd, se] at c)
 refine B7 (A2 (A0 (Az Ay Ay (A1 Ay) (Az Ay Ay (Bo Lx Ay (List.length_map _)) (Az Ay Ay (BE Ay Ay Ay) (Az Ay Ay (A4 Ay) (A5 Ay (BF (⟨Ay, _, _, ⟨_, _, Ay, Ay, Ay⟩, nS, ?_⟩)))))))))
 all_goals exact ⟨⟨_, rfl⟩, rfl⟩
theorem XM : ∀ (ds : List Dt), (IB ds) → E1 Tryz.prog 15 [.p (.lst (List.map Ci ds))] (Dv) := by
 intro ds h1
 refine BH Tryz.func15 Ay fI (n := 15) Ay Ay (A2 (A0 (Az Ay Ay (A4 Ay) (A5 Ay (A2 (A2 (A0 (Az Ay Ay (A1 Ay) (Du Ay Ay (Bb Ay Ay (Y8 ds h1) (.inl Ay)) ?_)))))))))
 rintro _ ⟨q, rfl⟩
 refine Az Ay Ay (Cp Ay) (A5 Ay (BD Ay (fun c => ?_) (fun c => ?_)))
 ·(try simp only [sd, se] at c)
  refine A2 (A0 (Az Ay Ay (A4 Ay) (A5 Ay (BF (⟨Ay, _, _, ⟨_, _, Ay, Ay, Ay⟩, nS, ?_⟩)))))
  all_goals exact ⟨⟨_, rfl⟩, rfl⟩
 (try simp only [sd, se] at c)
 refine BG (A2 (A0 (Az Ay Ay (A1 Ay) (Du Ay Ay (Bb Ay Ay (Tx ds h1) (.inl Ay)) ?_))))
 rintro _ ⟨a, e, rfl⟩
 refine Az Ay Ay (A1 Ay) (Az Ay Ay (Bi Ay Ay) (Az Ay Ay (Bi Ay Ay) (Az Ay Ay (A4 Ay) (Az Ay Ay (A4 Ay) (A5 Ay (A2 (A0 (Az Ay Ay (A1 Ay) (Az Ay Ay (BE Ay Ay Ay) (Az Ay Ay (A4 Ay) (A5 Ay (BF (⟨Ay, _, _, ⟨_, _, Ay, Ay, Ay⟩, nS, ?_⟩)))))))))))))
 all_goals exact ⟨⟨_, rfl⟩, rfl⟩
end Go.Proofs.YtapmjpihennhaaaGreatDoor
namespace Go.Eu
open Go.Abs
def fG : List Int → Int
 | [] => 0
 | c :: cs => (c.natAbs : Int) + fG cs
theorem TC (th : BY) (t : Tm) : ((Dd th t).2.2 = 5 ∧ (C6 th t).all > 200 ∧ (Dd th t).1.length = (Dd th t).2.1.length) ∨ ((Dd th t).2.2 = 0 ∧ (C6 th t).all ≤ 200 ∧ (Dd th t).1 = (C6 th t).coefs ∧ (Dd th t).2.1 = (C6 th t).atoms) := by
 by_cases h : (C6 th t).all > 200
 ·rw [K6 h]; exact .inl ⟨rfl, h, rfl⟩
 rw [HG h]; exact .inr ⟨rfl, by omega, rfl, rfl⟩
def ZP : List Int → List Int
 | [] => []
 | c :: cs => if c = 0 then ZP cs else c :: ZP cs
def ZN : List Int → List Tm → List Tm
 | c :: cs, u :: us => if c = 0 then ZN cs us else u :: ZN cs us
 | _, _ => []
def jb (C : HA) (x : Tm) (s : Int) : Nat → HA
 | 0 => C
 | j + 1 => ⟨C.coefs ++ [((j + 1 : Nat) : Int) * s], C.atoms ++ [x], C.all + ((j + 1 : Nat) : Int)⟩
section
variable {th : BY}
def je (th : BY) : Prop := th.add.size ≤ 200 ∧ th.zero.size ≤ 200 ∧ th.neg.size ≤ 200
end
def jI (cs : List Int) : List Int := cs.map fun c => c.tmod 20
section
variable {cs A W : List Int} {us L : List Tm} {i : Nat} {x : Tm} {c : Int}
end
theorem jC : Nd Be := (Hh (.inl ⟨rfl, rfl⟩) Av Av Ax).nd
noncomputable def Kx (ds : List Dt) (th : BY) (t : Tm) : Tm × Int :=
 if ¬ th.lemmas.length = 14 then (Be, 1)
 else if IF ds (Fq th) = true then (Be, 9)
 else if ¬ (Dd th t).2.2 = 0 then (Be, (Dd th t).2.2)
 else (HS th (Dd th t).1 (Dd th t).2.1, 0)
section
variable {ds : List Dt} {th : BY} {t : Tm}
theorem WN (h : ¬ th.lemmas.length = 14) : Kx ds th t = (Be, 1) := if_pos h
theorem Wp (h : th.lemmas.length = 14) (h' : IF ds (Fq th) = true) : Kx ds th t = (Be, 9) := by rw [Kx, if_neg (by simpa using h), if_pos h']
theorem WX (h : th.lemmas.length = 14) (h' : IF ds (Fq th) = false) (h2 : ¬ (Dd th t).2.2 = 0) : Kx ds th t = (Be, (Dd th t).2.2) := by rw [Kx, if_neg (by simpa using h), if_neg (by rw [h']; decide), if_pos h2]
theorem Wu (h : th.lemmas.length = 14) (h' : IF ds (Fq th) = false) (h2 : (Dd th t).2.2 = 0) : Kx ds th t = (HS th (Dd th t).1 (Dd th t).2.1, 0) := by rw [Kx, if_neg (by simpa using h), if_neg (by rw [h']; decide), if_neg (by simpa using h2)]
theorem YE {l : List ByteArray} {i : Nat} {x : ByteArray} (hx : l[i]? = some x) (h : ¬ (Ed ds x).2 = 0) : IF ds l = true :=
 List.any_eq_true.2 ⟨x, List.mem_of_getElem? hx, by simp [Nu, h]⟩
theorem bA {l : List ByteArray} (h : ∀ j, j < l.length → ∀ y, l[j]? = some y → (Ed ds y).2 = 0) : IF ds l = false := by
 refine Bool.eq_false_iff.2 fun hb => ?_
 obtain ⟨x, hx, hq⟩ := List.any_eq_true.1 hb
 obtain ⟨j, hj⟩ := List.mem_iff_getElem?.1 hx
 have := h j (List.getElem?_eq_some_iff.1 hj).1 x hj
 simp [Nu, this] at hq
def XC (ds : List Dt) (th : BY) (t s p : Tm) (e : Int) : Prop :=
 (¬ th.lemmas.length = 14 ∧ e = 1 ∧ s = Be ∧ p = Be) ∨
 (th.lemmas.length = 14 ∧ IF ds (Fq th) = true ∧ e = 9 ∧ s = Be ∧ p = Be) ∨
 (th.lemmas.length = 14 ∧ IF ds (Fq th) = false ∧ (C6 th t).all > 200 ∧ e = 5 ∧ s = Be ∧ p = Be) ∨
 (th.lemmas.length = 14 ∧ IF ds (Fq th) = false ∧ (C6 th t).all ≤ 200 ∧ (e = 5 ∧ 16 < size t ∨ e = 0 ∧ s = HS th (C6 th t).coefs (C6 th t).atoms))
theorem Oq {s p : Tm} {e : Int} (h : XC ds th t s p e) : ((Kx ds th t).2 = 0 ∧ e = 5 ∧ 16 < size t) ∨ (e = (Kx ds th t).2 ∧ s = (Kx ds th t).1 ∧ (e = 0 ∨ p = Be)) := by
 rcases h with ⟨h1, rfl, rfl, rfl⟩ | ⟨h1, h2, rfl, rfl, rfl⟩ | ⟨h1, h2, h3, rfl, rfl, rfl⟩ | ⟨h1, h2, h3, h⟩
 ·rw [WN h1]; exact .inr ⟨rfl, rfl, .inr rfl⟩
 ·rw [Wp h1 h2]; exact .inr ⟨rfl, rfl, .inr rfl⟩
 ·have e5 : (Dd th t).2.2 = 5 := by rw [K6 h3]
  rw [WX h1 h2 (by rw [e5]; decide), e5]; exact .inr ⟨rfl, rfl, .inr rfl⟩
 have e0 := HG (th := th) (t := t) Aw
 rw [Wu h1 h2 (by rw [e0]), e0]
 rcases h with ⟨rfl, h⟩ | ⟨rfl, rfl⟩
 ·exact .inl ⟨Ay, Ay, h⟩
 exact .inr ⟨Ay, Ay, .inl Ay⟩
theorem YO (h : G4 th) (ht : Gj t) (hs : size t < 1000000) : Nd (Kx ds th t).1 := by
 unfold Kx
 have hz : Nd Be := Hh (.inl ⟨rfl, rfl⟩) Av Av Ax |>.nd
 split
 ·exact hz
 split
 ·exact hz
 split
 ·exact hz
 refine YF h fun u hu => ?_
 rcases TC th t with ⟨h5, _⟩ | ⟨_, _, _, h4⟩
 ·rename_i q; exact absurd h5 Aw
 rw [h4] at hu
 exact ((PL (th := th) ht hs) u hu).1.nd
end
end Go.Eu
namespace Go.Proofs.YtapmjpihennhaaaGreatDoor
open Go.Abs Go.Eu
theorem Y5 : ∀ (GL : List (Nat × Obj)) (ds : List Dt) (th : BY) (t : Tm) (hG : G3 GL), (¬ th.lemmas.length = 14) → B1 Tryz.prog 16 [.p (.lst (List.map Ci ds)), .agg ((Ei th).map .p), .agg ((Bu t).map .p)] [.glob GL] (fun x H' => x = .val (.tup [TV Be, TV Be, .p (I 1)]) ∧ H' = [.glob GL]) := by
 intro GL ds th t hG h1
 obtain ⟨BQ, BK, BL, BM, BS, BR, thm⟩ := th
 simp only at h1
 refine BH Tryz.func16 Ay XH (n := 84) Ay Ay (A2 (A0 (BP Ay Ay (Bj Ay) fun b4 => BP Ay Ay (Bj Ay) fun b5 => BP Ay Ay (BN B8 Ay) fun b6 => BP Ay Ay (BN B8 Ay) fun b7 => Az Ay Ay (A4 Ay) (A5 Ay (A2 (A2 (A0 (Az Ay Ay (A3 Dy Ay Ay) (Az Ay Ay (A9 (i := 3) LP Ay Ay Ay) (Az Ay Ay (Bo EL Ay (List.length_map _)) (Az Ay Ay (BE Ay Ay Ay) (A5 Ay (BD Ay (fun c => ?_) (fun c => ?_))))))))))))))
 ·(try simp only [sd, se] at c)
  refine A2 (A0 (Az Ay Ay (Bv CV B8 Ay) (Az Ay Ay (Bv CV B8 Ay) (Az Ay Ay (Bm (i := 1) BU Ay Ay Ay Ay Ay Ay) (Az Ay Ay (Bm (i := 0) BU Ay Ay Ay Ay Ay Ay) (Az Ay Ay (A4 Ay) (A5 Ay (B2 (Cv (i := 1) Ay) (B2 (Cv (i := 0) Ay) (BF (⟨Ay, _, _, ⟨_, _, Ay, (Bt (i := 1) BU Ay Ay Ay), ⟨_, _, Ay, (Bt (i := 0) BU Ay Ay Ay), ⟨_, _, Ay, Ay, Ay⟩⟩⟩, (C2 (is := [4]) Ay), ?_⟩)))))))))))
  all_goals exact ⟨rfl, rfl⟩
 (try simp only [sd, se] at c)
 exact absurd c Aw
theorem Xy : ∀ (GL : List (Nat × Obj)) (ds : List Dt) (th : BY) (t : Tm) (hG : G3 GL), (th.lemmas.length = 14) → (IF ds (Fq th) = true) → (ds.length < EB) → (Ow ds) → B1 Tryz.prog 16 [.p (.lst (List.map Ci ds)), .agg ((Ei th).map .p), .agg ((Bu t).map .p)] [.glob GL] (fun x H' => x = .val (.tup [TV Be, TV Be, .p (I 9)]) ∧ H' = [.glob GL]) := by
 intro GL ds th t hG h1 h2 h3 h4
 obtain ⟨BQ, BK, BL, BM, BS, BR, thm⟩ := th
 simp only at h1
 refine BH Tryz.func16 Ay XH (n := 84) Ay Ay (A2 (A0 (BP Ay Ay (Bj Ay) fun b4 => BP Ay Ay (Bj Ay) fun b5 => BP Ay Ay (BN B8 Ay) fun b6 => BP Ay Ay (BN B8 Ay) fun b7 => Az Ay Ay (A4 Ay) (A5 Ay (A2 (A2 (A0 (Az Ay Ay (A3 Dy Ay Ay) (Az Ay Ay (A9 (i := 3) LP Ay Ay Ay) (Az Ay Ay (Bo EL Ay (List.length_map _)) (Az Ay Ay (BE Ay Ay Ay) (A5 Ay (BD Ay (fun c => ?_) (fun c => ?_))))))))))))))
 ·(try simp only [sd, se] at c)
  exact absurd h1 Aw
 (try simp only [sd, se] at c)
 refine BG (A2 (A2 (A0 (Az Ay Ay (A1 Ay) (Az Ay Ay (A8 (i := 3) Fo Ay Ay Ay) (Az Ay Ay (Bp Ay Ay (N8 ds (BY.mk BQ BK BL BM BS BR thm) h3 h4 h1) Ay) (A5 Ay (BD Ay (fun c1 => ?_) (fun c1 => ?_)))))))))
 ·(try simp only [sd, se] at c1)
  refine A2 (A0 (Az Ay Ay (Bv CV B8 Ay) (Az Ay Ay (Bv CV B8 Ay) (Az Ay Ay (Bm (i := 1) BU Ay Ay Ay Ay Ay Ay) (Az Ay Ay (Bm (i := 0) BU Ay Ay Ay Ay Ay Ay) (Az Ay Ay (A4 Ay) (A5 Ay (B2 (Cv (i := 1) Ay) (B2 (Cv (i := 0) Ay) (BF (⟨Ay, _, _, ⟨_, _, Ay, (Bt (i := 1) BU Ay Ay Ay), ⟨_, _, Ay, (Bt (i := 0) BU Ay Ay Ay), ⟨_, _, Ay, Ay, Ay⟩⟩⟩, (C2 (is := [4]) Ay), ?_⟩)))))))))))
  all_goals exact ⟨rfl, rfl⟩
 (try simp only [sd, se] at c1)
 exact absurd (h2.symm.trans c1) Av
theorem X6 : ∀ (GL : List (Nat × Obj)) (ds : List Dt) (th : BY) (t : Tm) (hG : G3 GL), (Gj t) → (size t < 1000000) → ((C6 th t).all > 200) → (th.lemmas.length = 14) → (IF ds (Fq th) = false) → (ds.length < EB) → (Ow ds) → B1 Tryz.prog 16 [.p (.lst (List.map Ci ds)), .agg ((Ei th).map .p), .agg ((Bu t).map .p)] [.glob GL] (fun x H' => x = .val (.tup [TV Be, TV Be, .p (I 5)]) ∧ H' = [.glob GL]) := by
 intro GL ds th t hG h1 h2 h3 h4 h5 h6 h7
 obtain ⟨BQ, BK, BL, BM, BS, BR, thm⟩ := th
 simp only at h4
 refine BH Tryz.func16 Ay XH (n := 84) Ay Ay (A2 (A0 (BP Ay Ay (Bj Ay) fun b4 => BP Ay Ay (Bj Ay) fun b5 => BP Ay Ay (BN B8 Ay) fun b6 => BP Ay Ay (BN B8 Ay) fun b7 => Az Ay Ay (A4 Ay) (A5 Ay (A2 (A2 (A0 (Az Ay Ay (A3 Dy Ay Ay) (Az Ay Ay (A9 (i := 3) LP Ay Ay Ay) (Az Ay Ay (Bo EL Ay (List.length_map _)) (Az Ay Ay (BE Ay Ay Ay) (A5 Ay (BD Ay (fun c => ?_) (fun c => ?_))))))))))))))
 ·(try simp only [sd, se] at c)
  exact absurd h4 Aw
 (try simp only [sd, se] at c)
 refine BG (A2 (A2 (A0 (Az Ay Ay (A1 Ay) (Az Ay Ay (A8 (i := 3) Fo Ay Ay Ay) (Az Ay Ay (Bp Ay Ay (N8 ds (BY.mk BQ BK BL BM BS BR thm) h6 h7 h4) Ay) (A5 Ay (BD Ay (fun c1 => ?_) (fun c1 => ?_)))))))))
 ·(try simp only [sd, se] at c1)
  exact absurd (h5.symm.trans c1) Av
 (try simp only [sd, se] at c1)
 refine BG (A2 (A0 (Az Ay Ay (A8 (i := 3) Fo Ay Ay Ay) (Az Ay Ay (A8 (i := 2) BU Ay Ay Am) ?_))))
 refine ON [4] Ay Ay Ay (.inl ⟨Ay, Ay, Ay⟩) (UI GL (BY.mk BQ BK BL BM BS BR thm) t hG h1 h2 h3) ⟨_, _, Ay, Ay, Ay⟩ Av (aw (we Ay) (aw (we Ay) C7)) (fun v T' h => ?_) (fun v T' h => by cases h.1)
 obtain ⟨e, rfl⟩ := h
 cases e
 refine ⟨Ay, ?_⟩
 refine Az Ay Ay (A1 Ay) (Az Ay Ay (Bi Ay Ay) (Az Ay Ay (Bi Ay Ay) (Az Ay Ay (A4 Ay) (Az Ay Ay (A4 Ay) (A5 Ay (A2 (A2 (A0 (Az Ay Ay (A1 Ay) (Az Ay Ay (BE Ay Ay Ay) (A5 Ay ?_)))))))))))
 refine BD Ay (fun c2 => ?_) (fun c2 => by cases c2)
 refine A2 (A0 (Az Ay Ay (Bv CV B8 Ay) (Az Ay Ay (Bv CV B8 Ay) (Az Ay Ay (A1 Ay) (Az Ay Ay (Bm (i := 1) BU Ay Ay Ay Ay Ay Ay) (Az Ay Ay (Bm (i := 0) BU Ay Ay Ay Ay Ay Ay) (Az Ay Ay (A4 Ay) (A5 Ay (B2 (Cv (i := 1) Ay) (B2 (Cv (i := 0) Ay) (BF (⟨Ay, _, _, ⟨_, _, Ay, (Bt (i := 1) BU Ay Ay Ay), ⟨_, _, Ay, (Bt (i := 0) BU Ay Ay Ay), ⟨_, _, Ay, Ay, Ay⟩⟩⟩, (C2 (is := [4]) Ay), ?_⟩))))))))))))
 all_goals exact ⟨rfl, rfl⟩
theorem Xp : ∀ (GL : List (Nat × Obj)) (ds : List Dt) (th : BY) (t : Tm) (hG : G3 GL), (Gj t) → (size t < 1000000) → (¬ (C6 th t).all > 200) → (th.lemmas.length = 14) → (IF ds (Fq th) = false) → (ds.length < EB) → (Ow ds) → (60 < (C6 th t).all) → B1 Tryz.prog 16 [.p (.lst (List.map Ci ds)), .agg ((Ei th).map .p), .agg ((Bu t).map .p)] [.glob GL] (fun x H' => (x = .val (.tup [TV Be, TV Be, .p (I 5)]) ∧ 16 < size t) ∧ H' = [.glob GL]) := by
 intro GL ds th t hG h1 h2 h3 h4 h5 h6 h7 h8
 have hal := W7 (th := th) h1
 obtain ⟨BQ, BK, BL, BM, BS, BR, thm⟩ := th
 simp only at h4
 refine BH Tryz.func16 Ay XH (n := 84) Ay Ay (A2 (A0 (BP Ay Ay (Bj Ay) fun b4 => BP Ay Ay (Bj Ay) fun b5 => BP Ay Ay (BN B8 Ay) fun b6 => BP Ay Ay (BN B8 Ay) fun b7 => Az Ay Ay (A4 Ay) (A5 Ay (A2 (A2 (A0 (Az Ay Ay (A3 Dy Ay Ay) (Az Ay Ay (A9 (i := 3) LP Ay Ay Ay) (Az Ay Ay (Bo EL Ay (List.length_map _)) (Az Ay Ay (BE Ay Ay Ay) (A5 Ay (BD Ay (fun c => ?_) (fun c => ?_))))))))))))))
 ·(try simp only [sd, se] at c)
  exact absurd h4 Aw
 (try simp only [sd, se] at c)
 refine BG (A2 (A2 (A0 (Az Ay Ay (A1 Ay) (Az Ay Ay (A8 (i := 3) Fo Ay Ay Ay) (Az Ay Ay (Bp Ay Ay (N8 ds (BY.mk BQ BK BL BM BS BR thm) h6 h7 h4) Ay) (A5 Ay (BD Ay (fun c1 => ?_) (fun c1 => ?_)))))))))
 ·(try simp only [sd, se] at c1)
  exact absurd (h5.symm.trans c1) Av
 (try simp only [sd, se] at c1)
 refine BG (A2 (A0 (Az Ay Ay (A8 (i := 3) Fo Ay Ay Ay) (Az Ay Ay (A8 (i := 2) BU Ay Ay Am) ?_))))
 refine Gu [_, _, _, _] Ay Ay Ay (.inl ⟨Ay, Ay, Ay⟩) (Rf GL (BY.mk BQ BK BL BM BS BR thm) t hG h1 h2 h3) (aw (we Ay) (aw (we Ay) C7)) ?_ (fun _ _ ⟨_, _, h, _⟩ => by cases h)
 rintro _ _ ⟨b, T, h, hT, rfl⟩
 cases h
 obtain ⟨o, cp, o1, cp1, m, rfl⟩ := hT
 refine Az Ay Ay (A1 Ay) (Az Ay Ay (Bi Ay Ay) (Az Ay Ay (Bi Ay Ay) (Az Ay Ay (A4 Ay) (Az Ay Ay (A4 Ay) (A5 Ay (A2 (A2 (A0 (Az Ay Ay (A1 Ay) (Az Ay Ay (BE Ay Ay Ay) (A5 Ay ?_)))))))))))
 refine BD Ay (fun c2 => by cases c2) (fun c2 => ?_)
 refine BG (A2 (A0 (Az Ay Ay (A1 Ay) (Az Ay Ay (Bn Ay) (Az Ay Ay (A3 Hy Ay Ay) (Az Ay Ay (A9 (i := 5) C9 Ay Ay Ay) (Az Ay Ay (BE Ay Ay Ay) (Az Ay Ay (A4 Ay) (A5 Ay (A2 (A2 (Bx [4, 5, 6, 7, 9] 47 (fun y => y = .p (.bool ((decide (((C6 (BY.mk BQ BK BL BM BS BR thm) t).all : Int) > (60 : Int))) && (decide (((size t : Nat) : Int) > (16 : Int)))))) ?_ ?_))))))))))))
 ·exact A0 (DK (Eo (t := 11) (x := .p (.bool true)) (pB Aq)) (Az Ay Ay (A1 Ay) (Az Ay Ay (A1 Ay) (A6 Ay Ay Ay Ay (A8 (i := 2) BU Ay Ay Am) (A6 Ay Ay Ay Ay (Bp Ay Ay (RM t h1.nd Aw) Ay) (A6 Ay Ay Ay Ay (BE Ay Ay Ay) (Az Ay Ay (BC Ay Ay) (A5 Ay (⟨Ay, Ay, AK, AJ, ⟨Ay, Ay, Ay, Ay, Ay, trivial⟩⟩)))))))))
 rintro _ rfl
 refine BD Ay (fun c3 => ?_) (fun c3 => ?_)
 ·(try simp only [sd, se] at c3)
  refine A2 (A0 (Az Ay Ay (Bv CV B8 Ay) (Az Ay Ay (Bv CV B8 Ay) (Az Ay Ay (Bm (i := 1) BU Ay Ay Ay Ay Ay Ay) (Az Ay Ay (Bm (i := 0) BU Ay Ay Ay Ay Ay Ay) (Az Ay Ay (A4 Ay) (A5 Ay (B2 (Cv (i := 1) Ay) (B2 (Cv (i := 0) Ay) (BF (⟨Ay, _, _, ⟨_, _, Ay, (Bt (i := 1) BU Ay Ay Ay), ⟨_, _, Ay, (Bt (i := 0) BU Ay Ay Ay), ⟨_, _, Ay, Ay, Ay⟩⟩⟩, (C2 (is := [4]) Ay), ?_⟩)))))))))))
  all_goals exact ⟨⟨rfl, by omega⟩, rfl⟩
 (try simp only [sd, se] at c3)
 exact absurd c3 Aw
theorem X4 (GL : List (Nat × Obj)) (ds : List Dt) (th : BY) (t : Tm) (hG : G3 GL) (h1 : ds.length < EB) (h2 : Ow ds) (h3 : Gj t) (h4 : size t ≤ 4096) (h5 : G4 th) : B1 Tryz.prog 16 [.p (.lst (List.map Ci ds)), .agg ((Ei th).map .p), TV t] [.glob GL] (fun x H' => (∃ s p e, x = .val (.tup [TV s, TV p, .p (I e)]) ∧ XC ds th t s p e) ∧ H' = [.glob GL]) := by
 by_cases h14 : th.lemmas.length = 14
 ·cases hm : IF ds (Fq th) with
  | true => exact (Xy GL ds th t hG h14 hm h1 h2).mono (by rintro x H' ⟨rfl, rfl⟩; exact ⟨⟨_, _, _, rfl, .inr (.inl ⟨h14, hm, rfl, rfl, rfl⟩)⟩, rfl⟩)
  | false =>
   by_cases ha : (C6 th t).all > 200
   ·exact (X6 GL ds th t hG h3 Aw ha h14 hm h1 h2).mono (by rintro x H' ⟨rfl, rfl⟩; exact ⟨⟨_, _, _, rfl, .inr (.inr (.inl ⟨h14, hm, ha, rfl, rfl, rfl⟩))⟩, rfl⟩)
   by_cases h60 : (C6 th t).all ≤ 60
   ·refine (T9 GL ds th t hG h1 h2 h14 hm h3 h4 h60 h5).mono ?_
    rintro x H' ⟨⟨s, p, e, rfl, h⟩, rfl⟩
    refine ⟨⟨s, p, e, Ay, .inr (.inr (.inr ⟨h14, hm, by omega, ?_⟩))⟩, rfl⟩
    rcases h with ⟨rfl, rfl, _⟩ | ⟨rfl, _, _, h⟩
    ·exact .inr ⟨Ay, Ay⟩
    exact .inl ⟨Ay, h⟩
   exact (Xp GL ds th t hG h3 Aw ha h14 hm h1 h2 Aw).mono (by rintro x H' ⟨⟨rfl, h⟩, rfl⟩; exact ⟨⟨_, _, _, rfl, .inr (.inr (.inr ⟨h14, hm, by omega, .inl ⟨rfl, h⟩⟩))⟩, rfl⟩)
 exact (Y5 GL ds th t hG h14).mono (by rintro x H' ⟨rfl, rfl⟩; exact ⟨⟨_, _, _, rfl, .inl ⟨h14, rfl, rfl, rfl⟩⟩, rfl⟩)
theorem _root_.Go.AH {α : Prop} (h : α := by simp only [List.length_map, List.length_append, List.length_take, List.length_cons, List.length_nil]; omega) : α := h
theorem aq : ∀ (ds : List Dt) (th : BY) (t : Tm), (IB ds) → (Gj t) → (size t < 1000000) → IA Tryz.prog 17 [.p (.lst (List.map Ci ds)), .agg ((Ei th).map .p), .agg ((Bu t).map .p)] (.tup [.agg ((Bu ((Kx ds th t).1)).map .p), .p (I ((Kx ds th t).2))]) := by
 intro ds th t h1 h2 h3
 obtain ⟨BQ, BK, BL, BM, BS, BR, thm⟩ := th
 refine BH Tryz.func17 Ay gf (n := 69) Ay Ay (A2 (A0 (BP Ay Ay (Bj Ay) fun b4 => BP Ay Ay (Bj Ay) fun b5 => BP Ay Ay (BN B8 Ay) fun b6 => Az Ay Ay (A4 Ay) (A5 Ay (A2 (A2 (A0 (Az Ay Ay (A3 Dy Ay Ay) (Az Ay Ay (A9 (i := 2) LP Ay Ay Ay) (Az Ay Ay (Bo EL Ay (List.length_map _)) (Az Ay Ay (BE Ay Ay Ay) (A5 Ay (BD Ay (fun c => ?_) (fun c => ?_))))))))))))))
 ·(try simp only [sd, se] at c)
  refine A2 (A0 (Az Ay Ay (Bv CV B8 Ay) (Az Ay Ay (Bm (i := 0) BU Ay Ay Ay Ay Ay Ay) (Az Ay Ay (A4 Ay) (A5 Ay (B2 (Cv (i := 0) Ay) (BF (⟨Ay, _, _, ⟨_, _, Ay, (Bt (i := 0) BU Ay Ay Ay), ⟨_, _, Ay, Ay, Ay⟩⟩, nS, ?_⟩))))))))
  all_goals exact ⟨by show (.tup [.agg [.p (I 0), .p (I 0), .p (.str ⟨#[]⟩), .p (.lst []), .p (.lst [])], .p (I 1)] : AV) = _; rw [WN (th := (BY.mk BQ BK BL BM BS BR thm)) (fun h => absurd h (by simp only; omega))]; rfl, rfl⟩
 (try simp only [sd, se] at c)
 have h14 : ((BY.mk BQ BK BL BM BS BR thm)).lemmas.length = 14 := by simp only; omega
 have h14b : thm.length = 14 := h14
 have hmn : ([BQ, BK, BL, BM, ⟨#[69, 113]⟩, ⟨#[69, 113, 46, 114, 101, 102, 108]⟩, ⟨#[69, 113, 46, 115, 121, 109, 109]⟩, ⟨#[69, 113, 46, 116, 114, 97, 110, 115]⟩, ⟨#[69, 113, 46, 99, 111, 110, 103, 114]⟩] ++ (thm.take 7)).length = 16 := by simp [h14b]
 refine BG (A2 (A0 (Az Ay Ay (A4 Ay) (DK (IQ (t := 8) (sz := 1) Ay) (A5 Ay (A2 (A0 (Az Ay Ay (A1 Ay) (Az Ay Ay (A3 Dy Ay Ay) (Az Ay Ay (A9 (i := 3) Ev Ay Ay Ay) (Az Ay Ay (A3 Dy Ay Ay) (Az Ay Ay (A9 (i := 3) Ev Ay Ay Ay) (Az Ay Ay (A3 Dy Ay Ay) (Az Ay Ay (A9 (i := 3) Ev Ay Ay Ay) (Az Ay Ay (A3 Dy Ay Ay) (Az Ay Ay (A9 (i := 3) Ev Ay Ay Ay) (Az Ay Ay (CJ EL R9 Ay Ay Ay Ay Ay) ?_)))))))))))))))))
 refine Lo Ay Ay (Df (i := 0) (rows' := List.map CZ ([BQ, BK, BL, BM, ⟨#[69, 113]⟩, ⟨#[69, 113, 46, 114, 101, 102, 108]⟩, ⟨#[69, 113, 46, 115, 121, 109, 109]⟩, ⟨#[69, 113, 46, 116, 114, 97, 110, 115]⟩, ⟨#[69, 113, 46, 99, 111, 110, 103, 114]⟩])) EL EL R9 Ay Ay Ay Ay Ay Ay (E8 _) AH (HJ (f := CZ) [] ([BQ, BK, BL, BM, ⟨#[69, 113]⟩, ⟨#[69, 113, 46, 114, 101, 102, 108]⟩, ⟨#[69, 113, 46, 115, 121, 109, 109]⟩, ⟨#[69, 113, 46, 116, 114, 97, 110, 115]⟩, ⟨#[69, 113, 46, 99, 111, 110, 103, 114]⟩]))) fun o cp => Az Ay Ay (A4 Ay) (A5 Ay (A2 (A0 (Az Ay Ay (A1 Ay) (Az Ay Ay (A3 Dy Ay Ay) (Az Ay Ay (A9 (i := 3) LP Ay Ay Ay) (Az Ay Ay (Dk (lo := 0) (hi := 7) EL Ay (B9 (E8 _)) Ay ⟨_, Ay⟩ (Nat.zero_le _) AU (Pb (f := CZ) thm 7)) ?_)))))))
 refine Lo Ay Ay (Df (i := 0) (rows' := List.map CZ (thm.take 7)) EL EL R9 Ay Ay Ay Ay Ay Ay (E8 _) AH (HJ (f := CZ) ([BQ, BK, BL, BM, ⟨#[69, 113]⟩, ⟨#[69, 113, 46, 114, 101, 102, 108]⟩, ⟨#[69, 113, 46, 115, 121, 109, 109]⟩, ⟨#[69, 113, 46, 116, 114, 97, 110, 115]⟩, ⟨#[69, 113, 46, 99, 111, 110, 103, 114]⟩]) (thm.take 7))) fun o1 cp1 => Az Ay Ay (A4 Ay) (A5 Ay (A2 (A2 (A0 (Az Ay Ay (A4 Ay) (A5 Ay (BT (B2 (FI (i := 0) [8, 35] Ay (HQ ⟨Ay, Ay, trivial⟩)) ?_))))))))
 refine B4 (α := Nat) (fun i => ⟨69, mk [(0, .p (.lst (List.map Ci ds))), (4, .ptr b4 0), (5, .ptr b5 0), (6, .ptr b6 0), (8, .p (.lst (List.map CZ (([BQ, BK, BL, BM, ⟨#[69, 113]⟩, ⟨#[69, 113, 46, 114, 101, 102, 108]⟩, ⟨#[69, 113, 46, 115, 121, 109, 109]⟩, ⟨#[69, 113, 46, 116, 114, 97, 110, 115]⟩, ⟨#[69, 113, 46, 99, 111, 110, 103, 114]⟩]) ++ (thm.take 7))))), (9, .p (I (i : Int)))], [.box b6 [.p (I 0), .p (I 0), .p (.str ⟨#[]⟩), .p (.nils), .p (.nils)], .box b5 ((Bu t).map .p), .box b4 [.p (.str BQ), .p (.str BK), .p (.str BL), .p (.str BM), .p (.str BS), .p (.str BR), .p (.lst (List.map CZ thm))]], []⟩) (fun i => ([BQ, BK, BL, BM, ⟨#[69, 113]⟩, ⟨#[69, 113, 46, 114, 101, 102, 108]⟩, ⟨#[69, 113, 46, 115, 121, 109, 109]⟩, ⟨#[69, 113, 46, 116, 114, 97, 110, 115]⟩, ⟨#[69, 113, 46, 99, 111, 110, 103, 114]⟩] ++ (thm.take 7)).length - i) (fun i => i ≤ ([BQ, BK, BL, BM, ⟨#[69, 113]⟩, ⟨#[69, 113, 46, 114, 101, 102, 108]⟩, ⟨#[69, 113, 46, 115, 121, 109, 109]⟩, ⟨#[69, 113, 46, 116, 114, 97, 110, 115]⟩, ⟨#[69, 113, 46, 99, 111, 110, 103, 114]⟩] ++ (thm.take 7)).length ∧ (∀ j, j < i → ∀ y, ([BQ, BK, BL, BM, ⟨#[69, 113]⟩, ⟨#[69, 113, 46, 114, 101, 102, 108]⟩, ⟨#[69, 113, 46, 115, 121, 109, 109]⟩, ⟨#[69, 113, 46, 116, 114, 97, 110, 115]⟩, ⟨#[69, 113, 46, 99, 111, 110, 103, 114]⟩] ++ (thm.take 7))[j]? = some y → (Ed ds y).2 = 0)) 0 (⟨by omega, fun j h => by omega⟩) ?_ ?_
 ·exact By ⟨we Ay, we Ay, we Ay, we Ay, we Ay, we Ay, trivial⟩ (leH (is := [0, 1, 2]) Ay (wl (oe Ay) (wl (oe Ay) (wl (oe Ay) (Dc)))))
 rintro i hC
 try simp only at hC
 obtain ⟨hi, hC⟩ := hC
 refine A2 (A2 (A0 (Az Ay Ay (A1 Ay) (Az Ay Ay (A1 Ay) (Az Ay Ay (Bo EL Ay (List.length_map _)) (Az Ay Ay (BE Ay Ay Ay) (A5 Ay (BD Ay (fun c1 => ?_) (fun c1 => ?_)))))))))
 ·(try simp only [sd, se] at c1)
  refine BG (A2 (BT (A2 (A0 (Az Ay Ay (A1 Ay) (Az Ay Ay (A1 Ay) (Az Ay Ay (A1 Ay) ?_)))))))
  obtain ⟨x, hx⟩ := BO (l := ([BQ, BK, BL, BM, ⟨#[69, 113]⟩, ⟨#[69, 113, 46, 114, 101, 102, 108]⟩, ⟨#[69, 113, 46, 115, 121, 109, 109]⟩, ⟨#[69, 113, 46, 116, 114, 97, 110, 115]⟩, ⟨#[69, 113, 46, 99, 111, 110, 103, 114]⟩]) ++ (thm.take 7)) (i := i) Aw
  refine Az Ay Ay (BI EL Ay Ay Aw (Hv hx) (Ay)) (Az Ay Ay (CQ Ev Ay) (Az Ay Ay (Bp Ay Ay (Ml ds x h1) Ay) (Az Ay Ay (A1 Ay) (Az Ay Ay (Bi Ay Ay) (Az Ay Ay (Bi Ay Ay) (BP Ay Ay (BN JB Ay) fun b10 => Az Ay Ay (BB (i := 0) FC Ay Ay Ay Ao Ad (EK _)) (Az Ay Ay (A4 Ay) (A5 Ay (A2 (A0 (Az Ay Ay (A1 Ay) (Az Ay Ay (BE Ay Ay Ay) (A5 Ay (BD Ay (fun c2 => ?_) (fun c2 => ?_)))))))))))))))
  ·(try simp only [sd, se] at c2)
   refine A2 (A0 (Az Ay Ay (Bv CV B8 Ay) (Az Ay Ay (Bm (i := 1) BU Ay Ay Ay Ay Ay Ay) (Az Ay Ay (A4 Ay) (A5 Ay (B2 (Cv (i := 1) Ay) (BF (⟨Ay, _, _, ⟨_, _, Ay, (Bt (i := 1) BU Ay Ay Ay), ⟨_, _, Ay, Ay, Ay⟩⟩, nS, ?_⟩))))))))
   all_goals exact ⟨by show (.tup [.agg [.p (I 0), .p (I 0), .p (.str ⟨#[]⟩), .p (.lst []), .p (.lst [])], .p (I 9)] : AV) = _; have hm : IF ds (Fq (BY.mk BQ BK BL BM BS BR thm)) = true := YE (l := ([BQ, BK, BL, BM, ⟨#[69, 113]⟩, ⟨#[69, 113, 46, 114, 101, 102, 108]⟩, ⟨#[69, 113, 46, 115, 121, 109, 109]⟩, ⟨#[69, 113, 46, 116, 114, 97, 110, 115]⟩, ⟨#[69, 113, 46, 99, 111, 110, 103, 114]⟩] ++ (thm.take 7))) hx (by simpa using c2); rw [Wp h14 hm]; rfl, rfl⟩
  (try simp only [sd, se] at c2)
  refine BG (A0 (Az Ay Ay (A1 Ay) (Az Ay Ay (CH Ay Ay Aw Aw) (Az Ay Ay (A4 Ay) (A5 Ay (⟨(i + 1), AZ, ⟨by omega, D5 (p := fun _ (y : ByteArray) => (Ed ds y).2 = 0) hC hx (by simpa using c2)⟩, By ⟨we rfl, we rfl, we rfl, we rfl, we rfl, we rfl, trivial⟩ (leH (is := [1, 2, 3]) rfl (wl (oe rfl) (wl (oe rfl) (wl (oe rfl) (Dc)))))⟩))))))
 (try simp only [sd, se] at c1)
 have hmis : IF ds (Fq (BY.mk BQ BK BL BM BS BR thm)) = false := bA (l := ([BQ, BK, BL, BM, ⟨#[69, 113]⟩, ⟨#[69, 113, 46, 114, 101, 102, 108]⟩, ⟨#[69, 113, 46, 115, 121, 109, 109]⟩, ⟨#[69, 113, 46, 116, 114, 97, 110, 115]⟩, ⟨#[69, 113, 46, 99, 111, 110, 103, 114]⟩] ++ (thm.take 7))) fun j hj => hC j Aw
 refine B7 (A2 (A0 (Az Ay Ay (A8 (i := 2) Fo Ay Ay Ay) (Az Ay Ay (A8 (i := 1) BU Ay Ay Am) (Az Ay Ay (Bp Ay Ay (YV (BY.mk BQ BK BL BM BS BR thm) t h2 h3) Ay) (Az Ay Ay (A1 Ay) (Az Ay Ay (Bi Ay Ay) (Az Ay Ay (Bi Ay Ay) (Az Ay Ay (Bi Ay Ay) (Az Ay Ay (A4 Ay) (Az Ay Ay (A4 Ay) (Az Ay Ay (A4 Ay) (A5 Ay (A2 (A2 (A0 (Az Ay Ay (A1 Ay) (Az Ay Ay (BE Ay Ay Ay) (A5 Ay (BD Ay (fun c2 => ?_) (fun c2 => ?_)))))))))))))))))))))
 ·(try simp only [sd, se] at c2)
  refine A2 (A0 (Az Ay Ay (Bv CV B8 Ay) (Az Ay Ay (A1 Ay) (Az Ay Ay (Bm (i := 0) BU Ay Ay Ay Ay Ay Ay) (Az Ay Ay (A4 Ay) (A5 Ay (B2 (Cv (i := 0) Ay) (BF (⟨Ay, _, _, ⟨_, _, Ay, (Bt (i := 0) BU Ay Ay Ay), ⟨_, _, Ay, Ay, Ay⟩⟩, nS, ?_⟩)))))))))
  all_goals exact ⟨by show (.tup [.agg [.p (I 0), .p (I 0), .p (.str ⟨#[]⟩), .p (.lst []), .p (.lst [])], .p (I ((Dd (BY.mk BQ BK BL BM BS BR thm) t).2.2))] : AV) = _; rw [WX h14 hmis (by simpa using c2)]; rfl, rfl⟩
 (try simp only [sd, se] at c2)
 refine BG (A2 (A0 (Az Ay Ay (A8 (i := 2) Fo Ay Ay Ay) (Az Ay Ay (A1 Ay) (Az Ay Ay (A1 Ay) ?_)))))
 refine Az Ay Ay (Bp Ay Ay (XE (BY.mk BQ BK BL BM BS BR thm) ((Dd (BY.mk BQ BK BL BM BS BR thm) t).1) ((Dd (BY.mk BQ BK BL BM BS BR thm) t).2.1) (by have := (SH (th := (BY.mk BQ BK BL BM BS BR thm)) h2 h3).1; simp only [EB]; omega)) Ay) ?_
 refine Az Ay Ay (BB (i := 0) BU Ay Ay Ay Am Ac (CN _)) (Az Ay Ay (A4 Ay) (A5 Ay (BF (⟨Ay, _, _, ⟨_, _, Ay, (Bt (i := 0) BU Ay Ay Am), ⟨_, _, Ay, Ay, Ay⟩⟩, nS, ?_⟩))))
 all_goals exact ⟨by show (.tup [.agg ((Bu (HS (BY.mk BQ BK BL BM BS BR thm) ((Dd (BY.mk BQ BK BL BM BS BR thm) t).1) ((Dd (BY.mk BQ BK BL BM BS BR thm) t).2.1))).map .p), .p (I 0)] : AV) = _; rw [Wu h14 hmis (by simpa using c2)], rfl⟩
theorem X5 : ∀ (GL : List (Nat × Obj)) (hG : G3 GL) (ds : List Dt) (th : BY) (t : Tm), (IB ds) → (th.lemmas.length ≤ 8796093021952) → (Wd t) → B1 Tryz.prog 4 [.p (.lst (List.map Ci ds)), .agg ((Ei th).map .p), .agg ((Bu t).map .p)] [.glob GL] (Dq (.p (.bool true)) [.glob GL]) := by
 intro GL hG ds th t h1 h2 h3
 refine BH Tryz.func4 Ay ig (n := 74) Ay Ay (A2 (A0 (BP Ay Ay (Bj Ay) fun b4 => BP Ay Ay (Bj Ay) fun b5 => Az Ay Ay (A4 Ay) (A5 Ay (A2 (A2 (Bx [0, 4, 5] 25 (fun y => ∃ b : Bool, y = .p (.bool b) ∧ (b = false → G4 th ∧ Gj t ∧ size t ≤ 200)) ?_ ?_)))))))
 ·refine A0 (Az Ay Ay (A8 (i := 1) Fo Ay Ay Ay) (Du Ay Ay (Bb Ay Ay (aR th h2) (.inl Ay)) ?_))
  rintro _ ⟨b, rfl, hb⟩
  refine Az Ay Ay (Cp Ay) (Az Ay Ay (A1 Ay) (Br 15 Ay (fun g => ?_) (fun g => ?_)))
  ·(try simp only [sd, se] at g)
   exact A7 Ay Ay Ay Ay Ay (A7 Ay Ay Ay Ay Ay (A7 Ay Ay Ay Ay Ay (A7 Ay Ay Ay Ay Ay (Az Ay Ay (BC Ay Ay) (Az Ay Ay (A1 Ay) (A7 Ay Ay Ay Ay Ay (A7 Ay Ay Ay Ay Ay (A7 Ay Ay Ay Ay Ay (Az Ay Ay (BC Ay Ay) (A5 Ay (⟨Ay, Ay, AK, (by refine ⟨_, rfl, fun h => ?_⟩; first | (exact absurd h Av) | (simp_all; done)), ⟨Ay, Ay, Ay, trivial⟩⟩)))))))))))
  (try simp only [sd, se] at g)
  refine A6 Ay Ay Ay Ay (A8 (i := 0) BU Ay Ay Am) (A6 Ay Ay Ay Ay (Bf (rows := Bg [t]) CL B8 Ay Ay Ay Ay (B9 (CT _)) (DP _)) (IN Ay Ay Ay Ay (Bb Ay Ay (V1 [t] ⟨h3, trivial⟩ (by simp [wide])) (.inl Ay)) ?_))
  rintro _ ⟨b1, rfl, hb1⟩
  refine A6 Ay Ay Ay Ay (Cp Ay) (Az Ay Ay (BC Ay Ay) (Az Ay Ay (A1 Ay) (Br 21 Ay (fun g1 => ?_) (fun g1 => ?_))))
  ·(try simp only [sd, se] at g1)
   exact A7 Ay Ay Ay Ay Ay (A7 Ay Ay Ay Ay Ay (A7 Ay Ay Ay Ay Ay (Az Ay Ay (BC Ay Ay) (A5 Ay (⟨Ay, Ay, AK, (by refine ⟨_, rfl, fun h => ?_⟩; first | (exact absurd h Av) | (simp_all; done)), ⟨Ay, Ay, Ay, trivial⟩⟩)))))
  (try simp only [sd, se] at g1)
  refine A6 Ay Ay Ay Ay (A1 Ay) (IN Ay Ay Ay Ay (Bb Ay Ay (XM ds h1) (.inl Ay)) ?_)
  rintro _ ⟨q, rfl⟩
  exact A6 Ay Ay Ay Ay (Cp Ay) (Az Ay Ay (BC Ay Ay) (A5 Ay (⟨Ay, Ay, AK, (by refine ⟨_, rfl, fun h => ?_⟩; first | (exact absurd h Av) | (simp_all; done)), ⟨Ay, Ay, Ay, trivial⟩⟩)))
 rintro _ ⟨q, rfl, hq⟩
 refine BD Ay (fun c => ?_) (fun c => ?_)
 ·(try simp only [sd, se] at c)
  refine A2 (A0 (Az Ay Ay (Cf [2] Ay (.inl ⟨Ay, Ay, Ay⟩) (Mq GL hG ) ⟨_, _, Ay, Ay, Ay⟩ Av Ay (.inl Ay)) (Az Ay Ay (A4 Ay) (A5 Ay (BF (⟨Ay, _, _, ⟨_, _, Ay, Ay, Ay⟩, (C2 (is := [2]) Ay), ?_⟩))))))
  all_goals exact ⟨rfl, rfl⟩
 (try simp only [sd, se] at c)
 obtain ⟨hq1, hq2, hq3⟩ := hq (by simpa using c)
 refine BG (A2 (A0 (Az Ay Ay (A1 Ay) (Az Ay Ay (A8 (i := 1) Fo Ay Ay Ay) (Az Ay Ay (A8 (i := 0) BU Ay Ay Am) ?_)))))
 refine ON [2] rfl rfl rfl (.inl ⟨rfl, rfl, rfl⟩) (X4 GL ds th t hG (by have := h1.len; simp only [EB]; omega) (fun d hd => .inr (h1.all d hd)) hq2 Aw hq1) ⟨_, _, rfl, rfl, rfl⟩ Av (aw (we rfl) (aw (we rfl) (aw (we rfl) C7))) (fun v T' h => ?_) (fun v T' h => by obtain ⟨⟨_, _, _, h, _⟩, _⟩ := h; cases h)
 obtain ⟨⟨sP, pP, eP, h, hp⟩, rfl⟩ := h
 cases h
 refine ⟨Ay, ?_⟩
 refine Az Ay Ay (A1 Ay) (Az Ay Ay (Bi Ay Ay) (Az Ay Ay (Bi Ay Ay) (Az Ay Ay (Bi Ay Ay) (BP Ay Ay (BN B8 Ay) fun b7 => BP Ay Ay (BN B8 Ay) fun b8 => Az Ay Ay (BB (i := 1) BU Ay Ay Ay Am Ac (CN _)) (Az Ay Ay (BB (i := 0) BU Ay Ay Ay Am Ac (CN _)) (Az Ay Ay (A4 Ay) (A5 Ay (A2 (A0 (Az Ay Ay (A1 Ay) (Az Ay Ay (A8 (i := 3) Fo Ay Ay Ay) (Az Ay Ay (A8 (i := 2) BU Ay Ay Am) (Az Ay Ay (Bp Ay Ay (aq ds th t h1 hq2 Aw) Ay) (Az Ay Ay (A1 Ay) (Az Ay Ay (Bi Ay Ay) (Az Ay Ay (Bi Ay Ay) (BP Ay Ay (BN B8 Ay) fun b10 => Az Ay Ay (BB (i := 0) BU Ay Ay Ay Am Ac (CN _)) (Az Ay Ay (A4 Ay) ?_))))))))))))))))))
 refine A5 Ay (A2 (A2 (Bx [7, 8, 9, 10, 11] 52 (fun y => ∃ b : Bool, y = .p (.bool b) ∧ (b = false → eP = (Kx ds th t).2 ∧ sP = (Kx ds th t).1 ∧ (eP = 0 ∨ pP = Be))) ?_ ?_)))
 ·refine A0 (Az Ay Ay (A1 Ay) (Az Ay Ay (BE Ay Ay Ay) (Az Ay Ay (A1 Ay) (Br 44 Ay (fun g => ?_) (fun g => ?_)))))
  ·(try simp only [sd, se] at g)
   refine A6 Ay Ay Ay Ay (A1 Ay) (A6 Ay Ay Ay Ay (BE Ay Ay Ay) (Az Ay Ay (BC Ay Ay) (Az Ay Ay (A1 Ay) (Br 48 Ay (fun g1 => ?_) (fun g1 => ?_)))))
   ·(try simp only [sd, se] at g1)
    refine A6 Ay Ay Ay Ay (A8 (i := 3) BU Ay Ay Am) (A6 Ay Ay Ay Ay (Bp Ay Ay (Q8 _ t (Nat.le_refl _) hq2.nd) Ay) (A6 Ay Ay Ay Ay (BE Ay Ay Ay) (Az Ay Ay (BC Ay Ay) (A5 Ay ?_))))
    exact ⟨rfl, rfl, AK, (by refine ⟨_, rfl, fun h => ?_⟩; have hz := Om (t := t) Aw; rcases Oq hp with ⟨k1, k2, k3⟩ | k; (exfalso; first | exact g k1 | exact g1 k2 | (have h9 : Hu t ≤ 16 := by simpa using h); omega); exact k), ⟨rfl, rfl, rfl, rfl, rfl, trivial⟩⟩
   (try simp only [sd, se] at g1)
   refine A7 Ay Ay Ay Ay Ay (A7 Ay Ay Ay Ay Ay (A7 Ay Ay Ay Ay Ay (Az Ay Ay (BC Ay Ay) (A5 Ay ?_))))
   exact ⟨rfl, rfl, AK, (by refine ⟨_, rfl, fun h => ?_⟩; have hz := Om (t := t) Aw; rcases Oq hp with ⟨k1, k2, k3⟩ | k; (exfalso; first | exact g k1 | exact g1 k2 | (have h9 : Hu t ≤ 16 := by simpa using h); omega); exact k), ⟨rfl, rfl, rfl, rfl, rfl, trivial⟩⟩
  (try simp only [sd, se] at g)
  refine A7 Ay Ay Ay Ay Ay (A7 Ay Ay Ay Ay Ay (Az Ay Ay (BC Ay Ay) (Az Ay Ay (A1 Ay) (A7 Ay Ay Ay Ay Ay (A7 Ay Ay Ay Ay Ay (A7 Ay Ay Ay Ay Ay (Az Ay Ay (BC Ay Ay) (A5 Ay ?_))))))))
  exact ⟨rfl, rfl, AK, (by refine ⟨_, rfl, fun h => ?_⟩; have hz := Om (t := t) Aw; rcases Oq hp with ⟨k1, k2, k3⟩ | k; (exfalso; first | exact g k1 | exact g1 k2 | (have h9 : Hu t ≤ 16 := by simpa using h); omega); exact k), ⟨rfl, rfl, rfl, rfl, rfl, trivial⟩⟩
 rintro _ ⟨r, rfl, hr⟩
 refine BD Ay (fun c1 => ?_) (fun c1 => ?_)
 ·(try simp only [sd, se] at c1)
  refine A2 (A0 (Az Ay Ay (Cf [5] Ay (.inl ⟨Ay, Ay, Ay⟩) (Mq GL hG ) ⟨_, _, Ay, Ay, Ay⟩ Av Ay (.inl Ay)) (Az Ay Ay (A4 Ay) (A5 Ay (BF (⟨Ay, _, _, ⟨_, _, Ay, Ay, Ay⟩, (C2 (is := [5]) Ay), ?_⟩))))))
  all_goals exact ⟨rfl, rfl⟩
 (try simp only [sd, se] at c1)
 obtain ⟨hr1, hr2, hr3⟩ := hr (by simpa using c1)
 refine BG (A2 (Bx [] 6 (fun y => y = .p (.bool true)) ?_ ?_))
 ·refine A0 (Az Ay Ay (A1 Ay) (Az Ay Ay (A1 Ay) (Az Ay Ay (BE Ay Ay Ay) (Az Ay Ay (A1 Ay) (Br 57 Ay (fun g => ?_) (fun g => ?_))))))
  ·(try simp only [sd, se] at g)
   refine A6 Ay Ay Ay Ay (A8 (i := 2) BU Ay Ay Am) (A6 Ay Ay Ay Ay (A8 (i := 0) BU Ay Ay Am) (A6 Ay Ay Ay Ay (Bp Ay Ay (J7 sP ((Kx ds th t).1) (hr2 ▸ YO hq1 hq2 Aw) hr2) Ay) (Az Ay Ay (BC Ay Ay) (Az Ay Ay (A1 Ay) (A6 Ay Ay Ay Ay (A1 Ay) (A6 Ay Ay Ay Ay (BE Ay Ay Ay) (A6 Ay Ay Ay Ay (A1 Ay) (Br 65 Ay (fun g1 => ?_) (fun g1 => ?_)))))))))
   ·(try simp only [sd, se] at g1)
    exact A7 Ay Ay Ay Ay Ay (A7 Ay Ay Ay Ay Ay (A7 Ay Ay Ay Ay Ay (A6 Ay Ay Ay Ay (BC Ay Ay) (Az Ay Ay (BC Ay Ay) (Az Ay Ay (A1 Ay) (A6 Ay Ay Ay Ay (Cf [5] Ay (.inl ⟨Ay, Ay, Ay⟩) (Mq GL hG ) ⟨_, _, Ay, Ay, Ay⟩ Av Ay (.inl Ay)) (Az Ay Ay (BC Ay Ay) (Az Ay Ay (A4 Ay) (A5 Ay ⟨Ay, Ay, AK, (by first | rfl | (refine absurd g ?_; simp [hr1]; done)), trivial⟩)))))))))
   (try simp only [sd, se] at g1)
   exact A6 Ay Ay Ay Ay (A8 (i := 1) BU Ay Ay Am) (A6 Ay Ay Ay Ay (Bv CV B8 Ay) (A6 Ay Ay Ay Ay (DJ Ay Ay (J7 pP (.mk 0 0 ⟨#[]⟩ [] [] : Tm) (hr3.resolve_left (by simpa using g1) ▸ jC) (hr3.resolve_left (by simpa using g1))) (aw (we Ay) (aw (Cs Ay) (C7)))) (A6 Ay Ay Ay Ay (BC Ay Ay) (Az Ay Ay (BC Ay Ay) (Az Ay Ay (A1 Ay) (A6 Ay Ay Ay Ay (Cf [5] Ay (.inl ⟨Ay, Ay, Ay⟩) (Mq GL hG ) ⟨_, _, Ay, Ay, Ay⟩ Av Ay (.inl Ay)) (Az Ay Ay (BC Ay Ay) (Az Ay Ay (A4 Ay) (A5 Ay ⟨Ay, Ay, AK, (by first | rfl | (refine absurd g ?_; simp [hr1]; done)), trivial⟩)))))))))
  (try simp only [sd, se] at g)
  exact A7 Ay Ay Ay Ay Ay (A7 Ay Ay Ay Ay Ay (A7 Ay Ay Ay Ay Ay (Az Ay Ay (BC Ay Ay) (Az Ay Ay (A1 Ay) (A7 Ay Ay Ay Ay Ay (A7 Ay Ay Ay Ay Ay (A7 Ay Ay Ay Ay Ay (CD Ay Ay Ay Ay (CD Ay Ay Ay Ay (CD Ay Ay Ay Ay (A7 Ay Ay Ay Ay Ay (Az Ay Ay (BC Ay Ay) (Az Ay Ay (A1 Ay) (A7 Ay Ay Ay Ay Ay (Az Ay Ay (BC Ay Ay) (Az Ay Ay (A4 Ay) (A5 Ay ⟨Ay, Ay, AK, (by first | rfl | (refine absurd g ?_; simp [hr1]; done)), trivial⟩)))))))))))))))))
 rintro _ rfl
 refine BF (⟨Ay, _, _, ⟨_, _, Ay, Ay, Ay⟩, (C2 (is := [5]) Ay), ?_⟩)
 all_goals exact ⟨rfl, rfl⟩
end Go.Proofs.YtapmjpihennhaaaGreatDoor
