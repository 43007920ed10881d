/- Part of the proofs: an abstract program logic, plain models and contracts of functions. -/
import Derived.Test.YtapmjpihennhaaaGreatDoorPg
set_option linter.unusedVariables false
set_option linter.unusedSimpArgs false
set_option maxRecDepth 100000
namespace Go.Proofs.YtapmjpihennhaaaGreatDoor
open Go.Abs Go.Eu
theorem Sn : ∀ (GL : List (Nat × Obj)) (th : BF) (t : Tm) (hG : Gh GL), (Fb t) → (size t < 1000000) → ((Cq th t).all > 200) → Bl Tryz.prog 19 [.agg ((Ef th).map .p), .agg ((Ba t).map .p)] [.glob GL] (DG (.tup [.p (.lst (List.map Ca ((EP th t).1))), .p (.lst (BO ((EP th t).2.1))), .p (I ((EP th t).2.2))]) [.glob GL]) := by
 intro GL th t hG h1 h2 h3
 obtain ⟨BA, A6, A8, A9, BC, BB, thm⟩ := th
 refine A3 Tryz.func19 Ao XR (n := 26) Ao Ao ?_
 refine As ?_
 refine Aq ?_
 refine BH Ao Ao (Bb Ao) fun b2 => ?_
 refine BH Ao Ao (Bb Ao) fun b3 => ?_
 refine Ap Ao Ao (At Ao) ?_
 refine Ap Ao Ao (At Ao) ?_
 refine Ap Ao Ao (At Ao) ?_
 refine Au Ao ?_
 refine As ?_
 refine Aq ?_
 refine Ap Ao Ao (Aw (i := 1) FE Ao Ao Ao) ?_
 refine Ap Ao Ao (Aw (i := 0) BI Ao Ao Af) ?_
 refine TZ [2] Ao Ao Ao (.inl ⟨Ao, Ao, Ao⟩) (Ud GL (BF.mk BA A6 A8 A9 BC BB thm) t hG h1 h2 h3) ⟨_, _, Ao, Ao, Ao⟩ Al (aw (we Ao) (aw (we Ao) Ci)) (fun v T' h => ?_) (fun v T' h => by cases h.1)
 obtain ⟨e, rfl⟩ := h
 cases e
 refine ⟨Ao, ?_⟩
 refine Ap Ao Ao (Ar Ao) ?_
 refine Ap Ao Ao (BY Ao Ao) ?_
 refine Ap Ao Ao (BY Ao Ao) ?_
 refine Ap Ao Ao (At Ao) ?_
 refine Ap Ao Ao (At Ao) ?_
 refine Au Ao ?_
 refine As ?_
 refine As ?_
 refine Aq ?_
 refine Ap Ao Ao (Ar Ao) ?_
 refine Ap Ao Ao (A7 Ao Ao Ao) ?_
 refine Au Ao ?_
 refine A4 Ao (fun c => ?_) (fun c => by cases c)
 refine As ?_
 refine Aq ?_
 refine Ap Ao Ao (Ar Ao) ?_
 refine Ap Ao Ao (At Ao) ?_
 refine Ap Ao Ao (At Ao) ?_
 refine Ap Ao Ao (At Ao) ?_
 refine Au Ao ?_
 refine B5 (EF 4) ?_
 refine B5 (EF 5) ?_
 refine A5 ?_
 refine ⟨Ao, _, _, ⟨_, _, Ao, Ao, ⟨_, _, Ao, Ao, ⟨_, _, Ao, Ao, Ao⟩⟩⟩, (Cf (is := [2]) Ao), ?_⟩
 rw [NI h3]
 all_goals exact ⟨rfl, rfl⟩
theorem S0 : ∀ (GL : List (Nat × Obj)) (th : BF) (t : Tm) (hG : Gh GL), (Fb t) → (size t < 1000000) → (¬ (Cq th t).all > 200) → Bl Tryz.prog 19 [.agg ((Ef th).map .p), .agg ((Ba t).map .p)] [.glob GL] (DG (.tup [.p (.lst (List.map Ca ((EP th t).1))), .p (.lst (BO ((EP th t).2.1))), .p (I ((EP th t).2.2))]) [.glob GL]) := by
 intro GL th t hG h1 h2 h3
 obtain ⟨BA, A6, A8, A9, BC, BB, thm⟩ := th
 refine A3 Tryz.func19 Ao XR (n := 26) Ao Ao ?_
 refine As ?_
 refine Aq ?_
 refine BH Ao Ao (Bb Ao) fun b2 => ?_
 refine BH Ao Ao (Bb Ao) fun b3 => ?_
 refine Ap Ao Ao (At Ao) ?_
 refine Ap Ao Ao (At Ao) ?_
 refine Ap Ao Ao (At Ao) ?_
 refine Au Ao ?_
 refine As ?_
 refine Aq ?_
 refine Ap Ao Ao (Aw (i := 1) FE Ao Ao Ao) ?_
 refine Ap Ao Ao (Aw (i := 0) BI Ao Ao Af) ?_
 refine GI [_, _] Ao Ao Ao (.inl ⟨Ao, Ao, Ao⟩) (Qi GL (BF.mk BA A6 A8 A9 BC BB thm) t hG h1 h2 h3) (aw (we Ao) (aw (we Ao) Ci)) ?_ (fun _ _ ⟨_, _, h, _⟩ => by cases h)
 rintro _ _ ⟨b, T, h, hT, rfl⟩
 cases h
 obtain ⟨o, cp, o1, cp1, m, rfl⟩ := hT
 refine Ap Ao Ao (Ar Ao) ?_
 refine Ap Ao Ao (BY Ao Ao) ?_
 refine Ap Ao Ao (BY Ao Ao) ?_
 refine Ap Ao Ao (At Ao) ?_
 refine Ap Ao Ao (At Ao) ?_
 refine Au Ao ?_
 refine As ?_
 refine As ?_
 refine Aq ?_
 refine Ap Ao Ao (Ar Ao) ?_
 refine Ap Ao Ao (A7 Ao Ao Ao) ?_
 refine Au Ao ?_
 refine A4 Ao (fun c => by cases c) (fun c => ?_)
 refine BD ?_
 refine As ?_
 refine CJ (fun k => false) Dq ?_
 refine Ay Ao Ao (fun _ => Ar Ao) trivial ?_
 refine Ay Ao Ao (fun _ => BT Ao) trivial ?_
 refine Ay Ao Ao (fun _ => Av Gk Ao Ao) trivial ?_
 refine BK (j := 3) rfl rfl rfl (fun H i hi => Ax (i := i) Lq rfl hi rfl) (by repeat' first | exact trivial | refine And.intro ?_ ?_ | ((refine Or.inr (And.intro ?_ ?_) <;> repeat (first | exact List.Mem.head _ | apply List.Mem.tail)); done) | exact Or.inl Ai) trivial ?_
 refine Ay Ao Ao (fun _ => Ar Ao) trivial ?_
 refine Ay Ao Ao (fun _ => BT Ao) trivial ?_
 refine Ay Ao Ao (fun _ => Av Gk Ao Ao) trivial ?_
 refine BK (j := 3) rfl rfl rfl (fun H i hi => Ax (i := i) DC rfl hi rfl) (by repeat' first | exact trivial | refine And.intro ?_ ?_ | ((refine Or.inr (And.intro ?_ ?_) <;> repeat (first | exact List.Mem.head _ | apply List.Mem.tail)); done) | exact Or.inl Ai) trivial ?_
 refine Ay Ao Ao (fun _ => At Ao) trivial ?_
 refine Ay Ao Ao (fun _ => At Ao) trivial ?_
 refine Ay Ao Ao (fun _ => At Ao) trivial ?_
 refine CA Ao Ai ?_
 refine B5 (DT (i := 4) (j := 3) (q := 0) [4, 21] Ao Ao Ao (IA ⟨Ao, Ao, trivial⟩)) ?_
 refine B5 (DT (i := 4) (j := 3) (q := 1) [5, 25] Ao Ao Ao (IA ⟨Ao, Ao, trivial⟩)) ?_
 refine A5 ?_
 refine ⟨Ao, _, _, ⟨_, _, Ao, Ao, ⟨_, _, Ao, Ao, ⟨_, _, Ao, Ao, Ao⟩⟩⟩, (Cf (is := [2]) Ao), ?_⟩
 rw [Hr h3]
 all_goals exact ⟨rfl, rfl⟩
theorem Q6 (GL : List (Nat × Obj)) (hG : Gh GL) (th : BF) (t : Tm) (h1 : Fb t) (h2 : size t < 1000000) : Bl Tryz.prog 19 [.agg ((Ef th).map .p), TV t] [.glob GL] (DG (.tup [.p (.lst (List.map Ca (EP th t).1)), .p (.lst (BO (EP th t).2.1)), .p (I (EP th t).2.2)]) [.glob GL]) := by
 by_cases h : (Cq th t).all > 200
 ·exact Sn GL th t hG h1 h2 h
 ·exact S0 GL th t hG h1 h2 h
theorem MS : ∀ (p c : Nat) (BA A6 A8 A9 BC BB : ByteArray) (thm : List ByteArray) (n : ByteArray) (t : Tm) (l : List Tm), (l.length < 1000) → Bl Tryz.prog 118 [.ptr p 0, .p (.str n), .agg ((Ba t).map .p), .p (.lst (BO l))] [.box p [.p (.str BA), .p (.str A6), .p (.str A8), .p (.str A9), .p (.str BC), .p (.str BB), .p (.lst (List.map CV thm)), .ptr c 0]] (DG (.agg ((Ba (Gj n t l)).map .p)) [.box p [.p (.str BA), .p (.str A6), .p (.str A8), .p (.str A9), .p (.str BC), .p (.str BB), .p (.lst (List.map CV thm)), .ptr c 0]]) := by
 intro p c BA A6 A8 A9 BC BB thm n t l h1
 refine A3 Tryz.func118 Ao XK (n := 20) Ao Ao ?_
 refine As ?_
 refine Aq ?_
 refine BH Ao Ao (Bb Ao) fun b6 => ?_
 refine BH Ao Ao (BG B0 Ao) fun b8 => ?_
 refine Au Ao ?_
 refine As ?_
 refine Aq ?_
 refine Ap Ao Ao (Ar Ao) ?_
 refine Ap Ao Ao (Bi Dh GQ Ao) ?_
 refine Ap Ao Ao (CE G8 GQ Ao Ao Ao Ao Ao) ?_
 refine Ap Ao Ao (Bi CN B0 Ao) ?_
 refine BH Ao Ao (BG B0 Ao) fun b9 => ?_
 refine Ap Ao Ao (Bc (i := 0) BI Ao Ao Ao Ao Ao Ao) ?_
 refine Au Ao ?_
 refine As ?_
 refine CJ (fun k => Nat.beq k 2) Dq ?_
 refine BK (j := 0) rfl rfl rfl (fun H i hi => Aw (i := i) BI rfl hi rfl) (by repeat' first | exact trivial | refine And.intro ?_ ?_ | ((refine Or.inr (And.intro ?_ ?_) <;> repeat (first | exact List.Mem.head _ | apply List.Mem.tail)); done) | exact Or.inl Ai) trivial ?_
 refine BK (j := 2) rfl rfl rfl (fun H i hi => Aw (i := i) BI rfl hi Af) (by repeat' first | exact trivial | refine And.intro ?_ ?_ | ((refine Or.inr (And.intro ?_ ?_) <;> repeat (first | exact List.Mem.head _ | apply List.Mem.tail)); done) | exact Or.inl Ai) trivial ?_
 refine VY [(3, .free (.p (.lst (BO l))))] rfl rfl (EB (rows := BO [t]) B4 B0 rfl rfl rfl rfl (Bv (B6 _)) (Cv _)) Ai fun b16 cp => ⟨(by repeat' first | exact trivial | refine And.intro ?_ ?_ | ((refine Or.inr (And.intro ?_ ?_) <;> repeat (first | exact List.Mem.head _ | apply List.Mem.tail)); done) | exact Or.inl Ai), trivial, ?_⟩
 refine Ay Ao Ao (fun _ => Ar Ao) (by repeat' first | exact trivial | rfl | refine And.intro ?_ ?_) ?_
 refine Cd rfl rfl (Eh (i := 0) (rows' := BO l) B4 B4 B0 rfl rfl rfl rfl rfl rfl (B6 _) AB (NJ [t] l)) (by repeat' first | exact trivial | refine And.intro ?_ ?_ | ((refine Or.inr (And.intro ?_ ?_) <;> repeat (first | exact List.Mem.head _ | apply List.Mem.tail)); done) | exact Or.inl Ai) (by repeat' first | exact trivial | rfl | refine And.intro ?_ ?_) ?_
 refine Ay Ao Ao (fun _ => C0 Ao Ao (Ke (.mk 3 0 n ([(Eg.mk 0 [])]) [] : Tm) ([t] ++ l) (by simp only [List.length_append, List.length_cons, List.length_nil, Dp]; omega)) (aw (Cc Ao) (aw (we Ao) (Ci)))) (by repeat' first | exact trivial | rfl | refine And.intro ?_ ?_) ?_
 refine Cd rfl rfl (A1 (i := 1) BI rfl rfl rfl Af AX (B3 _)) (by repeat' first | exact trivial | refine And.intro ?_ ?_ | ((refine Or.inr (And.intro ?_ ?_) <;> repeat (first | exact List.Mem.head _ | apply List.Mem.tail)); done) | exact Or.inl Ai) (by repeat' first | exact trivial | rfl | refine And.intro ?_ ?_) ?_
 refine CA Ao Ai ?_
 refine A5 ?_
 refine ⟨Ao, _, _, ⟨_, _, Ao, (Bg (i := 1) BI Ao Ao Af), Ao⟩, (Cf (is := [3]) Ao), ?_⟩
 all_goals exact ⟨rfl, rfl⟩
theorem IH : ∀ (p c : Nat) (BA A6 A8 A9 BC BB : ByteArray) (thm : List ByteArray), Bl Tryz.prog 119 [.ptr p 0] [.box p [.p (.str BA), .p (.str A6), .p (.str A8), .p (.str A9), .p (.str BC), .p (.str BB), .p (.lst (List.map CV thm)), .ptr c 0]] (DG (.agg ((Ba (DA (BF.mk BA A6 A8 A9 BC BB thm))).map .p)) [.box p [.p (.str BA), .p (.str A6), .p (.str A8), .p (.str A9), .p (.str BC), .p (.str BB), .p (.lst (List.map CV thm)), .ptr c 0]]) := by
 intro p c BA A6 A8 A9 BC BB thm
 refine A3 Tryz.func119 Ao YV (n := 9) Ao Ao ?_
 refine As ?_
 refine Aq ?_
 refine BH Ao Ao (BG B0 Ao) fun b2 => ?_
 refine Au Ao ?_
 refine As ?_
 refine Aq ?_
 refine Ap Ao Ao (Ar Ao) ?_
 refine Ap Ao Ao (BT Ao) ?_
 refine Ap Ao Ao (Av Gq Ao Ao) ?_
 refine Ap Ao Ao (Av Du Ao Ao) ?_
 refine Ap Ao Ao (Ax (i := 1) GO Ao Ao Ao) ?_
 refine Ap Ao Ao (C0 Ao Ao (Dz BA [] AI) (aw (we Ao) (aw (Cc Ao) (Ci)))) ?_
 refine Ap Ao Ao (A1 (i := 0) BI Ao Ao Ao Af AX (B3 _)) ?_
 refine Au Ao ?_
 refine A5 ?_
 refine ⟨Ao, _, _, ⟨_, _, Ao, (Bg (i := 0) BI Ao Ao Af), Ao⟩, (Cf (is := [1]) Ao), ?_⟩
 all_goals exact ⟨rfl, rfl⟩
theorem QX : ∀ (p c : Nat) (BA A6 A8 A9 BC BB : ByteArray) (thm : List ByteArray) (to : Tm), Bl Tryz.prog 128 [.ptr p 0, .agg ((Ba to).map .p)] [.box p [.p (.str BA), .p (.str A6), .p (.str A8), .p (.str A9), .p (.str BC), .p (.str BB), .p (.lst (List.map CV thm)), .ptr c 0]] (DG (.agg ((Ba (Dx (BF.mk BA A6 A8 A9 BC BB thm) to)).map .p)) [.box p [.p (.str BA), .p (.str A6), .p (.str A8), .p (.str A9), .p (.str BC), .p (.str BB), .p (.lst (List.map CV thm)), .ptr c 0]]) := by
 intro p c BA A6 A8 A9 BC BB thm to
 refine A3 Tryz.func128 Ao Xv (n := 10) Ao Ao ?_
 refine As ?_
 refine Aq ?_
 refine BH Ao Ao (Bb Ao) fun b3 => ?_
 refine BH Ao Ao (BG B0 Ao) fun b4 => ?_
 refine Au Ao ?_
 refine As ?_
 refine CJ (fun k => false) Dq ?_
 refine Ay Ao Ao (fun _ => Ar Ao) trivial ?_
 refine B1 [2] rfl rfl rfl (.inl ⟨rfl, rfl, rfl⟩) (IH p c BA A6 A8 A9 BC BB thm) ⟨_, _, rfl, rfl, rfl⟩ (Ce _) (aw (we rfl) (Ci)) (by repeat' first | exact trivial | refine And.intro ?_ ?_ | ((refine Or.inr (And.intro ?_ ?_) <;> repeat (first | exact List.Mem.head _ | apply List.Mem.tail)); done) | exact Or.inl Ai) trivial ?_
 refine BK (j := 1) rfl rfl rfl (fun H i hi => Aw (i := i) BI rfl hi Af) (by repeat' first | exact trivial | refine And.intro ?_ ?_ | ((refine Or.inr (And.intro ?_ ?_) <;> repeat (first | exact List.Mem.head _ | apply List.Mem.tail)); done) | exact Or.inl Ai) trivial ?_
 refine Ay Ao Ao (fun _ => BN (rows := BO [(DA (BF.mk BA A6 A8 A9 BC BB thm)), to]) B4 B0 Ao Ao Ao Ao (Bv (B6 _)) (Cv _)) trivial ?_
 refine Ay Ao Ao (fun _ => Bi CN B0 Ao) trivial ?_
 refine Cd rfl rfl (Bc (i := 0) BI rfl rfl rfl rfl rfl rfl) (by repeat' first | exact trivial | refine And.intro ?_ ?_ | ((refine Or.inr (And.intro ?_ ?_) <;> repeat (first | exact List.Mem.head _ | apply List.Mem.tail)); done) | exact Or.inl Ai) trivial ?_
 refine CA Ao Ai ?_
 refine B5 (Cw (i := 0) Ao) ?_
 refine A5 ?_
 refine ⟨Ao, _, _, ⟨_, _, Ao, (Bg (i := 0) BI Ao Ao Ao), Ao⟩, (Cf (is := [2]) Ao), ?_⟩
 all_goals exact ⟨rfl, rfl⟩
theorem D3 : ∀ (p c : Nat) (BA A6 A8 A9 BC BB : ByteArray) (thm : List ByteArray) (a b : Tm), Bl Tryz.prog 121 [.ptr p 0, .agg ((Ba a).map .p), .agg ((Ba b).map .p)] [.box p [.p (.str BA), .p (.str A6), .p (.str A8), .p (.str A9), .p (.str BC), .p (.str BB), .p (.lst (List.map CV thm)), .ptr c 0]] (DG (.agg ((Ba (CI (BF.mk BA A6 A8 A9 BC BB thm) a b)).map .p)) [.box p [.p (.str BA), .p (.str A6), .p (.str A8), .p (.str A9), .p (.str BC), .p (.str BB), .p (.lst (List.map CV thm)), .ptr c 0]]) := by
 intro p c BA A6 A8 A9 BC BB thm a b
 refine A3 Tryz.func121 Ao Wy (n := 16) Ao Ao ?_
 refine As ?_
 refine Aq ?_
 refine BH Ao Ao (Bb Ao) fun b4 => ?_
 refine BH Ao Ao (Bb Ao) fun b5 => ?_
 refine BH Ao Ao (BG B0 Ao) fun b6 => ?_
 refine Au Ao ?_
 refine As ?_
 refine CJ (fun k => false) Dq ?_
 refine Ay Ao Ao (fun _ => Ar Ao) trivial ?_
 refine Ay Ao Ao (fun _ => BT Ao) trivial ?_
 refine Ay Ao Ao (fun _ => Av Gq Ao Ao) trivial ?_
 refine Ay Ao Ao (fun _ => Av Du Ao Ao) trivial ?_
 refine BK (j := 3) rfl rfl rfl (fun H i hi => Ax (i := i) GO rfl hi rfl) (by repeat' first | exact trivial | refine And.intro ?_ ?_ | ((refine Or.inr (And.intro ?_ ?_) <;> repeat (first | exact List.Mem.head _ | apply List.Mem.tail)); done) | exact Or.inl Ai) trivial ?_
 refine BK (j := 2) rfl rfl rfl (fun H i hi => Aw (i := i) BI rfl hi Af) (by repeat' first | exact trivial | refine And.intro ?_ ?_ | ((refine Or.inr (And.intro ?_ ?_) <;> repeat (first | exact List.Mem.head _ | apply List.Mem.tail)); done) | exact Or.inl Ai) trivial ?_
 refine BK (j := 1) rfl rfl rfl (fun H i hi => Aw (i := i) BI rfl hi Af) (by repeat' first | exact trivial | refine And.intro ?_ ?_ | ((refine Or.inr (And.intro ?_ ?_) <;> repeat (first | exact List.Mem.head _ | apply List.Mem.tail)); done) | exact Or.inl Ai) trivial ?_
 refine Ay Ao Ao (fun _ => BN (rows := BO [a, b]) B4 B0 Ao Ao Ao Ao (Bv (B6 _)) (Cv _)) trivial ?_
 refine Ay Ao Ao (fun _ => Bf Ao Ao (Dz A6 [a, b] AI) Ao) trivial ?_
 refine Cd rfl rfl (A1 (i := 0) BI rfl rfl rfl Af AX (B3 _)) (by repeat' first | exact trivial | refine And.intro ?_ ?_ | ((refine Or.inr (And.intro ?_ ?_) <;> repeat (first | exact List.Mem.head _ | apply List.Mem.tail)); done) | exact Or.inl Ai) trivial ?_
 refine CA Ao Ai ?_
 refine A5 ?_
 refine ⟨Ao, _, _, ⟨_, _, Ao, (Bg (i := 0) BI Ao Ao Af), Ao⟩, (Cf (is := [3]) Ao), ?_⟩
 all_goals exact ⟨rfl, rfl⟩
theorem GW : ∀ (p c : Nat) (BA A6 A8 A9 BC BB : ByteArray) (thm : List ByteArray) (a : Tm), Bl Tryz.prog 130 [.ptr p 0, .agg ((Ba a).map .p)] [.box p [.p (.str BA), .p (.str A6), .p (.str A8), .p (.str A9), .p (.str BC), .p (.str BB), .p (.lst (List.map CV thm)), .ptr c 0]] (DG (.agg ((Ba (CX (BF.mk BA A6 A8 A9 BC BB thm) a)).map .p)) [.box p [.p (.str BA), .p (.str A6), .p (.str A8), .p (.str A9), .p (.str BC), .p (.str BB), .p (.lst (List.map CV thm)), .ptr c 0]]) := by
 intro p c BA A6 A8 A9 BC BB thm a
 refine A3 Tryz.func130 Ao Xy (n := 13) Ao Ao ?_
 refine As ?_
 refine Aq ?_
 refine BH Ao Ao (Bb Ao) fun b3 => ?_
 refine BH Ao Ao (BG B0 Ao) fun b4 => ?_
 refine Au Ao ?_
 refine As ?_
 refine CJ (fun k => false) Dq ?_
 refine Ay Ao Ao (fun _ => Ar Ao) trivial ?_
 refine Ay Ao Ao (fun _ => BT Ao) trivial ?_
 refine Ay Ao Ao (fun _ => Av Gq Ao Ao) trivial ?_
 refine Ay Ao Ao (fun _ => Av Du Ao Ao) trivial ?_
 refine BK (j := 2) rfl rfl rfl (fun H i hi => Ax (i := i) GO rfl hi rfl) (by repeat' first | exact trivial | refine And.intro ?_ ?_ | ((refine Or.inr (And.intro ?_ ?_) <;> repeat (first | exact List.Mem.head _ | apply List.Mem.tail)); done) | exact Or.inl Ai) trivial ?_
 refine BK (j := 1) rfl rfl rfl (fun H i hi => Aw (i := i) BI rfl hi Af) (by repeat' first | exact trivial | refine And.intro ?_ ?_ | ((refine Or.inr (And.intro ?_ ?_) <;> repeat (first | exact List.Mem.head _ | apply List.Mem.tail)); done) | exact Or.inl Ai) trivial ?_
 refine Ay Ao Ao (fun _ => BN (rows := BO [a]) B4 B0 Ao Ao Ao Ao (Bv (B6 _)) (Cv _)) trivial ?_
 refine Ay Ao Ao (fun _ => Bf Ao Ao (Dz A9 [a] AI) Ao) trivial ?_
 refine Cd rfl rfl (A1 (i := 0) BI rfl rfl rfl Af AX (B3 _)) (by repeat' first | exact trivial | refine And.intro ?_ ?_ | ((refine Or.inr (And.intro ?_ ?_) <;> repeat (first | exact List.Mem.head _ | apply List.Mem.tail)); done) | exact Or.inl Ai) trivial ?_
 refine CA Ao Ai ?_
 refine A5 ?_
 refine ⟨Ao, _, _, ⟨_, _, Ao, (Bg (i := 0) BI Ao Ao Af), Ao⟩, (Cf (is := [2]) Ao), ?_⟩
 all_goals exact ⟨rfl, rfl⟩
theorem _root_.Go.AW {α : Prop} (h : α := by first | rfl | simp [JO]) : α := h
theorem _root_.Go.Ae {α : Prop} (h : α := by simp [JO]) : α := h
theorem _root_.Go.AM {α : Prop} (h : α := by simp only [List.length_cons, List.length_nil]; omega) : α := h
theorem JL : ∀ (p c : Nat) (BA A6 A8 A9 BC BB : ByteArray) (thm : List ByteArray) (t : Tm), Bl Tryz.prog 90 [.ptr p 0, .agg ((Ba t).map .p)] [.box p [.p (.str BA), .p (.str A6), .p (.str A8), .p (.str A9), .p (.str BC), .p (.str BB), .p (.lst (List.map CV thm)), .ptr c 0]] (DG (.agg ((B2 (DJ (BF.mk BA A6 A8 A9 BC BB thm) t)).map .p)) [.box p [.p (.str BA), .p (.str A6), .p (.str A8), .p (.str A9), .p (.str BC), .p (.str BB), .p (.lst (List.map CV thm)), .ptr c 0]]) := by
 intro p c BA A6 A8 A9 BC BB thm t
 refine A3 Tryz.func90 Ao ZI (n := 14) Ao Ao ?_
 refine As ?_
 refine Aq ?_
 refine BH Ao Ao (Bb Ao) fun b3 => ?_
 refine BH Ao Ao (BG DW Ao) fun b4 => ?_
 refine Au Ao ?_
 refine As ?_
 refine CJ (fun k => false) Dq ?_
 refine BK (j := 1) rfl rfl rfl (fun H i hi => Aw (i := i) BI rfl hi Af) (by repeat' first | exact trivial | refine And.intro ?_ ?_ | ((refine Or.inr (And.intro ?_ ?_) <;> repeat (first | exact List.Mem.head _ | apply List.Mem.tail)); done) | exact Or.inl Ai) trivial ?_
 refine BK (j := 1) rfl rfl rfl (fun H i hi => Aw (i := i) BI rfl hi Af) (by repeat' first | exact trivial | refine And.intro ?_ ?_ | ((refine Or.inr (And.intro ?_ ?_) <;> repeat (first | exact List.Mem.head _ | apply List.Mem.tail)); done) | exact Or.inl Ai) trivial ?_
 refine Ay Ao Ao (fun _ => Ar Ao) trivial ?_
 refine Ay Ao Ao (fun _ => Ar Ao) trivial ?_
 refine B1 [2] rfl rfl rfl (.inl ⟨rfl, rfl, rfl⟩) (IH p c BA A6 A8 A9 BC BB thm) ⟨_, _, rfl, rfl, rfl⟩ (Ce _) (aw (we rfl) (Ci)) (by repeat' first | exact trivial | refine And.intro ?_ ?_ | ((refine Or.inr (And.intro ?_ ?_) <;> repeat (first | exact List.Mem.head _ | apply List.Mem.tail)); done) | exact Or.inl Ai) trivial ?_
 refine BK (j := 1) rfl rfl rfl (fun H i hi => Aw (i := i) BI rfl hi Af) (by repeat' first | exact trivial | refine And.intro ?_ ?_ | ((refine Or.inr (And.intro ?_ ?_) <;> repeat (first | exact List.Mem.head _ | apply List.Mem.tail)); done) | exact Or.inl Ai) trivial ?_
 refine Ay Ao Ao (fun _ => BN (rows := BO [t]) B4 B0 Ao Ao Ao Ao (Bv (B6 _)) (Cv _)) trivial ?_
 refine B1 [2] rfl rfl rfl (.inl ⟨rfl, rfl, rfl⟩) (MS p c BA A6 A8 A9 BC BB thm ⟨#[69, 113, 46, 114, 101, 102, 108]⟩ (DA (BF.mk BA A6 A8 A9 BC BB thm)) [t] AM) ⟨_, _, rfl, rfl, rfl⟩ (Ce _) (aw (we rfl) (aw (we rfl) (aw (we rfl) (aw (we rfl) (Ci))))) (by repeat' first | exact trivial | refine And.intro ?_ ?_ | ((refine Or.inr (And.intro ?_ ?_) <;> repeat (first | exact List.Mem.head _ | apply List.Mem.tail)); done) | exact Or.inl Ai) trivial ?_
 refine Ay Ao Ao (fun _ => Bi EM DW (bC (l := t) (r := t) (q := (Gj ⟨#[69, 113, 46, 114, 101, 102, 108]⟩ (DA (BF.mk BA A6 A8 A9 BC BB thm)) [t])) Ao Ao Ao Ao Ao)) trivial ?_
 refine Cd rfl rfl (A1 (i := 0) Cb rfl rfl rfl Ae AW (CR _)) (by repeat' first | exact trivial | refine And.intro ?_ ?_ | ((refine Or.inr (And.intro ?_ ?_) <;> repeat (first | exact List.Mem.head _ | apply List.Mem.tail)); done) | exact Or.inl Ai) trivial ?_
 refine CA Ao Ai ?_
 refine A5 ?_
 refine ⟨Ao, _, _, ⟨_, _, Ao, (Bg (i := 0) Cb Ao Ao Ae), Ao⟩, (Cf (is := [2]) Ao), ?_⟩
 all_goals exact ⟨rfl, rfl⟩
theorem Il : ∀ (p c : Nat) (BA A6 A8 A9 BC BB : ByteArray) (thm : List ByteArray) (n : Int) (l r : Tm) (s : List Tm), (0 ≤ n ∧ n.toNat < thm.length) → (s.length < 1000) → Bl Tryz.prog 120 [.ptr p 0, .p (I n), .agg ((Ba l).map .p), .agg ((Ba r).map .p), .p (.lst (BO s))] [.box p [.p (.str BA), .p (.str A6), .p (.str A8), .p (.str A9), .p (.str BC), .p (.str BB), .p (.lst (List.map CV thm)), .ptr c 0]] (DG (.agg ((B2 (EH (BF.mk BA A6 A8 A9 BC BB thm) n l r s)).map .p)) [.box p [.p (.str BA), .p (.str A6), .p (.str A8), .p (.str A9), .p (.str BC), .p (.str BB), .p (.lst (List.map CV thm)), .ptr c 0]]) := by
 intro p c BA A6 A8 A9 BC BB thm n l r s h1 h2
 refine A3 Tryz.func120 Ao YF (n := 24) Ao Ao ?_
 refine As ?_
 refine Aq ?_
 refine BH Ao Ao (Bb Ao) fun b7 => ?_
 refine BH Ao Ao (Bb Ao) fun b8 => ?_
 refine BH Ao Ao (BG DW Ao) fun b10 => ?_
 refine Au Ao ?_
 refine As ?_
 refine CJ (fun k => false) Dq ?_
 refine BK (j := 2) rfl rfl rfl (fun H i hi => Aw (i := i) BI rfl hi Af) (by repeat' first | exact trivial | refine And.intro ?_ ?_ | ((refine Or.inr (And.intro ?_ ?_) <;> repeat (first | exact List.Mem.head _ | apply List.Mem.tail)); done) | exact Or.inl Ai) trivial ?_
 refine BK (j := 1) rfl rfl rfl (fun H i hi => Aw (i := i) BI rfl hi Af) (by repeat' first | exact trivial | refine And.intro ?_ ?_ | ((refine Or.inr (And.intro ?_ ?_) <;> repeat (first | exact List.Mem.head _ | apply List.Mem.tail)); done) | exact Or.inl Ai) trivial ?_
 refine Ay Ao Ao (fun _ => Ar Ao) trivial ?_
 refine Ay Ao Ao (fun _ => BT Ao) trivial ?_
 refine Ay Ao Ao (fun _ => Av Gq Ao Ao) trivial ?_
 refine Ay Ao Ao (fun _ => Av Du Ao Ao) trivial ?_
 refine BK (j := 3) rfl rfl rfl (fun H i hi => Ax (i := i) Sa rfl hi rfl) (by repeat' first | exact trivial | refine And.intro ?_ ?_ | ((refine Or.inr (And.intro ?_ ?_) <;> repeat (first | exact List.Mem.head _ | apply List.Mem.tail)); done) | exact Or.inl Ai) trivial ?_
 refine Ay Ao Ao (fun _ => Ar Ao) trivial ?_
 obtain ⟨x, hx⟩ := BM (l := thm) (i := (n : Int).toNat) Am
 refine Ay Ao Ao (fun _ => BJ Jg Ao Ao Am (Mr hx) (Ao)) trivial ?_
 refine Ay Ao Ao (fun _ => CG GO Ao) trivial ?_
 refine Ay Ao Ao (fun _ => Ar Ao) trivial ?_
 refine Ay Ao Ao (fun _ => Bf Ao Ao (Dz x s Ab) Ao) trivial ?_
 refine Ay Ao Ao (fun _ => Bi EM DW (X2 (l := l) (r := r) (q := (BP x s)) Ao Ao Ao Ao Ao)) trivial ?_
 refine Cd rfl rfl (A1 (i := 0) Cb rfl rfl rfl Ae AW (CR _)) (by repeat' first | exact trivial | refine And.intro ?_ ?_ | ((refine Or.inr (And.intro ?_ ?_) <;> repeat (first | exact List.Mem.head _ | apply List.Mem.tail)); done) | exact Or.inl Ai) trivial ?_
 refine CA Ao Ai ?_
 refine A5 ?_
 refine ⟨Ao, _, _, ⟨_, _, Ao, (Bg (i := 0) Cb Ao Ao Ae), Ao⟩, (Cf (is := [3]) Ao), ?_⟩
 all_goals exact ⟨by show (.agg ((B2 (Fa.mk l r (BP x s) false)).map .p) : AV) = _; simp only [EH]; rw [Cm hx], rfl⟩
theorem Qx : ∀ (p c : Nat) (BA A6 A8 A9 BC BB : ByteArray) (thm : List ByteArray) (e : Fa), Bl Tryz.prog 82 [.ptr p 0, .agg ((B2 e).map .p)] [.box p [.p (.str BA), .p (.str A6), .p (.str A8), .p (.str A9), .p (.str BC), .p (.str BB), .p (.lst (List.map CV thm)), .ptr c 0]] (DG (.agg ((B2 (Fe (BF.mk BA A6 A8 A9 BC BB thm) e)).map .p)) [.box p [.p (.str BA), .p (.str A6), .p (.str A8), .p (.str A9), .p (.str BC), .p (.str BB), .p (.lst (List.map CV thm)), .ptr c 0]]) := by
 intro p c BA A6 A8 A9 BC BB thm e
 refine A3 Tryz.func82 Ao Z1 (n := 24) Ao Ao ?_
 refine As ?_
 refine Aq ?_
 refine BH Ao Ao (Bb Ao) fun b3 => ?_
 refine BH Ao Ao (BG DW Ao) fun b4 => ?_
 refine Au Ao ?_
 refine As ?_
 refine As ?_
 refine Aq ?_
 refine Ap Ao Ao (Av EM Ao Ao) ?_
 refine Ap Ao Ao (Ax (i := 1) Uf Ao Ao (J8 _)) ?_
 refine Au Ao ?_
 refine A4 Ao (fun c1 => ?_) (fun c1 => ?_)
 ·(try simp only [sd, se] at c1)
  refine As ?_
  refine Aq ?_
  refine Ap Ao Ao (Aw (i := 1) Cb Ao Ao Ae) ?_
  refine Ap Ao Ao (A1 (i := 0) Cb Ao Ao Ao Ae AW (CR _)) ?_
  refine Au Ao ?_
  refine A5 ?_
  refine ⟨Ao, _, _, ⟨_, _, Ao, (Bg (i := 0) Cb Ao Ao Ae), Ao⟩, (Cf (is := [2]) Ao), ?_⟩
  rw [Fe, if_pos c1]
  all_goals exact ⟨rfl, rfl⟩
 ·(try simp only [sd, se] at c1)
  refine BD ?_
  refine As ?_
  refine CJ (fun k => false) Dq ?_
  refine Ay Ao Ao (fun _ => Av EM Ao Ao) trivial ?_
  refine BK (j := 1) rfl rfl rfl (fun H i hi => Bp (i := i) BI rfl hi (EY _) (congrArg AV.agg (eq_right _))) (by repeat' first | exact trivial | refine And.intro ?_ ?_ | ((refine Or.inr (And.intro ?_ ?_) <;> repeat (first | exact List.Mem.head _ | apply List.Mem.tail)); done) | exact Or.inl Ai) trivial ?_
  refine Ay Ao Ao (fun _ => Av EM Ao Ao) trivial ?_
  refine BK (j := 1) rfl rfl rfl (fun H i hi => Bp (i := i) BI rfl hi (Es _) (congrArg AV.agg (eq_left _))) (by repeat' first | exact trivial | refine And.intro ?_ ?_ | ((refine Or.inr (And.intro ?_ ?_) <;> repeat (first | exact List.Mem.head _ | apply List.Mem.tail)); done) | exact Or.inl Ai) trivial ?_
  refine Ay Ao Ao (fun _ => Ar Ao) trivial ?_
  refine Ay Ao Ao (fun _ => Ar Ao) trivial ?_
  refine B1 [2] rfl rfl rfl (.inl ⟨rfl, rfl, rfl⟩) (IH p c BA A6 A8 A9 BC BB thm) ⟨_, _, rfl, rfl, rfl⟩ (Ce _) (aw (we rfl) (Ci)) (by repeat' first | exact trivial | refine And.intro ?_ ?_ | ((refine Or.inr (And.intro ?_ ?_) <;> repeat (first | exact List.Mem.head _ | apply List.Mem.tail)); done) | exact Or.inl Ai) trivial ?_
  refine Ay Ao Ao (fun _ => Av EM Ao Ao) trivial ?_
  refine BK (j := 1) rfl rfl rfl (fun H i hi => Bp (i := i) BI rfl hi (Es _) (congrArg AV.agg (eq_left _))) (by repeat' first | exact trivial | refine And.intro ?_ ?_ | ((refine Or.inr (And.intro ?_ ?_) <;> repeat (first | exact List.Mem.head _ | apply List.Mem.tail)); done) | exact Or.inl Ai) trivial ?_
  refine Ay Ao Ao (fun _ => Av EM Ao Ao) trivial ?_
  refine BK (j := 1) rfl rfl rfl (fun H i hi => Bp (i := i) BI rfl hi (EY _) (congrArg AV.agg (eq_right _))) (by repeat' first | exact trivial | refine And.intro ?_ ?_ | ((refine Or.inr (And.intro ?_ ?_) <;> repeat (first | exact List.Mem.head _ | apply List.Mem.tail)); done) | exact Or.inl Ai) trivial ?_
  refine Ay Ao Ao (fun _ => Av EM Ao Ao) trivial ?_
  refine BK (j := 1) rfl rfl rfl (fun H i hi => Bp (i := i) BI rfl hi (I8 _) (congrArg AV.agg (IV _))) (by repeat' first | exact trivial | refine And.intro ?_ ?_ | ((refine Or.inr (And.intro ?_ ?_) <;> repeat (first | exact List.Mem.head _ | apply List.Mem.tail)); done) | exact Or.inl Ai) trivial ?_
  refine Ay Ao Ao (fun _ => BN (rows := BO [e.left, e.right, e.proof]) B4 B0 Ao Ao Ao Ao (Bv (B6 _)) (Cv _)) trivial ?_
  refine B1 [2] rfl rfl rfl (.inl ⟨rfl, rfl, rfl⟩) (MS p c BA A6 A8 A9 BC BB thm ⟨#[69, 113, 46, 115, 121, 109, 109]⟩ (DA (BF.mk BA A6 A8 A9 BC BB thm)) [e.left, e.right, e.proof] AM) ⟨_, _, rfl, rfl, rfl⟩ (Ce _) (aw (we rfl) (aw (we rfl) (aw (we rfl) (aw (we rfl) (Ci))))) (by repeat' first | exact trivial | refine And.intro ?_ ?_ | ((refine Or.inr (And.intro ?_ ?_) <;> repeat (first | exact List.Mem.head _ | apply List.Mem.tail)); done) | exact Or.inl Ai) trivial ?_
  refine Ay Ao Ao (fun _ => Bi EM DW (X2 (l := e.right) (r := e.left) (q := (Gj ⟨#[69, 113, 46, 115, 121, 109, 109]⟩ (DA (BF.mk BA A6 A8 A9 BC BB thm)) [e.left, e.right, e.proof])) Ao Ao Ao Ao Ao)) trivial ?_
  refine Cd rfl rfl (A1 (i := 0) Cb rfl rfl rfl Ae AW (CR _)) (by repeat' first | exact trivial | refine And.intro ?_ ?_ | ((refine Or.inr (And.intro ?_ ?_) <;> repeat (first | exact List.Mem.head _ | apply List.Mem.tail)); done) | exact Or.inl Ai) trivial ?_
  refine CA Ao Ai ?_
  refine A5 ?_
  refine ⟨Ao, _, _, ⟨_, _, Ao, (Bg (i := 0) Cb Ao Ao Ae), Ao⟩, (Cf (is := [2]) Ao), ?_⟩
  rw [Fe, if_neg (by rw [c1]; decide)]
  all_goals exact ⟨rfl, rfl⟩
theorem Mg : ∀ (p c : Nat) (BA A6 A8 A9 BC BB : ByteArray) (thm : List ByteArray) (to f g : Tm) (e : Fa) (fs : Tm), Bl Tryz.prog 129 [.ptr p 0, .agg ((Ba to).map .p), .agg ((Ba f).map .p), .agg ((Ba g).map .p), .agg ((B2 e).map .p), .agg ((Ba fs).map .p)] [.box p [.p (.str BA), .p (.str A6), .p (.str A8), .p (.str A9), .p (.str BC), .p (.str BB), .p (.lst (List.map CV thm)), .ptr c 0]] (DG (.agg ((Ba (Ff (BF.mk BA A6 A8 A9 BC BB thm) to f g e fs)).map .p)) [.box p [.p (.str BA), .p (.str A6), .p (.str A8), .p (.str A9), .p (.str BC), .p (.str BB), .p (.lst (List.map CV thm)), .ptr c 0]]) := by
 intro p c BA A6 A8 A9 BC BB thm to f g e fs
 refine A3 Tryz.func129 Ao XZ (n := 33) Ao Ao ?_
 refine As ?_
 refine Aq ?_
 refine BH Ao Ao (Bb Ao) fun b7 => ?_
 refine BH Ao Ao (Bb Ao) fun b8 => ?_
 refine BH Ao Ao (Bb Ao) fun b9 => ?_
 refine BH Ao Ao (Bb Ao) fun b10 => ?_
 refine BH Ao Ao (Bb Ao) fun b11 => ?_
 refine BH Ao Ao (BG B0 Ao) fun b12 => ?_
 refine Au Ao ?_
 refine As ?_
 refine Aq ?_
 refine Ap Ao Ao (Bi Dh GQ Ao) ?_
 refine Ap Ao Ao (Bi Dh GQ Ao) ?_
 refine Ap Ao Ao (CE G8 GQ Ao Ao Ao Ao Ao) ?_
 refine Ap Ao Ao (Bi CN B0 Ao) ?_
 refine BH Ao Ao (BG B0 Ao) fun b13 => ?_
 refine Ap Ao Ao (Bc (i := 0) BI Ao Ao Ao Ao Ao Ao) ?_
 refine Au Ao ?_
 refine As ?_
 refine CJ (fun k => false) Dq ?_
 refine BK (j := 0) rfl rfl rfl (fun H i hi => Aw (i := i) BI rfl hi rfl) (by repeat' first | exact trivial | refine And.intro ?_ ?_ | ((refine Or.inr (And.intro ?_ ?_) <;> repeat (first | exact List.Mem.head _ | apply List.Mem.tail)); done) | exact Or.inl Ai) trivial ?_
 refine Ay Ao Ao (fun _ => Ar Ao) trivial ?_
 refine B1 [7] rfl rfl rfl (.inl ⟨rfl, rfl, rfl⟩) (IH p c BA A6 A8 A9 BC BB thm) ⟨_, _, rfl, rfl, rfl⟩ (Ce _) (aw (we rfl) (Ci)) (by repeat' first | exact trivial | refine And.intro ?_ ?_ | ((refine Or.inr (And.intro ?_ ?_) <;> repeat (first | exact List.Mem.head _ | apply List.Mem.tail)); done) | exact Or.inl Ai) trivial ?_
 refine BK (j := 6) rfl rfl rfl (fun H i hi => Aw (i := i) BI rfl hi Af) (by repeat' first | exact trivial | refine And.intro ?_ ?_ | ((refine Or.inr (And.intro ?_ ?_) <;> repeat (first | exact List.Mem.head _ | apply List.Mem.tail)); done) | exact Or.inl Ai) trivial ?_
 refine BK (j := 5) rfl rfl rfl (fun H i hi => Aw (i := i) BI rfl hi Af) (by repeat' first | exact trivial | refine And.intro ?_ ?_ | ((refine Or.inr (And.intro ?_ ?_) <;> repeat (first | exact List.Mem.head _ | apply List.Mem.tail)); done) | exact Or.inl Ai) trivial ?_
 refine BK (j := 4) rfl rfl rfl (fun H i hi => Aw (i := i) BI rfl hi Af) (by repeat' first | exact trivial | refine And.intro ?_ ?_ | ((refine Or.inr (And.intro ?_ ?_) <;> repeat (first | exact List.Mem.head _ | apply List.Mem.tail)); done) | exact Or.inl Ai) trivial ?_
 refine Ay Ao Ao (fun _ => Av EM Ao Ao) trivial ?_
 refine BK (j := 3) rfl rfl rfl (fun H i hi => Bp (i := i) BI rfl hi (Es _) (congrArg AV.agg (eq_left _))) (by repeat' first | exact trivial | refine And.intro ?_ ?_ | ((refine Or.inr (And.intro ?_ ?_) <;> repeat (first | exact List.Mem.head _ | apply List.Mem.tail)); done) | exact Or.inl Ai) trivial ?_
 refine Ay Ao Ao (fun _ => Av EM Ao Ao) trivial ?_
 refine BK (j := 3) rfl rfl rfl (fun H i hi => Bp (i := i) BI rfl hi (EY _) (congrArg AV.agg (eq_right _))) (by repeat' first | exact trivial | refine And.intro ?_ ?_ | ((refine Or.inr (And.intro ?_ ?_) <;> repeat (first | exact List.Mem.head _ | apply List.Mem.tail)); done) | exact Or.inl Ai) trivial ?_
 refine BK (j := 2) rfl rfl rfl (fun H i hi => Aw (i := i) BI rfl hi Af) (by repeat' first | exact trivial | refine And.intro ?_ ?_ | ((refine Or.inr (And.intro ?_ ?_) <;> repeat (first | exact List.Mem.head _ | apply List.Mem.tail)); done) | exact Or.inl Ai) trivial ?_
 refine Ay Ao Ao (fun _ => Av EM Ao Ao) trivial ?_
 refine BK (j := 3) rfl rfl rfl (fun H i hi => Bp (i := i) BI rfl hi (I8 _) (congrArg AV.agg (IV _))) (by repeat' first | exact trivial | refine And.intro ?_ ?_ | ((refine Or.inr (And.intro ?_ ?_) <;> repeat (first | exact List.Mem.head _ | apply List.Mem.tail)); done) | exact Or.inl Ai) trivial ?_
 refine Ay Ao Ao (fun _ => BN (rows := BO [(DA (BF.mk BA A6 A8 A9 BC BB thm)), to, f, g, e.left, e.right, fs, e.proof]) B4 B0 Ao Ao Ao Ao (Bv (B6 _)) (Cv _)) trivial ?_
 refine Ay Ao Ao (fun _ => C0 Ao Ao (Ke (.mk 3 0 ⟨#[69, 113, 46, 99, 111, 110, 103, 114]⟩ ([(Eg.mk 0 []), (Eg.mk 0 [])]) [] : Tm) [(DA (BF.mk BA A6 A8 A9 BC BB thm)), to, f, g, e.left, e.right, fs, e.proof] AI) (aw (Cc Ao) (aw (we Ao) (Ci)))) trivial ?_
 refine Cd rfl rfl (A1 (i := 1) BI rfl rfl rfl Af AX (B3 _)) (by repeat' first | exact trivial | refine And.intro ?_ ?_ | ((refine Or.inr (And.intro ?_ ?_) <;> repeat (first | exact List.Mem.head _ | apply List.Mem.tail)); done) | exact Or.inl Ai) trivial ?_
 refine CA Ao Ai ?_
 refine A5 ?_
 refine ⟨Ao, _, _, ⟨_, _, Ao, (Bg (i := 1) BI Ao Ao Af), Ao⟩, (Cf (is := [7]) Ao), ?_⟩
 all_goals exact ⟨rfl, rfl⟩
theorem Ml : ∀ (b : Nat) (f t : Tm), Bl Tryz.prog 131 [.agg ((Ba t).map .p), .ptr b 0] [.box b ((Ba f).map .p)] (DG (.agg ((Ba (apply f [t])).map .p)) [.box b ((Ba f).map .p)]) := by
 intro b f t
 refine A3 Tryz.func131 Ao YY (n := 8) Ao Ao ?_
 refine As ?_
 refine Aq ?_
 refine BH Ao Ao (Bb Ao) fun b2 => ?_
 refine BH Ao Ao (BG B0 Ao) fun b3 => ?_
 refine Au Ao ?_
 refine As ?_
 refine Aq ?_
 refine Ap Ao Ao (Aw (i := 2) BI Ao Ao Af) ?_
 refine Ap Ao Ao (Aw (i := 1) BI Ao Ao Af) ?_
 refine Ap Ao Ao (BN (rows := BO [t]) B4 B0 Ao Ao Ao Ao (Bv (B6 _)) (Cv _)) ?_
 refine Ap Ao Ao (Bf Ao Ao (Ke f [t] AI) Ao) ?_
 refine Ap Ao Ao (A1 (i := 0) BI Ao Ao Ao Af AX (B3 _)) ?_
 refine Au Ao ?_
 refine A5 ?_
 refine ⟨Ao, _, _, ⟨_, _, Ao, (Bg (i := 0) BI Ao Ao Af), Ao⟩, (Cf (is := [2]) Ao), ?_⟩
 all_goals exact ⟨rfl, rfl⟩
theorem J5 : ∀ (p c : Nat) (BA A6 A8 A9 BC BB : ByteArray) (thm : List ByteArray) (f : Tm) (e : Fa), Bl Tryz.prog 93 [.ptr p 0, .agg ((Ba f).map .p), .agg ((B2 e).map .p)] [.box p [.p (.str BA), .p (.str A6), .p (.str A8), .p (.str A9), .p (.str BC), .p (.str BB), .p (.lst (List.map CV thm)), .ptr c 0]] (DG (.agg ((B2 (DE (BF.mk BA A6 A8 A9 BC BB thm) f e)).map .p)) [.box p [.p (.str BA), .p (.str A6), .p (.str A8), .p (.str A9), .p (.str BC), .p (.str BB), .p (.lst (List.map CV thm)), .ptr c 0]]) := by
 intro p c BA A6 A8 A9 BC BB thm f e
 refine A3 Tryz.func93 Ao Y1 (n := 43) Ao Ao ?_
 refine As ?_
 refine Aq ?_
 refine BH Ao Ao (Bb Ao) fun b4 => ?_
 refine BH Ao Ao (Bb Ao) fun b5 => ?_
 refine BH Ao Ao (BG DW Ao) fun b6 => ?_
 refine Au Ao ?_
 refine As ?_
 refine Aq ?_
 refine Ap Ao Ao (Cy Ao Ao) ?_
 refine Ap Ao Ao (At Ao) ?_
 refine Au Ao ?_
 refine As ?_
 refine As ?_
 refine Aq ?_
 refine Ap Ao Ao (Av EM Ao Ao) ?_
 refine Ap Ao Ao (Ax (i := 1) Uf Ao Ao (J8 _)) ?_
 refine Au Ao ?_
 refine A4 Ao (fun c1 => ?_) (fun c1 => ?_)
 ·(try simp only [sd, se] at c1)
  refine As ?_
  refine Aq ?_
  refine Ap Ao Ao (Ar Ao) ?_
  refine Ap Ao Ao (Ar Ao) ?_
  refine Ap Ao Ao (Av EM Ao Ao) ?_
  refine Ap Ao Ao (Bp (i := 1) BI Ao Ao (Es _) (congrArg AV.agg (eq_left _))) ?_
  refine Ap Ao Ao (CH [2] Ao (.inr Ao) (Ml b4 f e.left) ⟨_, _, Ao, Ao, Ao⟩ Al Ao (.inl Ao)) ?_
  refine Ap Ao Ao (CH [3] Ao (.inl ⟨Ao, Ao, Ao⟩) (JL p c BA A6 A8 A9 BC BB thm (apply f [e.left])) ⟨_, _, Ao, Ao, Ao⟩ Al Ao (.inl Ao)) ?_
  refine Ap Ao Ao (A1 (i := 0) Cb Ao Ao Ao Ae AW (CR _)) ?_
  refine Au Ao ?_
  refine A5 ?_
  refine ⟨Ao, _, _, ⟨_, _, Ao, (Bg (i := 0) Cb Ao Ao Ae), Ao⟩, (Cf (is := [3]) Ao), ?_⟩
  rw [DE, if_pos c1]
  all_goals exact ⟨rfl, rfl⟩
 ·(try simp only [sd, se] at c1)
  refine BD ?_
  refine As ?_
  refine DU [.val (.ptr p 0), .val (.ptr p 0), .val (.ptr p 0), .val (.agg ((Ba (DA (BF.mk BA A6 A8 A9 BC BB thm))).map .p)), .val (.agg ((Ba (Dx (BF.mk BA A6 A8 A9 BC BB thm) (DA (BF.mk BA A6 A8 A9 BC BB thm)))).map .p)), .val (.agg ((Ba f).map .p)), .val (.p (.lst (BO [f]))), .val (.agg ((Ba (Gj ⟨#[69, 113, 46, 114, 101, 102, 108]⟩ (Dx (BF.mk BA A6 A8 A9 BC BB thm) (DA (BF.mk BA A6 A8 A9 BC BB thm))) [f])).map .p)), .new [.p (I 0), .p (I 0), .p (.str ⟨#[]⟩), .p (.nils), .p (.nils)]] Dq Ao Ai Ai ?_
  refine BE Ao (fun Bs => Ar Ao) ?_
  refine BE Ao (fun Bs => Ar Ao) ?_
  refine BE Ao (fun Bs => Ar Ao) ?_
  refine BE Ao (fun Bs => CC [3] Ao (.inl ⟨Ao, Ao, Ao⟩) (IH p c BA A6 A8 A9 BC BB thm) ⟨_, _, Ao, Ao, Ao⟩ Al (aw (we Ao) (Ci))) ?_
  refine BE Ao (fun Bs => CC [3] Ao (.inl ⟨Ao, Ao, Ao⟩) (QX p c BA A6 A8 A9 BC BB thm (DA (BF.mk BA A6 A8 A9 BC BB thm))) ⟨_, _, Ao, Ao, Ao⟩ Al (aw (we Ao) (aw (we Ao) (Ci)))) ?_
  refine BE Ao (fun Bs => Aw (i := Bs.length + 2) BI Ao (Bn Ao) Af) ?_
  refine BE Ao (fun Bs => BN (rows := BO [f]) B4 B0 Ao Ao Ao Ao (Bv (B6 _)) (Cv _)) ?_
  refine BE Ao (fun Bs => CC [3] Ao (.inl ⟨Ao, Ao, Ao⟩) (MS p c BA A6 A8 A9 BC BB thm ⟨#[69, 113, 46, 114, 101, 102, 108]⟩ (Dx (BF.mk BA A6 A8 A9 BC BB thm) (DA (BF.mk BA A6 A8 A9 BC BB thm))) [f] AM) ⟨_, _, Ao, Ao, Ao⟩ Al (aw (we Ao) (aw (we Ao) (aw (we Ao) (aw (we Ao) (Ci)))))) ?_
  refine Ea Ao (fun Bs => BG B0 Ao) fun b8 => ?_
  refine D6 ?_
  change AL _ _ _ 9 ⟨43, _, [.box b8 [.p (I 0), .p (I 0), .p (.str ⟨#[]⟩), .p (.nils), .p (.nils)], .box b6 [.p (I 0), .p (I 0), .p (.str ⟨#[]⟩), .p (.nils), .p (.nils), .p (I 0), .p (I 0), .p (.str ⟨#[]⟩), .p (.nils), .p (.nils), .p (I 0), .p (I 0), .p (.str ⟨#[]⟩), .p (.nils), .p (.nils), .p (.bool false)], .box b5 ((B2 e).map .p), .box b4 ((Ba f).map .p), .box p [.p (.str BA), .p (.str A6), .p (.str A8), .p (.str A9), .p (.str BC), .p (.str BB), .p (.lst (List.map CV thm)), .ptr c 0]], []⟩ _
  refine Ap Ao Ao (A1 (i := 0) BI Ao Ao Ao Af AX (B3 _)) ?_
  refine Au Ao ?_
  refine As ?_
  refine CJ (fun k => false) Dq ?_
  refine Ay Ao Ao (fun _ => Ar Ao) trivial ?_
  refine Ay Ao Ao (fun _ => Av EM Ao Ao) trivial ?_
  refine BK (j := 2) rfl rfl rfl (fun H i hi => Bp (i := i) BI rfl hi (Es _) (congrArg AV.agg (eq_left _))) (by repeat' first | exact trivial | refine And.intro ?_ ?_ | ((refine Or.inr (And.intro ?_ ?_) <;> repeat (first | exact List.Mem.head _ | apply List.Mem.tail)); done) | exact Or.inl Ai) trivial ?_
  refine B1 [3] rfl rfl rfl (.inr rfl) (Ml b4 f e.left) ⟨_, _, rfl, rfl, rfl⟩ (Ce _) (aw (we rfl) (aw (we rfl) (Ci))) (by repeat' first | exact trivial | refine And.intro ?_ ?_ | ((refine Or.inr (And.intro ?_ ?_) <;> repeat (first | exact List.Mem.head _ | apply List.Mem.tail)); done) | exact Or.inl Ai) trivial ?_
  refine Ay Ao Ao (fun _ => Ar Ao) trivial ?_
  refine Ay Ao Ao (fun _ => Av EM Ao Ao) trivial ?_
  refine BK (j := 2) rfl rfl rfl (fun H i hi => Bp (i := i) BI rfl hi (EY _) (congrArg AV.agg (eq_right _))) (by repeat' first | exact trivial | refine And.intro ?_ ?_ | ((refine Or.inr (And.intro ?_ ?_) <;> repeat (first | exact List.Mem.head _ | apply List.Mem.tail)); done) | exact Or.inl Ai) trivial ?_
  refine B1 [3] rfl rfl rfl (.inr rfl) (Ml b4 f e.right) ⟨_, _, rfl, rfl, rfl⟩ (Ce _) (aw (we rfl) (aw (we rfl) (Ci))) (by repeat' first | exact trivial | refine And.intro ?_ ?_ | ((refine Or.inr (And.intro ?_ ?_) <;> repeat (first | exact List.Mem.head _ | apply List.Mem.tail)); done) | exact Or.inl Ai) trivial ?_
  refine Ay Ao Ao (fun _ => Ar Ao) trivial ?_
  refine Ay Ao Ao (fun _ => Ar Ao) trivial ?_
  refine B1 [4] rfl rfl rfl (.inl ⟨rfl, rfl, rfl⟩) (IH p c BA A6 A8 A9 BC BB thm) ⟨_, _, rfl, rfl, rfl⟩ (Ce _) (aw (we rfl) (Ci)) (by repeat' first | exact trivial | refine And.intro ?_ ?_ | ((refine Or.inr (And.intro ?_ ?_) <;> repeat (first | exact List.Mem.head _ | apply List.Mem.tail)); done) | exact Or.inl Ai) trivial ?_
  refine BK (j := 3) rfl rfl rfl (fun H i hi => Aw (i := i) BI rfl hi Af) (by repeat' first | exact trivial | refine And.intro ?_ ?_ | ((refine Or.inr (And.intro ?_ ?_) <;> repeat (first | exact List.Mem.head _ | apply List.Mem.tail)); done) | exact Or.inl Ai) trivial ?_
  refine BK (j := 3) rfl rfl rfl (fun H i hi => Aw (i := i) BI rfl hi Af) (by repeat' first | exact trivial | refine And.intro ?_ ?_ | ((refine Or.inr (And.intro ?_ ?_) <;> repeat (first | exact List.Mem.head _ | apply List.Mem.tail)); done) | exact Or.inl Ai) trivial ?_
  refine BK (j := 2) rfl rfl rfl (fun H i hi => Aw (i := i) Cb rfl hi Ae) (by repeat' first | exact trivial | refine And.intro ?_ ?_ | ((refine Or.inr (And.intro ?_ ?_) <;> repeat (first | exact List.Mem.head _ | apply List.Mem.tail)); done) | exact Or.inl Ai) trivial ?_
  refine BK (j := 0) rfl rfl rfl (fun H i hi => Aw (i := i) BI rfl hi Af) (by repeat' first | exact trivial | refine And.intro ?_ ?_ | ((refine Or.inr (And.intro ?_ ?_) <;> repeat (first | exact List.Mem.head _ | apply List.Mem.tail)); done) | exact Or.inl Ai) trivial ?_
  refine B1 [4] rfl rfl rfl (.inl ⟨rfl, rfl, rfl⟩) (Mg p c BA A6 A8 A9 BC BB thm (DA (BF.mk BA A6 A8 A9 BC BB thm)) f f e (Gj ⟨#[69, 113, 46, 114, 101, 102, 108]⟩ (Dx (BF.mk BA A6 A8 A9 BC BB thm) (DA (BF.mk BA A6 A8 A9 BC BB thm))) [f])) ⟨_, _, rfl, rfl, rfl⟩ (Ce _) (aw (we rfl) (aw (we rfl) (aw (we rfl) (aw (we rfl) (aw (we rfl) (aw (we rfl) (Ci))))))) (by repeat' first | exact trivial | refine And.intro ?_ ?_ | ((refine Or.inr (And.intro ?_ ?_) <;> repeat (first | exact List.Mem.head _ | apply List.Mem.tail)); done) | exact Or.inl Ai) trivial ?_
  refine Ay Ao Ao (fun _ => Bi EM DW (X2 (l := (apply f [e.left])) (r := (apply f [e.right])) (q := (Ff (BF.mk BA A6 A8 A9 BC BB thm) (DA (BF.mk BA A6 A8 A9 BC BB thm)) f f e (Gj ⟨#[69, 113, 46, 114, 101, 102, 108]⟩ (Dx (BF.mk BA A6 A8 A9 BC BB thm) (DA (BF.mk BA A6 A8 A9 BC BB thm))) [f]))) Ao Ao Ao Ao Ao)) trivial ?_
  refine Cd rfl rfl (A1 (i := 1) Cb rfl rfl rfl Ae AW (CR _)) (by repeat' first | exact trivial | refine And.intro ?_ ?_ | ((refine Or.inr (And.intro ?_ ?_) <;> repeat (first | exact List.Mem.head _ | apply List.Mem.tail)); done) | exact Or.inl Ai) trivial ?_
  refine CA Ao Ai ?_
  refine A5 ?_
  refine ⟨Ao, _, _, ⟨_, _, Ao, (Bg (i := 1) Cb Ao Ao Ae), Ao⟩, (Cf (is := [4]) Ao), ?_⟩
  rw [DE, if_neg (by rw [c1]; decide)]
  all_goals exact ⟨rfl, rfl⟩
theorem Od : ∀ (p c : Nat) (BA A6 A8 A9 BC BB : ByteArray) (thm : List ByteArray) (a b : Tm), (thm.length = 14) → Bl Tryz.prog 84 [.ptr p 0, .agg ((Ba a).map .p), .agg ((Ba b).map .p)] [.box p [.p (.str BA), .p (.str A6), .p (.str A8), .p (.str A9), .p (.str BC), .p (.str BB), .p (.lst (List.map CV thm)), .ptr c 0]] (DG (.agg ((B2 (GD (BF.mk BA A6 A8 A9 BC BB thm) a b)).map .p)) [.box p [.p (.str BA), .p (.str A6), .p (.str A8), .p (.str A9), .p (.str BC), .p (.str BB), .p (.lst (List.map CV thm)), .ptr c 0]]) := by
 intro p c BA A6 A8 A9 BC BB thm a b h1
 refine A3 Tryz.func84 Ao Zj (n := 20) Ao Ao ?_
 refine As ?_
 refine Aq ?_
 refine BH Ao Ao (Bb Ao) fun b4 => ?_
 refine BH Ao Ao (Bb Ao) fun b5 => ?_
 refine BH Ao Ao (BG DW Ao) fun b6 => ?_
 refine Au Ao ?_
 refine As ?_
 refine CJ (fun k => false) Dq ?_
 refine Ay Ao Ao (fun _ => Ar Ao) trivial ?_
 refine Ay Ao Ao (fun _ => Ar Ao) trivial ?_
 refine BK (j := 2) rfl rfl rfl (fun H i hi => Aw (i := i) BI rfl hi Af) (by repeat' first | exact trivial | refine And.intro ?_ ?_ | ((refine Or.inr (And.intro ?_ ?_) <;> repeat (first | exact List.Mem.head _ | apply List.Mem.tail)); done) | exact Or.inl Ai) trivial ?_
 refine BK (j := 1) rfl rfl rfl (fun H i hi => Aw (i := i) BI rfl hi Af) (by repeat' first | exact trivial | refine And.intro ?_ ?_ | ((refine Or.inr (And.intro ?_ ?_) <;> repeat (first | exact List.Mem.head _ | apply List.Mem.tail)); done) | exact Or.inl Ai) trivial ?_
 refine B1 [3] rfl rfl rfl (.inl ⟨rfl, rfl, rfl⟩) (D3 p c BA A6 A8 A9 BC BB thm a b) ⟨_, _, rfl, rfl, rfl⟩ (Ce _) (aw (we rfl) (aw (we rfl) (aw (we rfl) (Ci)))) (by repeat' first | exact trivial | refine And.intro ?_ ?_ | ((refine Or.inr (And.intro ?_ ?_) <;> repeat (first | exact List.Mem.head _ | apply List.Mem.tail)); done) | exact Or.inl Ai) trivial ?_
 refine Ay Ao Ao (fun _ => Ar Ao) trivial ?_
 refine BK (j := 1) rfl rfl rfl (fun H i hi => Aw (i := i) BI rfl hi Af) (by repeat' first | exact trivial | refine And.intro ?_ ?_ | ((refine Or.inr (And.intro ?_ ?_) <;> repeat (first | exact List.Mem.head _ | apply List.Mem.tail)); done) | exact Or.inl Ai) trivial ?_
 refine BK (j := 2) rfl rfl rfl (fun H i hi => Aw (i := i) BI rfl hi Af) (by repeat' first | exact trivial | refine And.intro ?_ ?_ | ((refine Or.inr (And.intro ?_ ?_) <;> repeat (first | exact List.Mem.head _ | apply List.Mem.tail)); done) | exact Or.inl Ai) trivial ?_
 refine B1 [3] rfl rfl rfl (.inl ⟨rfl, rfl, rfl⟩) (D3 p c BA A6 A8 A9 BC BB thm b a) ⟨_, _, rfl, rfl, rfl⟩ (Ce _) (aw (we rfl) (aw (we rfl) (aw (we rfl) (Ci)))) (by repeat' first | exact trivial | refine And.intro ?_ ?_ | ((refine Or.inr (And.intro ?_ ?_) <;> repeat (first | exact List.Mem.head _ | apply List.Mem.tail)); done) | exact Or.inl Ai) trivial ?_
 refine BK (j := 2) rfl rfl rfl (fun H i hi => Aw (i := i) BI rfl hi Af) (by repeat' first | exact trivial | refine And.intro ?_ ?_ | ((refine Or.inr (And.intro ?_ ?_) <;> repeat (first | exact List.Mem.head _ | apply List.Mem.tail)); done) | exact Or.inl Ai) trivial ?_
 refine BK (j := 1) rfl rfl rfl (fun H i hi => Aw (i := i) BI rfl hi Af) (by repeat' first | exact trivial | refine And.intro ?_ ?_ | ((refine Or.inr (And.intro ?_ ?_) <;> repeat (first | exact List.Mem.head _ | apply List.Mem.tail)); done) | exact Or.inl Ai) trivial ?_
 refine Ay Ao Ao (fun _ => BN (rows := BO [a, b]) B4 B0 Ao Ao Ao Ao (Bv (B6 _)) (Cv _)) trivial ?_
 refine B1 [3] rfl rfl rfl (.inl ⟨rfl, rfl, rfl⟩) (Il p c BA A6 A8 A9 BC BB thm 0 (CI (BF.mk BA A6 A8 A9 BC BB thm) a b) (CI (BF.mk BA A6 A8 A9 BC BB thm) b a) [a, b] ⟨by decide, by rw [h1]; decide⟩ AM) ⟨_, _, rfl, rfl, rfl⟩ (Ce _) (aw (we rfl) (aw (we rfl) (aw (we rfl) (aw (we rfl) (aw (we rfl) (Ci)))))) (by repeat' first | exact trivial | refine And.intro ?_ ?_ | ((refine Or.inr (And.intro ?_ ?_) <;> repeat (first | exact List.Mem.head _ | apply List.Mem.tail)); done) | exact Or.inl Ai) trivial ?_
 refine Cd rfl rfl (A1 (i := 0) Cb rfl rfl rfl Ae AW (CR _)) (by repeat' first | exact trivial | refine And.intro ?_ ?_ | ((refine Or.inr (And.intro ?_ ?_) <;> repeat (first | exact List.Mem.head _ | apply List.Mem.tail)); done) | exact Or.inl Ai) trivial ?_
 refine CA Ao Ai ?_
 refine A5 ?_
 refine ⟨Ao, _, _, ⟨_, _, Ao, (Bg (i := 0) Cb Ao Ao Ae), Ao⟩, (Cf (is := [3]) Ao), ?_⟩
 all_goals exact ⟨rfl, rfl⟩
theorem MW : ∀ (p c : Nat) (BA A6 A8 A9 BC BB : ByteArray) (thm : List ByteArray) (a b d : Tm), (thm.length = 14) → Bl Tryz.prog 127 [.ptr p 0, .agg ((Ba a).map .p), .agg ((Ba b).map .p), .agg ((Ba d).map .p)] [.box p [.p (.str BA), .p (.str A6), .p (.str A8), .p (.str A9), .p (.str BC), .p (.str BB), .p (.lst (List.map CV thm)), .ptr c 0]] (DG (.agg ((B2 (Dk (BF.mk BA A6 A8 A9 BC BB thm) a b d)).map .p)) [.box p [.p (.str BA), .p (.str A6), .p (.str A8), .p (.str A9), .p (.str BC), .p (.str BB), .p (.lst (List.map CV thm)), .ptr c 0]]) := by
 intro p c BA A6 A8 A9 BC BB thm a b d h1
 refine A3 Tryz.func127 Ao X8 (n := 29) Ao Ao ?_
 refine As ?_
 refine Aq ?_
 refine BH Ao Ao (Bb Ao) fun b5 => ?_
 refine BH Ao Ao (Bb Ao) fun b6 => ?_
 refine BH Ao Ao (Bb Ao) fun b7 => ?_
 refine BH Ao Ao (BG DW Ao) fun b8 => ?_
 refine Au Ao ?_
 refine As ?_
 refine CJ (fun k => false) Dq ?_
 refine Ay Ao Ao (fun _ => Ar Ao) trivial ?_
 refine Ay Ao Ao (fun _ => Ar Ao) trivial ?_
 refine Ay Ao Ao (fun _ => Ar Ao) trivial ?_
 refine BK (j := 3) rfl rfl rfl (fun H i hi => Aw (i := i) BI rfl hi Af) (by repeat' first | exact trivial | refine And.intro ?_ ?_ | ((refine Or.inr (And.intro ?_ ?_) <;> repeat (first | exact List.Mem.head _ | apply List.Mem.tail)); done) | exact Or.inl Ai) trivial ?_
 refine BK (j := 2) rfl rfl rfl (fun H i hi => Aw (i := i) BI rfl hi Af) (by repeat' first | exact trivial | refine And.intro ?_ ?_ | ((refine Or.inr (And.intro ?_ ?_) <;> repeat (first | exact List.Mem.head _ | apply List.Mem.tail)); done) | exact Or.inl Ai) trivial ?_
 refine B1 [4] rfl rfl rfl (.inl ⟨rfl, rfl, rfl⟩) (D3 p c BA A6 A8 A9 BC BB thm a b) ⟨_, _, rfl, rfl, rfl⟩ (Ce _) (aw (we rfl) (aw (we rfl) (aw (we rfl) (Ci)))) (by repeat' first | exact trivial | refine And.intro ?_ ?_ | ((refine Or.inr (And.intro ?_ ?_) <;> repeat (first | exact List.Mem.head _ | apply List.Mem.tail)); done) | exact Or.inl Ai) trivial ?_
 refine BK (j := 1) rfl rfl rfl (fun H i hi => Aw (i := i) BI rfl hi Af) (by repeat' first | exact trivial | refine And.intro ?_ ?_ | ((refine Or.inr (And.intro ?_ ?_) <;> repeat (first | exact List.Mem.head _ | apply List.Mem.tail)); done) | exact Or.inl Ai) trivial ?_
 refine B1 [4] rfl rfl rfl (.inl ⟨rfl, rfl, rfl⟩) (D3 p c BA A6 A8 A9 BC BB thm (CI (BF.mk BA A6 A8 A9 BC BB thm) a b) d) ⟨_, _, rfl, rfl, rfl⟩ (Ce _) (aw (we rfl) (aw (we rfl) (aw (we rfl) (Ci)))) (by repeat' first | exact trivial | refine And.intro ?_ ?_ | ((refine Or.inr (And.intro ?_ ?_) <;> repeat (first | exact List.Mem.head _ | apply List.Mem.tail)); done) | exact Or.inl Ai) trivial ?_
 refine Ay Ao Ao (fun _ => Ar Ao) trivial ?_
 refine BK (j := 3) rfl rfl rfl (fun H i hi => Aw (i := i) BI rfl hi Af) (by repeat' first | exact trivial | refine And.intro ?_ ?_ | ((refine Or.inr (And.intro ?_ ?_) <;> repeat (first | exact List.Mem.head _ | apply List.Mem.tail)); done) | exact Or.inl Ai) trivial ?_
 refine Ay Ao Ao (fun _ => Ar Ao) trivial ?_
 refine BK (j := 2) rfl rfl rfl (fun H i hi => Aw (i := i) BI rfl hi Af) (by repeat' first | exact trivial | refine And.intro ?_ ?_ | ((refine Or.inr (And.intro ?_ ?_) <;> repeat (first | exact List.Mem.head _ | apply List.Mem.tail)); done) | exact Or.inl Ai) trivial ?_
 refine BK (j := 1) rfl rfl rfl (fun H i hi => Aw (i := i) BI rfl hi Af) (by repeat' first | exact trivial | refine And.intro ?_ ?_ | ((refine Or.inr (And.intro ?_ ?_) <;> repeat (first | exact List.Mem.head _ | apply List.Mem.tail)); done) | exact Or.inl Ai) trivial ?_
 refine B1 [4] rfl rfl rfl (.inl ⟨rfl, rfl, rfl⟩) (D3 p c BA A6 A8 A9 BC BB thm b d) ⟨_, _, rfl, rfl, rfl⟩ (Ce _) (aw (we rfl) (aw (we rfl) (aw (we rfl) (Ci)))) (by repeat' first | exact trivial | refine And.intro ?_ ?_ | ((refine Or.inr (And.intro ?_ ?_) <;> repeat (first | exact List.Mem.head _ | apply List.Mem.tail)); done) | exact Or.inl Ai) trivial ?_
 refine B1 [4] rfl rfl rfl (.inl ⟨rfl, rfl, rfl⟩) (D3 p c BA A6 A8 A9 BC BB thm a (CI (BF.mk BA A6 A8 A9 BC BB thm) b d)) ⟨_, _, rfl, rfl, rfl⟩ (Ce _) (aw (we rfl) (aw (we rfl) (aw (we rfl) (Ci)))) (by repeat' first | exact trivial | refine And.intro ?_ ?_ | ((refine Or.inr (And.intro ?_ ?_) <;> repeat (first | exact List.Mem.head _ | apply List.Mem.tail)); done) | exact Or.inl Ai) trivial ?_
 refine BK (j := 3) rfl rfl rfl (fun H i hi => Aw (i := i) BI rfl hi Af) (by repeat' first | exact trivial | refine And.intro ?_ ?_ | ((refine Or.inr (And.intro ?_ ?_) <;> repeat (first | exact List.Mem.head _ | apply List.Mem.tail)); done) | exact Or.inl Ai) trivial ?_
 refine BK (j := 2) rfl rfl rfl (fun H i hi => Aw (i := i) BI rfl hi Af) (by repeat' first | exact trivial | refine And.intro ?_ ?_ | ((refine Or.inr (And.intro ?_ ?_) <;> repeat (first | exact List.Mem.head _ | apply List.Mem.tail)); done) | exact Or.inl Ai) trivial ?_
 refine BK (j := 1) rfl rfl rfl (fun H i hi => Aw (i := i) BI rfl hi Af) (by repeat' first | exact trivial | refine And.intro ?_ ?_ | ((refine Or.inr (And.intro ?_ ?_) <;> repeat (first | exact List.Mem.head _ | apply List.Mem.tail)); done) | exact Or.inl Ai) trivial ?_
 refine Ay Ao Ao (fun _ => BN (rows := BO [a, b, d]) B4 B0 Ao Ao Ao Ao (Bv (B6 _)) (Cv _)) trivial ?_
 refine B1 [4] rfl rfl rfl (.inl ⟨rfl, rfl, rfl⟩) (Il p c BA A6 A8 A9 BC BB thm 1 (CI (BF.mk BA A6 A8 A9 BC BB thm) (CI (BF.mk BA A6 A8 A9 BC BB thm) a b) d) (CI (BF.mk BA A6 A8 A9 BC BB thm) a (CI (BF.mk BA A6 A8 A9 BC BB thm) b d)) [a, b, d] ⟨by decide, by rw [h1]; decide⟩ AM) ⟨_, _, rfl, rfl, rfl⟩ (Ce _) (aw (we rfl) (aw (we rfl) (aw (we rfl) (aw (we rfl) (aw (we rfl) (Ci)))))) (by repeat' first | exact trivial | refine And.intro ?_ ?_ | ((refine Or.inr (And.intro ?_ ?_) <;> repeat (first | exact List.Mem.head _ | apply List.Mem.tail)); done) | exact Or.inl Ai) trivial ?_
 refine Cd rfl rfl (A1 (i := 0) Cb rfl rfl rfl Ae AW (CR _)) (by repeat' first | exact trivial | refine And.intro ?_ ?_ | ((refine Or.inr (And.intro ?_ ?_) <;> repeat (first | exact List.Mem.head _ | apply List.Mem.tail)); done) | exact Or.inl Ai) trivial ?_
 refine CA Ao Ai ?_
 refine A5 ?_
 refine ⟨Ao, _, _, ⟨_, _, Ao, (Bg (i := 0) Cb Ao Ao Ae), Ao⟩, (Cf (is := [4]) Ao), ?_⟩
 all_goals exact ⟨rfl, rfl⟩
theorem N9 : ∀ (p c : Nat) (BA A6 A8 A9 BC BB : ByteArray) (thm : List ByteArray) (t : Tm), (thm.length = 14) → Bl Tryz.prog 83 [.ptr p 0, .agg ((Ba t).map .p)] [.box p [.p (.str BA), .p (.str A6), .p (.str A8), .p (.str A9), .p (.str BC), .p (.str BB), .p (.lst (List.map CV thm)), .ptr c 0]] (DG (.agg ((B2 (HT (BF.mk BA A6 A8 A9 BC BB thm) t)).map .p)) [.box p [.p (.str BA), .p (.str A6), .p (.str A8), .p (.str A9), .p (.str BC), .p (.str BB), .p (.lst (List.map CV thm)), .ptr c 0]]) := by
 intro p c BA A6 A8 A9 BC BB thm t h1
 refine A3 Tryz.func83 Ao ZL (n := 19) Ao Ao ?_
 refine As ?_
 refine Aq ?_
 refine BH Ao Ao (Bb Ao) fun b3 => ?_
 refine BH Ao Ao (BG DW Ao) fun b4 => ?_
 refine Au Ao ?_
 refine As ?_
 refine CJ (fun k => false) Dq ?_
 refine Ay Ao Ao (fun _ => Ar Ao) trivial ?_
 refine Ay Ao Ao (fun _ => Ar Ao) trivial ?_
 refine Ay Ao Ao (fun _ => Ar Ao) trivial ?_
 refine Ay Ao Ao (fun _ => BT Ao) trivial ?_
 refine Ay Ao Ao (fun _ => Av Gq Ao Ao) trivial ?_
 refine Ay Ao Ao (fun _ => Av Du Ao Ao) trivial ?_
 refine BK (j := 2) rfl rfl rfl (fun H i hi => Ax (i := i) GO rfl hi rfl) (by repeat' first | exact trivial | refine And.intro ?_ ?_ | ((refine Or.inr (And.intro ?_ ?_) <;> repeat (first | exact List.Mem.head _ | apply List.Mem.tail)); done) | exact Or.inl Ai) trivial ?_
 refine Ay Ao Ao (fun _ => C0 Ao Ao (Dz A8 [] AI) (aw (we Ao) (aw (Cc Ao) (Ci)))) trivial ?_
 refine BK (j := 1) rfl rfl rfl (fun H i hi => Aw (i := i) BI rfl hi Af) (by repeat' first | exact trivial | refine And.intro ?_ ?_ | ((refine Or.inr (And.intro ?_ ?_) <;> repeat (first | exact List.Mem.head _ | apply List.Mem.tail)); done) | exact Or.inl Ai) trivial ?_
 refine B1 [2] rfl rfl rfl (.inl ⟨rfl, rfl, rfl⟩) (D3 p c BA A6 A8 A9 BC BB thm (BP A8 []) t) ⟨_, _, rfl, rfl, rfl⟩ (Ce _) (aw (we rfl) (aw (we rfl) (aw (we rfl) (Ci)))) (by repeat' first | exact trivial | refine And.intro ?_ ?_ | ((refine Or.inr (And.intro ?_ ?_) <;> repeat (first | exact List.Mem.head _ | apply List.Mem.tail)); done) | exact Or.inl Ai) trivial ?_
 refine BK (j := 1) rfl rfl rfl (fun H i hi => Aw (i := i) BI rfl hi Af) (by repeat' first | exact trivial | refine And.intro ?_ ?_ | ((refine Or.inr (And.intro ?_ ?_) <;> repeat (first | exact List.Mem.head _ | apply List.Mem.tail)); done) | exact Or.inl Ai) trivial ?_
 refine BK (j := 1) rfl rfl rfl (fun H i hi => Aw (i := i) BI rfl hi Af) (by repeat' first | exact trivial | refine And.intro ?_ ?_ | ((refine Or.inr (And.intro ?_ ?_) <;> repeat (first | exact List.Mem.head _ | apply List.Mem.tail)); done) | exact Or.inl Ai) trivial ?_
 refine Ay Ao Ao (fun _ => BN (rows := BO [t]) B4 B0 Ao Ao Ao Ao (Bv (B6 _)) (Cv _)) trivial ?_
 refine B1 [2] rfl rfl rfl (.inl ⟨rfl, rfl, rfl⟩) (Il p c BA A6 A8 A9 BC BB thm 2 (CI (BF.mk BA A6 A8 A9 BC BB thm) (BP A8 []) t) t [t] ⟨by decide, by rw [h1]; decide⟩ AM) ⟨_, _, rfl, rfl, rfl⟩ (Ce _) (aw (we rfl) (aw (we rfl) (aw (we rfl) (aw (we rfl) (aw (we rfl) (Ci)))))) (by repeat' first | exact trivial | refine And.intro ?_ ?_ | ((refine Or.inr (And.intro ?_ ?_) <;> repeat (first | exact List.Mem.head _ | apply List.Mem.tail)); done) | exact Or.inl Ai) trivial ?_
 refine Cd rfl rfl (A1 (i := 0) Cb rfl rfl rfl Ae AW (CR _)) (by repeat' first | exact trivial | refine And.intro ?_ ?_ | ((refine Or.inr (And.intro ?_ ?_) <;> repeat (first | exact List.Mem.head _ | apply List.Mem.tail)); done) | exact Or.inl Ai) trivial ?_
 refine CA Ao Ai ?_
 refine A5 ?_
 refine ⟨Ao, _, _, ⟨_, _, Ao, (Bg (i := 0) Cb Ao Ao Ae), Ao⟩, (Cf (is := [2]) Ao), ?_⟩
 all_goals exact ⟨rfl, rfl⟩
theorem J1 : ∀ (p c : Nat) (BA A6 A8 A9 BC BB : ByteArray) (thm : List ByteArray) (a b : Fa), Bl Tryz.prog 88 [.ptr p 0, .agg ((B2 a).map .p), .agg ((B2 b).map .p)] [.box p [.p (.str BA), .p (.str A6), .p (.str A8), .p (.str A9), .p (.str BC), .p (.str BB), .p (.lst (List.map CV thm)), .ptr c 0]] (DG (.agg ((B2 (Ei (BF.mk BA A6 A8 A9 BC BB thm) a b)).map .p)) [.box p [.p (.str BA), .p (.str A6), .p (.str A8), .p (.str A9), .p (.str BC), .p (.str BB), .p (.lst (List.map CV thm)), .ptr c 0]]) := by
 intro p c BA A6 A8 A9 BC BB thm a b
 refine A3 Tryz.func88 Ao aG (n := 88) Ao Ao ?_
 refine As ?_
 refine Aq ?_
 refine BH Ao Ao (Bb Ao) fun b4 => ?_
 refine BH Ao Ao (Bb Ao) fun b5 => ?_
 refine BH Ao Ao (BG DW Ao) fun b6 => ?_
 refine Au Ao ?_
 refine As ?_
 refine As ?_
 refine Aq ?_
 refine Ap Ao Ao (Av EM Ao Ao) ?_
 refine Ap Ao Ao (Ax (i := 2) Uf Ao Ao (J8 _)) ?_
 refine Au Ao ?_
 refine A4 Ao (fun c1 => ?_) (fun c1 => ?_)
 ·(try simp only [sd, se] at c1)
  refine As ?_
  refine CJ (fun k => false) Dq ?_
  refine Ay Ao Ao (fun _ => Ar Ao) trivial ?_
  refine Ay Ao Ao (fun _ => Ar Ao) trivial ?_
  refine Ay Ao Ao (fun _ => BT Ao) trivial ?_
  refine Ay Ao Ao (fun _ => Av Gq Ao Ao) trivial ?_
  refine Ay Ao Ao (fun _ => Av Du Ao Ao) trivial ?_
  refine BK (j := 3) rfl rfl rfl (fun H i hi => Ax (i := i) GO rfl hi rfl) (by repeat' first | exact trivial | refine And.intro ?_ ?_ | ((refine Or.inr (And.intro ?_ ?_) <;> repeat (first | exact List.Mem.head _ | apply List.Mem.tail)); done) | exact Or.inl Ai) trivial ?_
  refine Ay Ao Ao (fun _ => Av EM Ao Ao) trivial ?_
  refine BK (j := 2) rfl rfl rfl (fun H i hi => Bp (i := i) BI rfl hi (Es _) (congrArg AV.agg (eq_left _))) (by repeat' first | exact trivial | refine And.intro ?_ ?_ | ((refine Or.inr (And.intro ?_ ?_) <;> repeat (first | exact List.Mem.head _ | apply List.Mem.tail)); done) | exact Or.inl Ai) trivial ?_
  refine Ay Ao Ao (fun _ => BN (rows := BO [a.left]) B4 B0 Ao Ao Ao Ao (Bv (B6 _)) (Cv _)) trivial ?_
  refine Ay Ao Ao (fun _ => Bf Ao Ao (Dz A6 [a.left] AI) Ao) trivial ?_
  refine BK (j := 1) rfl rfl rfl (fun H i hi => Aw (i := i) Cb rfl hi Ae) (by repeat' first | exact trivial | refine And.intro ?_ ?_ | ((refine Or.inr (And.intro ?_ ?_) <;> repeat (first | exact List.Mem.head _ | apply List.Mem.tail)); done) | exact Or.inl Ai) trivial ?_
  refine B1 [3] rfl rfl rfl (.inl ⟨rfl, rfl, rfl⟩) (J5 p c BA A6 A8 A9 BC BB thm (BP A6 [a.left]) b) ⟨_, _, rfl, rfl, rfl⟩ (Ce _) (aw (we rfl) (aw (we rfl) (aw (we rfl) (Ci)))) (by repeat' first | exact trivial | refine And.intro ?_ ?_ | ((refine Or.inr (And.intro ?_ ?_) <;> repeat (first | exact List.Mem.head _ | apply List.Mem.tail)); done) | exact Or.inl Ai) trivial ?_
  refine Cd rfl rfl (A1 (i := 0) Cb rfl rfl rfl Ae AW (CR _)) (by repeat' first | exact trivial | refine And.intro ?_ ?_ | ((refine Or.inr (And.intro ?_ ?_) <;> repeat (first | exact List.Mem.head _ | apply List.Mem.tail)); done) | exact Or.inl Ai) trivial ?_
  refine CA Ao Ai ?_
  refine A5 ?_
  refine ⟨Ao, _, _, ⟨_, _, Ao, (Bg (i := 0) Cb Ao Ao Ae), Ao⟩, (Cf (is := [3]) Ao), ?_⟩
  rw [Ei, if_pos c1]
  all_goals exact ⟨rfl, rfl⟩
 ·(try simp only [sd, se] at c1)
  refine BD ?_
  refine As ?_
  refine Aq ?_
  refine Ap Ao Ao (Ar Ao) ?_
  refine Ap Ao Ao (Ar Ao) ?_
  refine Ap Ao Ao (CH [3] Ao (.inl ⟨Ao, Ao, Ao⟩) (IH p c BA A6 A8 A9 BC BB thm) ⟨_, _, Ao, Ao, Ao⟩ Al Ao (.inl Ao)) ?_
  refine Ap Ao Ao (CH [3] Ao (.inl ⟨Ao, Ao, Ao⟩) (QX p c BA A6 A8 A9 BC BB thm (DA (BF.mk BA A6 A8 A9 BC BB thm))) ⟨_, _, Ao, Ao, Ao⟩ Al Ao (.inl Ao)) ?_
  refine BH Ao Ao (BG B0 Ao) fun b7 => ?_
  refine Ap Ao Ao (A1 (i := 0) BI Ao Ao Ao Af AX (B3 _)) ?_
  refine Au Ao ?_
  refine As ?_
  refine Aq ?_
  refine Ap Ao Ao (Ar Ao) ?_
  refine Ap Ao Ao (BT Ao) ?_
  refine Ap Ao Ao (Av Gq Ao Ao) ?_
  refine Ap Ao Ao (Av Du Ao Ao) ?_
  refine Ap Ao Ao (Ax (i := 4) GO Ao Ao Ao) ?_
  refine Ap Ao Ao (C0 Ao Ao (Dz A6 [] AI) (aw (we Ao) (aw (Cc Ao) (Ci)))) ?_
  refine BH Ao Ao (BG B0 Ao) fun b8 => ?_
  refine Ap Ao Ao (A1 (i := 0) BI Ao Ao Ao Af AX (B3 _)) ?_
  refine Au Ao ?_
  refine As ?_
  refine DU [.val (.ptr p 0), .val (.ptr p 0), .val (.ptr p (0 + 0)), .val (.ptr p (0 + 1)), .val (.p (.str A6)), .val (.ptr b4 (0 + 0)), .val (.agg ((Ba a.left).map .p)), .val (.p (.lst (BO [a.left]))), .val (.agg ((Ba (BP A6 [a.left])).map .p)), .val (.ptr p 0), .val (.ptr p 0), .val (.ptr p (0 + 0)), .val (.ptr p (0 + 1)), .val (.p (.str A6)), .val (.ptr b4 (0 + 5)), .val (.agg ((Ba a.right).map .p)), .val (.p (.lst (BO [a.right]))), .val (.agg ((Ba (BP A6 [a.right])).map .p)), .new [.p (I 0), .p (I 0), .p (.str ⟨#[]⟩), .p (.nils), .p (.nils)], .new [.p (I 0), .p (I 0), .p (.str ⟨#[]⟩), .p (.nils), .p (.nils)]] Dq Ao Ai Ai ?_
  refine BE Ao (fun Bs => Ar Ao) ?_
  refine BE Ao (fun Bs => BT Ao) ?_
  refine BE Ao (fun Bs => Av Gq Ao Ao) ?_
  refine BE Ao (fun Bs => Av Du Ao Ao) ?_
  refine BE Ao (fun Bs => Ax (i := Bs.length + 5) GO Ao (Bn Ao) Ao) ?_
  refine BE Ao (fun Bs => Av EM Ao Ao) ?_
  refine BE Ao (fun Bs => Bp (i := Bs.length + 4) BI Ao (Bn Ao) (Es _) (congrArg AV.agg (eq_left _))) ?_
  refine BE Ao (fun Bs => BN (rows := BO [a.left]) B4 B0 Ao Ao Ao Ao (Bv (B6 _)) (Cv _)) ?_
  refine BE Ao (fun Bs => Bf Ao Ao (Dz A6 [a.left] AI) Ao) ?_
  refine BE Ao (fun Bs => Ar Ao) ?_
  refine BE Ao (fun Bs => BT Ao) ?_
  refine BE Ao (fun Bs => Av Gq Ao Ao) ?_
  refine BE Ao (fun Bs => Av Du Ao Ao) ?_
  refine BE Ao (fun Bs => Ax (i := Bs.length + 5) GO Ao (Bn Ao) Ao) ?_
  refine BE Ao (fun Bs => Av EM Ao Ao) ?_
  refine BE Ao (fun Bs => Bp (i := Bs.length + 4) BI Ao (Bn Ao) (EY _) (congrArg AV.agg (eq_right _))) ?_
  refine BE Ao (fun Bs => BN (rows := BO [a.right]) B4 B0 Ao Ao Ao Ao (Bv (B6 _)) (Cv _)) ?_
  refine BE Ao (fun Bs => Bf Ao Ao (Dz A6 [a.right] AI) Ao) ?_
  refine Ea Ao (fun Bs => BG B0 Ao) fun b9 => ?_
  refine Ea Ao (fun Bs => BG B0 Ao) fun b10 => ?_
  refine D6 ?_
  change AL _ _ _ 20 ⟨88, _, [.box b9 [.p (I 0), .p (I 0), .p (.str ⟨#[]⟩), .p (.nils), .p (.nils)], .box b10 [.p (I 0), .p (I 0), .p (.str ⟨#[]⟩), .p (.nils), .p (.nils)], .box b8 ((Ba (BP A6 [])).map .p), .box b7 ((Ba (Dx (BF.mk BA A6 A8 A9 BC BB thm) (DA (BF.mk BA A6 A8 A9 BC BB thm)))).map .p), .box b6 [.p (I 0), .p (I 0), .p (.str ⟨#[]⟩), .p (.nils), .p (.nils), .p (I 0), .p (I 0), .p (.str ⟨#[]⟩), .p (.nils), .p (.nils), .p (I 0), .p (I 0), .p (.str ⟨#[]⟩), .p (.nils), .p (.nils), .p (.bool false)], .box b5 ((B2 b).map .p), .box b4 ((B2 a).map .p), .box p [.p (.str BA), .p (.str A6), .p (.str A8), .p (.str A9), .p (.str BC), .p (.str BB), .p (.lst (List.map CV thm)), .ptr c 0]], []⟩ _
  refine Ap Ao Ao (A1 (i := 0) BI Ao Ao Ao Af AX (B3 _)) ?_
  refine Ap Ao Ao (A1 (i := 1) BI Ao Ao Ao Af AX (B3 _)) ?_
  refine Au Ao ?_
  refine As ?_
  refine DU [.val (.ptr p 0), .val (.agg ((Ba (Dx (BF.mk BA A6 A8 A9 BC BB thm) (DA (BF.mk BA A6 A8 A9 BC BB thm)))).map .p)), .val (.agg ((Ba (BP A6 [])).map .p)), .val (.agg ((Ba (BP A6 [])).map .p)), .val (.agg ((B2 a).map .p)), .val (.ptr p 0), .val (.ptr p 0), .val (.agg ((Ba (Dx (BF.mk BA A6 A8 A9 BC BB thm) (DA (BF.mk BA A6 A8 A9 BC BB thm)))).map .p)), .val (.agg ((Ba (Dx (BF.mk BA A6 A8 A9 BC BB thm) (Dx (BF.mk BA A6 A8 A9 BC BB thm) (DA (BF.mk BA A6 A8 A9 BC BB thm))))).map .p)), .val (.agg ((Ba (BP A6 [])).map .p)), .val (.p (.lst (BO ([(BP A6 [])])))), .val (.agg ((Ba (Gj ⟨#[69, 113, 46, 114, 101, 102, 108]⟩ (Dx (BF.mk BA A6 A8 A9 BC BB thm) (Dx (BF.mk BA A6 A8 A9 BC BB thm) (DA (BF.mk BA A6 A8 A9 BC BB thm)))) ([(BP A6 [])]))).map .p)), .val (.agg ((Ba (Ff (BF.mk BA A6 A8 A9 BC BB thm) (Dx (BF.mk BA A6 A8 A9 BC BB thm) (DA (BF.mk BA A6 A8 A9 BC BB thm))) (BP A6 []) (BP A6 []) a (Gj ⟨#[69, 113, 46, 114, 101, 102, 108]⟩ (Dx (BF.mk BA A6 A8 A9 BC BB thm) (Dx (BF.mk BA A6 A8 A9 BC BB thm) (DA (BF.mk BA A6 A8 A9 BC BB thm)))) ([(BP A6 [])])))).map .p)), .new [.p (I 0), .p (I 0), .p (.str ⟨#[]⟩), .p (.nils), .p (.nils)]] Dq Ao Ai Ai ?_
  refine BE Ao (fun Bs => Ar Ao) ?_
  refine BE Ao (fun Bs => Aw (i := Bs.length + 3) BI Ao (Bn Ao) Af) ?_
  refine BE Ao (fun Bs => Aw (i := Bs.length + 2) BI Ao (Bn Ao) Af) ?_
  refine BE Ao (fun Bs => Aw (i := Bs.length + 2) BI Ao (Bn Ao) Af) ?_
  refine BE Ao (fun Bs => Aw (i := Bs.length + 6) Cb Ao (Bn Ao) Ae) ?_
  refine BE Ao (fun Bs => Ar Ao) ?_
  refine BE Ao (fun Bs => Ar Ao) ?_
  refine BE Ao (fun Bs => Aw (i := Bs.length + 3) BI Ao (Bn Ao) Af) ?_
  refine BE Ao (fun Bs => CC [7] Ao (.inl ⟨Ao, Ao, Ao⟩) (QX p c BA A6 A8 A9 BC BB thm (Dx (BF.mk BA A6 A8 A9 BC BB thm) (DA (BF.mk BA A6 A8 A9 BC BB thm)))) ⟨_, _, Ao, Ao, Ao⟩ Al (aw (we Ao) (aw (we Ao) (Ci)))) ?_
  refine BE Ao (fun Bs => Aw (i := Bs.length + 2) BI Ao (Bn Ao) Af) ?_
  refine BE Ao (fun Bs => BN (rows := BO ([(BP A6 [])])) B4 B0 Ao Ao Ao Ao (Bv (B6 _)) (Cv _)) ?_
  refine BE Ao (fun Bs => CC [7] Ao (.inl ⟨Ao, Ao, Ao⟩) (MS p c BA A6 A8 A9 BC BB thm ⟨#[69, 113, 46, 114, 101, 102, 108]⟩ (Dx (BF.mk BA A6 A8 A9 BC BB thm) (Dx (BF.mk BA A6 A8 A9 BC BB thm) (DA (BF.mk BA A6 A8 A9 BC BB thm)))) ([(BP A6 [])]) AM) ⟨_, _, Ao, Ao, Ao⟩ Al (aw (we Ao) (aw (we Ao) (aw (we Ao) (aw (we Ao) (Ci)))))) ?_
  refine BE Ao (fun Bs => CC [7] Ao (.inl ⟨Ao, Ao, Ao⟩) (Mg p c BA A6 A8 A9 BC BB thm (Dx (BF.mk BA A6 A8 A9 BC BB thm) (DA (BF.mk BA A6 A8 A9 BC BB thm))) (BP A6 []) (BP A6 []) a (Gj ⟨#[69, 113, 46, 114, 101, 102, 108]⟩ (Dx (BF.mk BA A6 A8 A9 BC BB thm) (Dx (BF.mk BA A6 A8 A9 BC BB thm) (DA (BF.mk BA A6 A8 A9 BC BB thm)))) ([(BP A6 [])]))) ⟨_, _, Ao, Ao, Ao⟩ Al (aw (we Ao) (aw (we Ao) (aw (we Ao) (aw (we Ao) (aw (we Ao) (aw (we Ao) (Ci)))))))) ?_
  refine Ea Ao (fun Bs => BG B0 Ao) fun b11 => ?_
  refine D6 ?_
  change AL _ _ _ 14 ⟨88, _, [.box b11 [.p (I 0), .p (I 0), .p (.str ⟨#[]⟩), .p (.nils), .p (.nils)], .box b9 ((Ba (BP A6 [a.left])).map .p), .box b10 ((Ba (BP A6 [a.right])).map .p), .box b8 ((Ba (BP A6 [])).map .p), .box b7 ((Ba (Dx (BF.mk BA A6 A8 A9 BC BB thm) (DA (BF.mk BA A6 A8 A9 BC BB thm)))).map .p), .box b6 [.p (I 0), .p (I 0), .p (.str ⟨#[]⟩), .p (.nils), .p (.nils), .p (I 0), .p (I 0), .p (.str ⟨#[]⟩), .p (.nils), .p (.nils), .p (I 0), .p (I 0), .p (.str ⟨#[]⟩), .p (.nils), .p (.nils), .p (.bool false)], .box b5 ((B2 b).map .p), .box b4 ((B2 a).map .p), .box p [.p (.str BA), .p (.str A6), .p (.str A8), .p (.str A9), .p (.str BC), .p (.str BB), .p (.lst (List.map CV thm)), .ptr c 0]], []⟩ _
  refine Ap Ao Ao (A1 (i := 0) BI Ao Ao Ao Af AX (B3 _)) ?_
  refine Au Ao ?_
  refine As ?_
  refine CJ (fun k => false) Dq ?_
  refine Ay Ao Ao (fun _ => Ar Ao) trivial ?_
  refine Ay Ao Ao (fun _ => Av EM Ao Ao) trivial ?_
  refine BK (j := 7) rfl rfl rfl (fun H i hi => Bp (i := i) BI rfl hi (Es _) (congrArg AV.agg (eq_left _))) (by repeat' first | exact trivial | refine And.intro ?_ ?_ | ((refine Or.inr (And.intro ?_ ?_) <;> repeat (first | exact List.Mem.head _ | apply List.Mem.tail)); done) | exact Or.inl Ai) trivial ?_
  refine Ay Ao Ao (fun _ => Av EM Ao Ao) trivial ?_
  refine BK (j := 6) rfl rfl rfl (fun H i hi => Bp (i := i) BI rfl hi (Es _) (congrArg AV.agg (eq_left _))) (by repeat' first | exact trivial | refine And.intro ?_ ?_ | ((refine Or.inr (And.intro ?_ ?_) <;> repeat (first | exact List.Mem.head _ | apply List.Mem.tail)); done) | exact Or.inl Ai) trivial ?_
  refine B1 [8] rfl rfl rfl (.inl ⟨rfl, rfl, rfl⟩) (D3 p c BA A6 A8 A9 BC BB thm a.left b.left) ⟨_, _, rfl, rfl, rfl⟩ (Ce _) (aw (we rfl) (aw (we rfl) (aw (we rfl) (Ci)))) (by repeat' first | exact trivial | refine And.intro ?_ ?_ | ((refine Or.inr (And.intro ?_ ?_) <;> repeat (first | exact List.Mem.head _ | apply List.Mem.tail)); done) | exact Or.inl Ai) trivial ?_
  refine Ay Ao Ao (fun _ => Ar Ao) trivial ?_
  refine Ay Ao Ao (fun _ => Av EM Ao Ao) trivial ?_
  refine BK (j := 7) rfl rfl rfl (fun H i hi => Bp (i := i) BI rfl hi (EY _) (congrArg AV.agg (eq_right _))) (by repeat' first | exact trivial | refine And.intro ?_ ?_ | ((refine Or.inr (And.intro ?_ ?_) <;> repeat (first | exact List.Mem.head _ | apply List.Mem.tail)); done) | exact Or.inl Ai) trivial ?_
  refine Ay Ao Ao (fun _ => Av EM Ao Ao) trivial ?_
  refine BK (j := 6) rfl rfl rfl (fun H i hi => Bp (i := i) BI rfl hi (EY _) (congrArg AV.agg (eq_right _))) (by repeat' first | exact trivial | refine And.intro ?_ ?_ | ((refine Or.inr (And.intro ?_ ?_) <;> repeat (first | exact List.Mem.head _ | apply List.Mem.tail)); done) | exact Or.inl Ai) trivial ?_
  refine B1 [8] rfl rfl rfl (.inl ⟨rfl, rfl, rfl⟩) (D3 p c BA A6 A8 A9 BC BB thm a.right b.right) ⟨_, _, rfl, rfl, rfl⟩ (Ce _) (aw (we rfl) (aw (we rfl) (aw (we rfl) (Ci)))) (by repeat' first | exact trivial | refine And.intro ?_ ?_ | ((refine Or.inr (And.intro ?_ ?_) <;> repeat (first | exact List.Mem.head _ | apply List.Mem.tail)); done) | exact Or.inl Ai) trivial ?_
  refine Ay Ao Ao (fun _ => Ar Ao) trivial ?_
  refine Ay Ao Ao (fun _ => Ar Ao) trivial ?_
  refine B1 [8] rfl rfl rfl (.inl ⟨rfl, rfl, rfl⟩) (IH p c BA A6 A8 A9 BC BB thm) ⟨_, _, rfl, rfl, rfl⟩ (Ce _) (aw (we rfl) (Ci)) (by repeat' first | exact trivial | refine And.intro ?_ ?_ | ((refine Or.inr (And.intro ?_ ?_) <;> repeat (first | exact List.Mem.head _ | apply List.Mem.tail)); done) | exact Or.inl Ai) trivial ?_
  refine BK (j := 1) rfl rfl rfl (fun H i hi => Aw (i := i) BI rfl hi Af) (by repeat' first | exact trivial | refine And.intro ?_ ?_ | ((refine Or.inr (And.intro ?_ ?_) <;> repeat (first | exact List.Mem.head _ | apply List.Mem.tail)); done) | exact Or.inl Ai) trivial ?_
  refine BK (j := 2) rfl rfl rfl (fun H i hi => Aw (i := i) BI rfl hi Af) (by repeat' first | exact trivial | refine And.intro ?_ ?_ | ((refine Or.inr (And.intro ?_ ?_) <;> repeat (first | exact List.Mem.head _ | apply List.Mem.tail)); done) | exact Or.inl Ai) trivial ?_
  refine BK (j := 6) rfl rfl rfl (fun H i hi => Aw (i := i) Cb rfl hi Ae) (by repeat' first | exact trivial | refine And.intro ?_ ?_ | ((refine Or.inr (And.intro ?_ ?_) <;> repeat (first | exact List.Mem.head _ | apply List.Mem.tail)); done) | exact Or.inl Ai) trivial ?_
  refine BK (j := 0) rfl rfl rfl (fun H i hi => Aw (i := i) BI rfl hi Af) (by repeat' first | exact trivial | refine And.intro ?_ ?_ | ((refine Or.inr (And.intro ?_ ?_) <;> repeat (first | exact List.Mem.head _ | apply List.Mem.tail)); done) | exact Or.inl Ai) trivial ?_
  refine B1 [8] rfl rfl rfl (.inl ⟨rfl, rfl, rfl⟩) (Mg p c BA A6 A8 A9 BC BB thm (DA (BF.mk BA A6 A8 A9 BC BB thm)) (BP A6 [a.left]) (BP A6 [a.right]) b (Ff (BF.mk BA A6 A8 A9 BC BB thm) (Dx (BF.mk BA A6 A8 A9 BC BB thm) (DA (BF.mk BA A6 A8 A9 BC BB thm))) (BP A6 []) (BP A6 []) a (Gj ⟨#[69, 113, 46, 114, 101, 102, 108]⟩ (Dx (BF.mk BA A6 A8 A9 BC BB thm) (Dx (BF.mk BA A6 A8 A9 BC BB thm) (DA (BF.mk BA A6 A8 A9 BC BB thm)))) ([(BP A6 [])])))) ⟨_, _, rfl, rfl, rfl⟩ (Ce _) (aw (we rfl) (aw (we rfl) (aw (we rfl) (aw (we rfl) (aw (we rfl) (aw (we rfl) (Ci))))))) (by repeat' first | exact trivial | refine And.intro ?_ ?_ | ((refine Or.inr (And.intro ?_ ?_) <;> repeat (first | exact List.Mem.head _ | apply List.Mem.tail)); done) | exact Or.inl Ai) trivial ?_
  refine Ay Ao Ao (fun _ => Bi EM DW (X2 (l := (CI (BF.mk BA A6 A8 A9 BC BB thm) a.left b.left)) (r := (CI (BF.mk BA A6 A8 A9 BC BB thm) a.right b.right)) (q := (Ff (BF.mk BA A6 A8 A9 BC BB thm) (DA (BF.mk BA A6 A8 A9 BC BB thm)) (BP A6 [a.left]) (BP A6 [a.right]) b (Ff (BF.mk BA A6 A8 A9 BC BB thm) (Dx (BF.mk BA A6 A8 A9 BC BB thm) (DA (BF.mk BA A6 A8 A9 BC BB thm))) (BP A6 []) (BP A6 []) a (Gj ⟨#[69, 113, 46, 114, 101, 102, 108]⟩ (Dx (BF.mk BA A6 A8 A9 BC BB thm) (Dx (BF.mk BA A6 A8 A9 BC BB thm) (DA (BF.mk BA A6 A8 A9 BC BB thm)))) ([(BP A6 [])]))))) Ao Ao Ao Ao Ao)) trivial ?_
  refine Cd rfl rfl (A1 (i := 5) Cb rfl rfl rfl Ae AW (CR _)) (by repeat' first | exact trivial | refine And.intro ?_ ?_ | ((refine Or.inr (And.intro ?_ ?_) <;> repeat (first | exact List.Mem.head _ | apply List.Mem.tail)); done) | exact Or.inl Ai) trivial ?_
  refine CA Ao Ai ?_
  refine A5 ?_
  refine ⟨Ao, _, _, ⟨_, _, Ao, (Bg (i := 5) Cb Ao Ao Ae), Ao⟩, (Cf (is := [8]) Ao), ?_⟩
  rw [Ei, if_neg (by rw [c1]; decide)]
  all_goals exact ⟨rfl, rfl⟩
theorem FN : ∀ (p c : Nat) (BA A6 A8 A9 BC BB : ByteArray) (thm : List ByteArray) (f : Fa) (l : List Fa), (l.length < 1000) → Bl Tryz.prog 81 [.ptr p 0, .agg ((B2 f).map .p), .p (.lst (List.map B2 l))] [.box p [.p (.str BA), .p (.str A6), .p (.str A8), .p (.str A9), .p (.str BC), .p (.str BB), .p (.lst (List.map CV thm)), .ptr c 0]] (DG (.agg ((B2 (CZ (BF.mk BA A6 A8 A9 BC BB thm) f l)).map .p)) [.box p [.p (.str BA), .p (.str A6), .p (.str A8), .p (.str A9), .p (.str BC), .p (.str BB), .p (.lst (List.map CV thm)), .ptr c 0]]) := by
 intro p c BA A6 A8 A9 BC BB thm f l h1
 refine A3 Tryz.func81 Ao Zb (n := 49) Ao Ao ?_
 refine As ?_
 refine Aq ?_
 refine BH Ao Ao (Bb Ao) fun b4 => ?_
 refine BH Ao Ao (BG DW Ao) fun b6 => ?_
 refine Au Ao ?_
 refine As ?_
 refine Aq ?_
 refine Ap Ao Ao (Aw (i := 1) Cb Ao Ao Ae) ?_
 refine BH Ao Ao (BG DW Ao) fun b7 => ?_
 refine Ap Ao Ao (A1 (i := 0) Cb Ao Ao Ao Ae AW (CR _)) ?_
 refine Au Ao ?_
 refine As ?_
 refine As ?_
 refine Aq ?_
 refine Ap Ao Ao (Ar Ao) ?_
 refine Ap Ao Ao (Bx I1 Ao (List.length_map _)) ?_
 refine Ap Ao Ao (Ar Ao) ?_
 refine Au Ao ?_
 refine BU ?_
 refine CS (α := Nat) (fun i => ⟨49, mk [(0, .ptr p 0), (6, .ptr b6 0), (7, .ptr b7 0), (12, .p (.lst (List.map B2 l))), (13, .p (I (l.length : Nat))), (14, .p (I (i : Int)))], [.box b7 ((B2 (CZ (BF.mk BA A6 A8 A9 BC BB thm) f (l.take i))).map .p), .box b6 [.p (I 0), .p (I 0), .p (.str ⟨#[]⟩), .p (.nils), .p (.nils), .p (I 0), .p (I 0), .p (.str ⟨#[]⟩), .p (.nils), .p (.nils), .p (I 0), .p (I 0), .p (.str ⟨#[]⟩), .p (.nils), .p (.nils), .p (.bool false)], .box p [.p (.str BA), .p (.str A6), .p (.str A8), .p (.str A9), .p (.str BC), .p (.str BB), .p (.lst (List.map CV thm)), .ptr c 0]], []⟩) (fun i => l.length - i) (fun i => i ≤ l.length) 0 AN ?_ ?_
 ·exact B8 ⟨we Ao, we Ao, we Ao, we Ao, we Ao, we Ao, trivial⟩ (leH (is := [0, 1, 3]) Ao (wl (ob (by rw [Qb])) (wl (oe Ao) (wl (oe Ao) (ET)))))
 rintro i hC
 try simp only at hC
 have hi := hC
 refine As ?_
 refine Aq ?_
 refine Ap Ao Ao (A7 Ao Ao Ao) ?_
 refine Au Ao ?_
 refine As ?_
 refine A4 Ao (fun c1 => ?_) (fun c1 => ?_)
 ·(try simp only [sd, se] at c1)
  refine BD ?_
  refine As ?_
  refine BU ?_
  refine As ?_
  refine Aq ?_
  obtain ⟨x, hx⟩ := BM (l := l) (i := i) Am
  refine Ap Ao Ao (BJ I1 Ao Ao Am (OB hx) (JO _)) ?_
  refine Ap Ao Ao (Be Cb Ao (JO _)) ?_
  refine BH Ao Ao (BG DW Ao) fun b9 => ?_
  refine Ap Ao Ao (A1 (i := 0) Cb Ao Ao Ao Ae AW (CR _)) ?_
  refine Au Ao ?_
  refine BU ?_
  refine As ?_
  refine Aq ?_
  refine Ap Ao Ao (Av EM Ao Ao) ?_
  refine Ap Ao Ao (Ax (i := 1) Uf Ao Ao (J8 _)) ?_
  refine Ap Ao Ao (At Ao) ?_
  refine Au Ao ?_
  refine A4 Ao (fun c2 => ?_) (fun c2 => ?_)
  ·(try simp only [sd, se] at c2)
   refine Aq ?_
   refine Ap Ao Ao (Aw (i := 0) Cb Ao Ao Ae) ?_
   refine Ap Ao Ao (A1 (i := 1) Cb Ao Ao Ao Ae AW (CR _)) ?_
   refine Au Ao ?_
   refine Aq ?_
   refine Ap Ao Ao (CT Ao Ao Am Am) ?_
   refine Ap Ao Ao (Ar Ao) ?_
   refine Au Ao ?_
   refine ⟨(i + 1), AT, by omega, B8 ⟨we rfl, we rfl, we rfl, we rfl, we rfl, we rfl, trivial⟩ (leH (is := [1, 2, 3]) rfl (wl (ob (by rw [Jm hx]; simp [Jv, *]; try rfl)) (wl (oe rfl) (wl (oe rfl) (ET)))))⟩
  ·(try simp only [sd, se] at c2)
   refine As ?_
   refine Aq ?_
   refine Ap Ao Ao (Av EM Ao Ao) ?_
   refine Ap Ao Ao (Ax (i := 0) Uf Ao Ao (J8 _)) ?_
   refine Ap Ao Ao (Co Ao) ?_
   refine Ap Ao Ao (At Ao) ?_
   refine Au Ao ?_
   refine A4 Ao (fun c3 => ?_) (fun c3 => ?_)
   ·(try simp only [sd, se] at c3)
    refine As ?_
    refine DU [.val (.ptr p 0), .val (.ptr p 0), .val (.agg ((Ba (DA (BF.mk BA A6 A8 A9 BC BB thm))).map .p)), .val (.ptr b7 (0 + 0)), .val (.agg ((Ba ((CZ (BF.mk BA A6 A8 A9 BC BB thm) f (l.take i)).left)).map .p)), .val (.ptr b7 (0 + 5)), .val (.agg ((Ba ((CZ (BF.mk BA A6 A8 A9 BC BB thm) f (l.take i)).right)).map .p)), .val (.ptr b9 (0 + 5)), .val (.agg ((Ba x.right).map .p)), .val (.ptr b7 (0 + 10)), .val (.agg ((Ba ((CZ (BF.mk BA A6 A8 A9 BC BB thm) f (l.take i)).proof)).map .p)), .val (.ptr b9 (0 + 10)), .val (.agg ((Ba x.proof).map .p)), .val (.p (.lst (BO [((CZ (BF.mk BA A6 A8 A9 BC BB thm) f (l.take i)).left), ((CZ (BF.mk BA A6 A8 A9 BC BB thm) f (l.take i)).right), x.right, ((CZ (BF.mk BA A6 A8 A9 BC BB thm) f (l.take i)).proof), x.proof]))), .val (.agg ((Ba (Gj ⟨#[69, 113, 46, 116, 114, 97, 110, 115]⟩ (DA (BF.mk BA A6 A8 A9 BC BB thm)) [((CZ (BF.mk BA A6 A8 A9 BC BB thm) f (l.take i)).left), ((CZ (BF.mk BA A6 A8 A9 BC BB thm) f (l.take i)).right), x.right, ((CZ (BF.mk BA A6 A8 A9 BC BB thm) f (l.take i)).proof), x.proof])).map .p)), .new [.p (I 0), .p (I 0), .p (.str ⟨#[]⟩), .p (.nils), .p (.nils)]] Dq Ao Ai Ai ?_
    refine BE Ao (fun Bs => Ar Ao) ?_
    refine BE Ao (fun Bs => Ar Ao) ?_
    refine BE Ao (fun Bs => CC [3] Ao (.inl ⟨Ao, Ao, Ao⟩) (IH p c BA A6 A8 A9 BC BB thm) ⟨_, _, Ao, Ao, Ao⟩ Al (aw (we Ao) (Ci))) ?_
    refine BE Ao (fun Bs => Av EM Ao Ao) ?_
    refine BE Ao (fun Bs => Bp (i := Bs.length + 1) BI Ao (Bn Ao) (Es _) (congrArg AV.agg (eq_left _))) ?_
    refine BE Ao (fun Bs => Av EM Ao Ao) ?_
    refine BE Ao (fun Bs => Bp (i := Bs.length + 1) BI Ao (Bn Ao) (EY _) (congrArg AV.agg (eq_right _))) ?_
    refine BE Ao (fun Bs => Av EM Ao Ao) ?_
    refine BE Ao (fun Bs => Bp (i := Bs.length + 0) BI Ao (Bn Ao) (EY _) (congrArg AV.agg (eq_right _))) ?_
    refine BE Ao (fun Bs => Av EM Ao Ao) ?_
    refine BE Ao (fun Bs => Bp (i := Bs.length + 1) BI Ao (Bn Ao) (I8 _) (congrArg AV.agg (IV _))) ?_
    refine BE Ao (fun Bs => Av EM Ao Ao) ?_
    refine BE Ao (fun Bs => Bp (i := Bs.length + 0) BI Ao (Bn Ao) (I8 _) (congrArg AV.agg (IV _))) ?_
    refine BE Ao (fun Bs => BN (rows := BO [((CZ (BF.mk BA A6 A8 A9 BC BB thm) f (l.take i)).left), ((CZ (BF.mk BA A6 A8 A9 BC BB thm) f (l.take i)).right), x.right, ((CZ (BF.mk BA A6 A8 A9 BC BB thm) f (l.take i)).proof), x.proof]) B4 B0 Ao Ao Ao Ao (Bv (B6 _)) (Cv _)) ?_
    refine BE Ao (fun Bs => CC [3] Ao (.inl ⟨Ao, Ao, Ao⟩) (MS p c BA A6 A8 A9 BC BB thm ⟨#[69, 113, 46, 116, 114, 97, 110, 115]⟩ (DA (BF.mk BA A6 A8 A9 BC BB thm)) [((CZ (BF.mk BA A6 A8 A9 BC BB thm) f (l.take i)).left), ((CZ (BF.mk BA A6 A8 A9 BC BB thm) f (l.take i)).right), x.right, ((CZ (BF.mk BA A6 A8 A9 BC BB thm) f (l.take i)).proof), x.proof] AM) ⟨_, _, Ao, Ao, Ao⟩ Al (aw (we Ao) (aw (we Ao) (aw (we Ao) (aw (we Ao) (Ci)))))) ?_
    refine Ea Ao (fun Bs => BG B0 Ao) fun b10 => ?_
    refine D6 ?_
    change AL _ _ _ 16 ⟨49, _, [.box b10 [.p (I 0), .p (I 0), .p (.str ⟨#[]⟩), .p (.nils), .p (.nils)], .box b9 ((B2 x).map .p), .box b7 ((B2 (CZ (BF.mk BA A6 A8 A9 BC BB thm) f (l.take i))).map .p), .box b6 [.p (I 0), .p (I 0), .p (.str ⟨#[]⟩), .p (.nils), .p (.nils), .p (I 0), .p (I 0), .p (.str ⟨#[]⟩), .p (.nils), .p (.nils), .p (I 0), .p (I 0), .p (.str ⟨#[]⟩), .p (.nils), .p (.nils), .p (.bool false)], .box p [.p (.str BA), .p (.str A6), .p (.str A8), .p (.str A9), .p (.str BC), .p (.str BB), .p (.lst (List.map CV thm)), .ptr c 0]], []⟩ _
    refine Ap Ao Ao (A1 (i := 0) BI Ao Ao Ao Af AX (B3 _)) ?_
    refine Au Ao ?_
    refine Aq ?_
    refine Ap Ao Ao (Av EM Ao Ao) ?_
    refine Ap Ao Ao (Bp (i := 2) BI Ao Ao (Es _) (congrArg AV.agg (eq_left _))) ?_
    refine Ap Ao Ao (Av EM Ao Ao) ?_
    refine Ap Ao Ao (Bp (i := 1) BI Ao Ao (EY _) (congrArg AV.agg (eq_right _))) ?_
    refine Ap Ao Ao (Aw (i := 0) BI Ao Ao Af) ?_
    refine Ap Ao Ao (Bi EM DW (X2 (l := ((CZ (BF.mk BA A6 A8 A9 BC BB thm) f (l.take i)).left)) (r := x.right) (q := (Gj ⟨#[69, 113, 46, 116, 114, 97, 110, 115]⟩ (DA (BF.mk BA A6 A8 A9 BC BB thm)) [((CZ (BF.mk BA A6 A8 A9 BC BB thm) f (l.take i)).left), ((CZ (BF.mk BA A6 A8 A9 BC BB thm) f (l.take i)).right), x.right, ((CZ (BF.mk BA A6 A8 A9 BC BB thm) f (l.take i)).proof), x.proof])) Ao Ao Ao Ao Ao)) ?_
    refine Ap Ao Ao (A1 (i := 2) Cb Ao Ao Ao Ae AW (CR _)) ?_
    refine Au Ao ?_
    refine Aq ?_
    refine Ap Ao Ao (CT Ao Ao Am Am) ?_
    refine Ap Ao Ao (Ar Ao) ?_
    refine Au Ao ?_
    refine ⟨(i + 1), AT, by omega, B8 ⟨we rfl, we rfl, we rfl, we rfl, we rfl, we rfl, trivial⟩ (leH (is := [2, 3, 4]) rfl (wl (ob (by rw [Jm hx]; simp [Jv, *]; try rfl)) (wl (oe rfl) (wl (oe rfl) (ET)))))⟩
   ·(try simp only [sd, se] at c3)
    refine BD ?_
    refine Aq ?_
    refine Ap Ao Ao (CT Ao Ao Am Am) ?_
    refine Ap Ao Ao (Ar Ao) ?_
    refine Au Ao ?_
    refine ⟨(i + 1), AT, by omega, B8 ⟨we rfl, we rfl, we rfl, we rfl, we rfl, we rfl, trivial⟩ (leH (is := [1, 2, 3]) rfl (wl (ob (by rw [Jm hx]; simp [Jv, *]; try rfl)) (wl (oe rfl) (wl (oe rfl) (ET)))))⟩
 ·(try simp only [sd, se] at c1)
  refine CL ?_
  refine As ?_
  refine Aq ?_
  refine Ap Ao Ao (Aw (i := 0) Cb Ao Ao Ae) ?_
  refine Ap Ao Ao (A1 (i := 1) Cb Ao Ao Ao Ae AW (CR _)) ?_
  refine Au Ao ?_
  refine A5 ?_
  refine ⟨Ao, _, _, ⟨_, _, Ao, (Bg (i := 1) Cb Ao Ao Ae), Ao⟩, (Cf (is := [2]) Ao), ?_⟩
  all_goals exact ⟨by show (.agg ((B2 (CZ (BF.mk BA A6 A8 A9 BC BB thm) f (l.take i))).map .p) : AV) = _; rw [show i = l.length by omega, List.take_length], rfl⟩
theorem Yr : Kg Tryz.prog 145 = true := by kernel_rfl
theorem WA : ∀ {σ : Type} (st : σ → Int → CM → σ) (HP : σ → List BL → Prop) (l b1 : Nat) (xs : List CM) (hy : ∀ s d n T, 0 ≤ d → xs[d.toNat]? = some n → HP s T → GZ Tryz.prog l [.p (I d), .agg ((CP n).map .p)] T (GB (.p (.bool true)) (HP (st s d n)))) (s : σ) (T0 : List BL), xs.length < Dp → HP s T0 → Bl Tryz.prog 156 [.fn (.yield l) [] [], .ptr b1 0] (.box b1 [.p (.lst (List.map CP xs))] :: T0) (GB (.tup []) (fun H => ∃ T, HP (Rz st xs xs.length s) T ∧ H = .box b1 [.p (.lst (List.map CP xs))] :: T)) := by
 intro σ st HP l b1 xs hy s T0 h1 h2
 simp only [Dp] at h1
 refine A3 Tryz.func156 Ao Xj (n := 19) Ao Ao ?_
 refine As ?_
 refine Aq ?_
 refine Ap Ao Ao (Ax (i := 0) YP Ao Ao Ao) ?_
 refine Ap Ao Ao (Bx EO Ao (List.length_map _)) ?_
 refine Ap Ao Ao (Ed Ao Ao Am Am) ?_
 refine Ap Ao Ao (At Ao) ?_
 refine Au Ao ?_
 refine BU ?_
 refine CS (α := Nat × σ × List BL) (fun (m, q, U) => ⟨19, mk [(0, .fn (.yield l) [] []), (1, .ptr b1 0), (3, .p (I ((m : Int) - 1)))], (.box b1 [.p (.lst (List.map CP xs))] :: U), []⟩) (fun (m, q, U) => m) (fun (m, q, U) => m ≤ xs.length ∧ Rz st xs m q = Rz st xs xs.length s ∧ HP q U) ⟨xs.length, s, T0⟩ (⟨by omega, rfl, h2⟩) ?_ ?_
 ·exact B8 ⟨we Ao, we Ao, we Ao, trivial⟩ (Oo [0] [_] (l' := [_]) Ao (wl (oe Ao) (ET)))
 rintro ⟨m, q, U⟩ hC
 try simp only at hC
 obtain ⟨hm, hB, hK⟩ := hC
 refine As ?_
 refine As ?_
 refine Aq ?_
 refine Ap Ao Ao (Ar Ao) ?_
 refine Ap Ao Ao (A7 Ao Ao Ao) ?_
 refine Au Ao ?_
 refine A4 Ao (fun c => ?_) (fun c => ?_)
 ·(try simp only [sd, se] at c)
  refine BD ?_
  refine As ?_
  refine BU ?_
  refine As ?_
  refine Aq ?_
  refine Ap Ao Ao (Ar Ao) ?_
  refine Ap Ao Ao (Ar Ao) ?_
  refine Ap Ao Ao (Ax (i := 0) YP Ao Ao Ao) ?_
  refine Ap Ao Ao (Ar Ao) ?_
  obtain ⟨x, hx⟩ := BM (l := xs) (i := ((m : Int) - 1 : Int).toNat) Am
  refine Ap Ao Ao (BJ EO Ao Ao Am (Df hx) (Ao)) ?_
  refine Ap Ao Ao (Be GN Ao (Ao)) ?_
  refine JI [_] Ao Ao Ao Ao (hy q _ _ _ Am hx hK) Ao ?_ (fun _ _ h => h.elim)
  rintro _ T ⟨rfl, hT⟩
  refine Ap Ao Ao (Co Ao) ?_
  refine Au Ao ?_
  refine A4 Ao (fun c1 => by cases c1) (fun c1 => ?_)
  refine BD ?_
  refine Aq ?_
  refine Ap Ao Ao (Ar Ao) ?_
  refine Ap Ao Ao (Ed Ao Ao Am Am) ?_
  refine Ap Ao Ao (At Ao) ?_
  refine Au Ao ?_
  refine ⟨⟨m - 1, st q ((m : Int) - 1) x, T⟩, AT, ⟨by omega, by rw [← hB]; exact Ta hx Am, by assumption⟩, B8 ⟨we rfl, we rfl, we (pI Am), trivial⟩ (Oo [0] [_] (l' := [_]) rfl (wl (oe rfl) (ET)))⟩
 ·(try simp only [sd, se] at c)
  refine CL ?_
  refine ⟨Ao, _, _, Ao, (F9 [0] [_] Ao), ?_⟩
  rw [← hB, show m = 0 by omega]
  exact ⟨Ao, _, hK, Ao⟩
theorem Xk : ∀ (xs : List CM), Bl Tryz.prog 145 [.p (.lst (List.map CP xs))] [] (fun r H' => ∃ b, r = .val (.fn (.func 156) [] [.ptr b 0]) ∧ H' = [.box b [.p (.lst (List.map CP xs))]]) := by
 intro xs
 refine A3 Tryz.func145 Ao Wo (n := 4) Ao Ao ?_
 refine As ?_
 refine Aq ?_
 refine BH Ao Ao (Bb Ao) fun b1 => ?_
 refine Ap Ao Ao (At Ao) ?_
 refine Au Ao ?_
 refine As ?_
 refine Aq ?_
 refine Ap Ao Ao (Cy Ao Ao) ?_
 refine Ap Ao Ao (At Ao) ?_
 refine Au Ao ?_
 refine A5 ?_
 refine ⟨Ao, _, _, ⟨_, _, Ao, Ao, Ao⟩, (Cf (is := [0]) Ao), ?_⟩
 exact ⟨_, Ao, Ao⟩
theorem KL : ∀ (p c : Nat) (BA A6 A8 A9 BC BB : ByteArray) (thm : List ByteArray) (m : Nat) (cs : List Int) (A : List Tm) (al : Int) (x : CM), (Fm A x) → Bl Tryz.prog 125 [.ptr p 0, .agg ((CP x).map .p)] [.box p [.p (.str BA), .p (.str A6), .p (.str A8), .p (.str A9), .p (.str BC), .p (.str BB), .p (.lst (List.map CV thm)), .ptr c 0], .box c [.p (.lst (List.map Ca cs)), .p (.lst (BO A)), .map m, .p (I al)]] (DG (.agg ((Ba (CU (BF.mk BA A6 A8 A9 BC BB thm) A x)).map .p)) [.box p [.p (.str BA), .p (.str A6), .p (.str A8), .p (.str A9), .p (.str BC), .p (.str BB), .p (.lst (List.map CV thm)), .ptr c 0], .box c [.p (.lst (List.map Ca cs)), .p (.lst (BO A)), .map m, .p (I al)]]) := by
 intro p c BA A6 A8 A9 BC BB thm m cs A al x h1
 obtain ⟨xp, xm⟩ := x
 simp only [Fm] at h1
 refine A3 Tryz.func125 Ao YT (n := 23) Ao Ao ?_
 refine As ?_
 refine Aq ?_
 refine BH Ao Ao (Bb Ao) fun b3 => ?_
 refine BH Ao Ao (BG B0 Ao) fun b4 => ?_
 refine Au Ao ?_
 refine As ?_
 obtain ⟨x1, hx1⟩ := BM (l := A) (i := (xp : Int).toNat) Am
 refine DU [.val (.ptr p 0), .val (.ptr p 0), .val (.ptr p (0 + 7)), .val (.ptr c 0), .val (.ptr c 0), .val (.ptr c (0 + 1)), .val (.p (.lst (BO A))), .val (.ptr b3 (0 + 0)), .val (.p (I xp)), .val (.ref (Ba x1)), .val (.agg ((Ba x1).map .p)), .new [.p (I 0), .p (I 0), .p (.str ⟨#[]⟩), .p (.nils), .p (.nils)]] Dq Ao Ai Ai ?_
 refine BE Ao (fun Bs => Ar Ao) ?_
 refine BE Ao (fun Bs => BT Ao) ?_
 refine BE Ao (fun Bs => Av Gq Ao Ao) ?_
 refine BE Ao (fun Bs => Ax (i := Bs.length + 2) UG Ao (Bn Ao) Ao) ?_
 refine BE Ao (fun Bs => BT Ao) ?_
 refine BE Ao (fun Bs => Av Gk Ao Ao) ?_
 refine BE Ao (fun Bs => Ax (i := Bs.length + 3) DC Ao (Bn Ao) Ao) ?_
 refine BE Ao (fun Bs => Av HE Ao Ao) ?_
 refine BE Ao (fun Bs => Ax (i := Bs.length + 1) DQ Ao (Bn Ao) Ao) ?_
 refine BE Ao (fun Bs => BJ B4 Ao Ao Am (B9 hx1) (Bh _)) ?_
 refine BE Ao (fun Bs => Be BI Ao (Bh _)) ?_
 refine Ea Ao (fun Bs => BG B0 Ao) fun b5 => ?_
 refine D6 ?_
 change AL _ _ _ 12 ⟨23, _, [.box b5 [.p (I 0), .p (I 0), .p (.str ⟨#[]⟩), .p (.nils), .p (.nils)], .box b4 [.p (I 0), .p (I 0), .p (.str ⟨#[]⟩), .p (.nils), .p (.nils)], .box b3 [.p (I xp), .p (.bool xm)], .box p [.p (.str BA), .p (.str A6), .p (.str A8), .p (.str A9), .p (.str BC), .p (.str BB), .p (.lst (List.map CV thm)), .ptr c 0], .box c [.p (.lst (List.map Ca cs)), .p (.lst (BO A)), .map m, .p (I al)]], []⟩ _
 refine Ap Ao Ao (A1 (i := 0) BI Ao Ao Ao Af AX (B3 _)) ?_
 refine Au Ao ?_
 refine As ?_
 refine As ?_
 refine Aq ?_
 refine Ap Ao Ao (Av HE Ao Ao) ?_
 refine Ap Ao Ao (Ax (i := 2) Uf Ao Ao Ao) ?_
 refine Au Ao ?_
 refine A4 Ao (fun c1 => ?_) (fun c1 => ?_)
 ·(try simp only [sd, se] at c1)
  refine As ?_
  refine Aq ?_
  refine Ap Ao Ao (Ar Ao) ?_
  refine Ap Ao Ao (Aw (i := 0) BI Ao Ao Af) ?_
  refine Ap Ao Ao (CH [3] Ao (.inl ⟨Ao, Ao, Ao⟩) (GW p c BA A6 A8 A9 BC BB thm x1) ⟨_, _, Ao, Ao, Ao⟩ Al Ao (.inl Ao)) ?_
  refine Ap Ao Ao (A1 (i := 1) BI Ao Ao Ao Af AX (B3 _)) ?_
  refine Au Ao ?_
  refine A5 ?_
  refine ⟨Ao, _, _, ⟨_, _, Ao, (Bg (i := 1) BI Ao Ao Af), Ao⟩, (Cf (is := [3, 4]) Ao), ?_⟩
  simp only [CU]; rw [if_pos c1, Cm hx1]
  all_goals exact ⟨rfl, rfl⟩
 ·(try simp only [sd, se] at c1)
  refine BD ?_
  refine As ?_
  refine Aq ?_
  refine Ap Ao Ao (Aw (i := 0) BI Ao Ao Af) ?_
  refine Ap Ao Ao (A1 (i := 1) BI Ao Ao Ao Af AX (B3 _)) ?_
  refine Au Ao ?_
  refine A5 ?_
  refine ⟨Ao, _, _, ⟨_, _, Ao, (Bg (i := 1) BI Ao Ao Af), Ao⟩, (Cf (is := [3, 4]) Ao), ?_⟩
  simp only [CU]; rw [if_neg (by rw [c1]; decide), Cm hx1]
  all_goals exact ⟨rfl, rfl⟩
theorem RU : ∀ (p c : Nat) (BA A6 A8 A9 BC BB : ByteArray) (thm : List ByteArray) (m : Nat) (cs : List Int) (A : List Tm) (al : Int) (x : CM), (Fm A x) → (thm.length = 14) → Bl Tryz.prog 146 [.ptr p 0, .agg ((CP x).map .p)] [.box p [.p (.str BA), .p (.str A6), .p (.str A8), .p (.str A9), .p (.str BC), .p (.str BB), .p (.lst (List.map CV thm)), .ptr c 0], .box c [.p (.lst (List.map Ca cs)), .p (.lst (BO A)), .map m, .p (I al)]] (DG (.agg ((B2 (Gi (BF.mk BA A6 A8 A9 BC BB thm) A x)).map .p)) [.box p [.p (.str BA), .p (.str A6), .p (.str A8), .p (.str A9), .p (.str BC), .p (.str BB), .p (.lst (List.map CV thm)), .ptr c 0], .box c [.p (.lst (List.map Ca cs)), .p (.lst (BO A)), .map m, .p (I al)]]) := by
 intro p c BA A6 A8 A9 BC BB thm m cs A al x h1 h2
 obtain ⟨xp, xm⟩ := x
 simp only [Fm] at h1
 refine A3 Tryz.func146 Ao XD (n := 47) Ao Ao ?_
 refine As ?_
 refine Aq ?_
 refine BH Ao Ao (Bb Ao) fun b3 => ?_
 refine BH Ao Ao (BG DW Ao) fun b4 => ?_
 refine Au Ao ?_
 refine As ?_
 obtain ⟨x1, hx1⟩ := BM (l := A) (i := (xp : Int).toNat) Am
 refine DU [.val (.ptr p 0), .val (.ptr p 0), .val (.ptr p (0 + 7)), .val (.ptr c 0), .val (.ptr c 0), .val (.ptr c (0 + 1)), .val (.p (.lst (BO A))), .val (.ptr b3 (0 + 0)), .val (.p (I xp)), .val (.ref (Ba x1)), .val (.agg ((Ba x1).map .p)), .new [.p (I 0), .p (I 0), .p (.str ⟨#[]⟩), .p (.nils), .p (.nils)]] Dq Ao Ai Ai ?_
 refine BE Ao (fun Bs => Ar Ao) ?_
 refine BE Ao (fun Bs => BT Ao) ?_
 refine BE Ao (fun Bs => Av Gq Ao Ao) ?_
 refine BE Ao (fun Bs => Ax (i := Bs.length + 2) UG Ao (Bn Ao) Ao) ?_
 refine BE Ao (fun Bs => BT Ao) ?_
 refine BE Ao (fun Bs => Av Gk Ao Ao) ?_
 refine BE Ao (fun Bs => Ax (i := Bs.length + 3) DC Ao (Bn Ao) Ao) ?_
 refine BE Ao (fun Bs => Av HE Ao Ao) ?_
 refine BE Ao (fun Bs => Ax (i := Bs.length + 1) DQ Ao (Bn Ao) Ao) ?_
 refine BE Ao (fun Bs => BJ B4 Ao Ao Am (B9 hx1) (Bh _)) ?_
 refine BE Ao (fun Bs => Be BI Ao (Bh _)) ?_
 refine Ea Ao (fun Bs => BG B0 Ao) fun b5 => ?_
 refine D6 ?_
 change AL _ _ _ 12 ⟨47, _, [.box b5 [.p (I 0), .p (I 0), .p (.str ⟨#[]⟩), .p (.nils), .p (.nils)], .box b4 [.p (I 0), .p (I 0), .p (.str ⟨#[]⟩), .p (.nils), .p (.nils), .p (I 0), .p (I 0), .p (.str ⟨#[]⟩), .p (.nils), .p (.nils), .p (I 0), .p (I 0), .p (.str ⟨#[]⟩), .p (.nils), .p (.nils), .p (.bool false)], .box b3 [.p (I xp), .p (.bool xm)], .box p [.p (.str BA), .p (.str A6), .p (.str A8), .p (.str A9), .p (.str BC), .p (.str BB), .p (.lst (List.map CV thm)), .ptr c 0], .box c [.p (.lst (List.map Ca cs)), .p (.lst (BO A)), .map m, .p (I al)]], []⟩ _
 refine Ap Ao Ao (A1 (i := 0) BI Ao Ao Ao Af AX (B3 _)) ?_
 refine Au Ao ?_
 refine As ?_
 refine DU [.val (.ptr p 0), .val (.ptr p 0), .val (.ptr p 0), .val (.agg ((Ba x1).map .p)), .val (.agg ((Ba (CX (BF.mk BA A6 A8 A9 BC BB thm) x1)).map .p)), .val (.agg ((Ba x1).map .p)), .val (.agg ((Ba (CI (BF.mk BA A6 A8 A9 BC BB thm) (CX (BF.mk BA A6 A8 A9 BC BB thm) x1) x1)).map .p)), .val (.ptr p 0), .val (.ptr p 0), .val (.ptr p (0 + 0)), .val (.ptr p (0 + 2)), .val (.p (.str A8)), .val (.agg ((Ba (BP A8 [])).map .p)), .val (.agg ((Ba x1).map .p)), .val (.p (.lst (BO [x1]))), .val (.agg ((B2 (EH (BF.mk BA A6 A8 A9 BC BB thm) 3 (CI (BF.mk BA A6 A8 A9 BC BB thm) (CX (BF.mk BA A6 A8 A9 BC BB thm) x1) x1) (BP A8 []) [x1])).map .p)), .new [.p (I 0), .p (I 0), .p (.str ⟨#[]⟩), .p (.nils), .p (.nils), .p (I 0), .p (I 0), .p (.str ⟨#[]⟩), .p (.nils), .p (.nils), .p (I 0), .p (I 0), .p (.str ⟨#[]⟩), .p (.nils), .p (.nils), .p (.bool false)]] Dq Ao Ai Ai ?_
 refine BE Ao (fun Bs => Ar Ao) ?_
 refine BE Ao (fun Bs => Ar Ao) ?_
 refine BE Ao (fun Bs => Ar Ao) ?_
 refine BE Ao (fun Bs => Aw (i := Bs.length + 0) BI Ao (Bn Ao) Af) ?_
 refine BE Ao (fun Bs => CC [3] Ao (.inl ⟨Ao, Ao, Ao⟩) (GW p c BA A6 A8 A9 BC BB thm x1) ⟨_, _, Ao, Ao, Ao⟩ Al (aw (we Ao) (aw (we Ao) (Ci)))) ?_
 refine BE Ao (fun Bs => Aw (i := Bs.length + 0) BI Ao (Bn Ao) Af) ?_
 refine BE Ao (fun Bs => CC [3] Ao (.inl ⟨Ao, Ao, Ao⟩) (D3 p c BA A6 A8 A9 BC BB thm (CX (BF.mk BA A6 A8 A9 BC BB thm) x1) x1) ⟨_, _, Ao, Ao, Ao⟩ Al (aw (we Ao) (aw (we Ao) (aw (we Ao) (Ci))))) ?_
 refine BE Ao (fun Bs => Ar Ao) ?_
 refine BE Ao (fun Bs => BT Ao) ?_
 refine BE Ao (fun Bs => Av Gq Ao Ao) ?_
 refine BE Ao (fun Bs => Av Du Ao Ao) ?_
 refine BE Ao (fun Bs => Ax (i := Bs.length + 3) GO Ao (Bn Ao) Ao) ?_
 refine BE Ao (fun Bs => C0 Ao Ao (Dz A8 [] AI) (aw (we Ao) (aw (Cc Ao) (Ci)))) ?_
 refine BE Ao (fun Bs => Aw (i := Bs.length + 0) BI Ao (Bn Ao) Af) ?_
 refine BE Ao (fun Bs => BN (rows := BO [x1]) B4 B0 Ao Ao Ao Ao (Bv (B6 _)) (Cv _)) ?_
 refine BE Ao (fun Bs => CC [3] Ao (.inl ⟨Ao, Ao, Ao⟩) (Il p c BA A6 A8 A9 BC BB thm 3 (CI (BF.mk BA A6 A8 A9 BC BB thm) (CX (BF.mk BA A6 A8 A9 BC BB thm) x1) x1) (BP A8 []) [x1] ⟨by decide, by rw [h2]; decide⟩ AM) ⟨_, _, rfl, rfl, rfl⟩ Al (aw (we rfl) (aw (we rfl) (aw (we rfl) (aw (we rfl) (aw (we rfl) (Ci))))))) ?_
 refine Ea Ao (fun Bs => BG DW Ao) fun b6 => ?_
 refine D6 ?_
 change AL _ _ _ 17 ⟨47, _, [.box b6 [.p (I 0), .p (I 0), .p (.str ⟨#[]⟩), .p (.nils), .p (.nils), .p (I 0), .p (I 0), .p (.str ⟨#[]⟩), .p (.nils), .p (.nils), .p (I 0), .p (I 0), .p (.str ⟨#[]⟩), .p (.nils), .p (.nils), .p (.bool false)], .box b5 ((Ba x1).map .p), .box b4 [.p (I 0), .p (I 0), .p (.str ⟨#[]⟩), .p (.nils), .p (.nils), .p (I 0), .p (I 0), .p (.str ⟨#[]⟩), .p (.nils), .p (.nils), .p (I 0), .p (I 0), .p (.str ⟨#[]⟩), .p (.nils), .p (.nils), .p (.bool false)], .box b3 [.p (I xp), .p (.bool xm)], .box p [.p (.str BA), .p (.str A6), .p (.str A8), .p (.str A9), .p (.str BC), .p (.str BB), .p (.lst (List.map CV thm)), .ptr c 0], .box c [.p (.lst (List.map Ca cs)), .p (.lst (BO A)), .map m, .p (I al)]], []⟩ _
 refine Ap Ao Ao (A1 (i := 0) Cb Ao Ao Ao Ae AW (CR _)) ?_
 refine Au Ao ?_
 refine As ?_
 refine As ?_
 refine Aq ?_
 refine Ap Ao Ao (Av HE Ao Ao) ?_
 refine Ap Ao Ao (Ax (i := 3) Uf Ao Ao Ao) ?_
 refine Au Ao ?_
 refine A4 Ao (fun c1 => ?_) (fun c1 => ?_)
 ·(try simp only [sd, se] at c1)
  refine As ?_
  refine Aq ?_
  refine Ap Ao Ao (Aw (i := 0) Cb Ao Ao Ae) ?_
  refine Ap Ao Ao (A1 (i := 2) Cb Ao Ao Ao Ae AW (CR _)) ?_
  refine Au Ao ?_
  refine A5 ?_
  refine ⟨Ao, _, _, ⟨_, _, Ao, (Bg (i := 2) Cb Ao Ao Ae), Ao⟩, (Cf (is := [4, 5]) Ao), ?_⟩
  simp only [Gi]; rw [if_pos c1, Cm hx1]
  all_goals exact ⟨rfl, rfl⟩
 ·(try simp only [sd, se] at c1)
  refine BD ?_
  refine As ?_
  refine CJ (fun k => false) Dq ?_
  refine Ay Ao Ao (fun _ => Ar Ao) trivial ?_
  refine Ay Ao Ao (fun _ => Ar Ao) trivial ?_
  refine BK (j := 1) rfl rfl rfl (fun H i hi => Aw (i := i) BI rfl hi Af) (by repeat' first | exact trivial | refine And.intro ?_ ?_ | ((refine Or.inr (And.intro ?_ ?_) <;> repeat (first | exact List.Mem.head _ | apply List.Mem.tail)); done) | exact Or.inl Ai) trivial ?_
  refine Ay Ao Ao (fun _ => Ar Ao) trivial ?_
  refine BK (j := 1) rfl rfl rfl (fun H i hi => Aw (i := i) BI rfl hi Af) (by repeat' first | exact trivial | refine And.intro ?_ ?_ | ((refine Or.inr (And.intro ?_ ?_) <;> repeat (first | exact List.Mem.head _ | apply List.Mem.tail)); done) | exact Or.inl Ai) trivial ?_
  refine B1 [4] rfl rfl rfl (.inl ⟨rfl, rfl, rfl⟩) (GW p c BA A6 A8 A9 BC BB thm x1) ⟨_, _, rfl, rfl, rfl⟩ (Ce _) (aw (we rfl) (aw (we rfl) (Ci))) (by repeat' first | exact trivial | refine And.intro ?_ ?_ | ((refine Or.inr (And.intro ?_ ?_) <;> repeat (first | exact List.Mem.head _ | apply List.Mem.tail)); done) | exact Or.inl Ai) trivial ?_
  refine B1 [4] rfl rfl rfl (.inl ⟨rfl, rfl, rfl⟩) (Od p c BA A6 A8 A9 BC BB thm x1 (CX (BF.mk BA A6 A8 A9 BC BB thm) x1) h2) ⟨_, _, rfl, rfl, rfl⟩ (Ce _) (aw (we rfl) (aw (we rfl) (aw (we rfl) (Ci)))) (by repeat' first | exact trivial | refine And.intro ?_ ?_ | ((refine Or.inr (And.intro ?_ ?_) <;> repeat (first | exact List.Mem.head _ | apply List.Mem.tail)); done) | exact Or.inl Ai) trivial ?_
  refine BK (j := 0) rfl rfl rfl (fun H i hi => Aw (i := i) Cb rfl hi Ae) (by repeat' first | exact trivial | refine And.intro ?_ ?_ | ((refine Or.inr (And.intro ?_ ?_) <;> repeat (first | exact List.Mem.head _ | apply List.Mem.tail)); done) | exact Or.inl Ai) trivial ?_
  refine Ay Ao Ao (fun _ => BN (rows := List.map B2 ([(EH (BF.mk BA A6 A8 A9 BC BB thm) 3 (CI (BF.mk BA A6 A8 A9 BC BB thm) (CX (BF.mk BA A6 A8 A9 BC BB thm) x1) x1) (BP A8 []) [x1])])) I1 DW Ao Ao Ao Ao (Bv (Ev _)) (H4 _)) trivial ?_
  refine B1 [4] rfl rfl rfl (.inl ⟨rfl, rfl, rfl⟩) (FN p c BA A6 A8 A9 BC BB thm (GD (BF.mk BA A6 A8 A9 BC BB thm) x1 (CX (BF.mk BA A6 A8 A9 BC BB thm) x1)) ([(EH (BF.mk BA A6 A8 A9 BC BB thm) 3 (CI (BF.mk BA A6 A8 A9 BC BB thm) (CX (BF.mk BA A6 A8 A9 BC BB thm) x1) x1) (BP A8 []) [x1])]) AM) ⟨_, _, rfl, rfl, rfl⟩ (Ce _) (aw (we rfl) (aw (we rfl) (aw (we rfl) (Ci)))) (by repeat' first | exact trivial | refine And.intro ?_ ?_ | ((refine Or.inr (And.intro ?_ ?_) <;> repeat (first | exact List.Mem.head _ | apply List.Mem.tail)); done) | exact Or.inl Ai) trivial ?_
  refine Cd rfl rfl (A1 (i := 2) Cb rfl rfl rfl Ae AW (CR _)) (by repeat' first | exact trivial | refine And.intro ?_ ?_ | ((refine Or.inr (And.intro ?_ ?_) <;> repeat (first | exact List.Mem.head _ | apply List.Mem.tail)); done) | exact Or.inl Ai) trivial ?_
  refine CA Ao Ai ?_
  refine A5 ?_
  refine ⟨Ao, _, _, ⟨_, _, Ao, (Bg (i := 2) Cb Ao Ao Ae), Ao⟩, (Cf (is := [4, 5]) Ao), ?_⟩
  simp only [Gi]; rw [if_neg (by rw [c1]; decide), Cm hx1]
  all_goals exact ⟨rfl, rfl⟩
theorem IS : ∀ (p c : Nat) (BA A6 A8 A9 BC BB : ByteArray) (thm : List ByteArray) (m : Nat) (cs : List Int) (A : List Tm) (al : Int) (us : List CM), (us.length < Dp) → (∀ y ∈ us, Fm A y) → Bl Tryz.prog 124 [.ptr p 0, .p (.lst (List.map CP us))] [.box p [.p (.str BA), .p (.str A6), .p (.str A8), .p (.str A9), .p (.str BC), .p (.str BB), .p (.lst (List.map CV thm)), .ptr c 0], .box c [.p (.lst (List.map Ca cs)), .p (.lst (BO A)), .map m, .p (I al)]] (DG (.agg ((Ba (BS (BF.mk BA A6 A8 A9 BC BB thm) A us)).map .p)) [.box p [.p (.str BA), .p (.str A6), .p (.str A8), .p (.str A9), .p (.str BC), .p (.str BB), .p (.lst (List.map CV thm)), .ptr c 0], .box c [.p (.lst (List.map Ca cs)), .p (.lst (BO A)), .map m, .p (I al)]]) := by
 intro p c BA A6 A8 A9 BC BB thm m cs A al us h1 h2
 refine FR Tryz.func124 Ao YU (n := 25) Ao Ao ?_
 refine As ?_
 refine Aq ?_
 refine BH Ao Ao (Bb Ao) fun b2 => ?_
 refine BH Ao Ao (BG B0 Ao) fun b4 => ?_
 refine Au Ao ?_
 refine As ?_
 refine Aq ?_
 refine Ap Ao Ao (Ax (i := 1) HK Ao Ao Ao) ?_
 refine Ap Ao Ao (BT Ao) ?_
 refine Ap Ao Ao (Av Gq Ao Ao) ?_
 refine Ap Ao Ao (Av Du Ao Ao) ?_
 refine Ap Ao Ao (Ax (i := 2) GO Ao Ao Ao) ?_
 refine Ap Ao Ao (C0 Ao Ao (Dz A8 [] AI) (aw (we Ao) (aw (Cc Ao) (Ci)))) ?_
 refine BH Ao Ao (BG B0 Ao) fun b5 => ?_
 refine Ap Ao Ao (A1 (i := 0) BI Ao Ao Ao Af AX (B3 _)) ?_
 refine Au Ao ?_
 refine As ?_
 refine As ?_
 refine Aq ?_
 refine Ap Ao Ao (Ar Ao) ?_
 refine Lk [] Ao Ao Ao (.inl ⟨Ao, Ao, Ao⟩) (Xk us) Ao An (aw (we Ao) Ci) ?_ (fun _ _ ⟨_, h, _⟩ => by cases h)
 rintro _ _ ⟨bn, h, rfl⟩
 cases h
 refine Au Ao ?_
 refine BU ?_
 refine Hz (.inr Ao) fun dd l L hL => ?_
 refine ⟨_, _, Cj (is := [2, 0, 5, 6, 7, 3]) Al ⟨_, _, Ao, Ao, ⟨_, _, Ao, Ao, ⟨_, _, Ao, Ao, ⟨_, _, Ao, Ao, ⟨_, _, Ao, Ao, ⟨_, _, Ao, Ao, Ao⟩⟩⟩⟩⟩⟩, ?_⟩
 have hy : ∀ (s : Tm) (d : Int) (t : CM) (T : List BL), 0 ≤ d → us[d.toNat]? = some t → (fun (s : Tm) (T : List BL) => T = [.loop l L, .box b2 [.ptr p 0], .box p [.p (.str BA), .p (.str A6), .p (.str A8), .p (.str A9), .p (.str BC), .p (.str BB), .p (.lst (List.map CV thm)), .ptr c 0], .box c [.p (.lst (List.map Ca cs)), .p (.lst (BO A)), .map m, .p (I al)], .box b5 ((Ba s).map .p)]) s T → GZ Tryz.prog l [.p (I d), .agg ((CP t).map .p)] T (GB (.p (.bool true)) ((fun (s : Tm) (T : List BL) => T = [.loop l L, .box b2 [.ptr p 0], .box p [.p (.str BA), .p (.str A6), .p (.str A8), .p (.str A9), .p (.str BC), .p (.str BB), .p (.lst (List.map CV thm)), .ptr c 0], .box c [.p (.lst (List.map Ca cs)), .p (.lst (BO A)), .map m, .p (I al)], .box b5 ((Ba s).map .p)]) ((PY (BF.mk BA A6 A8 A9 BC BB thm) A) s d t))) := by
  rintro s d tt T hd hxt rfl
  obtain ⟨LB, hLB⟩ : ∃ x, x = BL.loop l { L with state := .busy } := ⟨_, rfl⟩
  subst hL
  refine I4 (i := 0) Ao Ao Ao Ao ?_
  refine Aq ?_
  refine BH Ao Ao (BG Hh Ao) fun b7 => ?_
  refine Ap Ao Ao (A1 (i := 0) GN Ao Ao Ao Ao Ao (UF _)) ?_
  refine Au Ao ?_
  refine ⟨Ao, 1, Ao, ?_⟩
  rw [← hLB]
  refine BU ?_
  refine CJ (fun k => false) Dq ?_
  refine BK (j := 2) rfl rfl rfl (fun H i hi => Ax (i := i) HK rfl hi rfl) (by repeat' first | exact trivial | refine And.intro ?_ ?_ | ((refine Or.inr (And.intro ?_ ?_) <;> repeat (first | exact List.Mem.head _ | apply List.Mem.tail)); done) | exact Or.inl Ai) trivial ?_
  refine BK (j := 2) rfl rfl rfl (fun H i hi => Ax (i := i) HK rfl hi rfl) (by repeat' first | exact trivial | refine And.intro ?_ ?_ | ((refine Or.inr (And.intro ?_ ?_) <;> repeat (first | exact List.Mem.head _ | apply List.Mem.tail)); done) | exact Or.inl Ai) trivial ?_
  refine BK (j := 0) rfl rfl rfl (fun H i hi => Aw (i := i) GN rfl hi rfl) (by repeat' first | exact trivial | refine And.intro ?_ ?_ | ((refine Or.inr (And.intro ?_ ?_) <;> repeat (first | exact List.Mem.head _ | apply List.Mem.tail)); done) | exact Or.inl Ai) trivial ?_
  refine B1 [3, 4] rfl rfl rfl (.inl ⟨rfl, rfl, rfl⟩) (KL p c BA A6 A8 A9 BC BB thm m cs A al tt (h2 _ (List.mem_of_getElem? hxt))) ⟨_, _, rfl, rfl, ⟨_, _, rfl, rfl, rfl⟩⟩ (OS (fun h => by injection h with h1 h2; exact absurd (congrArg List.length h2) An)) (aw (we rfl) (aw (we rfl) (Ci))) (by repeat' first | exact trivial | refine And.intro ?_ ?_ | ((refine Or.inr (And.intro ?_ ?_) <;> repeat (first | exact List.Mem.head _ | apply List.Mem.tail)); done) | exact Or.inl Ai) trivial ?_
  refine BK (j := 5) rfl rfl rfl (fun H i hi => Aw (i := i) BI rfl hi Af) (by repeat' first | exact trivial | refine And.intro ?_ ?_ | ((refine Or.inr (And.intro ?_ ?_) <;> repeat (first | exact List.Mem.head _ | apply List.Mem.tail)); done) | exact Or.inl Ai) trivial ?_
  refine B1 [3] rfl rfl rfl (.inl ⟨rfl, rfl, rfl⟩) (D3 p c BA A6 A8 A9 BC BB thm (CU (BF.mk BA A6 A8 A9 BC BB thm) A tt) s) ⟨_, _, rfl, rfl, rfl⟩ (Ce _) (aw (we rfl) (aw (we rfl) (aw (we rfl) (Ci)))) (by repeat' first | exact trivial | refine And.intro ?_ ?_ | ((refine Or.inr (And.intro ?_ ?_) <;> repeat (first | exact List.Mem.head _ | apply List.Mem.tail)); done) | exact Or.inl Ai) trivial ?_
  refine Cd rfl rfl (A1 (i := 5) BI rfl rfl rfl Af AX (B3 _)) (by repeat' first | exact trivial | refine And.intro ?_ ?_ | ((refine Or.inr (And.intro ?_ ?_) <;> repeat (first | exact List.Mem.head _ | apply List.Mem.tail)); done) | exact Or.inl Ai) trivial ?_
  refine CA Ao Ai ?_
  subst hLB
  refine ⟨1, _, Ao, Cf (is := [1, 2, 3, 4, 5]) Ao, ?_⟩
  exact ⟨Ao, Ao⟩
 refine (WA (PY (BF.mk BA A6 A8 A9 BC BB thm) A) (fun (s : Tm) (T : List BL) => T = [.loop l L, .box b2 [.ptr p 0], .box p [.p (.str BA), .p (.str A6), .p (.str A8), .p (.str A9), .p (.str BC), .p (.str BB), .p (.lst (List.map CV thm)), .ptr c 0], .box c [.p (.lst (List.map Ca cs)), .p (.lst (BO A)), .map m, .p (I al)], .box b5 ((Ba s).map .p)]) l bn us hy (BP A8 []) _ (h1) Ao).mono ?_
 rintro (v | v) H' hR
 rotate_left
 ·exact hR.elim
 obtain ⟨rfl, _, rfl, rfl⟩ := hR
 subst hL
 refine ⟨1, _, Ao, An, ?_⟩
 refine As ?_
 refine Aq ?_
 refine Ap Ao Ao (Aw (i := 4) BI Ao Ao Af) ?_
 refine Ap Ao Ao (A1 (i := 6) BI Ao Ao Ao Af AX (B3 _)) ?_
 refine Au Ao ?_
 refine A5 ?_
 refine ⟨5, Ao, _, _, ⟨_, _, Ao, (Bg (i := 5) BI Ao Ao Af), Ao⟩, (Cf (is := [2, 3]) Ao), ?_⟩
 all_goals exact ⟨by show (.agg ((Ba (Rz (PY (BF.mk BA A6 A8 A9 BC BB thm) A) us us.length (BP A8 []))).map .p) : AV) = _; rw [Rr], rfl⟩
theorem _root_.Go.AS {α : Prop} (h : α := by simp only [List.length_drop]; omega) : α := h
theorem _root_.Go.AQ {α : Prop} (h : α := by simp only [List.length_drop, Dp]; omega) : α := h
theorem _root_.Go.AP {α : Prop} (h : α := by simp only [Bt, List.length_map]; omega) : α := h
theorem Rw : ∀ (p c : Nat) (BA A6 A8 A9 BC BB : ByteArray) (thm : List ByteArray) (m : Nat) (cs : List Int) (A : List Tm) (al : Int) (x : CM) (n : Nat) (l : List CM), (l.length ≤ n) → (l.length < 1000000) → (Fm A x) → (∀ y ∈ l, Fm A y) → (thm.length = 14) → Bl Tryz.prog 126 [.ptr p 0, .agg ((CP x).map .p), .p (.lst (List.map CP l))] [.box p [.p (.str BA), .p (.str A6), .p (.str A8), .p (.str A9), .p (.str BC), .p (.str BB), .p (.lst (List.map CV thm)), .ptr c 0], .box c [.p (.lst (List.map Ca cs)), .p (.lst (BO A)), .map m, .p (I al)]] (DG (.tup [.agg ((B2 ((CW (BF.mk BA A6 A8 A9 BC BB thm) A x l).1)).map .p), .p (.lst (List.map CP ((CW (BF.mk BA A6 A8 A9 BC BB thm) A x l).2)))]) [.box p [.p (.str BA), .p (.str A6), .p (.str A8), .p (.str A9), .p (.str BC), .p (.str BB), .p (.lst (List.map CV thm)), .ptr c 0], .box c [.p (.lst (List.map Ca cs)), .p (.lst (BO A)), .map m, .p (I al)]]) := by
 intro p c BA A6 A8 A9 BC BB thm m cs A al x n
 induction n using Nat.strongRecOn with
 | ind n ih =>
  intro l h1 h2 h3 h4 h5
  obtain ⟨xp, xm⟩ := x
  refine A3 Tryz.func126 Ao X6 (n := 133) Ao Ao ?_
  refine As ?_
  refine Aq ?_
  refine BH Ao Ao (Bb Ao) fun b4 => ?_
  refine BH Ao Ao (BG DW Ao) fun b6 => ?_
  refine Ap Ao Ao (At Ao) ?_
  refine Au Ao ?_
  refine As ?_
  refine Aq ?_
  refine Ap Ao Ao (Ar Ao) ?_
  refine Ap Ao Ao (Aw (i := 1) GN Ao Ao Ao) ?_
  refine Ap Ao Ao (CH [2, 3] Ao (.inl ⟨Ao, Ao, Ao⟩) (KL p c BA A6 A8 A9 BC BB thm m cs A al (CM.mk xp xm) h3) ⟨_, _, Ao, Ao, ⟨_, _, Ao, Ao, Ao⟩⟩ Al Ao (.inl Ao)) ?_
  refine BH Ao Ao (BG B0 Ao) fun b8 => ?_
  refine Ap Ao Ao (A1 (i := 0) BI Ao Ao Ao Af AX (B3 _)) ?_
  refine Au Ao ?_
  refine As ?_
  refine DU [.val (.ptr p 0), .val (.agg ((Ba (CU (BF.mk BA A6 A8 A9 BC BB thm) A (CM.mk xp xm))).map .p)), .val (.ptr p 0), .val (.p (.lst (List.map CP l))), .val (.agg ((Ba (BS (BF.mk BA A6 A8 A9 BC BB thm) A l)).map .p)), .val (.agg ((Ba (CI (BF.mk BA A6 A8 A9 BC BB thm) (CU (BF.mk BA A6 A8 A9 BC BB thm) A (CM.mk xp xm)) (BS (BF.mk BA A6 A8 A9 BC BB thm) A l))).map .p)), .new [.p (I 0), .p (I 0), .p (.str ⟨#[]⟩), .p (.nils), .p (.nils)]] Dq Ao Ai Ai ?_
  refine BE Ao (fun Bs => Ar Ao) ?_
  refine BE Ao (fun Bs => Aw (i := Bs.length + 0) BI Ao (Bn Ao) Af) ?_
  refine BE Ao (fun Bs => Ar Ao) ?_
  refine BE Ao (fun Bs => Ar Ao) ?_
  refine BE Ao (fun Bs => CC [3, 4] Ao (.inl ⟨Ao, Ao, Ao⟩) (IS p c BA A6 A8 A9 BC BB thm m cs A al l Ab h4) ⟨_, _, Ao, Ao, ⟨_, _, Ao, Ao, Ao⟩⟩ Al (aw (we Ao) (aw (we Ao) (Ci)))) ?_
  refine BE Ao (fun Bs => CC [3] Ao (.inl ⟨Ao, Ao, Ao⟩) (D3 p c BA A6 A8 A9 BC BB thm (CU (BF.mk BA A6 A8 A9 BC BB thm) A (CM.mk xp xm)) (BS (BF.mk BA A6 A8 A9 BC BB thm) A l)) ⟨_, _, Ao, Ao, Ao⟩ Al (aw (we Ao) (aw (we Ao) (aw (we Ao) (Ci))))) ?_
  refine Ea Ao (fun Bs => BG B0 Ao) fun b9 => ?_
  refine D6 ?_
  change AL _ _ _ 7 ⟨133, _, [.box b9 [.p (I 0), .p (I 0), .p (.str ⟨#[]⟩), .p (.nils), .p (.nils)], .box b8 ((Ba (CU (BF.mk BA A6 A8 A9 BC BB thm) A (CM.mk xp xm))).map .p), .box b6 [.p (I 0), .p (I 0), .p (.str ⟨#[]⟩), .p (.nils), .p (.nils), .p (I 0), .p (I 0), .p (.str ⟨#[]⟩), .p (.nils), .p (.nils), .p (I 0), .p (I 0), .p (.str ⟨#[]⟩), .p (.nils), .p (.nils), .p (.bool false)], .box b4 [.p (I xp), .p (.bool xm)], .box p [.p (.str BA), .p (.str A6), .p (.str A8), .p (.str A9), .p (.str BC), .p (.str BB), .p (.lst (List.map CV thm)), .ptr c 0], .box c [.p (.lst (List.map Ca cs)), .p (.lst (BO A)), .map m, .p (I al)]], []⟩ _
  refine Ap Ao Ao (A1 (i := 0) BI Ao Ao Ao Af AX (B3 _)) ?_
  refine Au Ao ?_
  refine As ?_
  refine As ?_
  refine CB [0, 2, 4, 6, 8, 9] 42 (fun z => ∃ b : Bool, z = .p (.bool b) ∧ (b = true → (l = [] ∨ ∃ y, l[0]? = some y ∧ (xp < y.place ∨ (xp = y.place ∧ xm = y.minus)))) ∧ (b = false → ∃ y, l[0]? = some y ∧ ¬ (xp < y.place ∨ (xp = y.place ∧ xm = y.minus)))) ?_ ?_
  ·refine CJ (fun k => false) Dq ?_
   refine Ay Ao Ao (fun _ => Ar Ao) trivial ?_
   refine Ay Ao Ao (fun _ => Bx EO Ao (List.length_map _)) trivial ?_
   refine Ay Ao Ao (fun _ => A7 Ao Ao Ao) trivial ?_
   refine Ay Ao Ao (fun _ => Ar Ao) trivial ?_
   refine Jy 27 Ao (fun g => ?_) (fun g => ?_)
   ·(try simp only [sd, se] at g)
    refine CY Ao Ao Ao Ao Ao trivial ?_
    refine CY Ao Ao Ao Ao Ao trivial ?_
    refine CY Ao Ao Ao Ao Ao trivial ?_
    refine CY Ao Ao Ao Ao Ao trivial ?_
    refine CY Ao Ao Ao Ao Ao trivial ?_
    refine CY Ao Ao Ao Ao Ao trivial ?_
    refine CY Ao Ao Ao Ao Ao trivial ?_
    refine Ay Ao Ao (fun _ => A2 Ao Ao) trivial ?_
    refine Ay Ao Ao (fun _ => Ar Ao) trivial ?_
    refine CY Ao Ao Ao Ao Ao trivial ?_
    refine CY Ao Ao Ao Ao Ao trivial ?_
    refine CY Ao Ao Ao Ao Ao trivial ?_
    refine CY Ao Ao Ao Ao Ao trivial ?_
    refine CY Ao Ao Ao Ao Ao trivial ?_
    refine Ay Ao Ao (fun _ => A2 Ao Ao) trivial ?_
    refine CA Ao Ai ?_
    exact ⟨rfl, rfl, AG, (by first | (refine ⟨_, rfl, fun _ => .inl (List.length_eq_zero_iff.1 ?_), fun h => nomatch (h : true = false)⟩; omega) | (refine ⟨_, rfl, fun _ => .inr ⟨_, hy, .inl g1⟩, fun h => nomatch (h : true = false)⟩; done) | (refine ⟨_, rfl, fun h => .inr ⟨_, hy, .inr (Th h)⟩, fun h => ⟨_, hy, S3 (Int.not_lt.2 g1) h⟩⟩; done)), ⟨rfl, rfl, rfl, rfl, rfl, rfl, trivial⟩⟩
   ·(try simp only [sd, se] at g)
    refine CD Ao Ao Ao Ao (fun _ => Av HE Ao Ao) trivial ?_
    refine DF (i := 3) rfl rfl rfl rfl rfl (fun H i hi => Ax (i := i) DQ rfl hi rfl) (by repeat' first | exact trivial | refine And.intro ?_ ?_ | ((refine Or.inr (And.intro ?_ ?_) <;> repeat (first | exact List.Mem.head _ | apply List.Mem.tail)); done) | exact Or.inl Ai) trivial ?_
    refine CD Ao Ao Ao Ao (fun _ => Ar Ao) trivial ?_
    obtain ⟨y, hy⟩ := BM (l := l) (i := 0) Am
    refine CD Ao Ao Ao Ao (fun _ => BJ EO Ao Ao Am (Df hy) (Ao)) trivial ?_
    obtain ⟨yp, ym⟩ := y
    refine CD Ao Ao Ao Ao (fun _ => C3 HE Ao Ao) trivial ?_
    refine CD Ao Ao Ao Ao (fun _ => CG DQ Ao) trivial ?_
    refine CD Ao Ao Ao Ao (fun _ => A7 Ao Ao Ao) trivial ?_
    refine Ay Ao Ao (fun _ => A2 Ao Ao) trivial ?_
    refine Ay Ao Ao (fun _ => Ar Ao) trivial ?_
    refine Jy 36 Ao (fun g1 => ?_) (fun g1 => ?_)
    ·(try simp only [sd, se] at g1)
     refine CY Ao Ao Ao Ao Ao trivial ?_
     refine CY Ao Ao Ao Ao Ao trivial ?_
     refine CY Ao Ao Ao Ao Ao trivial ?_
     refine CY Ao Ao Ao Ao Ao trivial ?_
     refine CY Ao Ao Ao Ao Ao trivial ?_
     refine Ay Ao Ao (fun _ => A2 Ao Ao) trivial ?_
     refine CA Ao Ai ?_
     exact ⟨rfl, rfl, AG, (by first | (refine ⟨_, rfl, fun _ => .inl (List.length_eq_zero_iff.1 ?_), fun h => nomatch (h : true = false)⟩; omega) | (refine ⟨_, rfl, fun _ => .inr ⟨_, hy, .inl g1⟩, fun h => nomatch (h : true = false)⟩; done) | (refine ⟨_, rfl, fun h => .inr ⟨_, hy, .inr (Th h)⟩, fun h => ⟨_, hy, S3 (Int.not_lt.2 g1) h⟩⟩; done)), ⟨rfl, rfl, rfl, rfl, rfl, rfl, trivial⟩⟩
    ·(try simp only [sd, se] at g1)
     refine DF (i := 3) rfl rfl rfl rfl rfl (fun H i hi => Aw (i := i) GN rfl hi rfl) (by repeat' first | exact trivial | refine And.intro ?_ ?_ | ((refine Or.inr (And.intro ?_ ?_) <;> repeat (first | exact List.Mem.head _ | apply List.Mem.tail)); done) | exact Or.inl Ai) trivial ?_
     refine CD Ao Ao Ao Ao (fun _ => Ar Ao) trivial ?_
     refine CD Ao Ao Ao Ao (fun _ => BJ EO Ao Ao Am (Df hy) (Ao)) trivial ?_
     refine CD Ao Ao Ao Ao (fun _ => Ga (cs := [I yp, .bool ym]) GN Ao Ao Ao) trivial ?_
     refine CD Ao Ao Ao Ao (fun _ => Sj Yr Ao Ao) trivial ?_
     refine Ay Ao Ao (fun _ => A2 Ao Ao) trivial ?_
     refine CA Ao Ai ?_
     exact ⟨rfl, rfl, AG, (by first | (refine ⟨_, rfl, fun _ => .inl (List.length_eq_zero_iff.1 ?_), fun h => nomatch (h : true = false)⟩; omega) | (refine ⟨_, rfl, fun _ => .inr ⟨_, hy, .inl g1⟩, fun h => nomatch (h : true = false)⟩; done) | (refine ⟨_, rfl, fun h => .inr ⟨_, hy, .inr (Th h)⟩, fun h => ⟨_, hy, S3 (Int.not_lt.2 g1) h⟩⟩; done)), ⟨rfl, rfl, rfl, rfl, rfl, rfl, trivial⟩⟩
  rintro _ ⟨q, rfl, hqt, hqf⟩
  refine A4 Ao (fun c1 => ?_) (fun c1 => ?_)
  ·(try simp only [sd, se] at c1)
   have hs := hqt c1
   refine As ?_
   refine DU [.val (.ptr p 0), .val (.agg ((Ba (CI (BF.mk BA A6 A8 A9 BC BB thm) (CU (BF.mk BA A6 A8 A9 BC BB thm) A (CM.mk xp xm)) (BS (BF.mk BA A6 A8 A9 BC BB thm) A l))).map .p)), .val (.agg ((B2 (DJ (BF.mk BA A6 A8 A9 BC BB thm) (CI (BF.mk BA A6 A8 A9 BC BB thm) (CU (BF.mk BA A6 A8 A9 BC BB thm) A (CM.mk xp xm)) (BS (BF.mk BA A6 A8 A9 BC BB thm) A l)))).map .p)), .val (.agg [.p (I xp), .p (.bool xm)]), .newv 2 (List.map CP [(CM.mk xp xm)]), .val (.p (.lst (List.map CP l)))] Dq Ao Ai Ai ?_
   refine BE Ao (fun Bs => Ar Ao) ?_
   refine BE Ao (fun Bs => Aw (i := Bs.length + 0) BI Ao (Bn Ao) Af) ?_
   refine BE Ao (fun Bs => CC [4] Ao (.inl ⟨Ao, Ao, Ao⟩) (JL p c BA A6 A8 A9 BC BB thm (CI (BF.mk BA A6 A8 A9 BC BB thm) (CU (BF.mk BA A6 A8 A9 BC BB thm) A (CM.mk xp xm)) (BS (BF.mk BA A6 A8 A9 BC BB thm) A l))) ⟨_, _, Ao, Ao, Ao⟩ Al (aw (we Ao) (aw (we Ao) (Ci)))) ?_
   refine BE Ao (fun Bs => Aw (i := Bs.length + 3) GN Ao (Bn Ao) Ao) ?_
   refine Ka Ao (fun Bs => EB (rows := List.map CP [(CM.mk xp xm)]) EO Hh Ao Ao Ao Ao (Bv (C9 _)) (Ms _)) fun b47 cp => ?_
   refine BE Ao (fun Bs => Ar Ao) ?_
   refine D6 ?_
   change AL _ _ _ 6 ⟨133, _, [.vec (some b47) 2 (List.map CP [(CM.mk xp xm)]) cp, .box b9 ((Ba (CI (BF.mk BA A6 A8 A9 BC BB thm) (CU (BF.mk BA A6 A8 A9 BC BB thm) A (CM.mk xp xm)) (BS (BF.mk BA A6 A8 A9 BC BB thm) A l))).map .p), .box b8 ((Ba (CU (BF.mk BA A6 A8 A9 BC BB thm) A (CM.mk xp xm))).map .p), .box b6 [.p (I 0), .p (I 0), .p (.str ⟨#[]⟩), .p (.nils), .p (.nils), .p (I 0), .p (I 0), .p (.str ⟨#[]⟩), .p (.nils), .p (.nils), .p (I 0), .p (I 0), .p (.str ⟨#[]⟩), .p (.nils), .p (.nils), .p (.bool false)], .box b4 [.p (I xp), .p (.bool xm)], .box p [.p (.str BA), .p (.str A6), .p (.str A8), .p (.str A9), .p (.str BC), .p (.str BB), .p (.lst (List.map CV thm)), .ptr c 0], .box c [.p (.lst (List.map Ca cs)), .p (.lst (BO A)), .map m, .p (I al)]], []⟩ _
   refine Ap Ao Ao (Eh (i := 0) (rows' := List.map CP l) EO EO Hh Ao Ao Ao Ao Ao Ao (C9 _) AB (IN (f := CP) [(CM.mk xp xm)] l)) ?_
   refine Ap Ao Ao (A1 (i := 2) Cb Ao Ao Ao Ae AW (CR _)) ?_
   refine Ap Ao Ao (At Ao) ?_
   refine Au Ao ?_
   refine A5 ?_
   refine ⟨Ao, _, _, ⟨_, _, Ao, (Bg (i := 2) Cb Ao Ao Ae), ⟨_, _, Ao, Ao, Ao⟩⟩, (Cf (is := [4, 5]) Ao), ?_⟩
   rw [Tg hs]
   all_goals exact ⟨rfl, rfl⟩
  ·(try simp only [sd, se] at c1)
   obtain ⟨z, hz0, hs⟩ := hqf c1
   have hpos := (List.getElem?_eq_some_iff.1 hz0).1
   refine BD ?_
   refine As ?_
   obtain ⟨y, hy⟩ := BM (l := l) (i := 0) Am
   have hzy := Option.some.inj (hz0.symm.trans hy)
   rw [hzy] at hs
   refine DU [.val (.ptr p 0), .val (.p (.lst (List.map CP l))), .val (.ref (CP y)), .val (.agg ((CP y).map .p)), .val (.agg ((Ba (CU (BF.mk BA A6 A8 A9 BC BB thm) A y)).map .p)), .val (.ptr p 0), .val (.p (.lst (List.map CP l))), .val (.p (.lst (List.map CP (l.drop 1)))), .val (.agg ((Ba (BS (BF.mk BA A6 A8 A9 BC BB thm) A (l.drop 1))).map .p)), .new [.p (I 0), .p (I 0), .p (.str ⟨#[]⟩), .p (.nils), .p (.nils)], .new [.p (I 0), .p (I 0), .p (.str ⟨#[]⟩), .p (.nils), .p (.nils)]] Dq Ao Ai Ai ?_
   refine BE Ao (fun Bs => Ar Ao) ?_
   refine BE Ao (fun Bs => Ar Ao) ?_
   refine BE Ao (fun Bs => BJ EO Ao Ao Am (Df hy) (Ao)) ?_
   refine BE Ao (fun Bs => Be GN Ao (Ao)) ?_
   refine BE Ao (fun Bs => CC [4, 5] Ao (.inl ⟨Ao, Ao, Ao⟩) (KL p c BA A6 A8 A9 BC BB thm m cs A al y (Pq h4 hy)) ⟨_, _, Ao, Ao, ⟨_, _, Ao, Ao, Ao⟩⟩ Al (aw (we Ao) (aw (we Ao) (Ci)))) ?_
   refine BE Ao (fun Bs => Ar Ao) ?_
   refine BE Ao (fun Bs => Ar Ao) ?_
   refine BE Ao (fun Bs => D0 (lo := 1) EO Ao (Bv (C9 _)) ⟨_, Ao⟩ Ao AP (Nat.le_refl _) (Ir (f := CP) l 1)) ?_
   refine BE Ao (fun Bs => CC [4, 5] Ao (.inl ⟨Ao, Ao, Ao⟩) (IS p c BA A6 A8 A9 BC BB thm m cs A al (l.drop 1) AQ (HB h4)) ⟨_, _, Ao, Ao, ⟨_, _, Ao, Ao, Ao⟩⟩ Al (aw (we Ao) (aw (we Ao) (Ci)))) ?_
   refine Ea Ao (fun Bs => BG B0 Ao) fun b10 => ?_
   refine Ea Ao (fun Bs => BG B0 Ao) fun b11 => ?_
   refine D6 ?_
   change AL _ _ _ 11 ⟨133, _, [.box b10 [.p (I 0), .p (I 0), .p (.str ⟨#[]⟩), .p (.nils), .p (.nils)], .box b11 [.p (I 0), .p (I 0), .p (.str ⟨#[]⟩), .p (.nils), .p (.nils)], .box b9 ((Ba (CI (BF.mk BA A6 A8 A9 BC BB thm) (CU (BF.mk BA A6 A8 A9 BC BB thm) A (CM.mk xp xm)) (BS (BF.mk BA A6 A8 A9 BC BB thm) A l))).map .p), .box b8 ((Ba (CU (BF.mk BA A6 A8 A9 BC BB thm) A (CM.mk xp xm))).map .p), .box b6 [.p (I 0), .p (I 0), .p (.str ⟨#[]⟩), .p (.nils), .p (.nils), .p (I 0), .p (I 0), .p (.str ⟨#[]⟩), .p (.nils), .p (.nils), .p (I 0), .p (I 0), .p (.str ⟨#[]⟩), .p (.nils), .p (.nils), .p (.bool false)], .box b4 [.p (I xp), .p (.bool xm)], .box p [.p (.str BA), .p (.str A6), .p (.str A8), .p (.str A9), .p (.str BC), .p (.str BB), .p (.lst (List.map CV thm)), .ptr c 0], .box c [.p (.lst (List.map Ca cs)), .p (.lst (BO A)), .map m, .p (I al)]], []⟩ _
   refine Ap Ao Ao (A1 (i := 0) BI Ao Ao Ao Af AX (B3 _)) ?_
   refine Ap Ao Ao (A1 (i := 1) BI Ao Ao Ao Af AX (B3 _)) ?_
   refine Au Ao ?_
   refine As ?_
   refine Aq ?_
   refine Ap Ao Ao (Ar Ao) ?_
   refine Ap Ao Ao (Ar Ao) ?_
   refine Ap Ao Ao (Aw (i := 3) BI Ao Ao Af) ?_
   refine Ap Ao Ao (Aw (i := 0) BI Ao Ao Af) ?_
   refine Ap Ao Ao (Aw (i := 1) BI Ao Ao Af) ?_
   refine Ap Ao Ao (CH [6] Ao (.inl ⟨Ao, Ao, Ao⟩) (MW p c BA A6 A8 A9 BC BB thm (CU (BF.mk BA A6 A8 A9 BC BB thm) A (CM.mk xp xm)) (CU (BF.mk BA A6 A8 A9 BC BB thm) A y) (BS (BF.mk BA A6 A8 A9 BC BB thm) A (l.drop 1)) h5) ⟨_, _, Ao, Ao, Ao⟩ Al Ao (.inl Ao)) ?_
   refine Ap Ao Ao (CH [6] Ao (.inl ⟨Ao, Ao, Ao⟩) (Qx p c BA A6 A8 A9 BC BB thm (Dk (BF.mk BA A6 A8 A9 BC BB thm) (CU (BF.mk BA A6 A8 A9 BC BB thm) A (CM.mk xp xm)) (CU (BF.mk BA A6 A8 A9 BC BB thm) A y) (BS (BF.mk BA A6 A8 A9 BC BB thm) A (l.drop 1)))) ⟨_, _, Ao, Ao, Ao⟩ Al Ao (.inl Ao)) ?_
   refine BH Ao Ao (BG DW Ao) fun b12 => ?_
   refine Ap Ao Ao (A1 (i := 0) Cb Ao Ao Ao Ae AW (CR _)) ?_
   refine Au Ao ?_
   refine As ?_
   refine As ?_
   refine CJ (fun k => false) Dq ?_
   refine Ay Ao Ao (fun _ => Av HE Ao Ao) trivial ?_
   refine BK (j := 6) rfl rfl rfl (fun H i hi => Ax (i := i) DQ rfl hi rfl) (by repeat' first | exact trivial | refine And.intro ?_ ?_ | ((refine Or.inr (And.intro ?_ ?_) <;> repeat (first | exact List.Mem.head _ | apply List.Mem.tail)); done) | exact Or.inl Ai) trivial ?_
   refine Ay Ao Ao (fun _ => Ar Ao) trivial ?_
   refine Ay Ao Ao (fun _ => BJ EO Ao Ao Am (Df hy) (Ao)) trivial ?_
   obtain ⟨yp, ym⟩ := y
   refine Ay Ao Ao (fun _ => C3 HE Ao Ao) trivial ?_
   refine Ay Ao Ao (fun _ => CG DQ Ao) trivial ?_
   refine Ay Ao Ao (fun _ => A7 Ao Ao Ao) trivial ?_
   refine CA Ao Ai ?_
   refine A4 Ao (fun c2 => ?_) (fun c2 => ?_)
   ·(try simp only [sd, se] at c2)
    refine As ?_
    refine CJ (fun k => false) Dq ?_
    refine Ay Ao Ao (fun _ => Ar Ao) trivial ?_
    refine BK (j := 0) rfl rfl rfl (fun H i hi => Aw (i := i) Cb rfl hi Ae) (by repeat' first | exact trivial | refine And.intro ?_ ?_ | ((refine Or.inr (And.intro ?_ ?_) <;> repeat (first | exact List.Mem.head _ | apply List.Mem.tail)); done) | exact Or.inl Ai) trivial ?_
    refine Ay Ao Ao (fun _ => Ar Ao) trivial ?_
    refine Ay Ao Ao (fun _ => Ar Ao) trivial ?_
    refine BK (j := 6) rfl rfl rfl (fun H i hi => Aw (i := i) GN rfl hi rfl) (by repeat' first | exact trivial | refine And.intro ?_ ?_ | ((refine Or.inr (And.intro ?_ ?_) <;> repeat (first | exact List.Mem.head _ | apply List.Mem.tail)); done) | exact Or.inl Ai) trivial ?_
    refine B1 [7, 8] rfl rfl rfl (.inl ⟨rfl, rfl, rfl⟩) (RU p c BA A6 A8 A9 BC BB thm m cs A al (CM.mk xp xm) h3 h5) ⟨_, _, rfl, rfl, ⟨_, _, rfl, rfl, rfl⟩⟩ (OS (fun h => by injection h with h1 h2; exact absurd (congrArg List.length h2) An)) (aw (we rfl) (aw (we rfl) (Ci))) (by repeat' first | exact trivial | refine And.intro ?_ ?_ | ((refine Or.inr (And.intro ?_ ?_) <;> repeat (first | exact List.Mem.head _ | apply List.Mem.tail)); done) | exact Or.inl Ai) trivial ?_
    refine Ay Ao Ao (fun _ => Ar Ao) trivial ?_
    refine BK (j := 2) rfl rfl rfl (fun H i hi => Aw (i := i) BI rfl hi Af) (by repeat' first | exact trivial | refine And.intro ?_ ?_ | ((refine Or.inr (And.intro ?_ ?_) <;> repeat (first | exact List.Mem.head _ | apply List.Mem.tail)); done) | exact Or.inl Ai) trivial ?_
    refine B1 [7] rfl rfl rfl (.inl ⟨rfl, rfl, rfl⟩) (JL p c BA A6 A8 A9 BC BB thm (BS (BF.mk BA A6 A8 A9 BC BB thm) A (l.drop 1))) ⟨_, _, rfl, rfl, rfl⟩ (Ce _) (aw (we rfl) (aw (we rfl) (Ci))) (by repeat' first | exact trivial | refine And.intro ?_ ?_ | ((refine Or.inr (And.intro ?_ ?_) <;> repeat (first | exact List.Mem.head _ | apply List.Mem.tail)); done) | exact Or.inl Ai) trivial ?_
    refine B1 [7] rfl rfl rfl (.inl ⟨rfl, rfl, rfl⟩) (J1 p c BA A6 A8 A9 BC BB thm (Gi (BF.mk BA A6 A8 A9 BC BB thm) A (CM.mk xp xm)) (DJ (BF.mk BA A6 A8 A9 BC BB thm) (BS (BF.mk BA A6 A8 A9 BC BB thm) A (l.drop 1)))) ⟨_, _, rfl, rfl, rfl⟩ (Ce _) (aw (we rfl) (aw (we rfl) (aw (we rfl) (Ci)))) (by repeat' first | exact trivial | refine And.intro ?_ ?_ | ((refine Or.inr (And.intro ?_ ?_) <;> repeat (first | exact List.Mem.head _ | apply List.Mem.tail)); done) | exact Or.inl Ai) trivial ?_
    refine Ay Ao Ao (fun _ => Ar Ao) trivial ?_
    refine BK (j := 2) rfl rfl rfl (fun H i hi => Aw (i := i) BI rfl hi Af) (by repeat' first | exact trivial | refine And.intro ?_ ?_ | ((refine Or.inr (And.intro ?_ ?_) <;> repeat (first | exact List.Mem.head _ | apply List.Mem.tail)); done) | exact Or.inl Ai) trivial ?_
    refine B1 [7] rfl rfl rfl (.inl ⟨rfl, rfl, rfl⟩) (N9 p c BA A6 A8 A9 BC BB thm (BS (BF.mk BA A6 A8 A9 BC BB thm) A (l.drop 1)) h5) ⟨_, _, rfl, rfl, rfl⟩ (Ce _) (aw (we rfl) (aw (we rfl) (Ci))) (by repeat' first | exact trivial | refine And.intro ?_ ?_ | ((refine Or.inr (And.intro ?_ ?_) <;> repeat (first | exact List.Mem.head _ | apply List.Mem.tail)); done) | exact Or.inl Ai) trivial ?_
    refine Ay Ao Ao (fun _ => BN (rows := List.map B2 [(Ei (BF.mk BA A6 A8 A9 BC BB thm) (Gi (BF.mk BA A6 A8 A9 BC BB thm) A (CM.mk xp xm)) (DJ (BF.mk BA A6 A8 A9 BC BB thm) (BS (BF.mk BA A6 A8 A9 BC BB thm) A (l.drop 1)))), (HT (BF.mk BA A6 A8 A9 BC BB thm) (BS (BF.mk BA A6 A8 A9 BC BB thm) A (l.drop 1)))]) I1 DW Ao Ao Ao Ao (Bv (Ev _)) (H4 _)) trivial ?_
    refine B1 [7] rfl rfl rfl (.inl ⟨rfl, rfl, rfl⟩) (FN p c BA A6 A8 A9 BC BB thm (Fe (BF.mk BA A6 A8 A9 BC BB thm) (Dk (BF.mk BA A6 A8 A9 BC BB thm) (CU (BF.mk BA A6 A8 A9 BC BB thm) A (CM.mk xp xm)) (CU (BF.mk BA A6 A8 A9 BC BB thm) A (CM.mk yp ym)) (BS (BF.mk BA A6 A8 A9 BC BB thm) A (l.drop 1)))) [(Ei (BF.mk BA A6 A8 A9 BC BB thm) (Gi (BF.mk BA A6 A8 A9 BC BB thm) A (CM.mk xp xm)) (DJ (BF.mk BA A6 A8 A9 BC BB thm) (BS (BF.mk BA A6 A8 A9 BC BB thm) A (l.drop 1)))), (HT (BF.mk BA A6 A8 A9 BC BB thm) (BS (BF.mk BA A6 A8 A9 BC BB thm) A (l.drop 1)))] AM) ⟨_, _, rfl, rfl, rfl⟩ (Ce _) (aw (we rfl) (aw (we rfl) (aw (we rfl) (Ci)))) (by repeat' first | exact trivial | refine And.intro ?_ ?_ | ((refine Or.inr (And.intro ?_ ?_) <;> repeat (first | exact List.Mem.head _ | apply List.Mem.tail)); done) | exact Or.inl Ai) trivial ?_
    refine Ay Ao Ao (fun _ => Ar Ao) trivial ?_
    refine Ay Ao Ao (fun _ => D0 (lo := 1) EO Ao (Bv (C9 _)) ⟨_, Ao⟩ Ao AP (Nat.le_refl _) (Ir (f := CP) l 1)) trivial ?_
    refine Cd rfl rfl (A1 (i := 5) Cb rfl rfl rfl Ae AW (CR _)) (by repeat' first | exact trivial | refine And.intro ?_ ?_ | ((refine Or.inr (And.intro ?_ ?_) <;> repeat (first | exact List.Mem.head _ | apply List.Mem.tail)); done) | exact Or.inl Ai) trivial ?_
    refine Ay Ao Ao (fun _ => At Ao) trivial ?_
    refine CA Ao Ai ?_
    refine A5 ?_
    refine ⟨Ao, _, _, ⟨_, _, Ao, (Bg (i := 5) Cb Ao Ao Ae), ⟨_, _, Ao, Ao, Ao⟩⟩, (Cf (is := [7, 8]) Ao), ?_⟩
    rw [Sy hy hs Aj]
    all_goals exact ⟨rfl, rfl⟩
   ·(try simp only [sd, se] at c2)
    refine BD ?_
    refine As ?_
    refine CJ (fun k => Nat.beq k 8) Dq ?_
    refine Ay Ao Ao (fun _ => Ar Ao) trivial ?_
    refine BK (j := 6) rfl rfl rfl (fun H i hi => Aw (i := i) GN rfl hi rfl) (by repeat' first | exact trivial | refine And.intro ?_ ?_ | ((refine Or.inr (And.intro ?_ ?_) <;> repeat (first | exact List.Mem.head _ | apply List.Mem.tail)); done) | exact Or.inl Ai) trivial ?_
    refine Ay Ao Ao (fun _ => Ar Ao) trivial ?_
    refine Ay Ao Ao (fun _ => D0 (lo := 1) EO Ao (Bv (C9 _)) ⟨_, Ao⟩ Ao AP (Nat.le_refl _) (Ir (f := CP) l 1)) trivial ?_
    refine B1 [7, 8] rfl rfl rfl (.inl ⟨rfl, rfl, rfl⟩) (ih (l.drop 1).length (by have := (List.getElem?_eq_some_iff.1 hy).1; simp only [List.length_drop]; omega) (l.drop 1) (Nat.le_refl _) AS h3 (HB h4) h5) ⟨_, _, rfl, rfl, ⟨_, _, rfl, rfl, rfl⟩⟩ (OS (fun h => by injection h with h1 h2; exact absurd (congrArg List.length h2) An)) (aw (we rfl) (aw (we rfl) (aw (we rfl) (Ci)))) (by repeat' first | exact trivial | refine And.intro ?_ ?_ | ((refine Or.inr (And.intro ?_ ?_) <;> repeat (first | exact List.Mem.head _ | apply List.Mem.tail)); done) | exact Or.inl Ai) trivial ?_
    refine Ay Ao Ao (fun _ => Ar Ao) trivial ?_
    refine Ay Ao Ao (fun _ => BY Ao Ao) trivial ?_
    refine Ay Ao Ao (fun _ => BY Ao Ao) trivial ?_
    refine OW [] rfl rfl (BG DW rfl) Ai fun b13 => ⟨(by repeat' first | exact trivial | refine And.intro ?_ ?_ | ((refine Or.inr (And.intro ?_ ?_) <;> repeat (first | exact List.Mem.head _ | apply List.Mem.tail)); done) | exact Or.inl Ai), trivial, ?_⟩
    refine Cd rfl rfl (A1 (i := 0) Cb rfl rfl rfl Ae AW (CR _)) (by repeat' first | exact trivial | refine And.intro ?_ ?_ | ((refine Or.inr (And.intro ?_ ?_) <;> repeat (first | exact List.Mem.head _ | apply List.Mem.tail)); done) | exact Or.inl Ai) trivial ?_
    refine Ay Ao Ao (fun _ => At Ao) trivial ?_
    refine CA Ao Ai ?_
    refine As ?_
    refine DU [.val (.ptr p 0), .val (.agg ((B2 (Fe (BF.mk BA A6 A8 A9 BC BB thm) (Dk (BF.mk BA A6 A8 A9 BC BB thm) (CU (BF.mk BA A6 A8 A9 BC BB thm) A (CM.mk xp xm)) (CU (BF.mk BA A6 A8 A9 BC BB thm) A (CM.mk yp ym)) (BS (BF.mk BA A6 A8 A9 BC BB thm) A (l.drop 1))))).map .p)), .val (.ptr p 0), .val (.ptr p 0), .val (.agg ((Ba (CU (BF.mk BA A6 A8 A9 BC BB thm) A (CM.mk xp xm))).map .p)), .val (.agg ((Ba (CU (BF.mk BA A6 A8 A9 BC BB thm) A (CM.mk yp ym))).map .p)), .val (.agg ((B2 (GD (BF.mk BA A6 A8 A9 BC BB thm) (CU (BF.mk BA A6 A8 A9 BC BB thm) A (CM.mk xp xm)) (CU (BF.mk BA A6 A8 A9 BC BB thm) A (CM.mk yp ym)))).map .p)), .val (.ptr p 0), .val (.agg ((Ba (BS (BF.mk BA A6 A8 A9 BC BB thm) A (l.drop 1))).map .p)), .val (.agg ((B2 (DJ (BF.mk BA A6 A8 A9 BC BB thm) (BS (BF.mk BA A6 A8 A9 BC BB thm) A (l.drop 1)))).map .p)), .val (.agg ((B2 (Ei (BF.mk BA A6 A8 A9 BC BB thm) (GD (BF.mk BA A6 A8 A9 BC BB thm) (CU (BF.mk BA A6 A8 A9 BC BB thm) A (CM.mk xp xm)) (CU (BF.mk BA A6 A8 A9 BC BB thm) A (CM.mk yp ym))) (DJ (BF.mk BA A6 A8 A9 BC BB thm) (BS (BF.mk BA A6 A8 A9 BC BB thm) A (l.drop 1))))).map .p)), .val (.ptr p 0), .val (.agg ((Ba (CU (BF.mk BA A6 A8 A9 BC BB thm) A (CM.mk yp ym))).map .p)), .val (.agg ((Ba (CU (BF.mk BA A6 A8 A9 BC BB thm) A (CM.mk xp xm))).map .p)), .val (.agg ((Ba (BS (BF.mk BA A6 A8 A9 BC BB thm) A (l.drop 1))).map .p)), .val (.agg ((B2 (Dk (BF.mk BA A6 A8 A9 BC BB thm) (CU (BF.mk BA A6 A8 A9 BC BB thm) A (CM.mk yp ym)) (CU (BF.mk BA A6 A8 A9 BC BB thm) A (CM.mk xp xm)) (BS (BF.mk BA A6 A8 A9 BC BB thm) A (l.drop 1)))).map .p)), .val (.ptr p 0), .val (.ptr p 0), .val (.ptr p 0), .val (.ptr p (0 + 0)), .val (.ptr p (0 + 1)), .val (.p (.str A6)), .val (.agg ((Ba (CU (BF.mk BA A6 A8 A9 BC BB thm) A (CM.mk yp ym))).map .p)), .val (.p (.lst (BO [(CU (BF.mk BA A6 A8 A9 BC BB thm) A (CM.mk yp ym))]))), .val (.agg ((Ba (BP A6 [(CU (BF.mk BA A6 A8 A9 BC BB thm) A (CM.mk yp ym))])).map .p)), .val (.agg ((B2 ((CW (BF.mk BA A6 A8 A9 BC BB thm) A (CM.mk xp xm) (l.drop 1)).1)).map .p)), .val (.agg ((B2 (DE (BF.mk BA A6 A8 A9 BC BB thm) (BP A6 [(CU (BF.mk BA A6 A8 A9 BC BB thm) A (CM.mk yp ym))]) ((CW (BF.mk BA A6 A8 A9 BC BB thm) A (CM.mk xp xm) (l.drop 1)).1))).map .p)), .val (.p (.lst (List.map B2 ([(Ei (BF.mk BA A6 A8 A9 BC BB thm) (GD (BF.mk BA A6 A8 A9 BC BB thm) (CU (BF.mk BA A6 A8 A9 BC BB thm) A (CM.mk xp xm)) (CU (BF.mk BA A6 A8 A9 BC BB thm) A (CM.mk yp ym))) (DJ (BF.mk BA A6 A8 A9 BC BB thm) (BS (BF.mk BA A6 A8 A9 BC BB thm) A (l.drop 1)))), (Dk (BF.mk BA A6 A8 A9 BC BB thm) (CU (BF.mk BA A6 A8 A9 BC BB thm) A (CM.mk yp ym)) (CU (BF.mk BA A6 A8 A9 BC BB thm) A (CM.mk xp xm)) (BS (BF.mk BA A6 A8 A9 BC BB thm) A (l.drop 1))), (DE (BF.mk BA A6 A8 A9 BC BB thm) (BP A6 [(CU (BF.mk BA A6 A8 A9 BC BB thm) A (CM.mk yp ym))]) ((CW (BF.mk BA A6 A8 A9 BC BB thm) A (CM.mk xp xm) (l.drop 1)).1))])))), .val (.agg ((B2 (CZ (BF.mk BA A6 A8 A9 BC BB thm) (Fe (BF.mk BA A6 A8 A9 BC BB thm) (Dk (BF.mk BA A6 A8 A9 BC BB thm) (CU (BF.mk BA A6 A8 A9 BC BB thm) A (CM.mk xp xm)) (CU (BF.mk BA A6 A8 A9 BC BB thm) A (CM.mk yp ym)) (BS (BF.mk BA A6 A8 A9 BC BB thm) A (l.drop 1)))) ([(Ei (BF.mk BA A6 A8 A9 BC BB thm) (GD (BF.mk BA A6 A8 A9 BC BB thm) (CU (BF.mk BA A6 A8 A9 BC BB thm) A (CM.mk xp xm)) (CU (BF.mk BA A6 A8 A9 BC BB thm) A (CM.mk yp ym))) (DJ (BF.mk BA A6 A8 A9 BC BB thm) (BS (BF.mk BA A6 A8 A9 BC BB thm) A (l.drop 1)))), (Dk (BF.mk BA A6 A8 A9 BC BB thm) (CU (BF.mk BA A6 A8 A9 BC BB thm) A (CM.mk yp ym)) (CU (BF.mk BA A6 A8 A9 BC BB thm) A (CM.mk xp xm)) (BS (BF.mk BA A6 A8 A9 BC BB thm) A (l.drop 1))), (DE (BF.mk BA A6 A8 A9 BC BB thm) (BP A6 [(CU (BF.mk BA A6 A8 A9 BC BB thm) A (CM.mk yp ym))]) ((CW (BF.mk BA A6 A8 A9 BC BB thm) A (CM.mk xp xm) (l.drop 1)).1))]))).map .p)), .val (.p (.lst (List.map CP l))), .val (.ref [I yp, .bool ym]), .val (.agg [.p (I yp), .p (.bool ym)]), .newv 2 (List.map CP [(CM.mk yp ym)]), .val (.p (.lst (List.map CP ((CW (BF.mk BA A6 A8 A9 BC BB thm) A (CM.mk xp xm) (l.drop 1)).2))))] Dq Ao Ai Ai ?_
    refine BE Ao (fun Bs => Ar Ao) ?_
    refine BE Ao (fun Bs => Aw (i := Bs.length + 1) Cb Ao (Bn Ao) Ae) ?_
    refine BE Ao (fun Bs => Ar Ao) ?_
    refine BE Ao (fun Bs => Ar Ao) ?_
    refine BE Ao (fun Bs => Aw (i := Bs.length + 5) BI Ao (Bn Ao) Af) ?_
    refine BE Ao (fun Bs => Aw (i := Bs.length + 2) BI Ao (Bn Ao) Af) ?_
    refine BE Ao (fun Bs => CC [8] Ao (.inl ⟨Ao, Ao, Ao⟩) (Od p c BA A6 A8 A9 BC BB thm (CU (BF.mk BA A6 A8 A9 BC BB thm) A (CM.mk xp xm)) (CU (BF.mk BA A6 A8 A9 BC BB thm) A (CM.mk yp ym)) h5) ⟨_, _, Ao, Ao, Ao⟩ Al (aw (we Ao) (aw (we Ao) (aw (we Ao) (Ci))))) ?_
    refine BE Ao (fun Bs => Ar Ao) ?_
    refine BE Ao (fun Bs => Aw (i := Bs.length + 3) BI Ao (Bn Ao) Af) ?_
    refine BE Ao (fun Bs => CC [8] Ao (.inl ⟨Ao, Ao, Ao⟩) (JL p c BA A6 A8 A9 BC BB thm (BS (BF.mk BA A6 A8 A9 BC BB thm) A (l.drop 1))) ⟨_, _, Ao, Ao, Ao⟩ Al (aw (we Ao) (aw (we Ao) (Ci)))) ?_
    refine BE Ao (fun Bs => CC [8] Ao (.inl ⟨Ao, Ao, Ao⟩) (J1 p c BA A6 A8 A9 BC BB thm (GD (BF.mk BA A6 A8 A9 BC BB thm) (CU (BF.mk BA A6 A8 A9 BC BB thm) A (CM.mk xp xm)) (CU (BF.mk BA A6 A8 A9 BC BB thm) A (CM.mk yp ym))) (DJ (BF.mk BA A6 A8 A9 BC BB thm) (BS (BF.mk BA A6 A8 A9 BC BB thm) A (l.drop 1)))) ⟨_, _, Ao, Ao, Ao⟩ Al (aw (we Ao) (aw (we Ao) (aw (we Ao) (Ci))))) ?_
    refine BE Ao (fun Bs => Ar Ao) ?_
    refine BE Ao (fun Bs => Aw (i := Bs.length + 2) BI Ao (Bn Ao) Af) ?_
    refine BE Ao (fun Bs => Aw (i := Bs.length + 5) BI Ao (Bn Ao) Af) ?_
    refine BE Ao (fun Bs => Aw (i := Bs.length + 3) BI Ao (Bn Ao) Af) ?_
    refine BE Ao (fun Bs => CC [8] Ao (.inl ⟨Ao, Ao, Ao⟩) (MW p c BA A6 A8 A9 BC BB thm (CU (BF.mk BA A6 A8 A9 BC BB thm) A (CM.mk yp ym)) (CU (BF.mk BA A6 A8 A9 BC BB thm) A (CM.mk xp xm)) (BS (BF.mk BA A6 A8 A9 BC BB thm) A (l.drop 1)) h5) ⟨_, _, Ao, Ao, Ao⟩ Al (aw (we Ao) (aw (we Ao) (aw (we Ao) (aw (we Ao) (Ci)))))) ?_
    refine BE Ao (fun Bs => Ar Ao) ?_
    refine BE Ao (fun Bs => Ar Ao) ?_
    refine BE Ao (fun Bs => BT Ao) ?_
    refine BE Ao (fun Bs => Av Gq Ao Ao) ?_
    refine BE Ao (fun Bs => Av Du Ao Ao) ?_
    refine BE Ao (fun Bs => Ax (i := Bs.length + 8) GO Ao (Bn Ao) Ao) ?_
    refine BE Ao (fun Bs => Aw (i := Bs.length + 2) BI Ao (Bn Ao) Af) ?_
    refine BE Ao (fun Bs => BN (rows := BO [(CU (BF.mk BA A6 A8 A9 BC BB thm) A (CM.mk yp ym))]) B4 B0 Ao Ao Ao Ao (Bv (B6 _)) (Cv _)) ?_
    refine BE Ao (fun Bs => Bf Ao Ao (Dz A6 [(CU (BF.mk BA A6 A8 A9 BC BB thm) A (CM.mk yp ym))] AI) Ao) ?_
    refine BE Ao (fun Bs => Aw (i := Bs.length + 0) Cb Ao (Bn Ao) Ae) ?_
    refine BE Ao (fun Bs => CC [8] Ao (.inl ⟨Ao, Ao, Ao⟩) (J5 p c BA A6 A8 A9 BC BB thm (BP A6 [(CU (BF.mk BA A6 A8 A9 BC BB thm) A (CM.mk yp ym))]) ((CW (BF.mk BA A6 A8 A9 BC BB thm) A (CM.mk xp xm) (l.drop 1)).1)) ⟨_, _, Ao, Ao, Ao⟩ Al (aw (we Ao) (aw (we Ao) (aw (we Ao) (Ci))))) ?_
    refine BE Ao (fun Bs => BN (rows := List.map B2 ([(Ei (BF.mk BA A6 A8 A9 BC BB thm) (GD (BF.mk BA A6 A8 A9 BC BB thm) (CU (BF.mk BA A6 A8 A9 BC BB thm) A (CM.mk xp xm)) (CU (BF.mk BA A6 A8 A9 BC BB thm) A (CM.mk yp ym))) (DJ (BF.mk BA A6 A8 A9 BC BB thm) (BS (BF.mk BA A6 A8 A9 BC BB thm) A (l.drop 1)))), (Dk (BF.mk BA A6 A8 A9 BC BB thm) (CU (BF.mk BA A6 A8 A9 BC BB thm) A (CM.mk yp ym)) (CU (BF.mk BA A6 A8 A9 BC BB thm) A (CM.mk xp xm)) (BS (BF.mk BA A6 A8 A9 BC BB thm) A (l.drop 1))), (DE (BF.mk BA A6 A8 A9 BC BB thm) (BP A6 [(CU (BF.mk BA A6 A8 A9 BC BB thm) A (CM.mk yp ym))]) ((CW (BF.mk BA A6 A8 A9 BC BB thm) A (CM.mk xp xm) (l.drop 1)).1))])) I1 DW Ao Ao Ao Ao (Bv (Ev _)) (H4 _)) ?_
    refine BE Ao (fun Bs => CC [8] Ao (.inl ⟨Ao, Ao, Ao⟩) (FN p c BA A6 A8 A9 BC BB thm (Fe (BF.mk BA A6 A8 A9 BC BB thm) (Dk (BF.mk BA A6 A8 A9 BC BB thm) (CU (BF.mk BA A6 A8 A9 BC BB thm) A (CM.mk xp xm)) (CU (BF.mk BA A6 A8 A9 BC BB thm) A (CM.mk yp ym)) (BS (BF.mk BA A6 A8 A9 BC BB thm) A (l.drop 1)))) ([(Ei (BF.mk BA A6 A8 A9 BC BB thm) (GD (BF.mk BA A6 A8 A9 BC BB thm) (CU (BF.mk BA A6 A8 A9 BC BB thm) A (CM.mk xp xm)) (CU (BF.mk BA A6 A8 A9 BC BB thm) A (CM.mk yp ym))) (DJ (BF.mk BA A6 A8 A9 BC BB thm) (BS (BF.mk BA A6 A8 A9 BC BB thm) A (l.drop 1)))), (Dk (BF.mk BA A6 A8 A9 BC BB thm) (CU (BF.mk BA A6 A8 A9 BC BB thm) A (CM.mk yp ym)) (CU (BF.mk BA A6 A8 A9 BC BB thm) A (CM.mk xp xm)) (BS (BF.mk BA A6 A8 A9 BC BB thm) A (l.drop 1))), (DE (BF.mk BA A6 A8 A9 BC BB thm) (BP A6 [(CU (BF.mk BA A6 A8 A9 BC BB thm) A (CM.mk yp ym))]) ((CW (BF.mk BA A6 A8 A9 BC BB thm) A (CM.mk xp xm) (l.drop 1)).1))]) AM) ⟨_, _, Ao, Ao, Ao⟩ Al (aw (we Ao) (aw (we Ao) (aw (we Ao) (Ci))))) ?_
    refine BE Ao (fun Bs => Ar Ao) ?_
    refine BE Ao (fun Bs => BJ EO Ao Ao Am (Df hy) (Ao)) ?_
    refine BE Ao (fun Bs => Ga (cs := [I yp, .bool ym]) GN Ao Ao Ao) ?_
    refine Ka Ao (fun Bs => EB (rows := List.map CP [(CM.mk yp ym)]) EO Hh Ao Ao Ao Ao (Bv (C9 _)) (Ms _)) fun b130 cp => ?_
    refine BE Ao (fun Bs => Ar Ao) ?_
    refine D6 ?_
    change AL _ _ _ 34 ⟨133, _, [.vec (some b130) 2 (List.map CP [(CM.mk yp ym)]) cp, .box b13 ((B2 ((CW (BF.mk BA A6 A8 A9 BC BB thm) A (CM.mk xp xm) (l.drop 1)).1)).map .p), .box b12 ((B2 (Fe (BF.mk BA A6 A8 A9 BC BB thm) (Dk (BF.mk BA A6 A8 A9 BC BB thm) (CU (BF.mk BA A6 A8 A9 BC BB thm) A (CM.mk xp xm)) (CU (BF.mk BA A6 A8 A9 BC BB thm) A (CM.mk yp ym)) (BS (BF.mk BA A6 A8 A9 BC BB thm) A (l.drop 1))))).map .p), .box b10 ((Ba (CU (BF.mk BA A6 A8 A9 BC BB thm) A (CM.mk yp ym))).map .p), .box b11 ((Ba (BS (BF.mk BA A6 A8 A9 BC BB thm) A (l.drop 1))).map .p), .box b9 ((Ba (CI (BF.mk BA A6 A8 A9 BC BB thm) (CU (BF.mk BA A6 A8 A9 BC BB thm) A (CM.mk xp xm)) (BS (BF.mk BA A6 A8 A9 BC BB thm) A l))).map .p), .box b8 ((Ba (CU (BF.mk BA A6 A8 A9 BC BB thm) A (CM.mk xp xm))).map .p), .box b6 [.p (I 0), .p (I 0), .p (.str ⟨#[]⟩), .p (.nils), .p (.nils), .p (I 0), .p (I 0), .p (.str ⟨#[]⟩), .p (.nils), .p (.nils), .p (I 0), .p (I 0), .p (.str ⟨#[]⟩), .p (.nils), .p (.nils), .p (.bool false)], .box b4 [.p (I xp), .p (.bool xm)], .box p [.p (.str BA), .p (.str A6), .p (.str A8), .p (.str A9), .p (.str BC), .p (.str BB), .p (.lst (List.map CV thm)), .ptr c 0], .box c [.p (.lst (List.map Ca cs)), .p (.lst (BO A)), .map m, .p (I al)]], []⟩ _
    refine Ap Ao Ao (Eh (i := 0) (rows' := List.map CP ((CW (BF.mk BA A6 A8 A9 BC BB thm) A (CM.mk xp xm) (l.drop 1)).2)) EO EO Hh Ao Ao Ao Ao Ao Ao (C9 _) (by have := Jw (th := (BF.mk BA A6 A8 A9 BC BB thm)) (A := A) (x := (CM.mk xp xm)) (l.drop 1); simp only [List.length_drop, List.length_map, List.length_cons, List.length_nil] at *; omega) (IN (f := CP) [(CM.mk yp ym)] ((CW (BF.mk BA A6 A8 A9 BC BB thm) A (CM.mk xp xm) (l.drop 1)).2))) ?_
    refine Ap Ao Ao (A1 (i := 6) Cb Ao Ao Ao Ae AW (CR _)) ?_
    refine Ap Ao Ao (At Ao) ?_
    refine Au Ao ?_
    refine A5 ?_
    refine ⟨Ao, _, _, ⟨_, _, Ao, (Bg (i := 6) Cb Ao Ao Ae), ⟨_, _, Ao, Ao, Ao⟩⟩, (Cf (is := [8, 9]) Ao), ?_⟩
    rw [SZ hy hs Aj]
    all_goals exact ⟨rfl, rfl⟩
theorem TS : ∀ (p c : Nat) (BA A6 A8 A9 BC BB : ByteArray) (thm : List ByteArray) (m : Nat) (cs : List Int) (A : List Tm) (al : Int) (b : List CM) (n : Nat) (a : List CM), (a.length ≤ n) → (a.length + b.length < 1000000) → (∀ y ∈ a, Fm A y) → (∀ y ∈ b, Fm A y) → (thm.length = 14) → Bl Tryz.prog 87 [.ptr p 0, .p (.lst (List.map CP a)), .p (.lst (List.map CP b))] [.box p [.p (.str BA), .p (.str A6), .p (.str A8), .p (.str A9), .p (.str BC), .p (.str BB), .p (.lst (List.map CV thm)), .ptr c 0], .box c [.p (.lst (List.map Ca cs)), .p (.lst (BO A)), .map m, .p (I al)]] (DG (.tup [.agg ((B2 ((Ct (BF.mk BA A6 A8 A9 BC BB thm) A b a).1)).map .p), .p (.lst (List.map CP ((Ct (BF.mk BA A6 A8 A9 BC BB thm) A b a).2)))]) [.box p [.p (.str BA), .p (.str A6), .p (.str A8), .p (.str A9), .p (.str BC), .p (.str BB), .p (.lst (List.map CV thm)), .ptr c 0], .box c [.p (.lst (List.map Ca cs)), .p (.lst (BO A)), .map m, .p (I al)]]) := by
 intro p c BA A6 A8 A9 BC BB thm m cs A al b n
 induction n using Nat.strongRecOn with
 | ind n ih =>
  intro a h1 h2 h3 h4 h5
  refine A3 Tryz.func87 Ao Z2 (n := 70) Ao Ao ?_
  refine As ?_
  refine Aq ?_
  refine BH Ao Ao (BG DW Ao) fun b6 => ?_
  refine Ap Ao Ao (At Ao) ?_
  refine Au Ao ?_
  refine As ?_
  refine Aq ?_
  refine Ap Ao Ao (Ar Ao) ?_
  refine Ap Ao Ao (Ar Ao) ?_
  refine Ap Ao Ao (CH [1, 2] Ao (.inl ⟨Ao, Ao, Ao⟩) (IS p c BA A6 A8 A9 BC BB thm m cs A al b Ab h4) ⟨_, _, Ao, Ao, ⟨_, _, Ao, Ao, Ao⟩⟩ Al Ao (.inl Ao)) ?_
  refine BH Ao Ao (BG B0 Ao) fun b8 => ?_
  refine Ap Ao Ao (A1 (i := 0) BI Ao Ao Ao Af AX (B3 _)) ?_
  refine Au Ao ?_
  refine As ?_
  refine As ?_
  refine Aq ?_
  refine Ap Ao Ao (Ar Ao) ?_
  refine Ap Ao Ao (Bx EO Ao (List.length_map _)) ?_
  refine Ap Ao Ao (A7 Ao Ao Ao) ?_
  refine Au Ao ?_
  refine A4 Ao (fun c1 => ?_) (fun c1 => ?_)
  ·(try simp only [sd, se] at c1)
   refine As ?_
   refine Aq ?_
   refine Ap Ao Ao (Ar Ao) ?_
   refine Ap Ao Ao (Aw (i := 0) BI Ao Ao Af) ?_
   refine Ap Ao Ao (CH [2] Ao (.inl ⟨Ao, Ao, Ao⟩) (N9 p c BA A6 A8 A9 BC BB thm (BS (BF.mk BA A6 A8 A9 BC BB thm) A b) h5) ⟨_, _, Ao, Ao, Ao⟩ Al Ao (.inl Ao)) ?_
   refine Ap Ao Ao (Ar Ao) ?_
   refine Ap Ao Ao (A1 (i := 1) Cb Ao Ao Ao Ae AW (CR _)) ?_
   refine Ap Ao Ao (At Ao) ?_
   refine Au Ao ?_
   refine A5 ?_
   refine ⟨Ao, _, _, ⟨_, _, Ao, (Bg (i := 1) Cb Ao Ao Ae), ⟨_, _, Ao, Ao, Ao⟩⟩, (Cf (is := [2, 3]) Ao), ?_⟩
   obtain rfl := List.length_eq_zero_iff.1 (by omega : a.length = 0)
   all_goals exact ⟨by show (.tup [.agg ((B2 (HT (BF.mk BA A6 A8 A9 BC BB thm) (BS (BF.mk BA A6 A8 A9 BC BB thm) A b))).map .p), .p (.lst (List.map CP b))] : AV) = _; rw [RV], rfl⟩
  ·(try simp only [sd, se] at c1)
   refine BD ?_
   refine As ?_
   refine Aq ?_
   refine Ap Ao Ao (Ar Ao) ?_
   refine Ap Ao Ao (Ar Ao) ?_
   obtain ⟨x, hx⟩ := BM (l := a) (i := 0) Am
   refine Ap Ao Ao (BJ EO Ao Ao Am (Df hx) (Ao)) ?_
   refine Ap Ao Ao (Be GN Ao (Ao)) ?_
   refine Ap Ao Ao (CH [2, 3] Ao (.inl ⟨Ao, Ao, Ao⟩) (KL p c BA A6 A8 A9 BC BB thm m cs A al x (Pq h3 hx)) ⟨_, _, Ao, Ao, ⟨_, _, Ao, Ao, Ao⟩⟩ Al Ao (.inl Ao)) ?_
   refine BH Ao Ao (BG B0 Ao) fun b9 => ?_
   refine Ap Ao Ao (A1 (i := 0) BI Ao Ao Ao Af AX (B3 _)) ?_
   refine Au Ao ?_
   refine As ?_
   refine Aq ?_
   refine Ap Ao Ao (Ar Ao) ?_
   refine Ap Ao Ao (Ar Ao) ?_
   refine Ap Ao Ao (D0 (lo := 1) EO Ao (Bv (C9 _)) ⟨_, Ao⟩ Ao AP (Nat.le_refl _) (Ir (f := CP) a 1)) ?_
   refine Ap Ao Ao (Ar Ao) ?_
   refine Ap Ao Ao (CH [3, 4] Ao (.inl ⟨Ao, Ao, Ao⟩) (ih (a.drop 1).length AS (a.drop 1) (Nat.le_refl _) AS (HB h3) h4 h5) ⟨_, _, Ao, Ao, ⟨_, _, Ao, Ao, Ao⟩⟩ Al Ao (.inl Ao)) ?_
   generalize hmq : Ct (BF.mk BA A6 A8 A9 BC BB thm) A b (a.drop 1) = mq
   refine Ap Ao Ao (Ar Ao) ?_
   refine Ap Ao Ao (BY Ao Ao) ?_
   refine Ap Ao Ao (BY Ao Ao) ?_
   refine BH Ao Ao (BG DW Ao) fun b10 => ?_
   refine Ap Ao Ao (A1 (i := 0) Cb Ao Ao Ao Ae AW (CR _)) ?_
   refine Ap Ao Ao (At Ao) ?_
   refine Au Ao ?_
   refine As ?_
   refine Aq ?_
   refine Ap Ao Ao (Ar Ao) ?_
   refine Ap Ao Ao (Ar Ao) ?_
   refine Ap Ao Ao (BJ EO Ao Ao Am (Df hx) (Ao)) ?_
   refine Ap Ao Ao (Be GN Ao (Ao)) ?_
   refine Ap Ao Ao (Ar Ao) ?_
   refine Ap Ao Ao (CH [4, 5] Ao (.inl ⟨Ao, Ao, Ao⟩) (Rw p c BA A6 A8 A9 BC BB thm m cs A al x _ mq.2 (Nat.le_refl _) (by have := Kx (th := (BF.mk BA A6 A8 A9 BC BB thm)) (A := A) (b := b) (a.drop 1); rw [hmq] at this; simp only [List.length_drop] at this; omega) (Pq h3 hx) (hmq ▸ MP h4 _ (HB h3)) h5) ⟨_, _, Ao, Ao, ⟨_, _, Ao, Ao, Ao⟩⟩ Al Ao (.inl Ao)) ?_
   refine Ap Ao Ao (Ar Ao) ?_
   refine Ap Ao Ao (BY Ao Ao) ?_
   refine Ap Ao Ao (BY Ao Ao) ?_
   refine BH Ao Ao (BG DW Ao) fun b12 => ?_
   refine Ap Ao Ao (A1 (i := 0) Cb Ao Ao Ao Ae AW (CR _)) ?_
   refine Ap Ao Ao (At Ao) ?_
   refine Au Ao ?_
   refine As ?_
   refine CJ (fun k => false) Dq ?_
   refine Ay Ao Ao (fun _ => Ar Ao) trivial ?_
   refine Ay Ao Ao (fun _ => Ar Ao) trivial ?_
   refine BK (j := 2) rfl rfl rfl (fun H i hi => Aw (i := i) BI rfl hi Af) (by repeat' first | exact trivial | refine And.intro ?_ ?_ | ((refine Or.inr (And.intro ?_ ?_) <;> repeat (first | exact List.Mem.head _ | apply List.Mem.tail)); done) | exact Or.inl Ai) trivial ?_
   refine Ay Ao Ao (fun _ => Ar Ao) trivial ?_
   refine Ay Ao Ao (fun _ => Ar Ao) trivial ?_
   refine Ay Ao Ao (fun _ => D0 (lo := 1) EO Ao (Bv (C9 _)) ⟨_, Ao⟩ Ao AP (Nat.le_refl _) (Ir (f := CP) a 1)) trivial ?_
   refine B1 [5, 6] rfl rfl rfl (.inl ⟨rfl, rfl, rfl⟩) (IS p c BA A6 A8 A9 BC BB thm m cs A al (a.drop 1) AQ (HB h3)) ⟨_, _, rfl, rfl, ⟨_, _, rfl, rfl, rfl⟩⟩ (OS (fun h => by injection h with h1 h2; exact absurd (congrArg List.length h2) An)) (aw (we rfl) (aw (we rfl) (Ci))) (by repeat' first | exact trivial | refine And.intro ?_ ?_ | ((refine Or.inr (And.intro ?_ ?_) <;> repeat (first | exact List.Mem.head _ | apply List.Mem.tail)); done) | exact Or.inl Ai) trivial ?_
   refine BK (j := 3) rfl rfl rfl (fun H i hi => Aw (i := i) BI rfl hi Af) (by repeat' first | exact trivial | refine And.intro ?_ ?_ | ((refine Or.inr (And.intro ?_ ?_) <;> repeat (first | exact List.Mem.head _ | apply List.Mem.tail)); done) | exact Or.inl Ai) trivial ?_
   refine B1 [5] rfl rfl rfl (.inl ⟨rfl, rfl, rfl⟩) (MW p c BA A6 A8 A9 BC BB thm (CU (BF.mk BA A6 A8 A9 BC BB thm) A x) (BS (BF.mk BA A6 A8 A9 BC BB thm) A (a.drop 1)) (BS (BF.mk BA A6 A8 A9 BC BB thm) A b) h5) ⟨_, _, rfl, rfl, rfl⟩ (Ce _) (aw (we rfl) (aw (we rfl) (aw (we rfl) (aw (we rfl) (Ci))))) (by repeat' first | exact trivial | refine And.intro ?_ ?_ | ((refine Or.inr (And.intro ?_ ?_) <;> repeat (first | exact List.Mem.head _ | apply List.Mem.tail)); done) | exact Or.inl Ai) trivial ?_
   refine Ay Ao Ao (fun _ => Ar Ao) trivial ?_
   refine Ay Ao Ao (fun _ => Ar Ao) trivial ?_
   refine Ay Ao Ao (fun _ => BT Ao) trivial ?_
   refine Ay Ao Ao (fun _ => Av Gq Ao Ao) trivial ?_
   refine Ay Ao Ao (fun _ => Av Du Ao Ao) trivial ?_
   refine BK (j := 5) rfl rfl rfl (fun H i hi => Ax (i := i) GO rfl hi rfl) (by repeat' first | exact trivial | refine And.intro ?_ ?_ | ((refine Or.inr (And.intro ?_ ?_) <;> repeat (first | exact List.Mem.head _ | apply List.Mem.tail)); done) | exact Or.inl Ai) trivial ?_
   refine BK (j := 2) rfl rfl rfl (fun H i hi => Aw (i := i) BI rfl hi Af) (by repeat' first | exact trivial | refine And.intro ?_ ?_ | ((refine Or.inr (And.intro ?_ ?_) <;> repeat (first | exact List.Mem.head _ | apply List.Mem.tail)); done) | exact Or.inl Ai) trivial ?_
   refine Ay Ao Ao (fun _ => BN (rows := BO [(CU (BF.mk BA A6 A8 A9 BC BB thm) A x)]) B4 B0 Ao Ao Ao Ao (Bv (B6 _)) (Cv _)) trivial ?_
   refine Ay Ao Ao (fun _ => Bf Ao Ao (Dz A6 [(CU (BF.mk BA A6 A8 A9 BC BB thm) A x)] AI) Ao) trivial ?_
   refine BK (j := 1) rfl rfl rfl (fun H i hi => Aw (i := i) Cb rfl hi Ae) (by repeat' first | exact trivial | refine And.intro ?_ ?_ | ((refine Or.inr (And.intro ?_ ?_) <;> repeat (first | exact List.Mem.head _ | apply List.Mem.tail)); done) | exact Or.inl Ai) trivial ?_
   refine B1 [5] rfl rfl rfl (.inl ⟨rfl, rfl, rfl⟩) (J5 p c BA A6 A8 A9 BC BB thm (BP A6 [(CU (BF.mk BA A6 A8 A9 BC BB thm) A x)]) mq.1) ⟨_, _, rfl, rfl, rfl⟩ (Ce _) (aw (we rfl) (aw (we rfl) (aw (we rfl) (Ci)))) (by repeat' first | exact trivial | refine And.intro ?_ ?_ | ((refine Or.inr (And.intro ?_ ?_) <;> repeat (first | exact List.Mem.head _ | apply List.Mem.tail)); done) | exact Or.inl Ai) trivial ?_
   refine BK (j := 0) rfl rfl rfl (fun H i hi => Aw (i := i) Cb rfl hi Ae) (by repeat' first | exact trivial | refine And.intro ?_ ?_ | ((refine Or.inr (And.intro ?_ ?_) <;> repeat (first | exact List.Mem.head _ | apply List.Mem.tail)); done) | exact Or.inl Ai) trivial ?_
   refine Ay Ao Ao (fun _ => BN (rows := List.map B2 ([(DE (BF.mk BA A6 A8 A9 BC BB thm) (BP A6 [(CU (BF.mk BA A6 A8 A9 BC BB thm) A x)]) mq.1), ((CW (BF.mk BA A6 A8 A9 BC BB thm) A x mq.2).1)])) I1 DW Ao Ao Ao Ao (Bv (Ev _)) (H4 _)) trivial ?_
   refine B1 [5] rfl rfl rfl (.inl ⟨rfl, rfl, rfl⟩) (FN p c BA A6 A8 A9 BC BB thm (Dk (BF.mk BA A6 A8 A9 BC BB thm) (CU (BF.mk BA A6 A8 A9 BC BB thm) A x) (BS (BF.mk BA A6 A8 A9 BC BB thm) A (a.drop 1)) (BS (BF.mk BA A6 A8 A9 BC BB thm) A b)) ([(DE (BF.mk BA A6 A8 A9 BC BB thm) (BP A6 [(CU (BF.mk BA A6 A8 A9 BC BB thm) A x)]) mq.1), ((CW (BF.mk BA A6 A8 A9 BC BB thm) A x mq.2).1)]) AM) ⟨_, _, rfl, rfl, rfl⟩ (Ce _) (aw (we rfl) (aw (we rfl) (aw (we rfl) (Ci)))) (by repeat' first | exact trivial | refine And.intro ?_ ?_ | ((refine Or.inr (And.intro ?_ ?_) <;> repeat (first | exact List.Mem.head _ | apply List.Mem.tail)); done) | exact Or.inl Ai) trivial ?_
   refine Ay Ao Ao (fun _ => Ar Ao) trivial ?_
   refine Cd rfl rfl (A1 (i := 4) Cb rfl rfl rfl Ae AW (CR _)) (by repeat' first | exact trivial | refine And.intro ?_ ?_ | ((refine Or.inr (And.intro ?_ ?_) <;> repeat (first | exact List.Mem.head _ | apply List.Mem.tail)); done) | exact Or.inl Ai) trivial ?_
   refine Ay Ao Ao (fun _ => At Ao) trivial ?_
   refine CA Ao Ai ?_
   refine A5 ?_
   refine ⟨Ao, _, _, ⟨_, _, Ao, (Bg (i := 4) Cb Ao Ao Ae), ⟨_, _, Ao, Ao, Ao⟩⟩, (Cf (is := [5, 6]) Ao), ?_⟩
   all_goals exact ⟨by show (.tup [.agg ((B2 (CZ (BF.mk BA A6 A8 A9 BC BB thm) (Dk (BF.mk BA A6 A8 A9 BC BB thm) (CU (BF.mk BA A6 A8 A9 BC BB thm) A x) (BS (BF.mk BA A6 A8 A9 BC BB thm) A (a.drop 1)) (BS (BF.mk BA A6 A8 A9 BC BB thm) A b)) ([(DE (BF.mk BA A6 A8 A9 BC BB thm) (BP A6 [(CU (BF.mk BA A6 A8 A9 BC BB thm) A x)]) mq.1), ((CW (BF.mk BA A6 A8 A9 BC BB thm) A x mq.2).1)]))).map .p), .p (.lst (List.map CP ((CW (BF.mk BA A6 A8 A9 BC BB thm) A x mq.2).2)))] : AV) = _; rw [Pg hx hmq], rfl⟩
theorem Rt : ∀ (p c : Nat) (BA A6 A8 A9 BC BB : ByteArray) (thm : List ByteArray) (m : Nat) (cs : List Int) (A : List Tm) (al : Int) (n : Nat) (l : List CM), (l.length ≤ n) → (l.length < 1000000) → (∀ y ∈ l, Fm A y) → (thm.length = 14) → Bl Tryz.prog 92 [.ptr p 0, .p (.lst (List.map CP l))] [.box p [.p (.str BA), .p (.str A6), .p (.str A8), .p (.str A9), .p (.str BC), .p (.str BB), .p (.lst (List.map CV thm)), .ptr c 0], .box c [.p (.lst (List.map Ca cs)), .p (.lst (BO A)), .map m, .p (I al)]] (DG (.tup [.agg ((B2 ((Cl (BF.mk BA A6 A8 A9 BC BB thm) A l).1)).map .p), .p (.lst (List.map CP ((Cl (BF.mk BA A6 A8 A9 BC BB thm) A l).2)))]) [.box p [.p (.str BA), .p (.str A6), .p (.str A8), .p (.str A9), .p (.str BC), .p (.str BB), .p (.lst (List.map CV thm)), .ptr c 0], .box c [.p (.lst (List.map Ca cs)), .p (.lst (BO A)), .map m, .p (I al)]]) := by
 intro p c BA A6 A8 A9 BC BB thm m cs A al  n
 induction n using Nat.strongRecOn with
 | ind n ih =>
  intro l h1 h2 h3 h4
  refine A3 Tryz.func92 Ao Z7 (n := 120) Ao Ao ?_
  refine As ?_
  refine Aq ?_
  refine BH Ao Ao (BG DW Ao) fun b4 => ?_
  refine Ap Ao Ao (At Ao) ?_
  refine Au Ao ?_
  refine As ?_
  refine As ?_
  refine Aq ?_
  refine Ap Ao Ao (Ar Ao) ?_
  refine Ap Ao Ao (Bx EO Ao (List.length_map _)) ?_
  refine Ap Ao Ao (A7 Ao Ao Ao) ?_
  refine Au Ao ?_
  refine A4 Ao (fun c1 => ?_) (fun c1 => ?_)
  ·(try simp only [sd, se] at c1)
   refine As ?_
   refine CJ (fun k => false) Dq ?_
   refine Ay Ao Ao (fun _ => Ar Ao) trivial ?_
   refine Ay Ao Ao (fun _ => Ar Ao) trivial ?_
   refine Ay Ao Ao (fun _ => Ar Ao) trivial ?_
   refine Ay Ao Ao (fun _ => BT Ao) trivial ?_
   refine Ay Ao Ao (fun _ => Av Gq Ao Ao) trivial ?_
   refine Ay Ao Ao (fun _ => Av Du Ao Ao) trivial ?_
   refine BK (j := 1) rfl rfl rfl (fun H i hi => Ax (i := i) GO rfl hi rfl) (by repeat' first | exact trivial | refine And.intro ?_ ?_ | ((refine Or.inr (And.intro ?_ ?_) <;> repeat (first | exact List.Mem.head _ | apply List.Mem.tail)); done) | exact Or.inl Ai) trivial ?_
   refine Ay Ao Ao (fun _ => C0 Ao Ao (Dz A8 [] AI) (aw (we Ao) (aw (Cc Ao) (Ci)))) trivial ?_
   refine B1 [1] rfl rfl rfl (.inl ⟨rfl, rfl, rfl⟩) (GW p c BA A6 A8 A9 BC BB thm (BP A8 [])) ⟨_, _, rfl, rfl, rfl⟩ (Ce _) (aw (we rfl) (aw (we rfl) (Ci))) (by repeat' first | exact trivial | refine And.intro ?_ ?_ | ((refine Or.inr (And.intro ?_ ?_) <;> repeat (first | exact List.Mem.head _ | apply List.Mem.tail)); done) | exact Or.inl Ai) trivial ?_
   refine Ay Ao Ao (fun _ => Ar Ao) trivial ?_
   refine Ay Ao Ao (fun _ => BT Ao) trivial ?_
   refine Ay Ao Ao (fun _ => Av Gq Ao Ao) trivial ?_
   refine Ay Ao Ao (fun _ => Av Du Ao Ao) trivial ?_
   refine BK (j := 1) rfl rfl rfl (fun H i hi => Ax (i := i) GO rfl hi rfl) (by repeat' first | exact trivial | refine And.intro ?_ ?_ | ((refine Or.inr (And.intro ?_ ?_) <;> repeat (first | exact List.Mem.head _ | apply List.Mem.tail)); done) | exact Or.inl Ai) trivial ?_
   refine Ay Ao Ao (fun _ => C0 Ao Ao (Dz A8 [] AI) (aw (we Ao) (aw (Cc Ao) (Ci)))) trivial ?_
   refine B1 [1] rfl rfl rfl (.inl ⟨rfl, rfl, rfl⟩) (Il p c BA A6 A8 A9 BC BB thm 6 (CX (BF.mk BA A6 A8 A9 BC BB thm) (BP A8 [])) (BP A8 []) [] ⟨by decide, by rw [h4]; decide⟩ AM) ⟨_, _, rfl, rfl, rfl⟩ (Ce _) (aw (we rfl) (aw (we rfl) (aw (we rfl) (aw (we rfl) (aw (Cc rfl) (Ci)))))) (by repeat' first | exact trivial | refine And.intro ?_ ?_ | ((refine Or.inr (And.intro ?_ ?_) <;> repeat (first | exact List.Mem.head _ | apply List.Mem.tail)); done) | exact Or.inl Ai) trivial ?_
   refine Cd rfl rfl (A1 (i := 0) Cb rfl rfl rfl Ae AW (CR _)) (by repeat' first | exact trivial | refine And.intro ?_ ?_ | ((refine Or.inr (And.intro ?_ ?_) <;> repeat (first | exact List.Mem.head _ | apply List.Mem.tail)); done) | exact Or.inl Ai) trivial ?_
   refine Ay Ao Ao (fun _ => At Ao) trivial ?_
   refine CA Ao Ai ?_
   refine B5 (EF 5) ?_
   refine A5 ?_
   refine ⟨Ao, _, _, ⟨_, _, Ao, (Bg (i := 0) Cb Ao Ao Ae), ⟨_, _, Ao, Ao, Ao⟩⟩, (Cf (is := [1, 2]) Ao), ?_⟩
   obtain rfl := List.length_eq_zero_iff.1 (by omega : l.length = 0)
   all_goals exact ⟨by show (.tup [.agg ((B2 (EH (BF.mk BA A6 A8 A9 BC BB thm) 6 (CX (BF.mk BA A6 A8 A9 BC BB thm) (BP A8 [])) (BP A8 []) [])).map .p), .p (.lst (List.map CP []))] : AV) = _; simp only [Cl], rfl⟩
  ·(try simp only [sd, se] at c1)
   refine BD ?_
   refine As ?_
   obtain ⟨x, hx⟩ := BM (l := l) (i := 0) Am
   have hpx := Pq h3 hx
   simp only [Fm] at hpx
   refine DU [.val (.ptr p 0), .val (.p (.lst (List.map CP l))), .val (.ref (CP x)), .val (.agg ((CP x).map .p)), .val (.agg ((Ba (CU (BF.mk BA A6 A8 A9 BC BB thm) A x)).map .p)), .val (.ptr p 0), .val (.p (.lst (List.map CP l))), .val (.p (.lst (List.map CP (l.drop 1)))), .val (.agg ((Ba (BS (BF.mk BA A6 A8 A9 BC BB thm) A (l.drop 1))).map .p)), .new [.p (I 0), .p (I 0), .p (.str ⟨#[]⟩), .p (.nils), .p (.nils)], .new [.p (I 0), .p (I 0), .p (.str ⟨#[]⟩), .p (.nils), .p (.nils)]] Dq Ao Ai Ai ?_
   refine BE Ao (fun Bs => Ar Ao) ?_
   refine BE Ao (fun Bs => Ar Ao) ?_
   refine BE Ao (fun Bs => BJ EO Ao Ao Am (Df hx) (Ao)) ?_
   refine BE Ao (fun Bs => Be GN Ao (Ao)) ?_
   refine BE Ao (fun Bs => CC [1, 2] Ao (.inl ⟨Ao, Ao, Ao⟩) (KL p c BA A6 A8 A9 BC BB thm m cs A al x (Pq h3 hx)) ⟨_, _, Ao, Ao, ⟨_, _, Ao, Ao, Ao⟩⟩ Al (aw (we Ao) (aw (we Ao) (Ci)))) ?_
   refine BE Ao (fun Bs => Ar Ao) ?_
   refine BE Ao (fun Bs => Ar Ao) ?_
   refine BE Ao (fun Bs => D0 (lo := 1) EO Ao (Bv (C9 _)) ⟨_, Ao⟩ Ao AP (Nat.le_refl _) (Ir (f := CP) l 1)) ?_
   refine BE Ao (fun Bs => CC [1, 2] Ao (.inl ⟨Ao, Ao, Ao⟩) (IS p c BA A6 A8 A9 BC BB thm m cs A al (l.drop 1) AQ (HB h3)) ⟨_, _, Ao, Ao, ⟨_, _, Ao, Ao, Ao⟩⟩ Al (aw (we Ao) (aw (we Ao) (Ci)))) ?_
   refine Ea Ao (fun Bs => BG B0 Ao) fun b6 => ?_
   refine Ea Ao (fun Bs => BG B0 Ao) fun b7 => ?_
   refine D6 ?_
   change AL _ _ _ 11 ⟨120, _, [.box b6 [.p (I 0), .p (I 0), .p (.str ⟨#[]⟩), .p (.nils), .p (.nils)], .box b7 [.p (I 0), .p (I 0), .p (.str ⟨#[]⟩), .p (.nils), .p (.nils)], .box b4 [.p (I 0), .p (I 0), .p (.str ⟨#[]⟩), .p (.nils), .p (.nils), .p (I 0), .p (I 0), .p (.str ⟨#[]⟩), .p (.nils), .p (.nils), .p (I 0), .p (I 0), .p (.str ⟨#[]⟩), .p (.nils), .p (.nils), .p (.bool false)], .box p [.p (.str BA), .p (.str A6), .p (.str A8), .p (.str A9), .p (.str BC), .p (.str BB), .p (.lst (List.map CV thm)), .ptr c 0], .box c [.p (.lst (List.map Ca cs)), .p (.lst (BO A)), .map m, .p (I al)]], []⟩ _
   refine Ap Ao Ao (A1 (i := 0) BI Ao Ao Ao Af AX (B3 _)) ?_
   refine Ap Ao Ao (A1 (i := 1) BI Ao Ao Ao Af AX (B3 _)) ?_
   refine Au Ao ?_
   refine As ?_
   obtain ⟨xp, xm⟩ := x
   simp only at hpx
   refine DU [.val (.p (.lst (List.map CP l))), .val (.ref [I xp, .bool xm]), .val (.ref (List.drop 0 ([I xp, .bool xm]))), .val (.p (I xp)), .val (.p (.lst (List.map CP l))), .val (.ref [I xp, .bool xm]), .val (.ref (List.drop 1 ([I xp, .bool xm]))), .val (.p (.bool xm)), .val (.p (.bool (!xm))), .val (.agg [.p (I xp), .p (.bool (!xm))]), .new [.p (I 0), .p (.bool false)]] Dq Ao Ai Ai ?_
   refine BE Ao (fun Bs => Ar Ao) ?_
   refine BE Ao (fun Bs => BJ EO Ao Ao Am (Df hx) (Ao)) ?_
   refine BE Ao (fun Bs => C3 HE Ao Ao) ?_
   refine BE Ao (fun Bs => CG DQ Ao) ?_
   refine BE Ao (fun Bs => Ar Ao) ?_
   refine BE Ao (fun Bs => BJ EO Ao Ao Am (Df hx) (Ao)) ?_
   refine BE Ao (fun Bs => C3 HE Ao Ao) ?_
   refine BE Ao (fun Bs => CG Uf Ao) ?_
   refine BE Ao (fun Bs => Co Ao) ?_
   refine BE Ao (fun Bs => Bi HE Hh Ao) ?_
   refine Ea Ao (fun Bs => BG Hh Ao) fun b8 => ?_
   refine D6 ?_
   change AL _ _ _ 11 ⟨120, _, [.box b8 [.p (I 0), .p (.bool false)], .box b6 ((Ba (CU (BF.mk BA A6 A8 A9 BC BB thm) A (CM.mk xp xm))).map .p), .box b7 ((Ba (BS (BF.mk BA A6 A8 A9 BC BB thm) A (l.drop 1))).map .p), .box b4 [.p (I 0), .p (I 0), .p (.str ⟨#[]⟩), .p (.nils), .p (.nils), .p (I 0), .p (I 0), .p (.str ⟨#[]⟩), .p (.nils), .p (.nils), .p (I 0), .p (I 0), .p (.str ⟨#[]⟩), .p (.nils), .p (.nils), .p (.bool false)], .box p [.p (.str BA), .p (.str A6), .p (.str A8), .p (.str A9), .p (.str BC), .p (.str BB), .p (.lst (List.map CV thm)), .ptr c 0], .box c [.p (.lst (List.map Ca cs)), .p (.lst (BO A)), .map m, .p (I al)]], []⟩ _
   refine Ap Ao Ao (Bc (i := 0) GN Ao Ao Ao Ao Ao Ao) ?_
   refine Au Ao ?_
   refine As ?_
   refine Aq ?_
   refine Ap Ao Ao (Ar Ao) ?_
   refine Ap Ao Ao (Ar Ao) ?_
   refine Ap Ao Ao (Aw (i := 1) BI Ao Ao Af) ?_
   refine Ap Ao Ao (CH [4] Ao (.inl ⟨Ao, Ao, Ao⟩) (GW p c BA A6 A8 A9 BC BB thm (CU (BF.mk BA A6 A8 A9 BC BB thm) A (CM.mk xp xm))) ⟨_, _, Ao, Ao, Ao⟩ Al Ao (.inl Ao)) ?_
   refine Ap Ao Ao (CH [4] Ao (.inl ⟨Ao, Ao, Ao⟩) (JL p c BA A6 A8 A9 BC BB thm (CX (BF.mk BA A6 A8 A9 BC BB thm) (CU (BF.mk BA A6 A8 A9 BC BB thm) A (CM.mk xp xm)))) ⟨_, _, Ao, Ao, Ao⟩ Al Ao (.inl Ao)) ?_
   refine BH Ao Ao (BG DW Ao) fun b9 => ?_
   refine Ap Ao Ao (A1 (i := 0) Cb Ao Ao Ao Ae AW (CR _)) ?_
   refine Au Ao ?_
   refine As ?_
   refine As ?_
   refine Aq ?_
   refine Ap Ao Ao (Ar Ao) ?_
   refine Ap Ao Ao (BJ EO Ao Ao Am (Df hx) (Ao)) ?_
   refine Ap Ao Ao (C3 HE Ao Ao) ?_
   refine Ap Ao Ao (CG Uf Ao) ?_
   refine Au Ao ?_
   refine A4 Ao (fun c2 => ?_) (fun c2 => ?_)
   ·(try simp only [sd, se] at c2)
    refine As ?_
    obtain ⟨x1, hx1⟩ := BM (l := A) (i := (xp : Int).toNat) Am
    refine DU [.val (.ptr p 0), .val (.ptr p 0), .val (.ptr p (0 + 7)), .val (.ptr c 0), .val (.ptr c 0), .val (.ptr c (0 + 1)), .val (.p (.lst (BO A))), .val (.p (.lst (List.map CP l))), .val (.ref [I xp, .bool xm]), .val (.ref (List.drop 0 ([I xp, .bool xm]))), .val (.p (I xp)), .val (.ref (Ba x1)), .val (.agg ((Ba x1).map .p)), .new [.p (I 0), .p (I 0), .p (.str ⟨#[]⟩), .p (.nils), .p (.nils)]] Dq Ao Ai Ai ?_
    refine BE Ao (fun Bs => Ar Ao) ?_
    refine BE Ao (fun Bs => BT Ao) ?_
    refine BE Ao (fun Bs => Av Gq Ao Ao) ?_
    refine BE Ao (fun Bs => Ax (i := Bs.length + 5) UG Ao (Bn Ao) Ao) ?_
    refine BE Ao (fun Bs => BT Ao) ?_
    refine BE Ao (fun Bs => Av Gk Ao Ao) ?_
    refine BE Ao (fun Bs => Ax (i := Bs.length + 6) DC Ao (Bn Ao) Ao) ?_
    refine BE Ao (fun Bs => Ar Ao) ?_
    refine BE Ao (fun Bs => BJ EO Ao Ao Am (Df hx) (Ao)) ?_
    refine BE Ao (fun Bs => C3 HE Ao Ao) ?_
    refine BE Ao (fun Bs => CG DQ Ao) ?_
    refine BE Ao (fun Bs => BJ B4 Ao Ao Am (B9 hx1) (Bh _)) ?_
    refine BE Ao (fun Bs => Be BI Ao (Bh _)) ?_
    refine Ea Ao (fun Bs => BG B0 Ao) fun b10 => ?_
    refine D6 ?_
    change AL _ _ _ 14 ⟨120, _, [.box b10 [.p (I 0), .p (I 0), .p (.str ⟨#[]⟩), .p (.nils), .p (.nils)], .box b9 ((B2 (DJ (BF.mk BA A6 A8 A9 BC BB thm) (CX (BF.mk BA A6 A8 A9 BC BB thm) (CU (BF.mk BA A6 A8 A9 BC BB thm) A (CM.mk xp xm))))).map .p), .box b8 [.p (I xp), .p (.bool (!xm))], .box b6 ((Ba (CU (BF.mk BA A6 A8 A9 BC BB thm) A (CM.mk xp xm))).map .p), .box b7 ((Ba (BS (BF.mk BA A6 A8 A9 BC BB thm) A (l.drop 1))).map .p), .box b4 [.p (I 0), .p (I 0), .p (.str ⟨#[]⟩), .p (.nils), .p (.nils), .p (I 0), .p (I 0), .p (.str ⟨#[]⟩), .p (.nils), .p (.nils), .p (I 0), .p (I 0), .p (.str ⟨#[]⟩), .p (.nils), .p (.nils), .p (.bool false)], .box p [.p (.str BA), .p (.str A6), .p (.str A8), .p (.str A9), .p (.str BC), .p (.str BB), .p (.lst (List.map CV thm)), .ptr c 0], .box c [.p (.lst (List.map Ca cs)), .p (.lst (BO A)), .map m, .p (I al)]], []⟩ _
    refine Ap Ao Ao (A1 (i := 0) BI Ao Ao Ao Af AX (B3 _)) ?_
    refine Au Ao ?_
    refine CJ (fun k => false) Dq ?_
    refine Ay Ao Ao (fun _ => Ar Ao) trivial ?_
    refine Ay Ao Ao (fun _ => Ar Ao) trivial ?_
    refine BK (j := 3) rfl rfl rfl (fun H i hi => Aw (i := i) BI rfl hi Af) (by repeat' first | exact trivial | refine And.intro ?_ ?_ | ((refine Or.inr (And.intro ?_ ?_) <;> repeat (first | exact List.Mem.head _ | apply List.Mem.tail)); done) | exact Or.inl Ai) trivial ?_
    refine B1 [6] rfl rfl rfl (.inl ⟨rfl, rfl, rfl⟩) (GW p c BA A6 A8 A9 BC BB thm (CU (BF.mk BA A6 A8 A9 BC BB thm) A (CM.mk xp xm))) ⟨_, _, rfl, rfl, rfl⟩ (Ce _) (aw (we rfl) (aw (we rfl) (Ci))) (by repeat' first | exact trivial | refine And.intro ?_ ?_ | ((refine Or.inr (And.intro ?_ ?_) <;> repeat (first | exact List.Mem.head _ | apply List.Mem.tail)); done) | exact Or.inl Ai) trivial ?_
    refine BK (j := 0) rfl rfl rfl (fun H i hi => Aw (i := i) BI rfl hi Af) (by repeat' first | exact trivial | refine And.intro ?_ ?_ | ((refine Or.inr (And.intro ?_ ?_) <;> repeat (first | exact List.Mem.head _ | apply List.Mem.tail)); done) | exact Or.inl Ai) trivial ?_
    refine BK (j := 0) rfl rfl rfl (fun H i hi => Aw (i := i) BI rfl hi Af) (by repeat' first | exact trivial | refine And.intro ?_ ?_ | ((refine Or.inr (And.intro ?_ ?_) <;> repeat (first | exact List.Mem.head _ | apply List.Mem.tail)); done) | exact Or.inl Ai) trivial ?_
    refine Ay Ao Ao (fun _ => BN (rows := BO [x1]) B4 B0 Ao Ao Ao Ao (Bv (B6 _)) (Cv _)) trivial ?_
    refine B1 [6] rfl rfl rfl (.inl ⟨rfl, rfl, rfl⟩) (Il p c BA A6 A8 A9 BC BB thm 5 (CX (BF.mk BA A6 A8 A9 BC BB thm) (CU (BF.mk BA A6 A8 A9 BC BB thm) A (CM.mk xp xm))) x1 [x1] ⟨by decide, by rw [h4]; decide⟩ AM) ⟨_, _, rfl, rfl, rfl⟩ (Ce _) (aw (we rfl) (aw (we rfl) (aw (we rfl) (aw (we rfl) (aw (we rfl) (Ci)))))) (by repeat' first | exact trivial | refine And.intro ?_ ?_ | ((refine Or.inr (And.intro ?_ ?_) <;> repeat (first | exact List.Mem.head _ | apply List.Mem.tail)); done) | exact Or.inl Ai) trivial ?_
    refine Cd rfl rfl (A1 (i := 1) Cb rfl rfl rfl Ae AW (CR _)) (by repeat' first | exact trivial | refine And.intro ?_ ?_ | ((refine Or.inr (And.intro ?_ ?_) <;> repeat (first | exact List.Mem.head _ | apply List.Mem.tail)); done) | exact Or.inl Ai) trivial ?_
    refine CA Ao Ai ?_
    refine As ?_
    refine Aq ?_
    refine Ap Ao Ao (Ar Ao) ?_
    refine Ap Ao Ao (Ar Ao) ?_
    refine Ap Ao Ao (D0 (lo := 1) EO Ao (Bv (C9 _)) ⟨_, Ao⟩ Ao AP (Nat.le_refl _) (Ir (f := CP) l 1)) ?_
    refine Ap Ao Ao (CH [6, 7] Ao (.inl ⟨Ao, Ao, Ao⟩) (ih (l.drop 1).length AS (l.drop 1) (Nat.le_refl _) AS (HB h3) h4) ⟨_, _, Ao, Ao, ⟨_, _, Ao, Ao, Ao⟩⟩ Al Ao (.inl Ao)) ?_
    generalize hnq : Cl (BF.mk BA A6 A8 A9 BC BB thm) A (l.drop 1) = nq
    refine Ap Ao Ao (Ar Ao) ?_
    refine Ap Ao Ao (BY Ao Ao) ?_
    refine Ap Ao Ao (BY Ao Ao) ?_
    refine BH Ao Ao (BG DW Ao) fun b11 => ?_
    refine Ap Ao Ao (A1 (i := 0) Cb Ao Ao Ao Ae AW (CR _)) ?_
    refine Ap Ao Ao (At Ao) ?_
    refine Au Ao ?_
    refine As ?_
    refine DU [.val (.ptr p 0), .val (.ptr p 0), .val (.ptr p 0), .val (.agg ((Ba (CU (BF.mk BA A6 A8 A9 BC BB thm) A (CM.mk xp xm))).map .p)), .val (.agg ((Ba (BS (BF.mk BA A6 A8 A9 BC BB thm) A (l.drop 1))).map .p)), .val (.agg ((Ba (CI (BF.mk BA A6 A8 A9 BC BB thm) (CU (BF.mk BA A6 A8 A9 BC BB thm) A (CM.mk xp xm)) (BS (BF.mk BA A6 A8 A9 BC BB thm) A (l.drop 1)))).map .p)), .val (.agg ((Ba (CX (BF.mk BA A6 A8 A9 BC BB thm) (CI (BF.mk BA A6 A8 A9 BC BB thm) (CU (BF.mk BA A6 A8 A9 BC BB thm) A (CM.mk xp xm)) (BS (BF.mk BA A6 A8 A9 BC BB thm) A (l.drop 1))))).map .p)), .val (.ptr p 0), .val (.ptr p 0), .val (.agg ((Ba (CU (BF.mk BA A6 A8 A9 BC BB thm) A (CM.mk xp xm))).map .p)), .val (.agg ((Ba (CX (BF.mk BA A6 A8 A9 BC BB thm) (CU (BF.mk BA A6 A8 A9 BC BB thm) A (CM.mk xp xm)))).map .p)), .val (.ptr p 0), .val (.agg ((Ba (BS (BF.mk BA A6 A8 A9 BC BB thm) A (l.drop 1))).map .p)), .val (.agg ((Ba (CX (BF.mk BA A6 A8 A9 BC BB thm) (BS (BF.mk BA A6 A8 A9 BC BB thm) A (l.drop 1)))).map .p)), .val (.agg ((Ba (CI (BF.mk BA A6 A8 A9 BC BB thm) (CX (BF.mk BA A6 A8 A9 BC BB thm) (CU (BF.mk BA A6 A8 A9 BC BB thm) A (CM.mk xp xm))) (CX (BF.mk BA A6 A8 A9 BC BB thm) (BS (BF.mk BA A6 A8 A9 BC BB thm) A (l.drop 1))))).map .p)), .val (.agg ((Ba (CU (BF.mk BA A6 A8 A9 BC BB thm) A (CM.mk xp xm))).map .p)), .val (.agg ((Ba (BS (BF.mk BA A6 A8 A9 BC BB thm) A (l.drop 1))).map .p)), .val (.p (.lst (BO [(CU (BF.mk BA A6 A8 A9 BC BB thm) A (CM.mk xp xm)), (BS (BF.mk BA A6 A8 A9 BC BB thm) A (l.drop 1))]))), .val (.agg ((B2 (EH (BF.mk BA A6 A8 A9 BC BB thm) 4 (CX (BF.mk BA A6 A8 A9 BC BB thm) (CI (BF.mk BA A6 A8 A9 BC BB thm) (CU (BF.mk BA A6 A8 A9 BC BB thm) A (CM.mk xp xm)) (BS (BF.mk BA A6 A8 A9 BC BB thm) A (l.drop 1)))) (CI (BF.mk BA A6 A8 A9 BC BB thm) (CX (BF.mk BA A6 A8 A9 BC BB thm) (CU (BF.mk BA A6 A8 A9 BC BB thm) A (CM.mk xp xm))) (CX (BF.mk BA A6 A8 A9 BC BB thm) (BS (BF.mk BA A6 A8 A9 BC BB thm) A (l.drop 1)))) [(CU (BF.mk BA A6 A8 A9 BC BB thm) A (CM.mk xp xm)), (BS (BF.mk BA A6 A8 A9 BC BB thm) A (l.drop 1))])).map .p)), .new [.p (I 0), .p (I 0), .p (.str ⟨#[]⟩), .p (.nils), .p (.nils), .p (I 0), .p (I 0), .p (.str ⟨#[]⟩), .p (.nils), .p (.nils), .p (I 0), .p (I 0), .p (.str ⟨#[]⟩), .p (.nils), .p (.nils), .p (.bool false)]] Dq Ao Ai Ai ?_
    refine BE Ao (fun Bs => Ar Ao) ?_
    refine BE Ao (fun Bs => Ar Ao) ?_
    refine BE Ao (fun Bs => Ar Ao) ?_
    refine BE Ao (fun Bs => Aw (i := Bs.length + 4) BI Ao (Bn Ao) Af) ?_
    refine BE Ao (fun Bs => Aw (i := Bs.length + 5) BI Ao (Bn Ao) Af) ?_
    refine BE Ao (fun Bs => CC [7] Ao (.inl ⟨Ao, Ao, Ao⟩) (D3 p c BA A6 A8 A9 BC BB thm (CU (BF.mk BA A6 A8 A9 BC BB thm) A (CM.mk xp xm)) (BS (BF.mk BA A6 A8 A9 BC BB thm) A (l.drop 1))) ⟨_, _, Ao, Ao, Ao⟩ Al (aw (we Ao) (aw (we Ao) (aw (we Ao) (Ci))))) ?_
    refine BE Ao (fun Bs => CC [7] Ao (.inl ⟨Ao, Ao, Ao⟩) (GW p c BA A6 A8 A9 BC BB thm (CI (BF.mk BA A6 A8 A9 BC BB thm) (CU (BF.mk BA A6 A8 A9 BC BB thm) A (CM.mk xp xm)) (BS (BF.mk BA A6 A8 A9 BC BB thm) A (l.drop 1)))) ⟨_, _, Ao, Ao, Ao⟩ Al (aw (we Ao) (aw (we Ao) (Ci)))) ?_
    refine BE Ao (fun Bs => Ar Ao) ?_
    refine BE Ao (fun Bs => Ar Ao) ?_
    refine BE Ao (fun Bs => Aw (i := Bs.length + 4) BI Ao (Bn Ao) Af) ?_
    refine BE Ao (fun Bs => CC [7] Ao (.inl ⟨Ao, Ao, Ao⟩) (GW p c BA A6 A8 A9 BC BB thm (CU (BF.mk BA A6 A8 A9 BC BB thm) A (CM.mk xp xm))) ⟨_, _, Ao, Ao, Ao⟩ Al (aw (we Ao) (aw (we Ao) (Ci)))) ?_
    refine BE Ao (fun Bs => Ar Ao) ?_
    refine BE Ao (fun Bs => Aw (i := Bs.length + 5) BI Ao (Bn Ao) Af) ?_
    refine BE Ao (fun Bs => CC [7] Ao (.inl ⟨Ao, Ao, Ao⟩) (GW p c BA A6 A8 A9 BC BB thm (BS (BF.mk BA A6 A8 A9 BC BB thm) A (l.drop 1))) ⟨_, _, Ao, Ao, Ao⟩ Al (aw (we Ao) (aw (we Ao) (Ci)))) ?_
    refine BE Ao (fun Bs => CC [7] Ao (.inl ⟨Ao, Ao, Ao⟩) (D3 p c BA A6 A8 A9 BC BB thm (CX (BF.mk BA A6 A8 A9 BC BB thm) (CU (BF.mk BA A6 A8 A9 BC BB thm) A (CM.mk xp xm))) (CX (BF.mk BA A6 A8 A9 BC BB thm) (BS (BF.mk BA A6 A8 A9 BC BB thm) A (l.drop 1)))) ⟨_, _, Ao, Ao, Ao⟩ Al (aw (we Ao) (aw (we Ao) (aw (we Ao) (Ci))))) ?_
    refine BE Ao (fun Bs => Aw (i := Bs.length + 4) BI Ao (Bn Ao) Af) ?_
    refine BE Ao (fun Bs => Aw (i := Bs.length + 5) BI Ao (Bn Ao) Af) ?_
    refine BE Ao (fun Bs => BN (rows := BO [(CU (BF.mk BA A6 A8 A9 BC BB thm) A (CM.mk xp xm)), (BS (BF.mk BA A6 A8 A9 BC BB thm) A (l.drop 1))]) B4 B0 Ao Ao Ao Ao (Bv (B6 _)) (Cv _)) ?_
    refine BE Ao (fun Bs => CC [7] Ao (.inl ⟨Ao, Ao, Ao⟩) (Il p c BA A6 A8 A9 BC BB thm 4 (CX (BF.mk BA A6 A8 A9 BC BB thm) (CI (BF.mk BA A6 A8 A9 BC BB thm) (CU (BF.mk BA A6 A8 A9 BC BB thm) A (CM.mk xp xm)) (BS (BF.mk BA A6 A8 A9 BC BB thm) A (l.drop 1)))) (CI (BF.mk BA A6 A8 A9 BC BB thm) (CX (BF.mk BA A6 A8 A9 BC BB thm) (CU (BF.mk BA A6 A8 A9 BC BB thm) A (CM.mk xp xm))) (CX (BF.mk BA A6 A8 A9 BC BB thm) (BS (BF.mk BA A6 A8 A9 BC BB thm) A (l.drop 1)))) [(CU (BF.mk BA A6 A8 A9 BC BB thm) A (CM.mk xp xm)), (BS (BF.mk BA A6 A8 A9 BC BB thm) A (l.drop 1))] ⟨by decide, by rw [h4]; decide⟩ AM) ⟨_, _, rfl, rfl, rfl⟩ Al (aw (we rfl) (aw (we rfl) (aw (we rfl) (aw (we rfl) (aw (we rfl) (Ci))))))) ?_
    refine Ea Ao (fun Bs => BG DW Ao) fun b13 => ?_
    refine D6 ?_
    change AL _ _ _ 20 ⟨120, _, [.box b13 [.p (I 0), .p (I 0), .p (.str ⟨#[]⟩), .p (.nils), .p (.nils), .p (I 0), .p (I 0), .p (.str ⟨#[]⟩), .p (.nils), .p (.nils), .p (I 0), .p (I 0), .p (.str ⟨#[]⟩), .p (.nils), .p (.nils), .p (.bool false)], .box b11 ((B2 nq.1).map .p), .box b10 ((Ba x1).map .p), .box b9 ((B2 (EH (BF.mk BA A6 A8 A9 BC BB thm) 5 (CX (BF.mk BA A6 A8 A9 BC BB thm) (CU (BF.mk BA A6 A8 A9 BC BB thm) A (CM.mk xp xm))) x1 [x1])).map .p), .box b8 [.p (I xp), .p (.bool (!xm))], .box b6 ((Ba (CU (BF.mk BA A6 A8 A9 BC BB thm) A (CM.mk xp xm))).map .p), .box b7 ((Ba (BS (BF.mk BA A6 A8 A9 BC BB thm) A (l.drop 1))).map .p), .box b4 [.p (I 0), .p (I 0), .p (.str ⟨#[]⟩), .p (.nils), .p (.nils), .p (I 0), .p (I 0), .p (.str ⟨#[]⟩), .p (.nils), .p (.nils), .p (I 0), .p (I 0), .p (.str ⟨#[]⟩), .p (.nils), .p (.nils), .p (.bool false)], .box p [.p (.str BA), .p (.str A6), .p (.str A8), .p (.str A9), .p (.str BC), .p (.str BB), .p (.lst (List.map CV thm)), .ptr c 0], .box c [.p (.lst (List.map Ca cs)), .p (.lst (BO A)), .map m, .p (I al)]], []⟩ _
    refine Ap Ao Ao (A1 (i := 0) Cb Ao Ao Ao Ae AW (CR _)) ?_
    refine Au Ao ?_
    refine As ?_
    refine DU [.val (.ptr p 0), .val (.agg ((B2 (EH (BF.mk BA A6 A8 A9 BC BB thm) 4 (CX (BF.mk BA A6 A8 A9 BC BB thm) (CI (BF.mk BA A6 A8 A9 BC BB thm) (CU (BF.mk BA A6 A8 A9 BC BB thm) A (CM.mk xp xm)) (BS (BF.mk BA A6 A8 A9 BC BB thm) A (l.drop 1)))) (CI (BF.mk BA A6 A8 A9 BC BB thm) (CX (BF.mk BA A6 A8 A9 BC BB thm) (CU (BF.mk BA A6 A8 A9 BC BB thm) A (CM.mk xp xm))) (CX (BF.mk BA A6 A8 A9 BC BB thm) (BS (BF.mk BA A6 A8 A9 BC BB thm) A (l.drop 1)))) [(CU (BF.mk BA A6 A8 A9 BC BB thm) A (CM.mk xp xm)), (BS (BF.mk BA A6 A8 A9 BC BB thm) A (l.drop 1))])).map .p)), .val (.ptr p 0), .val (.agg ((B2 (EH (BF.mk BA A6 A8 A9 BC BB thm) 5 (CX (BF.mk BA A6 A8 A9 BC BB thm) (CU (BF.mk BA A6 A8 A9 BC BB thm) A (CM.mk xp xm))) x1 [x1])).map .p)), .val (.agg ((B2 nq.1).map .p)), .val (.agg ((B2 (Ei (BF.mk BA A6 A8 A9 BC BB thm) (EH (BF.mk BA A6 A8 A9 BC BB thm) 5 (CX (BF.mk BA A6 A8 A9 BC BB thm) (CU (BF.mk BA A6 A8 A9 BC BB thm) A (CM.mk xp xm))) x1 [x1]) nq.1)).map .p)), .val (.p (.lst (List.map B2 ([(Ei (BF.mk BA A6 A8 A9 BC BB thm) (EH (BF.mk BA A6 A8 A9 BC BB thm) 5 (CX (BF.mk BA A6 A8 A9 BC BB thm) (CU (BF.mk BA A6 A8 A9 BC BB thm) A (CM.mk xp xm))) x1 [x1]) nq.1)])))), .val (.agg ((B2 (CZ (BF.mk BA A6 A8 A9 BC BB thm) (EH (BF.mk BA A6 A8 A9 BC BB thm) 4 (CX (BF.mk BA A6 A8 A9 BC BB thm) (CI (BF.mk BA A6 A8 A9 BC BB thm) (CU (BF.mk BA A6 A8 A9 BC BB thm) A (CM.mk xp xm)) (BS (BF.mk BA A6 A8 A9 BC BB thm) A (l.drop 1)))) (CI (BF.mk BA A6 A8 A9 BC BB thm) (CX (BF.mk BA A6 A8 A9 BC BB thm) (CU (BF.mk BA A6 A8 A9 BC BB thm) A (CM.mk xp xm))) (CX (BF.mk BA A6 A8 A9 BC BB thm) (BS (BF.mk BA A6 A8 A9 BC BB thm) A (l.drop 1)))) [(CU (BF.mk BA A6 A8 A9 BC BB thm) A (CM.mk xp xm)), (BS (BF.mk BA A6 A8 A9 BC BB thm) A (l.drop 1))]) ([(Ei (BF.mk BA A6 A8 A9 BC BB thm) (EH (BF.mk BA A6 A8 A9 BC BB thm) 5 (CX (BF.mk BA A6 A8 A9 BC BB thm) (CU (BF.mk BA A6 A8 A9 BC BB thm) A (CM.mk xp xm))) x1 [x1]) nq.1)]))).map .p)), .val (.agg [.p (I xp), .p (.bool (!xm))]), .newv 2 (List.map CP [(CM.mk xp (!xm))]), .val (.p (.lst (List.map CP nq.2)))] Dq Ao Ai Ai ?_
    refine BE Ao (fun Bs => Ar Ao) ?_
    refine BE Ao (fun Bs => Aw (i := Bs.length + 0) Cb Ao (Bn Ao) Ae) ?_
    refine BE Ao (fun Bs => Ar Ao) ?_
    refine BE Ao (fun Bs => Aw (i := Bs.length + 3) Cb Ao (Bn Ao) Ae) ?_
    refine BE Ao (fun Bs => Aw (i := Bs.length + 1) Cb Ao (Bn Ao) Ae) ?_
    refine BE Ao (fun Bs => CC [8] Ao (.inl ⟨Ao, Ao, Ao⟩) (J1 p c BA A6 A8 A9 BC BB thm (EH (BF.mk BA A6 A8 A9 BC BB thm) 5 (CX (BF.mk BA A6 A8 A9 BC BB thm) (CU (BF.mk BA A6 A8 A9 BC BB thm) A (CM.mk xp xm))) x1 [x1]) nq.1) ⟨_, _, Ao, Ao, Ao⟩ Al (aw (we Ao) (aw (we Ao) (aw (we Ao) (Ci))))) ?_
    refine BE Ao (fun Bs => BN (rows := List.map B2 ([(Ei (BF.mk BA A6 A8 A9 BC BB thm) (EH (BF.mk BA A6 A8 A9 BC BB thm) 5 (CX (BF.mk BA A6 A8 A9 BC BB thm) (CU (BF.mk BA A6 A8 A9 BC BB thm) A (CM.mk xp xm))) x1 [x1]) nq.1)])) I1 DW Ao Ao Ao Ao (Bv (Ev _)) (H4 _)) ?_
    refine BE Ao (fun Bs => CC [8] Ao (.inl ⟨Ao, Ao, Ao⟩) (FN p c BA A6 A8 A9 BC BB thm (EH (BF.mk BA A6 A8 A9 BC BB thm) 4 (CX (BF.mk BA A6 A8 A9 BC BB thm) (CI (BF.mk BA A6 A8 A9 BC BB thm) (CU (BF.mk BA A6 A8 A9 BC BB thm) A (CM.mk xp xm)) (BS (BF.mk BA A6 A8 A9 BC BB thm) A (l.drop 1)))) (CI (BF.mk BA A6 A8 A9 BC BB thm) (CX (BF.mk BA A6 A8 A9 BC BB thm) (CU (BF.mk BA A6 A8 A9 BC BB thm) A (CM.mk xp xm))) (CX (BF.mk BA A6 A8 A9 BC BB thm) (BS (BF.mk BA A6 A8 A9 BC BB thm) A (l.drop 1)))) [(CU (BF.mk BA A6 A8 A9 BC BB thm) A (CM.mk xp xm)), (BS (BF.mk BA A6 A8 A9 BC BB thm) A (l.drop 1))]) ([(Ei (BF.mk BA A6 A8 A9 BC BB thm) (EH (BF.mk BA A6 A8 A9 BC BB thm) 5 (CX (BF.mk BA A6 A8 A9 BC BB thm) (CU (BF.mk BA A6 A8 A9 BC BB thm) A (CM.mk xp xm))) x1 [x1]) nq.1)]) AM) ⟨_, _, Ao, Ao, Ao⟩ Al (aw (we Ao) (aw (we Ao) (aw (we Ao) (Ci))))) ?_
    refine BE Ao (fun Bs => Aw (i := Bs.length + 4) GN Ao (Bn Ao) Ao) ?_
    refine Ka Ao (fun Bs => EB (rows := List.map CP [(CM.mk xp (!xm))]) EO Hh Ao Ao Ao Ao (Bv (C9 _)) (Ms _)) fun b117 cp => ?_
    refine BE Ao (fun Bs => Ar Ao) ?_
    refine D6 ?_
    change AL _ _ _ 11 ⟨120, _, [.vec (some b117) 2 (List.map CP [(CM.mk xp (!xm))]) cp, .box b13 ((B2 (EH (BF.mk BA A6 A8 A9 BC BB thm) 4 (CX (BF.mk BA A6 A8 A9 BC BB thm) (CI (BF.mk BA A6 A8 A9 BC BB thm) (CU (BF.mk BA A6 A8 A9 BC BB thm) A (CM.mk xp xm)) (BS (BF.mk BA A6 A8 A9 BC BB thm) A (l.drop 1)))) (CI (BF.mk BA A6 A8 A9 BC BB thm) (CX (BF.mk BA A6 A8 A9 BC BB thm) (CU (BF.mk BA A6 A8 A9 BC BB thm) A (CM.mk xp xm))) (CX (BF.mk BA A6 A8 A9 BC BB thm) (BS (BF.mk BA A6 A8 A9 BC BB thm) A (l.drop 1)))) [(CU (BF.mk BA A6 A8 A9 BC BB thm) A (CM.mk xp xm)), (BS (BF.mk BA A6 A8 A9 BC BB thm) A (l.drop 1))])).map .p), .box b11 ((B2 nq.1).map .p), .box b10 ((Ba x1).map .p), .box b9 ((B2 (EH (BF.mk BA A6 A8 A9 BC BB thm) 5 (CX (BF.mk BA A6 A8 A9 BC BB thm) (CU (BF.mk BA A6 A8 A9 BC BB thm) A (CM.mk xp xm))) x1 [x1])).map .p), .box b8 [.p (I xp), .p (.bool (!xm))], .box b6 ((Ba (CU (BF.mk BA A6 A8 A9 BC BB thm) A (CM.mk xp xm))).map .p), .box b7 ((Ba (BS (BF.mk BA A6 A8 A9 BC BB thm) A (l.drop 1))).map .p), .box b4 [.p (I 0), .p (I 0), .p (.str ⟨#[]⟩), .p (.nils), .p (.nils), .p (I 0), .p (I 0), .p (.str ⟨#[]⟩), .p (.nils), .p (.nils), .p (I 0), .p (I 0), .p (.str ⟨#[]⟩), .p (.nils), .p (.nils), .p (.bool false)], .box p [.p (.str BA), .p (.str A6), .p (.str A8), .p (.str A9), .p (.str BC), .p (.str BB), .p (.lst (List.map CV thm)), .ptr c 0], .box c [.p (.lst (List.map Ca cs)), .p (.lst (BO A)), .map m, .p (I al)]], []⟩ _
    refine Ap Ao Ao (Eh (i := 0) (rows' := List.map CP nq.2) EO EO Hh Ao Ao Ao Ao Ao Ao (C9 _) (by rw [List.length_map, List.length_map, ← hnq, ID, List.length_drop]; simp only [List.length_cons, List.length_nil]; omega) (IN (f := CP) [(CM.mk xp (!xm))] nq.2)) ?_
    refine Ap Ao Ao (A1 (i := 7) Cb Ao Ao Ao Ae AW (CR _)) ?_
    refine Ap Ao Ao (At Ao) ?_
    refine Au Ao ?_
    refine A5 ?_
    refine ⟨Ao, _, _, ⟨_, _, Ao, (Bg (i := 7) Cb Ao Ao Ae), ⟨_, _, Ao, Ao, Ao⟩⟩, (Cf (is := [8, 9]) Ao), ?_⟩
    all_goals exact ⟨by show (.tup [.agg ((B2 (CZ (BF.mk BA A6 A8 A9 BC BB thm) (EH (BF.mk BA A6 A8 A9 BC BB thm) 4 (CX (BF.mk BA A6 A8 A9 BC BB thm) (CI (BF.mk BA A6 A8 A9 BC BB thm) (CU (BF.mk BA A6 A8 A9 BC BB thm) A (CM.mk xp xm)) (BS (BF.mk BA A6 A8 A9 BC BB thm) A (l.drop 1)))) (CI (BF.mk BA A6 A8 A9 BC BB thm) (CX (BF.mk BA A6 A8 A9 BC BB thm) (CU (BF.mk BA A6 A8 A9 BC BB thm) A (CM.mk xp xm))) (CX (BF.mk BA A6 A8 A9 BC BB thm) (BS (BF.mk BA A6 A8 A9 BC BB thm) A (l.drop 1)))) [(CU (BF.mk BA A6 A8 A9 BC BB thm) A (CM.mk xp xm)), (BS (BF.mk BA A6 A8 A9 BC BB thm) A (l.drop 1))]) ([(Ei (BF.mk BA A6 A8 A9 BC BB thm) (EH (BF.mk BA A6 A8 A9 BC BB thm) 5 (CX (BF.mk BA A6 A8 A9 BC BB thm) (CU (BF.mk BA A6 A8 A9 BC BB thm) A (CM.mk xp xm))) x1 [x1]) nq.1)]))).map .p), .p (.lst (List.map CP ([(CM.mk xp (!xm))] ++ nq.2)))] : AV) = _; rw [KY hx hnq]; simp only [Ha]; rw [if_pos c2, Cm hx1]; rfl, rfl⟩
   ·(try simp only [sd, se] at c2)
    refine BD ?_
    refine As ?_
    refine Aq ?_
    refine Ap Ao Ao (Ar Ao) ?_
    refine Ap Ao Ao (Ar Ao) ?_
    refine Ap Ao Ao (D0 (lo := 1) EO Ao (Bv (C9 _)) ⟨_, Ao⟩ Ao AP (Nat.le_refl _) (Ir (f := CP) l 1)) ?_
    refine Ap Ao Ao (CH [5, 6] Ao (.inl ⟨Ao, Ao, Ao⟩) (ih (l.drop 1).length AS (l.drop 1) (Nat.le_refl _) AS (HB h3) h4) ⟨_, _, Ao, Ao, ⟨_, _, Ao, Ao, Ao⟩⟩ Al Ao (.inl Ao)) ?_
    generalize hnq : Cl (BF.mk BA A6 A8 A9 BC BB thm) A (l.drop 1) = nq
    refine Ap Ao Ao (Ar Ao) ?_
    refine Ap Ao Ao (BY Ao Ao) ?_
    refine Ap Ao Ao (BY Ao Ao) ?_
    refine BH Ao Ao (BG DW Ao) fun b11 => ?_
    refine Ap Ao Ao (A1 (i := 0) Cb Ao Ao Ao Ae AW (CR _)) ?_
    refine Ap Ao Ao (At Ao) ?_
    refine Au Ao ?_
    refine As ?_
    refine DU [.val (.ptr p 0), .val (.ptr p 0), .val (.ptr p 0), .val (.agg ((Ba (CU (BF.mk BA A6 A8 A9 BC BB thm) A (CM.mk xp xm))).map .p)), .val (.agg ((Ba (BS (BF.mk BA A6 A8 A9 BC BB thm) A (l.drop 1))).map .p)), .val (.agg ((Ba (CI (BF.mk BA A6 A8 A9 BC BB thm) (CU (BF.mk BA A6 A8 A9 BC BB thm) A (CM.mk xp xm)) (BS (BF.mk BA A6 A8 A9 BC BB thm) A (l.drop 1)))).map .p)), .val (.agg ((Ba (CX (BF.mk BA A6 A8 A9 BC BB thm) (CI (BF.mk BA A6 A8 A9 BC BB thm) (CU (BF.mk BA A6 A8 A9 BC BB thm) A (CM.mk xp xm)) (BS (BF.mk BA A6 A8 A9 BC BB thm) A (l.drop 1))))).map .p)), .val (.ptr p 0), .val (.ptr p 0), .val (.agg ((Ba (CU (BF.mk BA A6 A8 A9 BC BB thm) A (CM.mk xp xm))).map .p)), .val (.agg ((Ba (CX (BF.mk BA A6 A8 A9 BC BB thm) (CU (BF.mk BA A6 A8 A9 BC BB thm) A (CM.mk xp xm)))).map .p)), .val (.ptr p 0), .val (.agg ((Ba (BS (BF.mk BA A6 A8 A9 BC BB thm) A (l.drop 1))).map .p)), .val (.agg ((Ba (CX (BF.mk BA A6 A8 A9 BC BB thm) (BS (BF.mk BA A6 A8 A9 BC BB thm) A (l.drop 1)))).map .p)), .val (.agg ((Ba (CI (BF.mk BA A6 A8 A9 BC BB thm) (CX (BF.mk BA A6 A8 A9 BC BB thm) (CU (BF.mk BA A6 A8 A9 BC BB thm) A (CM.mk xp xm))) (CX (BF.mk BA A6 A8 A9 BC BB thm) (BS (BF.mk BA A6 A8 A9 BC BB thm) A (l.drop 1))))).map .p)), .val (.agg ((Ba (CU (BF.mk BA A6 A8 A9 BC BB thm) A (CM.mk xp xm))).map .p)), .val (.agg ((Ba (BS (BF.mk BA A6 A8 A9 BC BB thm) A (l.drop 1))).map .p)), .val (.p (.lst (BO [(CU (BF.mk BA A6 A8 A9 BC BB thm) A (CM.mk xp xm)), (BS (BF.mk BA A6 A8 A9 BC BB thm) A (l.drop 1))]))), .val (.agg ((B2 (EH (BF.mk BA A6 A8 A9 BC BB thm) 4 (CX (BF.mk BA A6 A8 A9 BC BB thm) (CI (BF.mk BA A6 A8 A9 BC BB thm) (CU (BF.mk BA A6 A8 A9 BC BB thm) A (CM.mk xp xm)) (BS (BF.mk BA A6 A8 A9 BC BB thm) A (l.drop 1)))) (CI (BF.mk BA A6 A8 A9 BC BB thm) (CX (BF.mk BA A6 A8 A9 BC BB thm) (CU (BF.mk BA A6 A8 A9 BC BB thm) A (CM.mk xp xm))) (CX (BF.mk BA A6 A8 A9 BC BB thm) (BS (BF.mk BA A6 A8 A9 BC BB thm) A (l.drop 1)))) [(CU (BF.mk BA A6 A8 A9 BC BB thm) A (CM.mk xp xm)), (BS (BF.mk BA A6 A8 A9 BC BB thm) A (l.drop 1))])).map .p)), .new [.p (I 0), .p (I 0), .p (.str ⟨#[]⟩), .p (.nils), .p (.nils), .p (I 0), .p (I 0), .p (.str ⟨#[]⟩), .p (.nils), .p (.nils), .p (I 0), .p (I 0), .p (.str ⟨#[]⟩), .p (.nils), .p (.nils), .p (.bool false)]] Dq Ao Ai Ai ?_
    refine BE Ao (fun Bs => Ar Ao) ?_
    refine BE Ao (fun Bs => Ar Ao) ?_
    refine BE Ao (fun Bs => Ar Ao) ?_
    refine BE Ao (fun Bs => Aw (i := Bs.length + 3) BI Ao (Bn Ao) Af) ?_
    refine BE Ao (fun Bs => Aw (i := Bs.length + 4) BI Ao (Bn Ao) Af) ?_
    refine BE Ao (fun Bs => CC [6] Ao (.inl ⟨Ao, Ao, Ao⟩) (D3 p c BA A6 A8 A9 BC BB thm (CU (BF.mk BA A6 A8 A9 BC BB thm) A (CM.mk xp xm)) (BS (BF.mk BA A6 A8 A9 BC BB thm) A (l.drop 1))) ⟨_, _, Ao, Ao, Ao⟩ Al (aw (we Ao) (aw (we Ao) (aw (we Ao) (Ci))))) ?_
    refine BE Ao (fun Bs => CC [6] Ao (.inl ⟨Ao, Ao, Ao⟩) (GW p c BA A6 A8 A9 BC BB thm (CI (BF.mk BA A6 A8 A9 BC BB thm) (CU (BF.mk BA A6 A8 A9 BC BB thm) A (CM.mk xp xm)) (BS (BF.mk BA A6 A8 A9 BC BB thm) A (l.drop 1)))) ⟨_, _, Ao, Ao, Ao⟩ Al (aw (we Ao) (aw (we Ao) (Ci)))) ?_
    refine BE Ao (fun Bs => Ar Ao) ?_
    refine BE Ao (fun Bs => Ar Ao) ?_
    refine BE Ao (fun Bs => Aw (i := Bs.length + 3) BI Ao (Bn Ao) Af) ?_
    refine BE Ao (fun Bs => CC [6] Ao (.inl ⟨Ao, Ao, Ao⟩) (GW p c BA A6 A8 A9 BC BB thm (CU (BF.mk BA A6 A8 A9 BC BB thm) A (CM.mk xp xm))) ⟨_, _, Ao, Ao, Ao⟩ Al (aw (we Ao) (aw (we Ao) (Ci)))) ?_
    refine BE Ao (fun Bs => Ar Ao) ?_
    refine BE Ao (fun Bs => Aw (i := Bs.length + 4) BI Ao (Bn Ao) Af) ?_
    refine BE Ao (fun Bs => CC [6] Ao (.inl ⟨Ao, Ao, Ao⟩) (GW p c BA A6 A8 A9 BC BB thm (BS (BF.mk BA A6 A8 A9 BC BB thm) A (l.drop 1))) ⟨_, _, Ao, Ao, Ao⟩ Al (aw (we Ao) (aw (we Ao) (Ci)))) ?_
    refine BE Ao (fun Bs => CC [6] Ao (.inl ⟨Ao, Ao, Ao⟩) (D3 p c BA A6 A8 A9 BC BB thm (CX (BF.mk BA A6 A8 A9 BC BB thm) (CU (BF.mk BA A6 A8 A9 BC BB thm) A (CM.mk xp xm))) (CX (BF.mk BA A6 A8 A9 BC BB thm) (BS (BF.mk BA A6 A8 A9 BC BB thm) A (l.drop 1)))) ⟨_, _, Ao, Ao, Ao⟩ Al (aw (we Ao) (aw (we Ao) (aw (we Ao) (Ci))))) ?_
    refine BE Ao (fun Bs => Aw (i := Bs.length + 3) BI Ao (Bn Ao) Af) ?_
    refine BE Ao (fun Bs => Aw (i := Bs.length + 4) BI Ao (Bn Ao) Af) ?_
    refine BE Ao (fun Bs => BN (rows := BO [(CU (BF.mk BA A6 A8 A9 BC BB thm) A (CM.mk xp xm)), (BS (BF.mk BA A6 A8 A9 BC BB thm) A (l.drop 1))]) B4 B0 Ao Ao Ao Ao (Bv (B6 _)) (Cv _)) ?_
    refine BE Ao (fun Bs => CC [6] Ao (.inl ⟨Ao, Ao, Ao⟩) (Il p c BA A6 A8 A9 BC BB thm 4 (CX (BF.mk BA A6 A8 A9 BC BB thm) (CI (BF.mk BA A6 A8 A9 BC BB thm) (CU (BF.mk BA A6 A8 A9 BC BB thm) A (CM.mk xp xm)) (BS (BF.mk BA A6 A8 A9 BC BB thm) A (l.drop 1)))) (CI (BF.mk BA A6 A8 A9 BC BB thm) (CX (BF.mk BA A6 A8 A9 BC BB thm) (CU (BF.mk BA A6 A8 A9 BC BB thm) A (CM.mk xp xm))) (CX (BF.mk BA A6 A8 A9 BC BB thm) (BS (BF.mk BA A6 A8 A9 BC BB thm) A (l.drop 1)))) [(CU (BF.mk BA A6 A8 A9 BC BB thm) A (CM.mk xp xm)), (BS (BF.mk BA A6 A8 A9 BC BB thm) A (l.drop 1))] ⟨by decide, by rw [h4]; decide⟩ AM) ⟨_, _, rfl, rfl, rfl⟩ Al (aw (we rfl) (aw (we rfl) (aw (we rfl) (aw (we rfl) (aw (we rfl) (Ci))))))) ?_
    refine Ea Ao (fun Bs => BG DW Ao) fun b13 => ?_
    refine D6 ?_
    change AL _ _ _ 20 ⟨120, _, [.box b13 [.p (I 0), .p (I 0), .p (.str ⟨#[]⟩), .p (.nils), .p (.nils), .p (I 0), .p (I 0), .p (.str ⟨#[]⟩), .p (.nils), .p (.nils), .p (I 0), .p (I 0), .p (.str ⟨#[]⟩), .p (.nils), .p (.nils), .p (.bool false)], .box b11 ((B2 nq.1).map .p), .box b9 ((B2 (DJ (BF.mk BA A6 A8 A9 BC BB thm) (CX (BF.mk BA A6 A8 A9 BC BB thm) (CU (BF.mk BA A6 A8 A9 BC BB thm) A (CM.mk xp xm))))).map .p), .box b8 [.p (I xp), .p (.bool (!xm))], .box b6 ((Ba (CU (BF.mk BA A6 A8 A9 BC BB thm) A (CM.mk xp xm))).map .p), .box b7 ((Ba (BS (BF.mk BA A6 A8 A9 BC BB thm) A (l.drop 1))).map .p), .box b4 [.p (I 0), .p (I 0), .p (.str ⟨#[]⟩), .p (.nils), .p (.nils), .p (I 0), .p (I 0), .p (.str ⟨#[]⟩), .p (.nils), .p (.nils), .p (I 0), .p (I 0), .p (.str ⟨#[]⟩), .p (.nils), .p (.nils), .p (.bool false)], .box p [.p (.str BA), .p (.str A6), .p (.str A8), .p (.str A9), .p (.str BC), .p (.str BB), .p (.lst (List.map CV thm)), .ptr c 0], .box c [.p (.lst (List.map Ca cs)), .p (.lst (BO A)), .map m, .p (I al)]], []⟩ _
    refine Ap Ao Ao (A1 (i := 0) Cb Ao Ao Ao Ae AW (CR _)) ?_
    refine Au Ao ?_
    refine As ?_
    refine DU [.val (.ptr p 0), .val (.agg ((B2 (EH (BF.mk BA A6 A8 A9 BC BB thm) 4 (CX (BF.mk BA A6 A8 A9 BC BB thm) (CI (BF.mk BA A6 A8 A9 BC BB thm) (CU (BF.mk BA A6 A8 A9 BC BB thm) A (CM.mk xp xm)) (BS (BF.mk BA A6 A8 A9 BC BB thm) A (l.drop 1)))) (CI (BF.mk BA A6 A8 A9 BC BB thm) (CX (BF.mk BA A6 A8 A9 BC BB thm) (CU (BF.mk BA A6 A8 A9 BC BB thm) A (CM.mk xp xm))) (CX (BF.mk BA A6 A8 A9 BC BB thm) (BS (BF.mk BA A6 A8 A9 BC BB thm) A (l.drop 1)))) [(CU (BF.mk BA A6 A8 A9 BC BB thm) A (CM.mk xp xm)), (BS (BF.mk BA A6 A8 A9 BC BB thm) A (l.drop 1))])).map .p)), .val (.ptr p 0), .val (.agg ((B2 (DJ (BF.mk BA A6 A8 A9 BC BB thm) (CX (BF.mk BA A6 A8 A9 BC BB thm) (CU (BF.mk BA A6 A8 A9 BC BB thm) A (CM.mk xp xm))))).map .p)), .val (.agg ((B2 nq.1).map .p)), .val (.agg ((B2 (Ei (BF.mk BA A6 A8 A9 BC BB thm) (DJ (BF.mk BA A6 A8 A9 BC BB thm) (CX (BF.mk BA A6 A8 A9 BC BB thm) (CU (BF.mk BA A6 A8 A9 BC BB thm) A (CM.mk xp xm)))) nq.1)).map .p)), .val (.p (.lst (List.map B2 [(Ei (BF.mk BA A6 A8 A9 BC BB thm) (DJ (BF.mk BA A6 A8 A9 BC BB thm) (CX (BF.mk BA A6 A8 A9 BC BB thm) (CU (BF.mk BA A6 A8 A9 BC BB thm) A (CM.mk xp xm)))) nq.1)]))), .val (.agg ((B2 (CZ (BF.mk BA A6 A8 A9 BC BB thm) (EH (BF.mk BA A6 A8 A9 BC BB thm) 4 (CX (BF.mk BA A6 A8 A9 BC BB thm) (CI (BF.mk BA A6 A8 A9 BC BB thm) (CU (BF.mk BA A6 A8 A9 BC BB thm) A (CM.mk xp xm)) (BS (BF.mk BA A6 A8 A9 BC BB thm) A (l.drop 1)))) (CI (BF.mk BA A6 A8 A9 BC BB thm) (CX (BF.mk BA A6 A8 A9 BC BB thm) (CU (BF.mk BA A6 A8 A9 BC BB thm) A (CM.mk xp xm))) (CX (BF.mk BA A6 A8 A9 BC BB thm) (BS (BF.mk BA A6 A8 A9 BC BB thm) A (l.drop 1)))) [(CU (BF.mk BA A6 A8 A9 BC BB thm) A (CM.mk xp xm)), (BS (BF.mk BA A6 A8 A9 BC BB thm) A (l.drop 1))]) [(Ei (BF.mk BA A6 A8 A9 BC BB thm) (DJ (BF.mk BA A6 A8 A9 BC BB thm) (CX (BF.mk BA A6 A8 A9 BC BB thm) (CU (BF.mk BA A6 A8 A9 BC BB thm) A (CM.mk xp xm)))) nq.1)])).map .p)), .val (.agg [.p (I xp), .p (.bool (!xm))]), .newv 2 (List.map CP [(CM.mk xp (!xm))]), .val (.p (.lst (List.map CP nq.2)))] Dq Ao Ai Ai ?_
    refine BE Ao (fun Bs => Ar Ao) ?_
    refine BE Ao (fun Bs => Aw (i := Bs.length + 0) Cb Ao (Bn Ao) Ae) ?_
    refine BE Ao (fun Bs => Ar Ao) ?_
    refine BE Ao (fun Bs => Aw (i := Bs.length + 2) Cb Ao (Bn Ao) Ae) ?_
    refine BE Ao (fun Bs => Aw (i := Bs.length + 1) Cb Ao (Bn Ao) Ae) ?_
    refine BE Ao (fun Bs => CC [7] Ao (.inl ⟨Ao, Ao, Ao⟩) (J1 p c BA A6 A8 A9 BC BB thm (DJ (BF.mk BA A6 A8 A9 BC BB thm) (CX (BF.mk BA A6 A8 A9 BC BB thm) (CU (BF.mk BA A6 A8 A9 BC BB thm) A (CM.mk xp xm)))) nq.1) ⟨_, _, Ao, Ao, Ao⟩ Al (aw (we Ao) (aw (we Ao) (aw (we Ao) (Ci))))) ?_
    refine BE Ao (fun Bs => BN (rows := List.map B2 [(Ei (BF.mk BA A6 A8 A9 BC BB thm) (DJ (BF.mk BA A6 A8 A9 BC BB thm) (CX (BF.mk BA A6 A8 A9 BC BB thm) (CU (BF.mk BA A6 A8 A9 BC BB thm) A (CM.mk xp xm)))) nq.1)]) I1 DW Ao Ao Ao Ao (Bv (Ev _)) (H4 _)) ?_
    refine BE Ao (fun Bs => CC [7] Ao (.inl ⟨Ao, Ao, Ao⟩) (FN p c BA A6 A8 A9 BC BB thm (EH (BF.mk BA A6 A8 A9 BC BB thm) 4 (CX (BF.mk BA A6 A8 A9 BC BB thm) (CI (BF.mk BA A6 A8 A9 BC BB thm) (CU (BF.mk BA A6 A8 A9 BC BB thm) A (CM.mk xp xm)) (BS (BF.mk BA A6 A8 A9 BC BB thm) A (l.drop 1)))) (CI (BF.mk BA A6 A8 A9 BC BB thm) (CX (BF.mk BA A6 A8 A9 BC BB thm) (CU (BF.mk BA A6 A8 A9 BC BB thm) A (CM.mk xp xm))) (CX (BF.mk BA A6 A8 A9 BC BB thm) (BS (BF.mk BA A6 A8 A9 BC BB thm) A (l.drop 1)))) [(CU (BF.mk BA A6 A8 A9 BC BB thm) A (CM.mk xp xm)), (BS (BF.mk BA A6 A8 A9 BC BB thm) A (l.drop 1))]) [(Ei (BF.mk BA A6 A8 A9 BC BB thm) (DJ (BF.mk BA A6 A8 A9 BC BB thm) (CX (BF.mk BA A6 A8 A9 BC BB thm) (CU (BF.mk BA A6 A8 A9 BC BB thm) A (CM.mk xp xm)))) nq.1)] AM) ⟨_, _, Ao, Ao, Ao⟩ Al (aw (we Ao) (aw (we Ao) (aw (we Ao) (Ci))))) ?_
    refine BE Ao (fun Bs => Aw (i := Bs.length + 3) GN Ao (Bn Ao) Ao) ?_
    refine Ka Ao (fun Bs => EB (rows := List.map CP [(CM.mk xp (!xm))]) EO Hh Ao Ao Ao Ao (Bv (C9 _)) (Ms _)) fun b117 cp => ?_
    refine BE Ao (fun Bs => Ar Ao) ?_
    refine D6 ?_
    change AL _ _ _ 11 ⟨120, _, [.vec (some b117) 2 (List.map CP [(CM.mk xp (!xm))]) cp, .box b13 ((B2 (EH (BF.mk BA A6 A8 A9 BC BB thm) 4 (CX (BF.mk BA A6 A8 A9 BC BB thm) (CI (BF.mk BA A6 A8 A9 BC BB thm) (CU (BF.mk BA A6 A8 A9 BC BB thm) A (CM.mk xp xm)) (BS (BF.mk BA A6 A8 A9 BC BB thm) A (l.drop 1)))) (CI (BF.mk BA A6 A8 A9 BC BB thm) (CX (BF.mk BA A6 A8 A9 BC BB thm) (CU (BF.mk BA A6 A8 A9 BC BB thm) A (CM.mk xp xm))) (CX (BF.mk BA A6 A8 A9 BC BB thm) (BS (BF.mk BA A6 A8 A9 BC BB thm) A (l.drop 1)))) [(CU (BF.mk BA A6 A8 A9 BC BB thm) A (CM.mk xp xm)), (BS (BF.mk BA A6 A8 A9 BC BB thm) A (l.drop 1))])).map .p), .box b11 ((B2 nq.1).map .p), .box b9 ((B2 (DJ (BF.mk BA A6 A8 A9 BC BB thm) (CX (BF.mk BA A6 A8 A9 BC BB thm) (CU (BF.mk BA A6 A8 A9 BC BB thm) A (CM.mk xp xm))))).map .p), .box b8 [.p (I xp), .p (.bool (!xm))], .box b6 ((Ba (CU (BF.mk BA A6 A8 A9 BC BB thm) A (CM.mk xp xm))).map .p), .box b7 ((Ba (BS (BF.mk BA A6 A8 A9 BC BB thm) A (l.drop 1))).map .p), .box b4 [.p (I 0), .p (I 0), .p (.str ⟨#[]⟩), .p (.nils), .p (.nils), .p (I 0), .p (I 0), .p (.str ⟨#[]⟩), .p (.nils), .p (.nils), .p (I 0), .p (I 0), .p (.str ⟨#[]⟩), .p (.nils), .p (.nils), .p (.bool false)], .box p [.p (.str BA), .p (.str A6), .p (.str A8), .p (.str A9), .p (.str BC), .p (.str BB), .p (.lst (List.map CV thm)), .ptr c 0], .box c [.p (.lst (List.map Ca cs)), .p (.lst (BO A)), .map m, .p (I al)]], []⟩ _
    refine Ap Ao Ao (Eh (i := 0) (rows' := List.map CP nq.2) EO EO Hh Ao Ao Ao Ao Ao Ao (C9 _) (by rw [List.length_map, List.length_map, ← hnq, ID, List.length_drop]; simp only [List.length_cons, List.length_nil]; omega) (IN (f := CP) [(CM.mk xp (!xm))] nq.2)) ?_
    refine Ap Ao Ao (A1 (i := 6) Cb Ao Ao Ao Ae AW (CR _)) ?_
    refine Ap Ao Ao (At Ao) ?_
    refine Au Ao ?_
    refine A5 ?_
    refine ⟨Ao, _, _, ⟨_, _, Ao, (Bg (i := 6) Cb Ao Ao Ae), ⟨_, _, Ao, Ao, Ao⟩⟩, (Cf (is := [7, 8]) Ao), ?_⟩
    all_goals exact ⟨by show (.tup [.agg ((B2 (CZ (BF.mk BA A6 A8 A9 BC BB thm) (EH (BF.mk BA A6 A8 A9 BC BB thm) 4 (CX (BF.mk BA A6 A8 A9 BC BB thm) (CI (BF.mk BA A6 A8 A9 BC BB thm) (CU (BF.mk BA A6 A8 A9 BC BB thm) A (CM.mk xp xm)) (BS (BF.mk BA A6 A8 A9 BC BB thm) A (l.drop 1)))) (CI (BF.mk BA A6 A8 A9 BC BB thm) (CX (BF.mk BA A6 A8 A9 BC BB thm) (CU (BF.mk BA A6 A8 A9 BC BB thm) A (CM.mk xp xm))) (CX (BF.mk BA A6 A8 A9 BC BB thm) (BS (BF.mk BA A6 A8 A9 BC BB thm) A (l.drop 1)))) [(CU (BF.mk BA A6 A8 A9 BC BB thm) A (CM.mk xp xm)), (BS (BF.mk BA A6 A8 A9 BC BB thm) A (l.drop 1))]) [(Ei (BF.mk BA A6 A8 A9 BC BB thm) (DJ (BF.mk BA A6 A8 A9 BC BB thm) (CX (BF.mk BA A6 A8 A9 BC BB thm) (CU (BF.mk BA A6 A8 A9 BC BB thm) A (CM.mk xp xm)))) nq.1)])).map .p), .p (.lst (List.map CP ([(CM.mk xp (!xm))] ++ nq.2)))] : AV) = _; rw [KY hx hnq]; simp only [Ha]; rw [if_neg (by rw [c2]; decide)]; rfl, rfl⟩
end Go.Proofs.YtapmjpihennhaaaGreatDoor
