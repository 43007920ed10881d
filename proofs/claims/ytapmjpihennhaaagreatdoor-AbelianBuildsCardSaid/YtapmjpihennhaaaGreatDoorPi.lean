/- Part of the proofs: an abstract program logic, plain models and contracts of functions. -/
import Derived.Test.YtapmjpihennhaaaGreatDoorPh
import Derived.Test.YtapmjpihennhaaaGreatDoorPg
set_option linter.unusedVariables false
set_option linter.unusedSimpArgs false
set_option maxRecDepth 100000
namespace Go.Proofs.YtapmjpihennhaaaGreatDoor
open Go.Abs Go.Eu
theorem Xa (GL : List (Nat × Obj)) (hG : Gh GL) (c m : Nat) (cs : List Int) (A : List Tm) (al : Int) (t : Tm) (h1 : Fb t) (h2 : size t < 1000000) (h3 : t ∈ A) (h4 : ∀ a ∈ A, LX a) : Bl Tryz.prog 85 [.ptr c 0, TV t] [.box c [.p (.lst (List.map Ca cs)), .p (.lst (BO A)), .map m, .p (I al)], .map m (DY (Et 0 A)), .glob GL] (DG (.p (I (Cu A t : Nat))) [.box c [.p (.lst (List.map Ca cs)), .p (.lst (BO A)), .map m, .p (I al)], .map m (DY (Et 0 A)), .glob GL]) :=
 (VE GL c m _ _ _ A t hG h1 h2 h3 h4).mono (by rintro r H' ⟨rfl, rfl⟩; exact ⟨rfl, rfl⟩)
theorem Yh : ∀ (GL : List (Nat × Obj)) (hG : Gh GL) (b0 b1 : Nat) (p c : Nat) (BA A6 A8 A9 BC BB : ByteArray) (thm : List ByteArray)(m : Nat) (cs : List Int) (A : List Tm) (al : Int)(t : Tm), (Fb t) → (size t < 1000000) → (t ∈ A) → (∀ a ∈ A, LX a) → (thm.length = 14) → Bl Tryz.prog 80 [.ptr b0 0, .ptr b1 0] [.box b0 [.ptr p 0], .box b1 ((Ba t).map .p), .box p [.p (.str BA), .p (.str A6), .p (.str A8), .p (.str A9), .p (.str BC), .p (.str BB), .p (.lst (List.map CV thm)), .ptr c 0], .box c [.p (.lst (List.map Ca cs)), .p (.lst (BO A)), .map m, .p (I al)], .map m (DY (Et 0 A)), .glob GL] (DG (.tup [.agg ((B2 (CZ (BF.mk BA A6 A8 A9 BC BB thm) (Fe (BF.mk BA A6 A8 A9 BC BB thm) (HT (BF.mk BA A6 A8 A9 BC BB thm) t)) [GD (BF.mk BA A6 A8 A9 BC BB thm) (BP A8 []) t])).map .p), .p (.lst (List.map CP [CM.mk (Cu A t : Nat) false]))]) [.box b0 [.ptr p 0], .box b1 ((Ba t).map .p), .box p [.p (.str BA), .p (.str A6), .p (.str A8), .p (.str A9), .p (.str BC), .p (.str BB), .p (.lst (List.map CV thm)), .ptr c 0], .box c [.p (.lst (List.map Ca cs)), .p (.lst (BO A)), .map m, .p (I al)], .map m (DY (Et 0 A)), .glob GL]) := by
 intro GL hG b0 b1 p c BA A6 A8 A9 BC BB thm m cs A al t h1 h2 h3 h4 h5
 refine A3 Tryz.func80 Ao Zg (n := 31) Ao Ao ?_
 refine As ?_
 refine Aq ?_
 refine BH Ao Ao (BG DW Ao) fun b2 => ?_
 refine Ap Ao Ao (At Ao) ?_
 refine Au Ao ?_
 refine As ?_
 refine Aq ?_
 refine Ap Ao Ao (Ax (i := 1) HK Ao Ao Ao) ?_
 refine Ap Ao Ao (BT Ao) ?_
 refine Ap Ao Ao (Av Gq Ao Ao) ?_
 refine Ap Ao Ao (Av Du Ao Ao) ?_
 refine Ap Ao Ao (Ax (i := 3) GO Ao Ao Ao) ?_
 refine Ap Ao Ao (C0 Ao Ao (Dz A8 [] AI) (aw (we Ao) (aw (Cc Ao) (Ci)))) ?_
 refine BH Ao Ao (BG B0 Ao) fun b4 => ?_
 refine Ap Ao Ao (A1 (i := 0) BI Ao Ao Ao Af AX (B3 _)) ?_
 refine Au Ao ?_
 refine As ?_
 refine CJ (fun k => false) Dq ?_
 refine BK (j := 2) rfl rfl rfl (fun H i hi => Ax (i := i) HK rfl hi rfl) (by repeat' first | exact trivial | refine And.intro ?_ ?_ | ((refine Or.inr (And.intro ?_ ?_) <;> repeat (first | exact List.Mem.head _ | apply List.Mem.tail)); done) | exact Or.inl Ai) trivial ?_
 refine BK (j := 2) rfl rfl rfl (fun H i hi => Ax (i := i) HK rfl hi rfl) (by repeat' first | exact trivial | refine And.intro ?_ ?_ | ((refine Or.inr (And.intro ?_ ?_) <;> repeat (first | exact List.Mem.head _ | apply List.Mem.tail)); done) | exact Or.inl Ai) trivial ?_
 refine BK (j := 2) rfl rfl rfl (fun H i hi => Ax (i := i) HK rfl hi rfl) (by repeat' first | exact trivial | refine And.intro ?_ ?_ | ((refine Or.inr (And.intro ?_ ?_) <;> repeat (first | exact List.Mem.head _ | apply List.Mem.tail)); done) | exact Or.inl Ai) trivial ?_
 refine BK (j := 3) rfl rfl rfl (fun H i hi => Aw (i := i) BI rfl hi Af) (by repeat' first | exact trivial | refine And.intro ?_ ?_ | ((refine Or.inr (And.intro ?_ ?_) <;> repeat (first | exact List.Mem.head _ | apply List.Mem.tail)); done) | exact Or.inl Ai) trivial ?_
 refine B1 [4] rfl rfl rfl (.inl ⟨rfl, rfl, rfl⟩) (N9 p c BA A6 A8 A9 BC BB thm t h5) ⟨_, _, rfl, rfl, rfl⟩ (Ce _) (aw (we rfl) (aw (we rfl) (Ci))) (by repeat' first | exact trivial | refine And.intro ?_ ?_ | ((refine Or.inr (And.intro ?_ ?_) <;> repeat (first | exact List.Mem.head _ | apply List.Mem.tail)); done) | exact Or.inl Ai) trivial ?_
 refine B1 [4] rfl rfl rfl (.inl ⟨rfl, rfl, rfl⟩) (Qx p c BA A6 A8 A9 BC BB thm (HT (BF.mk BA A6 A8 A9 BC BB thm) t)) ⟨_, _, rfl, rfl, rfl⟩ (Ce _) (aw (we rfl) (aw (we rfl) (Ci))) (by repeat' first | exact trivial | refine And.intro ?_ ?_ | ((refine Or.inr (And.intro ?_ ?_) <;> repeat (first | exact List.Mem.head _ | apply List.Mem.tail)); done) | exact Or.inl Ai) trivial ?_
 refine BK (j := 2) rfl rfl rfl (fun H i hi => Ax (i := i) HK rfl hi rfl) (by repeat' first | exact trivial | refine And.intro ?_ ?_ | ((refine Or.inr (And.intro ?_ ?_) <;> repeat (first | exact List.Mem.head _ | apply List.Mem.tail)); done) | exact Or.inl Ai) trivial ?_
 refine BK (j := 0) rfl rfl rfl (fun H i hi => Aw (i := i) BI rfl hi Af) (by repeat' first | exact trivial | refine And.intro ?_ ?_ | ((refine Or.inr (And.intro ?_ ?_) <;> repeat (first | exact List.Mem.head _ | apply List.Mem.tail)); done) | exact Or.inl Ai) trivial ?_
 refine BK (j := 3) rfl rfl rfl (fun H i hi => Aw (i := i) BI rfl hi Af) (by repeat' first | exact trivial | refine And.intro ?_ ?_ | ((refine Or.inr (And.intro ?_ ?_) <;> repeat (first | exact List.Mem.head _ | apply List.Mem.tail)); done) | exact Or.inl Ai) trivial ?_
 refine B1 [4] rfl rfl rfl (.inl ⟨rfl, rfl, rfl⟩) (Od p c BA A6 A8 A9 BC BB thm (BP A8 []) t h5) ⟨_, _, rfl, rfl, rfl⟩ (Ce _) (aw (we rfl) (aw (we rfl) (aw (we rfl) (Ci)))) (by repeat' first | exact trivial | refine And.intro ?_ ?_ | ((refine Or.inr (And.intro ?_ ?_) <;> repeat (first | exact List.Mem.head _ | apply List.Mem.tail)); done) | exact Or.inl Ai) trivial ?_
 refine Ay Ao Ao (fun _ => BN (rows := List.map B2 ([(GD (BF.mk BA A6 A8 A9 BC BB thm) (BP A8 []) t)])) I1 DW Ao Ao Ao Ao (Bv (Ev _)) (H4 _)) trivial ?_
 refine B1 [4] rfl rfl rfl (.inl ⟨rfl, rfl, rfl⟩) (FN p c BA A6 A8 A9 BC BB thm (Fe (BF.mk BA A6 A8 A9 BC BB thm) (HT (BF.mk BA A6 A8 A9 BC BB thm) t)) ([(GD (BF.mk BA A6 A8 A9 BC BB thm) (BP A8 []) t)]) AM) ⟨_, _, rfl, rfl, rfl⟩ (Ce _) (aw (we rfl) (aw (we rfl) (aw (we rfl) (Ci)))) (by repeat' first | exact trivial | refine And.intro ?_ ?_ | ((refine Or.inr (And.intro ?_ ?_) <;> repeat (first | exact List.Mem.head _ | apply List.Mem.tail)); done) | exact Or.inl Ai) trivial ?_
 refine BK (j := 2) rfl rfl rfl (fun H i hi => Ax (i := i) HK rfl hi rfl) (by repeat' first | exact trivial | refine And.intro ?_ ?_ | ((refine Or.inr (And.intro ?_ ?_) <;> repeat (first | exact List.Mem.head _ | apply List.Mem.tail)); done) | exact Or.inl Ai) trivial ?_
 refine Ay Ao Ao (fun _ => BT Ao) trivial ?_
 refine Ay Ao Ao (fun _ => Av Gq Ao Ao) trivial ?_
 refine BK (j := 4) rfl rfl rfl (fun H i hi => Ax (i := i) UG rfl hi rfl) (by repeat' first | exact trivial | refine And.intro ?_ ?_ | ((refine Or.inr (And.intro ?_ ?_) <;> repeat (first | exact List.Mem.head _ | apply List.Mem.tail)); done) | exact Or.inl Ai) trivial ?_
 refine BK (j := 3) rfl rfl rfl (fun H i hi => Aw (i := i) BI rfl hi Af) (by repeat' first | exact trivial | refine And.intro ?_ ?_ | ((refine Or.inr (And.intro ?_ ?_) <;> repeat (first | exact List.Mem.head _ | apply List.Mem.tail)); done) | exact Or.inl Ai) trivial ?_
 refine B1 [5, 6, 7] rfl rfl rfl (.inl ⟨rfl, rfl, rfl⟩) (Xa GL hG c m cs A al t h1 h2 h3 h4) ⟨_, _, rfl, rfl, ⟨_, _, rfl, rfl, ⟨_, _, rfl, rfl, rfl⟩⟩⟩ SD (aw (we rfl) (aw (we rfl) (Ci))) (by repeat' first | exact trivial | refine And.intro ?_ ?_ | ((refine Or.inr (And.intro ?_ ?_) <;> repeat (first | exact List.Mem.head _ | apply List.Mem.tail)); done) | exact Or.inl Ai) trivial ?_
 refine Ay Ao Ao (fun _ => Bi HE Hh Ao) trivial ?_
 refine Ay Ao Ao (fun _ => BN (rows := List.map CP [(CM.mk (Cu A t : Nat) false)]) EO Hh Ao Ao Ao Ao (Bv (C9 _)) (Ms _)) trivial ?_
 refine Cd rfl rfl (A1 (i := 1) Cb rfl rfl rfl Ae AW (CR _)) (by repeat' first | exact trivial | refine And.intro ?_ ?_ | ((refine Or.inr (And.intro ?_ ?_) <;> repeat (first | exact List.Mem.head _ | apply List.Mem.tail)); done) | exact Or.inl Ai) trivial ?_
 refine Ay Ao Ao (fun _ => At Ao) trivial ?_
 refine CA Ao Ai ?_
 refine A5 ?_
 refine ⟨Ao, _, _, ⟨_, _, Ao, (Bg (i := 1) Cb Ao Ao Ae), ⟨_, _, Ao, Ao, Ao⟩⟩, (Cf (is := [2, 3, 4, 5, 6, 7]) Ao), ?_⟩
 all_goals exact ⟨rfl, rfl⟩
theorem Xz : ∀ (GL : List (Nat × Obj)) (hG : Gh GL) (b0 b1 : Nat) (p c : Nat) (BA A6 A8 A9 BC BB : ByteArray) (thm : List ByteArray)(m : Nat) (cs : List Int) (A : List Tm) (al : Int)(n : Nat) (us : List Tm) (x y : Tm), (us[0]? = some x) → (us[1]? = some y) → (Bl Tryz.prog 47 [.ptr p 0, TV x] [.box p [.p (.str BA), .p (.str A6), .p (.str A8), .p (.str A9), .p (.str BC), .p (.str BB), .p (.lst (List.map CV thm)), .ptr c 0], .box c [.p (.lst (List.map Ca cs)), .p (.lst (BO A)), .map m, .p (I al)], .map m (DY (Et 0 A)), .glob GL] (DG (.tup [.agg ((B2 (Bk (BF.mk BA A6 A8 A9 BC BB thm) A n x).1).map .p), .p (.lst (List.map CP (Bk (BF.mk BA A6 A8 A9 BC BB thm) A n x).2))]) [.box p [.p (.str BA), .p (.str A6), .p (.str A8), .p (.str A9), .p (.str BC), .p (.str BB), .p (.lst (List.map CV thm)), .ptr c 0], .box c [.p (.lst (List.map Ca cs)), .p (.lst (BO A)), .map m, .p (I al)], .map m (DY (Et 0 A)), .glob GL])) → (Bl Tryz.prog 47 [.ptr p 0, TV y] [.box p [.p (.str BA), .p (.str A6), .p (.str A8), .p (.str A9), .p (.str BC), .p (.str BB), .p (.lst (List.map CV thm)), .ptr c 0], .box c [.p (.lst (List.map Ca cs)), .p (.lst (BO A)), .map m, .p (I al)], .map m (DY (Et 0 A)), .glob GL] (DG (.tup [.agg ((B2 (Bk (BF.mk BA A6 A8 A9 BC BB thm) A n y).1).map .p), .p (.lst (List.map CP (Bk (BF.mk BA A6 A8 A9 BC BB thm) A n y).2))]) [.box p [.p (.str BA), .p (.str A6), .p (.str A8), .p (.str A9), .p (.str BC), .p (.str BB), .p (.lst (List.map CV thm)), .ptr c 0], .box c [.p (.lst (List.map Ca cs)), .p (.lst (BO A)), .map m, .p (I al)], .map m (DY (Et 0 A)), .glob GL])) → (∀ z ∈ (Bk (BF.mk BA A6 A8 A9 BC BB thm) A n x).2, Fm A z) → (∀ z ∈ (Bk (BF.mk BA A6 A8 A9 BC BB thm) A n y).2, Fm A z) → ((Bk (BF.mk BA A6 A8 A9 BC BB thm) A n x).2.length + (Bk (BF.mk BA A6 A8 A9 BC BB thm) A n y).2.length < 1000000) → (thm.length = 14) → Bl Tryz.prog 86 [.ptr b0 0, .ptr b1 0] [.box b0 [.ptr p 0], .box b1 [.p (.lst (BO us))], .box p [.p (.str BA), .p (.str A6), .p (.str A8), .p (.str A9), .p (.str BC), .p (.str BB), .p (.lst (List.map CV thm)), .ptr c 0], .box c [.p (.lst (List.map Ca cs)), .p (.lst (BO A)), .map m, .p (I al)], .map m (DY (Et 0 A)), .glob GL] (DG (.tup [.agg ((B2 (CZ (BF.mk BA A6 A8 A9 BC BB thm) (Ei (BF.mk BA A6 A8 A9 BC BB thm) (Bk (BF.mk BA A6 A8 A9 BC BB thm) A n x).1 (Bk (BF.mk BA A6 A8 A9 BC BB thm) A n y).1) [(Ct (BF.mk BA A6 A8 A9 BC BB thm) A (Bk (BF.mk BA A6 A8 A9 BC BB thm) A n y).2 (Bk (BF.mk BA A6 A8 A9 BC BB thm) A n x).2).1])).map .p), .p (.lst (List.map CP ((Ct (BF.mk BA A6 A8 A9 BC BB thm) A (Bk (BF.mk BA A6 A8 A9 BC BB thm) A n y).2 (Bk (BF.mk BA A6 A8 A9 BC BB thm) A n x).2).2)))]) [.box b0 [.ptr p 0], .box b1 [.p (.lst (BO us))], .box p [.p (.str BA), .p (.str A6), .p (.str A8), .p (.str A9), .p (.str BC), .p (.str BB), .p (.lst (List.map CV thm)), .ptr c 0], .box c [.p (.lst (List.map Ca cs)), .p (.lst (BO A)), .map m, .p (I al)], .map m (DY (Et 0 A)), .glob GL]) := by
 intro GL hG b0 b1 p c BA A6 A8 A9 BC BB thm m cs A al n us x y h1 h2 h3 h4 h5 h6 h7 h8
 have hul := (List.getElem?_eq_some_iff.1 h2).1
 refine A3 Tryz.func86 Ao Zd (n := 42) Ao Ao ?_
 refine As ?_
 refine Aq ?_
 refine BH Ao Ao (BG DW Ao) fun b2 => ?_
 refine Ap Ao Ao (At Ao) ?_
 refine Au Ao ?_
 refine As ?_
 refine CJ (fun k => Nat.beq k 8) Dq ?_
 refine BK (j := 1) rfl rfl rfl (fun H i hi => Ax (i := i) HK rfl hi rfl) (by repeat' first | exact trivial | refine And.intro ?_ ?_ | ((refine Or.inr (And.intro ?_ ?_) <;> repeat (first | exact List.Mem.head _ | apply List.Mem.tail)); done) | exact Or.inl Ai) trivial ?_
 refine BK (j := 2) rfl rfl rfl (fun H i hi => Ax (i := i) DC rfl hi rfl) (by repeat' first | exact trivial | refine And.intro ?_ ?_ | ((refine Or.inr (And.intro ?_ ?_) <;> repeat (first | exact List.Mem.head _ | apply List.Mem.tail)); done) | exact Or.inl Ai) trivial ?_
 refine Ay Ao Ao (fun _ => BJ B4 Ao Ao Am (B9 h1) (Bh _)) trivial ?_
 refine Ay Ao Ao (fun _ => Be BI Ao (Bh _)) trivial ?_
 refine B1 [3, 4, 5, 6] rfl rfl rfl (.inl ⟨rfl, rfl, rfl⟩) (h3 ) ⟨_, _, rfl, rfl, ⟨_, _, rfl, rfl, ⟨_, _, rfl, rfl, ⟨_, _, rfl, rfl, rfl⟩⟩⟩⟩ (Kv An) (aw (we rfl) (aw (we rfl) (Ci))) (by repeat' first | exact trivial | refine And.intro ?_ ?_ | ((refine Or.inr (And.intro ?_ ?_) <;> repeat (first | exact List.Mem.head _ | apply List.Mem.tail)); done) | exact Or.inl Ai) trivial ?_
 refine Ay Ao Ao (fun _ => Ar Ao) trivial ?_
 refine Ay Ao Ao (fun _ => BY Ao Ao) trivial ?_
 refine Ay Ao Ao (fun _ => BY Ao Ao) trivial ?_
 refine OW [] rfl rfl (BG DW rfl) Ai fun b4 => ⟨(by repeat' first | exact trivial | refine And.intro ?_ ?_ | ((refine Or.inr (And.intro ?_ ?_) <;> repeat (first | exact List.Mem.head _ | apply List.Mem.tail)); done) | exact Or.inl Ai), trivial, ?_⟩
 refine Cd rfl rfl (A1 (i := 0) Cb rfl rfl rfl Ae AW (CR _)) (by repeat' first | exact trivial | refine And.intro ?_ ?_ | ((refine Or.inr (And.intro ?_ ?_) <;> repeat (first | exact List.Mem.head _ | apply List.Mem.tail)); done) | exact Or.inl Ai) trivial ?_
 refine Ay Ao Ao (fun _ => At Ao) trivial ?_
 refine CA Ao Ai ?_
 refine As ?_
 refine CJ (fun k => Nat.beq k 8) Dq ?_
 refine BK (j := 2) rfl rfl rfl (fun H i hi => Ax (i := i) HK rfl hi rfl) (by repeat' first | exact trivial | refine And.intro ?_ ?_ | ((refine Or.inr (And.intro ?_ ?_) <;> repeat (first | exact List.Mem.head _ | apply List.Mem.tail)); done) | exact Or.inl Ai) trivial ?_
 refine BK (j := 3) rfl rfl rfl (fun H i hi => Ax (i := i) DC rfl hi rfl) (by repeat' first | exact trivial | refine And.intro ?_ ?_ | ((refine Or.inr (And.intro ?_ ?_) <;> repeat (first | exact List.Mem.head _ | apply List.Mem.tail)); done) | exact Or.inl Ai) trivial ?_
 refine Ay Ao Ao (fun _ => BJ B4 Ao Ao Am (B9 h2) (Bh _)) trivial ?_
 refine Ay Ao Ao (fun _ => Be BI Ao (Bh _)) trivial ?_
 refine B1 [4, 5, 6, 7] rfl rfl rfl (.inl ⟨rfl, rfl, rfl⟩) (h4 ) ⟨_, _, rfl, rfl, ⟨_, _, rfl, rfl, ⟨_, _, rfl, rfl, ⟨_, _, rfl, rfl, rfl⟩⟩⟩⟩ (Kv An) (aw (we rfl) (aw (we rfl) (Ci))) (by repeat' first | exact trivial | refine And.intro ?_ ?_ | ((refine Or.inr (And.intro ?_ ?_) <;> repeat (first | exact List.Mem.head _ | apply List.Mem.tail)); done) | exact Or.inl Ai) trivial ?_
 refine Ay Ao Ao (fun _ => Ar Ao) trivial ?_
 refine Ay Ao Ao (fun _ => BY Ao Ao) trivial ?_
 refine Ay Ao Ao (fun _ => BY Ao Ao) trivial ?_
 refine OW [] rfl rfl (BG DW rfl) Ai fun b6 => ⟨(by repeat' first | exact trivial | refine And.intro ?_ ?_ | ((refine Or.inr (And.intro ?_ ?_) <;> repeat (first | exact List.Mem.head _ | apply List.Mem.tail)); done) | exact Or.inl Ai), trivial, ?_⟩
 refine Cd rfl rfl (A1 (i := 0) Cb rfl rfl rfl Ae AW (CR _)) (by repeat' first | exact trivial | refine And.intro ?_ ?_ | ((refine Or.inr (And.intro ?_ ?_) <;> repeat (first | exact List.Mem.head _ | apply List.Mem.tail)); done) | exact Or.inl Ai) trivial ?_
 refine Ay Ao Ao (fun _ => At Ao) trivial ?_
 refine CA Ao Ai ?_
 refine As ?_
 refine Aq ?_
 refine Ap Ao Ao (Ax (i := 3) HK Ao Ao Ao) ?_
 refine Ap Ao Ao (Ar Ao) ?_
 refine Ap Ao Ao (Ar Ao) ?_
 refine Ap Ao Ao (CH [5, 6] Ao (.inl ⟨Ao, Ao, Ao⟩) (TS p c BA A6 A8 A9 BC BB thm m cs A al ((Bk (BF.mk BA A6 A8 A9 BC BB thm) A n y).2) _ ((Bk (BF.mk BA A6 A8 A9 BC BB thm) A n x).2) (Nat.le_refl _) h7 h5 h6 h8) ⟨_, _, Ao, Ao, ⟨_, _, Ao, Ao, Ao⟩⟩ Al Ao (.inl Ao)) ?_
 refine Ap Ao Ao (Ar Ao) ?_
 refine Ap Ao Ao (BY Ao Ao) ?_
 refine Ap Ao Ao (BY Ao Ao) ?_
 refine BH Ao Ao (BG DW Ao) fun b8 => ?_
 refine Ap Ao Ao (A1 (i := 0) Cb Ao Ao Ao Ae AW (CR _)) ?_
 refine Ap Ao Ao (At Ao) ?_
 refine Au Ao ?_
 refine As ?_
 refine CJ (fun k => false) Dq ?_
 refine BK (j := 4) rfl rfl rfl (fun H i hi => Ax (i := i) HK rfl hi rfl) (by repeat' first | exact trivial | refine And.intro ?_ ?_ | ((refine Or.inr (And.intro ?_ ?_) <;> repeat (first | exact List.Mem.head _ | apply List.Mem.tail)); done) | exact Or.inl Ai) trivial ?_
 refine BK (j := 4) rfl rfl rfl (fun H i hi => Ax (i := i) HK rfl hi rfl) (by repeat' first | exact trivial | refine And.intro ?_ ?_ | ((refine Or.inr (And.intro ?_ ?_) <;> repeat (first | exact List.Mem.head _ | apply List.Mem.tail)); done) | exact Or.inl Ai) trivial ?_
 refine BK (j := 2) rfl rfl rfl (fun H i hi => Aw (i := i) Cb rfl hi Ae) (by repeat' first | exact trivial | refine And.intro ?_ ?_ | ((refine Or.inr (And.intro ?_ ?_) <;> repeat (first | exact List.Mem.head _ | apply List.Mem.tail)); done) | exact Or.inl Ai) trivial ?_
 refine BK (j := 1) rfl rfl rfl (fun H i hi => Aw (i := i) Cb rfl hi Ae) (by repeat' first | exact trivial | refine And.intro ?_ ?_ | ((refine Or.inr (And.intro ?_ ?_) <;> repeat (first | exact List.Mem.head _ | apply List.Mem.tail)); done) | exact Or.inl Ai) trivial ?_
 refine B1 [6] rfl rfl rfl (.inl ⟨rfl, rfl, rfl⟩) (J1 p c BA A6 A8 A9 BC BB thm ((Bk (BF.mk BA A6 A8 A9 BC BB thm) A n x).1) ((Bk (BF.mk BA A6 A8 A9 BC BB thm) A n y).1)) ⟨_, _, rfl, rfl, rfl⟩ (Ce _) (aw (we rfl) (aw (we rfl) (aw (we rfl) (Ci)))) (by repeat' first | exact trivial | refine And.intro ?_ ?_ | ((refine Or.inr (And.intro ?_ ?_) <;> repeat (first | exact List.Mem.head _ | apply List.Mem.tail)); done) | exact Or.inl Ai) trivial ?_
 refine BK (j := 0) rfl rfl rfl (fun H i hi => Aw (i := i) Cb rfl hi Ae) (by repeat' first | exact trivial | refine And.intro ?_ ?_ | ((refine Or.inr (And.intro ?_ ?_) <;> repeat (first | exact List.Mem.head _ | apply List.Mem.tail)); done) | exact Or.inl Ai) trivial ?_
 refine Ay Ao Ao (fun _ => BN (rows := List.map B2 [((Ct (BF.mk BA A6 A8 A9 BC BB thm) A ((Bk (BF.mk BA A6 A8 A9 BC BB thm) A n y).2) ((Bk (BF.mk BA A6 A8 A9 BC BB thm) A n x).2)).1)]) I1 DW Ao Ao Ao Ao (Bv (Ev _)) (H4 _)) trivial ?_
 refine B1 [6] rfl rfl rfl (.inl ⟨rfl, rfl, rfl⟩) (FN p c BA A6 A8 A9 BC BB thm (Ei (BF.mk BA A6 A8 A9 BC BB thm) ((Bk (BF.mk BA A6 A8 A9 BC BB thm) A n x).1) ((Bk (BF.mk BA A6 A8 A9 BC BB thm) A n y).1)) [((Ct (BF.mk BA A6 A8 A9 BC BB thm) A ((Bk (BF.mk BA A6 A8 A9 BC BB thm) A n y).2) ((Bk (BF.mk BA A6 A8 A9 BC BB thm) A n x).2)).1)] AM) ⟨_, _, rfl, rfl, rfl⟩ (Ce _) (aw (we rfl) (aw (we rfl) (aw (we rfl) (Ci)))) (by repeat' first | exact trivial | refine And.intro ?_ ?_ | ((refine Or.inr (And.intro ?_ ?_) <;> repeat (first | exact List.Mem.head _ | apply List.Mem.tail)); done) | exact Or.inl Ai) trivial ?_
 refine Ay Ao Ao (fun _ => Ar Ao) trivial ?_
 refine Cd rfl rfl (A1 (i := 3) Cb rfl rfl rfl Ae AW (CR _)) (by repeat' first | exact trivial | refine And.intro ?_ ?_ | ((refine Or.inr (And.intro ?_ ?_) <;> repeat (first | exact List.Mem.head _ | apply List.Mem.tail)); done) | exact Or.inl Ai) trivial ?_
 refine Ay Ao Ao (fun _ => At Ao) trivial ?_
 refine CA Ao Ai ?_
 refine A5 ?_
 refine ⟨Ao, _, _, ⟨_, _, Ao, (Bg (i := 3) Cb Ao Ao Ae), ⟨_, _, Ao, Ao, Ao⟩⟩, (Cf (is := [4, 5, 6, 7, 8, 9]) Ao), ?_⟩
 all_goals exact ⟨rfl, rfl⟩
theorem YX : ∀ (GL : List (Nat × Obj)) (hG : Gh GL) (b0 b1 : Nat) (p c : Nat) (BA A6 A8 A9 BC BB : ByteArray) (thm : List ByteArray)(m : Nat) (cs : List Int) (A : List Tm) (al : Int)(t : Tm), Bl Tryz.prog 89 [.ptr b0 0, .ptr b1 0] [.box b0 [.ptr p 0], .box b1 ((Ba t).map .p), .box p [.p (.str BA), .p (.str A6), .p (.str A8), .p (.str A9), .p (.str BC), .p (.str BB), .p (.lst (List.map CV thm)), .ptr c 0], .box c [.p (.lst (List.map Ca cs)), .p (.lst (BO A)), .map m, .p (I al)], .map m (DY (Et 0 A)), .glob GL] (DG (.tup [.agg ((B2 (DJ (BF.mk BA A6 A8 A9 BC BB thm) t)).map .p), .p (.lst (List.map CP []))]) [.box b0 [.ptr p 0], .box b1 ((Ba t).map .p), .box p [.p (.str BA), .p (.str A6), .p (.str A8), .p (.str A9), .p (.str BC), .p (.str BB), .p (.lst (List.map CV thm)), .ptr c 0], .box c [.p (.lst (List.map Ca cs)), .p (.lst (BO A)), .map m, .p (I al)], .map m (DY (Et 0 A)), .glob GL]) := by
 intro GL hG b0 b1 p c BA A6 A8 A9 BC BB thm m cs A al t
 refine A3 Tryz.func89 Ao Y4 (n := 7) Ao Ao ?_
 refine As ?_
 refine Aq ?_
 refine BH Ao Ao (BG DW Ao) fun b2 => ?_
 refine Ap Ao Ao (At Ao) ?_
 refine Au Ao ?_
 refine As ?_
 refine Aq ?_
 refine Ap Ao Ao (Ax (i := 1) HK Ao Ao Ao) ?_
 refine Ap Ao Ao (Aw (i := 2) BI Ao Ao Af) ?_
 refine Ap Ao Ao (CH [3] Ao (.inl ⟨Ao, Ao, Ao⟩) (JL p c BA A6 A8 A9 BC BB thm t) ⟨_, _, Ao, Ao, Ao⟩ Al Ao (.inl Ao)) ?_
 refine Ap Ao Ao (A1 (i := 0) Cb Ao Ao Ao Ae AW (CR _)) ?_
 refine Ap Ao Ao (At Ao) ?_
 refine Au Ao ?_
 refine B5 (EF 3) ?_
 refine A5 ?_
 refine ⟨Ao, _, _, ⟨_, _, Ao, (Bg (i := 0) Cb Ao Ao Ae), ⟨_, _, Ao, Ao, Ao⟩⟩, (Cf (is := [1, 2, 3, 4, 5, 6]) Ao), ?_⟩
 all_goals exact ⟨rfl, rfl⟩
theorem XB : ∀ (GL : List (Nat × Obj)) (hG : Gh GL) (b0 b1 : Nat) (p c : Nat) (BA A6 A8 A9 BC BB : ByteArray) (thm : List ByteArray)(m : Nat) (cs : List Int) (A : List Tm) (al : Int)(n : Nat) (us : List Tm) (x : Tm), (us[0]? = some x) → (Bl Tryz.prog 47 [.ptr p 0, TV x] [.box p [.p (.str BA), .p (.str A6), .p (.str A8), .p (.str A9), .p (.str BC), .p (.str BB), .p (.lst (List.map CV thm)), .ptr c 0], .box c [.p (.lst (List.map Ca cs)), .p (.lst (BO A)), .map m, .p (I al)], .map m (DY (Et 0 A)), .glob GL] (DG (.tup [.agg ((B2 (Bk (BF.mk BA A6 A8 A9 BC BB thm) A n x).1).map .p), .p (.lst (List.map CP (Bk (BF.mk BA A6 A8 A9 BC BB thm) A n x).2))]) [.box p [.p (.str BA), .p (.str A6), .p (.str A8), .p (.str A9), .p (.str BC), .p (.str BB), .p (.lst (List.map CV thm)), .ptr c 0], .box c [.p (.lst (List.map Ca cs)), .p (.lst (BO A)), .map m, .p (I al)], .map m (DY (Et 0 A)), .glob GL])) → (∀ z ∈ (Bk (BF.mk BA A6 A8 A9 BC BB thm) A n x).2, Fm A z) → ((Bk (BF.mk BA A6 A8 A9 BC BB thm) A n x).2.length < 1000000) → (thm.length = 14) → Bl Tryz.prog 91 [.ptr b0 0, .ptr b1 0] [.box b0 [.ptr p 0], .box b1 [.p (.lst (BO us))], .box p [.p (.str BA), .p (.str A6), .p (.str A8), .p (.str A9), .p (.str BC), .p (.str BB), .p (.lst (List.map CV thm)), .ptr c 0], .box c [.p (.lst (List.map Ca cs)), .p (.lst (BO A)), .map m, .p (I al)], .map m (DY (Et 0 A)), .glob GL] (DG (.tup [.agg ((B2 (CZ (BF.mk BA A6 A8 A9 BC BB thm) (DE (BF.mk BA A6 A8 A9 BC BB thm) (BP A9 []) (Bk (BF.mk BA A6 A8 A9 BC BB thm) A n x).1) [(Cl (BF.mk BA A6 A8 A9 BC BB thm) A (Bk (BF.mk BA A6 A8 A9 BC BB thm) A n x).2).1])).map .p), .p (.lst (List.map CP ((Cl (BF.mk BA A6 A8 A9 BC BB thm) A (Bk (BF.mk BA A6 A8 A9 BC BB thm) A n x).2).2)))]) [.box b0 [.ptr p 0], .box b1 [.p (.lst (BO us))], .box p [.p (.str BA), .p (.str A6), .p (.str A8), .p (.str A9), .p (.str BC), .p (.str BB), .p (.lst (List.map CV thm)), .ptr c 0], .box c [.p (.lst (List.map Ca cs)), .p (.lst (BO A)), .map m, .p (I al)], .map m (DY (Et 0 A)), .glob GL]) := by
 intro GL hG b0 b1 p c BA A6 A8 A9 BC BB thm m cs A al n us x h1 h2 h3 h4 h5
 have hul := (List.getElem?_eq_some_iff.1 h1).1
 refine A3 Tryz.func91 Ao Zp (n := 36) Ao Ao ?_
 refine As ?_
 refine Aq ?_
 refine BH Ao Ao (BG DW Ao) fun b2 => ?_
 refine Ap Ao Ao (At Ao) ?_
 refine Au Ao ?_
 refine As ?_
 refine CJ (fun k => Nat.beq k 8) Dq ?_
 refine BK (j := 1) rfl rfl rfl (fun H i hi => Ax (i := i) HK rfl hi rfl) (by repeat' first | exact trivial | refine And.intro ?_ ?_ | ((refine Or.inr (And.intro ?_ ?_) <;> repeat (first | exact List.Mem.head _ | apply List.Mem.tail)); done) | exact Or.inl Ai) trivial ?_
 refine BK (j := 2) rfl rfl rfl (fun H i hi => Ax (i := i) DC rfl hi rfl) (by repeat' first | exact trivial | refine And.intro ?_ ?_ | ((refine Or.inr (And.intro ?_ ?_) <;> repeat (first | exact List.Mem.head _ | apply List.Mem.tail)); done) | exact Or.inl Ai) trivial ?_
 refine Ay Ao Ao (fun _ => BJ B4 Ao Ao Am (B9 h1) (Bh _)) trivial ?_
 refine Ay Ao Ao (fun _ => Be BI Ao (Bh _)) trivial ?_
 refine B1 [3, 4, 5, 6] rfl rfl rfl (.inl ⟨rfl, rfl, rfl⟩) (h2 ) ⟨_, _, rfl, rfl, ⟨_, _, rfl, rfl, ⟨_, _, rfl, rfl, ⟨_, _, rfl, rfl, rfl⟩⟩⟩⟩ (Kv An) (aw (we rfl) (aw (we rfl) (Ci))) (by repeat' first | exact trivial | refine And.intro ?_ ?_ | ((refine Or.inr (And.intro ?_ ?_) <;> repeat (first | exact List.Mem.head _ | apply List.Mem.tail)); done) | exact Or.inl Ai) trivial ?_
 refine Ay Ao Ao (fun _ => Ar Ao) trivial ?_
 refine Ay Ao Ao (fun _ => BY Ao Ao) trivial ?_
 refine Ay Ao Ao (fun _ => BY Ao Ao) trivial ?_
 refine OW [] rfl rfl (BG DW rfl) Ai fun b4 => ⟨(by repeat' first | exact trivial | refine And.intro ?_ ?_ | ((refine Or.inr (And.intro ?_ ?_) <;> repeat (first | exact List.Mem.head _ | apply List.Mem.tail)); done) | exact Or.inl Ai), trivial, ?_⟩
 refine Cd rfl rfl (A1 (i := 0) Cb rfl rfl rfl Ae AW (CR _)) (by repeat' first | exact trivial | refine And.intro ?_ ?_ | ((refine Or.inr (And.intro ?_ ?_) <;> repeat (first | exact List.Mem.head _ | apply List.Mem.tail)); done) | exact Or.inl Ai) trivial ?_
 refine Ay Ao Ao (fun _ => At Ao) trivial ?_
 refine CA Ao Ai ?_
 refine As ?_
 refine Aq ?_
 refine Ap Ao Ao (Ax (i := 2) HK Ao Ao Ao) ?_
 refine Ap Ao Ao (Ar Ao) ?_
 refine Ap Ao Ao (CH [4, 5] Ao (.inl ⟨Ao, Ao, Ao⟩) (Rt p c BA A6 A8 A9 BC BB thm m cs A al _ ((Bk (BF.mk BA A6 A8 A9 BC BB thm) A n x).2) (Nat.le_refl _) h4 h3 h5) ⟨_, _, Ao, Ao, ⟨_, _, Ao, Ao, Ao⟩⟩ Al Ao (.inl Ao)) ?_
 refine Ap Ao Ao (Ar Ao) ?_
 refine Ap Ao Ao (BY Ao Ao) ?_
 refine Ap Ao Ao (BY Ao Ao) ?_
 refine BH Ao Ao (BG DW Ao) fun b6 => ?_
 refine Ap Ao Ao (A1 (i := 0) Cb Ao Ao Ao Ae AW (CR _)) ?_
 refine Ap Ao Ao (At Ao) ?_
 refine Au Ao ?_
 refine As ?_
 refine CJ (fun k => false) Dq ?_
 refine BK (j := 3) rfl rfl rfl (fun H i hi => Ax (i := i) HK rfl hi rfl) (by repeat' first | exact trivial | refine And.intro ?_ ?_ | ((refine Or.inr (And.intro ?_ ?_) <;> repeat (first | exact List.Mem.head _ | apply List.Mem.tail)); done) | exact Or.inl Ai) trivial ?_
 refine BK (j := 3) rfl rfl rfl (fun H i hi => Ax (i := i) HK rfl hi rfl) (by repeat' first | exact trivial | refine And.intro ?_ ?_ | ((refine Or.inr (And.intro ?_ ?_) <;> repeat (first | exact List.Mem.head _ | apply List.Mem.tail)); done) | exact Or.inl Ai) trivial ?_
 refine BK (j := 3) rfl rfl rfl (fun H i hi => Ax (i := i) HK rfl hi rfl) (by repeat' first | exact trivial | refine And.intro ?_ ?_ | ((refine Or.inr (And.intro ?_ ?_) <;> repeat (first | exact List.Mem.head _ | apply List.Mem.tail)); done) | exact Or.inl Ai) trivial ?_
 refine Ay Ao Ao (fun _ => BT Ao) trivial ?_
 refine Ay Ao Ao (fun _ => Av Gq Ao Ao) trivial ?_
 refine Ay Ao Ao (fun _ => Av Du Ao Ao) trivial ?_
 refine BK (j := 5) rfl rfl rfl (fun H i hi => Ax (i := i) GO rfl hi rfl) (by repeat' first | exact trivial | refine And.intro ?_ ?_ | ((refine Or.inr (And.intro ?_ ?_) <;> repeat (first | exact List.Mem.head _ | apply List.Mem.tail)); done) | exact Or.inl Ai) trivial ?_
 refine Ay Ao Ao (fun _ => C0 Ao Ao (Dz A9 [] AI) (aw (we Ao) (aw (Cc Ao) (Ci)))) trivial ?_
 refine BK (j := 1) rfl rfl rfl (fun H i hi => Aw (i := i) Cb rfl hi Ae) (by repeat' first | exact trivial | refine And.intro ?_ ?_ | ((refine Or.inr (And.intro ?_ ?_) <;> repeat (first | exact List.Mem.head _ | apply List.Mem.tail)); done) | exact Or.inl Ai) trivial ?_
 refine B1 [5] rfl rfl rfl (.inl ⟨rfl, rfl, rfl⟩) (J5 p c BA A6 A8 A9 BC BB thm (BP A9 []) ((Bk (BF.mk BA A6 A8 A9 BC BB thm) A n x).1)) ⟨_, _, rfl, rfl, rfl⟩ (Ce _) (aw (we rfl) (aw (we rfl) (aw (we rfl) (Ci)))) (by repeat' first | exact trivial | refine And.intro ?_ ?_ | ((refine Or.inr (And.intro ?_ ?_) <;> repeat (first | exact List.Mem.head _ | apply List.Mem.tail)); done) | exact Or.inl Ai) trivial ?_
 refine BK (j := 0) rfl rfl rfl (fun H i hi => Aw (i := i) Cb rfl hi Ae) (by repeat' first | exact trivial | refine And.intro ?_ ?_ | ((refine Or.inr (And.intro ?_ ?_) <;> repeat (first | exact List.Mem.head _ | apply List.Mem.tail)); done) | exact Or.inl Ai) trivial ?_
 refine Ay Ao Ao (fun _ => BN (rows := List.map B2 [((Cl (BF.mk BA A6 A8 A9 BC BB thm) A ((Bk (BF.mk BA A6 A8 A9 BC BB thm) A n x).2)).1)]) I1 DW Ao Ao Ao Ao (Bv (Ev _)) (H4 _)) trivial ?_
 refine B1 [5] rfl rfl rfl (.inl ⟨rfl, rfl, rfl⟩) (FN p c BA A6 A8 A9 BC BB thm (DE (BF.mk BA A6 A8 A9 BC BB thm) (BP A9 []) ((Bk (BF.mk BA A6 A8 A9 BC BB thm) A n x).1)) [((Cl (BF.mk BA A6 A8 A9 BC BB thm) A ((Bk (BF.mk BA A6 A8 A9 BC BB thm) A n x).2)).1)] AM) ⟨_, _, rfl, rfl, rfl⟩ (Ce _) (aw (we rfl) (aw (we rfl) (aw (we rfl) (Ci)))) (by repeat' first | exact trivial | refine And.intro ?_ ?_ | ((refine Or.inr (And.intro ?_ ?_) <;> repeat (first | exact List.Mem.head _ | apply List.Mem.tail)); done) | exact Or.inl Ai) trivial ?_
 refine Ay Ao Ao (fun _ => Ar Ao) trivial ?_
 refine Cd rfl rfl (A1 (i := 2) Cb rfl rfl rfl Ae AW (CR _)) (by repeat' first | exact trivial | refine And.intro ?_ ?_ | ((refine Or.inr (And.intro ?_ ?_) <;> repeat (first | exact List.Mem.head _ | apply List.Mem.tail)); done) | exact Or.inl Ai) trivial ?_
 refine Ay Ao Ao (fun _ => At Ao) trivial ?_
 refine CA Ao Ai ?_
 refine A5 ?_
 refine ⟨Ao, _, _, ⟨_, _, Ao, (Bg (i := 2) Cb Ao Ao Ae), ⟨_, _, Ao, Ao, Ao⟩⟩, (Cf (is := [3, 4, 5, 6, 7, 8]) Ao), ?_⟩
 all_goals exact ⟨rfl, rfl⟩
theorem Rx : ∀ (GL : List (Nat × Obj)) (hG : Gh GL) (p c : Nat) (BA A6 A8 A9 BC BB : ByteArray) (thm : List ByteArray)(m : Nat) (cs : List Int) (A : List Tm) (al : Int)(n : Nat) (t : Tm), (size t ≤ n) → (Fb t) → (size t < 1000000) → (∀ a ∈ A, LX a) → (∀ a ∈ Cs (BF.mk BA A6 A8 A9 BC BB thm) n t, a ∈ A) → ((Cs (BF.mk BA A6 A8 A9 BC BB thm) n t).length < 1000000) → (thm.length = 14) → Bl Tryz.prog 47 [.ptr p 0, .agg ((Ba t).map .p)] [.box p [.p (.str BA), .p (.str A6), .p (.str A8), .p (.str A9), .p (.str BC), .p (.str BB), .p (.lst (List.map CV thm)), .ptr c 0], .box c [.p (.lst (List.map Ca cs)), .p (.lst (BO A)), .map m, .p (I al)], .map m (DY (Et 0 A)), .glob GL] (DG (.tup [.agg ((B2 ((Bk (BF.mk BA A6 A8 A9 BC BB thm) A n t).1)).map .p), .p (.lst (List.map CP ((Bk (BF.mk BA A6 A8 A9 BC BB thm) A n t).2)))]) [.box p [.p (.str BA), .p (.str A6), .p (.str A8), .p (.str A9), .p (.str BC), .p (.str BB), .p (.lst (List.map CV thm)), .ptr c 0], .box c [.p (.lst (List.map Ca cs)), .p (.lst (BO A)), .map m, .p (I al)], .map m (DY (Et 0 A)), .glob GL]) := by
 intro GL hG p c BA A6 A8 A9 BC BB thm m cs A al n
 induction n with
 | zero => intro t h; cases t; simp [size] at h
 | succ n ih =>
  intro t h1 h2 h3 h4 h5 h6 h7
  refine A3 Tryz.func47 Ao aR (n := 29) Ao Ao ?_
  refine As ?_
  refine Aq ?_
  refine BH Ao Ao (Bb Ao) fun b2 => ?_
  refine BH Ao Ao (Bb Ao) fun b3 => ?_
  refine BH Ao Ao (BG DW Ao) fun b4 => ?_
  refine Ap Ao Ao (At Ao) ?_
  refine Au Ao ?_
  refine As ?_
  refine DU [.val (.ptr p 0), .val (.ptr p 0), .val (.ptr p (0 + 0)), .val (.agg [.p (.str BA), .p (.str A6), .p (.str A8), .p (.str A9), .p (.str BC), .p (.str BB), .p (.lst (List.map CV thm))]), .val (.agg ((Ba t).map .p)), .val (.tup [.p (I ((C8 (BF.mk BA A6 A8 A9 BC BB thm) t).1)), .p (.lst (BO ((C8 (BF.mk BA A6 A8 A9 BC BB thm) t).2)))]), .val (.tup [.p (I ((C8 (BF.mk BA A6 A8 A9 BC BB thm) t).1)), .p (.lst (BO ((C8 (BF.mk BA A6 A8 A9 BC BB thm) t).2)))]), .val (.p (I ((C8 (BF.mk BA A6 A8 A9 BC BB thm) t).1))), .val (.p (.lst (BO ((C8 (BF.mk BA A6 A8 A9 BC BB thm) t).2)))), .new [.p (.nils)], .val (.p (I ((C8 (BF.mk BA A6 A8 A9 BC BB thm) t).1)))] Dq Ao Ai Ai ?_
  refine BE Ao (fun Bs => Ax (i := Bs.length + 2) HK Ao (Bn Ao) Ao) ?_
  refine BE Ao (fun Bs => BT Ao) ?_
  refine BE Ao (fun Bs => Av Gq Ao Ao) ?_
  refine BE Ao (fun Bs => Bp (i := Bs.length + 3) FE Ao (Bn Ao) Ao Ao) ?_
  refine BE Ao (fun Bs => Aw (i := Bs.length + 1) BI Ao (Bn Ao) Af) ?_
  refine BE Ao (fun Bs => Bf Ao Ao (U6 (BF.mk BA A6 A8 A9 BC BB thm) t h2.nd h3) Ao) ?_
  refine BE Ao (fun Bs => Ar Ao) ?_
  refine BE Ao (fun Bs => BY Ao Ao) ?_
  refine BE Ao (fun Bs => BY Ao Ao) ?_
  refine Ea Ao (fun Bs => BG Zl Ao) fun b7 => ?_
  refine BE Ao (fun Bs => At Ao) ?_
  refine D6 ?_
  change AL _ _ _ 11 ⟨29, _, [.box b7 [.p (.nils)], .box b4 [.p (I 0), .p (I 0), .p (.str ⟨#[]⟩), .p (.nils), .p (.nils), .p (I 0), .p (I 0), .p (.str ⟨#[]⟩), .p (.nils), .p (.nils), .p (I 0), .p (I 0), .p (.str ⟨#[]⟩), .p (.nils), .p (.nils), .p (.bool false)], .box b3 ((Ba t).map .p), .box b2 [.ptr p 0], .box p [.p (.str BA), .p (.str A6), .p (.str A8), .p (.str A9), .p (.str BC), .p (.str BB), .p (.lst (List.map CV thm)), .ptr c 0], .box c [.p (.lst (List.map Ca cs)), .p (.lst (BO A)), .map m, .p (I al)], .map m (DY (Et 0 A)), .glob GL], []⟩ _
  refine Ap Ao Ao (Bc (i := 0) DC Ao Ao Ao Ao Ao Ao) ?_
  refine Au Ao ?_
  refine As ?_
  refine Aq ?_
  refine Ap Ao Ao (Cy Ao Ao) ?_
  refine Ap Ao Ao (Cy Ao Ao) ?_
  refine Ap Ao Ao (Cy Ao Ao) ?_
  refine Ap Ao Ao (Cy Ao Ao) ?_
  refine Ap Ao Ao (I2 Pb KF VM Ao) ?_
  refine BH Ao Ao (BG VM Ao) fun b8 => ?_
  refine Ap Ao Ao (Bc (i := 0) Xm Ao Ao Ao Ao Ao Ao) ?_
  refine Au Ao ?_
  refine As ?_
  rcases P4 (BF.mk BA A6 A8 A9 BC BB thm) t with ho | ho | ho | ho
  ·rw [QK ho] at h5
   refine B5 (EC (t := 6) (x := .p (I 0)) (pI ho)) ?_
   refine Aq ?_
   refine Ap Ao Ao (Ar Ao) ?_
   refine Ap Ao Ao (Eo Pb KF Ao Ao Al Al) ?_
   refine Ap Ao Ao (Ax (i := 0) KF Ao Ao Ao) ?_
   refine Ap Ao Ao (CH [4, 3, 5, 6, 7, 8] Ao (.inr Ao) (Yh GL hG b2 b3 p c BA A6 A8 A9 BC BB thm m cs A al t h2 h3 (h5 t An) h4 h7) ⟨_, _, Ao, Ao, ⟨_, _, Ao, Ao, ⟨_, _, Ao, Ao, ⟨_, _, Ao, Ao, ⟨_, _, Ao, Ao, ⟨_, _, Ao, Ao, Ao⟩⟩⟩⟩⟩⟩ Al Ao (.inl Ao)) ?_
   refine Ap Ao Ao (BY Ao Ao) ?_
   refine Ap Ao Ao (BY Ao Ao) ?_
   refine Ap Ao Ao (A1 (i := 2) Cb Ao Ao Ao Ae AW (CR _)) ?_
   refine Ap Ao Ao (At Ao) ?_
   refine Au Ao ?_
   refine A5 ?_
   refine ⟨Ao, _, _, ⟨_, _, Ao, (Bg (i := 2) Cb Ao Ao Ae), ⟨_, _, Ao, Ao, Ao⟩⟩, (Cf (is := [5, 6, 7, 8]) Ao), ?_⟩
   rw [O9 ho]
   all_goals exact ⟨rfl, rfl⟩
  ·have hl := (F5 (th := (BF.mk BA A6 A8 A9 BC BB thm)) (t := t)).1 ho
   have e2 := GM (th := (BF.mk BA A6 A8 A9 BC BB thm)) (t := t) (by rw [ho]; decide) (by rw [ho]; decide)
   obtain ⟨x, hx⟩ : ∃ x, (C8 (BF.mk BA A6 A8 A9 BC BB thm) t).2[0]? = some x := ⟨_, List.getElem?_eq_getElem Am⟩
   obtain ⟨y, hy⟩ : ∃ x, (C8 (BF.mk BA A6 A8 A9 BC BB thm) t).2[1]? = some x := ⟨_, List.getElem?_eq_getElem Am⟩
   rw [Rb ho hx hy] at h5 h6
   rw [List.length_append] at h6
   have hnx := Fi (th := (BF.mk BA A6 A8 A9 BC BB thm)) (A := A) n x
   have hny := Fi (th := (BF.mk BA A6 A8 A9 BC BB thm)) (A := A) n y
   refine B5 (EC (t := 6) (x := .p (I 1)) (pI ho)) ?_
   refine Aq ?_
   refine Ap Ao Ao (Ar Ao) ?_
   refine Ap Ao Ao (Eo Pb KF Ao Ao Al Al) ?_
   refine Ap Ao Ao (Ax (i := 0) KF Ao Ao Ao) ?_
   refine Ap Ao Ao (CH [4, 1, 5, 6, 7, 8] Ao (.inr Ao) (Xz GL hG b2 b7 p c BA A6 A8 A9 BC BB thm m cs A al n ((C8 (BF.mk BA A6 A8 A9 BC BB thm) t).2) x y hx hy (ih x (by have := (h2.arg (e2 ▸ hx)).2; omega) (h2.arg (e2 ▸ hx)).1 (by have := (h2.arg (e2 ▸ hx)).2; omega) h4 (fun a ha => h5 a (List.mem_append_left _ ha)) Am h7) (ih y (by have := (h2.arg (e2 ▸ hy)).2; omega) (h2.arg (e2 ▸ hy)).1 (by have := (h2.arg (e2 ▸ hy)).2; omega) h4 (fun a ha => h5 a (List.mem_append_right _ ha)) Am h7) (Gn n x fun a ha => h5 a (List.mem_append_left _ ha)) (Gn n y fun a ha => h5 a (List.mem_append_right _ ha)) Am h7) ⟨_, _, Ao, Ao, ⟨_, _, Ao, Ao, ⟨_, _, Ao, Ao, ⟨_, _, Ao, Ao, ⟨_, _, Ao, Ao, ⟨_, _, Ao, Ao, Ao⟩⟩⟩⟩⟩⟩ Al Ao (.inl Ao)) ?_
   refine Ap Ao Ao (BY Ao Ao) ?_
   refine Ap Ao Ao (BY Ao Ao) ?_
   refine Ap Ao Ao (A1 (i := 2) Cb Ao Ao Ao Ae AW (CR _)) ?_
   refine Ap Ao Ao (At Ao) ?_
   refine Au Ao ?_
   refine A5 ?_
   refine ⟨Ao, _, _, ⟨_, _, Ao, (Bg (i := 2) Cb Ao Ao Ae), ⟨_, _, Ao, Ao, Ao⟩⟩, (Cf (is := [5, 6, 7, 8]) Ao), ?_⟩
   rw [QT ho hx hy]
   all_goals exact ⟨rfl, rfl⟩
  ·refine B5 (EC (t := 6) (x := .p (I 2)) (pI ho)) ?_
   refine Aq ?_
   refine Ap Ao Ao (Ar Ao) ?_
   refine Ap Ao Ao (Eo Pb KF Ao Ao Al Al) ?_
   refine Ap Ao Ao (Ax (i := 0) KF Ao Ao Ao) ?_
   refine Ap Ao Ao (CH [4, 3, 5, 6, 7, 8] Ao (.inr Ao) (YX GL hG b2 b3 p c BA A6 A8 A9 BC BB thm m cs A al t) ⟨_, _, Ao, Ao, ⟨_, _, Ao, Ao, ⟨_, _, Ao, Ao, ⟨_, _, Ao, Ao, ⟨_, _, Ao, Ao, ⟨_, _, Ao, Ao, Ao⟩⟩⟩⟩⟩⟩ Al Ao (.inl Ao)) ?_
   refine Ap Ao Ao (BY Ao Ao) ?_
   refine Ap Ao Ao (BY Ao Ao) ?_
   refine Ap Ao Ao (A1 (i := 2) Cb Ao Ao Ao Ae AW (CR _)) ?_
   refine Ap Ao Ao (At Ao) ?_
   refine Au Ao ?_
   refine A5 ?_
   refine ⟨Ao, _, _, ⟨_, _, Ao, (Bg (i := 2) Cb Ao Ao Ae), ⟨_, _, Ao, Ao, Ao⟩⟩, (Cf (is := [5, 6, 7, 8]) Ao), ?_⟩
   rw [PG ho]
   all_goals exact ⟨rfl, rfl⟩
  ·have hl := (F5 (th := (BF.mk BA A6 A8 A9 BC BB thm)) (t := t)).2 ho
   have e2 := GM (th := (BF.mk BA A6 A8 A9 BC BB thm)) (t := t) (by rw [ho]; decide) (by rw [ho]; decide)
   obtain ⟨x, hx⟩ : ∃ x, (C8 (BF.mk BA A6 A8 A9 BC BB thm) t).2[0]? = some x := ⟨_, List.getElem?_eq_getElem Am⟩
   rw [Rl ho hx] at h5 h6
   have hnx := Fi (th := (BF.mk BA A6 A8 A9 BC BB thm)) (A := A) n x
   refine B5 (EC (t := 6) (x := .p (I 3)) (pI ho)) ?_
   refine Aq ?_
   refine Ap Ao Ao (Ar Ao) ?_
   refine Ap Ao Ao (Eo Pb KF Ao Ao Al Al) ?_
   refine Ap Ao Ao (Ax (i := 0) KF Ao Ao Ao) ?_
   refine Ap Ao Ao (CH [4, 1, 5, 6, 7, 8] Ao (.inr Ao) (XB GL hG b2 b7 p c BA A6 A8 A9 BC BB thm m cs A al n ((C8 (BF.mk BA A6 A8 A9 BC BB thm) t).2) x hx (ih x (by have := (h2.arg (e2 ▸ hx)).2; omega) (h2.arg (e2 ▸ hx)).1 (by have := (h2.arg (e2 ▸ hx)).2; omega) h4 h5 h6 h7) (Gn n x h5) Am h7) ⟨_, _, Ao, Ao, ⟨_, _, Ao, Ao, ⟨_, _, Ao, Ao, ⟨_, _, Ao, Ao, ⟨_, _, Ao, Ao, ⟨_, _, Ao, Ao, Ao⟩⟩⟩⟩⟩⟩ Al Ao (.inl Ao)) ?_
   refine Ap Ao Ao (BY Ao Ao) ?_
   refine Ap Ao Ao (BY Ao Ao) ?_
   refine Ap Ao Ao (A1 (i := 2) Cb Ao Ao Ao Ae AW (CR _)) ?_
   refine Ap Ao Ao (At Ao) ?_
   refine Au Ao ?_
   refine A5 ?_
   refine ⟨Ao, _, _, ⟨_, _, Ao, (Bg (i := 2) Cb Ao Ao Ae), ⟨_, _, Ao, Ao, Ao⟩⟩, (Cf (is := [5, 6, 7, 8]) Ao), ?_⟩
   rw [QS ho hx]
   all_goals exact ⟨rfl, rfl⟩
theorem Vq : ∀ (HP : List BL → Prop) (l b1 b2 : Nat) (d : Jp) (at_ : Int) (bb : Bool) (T0 : List BL), d.kind = 0 → GZ Tryz.prog l [.p (.str d.name), .agg ((NC (Ry.mk 0 at_ 0 d.params d.type)).map .p)] T0 (GB (.p (.bool bb)) HP) → Bl Tryz.prog 140 [.fn (.yield l) [] [], .ptr b2 0, .ptr b1 0] (.box b1 ((DL d).map .p) :: .box b2 [.p (I at_)] :: T0) (GB (.tup []) (fun H => ∃ T, HP T ∧ H = .box b1 ((DL d).map .p) :: .box b2 [.p (I at_)] :: T)) := by
 intro HP l b1 b2 d at_ bb T0 h1 h2
 have hx0 : ([0, 1, 2] : List Int)[0]? = some 0 := rfl
 obtain ⟨dk, dn, dp, dy, dv, df, dc, dr, du⟩ := d
 obtain ⟨dyk, dyi, dyn, dyl, dys⟩ := dy
 obtain ⟨dvk, dvi, dvn, dvl, dvs⟩ := dv
 obtain ⟨drp, dry, drl⟩ := dr
 obtain ⟨dryk, dryi, dryn, dryl, drys⟩ := dry
 simp only at h1 h2
 subst h1
 refine A3 Tryz.func140 Ao X5 (n := 98) Ao Ao ?_
 refine As ?_
 refine Aq ?_
 refine Ap Ao Ao (Ax (i := 1) DQ Ao Ao Ao) ?_
 refine Ap Ao Ao (Av Nw Ao Ao) ?_
 refine Ap Ao Ao (Ax (i := 0) DQ Ao Ao Ao) ?_
 refine Ap Ao Ao (Av Nw Ao Ao) ?_
 refine Ap Ao Ao (Bp (i := 0) BI Ao Ao Ao Ao) ?_
 refine Ap Ao Ao (Bi WX Rd Ao) ?_
 refine BH Ao Ao (BG Rd Ao) fun b4 => ?_
 refine Ap Ao Ao (Bc (i := 0) OO Ao Ao Ao Ao Ao Ao) ?_
 refine Au Ao ?_
 refine As ?_
 refine Aq ?_
 refine Ap Ao Ao (Av Nw Ao Ao) ?_
 refine Ap Ao Ao (Ax (i := 1) DQ Ao Ao Ao) ?_
 refine Au Ao ?_
 refine BU ?_
 refine As ?_
 refine As ?_
 refine Aq ?_
 refine Ap Ao Ao (A7 Ao Ao Ao) ?_
 refine Ap Ao Ao (At Ao) ?_
 refine Au Ao ?_
 refine A4 Ao (fun c => ?_) (fun c => by cases c)
 refine BD ?_
 refine A4 Ao (fun c1 => ?_) (fun c1 => by cases c1)
 refine As ?_
 refine Aq ?_
 refine Ap Ao Ao (CE E0 Tn Ao Ao Ao Ao Ao) ?_
 refine Ap Ao Ao (Av Nw Ao Ao) ?_
 refine Ap Ao Ao (Ax (i := 1) DQ Ao Ao Ao) ?_
 refine Ap Ao Ao (BJ E0 Ao Ao An (D7 hx0) (Ao)) ?_
 refine Ap Ao Ao (CG DQ Ao) ?_
 refine Ap Ao Ao (Av WX Ao Ao) ?_
 refine Ap Ao Ao (Bc (i := 0) DQ Ao Ao Ao Ao Ao Ao) ?_
 refine Au Ao ?_
 refine Aq ?_
 refine Ap Ao Ao (Ar Ao) ?_
 refine Ap Ao Ao (Av Nw Ao Ao) ?_
 refine Ap Ao Ao (Ax (i := 1) GO Ao Ao Ao) ?_
 refine Ap Ao Ao (Aw (i := 0) OO Ao Ao Ao) ?_
 refine JI [_, _, _] Ao Ao Ao Ao (h2 ) Ao ?_ (fun _ _ h => h.elim)
 rintro _ T ⟨rfl, hT⟩
 refine Au Ao ?_
 refine ⟨Ao, _, _, Ao, (F9 [1, 2] [_, _, _] Ao), ?_⟩
 exact ⟨Ao, _, hT, Ao⟩
theorem WD : ∀ (d : Jp) (at_ : Int), Bl Tryz.prog 112 [.agg ((DL d).map .p), .p (I at_)] [] (fun r H' => ∃ b1 b2, r = .val (.fn (.func 140) [] [.ptr b2 0, .ptr b1 0]) ∧ H' = [.box b2 [.p (I at_)], .box b1 ((DL d).map .p)]) := by
 intro d at_
 refine A3 Tryz.func112 Ao X4 (n := 6) Ao Ao ?_
 refine As ?_
 refine Aq ?_
 refine BH Ao Ao (Bb Ao) fun b2 => ?_
 refine BH Ao Ao (Bb Ao) fun b3 => ?_
 refine Ap Ao Ao (At Ao) ?_
 refine Au Ao ?_
 refine As ?_
 refine Aq ?_
 refine Ap Ao Ao (Cy Ao Ao) ?_
 refine Ap Ao Ao (At Ao) ?_
 refine Au Ao ?_
 refine A5 ?_
 refine ⟨Ao, _, _, ⟨_, _, Ao, Ao, Ao⟩, (Cf (is := [0, 1]) Ao), ?_⟩
 exact ⟨_, _, Ao, Ao⟩
end Go.Proofs.YtapmjpihennhaaaGreatDoor
namespace Go.Abs
theorem Of {α : Type} {base T xs : List α} {is : List Nat} (hn : is.Nodup) (h : EZ base is xs) : (base ++ T).Perm (xs ++ (C1 is 0 base ++ T)) := by
 rw [← List.append_assoc]; exact (Cj hn h).append_right T
theorem M5 {α : Type} {base T xs rest : List α} {is : List Nat} (hn : is.Nodup) (h : EZ base is xs) (hd : C1 is 0 base = rest) : (base ++ T).Perm (xs ++ (rest ++ T)) := by
 subst hd; exact Of hn h
theorem IL {P : Program} {fn : Func} {R : DM → List BL → Prop} {S : Bq} {Hs : List BL} (h : IU P fn S R [] .ret Hs) : ∀ U : List Nat, IU P fn S R (U.map .mark) .ret (Hs ++ U.map .dfr)
 | [] => by simpa using h
 | d :: U => by
  refine ⟨Hs.length, by simp, ?_⟩
  have : (Hs ++ (d :: U).map BL.dfr).eraseIdx Hs.length = Hs ++ U.map BL.dfr := by
   rw [List.eraseIdx_append_of_length_le (Nat.le_refl _)]; simp
  rw [this]; exact IL h U
theorem LJ {P : Program} {fn : Func} {R : DM → List BL → Prop} {n : Nat} {τ : Nat → AV} (U : List Nat) {Hs : List BL} (h : IU P fn ⟨n, τ, Hs ++ U.map .dfr, U.map .mark⟩ R [] .ret Hs) : SW P fn R .ret ⟨n, τ, Hs ++ U.map .dfr, U.map .mark⟩ :=
 IL h U
theorem PI {P : Program} {l d i : Nat} {S : Bq} {Q : Ck → Bq → Prop} {v : AV} {H' : List BL} {L : KA} (H2 : List BL) (h1 : H'[i]? = some (.loop l L)) (hs : L.state ≠ .busy) (hp : L.pending = none) (he : H'.eraseIdx i = H2) (h : Q .normal ⟨S.n, S.τ, H2, .mark d :: S.D⟩) : OG P l d S Q (.val v) H' := by
 subst he; exact ⟨i, L, h1, hs, by rw [hp]; exact h⟩
theorem P9 {P : Program} {l d i : Nat} {S : Bq} {Q : Ck → Bq → Prop} {v : AV} {H' : List BL} {L : KA} (H2 : List BL) (h1 : H'[i]? = some (.loop l L)) (hs : L.state ≠ .busy) (hp : L.pending = some .ret) (he : H'.eraseIdx i = H2) (h : Hj P none .ret ⟨S.n, S.τ, H2, .mark d :: S.D⟩ Q) : OG P l d S Q (.val v) H' := by
 subst he; exact ⟨i, L, h1, hs, by rw [hp]; exact h⟩
end Go.Abs
namespace Go.Proofs.YtapmjpihennhaaaGreatDoor
open Go.Abs Go.Eu
theorem T8 : ∀ (ds : List Jp) (nm : ByteArray), (ds.length < Dp) → (∀ d ∈ ds, d.kind = 0) → GX Tryz.prog 76 [.p (.lst (List.map DL ds)), .p (.str nm)] (fun v => ∃ x : Ry, v = .tup [.agg ((NC x).map .p), .p (I (if ds.any (fun d => decide (d.name = nm)) then 0 else 9))]) := by
 intro ds nm h1 h2
 simp only [Dp] at h1
 refine FR Tryz.func76 Ao Z4 (n := 28) Ao Ao ?_
 refine As ?_
 refine Aq ?_
 refine BH Ao Ao (Bb Ao) fun b3 => ?_
 refine BH Ao Ao (BG Rd Ao) fun b4 => ?_
 refine BH Ao Ao (BG Zn Ao) fun b5 => ?_
 refine Au Ao ?_
 refine As ?_
 refine As ?_
 refine Aq ?_
 refine Ap Ao Ao (Ar Ao) ?_
 refine Ap Ao Ao (Bx Vb Ao (List.length_map _)) ?_
 refine Ap Ao Ao (Ar Ao) ?_
 refine Au Ao ?_
 refine BU ?_
 refine CS (α := Nat × List Nat) (fun (i, U) => ⟨28, mk [(3, .ptr b3 0), (4, .ptr b4 0), (5, .ptr b5 0), (10, .p (.lst (List.map DL ds))), (11, .p (I (ds.length : Nat))), (12, .p (I (i : Int)))], (.box b5 [.p (I 0)] :: .box b4 [.p (I 0), .p (I 0), .p (I 0), .p (I 0), .p (I 0), .p (I 0), .p (.str ⟨#[]⟩), .p (.nils), .p (.nils)] :: .box b3 [.p (.str nm)] :: (U.map BL.dfr)), (U.map Di.mark)⟩) (fun (i, U) => ds.length - i) (fun (i, U) => i ≤ ds.length ∧ (∀ j, j < i → ∀ x, ds[j]? = some x → ¬ (x.name = nm))) ⟨0, []⟩ (⟨by omega, fun j h => by omega⟩) ?_ ?_
 ·exact B8 ⟨we Ao, we Ao, we Ao, we Ao, we Ao, we Ao, trivial⟩ (Oo [0, 1, 2] [_, _, _] (l' := [_, _, _]) Ao (wl (oe Ao) (wl (oe Ao) (wl (oe Ao) (ET)))))
 rintro ⟨i, U⟩ hC
 try simp only at hC
 obtain ⟨hi, hC⟩ := hC
 refine As ?_
 refine Aq ?_
 refine Ap Ao Ao (A7 Ao Ao Ao) ?_
 refine Au Ao ?_
 refine As ?_
 refine A4 Ao (fun c => ?_) (fun c => ?_)
 ·(try simp only [sd, se] at c)
  refine BD ?_
  refine As ?_
  refine BU ?_
  refine As ?_
  refine Aq ?_
  refine Ap Ao Ao (Ar Ao) ?_
  obtain ⟨x, hx⟩ := BM (l := ds) (i := i) Am
  have hx0 := h2 _ (List.mem_of_getElem? hx)
  refine Ap Ao Ao (BJ Vb Ao Ao Am (R4 hx) (I0 _)) ?_
  refine Ap Ao Ao (Be Oy Ao (I0 _)) ?_
  refine BH Ao Ao (BG Qn Ao) fun b7 => ?_
  refine Ap Ao Ao (At Ao) ?_
  refine Ap Ao Ao (A1 (i := 0) Oy Ao Ao Ao (by simp [I0]) (by first | rfl | simp [I0]) (Ul _)) ?_
  refine Au Ao ?_
  refine As ?_
  refine Aq ?_
  refine Ap Ao Ao (Aw (i := 0) Oy Ao Ao (by simp [I0])) ?_
  refine Ap Ao Ao (Ar Ao) ?_
  refine KP (Hs := []) Ao Ao Ao (.inl ⟨Ao, Ao, Ao⟩) (List.Perm.refl _) ((WD x ((i : Int))).args (aw (we Ao) (aw (we Ao) Ci))) (.inl Ao) ?_ (fun _ _ ⟨_, _, h, _⟩ => by cases h)
  rintro _ _ ⟨bd, ba, h, rfl⟩
  cases h
  refine Au Ao ?_
  refine BU ?_
  refine Hz (.inr Ao) fun dd l L hL => ?_
  refine ⟨_, _, M5 (is := [3, 2, 0, 4, 5, 6, 7]) (base := [_, _, _, _, _, _, _, _]) (rest := [.dfr dd]) Al ⟨_, _, Ao, Ao, ⟨_, _, Ao, Ao, ⟨_, _, Ao, Ao, ⟨_, _, Ao, Ao, ⟨_, _, Ao, Ao, ⟨_, _, Ao, Ao, ⟨_, _, Ao, Ao, Ao⟩⟩⟩⟩⟩⟩⟩ Ao, ?_⟩
  have hy : GZ Tryz.prog l [.p (.str x.name), .agg ((NC (Ry.mk 0 ((i : Int)) 0 x.params x.type)).map .p)] [.loop l L, .box b7 ((DL x).map .p), .box b5 [.p (I 0)], .box b4 [.p (I 0), .p (I 0), .p (I 0), .p (I 0), .p (I 0), .p (I 0), .p (.str ⟨#[]⟩), .p (.nils), .p (.nils)], .box b3 [.p (.str nm)]] (GB (.p (.bool (!decide (x.name = nm)))) (fun T : List BL => T = if x.name = nm then [.loop l { L with state := .done, pending := some .ret }, .box b7 ((DL x).map .p), .box b5 [.p (I 0)], .box b4 ((NC (Ry.mk 0 ((i : Int)) 0 x.params x.type)).map .p), .box b3 [.p (.str nm)]] else [.loop l L, .box b7 ((DL x).map .p), .box b5 [.p (I 0)], .box b4 [.p (I 0), .p (I 0), .p (I 0), .p (I 0), .p (I 0), .p (I 0), .p (.str ⟨#[]⟩), .p (.nils), .p (.nils)], .box b3 [.p (.str nm)]])) := by
   obtain ⟨LB, hLB⟩ : ∃ x, x = BL.loop l { L with state := .busy } := ⟨_, rfl⟩
   subst hL
   refine I4 (i := 0) Ao Ao Ao Ao ?_
   refine As ?_
   refine Aq ?_
   refine Ap Ao Ao (At Ao) ?_
   refine Au Ao ?_
   refine Aq ?_
   refine BH Ao Ao (BG Rd Ao) fun b9 => ?_
   refine Ap Ao Ao (A1 (i := 0) OO Ao Ao Ao (by simp [GG]) (by first | rfl | simp [GG]) (OF _)) ?_
   refine Au Ao ?_
   refine ⟨Ao, 1, Ao, ?_⟩
   rw [← hLB]
   refine BU ?_
   refine As ?_
   refine Aq ?_
   refine Ap Ao Ao (Ar Ao) ?_
   refine Ap Ao Ao (Ax (i := 5) GO Ao Ao Ao) ?_
   refine Ap Ao Ao (JJ Ao Ao) ?_
   refine Au Ao ?_
   refine A4 Ao (fun c1 => ?_) (fun c1 => ?_)
   ·(try simp only [sd, se] at c1)
    refine As ?_
    refine Aq ?_
    refine Ap Ao Ao (Aw (i := 0) OO Ao Ao (by simp [GG])) ?_
    refine Ap Ao Ao (A1 (i := 4) OO Ao Ao Ao (by simp [GG]) (by first | rfl | simp [GG]) (OF _)) ?_
    refine Ap Ao Ao (Bc (i := 3) Tu Ao Ao Ao Ao Ao Ao) ?_
    refine Au Ao ?_
    refine A5 ?_
    subst hLB
    refine ⟨1, _, Ao, Cf (is := [1, 2, 3, 4, 5]) Ao, ?_⟩
    have hcc : x.name = nm := Pr (by simpa using c1)
    exact ⟨by simp [hcc], (if_pos hcc).symm⟩
   ·(try simp only [sd, se] at c1)
    refine BD ?_
    subst hLB
    refine ⟨1, _, Ao, Cf (is := [1, 2, 3, 4, 5]) Ao, ?_⟩
    have hcc : ¬ (x.name = nm) := fun h => by simp [h] at c1
    exact ⟨by simp [hcc], (if_neg hcc).symm⟩
  refine (Vq (fun T : List BL => T = if x.name = nm then [.loop l { L with state := .done, pending := some .ret }, .box b7 ((DL x).map .p), .box b5 [.p (I 0)], .box b4 ((NC (Ry.mk 0 ((i : Int)) 0 x.params x.type)).map .p), .box b3 [.p (.str nm)]] else [.loop l L, .box b7 ((DL x).map .p), .box b5 [.p (I 0)], .box b4 [.p (I 0), .p (I 0), .p (I 0), .p (I 0), .p (I 0), .p (I 0), .p (.str ⟨#[]⟩), .p (.nils), .p (.nils)], .box b3 [.p (.str nm)]]) l bd ba x ((i : Int)) _ _ (hx0) hy).mono ?_
  rintro (v | v) H' hR
  rotate_left
  ·exact hR.elim
  obtain ⟨rfl, _, hT, rfl⟩ := hR
  subst hL
  by_cases hcc : x.name = nm
  ·rw [if_pos hcc] at hT
   subst hT
   refine P9 (i := 2) (.box bd ((DL x).map .p) :: .box ba [.p (I (i : Int))] :: .box b7 ((DL x).map .p) :: .box b5 [.p (I 0)] :: .box b4 ((NC (Ry.mk 0 ((i : Int)) 0 x.params x.type)).map .p) :: .box b3 [.p (.str nm)] :: (.dfr dd :: U.map BL.dfr)) Ao An Ao Ao ?_
   refine A5 ?_
   refine LJ (dd :: U) (Hs := [_, _, _, _, _, _]) ?_
   refine ⟨_, _, ⟨_, _, Ao, (Bg (i := 4) OO Ao Ao (by simp [GG])), ⟨_, _, Ao, (PB (i := 3) Tu Ao Ao), Ao⟩⟩, (List.nil_sublist _), ?_⟩
   all_goals exact ⟨⟨(Ry.mk 0 (i : Int) 0 x.params x.type), by rw [if_pos (List.any_eq_true.2 ⟨x, List.mem_of_getElem? hx, by simpa using hcc⟩)]⟩, rfl⟩
  ·rw [if_neg hcc] at hT
   subst hT
   refine PI (i := 2) (.box bd ((DL x).map .p) :: .box ba [.p (I (i : Int))] :: .box b7 ((DL x).map .p) :: .box b5 [.p (I 0)] :: .box b4 [.p (I 0), .p (I 0), .p (I 0), .p (I 0), .p (I 0), .p (I 0), .p (.str ⟨#[]⟩), .p (.nils), .p (.nils)] :: .box b3 [.p (.str nm)] :: (.dfr dd :: U.map BL.dfr)) Ao An Ao Ao ?_
   refine Aq ?_
   refine Ap Ao Ao (CT Ao Ao Am Am) ?_
   refine Ap Ao Ao (Ar Ao) ?_
   refine Au Ao ?_
   refine ⟨⟨i + 1, dd :: U⟩, AT, ⟨by omega, FG (p := fun _ (x : Jp) => ¬ (x.name = nm)) hC hx hcc⟩, B8 ⟨we rfl, we rfl, we rfl, we rfl, we rfl, we rfl, trivial⟩ (Oo [3, 4, 5] [_, _, _, _, _, _] (l' := [_, _, _]) rfl (wl (oe rfl) (wl (oe rfl) (wl (oe rfl) (ET)))))⟩
 ·(try simp only [sd, se] at c)
  refine CL ?_
  refine As ?_
  refine Aq ?_
  refine Ap Ao Ao (Bi WX Rd Ao) ?_
  refine Ap Ao Ao (Bc (i := 1) OO Ao Ao Ao Ao Ao Ao) ?_
  refine Ap Ao Ao (Bc (i := 0) Tu Ao Ao Ao Ao Ao Ao) ?_
  refine Au Ao ?_
  refine B5 (Cw (i := 1) Ao) ?_
  refine A5 ?_
  refine LJ U (Hs := [_, _, _]) ?_
  refine ⟨_, _, ⟨_, _, Ao, (Bg (i := 1) OO Ao Ao Ao), ⟨_, _, Ao, (PB (i := 0) Tu Ao Ao), Ao⟩⟩, (List.nil_sublist _), ?_⟩
  all_goals exact ⟨⟨(Ry.mk 0 0 0 0 BQ), by rw [if_neg (fun h => by obtain ⟨x, hx, hq⟩ := List.any_eq_true.1 h; obtain ⟨j, hj⟩ := List.getElem?_of_mem hx; exact hC j (by have := (List.getElem?_eq_some_iff.1 hj).1; omega) x hj (by simpa using hq))]; rfl⟩, rfl⟩
theorem V6 : ∀ (b0 : Nat) (ds : List Jp) (nm : ByteArray), (ds.length < Dp) → (∀ d ∈ ds, d.kind = 0) → Bl Tryz.prog 75 [.p (.str nm), .ptr b0 0] [.box b0 [.p (.lst (List.map DL ds))]] (DG (.p (.bool (!OM ds nm))) [.box b0 [.p (.lst (List.map DL ds))]]) := by
 intro b0 ds nm h1 h2
 refine A3 Tryz.func75 Ao aE (n := 14) Ao Ao ?_
 refine As ?_
 refine Aq ?_
 refine Ap Ao Ao (At Ao) ?_
 refine Au Ao ?_
 refine As ?_
 refine Aq ?_
 refine Ap Ao Ao (Ax (i := 0) Zw Ao Ao Ao) ?_
 refine Ap Ao Ao (Ar Ao) ?_
 refine GY Ao Ao (BR Ao Ao (T8 ds nm h1 h2) (.inl Ao)) ?_
 rintro _ ⟨xe, rfl⟩
 refine Ap Ao Ao (Ar Ao) ?_
 refine Ap Ao Ao (BY Ao Ao) ?_
 refine Ap Ao Ao (BY Ao Ao) ?_
 refine BH Ao Ao (BG Rd Ao) fun b4 => ?_
 refine Ap Ao Ao (A1 (i := 0) OO Ao Ao Ao (by simp [GG]) (by first | rfl | simp [GG]) (OF _)) ?_
 refine Ap Ao Ao (At Ao) ?_
 refine Au Ao ?_
 refine As ?_
 refine Aq ?_
 refine Ap Ao Ao (Ar Ao) ?_
 refine Ap Ao Ao (A7 Ao Ao Ao) ?_
 refine Ap Ao Ao (At Ao) ?_
 refine Au Ao ?_
 refine A5 ?_
 refine ⟨Ao, _, _, ⟨_, _, Ao, Ao, Ao⟩, (Cf (is := [1]) Ao), ?_⟩
 all_goals exact ⟨by show (.p (.bool (((if ds.any (fun d => decide (d.name = nm)) then 0 else 9) : Int) != (0 : Int))) : AV) = _; simp only [OM]; cases ds.any (fun d => decide (d.name = nm)) <;> rfl, rfl⟩
theorem WE : ∀ (b0 : Nat) (ds : List Jp) (l : List ByteArray), (ds.length < Dp) → (∀ d ∈ ds, d.kind = 0) → (l.length < Dp) → Bl Tryz.prog 111 [.p (.lst (List.map CV l)), .fn (.func 75) [] [.ptr b0 0]] [.box b0 [.p (.lst (List.map DL ds))]] (DG (.p (I (Up ds l 0))) [.box b0 [.p (.lst (List.map DL ds))]]) := by
 intro b0 ds l h1 h2 h3
 have hbig : l.length < 1099511627776 := h3
 refine A3 Tryz.func111 Ao Xn (n := 19) Ao Ao ?_
 refine As ?_
 refine Aq ?_
 refine Ap Ao Ao (At Ao) ?_
 refine Au Ao ?_
 refine As ?_
 refine As ?_
 refine Aq ?_
 refine Ap Ao Ao (Ar Ao) ?_
 refine Ap Ao Ao (Bx Jg Ao (List.length_map _)) ?_
 refine Ap Ao Ao (Ar Ao) ?_
 refine Au Ao ?_
 refine BU ?_
 refine CS (α := Nat) (fun i => ⟨19, mk [(0, .p (.lst (List.map CV l))), (1, .fn (.func 75) [] [.ptr b0 0]), (7, .p (I (l.length : Nat))), (8, .p (I (i : Int)))], [.box b0 [.p (.lst (List.map DL ds))]], []⟩) (fun i => l.length - i) (fun i => i ≤ l.length ∧ (Up ds (l.drop i) i = Up ds l 0)) 0 (⟨by omega, rfl⟩) ?_ ?_
 ·exact B8 ⟨we Ao, we Ao, we Ao, we Ao, trivial⟩ (leH (is := [0]) Ao (wl (oe Ao) (ET)))
 rintro i hC
 try simp only at hC
 obtain ⟨hi, hC⟩ := hC
 refine As ?_
 refine Aq ?_
 refine Ap Ao Ao (A7 Ao Ao Ao) ?_
 refine Au Ao ?_
 refine As ?_
 refine A4 Ao (fun c => ?_) (fun c => ?_)
 ·(try simp only [sd, se] at c)
  refine BD ?_
  refine As ?_
  refine BU ?_
  refine As ?_
  refine Aq ?_
  refine Ap Ao Ao (Ar Ao) ?_
  refine Ap Ao Ao (At Ao) ?_
  refine Au Ao ?_
  refine As ?_
  refine Aq ?_
  refine Ap Ao Ao (Ar Ao) ?_
  refine Ap Ao Ao (Ar Ao) ?_
  refine Ap Ao Ao (Ar Ao) ?_
  obtain ⟨x, hx⟩ := BM (l := l) (i := i) Am
  refine Ap Ao Ao (BJ Jg Ao Ao Am (Mr hx) (Ao)) ?_
  refine Ap Ao Ao (CG GO Ao) ?_
  refine Ap Ao Ao (CH [0] Ao (.inr Ao) (V6 b0 ds x h1 h2) ⟨_, _, Ao, Ao, Ao⟩ Al Ao (.inl Ao)) ?_
  refine Au Ao ?_
  refine A4 Ao (fun c1 => ?_) (fun c1 => ?_)
  ·(try simp only [sd, se] at c1)
   refine As ?_
   refine Aq ?_
   refine Ap Ao Ao (Ar Ao) ?_
   refine Ap Ao Ao (At Ao) ?_
   refine Au Ao ?_
   refine A5 ?_
   refine ⟨Ao, _, _, ⟨_, _, Ao, Ao, Ao⟩, (Cf (is := [0]) Ao), ?_⟩
   all_goals exact ⟨by show (.p (I (i : Int)) : AV) = _; rw [← hC, S9 hx, if_neg (by simpa using c1)], rfl⟩
  ·(try simp only [sd, se] at c1)
   refine BD ?_
   refine Aq ?_
   refine Ap Ao Ao (CT Ao Ao Am Am) ?_
   refine Ap Ao Ao (Ar Ao) ?_
   refine Au Ao ?_
   refine ⟨(i + 1), AT, ⟨by omega, by rw [← hC, S9 hx, if_pos (by simpa using c1)]; rfl⟩, B8 ⟨we rfl, we rfl, we rfl, we rfl, trivial⟩ (leH (is := [0]) rfl (wl (oe rfl) (ET)))⟩
 ·(try simp only [sd, se] at c)
  refine CL ?_
  refine As ?_
  refine Aq ?_
  refine Ap Ao Ao (At Ao) ?_
  refine Au Ao ?_
  refine A5 ?_
  refine ⟨Ao, _, _, ⟨_, _, Ao, Ao, Ao⟩, (Cf (is := [0]) Ao), ?_⟩
  all_goals exact ⟨by show (.p (I (-1)) : AV) = _; rw [← hC, List.drop_eq_nil_of_le Am]; rfl, rfl⟩
theorem Vv : ∀ (b0 : Nat) (ds : List Jp) (l : List ByteArray), (ds.length < Dp) → (∀ d ∈ ds, d.kind = 0) → (l.length < Dp) → Bl Tryz.prog 74 [.p (.lst (List.map CV l)), .fn (.func 75) [] [.ptr b0 0]] [.box b0 [.p (.lst (List.map DL ds))]] (DG (.p (.bool (N4 ds l))) [.box b0 [.p (.lst (List.map DL ds))]]) := by
 intro b0 ds l h1 h2 h3
 refine A3 Tryz.func74 Ao aM (n := 9) Ao Ao ?_
 refine As ?_
 refine Aq ?_
 refine Ap Ao Ao (At Ao) ?_
 refine Au Ao ?_
 refine As ?_
 refine Aq ?_
 refine Ap Ao Ao (Ar Ao) ?_
 refine Ap Ao Ao (Ar Ao) ?_
 refine Ap Ao Ao (CH [0] Ao (.inl ⟨Ao, Ao, Ao⟩) (WE b0 ds l h1 h2 h3) ⟨_, _, Ao, Ao, Ao⟩ Al Ao (.inl Ao)) ?_
 refine Ap Ao Ao (A7 Ao Ao Ao) ?_
 refine Ap Ao Ao (At Ao) ?_
 refine Au Ao ?_
 refine A5 ?_
 refine ⟨Ao, _, _, ⟨_, _, Ao, Ao, Ao⟩, (Cf (is := [0]) Ao), ?_⟩
 all_goals exact ⟨by show (.p (.bool (decide ((Up ds l 0 : Int) ≥ (0 : Int)))) : AV) = _; rw [← Qk l 0 Am], rfl⟩
theorem Ua : ∀ (ds : List Jp) (th : BF), (ds.length < Dp) → (∀ d ∈ ds, d.kind = 0) → (th.lemmas.length = 14) → G5 Tryz.prog 44 [.p (.lst (List.map DL ds)), .agg ((Ef th).map .p)] (.p (.bool (N4 ds (N8 th)))) := by
 intro ds th h1 h2 h3
 obtain ⟨BA, A6, A8, A9, BC, BB, thm⟩ := th
 simp only at h3
 refine A3 Tryz.func44 Ao Zr (n := 22) Ao Ao ?_
 refine As ?_
 refine Aq ?_
 refine BH Ao Ao (Bb Ao) fun b2 => ?_
 refine BH Ao Ao (Bb Ao) fun b3 => ?_
 refine Ap Ao Ao (At Ao) ?_
 refine Au Ao ?_
 refine As ?_
 refine DU [.val (.ptr b3 (0 + 0)), .val (.p (.str BA)), .val (.ptr b3 (0 + 1)), .val (.p (.str A6)), .val (.ptr b3 (0 + 2)), .val (.p (.str A8)), .val (.ptr b3 (0 + 3)), .val (.p (.str A9)), .newv 1 (List.map CV ([BA, A6, A8, A9, ⟨#[69, 113]⟩, ⟨#[69, 113, 46, 114, 101, 102, 108]⟩, ⟨#[69, 113, 46, 115, 121, 109, 109]⟩, ⟨#[69, 113, 46, 116, 114, 97, 110, 115]⟩, ⟨#[69, 113, 46, 99, 111, 110, 103, 114]⟩])), .val (.ptr b3 (0 + 6)), .val (.p (.lst (List.map CV thm))), .val (.p (.lst (List.map CV (thm.take 7))))] Dq Ao Ai Ai ?_
 refine BE Ao (fun Bs => Av Du Ao Ao) ?_
 refine BE Ao (fun Bs => Ax (i := Bs.length + 0) GO Ao (Bn Ao) Ao) ?_
 refine BE Ao (fun Bs => Av Du Ao Ao) ?_
 refine BE Ao (fun Bs => Ax (i := Bs.length + 0) GO Ao (Bn Ao) Ao) ?_
 refine BE Ao (fun Bs => Av Du Ao Ao) ?_
 refine BE Ao (fun Bs => Ax (i := Bs.length + 0) GO Ao (Bn Ao) Ao) ?_
 refine BE Ao (fun Bs => Av Du Ao Ao) ?_
 refine BE Ao (fun Bs => Ax (i := Bs.length + 0) GO Ao (Bn Ao) Ao) ?_
 refine Ka Ao (fun Bs => Gc (rows := List.map CV ([BA, A6, A8, A9, ⟨#[69, 113]⟩, ⟨#[69, 113, 46, 114, 101, 102, 108]⟩, ⟨#[69, 113, 46, 115, 121, 109, 109]⟩, ⟨#[69, 113, 46, 116, 114, 97, 110, 115]⟩, ⟨#[69, 113, 46, 99, 111, 110, 103, 114]⟩])) Jg YH Ao Ao Ao Ao Ao) fun b14 cp => ?_
 refine BE Ao (fun Bs => Av Du Ao Ao) ?_
 refine BE Ao (fun Bs => Ax (i := Bs.length + 0) Sa Ao (Bn Ao) Ao) ?_
 refine BE Ao (fun Bs => D0 (lo := 0) (hi := 7) Jg Ao (Bv (K2 _)) Ao ⟨_, Ao⟩ (Nat.zero_le _) AP (VP (f := CV) thm 7)) ?_
 refine D6 ?_
 change AL _ _ _ 12 ⟨22, _, [.vec (some b14) 1 (List.map CV ([BA, A6, A8, A9, ⟨#[69, 113]⟩, ⟨#[69, 113, 46, 114, 101, 102, 108]⟩, ⟨#[69, 113, 46, 115, 121, 109, 109]⟩, ⟨#[69, 113, 46, 116, 114, 97, 110, 115]⟩, ⟨#[69, 113, 46, 99, 111, 110, 103, 114]⟩])) cp, .box b3 [.p (.str BA), .p (.str A6), .p (.str A8), .p (.str A9), .p (.str BC), .p (.str BB), .p (.lst (List.map CV thm))], .box b2 [.p (.lst (List.map DL ds))]], []⟩ _
 refine Ap Ao Ao (Eh (i := 0) (rows' := List.map CV (thm.take 7)) Jg Jg YH Ao Ao Ao Ao Ao Ao (K2 _) (by simp only [List.length_map, List.length_take, List.length_cons, List.length_nil]; omega) (IN (f := CV) ([BA, A6, A8, A9, ⟨#[69, 113]⟩, ⟨#[69, 113, 46, 114, 101, 102, 108]⟩, ⟨#[69, 113, 46, 115, 121, 109, 109]⟩, ⟨#[69, 113, 46, 116, 114, 97, 110, 115]⟩, ⟨#[69, 113, 46, 99, 111, 110, 103, 114]⟩]) (thm.take 7))) ?_
 refine Ap Ao Ao (At Ao) ?_
 refine Au Ao ?_
 refine As ?_
 refine Aq ?_
 refine Ap Ao Ao (Ar Ao) ?_
 refine Ap Ao Ao (Cy Ao Ao) ?_
 refine Ap Ao Ao (CH [1] Ao (.inl ⟨Ao, Ao, Ao⟩) (Vv b2 ds ([BA, A6, A8, A9, ⟨#[69, 113]⟩, ⟨#[69, 113, 46, 114, 101, 102, 108]⟩, ⟨#[69, 113, 46, 115, 121, 109, 109]⟩, ⟨#[69, 113, 46, 116, 114, 97, 110, 115]⟩, ⟨#[69, 113, 46, 99, 111, 110, 103, 114]⟩] ++ (thm.take 7)) h1 h2 (by simp only [Dp, List.length_append, List.length_take, List.length_cons, List.length_nil]; omega)) ⟨_, _, Ao, Ao, Ao⟩ Al Ao (.inl Ao)) ?_
 refine Ap Ao Ao (At Ao) ?_
 refine Au Ao ?_
 refine A5 ?_
 refine ⟨Ao, _, _, ⟨_, _, Ao, Ao, Ao⟩, (List.nil_sublist _), ?_⟩
 all_goals exact ⟨rfl, rfl⟩
theorem Uc : ∀ (GL : List (Nat × Obj)) (ds : List Jp) (th : BF) (t : Tm) (hG : Gh GL), (ds.length < Dp) → (∀ d ∈ ds, d.kind = 0) → (th.lemmas.length = 14) → (N4 ds (N8 th) = false) → (Fb t) → (size t ≤ 4096) → ((Cq th t).all ≤ 60) → (GU th) → Bl Tryz.prog 16 [.p (.lst (List.map DL ds)), .agg ((Ef th).map .p), .agg ((Ba t).map .p)] [.glob GL] (fun x H' => (∃ s p e, x = .val (.tup [TV s, TV p, .p (I e)]) ∧ (e = 0 ∧ s = Gd th (Cq th t).coefs (Cq th t).atoms ∧ p = (Bk th (Cq th t).atoms (size t) t).1.proof ∨ e = 5 ∧ s = BQ ∧ p = BQ ∧ 16 < size t)) ∧ H' = [.glob GL]) := by
 intro GL ds th t hG h1 h2 h3 h4 h5 h6 h7 h8
 obtain ⟨BA, A6, A8, A9, BC, BB, thm⟩ := th
 simp only at h3
 refine A3 Tryz.func16 Ao Yu (n := 84) Ao Ao ?_
 refine As ?_
 refine Aq ?_
 refine BH Ao Ao (Bb Ao) fun b4 => ?_
 refine BH Ao Ao (Bb Ao) fun b5 => ?_
 refine BH Ao Ao (BG B0 Ao) fun b6 => ?_
 refine BH Ao Ao (BG B0 Ao) fun b7 => ?_
 refine Ap Ao Ao (At Ao) ?_
 refine Au Ao ?_
 refine As ?_
 refine As ?_
 refine Aq ?_
 refine Ap Ao Ao (Av Du Ao Ao) ?_
 refine Ap Ao Ao (Ax (i := 3) Sa Ao Ao Ao) ?_
 refine Ap Ao Ao (Bx Jg Ao (List.length_map _)) ?_
 refine Ap Ao Ao (A7 Ao Ao Ao) ?_
 refine Au Ao ?_
 refine A4 Ao (fun c => ?_) (fun c => ?_)
 ·(try simp only [sd, se] at c)
  exact absurd h3 Am
 ·(try simp only [sd, se] at c)
  refine BD ?_
  refine As ?_
  refine As ?_
  refine Aq ?_
  refine Ap Ao Ao (Ar Ao) ?_
  refine Ap Ao Ao (Aw (i := 3) FE Ao Ao Ao) ?_
  refine Ap Ao Ao (Bf Ao Ao (Ua ds (BF.mk BA A6 A8 A9 BC BB thm) h1 h2 h3) Ao) ?_
  refine Au Ao ?_
  refine A4 Ao (fun c1 => ?_) (fun c1 => ?_)
  ·(try simp only [sd, se] at c1)
   exact absurd (h4.symm.trans c1) Al
  ·(try simp only [sd, se] at c1)
   refine BD ?_
   refine As ?_
   refine Aq ?_
   refine Ap Ao Ao (Aw (i := 3) FE Ao Ao Ao) ?_
   refine Ap Ao Ao (Aw (i := 2) BI Ao Ao Af) ?_
   refine GI [_, _, _, _] Ao Ao Ao (.inl ⟨Ao, Ao, Ao⟩) (Qi GL (BF.mk BA A6 A8 A9 BC BB thm) t hG h5 Am Am) (aw (we Ao) (aw (we Ao) Ci)) ?_ (fun _ _ ⟨_, _, h, _⟩ => by cases h)
   rintro _ _ ⟨b, T, h, hT, rfl⟩
   cases h
   obtain ⟨o, cp, o1, cp1, m, rfl⟩ := hT
   refine Ap Ao Ao (Ar Ao) ?_
   refine Ap Ao Ao (BY Ao Ao) ?_
   refine Ap Ao Ao (BY Ao Ao) ?_
   refine Ap Ao Ao (At Ao) ?_
   refine Ap Ao Ao (At Ao) ?_
   refine Au Ao ?_
   refine As ?_
   refine As ?_
   refine Aq ?_
   refine Ap Ao Ao (Ar Ao) ?_
   refine Ap Ao Ao (A7 Ao Ao Ao) ?_
   refine Au Ao ?_
   refine A4 Ao (fun c2 => by cases c2) (fun c2 => ?_)
   refine BD ?_
   refine As ?_
   refine Aq ?_
   refine Ap Ao Ao (Ar Ao) ?_
   refine Ap Ao Ao (BT Ao) ?_
   refine Ap Ao Ao (Av Gk Ao Ao) ?_
   refine Ap Ao Ao (Ax (i := 5) DQ Ao Ao Ao) ?_
   refine Ap Ao Ao (A7 Ao Ao Ao) ?_
   refine Ap Ao Ao (At Ao) ?_
   refine Au Ao ?_
   refine As ?_
   refine As ?_
   refine CB [4, 5, 6, 7, 9] 47 (fun y => y = .p (.bool ((decide (((Cq (BF.mk BA A6 A8 A9 BC BB thm) t).all : Int) > (60 : Int))) && (decide (((size t : Nat) : Int) > (16 : Int)))))) ?_ ?_
   ·refine Aq ?_
    refine Cz (EC (t := 11) (x := .p (.bool false)) (pB Ah)) ?_
    refine Ap Ao Ao (Ar Ao) ?_
    refine Ap Ao Ao (Ar Ao) ?_
    refine A0 Ao Ao Ao Ao Ao ?_
    refine A0 Ao Ao Ao Ao Ao ?_
    refine A0 Ao Ao Ao Ao Ao ?_
    refine Ap Ao Ao (A2 Ao Ao) ?_
    refine Au Ao ?_
    exact ⟨Ao, Ao, AG, AF, ⟨Ao, Ao, Ao, Ao, Ao, trivial⟩⟩
   rintro _ rfl
   refine A4 Ao (fun c3 => ?_) (fun c3 => ?_)
   ·(try simp only [sd, se] at c3)
    omega
   ·(try simp only [sd, se] at c3)
    refine BD ?_
    refine As ?_
    refine Aq ?_
    refine Cz (DT (i := 6) (j := 5) (q := 0) [] Ao Ao Ao (IA trivial)) ?_
    refine Cz (DT (i := 6) (j := 5) (q := 1) [] Ao Ao Ao (IA trivial)) ?_
    refine Ap Ao Ao (Aw (i := 3) FE Ao Ao Ao) ?_
    refine Ap Ao Ao (Ar Ao) ?_
    refine Ap Ao Ao (Bi Gq Zo Ao) ?_
    refine BH Ao Ao (Bb Ao) fun b53 => ?_
    refine Ap Ao Ao (Cy Ao Ao) ?_
    refine Ap Ao Ao (At Ao) ?_
    refine Au Ao ?_
    refine As ?_
    refine Aq ?_
    refine Ap Ao Ao (Ar Ao) ?_
    refine Ap Ao Ao (Aw (i := 3) BI Ao Ao Af) ?_
    have hpn := Se (th := (BF.mk BA A6 A8 A9 BC BB thm)) h8 h5 h6 h7
    obtain ⟨f1, f2, f3, f4, f5⟩ := NN (th := (BF.mk BA A6 A8 A9 BC BB thm)) h5 h6 h7
    refine Ap Ao Ao (CH [0, 6, 7, 5] Ao (.inr Ao) (Rx GL hG b53 b BA A6 A8 A9 BC BB thm m ((Cq (BF.mk BA A6 A8 A9 BC BB thm) t).coefs) ((Cq (BF.mk BA A6 A8 A9 BC BB thm) t).atoms) ((Cq (BF.mk BA A6 A8 A9 BC BB thm) t).all) (size t) t (Nat.le_refl _) h5 Am f3 f1 Am h3) ⟨_, _, Ao, Ao, ⟨_, _, Ao, Ao, ⟨_, _, Ao, Ao, ⟨_, _, Ao, Ao, Ao⟩⟩⟩⟩ Al Ao (.inl Ao)) ?_
    generalize hnq : Bk (BF.mk BA A6 A8 A9 BC BB thm) ((Cq (BF.mk BA A6 A8 A9 BC BB thm) t).atoms) (size t) t = nq
    refine Ap Ao Ao (Ar Ao) ?_
    refine Ap Ao Ao (BY Ao Ao) ?_
    refine Ap Ao Ao (BY Ao Ao) ?_
    refine BH Ao Ao (BG DW Ao) fun b13 => ?_
    refine Ap Ao Ao (A1 (i := 0) Cb Ao Ao Ao Ae AW (CR _)) ?_
    obtain ⟨z, zL⟩ := nq
    rw [hnq] at hpn
    obtain ⟨zl, zr, zp, zs⟩ := z
    obtain ⟨zlk, zli, zln, zll, zls⟩ := zl
    obtain ⟨zrk, zri, zrn, zrl, zrs⟩ := zr
    obtain ⟨zpk, zpi, zpn, zpl, zps⟩ := zp
    simp only at hpn
    refine Ap Ao Ao (At Ao) ?_
    refine Au Ao ?_
    refine As ?_
    refine As ?_
    refine CB [4, 6, 7, 9, 13] 69 (fun y => y = .p (.bool ((decide (((size t : Nat) : Int) > (16 : Int))) && (decide (((size (.mk zpk zpi zpn zpl zps : Tm) : Nat) : Int) > (4096 : Int)))))) ?_ ?_
    ·refine Aq ?_
     refine Ap Ao Ao (Aw (i := 4) BI Ao Ao Af) ?_
     refine Ap Ao Ao (Bf Ao Ao (RB t h5.nd Am) Ao) ?_
     refine Ap Ao Ao (A7 Ao Ao Ao) ?_
     refine Ap Ao Ao (Ar Ao) ?_
     refine Bm 64 Ao (fun g => ?_) (fun g => ?_)
     ·(try simp only [sd, se] at g)
      refine Az Ao Ao Ao Ao (Av EM Ao Ao) ?_
      refine Az Ao Ao Ao Ao (Bp (i := 0) BI Ao Ao Ao Ao) ?_
      refine Az Ao Ao Ao Ao (Bf Ao Ao (RB (.mk zpk zpi zpn zpl zps : Tm) hpn.1 hpn.2) Ao) ?_
      refine Az Ao Ao Ao Ao (A7 Ao Ao Ao) ?_
      refine Ap Ao Ao (A2 Ao Ao) ?_
      refine Au Ao ?_
      exact ⟨Ao, Ao, AG, AF, ⟨Ao, Ao, Ao, Ao, Ao, trivial⟩⟩
     ·(try simp only [sd, se] at g)
      refine A0 Ao Ao Ao Ao Ao ?_
      refine A0 Ao Ao Ao Ao Ao ?_
      refine A0 Ao Ao Ao Ao Ao ?_
      refine A0 Ao Ao Ao Ao Ao ?_
      refine Ap Ao Ao (A2 Ao Ao) ?_
      refine Au Ao ?_
      exact ⟨Ao, Ao, AG, AF, ⟨Ao, Ao, Ao, Ao, Ao, trivial⟩⟩
    rintro _ rfl
    refine A4 Ao (fun c4 => ?_) (fun c4 => ?_)
    ·(try simp only [sd, se] at c4)
     refine As ?_
     refine Aq ?_
     refine Ap Ao Ao (Bi CN B0 Ao) ?_
     refine Ap Ao Ao (Bi CN B0 Ao) ?_
     refine Ap Ao Ao (Bc (i := 3) BI Ao Ao Ao Ao Ao Ao) ?_
     refine Ap Ao Ao (Bc (i := 2) BI Ao Ao Ao Ao Ao Ao) ?_
     refine Ap Ao Ao (At Ao) ?_
     refine Au Ao ?_
     refine B5 (Cw (i := 3) Ao) ?_
     refine B5 (Cw (i := 2) Ao) ?_
     refine A5 ?_
     refine ⟨Ao, _, _, ⟨_, _, Ao, (Bg (i := 3) BI Ao Ao Ao), ⟨_, _, Ao, (Bg (i := 2) BI Ao Ao Ao), ⟨_, _, Ao, Ao, Ao⟩⟩⟩, (Cf (is := [6]) Ao), ?_⟩
     all_goals exact ⟨⟨BQ, BQ, 5, rfl, .inr ⟨rfl, rfl, rfl, by have := c4; omega⟩⟩, rfl⟩
    ·(try simp only [sd, se] at c4)
     refine BD ?_
     refine As ?_
     refine CJ (fun k => false) Dq ?_
     refine BK (j := 5) rfl rfl rfl (fun H i hi => Aw (i := i) FE rfl hi rfl) (by repeat' first | exact trivial | refine And.intro ?_ ?_ | ((refine Or.inr (And.intro ?_ ?_) <;> repeat (first | exact List.Mem.head _ | apply List.Mem.tail)); done) | exact Or.inl Ai) trivial ?_
     refine Ay Ao Ao (fun _ => Ar Ao) trivial ?_
     refine Ay Ao Ao (fun _ => BT Ao) trivial ?_
     refine Ay Ao Ao (fun _ => Av Gk Ao Ao) trivial ?_
     refine BK (j := 7) rfl rfl rfl (fun H i hi => Ax (i := i) Lq rfl hi rfl) (by repeat' first | exact trivial | refine And.intro ?_ ?_ | ((refine Or.inr (And.intro ?_ ?_) <;> repeat (first | exact List.Mem.head _ | apply List.Mem.tail)); done) | exact Or.inl Ai) trivial ?_
     refine Ay Ao Ao (fun _ => Ar Ao) trivial ?_
     refine Ay Ao Ao (fun _ => BT Ao) trivial ?_
     refine Ay Ao Ao (fun _ => Av Gk Ao Ao) trivial ?_
     refine BK (j := 7) rfl rfl rfl (fun H i hi => Ax (i := i) DC rfl hi rfl) (by repeat' first | exact trivial | refine And.intro ?_ ?_ | ((refine Or.inr (And.intro ?_ ?_) <;> repeat (first | exact List.Mem.head _ | apply List.Mem.tail)); done) | exact Or.inl Ai) trivial ?_
     refine Ay Ao Ao (fun _ => Bf Ao Ao (J2 (BF.mk BA A6 A8 A9 BC BB thm) ((Cq (BF.mk BA A6 A8 A9 BC BB thm) t).coefs) ((Cq (BF.mk BA A6 A8 A9 BC BB thm) t).atoms) Ab) Ao) trivial ?_
     refine Ay Ao Ao (fun _ => Av EM Ao Ao) trivial ?_
     refine BK (j := 0) rfl rfl rfl (fun H i hi => Bp (i := i) BI rfl hi rfl rfl) (by repeat' first | exact trivial | refine And.intro ?_ ?_ | ((refine Or.inr (And.intro ?_ ?_) <;> repeat (first | exact List.Mem.head _ | apply List.Mem.tail)); done) | exact Or.inl Ai) trivial ?_
     refine Cd rfl rfl (A1 (i := 3) BI rfl rfl rfl Af AX (B3 _)) (by repeat' first | exact trivial | refine And.intro ?_ ?_ | ((refine Or.inr (And.intro ?_ ?_) <;> repeat (first | exact List.Mem.head _ | apply List.Mem.tail)); done) | exact Or.inl Ai) trivial ?_
     refine Cd rfl rfl (Bc (i := 2) BI rfl rfl rfl rfl rfl rfl) (by repeat' first | exact trivial | refine And.intro ?_ ?_ | ((refine Or.inr (And.intro ?_ ?_) <;> repeat (first | exact List.Mem.head _ | apply List.Mem.tail)); done) | exact Or.inl Ai) trivial ?_
     refine Ay Ao Ao (fun _ => At Ao) trivial ?_
     refine CA Ao Ai ?_
     refine A5 ?_
     refine ⟨Ao, _, _, ⟨_, _, Ao, (Bg (i := 3) BI Ao Ao Af), ⟨_, _, Ao, (Bg (i := 2) BI Ao Ao Ao), ⟨_, _, Ao, Ao, Ao⟩⟩⟩, (Cf (is := [6]) Ao), ?_⟩
     all_goals exact ⟨⟨_, (.mk zpk zpi zpn zpl zps), 0, rfl, .inl ⟨rfl, rfl, rfl⟩⟩, rfl⟩
theorem Ts (GL : List (Nat × Obj)) (hG : Gh GL) (ds : List Jp) (th : BF) (t : Tm) (h1 : ds.length < Dp) (h2 : ∀ d ∈ ds, d.kind = 0) (h3 : th.lemmas.length = 14) (h4 : N4 ds (N8 th) = false) (h5 : Fb t) (h6 : size t ≤ 16) (h8 : GU th) :
  Bl Tryz.prog 16 [.p (.lst (List.map DL ds)), .agg ((Ef th).map .p), TV t] [.glob GL] (DG (.tup [TV (Gd th (Cq th t).coefs (Cq th t).atoms), TV (Bk th (Cq th t).atoms (size t) t).1.proof, .p (I 0)]) [.glob GL]) :=
 (Uc GL ds th t hG h1 h2 h3 h4 h5 Am (by have := Vk (th := th) h5; omega) h8).mono (by
  rintro x H' ⟨⟨s, p, e, rfl, h⟩, rfl⟩
  rcases h with ⟨rfl, rfl, rfl⟩ | ⟨_, _, _, h⟩
  ·exact ⟨Ao, Ao⟩
  ·omega)
theorem Uq : ∀ (i : Int), G5 Tryz.prog 35 [.p (I i)] (.agg ((Ba (.mk 0 i ⟨#[]⟩ [] [])).map .p)) := by
 intro i
 refine A3 Tryz.func35 Ao XO (n := 5) Ao Ao ?_
 refine As ?_
 refine Aq ?_
 refine BH Ao Ao (BG B0 Ao) fun b2 => ?_
 refine Au Ao ?_
 refine As ?_
 refine Aq ?_
 refine Ap Ao Ao (Ar Ao) ?_
 refine Ap Ao Ao (Bi CN B0 Ao) ?_
 refine Ap Ao Ao (Bc (i := 0) BI Ao Ao Ao Ao Ao Ao) ?_
 refine Au Ao ?_
 refine B5 (Cw (i := 0) Ao) ?_
 refine A5 ?_
 refine ⟨Ao, _, _, ⟨_, _, Ao, (Bg (i := 0) BI Ao Ao Ao), Ao⟩, (List.nil_sublist _), ?_⟩
 all_goals exact ⟨by show (.agg [.p (I 0), .p (I i), .p (.str ⟨#[]⟩), .p (.lst []), .p (.lst [])] : AV) = _; rfl, rfl⟩
theorem Jx : ∀ (n : ByteArray) (l : List Tm), (l.length < Dp) → G5 Tryz.prog 36 [.p (.str n), .p (.lst (BO l))] (.agg ((Ba (BP n l)).map .p)) := by
 intro n l h1
 refine A3 Tryz.func36 Ao Zu (n := 9) Ao Ao ?_
 refine As ?_
 refine Aq ?_
 refine BH Ao Ao (BG B0 Ao) fun b4 => ?_
 refine Au Ao ?_
 refine As ?_
 refine Aq ?_
 refine Ap Ao Ao (Ar Ao) ?_
 refine Ap Ao Ao (Bi CN B0 Ao) ?_
 refine Ap Ao Ao (Ar Ao) ?_
 refine Ap Ao Ao (C0 Ao Ao (Kf (.mk 3 0 n [] [] : Tm) l h1) (aw (Cc Ao) (aw (we Ao) (Ci)))) ?_
 refine Ap Ao Ao (A1 (i := 0) BI Ao Ao Ao Af AX (B3 _)) ?_
 refine Au Ao ?_
 refine A5 ?_
 refine ⟨Ao, _, _, ⟨_, _, Ao, (Bg (i := 0) BI Ao Ao Af), Ao⟩, (List.nil_sublist _), ?_⟩
 all_goals exact ⟨rfl, rfl⟩
theorem _root_.Go.AJ {α : Prop} (h : α := by simp only [Dp, List.length_cons, List.length_nil]; omega) : α := h
theorem IT : ∀ (a b : Tm), G5 Tryz.prog 23 [.agg ((Ba a).map .p), .agg ((Ba b).map .p)] (.agg ((Ba (BP ⟨#[97, 100, 100]⟩ [a, b])).map .p)) := by
 intro a b
 refine A3 Tryz.func23 Ao W9 (n := 9) Ao Ao ?_
 refine As ?_
 refine Aq ?_
 refine BH Ao Ao (Bb Ao) fun b2 => ?_
 refine BH Ao Ao (Bb Ao) fun b3 => ?_
 refine BH Ao Ao (BG B0 Ao) fun b4 => ?_
 refine Au Ao ?_
 refine As ?_
 refine Aq ?_
 refine Ap Ao Ao (Aw (i := 2) BI Ao Ao Af) ?_
 refine Ap Ao Ao (Aw (i := 1) BI Ao Ao Af) ?_
 refine Ap Ao Ao (BN (rows := BO [a, b]) B4 B0 Ao Ao Ao Ao (Bv (B6 _)) (Cv _)) ?_
 refine Ap Ao Ao (Bf Ao Ao (Jx ⟨#[97, 100, 100]⟩ [a, b] AJ) Ao) ?_
 refine Ap Ao Ao (A1 (i := 0) BI Ao Ao Ao Af AX (B3 _)) ?_
 refine Au Ao ?_
 refine A5 ?_
 refine ⟨Ao, _, _, ⟨_, _, Ao, (Bg (i := 0) BI Ao Ao Af), Ao⟩, (List.nil_sublist _), ?_⟩
 all_goals exact ⟨rfl, rfl⟩
theorem L6 : ∀ (a : Tm), G5 Tryz.prog 24 [.agg ((Ba a).map .p)] (.agg ((Ba (BP ⟨#[110, 101, 103]⟩ [a])).map .p)) := by
 intro a
 refine A3 Tryz.func24 Ao Yg (n := 6) Ao Ao ?_
 refine As ?_
 refine Aq ?_
 refine BH Ao Ao (Bb Ao) fun b1 => ?_
 refine BH Ao Ao (BG B0 Ao) fun b2 => ?_
 refine Au Ao ?_
 refine As ?_
 refine Aq ?_
 refine Ap Ao Ao (Aw (i := 1) BI Ao Ao Af) ?_
 refine Ap Ao Ao (BN (rows := BO [a]) B4 B0 Ao Ao Ao Ao (Bv (B6 _)) (Cv _)) ?_
 refine Ap Ao Ao (Bf Ao Ao (Jx ⟨#[110, 101, 103]⟩ [a] AJ) Ao) ?_
 refine Ap Ao Ao (A1 (i := 0) BI Ao Ao Ao Af AX (B3 _)) ?_
 refine Au Ao ?_
 refine A5 ?_
 refine ⟨Ao, _, _, ⟨_, _, Ao, (Bg (i := 0) BI Ao Ao Af), Ao⟩, (List.nil_sublist _), ?_⟩
 all_goals exact ⟨rfl, rfl⟩
theorem V2 : G5 Tryz.prog 21 [] (.agg ((Ef (BF.mk ⟨#[90]⟩ ⟨#[97, 100, 100]⟩ ⟨#[122, 101, 114, 111]⟩ ⟨#[110, 101, 103]⟩ ⟨#[111, 110, 101]⟩ ⟨#[108, 101, 113]⟩ [⟨#[108, 48]⟩, ⟨#[108, 49]⟩, ⟨#[108, 50]⟩, ⟨#[108, 51]⟩, ⟨#[108, 52]⟩, ⟨#[108, 53]⟩, ⟨#[108, 54]⟩, ⟨#[108, 55]⟩, ⟨#[108, 56]⟩, ⟨#[108, 57]⟩, ⟨#[108, 49, 48]⟩, ⟨#[108, 49, 49]⟩, ⟨#[108, 49, 50]⟩, ⟨#[108, 49, 51]⟩])).map .p)) := by
 refine A3 Tryz.func21 Ao aQ (n := 3) Ao Ao ?_
 refine As ?_
 refine Aq ?_
 refine BH Ao Ao (BG Vu Ao) fun b0 => ?_
 refine Au Ao ?_
 refine As ?_
 refine Aq ?_
 refine Ap Ao Ao (CE Jg YH Ao Ao Ao Ao Ao) ?_
 refine Ap Ao Ao (Bi Du Vu Ao) ?_
 refine Ap Ao Ao (Bc (i := 0) FE Ao Ao Ao Ao Ao Ao) ?_
 refine Au Ao ?_
 refine A5 ?_
 refine ⟨Ao, _, _, ⟨_, _, Ao, (Bg (i := 0) FE Ao Ao Ao), Ao⟩, (List.nil_sublist _), ?_⟩
 all_goals exact ⟨by show (.agg [.p (.str ⟨#[90]⟩), .p (.str ⟨#[97, 100, 100]⟩), .p (.str ⟨#[122, 101, 114, 111]⟩), .p (.str ⟨#[110, 101, 103]⟩), .p (.str ⟨#[111, 110, 101]⟩), .p (.str ⟨#[108, 101, 113]⟩), .p (.lst (List.map CV ([⟨#[108, 48]⟩, ⟨#[108, 49]⟩, ⟨#[108, 50]⟩, ⟨#[108, 51]⟩, ⟨#[108, 52]⟩, ⟨#[108, 53]⟩, ⟨#[108, 54]⟩, ⟨#[108, 55]⟩, ⟨#[108, 56]⟩, ⟨#[108, 57]⟩, ⟨#[108, 49, 48]⟩, ⟨#[108, 49, 49]⟩, ⟨#[108, 49, 50]⟩, ⟨#[108, 49, 51]⟩])))] : AV) = _; rfl, rfl⟩
theorem Yi : ∀ (l : Eg) (a x y : Tm), G5 Tryz.prog 65 [.agg ((Db l).map .p), .agg ((Ba a).map .p), .agg ((Ba x).map .p), .agg ((Ba y).map .p)] (.agg ((Ba (apply (.mk 3 0 ⟨#[69, 113]⟩ [l] []) [a, x, y])).map .p)) := by
 intro l a x y
 refine A3 Tryz.func65 Ao YI (n := 17) Ao Ao ?_
 refine As ?_
 refine Aq ?_
 refine BH Ao Ao (Bb Ao) fun b4 => ?_
 refine BH Ao Ao (Bb Ao) fun b5 => ?_
 refine BH Ao Ao (Bb Ao) fun b6 => ?_
 refine BH Ao Ao (Bb Ao) fun b7 => ?_
 refine BH Ao Ao (BG B0 Ao) fun b8 => ?_
 refine Au Ao ?_
 refine As ?_
 refine Aq ?_
 refine Ap Ao Ao (Aw (i := 4) D1 Ao Ao Ao) ?_
 refine Ap Ao Ao (BN (rows := List.map Db [l]) G8 GQ Ao Ao Ao Ao (Bv (Kr _)) (QI _)) ?_
 refine Ap Ao Ao (Bi CN B0 Ao) ?_
 refine Ap Ao Ao (Aw (i := 3) BI Ao Ao Af) ?_
 refine Ap Ao Ao (Aw (i := 2) BI Ao Ao Af) ?_
 refine Ap Ao Ao (Aw (i := 1) BI Ao Ao Af) ?_
 refine Ap Ao Ao (BN (rows := BO [a, x, y]) B4 B0 Ao Ao Ao Ao (Bv (B6 _)) (Cv _)) ?_
 refine Ap Ao Ao (C0 Ao Ao (Kf (.mk 3 0 ⟨#[69, 113]⟩ [l] [] : Tm) [a, x, y] AJ) (aw (Cc Ao) (aw (we Ao) (Ci)))) ?_
 refine Ap Ao Ao (A1 (i := 0) BI Ao Ao Ao Af AX (B3 _)) ?_
 refine Au Ao ?_
 refine A5 ?_
 refine ⟨Ao, _, _, ⟨_, _, Ao, (Bg (i := 0) BI Ao Ao Af), Ao⟩, (List.nil_sublist _), ?_⟩
 all_goals exact ⟨rfl, rfl⟩
theorem TE : ∀ (t : Tm) (by' fr : Int), (Nd t) → (size t < 1000000) → (-65536 ≤ by' ∧ by' ≤ 65536) → (0 ≤ fr) → GX Tryz.prog 104 [.agg ((Ba t).map .p), .p (I by'), .p (I fr)] (fun v => ∃ (q : Tm) (e : Int), v = .tup [TV q, .p (I e)]) := by
 intro t by' fr h1 h2 h3 h4
 refine A3 Tryz.func104 Ao Wz (n := 40) Ao Ao ?_
 refine As ?_
 refine Aq ?_
 refine BH Ao Ao (Bb Ao) fun b3 => ?_
 refine BH Ao Ao (BG B0 Ao) fun b6 => ?_
 refine Ap Ao Ao (At Ao) ?_
 refine Au Ao ?_
 refine As ?_
 refine As ?_
 refine CB [1, 2, 3, 6] 19 (fun y => y = .p (.bool (((decide ((fr : Int) < (0 : Int))) || (decide ((by' : Int) < (-65536 : Int)))) || (decide ((by' : Int) > (65536 : Int)))))) ?_ ?_
 ·refine Aq ?_
  refine Ap Ao Ao (Ar Ao) ?_
  refine Ap Ao Ao (A7 Ao Ao Ao) ?_
  refine Ap Ao Ao (Ar Ao) ?_
  refine Bm 12 Ao (fun g => ?_) (fun g => ?_)
  ·(try simp only [sd, se] at g)
   refine A0 Ao Ao Ao Ao Ao ?_
   refine A0 Ao Ao Ao Ao Ao ?_
   refine Ap Ao Ao (A2 Ao Ao) ?_
   refine Ap Ao Ao (Ar Ao) ?_
   refine A0 Ao Ao Ao Ao Ao ?_
   refine A0 Ao Ao Ao Ao Ao ?_
   refine Ap Ao Ao (A2 Ao Ao) ?_
   refine Au Ao ?_
   exact ⟨Ao, Ao, AG, AF, ⟨Ao, Ao, Ao, Ao, trivial⟩⟩
  ·(try simp only [sd, se] at g)
   refine Az Ao Ao Ao Ao (Ar Ao) ?_
   refine Az Ao Ao Ao Ao (A7 Ao Ao Ao) ?_
   refine Ap Ao Ao (A2 Ao Ao) ?_
   refine Ap Ao Ao (Ar Ao) ?_
   refine Bm 16 Ao (fun g1 => ?_) (fun g1 => ?_)
   ·(try simp only [sd, se] at g1)
    refine A0 Ao Ao Ao Ao Ao ?_
    refine A0 Ao Ao Ao Ao Ao ?_
    refine Ap Ao Ao (A2 Ao Ao) ?_
    refine Au Ao ?_
    exact ⟨Ao, Ao, AG, AF, ⟨Ao, Ao, Ao, Ao, trivial⟩⟩
   ·(try simp only [sd, se] at g1)
    refine Az Ao Ao Ao Ao (Ar Ao) ?_
    refine Az Ao Ao Ao Ao (A7 Ao Ao Ao) ?_
    refine Ap Ao Ao (A2 Ao Ao) ?_
    refine Au Ao ?_
    exact ⟨Ao, Ao, AG, AF, ⟨Ao, Ao, Ao, Ao, trivial⟩⟩
 rintro _ rfl
 refine A4 Ao (fun c => ?_) (fun c => ?_)
 ·(try simp only [sd, se] at c)
  refine As ?_
  refine Aq ?_
  refine Ap Ao Ao (Bi CN B0 Ao) ?_
  refine Ap Ao Ao (Bc (i := 0) BI Ao Ao Ao Ao Ao Ao) ?_
  refine Ap Ao Ao (At Ao) ?_
  refine Au Ao ?_
  refine B5 (Cw (i := 0) Ao) ?_
  refine A5 ?_
  refine ⟨Ao, _, _, ⟨_, _, Ao, (Bg (i := 0) BI Ao Ao Ao), ⟨_, _, Ao, Ao, Ao⟩⟩, (List.nil_sublist _), ?_⟩
  all_goals exact ⟨⟨BQ, _, rfl⟩, rfl⟩
 ·(try simp only [sd, se] at c)
  refine BD ?_
  refine As ?_
  refine Aq ?_
  refine Ap Ao Ao (Bi O8 YZ Ao) ?_
  refine BH Ao Ao (Bb Ao) fun b22 => ?_
  refine Ap Ao Ao (At Ao) ?_
  refine Au Ao ?_
  refine As ?_
  refine Aq ?_
  refine Ap Ao Ao (Ar Ao) ?_
  refine Ap Ao Ao (Aw (i := 2) BI Ao Ao Af) ?_
  refine Ap Ao Ao (Ar Ao) ?_
  refine Ap Ao Ao (Ar Ao) ?_
  refine Ap Ao Ao (Ut Ao Ao) ?_
  refine Ap Ao Ao (CH [0] Ao (.inl ⟨Ao, Ao, Ao⟩) (UD _ t b22 by' (min (fr : Int) (65536 : Int)) 0 0 0 (Nat.le_refl _) h1 Am Am) ⟨_, _, rfl, rfl, rfl⟩ Al rfl (.inl rfl)) ?_
  refine BH Ao Ao (BG B0 Ao) fun b9 => ?_
  refine Ap Ao Ao (A1 (i := 0) BI Ao Ao Ao Af AX (B3 _)) ?_
  refine Au Ao ?_
  refine As ?_
  refine As ?_
  refine Aq ?_
  refine Ap Ao Ao (Ar Ao) ?_
  refine Ap Ao Ao (BT Ao) ?_
  refine Ap Ao Ao (Av O8 Ao Ao) ?_
  refine Ap Ao Ao (Ax (i := 1) DQ Ao Ao Ao) ?_
  refine Ap Ao Ao (A7 Ao Ao Ao) ?_
  refine Au Ao ?_
  refine A4 Ao (fun c1 => ?_) (fun c1 => ?_)
  ·(try simp only [sd, se] at c1)
   refine As ?_
   refine CJ (fun k => false) Dq ?_
   refine Ay Ao Ao (fun _ => Bi CN B0 Ao) trivial ?_
   refine Ay Ao Ao (fun _ => Ar Ao) trivial ?_
   refine Ay Ao Ao (fun _ => BT Ao) trivial ?_
   refine Ay Ao Ao (fun _ => Av O8 Ao Ao) trivial ?_
   refine BK (j := 1) rfl rfl rfl (fun H i hi => Ax (i := i) DQ rfl hi rfl) (by repeat' first | exact trivial | refine And.intro ?_ ?_ | ((refine Or.inr (And.intro ?_ ?_) <;> repeat (first | exact List.Mem.head _ | apply List.Mem.tail)); done) | exact Or.inl Ai) trivial ?_
   refine Cd rfl rfl (Bc (i := 2) BI rfl rfl rfl rfl rfl rfl) (by repeat' first | exact trivial | refine And.intro ?_ ?_ | ((refine Or.inr (And.intro ?_ ?_) <;> repeat (first | exact List.Mem.head _ | apply List.Mem.tail)); done) | exact Or.inl Ai) trivial ?_
   refine Ay Ao Ao (fun _ => At Ao) trivial ?_
   refine CA Ao Ai ?_
   refine B5 (Cw (i := 2) Ao) ?_
   refine A5 ?_
   refine ⟨Ao, _, _, ⟨_, _, Ao, (Bg (i := 2) BI Ao Ao Ao), ⟨_, _, Ao, Ao, Ao⟩⟩, (List.nil_sublist _), ?_⟩
   all_goals exact ⟨⟨BQ, _, rfl⟩, rfl⟩
  ·(try simp only [sd, se] at c1)
   refine BD ?_
   refine As ?_
   refine Aq ?_
   refine Ap Ao Ao (Aw (i := 0) BI Ao Ao Af) ?_
   refine Ap Ao Ao (A1 (i := 2) BI Ao Ao Ao Af AX (B3 _)) ?_
   refine Ap Ao Ao (At Ao) ?_
   refine Au Ao ?_
   refine A5 ?_
   refine ⟨Ao, _, _, ⟨_, _, Ao, (Bg (i := 2) BI Ao Ao Af), ⟨_, _, Ao, Ao, Ao⟩⟩, (List.nil_sublist _), ?_⟩
   all_goals exact ⟨⟨_, _, rfl⟩, rfl⟩
theorem WW : ∀ (a b : Tm), (Nd b) → (size b < 1000000) → GX Tryz.prog 68 [.agg ((Ba a).map .p), .agg ((Ba b).map .p)] (fun v => ∃ q : Tm, v = TV q) := by
 intro a b h1 h2
 refine A3 Tryz.func68 Ao Z9 (n := 16) Ao Ao ?_
 refine As ?_
 refine Aq ?_
 refine BH Ao Ao (Bb Ao) fun b2 => ?_
 refine BH Ao Ao (Bb Ao) fun b3 => ?_
 refine BH Ao Ao (BG B0 Ao) fun b4 => ?_
 refine Au Ao ?_
 refine As ?_
 refine Aq ?_
 refine Ap Ao Ao (Aw (i := 1) BI Ao Ao Af) ?_
 refine GY Ao Ao (BR Ao Ao (TE b 1 0 h1 h2 Am Am) (.inl Ao)) ?_
 rintro _ ⟨q, e, rfl⟩
 refine Ap Ao Ao (Ar Ao) ?_
 refine Ap Ao Ao (BY Ao Ao) ?_
 refine Ap Ao Ao (BY Ao Ao) ?_
 refine BH Ao Ao (BG B0 Ao) fun b5 => ?_
 refine Ap Ao Ao (A1 (i := 0) BI Ao Ao Ao Af AX (B3 _)) ?_
 refine Ap Ao Ao (At Ao) ?_
 refine Au Ao ?_
 refine As ?_
 refine Aq ?_
 refine Ap Ao Ao (Aw (i := 3) BI Ao Ao Af) ?_
 refine Ap Ao Ao (Aw (i := 0) BI Ao Ao Af) ?_
 refine Ap Ao Ao (BN (rows := BO [a, q]) B4 B0 Ao Ao Ao Ao (Bv (B6 _)) (Cv _)) ?_
 refine Ap Ao Ao (Bi CN B0 Ao) ?_
 refine Ap Ao Ao (Bc (i := 1) BI Ao Ao Ao Ao Ao Ao) ?_
 refine Au Ao ?_
 refine B5 (Cw (i := 1) Ao) ?_
 refine A5 ?_
 refine ⟨Ao, _, _, ⟨_, _, Ao, (Bg (i := 1) BI Ao Ao Ao), Ao⟩, (List.nil_sublist _), ?_⟩
 all_goals exact ⟨⟨(.mk 6 0 ⟨#[]⟩ [] [a, q]), rfl⟩, rfl⟩
theorem Mt : ∀ (l : Eg), GX Tryz.prog 61 [.agg ((Db l).map .p)] (fun v => ∃ q : Tm, v = TV q) := by
 intro l
 refine A3 Tryz.func61 Ao ZG (n := 6) Ao Ao ?_
 refine As ?_
 refine Aq ?_
 refine BH Ao Ao (Bb Ao) fun b1 => ?_
 refine BH Ao Ao (BG B0 Ao) fun b2 => ?_
 refine Au Ao ?_
 refine As ?_
 refine Aq ?_
 refine Ap Ao Ao (Aw (i := 1) D1 Ao Ao Ao) ?_
 refine Ap Ao Ao (BN (rows := List.map Db [l]) G8 GQ Ao Ao Ao Ao (Bv (Kr _)) (QI _)) ?_
 refine Ap Ao Ao (Bi CN B0 Ao) ?_
 refine Ap Ao Ao (Bc (i := 0) BI Ao Ao Ao Ao Ao Ao) ?_
 refine Au Ao ?_
 refine B5 (Cw (i := 0) Ao) ?_
 refine A5 ?_
 refine ⟨Ao, _, _, ⟨_, _, Ao, (Bg (i := 0) BI Ao Ao Ao), Ao⟩, (List.nil_sublist _), ?_⟩
 all_goals exact ⟨⟨(.mk 2 0 ⟨#[]⟩ [l] []), rfl⟩, rfl⟩
theorem HQ : ∀ (l : List Tm), (0 < l.length) → (l.length < 100) → GX Tryz.prog 62 [.p (.lst (BO l))] (fun v => ∃ q : Tm, v = TV q) := by
 intro l h1 h2
 refine A3 Tryz.func62 Ao ZV (n := 15) Ao Ao ?_
 refine As ?_
 refine Aq ?_
 refine BH Ao Ao (BG B0 Ao) fun b2 => ?_
 refine Au Ao ?_
 refine As ?_
 refine CJ (fun k => false) Dq ?_
 refine Ay Ao Ao (fun _ => Ar Ao) trivial ?_
 refine Ay Ao Ao (fun _ => Ar Ao) trivial ?_
 refine Ay Ao Ao (fun _ => Bx B4 Ao (Bt _)) trivial ?_
 refine Ay Ao Ao (fun _ => Ed Ao Ao Am Am) trivial ?_
 refine Ay Ao Ao (fun _ => D0 (lo := 0) (hi := (((l.length : Nat) : Int) - (1 : Int) : Int).toNat) B4 Ao (Bv (B6 _)) Ao ⟨_, pI Am⟩ (Nat.zero_le _) AP (Xr l ((((l.length : Nat) : Int) - (1 : Int) : Int).toNat))) trivial ?_
 refine Ay Ao Ao (fun _ => Ar Ao) trivial ?_
 refine Ay Ao Ao (fun _ => Ar Ao) trivial ?_
 refine Ay Ao Ao (fun _ => Bx B4 Ao (Bt _)) trivial ?_
 refine Ay Ao Ao (fun _ => Ed Ao Ao Am Am) trivial ?_
 obtain ⟨x, hx⟩ := BM (l := l) (i := (((l.length : Nat) : Int) - (1 : Int) : Int).toNat) Am
 refine Ay Ao Ao (fun _ => BJ B4 Ao Ao Am (B9 hx) (Bh _)) trivial ?_
 refine Ay Ao Ao (fun _ => Be BI Ao (Bh _)) trivial ?_
 refine Ay Ao Ao (fun _ => Bf Ao Ao (Wh (l.take ((((l.length : Nat) : Int) - (1 : Int) : Int).toNat)) x (by simp only [Dp, List.length_take]; omega)) Ao) trivial ?_
 refine Cd rfl rfl (A1 (i := 0) BI rfl rfl rfl Af AX (B3 _)) (by repeat' first | exact trivial | refine And.intro ?_ ?_ | ((refine Or.inr (And.intro ?_ ?_) <;> repeat (first | exact List.Mem.head _ | apply List.Mem.tail)); done) | exact Or.inl Ai) trivial ?_
 refine CA Ao Ai ?_
 refine A5 ?_
 refine ⟨Ao, _, _, ⟨_, _, Ao, (Bg (i := 0) BI Ao Ao Af), Ao⟩, (List.nil_sublist _), ?_⟩
 all_goals exact ⟨⟨_, rfl⟩, rfl⟩
theorem L3 : ∀ (b0 : Nat) (z x y : Tm), Bl Tryz.prog 64 [.agg ((Ba x).map .p), .agg ((Ba y).map .p), .ptr b0 0] [.box b0 ((Ba z).map .p)] (DG (.agg ((Ba (apply (.mk 3 0 ⟨#[69, 113]⟩ [Eg.mk 0 []] []) [z, x, y])).map .p)) [.box b0 ((Ba z).map .p)]) := by
 intro b0 z x y
 refine A3 Tryz.func64 Ao ZH (n := 11) Ao Ao ?_
 refine As ?_
 refine Aq ?_
 refine BH Ao Ao (Bb Ao) fun b3 => ?_
 refine BH Ao Ao (Bb Ao) fun b4 => ?_
 refine BH Ao Ao (BG B0 Ao) fun b5 => ?_
 refine Au Ao ?_
 refine As ?_
 refine Aq ?_
 refine Ap Ao Ao (Bi Dh GQ Ao) ?_
 refine Ap Ao Ao (Aw (i := 3) BI Ao Ao Af) ?_
 refine Ap Ao Ao (Aw (i := 2) BI Ao Ao Af) ?_
 refine Ap Ao Ao (Aw (i := 1) BI Ao Ao Af) ?_
 refine Ap Ao Ao (C0 Ao Ao (Yi (Eg.mk 0 []) z x y) (aw (Cc Ao) (aw (we Ao) (aw (we Ao) (aw (we Ao) (Ci)))))) ?_
 refine Ap Ao Ao (A1 (i := 0) BI Ao Ao Ao Af AX (B3 _)) ?_
 refine Au Ao ?_
 refine A5 ?_
 refine ⟨Ao, _, _, ⟨_, _, Ao, (Bg (i := 0) BI Ao Ao Af), Ao⟩, (Cf (is := [3]) Ao), ?_⟩
 all_goals exact ⟨rfl, rfl⟩
theorem GS : ∀ (n : ByteArray) (p : Int) (t : Tm), G5 Tryz.prog 66 [.p (.str n), .p (I p), .agg ((Ba t).map .p)] (.agg ((DL (DN n p t)).map .p)) := by
 intro n p t
 obtain ⟨tk, ti, tn, tl, ts⟩ := t
 refine A3 Tryz.func66 Ao Yw (n := 11) Ao Ao ?_
 refine As ?_
 refine Aq ?_
 refine BH Ao Ao (Bb Ao) fun b5 => ?_
 refine BH Ao Ao (BG Qn Ao) fun b6 => ?_
 refine Au Ao ?_
 refine As ?_
 refine Aq ?_
 refine Ap Ao Ao (Ar Ao) ?_
 refine Ap Ao Ao (Ar Ao) ?_
 refine Ap Ao Ao (Aw (i := 1) BI Ao Ao Ao) ?_
 refine Ap Ao Ao (Bi (cs := [.p (I 0), .p (.str n), .p (I p), .p (I tk), .p (I ti), .p (.str tn), .p (.lst (List.map Db tl)), .p (.lst (BO ts)), .p (I 0), .p (I 0), .p (.str ⟨#[]⟩), .p (.nils), .p (.nils), .p (I 0), .p (.nils), .p (I 0), .p (I 0), .p (I 0), .p (.str ⟨#[]⟩), .p (.nils), .p (.nils), .p (.nils), .p (.nils)]) Nw Qn Ai) ?_
 refine Ap Ao Ao (A1 (i := 0) (us := [.p (I 0), .p (.str n), .p (I p), .p (I tk), .p (I ti), .p (.str tn), .p (.lst (List.map Db tl)), .p (.lst (BO ts)), .p (I 0), .p (I 0), .p (.str ⟨#[]⟩), .p (.nils), .p (.nils), .p (I 0), .p (.nils), .p (I 0), .p (I 0), .p (I 0), .p (.str ⟨#[]⟩), .p (.nils), .p (.nils), .p (.nils), .p (.nils)]) Oy Ao Ao Ao Ao Ao Ao) ?_
 refine Au Ao ?_
 refine B5 (Cw (i := 0) Ao) ?_
 refine A5 ?_
 refine ⟨Ao, _, _, ⟨_, _, Ao, (Bg (i := 0) Oy Ao Ao Ao), Ao⟩, (List.nil_sublist _), ?_⟩
 all_goals exact ⟨rfl, rfl⟩
theorem R5 : ∀ (a b : Int), (0 ≤ a ∧ a < 100) → (0 ≤ b ∧ b < 100) → GX Tryz.prog 67 [.p (I a), .p (I b)] (fun v => ∃ q : Tm, v = TV q) := by
 intro a b h1 h2
 refine A3 Tryz.func67 Ao ZB (n := 10) Ao Ao ?_
 refine As ?_
 refine Aq ?_
 refine BH Ao Ao (BG B0 Ao) fun b4 => ?_
 refine Au Ao ?_
 refine As ?_
 refine Aq ?_
 refine Ap Ao Ao (Ar Ao) ?_
 refine Ap Ao Ao (Bf Ao Ao (Uq a) Ao) ?_
 refine Ap Ao Ao (Ar Ao) ?_
 refine Ap Ao Ao (Bf Ao Ao (Uq b) Ao) ?_
 refine GY Ao Ao (BR Ao Ao (WW (.mk 0 a ⟨#[]⟩ [] []) (.mk 0 b ⟨#[]⟩ [] []) (V8 h2) (by simp [size, By])) (.inl Ao)) ?_
 rintro _ ⟨q, rfl⟩
 refine Ap Ao Ao (A1 (i := 0) BI Ao Ao Ao Af AX (B3 _)) ?_
 refine Au Ao ?_
 refine A5 ?_
 refine ⟨Ao, _, _, ⟨_, _, Ao, (Bg (i := 0) BI Ao Ao Af), Ao⟩, (List.nil_sublist _), ?_⟩
 all_goals exact ⟨⟨_, rfl⟩, rfl⟩
theorem DH : ∀ (i : Int), GX Tryz.prog 35 [.p (I i)] (fun v => ∃ q : Tm, v = TV q) := by
 intro i
 refine A3 Tryz.func35 Ao XO (n := 5) Ao Ao ?_
 refine As ?_
 refine Aq ?_
 refine BH Ao Ao (BG B0 Ao) fun b2 => ?_
 refine Au Ao ?_
 refine As ?_
 refine Aq ?_
 refine Ap Ao Ao (Ar Ao) ?_
 refine Ap Ao Ao (Bi CN B0 Ao) ?_
 refine Ap Ao Ao (Bc (i := 0) BI Ao Ao Ao Ao Ao Ao) ?_
 refine Au Ao ?_
 refine B5 (Cw (i := 0) Ao) ?_
 refine A5 ?_
 refine ⟨Ao, _, _, ⟨_, _, Ao, (Bg (i := 0) BI Ao Ao Ao), Ao⟩, (List.nil_sublist _), ?_⟩
 all_goals exact ⟨⟨(.mk 0 i ⟨#[]⟩ [] []), rfl⟩, rfl⟩
theorem HL : ∀ (a b : Tm), GX Tryz.prog 23 [.agg ((Ba a).map .p), .agg ((Ba b).map .p)] (fun v => ∃ q : Tm, v = TV q) := by
 intro a b
 refine A3 Tryz.func23 Ao W9 (n := 9) Ao Ao ?_
 refine As ?_
 refine Aq ?_
 refine BH Ao Ao (Bb Ao) fun b2 => ?_
 refine BH Ao Ao (Bb Ao) fun b3 => ?_
 refine BH Ao Ao (BG B0 Ao) fun b4 => ?_
 refine Au Ao ?_
 refine As ?_
 refine Aq ?_
 refine Ap Ao Ao (Aw (i := 2) BI Ao Ao Af) ?_
 refine Ap Ao Ao (Aw (i := 1) BI Ao Ao Af) ?_
 refine Ap Ao Ao (BN (rows := BO [a, b]) B4 B0 Ao Ao Ao Ao (Bv (B6 _)) (Cv _)) ?_
 refine Ap Ao Ao (Bf Ao Ao (Jx ⟨#[97, 100, 100]⟩ [a, b] AJ) Ao) ?_
 refine Ap Ao Ao (A1 (i := 0) BI Ao Ao Ao Af AX (B3 _)) ?_
 refine Au Ao ?_
 refine A5 ?_
 refine ⟨Ao, _, _, ⟨_, _, Ao, (Bg (i := 0) BI Ao Ao Af), Ao⟩, (List.nil_sublist _), ?_⟩
 all_goals exact ⟨⟨_, rfl⟩, rfl⟩
theorem Jq : ∀ (a : Tm), GX Tryz.prog 24 [.agg ((Ba a).map .p)] (fun v => ∃ q : Tm, v = TV q) := by
 intro a
 refine A3 Tryz.func24 Ao Yg (n := 6) Ao Ao ?_
 refine As ?_
 refine Aq ?_
 refine BH Ao Ao (Bb Ao) fun b1 => ?_
 refine BH Ao Ao (BG B0 Ao) fun b2 => ?_
 refine Au Ao ?_
 refine As ?_
 refine Aq ?_
 refine Ap Ao Ao (Aw (i := 1) BI Ao Ao Af) ?_
 refine Ap Ao Ao (BN (rows := BO [a]) B4 B0 Ao Ao Ao Ao (Bv (B6 _)) (Cv _)) ?_
 refine Ap Ao Ao (Bf Ao Ao (Jx ⟨#[110, 101, 103]⟩ [a] AJ) Ao) ?_
 refine Ap Ao Ao (A1 (i := 0) BI Ao Ao Ao Af AX (B3 _)) ?_
 refine Au Ao ?_
 refine A5 ?_
 refine ⟨Ao, _, _, ⟨_, _, Ao, (Bg (i := 0) BI Ao Ao Af), Ao⟩, (List.nil_sublist _), ?_⟩
 all_goals exact ⟨⟨_, rfl⟩, rfl⟩
theorem Jz : ∀ (l : Eg) (a x y : Tm), GX Tryz.prog 65 [.agg ((Db l).map .p), .agg ((Ba a).map .p), .agg ((Ba x).map .p), .agg ((Ba y).map .p)] (fun v => ∃ q : Tm, v = TV q) := by
 intro l a x y
 refine A3 Tryz.func65 Ao YI (n := 17) Ao Ao ?_
 refine As ?_
 refine Aq ?_
 refine BH Ao Ao (Bb Ao) fun b4 => ?_
 refine BH Ao Ao (Bb Ao) fun b5 => ?_
 refine BH Ao Ao (Bb Ao) fun b6 => ?_
 refine BH Ao Ao (Bb Ao) fun b7 => ?_
 refine BH Ao Ao (BG B0 Ao) fun b8 => ?_
 refine Au Ao ?_
 refine As ?_
 refine Aq ?_
 refine Ap Ao Ao (Aw (i := 4) D1 Ao Ao Ao) ?_
 refine Ap Ao Ao (BN (rows := List.map Db [l]) G8 GQ Ao Ao Ao Ao (Bv (Kr _)) (QI _)) ?_
 refine Ap Ao Ao (Bi CN B0 Ao) ?_
 refine Ap Ao Ao (Aw (i := 3) BI Ao Ao Af) ?_
 refine Ap Ao Ao (Aw (i := 2) BI Ao Ao Af) ?_
 refine Ap Ao Ao (Aw (i := 1) BI Ao Ao Af) ?_
 refine Ap Ao Ao (BN (rows := BO [a, x, y]) B4 B0 Ao Ao Ao Ao (Bv (B6 _)) (Cv _)) ?_
 refine Ap Ao Ao (C0 Ao Ao (Kf (.mk 3 0 ⟨#[69, 113]⟩ [l] [] : Tm) [a, x, y] AJ) (aw (Cc Ao) (aw (we Ao) (Ci)))) ?_
 refine Ap Ao Ao (A1 (i := 0) BI Ao Ao Ao Af AX (B3 _)) ?_
 refine Au Ao ?_
 refine A5 ?_
 refine ⟨Ao, _, _, ⟨_, _, Ao, (Bg (i := 0) BI Ao Ao Af), Ao⟩, (List.nil_sublist _), ?_⟩
 all_goals exact ⟨⟨_, rfl⟩, rfl⟩
end Go.Proofs.YtapmjpihennhaaaGreatDoor
namespace Go.Abs
abbrev BV := Nat × Nat × AV
inductive Ez where
 | val (v : AV)
 | skip
 | new (cs : List AV)
 | newv (sz : Nat) (rows : List (List PV))
 | rel (R : AV → Prop)
def Ez.v (b : BV) : Ez → AV
 | .val v => v
 | .skip => .tup []
 | .new _ => .ptr b.1 0
 | .newv _ rows => .vs (some b.1) rows.length b.2.1
 | .rel _ => b.2.2
def Ez.box (b : BV) : Ez → List BL
 | .new cs => [.box b.1 cs]
 | .newv sz rows => [.vec (some b.1) sz rows b.2.1]
 | _ => []
def Ez.ok (b : BV) : Ez → Prop
 | .rel R => R b.2.2
 | _ => True
def Tl : List Ez → Prop
 | [] => True
 | .rel R :: r => (∃ v, R v) ∧ Tl r
 | _ :: r => Tl r
def SA (P : Program) (ops : Array Oper) (H₀ : List BL) (o : Oper) (τ : Nat → AV) : Ez → Prop
 | .val v => C4 ops ⟨0, τ, [], []⟩ o ∧ ∀ Bs, DS P o (ev τ) (Bs ++ H₀) v (Bs ++ H₀)
 | .skip => ∃ j want d, o.guard = some (j, want) ∧ (ops[j]?).bind (·.dst) = some d ∧ Tp (τ d) want
 | .new cs => o.guard = none ∧ ∀ Bs, C6 P o (ev τ) (Bs ++ H₀) (Hq cs (Bs ++ H₀))
 | .newv sz rows => o.guard = none ∧ ∀ Bs, C6 P o (ev τ) (Bs ++ H₀) (Ix sz rows (Bs ++ H₀))
 | .rel R => o.guard = none ∧ ∀ Bs, C6 P o (ev τ) (Bs ++ H₀) (Mc R (Bs ++ H₀))
def EV (P : Program) (ops : Array Oper) (H₀ : List BL) : Nat → (Nat → AV) → List Ez → ((Nat → AV) → List BL → Prop) → Prop
 | _, τ, [], K => K τ []
 | k, τ, e :: r, K => ∃ o, ops[k]? = some o ∧ SA P ops H₀ o τ e ∧ ∀ b, e.ok b → EV P ops H₀ (k + 1) (put τ o.dst (e.v b)) r (fun τ' Hs => K τ' (e.box b ++ Hs))
def Fl (β : Nat → BV) : Nat → List Ez → List Sp
 | _, [] => []
 | k, e :: r => .free (e.v (β k)) :: Fl β (k + 1) r
def Uw (β : Nat → BV) : Nat → List Ez → List BL
 | _, [] => []
 | k, e :: r => e.box (β k) ++ Uw β (k + 1) r
def Ol (β : Nat → BV) (l : Nat → Bool) : Nat → List Ez → List BL
 | _, [] => []
 | k, e :: r => (if l k = true then e.box (β k) else []) ++ Ol β l (k + 1) r
theorem LU (β : Nat → BV) : ∀ (r : List Ez) (k j : Nat), j < r.length → (Fl β k r).getD j .skip = .free ((r.getD j .skip).v (β (k + j)))
 | [], k, j, h => by simp at h
 | e :: r, k, 0, h => by simp [Fl]
 | e :: r, k, j + 1, h => by
  have := LU β r (k + 1) j (by simpa using h)
  simp only [Fl, List.getD_cons_succ]
  rw [this, show k + 1 + j = k + (j + 1) by omega]
theorem Q4 (β : Nat → BV) : ∀ (r : List Ez) (k : Nat), (Fl β k r).length = r.length
 | [], k => rfl
 | e :: r, k => by simp [Fl, Q4 β r (k + 1)]
theorem Lb (β : Nat → BV) {r : List Ez} {k j : Nat} (h : r.length ≤ j) : (Fl β k r).getD j .skip = .skip := by
 rw [List.getD_eq_getElem?_getD, List.getElem?_eq_none (by rw [Q4]; exact h)]; rfl
theorem Q2 (β : Nat → BV) (r : List Ez) (k j : Nat) : ((Fl β k r).getD j .skip).isEff = false := by
 rcases Nat.lt_or_ge j r.length with h | h
 ·rw [LU β r k j h]; rfl
 ·rw [Lb β h]; rfl
theorem O5 (β : Nat → BV) (r : List Ez) (k j : Nat) (ob : List BL) (v : AV) : (Fl β k r).getD j .skip ≠ .read ob v := by
 rcases Nat.lt_or_ge j r.length with h | h
 ·rw [LU β r k j h]; simp
 ·rw [Lb β h]; simp
theorem FA (β : Nat → BV) {r : List Ez} {j : Nat} (h : j < r.length) : ((Fl β 0 r).getD j .skip).val = (r.getD j .skip).v (β j) := by
 rw [LU β r 0 j h, Nat.zero_add]; rfl
theorem EV.facts {P : Program} {ops : Array Oper} {H₀ : List BL} {τ : Nat → AV} {base : List Ez} (β : Nat → BV) : ∀ (r : List Ez) (k : Nat) (τk : Nat → AV) (K : (Nat → AV) → List BL → Prop), base.drop k = r → k + r.length = base.length → τk = τS ops (Fl β 0 base) τ k → EV P ops H₀ k τk r K → (∀ j, k ≤ j → j < base.length → (base.getD j .skip).ok (β j)) →
  (∀ j, k ≤ j → j < base.length → ∃ o, ops[j]? = some o ∧ SA P ops H₀ o (τS ops (Fl β 0 base) τ j) (base.getD j .skip)) ∧ K (τS ops (Fl β 0 base) τ base.length) (Uw β k r)
 | [], k, τk, K, hd, hk, ht, h, hβ => by
  simp only [List.length_nil, Nat.add_zero] at hk
  subst hk
  exact ⟨fun j h1 h2 => by omega, by rw [← ht]; exact h⟩
 | e :: r, k, τk, K, hd, hk, ht, h, hβ => by
  obtain ⟨o, ho, hok, hn⟩ := h
  simp only [List.length_cons] at hk
  have hb : base.getD k .skip = e := by
   have : (base.drop k)[0]? = some e := by rw [hd]; rfl
   rw [List.getElem?_drop] at this
   rw [List.getD_eq_getElem?_getD, show k = k + 0 by omega, this]; rfl
  have hd2 : base.drop (k + 1) = r := by
   rw [← List.drop_drop, hd]; rfl
  obtain ⟨h1, h2⟩ := EV.facts (τ := τ) (base := base) β r (k + 1) _ _ hd2 Am (by simp only [τS, ho, Option.bind_some]; rw [FA β Am, hb, ← ht]) (hn (β k) (by have := hβ k (Nat.le_refl _) Am; rwa [hb] at this)) (fun j h1 h2 => hβ j Am h2)
  refine ⟨fun j hj hl => ?_, h2⟩
  by_cases e2 : j = k
  ·subst e2; exact ⟨o, ho, by rw [hb, ← ht]; exact hok⟩
  ·exact h1 j Am hl
theorem I7 {β β' : Nat → BV} {l l' : Nat → Bool} : ∀ (r : List Ez) (k : Nat), (∀ j, k ≤ j → l j = l' j ∧ (l j = true → β j = β' j)) → Ol β l k r = Ol β' l' k r
 | [], k, h => rfl
 | e :: r, k, h => by
  simp only [Ol]
  obtain ⟨h1, h2⟩ := h k (Nat.le_refl _)
  rw [I7 r (k + 1) fun j hj => h j Am, ← h1]
  cases hl : l k
  ·rfl
  ·rw [h2 hl]
theorem Oi {β : Nat → BV} {l : Nat → Bool} {i : Nat} {b : BV} (hi : l i = false) : ∀ (r : List Ez) (k : Nat), k ≤ i → i < k + r.length → ((r.getD (i - k) .skip).box b ++ Ol β l k r).Perm (Ol (fun j => if j = i then b else β j) (fun j => l j || j == i) k r)
 | [], k, h1, h2 => by simp at h2; omega
 | e :: r, k, h1, h2 => by
  simp only [Ol]
  by_cases hk : k = i
  ·subst hk
   simp only [hi, Bool.false_eq_true, if_false, List.nil_append, Nat.sub_self, List.getD_cons_zero, beq_self_eq_true, Bool.or_true, if_true]
   rw [I7 (β' := fun j => if j = k then b else β j) (l' := fun j => l j || j == k) r (k + 1) fun j hj => ⟨by simp [show (j == k) = false by simp; omega], fun _ => by rw [if_neg Am]⟩]
  ·have hp := Oi (β := β) hi r (k + 1) (b := b) Am (by simp only [List.length_cons] at h2; omega)
   have e1 : (e :: r).getD (i - k) .skip = r.getD (i - (k + 1)) .skip := by
    rw [show i - k = (i - (k + 1)) + 1 by omega]; rfl
   have e2 : (if (l k || k == i) = true then e.box (if k = i then b else β k) else []) = (if l k = true then e.box (β k) else []) := by
    rw [if_neg hk]
    simp [hk]
   rw [e1, e2]
   refine List.Perm.trans ?_ (hp.append_left _)
   rw [← List.append_assoc, ← List.append_assoc]
   exact List.perm_append_comm.append_right _
theorem OR {β : Nat → BV} {l : Nat → Bool} : ∀ (r : List Ez) (k : Nat), (∀ j, k ≤ j → j < k + r.length → l j = true) → Ol β l k r = Uw β k r
 | [], k, h => rfl
 | e :: r, k, h => by
  simp only [Ol, Uw]
  rw [if_pos (h k (Nat.le_refl _) An), OR r (k + 1) fun j h1 h2 => h j Am AR]
theorem Mk {β : Nat → BV} {l : Nat → Bool} : ∀ (r : List Ez) (k : Nat), (∀ j, l j = false) → Ol β l k r = []
 | [], k, h => rfl
 | e :: r, k, h => by simp only [Ol]; rw [Mk r (k + 1) h, h k]; rfl
theorem Tl.pick : ∀ (l : List Ez), Tl l → ∃ β : Nat → BV, ∀ j, j < l.length → (l.getD j .skip).ok (β j)
 | [], _ => ⟨fun _ => (0, 0, .p .any), fun j h => by simp at h⟩
 | e :: r, h => by
  have h2 : Tl r ∧ ∃ b, e.ok b := by
   cases e with
   | rel R => exact ⟨h.2, let ⟨v, hv⟩ := h.1; ⟨(0, 0, v), hv⟩⟩
   | _ => exact ⟨h, (0, 0, .p .any), trivial⟩
  obtain ⟨β, hβ⟩ := Tl.pick r h2.1
  obtain ⟨b, hb⟩ := h2.2
  refine ⟨fun j => match j with | 0 => b | j + 1 => β j, fun j hj => ?_⟩
  cases j with
  | zero => exact hb
  | succ j => exact hβ j (by simpa using hj)
theorem Ur {P : Program} {r : Option Nat} {ops : Array Oper} {id n : Nat} {τ : Nat → AV} {H : List BL} {D : List Di} {Q : Ck → Bq → Prop} (base : List Ez) (hm : P.follows .mixedOrders = true)
  (he : Nat.ble base.length ops.size = true) (chk : MC ops n [] = true) (late : R0 ops base.length = true) (hne : Tl base) (h : EV P ops H 0 τ base (fun τ' Hs => AL P r ops base.length ⟨n, τ', Hs ++ H, D⟩ Q)) : Hj P r (.region id ops true) ⟨n, τ, H, D⟩ Q := by
 intro F₀ a₀ w₀ hs₀
 rw [Nat.ble_eq] at he
 refine wpIn_region_any hm ?_
 have same : C2 F₀ w₀ F₀ { w₀ with drawn := w₀.drawn + 1 } := ⟨Nat.le_refl _, fun _ _ _ => rfl, fun _ h _ => h⟩
 have t₀ : Trans F₀ H w₀ F₀ H { w₀ with drawn := w₀.drawn + 1 } :=
  ⟨Nat.le_refl _, fun _ _ _ => rfl, fun _ h _ => h, fun _ h => .inl h, fun o ho b hb => .inl ⟨o, ho, hb⟩, rfl, rfl, rfl⟩
 have hs₁ : DB F₀ ⟨n, τ, H, D⟩ a₀ { w₀ with drawn := w₀.drawn + 1 } :=
  ⟨hs₀.size, fun t => CF.mono same _ _ (hs₀.tmp t), hs₀.heap.stable' same (fun _ h => h) (fun _ _ _ _ => rfl) hs₀.heap.bd, Eb.mono same _ _ hs₀.defs⟩
 obtain ⟨hdst, c0, c1, c2, _⟩ := I6 chk
 have hd : ∀ β, LO P ops n (fun _ => False) τ H (Fl β 0 base) := fun β =>
  ⟨hdst, fun _ _ _ h => h.elim, c0, c1, c2, fun i k _ _ h _ => (by rw [Q2] at h; cases h), fun i e ob v _ _ _ h _ _ => absurd h (O5 β base 0 i ob v)⟩
 have hE : ∀ β, (∀ j, j < base.length → (base.getD j .skip).ok (β j)) → (∀ j, j < base.length → ∃ o, ops[j]? = some o ∧ SA P ops H o (τS ops (Fl β 0 base) τ j) (base.getD j .skip)) ∧ AL P r ops base.length ⟨n, τS ops (Fl β 0 base) τ base.length, Uw β 0 base ++ H, D⟩ Q := fun β hβ => by
  obtain ⟨h1, h2⟩ := EV.facts (base := base) β base 0 τ _ An An rfl h (fun j _ h => hβ j h)
  exact ⟨fun j hj => h1 j (Nat.zero_le _) hj, h2⟩
 -- where all of the first part has been carried out, the rest goes in the order of the text
 have conv : ∀ {l : Array Bool} {a w β τ' F Hb}, (∀ j, j < base.length → (base.getD j .skip).ok (β j)) → (∀ j, j < base.length → l.getD j false = true) → (∀ k, base.length ≤ k → l.getD k false = false) → El ops (Fl β 0 base) τ (fun i => l.getD i false = true) τ' → Hb.Perm (Ol β (fun k => l.getD k false) 0 base) → DB F ⟨n, τ', Hb ++ H, D⟩ a w → Trans F₀ H w₀ F (Hb ++ H) w →
   wpOpsIn (W r) 0 P ops (post F₀ H w₀ Q) (List.range' base.length (ops.size - base.length)) a w := by
  intro l a w β τ' F Hb hβ hall hno hτ hp hs ht
  have hτe : τ' = τS ops (Fl β 0 base) τ base.length := by
   funext t
   have h2 := JD (hd β) base.length he t
   by_cases hw : ∃ (k : Nat) (o' : Oper), ops[k]? = some o' ∧ o'.dst = some t ∧ k < base.length
   ·obtain ⟨k, o', ho', hk, hlt⟩ := hw
    rw [(hτ t).1 k o' ho' hk (hall k hlt), h2.1 k o' ho' hk hlt]
   ·have hw' : ∀ (k : Nat) o', ops[k]? = some o' → o'.dst = some t → ¬ k < base.length := fun k o' h1 h2 h3 => hw ⟨k, o', h1, h2, h3⟩
    rw [(hτ t).2 fun k o' h1 h2 h3 => (by have h4 : l.getD k false = true := h3; have := hno k (by have := hw' k o' h1 h2; omega); rw [this] at h4; cases h4), h2.2 fun k o' h1 h2 h3 => hw' k o' h1 h2 h3]
  rw [OR base 0 fun j _ hj => hall j Am] at hp
  have hp2 := hp.append_right H
  have := (hE β hβ).2 F a w (by rw [← hτe]; exact ⟨hs.size, hs.tmp, hs.heap.perm hp2, hs.defs⟩)
  refine DV (fun e a' w' hq => ?_) _ _ _ this
  exact FD hs₀.heap.bd { ht with keys := fun o ho => ht.keys o (hp2.mem_iff.2 ho) } hq
 refine I9 (I := fun l a w => l.size = ops.size ∧ ((∃ β τ' F Hb, (∀ j, j < base.length → (base.getD j .skip).ok (β j)) ∧ Down ops (fun i => l.getD i false = true) ∧ (∀ k, base.length ≤ k → l.getD k false = false) ∧ El ops (Fl β 0 base) τ (fun i => l.getD i false = true) τ' ∧ Hb.Perm (Ol β (fun k => l.getD k false) 0 base) ∧ DB F ⟨n, τ', Hb ++ H, D⟩ a w ∧ Trans F₀ H w₀ F (Hb ++ H) w) ∨
  (∃ m, base.length ≤ m ∧ m ≤ ops.size ∧ (∀ k, k < ops.size → (l.getD k false = true ↔ k < m)) ∧ wpOpsIn (W r) 0 P ops (post F₀ H w₀ Q) (List.range' m (ops.size - m)) a w))) (fun l a w h => h.1) ?_ ?_ _ _ _ _ ?_ ?_
 ·rintro l a w ⟨hsz, hI⟩ i hi
  obtain ⟨hun, o, ho, hall⟩ := mem_ready.1 hi
  have hlt : i < ops.size := by
   rcases Nat.lt_or_ge i ops.size with h | h
   ·exact h
   ·simp [Array.getElem?_eq_none h] at ho
  have hil : i < l.size := by omega
  have hnot : l.getD i false = false := by
   have : l[i] = false := by simpa [hil] using hun
   simp [hil, this]
  have hr : ∀ j ∈ Dm o, l.getD j false = true := by
   intro j hj
   simp only [Dm, List.mem_map, List.mem_filter] at hj
   obtain ⟨e, ⟨he, hb⟩, rfl⟩ := hj
   exact hall e (by simpa using he) hb
  have hset : ∀ k, (l.setIfInBounds i true).getD k false = true ↔ (l.getD k false = true ∨ k = i) := by
   intro k
   by_cases hk : k = i
   ·subst hk; simp [hil]
   ·simp [Array.getElem?_setIfInBounds_ne (Ne.symm hk), hk]
  have hset2 : ∀ k, (l.setIfInBounds i true).getD k false = (l.getD k false || k == i) := by
   intro k
   by_cases hk : k = i
   ·subst hk; simp [hil]
   ·simp [Array.getElem?_setIfInBounds_ne (Ne.symm hk), hk]
  have hsz' : (l.setIfInBounds i true).size = ops.size := by simp [hsz]
  have goLate : ∀ m, i = m → base.length ≤ m → m ≤ ops.size → (∀ k, k < ops.size → (l.getD k false = true ↔ k < m)) → wpOpsIn (W r) 0 P ops (post F₀ H w₀ Q) (List.range' m (ops.size - m)) a w →
    wpOpIn (W r) 0 P ops (post F₀ H w₀ Q) i (fun a w => (l.setIfInBounds i true).size = ops.size ∧ ((∃ β τ' F Hb, (∀ j, j < base.length → (base.getD j .skip).ok (β j)) ∧ Down ops (fun k => (l.setIfInBounds i true).getD k false = true) ∧ (∀ k, base.length ≤ k → (l.setIfInBounds i true).getD k false = false) ∧ El ops (Fl β 0 base) τ (fun k => (l.setIfInBounds i true).getD k false = true) τ' ∧ Hb.Perm (Ol β (fun k => (l.setIfInBounds i true).getD k false) 0 base) ∧ DB F ⟨n, τ', Hb ++ H, D⟩ a w ∧ Trans F₀ H w₀ F (Hb ++ H) w) ∨
     (∃ m, base.length ≤ m ∧ m ≤ ops.size ∧ (∀ k, k < ops.size → ((l.setIfInBounds i true).getD k false = true ↔ k < m)) ∧ wpOpsIn (W r) 0 P ops (post F₀ H w₀ Q) (List.range' m (ops.size - m)) a w))) a w := by
   intro m him h1 h2 h3 hw
   subst him
   rw [Ht hlt, wpOpsIn_cons] at hw
   refine wpOpIn_mono (fun a' w' h' => ⟨hsz', .inr ⟨i + 1, by omega, by omega, fun k hk => ?_, h'⟩⟩) hw
   rw [hset k, h3 k hk]
   omega
  rcases hI with ⟨β, τ', F, Hb, hβ, hdown, hno, hτ, hp, hs, ht⟩ | ⟨m, hm1, hm2, hm3, hw⟩
  ·rcases Nat.lt_or_ge i base.length with hib | hib
   ·-- of the first part
    obtain ⟨o', ho', hok⟩ := (hE β hβ).1 i hib
    rw [ho] at ho'; injection ho' with ho'; subst ho'
    have hlook : ∀ t ∈ looks ops o, τ' t = τS ops (Fl β 0 base) τ i t := fun t ht => JK (hd β) hdown hτ ho (by rw [hnot]; decide) hr ht
    have hops : ∀ x ∈ o.op.operands.toList, ev τ' x = ev (τS ops (Fl β 0 base) τ i) x := by
     intro x hx
     cases x with
     | tmp t => exact hlook t (List.mem_append_left _ (List.mem_filterMap.2 ⟨.tmp t, hx, rfl⟩))
     | _ => rfl
    have hguard : ∀ j want d, o.guard = some (j, want) → (ops[j]?).bind (·.dst) = some d → τ' d = τS ops (Fl β 0 base) τ i d := by
     intro j want d hg hj
     refine hlook d (List.mem_append_right _ ?_)
     simp [hg, hj]
    have hdown' : Down ops (fun k => (l.setIfInBounds i true).getD k false = true) := by
     intro k o' j ho' hk hj
     rcases (hset k).1 hk with h | h
     ·exact (hset j).2 (.inl (hdown k o' j ho' h hj))
     ·subst h; rw [ho] at ho'; injection ho' with ho'; subst ho'; exact (hset j).2 (.inl (hr j hj))
    have hno' : ∀ k, base.length ≤ k → (l.setIfInBounds i true).getD k false = false := by
     intro k hk
     rw [hset2 k, hno k hk]
     simp; omega
    generalize hbe : base.getD i .skip = e at hok
    have close : ∀ {a' w' F' b H'}, e.ok b → H' = e.box b ++ (Hb ++ H) → DB F' ⟨n, put τ' o.dst (e.v b), H', D⟩ a' w' → Trans F (Hb ++ H) w F' H' w' →
      (l.setIfInBounds i true).size = ops.size ∧ ((∃ β τ' F Hb, (∀ j, j < base.length → (base.getD j .skip).ok (β j)) ∧ Down ops (fun k => (l.setIfInBounds i true).getD k false = true) ∧ (∀ k, base.length ≤ k → (l.setIfInBounds i true).getD k false = false) ∧ El ops (Fl β 0 base) τ (fun k => (l.setIfInBounds i true).getD k false = true) τ' ∧ Hb.Perm (Ol β (fun k => (l.setIfInBounds i true).getD k false) 0 base) ∧ DB F ⟨n, τ', Hb ++ H, D⟩ a' w' ∧ Trans F₀ H w₀ F (Hb ++ H) w') ∨
       (∃ m, base.length ≤ m ∧ m ≤ ops.size ∧ (∀ k, k < ops.size → ((l.setIfInBounds i true).getD k false = true ↔ k < m)) ∧ wpOpsIn (W r) 0 P ops (post F₀ H w₀ Q) (List.range' m (ops.size - m)) a' w')) := by
     intro a' w' F' b H' hb0 hH h3 h4
     subst hH
     refine ⟨hsz', .inl ⟨fun j => if j = i then b else β j, put τ' o.dst (e.v b), F', e.box b ++ Hb, (fun j hj => by
      by_cases e3 : j = i
      ·subst e3; simp only [if_true]; rw [hbe]; exact hb0
      ·simp only [if_neg e3]; exact hβ j hj), hdown', hno', ?_, ?_, by rw [List.append_assoc]; exact h3, by rw [List.append_assoc]; exact ht.trans hs₀.heap.bd h4⟩⟩
     ·have hτ2 : El ops (Fl (fun j => if j = i then b else β j) 0 base) τ (fun k => l.getD k false = true) τ' := by
       intro t
       refine ⟨fun k o' a1 a2 a3 => ?_, (hτ t).2⟩
       have a4 : l.getD k false = true := a3
       have hki : k ≠ i := fun e => by subst e; rw [hnot] at a4; cases a4
       rw [(hτ t).1 k o' a1 a2 a3]
       rcases Nat.lt_or_ge k base.length with hk | hk
       ·rw [FA _ hk, FA _ hk, if_neg hki]
       ·have := hno k hk; rw [this] at a4; cases a4
      have hτ3 := hτ2.put (hd _) ho
      rw [FA _ hib, if_pos rfl, hbe] at hτ3
      intro t
      exact ⟨fun k o' a1 a2 a3 => (hτ3 t).1 k o' a1 a2 ((hset k).1 a3), fun hn => (hτ3 t).2 fun k o' a1 a2 a3 => hn k o' a1 a2 ((hset k).2 a3)⟩
     ·have h1 := Oi (β := β) (l := fun k => l.getD k false) (i := i) (b := b) hnot base 0 (Nat.zero_le _) Am
      rw [Nat.sub_zero, hbe] at h1
      refine (hp.append_left _).trans (h1.trans (List.Perm.of_eq ?_))
      exact I7 base 0 fun j _ => ⟨(hset2 j).symm, fun _ => Ao⟩
    have wants : C4 ops ⟨0, τS ops (Fl β 0 base) τ i, [], []⟩ o → C4 ops ⟨n, τ', Hb ++ H, D⟩ o := by
     intro h
     unfold C4 at *
     cases hg : o.guard with
     | none => simp [hg]
     | some jw =>
      obtain ⟨j, want⟩ := jw
      simp only [hg] at h ⊢
      obtain ⟨d, h1, h2⟩ := h
      exact ⟨d, h1, by rw [← h2]; exact hguard j want d hg h1⟩
    have yields : C4 ops ⟨n, τ', Hb ++ H, D⟩ o → C6 P o (ev (τS ops (Fl β 0 base) τ i)) (Hb ++ H) (fun r H' => match r with | .val v => ∃ b, e.ok b ∧ v = e.v b ∧ H' = e.box b ++ (Hb ++ H) | .panic _ => False) → wpOpIn (W r) 0 P ops (post F₀ H w₀ Q) i (fun a' w' => (l.setIfInBounds i true).size = ops.size ∧ ((∃ β τ' F Hb, (∀ j, j < base.length → (base.getD j .skip).ok (β j)) ∧ Down ops (fun k => (l.setIfInBounds i true).getD k false = true) ∧ (∀ k, base.length ≤ k → (l.setIfInBounds i true).getD k false = false) ∧ El ops (Fl β 0 base) τ (fun k => (l.setIfInBounds i true).getD k false = true) τ' ∧ Hb.Perm (Ol β (fun k => (l.setIfInBounds i true).getD k false) 0 base) ∧ DB F ⟨n, τ', Hb ++ H, D⟩ a' w' ∧ Trans F₀ H w₀ F (Hb ++ H) w') ∨
       (∃ m, base.length ≤ m ∧ m ≤ ops.size ∧ (∀ k, k < ops.size → ((l.setIfInBounds i true).getD k false = true ↔ k < m)) ∧ wpOpsIn (W r) 0 P ops (post F₀ H w₀ Q) (List.range' m (ops.size - m)) a' w'))) a w := by
     intro hwant hop
     unfold wpOpIn
     simp only [ho, Gp hs hwant, if_true]
     have hw := hop r F _ a w hs rfl (fun x hx => hops x hx) (fun t ht => hdst i o t ho ht)
     unfold Oper.wpIn at *
     refine ⟨hw.1, ?_⟩
     replace hw := hw.2
     generalize (o.semAt (W r).round a.eval).run P w = rr at *
     cases rr with
     | ok nx w' =>
      cases nx <;> simp only [Oper.uponIn] at hw ⊢
      case value u => obtain ⟨v', H'', F', ⟨b, h0, h1, h2⟩, h3, h4⟩ := hw; subst h1; exact close h0 h2 h3 h4
      case skip => obtain ⟨v', H'', F', ⟨b, h0, h1, h2⟩, h3, h4⟩ := hw; subst h1; exact close h0 h2 h3 h4
      case defer d => obtain ⟨v', H'', F', ⟨b, h0, h1, h2⟩, h3, h4⟩ := hw; subst h1; exact close h0 h2 h3 h4
      case enter f args =>
       refine ⟨hw.1, hw.2.mono fun e w'' he => ?_⟩
       cases e with
       | returned u => obtain ⟨v', H'', F', ⟨b, h0, h1, h2⟩, h3, h4⟩ := he; subst h1; exact close h0 h2 h3 h4
       | panicked c => obtain ⟨_, _, _, _, h, _⟩ := he; exact h.elim
       | outgrown => obtain ⟨_, _, _, _, _, _, h, _⟩ := he; exact h.elim
      case row row args => exact ⟨hw.1, hw.2.mono fun u w'' h => by obtain ⟨v', H'', F', ⟨b, h0, h1, h2⟩, h3, h4⟩ := h; subst h1; exact close h0 h2 h3 h4⟩
      case round l' f tmps assign body =>
       refine ⟨hw.1, hw.2.mono fun e w'' he => ?_⟩
       cases e with
       | returned u => obtain ⟨v', H'', F', ⟨b, h0, h1, h2⟩, h3, h4⟩ := he; subst h1; exact close h0 h2 h3 h4
       | panicked c => obtain ⟨_, _, _, _, h, _⟩ := he; exact h.elim
       | outgrown => obtain ⟨_, _, _, _, _, _, h, _⟩ := he; exact h.elim
     | halt x w' =>
      cases x <;> simp only [Oper.uponIn] at hw ⊢
      case panic u => obtain ⟨_, _, _, _, h, _⟩ := hw; exact h.elim
    cases e with
    | val v => exact yields (wants hok.1) ((hok.2 Hb).mono (by
      intro r H' hR
      cases r with
      | val v' => obtain ⟨rfl, rfl⟩ := hR; exact ⟨(0, 0, .p .any), trivial, rfl, rfl⟩
      | panic v' => exact hR.elim))
    | new cs =>
     refine yields (by unfold C4; rw [hok.1]; trivial) ((hok.2 _).mono ?_)
     intro r H' hR
     cases r with
     | val v' => obtain ⟨b, rfl, rfl⟩ := hR; exact ⟨(b, 0, .p .any), trivial, rfl, rfl⟩
     | panic v' => exact hR.elim
    | newv sz rows =>
     refine yields (by unfold C4; rw [hok.1]; trivial) ((hok.2 _).mono ?_)
     intro r H' hR
     cases r with
     | val v' => obtain ⟨b, c, rfl, rfl⟩ := hR; exact ⟨(b, c, .p .any), trivial, rfl, rfl⟩
     | panic v' => exact hR.elim
    | rel R =>
     refine yields (by unfold C4; rw [hok.1]; trivial) ((hok.2 _).mono ?_)
     intro r H' hR
     cases r with
     | val v' => obtain ⟨h1, rfl⟩ := hR; exact ⟨(0, 0, v'), h1, rfl, rfl⟩
     | panic v' => exact hR.elim
    | skip =>
     obtain ⟨j, want, d, hg, hj, hb⟩ := hok
     have hw : Region.wanted o (yielded ops a.tmps) = false := Ib (S := ⟨n, τ', Hb ++ H, D⟩) hs hg hj (by show Tp (τ' d) want; rw [hguard j want d hg hj]; exact hb)
     unfold wpOpIn
     simp only [ho, hw, Bool.false_eq_true, if_false]
     refine ⟨fun _ _ => trivial, close (b := (0, 0, .p .any)) trivial Ao ?_ .refl⟩
     exact hs.put (fun t ht => hdst i o t ho ht) ⟨Nat.le_refl _, fun _ _ _ => Ao, fun _ h _ => h⟩ hs.heap (by simp only [Ez.v, CF, Bu, undef]; exact ⟨[], rfl, rfl⟩)
   ·-- the first of the rest
    have hpre : ∀ j, j < i → l.getD j false = true := by
     intro j hj
     have hpi := H7 late hib hlt hj
     have : ∀ {a b}, Pred ops a b → b = i → l.getD a false = true := by
      intro a b hab
      induction hab with
      | base ho' hj => intro e; subst e; rw [ho] at ho'; injection ho' with ho'; subst ho'; exact hr _ hj
      | trans p1 _ _ ih2 => intro e; exact hdown.pred p1 (ih2 e)
     exact this hpi Ao
    have hie : i = base.length := by
     rcases Nat.lt_or_ge base.length i with h | h
     ·have h1 := hpre base.length h
      rw [hno base.length (Nat.le_refl _)] at h1
      cases h1
     ·omega
    refine goLate base.length hie (Nat.le_refl _) he (fun k hk => ⟨fun h => ?_, fun h => hpre k Am⟩) (conv hβ (fun j hj => hpre j Am) hno hτ hp hs ht)
    rcases Nat.lt_or_ge k base.length with h' | h'
    ·exact h'
    ·rw [hno k h'] at h; cases h
  ·have hmi : m ≤ i := by
    rcases Nat.lt_or_ge i m with h | h
    ·have := (hm3 i hlt).2 h; rw [hnot] at this; cases this
    ·exact h
   have him : i = m := by
    rcases Nat.lt_or_ge m i with h | h
    ·have hpi := H7 late (by omega : base.length ≤ i) hlt h
     have hdown : ∀ {a b}, Pred ops a b → b = i → l.getD a false = true := by
      intro a b hab
      induction hab with
      | base ho' hj => intro e; subst e; rw [ho] at ho'; injection ho' with ho'; subst ho'; exact hr _ hj
      | @trans a k b p1 p2 _ ih2 =>
       intro e
       have hk := ih2 e
       have hks : k < ops.size := by
        rcases Nat.lt_or_ge k ops.size with h | h
        ·exact h
        ·have : l.getD k false = false := by
          have : ¬ k < l.size := by omega
          simp [this]
         rw [this] at hk; cases hk
       have hkm := (hm3 k hks).1 hk
       have hak : a < k := Pred.lt (hd fun _ => (0, 0, .p .any)) p1
       exact (hm3 a Am).2 Am
     have := (hm3 m Am).1 (hdown hpi rfl)
     omega
    ·omega
   exact goLate m him hm1 hm2 hm3 hw
 ·rintro l a w ⟨hsz, hI⟩ hr
  have hall : ∀ i, i < ops.size → l.getD i false = true := by
   intro i
   induction i using Nat.strongRecOn with
   | _ i ih =>
    intro hi
    cases hq : l.getD i false with
    | true => rfl
    | false =>
     have ho : ops[i]? = some ops[i] := Array.getElem?_eq_getElem hi
     have : i ∈ Region.ready .any ops l := by
      refine mem_ready.2 ⟨?_, ops[i], ho, ?_⟩
      ·have : i < l.size := by omega
       simp [this] at hq ⊢; exact hq
      ·intro e he hb
       have hj : e.on ∈ Dm ops[i] := by
        simp only [Dm, List.mem_map, List.mem_filter]
        exact ⟨e, ⟨by simpa using he, hb⟩, rfl⟩
       have hlt := c0 i _ _ ho hj
       exact ih e.on hlt Am
     rw [hr] at this
     cases this
  rcases hI with ⟨β, τ', F, Hb, hβ, hdown, hno, hτ, hp, hs, ht⟩ | ⟨m, hm1, hm2, hm3, hw⟩
  ·have hbs : base.length = ops.size := by
    rcases Nat.lt_or_ge base.length ops.size with h | h
    ·have := hall base.length h; rw [hno base.length (Nat.le_refl _)] at this; cases this
    ·omega
   have := conv hβ (fun j hj => hall j Am) hno hτ hp hs ht
   rw [hbs, Nat.sub_self] at this
   exact this
  ·have hms : m = ops.size := by
    rcases Nat.lt_or_ge m ops.size with h | h
    ·have := (hm3 m h).1 (hall m h); omega
    ·omega
   rw [hms, Nat.sub_self] at hw
   exact hw
 ·obtain ⟨β0, hβ0⟩ := Tl.pick base hne
  refine ⟨by simp, .inl ⟨β0, τ, F₀, [], hβ0, ?_, ?_, ?_, ?_, hs₁, t₀⟩⟩
  ·intro i o j ho hi
   by_cases h : i < ops.size <;> simp [h] at hi
  ·intro k _
   by_cases h : k < ops.size <;> simp [h]
  ·intro t
   refine ⟨fun k o ho hk hl => ?_, fun _ => Ao⟩
   by_cases h : k < ops.size <;> simp [h] at hl
  ·rw [Mk base 0 fun j => by by_cases h : j < ops.size <;> simp [h]]
 ·have := List.length_filter_le (fun b : Bool => !b) (Array.replicate ops.size false).toList
  simp at this ⊢
section
variable {P : Program} {ops : Array Oper} {H₀ : List BL} {k : Nat} {τ : Nat → AV} {r : List Ez} {K : (Nat → AV) → List BL → Prop} {dst : Option Tmp} {op : Op} {ty : TypeId} {pos : String} {aft : Array Edge} {v : AV}
theorem Br (ho : ops[k]? = some ⟨dst, op, ty, pos, aft, none⟩) (h : ∀ Bs, DS P ⟨dst, op, ty, pos, aft, none⟩ (ev τ) (Bs ++ H₀) v (Bs ++ H₀)) (next : EV P ops H₀ (k + 1) (put τ dst v) r K) : EV P ops H₀ k τ (.val v :: r) K :=
 ⟨_, ho, ⟨trivial, h⟩, fun _ _ => next⟩
theorem Te {cs : List AV} (ho : ops[k]? = some ⟨dst, op, ty, pos, aft, none⟩) (h : ∀ Bs, C6 P ⟨dst, op, ty, pos, aft, none⟩ (ev τ) (Bs ++ H₀) (Hq cs (Bs ++ H₀))) (next : ∀ b, EV P ops H₀ (k + 1) (put τ dst (.ptr b 0)) r (fun τ' Hs => K τ' (.box b cs :: Hs))) : EV P ops H₀ k τ (.new cs :: r) K :=
 ⟨_, ho, ⟨rfl, h⟩, fun b _ => next b.1⟩
theorem Bd {R : AV → Prop} (ho : ops[k]? = some ⟨dst, op, ty, pos, aft, none⟩) (h : ∀ Bs, C6 P ⟨dst, op, ty, pos, aft, none⟩ (ev τ) (Bs ++ H₀) (Mc R (Bs ++ H₀))) (next : ∀ v, R v → EV P ops H₀ (k + 1) (put τ dst v) r K) : EV P ops H₀ k τ (.rel R :: r) K :=
 ⟨_, ho, ⟨rfl, h⟩, fun b hb => next b.2.2 hb⟩
theorem SM (h : K τ []) : EV P ops H₀ k τ [] K := h
end
theorem Cp {P : Program} {o : Oper} {ρ : Operand → AV} {H : List BL} {v : AV} {R : AV → Prop} (h : DS P o ρ H v H) (hv : R v) : C6 P o ρ H (Mc R H) :=
 C6.mono h (by
  intro r H' hR
  cases r with
  | val v' => obtain ⟨rfl, rfl⟩ := hR; exact ⟨hv, rfl⟩
  | panic v' => exact hR.elim)
theorem DB.putW {F : Nat → Prop} {S : Bq} {d : Option Nat} {v v' : AV} {H : List BL} {a : Act} {w : World} (h : DB F (S.put d v H) a w) (hv : Lo v v') : DB F (S.put d v' H) a w :=
 ⟨h.size, fun t => by
  have := h.tmp t
  cases d with
  | none => exact this
  | some d =>
   have h3 : CF F w (Abs.put S.τ (some d) v t) (a.tmps.getD t undef) := this
   show CF F w (Abs.put S.τ (some d) v' t) (a.tmps.getD t undef)
   cases hb : Nat.beq t d
   ·have e (x : AV) : Abs.put S.τ (some d) x t = S.τ t := by simp only [Abs.put, hb, cond_false]
    rw [e] at h3 ⊢; exact h3
   ·have e (x : AV) : Abs.put S.τ (some d) x t = x := by simp only [Abs.put, hb, cond_true]
    rw [e] at h3 ⊢; exact hv _ _ _ h3, h.heap, h.defs⟩
theorem Lt {P : Program} {o : Oper} {ρ : Operand → AV} {H H' : List BL} {v : AV} (h : DS P o ρ H v H') : DS P o ρ H (norm v) H' := by
 intro r F S a w hs hH hρ hd
 have := h r F S a w hs hH hρ hd
 unfold Oper.wpIn at *
 refine ⟨this.1, ?_⟩
 replace this := this.2
 generalize (o.semAt (W r).round a.eval).run P w = rr at *
 cases rr with
 | ok n w' =>
  cases n <;> simp only [Oper.uponIn] at this ⊢
  case value u => obtain ⟨v1, H1, F1, ⟨e1, e2⟩, h2, h3⟩ := this; subst e1; subst e2; exact ⟨_, _, F1, ⟨rfl, rfl⟩, h2.putW (Cc rfl), h3⟩
  case skip => obtain ⟨v1, H1, F1, ⟨e1, e2⟩, h2, h3⟩ := this; subst e1; subst e2; exact ⟨_, _, F1, ⟨rfl, rfl⟩, h2.putW (Cc rfl), h3⟩
  case defer d => obtain ⟨v1, H1, F1, ⟨e1, e2⟩, h2, h3⟩ := this; subst e1; subst e2; exact ⟨_, _, F1, ⟨rfl, rfl⟩, h2.putW (Cc rfl), h3⟩
  case enter f args =>
   refine ⟨this.1, this.2.mono fun e w'' he => ?_⟩
   cases e with
   | returned u => obtain ⟨v1, H1, F1, ⟨e1, e2⟩, h2, h3⟩ := he; subst e1; subst e2; exact ⟨_, _, F1, ⟨rfl, rfl⟩, h2.putW (Cc rfl), h3⟩
   | panicked c => obtain ⟨_, _, _, _, h, _⟩ := he; exact h.elim
   | outgrown => obtain ⟨_, _, _, _, _, _, h, _⟩ := he; exact h.elim
  case row row args => exact ⟨this.1, this.2.mono fun u w'' he => by obtain ⟨v1, H1, F1, ⟨e1, e2⟩, h2, h3⟩ := he; subst e1; subst e2; exact ⟨_, _, F1, ⟨rfl, rfl⟩, h2.putW (Cc rfl), h3⟩⟩
  case round l f tmps assign body =>
   refine ⟨this.1, this.2.mono fun e w'' he => ?_⟩
   cases e with
   | returned u => obtain ⟨v1, H1, F1, ⟨e1, e2⟩, h2, h3⟩ := he; subst e1; subst e2; exact ⟨_, _, F1, ⟨rfl, rfl⟩, h2.putW (Cc rfl), h3⟩
   | panicked c => obtain ⟨_, _, _, _, h, _⟩ := he; exact h.elim
   | outgrown => obtain ⟨_, _, _, _, _, _, h, _⟩ := he; exact h.elim
 | halt x w' =>
  cases x <;> simp only [Oper.uponIn] at this ⊢
  case panic u => obtain ⟨_, _, _, _, h, _⟩ := this; exact h.elim
end Go.Abs
namespace Go.Proofs.YtapmjpihennhaaaGreatDoor
open Go.Abs Go.Eu
theorem _root_.Go.AZ {α : Prop} (h : α := by first | omega | (simp; done)) : α := h
theorem WQ : GX Tryz.prog 37 [] (fun v => ∃ ds : List Jp, v = .p (.lst (List.map DL ds)) ∧ ds.map Jp.name = [⟨#[69, 113]⟩, ⟨#[69, 113, 46, 114, 101, 102, 108]⟩, ⟨#[69, 113, 46, 115, 121, 109, 109]⟩, ⟨#[69, 113, 46, 116, 114, 97, 110, 115]⟩, ⟨#[69, 113, 46, 99, 111, 110, 103, 114]⟩, ⟨#[90]⟩, ⟨#[97, 100, 100]⟩, ⟨#[122, 101, 114, 111]⟩, ⟨#[110, 101, 103]⟩, ⟨#[111, 110, 101]⟩, ⟨#[108, 48]⟩, ⟨#[108, 49]⟩, ⟨#[108, 50]⟩, ⟨#[108, 51]⟩, ⟨#[108, 52]⟩, ⟨#[108, 53]⟩, ⟨#[108, 54]⟩] ∧ ∀ d ∈ ds, d.kind = 0) := by
 refine A3 Tryz.func37 Ao Z3 (n := 260) Ao Ao ?_
 refine As ?_
 refine Aq ?_
 refine Ap Ao Ao (At Ao) ?_
 refine Au Ao ?_
 refine As ?_
 refine Aq ?_
 refine Ap Ao Ao (Bi (cs := [.p (I 0), .p (I 0)]) E4 KT Ai) ?_
 refine Ap Ao Ao (BN (rows := List.map D5 [(C7.mk 0 0)]) FJ KT Ao Ao Ao Ao (Bv (Ju _)) (Om _)) ?_
 refine Ap Ao Ao (Bi (cs := [.p (I 0), .p (.lst (List.map D5 [(C7.mk 0 0)]))]) Dh GQ Ai) ?_
 refine Ap Ao Ao (Bi (cs := [.p (I 1), .p (I 0)]) E4 KT Ai) ?_
 refine Ap Ao Ao (BN (rows := List.map D5 [(C7.mk 1 0)]) FJ KT Ao Ao Ao Ao (Bv (Ju _)) (Om _)) ?_
 refine Ap Ao Ao (Bi (cs := [.p (I 0), .p (.lst (List.map D5 [(C7.mk 1 0)]))]) Dh GQ Ai) ?_
 refine BH Ao Ao (BG GQ Ao) fun b1 => ?_
 refine BH Ao Ao (BG GQ Ao) fun b2 => ?_
 refine Ap Ao Ao (A1 (i := 1) (us := [.p (I 0), .p (.lst (List.map D5 [(C7.mk 0 0)]))]) D1 Ao Ao Ao Ao Ao Ao) ?_
 refine Ap Ao Ao (A1 (i := 0) (us := [.p (I 0), .p (.lst (List.map D5 [(C7.mk 1 0)]))]) D1 Ao Ao Ao Ao Ao Ao) ?_
 refine Au Ao ?_
 refine As ?_
 refine Aq ?_
 refine Ap Ao Ao (Bi (cs := [.p (I 0), .p (I 0)]) E4 KT Ai) ?_
 refine Ap Ao Ao (Bi (cs := [.p (I 1), .p (I 0)]) E4 KT Ai) ?_
 refine Ap Ao Ao (BN (rows := List.map D5 [(C7.mk 0 0), (C7.mk 1 0)]) FJ KT Ao Ao Ao Ao (Bv (Ju _)) (Om _)) ?_
 refine Ap Ao Ao (Bi (cs := [.p (I 0), .p (.lst (List.map D5 [(C7.mk 0 0), (C7.mk 1 0)]))]) Dh GQ Ai) ?_
 refine BH Ao Ao (BG GQ Ao) fun b3 => ?_
 refine Ap Ao Ao (A1 (i := 0) (us := [.p (I 0), .p (.lst (List.map D5 [(C7.mk 0 0), (C7.mk 1 0)]))]) D1 Ao Ao Ao Ao Ao Ao) ?_
 refine Au Ao ?_
 refine As ?_
 refine Aq ?_
 refine Ap Ao Ao (At Ao) ?_
 refine Au Ao ?_
 refine As ?_
 refine Aq ?_
 refine Ap Ao Ao (At Ao) ?_
 refine Au Ao ?_
 refine As ?_
 refine Aq ?_
 refine Ap Ao Ao (C0 Ao Ao (Jx ⟨#[90]⟩ [] AJ) (aw (we Ao) (aw (Cc Ao) (Ci)))) ?_
 refine Ap Ao Ao (C0 Ao Ao (Jx ⟨#[122, 101, 114, 111]⟩ [] AJ) (aw (we Ao) (aw (Cc Ao) (Ci)))) ?_
 refine BH Ao Ao (BG B0 Ao) fun b6 => ?_
 refine BH Ao Ao (BG B0 Ao) fun b7 => ?_
 refine Ap Ao Ao (A1 (i := 1) BI Ao Ao Ao Af AX (B3 _)) ?_
 refine Ap Ao Ao (A1 (i := 0) BI Ao Ao Ao Af AX (B3 _)) ?_
 refine Au Ao ?_
 refine As ?_
 refine Aq ?_
 refine Ap Ao Ao (Cy Ao Ao) ?_
 refine Ap Ao Ao (At Ao) ?_
 refine Au Ao ?_
 refine As ?_
 refine Aq ?_
 refine Ap Ao Ao (At Ao) ?_
 refine Au Ao ?_
 refine As ?_
 refine Aq ?_
 refine Ap Ao Ao (At Ao) ?_
 refine Au Ao ?_
 refine As ?_
 refine Ur [.val (.p (.fn 66)), .val (.p (.fn 62)), .val (.p (.fn 61)), .val (.agg [.p (I 0), .p (.lst (List.map D5 [(C7.mk 0 0)]))]), .rel (fun v => ∃ q : Tm, v = TV q), .rel (fun v => ∃ q : Tm, v = TV q), .rel (fun v => ∃ q : Tm, v = TV q), .rel (fun v => ∃ q : Tm, v = TV q), .rel (fun v => ∃ l : List Tm, v = .p (.lst (BO l)) ∧ l.length = 4), .rel (fun v => ∃ q : Tm, v = TV q), .rel (fun v => ∃ q : Tm, v = .agg ((DL (DN ⟨#[69, 113]⟩ 1 q)).map .p)), .val (.p (.fn 66)), .val (.p (.fn 62)), .val (.p (.fn 61)), .val (.agg [.p (I 0), .p (.lst (List.map D5 [(C7.mk 0 0)]))]), .rel (fun v => ∃ q : Tm, v = TV q), .rel (fun v => ∃ q : Tm, v = TV q), .val (.agg [.p (I 0), .p (.lst (List.map D5 [(C7.mk 0 0)]))]), .rel (fun v => ∃ q : Tm, v = TV q), .rel (fun v => ∃ q : Tm, v = TV q), .rel (fun v => ∃ q : Tm, v = TV q), .rel (fun v => ∃ q : Tm, v = TV q), .rel (fun v => ∃ l : List Tm, v = .p (.lst (BO l)) ∧ l.length = 3), .rel (fun v => ∃ q : Tm, v = TV q), .rel (fun v => ∃ q : Tm, v = .agg ((DL (DN ⟨#[69, 113, 46, 114, 101, 102, 108]⟩ 1 q)).map .p)), .val (.p (.fn 66)), .val (.p (.fn 62)), .val (.p (.fn 61)), .val (.agg [.p (I 0), .p (.lst (List.map D5 [(C7.mk 0 0)]))]), .rel (fun v => ∃ q : Tm, v = TV q), .rel (fun v => ∃ q : Tm, v = TV q), .rel (fun v => ∃ q : Tm, v = TV q), .val (.agg [.p (I 0), .p (.lst (List.map D5 [(C7.mk 0 0)]))]), .rel (fun v => ∃ q : Tm, v = TV q), .rel (fun v => ∃ q : Tm, v = TV q), .rel (fun v => ∃ q : Tm, v = TV q), .rel (fun v => ∃ q : Tm, v = TV q), .val (.agg [.p (I 0), .p (.lst (List.map D5 [(C7.mk 0 0)]))]), .rel (fun v => ∃ q : Tm, v = TV q), .rel (fun v => ∃ q : Tm, v = TV q), .rel (fun v => ∃ q : Tm, v = TV q), .rel (fun v => ∃ q : Tm, v = TV q), .rel (fun v => ∃ l : List Tm, v = .p (.lst (BO l)) ∧ l.length = 5), .rel (fun v => ∃ q : Tm, v = TV q), .rel (fun v => ∃ q : Tm, v = .agg ((DL (DN ⟨#[69, 113, 46, 115, 121, 109, 109]⟩ 1 q)).map .p)), .val (.p (.fn 66)), .val (.p (.fn 62)), .val (.p (.fn 61)), .val (.agg [.p (I 0), .p (.lst (List.map D5 [(C7.mk 0 0)]))]), .rel (fun v => ∃ q : Tm, v = TV q), .rel (fun v => ∃ q : Tm, v = TV q), .rel (fun v => ∃ q : Tm, v = TV q), .rel (fun v => ∃ q : Tm, v = TV q), .val (.agg [.p (I 0), .p (.lst (List.map D5 [(C7.mk 0 0)]))]), .rel (fun v => ∃ q : Tm, v = TV q), .rel (fun v => ∃ q : Tm, v = TV q), .rel (fun v => ∃ q : Tm, v = TV q), .rel (fun v => ∃ q : Tm, v = TV q), .val (.agg [.p (I 0), .p (.lst (List.map D5 [(C7.mk 0 0)]))]), .rel (fun v => ∃ q : Tm, v = TV q), .rel (fun v => ∃ q : Tm, v = TV q), .rel (fun v => ∃ q : Tm, v = TV q), .rel (fun v => ∃ q : Tm, v = TV q), .val (.agg [.p (I 0), .p (.lst (List.map D5 [(C7.mk 0 0)]))]), .rel (fun v => ∃ q : Tm, v = TV q), .rel (fun v => ∃ q : Tm, v = TV q), .rel (fun v => ∃ q : Tm, v = TV q), .rel (fun v => ∃ q : Tm, v = TV q), .rel (fun v => ∃ l : List Tm, v = .p (.lst (BO l)) ∧ l.length = 7), .rel (fun v => ∃ q : Tm, v = TV q), .rel (fun v => ∃ q : Tm, v = .agg ((DL (DN ⟨#[69, 113, 46, 116, 114, 97, 110, 115]⟩ 1 q)).map .p)), .val (.p (.fn 66)), .val (.p (.fn 62)), .val (.p (.fn 61)), .val (.agg [.p (I 0), .p (.lst (List.map D5 [(C7.mk 0 0)]))]), .rel (fun v => ∃ q : Tm, v = TV q), .val (.p (.fn 61)), .val (.agg [.p (I 0), .p (.lst (List.map D5 [(C7.mk 1 0)]))]), .rel (fun v => ∃ q : Tm, v = TV q), .val (.p (.fn 67)), .rel (fun v => ∃ q : Tm, v = TV q), .val (.p (.fn 67)), .rel (fun v => ∃ q : Tm, v = TV q), .rel (fun v => ∃ q : Tm, v = TV q), .rel (fun v => ∃ q : Tm, v = TV q), .val (.agg [.p (I 0), .p (.lst (List.map D5 [(C7.mk 0 0), (C7.mk 1 0)]))]), .val (.p (.fn 67)), .rel (fun v => ∃ q : Tm, v = TV q), .rel (fun v => ∃ q : Tm, v = TV q), .rel (fun v => ∃ q : Tm, v = TV q), .rel (fun v => ∃ q : Tm, v = TV q), .val (.agg [.p (I 0), .p (.lst (List.map D5 [(C7.mk 0 0)]))]), .rel (fun v => ∃ q : Tm, v = TV q), .rel (fun v => ∃ q : Tm, v = TV q), .rel (fun v => ∃ q : Tm, v = TV q), .rel (fun v => ∃ q : Tm, v = TV q), .val (.agg [.p (I 0), .p (.lst (List.map D5 [(C7.mk 1 0)]))]), .rel (fun v => ∃ q : Tm, v = TV q), .rel (fun v => ∃ q : Tm, v = TV q), .rel (fun v => ∃ q : Tm, v = TV q), .rel (fun v => ∃ l : List Tm, v = .p (.lst (BO l)) ∧ l.length = 2), .rel (fun v => ∃ q : Tm, v = TV q), .rel (fun v => ∃ q : Tm, v = TV q), .rel (fun v => ∃ q : Tm, v = TV q), .rel (fun v => ∃ l : List Tm, v = .p (.lst (BO l)) ∧ l.length = 2), .rel (fun v => ∃ q : Tm, v = TV q), .rel (fun v => ∃ q : Tm, v = TV q), .rel (fun v => ∃ l : List Tm, v = .p (.lst (BO l)) ∧ l.length = 9), .rel (fun v => ∃ q : Tm, v = TV q), .rel (fun v => ∃ q : Tm, v = .agg ((DL (DN ⟨#[69, 113, 46, 99, 111, 110, 103, 114]⟩ 2 q)).map .p)), .val (.p (.fn 66)), .val (.p (.fn 61)), .val (.agg [.p (I 0), .p (.nils)]), .rel (fun v => ∃ q : Tm, v = TV q), .rel (fun v => ∃ q : Tm, v = .agg ((DL (DN ⟨#[90]⟩ 0 q)).map .p)), .val (.p (.fn 66)), .val (.p (.fn 62)), .val (.agg ((Ba (BP ⟨#[90]⟩ [])).map .p)), .val (.agg ((Ba (BP ⟨#[90]⟩ [])).map .p)), .val (.agg ((Ba (BP ⟨#[90]⟩ [])).map .p)), .val (.p (.lst (BO ([(BP ⟨#[90]⟩ []), (BP ⟨#[90]⟩ []), (BP ⟨#[90]⟩ [])])))), .rel (fun v => ∃ q : Tm, v = TV q), .rel (fun v => ∃ q : Tm, v = .agg ((DL (DN ⟨#[97, 100, 100]⟩ 0 q)).map .p)), .val (.p (.fn 66)), .val (.agg ((Ba (BP ⟨#[90]⟩ [])).map .p)), .val (.agg ((DL (DN ⟨#[122, 101, 114, 111]⟩ 0 (BP ⟨#[90]⟩ []))).map .p)), .val (.p (.fn 66)), .val (.p (.fn 62)), .val (.agg ((Ba (BP ⟨#[90]⟩ [])).map .p)), .val (.agg ((Ba (BP ⟨#[90]⟩ [])).map .p)), .val (.p (.lst (BO ([(BP ⟨#[90]⟩ []), (BP ⟨#[90]⟩ [])])))), .rel (fun v => ∃ q : Tm, v = TV q), .rel (fun v => ∃ q : Tm, v = .agg ((DL (DN ⟨#[110, 101, 103]⟩ 0 q)).map .p)), .val (.p (.fn 66)), .val (.agg ((Ba (BP ⟨#[90]⟩ [])).map .p)), .val (.agg ((DL (DN ⟨#[111, 110, 101]⟩ 0 (BP ⟨#[90]⟩ []))).map .p)), .val (.p (.fn 66)), .val (.p (.fn 62)), .val (.agg ((Ba (BP ⟨#[90]⟩ [])).map .p)), .val (.agg ((Ba (BP ⟨#[90]⟩ [])).map .p)), .val (.fn (.func 64) [] [.ptr b6 0]), .rel (fun v => ∃ q : Tm, v = TV q), .rel (fun v => ∃ q : Tm, v = TV q), .rel (fun v => ∃ q : Tm, v = TV q), .rel (fun v => ∃ q : Tm, v = TV q), .rel (fun v => ∃ q : Tm, v = TV q), .rel (fun v => ∃ q : Tm, v = TV q), .rel (fun v => ∃ q : Tm, v = TV q), .rel (fun v => ∃ l : List Tm, v = .p (.lst (BO l)) ∧ l.length = 3), .rel (fun v => ∃ q : Tm, v = TV q), .rel (fun v => ∃ q : Tm, v = .agg ((DL (DN ⟨#[108, 48]⟩ 0 q)).map .p)), .val (.p (.fn 66)), .val (.p (.fn 62)), .val (.agg ((Ba (BP ⟨#[90]⟩ [])).map .p)), .val (.agg ((Ba (BP ⟨#[90]⟩ [])).map .p)), .val (.agg ((Ba (BP ⟨#[90]⟩ [])).map .p)), .val (.fn (.func 64) [] [.ptr b6 0]), .rel (fun v => ∃ q : Tm, v = TV q), .rel (fun v => ∃ q : Tm, v = TV q), .rel (fun v => ∃ q : Tm, v = TV q), .rel (fun v => ∃ q : Tm, v = TV q), .rel (fun v => ∃ q : Tm, v = TV q), .rel (fun v => ∃ q : Tm, v = TV q), .rel (fun v => ∃ q : Tm, v = TV q), .rel (fun v => ∃ q : Tm, v = TV q), .rel (fun v => ∃ q : Tm, v = TV q), .rel (fun v => ∃ q : Tm, v = TV q), .rel (fun v => ∃ q : Tm, v = TV q), .rel (fun v => ∃ l : List Tm, v = .p (.lst (BO l)) ∧ l.length = 4), .rel (fun v => ∃ q : Tm, v = TV q), .rel (fun v => ∃ q : Tm, v = .agg ((DL (DN ⟨#[108, 49]⟩ 0 q)).map .p)), .val (.p (.fn 66)), .val (.p (.fn 62)), .val (.agg ((Ba (BP ⟨#[90]⟩ [])).map .p)), .val (.fn (.func 64) [] [.ptr b6 0]), .val (.agg ((Ba (BP ⟨#[122, 101, 114, 111]⟩ [])).map .p)), .rel (fun v => ∃ q : Tm, v = TV q), .rel (fun v => ∃ q : Tm, v = TV q), .rel (fun v => ∃ q : Tm, v = TV q), .rel (fun v => ∃ q : Tm, v = TV q), .rel (fun v => ∃ l : List Tm, v = .p (.lst (BO l)) ∧ l.length = 2), .rel (fun v => ∃ q : Tm, v = TV q), .rel (fun v => ∃ q : Tm, v = .agg ((DL (DN ⟨#[108, 50]⟩ 0 q)).map .p)), .val (.p (.fn 66)), .val (.p (.fn 62)), .val (.agg ((Ba (BP ⟨#[90]⟩ [])).map .p)), .val (.fn (.func 64) [] [.ptr b6 0]), .rel (fun v => ∃ q : Tm, v = TV q), .rel (fun v => ∃ q : Tm, v = TV q), .rel (fun v => ∃ q : Tm, v = TV q), .rel (fun v => ∃ q : Tm, v = TV q), .val (.agg ((Ba (BP ⟨#[122, 101, 114, 111]⟩ [])).map .p)), .rel (fun v => ∃ q : Tm, v = TV q), .rel (fun v => ∃ l : List Tm, v = .p (.lst (BO l)) ∧ l.length = 2), .rel (fun v => ∃ q : Tm, v = TV q), .rel (fun v => ∃ q : Tm, v = .agg ((DL (DN ⟨#[108, 51]⟩ 0 q)).map .p)), .val (.p (.fn 66)), .val (.p (.fn 62)), .val (.agg ((Ba (BP ⟨#[90]⟩ [])).map .p)), .val (.agg ((Ba (BP ⟨#[90]⟩ [])).map .p)), .val (.fn (.func 64) [] [.ptr b6 0]), .rel (fun v => ∃ q : Tm, v = TV q), .rel (fun v => ∃ q : Tm, v = TV q), .rel (fun v => ∃ q : Tm, v = TV q), .rel (fun v => ∃ q : Tm, v = TV q), .rel (fun v => ∃ q : Tm, v = TV q), .rel (fun v => ∃ q : Tm, v = TV q), .rel (fun v => ∃ q : Tm, v = TV q), .rel (fun v => ∃ q : Tm, v = TV q), .rel (fun v => ∃ q : Tm, v = TV q), .rel (fun v => ∃ q : Tm, v = TV q), .rel (fun v => ∃ l : List Tm, v = .p (.lst (BO l)) ∧ l.length = 3), .rel (fun v => ∃ q : Tm, v = TV q), .rel (fun v => ∃ q : Tm, v = .agg ((DL (DN ⟨#[108, 52]⟩ 0 q)).map .p)), .val (.p (.fn 66)), .val (.p (.fn 62)), .val (.agg ((Ba (BP ⟨#[90]⟩ [])).map .p)), .val (.fn (.func 64) [] [.ptr b6 0]), .rel (fun v => ∃ q : Tm, v = TV q), .rel (fun v => ∃ q : Tm, v = TV q), .rel (fun v => ∃ q : Tm, v = TV q), .rel (fun v => ∃ q : Tm, v = TV q), .rel (fun v => ∃ q : Tm, v = TV q), .rel (fun v => ∃ l : List Tm, v = .p (.lst (BO l)) ∧ l.length = 2), .rel (fun v => ∃ q : Tm, v = TV q), .rel (fun v => ∃ q : Tm, v = .agg ((DL (DN ⟨#[108, 53]⟩ 0 q)).map .p)), .val (.p (.fn 66)), .val (.fn (.func 64) [] [.ptr b6 0]), .val (.agg ((Ba (BP ⟨#[122, 101, 114, 111]⟩ [])).map .p)), .rel (fun v => ∃ q : Tm, v = TV q), .val (.agg ((Ba (BP ⟨#[122, 101, 114, 111]⟩ [])).map .p)), .rel (fun v => ∃ q : Tm, v = TV q)] Dq Ao Ai Ai ?_ ?_
 ·exact ⟨⟨_, BQ, Ao⟩, ⟨⟨_, BQ, Ao⟩, ⟨⟨_, BQ, Ao⟩, ⟨⟨_, BQ, Ao⟩, ⟨⟨_, List.replicate 4 BQ, Ao, Ao⟩, ⟨⟨_, BQ, Ao⟩, ⟨⟨_, BQ, Ao⟩, ⟨⟨_, BQ, Ao⟩, ⟨⟨_, BQ, Ao⟩, ⟨⟨_, BQ, Ao⟩, ⟨⟨_, BQ, Ao⟩, ⟨⟨_, BQ, Ao⟩, ⟨⟨_, BQ, Ao⟩, ⟨⟨_, List.replicate 3 BQ, Ao, Ao⟩, ⟨⟨_, BQ, Ao⟩, ⟨⟨_, BQ, Ao⟩, ⟨⟨_, BQ, Ao⟩, ⟨⟨_, BQ, Ao⟩, ⟨⟨_, BQ, Ao⟩, ⟨⟨_, BQ, Ao⟩, ⟨⟨_, BQ, Ao⟩, ⟨⟨_, BQ, Ao⟩, ⟨⟨_, BQ, Ao⟩, ⟨⟨_, BQ, Ao⟩, ⟨⟨_, BQ, Ao⟩, ⟨⟨_, BQ, Ao⟩, ⟨⟨_, BQ, Ao⟩, ⟨⟨_, List.replicate 5 BQ, Ao, Ao⟩, ⟨⟨_, BQ, Ao⟩, ⟨⟨_, BQ, Ao⟩, ⟨⟨_, BQ, Ao⟩, ⟨⟨_, BQ, Ao⟩, ⟨⟨_, BQ, Ao⟩, ⟨⟨_, BQ, Ao⟩, ⟨⟨_, BQ, Ao⟩, ⟨⟨_, BQ, Ao⟩, ⟨⟨_, BQ, Ao⟩, ⟨⟨_, BQ, Ao⟩, ⟨⟨_, BQ, Ao⟩, ⟨⟨_, BQ, Ao⟩, ⟨⟨_, BQ, Ao⟩, ⟨⟨_, BQ, Ao⟩, ⟨⟨_, BQ, Ao⟩, ⟨⟨_, BQ, Ao⟩, ⟨⟨_, BQ, Ao⟩, ⟨⟨_, BQ, Ao⟩, ⟨⟨_, List.replicate 7 BQ, Ao, Ao⟩, ⟨⟨_, BQ, Ao⟩, ⟨⟨_, BQ, Ao⟩, ⟨⟨_, BQ, Ao⟩, ⟨⟨_, BQ, Ao⟩, ⟨⟨_, BQ, Ao⟩, ⟨⟨_, BQ, Ao⟩, ⟨⟨_, BQ, Ao⟩, ⟨⟨_, BQ, Ao⟩, ⟨⟨_, BQ, Ao⟩, ⟨⟨_, BQ, Ao⟩, ⟨⟨_, BQ, Ao⟩, ⟨⟨_, BQ, Ao⟩, ⟨⟨_, BQ, Ao⟩, ⟨⟨_, BQ, Ao⟩, ⟨⟨_, BQ, Ao⟩, ⟨⟨_, BQ, Ao⟩, ⟨⟨_, BQ, Ao⟩, ⟨⟨_, BQ, Ao⟩, ⟨⟨_, BQ, Ao⟩, ⟨⟨_, List.replicate 2 BQ, Ao, Ao⟩, ⟨⟨_, BQ, Ao⟩, ⟨⟨_, BQ, Ao⟩, ⟨⟨_, BQ, Ao⟩, ⟨⟨_, List.replicate 2 BQ, Ao, Ao⟩, ⟨⟨_, BQ, Ao⟩, ⟨⟨_, BQ, Ao⟩, ⟨⟨_, List.replicate 9 BQ, Ao, Ao⟩, ⟨⟨_, BQ, Ao⟩, ⟨⟨_, BQ, Ao⟩, ⟨⟨_, BQ, Ao⟩, ⟨⟨_, BQ, Ao⟩, ⟨⟨_, BQ, Ao⟩, ⟨⟨_, BQ, Ao⟩, ⟨⟨_, BQ, Ao⟩, ⟨⟨_, BQ, Ao⟩, ⟨⟨_, BQ, Ao⟩, ⟨⟨_, BQ, Ao⟩, ⟨⟨_, BQ, Ao⟩, ⟨⟨_, BQ, Ao⟩, ⟨⟨_, BQ, Ao⟩, ⟨⟨_, BQ, Ao⟩, ⟨⟨_, BQ, Ao⟩, ⟨⟨_, List.replicate 3 BQ, Ao, Ao⟩, ⟨⟨_, BQ, Ao⟩, ⟨⟨_, BQ, Ao⟩, ⟨⟨_, BQ, Ao⟩, ⟨⟨_, BQ, Ao⟩, ⟨⟨_, BQ, Ao⟩, ⟨⟨_, BQ, Ao⟩, ⟨⟨_, BQ, Ao⟩, ⟨⟨_, BQ, Ao⟩, ⟨⟨_, BQ, Ao⟩, ⟨⟨_, BQ, Ao⟩, ⟨⟨_, BQ, Ao⟩, ⟨⟨_, BQ, Ao⟩, ⟨⟨_, BQ, Ao⟩, ⟨⟨_, List.replicate 4 BQ, Ao, Ao⟩, ⟨⟨_, BQ, Ao⟩, ⟨⟨_, BQ, Ao⟩, ⟨⟨_, BQ, Ao⟩, ⟨⟨_, BQ, Ao⟩, ⟨⟨_, BQ, Ao⟩, ⟨⟨_, BQ, Ao⟩, ⟨⟨_, List.replicate 2 BQ, Ao, Ao⟩, ⟨⟨_, BQ, Ao⟩, ⟨⟨_, BQ, Ao⟩, ⟨⟨_, BQ, Ao⟩, ⟨⟨_, BQ, Ao⟩, ⟨⟨_, BQ, Ao⟩, ⟨⟨_, BQ, Ao⟩, ⟨⟨_, BQ, Ao⟩, ⟨⟨_, List.replicate 2 BQ, Ao, Ao⟩, ⟨⟨_, BQ, Ao⟩, ⟨⟨_, BQ, Ao⟩, ⟨⟨_, BQ, Ao⟩, ⟨⟨_, BQ, Ao⟩, ⟨⟨_, BQ, Ao⟩, ⟨⟨_, BQ, Ao⟩, ⟨⟨_, BQ, Ao⟩, ⟨⟨_, BQ, Ao⟩, ⟨⟨_, BQ, Ao⟩, ⟨⟨_, BQ, Ao⟩, ⟨⟨_, BQ, Ao⟩, ⟨⟨_, BQ, Ao⟩, ⟨⟨_, List.replicate 3 BQ, Ao, Ao⟩, ⟨⟨_, BQ, Ao⟩, ⟨⟨_, BQ, Ao⟩, ⟨⟨_, BQ, Ao⟩, ⟨⟨_, BQ, Ao⟩, ⟨⟨_, BQ, Ao⟩, ⟨⟨_, BQ, Ao⟩, ⟨⟨_, BQ, Ao⟩, ⟨⟨_, List.replicate 2 BQ, Ao, Ao⟩, ⟨⟨_, BQ, Ao⟩, ⟨⟨_, BQ, Ao⟩, ⟨⟨_, BQ, Ao⟩, ⟨⟨_, BQ, Ao⟩, trivial⟩⟩⟩⟩⟩⟩⟩⟩⟩⟩⟩⟩⟩⟩⟩⟩⟩⟩⟩⟩⟩⟩⟩⟩⟩⟩⟩⟩⟩⟩⟩⟩⟩⟩⟩⟩⟩⟩⟩⟩⟩⟩⟩⟩⟩⟩⟩⟩⟩⟩⟩⟩⟩⟩⟩⟩⟩⟩⟩⟩⟩⟩⟩⟩⟩⟩⟩⟩⟩⟩⟩⟩⟩⟩⟩⟩⟩⟩⟩⟩⟩⟩⟩⟩⟩⟩⟩⟩⟩⟩⟩⟩⟩⟩⟩⟩⟩⟩⟩⟩⟩⟩⟩⟩⟩⟩⟩⟩⟩⟩⟩⟩⟩⟩⟩⟩⟩⟩⟩⟩⟩⟩⟩⟩⟩⟩⟩⟩⟩⟩⟩⟩⟩⟩⟩⟩⟩⟩⟩⟩⟩⟩⟩⟩
 refine Br Ao (fun Bs => Ar Ao) ?_
 refine Br Ao (fun Bs => Ar Ao) ?_
 refine Br Ao (fun Bs => Ar Ao) ?_
 refine Br Ao (fun Bs => Aw (i := Bs.length + 4) D1 Ao (Bn Ao) Ao) ?_
 refine Bd Ao (fun Bs => BR Ao Ao (Mt (Eg.mk 0 [(C7.mk 0 0)])) (.inl Ao)) ?_
 rintro _ ⟨q, rfl⟩
 refine Bd Ao (fun Bs => BR Ao Ao (DH 0) (.inl Ao)) ?_
 rintro _ ⟨q1, rfl⟩
 refine Bd Ao (fun Bs => BR Ao Ao (DH 1) (.inl Ao)) ?_
 rintro _ ⟨q2, rfl⟩
 refine Bd Ao (fun Bs => Cp (Lt (Bi (cs := [.p (I 1), .p (I 0), .p (.str ⟨#[]⟩), .p (.nils), .p (.nils)]) CN B0 Ai)) ⟨(.mk 1 0 ⟨#[]⟩ [] [] : Tm), Ao⟩) ?_
 rintro _ ⟨q3, rfl⟩
 refine Bd Ao (fun Bs => Cp (BN (rows := BO [q, q1, q2, q3]) B4 B0 Ao Ao Ao Ao (Bv (B6 _)) (Cv _)) ⟨[q, q1, q2, q3], Ao, Ao⟩) ?_
 rintro _ ⟨l, rfl, hl⟩
 refine Bd Ao (fun Bs => BR Ao Ao (HQ l AZ AZ) (.inl Ao)) ?_
 rintro _ ⟨q4, rfl⟩
 refine Bd Ao (fun Bs => Cp (Bf Ao Ao (GS ⟨#[69, 113]⟩ 1 q4) Ao) ⟨_, Ao⟩) ?_
 rintro _ ⟨q5, rfl⟩
 refine Br Ao (fun Bs => Ar Ao) ?_
 refine Br Ao (fun Bs => Ar Ao) ?_
 refine Br Ao (fun Bs => Ar Ao) ?_
 refine Br Ao (fun Bs => Aw (i := Bs.length + 4) D1 Ao (Bn Ao) Ao) ?_
 refine Bd Ao (fun Bs => BR Ao Ao (Mt (Eg.mk 0 [(C7.mk 0 0)])) (.inl Ao)) ?_
 rintro _ ⟨q6, rfl⟩
 refine Bd Ao (fun Bs => BR Ao Ao (DH 0) (.inl Ao)) ?_
 rintro _ ⟨q7, rfl⟩
 refine Br Ao (fun Bs => Aw (i := Bs.length + 4) D1 Ao (Bn Ao) Ao) ?_
 refine Bd Ao (fun Bs => BR Ao Ao (DH 1) (.inl Ao)) ?_
 rintro _ ⟨q8, rfl⟩
 refine Bd Ao (fun Bs => BR Ao Ao (DH 0) (.inl Ao)) ?_
 rintro _ ⟨q9, rfl⟩
 refine Bd Ao (fun Bs => BR Ao Ao (DH 0) (.inl Ao)) ?_
 rintro _ ⟨q10, rfl⟩
 refine Bd Ao (fun Bs => BR Ao Ao (Jz (Eg.mk 0 [(C7.mk 0 0)]) q8 q9 q10) (.inl Ao)) ?_
 rintro _ ⟨q11, rfl⟩
 refine Bd Ao (fun Bs => Cp (BN (rows := BO [q6, q7, q11]) B4 B0 Ao Ao Ao Ao (Bv (B6 _)) (Cv _)) ⟨[q6, q7, q11], Ao, Ao⟩) ?_
 rintro _ ⟨l1, rfl, hl1⟩
 refine Bd Ao (fun Bs => BR Ao Ao (HQ l1 AZ AZ) (.inl Ao)) ?_
 rintro _ ⟨q12, rfl⟩
 refine Bd Ao (fun Bs => Cp (Bf Ao Ao (GS ⟨#[69, 113, 46, 114, 101, 102, 108]⟩ 1 q12) Ao) ⟨_, Ao⟩) ?_
 rintro _ ⟨q13, rfl⟩
 refine Br Ao (fun Bs => Ar Ao) ?_
 refine Br Ao (fun Bs => Ar Ao) ?_
 refine Br Ao (fun Bs => Ar Ao) ?_
 refine Br Ao (fun Bs => Aw (i := Bs.length + 4) D1 Ao (Bn Ao) Ao) ?_
 refine Bd Ao (fun Bs => BR Ao Ao (Mt (Eg.mk 0 [(C7.mk 0 0)])) (.inl Ao)) ?_
 rintro _ ⟨q14, rfl⟩
 refine Bd Ao (fun Bs => BR Ao Ao (DH 0) (.inl Ao)) ?_
 rintro _ ⟨q15, rfl⟩
 refine Bd Ao (fun Bs => BR Ao Ao (DH 1) (.inl Ao)) ?_
 rintro _ ⟨q16, rfl⟩
 refine Br Ao (fun Bs => Aw (i := Bs.length + 4) D1 Ao (Bn Ao) Ao) ?_
 refine Bd Ao (fun Bs => BR Ao Ao (DH 2) (.inl Ao)) ?_
 rintro _ ⟨q17, rfl⟩
 refine Bd Ao (fun Bs => BR Ao Ao (DH 1) (.inl Ao)) ?_
 rintro _ ⟨q18, rfl⟩
 refine Bd Ao (fun Bs => BR Ao Ao (DH 0) (.inl Ao)) ?_
 rintro _ ⟨q19, rfl⟩
 refine Bd Ao (fun Bs => BR Ao Ao (Jz (Eg.mk 0 [(C7.mk 0 0)]) q17 q18 q19) (.inl Ao)) ?_
 rintro _ ⟨q20, rfl⟩
 refine Br Ao (fun Bs => Aw (i := Bs.length + 4) D1 Ao (Bn Ao) Ao) ?_
 refine Bd Ao (fun Bs => BR Ao Ao (DH 3) (.inl Ao)) ?_
 rintro _ ⟨q21, rfl⟩
 refine Bd Ao (fun Bs => BR Ao Ao (DH 1) (.inl Ao)) ?_
 rintro _ ⟨q22, rfl⟩
 refine Bd Ao (fun Bs => BR Ao Ao (DH 2) (.inl Ao)) ?_
 rintro _ ⟨q23, rfl⟩
 refine Bd Ao (fun Bs => BR Ao Ao (Jz (Eg.mk 0 [(C7.mk 0 0)]) q21 q22 q23) (.inl Ao)) ?_
 rintro _ ⟨q24, rfl⟩
 refine Bd Ao (fun Bs => Cp (BN (rows := BO [q14, q15, q16, q20, q24]) B4 B0 Ao Ao Ao Ao (Bv (B6 _)) (Cv _)) ⟨[q14, q15, q16, q20, q24], Ao, Ao⟩) ?_
 rintro _ ⟨l2, rfl, hl2⟩
 refine Bd Ao (fun Bs => BR Ao Ao (HQ l2 AZ AZ) (.inl Ao)) ?_
 rintro _ ⟨q25, rfl⟩
 refine Bd Ao (fun Bs => Cp (Bf Ao Ao (GS ⟨#[69, 113, 46, 115, 121, 109, 109]⟩ 1 q25) Ao) ⟨_, Ao⟩) ?_
 rintro _ ⟨q26, rfl⟩
 refine Br Ao (fun Bs => Ar Ao) ?_
 refine Br Ao (fun Bs => Ar Ao) ?_
 refine Br Ao (fun Bs => Ar Ao) ?_
 refine Br Ao (fun Bs => Aw (i := Bs.length + 4) D1 Ao (Bn Ao) Ao) ?_
 refine Bd Ao (fun Bs => BR Ao Ao (Mt (Eg.mk 0 [(C7.mk 0 0)])) (.inl Ao)) ?_
 rintro _ ⟨q27, rfl⟩
 refine Bd Ao (fun Bs => BR Ao Ao (DH 0) (.inl Ao)) ?_
 rintro _ ⟨q28, rfl⟩
 refine Bd Ao (fun Bs => BR Ao Ao (DH 1) (.inl Ao)) ?_
 rintro _ ⟨q29, rfl⟩
 refine Bd Ao (fun Bs => BR Ao Ao (DH 2) (.inl Ao)) ?_
 rintro _ ⟨q30, rfl⟩
 refine Br Ao (fun Bs => Aw (i := Bs.length + 4) D1 Ao (Bn Ao) Ao) ?_
 refine Bd Ao (fun Bs => BR Ao Ao (DH 3) (.inl Ao)) ?_
 rintro _ ⟨q31, rfl⟩
 refine Bd Ao (fun Bs => BR Ao Ao (DH 2) (.inl Ao)) ?_
 rintro _ ⟨q32, rfl⟩
 refine Bd Ao (fun Bs => BR Ao Ao (DH 1) (.inl Ao)) ?_
 rintro _ ⟨q33, rfl⟩
 refine Bd Ao (fun Bs => BR Ao Ao (Jz (Eg.mk 0 [(C7.mk 0 0)]) q31 q32 q33) (.inl Ao)) ?_
 rintro _ ⟨q34, rfl⟩
 refine Br Ao (fun Bs => Aw (i := Bs.length + 4) D1 Ao (Bn Ao) Ao) ?_
 refine Bd Ao (fun Bs => BR Ao Ao (DH 4) (.inl Ao)) ?_
 rintro _ ⟨q35, rfl⟩
 refine Bd Ao (fun Bs => BR Ao Ao (DH 2) (.inl Ao)) ?_
 rintro _ ⟨q36, rfl⟩
 refine Bd Ao (fun Bs => BR Ao Ao (DH 1) (.inl Ao)) ?_
 rintro _ ⟨q37, rfl⟩
 refine Bd Ao (fun Bs => BR Ao Ao (Jz (Eg.mk 0 [(C7.mk 0 0)]) q35 q36 q37) (.inl Ao)) ?_
 rintro _ ⟨q38, rfl⟩
 refine Br Ao (fun Bs => Aw (i := Bs.length + 4) D1 Ao (Bn Ao) Ao) ?_
 refine Bd Ao (fun Bs => BR Ao Ao (DH 5) (.inl Ao)) ?_
 rintro _ ⟨q39, rfl⟩
 refine Bd Ao (fun Bs => BR Ao Ao (DH 4) (.inl Ao)) ?_
 rintro _ ⟨q40, rfl⟩
 refine Bd Ao (fun Bs => BR Ao Ao (DH 2) (.inl Ao)) ?_
 rintro _ ⟨q41, rfl⟩
 refine Bd Ao (fun Bs => BR Ao Ao (Jz (Eg.mk 0 [(C7.mk 0 0)]) q39 q40 q41) (.inl Ao)) ?_
 rintro _ ⟨q42, rfl⟩
 refine Bd Ao (fun Bs => Cp (BN (rows := BO [q27, q28, q29, q30, q34, q38, q42]) B4 B0 Ao Ao Ao Ao (Bv (B6 _)) (Cv _)) ⟨[q27, q28, q29, q30, q34, q38, q42], Ao, Ao⟩) ?_
 rintro _ ⟨l3, rfl, hl3⟩
 refine Bd Ao (fun Bs => BR Ao Ao (HQ l3 AZ AZ) (.inl Ao)) ?_
 rintro _ ⟨q43, rfl⟩
 refine Bd Ao (fun Bs => Cp (Bf Ao Ao (GS ⟨#[69, 113, 46, 116, 114, 97, 110, 115]⟩ 1 q43) Ao) ⟨_, Ao⟩) ?_
 rintro _ ⟨q44, rfl⟩
 refine Br Ao (fun Bs => Ar Ao) ?_
 refine Br Ao (fun Bs => Ar Ao) ?_
 refine Br Ao (fun Bs => Ar Ao) ?_
 refine Br Ao (fun Bs => Aw (i := Bs.length + 4) D1 Ao (Bn Ao) Ao) ?_
 refine Bd Ao (fun Bs => BR Ao Ao (Mt (Eg.mk 0 [(C7.mk 0 0)])) (.inl Ao)) ?_
 rintro _ ⟨q45, rfl⟩
 refine Br Ao (fun Bs => Ar Ao) ?_
 refine Br Ao (fun Bs => Aw (i := Bs.length + 3) D1 Ao (Bn Ao) Ao) ?_
 refine Bd Ao (fun Bs => BR Ao Ao (Mt (Eg.mk 0 [(C7.mk 1 0)])) (.inl Ao)) ?_
 rintro _ ⟨q46, rfl⟩
 refine Br Ao (fun Bs => Ar Ao) ?_
 refine Bd Ao (fun Bs => BR Ao Ao (R5 1 0 Am Am) (.inl Ao)) ?_
 rintro _ ⟨q47, rfl⟩
 refine Br Ao (fun Bs => Ar Ao) ?_
 refine Bd Ao (fun Bs => BR Ao Ao (R5 2 1 Am Am) (.inl Ao)) ?_
 rintro _ ⟨q48, rfl⟩
 refine Bd Ao (fun Bs => BR Ao Ao (DH 3) (.inl Ao)) ?_
 rintro _ ⟨q49, rfl⟩
 refine Bd Ao (fun Bs => BR Ao Ao (DH 4) (.inl Ao)) ?_
 rintro _ ⟨q50, rfl⟩
 refine Br Ao (fun Bs => Aw (i := Bs.length + 2) D1 Ao (Bn Ao) Ao) ?_
 refine Br Ao (fun Bs => Ar Ao) ?_
 refine Bd Ao (fun Bs => BR Ao Ao (R5 5 4 Am Am) (.inl Ao)) ?_
 rintro _ ⟨q51, rfl⟩
 refine Bd Ao (fun Bs => BR Ao Ao (DH 3) (.inl Ao)) ?_
 rintro _ ⟨q52, rfl⟩
 refine Bd Ao (fun Bs => BR Ao Ao (DH 2) (.inl Ao)) ?_
 rintro _ ⟨q53, rfl⟩
 refine Bd Ao (fun Bs => BR Ao Ao (Jz (Eg.mk 0 [(C7.mk 0 0), (C7.mk 1 0)]) q51 q52 q53) (.inl Ao)) ?_
 rintro _ ⟨q54, rfl⟩
 refine Br Ao (fun Bs => Aw (i := Bs.length + 4) D1 Ao (Bn Ao) Ao) ?_
 refine Bd Ao (fun Bs => BR Ao Ao (DH 6) (.inl Ao)) ?_
 rintro _ ⟨q55, rfl⟩
 refine Bd Ao (fun Bs => BR Ao Ao (DH 2) (.inl Ao)) ?_
 rintro _ ⟨q56, rfl⟩
 refine Bd Ao (fun Bs => BR Ao Ao (DH 1) (.inl Ao)) ?_
 rintro _ ⟨q57, rfl⟩
 refine Bd Ao (fun Bs => BR Ao Ao (Jz (Eg.mk 0 [(C7.mk 0 0)]) q55 q56 q57) (.inl Ao)) ?_
 rintro _ ⟨q58, rfl⟩
 refine Br Ao (fun Bs => Aw (i := Bs.length + 3) D1 Ao (Bn Ao) Ao) ?_
 refine Bd Ao (fun Bs => BR Ao Ao (DH 6) (.inl Ao)) ?_
 rintro _ ⟨q59, rfl⟩
 refine Bd Ao (fun Bs => BR Ao Ao (DH 5) (.inl Ao)) ?_
 rintro _ ⟨q60, rfl⟩
 refine Bd Ao (fun Bs => BR Ao Ao (DH 3) (.inl Ao)) ?_
 rintro _ ⟨q61, rfl⟩
 refine Bd Ao (fun Bs => Cp (BN (rows := BO [q60, q61]) B4 B0 Ao Ao Ao Ao (Bv (B6 _)) (Cv _)) ⟨[q60, q61], Ao, Ao⟩) ?_
 rintro _ ⟨l4, rfl, hl4⟩
 refine Bd Ao (fun Bs => Cp (Lt (Bi (cs := [.p (I 4), .p (I 0), .p (.str ⟨#[]⟩), .p (.nils), .p (.lst (BO l4))]) CN B0 Ai)) ⟨(.mk 4 0 ⟨#[]⟩ [] l4 : Tm), Ao⟩) ?_
 rintro _ ⟨q62, rfl⟩
 refine Bd Ao (fun Bs => BR Ao Ao (DH 4) (.inl Ao)) ?_
 rintro _ ⟨q63, rfl⟩
 refine Bd Ao (fun Bs => BR Ao Ao (DH 2) (.inl Ao)) ?_
 rintro _ ⟨q64, rfl⟩
 refine Bd Ao (fun Bs => Cp (BN (rows := BO [q63, q64]) B4 B0 Ao Ao Ao Ao (Bv (B6 _)) (Cv _)) ⟨[q63, q64], Ao, Ao⟩) ?_
 rintro _ ⟨l5, rfl, hl5⟩
 refine Bd Ao (fun Bs => Cp (Lt (Bi (cs := [.p (I 4), .p (I 0), .p (.str ⟨#[]⟩), .p (.nils), .p (.lst (BO l5))]) CN B0 Ai)) ⟨(.mk 4 0 ⟨#[]⟩ [] l5 : Tm), Ao⟩) ?_
 rintro _ ⟨q65, rfl⟩
 refine Bd Ao (fun Bs => BR Ao Ao (Jz (Eg.mk 0 [(C7.mk 1 0)]) q59 q62 q65) (.inl Ao)) ?_
 rintro _ ⟨q66, rfl⟩
 refine Bd Ao (fun Bs => Cp (BN (rows := BO [q45, q46, q47, q48, q49, q50, q54, q58, q66]) B4 B0 Ao Ao Ao Ao (Bv (B6 _)) (Cv _)) ⟨[q45, q46, q47, q48, q49, q50, q54, q58, q66], Ao, Ao⟩) ?_
 rintro _ ⟨l6, rfl, hl6⟩
 refine Bd Ao (fun Bs => BR Ao Ao (HQ l6 AZ AZ) (.inl Ao)) ?_
 rintro _ ⟨q67, rfl⟩
 refine Bd Ao (fun Bs => Cp (Bf Ao Ao (GS ⟨#[69, 113, 46, 99, 111, 110, 103, 114]⟩ 2 q67) Ao) ⟨_, Ao⟩) ?_
 rintro _ ⟨q68, rfl⟩
 refine Br Ao (fun Bs => Ar Ao) ?_
 refine Br Ao (fun Bs => Ar Ao) ?_
 refine Br Ao (fun Bs => Bi (cs := [.p (I 0), .p (.nils)]) Dh GQ Ai) ?_
 refine Bd Ao (fun Bs => BR Ao Ao (Mt (Eg.mk 0 [])) (.inr Ao)) ?_
 rintro _ ⟨q69, rfl⟩
 refine Bd Ao (fun Bs => Cp (Bf Ao Ao (GS ⟨#[90]⟩ 0 q69) Ao) ⟨_, Ao⟩) ?_
 rintro _ ⟨q70, rfl⟩
 refine Br Ao (fun Bs => Ar Ao) ?_
 refine Br Ao (fun Bs => Ar Ao) ?_
 refine Br Ao (fun Bs => Aw (i := Bs.length + 1) BI Ao (Bn Ao) Af) ?_
 refine Br Ao (fun Bs => Aw (i := Bs.length + 1) BI Ao (Bn Ao) Af) ?_
 refine Br Ao (fun Bs => Aw (i := Bs.length + 1) BI Ao (Bn Ao) Af) ?_
 refine Br Ao (fun Bs => BN (rows := BO ([(BP ⟨#[90]⟩ []), (BP ⟨#[90]⟩ []), (BP ⟨#[90]⟩ [])])) B4 B0 Ao Ao Ao Ao (Bv (B6 _)) (Cv _)) ?_
 refine Bd Ao (fun Bs => BR Ao Ao (HQ ([(BP ⟨#[90]⟩ []), (BP ⟨#[90]⟩ []), (BP ⟨#[90]⟩ [])]) AZ AZ) (.inl Ao)) ?_
 rintro _ ⟨q71, rfl⟩
 refine Bd Ao (fun Bs => Cp (Bf Ao Ao (GS ⟨#[97, 100, 100]⟩ 0 q71) Ao) ⟨_, Ao⟩) ?_
 rintro _ ⟨q72, rfl⟩
 refine Br Ao (fun Bs => Ar Ao) ?_
 refine Br Ao (fun Bs => Aw (i := Bs.length + 1) BI Ao (Bn Ao) Af) ?_
 refine Br Ao (fun Bs => Bf Ao Ao (GS ⟨#[122, 101, 114, 111]⟩ 0 (BP ⟨#[90]⟩ [])) Ao) ?_
 refine Br Ao (fun Bs => Ar Ao) ?_
 refine Br Ao (fun Bs => Ar Ao) ?_
 refine Br Ao (fun Bs => Aw (i := Bs.length + 1) BI Ao (Bn Ao) Af) ?_
 refine Br Ao (fun Bs => Aw (i := Bs.length + 1) BI Ao (Bn Ao) Af) ?_
 refine Br Ao (fun Bs => BN (rows := BO ([(BP ⟨#[90]⟩ []), (BP ⟨#[90]⟩ [])])) B4 B0 Ao Ao Ao Ao (Bv (B6 _)) (Cv _)) ?_
 refine Bd Ao (fun Bs => BR Ao Ao (HQ ([(BP ⟨#[90]⟩ []), (BP ⟨#[90]⟩ [])]) AZ AZ) (.inl Ao)) ?_
 rintro _ ⟨q73, rfl⟩
 refine Bd Ao (fun Bs => Cp (Bf Ao Ao (GS ⟨#[110, 101, 103]⟩ 0 q73) Ao) ⟨_, Ao⟩) ?_
 rintro _ ⟨q74, rfl⟩
 refine Br Ao (fun Bs => Ar Ao) ?_
 refine Br Ao (fun Bs => Aw (i := Bs.length + 1) BI Ao (Bn Ao) Af) ?_
 refine Br Ao (fun Bs => Bf Ao Ao (GS ⟨#[111, 110, 101]⟩ 0 (BP ⟨#[90]⟩ [])) Ao) ?_
 refine Br Ao (fun Bs => Ar Ao) ?_
 refine Br Ao (fun Bs => Ar Ao) ?_
 refine Br Ao (fun Bs => Aw (i := Bs.length + 1) BI Ao (Bn Ao) Af) ?_
 refine Br Ao (fun Bs => Aw (i := Bs.length + 1) BI Ao (Bn Ao) Af) ?_
 refine Br Ao (fun Bs => Ar Ao) ?_
 refine Bd Ao (fun Bs => BR Ao Ao (DH 1) (.inl Ao)) ?_
 rintro _ ⟨q75, rfl⟩
 refine Bd Ao (fun Bs => BR Ao Ao (DH 0) (.inl Ao)) ?_
 rintro _ ⟨q76, rfl⟩
 refine Bd Ao (fun Bs => BR Ao Ao (HL q75 q76) (.inl Ao)) ?_
 rintro _ ⟨q77, rfl⟩
 refine Bd Ao (fun Bs => BR Ao Ao (DH 0) (.inl Ao)) ?_
 rintro _ ⟨q78, rfl⟩
 refine Bd Ao (fun Bs => BR Ao Ao (DH 1) (.inl Ao)) ?_
 rintro _ ⟨q79, rfl⟩
 refine Bd Ao (fun Bs => BR Ao Ao (HL q78 q79) (.inl Ao)) ?_
 rintro _ ⟨q80, rfl⟩
 refine Bd Ao (fun Bs => Cp (CC [1] Ao (.inr Ao) (L3 b6 (BP ⟨#[90]⟩ []) q77 q80) ⟨_, _, Ao, Ao, Ao⟩ Al (aw (we Ao) (aw (we Ao) (aw (we Ao) (Ci))))) ⟨(apply (.mk 3 0 ⟨#[69, 113]⟩ [Eg.mk 0 []] []) [(BP ⟨#[90]⟩ []), q77, q80]), Ao⟩) ?_
 rintro _ ⟨q81, rfl⟩
 refine Bd Ao (fun Bs => Cp (BN (rows := BO ([(BP ⟨#[90]⟩ []), (BP ⟨#[90]⟩ []), q81])) B4 B0 Ao Ao Ao Ao (Bv (B6 _)) (Cv _)) ⟨[(BP ⟨#[90]⟩ []), (BP ⟨#[90]⟩ []), q81], Ao, Ao⟩) ?_
 rintro _ ⟨l7, rfl, hl7⟩
 refine Bd Ao (fun Bs => BR Ao Ao (HQ l7 AZ AZ) (.inl Ao)) ?_
 rintro _ ⟨q82, rfl⟩
 refine Bd Ao (fun Bs => Cp (Bf Ao Ao (GS ⟨#[108, 48]⟩ 0 q82) Ao) ⟨_, Ao⟩) ?_
 rintro _ ⟨q83, rfl⟩
 refine Br Ao (fun Bs => Ar Ao) ?_
 refine Br Ao (fun Bs => Ar Ao) ?_
 refine Br Ao (fun Bs => Aw (i := Bs.length + 1) BI Ao (Bn Ao) Af) ?_
 refine Br Ao (fun Bs => Aw (i := Bs.length + 1) BI Ao (Bn Ao) Af) ?_
 refine Br Ao (fun Bs => Aw (i := Bs.length + 1) BI Ao (Bn Ao) Af) ?_
 refine Br Ao (fun Bs => Ar Ao) ?_
 refine Bd Ao (fun Bs => BR Ao Ao (DH 2) (.inl Ao)) ?_
 rintro _ ⟨q84, rfl⟩
 refine Bd Ao (fun Bs => BR Ao Ao (DH 1) (.inl Ao)) ?_
 rintro _ ⟨q85, rfl⟩
 refine Bd Ao (fun Bs => BR Ao Ao (HL q84 q85) (.inl Ao)) ?_
 rintro _ ⟨q86, rfl⟩
 refine Bd Ao (fun Bs => BR Ao Ao (DH 0) (.inl Ao)) ?_
 rintro _ ⟨q87, rfl⟩
 refine Bd Ao (fun Bs => BR Ao Ao (HL q86 q87) (.inl Ao)) ?_
 rintro _ ⟨q88, rfl⟩
 refine Bd Ao (fun Bs => BR Ao Ao (DH 2) (.inl Ao)) ?_
 rintro _ ⟨q89, rfl⟩
 refine Bd Ao (fun Bs => BR Ao Ao (DH 1) (.inl Ao)) ?_
 rintro _ ⟨q90, rfl⟩
 refine Bd Ao (fun Bs => BR Ao Ao (DH 0) (.inl Ao)) ?_
 rintro _ ⟨q91, rfl⟩
 refine Bd Ao (fun Bs => BR Ao Ao (HL q90 q91) (.inl Ao)) ?_
 rintro _ ⟨q92, rfl⟩
 refine Bd Ao (fun Bs => BR Ao Ao (HL q89 q92) (.inl Ao)) ?_
 rintro _ ⟨q93, rfl⟩
 refine Bd Ao (fun Bs => Cp (CC [1] Ao (.inr Ao) (L3 b6 (BP ⟨#[90]⟩ []) q88 q93) ⟨_, _, Ao, Ao, Ao⟩ Al (aw (we Ao) (aw (we Ao) (aw (we Ao) (Ci))))) ⟨(apply (.mk 3 0 ⟨#[69, 113]⟩ [Eg.mk 0 []] []) [(BP ⟨#[90]⟩ []), q88, q93]), Ao⟩) ?_
 rintro _ ⟨q94, rfl⟩
 refine Bd Ao (fun Bs => Cp (BN (rows := BO ([(BP ⟨#[90]⟩ []), (BP ⟨#[90]⟩ []), (BP ⟨#[90]⟩ []), q94])) B4 B0 Ao Ao Ao Ao (Bv (B6 _)) (Cv _)) ⟨[(BP ⟨#[90]⟩ []), (BP ⟨#[90]⟩ []), (BP ⟨#[90]⟩ []), q94], Ao, Ao⟩) ?_
 rintro _ ⟨l8, rfl, hl8⟩
 refine Bd Ao (fun Bs => BR Ao Ao (HQ l8 AZ AZ) (.inl Ao)) ?_
 rintro _ ⟨q95, rfl⟩
 refine Bd Ao (fun Bs => Cp (Bf Ao Ao (GS ⟨#[108, 49]⟩ 0 q95) Ao) ⟨_, Ao⟩) ?_
 rintro _ ⟨q96, rfl⟩
 refine Br Ao (fun Bs => Ar Ao) ?_
 refine Br Ao (fun Bs => Ar Ao) ?_
 refine Br Ao (fun Bs => Aw (i := Bs.length + 1) BI Ao (Bn Ao) Af) ?_
 refine Br Ao (fun Bs => Ar Ao) ?_
 refine Br Ao (fun Bs => Aw (i := Bs.length + 0) BI Ao (Bn Ao) Af) ?_
 refine Bd Ao (fun Bs => BR Ao Ao (DH 0) (.inl Ao)) ?_
 rintro _ ⟨q97, rfl⟩
 refine Bd Ao (fun Bs => BR Ao Ao (HL (BP ⟨#[122, 101, 114, 111]⟩ []) q97) (.inl Ao)) ?_
 rintro _ ⟨q98, rfl⟩
 refine Bd Ao (fun Bs => BR Ao Ao (DH 0) (.inl Ao)) ?_
 rintro _ ⟨q99, rfl⟩
 refine Bd Ao (fun Bs => Cp (CC [1] Ao (.inr Ao) (L3 b6 (BP ⟨#[90]⟩ []) q98 q99) ⟨_, _, Ao, Ao, Ao⟩ Al (aw (we Ao) (aw (we Ao) (aw (we Ao) (Ci))))) ⟨(apply (.mk 3 0 ⟨#[69, 113]⟩ [Eg.mk 0 []] []) [(BP ⟨#[90]⟩ []), q98, q99]), Ao⟩) ?_
 rintro _ ⟨q100, rfl⟩
 refine Bd Ao (fun Bs => Cp (BN (rows := BO ([(BP ⟨#[90]⟩ []), q100])) B4 B0 Ao Ao Ao Ao (Bv (B6 _)) (Cv _)) ⟨[(BP ⟨#[90]⟩ []), q100], Ao, Ao⟩) ?_
 rintro _ ⟨l9, rfl, hl9⟩
 refine Bd Ao (fun Bs => BR Ao Ao (HQ l9 AZ AZ) (.inl Ao)) ?_
 rintro _ ⟨q101, rfl⟩
 refine Bd Ao (fun Bs => Cp (Bf Ao Ao (GS ⟨#[108, 50]⟩ 0 q101) Ao) ⟨_, Ao⟩) ?_
 rintro _ ⟨q102, rfl⟩
 refine Br Ao (fun Bs => Ar Ao) ?_
 refine Br Ao (fun Bs => Ar Ao) ?_
 refine Br Ao (fun Bs => Aw (i := Bs.length + 1) BI Ao (Bn Ao) Af) ?_
 refine Br Ao (fun Bs => Ar Ao) ?_
 refine Bd Ao (fun Bs => BR Ao Ao (DH 0) (.inl Ao)) ?_
 rintro _ ⟨q103, rfl⟩
 refine Bd Ao (fun Bs => BR Ao Ao (Jq q103) (.inl Ao)) ?_
 rintro _ ⟨q104, rfl⟩
 refine Bd Ao (fun Bs => BR Ao Ao (DH 0) (.inl Ao)) ?_
 rintro _ ⟨q105, rfl⟩
 refine Bd Ao (fun Bs => BR Ao Ao (HL q104 q105) (.inl Ao)) ?_
 rintro _ ⟨q106, rfl⟩
 refine Br Ao (fun Bs => Aw (i := Bs.length + 0) BI Ao (Bn Ao) Af) ?_
 refine Bd Ao (fun Bs => Cp (CC [1] Ao (.inr Ao) (L3 b6 (BP ⟨#[90]⟩ []) q106 (BP ⟨#[122, 101, 114, 111]⟩ [])) ⟨_, _, Ao, Ao, Ao⟩ Al (aw (we Ao) (aw (we Ao) (aw (we Ao) (Ci))))) ⟨(apply (.mk 3 0 ⟨#[69, 113]⟩ [Eg.mk 0 []] []) [(BP ⟨#[90]⟩ []), q106, (BP ⟨#[122, 101, 114, 111]⟩ [])]), Ao⟩) ?_
 rintro _ ⟨q107, rfl⟩
 refine Bd Ao (fun Bs => Cp (BN (rows := BO ([(BP ⟨#[90]⟩ []), q107])) B4 B0 Ao Ao Ao Ao (Bv (B6 _)) (Cv _)) ⟨[(BP ⟨#[90]⟩ []), q107], Ao, Ao⟩) ?_
 rintro _ ⟨l10, rfl, hl10⟩
 refine Bd Ao (fun Bs => BR Ao Ao (HQ l10 AZ AZ) (.inl Ao)) ?_
 rintro _ ⟨q108, rfl⟩
 refine Bd Ao (fun Bs => Cp (Bf Ao Ao (GS ⟨#[108, 51]⟩ 0 q108) Ao) ⟨_, Ao⟩) ?_
 rintro _ ⟨q109, rfl⟩
 refine Br Ao (fun Bs => Ar Ao) ?_
 refine Br Ao (fun Bs => Ar Ao) ?_
 refine Br Ao (fun Bs => Aw (i := Bs.length + 1) BI Ao (Bn Ao) Af) ?_
 refine Br Ao (fun Bs => Aw (i := Bs.length + 1) BI Ao (Bn Ao) Af) ?_
 refine Br Ao (fun Bs => Ar Ao) ?_
 refine Bd Ao (fun Bs => BR Ao Ao (DH 1) (.inl Ao)) ?_
 rintro _ ⟨q110, rfl⟩
 refine Bd Ao (fun Bs => BR Ao Ao (DH 0) (.inl Ao)) ?_
 rintro _ ⟨q111, rfl⟩
 refine Bd Ao (fun Bs => BR Ao Ao (HL q110 q111) (.inl Ao)) ?_
 rintro _ ⟨q112, rfl⟩
 refine Bd Ao (fun Bs => BR Ao Ao (Jq q112) (.inl Ao)) ?_
 rintro _ ⟨q113, rfl⟩
 refine Bd Ao (fun Bs => BR Ao Ao (DH 1) (.inl Ao)) ?_
 rintro _ ⟨q114, rfl⟩
 refine Bd Ao (fun Bs => BR Ao Ao (Jq q114) (.inl Ao)) ?_
 rintro _ ⟨q115, rfl⟩
 refine Bd Ao (fun Bs => BR Ao Ao (DH 0) (.inl Ao)) ?_
 rintro _ ⟨q116, rfl⟩
 refine Bd Ao (fun Bs => BR Ao Ao (Jq q116) (.inl Ao)) ?_
 rintro _ ⟨q117, rfl⟩
 refine Bd Ao (fun Bs => BR Ao Ao (HL q115 q117) (.inl Ao)) ?_
 rintro _ ⟨q118, rfl⟩
 refine Bd Ao (fun Bs => Cp (CC [1] Ao (.inr Ao) (L3 b6 (BP ⟨#[90]⟩ []) q113 q118) ⟨_, _, Ao, Ao, Ao⟩ Al (aw (we Ao) (aw (we Ao) (aw (we Ao) (Ci))))) ⟨(apply (.mk 3 0 ⟨#[69, 113]⟩ [Eg.mk 0 []] []) [(BP ⟨#[90]⟩ []), q113, q118]), Ao⟩) ?_
 rintro _ ⟨q119, rfl⟩
 refine Bd Ao (fun Bs => Cp (BN (rows := BO ([(BP ⟨#[90]⟩ []), (BP ⟨#[90]⟩ []), q119])) B4 B0 Ao Ao Ao Ao (Bv (B6 _)) (Cv _)) ⟨[(BP ⟨#[90]⟩ []), (BP ⟨#[90]⟩ []), q119], Ao, Ao⟩) ?_
 rintro _ ⟨l11, rfl, hl11⟩
 refine Bd Ao (fun Bs => BR Ao Ao (HQ l11 AZ AZ) (.inl Ao)) ?_
 rintro _ ⟨q120, rfl⟩
 refine Bd Ao (fun Bs => Cp (Bf Ao Ao (GS ⟨#[108, 52]⟩ 0 q120) Ao) ⟨_, Ao⟩) ?_
 rintro _ ⟨q121, rfl⟩
 refine Br Ao (fun Bs => Ar Ao) ?_
 refine Br Ao (fun Bs => Ar Ao) ?_
 refine Br Ao (fun Bs => Aw (i := Bs.length + 1) BI Ao (Bn Ao) Af) ?_
 refine Br Ao (fun Bs => Ar Ao) ?_
 refine Bd Ao (fun Bs => BR Ao Ao (DH 0) (.inl Ao)) ?_
 rintro _ ⟨q122, rfl⟩
 refine Bd Ao (fun Bs => BR Ao Ao (Jq q122) (.inl Ao)) ?_
 rintro _ ⟨q123, rfl⟩
 refine Bd Ao (fun Bs => BR Ao Ao (Jq q123) (.inl Ao)) ?_
 rintro _ ⟨q124, rfl⟩
 refine Bd Ao (fun Bs => BR Ao Ao (DH 0) (.inl Ao)) ?_
 rintro _ ⟨q125, rfl⟩
 refine Bd Ao (fun Bs => Cp (CC [1] Ao (.inr Ao) (L3 b6 (BP ⟨#[90]⟩ []) q124 q125) ⟨_, _, Ao, Ao, Ao⟩ Al (aw (we Ao) (aw (we Ao) (aw (we Ao) (Ci))))) ⟨(apply (.mk 3 0 ⟨#[69, 113]⟩ [Eg.mk 0 []] []) [(BP ⟨#[90]⟩ []), q124, q125]), Ao⟩) ?_
 rintro _ ⟨q126, rfl⟩
 refine Bd Ao (fun Bs => Cp (BN (rows := BO ([(BP ⟨#[90]⟩ []), q126])) B4 B0 Ao Ao Ao Ao (Bv (B6 _)) (Cv _)) ⟨[(BP ⟨#[90]⟩ []), q126], Ao, Ao⟩) ?_
 rintro _ ⟨l12, rfl, hl12⟩
 refine Bd Ao (fun Bs => BR Ao Ao (HQ l12 AZ AZ) (.inl Ao)) ?_
 rintro _ ⟨q127, rfl⟩
 refine Bd Ao (fun Bs => Cp (Bf Ao Ao (GS ⟨#[108, 53]⟩ 0 q127) Ao) ⟨_, Ao⟩) ?_
 rintro _ ⟨q128, rfl⟩
 refine Br Ao (fun Bs => Ar Ao) ?_
 refine Br Ao (fun Bs => Ar Ao) ?_
 refine Br Ao (fun Bs => Aw (i := Bs.length + 0) BI Ao (Bn Ao) Af) ?_
 refine Bd Ao (fun Bs => BR Ao Ao (Jq (BP ⟨#[122, 101, 114, 111]⟩ [])) (.inl Ao)) ?_
 rintro _ ⟨q129, rfl⟩
 refine Br Ao (fun Bs => Aw (i := Bs.length + 0) BI Ao (Bn Ao) Af) ?_
 refine Bd Ao (fun Bs => Cp (CC [1] Ao (.inr Ao) (L3 b6 (BP ⟨#[90]⟩ []) q129 (BP ⟨#[122, 101, 114, 111]⟩ [])) ⟨_, _, Ao, Ao, Ao⟩ Al (aw (we Ao) (aw (we Ao) (aw (we Ao) (Ci))))) ⟨(apply (.mk 3 0 ⟨#[69, 113]⟩ [Eg.mk 0 []] []) [(BP ⟨#[90]⟩ []), q129, (BP ⟨#[122, 101, 114, 111]⟩ [])]), Ao⟩) ?_
 rintro _ ⟨q130, rfl⟩
 refine SM ?_
 change AL _ _ _ 232 ⟨260, _, [.box b7 ((Ba (BP ⟨#[122, 101, 114, 111]⟩ [])).map .p), .box b6 ((Ba (BP ⟨#[90]⟩ [])).map .p), .box b3 [.p (I 0), .p (.lst (List.map D5 [(C7.mk 0 0), (C7.mk 1 0)]))], .box b2 [.p (I 0), .p (.lst (List.map D5 [(C7.mk 1 0)]))], .box b1 [.p (I 0), .p (.lst (List.map D5 [(C7.mk 0 0)]))]], []⟩ _
 refine Ap Ao Ao (Bf Ao Ao (GS ⟨#[108, 54]⟩ 0 q130) Ao) ?_
 refine Ap Ao Ao (BN (rows := List.map DL ([(DN ⟨#[69, 113]⟩ 1 q5), (DN ⟨#[69, 113, 46, 114, 101, 102, 108]⟩ 1 q13), (DN ⟨#[69, 113, 46, 115, 121, 109, 109]⟩ 1 q26), (DN ⟨#[69, 113, 46, 116, 114, 97, 110, 115]⟩ 1 q44), (DN ⟨#[69, 113, 46, 99, 111, 110, 103, 114]⟩ 2 q68), (DN ⟨#[90]⟩ 0 q70), (DN ⟨#[97, 100, 100]⟩ 0 q72), (DN ⟨#[122, 101, 114, 111]⟩ 0 (BP ⟨#[90]⟩ [])), (DN ⟨#[110, 101, 103]⟩ 0 q74), (DN ⟨#[111, 110, 101]⟩ 0 (BP ⟨#[90]⟩ [])), (DN ⟨#[108, 48]⟩ 0 q83), (DN ⟨#[108, 49]⟩ 0 q96), (DN ⟨#[108, 50]⟩ 0 q102), (DN ⟨#[108, 51]⟩ 0 q109), (DN ⟨#[108, 52]⟩ 0 q121), (DN ⟨#[108, 53]⟩ 0 q128), (DN ⟨#[108, 54]⟩ 0 q130)])) Vb Qn Ao Ao Ao Ao (Bv (Rn _)) (Vm _)) ?_
 refine Ap Ao Ao (At Ao) ?_
 refine Au Ao ?_
 refine As ?_
 refine Aq ?_
 refine Ap Ao Ao (Ar Ao) ?_
 refine Ap Ao Ao (At Ao) ?_
 refine Au Ao ?_
 refine A5 ?_
 refine ⟨Ao, _, _, ⟨_, _, Ao, Ao, Ao⟩, (List.nil_sublist _), ?_⟩
 all_goals exact ⟨⟨[(DN ⟨#[69, 113]⟩ 1 q5), (DN ⟨#[69, 113, 46, 114, 101, 102, 108]⟩ 1 q13), (DN ⟨#[69, 113, 46, 115, 121, 109, 109]⟩ 1 q26), (DN ⟨#[69, 113, 46, 116, 114, 97, 110, 115]⟩ 1 q44), (DN ⟨#[69, 113, 46, 99, 111, 110, 103, 114]⟩ 2 q68), (DN ⟨#[90]⟩ 0 q70), (DN ⟨#[97, 100, 100]⟩ 0 q72), (DN ⟨#[122, 101, 114, 111]⟩ 0 (BP ⟨#[90]⟩ [])), (DN ⟨#[110, 101, 103]⟩ 0 q74), (DN ⟨#[111, 110, 101]⟩ 0 (BP ⟨#[90]⟩ [])), (DN ⟨#[108, 48]⟩ 0 q83), (DN ⟨#[108, 49]⟩ 0 q96), (DN ⟨#[108, 50]⟩ 0 q102), (DN ⟨#[108, 51]⟩ 0 q109), (DN ⟨#[108, 52]⟩ 0 q121), (DN ⟨#[108, 53]⟩ 0 q128), (DN ⟨#[108, 54]⟩ 0 q130)], rfl, rfl, by simp [DN]⟩, rfl⟩
theorem Zs {ds : List Jp} (h : ds.map Jp.name = [⟨#[69, 113]⟩, ⟨#[69, 113, 46, 114, 101, 102, 108]⟩, ⟨#[69, 113, 46, 115, 121, 109, 109]⟩, ⟨#[69, 113, 46, 116, 114, 97, 110, 115]⟩, ⟨#[69, 113, 46, 99, 111, 110, 103, 114]⟩, ⟨#[90]⟩, ⟨#[97, 100, 100]⟩, ⟨#[122, 101, 114, 111]⟩, ⟨#[110, 101, 103]⟩, ⟨#[111, 110, 101]⟩, ⟨#[108, 48]⟩, ⟨#[108, 49]⟩, ⟨#[108, 50]⟩, ⟨#[108, 51]⟩, ⟨#[108, 52]⟩, ⟨#[108, 53]⟩, ⟨#[108, 54]⟩]) : N4 ds (N8 (BF.mk ⟨#[90]⟩ ⟨#[97, 100, 100]⟩ ⟨#[122, 101, 114, 111]⟩ ⟨#[110, 101, 103]⟩ ⟨#[111, 110, 101]⟩ ⟨#[108, 101, 113]⟩ [⟨#[108, 48]⟩, ⟨#[108, 49]⟩, ⟨#[108, 50]⟩, ⟨#[108, 51]⟩, ⟨#[108, 52]⟩, ⟨#[108, 53]⟩, ⟨#[108, 54]⟩, ⟨#[108, 55]⟩, ⟨#[108, 56]⟩, ⟨#[108, 57]⟩, ⟨#[108, 49, 48]⟩, ⟨#[108, 49, 49]⟩, ⟨#[108, 49, 50]⟩, ⟨#[108, 49, 51]⟩])) = false := by
 have e (s : ByteArray) : OM ds s = (ds.map Jp.name).any (fun n => decide (n = s)) := by simp [OM, List.any_map, Function.comp_def]
 unfold N4
 rw [show (fun s => !OM ds s) = (fun s => !(List.any [⟨#[69, 113]⟩, ⟨#[69, 113, 46, 114, 101, 102, 108]⟩, ⟨#[69, 113, 46, 115, 121, 109, 109]⟩, ⟨#[69, 113, 46, 116, 114, 97, 110, 115]⟩, ⟨#[69, 113, 46, 99, 111, 110, 103, 114]⟩, ⟨#[90]⟩, ⟨#[97, 100, 100]⟩, ⟨#[122, 101, 114, 111]⟩, ⟨#[110, 101, 103]⟩, ⟨#[111, 110, 101]⟩, ⟨#[108, 48]⟩, ⟨#[108, 49]⟩, ⟨#[108, 50]⟩, ⟨#[108, 51]⟩, ⟨#[108, 52]⟩, ⟨#[108, 53]⟩, ⟨#[108, 54]⟩] (fun n => decide (n = s)))) from funext fun s => by rw [e, h]]
 decide
theorem Qp (GL : List (Nat × Obj)) (hG : Gh GL) (th : BF) (t : Tm) (cs : List Int) (us : List Tm) (e : Int) (h1 : Fb t) (h2 : size t < 1000000) (h3 : EP th t = (cs, us, e)) : Bl Tryz.prog 19 [.agg ((Ef th).map .p), TV t] [.glob GL] (DG (.tup [.p (.lst (List.map Ca cs)), .p (.lst (BO us)), .p (I e)]) [.glob GL]) := by
 have := Q6 GL hG th t h1 h2
 rw [h3] at this
 exact this
theorem JA (a b : Tm) (h1 : Nd a) (h2 : a = b) : G5 Tryz.prog 12 [TV a, TV b] (.p (.bool true)) := by
 have := P3 (size a) a b (Nat.le_refl _) h1
 rwa [Dl h2] at this
theorem RT : ∀ (t : Tm) (vars params metas levels : Int), (Nd t) → (size t < 1000000) → GX Tryz.prog 22 [.agg ((Ba t).map .p), .p (I vars), .p (I params), .p (I metas), .p (I levels)] (fun v => ∃ e : Int, v = .p (I e) ∧ (e = 0 → LX t ∧ Cn t)) := by
 intro t vars params metas levels h1 h2
 refine A3 Tryz.func22 Ao Y7 (n := 28) Ao Ao ?_
 refine As ?_
 refine Aq ?_
 refine BH Ao Ao (Bb Ao) fun b5 => ?_
 refine Ap Ao Ao (At Ao) ?_
 refine Au Ao ?_
 refine As ?_
 refine As ?_
 refine Aq ?_
 refine Ap Ao Ao (Aw (i := 0) BI Ao Ao Af) ?_
 refine Ap Ao Ao (Ar Ao) ?_
 refine Ap Ao Ao (I3 Ao Ao) ?_
 refine Ap Ao Ao (Ar Ao) ?_
 refine Ap Ao Ao (Ar Ao) ?_
 refine Ap Ao Ao (Ar Ao) ?_
 refine GY Ao Ao (BR Ao Ao (S1 _ t 0 (max (vars : Int) (0 : Int)) params metas levels (Nat.le_refl _) h1 Am Ab) (.inl Ao)) ?_
 rintro _ ⟨e, rfl, he⟩
 refine Ap Ao Ao (At Ao) ?_
 refine Au Ao ?_
 refine As ?_
 refine Aq ?_
 refine Ap Ao Ao (Ar Ao) ?_
 refine Ap Ao Ao (A7 Ao Ao Ao) ?_
 refine Au Ao ?_
 refine A4 Ao (fun c => ?_) (fun c => ?_)
 ·(try simp only [sd, se] at c)
  refine As ?_
  refine Aq ?_
  refine Ap Ao Ao (Ar Ao) ?_
  refine Ap Ao Ao (At Ao) ?_
  refine Au Ao ?_
  refine A5 ?_
  refine ⟨Ao, _, [], Bj Ao, List.nil_sublist _, ⟨⟨_, Ao, ?_⟩, Ao⟩⟩
  exact fun h => absurd h Aj
 ·(try simp only [sd, se] at c)
  refine BD ?_
  refine As ?_
  refine As ?_
  refine Aq ?_
  refine Ap Ao Ao (Aw (i := 0) BI Ao Ao Af) ?_
  refine Ap Ao Ao (Bf Ao Ao (T7 _ t (Nat.le_refl _) Am) Ao) ?_
  refine Ap Ao Ao (A7 Ao Ao Ao) ?_
  refine Au Ao ?_
  refine A4 Ao (fun c1 => ?_) (fun c1 => ?_)
  ·(try simp only [sd, se] at c1)
   refine As ?_
   refine Aq ?_
   refine Ap Ao Ao (At Ao) ?_
   refine Au Ao ?_
   refine A5 ?_
   refine ⟨Ao, _, [], Bj Ao, List.nil_sublist _, ⟨⟨_, Ao, ?_⟩, Ao⟩⟩
   exact fun h => absurd h Al
  ·(try simp only [sd, se] at c1)
   refine BD ?_
   refine As ?_
   refine As ?_
   refine Aq ?_
   refine Ap Ao Ao (Aw (i := 0) BI Ao Ao Af) ?_
   refine Ap Ao Ao (Bf Ao Ao (Tb _ t (Nat.le_refl _) Am) Ao) ?_
   refine Ap Ao Ao (A7 Ao Ao Ao) ?_
   refine Au Ao ?_
   refine A4 Ao (fun c2 => ?_) (fun c2 => ?_)
   ·(try simp only [sd, se] at c2)
    refine As ?_
    refine Aq ?_
    refine Ap Ao Ao (At Ao) ?_
    refine Au Ao ?_
    refine A5 ?_
    refine ⟨Ao, _, [], Bj Ao, List.nil_sublist _, ⟨⟨_, Ao, ?_⟩, Ao⟩⟩
    exact fun h => absurd h Al
   ·(try simp only [sd, se] at c2)
    refine BD ?_
    refine As ?_
    refine Aq ?_
    refine Ap Ao Ao (At Ao) ?_
    refine Au Ao ?_
    refine A5 ?_
    refine ⟨Ao, _, [], Bj Ao, List.nil_sublist _, ⟨⟨_, Ao, ?_⟩, Ao⟩⟩
    exact fun _ => (he Am).2
theorem O7 : ∀ (l : List Tm), (TA l) → (l.length < wide) → GX Tryz.prog 10 [.p (.lst (BO l))] (fun v => ∃ b : Bool, v = .p (.bool b) ∧ (b = true → By l ≤ 200 ∧ ∀ t ∈ l, Fb t ∧ size t ≤ 200)) := by
 intro l h1 h2
 have h2b := h2
 simp only [wide] at h2b
 refine A3 Tryz.func10 Ao ZX (n := 18) Ao Ao ?_
 refine As ?_
 refine Aq ?_
 refine Ap Ao Ao (At Ao) ?_
 refine Au Ao ?_
 refine As ?_
 refine As ?_
 refine Aq ?_
 refine Ap Ao Ao (Ar Ao) ?_
 refine GY Ao Ao (BR Ao Ao (Wr _ l (Nat.le_refl _) h1 h2) (.inl Ao)) ?_
 rintro _ ⟨b, rfl, hb⟩
 refine Ap Ao Ao (Co Ao) ?_
 refine Au Ao ?_
 refine A4 Ao (fun c => ?_) (fun c => ?_)
 ·(try simp only [sd, se] at c)
  refine As ?_
  refine Aq ?_
  refine Ap Ao Ao (At Ao) ?_
  refine Au Ao ?_
  refine A5 ?_
  refine ⟨Ao, _, [], Bj Ao, List.nil_sublist _, ⟨⟨_, Ao, ?_⟩, Ao⟩⟩
  exact fun h => absurd h Al
 ·(try simp only [sd, se] at c)
  have hf := hb (by simpa using c)
  refine BD ?_
  refine As ?_
  refine As ?_
  refine Aq ?_
  refine Ap Ao Ao (Ar Ao) ?_
  refine Ap Ao Ao (Bx B4 Ao (Bt _)) ?_
  refine Ap Ao Ao (Ar Ao) ?_
  refine Au Ao ?_
  refine BU ?_
  refine CS (α := Nat) (fun i => ⟨18, mk [(8, .p (.lst (BO l))), (9, .p (I (l.length : Nat))), (10, .p (I (i : Int)))], [], []⟩) (fun i => l.length - i) (fun i => i ≤ l.length ∧ (∀ j, j < i → ∀ x, l[j]? = some x → LX x ∧ Cn x)) 0 (⟨by omega, fun j h => by omega⟩) ?_ ?_
  ·exact B8 ⟨we Ao, we Ao, we Ao, trivial⟩ (leH (is := []) Ao (ET))
  rintro i hC
  try simp only at hC
  obtain ⟨hi, hC⟩ := hC
  refine As ?_
  refine Aq ?_
  refine Ap Ao Ao (A7 Ao Ao Ao) ?_
  refine Au Ao ?_
  refine As ?_
  refine A4 Ao (fun c1 => ?_) (fun c1 => ?_)
  ·(try simp only [sd, se] at c1)
   refine BD ?_
   refine As ?_
   refine BU ?_
   refine As ?_
   refine Aq ?_
   obtain ⟨x, hx⟩ := BM (l := l) (i := i) Am
   refine Ap Ao Ao (BJ B4 Ao Ao Am (B9 hx) (Bh _)) ?_
   refine Ap Ao Ao (Be BI Ao (Bh _)) ?_
   refine BH Ao Ao (BG B0 Ao) fun b4 => ?_
   refine Ap Ao Ao (A1 (i := 0) BI Ao Ao Ao Af AX (B3 _)) ?_
   refine Au Ao ?_
   refine As ?_
   refine Aq ?_
   refine Ap Ao Ao (Aw (i := 0) BI Ao Ao Af) ?_
   refine GY Ao Ao (BR Ao Ao (RT x 65536 8 65536 65536 (Dn hf.nd hx) (by have := DD hx; have := hf.sz; omega)) (.inl Ao)) ?_
   rintro _ ⟨e, rfl, he⟩
   refine Ap Ao Ao (A7 Ao Ao Ao) ?_
   refine Au Ao ?_
   refine A4 Ao (fun c2 => ?_) (fun c2 => ?_)
   ·(try simp only [sd, se] at c2)
    refine As ?_
    refine Aq ?_
    refine Ap Ao Ao (At Ao) ?_
    refine Au Ao ?_
    refine A5 ?_
    refine ⟨Ao, _, [], Bj Ao, List.nil_sublist _, ⟨⟨_, Ao, ?_⟩, Ao⟩⟩
    exact fun h => absurd h Al
   ·(try simp only [sd, se] at c2)
    refine BD ?_
    refine Aq ?_
    refine Ap Ao Ao (CT Ao Ao Am Am) ?_
    refine Ap Ao Ao (Ar Ao) ?_
    refine Au Ao ?_
    refine ⟨(i + 1), AT, ⟨by omega, FG hC hx (he Am)⟩, B8 ⟨we rfl, we rfl, we rfl, trivial⟩ (leH (is := []) rfl (ET))⟩
  ·(try simp only [sd, se] at c1)
   refine CL ?_
   refine As ?_
   refine Aq ?_
   refine Ap Ao Ao (At Ao) ?_
   refine Au Ao ?_
   refine A5 ?_
   refine ⟨Ao, _, [], Bj Ao, List.nil_sublist _, ⟨⟨_, Ao, ?_⟩, Ao⟩⟩
   exact fun _ => ⟨hf.sz, fun t ht => by
    obtain ⟨j, hj⟩ := Fu ht
    obtain ⟨q1, q2⟩ := hC j (by have := (List.getElem?_eq_some_iff.1 hj).1; omega) t hj
    exact ⟨⟨q2, Dn hf.nd hj, q1, LZ hf.fw ht⟩, by have := DD hj; have := hf.sz; omega⟩⟩
theorem R3 : ∀ (th : BF), (th.lemmas.length ≤ 8796093021952) → GX Tryz.prog 9 [.agg ((Ef th).map .p)] (fun v => ∃ b : Bool, v = .p (.bool b) ∧ (b = true → GU th ∧ th.lemmas.length ≤ 20)) := by
 intro th h1
 obtain ⟨BA, A6, A8, A9, BC, BB, thm⟩ := th
 simp only at h1
 have hll : ([BA, A6, A8, A9] ++ thm).length = thm.length + 4 := by simp
 refine A3 Tryz.func9 Ao bO (n := 30) Ao Ao ?_
 refine As ?_
 refine Aq ?_
 refine BH Ao Ao (Bb Ao) fun b1 => ?_
 refine Ap Ao Ao (At Ao) ?_
 refine Au Ao ?_
 refine As ?_
 refine As ?_
 refine Aq ?_
 refine Ap Ao Ao (Av Du Ao Ao) ?_
 refine Ap Ao Ao (Ax (i := 0) GO Ao Ao Ao) ?_
 refine Ap Ao Ao (Av Du Ao Ao) ?_
 refine Ap Ao Ao (Ax (i := 0) GO Ao Ao Ao) ?_
 refine Ap Ao Ao (Av Du Ao Ao) ?_
 refine Ap Ao Ao (Ax (i := 0) GO Ao Ao Ao) ?_
 refine Ap Ao Ao (Av Du Ao Ao) ?_
 refine Ap Ao Ao (Ax (i := 0) GO Ao Ao Ao) ?_
 refine VX Ao Ao (Gc (rows := List.map CV [BA, A6, A8, A9]) Jg YH Ao Ao Ao Ao Ao) fun b13 cp => ?_
 refine Ap Ao Ao (Av Du Ao Ao) ?_
 refine Ap Ao Ao (Ax (i := 1) Sa Ao Ao Ao) ?_
 refine Ap Ao Ao (Eh (i := 0) (rows' := List.map CV thm) Jg Jg YH Ao Ao Ao Ao Ao Ao (K2 _) (by simp only [List.length_map, List.length_cons, List.length_nil]; omega) (IN (f := CV) [BA, A6, A8, A9] thm)) ?_
 refine Ap Ao Ao (Bx Jg Ao (List.length_map _)) ?_
 refine Ap Ao Ao (Ar Ao) ?_
 refine Au Ao ?_
 refine BU ?_
 refine CS (α := Nat) (fun i => ⟨30, mk [(1, .ptr b1 0), (16, .p (.lst (List.map CV ([BA, A6, A8, A9] ++ thm)))), (17, .p (I (([BA, A6, A8, A9] ++ thm).length : Nat))), (18, .p (I (i : Int)))], [.box b1 [.p (.str BA), .p (.str A6), .p (.str A8), .p (.str A9), .p (.str BC), .p (.str BB), .p (.lst (List.map CV thm))]], []⟩) (fun i => ([BA, A6, A8, A9] ++ thm).length - i) (fun i => i ≤ ([BA, A6, A8, A9] ++ thm).length ∧ (∀ j, j < i → ∀ x, ([BA, A6, A8, A9] ++ thm)[j]? = some x → x.size ≤ 100)) 0 (⟨by omega, fun j h => by omega⟩) ?_ ?_
 ·exact B8 ⟨we Ao, we Ao, we Ao, we Ao, trivial⟩ (leH (is := [0]) Ao (wl (oe Ao) (ET)))
 rintro i hC
 try simp only at hC
 obtain ⟨hi, hC⟩ := hC
 refine As ?_
 refine Aq ?_
 refine Ap Ao Ao (A7 Ao Ao Ao) ?_
 refine Au Ao ?_
 refine As ?_
 refine A4 Ao (fun c => ?_) (fun c => ?_)
 ·(try simp only [sd, se] at c)
  refine BD ?_
  refine As ?_
  refine BU ?_
  refine As ?_
  refine Aq ?_
  obtain ⟨x, hx⟩ := BM (l := [BA, A6, A8, A9] ++ thm) (i := i) Am
  refine Ap Ao Ao (BJ Jg Ao Ao Am (Mr hx) (Ao)) ?_
  refine Ap Ao Ao (CG GO Ao) ?_
  refine Ap Ao Ao (At Ao) ?_
  refine Au Ao ?_
  refine As ?_
  refine Aq ?_
  refine Ap Ao Ao (Ar Ao) ?_
  refine Ap Ao Ao (GK Wf Ao) ?_
  refine Ap Ao Ao (A7 Ao Ao Ao) ?_
  refine Au Ao ?_
  refine A4 Ao (fun c1 => ?_) (fun c1 => ?_)
  ·(try simp only [sd, se] at c1)
   refine As ?_
   refine Aq ?_
   refine Ap Ao Ao (At Ao) ?_
   refine Au Ao ?_
   refine A5 ?_
   refine ⟨Ao, _, [], Bj Ao, List.nil_sublist _, ⟨⟨_, Ao, ?_⟩, Ao⟩⟩
   exact fun h => absurd h Al
  ·(try simp only [sd, se] at c1)
   refine BD ?_
   refine Aq ?_
   refine Ap Ao Ao (CT Ao Ao Am Am) ?_
   refine Ap Ao Ao (Ar Ao) ?_
   refine Au Ao ?_
   refine ⟨(i + 1), AT, ⟨by omega, FG (p := fun _ (x : ByteArray) => x.size ≤ 100) hC hx Am⟩, B8 ⟨we rfl, we rfl, we rfl, we rfl, trivial⟩ (leH (is := [0]) rfl (wl (oe rfl) (ET)))⟩
 ·(try simp only [sd, se] at c)
  refine CL ?_
  refine As ?_
  refine Aq ?_
  refine Ap Ao Ao (Av Du Ao Ao) ?_
  refine Ap Ao Ao (Ax (i := 0) Sa Ao Ao Ao) ?_
  refine Ap Ao Ao (Bx Jg Ao (List.length_map _)) ?_
  refine Ap Ao Ao (A7 Ao Ao Ao) ?_
  refine Ap Ao Ao (At Ao) ?_
  refine Au Ao ?_
  refine A5 ?_
  refine ⟨Ao, _, [], Bj Ao, List.nil_sublist _, ⟨⟨_, Ao, ?_⟩, Ao⟩⟩
  refine fun hl => ⟨?_, Int.ofNat_le.1 (by simpa using hl)⟩
  have hs : ∀ x ∈ [BA, A6, A8, A9] ++ thm, x.size < Dp := fun x hx => by
   obtain ⟨j, hj⟩ := Fu hx
   have := hC j (by have := (List.getElem?_eq_some_iff.1 hj).1; omega) x hj
   simp only [Dp]; omega
  exact ⟨hs _ An, hs _ An, hs _ An, hs _ An, fun s h => hs s (by simp [h])⟩
theorem XU {a b : List Tm} (hl : a.length = b.length) (h : ∀ j, j < a.length → ∀ x, a[j]? = some x → b[j]? = some x) : a = b := by
 refine List.ext_getElem? fun j => ?_
 rcases Nat.lt_or_ge j a.length with q | q
 ·rw [List.getElem?_eq_getElem q]
  exact (h j q _ (List.getElem?_eq_getElem q)).symm
 ·rw [List.getElem?_eq_none q, List.getElem?_eq_none Am]
theorem Vs : ∀ (a b : List Tm), (JS a) → (a.length < 1000000) → G5 Tryz.prog 55 [.p (.lst (BO a)), .p (.lst (BO b)), .p (.fn 12)] (.p (.bool (NF a b))) := by
 intro a b h1 h2
 refine A3 Tryz.func55 Ao aK (n := 32) Ao Ao ?_
 refine As ?_
 refine Aq ?_
 refine Ap Ao Ao (At Ao) ?_
 refine Au Ao ?_
 refine As ?_
 refine As ?_
 refine Aq ?_
 refine Ap Ao Ao (Ar Ao) ?_
 refine Ap Ao Ao (Bx B4 Ao (Bt _)) ?_
 refine Ap Ao Ao (Ar Ao) ?_
 refine Ap Ao Ao (Bx B4 Ao (Bt _)) ?_
 refine Ap Ao Ao (A7 Ao Ao Ao) ?_
 refine Au Ao ?_
 refine A4 Ao (fun c => ?_) (fun c => ?_)
 ·(try simp only [sd, se] at c)
  refine As ?_
  refine Aq ?_
  refine Ap Ao Ao (At Ao) ?_
  refine Au Ao ?_
  refine A5 ?_
  refine ⟨Ao, _, _, ⟨_, _, Ao, Ao, Ao⟩, (List.nil_sublist _), ?_⟩
  all_goals exact ⟨by show (.p (.bool false) : AV) = _; rw [Ds (fun h => by subst h; simp at c)], rfl⟩
 ·(try simp only [sd, se] at c)
  refine BD ?_
  refine As ?_
  refine As ?_
  refine Aq ?_
  refine Ap Ao Ao (Ar Ao) ?_
  refine Ap Ao Ao (Bx B4 Ao (Bt _)) ?_
  refine Ap Ao Ao (Ar Ao) ?_
  refine Au Ao ?_
  refine BU ?_
  refine CS (α := Nat) (fun i => ⟨32, mk [(1, .p (.lst (BO b))), (2, .p (.fn 12)), (15, .p (.lst (BO a))), (16, .p (I (a.length : Nat))), (17, .p (I (i : Int)))], [], []⟩) (fun i => a.length - i) (fun i => i ≤ a.length ∧ (∀ j, j < i → ∀ x, a[j]? = some x → b[j]? = some x)) 0 (⟨by omega, fun j h => by omega⟩) ?_ ?_
  ·exact B8 ⟨we Ao, we Ao, we Ao, we Ao, we Ao, trivial⟩ (leH (is := []) Ao (ET))
  rintro i hC
  try simp only at hC
  obtain ⟨hi, hC⟩ := hC
  refine As ?_
  refine Aq ?_
  refine Ap Ao Ao (A7 Ao Ao Ao) ?_
  refine Au Ao ?_
  refine As ?_
  refine A4 Ao (fun c1 => ?_) (fun c1 => ?_)
  ·(try simp only [sd, se] at c1)
   refine BD ?_
   refine As ?_
   refine BU ?_
   refine As ?_
   refine Aq ?_
   refine Ap Ao Ao (Ar Ao) ?_
   obtain ⟨x, hx⟩ := BM (l := a) (i := i) Am
   refine Ap Ao Ao (BJ B4 Ao Ao Am (B9 hx) (Bh _)) ?_
   refine Ap Ao Ao (Be BI Ao (Bh _)) ?_
   refine BH Ao Ao (BG B0 Ao) fun b8 => ?_
   refine Ap Ao Ao (At Ao) ?_
   refine Ap Ao Ao (A1 (i := 0) BI Ao Ao Ao Af AX (B3 _)) ?_
   refine Au Ao ?_
   refine As ?_
   refine Aq ?_
   refine Ap Ao Ao (Ar Ao) ?_
   refine Ap Ao Ao (Ar Ao) ?_
   obtain ⟨x1, hx1⟩ := BM (l := b) (i := i) Am
   refine Ap Ao Ao (BJ B4 Ao Ao Am (B9 hx1) (Bh _)) ?_
   refine Ap Ao Ao (Be BI Ao (Bh _)) ?_
   refine BH Ao Ao (BG B0 Ao) fun b9 => ?_
   refine Ap Ao Ao (A1 (i := 0) BI Ao Ao Ao Af AX (B3 _)) ?_
   refine Au Ao ?_
   refine As ?_
   refine Aq ?_
   refine Ap Ao Ao (Ar Ao) ?_
   refine Ap Ao Ao (Aw (i := 1) BI Ao Ao Af) ?_
   refine Ap Ao Ao (Aw (i := 0) BI Ao Ao Af) ?_
   refine Ap Ao Ao (Bf Ao Ao (P3 _ x x1 (Nat.le_refl _) (Dn h1 hx)) Ao) ?_
   refine Ap Ao Ao (Co Ao) ?_
   refine Au Ao ?_
   refine A4 Ao (fun c2 => ?_) (fun c2 => ?_)
   ·(try simp only [sd, se] at c2)
    refine As ?_
    refine Aq ?_
    refine Ap Ao Ao (At Ao) ?_
    refine Au Ao ?_
    refine A5 ?_
    refine ⟨Ao, _, _, ⟨_, _, Ao, Ao, Ao⟩, (List.nil_sublist _), ?_⟩
    all_goals exact ⟨by show (.p (.bool false) : AV) = _; rw [Ds (fun h => by subst h; rw [hx] at hx1; injection hx1 with e; subst e; simp [Dl] at c2)], rfl⟩
   ·(try simp only [sd, se] at c2)
    refine BD ?_
    refine Aq ?_
    refine Ap Ao Ao (CT Ao Ao Am Am) ?_
    refine Ap Ao Ao (Ar Ao) ?_
    refine Au Ao ?_
    refine ⟨(i + 1), AT, ⟨by omega, FG (p := fun j x => b[j]? = some x) hC hx (by have e : x = x1 := Hk.1 (by simpa using c2); rw [e]; exact hx1)⟩, B8 ⟨we rfl, we rfl, we rfl, we rfl, we rfl, trivial⟩ (leH (is := []) rfl (ET))⟩
  ·(try simp only [sd, se] at c1)
   refine CL ?_
   refine As ?_
   refine Aq ?_
   refine Ap Ao Ao (At Ao) ?_
   refine Au Ao ?_
   refine A5 ?_
   refine ⟨Ao, _, _, ⟨_, _, Ao, Ao, Ao⟩, (List.nil_sublist _), ?_⟩
   all_goals exact ⟨by show (.p (.bool true) : AV) = _; rw [Dl (XU Am fun j hj x hx => hC j Am x hx)], rfl⟩
theorem SE : ∀ (a b : List Tm), (JS a) → (a.length < 1000000) → G5 Tryz.prog 31 [.p (.lst (BO a)), .p (.lst (BO b))] (.p (.bool (NF a b))) := by
 intro a b h1 h2
 refine A3 Tryz.func31 Ao ZY (n := 8) Ao Ao ?_
 refine As ?_
 refine Aq ?_
 refine Ap Ao Ao (At Ao) ?_
 refine Au Ao ?_
 refine As ?_
 refine Aq ?_
 refine Ap Ao Ao (Ar Ao) ?_
 refine Ap Ao Ao (Ar Ao) ?_
 refine Ap Ao Ao (Bf Ao Ao (Vs a b h1 h2) Ao) ?_
 refine Ap Ao Ao (At Ao) ?_
 refine Au Ao ?_
 refine A5 ?_
 refine ⟨Ao, _, _, ⟨_, _, Ao, Ao, Ao⟩, (List.nil_sublist _), ?_⟩
 all_goals exact ⟨rfl, rfl⟩
end Go.Proofs.YtapmjpihennhaaaGreatDoor
