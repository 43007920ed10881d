/- Part of the proofs: an abstract program logic, plain models and contracts of functions. -/
import Derived.Test.YtapmjpihennhaaaGreatDoorPg
import Derived.Test.YtapmjpihennhaaaGreatDoorPf
set_option linter.unusedVariables false
set_option linter.unusedSimpArgs false
set_option maxRecDepth 100000
namespace Go.Proofs.YtapmjpihennhaaaGreatDoor
open Go.Abs Go.Eu
theorem eU (GL : List (Nat × Obj)) (hG : G3 GL) (c m : Nat) (cs : List Int) (A : List Tm) (al : Int) (t : Tm) (h1 : Gj t) (h2 : size t < 1000000) (h3 : t ∈ A) (h4 : ∀ a ∈ A, OA a) : B1 Tryz.prog 85 [.ptr c 0, TV t] [.box c [.p (.lst (List.map C0 cs)), .p (.lst (Bg A)), .map m, .p (I al)], .map m (EG (GB 0 A)), .glob GL] (Dq (.p (I (DA A t : Nat))) [.box c [.p (.lst (List.map C0 cs)), .p (.lst (Bg A)), .map m, .p (I al)], .map m (EG (GB 0 A)), .glob GL]) :=
 (Zc GL c m _ _ _ A t hG h1 h2 h3 h4).mono (by rintro r H' ⟨rfl, rfl⟩; exact ⟨rfl, rfl⟩)
theorem cG : ∀ (GL : List (Nat × Obj)) (hG : G3 GL) (b0 b1 : Nat) (p c : Nat) (BQ BK BL BM BS BR : ByteArray) (thm : List ByteArray)(m : Nat) (cs : List Int) (A : List Tm) (al : Int)(t : Tm), (Gj t) → (size t < 1000000) → (t ∈ A) → (∀ a ∈ A, OA a) → (thm.length = 14) → B1 Tryz.prog 80 [.ptr b0 0, .ptr b1 0] [.box b0 [.ptr p 0], .box b1 ((Bu t).map .p), .box p [.p (.str BQ), .p (.str BK), .p (.str BL), .p (.str BM), .p (.str BS), .p (.str BR), .p (.lst (List.map CZ thm)), .ptr c 0], .box c [.p (.lst (List.map C0 cs)), .p (.lst (Bg A)), .map m, .p (I al)], .map m (EG (GB 0 A)), .glob GL] (Dq (.tup [.agg ((CS (Cx (BY.mk BQ BK BL BM BS BR thm) (G6 (BY.mk BQ BK BL BM BS BR thm) (JQ (BY.mk BQ BK BL BM BS BR thm) t)) [Hr (BY.mk BQ BK BL BM BS BR thm) (Bh BL []) t])).map .p), .p (.lst (List.map Cm [Ch.mk (DA A t : Nat) false]))]) [.box b0 [.ptr p 0], .box b1 ((Bu t).map .p), .box p [.p (.str BQ), .p (.str BK), .p (.str BL), .p (.str BM), .p (.str BS), .p (.str BR), .p (.lst (List.map CZ thm)), .ptr c 0], .box c [.p (.lst (List.map C0 cs)), .p (.lst (Bg A)), .map m, .p (I al)], .map m (EG (GB 0 A)), .glob GL]) := by
 intro GL hG b0 b1 p c BQ BK BL BM BS BR thm m cs A al t h1 h2 h3 h4 h5
 refine BH Tryz.func80 Ay gS (n := 31) Ay Ay (A2 (A0 (BP Ay Ay (BN EC Ay) fun b2 => Az Ay Ay (A4 Ay) (A5 Ay (A2 (A0 (Az Ay Ay (A9 (i := 1) JA Ay Ay Ay) (Az Ay Ay (Bn Ay) (Az Ay Ay (A3 Il Ay Ay) (Az Ay Ay (A3 Dy Ay Ay) (Az Ay Ay (A9 (i := 3) Ev Ay Ay Ay) (Az Ay Ay (DJ Ay Ay (Ep BL [] AO) (aw (we Ay) (aw (Cs Ay) (C7)))) (BP Ay Ay (BN B8 Ay) fun b4 => Az Ay Ay (BB (i := 0) BU Ay Ay Ay Am Ac (CN _)) (A5 Ay (A2 (CW (fun k => false) ED (Ba (j := 2) Ay Ay Ay (fun H i hi => A9 (i := i) JA Ay hi Ay) AA trivial (Ba (j := 2) Ay Ay Ay (fun H i hi => A9 (i := i) JA Ay hi Ay) AA trivial ?_))))))))))))))))))
 refine Ba (j := 2) Ay Ay Ay (fun H i hi => A9 (i := i) JA Ay hi Ay) AA trivial (Ba (j := 3) Ay Ay Ay (fun H i hi => A8 (i := i) BU Ay hi Am) AA trivial (CO [4] Ay Ay Ay (.inl ⟨Ay, Ay, Ay⟩) (Rh p c BQ BK BL BM BS BR thm t h5) ⟨_, _, Ay, Ay, Ay⟩ (C1 _) (aw (we Ay) (aw (we Ay) (C7))) AA trivial (CO [4] Ay Ay Ay (.inl ⟨Ay, Ay, Ay⟩) (Ub p c BQ BK BL BM BS BR thm (JQ (BY.mk BQ BK BL BM BS BR thm) t)) ⟨_, _, Ay, Ay, Ay⟩ (C1 _) (aw (we Ay) (aw (we Ay) (C7))) AA trivial (Ba (j := 2) Ay Ay Ay (fun H i hi => A9 (i := i) JA Ay hi Ay) AA trivial (Ba (j := 0) Ay Ay Ay (fun H i hi => A8 (i := i) BU Ay hi Am) AA trivial (Ba (j := 3) Ay Ay Ay (fun H i hi => A8 (i := i) BU Ay hi Am) AA trivial ?_))))))
 refine CO [4] Ay Ay Ay (.inl ⟨Ay, Ay, Ay⟩) (RE p c BQ BK BL BM BS BR thm (Bh BL []) t h5) ⟨_, _, Ay, Ay, Ay⟩ (C1 _) (aw (we Ay) (aw (we Ay) (aw (we Ay) (C7)))) AA trivial (BA Ay Ay (fun _ => Bf (rows := List.map CS ([(Hr (BY.mk BQ BK BL BM BS BR thm) (Bh BL []) t)])) KJ EC Ay Ay Ay Ay (B9 (F7 _)) (J2 _)) trivial (CO [4] Ay Ay Ay (.inl ⟨Ay, Ay, Ay⟩) (Gw p c BQ BK BL BM BS BR thm (G6 (BY.mk BQ BK BL BM BS BR thm) (JQ (BY.mk BQ BK BL BM BS BR thm) t)) ([(Hr (BY.mk BQ BK BL BM BS BR thm) (Bh BL []) t)]) AR) ⟨_, _, Ay, Ay, Ay⟩ (C1 _) (aw (we Ay) (aw (we Ay) (aw (we Ay) (C7)))) AA trivial (Ba (j := 2) Ay Ay Ay (fun H i hi => A9 (i := i) JA Ay hi Ay) AA trivial (BA Ay Ay (fun _ => Bn Ay) trivial ?_))))
 refine BA Ay Ay (fun _ => A3 Il Ay Ay) trivial (Ba (j := 4) Ay Ay Ay (fun H i hi => A9 (i := i) YX Ay hi Ay) AA trivial (Ba (j := 3) Ay Ay Ay (fun H i hi => A8 (i := i) BU Ay hi Am) AA trivial (CO [5, 6, 7] Ay Ay Ay (.inl ⟨Ay, Ay, Ay⟩) (eU GL hG c m cs A al t h1 h2 h3 h4) ⟨_, _, Ay, Ay, ⟨_, _, Ay, Ay, ⟨_, _, Ay, Ay, Ay⟩⟩⟩ W6 (aw (we Ay) (aw (we Ay) (C7))) AA trivial (BA Ay Ay (fun _ => Bv Iv JE Ay) trivial (BA Ay Ay (fun _ => Bf (rows := List.map Cm [(Ch.mk (DA A t : Nat) false)]) FV JE Ay Ay Ay Ay (B9 (De _)) (PS _)) trivial (Cw Ay Ay (BB (i := 1) Cz Ay Ay Ay Ak Ab (Co _)) AA trivial (BA Ay Ay (fun _ => A4 Ay) trivial (CP Ay Ar (BF ?_)))))))))
 refine ⟨Ay, _, _, ⟨_, _, Ay, (Bt (i := 1) Cz Ay Ay Ak), ⟨_, _, Ay, Ay, Ay⟩⟩, (C2 (is := [2, 3, 4, 5, 6, 7]) Ay), ?_⟩
 all_goals exact ⟨rfl, rfl⟩
theorem cO : ∀ (GL : List (Nat × Obj)) (hG : G3 GL) (b0 b1 : Nat) (p c : Nat) (BQ BK BL BM BS BR : ByteArray) (thm : List ByteArray)(m : Nat) (cs : List Int) (A : List Tm) (al : Int)(n : Nat) (us : List Tm) (x y : Tm), (us[0]? = some x) → (us[1]? = some y) → (B1 Tryz.prog 47 [.ptr p 0, TV x] [.box p [.p (.str BQ), .p (.str BK), .p (.str BL), .p (.str BM), .p (.str BS), .p (.str BR), .p (.lst (List.map CZ thm)), .ptr c 0], .box c [.p (.lst (List.map C0 cs)), .p (.lst (Bg A)), .map m, .p (I al)], .map m (EG (GB 0 A)), .glob GL] (Dq (.tup [.agg ((CS (B0 (BY.mk BQ BK BL BM BS BR thm) A n x).1).map .p), .p (.lst (List.map Cm (B0 (BY.mk BQ BK BL BM BS BR thm) A n x).2))]) [.box p [.p (.str BQ), .p (.str BK), .p (.str BL), .p (.str BM), .p (.str BS), .p (.str BR), .p (.lst (List.map CZ thm)), .ptr c 0], .box c [.p (.lst (List.map C0 cs)), .p (.lst (Bg A)), .map m, .p (I al)], .map m (EG (GB 0 A)), .glob GL])) → (B1 Tryz.prog 47 [.ptr p 0, TV y] [.box p [.p (.str BQ), .p (.str BK), .p (.str BL), .p (.str BM), .p (.str BS), .p (.str BR), .p (.lst (List.map CZ thm)), .ptr c 0], .box c [.p (.lst (List.map C0 cs)), .p (.lst (Bg A)), .map m, .p (I al)], .map m (EG (GB 0 A)), .glob GL] (Dq (.tup [.agg ((CS (B0 (BY.mk BQ BK BL BM BS BR thm) A n y).1).map .p), .p (.lst (List.map Cm (B0 (BY.mk BQ BK BL BM BS BR thm) A n y).2))]) [.box p [.p (.str BQ), .p (.str BK), .p (.str BL), .p (.str BM), .p (.str BS), .p (.str BR), .p (.lst (List.map CZ thm)), .ptr c 0], .box c [.p (.lst (List.map C0 cs)), .p (.lst (Bg A)), .map m, .p (I al)], .map m (EG (GB 0 A)), .glob GL])) → (∀ z ∈ (B0 (BY.mk BQ BK BL BM BS BR thm) A n x).2, HM A z) → (∀ z ∈ (B0 (BY.mk BQ BK BL BM BS BR thm) A n y).2, HM A z) → ((B0 (BY.mk BQ BK BL BM BS BR thm) A n x).2.length + (B0 (BY.mk BQ BK BL BM BS BR thm) A n y).2.length < 1000000) → (thm.length = 14) → B1 Tryz.prog 86 [.ptr b0 0, .ptr b1 0] [.box b0 [.ptr p 0], .box b1 [.p (.lst (Bg us))], .box p [.p (.str BQ), .p (.str BK), .p (.str BL), .p (.str BM), .p (.str BS), .p (.str BR), .p (.lst (List.map CZ thm)), .ptr c 0], .box c [.p (.lst (List.map C0 cs)), .p (.lst (Bg A)), .map m, .p (I al)], .map m (EG (GB 0 A)), .glob GL] (Dq (.tup [.agg ((CS (Cx (BY.mk BQ BK BL BM BS BR thm) (Fx (BY.mk BQ BK BL BM BS BR thm) (B0 (BY.mk BQ BK BL BM BS BR thm) A n x).1 (B0 (BY.mk BQ BK BL BM BS BR thm) A n y).1) [(DN (BY.mk BQ BK BL BM BS BR thm) A (B0 (BY.mk BQ BK BL BM BS BR thm) A n y).2 (B0 (BY.mk BQ BK BL BM BS BR thm) A n x).2).1])).map .p), .p (.lst (List.map Cm ((DN (BY.mk BQ BK BL BM BS BR thm) A (B0 (BY.mk BQ BK BL BM BS BR thm) A n y).2 (B0 (BY.mk BQ BK BL BM BS BR thm) A n x).2).2)))]) [.box b0 [.ptr p 0], .box b1 [.p (.lst (Bg us))], .box p [.p (.str BQ), .p (.str BK), .p (.str BL), .p (.str BM), .p (.str BS), .p (.str BR), .p (.lst (List.map CZ thm)), .ptr c 0], .box c [.p (.lst (List.map C0 cs)), .p (.lst (Bg A)), .map m, .p (I al)], .map m (EG (GB 0 A)), .glob GL]) := by
 intro GL hG b0 b1 p c BQ BK BL BM BS BR thm m cs A al n us x y h1 h2 h3 h4 h5 h6 h7 h8
 have hul := (List.getElem?_eq_some_iff.1 h2).1
 refine BH Tryz.func86 Ay gv (n := 42) Ay Ay (A2 (A0 (BP Ay Ay (BN EC Ay) fun b2 => Az Ay Ay (A4 Ay) (A5 Ay (A2 (CW (fun k => Nat.beq k 8) ED (Ba (j := 1) Ay Ay Ay (fun H i hi => A9 (i := i) JA Ay hi Ay) AA trivial (Ba (j := 2) Ay Ay Ay (fun H i hi => A9 (i := i) DG Ay hi Ay) AA trivial (BA Ay Ay (fun _ => BI CL Ay Ay Aw (CU h1) (Bd _)) trivial (BA Ay Ay (fun _ => Bq BU Ay (Bd _)) trivial (CO [3, 4, 5, 6] Ay Ay Ay (.inl ⟨Ay, Ay, Ay⟩) (h3 ) ⟨_, _, Ay, Ay, ⟨_, _, Ay, Ay, ⟨_, _, Ay, Ay, ⟨_, _, Ay, Ay, Ay⟩⟩⟩⟩ (NA Ax) (aw (we Ay) (aw (we Ay) (C7))) AA trivial (BA Ay Ay (fun _ => A1 Ay) trivial (BA Ay Ay (fun _ => Bi Ay Ay) trivial (BA Ay Ay (fun _ => Bi Ay Ay) trivial ?_))))))))))))))
 refine RT [] Ay Ay (BN EC Ay) Ar fun b4 => ⟨AA, trivial, ?_⟩
 refine Cw Ay Ay (BB (i := 0) Cz Ay Ay Ay Ak Ab (Co _)) AA trivial (BA Ay Ay (fun _ => A4 Ay) trivial (CP Ay Ar (A2 (CW (fun k => Nat.beq k 8) ED (Ba (j := 2) Ay Ay Ay (fun H i hi => A9 (i := i) JA Ay hi Ay) AA trivial (Ba (j := 3) Ay Ay Ay (fun H i hi => A9 (i := i) DG Ay hi Ay) AA trivial (BA Ay Ay (fun _ => BI CL Ay Ay Aw (CU h2) (Bd _)) trivial (BA Ay Ay (fun _ => Bq BU Ay (Bd _)) trivial (CO [4, 5, 6, 7] Ay Ay Ay (.inl ⟨Ay, Ay, Ay⟩) (h4 ) ⟨_, _, Ay, Ay, ⟨_, _, Ay, Ay, ⟨_, _, Ay, Ay, ⟨_, _, Ay, Ay, Ay⟩⟩⟩⟩ (NA Ax) (aw (we Ay) (aw (we Ay) (C7))) AA trivial (BA Ay Ay (fun _ => A1 Ay) trivial (BA Ay Ay (fun _ => Bi Ay Ay) trivial (BA Ay Ay (fun _ => Bi Ay Ay) trivial ?_))))))))))))
 refine RT [] Ay Ay (BN EC Ay) Ar fun b6 => ⟨AA, trivial, ?_⟩
 refine Cw Ay Ay (BB (i := 0) Cz Ay Ay Ay Ak Ab (Co _)) AA trivial (BA Ay Ay (fun _ => A4 Ay) trivial (CP Ay Ar (A2 (A0 (Az Ay Ay (A9 (i := 3) JA Ay Ay Ay) (Az Ay Ay (A1 Ay) (Az Ay Ay (A1 Ay) (Az Ay Ay (Cf [5, 6] Ay (.inl ⟨Ay, Ay, Ay⟩) (Vi p c BQ BK BL BM BS BR thm m cs A al ((B0 (BY.mk BQ BK BL BM BS BR thm) A n y).2) _ ((B0 (BY.mk BQ BK BL BM BS BR thm) A n x).2) (Nat.le_refl _) h7 h5 h6 h8) ⟨_, _, Ay, Ay, ⟨_, _, Ay, Ay, Ay⟩⟩ Av Ay (.inl Ay)) (Az Ay Ay (A1 Ay) (Az Ay Ay (Bi Ay Ay) (Az Ay Ay (Bi Ay Ay) (BP Ay Ay (BN EC Ay) fun b8 => Az Ay Ay (BB (i := 0) Cz Ay Ay Ay Ak Ab (Co _)) (Az Ay Ay (A4 Ay) (A5 Ay (A2 (CW (fun k => false) ED ?_))))))))))))))))
 refine Ba (j := 4) Ay Ay Ay (fun H i hi => A9 (i := i) JA Ay hi Ay) AA trivial (Ba (j := 4) Ay Ay Ay (fun H i hi => A9 (i := i) JA Ay hi Ay) AA trivial (Ba (j := 2) Ay Ay Ay (fun H i hi => A8 (i := i) Cz Ay hi Ak) AA trivial (Ba (j := 1) Ay Ay Ay (fun H i hi => A8 (i := i) Cz Ay hi Ak) AA trivial (CO [6] Ay Ay Ay (.inl ⟨Ay, Ay, Ay⟩) (Mw p c BQ BK BL BM BS BR thm ((B0 (BY.mk BQ BK BL BM BS BR thm) A n x).1) ((B0 (BY.mk BQ BK BL BM BS BR thm) A n y).1)) ⟨_, _, Ay, Ay, Ay⟩ (C1 _) (aw (we Ay) (aw (we Ay) (aw (we Ay) (C7)))) AA trivial (Ba (j := 0) Ay Ay Ay (fun H i hi => A8 (i := i) Cz Ay hi Ak) AA trivial ?_)))))
 refine BA Ay Ay (fun _ => Bf (rows := List.map CS [((DN (BY.mk BQ BK BL BM BS BR thm) A ((B0 (BY.mk BQ BK BL BM BS BR thm) A n y).2) ((B0 (BY.mk BQ BK BL BM BS BR thm) A n x).2)).1)]) KJ EC Ay Ay Ay Ay (B9 (F7 _)) (J2 _)) trivial (CO [6] Ay Ay Ay (.inl ⟨Ay, Ay, Ay⟩) (Gw p c BQ BK BL BM BS BR thm (Fx (BY.mk BQ BK BL BM BS BR thm) ((B0 (BY.mk BQ BK BL BM BS BR thm) A n x).1) ((B0 (BY.mk BQ BK BL BM BS BR thm) A n y).1)) [((DN (BY.mk BQ BK BL BM BS BR thm) A ((B0 (BY.mk BQ BK BL BM BS BR thm) A n y).2) ((B0 (BY.mk BQ BK BL BM BS BR thm) A n x).2)).1)] AR) ⟨_, _, Ay, Ay, Ay⟩ (C1 _) (aw (we Ay) (aw (we Ay) (aw (we Ay) (C7)))) AA trivial (BA Ay Ay (fun _ => A1 Ay) trivial ?_))
 refine Cw Ay Ay (BB (i := 3) Cz Ay Ay Ay Ak Ab (Co _)) AA trivial (BA Ay Ay (fun _ => A4 Ay) trivial (CP Ay Ar (BF (⟨Ay, _, _, ⟨_, _, Ay, (Bt (i := 3) Cz Ay Ay Ak), ⟨_, _, Ay, Ay, Ay⟩⟩, (C2 (is := [4, 5, 6, 7, 8, 9]) Ay), ?_⟩))))
 all_goals exact ⟨rfl, rfl⟩
theorem dJ : ∀ (GL : List (Nat × Obj)) (hG : G3 GL) (b0 b1 : Nat) (p c : Nat) (BQ BK BL BM BS BR : ByteArray) (thm : List ByteArray)(m : Nat) (cs : List Int) (A : List Tm) (al : Int)(t : Tm), B1 Tryz.prog 89 [.ptr b0 0, .ptr b1 0] [.box b0 [.ptr p 0], .box b1 ((Bu t).map .p), .box p [.p (.str BQ), .p (.str BK), .p (.str BL), .p (.str BM), .p (.str BS), .p (.str BR), .p (.lst (List.map CZ thm)), .ptr c 0], .box c [.p (.lst (List.map C0 cs)), .p (.lst (Bg A)), .map m, .p (I al)], .map m (EG (GB 0 A)), .glob GL] (Dq (.tup [.agg ((CS (Dp (BY.mk BQ BK BL BM BS BR thm) t)).map .p), .p (.lst (List.map Cm []))]) [.box b0 [.ptr p 0], .box b1 ((Bu t).map .p), .box p [.p (.str BQ), .p (.str BK), .p (.str BL), .p (.str BM), .p (.str BS), .p (.str BR), .p (.lst (List.map CZ thm)), .ptr c 0], .box c [.p (.lst (List.map C0 cs)), .p (.lst (Bg A)), .map m, .p (I al)], .map m (EG (GB 0 A)), .glob GL]) := by
 intro GL hG b0 b1 p c BQ BK BL BM BS BR thm m cs A al t
 refine BH Tryz.func89 Ay gx (n := 7) Ay Ay (A2 (A0 (BP Ay Ay (BN EC Ay) fun b2 => Az Ay Ay (A4 Ay) (A5 Ay (A2 (A0 (Az Ay Ay (A9 (i := 1) JA Ay Ay Ay) (Az Ay Ay (A8 (i := 2) BU Ay Ay Am) (Az Ay Ay (Cf [3] Ay (.inl ⟨Ay, Ay, Ay⟩) (LJ p c BQ BK BL BM BS BR thm t) ⟨_, _, Ay, Ay, Ay⟩ Av Ay (.inl Ay)) (Az Ay Ay (BB (i := 0) Cz Ay Ay Ay Ak Ab (Co _)) (Az Ay Ay (A4 Ay) (A5 Ay (B2 (El 3) (BF (⟨Ay, _, _, ⟨_, _, Ay, (Bt (i := 0) Cz Ay Ay Ak), ⟨_, _, Ay, Ay, Ay⟩⟩, (C2 (is := [1, 2, 3, 4, 5, 6]) Ay), ?_⟩)))))))))))))))
 all_goals exact ⟨rfl, rfl⟩
theorem da : ∀ (GL : List (Nat × Obj)) (hG : G3 GL) (b0 b1 : Nat) (p c : Nat) (BQ BK BL BM BS BR : ByteArray) (thm : List ByteArray)(m : Nat) (cs : List Int) (A : List Tm) (al : Int)(n : Nat) (us : List Tm) (x : Tm), (us[0]? = some x) → (B1 Tryz.prog 47 [.ptr p 0, TV x] [.box p [.p (.str BQ), .p (.str BK), .p (.str BL), .p (.str BM), .p (.str BS), .p (.str BR), .p (.lst (List.map CZ thm)), .ptr c 0], .box c [.p (.lst (List.map C0 cs)), .p (.lst (Bg A)), .map m, .p (I al)], .map m (EG (GB 0 A)), .glob GL] (Dq (.tup [.agg ((CS (B0 (BY.mk BQ BK BL BM BS BR thm) A n x).1).map .p), .p (.lst (List.map Cm (B0 (BY.mk BQ BK BL BM BS BR thm) A n x).2))]) [.box p [.p (.str BQ), .p (.str BK), .p (.str BL), .p (.str BM), .p (.str BS), .p (.str BR), .p (.lst (List.map CZ thm)), .ptr c 0], .box c [.p (.lst (List.map C0 cs)), .p (.lst (Bg A)), .map m, .p (I al)], .map m (EG (GB 0 A)), .glob GL])) → (∀ z ∈ (B0 (BY.mk BQ BK BL BM BS BR thm) A n x).2, HM A z) → ((B0 (BY.mk BQ BK BL BM BS BR thm) A n x).2.length < 1000000) → (thm.length = 14) → B1 Tryz.prog 91 [.ptr b0 0, .ptr b1 0] [.box b0 [.ptr p 0], .box b1 [.p (.lst (Bg us))], .box p [.p (.str BQ), .p (.str BK), .p (.str BL), .p (.str BM), .p (.str BS), .p (.str BR), .p (.lst (List.map CZ thm)), .ptr c 0], .box c [.p (.lst (List.map C0 cs)), .p (.lst (Bg A)), .map m, .p (I al)], .map m (EG (GB 0 A)), .glob GL] (Dq (.tup [.agg ((CS (Cx (BY.mk BQ BK BL BM BS BR thm) (Dj (BY.mk BQ BK BL BM BS BR thm) (Bh BM []) (B0 (BY.mk BQ BK BL BM BS BR thm) A n x).1) [(DE (BY.mk BQ BK BL BM BS BR thm) A (B0 (BY.mk BQ BK BL BM BS BR thm) A n x).2).1])).map .p), .p (.lst (List.map Cm ((DE (BY.mk BQ BK BL BM BS BR thm) A (B0 (BY.mk BQ BK BL BM BS BR thm) A n x).2).2)))]) [.box b0 [.ptr p 0], .box b1 [.p (.lst (Bg us))], .box p [.p (.str BQ), .p (.str BK), .p (.str BL), .p (.str BM), .p (.str BS), .p (.str BR), .p (.lst (List.map CZ thm)), .ptr c 0], .box c [.p (.lst (List.map C0 cs)), .p (.lst (Bg A)), .map m, .p (I al)], .map m (EG (GB 0 A)), .glob GL]) := by
 intro GL hG b0 b1 p c BQ BK BL BM BS BR thm m cs A al n us x h1 h2 h3 h4 h5
 have hul := (List.getElem?_eq_some_iff.1 h1).1
 refine BH Tryz.func91 Ay fq (n := 36) Ay Ay (A2 (A0 (BP Ay Ay (BN EC Ay) fun b2 => Az Ay Ay (A4 Ay) (A5 Ay (A2 (CW (fun k => Nat.beq k 8) ED (Ba (j := 1) Ay Ay Ay (fun H i hi => A9 (i := i) JA Ay hi Ay) AA trivial (Ba (j := 2) Ay Ay Ay (fun H i hi => A9 (i := i) DG Ay hi Ay) AA trivial (BA Ay Ay (fun _ => BI CL Ay Ay Aw (CU h1) (Bd _)) trivial (BA Ay Ay (fun _ => Bq BU Ay (Bd _)) trivial (CO [3, 4, 5, 6] Ay Ay Ay (.inl ⟨Ay, Ay, Ay⟩) (h2 ) ⟨_, _, Ay, Ay, ⟨_, _, Ay, Ay, ⟨_, _, Ay, Ay, ⟨_, _, Ay, Ay, Ay⟩⟩⟩⟩ (NA Ax) (aw (we Ay) (aw (we Ay) (C7))) AA trivial (BA Ay Ay (fun _ => A1 Ay) trivial (BA Ay Ay (fun _ => Bi Ay Ay) trivial (BA Ay Ay (fun _ => Bi Ay Ay) trivial ?_))))))))))))))
 refine RT [] Ay Ay (BN EC Ay) Ar fun b4 => ⟨AA, trivial, ?_⟩
 refine Cw Ay Ay (BB (i := 0) Cz Ay Ay Ay Ak Ab (Co _)) AA trivial (BA Ay Ay (fun _ => A4 Ay) trivial (CP Ay Ar (A2 (A0 (Az Ay Ay (A9 (i := 2) JA Ay Ay Ay) (Az Ay Ay (A1 Ay) (Az Ay Ay (Cf [4, 5] Ay (.inl ⟨Ay, Ay, Ay⟩) (VF p c BQ BK BL BM BS BR thm m cs A al _ ((B0 (BY.mk BQ BK BL BM BS BR thm) A n x).2) (Nat.le_refl _) h4 h3 h5) ⟨_, _, Ay, Ay, ⟨_, _, Ay, Ay, Ay⟩⟩ Av Ay (.inl Ay)) (Az Ay Ay (A1 Ay) (Az Ay Ay (Bi Ay Ay) (Az Ay Ay (Bi Ay Ay) (BP Ay Ay (BN EC Ay) fun b6 => Az Ay Ay (BB (i := 0) Cz Ay Ay Ay Ak Ab (Co _)) (Az Ay Ay (A4 Ay) (A5 Ay (A2 (CW (fun k => false) ED ?_)))))))))))))))
 refine Ba (j := 3) Ay Ay Ay (fun H i hi => A9 (i := i) JA Ay hi Ay) AA trivial (Ba (j := 3) Ay Ay Ay (fun H i hi => A9 (i := i) JA Ay hi Ay) AA trivial (Ba (j := 3) Ay Ay Ay (fun H i hi => A9 (i := i) JA Ay hi Ay) AA trivial (BA Ay Ay (fun _ => Bn Ay) trivial (BA Ay Ay (fun _ => A3 Il Ay Ay) trivial (BA Ay Ay (fun _ => A3 Dy Ay Ay) trivial (Ba (j := 5) Ay Ay Ay (fun H i hi => A9 (i := i) Ev Ay hi Ay) AA trivial (BA Ay Ay (fun _ => DJ Ay Ay (Ep BM [] AO) (aw (we Ay) (aw (Cs Ay) (C7)))) trivial (Ba (j := 1) Ay Ay Ay (fun H i hi => A8 (i := i) Cz Ay hi Ak) AA trivial ?_))))))))
 refine CO [5] Ay Ay Ay (.inl ⟨Ay, Ay, Ay⟩) (L6 p c BQ BK BL BM BS BR thm (Bh BM []) ((B0 (BY.mk BQ BK BL BM BS BR thm) A n x).1)) ⟨_, _, Ay, Ay, Ay⟩ (C1 _) (aw (we Ay) (aw (we Ay) (aw (we Ay) (C7)))) AA trivial (Ba (j := 0) Ay Ay Ay (fun H i hi => A8 (i := i) Cz Ay hi Ak) AA trivial (BA Ay Ay (fun _ => Bf (rows := List.map CS [((DE (BY.mk BQ BK BL BM BS BR thm) A ((B0 (BY.mk BQ BK BL BM BS BR thm) A n x).2)).1)]) KJ EC Ay Ay Ay Ay (B9 (F7 _)) (J2 _)) trivial ?_))
 refine CO [5] Ay Ay Ay (.inl ⟨Ay, Ay, Ay⟩) (Gw p c BQ BK BL BM BS BR thm (Dj (BY.mk BQ BK BL BM BS BR thm) (Bh BM []) ((B0 (BY.mk BQ BK BL BM BS BR thm) A n x).1)) [((DE (BY.mk BQ BK BL BM BS BR thm) A ((B0 (BY.mk BQ BK BL BM BS BR thm) A n x).2)).1)] AR) ⟨_, _, Ay, Ay, Ay⟩ (C1 _) (aw (we Ay) (aw (we Ay) (aw (we Ay) (C7)))) AA trivial (BA Ay Ay (fun _ => A1 Ay) trivial (Cw Ay Ay (BB (i := 2) Cz Ay Ay Ay Ak Ab (Co _)) AA trivial (BA Ay Ay (fun _ => A4 Ay) trivial (CP Ay Ar (BF (⟨Ay, _, _, ⟨_, _, Ay, (Bt (i := 2) Cz Ay Ay Ak), ⟨_, _, Ay, Ay, Ay⟩⟩, (C2 (is := [3, 4, 5, 6, 7, 8]) Ay), ?_⟩))))))
 all_goals exact ⟨rfl, rfl⟩
theorem Uy : ∀ (GL : List (Nat × Obj)) (hG : G3 GL) (p c : Nat) (BQ BK BL BM BS BR : ByteArray) (thm : List ByteArray)(m : Nat) (cs : List Int) (A : List Tm) (al : Int)(n : Nat) (t : Tm), (size t ≤ n) → (Gj t) → (size t < 1000000) → (∀ a ∈ A, OA a) → (∀ a ∈ DL (BY.mk BQ BK BL BM BS BR thm) n t, a ∈ A) → ((DL (BY.mk BQ BK BL BM BS BR thm) n t).length < 1000000) → (thm.length = 14) → B1 Tryz.prog 47 [.ptr p 0, .agg ((Bu t).map .p)] [.box p [.p (.str BQ), .p (.str BK), .p (.str BL), .p (.str BM), .p (.str BS), .p (.str BR), .p (.lst (List.map CZ thm)), .ptr c 0], .box c [.p (.lst (List.map C0 cs)), .p (.lst (Bg A)), .map m, .p (I al)], .map m (EG (GB 0 A)), .glob GL] (Dq (.tup [.agg ((CS ((B0 (BY.mk BQ BK BL BM BS BR thm) A n t).1)).map .p), .p (.lst (List.map Cm ((B0 (BY.mk BQ BK BL BM BS BR thm) A n t).2)))]) [.box p [.p (.str BQ), .p (.str BK), .p (.str BL), .p (.str BM), .p (.str BS), .p (.str BR), .p (.lst (List.map CZ thm)), .ptr c 0], .box c [.p (.lst (List.map C0 cs)), .p (.lst (Bg A)), .map m, .p (I al)], .map m (EG (GB 0 A)), .glob GL]) := by
 intro GL hG p c BQ BK BL BM BS BR thm m cs A al n
 induction n with
 | zero => intro t h; cases t; simp [size] at h
 | succ n ih =>
  intro t h1 h2 h3 h4 h5 h6 h7
  refine BH Tryz.func47 Ay gw (n := 29) Ay Ay (A2 (A0 (BP Ay Ay (Bj Ay) fun b2 => BP Ay Ay (Bj Ay) fun b3 => BP Ay Ay (BN EC Ay) fun b4 => Az Ay Ay (A4 Ay) (A5 Ay (A2 ?_)))))
  refine D6 [.val (.ptr p 0), .val (.ptr p 0), .val (.ptr p (0 + 0)), .val (.agg [.p (.str BQ), .p (.str BK), .p (.str BL), .p (.str BM), .p (.str BS), .p (.str BR), .p (.lst (List.map CZ thm))]), .val (.agg ((Bu t).map .p)), .val (.tup [.p (I ((DU (BY.mk BQ BK BL BM BS BR thm) t).1)), .p (.lst (Bg ((DU (BY.mk BQ BK BL BM BS BR thm) t).2)))]), .val (.tup [.p (I ((DU (BY.mk BQ BK BL BM BS BR thm) t).1)), .p (.lst (Bg ((DU (BY.mk BQ BK BL BM BS BR thm) t).2)))]), .val (.p (I ((DU (BY.mk BQ BK BL BM BS BR thm) t).1))), .val (.p (.lst (Bg ((DU (BY.mk BQ BK BL BM BS BR thm) t).2)))), .new [.p (.nils)], .val (.p (I ((DU (BY.mk BQ BK BL BM BS BR thm) t).1)))] ED Ay Ar Ar (BZ Ay (fun Bs => A9 (i := Bs.length + 2) JA Ay (B3 Ay) Ay) (BZ Ay (fun Bs => Bn Ay) ?_))
  refine BZ Ay (fun Bs => A3 Il Ay Ay) (BZ Ay (fun Bs => CB (i := Bs.length + 3) Fo Ay (B3 Ay) Ay Ay) (BZ Ay (fun Bs => A8 (i := Bs.length + 1) BU Ay (B3 Ay) Am) (BZ Ay (fun Bs => Bp Ay Ay (ZM (BY.mk BQ BK BL BM BS BR thm) t h2.nd h3) Ay) (BZ Ay (fun Bs => A1 Ay) (BZ Ay (fun Bs => Bi Ay Ay) (BZ Ay (fun Bs => Bi Ay Ay) (Fh Ay (fun Bs => BN fJ Ay) fun b7 => BZ Ay (fun Bs => A4 Ay) (E9 ?_))))))))
  change AL _ _ _ 11 ⟨29, _, [.box b7 [.p (.nils)], .box b4 [.p (I 0), .p (I 0), .p (.str ⟨#[]⟩), .p (.nils), .p (.nils), .p (I 0), .p (I 0), .p (.str ⟨#[]⟩), .p (.nils), .p (.nils), .p (I 0), .p (I 0), .p (.str ⟨#[]⟩), .p (.nils), .p (.nils), .p (.bool false)], .box b3 ((Bu t).map .p), .box b2 [.ptr p 0], .box p [.p (.str BQ), .p (.str BK), .p (.str BL), .p (.str BM), .p (.str BS), .p (.str BR), .p (.lst (List.map CZ thm)), .ptr c 0], .box c [.p (.lst (List.map C0 cs)), .p (.lst (Bg A)), .map m, .p (I al)], .map m (EG (GB 0 A)), .glob GL], []⟩ _
  refine Az Ay Ay (Bm (i := 0) DG Ay Ay Ay Ay Ay Ay) (A5 Ay (A2 (A0 (Az Ay Ay (DQ Ay Ay) (Az Ay Ay (DQ Ay Ay) (Az Ay Ay (DQ Ay Ay) (Az Ay Ay (DQ Ay Ay) (Az Ay Ay (Ks SM Mu ZZ Ay) (BP Ay Ay (BN ZZ Ay) fun b8 => Az Ay Ay (Bm (i := 0) eT Ay Ay Ay Ay Ay Ay) (A5 Ay (A2 ?_)))))))))))
  rcases Sy (BY.mk BQ BK BL BM BS BR thm) t with ho | ho | ho | ho
  ·rw [Tj ho] at h5
   refine B2 (Eo (t := 6) (x := .p (I 0)) (pI ho)) (A0 (Az Ay Ay (A1 Ay) (Az Ay Ay (Fp SM Mu Ay Ay Av Av) (Az Ay Ay (A9 (i := 0) Mu Ay Ay Ay) (Az Ay Ay (Cf [4, 3, 5, 6, 7, 8] Ay (.inr Ay) (cG GL hG b2 b3 p c BQ BK BL BM BS BR thm m cs A al t h2 h3 (h5 t Ax) h4 h7) ⟨_, _, Ay, Ay, ⟨_, _, Ay, Ay, ⟨_, _, Ay, Ay, ⟨_, _, Ay, Ay, ⟨_, _, Ay, Ay, ⟨_, _, Ay, Ay, Ay⟩⟩⟩⟩⟩⟩ Av Ay (.inl Ay)) (Az Ay Ay (Bi Ay Ay) (Az Ay Ay (Bi Ay Ay) (Az Ay Ay (BB (i := 2) Cz Ay Ay Ay Ak Ab (Co _)) (Az Ay Ay (A4 Ay) (A5 Ay (BF (⟨Ay, _, _, ⟨_, _, Ay, (Bt (i := 2) Cz Ay Ay Ak), ⟨_, _, Ay, Ay, Ay⟩⟩, (C2 (is := [5, 6, 7, 8]) Ay), ?_⟩))))))))))))
   rw [R7 ho]
   all_goals exact ⟨rfl, rfl⟩
  ·have hl := (HU (th := (BY.mk BQ BK BL BM BS BR thm)) (t := t)).1 ho
   have e2 := Ho (th := (BY.mk BQ BK BL BM BS BR thm)) (t := t) (by rw [ho]; decide) (by rw [ho]; decide)
   obtain ⟨x, hx⟩ : ∃ x, (DU (BY.mk BQ BK BL BM BS BR thm) t).2[0]? = some x := ⟨_, List.getElem?_eq_getElem Aw⟩
   obtain ⟨y, hy⟩ : ∃ x, (DU (BY.mk BQ BK BL BM BS BR thm) t).2[1]? = some x := ⟨_, List.getElem?_eq_getElem Aw⟩
   rw [VC ho hx hy] at h5 h6
   rw [List.length_append] at h6
   have hnx := HE (th := (BY.mk BQ BK BL BM BS BR thm)) (A := A) n x
   have hny := HE (th := (BY.mk BQ BK BL BM BS BR thm)) (A := A) n y
   refine B2 (Eo (t := 6) (x := .p (I 1)) (pI ho)) (A0 (Az Ay Ay (A1 Ay) (Az Ay Ay (Fp SM Mu Ay Ay Av Av) (Az Ay Ay (A9 (i := 0) Mu Ay Ay Ay) ?_))))
   refine Az Ay Ay (Cf [4, 1, 5, 6, 7, 8] Ay (.inr Ay) (cO GL hG b2 b7 p c BQ BK BL BM BS BR thm m cs A al n ((DU (BY.mk BQ BK BL BM BS BR thm) t).2) x y hx hy (ih x (by have := (h2.arg (e2 ▸ hx)).2; omega) (h2.arg (e2 ▸ hx)).1 (by have := (h2.arg (e2 ▸ hx)).2; omega) h4 (fun a ha => h5 a (List.mem_append_left _ ha)) Aw h7) (ih y (by have := (h2.arg (e2 ▸ hy)).2; omega) (h2.arg (e2 ▸ hy)).1 (by have := (h2.arg (e2 ▸ hy)).2; omega) h4 (fun a ha => h5 a (List.mem_append_right _ ha)) Aw h7) (IP n x fun a ha => h5 a (List.mem_append_left _ ha)) (IP n y fun a ha => h5 a (List.mem_append_right _ ha)) Aw h7) ⟨_, _, Ay, Ay, ⟨_, _, Ay, Ay, ⟨_, _, Ay, Ay, ⟨_, _, Ay, Ay, ⟨_, _, Ay, Ay, ⟨_, _, Ay, Ay, Ay⟩⟩⟩⟩⟩⟩ Av Ay (.inl Ay)) (Az Ay Ay (Bi Ay Ay) (Az Ay Ay (Bi Ay Ay) ?_))
   refine Az Ay Ay (BB (i := 2) Cz Ay Ay Ay Ak Ab (Co _)) (Az Ay Ay (A4 Ay) (A5 Ay (BF (⟨Ay, _, _, ⟨_, _, Ay, (Bt (i := 2) Cz Ay Ay Ak), ⟨_, _, Ay, Ay, Ay⟩⟩, (C2 (is := [5, 6, 7, 8]) Ay), ?_⟩))))
   rw [TT ho hx hy]
   all_goals exact ⟨rfl, rfl⟩
  ·refine B2 (Eo (t := 6) (x := .p (I 2)) (pI ho)) (A0 (Az Ay Ay (A1 Ay) (Az Ay Ay (Fp SM Mu Ay Ay Av Av) (Az Ay Ay (A9 (i := 0) Mu Ay Ay Ay) (Az Ay Ay (Cf [4, 3, 5, 6, 7, 8] Ay (.inr Ay) (dJ GL hG b2 b3 p c BQ BK BL BM BS BR thm m cs A al t) ⟨_, _, Ay, Ay, ⟨_, _, Ay, Ay, ⟨_, _, Ay, Ay, ⟨_, _, Ay, Ay, ⟨_, _, Ay, Ay, ⟨_, _, Ay, Ay, Ay⟩⟩⟩⟩⟩⟩ Av Ay (.inl Ay)) (Az Ay Ay (Bi Ay Ay) (Az Ay Ay (Bi Ay Ay) (Az Ay Ay (BB (i := 2) Cz Ay Ay Ay Ak Ab (Co _)) (Az Ay Ay (A4 Ay) (A5 Ay (BF (⟨Ay, _, _, ⟨_, _, Ay, (Bt (i := 2) Cz Ay Ay Ak), ⟨_, _, Ay, Ay, Ay⟩⟩, (C2 (is := [5, 6, 7, 8]) Ay), ?_⟩))))))))))))
   rw [SU ho]
   all_goals exact ⟨rfl, rfl⟩
  have hl := (HU (th := (BY.mk BQ BK BL BM BS BR thm)) (t := t)).2 ho
  have e2 := Ho (th := (BY.mk BQ BK BL BM BS BR thm)) (t := t) (by rw [ho]; decide) (by rw [ho]; decide)
  obtain ⟨x, hx⟩ : ∃ x, (DU (BY.mk BQ BK BL BM BS BR thm) t).2[0]? = some x := ⟨_, List.getElem?_eq_getElem Aw⟩
  rw [U6 ho hx] at h5 h6
  have hnx := HE (th := (BY.mk BQ BK BL BM BS BR thm)) (A := A) n x
  refine B2 (Eo (t := 6) (x := .p (I 3)) (pI ho)) (A0 (Az Ay Ay (A1 Ay) (Az Ay Ay (Fp SM Mu Ay Ay Av Av) (Az Ay Ay (A9 (i := 0) Mu Ay Ay Ay) (Az Ay Ay (Cf [4, 1, 5, 6, 7, 8] Ay (.inr Ay) (da GL hG b2 b7 p c BQ BK BL BM BS BR thm m cs A al n ((DU (BY.mk BQ BK BL BM BS BR thm) t).2) x hx (ih x (by have := (h2.arg (e2 ▸ hx)).2; omega) (h2.arg (e2 ▸ hx)).1 (by have := (h2.arg (e2 ▸ hx)).2; omega) h4 h5 h6 h7) (IP n x h5) Aw h7) ⟨_, _, Ay, Ay, ⟨_, _, Ay, Ay, ⟨_, _, Ay, Ay, ⟨_, _, Ay, Ay, ⟨_, _, Ay, Ay, ⟨_, _, Ay, Ay, Ay⟩⟩⟩⟩⟩⟩ Av Ay (.inl Ay)) (Az Ay Ay (Bi Ay Ay) (Az Ay Ay (Bi Ay Ay) (Az Ay Ay (BB (i := 2) Cz Ay Ay Ay Ak Ab (Co _)) (Az Ay Ay (A4 Ay) (A5 Ay (BF ?_)))))))))))
  refine ⟨Ay, _, _, ⟨_, _, Ay, (Bt (i := 2) Cz Ay Ay Ak), ⟨_, _, Ay, Ay, Ay⟩⟩, (C2 (is := [5, 6, 7, 8]) Ay), ?_⟩
  rw [To ho hx]
  all_goals exact ⟨rfl, rfl⟩
theorem _root_.Go.Ad {α : Prop} (h : α := by first | rfl | simp [SP]) : α := h
theorem _root_.Go.Ao {α : Prop} (h : α := by simp [SP]) : α := h
theorem aK : ∀ (l b1 b2 : Nat) (d : Dt) (at_ : Int) (nm : ByteArray) (TA : G8 → List Bc) (T0 : List Bc), (d.kind = 0 ∨ Rl d) → (∀ s e, (s, e) ∈ FA d at_ → H6 Tryz.prog l [.p (.str s), .agg ((FL e).map .p)] T0 (Ht (.p (.bool (!decide (s = nm)))) (fun T => T = if s = nm then TA e else T0))) → B1 Tryz.prog 140 [.fn (.yield l) [] [], .ptr b2 0, .ptr b1 0] (.box b1 ((Ci d).map .p) :: .box b2 [.p (I at_)] :: T0) (Ht (.tup []) (fun H => ∃ T, T = H9 TA T0 nm (FA d at_) ∧ H = .box b1 ((Ci d).map .p) :: .box b2 [.p (I at_)] :: T)) := by
 intro l b1 b2 d at_ nm TA T0 h1 h2
 refine BH Tryz.func140 Ay eV (n := 98) Ay Ay (A2 (A0 (Az Ay Ay (A9 (i := 1) C9 Ay Ay Ay) (Az Ay Ay (A3 CR Ay Ay) (Az Ay Ay (BJ (i := 0) C9 Ay Ay (C4 _)) (Az Ay Ay (A3 CR Ay Ay) (Az Ay Ay (Cl (i := 0) BU Ay Ay (F9 _) (Bd _)) (Az Ay Ay (Bv I7 JB (Vr Ay Ay Ay)) (BP Ay Ay (BN JB Ay) fun b4 => Az Ay Ay (BB (i := 0) FC Ay Ay Ay Ao Ad (EK _)) (A5 Ay (A2 (A0 (Az Ay Ay (A3 CR Ay Ay) (Az Ay Ay (BJ (i := 1) C9 Ay Ay (Dl _)) (A5 Ay (BT (A2 (A2 (A0 (Az Ay Ay (BE Ay Ay Ay) (Az Ay Ay (A4 Ay) (A5 Ay ?_))))))))))))))))))))))
 refine Bx [0, 1, 2, 4, 16] 17 (fun y => y = .p (.bool (decide (d.kind = 0 ∨ d.kind = 1 ∨ d.kind = 2)))) ?_ ?_
 ·refine BD Ay (fun c => ?_) (fun c => ?_)
  ·(try simp only [sd, se] at c)
   exact BG (⟨Ay, Ay, (List.Sublist.refl _), (by refine pB (Bool.eq_iff_iff.2 ?_); simp only [beq_iff_eq, decide_eq_true_eq]; omega), ⟨Ay, Ay, Ay, Ay, Ay, trivial⟩⟩)
  (try simp only [sd, se] at c)
  refine A2 (A0 (Az Ay Ay (BE Ay Ay Ay) (Az Ay Ay (A4 Ay) (A5 Ay (BD Ay (fun c1 => ?_) (fun c1 => ?_))))))
  ·(try simp only [sd, se] at c1)
   exact BG (⟨Ay, Ay, (List.Sublist.refl _), (by refine pB (Bool.eq_iff_iff.2 ?_); simp only [beq_iff_eq, decide_eq_true_eq]; omega), ⟨Ay, Ay, Ay, Ay, Ay, trivial⟩⟩)
  (try simp only [sd, se] at c1)
  exact A0 (Az Ay Ay (BE Ay Ay Ay) (Az Ay Ay (A4 Ay) (A5 Ay (⟨Ay, Ay, (List.Sublist.refl _), (by refine pB (Bool.eq_iff_iff.2 ?_); simp only [beq_iff_eq, decide_eq_true_eq]; omega), ⟨Ay, Ay, Ay, Ay, Ay, trivial⟩⟩))))
 rintro _ rfl
 refine BD Ay (fun c => ?_) (fun c => ?_)
 ·(try simp only [sd, se] at c)
  have hx0 : ([0, 1, 2] : List Int)[d.kind.toNat]? = some d.kind := by
   have : d.kind = 0 ∨ d.kind = 1 ∨ d.kind = 2 := by simpa using c
   rcases this with e | e | e <;> rw [e] <;> rfl
  have hk0 : 0 ≤ d.kind ∧ d.kind < 3 := by
   have : d.kind = 0 ∨ d.kind = 1 ∨ d.kind = 2 := by simpa using c
   omega
  refine A2 (A0 (Az Ay Ay (CJ GF Xj Ay Ay Ay Ay Ay) (Az Ay Ay (A3 CR Ay Ay) (Az Ay Ay (BJ (i := 1) C9 Ay Ay (Dl _)) (Az Ay Ay (BI GF Ay Ay Aw (E7 hx0) (Ay)) (Az Ay Ay (CQ C9 Ay) (Az Ay Ay (A3 I7 Ay Ay) (Az Ay Ay (Di (i := 0) (ds := (FL (G8.mk d.kind at_ 0 d.params d.type)).map .p) C9 Ay Ay Ay Ay Ay Ay Ay) (A5 Ay (A0 (Az Ay Ay (A1 Ay) (Az Ay Ay (A3 CR Ay Ay) (Az Ay Ay (BJ (i := 1) Ev Ay Ay (Dz _)) (Az Ay Ay (A8 (i := 0) FC Ay Ay Ao) (Gf [_, _, _] Ay Ay Ay Ay (h2 _ _ (XT (by simpa using c))) Ay ?_ (fun _ _ h => h.elim))))))))))))))))
  rintro _ T ⟨rfl, hT⟩
  refine A5 Ay ⟨Ay, _, _, Ay, (Fu [1, 2] [_, _, _] Ay), ?_⟩
  exact ⟨Ay, _, (hT.trans (Sw (by simpa using c)).symm), Ay⟩
 (try simp only [sd, se] at c)
 have hD : Rl d := by
  rcases h1 with h | h
  ·exact absurd (show d.kind = 0 ∨ d.kind = 1 ∨ d.kind = 2 from .inl h) (by simpa using c)
  exact h
 have hcl := hD.cl
 have hfl := hD.fl
 refine A2 (A0 (Az Ay Ay (BE Ay Ay Ay) (Az Ay Ay (A4 Ay) (A5 Ay (BD Ay (fun c1 => ?_) (fun c1 => ?_))))))
 ·(try simp only [sd, se] at c1)
  refine A2 (A0 (Az Ay Ay (A3 I7 Ay Ay) (Az Ay Ay (Di (i := 0) (ds := (FL (G8.mk 3 at_ 0 d.params d.type)).map .p) C9 Ay Ay Ay Ay Ay Ay Ay) (A5 Ay (A2 (A2 (A0 (Az Ay Ay (A1 Ay) (Az Ay Ay (A3 CR Ay Ay) (Az Ay Ay (BJ (i := 1) Ev Ay Ay (Dz _)) (Az Ay Ay (A8 (i := 0) FC Ay Ay Ao) (Gf [_, _, _] Ay Ay Ay Ay (h2 _ _ (Xt (by simpa using c1))) Ay ?_ (fun _ _ h => h.elim)))))))))))))
  rintro _ T ⟨rfl, hT⟩
  refine Az Ay Ay (Cp Ay) (A5 Ay (BD Ay (fun c2 => ?_) (fun c2 => ?_)))
  ·(try simp only [sd, se] at c2)
   refine BF ⟨Ay, _, _, Ay, (Fu [1, 2] [_, _, _] Ay), ?_⟩
   exact ⟨Ay, _, (hT.trans ((if_pos (by simpa using c2)).trans (VD (by simpa using c1) (by simpa using c2)).symm)), Ay⟩
  (try simp only [sd, se] at c2)
  have qc2 : ¬ (d.name = nm) := by simpa using c2
  rw [if_neg qc2] at hT
  have hT := hT.symm
  subst hT
  refine BG (A2 (A2 (A0 (Az Ay Ay (A3 CR Ay Ay) (Az Ay Ay (BJ (i := 1) G0 Ay Ay (Cy _)) (Az Ay Ay (Bo Ge Ay (List.length_map _)) (Az Ay Ay (A1 Ay) (A5 Ay (BT ?_)))))))))
  refine B4 (α := Nat) (fun i => ⟨98, mk [(0, .fn (.yield l) [] []), (1, .ptr b2 0), (2, .ptr b1 0), (42, .p (.lst (List.map IZ d.ctors))), (43, .p (I (d.ctors.length : Nat))), (44, .p (I (i : Int)))], (.box b1 ((Ci d).map .p) :: .box b2 [.p (I at_)] :: T0), []⟩) (fun i => d.ctors.length - i) (fun i => i ≤ d.ctors.length ∧ (∀ j, j < i → ∀ y, d.ctors[j]? = some y → y.name ≠ nm)) 0 (⟨by omega, fun j h => by omega⟩) ?_ ?_
  ·exact By ⟨we Ay, we Ay, we Ay, we Ay, we Ay, we Ay, trivial⟩ (Pg [1, 2] [_, _, _] (l' := [_, _]) Ay (wl (oe Ay) (wl (oe Ay) (Dc))))
  rintro i hC
  try simp only at hC
  obtain ⟨hi, hC⟩ := hC
  refine A2 (A0 (Az Ay Ay (BE Ay Ay Ay) (A5 Ay (A2 (BD Ay (fun c3 => ?_) (fun c3 => ?_))))))
  ·(try simp only [sd, se] at c3)
   refine BG (A2 (BT (A2 (A0 (Az Ay Ay (A1 Ay) ?_)))))
   obtain ⟨x, hx⟩ := BO (l := d.ctors) (i := i) Aw
   refine Az Ay Ay (BI Ge Ay Ay Aw (F5 hx) (Eh _)) (Az Ay Ay (Bq Zf Ay (Eh _)) (BP Ay Ay (BN eX Ay) fun b6 => Az Ay Ay (A4 Ay) (Az Ay Ay (BB (i := 0) Zf Ay Ay Ay (by simp [Eh]) (by first | rfl | simp [Eh]) (Yd _)) (A5 Ay (A2 (A0 (Az Ay Ay (A1 Ay) (Az Ay Ay (A3 LY Ay Ay) (Az Ay Ay (BJ (i := 0) Ev Ay Ay (II _)) (Az Ay Ay (A9 (i := 2) C9 Ay Ay Ay) (Az Ay Ay (A1 Ay) (Az Ay Ay (A3 CR Ay Ay) (Az Ay Ay (BJ (i := 1) C9 Ay Ay (C4 _)) (Az Ay Ay (A3 LY Ay Ay) (Az Ay Ay (Cl (i := 0) BU Ay Ay (F8 _) (Bd _)) (Az Ay Ay (Bv I7 JB (Mi Ay Ay Ay Ay Ay)) ?_))))))))))))))))
   refine Gf [_, _, _] Ay Ay Ay Ay (h2 _ _ (Wz (by simpa using c1) hx)) Ay ?_ (fun _ _ h => h.elim)
   rintro _ T1 ⟨rfl, hT1⟩
   refine Az Ay Ay (Cp Ay) (A5 Ay (BD Ay (fun c4 => ?_) (fun c4 => ?_)))
   ·(try simp only [sd, se] at c4)
    refine BF ⟨Ay, _, _, Ay, (Fu [1, 2] [_, _, _] Ay), ?_⟩
    exact ⟨Ay, _, (hT1.trans ((if_pos (by simpa using c4)).trans (Tb (by simpa using c1) qc2 hx (by simpa using c4) hC).symm)), Ay⟩
   (try simp only [sd, se] at c4)
   have qc4 : ¬ (x.name = nm) := by simpa using c4
   rw [if_neg qc4] at hT1
   have hT1 := hT1.symm
   subst hT1
   refine BG (A0 (Az Ay Ay (CH Ay Ay Aw Aw) (Az Ay Ay (A1 Ay) (A5 Ay (⟨(i + 1), AZ, ⟨by omega, D5 (p := fun _ (y : KH) => y.name ≠ nm) hC hx qc4⟩, By ⟨we rfl, we rfl, we rfl, we rfl, we rfl, we rfl, trivial⟩ (Pg [1, 2] [_, _, _] (l' := [_, _]) rfl (wl (oe rfl) (wl (oe rfl) (Dc))))⟩)))))
  (try simp only [sd, se] at c3)
  refine B7 (A0 (Az Ay Ay (A1 Ay) (Az Ay Ay (A3 CR Ay Ay) (Az Ay Ay (BJ (i := 0) Ev Ay Ay (Dz _)) (Az Ay Ay (EY Ay Ay (by have : (⟨#[46, 114, 101, 99]⟩ : ByteArray).size = 4 := rfl; have := hD.nm; omega)) (Az Ay Ay (A9 (i := 1) C9 Ay Ay Ay) (Az Ay Ay (A3 CR Ay Ay) (Az Ay Ay (A3 Ga Ay Ay) (Az Ay Ay (BJ (i := 0) C9 Ay Ay (DS _)) (Az Ay Ay (A3 CR Ay Ay) (Az Ay Ay (A3 Ga Ay Ay) (Az Ay Ay (Cl (i := 0) BU Ay Ay (Ek _) (Bd _)) (Az Ay Ay (Bv I7 JB (Um Ay Ay Ay Ay)) (Gf [_, _] Ay Ay Ay Ay (h2 _ _ (Yv (by simpa using c1))) Ay ?_ (fun _ _ h => h.elim)))))))))))))))
  rintro _ T1 ⟨rfl, hT1⟩
  refine A5 Ay ⟨Ay, _, _, Ay, (Fu [0, 1] [_, _] Ay), ?_⟩
  exact ⟨Ay, _, (hT1.trans (Ut (by simpa using c1) qc2 fun j hj => hC j Aw).symm), Ay⟩
 (try simp only [sd, se] at c1)
 refine A2 (A0 (Az Ay Ay (BE Ay Ay Ay) (Az Ay Ay (A4 Ay) (A5 Ay (BD Ay (fun c2 => ?_) (fun c2 => ?_))))))
 ·(try simp only [sd, se] at c2)
  refine A2 (A0 (Az Ay Ay (A3 CR Ay Ay) (Az Ay Ay (BJ (i := 1) Fj Ay Ay (Cq _)) (Az Ay Ay (Bo FP Ay (List.length_map _)) (Az Ay Ay (A1 Ay) (A5 Ay (BT ?_)))))))
  refine B4 (α := Nat) (fun i => ⟨98, mk [(0, .fn (.yield l) [] []), (1, .ptr b2 0), (2, .ptr b1 0), (78, .p (.lst (List.map Kj d.funs))), (79, .p (I (d.funs.length : Nat))), (80, .p (I (i : Int)))], (.box b1 ((Ci d).map .p) :: .box b2 [.p (I at_)] :: T0), []⟩) (fun i => d.funs.length - i) (fun i => i ≤ d.funs.length ∧ (∀ j, j < i → ∀ y, d.funs[j]? = some y → y.name ≠ nm)) 0 (⟨by omega, fun j h => by omega⟩) ?_ ?_
  ·exact By ⟨we Ay, we Ay, we Ay, we Ay, we Ay, we Ay, trivial⟩ (Pg [1, 2] [_, _, _] (l' := [_, _]) Ay (wl (oe Ay) (wl (oe Ay) (Dc))))
  rintro i hC
  try simp only at hC
  obtain ⟨hi, hC⟩ := hC
  refine A2 (A0 (Az Ay Ay (BE Ay Ay Ay) (A5 Ay (A2 (BD Ay (fun c3 => ?_) (fun c3 => ?_))))))
  ·(try simp only [sd, se] at c3)
   refine BG (A2 (BT (A2 (A0 (Az Ay Ay (A1 Ay) ?_)))))
   obtain ⟨x, hx⟩ := BO (l := d.funs) (i := i) Aw
   refine Az Ay Ay (BI FP Ay Ay Aw (FY hx) (Ec _)) (Az Ay Ay (Bq ZL Ay (Ec _)) (BP Ay Ay (BN dW Ay) fun b8 => Az Ay Ay (A4 Ay) (Az Ay Ay (BB (i := 0) ZL Ay Ay Ay (by simp [Ec]) (by first | rfl | simp [Ec]) (YZ _)) (A5 Ay (A2 (A0 (Az Ay Ay (A1 Ay) (Az Ay Ay (A3 Jc Ay Ay) (Az Ay Ay (BJ (i := 0) Ev Ay Ay (IG _)) (Az Ay Ay (A9 (i := 2) C9 Ay Ay Ay) (Az Ay Ay (A1 Ay) (Az Ay Ay (A3 CR Ay Ay) (Az Ay Ay (BJ (i := 1) C9 Ay Ay (C4 _)) (Az Ay Ay (A3 Jc Ay Ay) (Az Ay Ay (Cl (i := 0) BU Ay Ay (IK _) (Bd _)) (Az Ay Ay (Bv I7 JB (Mi Ay Ay Ay Ay Ay)) ?_))))))))))))))))
   refine Gf [_, _, _] rfl rfl rfl rfl (h2 _ _ (Yt (by simpa using c2) hx)) rfl ?_ (fun _ _ h => h.elim)
   rintro _ T ⟨rfl, hT⟩
   refine Az Ay Ay (Cp Ay) (A5 Ay (BD Ay (fun c4 => ?_) (fun c4 => ?_)))
   ·(try simp only [sd, se] at c4)
    refine BF ⟨Ay, _, _, Ay, (Fu [1, 2] [_, _, _] Ay), ?_⟩
    exact ⟨Ay, _, (hT.trans ((if_pos (by simpa using c4)).trans (VZ (by simpa using c2) hx (by simpa using c4) hC).symm)), Ay⟩
   (try simp only [sd, se] at c4)
   have qc4 : ¬ (x.name = nm) := by simpa using c4
   rw [if_neg qc4] at hT
   have hT := hT.symm
   subst hT
   refine BG (A0 (Az Ay Ay (CH Ay Ay Aw Aw) (Az Ay Ay (A1 Ay) (A5 Ay (⟨(i + 1), AZ, ⟨by omega, D5 (p := fun _ (y : KI) => y.name ≠ nm) hC hx qc4⟩, By ⟨we rfl, we rfl, we rfl, we rfl, we rfl, we rfl, trivial⟩ (Pg [1, 2] [_, _, _] (l' := [_, _]) rfl (wl (oe rfl) (wl (oe rfl) (Dc))))⟩)))))
  (try simp only [sd, se] at c3)
  refine B7 ⟨Ay, _, _, Ay, (Fu [0, 1] [_, _] Ay), ?_⟩
  exact ⟨Ay, _, (Tq (by simpa using c2) fun j hj => hC j Aw).symm, Ay⟩
 (try simp only [sd, se] at c2)
 refine BG ⟨Ay, _, _, Ay, (Fu [1, 2] [_, _, _] Ay), ?_⟩
 exact ⟨Ay, _, (S5 (by simpa using c) (by simpa using c1) (by simpa using c2)).symm, Ay⟩
theorem bB : ∀ (d : Dt) (at_ : Int), B1 Tryz.prog 112 [.agg ((Ci d).map .p), .p (I at_)] [] (fun r H' => ∃ b1 b2, r = .val (.fn (.func 140) [] [.ptr b2 0, .ptr b1 0]) ∧ H' = [.box b2 [.p (I at_)], .box b1 ((Ci d).map .p)]) := by
 intro d at_
 refine BH Tryz.func112 Ay bz (n := 6) Ay Ay (A2 (A0 (BP Ay Ay (Bj Ay) fun b2 => BP Ay Ay (Bj Ay) fun b3 => Az Ay Ay (A4 Ay) (A5 Ay (A2 (A0 (Az Ay Ay (DQ Ay Ay) (Az Ay Ay (A4 Ay) (A5 Ay (BF (⟨Ay, _, _, ⟨_, _, Ay, Ay, Ay⟩, (C2 (is := [0, 1]) Ay), ?_⟩)))))))))))
 exact ⟨_, _, Ay, Ay⟩
theorem Yr : ∀ (ds : List Dt) (nm : ByteArray), (ds.length < EB) → (Ow ds) → IA Tryz.prog 76 [.p (.lst (List.map Ci ds)), .p (.str nm)] (.tup [.agg ((FL ((Ed ds nm).1)).map .p), .p (I ((Ed ds nm).2))]) := by
 intro ds nm h1 h2
 simp only [EB] at h1
 refine Gv Tryz.func76 Ay gW (n := 28) Ay Ay (A2 (A0 (BP Ay Ay (Bj Ay) fun b3 => BP Ay Ay (BN JB Ay) fun b4 => BP Ay Ay (BN gK Ay) fun b5 => A5 Ay (A2 (A2 (A0 (Az Ay Ay (A1 Ay) (Az Ay Ay (Bo Lx Ay (List.length_map _)) (Az Ay Ay (A1 Ay) (A5 Ay (BT ?_)))))))))))
 refine B4 (α := Nat × List Nat) (fun (i, U) => ⟨28, mk [(3, .ptr b3 0), (4, .ptr b4 0), (5, .ptr b5 0), (10, .p (.lst (List.map Ci ds))), (11, .p (I (ds.length : Nat))), (12, .p (I (i : Int)))], (.box b5 [.p (I 0)] :: .box b4 [.p (I 0), .p (I 0), .p (I 0), .p (I 0), .p (I 0), .p (I 0), .p (.str ⟨#[]⟩), .p (.nils), .p (.nils)] :: .box b3 [.p (.str nm)] :: (U.map Bc.dfr)), (U.map Eb.mark)⟩) (fun (i, U) => ds.length - i) (fun (i, U) => i ≤ ds.length ∧ (∀ j, j < i → ∀ y, ds[j]? = some y → C5 nm (FA y j) = none)) ⟨0, []⟩ (⟨by omega, fun j h => by omega⟩) ?_ ?_
 ·exact By ⟨we Ay, we Ay, we Ay, we Ay, we Ay, we Ay, trivial⟩ (Pg [0, 1, 2] [_, _, _] (l' := [_, _, _]) Ay (wl (oe Ay) (wl (oe Ay) (wl (oe Ay) (Dc)))))
 rintro ⟨i, U⟩ hC
 try simp only at hC
 obtain ⟨hi, hC⟩ := hC
 refine A2 (A0 (Az Ay Ay (BE Ay Ay Ay) (A5 Ay (A2 (BD Ay (fun c => ?_) (fun c => ?_))))))
 ·(try simp only [sd, se] at c)
  refine BG (A2 (BT (A2 (A0 (Az Ay Ay (A1 Ay) ?_)))))
  obtain ⟨x, hx⟩ := BO (l := ds) (i := i) Aw
  have hx0 := h2 _ (List.mem_of_getElem? hx)
  refine Az Ay Ay (BI Lx Ay Ay Aw (JN hx) (D2 _)) (Az Ay Ay (Bq GG Ay (D2 _)) (BP Ay Ay (BN T7 Ay) fun b7 => Az Ay Ay (A4 Ay) (Az Ay Ay (BB (i := 0) GG Ay Ay Ay An (by first | rfl | simp [D2]) (YA _)) (A5 Ay (A2 (A0 (Az Ay Ay (A8 (i := 0) GG Ay Ay An) (Az Ay Ay (A1 Ay) ?_))))))))
  refine MQ (Hs := []) Ay Ay Ay (.inl ⟨Ay, Ay, Ay⟩) (List.Perm.refl _) ((bB x ((i : Int))).args (aw (we Ay) (aw (we Ay) C7))) (.inl Ay) ?_ (fun _ _ ⟨_, _, h, _⟩ => by cases h)
  rintro _ _ ⟨bd, ba, h, rfl⟩
  cases h
  refine A5 Ay (BT (J0 (.inr Ay) fun dd l L hL => ⟨_, _, P0 (is := [3, 2, 0, 4, 5, 6, 7]) (base := [_, _, _, _, _, _, _, _]) (rest := [.dfr dd]) Av ⟨_, _, Ay, Ay, ⟨_, _, Ay, Ay, ⟨_, _, Ay, Ay, ⟨_, _, Ay, Ay, ⟨_, _, Ay, Ay, ⟨_, _, Ay, Ay, ⟨_, _, Ay, Ay, Ay⟩⟩⟩⟩⟩⟩⟩ Ay, ?_⟩))
  have hy : ∀ (sn : ByteArray) (en : G8), (sn, en) ∈ FA x ((i : Int)) → H6 Tryz.prog l [.p (.str sn), .agg ((FL en).map .p)] [.loop l L, .box b7 ((Ci x).map .p), .box b5 [.p (I 0)], .box b4 [.p (I 0), .p (I 0), .p (I 0), .p (I 0), .p (I 0), .p (I 0), .p (.str ⟨#[]⟩), .p (.nils), .p (.nils)], .box b3 [.p (.str nm)]] (Ht (.p (.bool (!decide (sn = nm)))) (fun T : List Bc => T = if sn = nm then [.loop l { L with state := .done, pending := some .ret }, .box b7 ((Ci x).map .p), .box b5 [.p (I 0)], .box b4 ((FL en).map .p), .box b3 [.p (.str nm)]] else [.loop l L, .box b7 ((Ci x).map .p), .box b5 [.p (I 0)], .box b4 [.p (I 0), .p (I 0), .p (I 0), .p (I 0), .p (I 0), .p (I 0), .p (.str ⟨#[]⟩), .p (.nils), .p (.nils)], .box b3 [.p (.str nm)]])) := by
   intro sn en hm
   obtain ⟨LB, hLB⟩ : ∃ x, x = Bc.loop l { L with state := .busy } := ⟨_, rfl⟩
   subst hL
   refine LK (i := 0) Ay Ay Ay Ay (A2 (A0 (Az Ay Ay (A4 Ay) (A5 Ay (A0 (BP Ay Ay (BN JB Ay) fun b9 => Az Ay Ay (BB (i := 0) FC Ay Ay Ay Ao Ad (EK _)) (A5 Ay ⟨Ay, 1, Ay, ?_⟩)))))))
   rw [← hLB]
   refine BT (A2 (A0 (Az Ay Ay (A1 Ay) (Az Ay Ay (A9 (i := 5) Ev Ay Ay Ay) (Az Ay Ay (F6 Ay Ay) (A5 Ay (BD Ay (fun c1 => ?_) (fun c1 => ?_))))))))
   ·(try simp only [sd, se] at c1)
    refine A2 (A0 (Az Ay Ay (A8 (i := 0) FC Ay Ay Ao) (Az Ay Ay (BB (i := 4) FC Ay Ay Ay Ao Ad (EK _)) (Az Ay Ay (Bm (i := 3) YD Ay Ay Ay Ay Ay Ay) (A5 Ay (BF ?_))))))
    subst hLB
    refine ⟨1, _, Ay, C2 (is := [1, 2, 3, 4, 5]) Ay, ?_⟩
    have hcc : sn = nm := JX (by simpa using c1)
    exact ⟨by simp [hcc], (if_pos hcc).symm⟩
   (try simp only [sd, se] at c1)
   refine BG ?_
   subst hLB
   refine ⟨1, _, Ay, C2 (is := [1, 2, 3, 4, 5]) Ay, ?_⟩
   have hcc : ¬ (sn = nm) := fun h => by simp [h] at c1
   exact ⟨by simp [hcc], (if_neg hcc).symm⟩
  refine (aK l bd ba x ((i : Int)) nm (fun en => [.loop l { L with state := .done, pending := some .ret }, .box b7 ((Ci x).map .p), .box b5 [.p (I 0)], .box b4 ((FL en).map .p), .box b3 [.p (.str nm)]]) _ (hx0) hy).mono ?_
  rintro (v | v) H' hR
  rotate_left
  ·exact hR.elim
  obtain ⟨rfl, _, hT, rfl⟩ := hR
  subst hL
  unfold H9 at hT
  cases hF : C5 nm (FA x ((i : Int))) with
  | some en =>
   rw [hF] at hT
   simp only at hT
   subst hT
   refine Tk (i := 2) (.box bd ((Ci x).map .p) :: .box ba [.p (I (i : Int))] :: .box b7 ((Ci x).map .p) :: .box b5 [.p (I 0)] :: .box b4 ((FL en).map .p) :: .box b3 [.p (.str nm)] :: (.dfr dd :: U.map Bc.dfr)) Ay Ax Ay Ay (BF (Nk (dd :: U) (Hs := [_, _, _, _, _, _]) (⟨_, _, ⟨_, _, Ay, (Bt (i := 4) FC Ay Ay Ao), ⟨_, _, Ay, (SB (i := 3) YD Ay Ay), Ay⟩⟩, nS, ?_⟩)))
   all_goals exact ⟨by show (.tup [.agg ((FL en).map .p), .p (I 0)] : AV) = _; rw [XW hx hC hF], rfl⟩
  | none =>
   rw [hF] at hT
   simp only at hT
   subst hT
   refine Sc (i := 2) (.box bd ((Ci x).map .p) :: .box ba [.p (I (i : Int))] :: .box b7 ((Ci x).map .p) :: .box b5 [.p (I 0)] :: .box b4 [.p (I 0), .p (I 0), .p (I 0), .p (I 0), .p (I 0), .p (I 0), .p (.str ⟨#[]⟩), .p (.nils), .p (.nils)] :: .box b3 [.p (.str nm)] :: (.dfr dd :: U.map Bc.dfr)) Ay Ax Ay Ay (A0 (Az Ay Ay (CH Ay Ay Aw Aw) (Az Ay Ay (A1 Ay) (A5 Ay (⟨⟨i + 1, dd :: U⟩, AZ, ⟨by omega, D5 (p := fun j (y : Dt) => C5 nm (FA y j) = none) hC hx hF⟩, By ⟨we rfl, we rfl, we rfl, we rfl, we rfl, we rfl, trivial⟩ (Pg [3, 4, 5] [_, _, _, _, _, _] (l' := [_, _, _]) rfl (wl (oe rfl) (wl (oe rfl) (wl (oe rfl) (Dc)))))⟩)))))
 (try simp only [sd, se] at c)
 refine B7 (A2 (A0 (Az Ay Ay (Bv I7 JB Ay) (Az Ay Ay (Bm (i := 1) FC Ay Ay Ay Ay Ay Ay) (Az Ay Ay (Bm (i := 0) YD Ay Ay Ay Ay Ay Ay) (A5 Ay (B2 (Cv (i := 1) Ay) (BF (Nk U (Hs := [_, _, _]) (⟨_, _, ⟨_, _, Ay, (Bt (i := 1) FC Ay Ay Ay), ⟨_, _, Ay, (SB (i := 0) YD Ay Ay), Ay⟩⟩, nS, ?_⟩))))))))))
 all_goals exact ⟨by show (.tup [.agg [.p (I 0), .p (I 0), .p (I 0), .p (I 0), .p (I 0), .p (I 0), .p (.str ⟨#[]⟩), .p (.lst []), .p (.lst [])], .p (I 9)] : AV) = _; rw [Wr fun j hj => hC j Aw]; rfl, rfl⟩
theorem Z9 : ∀ (b0 : Nat) (ds : List Dt) (nm : ByteArray), (ds.length < EB) → (Ow ds) → B1 Tryz.prog 75 [.p (.str nm), .ptr b0 0] [.box b0 [.p (.lst (List.map Ci ds))]] (Dq (.p (.bool (!Nu ds nm))) [.box b0 [.p (.lst (List.map Ci ds))]]) := by
 intro b0 ds nm h1 h2
 refine BH Tryz.func75 Ay gP (n := 14) Ay Ay (A2 (A0 (Az Ay Ay (A4 Ay) (A5 Ay (A2 (A0 (Az Ay Ay (A9 (i := 0) XX Ay Ay Ay) (Az Ay Ay (A1 Ay) (Az Ay Ay (Bp Ay Ay (Yr ds nm h1 h2) Ay) (Az Ay Ay (A1 Ay) (Az Ay Ay (Bi Ay Ay) (Az Ay Ay (Bi Ay Ay) (BP Ay Ay (BN JB Ay) fun b4 => Az Ay Ay (BB (i := 0) FC Ay Ay Ay Ao Ad (EK _)) (Az Ay Ay (A4 Ay) (A5 Ay (A2 (A0 (Az Ay Ay (A1 Ay) (Az Ay Ay (BE Ay Ay Ay) (Az Ay Ay (A4 Ay) (A5 Ay (BF (⟨Ay, _, _, ⟨_, _, Ay, Ay, Ay⟩, (C2 (is := [1]) Ay), ?_⟩)))))))))))))))))))))))
 all_goals exact ⟨by show (.p (.bool (((Ed ds nm).2 : Int) != (0 : Int))) : AV) = _; simp only [Nu]; exact pB (Bool.eq_iff_iff.2 Ax), rfl⟩
theorem Zj : ∀ (b0 : Nat) (ds : List Dt) (l : List ByteArray), (ds.length < EB) → (Ow ds) → (l.length < EB) → B1 Tryz.prog 111 [.p (.lst (List.map CZ l)), .fn (.func 75) [] [.ptr b0 0]] [.box b0 [.p (.lst (List.map Ci ds))]] (Dq (.p (I (YS ds l 0))) [.box b0 [.p (.lst (List.map Ci ds))]]) := by
 intro b0 ds l h1 h2 h3
 have hbig : l.length < 1099511627776 := h3
 refine BH Tryz.func111 Ay eL (n := 19) Ay Ay (A2 (A0 (Az Ay Ay (A4 Ay) (A5 Ay (A2 (A2 (A0 (Az Ay Ay (A1 Ay) (Az Ay Ay (Bo EL Ay (List.length_map _)) (Az Ay Ay (A1 Ay) (A5 Ay (BT (B4 (α := Nat) (fun i => ⟨19, mk [(0, .p (.lst (List.map CZ l))), (1, .fn (.func 75) [] [.ptr b0 0]), (7, .p (I (l.length : Nat))), (8, .p (I (i : Int)))], [.box b0 [.p (.lst (List.map Ci ds))]], []⟩) (fun i => l.length - i) (fun i => i ≤ l.length ∧ (YS ds (l.drop i) i = YS ds l 0)) 0 (⟨by omega, rfl⟩) ?_ ?_)))))))))))))
 ·exact By ⟨we Ay, we Ay, we Ay, we Ay, trivial⟩ (leH (is := [0]) Ay (wl (oe Ay) (Dc)))
 rintro i hC
 try simp only at hC
 obtain ⟨hi, hC⟩ := hC
 refine A2 (A0 (Az Ay Ay (BE Ay Ay Ay) (A5 Ay (A2 (BD Ay (fun c => ?_) (fun c => ?_))))))
 ·(try simp only [sd, se] at c)
  refine BG (A2 (BT (A2 (A0 (Az Ay Ay (A1 Ay) (Az Ay Ay (A4 Ay) (A5 Ay (A2 (A0 (Az Ay Ay (A1 Ay) (Az Ay Ay (A1 Ay) (Az Ay Ay (A1 Ay) ?_))))))))))))
  obtain ⟨x, hx⟩ := BO (l := l) (i := i) Aw
  refine Az Ay Ay (BI EL Ay Ay Aw (Hv hx) (Ay)) (Az Ay Ay (CQ Ev Ay) (Az Ay Ay (Cf [0] Ay (.inr Ay) (Z9 b0 ds x h1 h2) ⟨_, _, Ay, Ay, Ay⟩ Av Ay (.inl Ay)) (A5 Ay (BD Ay (fun c1 => ?_) (fun c1 => ?_)))))
  ·(try simp only [sd, se] at c1)
   refine A2 (A0 (Az Ay Ay (A1 Ay) (Az Ay Ay (A4 Ay) (A5 Ay (BF (⟨Ay, _, _, ⟨_, _, Ay, Ay, Ay⟩, (C2 (is := [0]) Ay), ?_⟩))))))
   all_goals exact ⟨by show (.p (I (i : Int)) : AV) = _; rw [← hC, WL hx, if_neg (by simpa using c1)], rfl⟩
  (try simp only [sd, se] at c1)
  refine BG (A0 (Az Ay Ay (CH Ay Ay Aw Aw) (Az Ay Ay (A1 Ay) (A5 Ay ?_))))
  refine ⟨(i + 1), AZ, ⟨by omega, by rw [← hC, WL hx, if_pos (by simpa using c1)]; rfl⟩, By ⟨we rfl, we rfl, we rfl, we rfl, trivial⟩ (leH (is := [0]) rfl (wl (oe rfl) (Dc)))⟩
 (try simp only [sd, se] at c)
 refine B7 (A2 (A0 (Az Ay Ay (A4 Ay) (A5 Ay (BF (⟨Ay, _, _, ⟨_, _, Ay, Ay, Ay⟩, (C2 (is := [0]) Ay), ?_⟩))))))
 all_goals exact ⟨by show (.p (I (-1)) : AV) = _; rw [← hC, List.drop_eq_nil_of_le Aw]; rfl, rfl⟩
theorem aO : ∀ (b0 : Nat) (ds : List Dt) (l : List ByteArray), (ds.length < EB) → (Ow ds) → (l.length < EB) → B1 Tryz.prog 74 [.p (.lst (List.map CZ l)), .fn (.func 75) [] [.ptr b0 0]] [.box b0 [.p (.lst (List.map Ci ds))]] (Dq (.p (.bool (IF ds l))) [.box b0 [.p (.lst (List.map Ci ds))]]) := by
 intro b0 ds l h1 h2 h3
 refine BH Tryz.func74 Ay fB (n := 9) Ay Ay (A2 (A0 (Az Ay Ay (A4 Ay) (A5 Ay (A2 (A0 (Az Ay Ay (A1 Ay) (Az Ay Ay (A1 Ay) (Az Ay Ay (Cf [0] Ay (.inl ⟨Ay, Ay, Ay⟩) (Zj b0 ds l h1 h2 h3) ⟨_, _, Ay, Ay, Ay⟩ Av Ay (.inl Ay)) (Az Ay Ay (BE Ay Ay Ay) (Az Ay Ay (A4 Ay) (A5 Ay (BF (⟨Ay, _, _, ⟨_, _, Ay, Ay, Ay⟩, (C2 (is := [0]) Ay), ?_⟩))))))))))))))
 all_goals exact ⟨by show (.p (.bool (decide ((YS ds l 0 : Int) ≥ (0 : Int)))) : AV) = _; rw [← UX l 0 Aw], rfl⟩
theorem N8 : ∀ (ds : List Dt) (th : BY), (ds.length < EB) → (Ow ds) → (th.lemmas.length = 14) → IA Tryz.prog 44 [.p (.lst (List.map Ci ds)), .agg ((Ei th).map .p)] (.p (.bool (IF ds (Fq th)))) := by
 intro ds th h1 h2 h3
 obtain ⟨BQ, BK, BL, BM, BS, BR, thm⟩ := th
 simp only at h3
 refine BH Tryz.func44 Ay gg (n := 22) Ay Ay (A2 (A0 (BP Ay Ay (Bj Ay) fun b2 => BP Ay Ay (Bj Ay) fun b3 => Az Ay Ay (A4 Ay) (A5 Ay (A2 (D6 [.val (.ptr b3 (0 + 0)), .val (.p (.str BQ)), .val (.ptr b3 (0 + 1)), .val (.p (.str BK)), .val (.ptr b3 (0 + 2)), .val (.p (.str BL)), .val (.ptr b3 (0 + 3)), .val (.p (.str BM)), .newv 1 (List.map CZ ([BQ, BK, BL, BM, ⟨#[69, 113]⟩, ⟨#[69, 113, 46, 114, 101, 102, 108]⟩, ⟨#[69, 113, 46, 115, 121, 109, 109]⟩, ⟨#[69, 113, 46, 116, 114, 97, 110, 115]⟩, ⟨#[69, 113, 46, 99, 111, 110, 103, 114]⟩])), .val (.ptr b3 (0 + 6)), .val (.p (.lst (List.map CZ thm))), .val (.p (.lst (List.map CZ (thm.take 7))))] ED Ay Ar Ar (BZ Ay (fun Bs => A3 Dy Ay Ay) (BZ Ay (fun Bs => A9 (i := Bs.length + 0) Ev Ay (B3 Ay) Ay) ?_))))))))
 refine BZ Ay (fun Bs => A3 Dy Ay Ay) (BZ Ay (fun Bs => A9 (i := Bs.length + 0) Ev Ay (B3 Ay) Ay) (BZ Ay (fun Bs => A3 Dy Ay Ay) (BZ Ay (fun Bs => A9 (i := Bs.length + 0) Ev Ay (B3 Ay) Ay) (BZ Ay (fun Bs => A3 Dy Ay Ay) (BZ Ay (fun Bs => A9 (i := Bs.length + 0) Ev Ay (B3 Ay) Ay) (MX Ay (fun Bs => GO (rows := List.map CZ ([BQ, BK, BL, BM, ⟨#[69, 113]⟩, ⟨#[69, 113, 46, 114, 101, 102, 108]⟩, ⟨#[69, 113, 46, 115, 121, 109, 109]⟩, ⟨#[69, 113, 46, 116, 114, 97, 110, 115]⟩, ⟨#[69, 113, 46, 99, 111, 110, 103, 114]⟩])) EL R9 Ay Ay Ay Ay Ay) fun b14 cp => BZ Ay (fun Bs => A3 Dy Ay Ay) (BZ Ay (fun Bs => A9 (i := Bs.length + 0) LP Ay (B3 Ay) Ay) ?_)))))))
 refine BZ Ay (fun Bs => Dk (lo := 0) (hi := 7) EL Ay (B9 (E8 _)) Ay ⟨_, Ay⟩ (Nat.zero_le _) AU (Pb (f := CZ) thm 7)) (E9 ?_)
 change AL _ _ _ 12 ⟨22, _, [.vec (some b14) 1 (List.map CZ ([BQ, BK, BL, BM, ⟨#[69, 113]⟩, ⟨#[69, 113, 46, 114, 101, 102, 108]⟩, ⟨#[69, 113, 46, 115, 121, 109, 109]⟩, ⟨#[69, 113, 46, 116, 114, 97, 110, 115]⟩, ⟨#[69, 113, 46, 99, 111, 110, 103, 114]⟩])) cp, .box b3 [.p (.str BQ), .p (.str BK), .p (.str BL), .p (.str BM), .p (.str BS), .p (.str BR), .p (.lst (List.map CZ thm))], .box b2 [.p (.lst (List.map Ci ds))]], []⟩ _
 refine Az Ay Ay (Fs (i := 0) (rows' := List.map CZ (thm.take 7)) EL EL R9 Ay Ay Ay Ay Ay Ay (E8 _) (by simp only [List.length_map, List.length_take, List.length_cons, List.length_nil]; omega) (HJ (f := CZ) ([BQ, BK, BL, BM, ⟨#[69, 113]⟩, ⟨#[69, 113, 46, 114, 101, 102, 108]⟩, ⟨#[69, 113, 46, 115, 121, 109, 109]⟩, ⟨#[69, 113, 46, 116, 114, 97, 110, 115]⟩, ⟨#[69, 113, 46, 99, 111, 110, 103, 114]⟩]) (thm.take 7))) (Az Ay Ay (A4 Ay) (A5 Ay (A2 (A0 (Az Ay Ay (A1 Ay) (Az Ay Ay (DQ Ay Ay) ?_))))))
 refine Az Ay Ay (Cf [1] Ay (.inl ⟨Ay, Ay, Ay⟩) (aO b2 ds ([BQ, BK, BL, BM, ⟨#[69, 113]⟩, ⟨#[69, 113, 46, 114, 101, 102, 108]⟩, ⟨#[69, 113, 46, 115, 121, 109, 109]⟩, ⟨#[69, 113, 46, 116, 114, 97, 110, 115]⟩, ⟨#[69, 113, 46, 99, 111, 110, 103, 114]⟩] ++ (thm.take 7)) h1 h2 (by simp only [EB, List.length_append, List.length_take, List.length_cons, List.length_nil]; omega)) ⟨_, _, Ay, Ay, Ay⟩ Av Ay (.inl Ay)) (Az Ay Ay (A4 Ay) (A5 Ay (BF (⟨Ay, _, _, ⟨_, _, Ay, Ay, Ay⟩, nS, ?_⟩))))
 all_goals exact ⟨rfl, rfl⟩
theorem T9 : ∀ (GL : List (Nat × Obj)) (ds : List Dt) (th : BY) (t : Tm) (hG : G3 GL), (ds.length < EB) → (Ow ds) → (th.lemmas.length = 14) → (IF ds (Fq th) = false) → (Gj t) → (size t ≤ 4096) → ((C6 th t).all ≤ 60) → (G4 th) → B1 Tryz.prog 16 [.p (.lst (List.map Ci ds)), .agg ((Ei th).map .p), .agg ((Bu t).map .p)] [.glob GL] (fun x H' => (∃ s p e, x = .val (.tup [TV s, TV p, .p (I e)]) ∧ (e = 0 ∧ s = HS th (C6 th t).coefs (C6 th t).atoms ∧ p = (B0 th (C6 th t).atoms (size t) t).1.proof ∨ e = 5 ∧ s = Be ∧ p = Be ∧ 16 < size t)) ∧ H' = [.glob GL]) := by
 intro GL ds th t hG h1 h2 h3 h4 h5 h6 h7 h8
 obtain ⟨BQ, BK, BL, BM, BS, BR, thm⟩ := th
 simp only at h3
 refine BH Tryz.func16 Ay XH (n := 84) Ay Ay (A2 (A0 (BP Ay Ay (Bj Ay) fun b4 => BP Ay Ay (Bj Ay) fun b5 => BP Ay Ay (BN B8 Ay) fun b6 => BP Ay Ay (BN B8 Ay) fun b7 => Az Ay Ay (A4 Ay) (A5 Ay (A2 (A2 (A0 (Az Ay Ay (A3 Dy Ay Ay) (Az Ay Ay (A9 (i := 3) LP Ay Ay Ay) (Az Ay Ay (Bo EL Ay (List.length_map _)) (Az Ay Ay (BE Ay Ay Ay) (A5 Ay (BD Ay (fun c => ?_) (fun c => ?_))))))))))))))
 ·(try simp only [sd, se] at c)
  exact absurd h3 Aw
 (try simp only [sd, se] at c)
 refine BG (A2 (A2 (A0 (Az Ay Ay (A1 Ay) (Az Ay Ay (A8 (i := 3) Fo Ay Ay Ay) (Az Ay Ay (Bp Ay Ay (N8 ds (BY.mk BQ BK BL BM BS BR thm) h1 h2 h3) Ay) (A5 Ay (BD Ay (fun c1 => ?_) (fun c1 => ?_)))))))))
 ·(try simp only [sd, se] at c1)
  exact absurd (h4.symm.trans c1) Av
 (try simp only [sd, se] at c1)
 refine BG (A2 (A0 (Az Ay Ay (A8 (i := 3) Fo Ay Ay Ay) (Az Ay Ay (A8 (i := 2) BU Ay Ay Am) ?_))))
 refine Gu [_, _, _, _] Ay Ay Ay (.inl ⟨Ay, Ay, Ay⟩) (Rf GL (BY.mk BQ BK BL BM BS BR thm) t hG h5 Aw Aw) (aw (we Ay) (aw (we Ay) C7)) ?_ (fun _ _ ⟨_, _, h, _⟩ => by cases h)
 rintro _ _ ⟨b, T, h, hT, rfl⟩
 cases h
 obtain ⟨o, cp, o1, cp1, m, rfl⟩ := hT
 refine Az Ay Ay (A1 Ay) (Az Ay Ay (Bi Ay Ay) (Az Ay Ay (Bi Ay Ay) (Az Ay Ay (A4 Ay) (Az Ay Ay (A4 Ay) (A5 Ay (A2 (A2 (A0 (Az Ay Ay (A1 Ay) (Az Ay Ay (BE Ay Ay Ay) (A5 Ay ?_)))))))))))
 refine BD Ay (fun c2 => by cases c2) (fun c2 => ?_)
 refine BG (A2 (A0 (Az Ay Ay (A1 Ay) (Az Ay Ay (Bn Ay) (Az Ay Ay (A3 Hy Ay Ay) (Az Ay Ay (A9 (i := 5) C9 Ay Ay Ay) (Az Ay Ay (BE Ay Ay Ay) (Az Ay Ay (A4 Ay) (A5 Ay (A2 (A2 (Bx [4, 5, 6, 7, 9] 47 (fun y => y = .p (.bool ((decide (((C6 (BY.mk BQ BK BL BM BS BR thm) t).all : Int) > (60 : Int))) && (decide (((size t : Nat) : Int) > (16 : Int)))))) ?_ ?_))))))))))))
 ·exact A0 (DK (Eo (t := 11) (x := .p (.bool false)) (pB Aq)) (Az Ay Ay (A1 Ay) (Az Ay Ay (A1 Ay) (A7 Ay Ay Ay Ay Ay (A7 Ay Ay Ay Ay Ay (A7 Ay Ay Ay Ay Ay (Az Ay Ay (BC Ay Ay) (A5 Ay (⟨Ay, Ay, AK, AJ, ⟨Ay, Ay, Ay, Ay, Ay, trivial⟩⟩)))))))))
 rintro _ rfl
 refine BD Ay (fun c3 => ?_) (fun c3 => ?_)
 ·(try simp only [sd, se] at c3)
  omega
 (try simp only [sd, se] at c3)
 refine BG (A2 (A0 (DK (D9 (i := 6) (j := 5) (q := 0) [] Ay Ay Ay (HQ trivial)) (DK (D9 (i := 6) (j := 5) (q := 1) [] Ay Ay Ay (HQ trivial)) (Az Ay Ay (A8 (i := 3) Fo Ay Ay Ay) (Az Ay Ay (A1 Ay) (Az Ay Ay (Bv Il fc Ay) (BP Ay Ay (Bj Ay) fun b53 => Az Ay Ay (DQ Ay Ay) (Az Ay Ay (A4 Ay) (A5 Ay (A2 (A0 (Az Ay Ay (A1 Ay) (Az Ay Ay (A8 (i := 3) BU Ay Ay Am) ?_))))))))))))))
 have hpn := Vx (th := (BY.mk BQ BK BL BM BS BR thm)) h8 h5 h6 h7
 obtain ⟨f1, f2, f3, f4, f5⟩ := P9 (th := (BY.mk BQ BK BL BM BS BR thm)) h5 h6 h7
 refine Az Ay Ay (Cf [0, 6, 7, 5] Ay (.inr Ay) (Uy GL hG b53 b BQ BK BL BM BS BR thm m ((C6 (BY.mk BQ BK BL BM BS BR thm) t).coefs) ((C6 (BY.mk BQ BK BL BM BS BR thm) t).atoms) ((C6 (BY.mk BQ BK BL BM BS BR thm) t).all) (size t) t (Nat.le_refl _) h5 Aw f3 f1 Aw h3) ⟨_, _, Ay, Ay, ⟨_, _, Ay, Ay, ⟨_, _, Ay, Ay, ⟨_, _, Ay, Ay, Ay⟩⟩⟩⟩ Av Ay (.inl Ay)) ?_
 generalize hnq : B0 (BY.mk BQ BK BL BM BS BR thm) ((C6 (BY.mk BQ BK BL BM BS BR thm) t).atoms) (size t) t = nq
 refine Az Ay Ay (A1 Ay) (Az Ay Ay (Bi Ay Ay) (Az Ay Ay (Bi Ay Ay) (BP Ay Ay (BN EC Ay) fun b13 => Az Ay Ay (BB (i := 0) Cz Ay Ay Ay Ak Ab (Co _)) ?_)))
 obtain ⟨z, zL⟩ := nq
 rw [hnq] at hpn
 obtain ⟨zl, zr, zp, zs⟩ := z
 obtain ⟨zlk, zli, zln, zll, zls⟩ := zl
 obtain ⟨zrk, zri, zrn, zrl, zrs⟩ := zr
 obtain ⟨zpk, zpi, zpn, zpl, zps⟩ := zp
 simp only at hpn
 refine Az Ay Ay (A4 Ay) (A5 Ay (A2 (A2 (Bx [4, 6, 7, 9, 13] 69 (fun y => y = .p (.bool ((decide (((size t : Nat) : Int) > (16 : Int))) && (decide (((size (.mk zpk zpi zpn zpl zps : Tm) : Nat) : Int) > (4096 : Int)))))) ?_ ?_))))
 ·refine A0 (Az Ay Ay (A8 (i := 4) BU Ay Ay Am) (Az Ay Ay (Bp Ay Ay (RM t h5.nd Aw) Ay) (Az Ay Ay (BE Ay Ay Ay) (Az Ay Ay (A1 Ay) (Br 64 Ay (fun g => ?_) (fun g => ?_))))))
  ·(try simp only [sd, se] at g)
   exact A6 Ay Ay Ay Ay (A3 FR Ay Ay) (A6 Ay Ay Ay Ay (CB (i := 0) BU Ay Ay Ay Ay) (A6 Ay Ay Ay Ay (Bp Ay Ay (RM (.mk zpk zpi zpn zpl zps : Tm) hpn.1 hpn.2) Ay) (A6 Ay Ay Ay Ay (BE Ay Ay Ay) (Az Ay Ay (BC Ay Ay) (A5 Ay (⟨Ay, Ay, AK, AJ, ⟨Ay, Ay, Ay, Ay, Ay, trivial⟩⟩))))))
  (try simp only [sd, se] at g)
  exact A7 Ay Ay Ay Ay Ay (A7 Ay Ay Ay Ay Ay (A7 Ay Ay Ay Ay Ay (A7 Ay Ay Ay Ay Ay (Az Ay Ay (BC Ay Ay) (A5 Ay (⟨Ay, Ay, AK, AJ, ⟨Ay, Ay, Ay, Ay, Ay, trivial⟩⟩))))))
 rintro _ rfl
 refine BD Ay (fun c4 => ?_) (fun c4 => ?_)
 ·(try simp only [sd, se] at c4)
  refine A2 (A0 (Az Ay Ay (Bv CV B8 Ay) (Az Ay Ay (Bv CV B8 Ay) (Az Ay Ay (Bm (i := 3) BU Ay Ay Ay Ay Ay Ay) (Az Ay Ay (Bm (i := 2) BU Ay Ay Ay Ay Ay Ay) (Az Ay Ay (A4 Ay) (A5 Ay (B2 (Cv (i := 3) Ay) (B2 (Cv (i := 2) Ay) (BF (⟨Ay, _, _, ⟨_, _, Ay, (Bt (i := 3) BU Ay Ay Ay), ⟨_, _, Ay, (Bt (i := 2) BU Ay Ay Ay), ⟨_, _, Ay, Ay, Ay⟩⟩⟩, (C2 (is := [6]) Ay), ?_⟩)))))))))))
  all_goals exact ⟨⟨Be, Be, 5, rfl, .inr ⟨rfl, rfl, rfl, by have := c4; omega⟩⟩, rfl⟩
 (try simp only [sd, se] at c4)
 refine BG (A2 (CW (fun k => false) ED (Ba (j := 5) Ay Ay Ay (fun H i hi => A8 (i := i) Fo Ay hi Ay) AA trivial (BA Ay Ay (fun _ => A1 Ay) trivial (BA Ay Ay (fun _ => Bn Ay) trivial (BA Ay Ay (fun _ => A3 Hy Ay Ay) trivial (Ba (j := 7) Ay Ay Ay (fun H i hi => A9 (i := i) PB Ay hi Ay) AA trivial (BA Ay Ay (fun _ => A1 Ay) trivial (BA Ay Ay (fun _ => Bn Ay) trivial (BA Ay Ay (fun _ => A3 Hy Ay Ay) trivial (Ba (j := 7) Ay Ay Ay (fun H i hi => A9 (i := i) DG Ay hi Ay) AA trivial (BA Ay Ay (fun _ => Bp Ay Ay (Oa (BY.mk BQ BK BL BM BS BR thm) ((C6 (BY.mk BQ BK BL BM BS BR thm) t).coefs) ((C6 (BY.mk BQ BK BL BM BS BR thm) t).atoms) Ah) Ay) trivial ?_))))))))))))
 refine BA Ay Ay (fun _ => A3 FR Ay Ay) trivial (Ba (j := 0) Ay Ay Ay (fun H i hi => CB (i := i) BU Ay hi Ay Ay) AA trivial (Cw Ay Ay (BB (i := 3) BU Ay Ay Ay Am Ac (CN _)) AA trivial (Cw Ay Ay (Bm (i := 2) BU Ay Ay Ay Ay Ay Ay) AA trivial (BA Ay Ay (fun _ => A4 Ay) trivial (CP Ay Ar (BF (⟨Ay, _, _, ⟨_, _, Ay, (Bt (i := 3) BU Ay Ay Am), ⟨_, _, Ay, (Bt (i := 2) BU Ay Ay Ay), ⟨_, _, Ay, Ay, Ay⟩⟩⟩, (C2 (is := [6]) Ay), ?_⟩)))))))
 all_goals exact ⟨⟨_, (.mk zpk zpi zpn zpl zps), 0, rfl, .inl ⟨rfl, rfl, rfl⟩⟩, rfl⟩
theorem Yy (GL : List (Nat × Obj)) (hG : G3 GL) (ds : List Dt) (th : BY) (t : Tm) (h1 : ds.length < EB) (h2 : Ow ds) (h3 : th.lemmas.length = 14) (h4 : IF ds (Fq th) = false) (h5 : Gj t) (h6 : size t ≤ 16) (h8 : G4 th) :
  B1 Tryz.prog 16 [.p (.lst (List.map Ci ds)), .agg ((Ei th).map .p), TV t] [.glob GL] (Dq (.tup [TV (HS th (C6 th t).coefs (C6 th t).atoms), TV (B0 th (C6 th t).atoms (size t) t).1.proof, .p (I 0)]) [.glob GL]) :=
 (T9 GL ds th t hG h1 h2 h3 h4 h5 Aw (by have := W7 (th := th) h5; omega) h8).mono (by
  rintro x H' ⟨⟨s, p, e, rfl, h⟩, rfl⟩
  rcases h with ⟨rfl, rfl, rfl⟩ | ⟨_, _, _, h⟩
  ·exact ⟨Ay, Ay⟩
  omega)
theorem Yu : ∀ (i : Int), IA Tryz.prog 35 [.p (I i)] (.agg ((Bu (.mk 0 i ⟨#[]⟩ [] [])).map .p)) := by
 intro i
 refine BH Tryz.func35 Ay bX (n := 5) Ay Ay (A2 (A0 (BP Ay Ay (BN B8 Ay) fun b2 => A5 Ay (A2 (A0 (Az Ay Ay (A1 Ay) (Az Ay Ay (Bv CV B8 Ay) (Az Ay Ay (Bm (i := 0) BU Ay Ay Ay Ay Ay Ay) (A5 Ay (B2 (Cv (i := 0) Ay) (BF (⟨Ay, _, _, ⟨_, _, Ay, (Bt (i := 0) BU Ay Ay Ay), Ay⟩, nS, ?_⟩))))))))))))
 all_goals exact ⟨by show (.agg [.p (I 0), .p (I i), .p (.str ⟨#[]⟩), .p (.lst []), .p (.lst [])] : AV) = _; rfl, rfl⟩
theorem Lg : ∀ (n : ByteArray) (l : List Tm), (l.length < EB) → IA Tryz.prog 36 [.p (.str n), .p (.lst (Bg l))] (.agg ((Bu (Bh n l)).map .p)) := by
 intro n l h1
 refine BH Tryz.func36 Ay fo (n := 9) Ay Ay (A2 (A0 (BP Ay Ay (BN B8 Ay) fun b4 => A5 Ay (A2 (A0 (Az Ay Ay (A1 Ay) (Az Ay Ay (Bv CV B8 Ay) (Az Ay Ay (A1 Ay) (Az Ay Ay (DJ Ay Ay (MG (.mk 3 0 n [] [] : Tm) l h1) (aw (Cs Ay) (aw (we Ay) (C7)))) (Az Ay Ay (BB (i := 0) BU Ay Ay Ay Am Ac (CN _)) (A5 Ay (BF (⟨Ay, _, _, ⟨_, _, Ay, (Bt (i := 0) BU Ay Ay Am), Ay⟩, nS, ?_⟩)))))))))))))
 all_goals exact ⟨rfl, rfl⟩
theorem _root_.Go.AP {α : Prop} (h : α := by simp only [EB, List.length_cons, List.length_nil]; omega) : α := h
theorem Ko : ∀ (a b : Tm), IA Tryz.prog 23 [.agg ((Bu a).map .p), .agg ((Bu b).map .p)] (.agg ((Bu (Bh ⟨#[97, 100, 100]⟩ [a, b])).map .p)) := by
 intro a b
 refine BH Tryz.func23 Ay cH (n := 9) Ay Ay (A2 (A0 (BP Ay Ay (Bj Ay) fun b2 => BP Ay Ay (Bj Ay) fun b3 => BP Ay Ay (BN B8 Ay) fun b4 => A5 Ay (A2 (A0 (Az Ay Ay (A8 (i := 2) BU Ay Ay Am) (Az Ay Ay (A8 (i := 1) BU Ay Ay Am) (Az Ay Ay (Bf (rows := Bg [a, b]) CL B8 Ay Ay Ay Ay (B9 (CT _)) (DP _)) (Az Ay Ay (Bp Ay Ay (Lg ⟨#[97, 100, 100]⟩ [a, b] AP) Ay) (Az Ay Ay (BB (i := 0) BU Ay Ay Ay Am Ac (CN _)) (A5 Ay (BF (⟨Ay, _, _, ⟨_, _, Ay, (Bt (i := 0) BU Ay Ay Am), Ay⟩, nS, ?_⟩)))))))))))))
 all_goals exact ⟨rfl, rfl⟩
theorem PC : ∀ (a : Tm), IA Tryz.prog 24 [.agg ((Bu a).map .p)] (.agg ((Bu (Bh ⟨#[110, 101, 103]⟩ [a])).map .p)) := by
 intro a
 refine BH Tryz.func24 Ay dD (n := 6) Ay Ay (A2 (A0 (BP Ay Ay (Bj Ay) fun b1 => BP Ay Ay (BN B8 Ay) fun b2 => A5 Ay (A2 (A0 (Az Ay Ay (A8 (i := 1) BU Ay Ay Am) (Az Ay Ay (Bf (rows := Bg [a]) CL B8 Ay Ay Ay Ay (B9 (CT _)) (DP _)) (Az Ay Ay (Bp Ay Ay (Lg ⟨#[110, 101, 103]⟩ [a] AP) Ay) (Az Ay Ay (BB (i := 0) BU Ay Ay Ay Am Ac (CN _)) (A5 Ay (BF (⟨Ay, _, _, ⟨_, _, Ay, (Bt (i := 0) BU Ay Ay Am), Ay⟩, nS, ?_⟩))))))))))))
 all_goals exact ⟨rfl, rfl⟩
theorem aV : IA Tryz.prog 21 [] (.agg ((Ei (BY.mk ⟨#[90]⟩ ⟨#[97, 100, 100]⟩ ⟨#[122, 101, 114, 111]⟩ ⟨#[110, 101, 103]⟩ ⟨#[111, 110, 101]⟩ ⟨#[108, 101, 113]⟩ [⟨#[108, 48]⟩, ⟨#[108, 49]⟩, ⟨#[108, 50]⟩, ⟨#[108, 51]⟩, ⟨#[108, 52]⟩, ⟨#[108, 53]⟩, ⟨#[108, 54]⟩, ⟨#[108, 55]⟩, ⟨#[108, 56]⟩, ⟨#[108, 57]⟩, ⟨#[108, 49, 48]⟩, ⟨#[108, 49, 49]⟩, ⟨#[108, 49, 50]⟩, ⟨#[108, 49, 51]⟩])).map .p)) := by
 refine BH Tryz.func21 Ay gR (n := 3) Ay Ay (A2 (A0 (BP Ay Ay (BN a8 Ay) fun b0 => A5 Ay (A2 (A0 (Az Ay Ay (CJ EL R9 Ay Ay Ay Ay Ay) (Az Ay Ay (Bv Dy a8 Ay) (Az Ay Ay (Bm (i := 0) Fo Ay Ay Ay Ay Ay Ay) (A5 Ay (BF (⟨Ay, _, _, ⟨_, _, Ay, (Bt (i := 0) Fo Ay Ay Ay), Ay⟩, nS, ?_⟩)))))))))))
 all_goals exact ⟨by show (.agg [.p (.str ⟨#[90]⟩), .p (.str ⟨#[97, 100, 100]⟩), .p (.str ⟨#[122, 101, 114, 111]⟩), .p (.str ⟨#[110, 101, 103]⟩), .p (.str ⟨#[111, 110, 101]⟩), .p (.str ⟨#[108, 101, 113]⟩), .p (.lst (List.map CZ ([⟨#[108, 48]⟩, ⟨#[108, 49]⟩, ⟨#[108, 50]⟩, ⟨#[108, 51]⟩, ⟨#[108, 52]⟩, ⟨#[108, 53]⟩, ⟨#[108, 54]⟩, ⟨#[108, 55]⟩, ⟨#[108, 56]⟩, ⟨#[108, 57]⟩, ⟨#[108, 49, 48]⟩, ⟨#[108, 49, 49]⟩, ⟨#[108, 49, 50]⟩, ⟨#[108, 49, 51]⟩])))] : AV) = _; rfl, rfl⟩
theorem dG : ∀ (l : Fl) (a x y : Tm), IA Tryz.prog 65 [.agg ((Dx l).map .p), .agg ((Bu a).map .p), .agg ((Bu x).map .p), .agg ((Bu y).map .p)] (.agg ((Bu (apply (.mk 3 0 ⟨#[69, 113]⟩ [l] []) [a, x, y])).map .p)) := by
 intro l a x y
 refine BH Tryz.func65 Ay eQ (n := 17) Ay Ay (A2 (A0 (BP Ay Ay (Bj Ay) fun b4 => BP Ay Ay (Bj Ay) fun b5 => BP Ay Ay (Bj Ay) fun b6 => BP Ay Ay (Bj Ay) fun b7 => BP Ay Ay (BN B8 Ay) fun b8 => A5 Ay (A2 (A0 (Az Ay Ay (A8 (i := 4) E0 Ay Ay Ay) (Az Ay Ay (Bf (rows := List.map Dx [l]) IC Hk Ay Ay Ay Ay (B9 (NL _)) (Ta _)) (Az Ay Ay (Bv CV B8 Ay) (Az Ay Ay (A8 (i := 3) BU Ay Ay Am) (Az Ay Ay (A8 (i := 2) BU Ay Ay Am) (Az Ay Ay (A8 (i := 1) BU Ay Ay Am) (Az Ay Ay (Bf (rows := Bg [a, x, y]) CL B8 Ay Ay Ay Ay (B9 (CT _)) (DP _)) ?_))))))))))))
 refine Az Ay Ay (DJ Ay Ay (MG (.mk 3 0 ⟨#[69, 113]⟩ [l] [] : Tm) [a, x, y] AP) (aw (Cs Ay) (aw (we Ay) (C7)))) (Az Ay Ay (BB (i := 0) BU Ay Ay Ay Am Ac (CN _)) (A5 Ay (BF (⟨Ay, _, _, ⟨_, _, Ay, (Bt (i := 0) BU Ay Ay Am), Ay⟩, nS, ?_⟩))))
 all_goals exact ⟨rfl, rfl⟩
theorem Wx : ∀ (t : Tm) (by' fr : Int), (Nd t) → (size t < 1000000) → (-65536 ≤ by' ∧ by' ≤ 65536) → (0 ≤ fr) → E1 Tryz.prog 104 [.agg ((Bu t).map .p), .p (I by'), .p (I fr)] (fun v => ∃ (q : Tm) (e : Int), v = .tup [TV q, .p (I e)]) := by
 intro t by' fr h1 h2 h3 h4
 refine BH Tryz.func104 Ay eZ (n := 40) Ay Ay (A2 (A0 (BP Ay Ay (Bj Ay) fun b3 => BP Ay Ay (BN B8 Ay) fun b6 => Az Ay Ay (A4 Ay) (A5 Ay (A2 (A2 (Bx [1, 2, 3, 6] 19 (fun y => y = .p (.bool (((decide ((fr : Int) < (0 : Int))) || (decide ((by' : Int) < (-65536 : Int)))) || (decide ((by' : Int) > (65536 : Int)))))) ?_ ?_)))))))
 ·refine A0 (Az Ay Ay (A1 Ay) (Az Ay Ay (BE Ay Ay Ay) (Az Ay Ay (A1 Ay) (Br 12 Ay (fun g => ?_) (fun g => ?_)))))
  ·(try simp only [sd, se] at g)
   exact A7 Ay Ay Ay Ay Ay (A7 Ay Ay Ay Ay Ay (Az Ay Ay (BC Ay Ay) (Az Ay Ay (A1 Ay) (A7 Ay Ay Ay Ay Ay (A7 Ay Ay Ay Ay Ay (Az Ay Ay (BC Ay Ay) (A5 Ay (⟨Ay, Ay, AK, AJ, ⟨Ay, Ay, Ay, Ay, trivial⟩⟩))))))))
  (try simp only [sd, se] at g)
  refine A6 Ay Ay Ay Ay (A1 Ay) (A6 Ay Ay Ay Ay (BE Ay Ay Ay) (Az Ay Ay (BC Ay Ay) (Az Ay Ay (A1 Ay) (Br 16 Ay (fun g1 => ?_) (fun g1 => ?_)))))
  ·(try simp only [sd, se] at g1)
   exact A7 Ay Ay Ay Ay Ay (A7 Ay Ay Ay Ay Ay (Az Ay Ay (BC Ay Ay) (A5 Ay (⟨Ay, Ay, AK, AJ, ⟨Ay, Ay, Ay, Ay, trivial⟩⟩))))
  (try simp only [sd, se] at g1)
  exact A6 Ay Ay Ay Ay (A1 Ay) (A6 Ay Ay Ay Ay (BE Ay Ay Ay) (Az Ay Ay (BC Ay Ay) (A5 Ay (⟨Ay, Ay, AK, AJ, ⟨Ay, Ay, Ay, Ay, trivial⟩⟩))))
 rintro _ rfl
 refine BD Ay (fun c => ?_) (fun c => ?_)
 ·(try simp only [sd, se] at c)
  refine A2 (A0 (Az Ay Ay (Bv CV B8 Ay) (Az Ay Ay (Bm (i := 0) BU Ay Ay Ay Ay Ay Ay) (Az Ay Ay (A4 Ay) (A5 Ay (B2 (Cv (i := 0) Ay) (BF (⟨Ay, _, _, ⟨_, _, Ay, (Bt (i := 0) BU Ay Ay Ay), ⟨_, _, Ay, Ay, Ay⟩⟩, nS, ?_⟩))))))))
  all_goals exact ⟨⟨Be, _, rfl⟩, rfl⟩
 (try simp only [sd, se] at c)
 refine BG (A2 (A0 (Az Ay Ay (Bv Rm dQ Ay) (BP Ay Ay (Bj Ay) fun b22 => Az Ay Ay (A4 Ay) (A5 Ay (A2 (A0 (Az Ay Ay (A1 Ay) (Az Ay Ay (A8 (i := 2) BU Ay Ay Am) (Az Ay Ay (A1 Ay) (Az Ay Ay (A1 Ay) (Az Ay Ay (YW Ay Ay) (Az Ay Ay (Cf [0] Ay (.inl ⟨Ay, Ay, Ay⟩) (Yz _ t b22 by' (min (fr : Int) (65536 : Int)) 0 0 0 (Nat.le_refl _) h1 Aw Aw) ⟨_, _, rfl, rfl, rfl⟩ Av rfl (.inl rfl)) (BP Ay Ay (BN B8 Ay) fun b9 => Az Ay Ay (BB (i := 0) BU Ay Ay Ay Am Ac (CN _)) (A5 Ay (A2 (A2 (A0 (Az Ay Ay (A1 Ay) (Az Ay Ay (Bn Ay) (Az Ay Ay (A3 Rm Ay Ay) (Az Ay Ay (A9 (i := 1) C9 Ay Ay Ay) (Az Ay Ay (BE Ay Ay Ay) ?_)))))))))))))))))))))))
 refine A5 Ay (BD Ay (fun c1 => ?_) (fun c1 => ?_))
 ·(try simp only [sd, se] at c1)
  refine A2 (CW (fun k => false) ED (BA Ay Ay (fun _ => Bv CV B8 Ay) trivial (BA Ay Ay (fun _ => A1 Ay) trivial (BA Ay Ay (fun _ => Bn Ay) trivial (BA Ay Ay (fun _ => A3 Rm Ay Ay) trivial (Ba (j := 1) Ay Ay Ay (fun H i hi => A9 (i := i) C9 Ay hi Ay) AA trivial (Cw Ay Ay (Bm (i := 2) BU Ay Ay Ay Ay Ay Ay) AA trivial (BA Ay Ay (fun _ => A4 Ay) trivial (CP Ay Ar (B2 (Cv (i := 2) Ay) (BF (⟨Ay, _, _, ⟨_, _, Ay, (Bt (i := 2) BU Ay Ay Ay), ⟨_, _, Ay, Ay, Ay⟩⟩, nS, ?_⟩))))))))))))
  all_goals exact ⟨⟨Be, _, rfl⟩, rfl⟩
 (try simp only [sd, se] at c1)
 refine BG (A2 (A0 (Az Ay Ay (A8 (i := 0) BU Ay Ay Am) (Az Ay Ay (BB (i := 2) BU Ay Ay Ay Am Ac (CN _)) (Az Ay Ay (A4 Ay) (A5 Ay (BF (⟨Ay, _, _, ⟨_, _, Ay, (Bt (i := 2) BU Ay Ay Am), ⟨_, _, Ay, Ay, Ay⟩⟩, nS, ?_⟩))))))))
 all_goals exact ⟨⟨_, _, rfl⟩, rfl⟩
theorem aD : ∀ (a b : Tm), (Nd b) → (size b < 1000000) → E1 Tryz.prog 68 [.agg ((Bu a).map .p), .agg ((Bu b).map .p)] (fun v => ∃ q : Tm, v = TV q) := by
 intro a b h1 h2
 refine BH Tryz.func68 Ay gU (n := 16) Ay Ay (A2 (A0 (BP Ay Ay (Bj Ay) fun b2 => BP Ay Ay (Bj Ay) fun b3 => BP Ay Ay (BN B8 Ay) fun b4 => A5 Ay (A2 (A0 (Az Ay Ay (A8 (i := 1) BU Ay Ay Am) (Du Ay Ay (Bb Ay Ay (Wx b 1 0 h1 h2 Aw Aw) (.inl Ay)) ?_)))))))
 rintro _ ⟨q, e, rfl⟩
 refine Az Ay Ay (A1 Ay) (Az Ay Ay (Bi Ay Ay) (Az Ay Ay (Bi Ay Ay) (BP Ay Ay (BN B8 Ay) fun b5 => Az Ay Ay (BB (i := 0) BU Ay Ay Ay Am Ac (CN _)) (Az Ay Ay (A4 Ay) (A5 Ay (A2 (A0 (Az Ay Ay (A8 (i := 3) BU Ay Ay Am) (Az Ay Ay (A8 (i := 0) BU Ay Ay Am) (Az Ay Ay (Bf (rows := Bg [a, q]) CL B8 Ay Ay Ay Ay (B9 (CT _)) (DP _)) (Az Ay Ay (Bv CV B8 Ay) (Az Ay Ay (Bm (i := 1) BU Ay Ay Ay Ay Ay Ay) (A5 Ay (B2 (Cv (i := 1) Ay) (BF (⟨Ay, _, _, ⟨_, _, Ay, (Bt (i := 1) BU Ay Ay Ay), Ay⟩, nS, ?_⟩))))))))))))))))
 all_goals exact ⟨⟨(.mk 6 0 ⟨#[]⟩ [] [a, q]), rfl⟩, rfl⟩
theorem PK : ∀ (l : Fl), E1 Tryz.prog 61 [.agg ((Dx l).map .p)] (fun v => ∃ q : Tm, v = TV q) := by
 intro l
 refine BH Tryz.func61 Ay iB (n := 6) Ay Ay (A2 (A0 (BP Ay Ay (Bj Ay) fun b1 => BP Ay Ay (BN B8 Ay) fun b2 => A5 Ay (A2 (A0 (Az Ay Ay (A8 (i := 1) E0 Ay Ay Ay) (Az Ay Ay (Bf (rows := List.map Dx [l]) IC Hk Ay Ay Ay Ay (B9 (NL _)) (Ta _)) (Az Ay Ay (Bv CV B8 Ay) (Az Ay Ay (Bm (i := 0) BU Ay Ay Ay Ay Ay Ay) (A5 Ay (B2 (Cv (i := 0) Ay) (BF (⟨Ay, _, _, ⟨_, _, Ay, (Bt (i := 0) BU Ay Ay Ay), Ay⟩, nS, ?_⟩)))))))))))))
 all_goals exact ⟨⟨(.mk 2 0 ⟨#[]⟩ [l] []), rfl⟩, rfl⟩
theorem JP : ∀ (l : List Tm), (0 < l.length) → (l.length < 100) → E1 Tryz.prog 62 [.p (.lst (Bg l))] (fun v => ∃ q : Tm, v = TV q) := by
 intro l h1 h2
 refine BH Tryz.func62 Ay eu (n := 15) Ay Ay (A2 (A0 (BP Ay Ay (BN B8 Ay) fun b2 => A5 Ay (A2 (CW (fun k => false) ED (BA Ay Ay (fun _ => A1 Ay) trivial (BA Ay Ay (fun _ => A1 Ay) trivial (BA Ay Ay (fun _ => Bo CL Ay (B5 _)) trivial (BA Ay Ay (fun _ => FH Ay Ay Aw Aw) trivial (BA Ay Ay (fun _ => Dk (lo := 0) (hi := (((l.length : Nat) : Int) - (1 : Int) : Int).toNat) CL Ay (B9 (CT _)) Ay ⟨_, pI Aw⟩ (Nat.zero_le _) AU (bx l ((((l.length : Nat) : Int) - (1 : Int) : Int).toNat))) trivial (BA Ay Ay (fun _ => A1 Ay) trivial (BA Ay Ay (fun _ => A1 Ay) trivial (BA Ay Ay (fun _ => Bo CL Ay (B5 _)) trivial (BA Ay Ay (fun _ => FH Ay Ay Aw Aw) trivial ?_))))))))))))))
 obtain ⟨x, hx⟩ := BO (l := l) (i := (((l.length : Nat) : Int) - (1 : Int) : Int).toNat) Aw
 refine BA Ay Ay (fun _ => BI CL Ay Ay Aw (CU hx) (Bd _)) trivial (BA Ay Ay (fun _ => Bq BU Ay (Bd _)) trivial (BA Ay Ay (fun _ => Bp Ay Ay (ax (l.take ((((l.length : Nat) : Int) - (1 : Int) : Int).toNat)) x (by simp only [EB, List.length_take]; omega)) Ay) trivial (Cw Ay Ay (BB (i := 0) BU Ay Ay Ay Am Ac (CN _)) AA trivial (CP Ay Ar (BF (⟨Ay, _, _, ⟨_, _, Ay, (Bt (i := 0) BU Ay Ay Am), Ay⟩, nS, ?_⟩))))))
 all_goals exact ⟨⟨_, rfl⟩, rfl⟩
theorem PO : ∀ (b0 : Nat) (z x y : Tm), B1 Tryz.prog 64 [.agg ((Bu x).map .p), .agg ((Bu y).map .p), .ptr b0 0] [.box b0 ((Bu z).map .p)] (Dq (.agg ((Bu (apply (.mk 3 0 ⟨#[69, 113]⟩ [Fl.mk 0 []] []) [z, x, y])).map .p)) [.box b0 ((Bu z).map .p)]) := by
 intro b0 z x y
 refine BH Tryz.func64 Ay gd (n := 11) Ay Ay (A2 (A0 (BP Ay Ay (Bj Ay) fun b3 => BP Ay Ay (Bj Ay) fun b4 => BP Ay Ay (BN B8 Ay) fun b5 => A5 Ay (A2 (A0 (Az Ay Ay (Bv EU Hk Ay) (Az Ay Ay (A8 (i := 3) BU Ay Ay Am) (Az Ay Ay (A8 (i := 2) BU Ay Ay Am) (Az Ay Ay (A8 (i := 1) BU Ay Ay Am) (Az Ay Ay (DJ Ay Ay (dG (Fl.mk 0 []) z x y) (aw (Cs Ay) (aw (we Ay) (aw (we Ay) (aw (we Ay) (C7)))))) (Az Ay Ay (BB (i := 0) BU Ay Ay Ay Am Ac (CN _)) (A5 Ay (BF (⟨Ay, _, _, ⟨_, _, Ay, (Bt (i := 0) BU Ay Ay Am), Ay⟩, (C2 (is := [3]) Ay), ?_⟩))))))))))))))
 all_goals exact ⟨rfl, rfl⟩
theorem Hq : ∀ (n : ByteArray) (p : Int) (t : Tm), IA Tryz.prog 66 [.p (.str n), .p (I p), .agg ((Bu t).map .p)] (.agg ((Ci (D0 n p t)).map .p)) := by
 intro n p t
 obtain ⟨tk, ti, tn, tl, ts⟩ := t
 refine BH Tryz.func66 Ay gX (n := 11) Ay Ay (A2 (A0 (BP Ay Ay (Bj Ay) fun b5 => BP Ay Ay (BN T7 Ay) fun b6 => A5 Ay (A2 (A0 (Az Ay Ay (A1 Ay) (Az Ay Ay (A1 Ay) (Az Ay Ay (A8 (i := 1) BU Ay Ay Ay) (Az Ay Ay (Bv (cs := [.p (I 0), .p (.str n), .p (I p), .p (I tk), .p (I ti), .p (.str tn), .p (.lst (List.map Dx tl)), .p (.lst (Bg ts)), .p (I 0), .p (I 0), .p (.str ⟨#[]⟩), .p (.nils), .p (.nils), .p (I 0), .p (.nils), .p (I 0), .p (I 0), .p (I 0), .p (.str ⟨#[]⟩), .p (.nils), .p (.nils), .p (.nils), .p (.nils)]) CR T7 Ar) ?_)))))))))
 refine Az Ay Ay (BB (i := 0) (us := [.p (I 0), .p (.str n), .p (I p), .p (I tk), .p (I ti), .p (.str tn), .p (.lst (List.map Dx tl)), .p (.lst (Bg ts)), .p (I 0), .p (I 0), .p (.str ⟨#[]⟩), .p (.nils), .p (.nils), .p (I 0), .p (.nils), .p (I 0), .p (I 0), .p (I 0), .p (.str ⟨#[]⟩), .p (.nils), .p (.nils), .p (.nils), .p (.nils)]) GG Ay Ay Ay Ay Ay Ay) (A5 Ay (B2 (Cv (i := 0) Ay) (BF (⟨Ay, _, _, ⟨_, _, Ay, (Bt (i := 0) GG Ay Ay Ay), Ay⟩, nS, ?_⟩))))
 all_goals exact ⟨rfl, rfl⟩
theorem XB : ∀ (a b : Int), (0 ≤ a ∧ a < 100) → (0 ≤ b ∧ b < 100) → E1 Tryz.prog 67 [.p (I a), .p (I b)] (fun v => ∃ q : Tm, v = TV q) := by
 intro a b h1 h2
 refine BH Tryz.func67 Ay fK (n := 10) Ay Ay (A2 (A0 (BP Ay Ay (BN B8 Ay) fun b4 => A5 Ay (A2 (A0 (Az Ay Ay (A1 Ay) (Az Ay Ay (Bp Ay Ay (Yu a) Ay) (Az Ay Ay (A1 Ay) (Az Ay Ay (Bp Ay Ay (Yu b) Ay) (Du Ay Ay (Bb Ay Ay (aD (.mk 0 a ⟨#[]⟩ [] []) (.mk 0 b ⟨#[]⟩ [] []) (aC h2) (by simp [size, CE])) (.inl Ay)) ?_))))))))))
 rintro _ ⟨q, rfl⟩
 refine Az Ay Ay (BB (i := 0) BU Ay Ay Ay Am Ac (CN _)) (A5 Ay (BF (⟨Ay, _, _, ⟨_, _, Ay, (Bt (i := 0) BU Ay Ay Am), Ay⟩, nS, ?_⟩)))
 all_goals exact ⟨⟨_, rfl⟩, rfl⟩
theorem Dn : ∀ (i : Int), E1 Tryz.prog 35 [.p (I i)] (fun v => ∃ q : Tm, v = TV q) := by
 intro i
 refine BH Tryz.func35 Ay bX (n := 5) Ay Ay (A2 (A0 (BP Ay Ay (BN B8 Ay) fun b2 => A5 Ay (A2 (A0 (Az Ay Ay (A1 Ay) (Az Ay Ay (Bv CV B8 Ay) (Az Ay Ay (Bm (i := 0) BU Ay Ay Ay Ay Ay Ay) (A5 Ay (B2 (Cv (i := 0) Ay) (BF (⟨Ay, _, _, ⟨_, _, Ay, (Bt (i := 0) BU Ay Ay Ay), Ay⟩, nS, ?_⟩))))))))))))
 all_goals exact ⟨⟨(.mk 0 i ⟨#[]⟩ [] []), rfl⟩, rfl⟩
theorem I4 : ∀ (a b : Tm), E1 Tryz.prog 23 [.agg ((Bu a).map .p), .agg ((Bu b).map .p)] (fun v => ∃ q : Tm, v = TV q) := by
 intro a b
 refine BH Tryz.func23 Ay cH (n := 9) Ay Ay (A2 (A0 (BP Ay Ay (Bj Ay) fun b2 => BP Ay Ay (Bj Ay) fun b3 => BP Ay Ay (BN B8 Ay) fun b4 => A5 Ay (A2 (A0 (Az Ay Ay (A8 (i := 2) BU Ay Ay Am) (Az Ay Ay (A8 (i := 1) BU Ay Ay Am) (Az Ay Ay (Bf (rows := Bg [a, b]) CL B8 Ay Ay Ay Ay (B9 (CT _)) (DP _)) (Az Ay Ay (Bp Ay Ay (Lg ⟨#[97, 100, 100]⟩ [a, b] AP) Ay) (Az Ay Ay (BB (i := 0) BU Ay Ay Ay Am Ac (CN _)) (A5 Ay (BF (⟨Ay, _, _, ⟨_, _, Ay, (Bt (i := 0) BU Ay Ay Am), Ay⟩, nS, ?_⟩)))))))))))))
 all_goals exact ⟨⟨_, rfl⟩, rfl⟩
theorem L1 : ∀ (a : Tm), E1 Tryz.prog 24 [.agg ((Bu a).map .p)] (fun v => ∃ q : Tm, v = TV q) := by
 intro a
 refine BH Tryz.func24 Ay dD (n := 6) Ay Ay (A2 (A0 (BP Ay Ay (Bj Ay) fun b1 => BP Ay Ay (BN B8 Ay) fun b2 => A5 Ay (A2 (A0 (Az Ay Ay (A8 (i := 1) BU Ay Ay Am) (Az Ay Ay (Bf (rows := Bg [a]) CL B8 Ay Ay Ay Ay (B9 (CT _)) (DP _)) (Az Ay Ay (Bp Ay Ay (Lg ⟨#[110, 101, 103]⟩ [a] AP) Ay) (Az Ay Ay (BB (i := 0) BU Ay Ay Ay Am Ac (CN _)) (A5 Ay (BF (⟨Ay, _, _, ⟨_, _, Ay, (Bt (i := 0) BU Ay Ay Am), Ay⟩, nS, ?_⟩))))))))))))
 all_goals exact ⟨⟨_, rfl⟩, rfl⟩
theorem Mh : ∀ (l : Fl) (a x y : Tm), E1 Tryz.prog 65 [.agg ((Dx l).map .p), .agg ((Bu a).map .p), .agg ((Bu x).map .p), .agg ((Bu y).map .p)] (fun v => ∃ q : Tm, v = TV q) := by
 intro l a x y
 refine BH Tryz.func65 Ay eQ (n := 17) Ay Ay (A2 (A0 (BP Ay Ay (Bj Ay) fun b4 => BP Ay Ay (Bj Ay) fun b5 => BP Ay Ay (Bj Ay) fun b6 => BP Ay Ay (Bj Ay) fun b7 => BP Ay Ay (BN B8 Ay) fun b8 => A5 Ay (A2 (A0 (Az Ay Ay (A8 (i := 4) E0 Ay Ay Ay) (Az Ay Ay (Bf (rows := List.map Dx [l]) IC Hk Ay Ay Ay Ay (B9 (NL _)) (Ta _)) (Az Ay Ay (Bv CV B8 Ay) (Az Ay Ay (A8 (i := 3) BU Ay Ay Am) (Az Ay Ay (A8 (i := 2) BU Ay Ay Am) (Az Ay Ay (A8 (i := 1) BU Ay Ay Am) (Az Ay Ay (Bf (rows := Bg [a, x, y]) CL B8 Ay Ay Ay Ay (B9 (CT _)) (DP _)) ?_))))))))))))
 refine Az Ay Ay (DJ Ay Ay (MG (.mk 3 0 ⟨#[69, 113]⟩ [l] [] : Tm) [a, x, y] AP) (aw (Cs Ay) (aw (we Ay) (C7)))) (Az Ay Ay (BB (i := 0) BU Ay Ay Ay Am Ac (CN _)) (A5 Ay (BF (⟨Ay, _, _, ⟨_, _, Ay, (Bt (i := 0) BU Ay Ay Am), Ay⟩, nS, ?_⟩))))
 all_goals exact ⟨⟨_, rfl⟩, rfl⟩
theorem _root_.Go.Af {α : Prop} (h : α := by first | omega | (simp; done)) : α := h
theorem aH : E1 Tryz.prog 37 [] (fun v => ∃ ds : List Dt, v = .p (.lst (List.map Ci ds)) ∧ ds.map Dt.name = [⟨#[69, 113]⟩, ⟨#[69, 113, 46, 114, 101, 102, 108]⟩, ⟨#[69, 113, 46, 115, 121, 109, 109]⟩, ⟨#[69, 113, 46, 116, 114, 97, 110, 115]⟩, ⟨#[69, 113, 46, 99, 111, 110, 103, 114]⟩, ⟨#[90]⟩, ⟨#[97, 100, 100]⟩, ⟨#[122, 101, 114, 111]⟩, ⟨#[110, 101, 103]⟩, ⟨#[111, 110, 101]⟩, ⟨#[108, 48]⟩, ⟨#[108, 49]⟩, ⟨#[108, 50]⟩, ⟨#[108, 51]⟩, ⟨#[108, 52]⟩, ⟨#[108, 53]⟩, ⟨#[108, 54]⟩] ∧ ∀ d ∈ ds, d.kind = 0) := by
 refine BH Tryz.func37 Ay ff (n := 260) Ay Ay (A2 (A0 (Az Ay Ay (A4 Ay) (A5 Ay (A2 (A0 (Az Ay Ay (Bv (cs := [.p (I 0), .p (I 0)]) GI MD Ar) (Az Ay Ay (Bf (rows := List.map Er [(Db.mk 0 0)]) GY MD Ay Ay Ay Ay (B9 (Lv _)) (Ri _)) (Az Ay Ay (Bv (cs := [.p (I 0), .p (.lst (List.map Er [(Db.mk 0 0)]))]) EU Hk Ar) (Az Ay Ay (Bv (cs := [.p (I 1), .p (I 0)]) GI MD Ar) (Az Ay Ay (Bf (rows := List.map Er [(Db.mk 1 0)]) GY MD Ay Ay Ay Ay (B9 (Lv _)) (Ri _)) (Az Ay Ay (Bv (cs := [.p (I 0), .p (.lst (List.map Er [(Db.mk 1 0)]))]) EU Hk Ar) (BP Ay Ay (BN Hk Ay) fun b1 => BP Ay Ay (BN Hk Ay) fun b2 => ?_)))))))))))))
 refine Az Ay Ay (BB (i := 1) (us := [.p (I 0), .p (.lst (List.map Er [(Db.mk 0 0)]))]) E0 Ay Ay Ay Ay Ay Ay) (Az Ay Ay (BB (i := 0) (us := [.p (I 0), .p (.lst (List.map Er [(Db.mk 1 0)]))]) E0 Ay Ay Ay Ay Ay Ay) (A5 Ay (A2 (A0 (Az Ay Ay (Bv (cs := [.p (I 0), .p (I 0)]) GI MD Ar) (Az Ay Ay (Bv (cs := [.p (I 1), .p (I 0)]) GI MD Ar) (Az Ay Ay (Bf (rows := List.map Er [(Db.mk 0 0), (Db.mk 1 0)]) GY MD Ay Ay Ay Ay (B9 (Lv _)) (Ri _)) (Az Ay Ay (Bv (cs := [.p (I 0), .p (.lst (List.map Er [(Db.mk 0 0), (Db.mk 1 0)]))]) EU Hk Ar) (BP Ay Ay (BN Hk Ay) fun b3 => Az Ay Ay (BB (i := 0) (us := [.p (I 0), .p (.lst (List.map Er [(Db.mk 0 0), (Db.mk 1 0)]))]) E0 Ay Ay Ay Ay Ay Ay) ?_)))))))))
 refine A5 Ay (A2 (A0 (Az Ay Ay (A4 Ay) (A5 Ay (A2 (A0 (Az Ay Ay (A4 Ay) (A5 Ay (A2 (A0 (Az Ay Ay (DJ Ay Ay (Lg ⟨#[90]⟩ [] AP) (aw (we Ay) (aw (Cs Ay) (C7)))) (Az Ay Ay (DJ Ay Ay (Lg ⟨#[122, 101, 114, 111]⟩ [] AP) (aw (we Ay) (aw (Cs Ay) (C7)))) (BP Ay Ay (BN B8 Ay) fun b6 => BP Ay Ay (BN B8 Ay) fun b7 => Az Ay Ay (BB (i := 1) BU Ay Ay Ay Am Ac (CN _)) (Az Ay Ay (BB (i := 0) BU Ay Ay Ay Am Ac (CN _)) (A5 Ay (A2 (A0 (Az Ay Ay (DQ Ay Ay) (Az Ay Ay (A4 Ay) (A5 Ay (A2 (A0 (Az Ay Ay (A4 Ay) (A5 Ay (A2 (A0 (Az Ay Ay (A4 Ay) (A5 Ay (A2 ?_)))))))))))))))))))))))))))))
 refine Y7 [.val (.p (.fn 66)), .val (.p (.fn 62)), .val (.p (.fn 61)), .val (.agg [.p (I 0), .p (.lst (List.map Er [(Db.mk 0 0)]))]), .rel (fun v => ∃ q : Tm, v = TV q), .rel (fun v => ∃ q : Tm, v = TV q), .rel (fun v => ∃ q : Tm, v = TV q), .rel (fun v => ∃ q : Tm, v = TV q), .rel (fun v => ∃ l : List Tm, v = .p (.lst (Bg l)) ∧ l.length = 4), .rel (fun v => ∃ q : Tm, v = TV q), .rel (fun v => ∃ q : Tm, v = .agg ((Ci (D0 ⟨#[69, 113]⟩ 1 q)).map .p)), .val (.p (.fn 66)), .val (.p (.fn 62)), .val (.p (.fn 61)), .val (.agg [.p (I 0), .p (.lst (List.map Er [(Db.mk 0 0)]))]), .rel (fun v => ∃ q : Tm, v = TV q), .rel (fun v => ∃ q : Tm, v = TV q), .val (.agg [.p (I 0), .p (.lst (List.map Er [(Db.mk 0 0)]))]), .rel (fun v => ∃ q : Tm, v = TV q), .rel (fun v => ∃ q : Tm, v = TV q), .rel (fun v => ∃ q : Tm, v = TV q), .rel (fun v => ∃ q : Tm, v = TV q), .rel (fun v => ∃ l : List Tm, v = .p (.lst (Bg l)) ∧ l.length = 3), .rel (fun v => ∃ q : Tm, v = TV q), .rel (fun v => ∃ q : Tm, v = .agg ((Ci (D0 ⟨#[69, 113, 46, 114, 101, 102, 108]⟩ 1 q)).map .p)), .val (.p (.fn 66)), .val (.p (.fn 62)), .val (.p (.fn 61)), .val (.agg [.p (I 0), .p (.lst (List.map Er [(Db.mk 0 0)]))]), .rel (fun v => ∃ q : Tm, v = TV q), .rel (fun v => ∃ q : Tm, v = TV q), .rel (fun v => ∃ q : Tm, v = TV q), .val (.agg [.p (I 0), .p (.lst (List.map Er [(Db.mk 0 0)]))]), .rel (fun v => ∃ q : Tm, v = TV q), .rel (fun v => ∃ q : Tm, v = TV q), .rel (fun v => ∃ q : Tm, v = TV q), .rel (fun v => ∃ q : Tm, v = TV q), .val (.agg [.p (I 0), .p (.lst (List.map Er [(Db.mk 0 0)]))]), .rel (fun v => ∃ q : Tm, v = TV q), .rel (fun v => ∃ q : Tm, v = TV q), .rel (fun v => ∃ q : Tm, v = TV q), .rel (fun v => ∃ q : Tm, v = TV q), .rel (fun v => ∃ l : List Tm, v = .p (.lst (Bg l)) ∧ l.length = 5), .rel (fun v => ∃ q : Tm, v = TV q), .rel (fun v => ∃ q : Tm, v = .agg ((Ci (D0 ⟨#[69, 113, 46, 115, 121, 109, 109]⟩ 1 q)).map .p)), .val (.p (.fn 66)), .val (.p (.fn 62)), .val (.p (.fn 61)), .val (.agg [.p (I 0), .p (.lst (List.map Er [(Db.mk 0 0)]))]), .rel (fun v => ∃ q : Tm, v = TV q), .rel (fun v => ∃ q : Tm, v = TV q), .rel (fun v => ∃ q : Tm, v = TV q), .rel (fun v => ∃ q : Tm, v = TV q), .val (.agg [.p (I 0), .p (.lst (List.map Er [(Db.mk 0 0)]))]), .rel (fun v => ∃ q : Tm, v = TV q), .rel (fun v => ∃ q : Tm, v = TV q), .rel (fun v => ∃ q : Tm, v = TV q), .rel (fun v => ∃ q : Tm, v = TV q), .val (.agg [.p (I 0), .p (.lst (List.map Er [(Db.mk 0 0)]))]), .rel (fun v => ∃ q : Tm, v = TV q), .rel (fun v => ∃ q : Tm, v = TV q), .rel (fun v => ∃ q : Tm, v = TV q), .rel (fun v => ∃ q : Tm, v = TV q), .val (.agg [.p (I 0), .p (.lst (List.map Er [(Db.mk 0 0)]))]), .rel (fun v => ∃ q : Tm, v = TV q), .rel (fun v => ∃ q : Tm, v = TV q), .rel (fun v => ∃ q : Tm, v = TV q), .rel (fun v => ∃ q : Tm, v = TV q), .rel (fun v => ∃ l : List Tm, v = .p (.lst (Bg l)) ∧ l.length = 7), .rel (fun v => ∃ q : Tm, v = TV q), .rel (fun v => ∃ q : Tm, v = .agg ((Ci (D0 ⟨#[69, 113, 46, 116, 114, 97, 110, 115]⟩ 1 q)).map .p)), .val (.p (.fn 66)), .val (.p (.fn 62)), .val (.p (.fn 61)), .val (.agg [.p (I 0), .p (.lst (List.map Er [(Db.mk 0 0)]))]), .rel (fun v => ∃ q : Tm, v = TV q), .val (.p (.fn 61)), .val (.agg [.p (I 0), .p (.lst (List.map Er [(Db.mk 1 0)]))]), .rel (fun v => ∃ q : Tm, v = TV q), .val (.p (.fn 67)), .rel (fun v => ∃ q : Tm, v = TV q), .val (.p (.fn 67)), .rel (fun v => ∃ q : Tm, v = TV q), .rel (fun v => ∃ q : Tm, v = TV q), .rel (fun v => ∃ q : Tm, v = TV q), .val (.agg [.p (I 0), .p (.lst (List.map Er [(Db.mk 0 0), (Db.mk 1 0)]))]), .val (.p (.fn 67)), .rel (fun v => ∃ q : Tm, v = TV q), .rel (fun v => ∃ q : Tm, v = TV q), .rel (fun v => ∃ q : Tm, v = TV q), .rel (fun v => ∃ q : Tm, v = TV q), .val (.agg [.p (I 0), .p (.lst (List.map Er [(Db.mk 0 0)]))]), .rel (fun v => ∃ q : Tm, v = TV q), .rel (fun v => ∃ q : Tm, v = TV q), .rel (fun v => ∃ q : Tm, v = TV q), .rel (fun v => ∃ q : Tm, v = TV q), .val (.agg [.p (I 0), .p (.lst (List.map Er [(Db.mk 1 0)]))]), .rel (fun v => ∃ q : Tm, v = TV q), .rel (fun v => ∃ q : Tm, v = TV q), .rel (fun v => ∃ q : Tm, v = TV q), .rel (fun v => ∃ l : List Tm, v = .p (.lst (Bg l)) ∧ l.length = 2), .rel (fun v => ∃ q : Tm, v = TV q), .rel (fun v => ∃ q : Tm, v = TV q), .rel (fun v => ∃ q : Tm, v = TV q), .rel (fun v => ∃ l : List Tm, v = .p (.lst (Bg l)) ∧ l.length = 2), .rel (fun v => ∃ q : Tm, v = TV q), .rel (fun v => ∃ q : Tm, v = TV q), .rel (fun v => ∃ l : List Tm, v = .p (.lst (Bg l)) ∧ l.length = 9), .rel (fun v => ∃ q : Tm, v = TV q), .rel (fun v => ∃ q : Tm, v = .agg ((Ci (D0 ⟨#[69, 113, 46, 99, 111, 110, 103, 114]⟩ 2 q)).map .p)), .val (.p (.fn 66)), .val (.p (.fn 61)), .val (.agg [.p (I 0), .p (.nils)]), .rel (fun v => ∃ q : Tm, v = TV q), .rel (fun v => ∃ q : Tm, v = .agg ((Ci (D0 ⟨#[90]⟩ 0 q)).map .p)), .val (.p (.fn 66)), .val (.p (.fn 62)), .val (.agg ((Bu (Bh ⟨#[90]⟩ [])).map .p)), .val (.agg ((Bu (Bh ⟨#[90]⟩ [])).map .p)), .val (.agg ((Bu (Bh ⟨#[90]⟩ [])).map .p)), .val (.p (.lst (Bg ([(Bh ⟨#[90]⟩ []), (Bh ⟨#[90]⟩ []), (Bh ⟨#[90]⟩ [])])))), .rel (fun v => ∃ q : Tm, v = TV q), .rel (fun v => ∃ q : Tm, v = .agg ((Ci (D0 ⟨#[97, 100, 100]⟩ 0 q)).map .p)), .val (.p (.fn 66)), .val (.agg ((Bu (Bh ⟨#[90]⟩ [])).map .p)), .val (.agg ((Ci (D0 ⟨#[122, 101, 114, 111]⟩ 0 (Bh ⟨#[90]⟩ []))).map .p)), .val (.p (.fn 66)), .val (.p (.fn 62)), .val (.agg ((Bu (Bh ⟨#[90]⟩ [])).map .p)), .val (.agg ((Bu (Bh ⟨#[90]⟩ [])).map .p)), .val (.p (.lst (Bg ([(Bh ⟨#[90]⟩ []), (Bh ⟨#[90]⟩ [])])))), .rel (fun v => ∃ q : Tm, v = TV q), .rel (fun v => ∃ q : Tm, v = .agg ((Ci (D0 ⟨#[110, 101, 103]⟩ 0 q)).map .p)), .val (.p (.fn 66)), .val (.agg ((Bu (Bh ⟨#[90]⟩ [])).map .p)), .val (.agg ((Ci (D0 ⟨#[111, 110, 101]⟩ 0 (Bh ⟨#[90]⟩ []))).map .p)), .val (.p (.fn 66)), .val (.p (.fn 62)), .val (.agg ((Bu (Bh ⟨#[90]⟩ [])).map .p)), .val (.agg ((Bu (Bh ⟨#[90]⟩ [])).map .p)), .val (.fn (.func 64) [] [.ptr b6 0]), .rel (fun v => ∃ q : Tm, v = TV q), .rel (fun v => ∃ q : Tm, v = TV q), .rel (fun v => ∃ q : Tm, v = TV q), .rel (fun v => ∃ q : Tm, v = TV q), .rel (fun v => ∃ q : Tm, v = TV q), .rel (fun v => ∃ q : Tm, v = TV q), .rel (fun v => ∃ q : Tm, v = TV q), .rel (fun v => ∃ l : List Tm, v = .p (.lst (Bg l)) ∧ l.length = 3), .rel (fun v => ∃ q : Tm, v = TV q), .rel (fun v => ∃ q : Tm, v = .agg ((Ci (D0 ⟨#[108, 48]⟩ 0 q)).map .p)), .val (.p (.fn 66)), .val (.p (.fn 62)), .val (.agg ((Bu (Bh ⟨#[90]⟩ [])).map .p)), .val (.agg ((Bu (Bh ⟨#[90]⟩ [])).map .p)), .val (.agg ((Bu (Bh ⟨#[90]⟩ [])).map .p)), .val (.fn (.func 64) [] [.ptr b6 0]), .rel (fun v => ∃ q : Tm, v = TV q), .rel (fun v => ∃ q : Tm, v = TV q), .rel (fun v => ∃ q : Tm, v = TV q), .rel (fun v => ∃ q : Tm, v = TV q), .rel (fun v => ∃ q : Tm, v = TV q), .rel (fun v => ∃ q : Tm, v = TV q), .rel (fun v => ∃ q : Tm, v = TV q), .rel (fun v => ∃ q : Tm, v = TV q), .rel (fun v => ∃ q : Tm, v = TV q), .rel (fun v => ∃ q : Tm, v = TV q), .rel (fun v => ∃ q : Tm, v = TV q), .rel (fun v => ∃ l : List Tm, v = .p (.lst (Bg l)) ∧ l.length = 4), .rel (fun v => ∃ q : Tm, v = TV q), .rel (fun v => ∃ q : Tm, v = .agg ((Ci (D0 ⟨#[108, 49]⟩ 0 q)).map .p)), .val (.p (.fn 66)), .val (.p (.fn 62)), .val (.agg ((Bu (Bh ⟨#[90]⟩ [])).map .p)), .val (.fn (.func 64) [] [.ptr b6 0]), .val (.agg ((Bu (Bh ⟨#[122, 101, 114, 111]⟩ [])).map .p)), .rel (fun v => ∃ q : Tm, v = TV q), .rel (fun v => ∃ q : Tm, v = TV q), .rel (fun v => ∃ q : Tm, v = TV q), .rel (fun v => ∃ q : Tm, v = TV q), .rel (fun v => ∃ l : List Tm, v = .p (.lst (Bg l)) ∧ l.length = 2), .rel (fun v => ∃ q : Tm, v = TV q), .rel (fun v => ∃ q : Tm, v = .agg ((Ci (D0 ⟨#[108, 50]⟩ 0 q)).map .p)), .val (.p (.fn 66)), .val (.p (.fn 62)), .val (.agg ((Bu (Bh ⟨#[90]⟩ [])).map .p)), .val (.fn (.func 64) [] [.ptr b6 0]), .rel (fun v => ∃ q : Tm, v = TV q), .rel (fun v => ∃ q : Tm, v = TV q), .rel (fun v => ∃ q : Tm, v = TV q), .rel (fun v => ∃ q : Tm, v = TV q), .val (.agg ((Bu (Bh ⟨#[122, 101, 114, 111]⟩ [])).map .p)), .rel (fun v => ∃ q : Tm, v = TV q), .rel (fun v => ∃ l : List Tm, v = .p (.lst (Bg l)) ∧ l.length = 2), .rel (fun v => ∃ q : Tm, v = TV q), .rel (fun v => ∃ q : Tm, v = .agg ((Ci (D0 ⟨#[108, 51]⟩ 0 q)).map .p)), .val (.p (.fn 66)), .val (.p (.fn 62)), .val (.agg ((Bu (Bh ⟨#[90]⟩ [])).map .p)), .val (.agg ((Bu (Bh ⟨#[90]⟩ [])).map .p)), .val (.fn (.func 64) [] [.ptr b6 0]), .rel (fun v => ∃ q : Tm, v = TV q), .rel (fun v => ∃ q : Tm, v = TV q), .rel (fun v => ∃ q : Tm, v = TV q), .rel (fun v => ∃ q : Tm, v = TV q), .rel (fun v => ∃ q : Tm, v = TV q), .rel (fun v => ∃ q : Tm, v = TV q), .rel (fun v => ∃ q : Tm, v = TV q), .rel (fun v => ∃ q : Tm, v = TV q), .rel (fun v => ∃ q : Tm, v = TV q), .rel (fun v => ∃ q : Tm, v = TV q), .rel (fun v => ∃ l : List Tm, v = .p (.lst (Bg l)) ∧ l.length = 3), .rel (fun v => ∃ q : Tm, v = TV q), .rel (fun v => ∃ q : Tm, v = .agg ((Ci (D0 ⟨#[108, 52]⟩ 0 q)).map .p)), .val (.p (.fn 66)), .val (.p (.fn 62)), .val (.agg ((Bu (Bh ⟨#[90]⟩ [])).map .p)), .val (.fn (.func 64) [] [.ptr b6 0]), .rel (fun v => ∃ q : Tm, v = TV q), .rel (fun v => ∃ q : Tm, v = TV q), .rel (fun v => ∃ q : Tm, v = TV q), .rel (fun v => ∃ q : Tm, v = TV q), .rel (fun v => ∃ q : Tm, v = TV q), .rel (fun v => ∃ l : List Tm, v = .p (.lst (Bg l)) ∧ l.length = 2), .rel (fun v => ∃ q : Tm, v = TV q), .rel (fun v => ∃ q : Tm, v = .agg ((Ci (D0 ⟨#[108, 53]⟩ 0 q)).map .p)), .val (.p (.fn 66)), .val (.fn (.func 64) [] [.ptr b6 0]), .val (.agg ((Bu (Bh ⟨#[122, 101, 114, 111]⟩ [])).map .p)), .rel (fun v => ∃ q : Tm, v = TV q), .val (.agg ((Bu (Bh ⟨#[122, 101, 114, 111]⟩ [])).map .p)), .rel (fun v => ∃ q : Tm, v = TV q)] ED Ay Ar Ar ?_ ?_
 ·exact ⟨⟨_, Be, Ay⟩, ⟨⟨_, Be, Ay⟩, ⟨⟨_, Be, Ay⟩, ⟨⟨_, Be, Ay⟩, ⟨⟨_, List.replicate 4 Be, Ay, Ay⟩, ⟨⟨_, Be, Ay⟩, ⟨⟨_, Be, Ay⟩, ⟨⟨_, Be, Ay⟩, ⟨⟨_, Be, Ay⟩, ⟨⟨_, Be, Ay⟩, ⟨⟨_, Be, Ay⟩, ⟨⟨_, Be, Ay⟩, ⟨⟨_, Be, Ay⟩, ⟨⟨_, List.replicate 3 Be, Ay, Ay⟩, ⟨⟨_, Be, Ay⟩, ⟨⟨_, Be, Ay⟩, ⟨⟨_, Be, Ay⟩, ⟨⟨_, Be, Ay⟩, ⟨⟨_, Be, Ay⟩, ⟨⟨_, Be, Ay⟩, ⟨⟨_, Be, Ay⟩, ⟨⟨_, Be, Ay⟩, ⟨⟨_, Be, Ay⟩, ⟨⟨_, Be, Ay⟩, ⟨⟨_, Be, Ay⟩, ⟨⟨_, Be, Ay⟩, ⟨⟨_, Be, Ay⟩, ⟨⟨_, List.replicate 5 Be, Ay, Ay⟩, ⟨⟨_, Be, Ay⟩, ⟨⟨_, Be, Ay⟩, ⟨⟨_, Be, Ay⟩, ⟨⟨_, Be, Ay⟩, ⟨⟨_, Be, Ay⟩, ⟨⟨_, Be, Ay⟩, ⟨⟨_, Be, Ay⟩, ⟨⟨_, Be, Ay⟩, ⟨⟨_, Be, Ay⟩, ⟨⟨_, Be, Ay⟩, ⟨⟨_, Be, Ay⟩, ⟨⟨_, Be, Ay⟩, ⟨⟨_, Be, Ay⟩, ⟨⟨_, Be, Ay⟩, ⟨⟨_, Be, Ay⟩, ⟨⟨_, Be, Ay⟩, ⟨⟨_, Be, Ay⟩, ⟨⟨_, Be, Ay⟩, ⟨⟨_, List.replicate 7 Be, Ay, Ay⟩, ⟨⟨_, Be, Ay⟩, ⟨⟨_, Be, Ay⟩, ⟨⟨_, Be, Ay⟩, ⟨⟨_, Be, Ay⟩, ⟨⟨_, Be, Ay⟩, ⟨⟨_, Be, Ay⟩, ⟨⟨_, Be, Ay⟩, ⟨⟨_, Be, Ay⟩, ⟨⟨_, Be, Ay⟩, ⟨⟨_, Be, Ay⟩, ⟨⟨_, Be, Ay⟩, ⟨⟨_, Be, Ay⟩, ⟨⟨_, Be, Ay⟩, ⟨⟨_, Be, Ay⟩, ⟨⟨_, Be, Ay⟩, ⟨⟨_, Be, Ay⟩, ⟨⟨_, Be, Ay⟩, ⟨⟨_, Be, Ay⟩, ⟨⟨_, Be, Ay⟩, ⟨⟨_, List.replicate 2 Be, Ay, Ay⟩, ⟨⟨_, Be, Ay⟩, ⟨⟨_, Be, Ay⟩, ⟨⟨_, Be, Ay⟩, ⟨⟨_, List.replicate 2 Be, Ay, Ay⟩, ⟨⟨_, Be, Ay⟩, ⟨⟨_, Be, Ay⟩, ⟨⟨_, List.replicate 9 Be, Ay, Ay⟩, ⟨⟨_, Be, Ay⟩, ⟨⟨_, Be, Ay⟩, ⟨⟨_, Be, Ay⟩, ⟨⟨_, Be, Ay⟩, ⟨⟨_, Be, Ay⟩, ⟨⟨_, Be, Ay⟩, ⟨⟨_, Be, Ay⟩, ⟨⟨_, Be, Ay⟩, ⟨⟨_, Be, Ay⟩, ⟨⟨_, Be, Ay⟩, ⟨⟨_, Be, Ay⟩, ⟨⟨_, Be, Ay⟩, ⟨⟨_, Be, Ay⟩, ⟨⟨_, Be, Ay⟩, ⟨⟨_, Be, Ay⟩, ⟨⟨_, List.replicate 3 Be, Ay, Ay⟩, ⟨⟨_, Be, Ay⟩, ⟨⟨_, Be, Ay⟩, ⟨⟨_, Be, Ay⟩, ⟨⟨_, Be, Ay⟩, ⟨⟨_, Be, Ay⟩, ⟨⟨_, Be, Ay⟩, ⟨⟨_, Be, Ay⟩, ⟨⟨_, Be, Ay⟩, ⟨⟨_, Be, Ay⟩, ⟨⟨_, Be, Ay⟩, ⟨⟨_, Be, Ay⟩, ⟨⟨_, Be, Ay⟩, ⟨⟨_, Be, Ay⟩, ⟨⟨_, List.replicate 4 Be, Ay, Ay⟩, ⟨⟨_, Be, Ay⟩, ⟨⟨_, Be, Ay⟩, ⟨⟨_, Be, Ay⟩, ⟨⟨_, Be, Ay⟩, ⟨⟨_, Be, Ay⟩, ⟨⟨_, Be, Ay⟩, ⟨⟨_, List.replicate 2 Be, Ay, Ay⟩, ⟨⟨_, Be, Ay⟩, ⟨⟨_, Be, Ay⟩, ⟨⟨_, Be, Ay⟩, ⟨⟨_, Be, Ay⟩, ⟨⟨_, Be, Ay⟩, ⟨⟨_, Be, Ay⟩, ⟨⟨_, Be, Ay⟩, ⟨⟨_, List.replicate 2 Be, Ay, Ay⟩, ⟨⟨_, Be, Ay⟩, ⟨⟨_, Be, Ay⟩, ⟨⟨_, Be, Ay⟩, ⟨⟨_, Be, Ay⟩, ⟨⟨_, Be, Ay⟩, ⟨⟨_, Be, Ay⟩, ⟨⟨_, Be, Ay⟩, ⟨⟨_, Be, Ay⟩, ⟨⟨_, Be, Ay⟩, ⟨⟨_, Be, Ay⟩, ⟨⟨_, Be, Ay⟩, ⟨⟨_, Be, Ay⟩, ⟨⟨_, List.replicate 3 Be, Ay, Ay⟩, ⟨⟨_, Be, Ay⟩, ⟨⟨_, Be, Ay⟩, ⟨⟨_, Be, Ay⟩, ⟨⟨_, Be, Ay⟩, ⟨⟨_, Be, Ay⟩, ⟨⟨_, Be, Ay⟩, ⟨⟨_, Be, Ay⟩, ⟨⟨_, List.replicate 2 Be, Ay, Ay⟩, ⟨⟨_, Be, Ay⟩, ⟨⟨_, Be, Ay⟩, ⟨⟨_, Be, Ay⟩, ⟨⟨_, Be, Ay⟩, trivial⟩⟩⟩⟩⟩⟩⟩⟩⟩⟩⟩⟩⟩⟩⟩⟩⟩⟩⟩⟩⟩⟩⟩⟩⟩⟩⟩⟩⟩⟩⟩⟩⟩⟩⟩⟩⟩⟩⟩⟩⟩⟩⟩⟩⟩⟩⟩⟩⟩⟩⟩⟩⟩⟩⟩⟩⟩⟩⟩⟩⟩⟩⟩⟩⟩⟩⟩⟩⟩⟩⟩⟩⟩⟩⟩⟩⟩⟩⟩⟩⟩⟩⟩⟩⟩⟩⟩⟩⟩⟩⟩⟩⟩⟩⟩⟩⟩⟩⟩⟩⟩⟩⟩⟩⟩⟩⟩⟩⟩⟩⟩⟩⟩⟩⟩⟩⟩⟩⟩⟩⟩⟩⟩⟩⟩⟩⟩⟩⟩⟩⟩⟩⟩⟩⟩⟩⟩⟩⟩⟩⟩⟩⟩⟩
 refine B6 Ay (fun Bs => A1 Ay) (B6 Ay (fun Bs => A1 Ay) (B6 Ay (fun Bs => A1 Ay) (B6 Ay (fun Bs => A8 (i := Bs.length + 4) E0 Ay (B3 Ay) Ay) (Bw Ay (fun Bs => Bb Ay Ay (PK (Fl.mk 0 [(Db.mk 0 0)])) (.inl Ay)) ?_))))
 rintro _ ⟨q, rfl⟩
 refine Bw Ay (fun Bs => Bb Ay Ay (Dn 0) (.inl Ay)) ?_
 rintro _ ⟨q1, rfl⟩
 refine Bw Ay (fun Bs => Bb Ay Ay (Dn 1) (.inl Ay)) ?_
 rintro _ ⟨q2, rfl⟩
 refine Bw Ay (fun Bs => DF (MA (Bv (cs := [.p (I 1), .p (I 0), .p (.str ⟨#[]⟩), .p (.nils), .p (.nils)]) CV B8 Ar)) ⟨(.mk 1 0 ⟨#[]⟩ [] [] : Tm), Ay⟩) ?_
 rintro _ ⟨q3, rfl⟩
 refine Bw Ay (fun Bs => DF (Bf (rows := Bg [q, q1, q2, q3]) CL B8 Ay Ay Ay Ay (B9 (CT _)) (DP _)) ⟨[q, q1, q2, q3], Ay, Ay⟩) ?_
 rintro _ ⟨l, rfl, hl⟩
 refine Bw Ay (fun Bs => Bb Ay Ay (JP l Af Af) (.inl Ay)) ?_
 rintro _ ⟨q4, rfl⟩
 refine Bw Ay (fun Bs => DF (Bp Ay Ay (Hq ⟨#[69, 113]⟩ 1 q4) Ay) ⟨_, Ay⟩) ?_
 rintro _ ⟨q5, rfl⟩
 refine B6 Ay (fun Bs => A1 Ay) (B6 Ay (fun Bs => A1 Ay) (B6 Ay (fun Bs => A1 Ay) (B6 Ay (fun Bs => A8 (i := Bs.length + 4) E0 Ay (B3 Ay) Ay) (Bw Ay (fun Bs => Bb Ay Ay (PK (Fl.mk 0 [(Db.mk 0 0)])) (.inl Ay)) ?_))))
 rintro _ ⟨q6, rfl⟩
 refine Bw Ay (fun Bs => Bb Ay Ay (Dn 0) (.inl Ay)) ?_
 rintro _ ⟨q7, rfl⟩
 refine B6 Ay (fun Bs => A8 (i := Bs.length + 4) E0 Ay (B3 Ay) Ay) (Bw Ay (fun Bs => Bb Ay Ay (Dn 1) (.inl Ay)) ?_)
 rintro _ ⟨q8, rfl⟩
 refine Bw Ay (fun Bs => Bb Ay Ay (Dn 0) (.inl Ay)) ?_
 rintro _ ⟨q9, rfl⟩
 refine Bw Ay (fun Bs => Bb Ay Ay (Dn 0) (.inl Ay)) ?_
 rintro _ ⟨q10, rfl⟩
 refine Bw Ay (fun Bs => Bb Ay Ay (Mh (Fl.mk 0 [(Db.mk 0 0)]) q8 q9 q10) (.inl Ay)) ?_
 rintro _ ⟨q11, rfl⟩
 refine Bw Ay (fun Bs => DF (Bf (rows := Bg [q6, q7, q11]) CL B8 Ay Ay Ay Ay (B9 (CT _)) (DP _)) ⟨[q6, q7, q11], Ay, Ay⟩) ?_
 rintro _ ⟨l1, rfl, hl1⟩
 refine Bw Ay (fun Bs => Bb Ay Ay (JP l1 Af Af) (.inl Ay)) ?_
 rintro _ ⟨q12, rfl⟩
 refine Bw Ay (fun Bs => DF (Bp Ay Ay (Hq ⟨#[69, 113, 46, 114, 101, 102, 108]⟩ 1 q12) Ay) ⟨_, Ay⟩) ?_
 rintro _ ⟨q13, rfl⟩
 refine B6 Ay (fun Bs => A1 Ay) (B6 Ay (fun Bs => A1 Ay) (B6 Ay (fun Bs => A1 Ay) (B6 Ay (fun Bs => A8 (i := Bs.length + 4) E0 Ay (B3 Ay) Ay) (Bw Ay (fun Bs => Bb Ay Ay (PK (Fl.mk 0 [(Db.mk 0 0)])) (.inl Ay)) ?_))))
 rintro _ ⟨q14, rfl⟩
 refine Bw Ay (fun Bs => Bb Ay Ay (Dn 0) (.inl Ay)) ?_
 rintro _ ⟨q15, rfl⟩
 refine Bw Ay (fun Bs => Bb Ay Ay (Dn 1) (.inl Ay)) ?_
 rintro _ ⟨q16, rfl⟩
 refine B6 Ay (fun Bs => A8 (i := Bs.length + 4) E0 Ay (B3 Ay) Ay) (Bw Ay (fun Bs => Bb Ay Ay (Dn 2) (.inl Ay)) ?_)
 rintro _ ⟨q17, rfl⟩
 refine Bw Ay (fun Bs => Bb Ay Ay (Dn 1) (.inl Ay)) ?_
 rintro _ ⟨q18, rfl⟩
 refine Bw Ay (fun Bs => Bb Ay Ay (Dn 0) (.inl Ay)) ?_
 rintro _ ⟨q19, rfl⟩
 refine Bw Ay (fun Bs => Bb Ay Ay (Mh (Fl.mk 0 [(Db.mk 0 0)]) q17 q18 q19) (.inl Ay)) ?_
 rintro _ ⟨q20, rfl⟩
 refine B6 Ay (fun Bs => A8 (i := Bs.length + 4) E0 Ay (B3 Ay) Ay) (Bw Ay (fun Bs => Bb Ay Ay (Dn 3) (.inl Ay)) ?_)
 rintro _ ⟨q21, rfl⟩
 refine Bw Ay (fun Bs => Bb Ay Ay (Dn 1) (.inl Ay)) ?_
 rintro _ ⟨q22, rfl⟩
 refine Bw Ay (fun Bs => Bb Ay Ay (Dn 2) (.inl Ay)) ?_
 rintro _ ⟨q23, rfl⟩
 refine Bw Ay (fun Bs => Bb Ay Ay (Mh (Fl.mk 0 [(Db.mk 0 0)]) q21 q22 q23) (.inl Ay)) ?_
 rintro _ ⟨q24, rfl⟩
 refine Bw Ay (fun Bs => DF (Bf (rows := Bg [q14, q15, q16, q20, q24]) CL B8 Ay Ay Ay Ay (B9 (CT _)) (DP _)) ⟨[q14, q15, q16, q20, q24], Ay, Ay⟩) ?_
 rintro _ ⟨l2, rfl, hl2⟩
 refine Bw Ay (fun Bs => Bb Ay Ay (JP l2 Af Af) (.inl Ay)) ?_
 rintro _ ⟨q25, rfl⟩
 refine Bw Ay (fun Bs => DF (Bp Ay Ay (Hq ⟨#[69, 113, 46, 115, 121, 109, 109]⟩ 1 q25) Ay) ⟨_, Ay⟩) ?_
 rintro _ ⟨q26, rfl⟩
 refine B6 Ay (fun Bs => A1 Ay) (B6 Ay (fun Bs => A1 Ay) (B6 Ay (fun Bs => A1 Ay) (B6 Ay (fun Bs => A8 (i := Bs.length + 4) E0 Ay (B3 Ay) Ay) (Bw Ay (fun Bs => Bb Ay Ay (PK (Fl.mk 0 [(Db.mk 0 0)])) (.inl Ay)) ?_))))
 rintro _ ⟨q27, rfl⟩
 refine Bw Ay (fun Bs => Bb Ay Ay (Dn 0) (.inl Ay)) ?_
 rintro _ ⟨q28, rfl⟩
 refine Bw Ay (fun Bs => Bb Ay Ay (Dn 1) (.inl Ay)) ?_
 rintro _ ⟨q29, rfl⟩
 refine Bw Ay (fun Bs => Bb Ay Ay (Dn 2) (.inl Ay)) ?_
 rintro _ ⟨q30, rfl⟩
 refine B6 Ay (fun Bs => A8 (i := Bs.length + 4) E0 Ay (B3 Ay) Ay) (Bw Ay (fun Bs => Bb Ay Ay (Dn 3) (.inl Ay)) ?_)
 rintro _ ⟨q31, rfl⟩
 refine Bw Ay (fun Bs => Bb Ay Ay (Dn 2) (.inl Ay)) ?_
 rintro _ ⟨q32, rfl⟩
 refine Bw Ay (fun Bs => Bb Ay Ay (Dn 1) (.inl Ay)) ?_
 rintro _ ⟨q33, rfl⟩
 refine Bw Ay (fun Bs => Bb Ay Ay (Mh (Fl.mk 0 [(Db.mk 0 0)]) q31 q32 q33) (.inl Ay)) ?_
 rintro _ ⟨q34, rfl⟩
 refine B6 Ay (fun Bs => A8 (i := Bs.length + 4) E0 Ay (B3 Ay) Ay) (Bw Ay (fun Bs => Bb Ay Ay (Dn 4) (.inl Ay)) ?_)
 rintro _ ⟨q35, rfl⟩
 refine Bw Ay (fun Bs => Bb Ay Ay (Dn 2) (.inl Ay)) ?_
 rintro _ ⟨q36, rfl⟩
 refine Bw Ay (fun Bs => Bb Ay Ay (Dn 1) (.inl Ay)) ?_
 rintro _ ⟨q37, rfl⟩
 refine Bw Ay (fun Bs => Bb Ay Ay (Mh (Fl.mk 0 [(Db.mk 0 0)]) q35 q36 q37) (.inl Ay)) ?_
 rintro _ ⟨q38, rfl⟩
 refine B6 Ay (fun Bs => A8 (i := Bs.length + 4) E0 Ay (B3 Ay) Ay) (Bw Ay (fun Bs => Bb Ay Ay (Dn 5) (.inl Ay)) ?_)
 rintro _ ⟨q39, rfl⟩
 refine Bw Ay (fun Bs => Bb Ay Ay (Dn 4) (.inl Ay)) ?_
 rintro _ ⟨q40, rfl⟩
 refine Bw Ay (fun Bs => Bb Ay Ay (Dn 2) (.inl Ay)) ?_
 rintro _ ⟨q41, rfl⟩
 refine Bw Ay (fun Bs => Bb Ay Ay (Mh (Fl.mk 0 [(Db.mk 0 0)]) q39 q40 q41) (.inl Ay)) ?_
 rintro _ ⟨q42, rfl⟩
 refine Bw Ay (fun Bs => DF (Bf (rows := Bg [q27, q28, q29, q30, q34, q38, q42]) CL B8 Ay Ay Ay Ay (B9 (CT _)) (DP _)) ⟨[q27, q28, q29, q30, q34, q38, q42], Ay, Ay⟩) ?_
 rintro _ ⟨l3, rfl, hl3⟩
 refine Bw Ay (fun Bs => Bb Ay Ay (JP l3 Af Af) (.inl Ay)) ?_
 rintro _ ⟨q43, rfl⟩
 refine Bw Ay (fun Bs => DF (Bp Ay Ay (Hq ⟨#[69, 113, 46, 116, 114, 97, 110, 115]⟩ 1 q43) Ay) ⟨_, Ay⟩) ?_
 rintro _ ⟨q44, rfl⟩
 refine B6 Ay (fun Bs => A1 Ay) (B6 Ay (fun Bs => A1 Ay) (B6 Ay (fun Bs => A1 Ay) (B6 Ay (fun Bs => A8 (i := Bs.length + 4) E0 Ay (B3 Ay) Ay) (Bw Ay (fun Bs => Bb Ay Ay (PK (Fl.mk 0 [(Db.mk 0 0)])) (.inl Ay)) ?_))))
 rintro _ ⟨q45, rfl⟩
 refine B6 Ay (fun Bs => A1 Ay) (B6 Ay (fun Bs => A8 (i := Bs.length + 3) E0 Ay (B3 Ay) Ay) (Bw Ay (fun Bs => Bb Ay Ay (PK (Fl.mk 0 [(Db.mk 1 0)])) (.inl Ay)) ?_))
 rintro _ ⟨q46, rfl⟩
 refine B6 Ay (fun Bs => A1 Ay) (Bw Ay (fun Bs => Bb Ay Ay (XB 1 0 Aw Aw) (.inl Ay)) ?_)
 rintro _ ⟨q47, rfl⟩
 refine B6 Ay (fun Bs => A1 Ay) (Bw Ay (fun Bs => Bb Ay Ay (XB 2 1 Aw Aw) (.inl Ay)) ?_)
 rintro _ ⟨q48, rfl⟩
 refine Bw Ay (fun Bs => Bb Ay Ay (Dn 3) (.inl Ay)) ?_
 rintro _ ⟨q49, rfl⟩
 refine Bw Ay (fun Bs => Bb Ay Ay (Dn 4) (.inl Ay)) ?_
 rintro _ ⟨q50, rfl⟩
 refine B6 Ay (fun Bs => A8 (i := Bs.length + 2) E0 Ay (B3 Ay) Ay) (B6 Ay (fun Bs => A1 Ay) (Bw Ay (fun Bs => Bb Ay Ay (XB 5 4 Aw Aw) (.inl Ay)) ?_))
 rintro _ ⟨q51, rfl⟩
 refine Bw Ay (fun Bs => Bb Ay Ay (Dn 3) (.inl Ay)) ?_
 rintro _ ⟨q52, rfl⟩
 refine Bw Ay (fun Bs => Bb Ay Ay (Dn 2) (.inl Ay)) ?_
 rintro _ ⟨q53, rfl⟩
 refine Bw Ay (fun Bs => Bb Ay Ay (Mh (Fl.mk 0 [(Db.mk 0 0), (Db.mk 1 0)]) q51 q52 q53) (.inl Ay)) ?_
 rintro _ ⟨q54, rfl⟩
 refine B6 Ay (fun Bs => A8 (i := Bs.length + 4) E0 Ay (B3 Ay) Ay) (Bw Ay (fun Bs => Bb Ay Ay (Dn 6) (.inl Ay)) ?_)
 rintro _ ⟨q55, rfl⟩
 refine Bw Ay (fun Bs => Bb Ay Ay (Dn 2) (.inl Ay)) ?_
 rintro _ ⟨q56, rfl⟩
 refine Bw Ay (fun Bs => Bb Ay Ay (Dn 1) (.inl Ay)) ?_
 rintro _ ⟨q57, rfl⟩
 refine Bw Ay (fun Bs => Bb Ay Ay (Mh (Fl.mk 0 [(Db.mk 0 0)]) q55 q56 q57) (.inl Ay)) ?_
 rintro _ ⟨q58, rfl⟩
 refine B6 Ay (fun Bs => A8 (i := Bs.length + 3) E0 Ay (B3 Ay) Ay) (Bw Ay (fun Bs => Bb Ay Ay (Dn 6) (.inl Ay)) ?_)
 rintro _ ⟨q59, rfl⟩
 refine Bw Ay (fun Bs => Bb Ay Ay (Dn 5) (.inl Ay)) ?_
 rintro _ ⟨q60, rfl⟩
 refine Bw Ay (fun Bs => Bb Ay Ay (Dn 3) (.inl Ay)) ?_
 rintro _ ⟨q61, rfl⟩
 refine Bw Ay (fun Bs => DF (Bf (rows := Bg [q60, q61]) CL B8 Ay Ay Ay Ay (B9 (CT _)) (DP _)) ⟨[q60, q61], Ay, Ay⟩) ?_
 rintro _ ⟨l4, rfl, hl4⟩
 refine Bw Ay (fun Bs => DF (MA (Bv (cs := [.p (I 4), .p (I 0), .p (.str ⟨#[]⟩), .p (.nils), .p (.lst (Bg l4))]) CV B8 Ar)) ⟨(.mk 4 0 ⟨#[]⟩ [] l4 : Tm), Ay⟩) ?_
 rintro _ ⟨q62, rfl⟩
 refine Bw Ay (fun Bs => Bb Ay Ay (Dn 4) (.inl Ay)) ?_
 rintro _ ⟨q63, rfl⟩
 refine Bw Ay (fun Bs => Bb Ay Ay (Dn 2) (.inl Ay)) ?_
 rintro _ ⟨q64, rfl⟩
 refine Bw Ay (fun Bs => DF (Bf (rows := Bg [q63, q64]) CL B8 Ay Ay Ay Ay (B9 (CT _)) (DP _)) ⟨[q63, q64], Ay, Ay⟩) ?_
 rintro _ ⟨l5, rfl, hl5⟩
 refine Bw Ay (fun Bs => DF (MA (Bv (cs := [.p (I 4), .p (I 0), .p (.str ⟨#[]⟩), .p (.nils), .p (.lst (Bg l5))]) CV B8 Ar)) ⟨(.mk 4 0 ⟨#[]⟩ [] l5 : Tm), Ay⟩) ?_
 rintro _ ⟨q65, rfl⟩
 refine Bw Ay (fun Bs => Bb Ay Ay (Mh (Fl.mk 0 [(Db.mk 1 0)]) q59 q62 q65) (.inl Ay)) ?_
 rintro _ ⟨q66, rfl⟩
 refine Bw Ay (fun Bs => DF (Bf (rows := Bg [q45, q46, q47, q48, q49, q50, q54, q58, q66]) CL B8 Ay Ay Ay Ay (B9 (CT _)) (DP _)) ⟨[q45, q46, q47, q48, q49, q50, q54, q58, q66], Ay, Ay⟩) ?_
 rintro _ ⟨l6, rfl, hl6⟩
 refine Bw Ay (fun Bs => Bb Ay Ay (JP l6 Af Af) (.inl Ay)) ?_
 rintro _ ⟨q67, rfl⟩
 refine Bw Ay (fun Bs => DF (Bp Ay Ay (Hq ⟨#[69, 113, 46, 99, 111, 110, 103, 114]⟩ 2 q67) Ay) ⟨_, Ay⟩) ?_
 rintro _ ⟨q68, rfl⟩
 refine B6 Ay (fun Bs => A1 Ay) (B6 Ay (fun Bs => A1 Ay) (B6 Ay (fun Bs => Bv (cs := [.p (I 0), .p (.nils)]) EU Hk Ar) (Bw Ay (fun Bs => Bb Ay Ay (B1.args (PK (Fl.mk 0 [])) (aw (Cs Ay) (C7))) (.inl Ay)) ?_)))
 rintro _ ⟨q69, rfl⟩
 refine Bw Ay (fun Bs => DF (Bp Ay Ay (Hq ⟨#[90]⟩ 0 q69) Ay) ⟨_, Ay⟩) ?_
 rintro _ ⟨q70, rfl⟩
 refine B6 Ay (fun Bs => A1 Ay) (B6 Ay (fun Bs => A1 Ay) (B6 Ay (fun Bs => A8 (i := Bs.length + 1) BU Ay (B3 Ay) Am) (B6 Ay (fun Bs => A8 (i := Bs.length + 1) BU Ay (B3 Ay) Am) (B6 Ay (fun Bs => A8 (i := Bs.length + 1) BU Ay (B3 Ay) Am) (B6 Ay (fun Bs => Bf (rows := Bg ([(Bh ⟨#[90]⟩ []), (Bh ⟨#[90]⟩ []), (Bh ⟨#[90]⟩ [])])) CL B8 Ay Ay Ay Ay (B9 (CT _)) (DP _)) (Bw Ay (fun Bs => Bb Ay Ay (JP ([(Bh ⟨#[90]⟩ []), (Bh ⟨#[90]⟩ []), (Bh ⟨#[90]⟩ [])]) Af Af) (.inl Ay)) ?_))))))
 rintro _ ⟨q71, rfl⟩
 refine Bw Ay (fun Bs => DF (Bp Ay Ay (Hq ⟨#[97, 100, 100]⟩ 0 q71) Ay) ⟨_, Ay⟩) ?_
 rintro _ ⟨q72, rfl⟩
 refine B6 Ay (fun Bs => A1 Ay) (B6 Ay (fun Bs => A8 (i := Bs.length + 1) BU Ay (B3 Ay) Am) (B6 Ay (fun Bs => Bp Ay Ay (Hq ⟨#[122, 101, 114, 111]⟩ 0 (Bh ⟨#[90]⟩ [])) Ay) (B6 Ay (fun Bs => A1 Ay) (B6 Ay (fun Bs => A1 Ay) (B6 Ay (fun Bs => A8 (i := Bs.length + 1) BU Ay (B3 Ay) Am) (B6 Ay (fun Bs => A8 (i := Bs.length + 1) BU Ay (B3 Ay) Am) (B6 Ay (fun Bs => Bf (rows := Bg ([(Bh ⟨#[90]⟩ []), (Bh ⟨#[90]⟩ [])])) CL B8 Ay Ay Ay Ay (B9 (CT _)) (DP _)) (Bw Ay (fun Bs => Bb Ay Ay (JP ([(Bh ⟨#[90]⟩ []), (Bh ⟨#[90]⟩ [])]) Af Af) (.inl Ay)) ?_))))))))
 rintro _ ⟨q73, rfl⟩
 refine Bw Ay (fun Bs => DF (Bp Ay Ay (Hq ⟨#[110, 101, 103]⟩ 0 q73) Ay) ⟨_, Ay⟩) ?_
 rintro _ ⟨q74, rfl⟩
 refine B6 Ay (fun Bs => A1 Ay) (B6 Ay (fun Bs => A8 (i := Bs.length + 1) BU Ay (B3 Ay) Am) (B6 Ay (fun Bs => Bp Ay Ay (Hq ⟨#[111, 110, 101]⟩ 0 (Bh ⟨#[90]⟩ [])) Ay) (B6 Ay (fun Bs => A1 Ay) (B6 Ay (fun Bs => A1 Ay) (B6 Ay (fun Bs => A8 (i := Bs.length + 1) BU Ay (B3 Ay) Am) (B6 Ay (fun Bs => A8 (i := Bs.length + 1) BU Ay (B3 Ay) Am) (B6 Ay (fun Bs => A1 Ay) (Bw Ay (fun Bs => Bb Ay Ay (Dn 1) (.inl Ay)) ?_))))))))
 rintro _ ⟨q75, rfl⟩
 refine Bw Ay (fun Bs => Bb Ay Ay (Dn 0) (.inl Ay)) ?_
 rintro _ ⟨q76, rfl⟩
 refine Bw Ay (fun Bs => Bb Ay Ay (I4 q75 q76) (.inl Ay)) ?_
 rintro _ ⟨q77, rfl⟩
 refine Bw Ay (fun Bs => Bb Ay Ay (Dn 0) (.inl Ay)) ?_
 rintro _ ⟨q78, rfl⟩
 refine Bw Ay (fun Bs => Bb Ay Ay (Dn 1) (.inl Ay)) ?_
 rintro _ ⟨q79, rfl⟩
 refine Bw Ay (fun Bs => Bb Ay Ay (I4 q78 q79) (.inl Ay)) ?_
 rintro _ ⟨q80, rfl⟩
 refine Bw Ay (fun Bs => DF (Ca [1] Ay (.inr Ay) (PO b6 (Bh ⟨#[90]⟩ []) q77 q80) ⟨_, _, Ay, Ay, Ay⟩ Av (aw (we Ay) (aw (we Ay) (aw (we Ay) (C7))))) ⟨(apply (.mk 3 0 ⟨#[69, 113]⟩ [Fl.mk 0 []] []) [(Bh ⟨#[90]⟩ []), q77, q80]), Ay⟩) ?_
 rintro _ ⟨q81, rfl⟩
 refine Bw Ay (fun Bs => DF (Bf (rows := Bg ([(Bh ⟨#[90]⟩ []), (Bh ⟨#[90]⟩ []), q81])) CL B8 Ay Ay Ay Ay (B9 (CT _)) (DP _)) ⟨[(Bh ⟨#[90]⟩ []), (Bh ⟨#[90]⟩ []), q81], Ay, Ay⟩) ?_
 rintro _ ⟨l7, rfl, hl7⟩
 refine Bw Ay (fun Bs => Bb Ay Ay (JP l7 Af Af) (.inl Ay)) ?_
 rintro _ ⟨q82, rfl⟩
 refine Bw Ay (fun Bs => DF (Bp Ay Ay (Hq ⟨#[108, 48]⟩ 0 q82) Ay) ⟨_, Ay⟩) ?_
 rintro _ ⟨q83, rfl⟩
 refine B6 Ay (fun Bs => A1 Ay) (B6 Ay (fun Bs => A1 Ay) (B6 Ay (fun Bs => A8 (i := Bs.length + 1) BU Ay (B3 Ay) Am) (B6 Ay (fun Bs => A8 (i := Bs.length + 1) BU Ay (B3 Ay) Am) (B6 Ay (fun Bs => A8 (i := Bs.length + 1) BU Ay (B3 Ay) Am) (B6 Ay (fun Bs => A1 Ay) (Bw Ay (fun Bs => Bb Ay Ay (Dn 2) (.inl Ay)) ?_))))))
 rintro _ ⟨q84, rfl⟩
 refine Bw Ay (fun Bs => Bb Ay Ay (Dn 1) (.inl Ay)) ?_
 rintro _ ⟨q85, rfl⟩
 refine Bw Ay (fun Bs => Bb Ay Ay (I4 q84 q85) (.inl Ay)) ?_
 rintro _ ⟨q86, rfl⟩
 refine Bw Ay (fun Bs => Bb Ay Ay (Dn 0) (.inl Ay)) ?_
 rintro _ ⟨q87, rfl⟩
 refine Bw Ay (fun Bs => Bb Ay Ay (I4 q86 q87) (.inl Ay)) ?_
 rintro _ ⟨q88, rfl⟩
 refine Bw Ay (fun Bs => Bb Ay Ay (Dn 2) (.inl Ay)) ?_
 rintro _ ⟨q89, rfl⟩
 refine Bw Ay (fun Bs => Bb Ay Ay (Dn 1) (.inl Ay)) ?_
 rintro _ ⟨q90, rfl⟩
 refine Bw Ay (fun Bs => Bb Ay Ay (Dn 0) (.inl Ay)) ?_
 rintro _ ⟨q91, rfl⟩
 refine Bw Ay (fun Bs => Bb Ay Ay (I4 q90 q91) (.inl Ay)) ?_
 rintro _ ⟨q92, rfl⟩
 refine Bw Ay (fun Bs => Bb Ay Ay (I4 q89 q92) (.inl Ay)) ?_
 rintro _ ⟨q93, rfl⟩
 refine Bw Ay (fun Bs => DF (Ca [1] Ay (.inr Ay) (PO b6 (Bh ⟨#[90]⟩ []) q88 q93) ⟨_, _, Ay, Ay, Ay⟩ Av (aw (we Ay) (aw (we Ay) (aw (we Ay) (C7))))) ⟨(apply (.mk 3 0 ⟨#[69, 113]⟩ [Fl.mk 0 []] []) [(Bh ⟨#[90]⟩ []), q88, q93]), Ay⟩) ?_
 rintro _ ⟨q94, rfl⟩
 refine Bw Ay (fun Bs => DF (Bf (rows := Bg ([(Bh ⟨#[90]⟩ []), (Bh ⟨#[90]⟩ []), (Bh ⟨#[90]⟩ []), q94])) CL B8 Ay Ay Ay Ay (B9 (CT _)) (DP _)) ⟨[(Bh ⟨#[90]⟩ []), (Bh ⟨#[90]⟩ []), (Bh ⟨#[90]⟩ []), q94], Ay, Ay⟩) ?_
 rintro _ ⟨l8, rfl, hl8⟩
 refine Bw Ay (fun Bs => Bb Ay Ay (JP l8 Af Af) (.inl Ay)) ?_
 rintro _ ⟨q95, rfl⟩
 refine Bw Ay (fun Bs => DF (Bp Ay Ay (Hq ⟨#[108, 49]⟩ 0 q95) Ay) ⟨_, Ay⟩) ?_
 rintro _ ⟨q96, rfl⟩
 refine B6 Ay (fun Bs => A1 Ay) (B6 Ay (fun Bs => A1 Ay) (B6 Ay (fun Bs => A8 (i := Bs.length + 1) BU Ay (B3 Ay) Am) (B6 Ay (fun Bs => A1 Ay) (B6 Ay (fun Bs => A8 (i := Bs.length + 0) BU Ay (B3 Ay) Am) (Bw Ay (fun Bs => Bb Ay Ay (Dn 0) (.inl Ay)) ?_)))))
 rintro _ ⟨q97, rfl⟩
 refine Bw Ay (fun Bs => Bb Ay Ay (I4 (Bh ⟨#[122, 101, 114, 111]⟩ []) q97) (.inl Ay)) ?_
 rintro _ ⟨q98, rfl⟩
 refine Bw Ay (fun Bs => Bb Ay Ay (Dn 0) (.inl Ay)) ?_
 rintro _ ⟨q99, rfl⟩
 refine Bw Ay (fun Bs => DF (Ca [1] Ay (.inr Ay) (PO b6 (Bh ⟨#[90]⟩ []) q98 q99) ⟨_, _, Ay, Ay, Ay⟩ Av (aw (we Ay) (aw (we Ay) (aw (we Ay) (C7))))) ⟨(apply (.mk 3 0 ⟨#[69, 113]⟩ [Fl.mk 0 []] []) [(Bh ⟨#[90]⟩ []), q98, q99]), Ay⟩) ?_
 rintro _ ⟨q100, rfl⟩
 refine Bw Ay (fun Bs => DF (Bf (rows := Bg ([(Bh ⟨#[90]⟩ []), q100])) CL B8 Ay Ay Ay Ay (B9 (CT _)) (DP _)) ⟨[(Bh ⟨#[90]⟩ []), q100], Ay, Ay⟩) ?_
 rintro _ ⟨l9, rfl, hl9⟩
 refine Bw Ay (fun Bs => Bb Ay Ay (JP l9 Af Af) (.inl Ay)) ?_
 rintro _ ⟨q101, rfl⟩
 refine Bw Ay (fun Bs => DF (Bp Ay Ay (Hq ⟨#[108, 50]⟩ 0 q101) Ay) ⟨_, Ay⟩) ?_
 rintro _ ⟨q102, rfl⟩
 refine B6 Ay (fun Bs => A1 Ay) (B6 Ay (fun Bs => A1 Ay) (B6 Ay (fun Bs => A8 (i := Bs.length + 1) BU Ay (B3 Ay) Am) (B6 Ay (fun Bs => A1 Ay) (Bw Ay (fun Bs => Bb Ay Ay (Dn 0) (.inl Ay)) ?_))))
 rintro _ ⟨q103, rfl⟩
 refine Bw Ay (fun Bs => Bb Ay Ay (L1 q103) (.inl Ay)) ?_
 rintro _ ⟨q104, rfl⟩
 refine Bw Ay (fun Bs => Bb Ay Ay (Dn 0) (.inl Ay)) ?_
 rintro _ ⟨q105, rfl⟩
 refine Bw Ay (fun Bs => Bb Ay Ay (I4 q104 q105) (.inl Ay)) ?_
 rintro _ ⟨q106, rfl⟩
 refine B6 Ay (fun Bs => A8 (i := Bs.length + 0) BU Ay (B3 Ay) Am) (Bw Ay (fun Bs => DF (Ca [1] Ay (.inr Ay) (PO b6 (Bh ⟨#[90]⟩ []) q106 (Bh ⟨#[122, 101, 114, 111]⟩ [])) ⟨_, _, Ay, Ay, Ay⟩ Av (aw (we Ay) (aw (we Ay) (aw (we Ay) (C7))))) ⟨(apply (.mk 3 0 ⟨#[69, 113]⟩ [Fl.mk 0 []] []) [(Bh ⟨#[90]⟩ []), q106, (Bh ⟨#[122, 101, 114, 111]⟩ [])]), Ay⟩) ?_)
 rintro _ ⟨q107, rfl⟩
 refine Bw Ay (fun Bs => DF (Bf (rows := Bg ([(Bh ⟨#[90]⟩ []), q107])) CL B8 Ay Ay Ay Ay (B9 (CT _)) (DP _)) ⟨[(Bh ⟨#[90]⟩ []), q107], Ay, Ay⟩) ?_
 rintro _ ⟨l10, rfl, hl10⟩
 refine Bw Ay (fun Bs => Bb Ay Ay (JP l10 Af Af) (.inl Ay)) ?_
 rintro _ ⟨q108, rfl⟩
 refine Bw Ay (fun Bs => DF (Bp Ay Ay (Hq ⟨#[108, 51]⟩ 0 q108) Ay) ⟨_, Ay⟩) ?_
 rintro _ ⟨q109, rfl⟩
 refine B6 Ay (fun Bs => A1 Ay) (B6 Ay (fun Bs => A1 Ay) (B6 Ay (fun Bs => A8 (i := Bs.length + 1) BU Ay (B3 Ay) Am) (B6 Ay (fun Bs => A8 (i := Bs.length + 1) BU Ay (B3 Ay) Am) (B6 Ay (fun Bs => A1 Ay) (Bw Ay (fun Bs => Bb Ay Ay (Dn 1) (.inl Ay)) ?_)))))
 rintro _ ⟨q110, rfl⟩
 refine Bw Ay (fun Bs => Bb Ay Ay (Dn 0) (.inl Ay)) ?_
 rintro _ ⟨q111, rfl⟩
 refine Bw Ay (fun Bs => Bb Ay Ay (I4 q110 q111) (.inl Ay)) ?_
 rintro _ ⟨q112, rfl⟩
 refine Bw Ay (fun Bs => Bb Ay Ay (L1 q112) (.inl Ay)) ?_
 rintro _ ⟨q113, rfl⟩
 refine Bw Ay (fun Bs => Bb Ay Ay (Dn 1) (.inl Ay)) ?_
 rintro _ ⟨q114, rfl⟩
 refine Bw Ay (fun Bs => Bb Ay Ay (L1 q114) (.inl Ay)) ?_
 rintro _ ⟨q115, rfl⟩
 refine Bw Ay (fun Bs => Bb Ay Ay (Dn 0) (.inl Ay)) ?_
 rintro _ ⟨q116, rfl⟩
 refine Bw Ay (fun Bs => Bb Ay Ay (L1 q116) (.inl Ay)) ?_
 rintro _ ⟨q117, rfl⟩
 refine Bw Ay (fun Bs => Bb Ay Ay (I4 q115 q117) (.inl Ay)) ?_
 rintro _ ⟨q118, rfl⟩
 refine Bw Ay (fun Bs => DF (Ca [1] Ay (.inr Ay) (PO b6 (Bh ⟨#[90]⟩ []) q113 q118) ⟨_, _, Ay, Ay, Ay⟩ Av (aw (we Ay) (aw (we Ay) (aw (we Ay) (C7))))) ⟨(apply (.mk 3 0 ⟨#[69, 113]⟩ [Fl.mk 0 []] []) [(Bh ⟨#[90]⟩ []), q113, q118]), Ay⟩) ?_
 rintro _ ⟨q119, rfl⟩
 refine Bw Ay (fun Bs => DF (Bf (rows := Bg ([(Bh ⟨#[90]⟩ []), (Bh ⟨#[90]⟩ []), q119])) CL B8 Ay Ay Ay Ay (B9 (CT _)) (DP _)) ⟨[(Bh ⟨#[90]⟩ []), (Bh ⟨#[90]⟩ []), q119], Ay, Ay⟩) ?_
 rintro _ ⟨l11, rfl, hl11⟩
 refine Bw Ay (fun Bs => Bb Ay Ay (JP l11 Af Af) (.inl Ay)) ?_
 rintro _ ⟨q120, rfl⟩
 refine Bw Ay (fun Bs => DF (Bp Ay Ay (Hq ⟨#[108, 52]⟩ 0 q120) Ay) ⟨_, Ay⟩) ?_
 rintro _ ⟨q121, rfl⟩
 refine B6 Ay (fun Bs => A1 Ay) (B6 Ay (fun Bs => A1 Ay) (B6 Ay (fun Bs => A8 (i := Bs.length + 1) BU Ay (B3 Ay) Am) (B6 Ay (fun Bs => A1 Ay) (Bw Ay (fun Bs => Bb Ay Ay (Dn 0) (.inl Ay)) ?_))))
 rintro _ ⟨q122, rfl⟩
 refine Bw Ay (fun Bs => Bb Ay Ay (L1 q122) (.inl Ay)) ?_
 rintro _ ⟨q123, rfl⟩
 refine Bw Ay (fun Bs => Bb Ay Ay (L1 q123) (.inl Ay)) ?_
 rintro _ ⟨q124, rfl⟩
 refine Bw Ay (fun Bs => Bb Ay Ay (Dn 0) (.inl Ay)) ?_
 rintro _ ⟨q125, rfl⟩
 refine Bw Ay (fun Bs => DF (Ca [1] Ay (.inr Ay) (PO b6 (Bh ⟨#[90]⟩ []) q124 q125) ⟨_, _, Ay, Ay, Ay⟩ Av (aw (we Ay) (aw (we Ay) (aw (we Ay) (C7))))) ⟨(apply (.mk 3 0 ⟨#[69, 113]⟩ [Fl.mk 0 []] []) [(Bh ⟨#[90]⟩ []), q124, q125]), Ay⟩) ?_
 rintro _ ⟨q126, rfl⟩
 refine Bw Ay (fun Bs => DF (Bf (rows := Bg ([(Bh ⟨#[90]⟩ []), q126])) CL B8 Ay Ay Ay Ay (B9 (CT _)) (DP _)) ⟨[(Bh ⟨#[90]⟩ []), q126], Ay, Ay⟩) ?_
 rintro _ ⟨l12, rfl, hl12⟩
 refine Bw Ay (fun Bs => Bb Ay Ay (JP l12 Af Af) (.inl Ay)) ?_
 rintro _ ⟨q127, rfl⟩
 refine Bw Ay (fun Bs => DF (Bp Ay Ay (Hq ⟨#[108, 53]⟩ 0 q127) Ay) ⟨_, Ay⟩) ?_
 rintro _ ⟨q128, rfl⟩
 refine B6 Ay (fun Bs => A1 Ay) (B6 Ay (fun Bs => A1 Ay) (B6 Ay (fun Bs => A8 (i := Bs.length + 0) BU Ay (B3 Ay) Am) (Bw Ay (fun Bs => Bb Ay Ay (L1 (Bh ⟨#[122, 101, 114, 111]⟩ [])) (.inl Ay)) ?_)))
 rintro _ ⟨q129, rfl⟩
 refine B6 Ay (fun Bs => A8 (i := Bs.length + 0) BU Ay (B3 Ay) Am) (Bw Ay (fun Bs => DF (Ca [1] Ay (.inr Ay) (PO b6 (Bh ⟨#[90]⟩ []) q129 (Bh ⟨#[122, 101, 114, 111]⟩ [])) ⟨_, _, Ay, Ay, Ay⟩ Av (aw (we Ay) (aw (we Ay) (aw (we Ay) (C7))))) ⟨(apply (.mk 3 0 ⟨#[69, 113]⟩ [Fl.mk 0 []] []) [(Bh ⟨#[90]⟩ []), q129, (Bh ⟨#[122, 101, 114, 111]⟩ [])]), Ay⟩) ?_)
 rintro _ ⟨q130, rfl⟩
 refine Tl ?_
 change AL _ _ _ 232 ⟨260, _, [.box b7 ((Bu (Bh ⟨#[122, 101, 114, 111]⟩ [])).map .p), .box b6 ((Bu (Bh ⟨#[90]⟩ [])).map .p), .box b3 [.p (I 0), .p (.lst (List.map Er [(Db.mk 0 0), (Db.mk 1 0)]))], .box b2 [.p (I 0), .p (.lst (List.map Er [(Db.mk 1 0)]))], .box b1 [.p (I 0), .p (.lst (List.map Er [(Db.mk 0 0)]))]], []⟩ _
 refine Az Ay Ay (Bp Ay Ay (Hq ⟨#[108, 54]⟩ 0 q130) Ay) (Az Ay Ay (Bf (rows := List.map Ci ([(D0 ⟨#[69, 113]⟩ 1 q5), (D0 ⟨#[69, 113, 46, 114, 101, 102, 108]⟩ 1 q13), (D0 ⟨#[69, 113, 46, 115, 121, 109, 109]⟩ 1 q26), (D0 ⟨#[69, 113, 46, 116, 114, 97, 110, 115]⟩ 1 q44), (D0 ⟨#[69, 113, 46, 99, 111, 110, 103, 114]⟩ 2 q68), (D0 ⟨#[90]⟩ 0 q70), (D0 ⟨#[97, 100, 100]⟩ 0 q72), (D0 ⟨#[122, 101, 114, 111]⟩ 0 (Bh ⟨#[90]⟩ [])), (D0 ⟨#[110, 101, 103]⟩ 0 q74), (D0 ⟨#[111, 110, 101]⟩ 0 (Bh ⟨#[90]⟩ [])), (D0 ⟨#[108, 48]⟩ 0 q83), (D0 ⟨#[108, 49]⟩ 0 q96), (D0 ⟨#[108, 50]⟩ 0 q102), (D0 ⟨#[108, 51]⟩ 0 q109), (D0 ⟨#[108, 52]⟩ 0 q121), (D0 ⟨#[108, 53]⟩ 0 q128), (D0 ⟨#[108, 54]⟩ 0 q130)])) Lx T7 Ay Ay Ay Ay (B9 (QG _)) (az _)) (Az Ay Ay (A4 Ay) (A5 Ay (A2 (A0 (Az Ay Ay (A1 Ay) ?_))))))
 refine Az Ay Ay (A4 Ay) (A5 Ay (BF (⟨Ay, _, _, ⟨_, _, Ay, Ay, Ay⟩, nS, ?_⟩)))
 all_goals exact ⟨⟨[(D0 ⟨#[69, 113]⟩ 1 q5), (D0 ⟨#[69, 113, 46, 114, 101, 102, 108]⟩ 1 q13), (D0 ⟨#[69, 113, 46, 115, 121, 109, 109]⟩ 1 q26), (D0 ⟨#[69, 113, 46, 116, 114, 97, 110, 115]⟩ 1 q44), (D0 ⟨#[69, 113, 46, 99, 111, 110, 103, 114]⟩ 2 q68), (D0 ⟨#[90]⟩ 0 q70), (D0 ⟨#[97, 100, 100]⟩ 0 q72), (D0 ⟨#[122, 101, 114, 111]⟩ 0 (Bh ⟨#[90]⟩ [])), (D0 ⟨#[110, 101, 103]⟩ 0 q74), (D0 ⟨#[111, 110, 101]⟩ 0 (Bh ⟨#[90]⟩ [])), (D0 ⟨#[108, 48]⟩ 0 q83), (D0 ⟨#[108, 49]⟩ 0 q96), (D0 ⟨#[108, 50]⟩ 0 q102), (D0 ⟨#[108, 51]⟩ 0 q109), (D0 ⟨#[108, 52]⟩ 0 q121), (D0 ⟨#[108, 53]⟩ 0 q128), (D0 ⟨#[108, 54]⟩ 0 q130)], rfl, rfl, by simp [D0]⟩, rfl⟩
theorem iH {ds : List Dt} (hk : ∀ d ∈ ds, d.kind = 0) (h : ds.map Dt.name = [⟨#[69, 113]⟩, ⟨#[69, 113, 46, 114, 101, 102, 108]⟩, ⟨#[69, 113, 46, 115, 121, 109, 109]⟩, ⟨#[69, 113, 46, 116, 114, 97, 110, 115]⟩, ⟨#[69, 113, 46, 99, 111, 110, 103, 114]⟩, ⟨#[90]⟩, ⟨#[97, 100, 100]⟩, ⟨#[122, 101, 114, 111]⟩, ⟨#[110, 101, 103]⟩, ⟨#[111, 110, 101]⟩, ⟨#[108, 48]⟩, ⟨#[108, 49]⟩, ⟨#[108, 50]⟩, ⟨#[108, 51]⟩, ⟨#[108, 52]⟩, ⟨#[108, 53]⟩, ⟨#[108, 54]⟩]) : IF ds (Fq (BY.mk ⟨#[90]⟩ ⟨#[97, 100, 100]⟩ ⟨#[122, 101, 114, 111]⟩ ⟨#[110, 101, 103]⟩ ⟨#[111, 110, 101]⟩ ⟨#[108, 101, 113]⟩ [⟨#[108, 48]⟩, ⟨#[108, 49]⟩, ⟨#[108, 50]⟩, ⟨#[108, 51]⟩, ⟨#[108, 52]⟩, ⟨#[108, 53]⟩, ⟨#[108, 54]⟩, ⟨#[108, 55]⟩, ⟨#[108, 56]⟩, ⟨#[108, 57]⟩, ⟨#[108, 49, 48]⟩, ⟨#[108, 49, 49]⟩, ⟨#[108, 49, 50]⟩, ⟨#[108, 49, 51]⟩])) = false := by
 have e (s : ByteArray) : Nu ds s = (ds.map Dt.name).any (fun n => decide (n = s)) := by rw [Yw hk]; simp [List.any_map, Function.comp_def]
 unfold IF
 rw [show (fun s => !Nu ds s) = (fun s => !(List.any [⟨#[69, 113]⟩, ⟨#[69, 113, 46, 114, 101, 102, 108]⟩, ⟨#[69, 113, 46, 115, 121, 109, 109]⟩, ⟨#[69, 113, 46, 116, 114, 97, 110, 115]⟩, ⟨#[69, 113, 46, 99, 111, 110, 103, 114]⟩, ⟨#[90]⟩, ⟨#[97, 100, 100]⟩, ⟨#[122, 101, 114, 111]⟩, ⟨#[110, 101, 103]⟩, ⟨#[111, 110, 101]⟩, ⟨#[108, 48]⟩, ⟨#[108, 49]⟩, ⟨#[108, 50]⟩, ⟨#[108, 51]⟩, ⟨#[108, 52]⟩, ⟨#[108, 53]⟩, ⟨#[108, 54]⟩] (fun n => decide (n = s)))) from funext fun s => by rw [e, h]]
 decide
theorem UH (GL : List (Nat × Obj)) (hG : G3 GL) (th : BY) (t : Tm) (cs : List Int) (us : List Tm) (e : Int) (h1 : Gj t) (h2 : size t < 1000000) (h3 : Dd th t = (cs, us, e)) : B1 Tryz.prog 19 [.agg ((Ei th).map .p), TV t] [.glob GL] (Dq (.tup [.p (.lst (List.map C0 cs)), .p (.lst (Bg us)), .p (I e)]) [.glob GL]) := by
 have := Xv GL hG th t h1 h2
 rw [h3] at this
 exact this
theorem J7 (a b : Tm) (h1 : Nd a) (h2 : a = b) : IA Tryz.prog 12 [TV a, TV b] (.p (.bool true)) := by
 have := RL (size a) a b (Nat.le_refl _) h1
 rwa [FT h2] at this
theorem Qd : ∀ (t : Tm) (vars params metas levels : Int), (Nd t) → (size t < 1000000) → E1 Tryz.prog 22 [.agg ((Bu t).map .p), .p (I vars), .p (I params), .p (I metas), .p (I levels)] (fun v => ∃ e : Int, v = .p (I e) ∧ (e = 0 → OA t ∧ Cn t)) := by
 intro t vars params metas levels h1 h2
 refine BH Tryz.func22 Ay e7 (n := 28) Ay Ay (A2 (A0 (BP Ay Ay (Bj Ay) fun b5 => Az Ay Ay (A4 Ay) (A5 Ay (A2 (A2 (A0 (Az Ay Ay (A8 (i := 0) BU Ay Ay Am) (Az Ay Ay (A1 Ay) (Az Ay Ay (Jl Ay Ay) (Az Ay Ay (A1 Ay) (Az Ay Ay (A1 Ay) (Az Ay Ay (A1 Ay) (Du Ay Ay (Bb Ay Ay (Wa _ t 0 (max (vars : Int) (0 : Int)) params metas levels (Nat.le_refl _) h1 Aw Ah) (.inl Ay)) ?_))))))))))))))
 rintro _ ⟨e, rfl, he⟩
 refine Az Ay Ay (A4 Ay) (A5 Ay (A2 (A0 (Az Ay Ay (A1 Ay) (Az Ay Ay (BE Ay Ay Ay) (A5 Ay (BD Ay (fun c => ?_) (fun c => ?_))))))))
 ·(try simp only [sd, se] at c)
  refine A2 (A0 (Az Ay Ay (A1 Ay) (Az Ay Ay (A4 Ay) (A5 Ay (BF (⟨Ay, _, [], Bz Ay, nS, ⟨⟨_, Ay, ?_⟩, Ay⟩⟩))))))
  exact fun h => absurd h As
 (try simp only [sd, se] at c)
 refine BG (A2 (A2 (A0 (Az Ay Ay (A8 (i := 0) BU Ay Ay Am) (Az Ay Ay (Bp Ay Ay (Q8 _ t (Nat.le_refl _) Aw) Ay) (Az Ay Ay (BE Ay Ay Ay) (A5 Ay (BD Ay (fun c1 => ?_) (fun c1 => ?_)))))))))
 ·(try simp only [sd, se] at c1)
  refine A2 (A0 (Az Ay Ay (A4 Ay) (A5 Ay (BF (⟨Ay, _, [], Bz Ay, nS, ⟨⟨_, Ay, ?_⟩, Ay⟩⟩)))))
  exact fun h => absurd h Av
 (try simp only [sd, se] at c1)
 refine BG (A2 (A2 (A0 (Az Ay Ay (A8 (i := 0) BU Ay Ay Am) (Az Ay Ay (Bp Ay Ay (Rx _ t (Nat.le_refl _) Aw) Ay) (Az Ay Ay (BE Ay Ay Ay) (A5 Ay (BD Ay (fun c2 => ?_) (fun c2 => ?_)))))))))
 ·(try simp only [sd, se] at c2)
  refine A2 (A0 (Az Ay Ay (A4 Ay) (A5 Ay (BF (⟨Ay, _, [], Bz Ay, nS, ⟨⟨_, Ay, ?_⟩, Ay⟩⟩)))))
  exact fun h => absurd h Av
 (try simp only [sd, se] at c2)
 refine BG (A2 (A0 (Az Ay Ay (A4 Ay) (A5 Ay (BF (⟨Ay, _, [], Bz Ay, nS, ⟨⟨_, Ay, ?_⟩, Ay⟩⟩))))))
 exact fun _ => (he Aw).2
theorem V1 : ∀ (l : List Tm), (ZF l) → (l.length < wide) → E1 Tryz.prog 10 [.p (.lst (Bg l))] (fun v => ∃ b : Bool, v = .p (.bool b) ∧ (b = true → CE l ≤ 200 ∧ ∀ t ∈ l, Gj t ∧ size t ≤ 200)) := by
 intro l h1 h2
 have h2b := h2
 simp only [wide] at h2b
 refine BH Tryz.func10 Ay fy (n := 18) Ay Ay (A2 (A0 (Az Ay Ay (A4 Ay) (A5 Ay (A2 (A2 (A0 (Az Ay Ay (A1 Ay) (Du Ay Ay (Bb Ay Ay (dR _ l (Nat.le_refl _) h1 h2) (.inl Ay)) ?_)))))))))
 rintro _ ⟨b, rfl, hb⟩
 refine Az Ay Ay (Cp Ay) (A5 Ay (BD Ay (fun c => ?_) (fun c => ?_)))
 ·(try simp only [sd, se] at c)
  refine A2 (A0 (Az Ay Ay (A4 Ay) (A5 Ay (BF (⟨Ay, _, [], Bz Ay, nS, ⟨⟨_, Ay, ?_⟩, Ay⟩⟩)))))
  exact fun h => absurd h Av
 (try simp only [sd, se] at c)
 have hf := hb (by simpa using c)
 refine BG (A2 (A2 (A0 (Az Ay Ay (A1 Ay) (Az Ay Ay (Bo CL Ay (B5 _)) (Az Ay Ay (A1 Ay) (A5 Ay (BT ?_))))))))
 refine B4 (α := Nat) (fun i => ⟨18, mk [(8, .p (.lst (Bg l))), (9, .p (I (l.length : Nat))), (10, .p (I (i : Int)))], [], []⟩) (fun i => l.length - i) (fun i => i ≤ l.length ∧ (∀ j, j < i → ∀ x, l[j]? = some x → OA x ∧ Cn x)) 0 (⟨by omega, fun j h => by omega⟩) ?_ ?_
 ·exact By ⟨we Ay, we Ay, we Ay, trivial⟩ (leH (is := []) Ay (Dc))
 rintro i hC
 try simp only at hC
 obtain ⟨hi, hC⟩ := hC
 refine A2 (A0 (Az Ay Ay (BE Ay Ay Ay) (A5 Ay (A2 (BD Ay (fun c1 => ?_) (fun c1 => ?_))))))
 ·(try simp only [sd, se] at c1)
  refine BG (A2 (BT (A2 (A0 ?_))))
  obtain ⟨x, hx⟩ := BO (l := l) (i := i) Aw
  refine Az Ay Ay (BI CL Ay Ay Aw (CU hx) (Bd _)) (Az Ay Ay (Bq BU Ay (Bd _)) (BP Ay Ay (BN B8 Ay) fun b4 => Az Ay Ay (BB (i := 0) BU Ay Ay Ay Am Ac (CN _)) (A5 Ay (A2 (A0 (Az Ay Ay (A8 (i := 0) BU Ay Ay Am) (Du Ay Ay (Bb Ay Ay (Qd x 65536 8 65536 65536 (D7 hf.nd hx) (by have := DM hx; have := hf.sz; omega)) (.inl Ay)) ?_)))))))
  rintro _ ⟨e, rfl, he⟩
  refine Az Ay Ay (BE Ay Ay Ay) (A5 Ay (BD Ay (fun c2 => ?_) (fun c2 => ?_)))
  ·(try simp only [sd, se] at c2)
   refine A2 (A0 (Az Ay Ay (A4 Ay) (A5 Ay (BF (⟨Ay, _, [], Bz Ay, nS, ⟨⟨_, Ay, ?_⟩, Ay⟩⟩)))))
   exact fun h => absurd h Av
  (try simp only [sd, se] at c2)
  refine BG (A0 (Az Ay Ay (CH Ay Ay Aw Aw) (Az Ay Ay (A1 Ay) (A5 Ay (⟨(i + 1), AZ, ⟨by omega, D5 hC hx (he Aw)⟩, By ⟨we rfl, we rfl, we rfl, trivial⟩ (leH (is := []) rfl (Dc))⟩)))))
 (try simp only [sd, se] at c1)
 refine B7 (A2 (A0 (Az Ay Ay (A4 Ay) (A5 Ay (BF (⟨Ay, _, [], Bz Ay, nS, ⟨⟨_, Ay, ?_⟩, Ay⟩⟩))))))
 exact fun _ => ⟨hf.sz, fun t ht => by
  obtain ⟨j, hj⟩ := HO ht
  obtain ⟨q1, q2⟩ := hC j (by have := (List.getElem?_eq_some_iff.1 hj).1; omega) t hj
  exact ⟨⟨q2, D7 hf.nd hj, q1, Ny hf.fw ht⟩, by have := DM hj; have := hf.sz; omega⟩⟩
theorem aR : ∀ (th : BY), (th.lemmas.length ≤ 8796093021952) → E1 Tryz.prog 9 [.agg ((Ei th).map .p)] (fun v => ∃ b : Bool, v = .p (.bool b) ∧ (b = true → G4 th ∧ th.lemmas.length ≤ 20 ∧ th.add.size ≤ 200 ∧ th.zero.size ≤ 200 ∧ th.neg.size ≤ 200)) := by
 intro th h1
 obtain ⟨BQ, BK, BL, BM, BS, BR, thm⟩ := th
 simp only at h1
 have hll : ([BQ, BK, BL, BM] ++ thm).length = thm.length + 4 := by simp
 refine BH Tryz.func9 Ay jA (n := 30) Ay Ay (A2 (A0 (BP Ay Ay (Bj Ay) fun b1 => Az Ay Ay (A4 Ay) (A5 Ay (A2 (A2 (A0 (Az Ay Ay (A3 Dy Ay Ay) (Az Ay Ay (A9 (i := 0) Ev Ay Ay Ay) (Az Ay Ay (A3 Dy Ay Ay) (Az Ay Ay (A9 (i := 0) Ev Ay Ay Ay) (Az Ay Ay (A3 Dy Ay Ay) (Az Ay Ay (A9 (i := 0) Ev Ay Ay Ay) (Az Ay Ay (A3 Dy Ay Ay) (Az Ay Ay (A9 (i := 0) Ev Ay Ay Ay) (W3 Ay Ay (GO (rows := List.map CZ [BQ, BK, BL, BM]) EL R9 Ay Ay Ay Ay Ay) fun b13 cp => Az Ay Ay (A3 Dy Ay Ay) (Az Ay Ay (A9 (i := 1) LP Ay Ay Ay) ?_)))))))))))))))))
 refine Az Ay Ay (Fs (i := 0) (rows' := List.map CZ thm) EL EL R9 Ay Ay Ay Ay Ay Ay (E8 _) (by simp only [List.length_map, List.length_cons, List.length_nil]; omega) (HJ (f := CZ) [BQ, BK, BL, BM] thm)) (Az Ay Ay (Bo EL Ay (List.length_map _)) (Az Ay Ay (A1 Ay) (A5 Ay (BT ?_))))
 refine B4 (α := Nat) (fun i => ⟨30, mk [(1, .ptr b1 0), (16, .p (.lst (List.map CZ ([BQ, BK, BL, BM] ++ thm)))), (17, .p (I (([BQ, BK, BL, BM] ++ thm).length : Nat))), (18, .p (I (i : Int)))], [.box b1 [.p (.str BQ), .p (.str BK), .p (.str BL), .p (.str BM), .p (.str BS), .p (.str BR), .p (.lst (List.map CZ thm))]], []⟩) (fun i => ([BQ, BK, BL, BM] ++ thm).length - i) (fun i => i ≤ ([BQ, BK, BL, BM] ++ thm).length ∧ (∀ j, j < i → ∀ x, ([BQ, BK, BL, BM] ++ thm)[j]? = some x → x.size ≤ 100)) 0 (⟨by omega, fun j h => by omega⟩) ?_ ?_
 ·exact By ⟨we Ay, we Ay, we Ay, we Ay, trivial⟩ (leH (is := [0]) Ay (wl (oe Ay) (Dc)))
 rintro i hC
 try simp only at hC
 obtain ⟨hi, hC⟩ := hC
 refine A2 (A0 (Az Ay Ay (BE Ay Ay Ay) (A5 Ay (A2 (BD Ay (fun c => ?_) (fun c => ?_))))))
 ·(try simp only [sd, se] at c)
  refine BG (A2 (BT (A2 (A0 ?_))))
  obtain ⟨x, hx⟩ := BO (l := [BQ, BK, BL, BM] ++ thm) (i := i) Aw
  refine Az Ay Ay (BI EL Ay Ay Aw (Hv hx) (Ay)) (Az Ay Ay (CQ Ev Ay) (Az Ay Ay (A4 Ay) (A5 Ay (A2 (A0 (Az Ay Ay (A1 Ay) (Az Ay Ay (Ej Ww Ay) (Az Ay Ay (BE Ay Ay Ay) (A5 Ay (BD Ay (fun c1 => ?_) (fun c1 => ?_)))))))))))
  ·(try simp only [sd, se] at c1)
   refine A2 (A0 (Az Ay Ay (A4 Ay) (A5 Ay (BF (⟨Ay, _, [], Bz Ay, nS, ⟨⟨_, Ay, ?_⟩, Ay⟩⟩)))))
   exact fun h => absurd h Av
  (try simp only [sd, se] at c1)
  refine BG (A0 (Az Ay Ay (CH Ay Ay Aw Aw) (Az Ay Ay (A1 Ay) (A5 Ay (⟨(i + 1), AZ, ⟨by omega, D5 (p := fun _ (x : ByteArray) => x.size ≤ 100) hC hx Aw⟩, By ⟨we rfl, we rfl, we rfl, we rfl, trivial⟩ (leH (is := [0]) rfl (wl (oe rfl) (Dc)))⟩)))))
 (try simp only [sd, se] at c)
 refine B7 (A2 (A0 (Az Ay Ay (A3 Dy Ay Ay) (Az Ay Ay (A9 (i := 0) LP Ay Ay Ay) (Az Ay Ay (Bo EL Ay (List.length_map _)) (Az Ay Ay (BE Ay Ay Ay) (Az Ay Ay (A4 Ay) (A5 Ay (BF (⟨Ay, _, [], Bz Ay, nS, ⟨⟨_, Ay, ?_⟩, Ay⟩⟩))))))))))
 have hs0 : ∀ x ∈ [BQ, BK, BL, BM] ++ thm, x.size ≤ 100 := fun x hx => by
  obtain ⟨j, hj⟩ := HO hx
  exact hC j (by have := (List.getElem?_eq_some_iff.1 hj).1; omega) x hj
 have hs : ∀ x ∈ [BQ, BK, BL, BM] ++ thm, x.size < EB := fun x hx => by have := hs0 x hx; simp only [EB]; omega
 have k1 := hs0 BK Ax
 have k2 := hs0 BL Ax
 have k3 := hs0 BM Ax
 exact fun hl => ⟨⟨hs _ Ax, hs _ Ax, hs _ Ax, hs _ Ax, fun s h => hs s (by simp [h])⟩, Int.ofNat_le.1 (by simpa using hl), by simp only; omega, by simp only; omega, by simp only; omega⟩
end Go.Proofs.YtapmjpihennhaaaGreatDoor
namespace Go.Abs
def TW (P : Program) (ops : Array Oper) (H₀ : List Bc) : Nat → (Nat → AV) → List Bc → List AV → ((Nat → AV) → List Bc → Prop) → Prop
 | _, τ, H, [], K => K τ H
 | k, τ, H, v :: r, K => ∃ o H', ops[k]? = some o ∧ o.guard = none ∧ Dw P o (ev τ) (H ++ H₀) v (H' ++ H₀) ∧ TW P ops H₀ (k + 1) (put τ o.dst v) H' r K
def Z1 (fl : List Nat) (base : List Ez) : Bool := fl.all fun j => match base.getD j .skip with | .val _ => true | _ => false
def ZT (ops : Array Oper) (e : Nat) (fl : List Nat) : Bool := (List.range ops.size).all fun i => Nat.blt i e || (List.range i).all fun j => (Nat.blt j e && fl.contains j) || No ops j i
theorem Oc {ops : Array Oper} {e : Nat} {fl : List Nat} (h : ZT ops e fl = true) {i j : Nat} (hi : e ≤ i) (hs : i < ops.size) (hj : j < i) (hf : ¬ (j < e ∧ j ∈ fl)) : Pred ops j i := by
 have := List.all_eq_true.1 h i (by simpa using hs)
 simp only [Bool.or_eq_true] at this
 rcases this with h1 | h1
 ·rw [Nat.blt_eq] at h1; omega
 have h2 := List.all_eq_true.1 h1 j (by simpa using hj)
 simp only [Bool.or_eq_true, Bool.and_eq_true, Nat.blt_eq] at h2
 rcases h2 with h2 | h2
 ·exact absurd ⟨h2.1, by simpa using h2.2⟩ hf
 exact Es h2
theorem EV.facts4 {P : Program} {ops : Array Oper} {H₀ : List Bc} {τ : Nat → AV} {base fb : List Ez} (hf : ∀ j, j < base.length → j < fb.length ∧ fb.getD j .skip = base.getD j .skip) (β : Nat → BV) : ∀ (r : List Ez) (k : Nat) (τk : Nat → AV) (K : (Nat → AV) → List Bc → Prop), base.drop k = r → k + r.length = base.length → τk = τS ops (HN β 0 fb) τ k → EV P ops H₀ k τk r K → (∀ j, k ≤ j → j < base.length → (base.getD j .skip).ok (β j)) →
  (∀ j, k ≤ j → j < base.length → ∃ o, ops[j]? = some o ∧ XV P ops H₀ o (τS ops (HN β 0 fb) τ j) (base.getD j .skip)) ∧ K (τS ops (HN β 0 fb) τ base.length) (Yk β k r)
 | [], k, τk, K, hd, hk, ht, h, hβ => by
  simp only [List.length_nil, Nat.add_zero] at hk
  subst hk
  exact ⟨fun j h1 h2 => by omega, by rw [← ht]; exact h⟩
 | e :: r, k, τk, K, hd, hk, ht, h, hβ => by
  obtain ⟨o, ho, hok, hn⟩ := h
  simp only [List.length_cons] at hk
  have hb : base.getD k .skip = e := by
   have : (base.drop k)[0]? = some e := by rw [hd]; rfl
   rw [List.getElem?_drop] at this
   rw [List.getD_eq_getElem?_getD, show k = k + 0 by omega, this]; rfl
  have hd2 : base.drop (k + 1) = r := by
   rw [← List.drop_drop, hd]; rfl
  obtain ⟨f1, f2⟩ := hf k Aw
  obtain ⟨h1, h2⟩ := EV.facts4 (τ := τ) (base := base) hf β r (k + 1) _ _ hd2 Aw (by simp only [τS, ho, Option.bind_some]; rw [GR β f1, f2, hb, ← ht]) (hn (β k) (by have := hβ k (Nat.le_refl _) Aw; rwa [hb] at this)) (fun j h1 h2 => hβ j Aw h2)
  refine ⟨fun j hj hl => ?_, h2⟩
  by_cases e2 : j = k
  ·subst e2; exact ⟨o, ho, by rw [hb, ← ht]; exact hok⟩
  exact h1 j Aw hl
theorem TW.facts {P : Program} {ops : Array Oper} {H₀ : List Bc} {τ : Nat → AV} {fb : List Ez} (β : Nat → BV) : ∀ (r : List AV) (k : Nat) (τk : Nat → AV) (H : List Bc) (K : (Nat → AV) → List Bc → Prop), (∀ m, m < r.length → k + m < fb.length ∧ fb.getD (k + m) .skip = .val (r.getD m (.p .any))) → τk = τS ops (HN β 0 fb) τ k → TW P ops H₀ k τk H r K →
  ∃ Hm : Nat → List Bc, Hm k = H ∧ (∀ j, k ≤ j → j < k + r.length → ∃ o, ops[j]? = some o ∧ o.guard = none ∧ Dw P o (ev (τS ops (HN β 0 fb) τ j)) (Hm j ++ H₀) ((fb.getD j .skip).v (β j)) (Hm (j + 1) ++ H₀)) ∧ K (τS ops (HN β 0 fb) τ (k + r.length)) (Hm (k + r.length))
 | [], k, τk, H, K, hf, ht, h => ⟨fun _ => H, rfl, fun j h1 h2 => by simp at h2; omega, by simp only [List.length_nil, Nat.add_zero]; rw [← ht]; exact h⟩
 | v :: r, k, τk, H, K, hf, ht, h => by
  obtain ⟨o, H', ho, hg, hop, hn⟩ := h
  obtain ⟨f1, f2⟩ := hf 0 Ax
  simp only [Nat.add_zero, List.getD_cons_zero] at f1 f2
  obtain ⟨Hm, h1, h2, h3⟩ := TW.facts (τ := τ) (fb := fb) β r (k + 1) _ H' K (fun m hm => by have := hf (m + 1) (by simpa using hm); rw [show k + (m + 1) = k + 1 + m by omega] at this; simpa using this) (by simp only [τS, ho, Option.bind_some]; rw [GR β f1, f2, ← ht]; rfl) hn
  refine ⟨fun j => if j = k then H else Hm j, by simp, fun j hj hl => ?_, ?_⟩
  ·by_cases e : j = k
   ·subst e
    refine ⟨o, ho, hg, ?_⟩
    rw [f2, ← ht]
    show Dw P o (ev τk) ((if j = j then H else Hm j) ++ H₀) v ((if j + 1 = j then H else Hm (j + 1)) ++ H₀)
    rw [if_pos rfl, if_neg Aw, h1]
    exact hop
   show ∃ o, ops[j]? = some o ∧ o.guard = none ∧ Dw P o _ ((if j = k then H else Hm j) ++ H₀) _ ((if j + 1 = k then H else Hm (j + 1)) ++ H₀)
   rw [if_neg e, if_neg Aw]
   exact h2 j Aw (by simp only [List.length_cons] at hl; omega)
  show K _ (if k + (v :: r).length = k then H else Hm (k + (v :: r).length))
  simp only [List.length_cons]
  rw [if_neg Aw, show k + (r.length + 1) = k + 1 + r.length by omega]
  exact h3
theorem XJ {β : Nat → BV} {l : Nat → Bool} : ∀ (r : List Ez) (k : Nat), (∀ j, j < r.length → l (k + j) = true ∨ ∃ v, r.getD j .skip = .val v) → RA β l k r = Yk β k r
 | [], k, h => rfl
 | e :: r, k, h => by
  simp only [RA, Yk]
  rw [XJ r (k + 1) fun j hj => by have := h (j + 1) (by simpa using hj); rw [show k + (j + 1) = k + 1 + j by omega] at this; simpa using this]
  rcases h 0 Ax with h1 | ⟨v, h1⟩
  ·rw [Nat.add_zero] at h1; rw [if_pos h1]
  simp only [List.getD_cons_zero] at h1
  subst h1
  split <;> rfl
theorem UC {P : Program} {r : Option Nat} {ops : Array Oper} {id n : Nat} {τ : Nat → AV} {H : List Bc} {D : List Eb} {Q : DC → CC → Prop} (base : List Ez) (tl : List AV) (fl : List Nat) (hm : P.follows .mixedOrders = true)
  (he : base.length + tl.length = ops.size) (chk : Oo ops n [] = true) (late : ZT ops base.length fl = true) (hfl : Z1 fl base = true) (hne : Xm base)
  (h : EV P ops H 0 τ base (fun τ' Hs => TW P ops H base.length τ' Hs tl (fun τ'' Bs => Q .normal ⟨n, τ'', Bs ++ H, D⟩))) : Jd P r (.region id ops true) ⟨n, τ, H, D⟩ Q := by
 intro F₀ a₀ w₀ hs₀
 refine wpIn_region_any hm ?_
 have same : DW F₀ w₀ F₀ { w₀ with drawn := w₀.drawn + 1 } := ⟨Nat.le_refl _, fun _ _ _ => rfl, fun _ h _ => h⟩
 have t₀ : Trans F₀ H w₀ F₀ H { w₀ with drawn := w₀.drawn + 1 } :=
  ⟨Nat.le_refl _, fun _ _ _ => rfl, fun _ h _ => h, fun _ h => .inl h, fun o ho b hb => .inl ⟨o, ho, hb⟩, rfl, rfl, rfl⟩
 have hs₁ : Dm F₀ ⟨n, τ, H, D⟩ a₀ { w₀ with drawn := w₀.drawn + 1 } :=
  ⟨hs₀.size, fun t => Cc.mono same _ _ (hs₀.tmp t), hs₀.heap.stable' same (fun _ h => h) (fun _ _ _ _ => rfl) hs₀.heap.bd, Fg.mono same _ _ hs₀.defs⟩
 obtain ⟨hdst, c0, c1, c2, _⟩ := LH chk
 obtain ⟨fb, hfb⟩ : ∃ fb, fb = base ++ tl.map Ez.val := ⟨_, rfl⟩
 have hfl1 : fb.length = ops.size := by rw [hfb]; simp; omega
 have hf1 : ∀ j, j < base.length → j < fb.length ∧ fb.getD j .skip = base.getD j .skip := fun j hj => ⟨by omega, by
  rw [hfb, List.getD_eq_getElem?_getD, List.getD_eq_getElem?_getD, List.getElem?_append_left hj]⟩
 have hf2 : ∀ m, m < tl.length → base.length + m < fb.length ∧ fb.getD (base.length + m) .skip = .val (tl.getD m (.p .any)) := fun m hm => ⟨by omega, by
  rw [hfb, List.getD_eq_getElem?_getD, List.getElem?_append_right Aw, Nat.add_sub_cancel_left, List.getElem?_map, List.getElem?_eq_getElem hm]
  simp [List.getElem?_eq_getElem hm]⟩
 have hd : ∀ β, Nn P ops n (fun _ => False) τ H (HN β 0 fb) := fun β =>
  ⟨hdst, fun _ _ _ h => h.elim, c0, c1, c2, fun i k _ _ h _ => (by rw [UN] at h; cases h), fun i e ob v _ _ _ h _ _ => absurd h (R2 β fb 0 i ob v)⟩
 have flv : ∀ j, j ∈ fl → ∃ v, base.getD j .skip = .val v := fun j hj => by
  have := List.all_eq_true.1 hfl j hj
  cases hq : base.getD j .skip with
  | val v => exact ⟨v, rfl⟩
  | _ => simp only [hq] at this; cases this
 have hE : ∀ β, (∀ j, j < base.length → (base.getD j .skip).ok (β j)) → (∀ j, j < base.length → ∃ o, ops[j]? = some o ∧ XV P ops H o (τS ops (HN β 0 fb) τ j) (base.getD j .skip)) ∧
   ∃ Hm : Nat → List Bc, Hm base.length = Yk β 0 base ∧ (∀ j, base.length ≤ j → j < ops.size → ∃ o, ops[j]? = some o ∧ o.guard = none ∧ Dw P o (ev (τS ops (HN β 0 fb) τ j)) (Hm j ++ H) ((fb.getD j .skip).v (β j)) (Hm (j + 1) ++ H)) ∧ Q .normal ⟨n, τS ops (HN β 0 fb) τ ops.size, Hm ops.size ++ H, D⟩ := fun β hβ => by
  obtain ⟨h1, h2⟩ := EV.facts4 (base := base) (fb := fb) hf1 β base 0 τ _ Ax Ax rfl h (fun j _ h => hβ j h)
  obtain ⟨Hm, g1, g2, g3⟩ := TW.facts (fb := fb) β tl base.length _ _ _ hf2 rfl h2
  rw [he] at g2 g3
  exact ⟨fun j hj => h1 j (Nat.zero_le _) hj, Hm, g1, g2, g3⟩
 obtain ⟨I, hI0⟩ : ∃ I : Array Bool → Act → World → Prop, I = fun l a w => l.size = ops.size ∧ ∃ β τ' F Hb, (∀ j, j < base.length → (base.getD j .skip).ok (β j)) ∧ Down ops (fun i => l.getD i false = true) ∧ F3 ops (HN β 0 fb) τ (fun i => l.getD i false = true) τ' ∧ Dm F ⟨n, τ', Hb ++ H, D⟩ a w ∧ Trans F₀ H w₀ F (Hb ++ H) w ∧
  (((∀ k, base.length ≤ k → l.getD k false = false) ∧ Hb.Perm (RA β (fun k => l.getD k false) 0 base)) ∨
   (∃ (m : Nat) (Hm : Nat → List Bc), (∀ j, base.length ≤ j → j < ops.size → ∃ o, ops[j]? = some o ∧ o.guard = none ∧ Dw P o (ev (τS ops (HN β 0 fb) τ j)) (Hm j ++ H) ((fb.getD j .skip).v (β j)) (Hm (j + 1) ++ H)) ∧ Q .normal ⟨n, τS ops (HN β 0 fb) τ ops.size, Hm ops.size ++ H, D⟩ ∧ base.length ≤ m ∧ m ≤ ops.size ∧ (∀ k, base.length ≤ k → (l.getD k false = true ↔ k < m)) ∧ (∀ k, k < base.length → k ∉ fl → l.getD k false = true) ∧ Hb = Hm m)) := ⟨_, rfl⟩
 refine K3 (I := I) (fun l a w h => by rw [hI0] at h; exact h.1) ?_ ?_ _ _ _ _ ?_ ?_
 ·intro l a w hI i hi
  rw [hI0] at hI
  obtain ⟨hsz, β, τ', F, Hb, hβ, hdown, hτ, hs, ht, hI⟩ := hI
  obtain ⟨hun, o, ho, hall⟩ := mem_ready.1 hi
  have hlt : i < ops.size := by
   rcases Nat.lt_or_ge i ops.size with h | h
   ·exact h
   simp [Array.getElem?_eq_none h] at ho
  have hil : i < l.size := by omega
  have hnot : l.getD i false = false := by
   have : l[i] = false := by simpa [hil] using hun
   simp [hil, this]
  have hr : ∀ j ∈ ET o, l.getD j false = true := by
   intro j hj
   simp only [ET, List.mem_map, List.mem_filter] at hj
   obtain ⟨e, ⟨he, hb⟩, rfl⟩ := hj
   exact hall e (by simpa using he) hb
  have hset : ∀ k, (l.setIfInBounds i true).getD k false = true ↔ (l.getD k false = true ∨ k = i) := by
   intro k
   by_cases hk : k = i
   ·subst hk; simp [hil]
   simp [Array.getElem?_setIfInBounds_ne (Ne.symm hk), hk]
  have hset2 : ∀ k, (l.setIfInBounds i true).getD k false = (l.getD k false || k == i) := by
   intro k
   by_cases hk : k = i
   ·subst hk; simp [hil]
   simp [Array.getElem?_setIfInBounds_ne (Ne.symm hk), hk]
  have hsz' : (l.setIfInBounds i true).size = ops.size := by simp [hsz]
  have hdown' : Down ops (fun k => (l.setIfInBounds i true).getD k false = true) := by
   intro k o' j ho' hk hj
   rcases (hset k).1 hk with h | h
   ·exact (hset j).2 (.inl (hdown k o' j ho' h hj))
   subst h; rw [ho] at ho'; injection ho' with ho'; subst ho'; exact (hset j).2 (.inl (hr j hj))
  have hlook : ∀ t ∈ looks ops o, τ' t = τS ops (HN β 0 fb) τ i t := fun t ht => Ky (hd β) hdown hτ ho (by rw [hnot]; decide) hr ht
  have hops : ∀ x ∈ o.op.operands.toList, ev τ' x = ev (τS ops (HN β 0 fb) τ i) x := by
   intro x hx
   cases x with
   | tmp t => exact hlook t (List.mem_append_left _ (List.mem_filterMap.2 ⟨.tmp t, hx, rfl⟩))
   | _ => rfl
  have hguard : ∀ j want d, o.guard = some (j, want) → (ops[j]?).bind (·.dst) = some d → τ' d = τS ops (HN β 0 fb) τ i d := by
   intro j want d hg hj
   refine hlook d (List.mem_append_right _ ?_)
   simp [hg, hj]
  have hpred : ∀ {a}, Pred ops a i → l.getD a false = true := by
   have : ∀ {a b}, Pred ops a b → b = i → l.getD a false = true := by
    intro a b hab
    induction hab with
    | base ho' hj => intro e; subst e; rw [ho] at ho'; injection ho' with ho'; subst ho'; exact hr _ hj
    | trans p1 _ _ ih2 => intro e; exact hdown.pred p1 (ih2 e)
   exact fun {a} h => this h Ay
  have wants : DV ops ⟨0, τS ops (HN β 0 fb) τ i, [], []⟩ o → DV ops ⟨n, τ', Hb ++ H, D⟩ o := by
   intro h
   unfold DV at *
   cases hg : o.guard with
   | none => simp [hg]
   | some jw =>
    obtain ⟨j, want⟩ := jw
    simp only [hg] at h ⊢
    obtain ⟨d, h1, h2⟩ := h
    exact ⟨d, h1, by rw [← h2]; exact hguard j want d hg h1⟩
  -- one operation
  have exec : ∀ {Hx : List Bc} {C : AV → List Bc → Prop}, Dm F ⟨n, τ', Hx, D⟩ a w → DV ops ⟨n, τ', Hx, D⟩ o → DZ P o (ev (τS ops (HN β 0 fb) τ i)) Hx (fun r H' => match r with | .val v => C v H' | .panic _ => False) → (∀ v H' a' w' F', C v H' → Dm F' ⟨n, put τ' o.dst v, H', D⟩ a' w' → Trans F Hx w F' H' w' → I (l.setIfInBounds i true) a' w') → wpOpIn (W r) 0 P ops (post F₀ H w₀ Q) i (fun a' w' => I (l.setIfInBounds i true) a' w') a w := by
   intro Hx C hs hwant hop close
   unfold wpOpIn
   simp only [ho, IS hs hwant, if_true]
   have hw := hop r F _ a w hs rfl (fun x hx => hops x hx) (fun t ht => hdst i o t ho ht)
   unfold Oper.wpIn at *
   refine ⟨hw.1, ?_⟩
   replace hw := hw.2
   generalize (o.semAt (W r).round a.eval).run P w = rr at *
   cases rr with
   | ok nx w' =>
    cases nx <;> simp only [Oper.uponIn] at hw ⊢
    case value u => obtain ⟨v', H'', F', h1, h3, h4⟩ := hw; exact close _ _ _ _ _ h1 h3 h4
    case skip => obtain ⟨v', H'', F', h1, h3, h4⟩ := hw; exact close _ _ _ _ _ h1 h3 h4
    case defer d => obtain ⟨v', H'', F', h1, h3, h4⟩ := hw; exact close _ _ _ _ _ h1 h3 h4
    case enter f args =>
     refine ⟨hw.1, hw.2.mono fun e w'' he => ?_⟩
     cases e with
     | returned u => obtain ⟨v', H'', F', h1, h3, h4⟩ := he; exact close _ _ _ _ _ h1 h3 h4
     | panicked c => obtain ⟨_, _, _, _, h, _⟩ := he; exact h.elim
     | outgrown => obtain ⟨_, _, _, _, _, _, h, _⟩ := he; exact h.elim
    case row row args => exact ⟨hw.1, hw.2.mono fun u w'' h => by obtain ⟨v', H'', F', h1, h3, h4⟩ := h; exact close _ _ _ _ _ h1 h3 h4⟩
    case round l' f tmps assign body =>
     refine ⟨hw.1, hw.2.mono fun e w'' he => ?_⟩
     cases e with
     | returned u => obtain ⟨v', H'', F', h1, h3, h4⟩ := he; exact close _ _ _ _ _ h1 h3 h4
     | panicked c => obtain ⟨_, _, _, _, h, _⟩ := he; exact h.elim
     | outgrown => obtain ⟨_, _, _, _, _, _, h, _⟩ := he; exact h.elim
   | halt x w' =>
    cases x <;> simp only [Oper.uponIn] at hw ⊢
    case panic u => obtain ⟨_, _, _, _, h, _⟩ := hw; exact h.elim
  have hτput : ∀ {v : AV}, v = ((HN β 0 fb).getD i .skip).val → F3 ops (HN β 0 fb) τ (fun k => (l.setIfInBounds i true).getD k false = true) (put τ' o.dst v) := by
   intro v hv
   have hτ3 := hτ.put (hd β) ho
   rw [← hv] at hτ3
   intro t
   exact ⟨fun k o' a1 a2 a3 => (hτ3 t).1 k o' a1 a2 ((hset k).1 a3), fun hn => (hτ3 t).2 fun k o' a1 a2 a3 => hn k o' a1 a2 ((hset k).2 a3)⟩
  -- a tail operation
  have goTail : ∀ Hm : Nat → List Bc, (∀ j, base.length ≤ j → j < ops.size → ∃ o, ops[j]? = some o ∧ o.guard = none ∧ Dw P o (ev (τS ops (HN β 0 fb) τ j)) (Hm j ++ H) ((fb.getD j .skip).v (β j)) (Hm (j + 1) ++ H)) → Q .normal ⟨n, τS ops (HN β 0 fb) τ ops.size, Hm ops.size ++ H, D⟩ → base.length ≤ i → (∀ k, base.length ≤ k → (l.getD k false = true ↔ k < i)) → (∀ k, k < base.length → k ∉ fl → l.getD k false = true) → Dm F ⟨n, τ', Hm i ++ H, D⟩ a w → Trans F₀ H w₀ F (Hm i ++ H) w → wpOpIn (W r) 0 P ops (post F₀ H w₀ Q) i (fun a' w' => I (l.setIfInBounds i true) a' w') a w := by
   intro Hm g2 g3 hbi hk1 hk2 hs ht
   obtain ⟨o', ho', hg, hop⟩ := g2 i hbi hlt
   rw [ho] at ho'; injection ho' with ho'; subst ho'
   refine exec (C := fun v H' => v = (fb.getD i .skip).v (β i) ∧ H' = Hm (i + 1) ++ H) hs (by unfold DV; rw [hg]; trivial) (DZ.mono hop (by
    intro r H' hR
    cases r with
    | val v' => exact hR
    | panic v' => exact hR.elim)) ?_
   rintro v H' a' w' F' ⟨hv, rfl⟩ h3 h4
   rw [hI0]
   refine ⟨hsz', β, _, F', Hm (i + 1), hβ, hdown', hτput (by rw [hv, GR β Aw]), h3, ht.trans hs₀.heap.bd h4, .inr ⟨i + 1, Hm, g2, g3, by omega, by omega, fun k hk => ?_, fun k h1 h2 => (hset k).2 (.inl (hk2 k h1 h2)), rfl⟩⟩
   rw [hset k, hk1 k hk]; omega
  rcases hI with ⟨hno, hp⟩ | ⟨m, Hm, g2, g3, hm1, hm2, hk1, hk2, rfl⟩
  ·rcases Nat.lt_or_ge i base.length with hib | hib
   ·-- of the first part
    obtain ⟨o', ho', hok⟩ := (hE β hβ).1 i hib
    rw [ho] at ho'; injection ho' with ho'; subst ho'
    have hno' : ∀ k, base.length ≤ k → (l.setIfInBounds i true).getD k false = false := by
     intro k hk
     rw [hset2 k, hno k hk]
     simp; omega
    generalize hbe : base.getD i .skip = e at hok
    have close : ∀ {a' w' F' b H'}, e.ok b → H' = e.box b ++ (Hb ++ H) → Dm F' ⟨n, put τ' o.dst (e.v b), H', D⟩ a' w' → Trans F (Hb ++ H) w F' H' w' → I (l.setIfInBounds i true) a' w' := by
     intro a' w' F' b H' hb0 hH h3 h4
     subst hH
     rw [hI0]
     have hspn : ∀ k, k < fb.length → ((HN (fun j => if j = i then b else β j) 0 fb).getD k .skip).val = (fb.getD k .skip).v (if k = i then b else β k) := fun k hk => GR _ hk
     refine ⟨hsz', fun j => if j = i then b else β j, put τ' o.dst (e.v b), F', e.box b ++ Hb, (fun j hj => by
      by_cases e3 : j = i
      ·subst e3; simp only [if_true]; rw [hbe]; exact hb0
      simp only [if_neg e3]; exact hβ j hj), hdown', ?_, by rw [List.append_assoc]; exact h3, by rw [List.append_assoc]; exact ht.trans hs₀.heap.bd h4, .inl ⟨hno', ?_⟩⟩
     ·have hτ2 : F3 ops (HN (fun j => if j = i then b else β j) 0 fb) τ (fun k => l.getD k false = true) τ' := by
       intro t
       refine ⟨fun k o' a1 a2 a3 => ?_, (hτ t).2⟩
       have a4 : l.getD k false = true := a3
       have hki : k ≠ i := fun e => by subst e; rw [hnot] at a4; cases a4
       rw [(hτ t).1 k o' a1 a2 a3]
       rcases Nat.lt_or_ge k fb.length with hk | hk
       ·rw [GR _ hk, GR _ hk, if_neg hki]
       rw [N9 _ hk, N9 _ hk]
      have hτ3 := hτ2.put (hd _) ho
      rw [GR _ Aw, if_pos rfl, (hf1 i hib).2, hbe] at hτ3
      intro t
      exact ⟨fun k o' a1 a2 a3 => (hτ3 t).1 k o' a1 a2 ((hset k).1 a3), fun hn => (hτ3 t).2 fun k o' a1 a2 a3 => hn k o' a1 a2 ((hset k).2 a3)⟩
     have h1 := RX (β := β) (l := fun k => l.getD k false) (i := i) (b := b) hnot base 0 (Nat.zero_le _) Aw
     rw [Nat.sub_zero, hbe] at h1
     refine (hp.append_left _).trans (h1.trans (List.Perm.of_eq ?_))
     exact K0 base 0 fun j _ => ⟨(hset2 j).symm, fun _ => Ay⟩
    have yields : DV ops ⟨n, τ', Hb ++ H, D⟩ o → DZ P o (ev (τS ops (HN β 0 fb) τ i)) (Hb ++ H) (fun r H' => match r with | .val v => ∃ b, e.ok b ∧ v = e.v b ∧ H' = e.box b ++ (Hb ++ H) | .panic _ => False) → wpOpIn (W r) 0 P ops (post F₀ H w₀ Q) i (fun a' w' => I (l.setIfInBounds i true) a' w') a w := fun h1 h2 =>
     exec (C := fun v H' => ∃ b, e.ok b ∧ v = e.v b ∧ H' = e.box b ++ (Hb ++ H)) hs h1 h2 (by rintro v H' a' w' F' ⟨b, h0, rfl, h1⟩ h3 h4; exact close h0 h1 h3 h4)
    cases e with
    | val v => exact yields (wants hok.1) ((hok.2 Hb).mono (by
      intro r H' hR
      cases r with
      | val v' => obtain ⟨rfl, rfl⟩ := hR; exact ⟨(0, 0, .p .any), trivial, rfl, rfl⟩
      | panic v' => exact hR.elim))
    | new cs =>
     refine yields (by unfold DV; rw [hok.1]; trivial) ((hok.2 _).mono ?_)
     intro r H' hR
     cases r with
     | val v' => obtain ⟨b, rfl, rfl⟩ := hR; exact ⟨(b, 0, .p .any), trivial, rfl, rfl⟩
     | panic v' => exact hR.elim
    | newv sz rows =>
     refine yields (by unfold DV; rw [hok.1]; trivial) ((hok.2 _).mono ?_)
     intro r H' hR
     cases r with
     | val v' => obtain ⟨b, c, rfl, rfl⟩ := hR; exact ⟨(b, c, .p .any), trivial, rfl, rfl⟩
     | panic v' => exact hR.elim
    | rel R =>
     refine yields (by unfold DV; rw [hok.1]; trivial) ((hok.2 _).mono ?_)
     intro r H' hR
     cases r with
     | val v' => obtain ⟨h1, rfl⟩ := hR; exact ⟨(0, 0, v'), h1, rfl, rfl⟩
     | panic v' => exact hR.elim
    | skip =>
     obtain ⟨j, want, d, hg, hj, hb⟩ := hok
     have hw : Region.wanted o (yielded ops a.tmps) = false := KN (S := ⟨n, τ', Hb ++ H, D⟩) hs hg hj (by show Xq (τ' d) want; rw [hguard j want d hg hj]; exact hb)
     unfold wpOpIn
     simp only [ho, hw, Bool.false_eq_true, if_false]
     refine ⟨fun _ _ => trivial, close (b := (0, 0, .p .any)) trivial Ay ?_ .refl⟩
     exact hs.put (fun t ht => hdst i o t ho ht) ⟨Nat.le_refl _, fun _ _ _ => Ay, fun _ h _ => h⟩ hs.heap (by simp only [Ez.v, Cc, CF, undef]; exact ⟨[], rfl, rfl⟩)
   -- the first of the rest
   have hpre : ∀ j, j < i → ¬ (j < base.length ∧ j ∈ fl) → l.getD j false = true := fun j hj hf => hpred (Oc late hib hlt hj hf)
   have hie : i = base.length := by
    rcases Nat.lt_or_ge base.length i with h | h
    ·have h1 := hpre base.length h (fun h => Nat.lt_irrefl _ h.1)
     rw [hno base.length (Nat.le_refl _)] at h1
     cases h1
    omega
   obtain ⟨Hm, g1, g2, g3⟩ := (hE β hβ).2
   have hp2 : (Hb ++ H).Perm (Hm i ++ H) := by
    rw [hie, g1]
    refine List.Perm.append_right H (hp.trans (List.Perm.of_eq (XJ base 0 fun j hj => ?_)))
    rw [Nat.zero_add]
    by_cases hq : j ∈ fl
    ·exact .inr (flv j hq)
    exact .inl (hpre j Aw fun h => hq h.2)
   refine goTail Hm g2 g3 hib (fun k hk => ⟨fun h => ?_, fun h => by omega⟩) (fun k h1 h2 => hpre k Aw fun h => h2 h.2) ⟨hs.size, hs.tmp, hs.heap.perm hp2, hs.defs⟩ { ht with keys := fun o ho => ht.keys o (hp2.mem_iff.2 ho) }
   rw [hno k hk] at h; cases h
  rcases Nat.lt_or_ge i base.length with hib | hib
  ·-- a value that floats
   have hif : i ∈ fl := Classical.byContradiction fun hq => by rw [hk2 i hib hq] at hnot; cases hnot
   obtain ⟨v, hv⟩ := flv i hif
   obtain ⟨o', ho', hok⟩ := (hE β hβ).1 i hib
   rw [ho] at ho'; injection ho' with ho'; subst ho'
   rw [hv] at hok
   refine exec (C := fun v' H' => v' = v ∧ H' = Hm m ++ H) hs (wants hok.1) ((hok.2 (Hm m)).mono (by
    intro r H' hR
    cases r with
    | val v' => exact hR
    | panic v' => exact hR.elim)) ?_
   rintro v' H' a' w' F' ⟨rfl, rfl⟩ h3 h4
   rw [hI0]
   refine ⟨hsz', β, _, F', Hm m, hβ, hdown', hτput (by rw [GR β Aw, (hf1 i hib).2, hv]; rfl), h3, ht.trans hs₀.heap.bd h4, .inr ⟨m, Hm, g2, g3, hm1, hm2, fun k hk => ?_, fun k h1 h2 => (hset k).2 (.inl (hk2 k h1 h2)), Ay⟩⟩
   rw [hset k, hk1 k hk]
   exact ⟨fun h => h.resolve_right Aw, .inl⟩
  have him : i = m := by
   rcases Nat.lt_trichotomy i m with h | h | h
   ·rw [(hk1 i hib).2 h] at hnot; cases hnot
   ·exact h
   have := hpred (Oc late (by omega : base.length ≤ i) hlt h (fun h => by omega))
   have := (hk1 m hm1).1 this
   omega
  subst him
  exact goTail Hm g2 g3 hib hk1 hk2 hs ht
 ·intro l a w hI hr
  rw [hI0] at hI
  obtain ⟨hsz, β, τ', F, Hb, hβ, hdown, hτ, hs, ht, hI⟩ := hI
  have hall : ∀ i, i < ops.size → l.getD i false = true := by
   intro i
   induction i using Nat.strongRecOn with
   | _ i ih =>
    intro hi
    cases hq : l.getD i false with
    | true => rfl
    | false =>
     have ho : ops[i]? = some ops[i] := Array.getElem?_eq_getElem hi
     have : i ∈ Region.ready .any ops l := by
      refine mem_ready.2 ⟨?_, ops[i], ho, ?_⟩
      ·have : i < l.size := by omega
       simp [this] at hq ⊢; exact hq
      intro e he hb
      have hj : e.on ∈ ET ops[i] := by
       simp only [ET, List.mem_map, List.mem_filter]
       exact ⟨e, ⟨by simpa using he, hb⟩, rfl⟩
      have hlt := c0 i _ _ ho hj
      exact ih e.on hlt Aw
     rw [hr] at this
     cases this
  have hτe : τ' = τS ops (HN β 0 fb) τ ops.size := by
   funext t
   have h2 := Kz (hd β) ops.size (Nat.le_refl _) t
   by_cases hw : ∃ (k : Nat) (o' : Oper), ops[k]? = some o' ∧ o'.dst = some t
   ·obtain ⟨k, o', ho', hk⟩ := hw
    have hlt : k < ops.size := by
     rcases Nat.lt_or_ge k ops.size with h | h
     ·exact h
     simp [Array.getElem?_eq_none h] at ho'
    rw [(hτ t).1 k o' ho' hk (hall k hlt), h2.1 k o' ho' hk hlt]
   rw [(hτ t).2 fun k o' h1 h2 _ => hw ⟨k, o', h1, h2⟩, h2.2 fun k o' h1 h2 _ => hw ⟨k, o', h1, h2⟩]
  have fin : ∀ Hx : List Bc, (Hb ++ H).Perm (Hx ++ H) → Q .normal ⟨n, τS ops (HN β 0 fb) τ ops.size, Hx ++ H, D⟩ → post F₀ H w₀ Q .normal a w := fun Hx hp hq =>
   ⟨.normal, _, F, hq, rfl, ⟨by exact hs.size, by rw [← hτe]; exact hs.tmp, hs.heap.perm hp, hs.defs⟩, { ht with keys := fun o ho => ht.keys o (hp.mem_iff.2 ho) }⟩
  rcases hI with ⟨hno, hp⟩ | ⟨m, Hm, g2, g3, hm1, hm2, hk1, hk2, rfl⟩
  ·have hbs : base.length = ops.size := by
    rcases Nat.lt_or_ge base.length ops.size with h | h
    ·have := hall base.length h; rw [hno base.length (Nat.le_refl _)] at this; cases this
    omega
   obtain ⟨Hm, g1, g2, g3⟩ := (hE β hβ).2
   refine fin (Hm ops.size) ?_ g3
   rw [← hbs, g1]
   exact List.Perm.append_right H (hp.trans (List.Perm.of_eq (Qx base 0 fun j _ hj => hall j Aw)))
  have hms : m = ops.size := by
   rcases Nat.lt_or_ge m ops.size with h | h
   ·have := (hk1 m hm1).1 (hall m h); omega
   omega
  subst hms
  exact fin _ (List.Perm.refl _) g3
 ·obtain ⟨β0, hβ0⟩ := Xm.pick base hne
  rw [hI0]
  refine ⟨by simp, β0, τ, F₀, [], hβ0, ?_, ?_, hs₁, t₀, .inl ⟨?_, ?_⟩⟩
  ·intro i o j ho hi
   by_cases h : i < ops.size <;> simp [h] at hi
  ·intro t
   refine ⟨fun k o ho hk hl => ?_, fun _ => Ay⟩
   by_cases h : k < ops.size <;> simp [h] at hl
  ·intro k _
   by_cases h : k < ops.size <;> simp [h]
  rw [Of base 0 fun j => by by_cases h : j < ops.size <;> simp [h]]
 have := List.length_filter_le (fun b : Bool => !b) (Array.replicate ops.size false).toList
 simp at this ⊢
section
variable {P : Program} {ops : Array Oper} {H₀ : List Bc} {k : Nat} {τ : Nat → AV} {r : List AV} {K : (Nat → AV) → List Bc → Prop} {dst : Option Tmp} {op : Op} {ty : TypeId} {pos : String} {aft : Array Edge} {v : AV} {H : List Bc}
theorem Mf (H' : List Bc) (ho : ops[k]? = some ⟨dst, op, ty, pos, aft, none⟩) (h : Dw P ⟨dst, op, ty, pos, aft, none⟩ (ev τ) (H ++ H₀) v (H' ++ H₀)) (next : TW P ops H₀ (k + 1) (put τ dst v) H' r K) : TW P ops H₀ k τ H (v :: r) K :=
 ⟨_, H', ho, rfl, h, next⟩
theorem V5 (h : K τ H) : TW P ops H₀ k τ H [] K := h
end
end Go.Abs
namespace Go.Proofs.YtapmjpihennhaaaGreatDoor
open Go.Abs Go.Eu
theorem Sh (a b : List Int) (h1 : a.length < EB) (h2 : a = b) : IA Tryz.prog 30 [.p (.lst (List.map C0 a)), .p (.lst (List.map C0 b))] (.p (.bool true)) := by
 have := XP a b h1
 rwa [FT h2] at this
set_option maxHeartbeats 2000000 in
theorem Mq : ∀ (GL : List (Nat × Obj)) (hG : G3 GL), B1 Tryz.prog 11 [] [.glob GL] (Dq (.p (.bool true)) [.glob GL]) := by
 intro GL hG
 obtain ⟨e0, he0⟩ : ∃ e, e = ((.mk 0 4 ⟨#[]⟩ [] []) : Tm) := ⟨_, rfl⟩
 obtain ⟨e1, he1⟩ : ∃ e, e = ((.mk 0 2 ⟨#[]⟩ [] []) : Tm) := ⟨_, rfl⟩
 have hx0 : ([(.mk 0 4 ⟨#[]⟩ [] []), (.mk 0 2 ⟨#[]⟩ [] [])] : List Tm)[0]? = some e0 := by rw [he0]; rfl
 have hx1 : ([(.mk 0 4 ⟨#[]⟩ [] []), (.mk 0 2 ⟨#[]⟩ [] [])] : List Tm)[1]? = some e1 := by rw [he1]; rfl
 refine BH Tryz.func11 Ay iJ (n := 126) Ay Ay (A2 (A0 (Az Ay Ay (A4 Ay) (A5 Ay (A2 (A0 (Az Ay Ay (Bp Ay Ay (aV ) Ay) (BP Ay Ay (BN a8 Ay) fun b1 => Az Ay Ay (BB (i := 0) Fo Ay Ay Ay Ay Ay (Yl _)) (A5 Ay (A2 (A0 (Az Ay Ay (Bp Ay Ay (Yu 4) Ay) (Az Ay Ay (Bp Ay Ay (Yu 2) Ay) (Az Ay Ay (DJ Ay Ay (Lg ⟨#[122, 101, 114, 111]⟩ [] AP) (aw (we Ay) (aw (Cs Ay) (C7)))) (BP Ay Ay (BN B8 Ay) fun b2 => BP Ay Ay (BN B8 Ay) fun b3 => BP Ay Ay (BN B8 Ay) fun b4 => Az Ay Ay (BB (i := 2) BU Ay Ay Ay Am Ac (CN _)) (Az Ay Ay (BB (i := 1) BU Ay Ay Ay Am Ac (CN _)) (Az Ay Ay (BB (i := 0) BU Ay Ay Ay Am Ac (CN _)) ?_)))))))))))))))))
 refine A5 Ay (A2 (CW (fun k => false) ED (Ba (j := 3) Ay Ay Ay (fun H i hi => A8 (i := i) Fo Ay hi Ay) AA trivial (Ba (j := 2) Ay Ay Ay (fun H i hi => A8 (i := i) BU Ay hi Am) AA trivial (Ba (j := 1) Ay Ay Ay (fun H i hi => A8 (i := i) BU Ay hi Am) AA trivial (BA Ay Ay (fun _ => Bp Ay Ay (PC (.mk 0 2 ⟨#[]⟩ [] [])) Ay) trivial (BA Ay Ay (fun _ => Bp Ay Ay (Ko (.mk 0 4 ⟨#[]⟩ [] []) (Bh ⟨#[110, 101, 103]⟩ [(.mk 0 2 ⟨#[]⟩ [] [])])) Ay) trivial (Ba (j := 2) Ay Ay Ay (fun H i hi => A8 (i := i) BU Ay hi Am) AA trivial (BA Ay Ay (fun _ => Bp Ay Ay (Ko (Bh ⟨#[97, 100, 100]⟩ [(.mk 0 4 ⟨#[]⟩ [] []), (Bh ⟨#[110, 101, 103]⟩ [(.mk 0 2 ⟨#[]⟩ [] [])])]) (.mk 0 4 ⟨#[]⟩ [] [])) Ay) trivial ?_)))))))))
 refine CO [4] Ay Ay Ay (.inl ⟨Ay, Ay, Ay⟩) (UH GL hG (BY.mk ⟨#[90]⟩ ⟨#[97, 100, 100]⟩ ⟨#[122, 101, 114, 111]⟩ ⟨#[110, 101, 103]⟩ ⟨#[111, 110, 101]⟩ ⟨#[108, 101, 113]⟩ [⟨#[108, 48]⟩, ⟨#[108, 49]⟩, ⟨#[108, 50]⟩, ⟨#[108, 51]⟩, ⟨#[108, 52]⟩, ⟨#[108, 53]⟩, ⟨#[108, 54]⟩, ⟨#[108, 55]⟩, ⟨#[108, 56]⟩, ⟨#[108, 57]⟩, ⟨#[108, 49, 48]⟩, ⟨#[108, 49, 49]⟩, ⟨#[108, 49, 50]⟩, ⟨#[108, 49, 51]⟩]) (Bh ⟨#[97, 100, 100]⟩ [(Bh ⟨#[97, 100, 100]⟩ [(.mk 0 4 ⟨#[]⟩ [] []), (Bh ⟨#[110, 101, 103]⟩ [(.mk 0 2 ⟨#[]⟩ [] [])])]), (.mk 0 4 ⟨#[]⟩ [] [])]) [2, -1] ([(.mk 0 4 ⟨#[]⟩ [] []), (.mk 0 2 ⟨#[]⟩ [] [])]) 0 cA bK ay) ⟨_, _, Ay, Ay, Ay⟩ (C1 _) (aw (we Ay) (aw (we Ay) (C7))) AA trivial (BA Ay Ay (fun _ => A1 Ay) trivial (BA Ay Ay (fun _ => Bi Ay Ay) trivial (BA Ay Ay (fun _ => Bi Ay Ay) trivial (BA Ay Ay (fun _ => Bi Ay Ay) trivial ?_))))
 refine BA Ay Ay (fun _ => A4 Ay) trivial (BA Ay Ay (fun _ => A4 Ay) trivial (BA Ay Ay (fun _ => A4 Ay) trivial (CP Ay Ar (A2 (CW (fun k => false) ED (Ba (j := 3) Ay Ay Ay (fun H i hi => A8 (i := i) Fo Ay hi Ay) AA trivial (Ba (j := 2) Ay Ay Ay (fun H i hi => A8 (i := i) BU Ay hi Am) AA trivial (Ba (j := 2) Ay Ay Ay (fun H i hi => A8 (i := i) BU Ay hi Am) AA trivial (BA Ay Ay (fun _ => Bp Ay Ay (PC (.mk 0 4 ⟨#[]⟩ [] [])) Ay) trivial (BA Ay Ay (fun _ => Bp Ay Ay (Ko (.mk 0 4 ⟨#[]⟩ [] []) (Bh ⟨#[110, 101, 103]⟩ [(.mk 0 4 ⟨#[]⟩ [] [])])) Ay) trivial ?_))))))))))
 refine CO [4] Ay Ay Ay (.inl ⟨Ay, Ay, Ay⟩) (UH GL hG (BY.mk ⟨#[90]⟩ ⟨#[97, 100, 100]⟩ ⟨#[122, 101, 114, 111]⟩ ⟨#[110, 101, 103]⟩ ⟨#[111, 110, 101]⟩ ⟨#[108, 101, 113]⟩ [⟨#[108, 48]⟩, ⟨#[108, 49]⟩, ⟨#[108, 50]⟩, ⟨#[108, 51]⟩, ⟨#[108, 52]⟩, ⟨#[108, 53]⟩, ⟨#[108, 54]⟩, ⟨#[108, 55]⟩, ⟨#[108, 56]⟩, ⟨#[108, 57]⟩, ⟨#[108, 49, 48]⟩, ⟨#[108, 49, 49]⟩, ⟨#[108, 49, 50]⟩, ⟨#[108, 49, 51]⟩]) (Bh ⟨#[97, 100, 100]⟩ [(.mk 0 4 ⟨#[]⟩ [] []), (Bh ⟨#[110, 101, 103]⟩ [(.mk 0 4 ⟨#[]⟩ [] [])])]) [0] ([(.mk 0 4 ⟨#[]⟩ [] [])]) 0 dC bb Z0) ⟨_, _, Ay, Ay, Ay⟩ (C1 _) (aw (we Ay) (aw (we Ay) (C7))) AA trivial (BA Ay Ay (fun _ => A1 Ay) trivial (BA Ay Ay (fun _ => Bi Ay Ay) trivial (BA Ay Ay (fun _ => Bi Ay Ay) trivial (BA Ay Ay (fun _ => Bi Ay Ay) trivial (BA Ay Ay (fun _ => A4 Ay) trivial ?_)))))
 refine BA Ay Ay (fun _ => A4 Ay) trivial (BA Ay Ay (fun _ => A4 Ay) trivial (CP Ay Ar (A2 (A0 (Az Ay Ay (A8 (i := 3) Fo Ay Ay Ay) (Az Ay Ay (A1 Ay) (Az Ay Ay (A1 Ay) (Az Ay Ay (Bp Ay Ay (Oa (BY.mk ⟨#[90]⟩ ⟨#[97, 100, 100]⟩ ⟨#[122, 101, 114, 111]⟩ ⟨#[110, 101, 103]⟩ ⟨#[111, 110, 101]⟩ ⟨#[108, 101, 113]⟩ [⟨#[108, 48]⟩, ⟨#[108, 49]⟩, ⟨#[108, 50]⟩, ⟨#[108, 51]⟩, ⟨#[108, 52]⟩, ⟨#[108, 53]⟩, ⟨#[108, 54]⟩, ⟨#[108, 55]⟩, ⟨#[108, 56]⟩, ⟨#[108, 57]⟩, ⟨#[108, 49, 48]⟩, ⟨#[108, 49, 49]⟩, ⟨#[108, 49, 50]⟩, ⟨#[108, 49, 51]⟩]) [2, -1] ([(.mk 0 4 ⟨#[]⟩ [] []), (.mk 0 2 ⟨#[]⟩ [] [])]) Av) Ay) (BP Ay Ay (BN B8 Ay) fun b11 => Az Ay Ay (BB (i := 0) BU Ay Ay Ay Am Ac (CN _)) (A5 Ay (A2 ?_)))))))))))
 refine UC [.rel (fun v => ∃ ds : List Dt, v = .p (.lst (List.map Ci ds)) ∧ ds.map Dt.name = [⟨#[69, 113]⟩, ⟨#[69, 113, 46, 114, 101, 102, 108]⟩, ⟨#[69, 113, 46, 115, 121, 109, 109]⟩, ⟨#[69, 113, 46, 116, 114, 97, 110, 115]⟩, ⟨#[69, 113, 46, 99, 111, 110, 103, 114]⟩, ⟨#[90]⟩, ⟨#[97, 100, 100]⟩, ⟨#[122, 101, 114, 111]⟩, ⟨#[110, 101, 103]⟩, ⟨#[111, 110, 101]⟩, ⟨#[108, 48]⟩, ⟨#[108, 49]⟩, ⟨#[108, 50]⟩, ⟨#[108, 51]⟩, ⟨#[108, 52]⟩, ⟨#[108, 53]⟩, ⟨#[108, 54]⟩] ∧ ∀ d ∈ ds, d.kind = 0), .val (.agg ((Ei (BY.mk ⟨#[90]⟩ ⟨#[97, 100, 100]⟩ ⟨#[122, 101, 114, 111]⟩ ⟨#[110, 101, 103]⟩ ⟨#[111, 110, 101]⟩ ⟨#[108, 101, 113]⟩ [⟨#[108, 48]⟩, ⟨#[108, 49]⟩, ⟨#[108, 50]⟩, ⟨#[108, 51]⟩, ⟨#[108, 52]⟩, ⟨#[108, 53]⟩, ⟨#[108, 54]⟩, ⟨#[108, 55]⟩, ⟨#[108, 56]⟩, ⟨#[108, 57]⟩, ⟨#[108, 49, 48]⟩, ⟨#[108, 49, 49]⟩, ⟨#[108, 49, 50]⟩, ⟨#[108, 49, 51]⟩])).map .p)), .val (.agg ((Bu (.mk 0 4 ⟨#[]⟩ [] [])).map .p)), .val (.agg ((Bu (Bh ⟨#[122, 101, 114, 111]⟩ [])).map .p)), .val (.agg ((Bu (Bh ⟨#[97, 100, 100]⟩ [(.mk 0 4 ⟨#[]⟩ [] []), (Bh ⟨#[122, 101, 114, 111]⟩ [])])).map .p)), .val (.agg ((Bu (Bh ⟨#[110, 101, 103]⟩ [(Bh ⟨#[97, 100, 100]⟩ [(.mk 0 4 ⟨#[]⟩ [] []), (Bh ⟨#[122, 101, 114, 111]⟩ [])])])).map .p)), .val (.agg ((Bu (Bh ⟨#[110, 101, 103]⟩ [(Bh ⟨#[110, 101, 103]⟩ [(Bh ⟨#[97, 100, 100]⟩ [(.mk 0 4 ⟨#[]⟩ [] []), (Bh ⟨#[122, 101, 114, 111]⟩ [])])])])).map .p)), .val (.tup [.agg ((Bu (HS (BY.mk ⟨#[90]⟩ ⟨#[97, 100, 100]⟩ ⟨#[122, 101, 114, 111]⟩ ⟨#[110, 101, 103]⟩ ⟨#[111, 110, 101]⟩ ⟨#[108, 101, 113]⟩ [⟨#[108, 48]⟩, ⟨#[108, 49]⟩, ⟨#[108, 50]⟩, ⟨#[108, 51]⟩, ⟨#[108, 52]⟩, ⟨#[108, 53]⟩, ⟨#[108, 54]⟩, ⟨#[108, 55]⟩, ⟨#[108, 56]⟩, ⟨#[108, 57]⟩, ⟨#[108, 49, 48]⟩, ⟨#[108, 49, 49]⟩, ⟨#[108, 49, 50]⟩, ⟨#[108, 49, 51]⟩]) (C6 (BY.mk ⟨#[90]⟩ ⟨#[97, 100, 100]⟩ ⟨#[122, 101, 114, 111]⟩ ⟨#[110, 101, 103]⟩ ⟨#[111, 110, 101]⟩ ⟨#[108, 101, 113]⟩ [⟨#[108, 48]⟩, ⟨#[108, 49]⟩, ⟨#[108, 50]⟩, ⟨#[108, 51]⟩, ⟨#[108, 52]⟩, ⟨#[108, 53]⟩, ⟨#[108, 54]⟩, ⟨#[108, 55]⟩, ⟨#[108, 56]⟩, ⟨#[108, 57]⟩, ⟨#[108, 49, 48]⟩, ⟨#[108, 49, 49]⟩, ⟨#[108, 49, 50]⟩, ⟨#[108, 49, 51]⟩]) (Bh ⟨#[110, 101, 103]⟩ [(Bh ⟨#[110, 101, 103]⟩ [(Bh ⟨#[97, 100, 100]⟩ [(.mk 0 4 ⟨#[]⟩ [] []), (Bh ⟨#[122, 101, 114, 111]⟩ [])])])])).coefs (C6 (BY.mk ⟨#[90]⟩ ⟨#[97, 100, 100]⟩ ⟨#[122, 101, 114, 111]⟩ ⟨#[110, 101, 103]⟩ ⟨#[111, 110, 101]⟩ ⟨#[108, 101, 113]⟩ [⟨#[108, 48]⟩, ⟨#[108, 49]⟩, ⟨#[108, 50]⟩, ⟨#[108, 51]⟩, ⟨#[108, 52]⟩, ⟨#[108, 53]⟩, ⟨#[108, 54]⟩, ⟨#[108, 55]⟩, ⟨#[108, 56]⟩, ⟨#[108, 57]⟩, ⟨#[108, 49, 48]⟩, ⟨#[108, 49, 49]⟩, ⟨#[108, 49, 50]⟩, ⟨#[108, 49, 51]⟩]) (Bh ⟨#[110, 101, 103]⟩ [(Bh ⟨#[110, 101, 103]⟩ [(Bh ⟨#[97, 100, 100]⟩ [(.mk 0 4 ⟨#[]⟩ [] []), (Bh ⟨#[122, 101, 114, 111]⟩ [])])])])).atoms)).map .p), .agg ((Bu ((B0 (BY.mk ⟨#[90]⟩ ⟨#[97, 100, 100]⟩ ⟨#[122, 101, 114, 111]⟩ ⟨#[110, 101, 103]⟩ ⟨#[111, 110, 101]⟩ ⟨#[108, 101, 113]⟩ [⟨#[108, 48]⟩, ⟨#[108, 49]⟩, ⟨#[108, 50]⟩, ⟨#[108, 51]⟩, ⟨#[108, 52]⟩, ⟨#[108, 53]⟩, ⟨#[108, 54]⟩, ⟨#[108, 55]⟩, ⟨#[108, 56]⟩, ⟨#[108, 57]⟩, ⟨#[108, 49, 48]⟩, ⟨#[108, 49, 49]⟩, ⟨#[108, 49, 50]⟩, ⟨#[108, 49, 51]⟩]) (C6 (BY.mk ⟨#[90]⟩ ⟨#[97, 100, 100]⟩ ⟨#[122, 101, 114, 111]⟩ ⟨#[110, 101, 103]⟩ ⟨#[111, 110, 101]⟩ ⟨#[108, 101, 113]⟩ [⟨#[108, 48]⟩, ⟨#[108, 49]⟩, ⟨#[108, 50]⟩, ⟨#[108, 51]⟩, ⟨#[108, 52]⟩, ⟨#[108, 53]⟩, ⟨#[108, 54]⟩, ⟨#[108, 55]⟩, ⟨#[108, 56]⟩, ⟨#[108, 57]⟩, ⟨#[108, 49, 48]⟩, ⟨#[108, 49, 49]⟩, ⟨#[108, 49, 50]⟩, ⟨#[108, 49, 51]⟩]) (Bh ⟨#[110, 101, 103]⟩ [(Bh ⟨#[110, 101, 103]⟩ [(Bh ⟨#[97, 100, 100]⟩ [(.mk 0 4 ⟨#[]⟩ [] []), (Bh ⟨#[122, 101, 114, 111]⟩ [])])])])).atoms (size (Bh ⟨#[110, 101, 103]⟩ [(Bh ⟨#[110, 101, 103]⟩ [(Bh ⟨#[97, 100, 100]⟩ [(.mk 0 4 ⟨#[]⟩ [] []), (Bh ⟨#[122, 101, 114, 111]⟩ [])])])])) (Bh ⟨#[110, 101, 103]⟩ [(Bh ⟨#[110, 101, 103]⟩ [(Bh ⟨#[97, 100, 100]⟩ [(.mk 0 4 ⟨#[]⟩ [] []), (Bh ⟨#[122, 101, 114, 111]⟩ [])])])])).1.proof)).map .p), .p (I 0)]), .val (.tup [.agg ((Bu (HS (BY.mk ⟨#[90]⟩ ⟨#[97, 100, 100]⟩ ⟨#[122, 101, 114, 111]⟩ ⟨#[110, 101, 103]⟩ ⟨#[111, 110, 101]⟩ ⟨#[108, 101, 113]⟩ [⟨#[108, 48]⟩, ⟨#[108, 49]⟩, ⟨#[108, 50]⟩, ⟨#[108, 51]⟩, ⟨#[108, 52]⟩, ⟨#[108, 53]⟩, ⟨#[108, 54]⟩, ⟨#[108, 55]⟩, ⟨#[108, 56]⟩, ⟨#[108, 57]⟩, ⟨#[108, 49, 48]⟩, ⟨#[108, 49, 49]⟩, ⟨#[108, 49, 50]⟩, ⟨#[108, 49, 51]⟩]) (C6 (BY.mk ⟨#[90]⟩ ⟨#[97, 100, 100]⟩ ⟨#[122, 101, 114, 111]⟩ ⟨#[110, 101, 103]⟩ ⟨#[111, 110, 101]⟩ ⟨#[108, 101, 113]⟩ [⟨#[108, 48]⟩, ⟨#[108, 49]⟩, ⟨#[108, 50]⟩, ⟨#[108, 51]⟩, ⟨#[108, 52]⟩, ⟨#[108, 53]⟩, ⟨#[108, 54]⟩, ⟨#[108, 55]⟩, ⟨#[108, 56]⟩, ⟨#[108, 57]⟩, ⟨#[108, 49, 48]⟩, ⟨#[108, 49, 49]⟩, ⟨#[108, 49, 50]⟩, ⟨#[108, 49, 51]⟩]) (Bh ⟨#[110, 101, 103]⟩ [(Bh ⟨#[110, 101, 103]⟩ [(Bh ⟨#[97, 100, 100]⟩ [(.mk 0 4 ⟨#[]⟩ [] []), (Bh ⟨#[122, 101, 114, 111]⟩ [])])])])).coefs (C6 (BY.mk ⟨#[90]⟩ ⟨#[97, 100, 100]⟩ ⟨#[122, 101, 114, 111]⟩ ⟨#[110, 101, 103]⟩ ⟨#[111, 110, 101]⟩ ⟨#[108, 101, 113]⟩ [⟨#[108, 48]⟩, ⟨#[108, 49]⟩, ⟨#[108, 50]⟩, ⟨#[108, 51]⟩, ⟨#[108, 52]⟩, ⟨#[108, 53]⟩, ⟨#[108, 54]⟩, ⟨#[108, 55]⟩, ⟨#[108, 56]⟩, ⟨#[108, 57]⟩, ⟨#[108, 49, 48]⟩, ⟨#[108, 49, 49]⟩, ⟨#[108, 49, 50]⟩, ⟨#[108, 49, 51]⟩]) (Bh ⟨#[110, 101, 103]⟩ [(Bh ⟨#[110, 101, 103]⟩ [(Bh ⟨#[97, 100, 100]⟩ [(.mk 0 4 ⟨#[]⟩ [] []), (Bh ⟨#[122, 101, 114, 111]⟩ [])])])])).atoms)).map .p), .agg ((Bu ((B0 (BY.mk ⟨#[90]⟩ ⟨#[97, 100, 100]⟩ ⟨#[122, 101, 114, 111]⟩ ⟨#[110, 101, 103]⟩ ⟨#[111, 110, 101]⟩ ⟨#[108, 101, 113]⟩ [⟨#[108, 48]⟩, ⟨#[108, 49]⟩, ⟨#[108, 50]⟩, ⟨#[108, 51]⟩, ⟨#[108, 52]⟩, ⟨#[108, 53]⟩, ⟨#[108, 54]⟩, ⟨#[108, 55]⟩, ⟨#[108, 56]⟩, ⟨#[108, 57]⟩, ⟨#[108, 49, 48]⟩, ⟨#[108, 49, 49]⟩, ⟨#[108, 49, 50]⟩, ⟨#[108, 49, 51]⟩]) (C6 (BY.mk ⟨#[90]⟩ ⟨#[97, 100, 100]⟩ ⟨#[122, 101, 114, 111]⟩ ⟨#[110, 101, 103]⟩ ⟨#[111, 110, 101]⟩ ⟨#[108, 101, 113]⟩ [⟨#[108, 48]⟩, ⟨#[108, 49]⟩, ⟨#[108, 50]⟩, ⟨#[108, 51]⟩, ⟨#[108, 52]⟩, ⟨#[108, 53]⟩, ⟨#[108, 54]⟩, ⟨#[108, 55]⟩, ⟨#[108, 56]⟩, ⟨#[108, 57]⟩, ⟨#[108, 49, 48]⟩, ⟨#[108, 49, 49]⟩, ⟨#[108, 49, 50]⟩, ⟨#[108, 49, 51]⟩]) (Bh ⟨#[110, 101, 103]⟩ [(Bh ⟨#[110, 101, 103]⟩ [(Bh ⟨#[97, 100, 100]⟩ [(.mk 0 4 ⟨#[]⟩ [] []), (Bh ⟨#[122, 101, 114, 111]⟩ [])])])])).atoms (size (Bh ⟨#[110, 101, 103]⟩ [(Bh ⟨#[110, 101, 103]⟩ [(Bh ⟨#[97, 100, 100]⟩ [(.mk 0 4 ⟨#[]⟩ [] []), (Bh ⟨#[122, 101, 114, 111]⟩ [])])])])) (Bh ⟨#[110, 101, 103]⟩ [(Bh ⟨#[110, 101, 103]⟩ [(Bh ⟨#[97, 100, 100]⟩ [(.mk 0 4 ⟨#[]⟩ [] []), (Bh ⟨#[122, 101, 114, 111]⟩ [])])])])).1.proof)).map .p), .p (I 0)]), .val (.agg ((Bu (HS (BY.mk ⟨#[90]⟩ ⟨#[97, 100, 100]⟩ ⟨#[122, 101, 114, 111]⟩ ⟨#[110, 101, 103]⟩ ⟨#[111, 110, 101]⟩ ⟨#[108, 101, 113]⟩ [⟨#[108, 48]⟩, ⟨#[108, 49]⟩, ⟨#[108, 50]⟩, ⟨#[108, 51]⟩, ⟨#[108, 52]⟩, ⟨#[108, 53]⟩, ⟨#[108, 54]⟩, ⟨#[108, 55]⟩, ⟨#[108, 56]⟩, ⟨#[108, 57]⟩, ⟨#[108, 49, 48]⟩, ⟨#[108, 49, 49]⟩, ⟨#[108, 49, 50]⟩, ⟨#[108, 49, 51]⟩]) (C6 (BY.mk ⟨#[90]⟩ ⟨#[97, 100, 100]⟩ ⟨#[122, 101, 114, 111]⟩ ⟨#[110, 101, 103]⟩ ⟨#[111, 110, 101]⟩ ⟨#[108, 101, 113]⟩ [⟨#[108, 48]⟩, ⟨#[108, 49]⟩, ⟨#[108, 50]⟩, ⟨#[108, 51]⟩, ⟨#[108, 52]⟩, ⟨#[108, 53]⟩, ⟨#[108, 54]⟩, ⟨#[108, 55]⟩, ⟨#[108, 56]⟩, ⟨#[108, 57]⟩, ⟨#[108, 49, 48]⟩, ⟨#[108, 49, 49]⟩, ⟨#[108, 49, 50]⟩, ⟨#[108, 49, 51]⟩]) (Bh ⟨#[110, 101, 103]⟩ [(Bh ⟨#[110, 101, 103]⟩ [(Bh ⟨#[97, 100, 100]⟩ [(.mk 0 4 ⟨#[]⟩ [] []), (Bh ⟨#[122, 101, 114, 111]⟩ [])])])])).coefs (C6 (BY.mk ⟨#[90]⟩ ⟨#[97, 100, 100]⟩ ⟨#[122, 101, 114, 111]⟩ ⟨#[110, 101, 103]⟩ ⟨#[111, 110, 101]⟩ ⟨#[108, 101, 113]⟩ [⟨#[108, 48]⟩, ⟨#[108, 49]⟩, ⟨#[108, 50]⟩, ⟨#[108, 51]⟩, ⟨#[108, 52]⟩, ⟨#[108, 53]⟩, ⟨#[108, 54]⟩, ⟨#[108, 55]⟩, ⟨#[108, 56]⟩, ⟨#[108, 57]⟩, ⟨#[108, 49, 48]⟩, ⟨#[108, 49, 49]⟩, ⟨#[108, 49, 50]⟩, ⟨#[108, 49, 51]⟩]) (Bh ⟨#[110, 101, 103]⟩ [(Bh ⟨#[110, 101, 103]⟩ [(Bh ⟨#[97, 100, 100]⟩ [(.mk 0 4 ⟨#[]⟩ [] []), (Bh ⟨#[122, 101, 114, 111]⟩ [])])])])).atoms)).map .p)), .val (.agg ((Bu ((B0 (BY.mk ⟨#[90]⟩ ⟨#[97, 100, 100]⟩ ⟨#[122, 101, 114, 111]⟩ ⟨#[110, 101, 103]⟩ ⟨#[111, 110, 101]⟩ ⟨#[108, 101, 113]⟩ [⟨#[108, 48]⟩, ⟨#[108, 49]⟩, ⟨#[108, 50]⟩, ⟨#[108, 51]⟩, ⟨#[108, 52]⟩, ⟨#[108, 53]⟩, ⟨#[108, 54]⟩, ⟨#[108, 55]⟩, ⟨#[108, 56]⟩, ⟨#[108, 57]⟩, ⟨#[108, 49, 48]⟩, ⟨#[108, 49, 49]⟩, ⟨#[108, 49, 50]⟩, ⟨#[108, 49, 51]⟩]) (C6 (BY.mk ⟨#[90]⟩ ⟨#[97, 100, 100]⟩ ⟨#[122, 101, 114, 111]⟩ ⟨#[110, 101, 103]⟩ ⟨#[111, 110, 101]⟩ ⟨#[108, 101, 113]⟩ [⟨#[108, 48]⟩, ⟨#[108, 49]⟩, ⟨#[108, 50]⟩, ⟨#[108, 51]⟩, ⟨#[108, 52]⟩, ⟨#[108, 53]⟩, ⟨#[108, 54]⟩, ⟨#[108, 55]⟩, ⟨#[108, 56]⟩, ⟨#[108, 57]⟩, ⟨#[108, 49, 48]⟩, ⟨#[108, 49, 49]⟩, ⟨#[108, 49, 50]⟩, ⟨#[108, 49, 51]⟩]) (Bh ⟨#[110, 101, 103]⟩ [(Bh ⟨#[110, 101, 103]⟩ [(Bh ⟨#[97, 100, 100]⟩ [(.mk 0 4 ⟨#[]⟩ [] []), (Bh ⟨#[122, 101, 114, 111]⟩ [])])])])).atoms (size (Bh ⟨#[110, 101, 103]⟩ [(Bh ⟨#[110, 101, 103]⟩ [(Bh ⟨#[97, 100, 100]⟩ [(.mk 0 4 ⟨#[]⟩ [] []), (Bh ⟨#[122, 101, 114, 111]⟩ [])])])])) (Bh ⟨#[110, 101, 103]⟩ [(Bh ⟨#[110, 101, 103]⟩ [(Bh ⟨#[97, 100, 100]⟩ [(.mk 0 4 ⟨#[]⟩ [] []), (Bh ⟨#[122, 101, 114, 111]⟩ [])])])])).1.proof)).map .p)), .val (.p (I 0)), .new [.p (I 0), .p (I 0), .p (.str ⟨#[]⟩), .p (.nils), .p (.nils)], .new [.p (I 0), .p (I 0), .p (.str ⟨#[]⟩), .p (.nils), .p (.nils)]] [.p .any, .p .any, .p (I 0)] [10, 11] ED Ay Ar Ar Ar ?_ ?_
 ·exact ⟨⟨_, ([⟨#[69, 113]⟩, ⟨#[69, 113, 46, 114, 101, 102, 108]⟩, ⟨#[69, 113, 46, 115, 121, 109, 109]⟩, ⟨#[69, 113, 46, 116, 114, 97, 110, 115]⟩, ⟨#[69, 113, 46, 99, 111, 110, 103, 114]⟩, ⟨#[90]⟩, ⟨#[97, 100, 100]⟩, ⟨#[122, 101, 114, 111]⟩, ⟨#[110, 101, 103]⟩, ⟨#[111, 110, 101]⟩, ⟨#[108, 48]⟩, ⟨#[108, 49]⟩, ⟨#[108, 50]⟩, ⟨#[108, 51]⟩, ⟨#[108, 52]⟩, ⟨#[108, 53]⟩, ⟨#[108, 54]⟩] : List ByteArray).map fun n => D0 n 0 Be, Ay, Ay, by simp [D0]⟩, trivial⟩
 refine Bw Ay (fun Bs => Bb Ay Ay (aH ) (.inl Ay)) ?_
 rintro _ ⟨ds, rfl, hgn, hgk⟩
 refine B6 Ay (fun Bs => A8 (i := Bs.length + 4) Fo Ay (B3 Ay) Ay) (B6 Ay (fun Bs => A8 (i := Bs.length + 3) BU Ay (B3 Ay) Am) (B6 Ay (fun Bs => A8 (i := Bs.length + 1) BU Ay (B3 Ay) Am) (B6 Ay (fun Bs => Bp Ay Ay (Ko (.mk 0 4 ⟨#[]⟩ [] []) (Bh ⟨#[122, 101, 114, 111]⟩ [])) Ay) (B6 Ay (fun Bs => Bp Ay Ay (PC (Bh ⟨#[97, 100, 100]⟩ [(.mk 0 4 ⟨#[]⟩ [] []), (Bh ⟨#[122, 101, 114, 111]⟩ [])])) Ay) (B6 Ay (fun Bs => Bp Ay Ay (PC (Bh ⟨#[110, 101, 103]⟩ [(Bh ⟨#[97, 100, 100]⟩ [(.mk 0 4 ⟨#[]⟩ [] []), (Bh ⟨#[122, 101, 114, 111]⟩ [])])])) Ay) ?_)))))
 refine B6 Ay (fun Bs => Ca [5] Ay (.inl ⟨Ay, Ay, Ay⟩) (Yy GL hG ds (BY.mk ⟨#[90]⟩ ⟨#[97, 100, 100]⟩ ⟨#[122, 101, 114, 111]⟩ ⟨#[110, 101, 103]⟩ ⟨#[111, 110, 101]⟩ ⟨#[108, 101, 113]⟩ [⟨#[108, 48]⟩, ⟨#[108, 49]⟩, ⟨#[108, 50]⟩, ⟨#[108, 51]⟩, ⟨#[108, 52]⟩, ⟨#[108, 53]⟩, ⟨#[108, 54]⟩, ⟨#[108, 55]⟩, ⟨#[108, 56]⟩, ⟨#[108, 57]⟩, ⟨#[108, 49, 48]⟩, ⟨#[108, 49, 49]⟩, ⟨#[108, 49, 50]⟩, ⟨#[108, 49, 51]⟩]) (Bh ⟨#[110, 101, 103]⟩ [(Bh ⟨#[110, 101, 103]⟩ [(Bh ⟨#[97, 100, 100]⟩ [(.mk 0 4 ⟨#[]⟩ [] []), (Bh ⟨#[122, 101, 114, 111]⟩ [])])])]) (by have := congrArg List.length hgn; rw [List.length_map] at this; rw [this]; decide) (fun d hd => .inl (hgk d hd)) Ay (iH hgk hgn) du bN eK) ⟨_, _, Ay, Ay, Ay⟩ Av (aw (we Ay) (aw (we Ay) (aw (we Ay) (C7))))) (B6 Ay (fun Bs => A1 Ay) (B6 Ay (fun Bs => Bi Ay Ay) (B6 Ay (fun Bs => Bi Ay Ay) ?_)))
 refine B6 Ay (fun Bs => Bi Ay Ay) (Re Ay (fun Bs => BN B8 Ay) fun b12 => Re Ay (fun Bs => BN B8 Ay) fun b13 => Tl ?_)
 refine Mf [.box b12 ((Bu (HS (BY.mk ⟨#[90]⟩ ⟨#[97, 100, 100]⟩ ⟨#[122, 101, 114, 111]⟩ ⟨#[110, 101, 103]⟩ ⟨#[111, 110, 101]⟩ ⟨#[108, 101, 113]⟩ [⟨#[108, 48]⟩, ⟨#[108, 49]⟩, ⟨#[108, 50]⟩, ⟨#[108, 51]⟩, ⟨#[108, 52]⟩, ⟨#[108, 53]⟩, ⟨#[108, 54]⟩, ⟨#[108, 55]⟩, ⟨#[108, 56]⟩, ⟨#[108, 57]⟩, ⟨#[108, 49, 48]⟩, ⟨#[108, 49, 49]⟩, ⟨#[108, 49, 50]⟩, ⟨#[108, 49, 51]⟩]) (C6 (BY.mk ⟨#[90]⟩ ⟨#[97, 100, 100]⟩ ⟨#[122, 101, 114, 111]⟩ ⟨#[110, 101, 103]⟩ ⟨#[111, 110, 101]⟩ ⟨#[108, 101, 113]⟩ [⟨#[108, 48]⟩, ⟨#[108, 49]⟩, ⟨#[108, 50]⟩, ⟨#[108, 51]⟩, ⟨#[108, 52]⟩, ⟨#[108, 53]⟩, ⟨#[108, 54]⟩, ⟨#[108, 55]⟩, ⟨#[108, 56]⟩, ⟨#[108, 57]⟩, ⟨#[108, 49, 48]⟩, ⟨#[108, 49, 49]⟩, ⟨#[108, 49, 50]⟩, ⟨#[108, 49, 51]⟩]) (Bh ⟨#[110, 101, 103]⟩ [(Bh ⟨#[110, 101, 103]⟩ [(Bh ⟨#[97, 100, 100]⟩ [(.mk 0 4 ⟨#[]⟩ [] []), (Bh ⟨#[122, 101, 114, 111]⟩ [])])])])).coefs (C6 (BY.mk ⟨#[90]⟩ ⟨#[97, 100, 100]⟩ ⟨#[122, 101, 114, 111]⟩ ⟨#[110, 101, 103]⟩ ⟨#[111, 110, 101]⟩ ⟨#[108, 101, 113]⟩ [⟨#[108, 48]⟩, ⟨#[108, 49]⟩, ⟨#[108, 50]⟩, ⟨#[108, 51]⟩, ⟨#[108, 52]⟩, ⟨#[108, 53]⟩, ⟨#[108, 54]⟩, ⟨#[108, 55]⟩, ⟨#[108, 56]⟩, ⟨#[108, 57]⟩, ⟨#[108, 49, 48]⟩, ⟨#[108, 49, 49]⟩, ⟨#[108, 49, 50]⟩, ⟨#[108, 49, 51]⟩]) (Bh ⟨#[110, 101, 103]⟩ [(Bh ⟨#[110, 101, 103]⟩ [(Bh ⟨#[97, 100, 100]⟩ [(.mk 0 4 ⟨#[]⟩ [] []), (Bh ⟨#[122, 101, 114, 111]⟩ [])])])])).atoms)).map .p), .box b13 [.p (I 0), .p (I 0), .p (.str ⟨#[]⟩), .p (.nils), .p (.nils)]] Ay (BB (i := 0) BU Ay Ay Ay Am Ac (CN _)) ?_
 refine Mf [.box b12 ((Bu (HS (BY.mk ⟨#[90]⟩ ⟨#[97, 100, 100]⟩ ⟨#[122, 101, 114, 111]⟩ ⟨#[110, 101, 103]⟩ ⟨#[111, 110, 101]⟩ ⟨#[108, 101, 113]⟩ [⟨#[108, 48]⟩, ⟨#[108, 49]⟩, ⟨#[108, 50]⟩, ⟨#[108, 51]⟩, ⟨#[108, 52]⟩, ⟨#[108, 53]⟩, ⟨#[108, 54]⟩, ⟨#[108, 55]⟩, ⟨#[108, 56]⟩, ⟨#[108, 57]⟩, ⟨#[108, 49, 48]⟩, ⟨#[108, 49, 49]⟩, ⟨#[108, 49, 50]⟩, ⟨#[108, 49, 51]⟩]) (C6 (BY.mk ⟨#[90]⟩ ⟨#[97, 100, 100]⟩ ⟨#[122, 101, 114, 111]⟩ ⟨#[110, 101, 103]⟩ ⟨#[111, 110, 101]⟩ ⟨#[108, 101, 113]⟩ [⟨#[108, 48]⟩, ⟨#[108, 49]⟩, ⟨#[108, 50]⟩, ⟨#[108, 51]⟩, ⟨#[108, 52]⟩, ⟨#[108, 53]⟩, ⟨#[108, 54]⟩, ⟨#[108, 55]⟩, ⟨#[108, 56]⟩, ⟨#[108, 57]⟩, ⟨#[108, 49, 48]⟩, ⟨#[108, 49, 49]⟩, ⟨#[108, 49, 50]⟩, ⟨#[108, 49, 51]⟩]) (Bh ⟨#[110, 101, 103]⟩ [(Bh ⟨#[110, 101, 103]⟩ [(Bh ⟨#[97, 100, 100]⟩ [(.mk 0 4 ⟨#[]⟩ [] []), (Bh ⟨#[122, 101, 114, 111]⟩ [])])])])).coefs (C6 (BY.mk ⟨#[90]⟩ ⟨#[97, 100, 100]⟩ ⟨#[122, 101, 114, 111]⟩ ⟨#[110, 101, 103]⟩ ⟨#[111, 110, 101]⟩ ⟨#[108, 101, 113]⟩ [⟨#[108, 48]⟩, ⟨#[108, 49]⟩, ⟨#[108, 50]⟩, ⟨#[108, 51]⟩, ⟨#[108, 52]⟩, ⟨#[108, 53]⟩, ⟨#[108, 54]⟩, ⟨#[108, 55]⟩, ⟨#[108, 56]⟩, ⟨#[108, 57]⟩, ⟨#[108, 49, 48]⟩, ⟨#[108, 49, 49]⟩, ⟨#[108, 49, 50]⟩, ⟨#[108, 49, 51]⟩]) (Bh ⟨#[110, 101, 103]⟩ [(Bh ⟨#[110, 101, 103]⟩ [(Bh ⟨#[97, 100, 100]⟩ [(.mk 0 4 ⟨#[]⟩ [] []), (Bh ⟨#[122, 101, 114, 111]⟩ [])])])])).atoms)).map .p), .box b13 ((Bu ((B0 (BY.mk ⟨#[90]⟩ ⟨#[97, 100, 100]⟩ ⟨#[122, 101, 114, 111]⟩ ⟨#[110, 101, 103]⟩ ⟨#[111, 110, 101]⟩ ⟨#[108, 101, 113]⟩ [⟨#[108, 48]⟩, ⟨#[108, 49]⟩, ⟨#[108, 50]⟩, ⟨#[108, 51]⟩, ⟨#[108, 52]⟩, ⟨#[108, 53]⟩, ⟨#[108, 54]⟩, ⟨#[108, 55]⟩, ⟨#[108, 56]⟩, ⟨#[108, 57]⟩, ⟨#[108, 49, 48]⟩, ⟨#[108, 49, 49]⟩, ⟨#[108, 49, 50]⟩, ⟨#[108, 49, 51]⟩]) (C6 (BY.mk ⟨#[90]⟩ ⟨#[97, 100, 100]⟩ ⟨#[122, 101, 114, 111]⟩ ⟨#[110, 101, 103]⟩ ⟨#[111, 110, 101]⟩ ⟨#[108, 101, 113]⟩ [⟨#[108, 48]⟩, ⟨#[108, 49]⟩, ⟨#[108, 50]⟩, ⟨#[108, 51]⟩, ⟨#[108, 52]⟩, ⟨#[108, 53]⟩, ⟨#[108, 54]⟩, ⟨#[108, 55]⟩, ⟨#[108, 56]⟩, ⟨#[108, 57]⟩, ⟨#[108, 49, 48]⟩, ⟨#[108, 49, 49]⟩, ⟨#[108, 49, 50]⟩, ⟨#[108, 49, 51]⟩]) (Bh ⟨#[110, 101, 103]⟩ [(Bh ⟨#[110, 101, 103]⟩ [(Bh ⟨#[97, 100, 100]⟩ [(.mk 0 4 ⟨#[]⟩ [] []), (Bh ⟨#[122, 101, 114, 111]⟩ [])])])])).atoms (size (Bh ⟨#[110, 101, 103]⟩ [(Bh ⟨#[110, 101, 103]⟩ [(Bh ⟨#[97, 100, 100]⟩ [(.mk 0 4 ⟨#[]⟩ [] []), (Bh ⟨#[122, 101, 114, 111]⟩ [])])])])) (Bh ⟨#[110, 101, 103]⟩ [(Bh ⟨#[110, 101, 103]⟩ [(Bh ⟨#[97, 100, 100]⟩ [(.mk 0 4 ⟨#[]⟩ [] []), (Bh ⟨#[122, 101, 114, 111]⟩ [])])])])).1.proof)).map .p)] Ay (BB (i := 1) BU Ay Ay Ay Am Ac (CN _)) ?_
 refine Mf [.box b12 ((Bu (HS (BY.mk ⟨#[90]⟩ ⟨#[97, 100, 100]⟩ ⟨#[122, 101, 114, 111]⟩ ⟨#[110, 101, 103]⟩ ⟨#[111, 110, 101]⟩ ⟨#[108, 101, 113]⟩ [⟨#[108, 48]⟩, ⟨#[108, 49]⟩, ⟨#[108, 50]⟩, ⟨#[108, 51]⟩, ⟨#[108, 52]⟩, ⟨#[108, 53]⟩, ⟨#[108, 54]⟩, ⟨#[108, 55]⟩, ⟨#[108, 56]⟩, ⟨#[108, 57]⟩, ⟨#[108, 49, 48]⟩, ⟨#[108, 49, 49]⟩, ⟨#[108, 49, 50]⟩, ⟨#[108, 49, 51]⟩]) (C6 (BY.mk ⟨#[90]⟩ ⟨#[97, 100, 100]⟩ ⟨#[122, 101, 114, 111]⟩ ⟨#[110, 101, 103]⟩ ⟨#[111, 110, 101]⟩ ⟨#[108, 101, 113]⟩ [⟨#[108, 48]⟩, ⟨#[108, 49]⟩, ⟨#[108, 50]⟩, ⟨#[108, 51]⟩, ⟨#[108, 52]⟩, ⟨#[108, 53]⟩, ⟨#[108, 54]⟩, ⟨#[108, 55]⟩, ⟨#[108, 56]⟩, ⟨#[108, 57]⟩, ⟨#[108, 49, 48]⟩, ⟨#[108, 49, 49]⟩, ⟨#[108, 49, 50]⟩, ⟨#[108, 49, 51]⟩]) (Bh ⟨#[110, 101, 103]⟩ [(Bh ⟨#[110, 101, 103]⟩ [(Bh ⟨#[97, 100, 100]⟩ [(.mk 0 4 ⟨#[]⟩ [] []), (Bh ⟨#[122, 101, 114, 111]⟩ [])])])])).coefs (C6 (BY.mk ⟨#[90]⟩ ⟨#[97, 100, 100]⟩ ⟨#[122, 101, 114, 111]⟩ ⟨#[110, 101, 103]⟩ ⟨#[111, 110, 101]⟩ ⟨#[108, 101, 113]⟩ [⟨#[108, 48]⟩, ⟨#[108, 49]⟩, ⟨#[108, 50]⟩, ⟨#[108, 51]⟩, ⟨#[108, 52]⟩, ⟨#[108, 53]⟩, ⟨#[108, 54]⟩, ⟨#[108, 55]⟩, ⟨#[108, 56]⟩, ⟨#[108, 57]⟩, ⟨#[108, 49, 48]⟩, ⟨#[108, 49, 49]⟩, ⟨#[108, 49, 50]⟩, ⟨#[108, 49, 51]⟩]) (Bh ⟨#[110, 101, 103]⟩ [(Bh ⟨#[110, 101, 103]⟩ [(Bh ⟨#[97, 100, 100]⟩ [(.mk 0 4 ⟨#[]⟩ [] []), (Bh ⟨#[122, 101, 114, 111]⟩ [])])])])).atoms)).map .p), .box b13 ((Bu ((B0 (BY.mk ⟨#[90]⟩ ⟨#[97, 100, 100]⟩ ⟨#[122, 101, 114, 111]⟩ ⟨#[110, 101, 103]⟩ ⟨#[111, 110, 101]⟩ ⟨#[108, 101, 113]⟩ [⟨#[108, 48]⟩, ⟨#[108, 49]⟩, ⟨#[108, 50]⟩, ⟨#[108, 51]⟩, ⟨#[108, 52]⟩, ⟨#[108, 53]⟩, ⟨#[108, 54]⟩, ⟨#[108, 55]⟩, ⟨#[108, 56]⟩, ⟨#[108, 57]⟩, ⟨#[108, 49, 48]⟩, ⟨#[108, 49, 49]⟩, ⟨#[108, 49, 50]⟩, ⟨#[108, 49, 51]⟩]) (C6 (BY.mk ⟨#[90]⟩ ⟨#[97, 100, 100]⟩ ⟨#[122, 101, 114, 111]⟩ ⟨#[110, 101, 103]⟩ ⟨#[111, 110, 101]⟩ ⟨#[108, 101, 113]⟩ [⟨#[108, 48]⟩, ⟨#[108, 49]⟩, ⟨#[108, 50]⟩, ⟨#[108, 51]⟩, ⟨#[108, 52]⟩, ⟨#[108, 53]⟩, ⟨#[108, 54]⟩, ⟨#[108, 55]⟩, ⟨#[108, 56]⟩, ⟨#[108, 57]⟩, ⟨#[108, 49, 48]⟩, ⟨#[108, 49, 49]⟩, ⟨#[108, 49, 50]⟩, ⟨#[108, 49, 51]⟩]) (Bh ⟨#[110, 101, 103]⟩ [(Bh ⟨#[110, 101, 103]⟩ [(Bh ⟨#[97, 100, 100]⟩ [(.mk 0 4 ⟨#[]⟩ [] []), (Bh ⟨#[122, 101, 114, 111]⟩ [])])])])).atoms (size (Bh ⟨#[110, 101, 103]⟩ [(Bh ⟨#[110, 101, 103]⟩ [(Bh ⟨#[97, 100, 100]⟩ [(.mk 0 4 ⟨#[]⟩ [] []), (Bh ⟨#[122, 101, 114, 111]⟩ [])])])])) (Bh ⟨#[110, 101, 103]⟩ [(Bh ⟨#[110, 101, 103]⟩ [(Bh ⟨#[97, 100, 100]⟩ [(.mk 0 4 ⟨#[]⟩ [] []), (Bh ⟨#[122, 101, 114, 111]⟩ [])])])])).1.proof)).map .p)] Ay (A4 Ay) ?_
 refine V5 (A2 (A2 (A0 (Az Ay Ay (A1 Ay) (Az Ay Ay (BE Ay Ay Ay) (Az Ay Ay (A1 Ay) (A6 Ay Ay Ay Ay (A1 Ay) (A6 Ay Ay Ay Ay (BE Ay Ay Ay) (Az Ay Ay (BC Ay Ay) (Az Ay Ay (A1 Ay) (A6 Ay Ay Ay Ay (A1 Ay) (A6 Ay Ay Ay Ay (BE Ay Ay Ay) (Az Ay Ay (BC Ay Ay) (Az Ay Ay (A1 Ay) (A6 Ay Ay Ay Ay (A1 Ay) (A6 Ay Ay Ay Ay (Bo CL Ay (B5 _)) (A6 Ay Ay Ay Ay (BE Ay Ay Ay) (Az Ay Ay (BC Ay Ay) (Az Ay Ay (A1 Ay) (Br 72 Ay (fun g => ?_) (fun g => ?_)))))))))))))))))))))
 ·(try simp only [sd, se] at g)
  refine A7 Ay Ay Ay Ay Ay (A7 Ay Ay Ay Ay Ay (A7 Ay Ay Ay Ay Ay (Az Ay Ay (BC Ay Ay) (A5 Ay ?_))))
  refine BD Ay (fun c => ?_) (fun c => by cases c)
  refine A2 (A0 (Az Ay Ay (A4 Ay) (A5 Ay (BF ?_))))
  first | exact absurd g Av | exact absurd c Av
 (try simp only [sd, se] at g)
 refine A6 Ay Ay Ay Ay (A1 Ay) (A6 Ay Ay Ay Ay (Bo CL Ay (B5 _)) (A6 Ay Ay Ay Ay (BE Ay Ay Ay) (Az Ay Ay (BC Ay Ay) (A5 Ay (BD Ay (fun c => ?_) (fun c => ?_))))))
 ·(try simp only [sd, se] at c)
  refine A2 (A0 (Az Ay Ay (A4 Ay) (A5 Ay (BF ?_))))
  first | exact absurd g Av | exact absurd c Av
 (try simp only [sd, se] at c)
 refine BG (A2 (CW (fun k => false) ED (BA Ay Ay (fun _ => A1 Ay) trivial (BA Ay Ay (fun _ => CJ GF Xj Ay Ay Ay Ay Ay) trivial (BA Ay Ay (fun _ => Bp Ay Ay (Sh [2, -1] [2, (-1)] Av Ay) Ay) trivial (BA Ay Ay (fun _ => A1 Ay) trivial (CI Ay Ay Ay Ay (fun _ => A1 Ay) trivial (CI Ay Ay Ay Ay (fun _ => BI CL Ay Ay Ax (CU hx0) (Bd _)) trivial (CI Ay Ay Ay Ay (fun _ => Bq BU Ay (Bd _)) trivial (Da (i := 5) Ay Ay Ay Ay Ay (fun H i hi => A8 (i := i) BU Ay hi Am) AA trivial (CI Ay Ay Ay Ay (fun _ => Bp Ay Ay (J7 e0 (.mk 0 4 ⟨#[]⟩ [] []) (he0 ▸ MZ.nd) he0) Ay) trivial (BA Ay Ay (fun _ => BC Ay Ay) trivial (BA Ay Ay (fun _ => A1 Ay) trivial (CI Ay Ay Ay Ay (fun _ => A1 Ay) trivial ?_))))))))))))))
 refine CI Ay Ay Ay Ay (fun _ => BI CL Ay Ay Ax (CU hx1) (Bd _)) trivial (CI Ay Ay Ay Ay (fun _ => Bq BU Ay (Bd _)) trivial (Da (i := 4) Ay Ay Ay Ay Ay (fun H i hi => A8 (i := i) BU Ay hi Am) AA trivial (CI Ay Ay Ay Ay (fun _ => Bp Ay Ay (J7 e1 (.mk 0 2 ⟨#[]⟩ [] []) (he1 ▸ W0.nd) he1) Ay) trivial (BA Ay Ay (fun _ => BC Ay Ay) trivial (BA Ay Ay (fun _ => A1 Ay) trivial (CI Ay Ay Ay Ay (fun _ => A1 Ay) trivial (CI Ay Ay Ay Ay (fun _ => CJ GF Xj Ay Ay Ay Ay Ay) trivial (CI Ay Ay Ay Ay (fun _ => Bp Ay Ay (Sh [0] [0] Av Ay) Ay) trivial (BA Ay Ay (fun _ => BC Ay Ay) trivial (BA Ay Ay (fun _ => A1 Ay) trivial (Da (i := 2) Ay Ay Ay Ay Ay (fun H i hi => A8 (i := i) BU Ay hi Am) AA trivial ?_)))))))))))
 refine Da (i := 5) Ay Ay Ay Ay Ay (fun H i hi => A8 (i := i) BU Ay hi Am) AA trivial (Da (i := 5) Ay Ay Ay Ay Ay (fun H i hi => A8 (i := i) BU Ay hi Am) AA trivial (Da (i := 4) Ay Ay Ay Ay Ay (fun H i hi => A8 (i := i) BU Ay hi Am) AA trivial (CI Ay Ay Ay Ay (fun _ => Bp Ay Ay (PC (.mk 0 2 ⟨#[]⟩ [] [])) Ay) trivial (Da (i := 3) Ay Ay Ay Ay Ay (fun H i hi => A8 (i := i) BU Ay hi Am) AA trivial (CI Ay Ay Ay Ay (fun _ => Bp Ay Ay (Ko (Bh ⟨#[110, 101, 103]⟩ [(.mk 0 2 ⟨#[]⟩ [] [])]) (Bh ⟨#[122, 101, 114, 111]⟩ [])) Ay) trivial (CI Ay Ay Ay Ay (fun _ => Bp Ay Ay (Ko (.mk 0 4 ⟨#[]⟩ [] []) (Bh ⟨#[97, 100, 100]⟩ [(Bh ⟨#[110, 101, 103]⟩ [(.mk 0 2 ⟨#[]⟩ [] [])]), (Bh ⟨#[122, 101, 114, 111]⟩ [])])) Ay) trivial ?_))))))
 refine CI Ay Ay Ay Ay (fun _ => Bp Ay Ay (Ko (.mk 0 4 ⟨#[]⟩ [] []) (Bh ⟨#[97, 100, 100]⟩ [(.mk 0 4 ⟨#[]⟩ [] []), (Bh ⟨#[97, 100, 100]⟩ [(Bh ⟨#[110, 101, 103]⟩ [(.mk 0 2 ⟨#[]⟩ [] [])]), (Bh ⟨#[122, 101, 114, 111]⟩ [])])])) Ay) trivial ?_
 refine CI Ay Ay Ay Ay (fun _ => Bp Ay Ay (J7 (HS (BY.mk ⟨#[90]⟩ ⟨#[97, 100, 100]⟩ ⟨#[122, 101, 114, 111]⟩ ⟨#[110, 101, 103]⟩ ⟨#[111, 110, 101]⟩ ⟨#[108, 101, 113]⟩ [⟨#[108, 48]⟩, ⟨#[108, 49]⟩, ⟨#[108, 50]⟩, ⟨#[108, 51]⟩, ⟨#[108, 52]⟩, ⟨#[108, 53]⟩, ⟨#[108, 54]⟩, ⟨#[108, 55]⟩, ⟨#[108, 56]⟩, ⟨#[108, 57]⟩, ⟨#[108, 49, 48]⟩, ⟨#[108, 49, 49]⟩, ⟨#[108, 49, 50]⟩, ⟨#[108, 49, 51]⟩]) [2, -1] ([(.mk 0 4 ⟨#[]⟩ [] []), (.mk 0 2 ⟨#[]⟩ [] [])])) (Bh ⟨#[97, 100, 100]⟩ [(.mk 0 4 ⟨#[]⟩ [] []), (Bh ⟨#[97, 100, 100]⟩ [(.mk 0 4 ⟨#[]⟩ [] []), (Bh ⟨#[97, 100, 100]⟩ [(Bh ⟨#[110, 101, 103]⟩ [(.mk 0 2 ⟨#[]⟩ [] [])]), (Bh ⟨#[122, 101, 114, 111]⟩ [])])])]) cY ZJ) Ay) trivial (BA Ay Ay (fun _ => BC Ay Ay) trivial (BA Ay Ay (fun _ => A1 Ay) trivial (Da (i := 6) Ay Ay Ay Ay Ay (fun H i hi => A8 (i := i) Fo Ay hi Ay) AA trivial ?_)))
 refine CI Ay Ay Ay Ay (fun _ => A1 Ay) trivial (CI Ay Ay Ay Ay (fun _ => A1 Ay) trivial (CI Ay Ay Ay Ay (fun _ => Bp Ay Ay (Oa (BY.mk ⟨#[90]⟩ ⟨#[97, 100, 100]⟩ ⟨#[122, 101, 114, 111]⟩ ⟨#[110, 101, 103]⟩ ⟨#[111, 110, 101]⟩ ⟨#[108, 101, 113]⟩ [⟨#[108, 48]⟩, ⟨#[108, 49]⟩, ⟨#[108, 50]⟩, ⟨#[108, 51]⟩, ⟨#[108, 52]⟩, ⟨#[108, 53]⟩, ⟨#[108, 54]⟩, ⟨#[108, 55]⟩, ⟨#[108, 56]⟩, ⟨#[108, 57]⟩, ⟨#[108, 49, 48]⟩, ⟨#[108, 49, 49]⟩, ⟨#[108, 49, 50]⟩, ⟨#[108, 49, 51]⟩]) [0] ([(.mk 0 4 ⟨#[]⟩ [] [])]) Av) Ay) trivial (Da (i := 3) Ay Ay Ay Ay Ay (fun H i hi => A8 (i := i) BU Ay hi Am) AA trivial ?_)))
 refine CI Ay Ay Ay Ay (fun _ => Bp Ay Ay (J7 (HS (BY.mk ⟨#[90]⟩ ⟨#[97, 100, 100]⟩ ⟨#[122, 101, 114, 111]⟩ ⟨#[110, 101, 103]⟩ ⟨#[111, 110, 101]⟩ ⟨#[108, 101, 113]⟩ [⟨#[108, 48]⟩, ⟨#[108, 49]⟩, ⟨#[108, 50]⟩, ⟨#[108, 51]⟩, ⟨#[108, 52]⟩, ⟨#[108, 53]⟩, ⟨#[108, 54]⟩, ⟨#[108, 55]⟩, ⟨#[108, 56]⟩, ⟨#[108, 57]⟩, ⟨#[108, 49, 48]⟩, ⟨#[108, 49, 49]⟩, ⟨#[108, 49, 50]⟩, ⟨#[108, 49, 51]⟩]) [0] ([(.mk 0 4 ⟨#[]⟩ [] [])])) (Bh ⟨#[122, 101, 114, 111]⟩ []) cW ZH) Ay) trivial (BA Ay Ay (fun _ => BC Ay Ay) trivial (BA Ay Ay (fun _ => A1 Ay) trivial (Da (i := 0) Ay Ay Ay Ay Ay (fun H i hi => A8 (i := i) BU Ay hi Am) AA trivial (Da (i := 5) Ay Ay Ay Ay Ay (fun H i hi => A8 (i := i) BU Ay hi Am) AA trivial (Da (i := 3) Ay Ay Ay Ay Ay (fun H i hi => A8 (i := i) BU Ay hi Am) AA trivial ?_)))))
 refine CI Ay Ay Ay Ay (fun _ => Bp Ay Ay (Ko (.mk 0 4 ⟨#[]⟩ [] []) (Bh ⟨#[122, 101, 114, 111]⟩ [])) Ay) trivial ?_
 refine CI Ay Ay Ay Ay (fun _ => Bp Ay Ay (J7 (HS (BY.mk ⟨#[90]⟩ ⟨#[97, 100, 100]⟩ ⟨#[122, 101, 114, 111]⟩ ⟨#[110, 101, 103]⟩ ⟨#[111, 110, 101]⟩ ⟨#[108, 101, 113]⟩ [⟨#[108, 48]⟩, ⟨#[108, 49]⟩, ⟨#[108, 50]⟩, ⟨#[108, 51]⟩, ⟨#[108, 52]⟩, ⟨#[108, 53]⟩, ⟨#[108, 54]⟩, ⟨#[108, 55]⟩, ⟨#[108, 56]⟩, ⟨#[108, 57]⟩, ⟨#[108, 49, 48]⟩, ⟨#[108, 49, 49]⟩, ⟨#[108, 49, 50]⟩, ⟨#[108, 49, 51]⟩]) (C6 (BY.mk ⟨#[90]⟩ ⟨#[97, 100, 100]⟩ ⟨#[122, 101, 114, 111]⟩ ⟨#[110, 101, 103]⟩ ⟨#[111, 110, 101]⟩ ⟨#[108, 101, 113]⟩ [⟨#[108, 48]⟩, ⟨#[108, 49]⟩, ⟨#[108, 50]⟩, ⟨#[108, 51]⟩, ⟨#[108, 52]⟩, ⟨#[108, 53]⟩, ⟨#[108, 54]⟩, ⟨#[108, 55]⟩, ⟨#[108, 56]⟩, ⟨#[108, 57]⟩, ⟨#[108, 49, 48]⟩, ⟨#[108, 49, 49]⟩, ⟨#[108, 49, 50]⟩, ⟨#[108, 49, 51]⟩]) (Bh ⟨#[110, 101, 103]⟩ [(Bh ⟨#[110, 101, 103]⟩ [(Bh ⟨#[97, 100, 100]⟩ [(.mk 0 4 ⟨#[]⟩ [] []), (Bh ⟨#[122, 101, 114, 111]⟩ [])])])])).coefs (C6 (BY.mk ⟨#[90]⟩ ⟨#[97, 100, 100]⟩ ⟨#[122, 101, 114, 111]⟩ ⟨#[110, 101, 103]⟩ ⟨#[111, 110, 101]⟩ ⟨#[108, 101, 113]⟩ [⟨#[108, 48]⟩, ⟨#[108, 49]⟩, ⟨#[108, 50]⟩, ⟨#[108, 51]⟩, ⟨#[108, 52]⟩, ⟨#[108, 53]⟩, ⟨#[108, 54]⟩, ⟨#[108, 55]⟩, ⟨#[108, 56]⟩, ⟨#[108, 57]⟩, ⟨#[108, 49, 48]⟩, ⟨#[108, 49, 49]⟩, ⟨#[108, 49, 50]⟩, ⟨#[108, 49, 51]⟩]) (Bh ⟨#[110, 101, 103]⟩ [(Bh ⟨#[110, 101, 103]⟩ [(Bh ⟨#[97, 100, 100]⟩ [(.mk 0 4 ⟨#[]⟩ [] []), (Bh ⟨#[122, 101, 114, 111]⟩ [])])])])).atoms) (Bh ⟨#[97, 100, 100]⟩ [(.mk 0 4 ⟨#[]⟩ [] []), (Bh ⟨#[122, 101, 114, 111]⟩ [])]) dj ZO) Ay) trivial ?_
 refine BA Ay Ay (fun _ => BC Ay Ay) trivial (BA Ay Ay (fun _ => A4 Ay) trivial (CP Ay Ar (BF (⟨Ay, _, _, ⟨_, _, Ay, Ay, Ay⟩, (C2 (is := [7]) Ay), ?_⟩))))
 all_goals exact ⟨rfl, rfl⟩
theorem SH {th : BY} {t : Tm} (h : Gj t) (hs : size t < 1000000) : (Dd th t).1.length < 1000000 ∧ L5 (Dd th t).2.1 ∧ (Dd th t).2.1.length < 1000000 := by
 have k := UD th t
 have g := PL (th := th) h hs
 have h1 := k.len
 have h2 := k.lt
 unfold Dd
 split
 ·exact ⟨by simp, trivial, by simp⟩
 exact ⟨by show (C6 th t).coefs.length < 1000000; omega, g.nds, by show (C6 th t).atoms.length < 1000000; omega⟩
end Go.Proofs.YtapmjpihennhaaaGreatDoor
