/- Part of the proofs: an abstract program logic, plain models and contracts of functions. -/
import Derived.Test.YtapmjpihennhaaaGreatDoorPf
set_option linter.unusedVariables false
set_option linter.unusedSimpArgs false
set_option maxRecDepth 100000
namespace Go.Proofs.YtapmjpihennhaaaGreatDoor
open Go.Abs Go.Eu
theorem Ll : ∀ (p c : Nat) (BG BD BE BF BH BI : ByteArray) (thm : List ByteArray) (a b : GF), Bt Tryz.prog 88 [.ptr p 0, .agg ((CJ a).map .p), .agg ((CJ b).map .p)] [.box p [.p (.str BG), .p (.str BD), .p (.str BE), .p (.str BF), .p (.str BH), .p (.str BI), .p (.lst (List.map Ch thm)), .ptr c 0]] (DC (.agg ((CJ (FH (BJ.mk BG BD BE BF BH BI thm) a b)).map .p)) [.box p [.p (.str BG), .p (.str BD), .p (.str BE), .p (.str BF), .p (.str BH), .p (.str BI), .p (.lst (List.map Ch thm)), .ptr c 0]]) := by
 intro p c BG BD BE BF BH BI thm a b
 refine A8 Tryz.func88 At dZ (n := 88) At At (Ax (Av (BM At At (Bh At) fun b4 => BM At At (Bh At) fun b5 => BM At At (BK Dp At) fun b6 => Az At (Ax (Ax (Av (Au At At (A1 Es At At) (Au At At (A2 (i := 2) Wm At At (K8 _)) ?_))))))))
 refine Az At (A9 At (fun c1 => ?_) (fun c1 => ?_))
 ·(try simp only [sd, se] at c1)
  refine Ax (CQ (fun k => false) D0 (A4 At At (fun _ => Aw At) trivial (A4 At At (fun _ => Aw At) trivial (A4 At At (fun _ => Bd At) trivial (A4 At At (fun _ => A1 Hi At At) trivial (A4 At At (fun _ => A1 DU At At) trivial (BQ (j := 3) At At At (fun H i hi => A2 (i := i) FU At hi At) AA trivial (A4 At At (fun _ => A1 Es At At) trivial (BQ (j := 2) At At At (fun H i hi => B1 (i := i) BO At hi (FE _) (congrArg AV.agg (eq_left _))) AA trivial (A4 At At (fun _ => BU (rows := BR [a.left]) By B7 At At At At (Bz (CC _)) (C1 _)) trivial (A4 At At (fun _ => Bg At At (EL BD [a.left] AN) At) trivial ?_)))))))))))
  refine BQ (j := 1) At At At (fun H i hi => A0 (i := i) Co At hi Aj) AA trivial (CD [3] At At At (.inl ⟨At, At, At⟩) (Lk p c BG BD BE BF BH BI thm (BS BD [a.left]) b) ⟨_, _, At, At, At⟩ (Cp _) (aw (we At) (aw (we At) (aw (we At) (Cv)))) AA trivial (Cr At At (A6 (i := 0) Co At At At Aj Ab (Cb _)) AA trivial (CK At An (BB (⟨At, _, _, ⟨_, _, At, (Bn (i := 0) Co At At Aj), At⟩, (Cj (is := [3]) At), ?_⟩)))))
  rw [FH, if_pos c1]
  all_goals exact ⟨rfl, rfl⟩
 ·(try simp only [sd, se] at c1)
  refine BC (Ax (Av (Au At At (Aw At) (Au At At (Aw At) (Au At At (B6 [3] At (.inl ⟨At, At, At⟩) (Il p c BG BD BE BF BH BI thm) ⟨_, _, At, At, At⟩ Aq At (.inl At)) (Au At At (B6 [3] At (.inl ⟨At, At, At⟩) (SO p c BG BD BE BF BH BI thm (DO (BJ.mk BG BD BE BF BH BI thm))) ⟨_, _, At, At, At⟩ Aq At (.inl At)) (BM At At (BK B7 At) fun b7 => Au At At (A6 (i := 0) BO At At At Ak Ac (CF _)) (Az At (Ax (Av ?_))))))))))
  refine Au At At (Aw At) (Au At At (Bd At) (Au At At (A1 Hi At At) (Au At At (A1 DU At At) (Au At At (A2 (i := 4) FU At At At) (Au At At (DA At At (EL BD [] AN) (aw (we At) (aw (Cq At) (Cv)))) (BM At At (BK B7 At) fun b8 => Au At At (A6 (i := 0) BO At At At Ak Ac (CF _)) (Az At (Ax ?_))))))))
  refine Dm [.val (.ptr p 0), .val (.ptr p 0), .val (.ptr p (0 + 0)), .val (.ptr p (0 + 1)), .val (.p (.str BD)), .val (.ptr b4 (0 + 0)), .val (.agg ((Be a.left).map .p)), .val (.p (.lst (BR [a.left]))), .val (.agg ((Be (BS BD [a.left])).map .p)), .val (.ptr p 0), .val (.ptr p 0), .val (.ptr p (0 + 0)), .val (.ptr p (0 + 1)), .val (.p (.str BD)), .val (.ptr b4 (0 + 5)), .val (.agg ((Be a.right).map .p)), .val (.p (.lst (BR [a.right]))), .val (.agg ((Be (BS BD [a.right])).map .p)), .new [.p (I 0), .p (I 0), .p (.str ⟨#[]⟩), .p (.nils), .p (.nils)], .new [.p (I 0), .p (I 0), .p (.str ⟨#[]⟩), .p (.nils), .p (.nils)]] D0 At An An (BN At (fun Bs => Aw At) (BN At (fun Bs => Bd At) (BN At (fun Bs => A1 Hi At At) (BN At (fun Bs => A1 DU At At) ?_))))
  refine BN At (fun Bs => A2 (i := Bs.length + 5) FU At (Bx At) At) (BN At (fun Bs => A1 Es At At) (BN At (fun Bs => B1 (i := Bs.length + 4) BO At (Bx At) (FE _) (congrArg AV.agg (eq_left _))) (BN At (fun Bs => BU (rows := BR [a.left]) By B7 At At At At (Bz (CC _)) (C1 _)) (BN At (fun Bs => Bg At At (EL BD [a.left] AN) At) (BN At (fun Bs => Aw At) (BN At (fun Bs => Bd At) (BN At (fun Bs => A1 Hi At At) (BN At (fun Bs => A1 DU At At) (BN At (fun Bs => A2 (i := Bs.length + 5) FU At (Bx At) At) (BN At (fun Bs => A1 Es At At) (BN At (fun Bs => B1 (i := Bs.length + 4) BO At (Bx At) (E1 _) (congrArg AV.agg (eq_right _))) ?_)))))))))))
  refine BN At (fun Bs => BU (rows := BR [a.right]) By B7 At At At At (Bz (CC _)) (C1 _)) (BN At (fun Bs => Bg At At (EL BD [a.right] AN) At) (E5 At (fun Bs => BK B7 At) fun b9 => E5 At (fun Bs => BK B7 At) fun b10 => Ed ?_))
  change AL _ _ _ 20 ⟨88, _, [.box b9 [.p (I 0), .p (I 0), .p (.str ⟨#[]⟩), .p (.nils), .p (.nils)], .box b10 [.p (I 0), .p (I 0), .p (.str ⟨#[]⟩), .p (.nils), .p (.nils)], .box b8 ((Be (BS BD [])).map .p), .box b7 ((Be (EJ (BJ.mk BG BD BE BF BH BI thm) (DO (BJ.mk BG BD BE BF BH BI thm)))).map .p), .box b6 [.p (I 0), .p (I 0), .p (.str ⟨#[]⟩), .p (.nils), .p (.nils), .p (I 0), .p (I 0), .p (.str ⟨#[]⟩), .p (.nils), .p (.nils), .p (I 0), .p (I 0), .p (.str ⟨#[]⟩), .p (.nils), .p (.nils), .p (.bool false)], .box b5 ((CJ b).map .p), .box b4 ((CJ a).map .p), .box p [.p (.str BG), .p (.str BD), .p (.str BE), .p (.str BF), .p (.str BH), .p (.str BI), .p (.lst (List.map Ch thm)), .ptr c 0]], []⟩ _
  refine Au At At (A6 (i := 0) BO At At At Ak Ac (CF _)) (Au At At (A6 (i := 1) BO At At At Ak Ac (CF _)) (Az At (Ax ?_)))
  refine Dm [.val (.ptr p 0), .val (.agg ((Be (EJ (BJ.mk BG BD BE BF BH BI thm) (DO (BJ.mk BG BD BE BF BH BI thm)))).map .p)), .val (.agg ((Be (BS BD [])).map .p)), .val (.agg ((Be (BS BD [])).map .p)), .val (.agg ((CJ a).map .p)), .val (.ptr p 0), .val (.ptr p 0), .val (.agg ((Be (EJ (BJ.mk BG BD BE BF BH BI thm) (DO (BJ.mk BG BD BE BF BH BI thm)))).map .p)), .val (.agg ((Be (EJ (BJ.mk BG BD BE BF BH BI thm) (EJ (BJ.mk BG BD BE BF BH BI thm) (DO (BJ.mk BG BD BE BF BH BI thm))))).map .p)), .val (.agg ((Be (BS BD [])).map .p)), .val (.p (.lst (BR ([(BS BD [])])))), .val (.agg ((Be (HO ⟨#[69, 113, 46, 114, 101, 102, 108]⟩ (EJ (BJ.mk BG BD BE BF BH BI thm) (EJ (BJ.mk BG BD BE BF BH BI thm) (DO (BJ.mk BG BD BE BF BH BI thm)))) ([(BS BD [])]))).map .p)), .val (.agg ((Be (GN (BJ.mk BG BD BE BF BH BI thm) (EJ (BJ.mk BG BD BE BF BH BI thm) (DO (BJ.mk BG BD BE BF BH BI thm))) (BS BD []) (BS BD []) a (HO ⟨#[69, 113, 46, 114, 101, 102, 108]⟩ (EJ (BJ.mk BG BD BE BF BH BI thm) (EJ (BJ.mk BG BD BE BF BH BI thm) (DO (BJ.mk BG BD BE BF BH BI thm)))) ([(BS BD [])])))).map .p)), .new [.p (I 0), .p (I 0), .p (.str ⟨#[]⟩), .p (.nils), .p (.nils)]] D0 At An An ?_
  refine BN At (fun Bs => Aw At) (BN At (fun Bs => A0 (i := Bs.length + 3) BO At (Bx At) Ak) (BN At (fun Bs => A0 (i := Bs.length + 2) BO At (Bx At) Ak) (BN At (fun Bs => A0 (i := Bs.length + 2) BO At (Bx At) Ak) (BN At (fun Bs => A0 (i := Bs.length + 6) Co At (Bx At) Aj) (BN At (fun Bs => Aw At) (BN At (fun Bs => Aw At) (BN At (fun Bs => A0 (i := Bs.length + 3) BO At (Bx At) Ak) (BN At (fun Bs => CU [7] At (.inl ⟨At, At, At⟩) (SO p c BG BD BE BF BH BI thm (EJ (BJ.mk BG BD BE BF BH BI thm) (DO (BJ.mk BG BD BE BF BH BI thm)))) ⟨_, _, At, At, At⟩ Aq (aw (we At) (aw (we At) (Cv)))) (BN At (fun Bs => A0 (i := Bs.length + 2) BO At (Bx At) Ak) ?_)))))))))
  refine BN At (fun Bs => BU (rows := BR ([(BS BD [])])) By B7 At At At At (Bz (CC _)) (C1 _)) (BN At (fun Bs => CU [7] At (.inl ⟨At, At, At⟩) (OP p c BG BD BE BF BH BI thm ⟨#[69, 113, 46, 114, 101, 102, 108]⟩ (EJ (BJ.mk BG BD BE BF BH BI thm) (EJ (BJ.mk BG BD BE BF BH BI thm) (DO (BJ.mk BG BD BE BF BH BI thm)))) ([(BS BD [])]) AR) ⟨_, _, At, At, At⟩ Aq (aw (we At) (aw (we At) (aw (we At) (aw (we At) (Cv)))))) ?_)
  refine BN At (fun Bs => CU [7] At (.inl ⟨At, At, At⟩) (Na p c BG BD BE BF BH BI thm (EJ (BJ.mk BG BD BE BF BH BI thm) (DO (BJ.mk BG BD BE BF BH BI thm))) (BS BD []) (BS BD []) a (HO ⟨#[69, 113, 46, 114, 101, 102, 108]⟩ (EJ (BJ.mk BG BD BE BF BH BI thm) (EJ (BJ.mk BG BD BE BF BH BI thm) (DO (BJ.mk BG BD BE BF BH BI thm)))) ([(BS BD [])]))) ⟨_, _, At, At, At⟩ Aq (aw (we At) (aw (we At) (aw (we At) (aw (we At) (aw (we At) (aw (we At) (Cv)))))))) (E5 At (fun Bs => BK B7 At) fun b11 => Ed ?_)
  change AL _ _ _ 14 ⟨88, _, [.box b11 [.p (I 0), .p (I 0), .p (.str ⟨#[]⟩), .p (.nils), .p (.nils)], .box b9 ((Be (BS BD [a.left])).map .p), .box b10 ((Be (BS BD [a.right])).map .p), .box b8 ((Be (BS BD [])).map .p), .box b7 ((Be (EJ (BJ.mk BG BD BE BF BH BI thm) (DO (BJ.mk BG BD BE BF BH BI thm)))).map .p), .box b6 [.p (I 0), .p (I 0), .p (.str ⟨#[]⟩), .p (.nils), .p (.nils), .p (I 0), .p (I 0), .p (.str ⟨#[]⟩), .p (.nils), .p (.nils), .p (I 0), .p (I 0), .p (.str ⟨#[]⟩), .p (.nils), .p (.nils), .p (.bool false)], .box b5 ((CJ b).map .p), .box b4 ((CJ a).map .p), .box p [.p (.str BG), .p (.str BD), .p (.str BE), .p (.str BF), .p (.str BH), .p (.str BI), .p (.lst (List.map Ch thm)), .ptr c 0]], []⟩ _
  refine Au At At (A6 (i := 0) BO At At At Ak Ac (CF _)) (Az At (Ax (CQ (fun k => false) D0 (A4 At At (fun _ => Aw At) trivial (A4 At At (fun _ => A1 Es At At) trivial (BQ (j := 7) At At At (fun H i hi => B1 (i := i) BO At hi (FE _) (congrArg AV.agg (eq_left _))) AA trivial (A4 At At (fun _ => A1 Es At At) trivial (BQ (j := 6) At At At (fun H i hi => B1 (i := i) BO At hi (FE _) (congrArg AV.agg (eq_left _))) AA trivial (CD [8] At At At (.inl ⟨At, At, At⟩) (ES p c BG BD BE BF BH BI thm a.left b.left) ⟨_, _, At, At, At⟩ (Cp _) (aw (we At) (aw (we At) (aw (we At) (Cv)))) AA trivial (A4 At At (fun _ => Aw At) trivial (A4 At At (fun _ => A1 Es At At) trivial ?_)))))))))))
  refine BQ (j := 7) At At At (fun H i hi => B1 (i := i) BO At hi (E1 _) (congrArg AV.agg (eq_right _))) AA trivial (A4 At At (fun _ => A1 Es At At) trivial (BQ (j := 6) At At At (fun H i hi => B1 (i := i) BO At hi (E1 _) (congrArg AV.agg (eq_right _))) AA trivial (CD [8] At At At (.inl ⟨At, At, At⟩) (ES p c BG BD BE BF BH BI thm a.right b.right) ⟨_, _, At, At, At⟩ (Cp _) (aw (we At) (aw (we At) (aw (we At) (Cv)))) AA trivial (A4 At At (fun _ => Aw At) trivial (A4 At At (fun _ => Aw At) trivial (CD [8] At At At (.inl ⟨At, At, At⟩) (Il p c BG BD BE BF BH BI thm) ⟨_, _, At, At, At⟩ (Cp _) (aw (we At) (Cv)) AA trivial (BQ (j := 1) At At At (fun H i hi => A0 (i := i) BO At hi Ak) AA trivial ?_)))))))
  refine BQ (j := 2) At At At (fun H i hi => A0 (i := i) BO At hi Ak) AA trivial (BQ (j := 6) At At At (fun H i hi => A0 (i := i) Co At hi Aj) AA trivial (BQ (j := 0) At At At (fun H i hi => A0 (i := i) BO At hi Ak) AA trivial ?_))
  refine CD [8] At At At (.inl ⟨At, At, At⟩) (Na p c BG BD BE BF BH BI thm (DO (BJ.mk BG BD BE BF BH BI thm)) (BS BD [a.left]) (BS BD [a.right]) b (GN (BJ.mk BG BD BE BF BH BI thm) (EJ (BJ.mk BG BD BE BF BH BI thm) (DO (BJ.mk BG BD BE BF BH BI thm))) (BS BD []) (BS BD []) a (HO ⟨#[69, 113, 46, 114, 101, 102, 108]⟩ (EJ (BJ.mk BG BD BE BF BH BI thm) (EJ (BJ.mk BG BD BE BF BH BI thm) (DO (BJ.mk BG BD BE BF BH BI thm)))) ([(BS BD [])])))) ⟨_, _, At, At, At⟩ (Cp _) (aw (we At) (aw (we At) (aw (we At) (aw (we At) (aw (we At) (aw (we At) (Cv))))))) AA trivial ?_
  refine A4 At At (fun _ => Br Es Dp (cN (l := (CW (BJ.mk BG BD BE BF BH BI thm) a.left b.left)) (r := (CW (BJ.mk BG BD BE BF BH BI thm) a.right b.right)) (q := (GN (BJ.mk BG BD BE BF BH BI thm) (DO (BJ.mk BG BD BE BF BH BI thm)) (BS BD [a.left]) (BS BD [a.right]) b (GN (BJ.mk BG BD BE BF BH BI thm) (EJ (BJ.mk BG BD BE BF BH BI thm) (DO (BJ.mk BG BD BE BF BH BI thm))) (BS BD []) (BS BD []) a (HO ⟨#[69, 113, 46, 114, 101, 102, 108]⟩ (EJ (BJ.mk BG BD BE BF BH BI thm) (EJ (BJ.mk BG BD BE BF BH BI thm) (DO (BJ.mk BG BD BE BF BH BI thm)))) ([(BS BD [])]))))) At At At At At)) trivial (Cr At At (A6 (i := 5) Co At At At Aj Ab (Cb _)) AA trivial (CK At An (BB ?_)))
  refine ⟨At, _, _, ⟨_, _, At, (Bn (i := 5) Co At At Aj), At⟩, (Cj (is := [8]) At), ?_⟩
  rw [FH, if_neg (by rw [c1]; decide)]
  all_goals exact ⟨rfl, rfl⟩
theorem Fz : ∀ (p c : Nat) (BG BD BE BF BH BI : ByteArray) (thm : List ByteArray) (f : GF) (l : List GF), (l.length < 1000) → Bt Tryz.prog 81 [.ptr p 0, .agg ((CJ f).map .p), .p (.lst (List.map CJ l))] [.box p [.p (.str BG), .p (.str BD), .p (.str BE), .p (.str BF), .p (.str BH), .p (.str BI), .p (.lst (List.map Ch thm)), .ptr c 0]] (DC (.agg ((CJ (Cm (BJ.mk BG BD BE BF BH BI thm) f l)).map .p)) [.box p [.p (.str BG), .p (.str BD), .p (.str BE), .p (.str BF), .p (.str BH), .p (.str BI), .p (.lst (List.map Ch thm)), .ptr c 0]]) := by
 intro p c BG BD BE BF BH BI thm f l h1
 refine A8 Tryz.func81 At ec (n := 49) At At (Ax (Av (BM At At (Bh At) fun b4 => BM At At (BK Dp At) fun b6 => Az At (Ax (Av (Au At At (A0 (i := 1) Co At At Aj) (BM At At (BK Dp At) fun b7 => Au At At (A6 (i := 0) Co At At At Aj Ab (Cb _)) (Az At ?_))))))))
 refine Ax (Ax (Av (Au At At (Aw At) (Au At At (Bp JC At (List.length_map _)) (Au At At (Aw At) (Az At (Ba (CM (α := Nat) (fun i => ⟨49, mk [(0, .ptr p 0), (6, .ptr b6 0), (7, .ptr b7 0), (12, .p (.lst (List.map CJ l))), (13, .p (I (l.length : Nat))), (14, .p (I (i : Int)))], [.box b7 ((CJ (Cm (BJ.mk BG BD BE BF BH BI thm) f (l.take i))).map .p), .box b6 [.p (I 0), .p (I 0), .p (.str ⟨#[]⟩), .p (.nils), .p (.nils), .p (I 0), .p (I 0), .p (.str ⟨#[]⟩), .p (.nils), .p (.nils), .p (I 0), .p (I 0), .p (.str ⟨#[]⟩), .p (.nils), .p (.nils), .p (.bool false)], .box p [.p (.str BG), .p (.str BD), .p (.str BE), .p (.str BF), .p (.str BH), .p (.str BI), .p (.lst (List.map Ch thm)), .ptr c 0]], []⟩) (fun i => l.length - i) (fun i => i ≤ l.length) 0 AS ?_ ?_))))))))
 ·exact B8 ⟨we At, we At, we At, we At, we At, we At, trivial⟩ (leH (is := [0, 1, 3]) At (wl (ob (by rw [Rn])) (wl (oe At) (wl (oe At) (D4)))))
 rintro i hC
 try simp only at hC
 have hi := hC
 refine Ax (Av (Au At At (BA At At At) (Az At (Ax (A9 At (fun c1 => ?_) (fun c1 => ?_))))))
 ·(try simp only [sd, se] at c1)
  refine BC (Ax (Ba (Ax (Av ?_))))
  obtain ⟨x, hx⟩ := BP (l := l) (i := i) Ar
  refine Au At At (BL JC At At Ar (P1 hx) (J7 _)) (Au At At (Bi Co At (J7 _)) (BM At At (BK Dp At) fun b9 => Au At At (A6 (i := 0) Co At At At Aj Ab (Cb _)) (Az At (Ba (Ax (Av (Au At At (A1 Es At At) (Au At At (A2 (i := 1) Wm At At (K8 _)) (Au At At (Ay At) (Az At ?_))))))))))
  refine A9 At (fun c2 => ?_) (fun c2 => ?_)
  ·(try simp only [sd, se] at c2)
   refine Av (Au At At (A0 (i := 0) Co At At Aj) (Au At At (A6 (i := 1) Co At At At Aj Ab (Cb _)) (Az At (Av (Au At At (CS At At Ar Ar) (Au At At (Aw At) (Az At ?_)))))))
   refine ⟨(i + 1), AZ, by omega, B8 ⟨we rfl, we rfl, we rfl, we rfl, we rfl, we rfl, trivial⟩ (leH (is := [1, 2, 3]) rfl (wl (ob (by rw [Kk hx]; simp [Kt, *]; try rfl)) (wl (oe rfl) (wl (oe rfl) (D4)))))⟩
  ·(try simp only [sd, se] at c2)
   refine Ax (Av (Au At At (A1 Es At At) (Au At At (A2 (i := 0) Wm At At (K8 _)) (Au At At (Cg At) (Au At At (Ay At) (Az At (A9 At (fun c3 => ?_) (fun c3 => ?_))))))))
   ·(try simp only [sd, se] at c3)
    refine Ax ?_
    refine Dm [.val (.ptr p 0), .val (.ptr p 0), .val (.agg ((Be (DO (BJ.mk BG BD BE BF BH BI thm))).map .p)), .val (.ptr b7 (0 + 0)), .val (.agg ((Be ((Cm (BJ.mk BG BD BE BF BH BI thm) f (l.take i)).left)).map .p)), .val (.ptr b7 (0 + 5)), .val (.agg ((Be ((Cm (BJ.mk BG BD BE BF BH BI thm) f (l.take i)).right)).map .p)), .val (.ptr b9 (0 + 5)), .val (.agg ((Be x.right).map .p)), .val (.ptr b7 (0 + 10)), .val (.agg ((Be ((Cm (BJ.mk BG BD BE BF BH BI thm) f (l.take i)).proof)).map .p)), .val (.ptr b9 (0 + 10)), .val (.agg ((Be x.proof).map .p)), .val (.p (.lst (BR [((Cm (BJ.mk BG BD BE BF BH BI thm) f (l.take i)).left), ((Cm (BJ.mk BG BD BE BF BH BI thm) f (l.take i)).right), x.right, ((Cm (BJ.mk BG BD BE BF BH BI thm) f (l.take i)).proof), x.proof]))), .val (.agg ((Be (HO ⟨#[69, 113, 46, 116, 114, 97, 110, 115]⟩ (DO (BJ.mk BG BD BE BF BH BI thm)) [((Cm (BJ.mk BG BD BE BF BH BI thm) f (l.take i)).left), ((Cm (BJ.mk BG BD BE BF BH BI thm) f (l.take i)).right), x.right, ((Cm (BJ.mk BG BD BE BF BH BI thm) f (l.take i)).proof), x.proof])).map .p)), .new [.p (I 0), .p (I 0), .p (.str ⟨#[]⟩), .p (.nils), .p (.nils)]] D0 At An An ?_
    refine BN At (fun Bs => Aw At) (BN At (fun Bs => Aw At) (BN At (fun Bs => CU [3] At (.inl ⟨At, At, At⟩) (Il p c BG BD BE BF BH BI thm) ⟨_, _, At, At, At⟩ Aq (aw (we At) (Cv))) (BN At (fun Bs => A1 Es At At) (BN At (fun Bs => B1 (i := Bs.length + 1) BO At (Bx At) (FE _) (congrArg AV.agg (eq_left _))) (BN At (fun Bs => A1 Es At At) (BN At (fun Bs => B1 (i := Bs.length + 1) BO At (Bx At) (E1 _) (congrArg AV.agg (eq_right _))) (BN At (fun Bs => A1 Es At At) (BN At (fun Bs => B1 (i := Bs.length + 0) BO At (Bx At) (E1 _) (congrArg AV.agg (eq_right _))) (BN At (fun Bs => A1 Es At At) ?_)))))))))
    refine BN At (fun Bs => B1 (i := Bs.length + 1) BO At (Bx At) (KA _) (congrArg AV.agg (Jk _))) (BN At (fun Bs => A1 Es At At) (BN At (fun Bs => B1 (i := Bs.length + 0) BO At (Bx At) (KA _) (congrArg AV.agg (Jk _))) (BN At (fun Bs => BU (rows := BR [((Cm (BJ.mk BG BD BE BF BH BI thm) f (l.take i)).left), ((Cm (BJ.mk BG BD BE BF BH BI thm) f (l.take i)).right), x.right, ((Cm (BJ.mk BG BD BE BF BH BI thm) f (l.take i)).proof), x.proof]) By B7 At At At At (Bz (CC _)) (C1 _)) ?_)))
    refine BN At (fun Bs => CU [3] At (.inl ⟨At, At, At⟩) (OP p c BG BD BE BF BH BI thm ⟨#[69, 113, 46, 116, 114, 97, 110, 115]⟩ (DO (BJ.mk BG BD BE BF BH BI thm)) [((Cm (BJ.mk BG BD BE BF BH BI thm) f (l.take i)).left), ((Cm (BJ.mk BG BD BE BF BH BI thm) f (l.take i)).right), x.right, ((Cm (BJ.mk BG BD BE BF BH BI thm) f (l.take i)).proof), x.proof] AR) ⟨_, _, At, At, At⟩ Aq (aw (we At) (aw (we At) (aw (we At) (aw (we At) (Cv)))))) (E5 At (fun Bs => BK B7 At) fun b10 => Ed ?_)
    change AL _ _ _ 16 ⟨49, _, [.box b10 [.p (I 0), .p (I 0), .p (.str ⟨#[]⟩), .p (.nils), .p (.nils)], .box b9 ((CJ x).map .p), .box b7 ((CJ (Cm (BJ.mk BG BD BE BF BH BI thm) f (l.take i))).map .p), .box b6 [.p (I 0), .p (I 0), .p (.str ⟨#[]⟩), .p (.nils), .p (.nils), .p (I 0), .p (I 0), .p (.str ⟨#[]⟩), .p (.nils), .p (.nils), .p (I 0), .p (I 0), .p (.str ⟨#[]⟩), .p (.nils), .p (.nils), .p (.bool false)], .box p [.p (.str BG), .p (.str BD), .p (.str BE), .p (.str BF), .p (.str BH), .p (.str BI), .p (.lst (List.map Ch thm)), .ptr c 0]], []⟩ _
    refine Au At At (A6 (i := 0) BO At At At Ak Ac (CF _)) (Az At (Av (Au At At (A1 Es At At) (Au At At (B1 (i := 2) BO At At (FE _) (congrArg AV.agg (eq_left _))) (Au At At (A1 Es At At) (Au At At (B1 (i := 1) BO At At (E1 _) (congrArg AV.agg (eq_right _))) (Au At At (A0 (i := 0) BO At At Ak) ?_)))))))
    refine Au At At (Br Es Dp (cN (l := ((Cm (BJ.mk BG BD BE BF BH BI thm) f (l.take i)).left)) (r := x.right) (q := (HO ⟨#[69, 113, 46, 116, 114, 97, 110, 115]⟩ (DO (BJ.mk BG BD BE BF BH BI thm)) [((Cm (BJ.mk BG BD BE BF BH BI thm) f (l.take i)).left), ((Cm (BJ.mk BG BD BE BF BH BI thm) f (l.take i)).right), x.right, ((Cm (BJ.mk BG BD BE BF BH BI thm) f (l.take i)).proof), x.proof])) At At At At At)) (Au At At (A6 (i := 2) Co At At At Aj Ab (Cb _)) (Az At (Av (Au At At (CS At At Ar Ar) (Au At At (Aw At) (Az At ?_))))))
    refine ⟨(i + 1), AZ, by omega, B8 ⟨we rfl, we rfl, we rfl, we rfl, we rfl, we rfl, trivial⟩ (leH (is := [2, 3, 4]) rfl (wl (ob (by rw [Kk hx]; simp [Kt, *]; try rfl)) (wl (oe rfl) (wl (oe rfl) (D4)))))⟩
   ·(try simp only [sd, se] at c3)
    refine BC (Av (Au At At (CS At At Ar Ar) (Au At At (Aw At) (Az At ?_))))
    refine ⟨(i + 1), AZ, by omega, B8 ⟨we rfl, we rfl, we rfl, we rfl, we rfl, we rfl, trivial⟩ (leH (is := [1, 2, 3]) rfl (wl (ob (by rw [Kk hx]; simp [Kt, *]; try rfl)) (wl (oe rfl) (wl (oe rfl) (D4)))))⟩
 ·(try simp only [sd, se] at c1)
  refine CL (Ax (Av (Au At At (A0 (i := 0) Co At At Aj) (Au At At (A6 (i := 1) Co At At At Aj Ab (Cb _)) (Az At (BB (⟨At, _, _, ⟨_, _, At, (Bn (i := 1) Co At At Aj), At⟩, (Cj (is := [2]) At), ?_⟩)))))))
  all_goals exact ⟨by show (.agg ((CJ (Cm (BJ.mk BG BD BE BF BH BI thm) f (l.take i))).map .p) : AV) = _; rw [show i = l.length by omega, List.take_length], rfl⟩
theorem dG : Kz Tryz.prog 145 = true := by kernel_rfl
theorem Yd : ∀ {σ : Type} (st : σ → Int → CY → σ) (HP : σ → List BT → Prop) (l b1 : Nat) (xs : List CY) (hy : ∀ s d n T, 0 ≤ d → xs[d.toNat]? = some n → HP s T → HB Tryz.prog l [.p (I d), .agg ((Ca n).map .p)] T (Gm (.p (.bool true)) (HP (st s d n)))) (s : σ) (T0 : List BT), xs.length < EC → HP s T0 → Bt Tryz.prog 156 [.fn (.yield l) [] [], .ptr b1 0] (.box b1 [.p (.lst (List.map Ca xs))] :: T0) (Gm (.tup []) (fun H => ∃ T, HP (UM st xs xs.length s) T ∧ H = .box b1 [.p (.lst (List.map Ca xs))] :: T)) := by
 intro σ st HP l b1 xs hy s T0 h1 h2
 simp only [EC] at h1
 refine A8 Tryz.func156 At bP (n := 19) At At (Ax (Av (Au At At (A2 (i := 0) bq At At At) (Au At At (Bp Em At (List.length_map _)) (Au At At (FA At At Ar Ar) (Au At At (Ay At) (Az At (Ba (CM (α := Nat × σ × List BT) (fun (m, q, U) => ⟨19, mk [(0, .fn (.yield l) [] []), (1, .ptr b1 0), (3, .p (I ((m : Int) - 1)))], (.box b1 [.p (.lst (List.map Ca xs))] :: U), []⟩) (fun (m, q, U) => m) (fun (m, q, U) => m ≤ xs.length ∧ UM st xs m q = UM st xs xs.length s ∧ HP q U) ⟨xs.length, s, T0⟩ (⟨by omega, rfl, h2⟩) ?_ ?_)))))))))
 ·exact B8 ⟨we At, we At, we At, trivial⟩ (QW [0] [_] (l' := [_]) At (wl (oe At) (D4)))
 rintro ⟨m, q, U⟩ hC
 try simp only at hC
 obtain ⟨hm, hB, hK⟩ := hC
 refine Ax (Ax (Av (Au At At (Aw At) (Au At At (BA At At At) (Az At (A9 At (fun c => ?_) (fun c => ?_)))))))
 ·(try simp only [sd, se] at c)
  refine BC (Ax (Ba (Ax (Av (Au At At (Aw At) (Au At At (Aw At) (Au At At (A2 (i := 0) bq At At At) (Au At At (Aw At) ?_))))))))
  obtain ⟨x, hx⟩ := BP (l := xs) (i := ((m : Int) - 1 : Int).toNat) Ar
  refine Au At At (BL Em At At Ar (D1 hx) (At)) (Au At At (Bi G2 At (At)) (J9 [_] At At At At (hy q _ _ _ Ar hx hK) At ?_ (fun _ _ h => h.elim)))
  rintro _ T ⟨rfl, hT⟩
  refine Au At At (Cg At) (Az At ?_)
  refine A9 At (fun c1 => by cases c1) (fun c1 => ?_)
  refine BC (Av (Au At At (Aw At) (Au At At (FA At At Ar Ar) (Au At At (Ay At) (Az At ?_)))))
  refine ⟨⟨m - 1, st q ((m : Int) - 1) x, T⟩, AZ, ⟨by omega, by rw [← hB]; exact Up hx Ar, by assumption⟩, B8 ⟨we rfl, we rfl, we (pI Ar), trivial⟩ (QW [0] [_] (l' := [_]) rfl (wl (oe rfl) (D4)))⟩
 ·(try simp only [sd, se] at c)
  refine CL ⟨At, _, _, At, (Gj [0] [_] At), ?_⟩
  rw [← hB, show m = 0 by omega]
  exact ⟨At, _, hK, At⟩
theorem bt : ∀ (xs : List CY), Bt Tryz.prog 145 [.p (.lst (List.map Ca xs))] [] (fun r H' => ∃ b, r = .val (.fn (.func 156) [] [.ptr b 0]) ∧ H' = [.box b [.p (.lst (List.map Ca xs))]]) := by
 intro xs
 refine A8 Tryz.func145 At aG (n := 4) At At (Ax (Av (BM At At (Bh At) fun b1 => Au At At (Ay At) (Az At (Ax (Av (Au At At (Cw At At) (Au At At (Ay At) (Az At (BB ?_))))))))))
 refine ⟨At, _, _, ⟨_, _, At, At, At⟩, (Cj (is := [0]) At), ?_⟩
 exact ⟨_, At, At⟩
theorem K6 : ∀ (p c : Nat) (BG BD BE BF BH BI : ByteArray) (thm : List ByteArray) (m : Nat) (cs : List Int) (A : List Tm) (al : Int) (x : CY), (GX A x) → Bt Tryz.prog 125 [.ptr p 0, .agg ((Ca x).map .p)] [.box p [.p (.str BG), .p (.str BD), .p (.str BE), .p (.str BF), .p (.str BH), .p (.str BI), .p (.lst (List.map Ch thm)), .ptr c 0], .box c [.p (.lst (List.map Cf cs)), .p (.lst (BR A)), .map m, .p (I al)]] (DC (.agg ((Be (Ce (BJ.mk BG BD BE BF BH BI thm) A x)).map .p)) [.box p [.p (.str BG), .p (.str BD), .p (.str BE), .p (.str BF), .p (.str BH), .p (.str BI), .p (.lst (List.map Ch thm)), .ptr c 0], .box c [.p (.lst (List.map Cf cs)), .p (.lst (BR A)), .map m, .p (I al)]]) := by
 intro p c BG BD BE BF BH BI thm m cs A al x h1
 obtain ⟨xp, xm⟩ := x
 simp only [GX] at h1
 refine A8 Tryz.func125 At bz (n := 23) At At (Ax (Av (BM At At (Bh At) fun b3 => BM At At (BK B7 At) fun b4 => Az At (Ax ?_))))
 obtain ⟨x1, hx1⟩ := BP (l := A) (i := (xp : Int).toNat) Ar
 refine Dm [.val (.ptr p 0), .val (.ptr p 0), .val (.ptr p (0 + 7)), .val (.ptr c 0), .val (.ptr c 0), .val (.ptr c (0 + 1)), .val (.p (.lst (BR A))), .val (.ptr b3 (0 + 0)), .val (.p (I xp)), .val (.ref (Be x1)), .val (.agg ((Be x1).map .p)), .new [.p (I 0), .p (I 0), .p (.str ⟨#[]⟩), .p (.nils), .p (.nils)]] D0 At An An (BN At (fun Bs => Aw At) (BN At (fun Bs => Bd At) (BN At (fun Bs => A1 Hi At At) (BN At (fun Bs => A2 (i := Bs.length + 2) Xf At (Bx At) At) (BN At (fun Bs => Bd At) (BN At (fun Bs => A1 HL At At) (BN At (fun Bs => A2 (i := Bs.length + 3) DQ At (Bx At) At) (BN At (fun Bs => A1 H4 At At) (BN At (fun Bs => A2 (i := Bs.length + 1) De At (Bx At) At) ?_)))))))))
 refine BN At (fun Bs => BL By At At Ar (CH hx1) (Bj _)) (BN At (fun Bs => Bi BO At (Bj _)) (E5 At (fun Bs => BK B7 At) fun b5 => Ed ?_))
 change AL _ _ _ 12 ⟨23, _, [.box b5 [.p (I 0), .p (I 0), .p (.str ⟨#[]⟩), .p (.nils), .p (.nils)], .box b4 [.p (I 0), .p (I 0), .p (.str ⟨#[]⟩), .p (.nils), .p (.nils)], .box b3 [.p (I xp), .p (.bool xm)], .box p [.p (.str BG), .p (.str BD), .p (.str BE), .p (.str BF), .p (.str BH), .p (.str BI), .p (.lst (List.map Ch thm)), .ptr c 0], .box c [.p (.lst (List.map Cf cs)), .p (.lst (BR A)), .map m, .p (I al)]], []⟩ _
 refine Au At At (A6 (i := 0) BO At At At Ak Ac (CF _)) (Az At (Ax (Ax (Av (Au At At (A1 H4 At At) (Au At At (A2 (i := 2) Wm At At At) (Az At (A9 At (fun c1 => ?_) (fun c1 => ?_)))))))))
 ·(try simp only [sd, se] at c1)
  refine Ax (Av (Au At At (Aw At) (Au At At (A0 (i := 0) BO At At Ak) (Au At At (B6 [3] At (.inl ⟨At, At, At⟩) (HA p c BG BD BE BF BH BI thm x1) ⟨_, _, At, At, At⟩ Aq At (.inl At)) (Au At At (A6 (i := 1) BO At At At Ak Ac (CF _)) (Az At (BB (⟨At, _, _, ⟨_, _, At, (Bn (i := 1) BO At At Ak), At⟩, (Cj (is := [3, 4]) At), ?_⟩))))))))
  simp only [Ce]; rw [if_pos c1, Cs hx1]
  all_goals exact ⟨rfl, rfl⟩
 ·(try simp only [sd, se] at c1)
  refine BC (Ax (Av (Au At At (A0 (i := 0) BO At At Ak) (Au At At (A6 (i := 1) BO At At At Ak Ac (CF _)) (Az At (BB (⟨At, _, _, ⟨_, _, At, (Bn (i := 1) BO At At Ak), At⟩, (Cj (is := [3, 4]) At), ?_⟩)))))))
  simp only [Ce]; rw [if_neg (by rw [c1]; decide), Cs hx1]
  all_goals exact ⟨rfl, rfl⟩
theorem T7 : ∀ (p c : Nat) (BG BD BE BF BH BI : ByteArray) (thm : List ByteArray) (m : Nat) (cs : List Int) (A : List Tm) (al : Int) (x : CY), (GX A x) → (thm.length = 14) → Bt Tryz.prog 146 [.ptr p 0, .agg ((Ca x).map .p)] [.box p [.p (.str BG), .p (.str BD), .p (.str BE), .p (.str BF), .p (.str BH), .p (.str BI), .p (.lst (List.map Ch thm)), .ptr c 0], .box c [.p (.lst (List.map Cf cs)), .p (.lst (BR A)), .map m, .p (I al)]] (DC (.agg ((CJ (HD (BJ.mk BG BD BE BF BH BI thm) A x)).map .p)) [.box p [.p (.str BG), .p (.str BD), .p (.str BE), .p (.str BF), .p (.str BH), .p (.str BI), .p (.lst (List.map Ch thm)), .ptr c 0], .box c [.p (.lst (List.map Cf cs)), .p (.lst (BR A)), .map m, .p (I al)]]) := by
 intro p c BG BD BE BF BH BI thm m cs A al x h1 h2
 obtain ⟨xp, xm⟩ := x
 simp only [GX] at h1
 refine A8 Tryz.func146 At ca (n := 47) At At (Ax (Av (BM At At (Bh At) fun b3 => BM At At (BK Dp At) fun b4 => Az At (Ax ?_))))
 obtain ⟨x1, hx1⟩ := BP (l := A) (i := (xp : Int).toNat) Ar
 refine Dm [.val (.ptr p 0), .val (.ptr p 0), .val (.ptr p (0 + 7)), .val (.ptr c 0), .val (.ptr c 0), .val (.ptr c (0 + 1)), .val (.p (.lst (BR A))), .val (.ptr b3 (0 + 0)), .val (.p (I xp)), .val (.ref (Be x1)), .val (.agg ((Be x1).map .p)), .new [.p (I 0), .p (I 0), .p (.str ⟨#[]⟩), .p (.nils), .p (.nils)]] D0 At An An (BN At (fun Bs => Aw At) (BN At (fun Bs => Bd At) (BN At (fun Bs => A1 Hi At At) (BN At (fun Bs => A2 (i := Bs.length + 2) Xf At (Bx At) At) (BN At (fun Bs => Bd At) (BN At (fun Bs => A1 HL At At) (BN At (fun Bs => A2 (i := Bs.length + 3) DQ At (Bx At) At) (BN At (fun Bs => A1 H4 At At) (BN At (fun Bs => A2 (i := Bs.length + 1) De At (Bx At) At) ?_)))))))))
 refine BN At (fun Bs => BL By At At Ar (CH hx1) (Bj _)) (BN At (fun Bs => Bi BO At (Bj _)) (E5 At (fun Bs => BK B7 At) fun b5 => Ed ?_))
 change AL _ _ _ 12 ⟨47, _, [.box b5 [.p (I 0), .p (I 0), .p (.str ⟨#[]⟩), .p (.nils), .p (.nils)], .box b4 [.p (I 0), .p (I 0), .p (.str ⟨#[]⟩), .p (.nils), .p (.nils), .p (I 0), .p (I 0), .p (.str ⟨#[]⟩), .p (.nils), .p (.nils), .p (I 0), .p (I 0), .p (.str ⟨#[]⟩), .p (.nils), .p (.nils), .p (.bool false)], .box b3 [.p (I xp), .p (.bool xm)], .box p [.p (.str BG), .p (.str BD), .p (.str BE), .p (.str BF), .p (.str BH), .p (.str BI), .p (.lst (List.map Ch thm)), .ptr c 0], .box c [.p (.lst (List.map Cf cs)), .p (.lst (BR A)), .map m, .p (I al)]], []⟩ _
 refine Au At At (A6 (i := 0) BO At At At Ak Ac (CF _)) (Az At (Ax ?_))
 refine Dm [.val (.ptr p 0), .val (.ptr p 0), .val (.ptr p 0), .val (.agg ((Be x1).map .p)), .val (.agg ((Be (Ck (BJ.mk BG BD BE BF BH BI thm) x1)).map .p)), .val (.agg ((Be x1).map .p)), .val (.agg ((Be (CW (BJ.mk BG BD BE BF BH BI thm) (Ck (BJ.mk BG BD BE BF BH BI thm) x1) x1)).map .p)), .val (.ptr p 0), .val (.ptr p 0), .val (.ptr p (0 + 0)), .val (.ptr p (0 + 2)), .val (.p (.str BE)), .val (.agg ((Be (BS BE [])).map .p)), .val (.agg ((Be x1).map .p)), .val (.p (.lst (BR [x1]))), .val (.agg ((CJ (Eh (BJ.mk BG BD BE BF BH BI thm) 3 (CW (BJ.mk BG BD BE BF BH BI thm) (Ck (BJ.mk BG BD BE BF BH BI thm) x1) x1) (BS BE []) [x1])).map .p)), .new [.p (I 0), .p (I 0), .p (.str ⟨#[]⟩), .p (.nils), .p (.nils), .p (I 0), .p (I 0), .p (.str ⟨#[]⟩), .p (.nils), .p (.nils), .p (I 0), .p (I 0), .p (.str ⟨#[]⟩), .p (.nils), .p (.nils), .p (.bool false)]] D0 At An An ?_
 refine BN At (fun Bs => Aw At) (BN At (fun Bs => Aw At) (BN At (fun Bs => Aw At) (BN At (fun Bs => A0 (i := Bs.length + 0) BO At (Bx At) Ak) (BN At (fun Bs => CU [3] At (.inl ⟨At, At, At⟩) (HA p c BG BD BE BF BH BI thm x1) ⟨_, _, At, At, At⟩ Aq (aw (we At) (aw (we At) (Cv)))) (BN At (fun Bs => A0 (i := Bs.length + 0) BO At (Bx At) Ak) (BN At (fun Bs => CU [3] At (.inl ⟨At, At, At⟩) (ES p c BG BD BE BF BH BI thm (Ck (BJ.mk BG BD BE BF BH BI thm) x1) x1) ⟨_, _, At, At, At⟩ Aq (aw (we At) (aw (we At) (aw (we At) (Cv))))) (BN At (fun Bs => Aw At) (BN At (fun Bs => Bd At) (BN At (fun Bs => A1 Hi At At) (BN At (fun Bs => A1 DU At At) ?_))))))))))
 refine BN At (fun Bs => A2 (i := Bs.length + 3) FU At (Bx At) At) (BN At (fun Bs => DA At At (EL BE [] AN) (aw (we At) (aw (Cq At) (Cv)))) (BN At (fun Bs => A0 (i := Bs.length + 0) BO At (Bx At) Ak) (BN At (fun Bs => BU (rows := BR [x1]) By B7 At At At At (Bz (CC _)) (C1 _)) ?_)))
 refine BN At (fun Bs => CU [3] At (.inl ⟨At, At, At⟩) (Jj p c BG BD BE BF BH BI thm 3 (CW (BJ.mk BG BD BE BF BH BI thm) (Ck (BJ.mk BG BD BE BF BH BI thm) x1) x1) (BS BE []) [x1] ⟨by decide, by rw [h2]; decide⟩ AR) ⟨_, _, rfl, rfl, rfl⟩ Aq (aw (we rfl) (aw (we rfl) (aw (we rfl) (aw (we rfl) (aw (we rfl) (Cv))))))) ?_
 refine E5 At (fun Bs => BK Dp At) fun b6 => Ed ?_
 change AL _ _ _ 17 ⟨47, _, [.box b6 [.p (I 0), .p (I 0), .p (.str ⟨#[]⟩), .p (.nils), .p (.nils), .p (I 0), .p (I 0), .p (.str ⟨#[]⟩), .p (.nils), .p (.nils), .p (I 0), .p (I 0), .p (.str ⟨#[]⟩), .p (.nils), .p (.nils), .p (.bool false)], .box b5 ((Be x1).map .p), .box b4 [.p (I 0), .p (I 0), .p (.str ⟨#[]⟩), .p (.nils), .p (.nils), .p (I 0), .p (I 0), .p (.str ⟨#[]⟩), .p (.nils), .p (.nils), .p (I 0), .p (I 0), .p (.str ⟨#[]⟩), .p (.nils), .p (.nils), .p (.bool false)], .box b3 [.p (I xp), .p (.bool xm)], .box p [.p (.str BG), .p (.str BD), .p (.str BE), .p (.str BF), .p (.str BH), .p (.str BI), .p (.lst (List.map Ch thm)), .ptr c 0], .box c [.p (.lst (List.map Cf cs)), .p (.lst (BR A)), .map m, .p (I al)]], []⟩ _
 refine Au At At (A6 (i := 0) Co At At At Aj Ab (Cb _)) (Az At (Ax (Ax (Av (Au At At (A1 H4 At At) (Au At At (A2 (i := 3) Wm At At At) (Az At (A9 At (fun c1 => ?_) (fun c1 => ?_)))))))))
 ·(try simp only [sd, se] at c1)
  refine Ax (Av (Au At At (A0 (i := 0) Co At At Aj) (Au At At (A6 (i := 2) Co At At At Aj Ab (Cb _)) (Az At (BB (⟨At, _, _, ⟨_, _, At, (Bn (i := 2) Co At At Aj), At⟩, (Cj (is := [4, 5]) At), ?_⟩))))))
  simp only [HD]; rw [if_pos c1, Cs hx1]
  all_goals exact ⟨rfl, rfl⟩
 ·(try simp only [sd, se] at c1)
  refine BC (Ax (CQ (fun k => false) D0 (A4 At At (fun _ => Aw At) trivial (A4 At At (fun _ => Aw At) trivial (BQ (j := 1) At At At (fun H i hi => A0 (i := i) BO At hi Ak) AA trivial (A4 At At (fun _ => Aw At) trivial (BQ (j := 1) At At At (fun H i hi => A0 (i := i) BO At hi Ak) AA trivial (CD [4] At At At (.inl ⟨At, At, At⟩) (HA p c BG BD BE BF BH BI thm x1) ⟨_, _, At, At, At⟩ (Cp _) (aw (we At) (aw (we At) (Cv))) AA trivial (CD [4] At At At (.inl ⟨At, At, At⟩) (QO p c BG BD BE BF BH BI thm x1 (Ck (BJ.mk BG BD BE BF BH BI thm) x1) h2) ⟨_, _, At, At, At⟩ (Cp _) (aw (we At) (aw (we At) (aw (we At) (Cv)))) AA trivial (BQ (j := 0) At At At (fun H i hi => A0 (i := i) Co At hi Aj) AA trivial ?_))))))))))
  refine A4 At At (fun _ => BU (rows := List.map CJ ([(Eh (BJ.mk BG BD BE BF BH BI thm) 3 (CW (BJ.mk BG BD BE BF BH BI thm) (Ck (BJ.mk BG BD BE BF BH BI thm) x1) x1) (BS BE []) [x1])])) JC Dp At At At At (Bz (FP _)) (Iz _)) trivial (CD [4] At At At (.inl ⟨At, At, At⟩) (Fz p c BG BD BE BF BH BI thm (Gn (BJ.mk BG BD BE BF BH BI thm) x1 (Ck (BJ.mk BG BD BE BF BH BI thm) x1)) ([(Eh (BJ.mk BG BD BE BF BH BI thm) 3 (CW (BJ.mk BG BD BE BF BH BI thm) (Ck (BJ.mk BG BD BE BF BH BI thm) x1) x1) (BS BE []) [x1])]) AR) ⟨_, _, At, At, At⟩ (Cp _) (aw (we At) (aw (we At) (aw (we At) (Cv)))) AA trivial (Cr At At (A6 (i := 2) Co At At At Aj Ab (Cb _)) AA trivial (CK At An (BB ?_))))
  refine ⟨At, _, _, ⟨_, _, At, (Bn (i := 2) Co At At Aj), At⟩, (Cj (is := [4, 5]) At), ?_⟩
  simp only [HD]; rw [if_neg (by rw [c1]; decide), Cs hx1]
  all_goals exact ⟨rfl, rfl⟩
theorem Ja : ∀ (p c : Nat) (BG BD BE BF BH BI : ByteArray) (thm : List ByteArray) (m : Nat) (cs : List Int) (A : List Tm) (al : Int) (us : List CY), (us.length < EC) → (∀ y ∈ us, GX A y) → Bt Tryz.prog 124 [.ptr p 0, .p (.lst (List.map Ca us))] [.box p [.p (.str BG), .p (.str BD), .p (.str BE), .p (.str BF), .p (.str BH), .p (.str BI), .p (.lst (List.map Ch thm)), .ptr c 0], .box c [.p (.lst (List.map Cf cs)), .p (.lst (BR A)), .map m, .p (I al)]] (DC (.agg ((Be (Bc (BJ.mk BG BD BE BF BH BI thm) A us)).map .p)) [.box p [.p (.str BG), .p (.str BD), .p (.str BE), .p (.str BF), .p (.str BH), .p (.str BI), .p (.lst (List.map Ch thm)), .ptr c 0], .box c [.p (.lst (List.map Cf cs)), .p (.lst (BR A)), .map m, .p (I al)]]) := by
 intro p c BG BD BE BF BH BI thm m cs A al us h1 h2
 refine Fu Tryz.func124 At Zx (n := 25) At At (Ax (Av (BM At At (Bh At) fun b2 => BM At At (BK B7 At) fun b4 => Az At (Ax (Av (Au At At (A2 (i := 1) IC At At At) (Au At At (Bd At) (Au At At (A1 Hi At At) (Au At At (A1 DU At At) ?_)))))))))
 refine Au At At (A2 (i := 2) FU At At At) (Au At At (DA At At (EL BE [] AN) (aw (we At) (aw (Cq At) (Cv)))) (BM At At (BK B7 At) fun b5 => Au At At (A6 (i := 0) BO At At At Ak Ac (CF _)) (Az At (Ax (Ax (Av (Au At At (Aw At) ?_)))))))
 refine M7 [] At At At (.inl ⟨At, At, At⟩) (bt us) At As (aw (we At) Cv) ?_ (fun _ _ ⟨_, h, _⟩ => by cases h)
 rintro _ _ ⟨bn, h, rfl⟩
 cases h
 refine Az At (Ba (Iy (.inr At) fun dd l L hL => ⟨_, _, Cx (is := [2, 0, 5, 6, 7, 3]) Aq ⟨_, _, At, At, ⟨_, _, At, At, ⟨_, _, At, At, ⟨_, _, At, At, ⟨_, _, At, At, ⟨_, _, At, At, At⟩⟩⟩⟩⟩⟩, ?_⟩))
 have hy : ∀ (s : Tm) (d : Int) (t : CY) (T : List BT), 0 ≤ d → us[d.toNat]? = some t → (fun (s : Tm) (T : List BT) => T = [.loop l L, .box b2 [.ptr p 0], .box p [.p (.str BG), .p (.str BD), .p (.str BE), .p (.str BF), .p (.str BH), .p (.str BI), .p (.lst (List.map Ch thm)), .ptr c 0], .box c [.p (.lst (List.map Cf cs)), .p (.lst (BR A)), .map m, .p (I al)], .box b5 ((Be s).map .p)]) s T → HB Tryz.prog l [.p (I d), .agg ((Ca t).map .p)] T (Gm (.p (.bool true)) ((fun (s : Tm) (T : List BT) => T = [.loop l L, .box b2 [.ptr p 0], .box p [.p (.str BG), .p (.str BD), .p (.str BE), .p (.str BF), .p (.str BH), .p (.str BI), .p (.lst (List.map Ch thm)), .ptr c 0], .box c [.p (.lst (List.map Cf cs)), .p (.lst (BR A)), .map m, .p (I al)], .box b5 ((Be s).map .p)]) ((Rb (BJ.mk BG BD BE BF BH BI thm) A) s d t))) := by
  rintro s d tt T hd hxt rfl
  obtain ⟨LB, hLB⟩ : ∃ x, x = BT.loop l { L with state := .busy } := ⟨_, rfl⟩
  subst hL
  refine Ju (i := 0) At At At At (Av (BM At At (BK IL At) fun b7 => Au At At (A6 (i := 0) G2 At At At At At (XU _)) (Az At ⟨At, 1, At, ?_⟩)))
  rw [← hLB]
  refine Ba (CQ (fun k => false) D0 (BQ (j := 2) At At At (fun H i hi => A2 (i := i) IC At hi At) AA trivial (BQ (j := 2) At At At (fun H i hi => A2 (i := i) IC At hi At) AA trivial (BQ (j := 0) At At At (fun H i hi => A0 (i := i) G2 At hi At) AA trivial ?_))))
  refine CD [3, 4] At At At (.inl ⟨At, At, At⟩) (K6 p c BG BD BE BF BH BI thm m cs A al tt (h2 _ (List.mem_of_getElem? hxt))) ⟨_, _, At, At, ⟨_, _, At, At, At⟩⟩ (QV (fun h => by injection h with h1 h2; exact absurd (congrArg List.length h2) As)) (aw (we rfl) (aw (we rfl) (Cv))) AA trivial ?_
  refine BQ (j := 5) At At At (fun H i hi => A0 (i := i) BO At hi Ak) AA trivial (CD [3] At At At (.inl ⟨At, At, At⟩) (ES p c BG BD BE BF BH BI thm (Ce (BJ.mk BG BD BE BF BH BI thm) A tt) s) ⟨_, _, At, At, At⟩ (Cp _) (aw (we At) (aw (we At) (aw (we At) (Cv)))) AA trivial (Cr At At (A6 (i := 5) BO At At At Ak Ac (CF _)) AA trivial (CK At An ?_)))
  subst hLB
  refine ⟨1, _, At, Cj (is := [1, 2, 3, 4, 5]) At, ?_⟩
  exact ⟨At, At⟩
 refine (Yd (Rb (BJ.mk BG BD BE BF BH BI thm) A) (fun (s : Tm) (T : List BT) => T = [.loop l L, .box b2 [.ptr p 0], .box p [.p (.str BG), .p (.str BD), .p (.str BE), .p (.str BF), .p (.str BH), .p (.str BI), .p (.lst (List.map Ch thm)), .ptr c 0], .box c [.p (.lst (List.map Cf cs)), .p (.lst (BR A)), .map m, .p (I al)], .box b5 ((Be s).map .p)]) l bn us hy (BS BE []) _ (h1) At).mono ?_
 rintro (v | v) H' hR
 rotate_left
 ·exact hR.elim
 obtain ⟨rfl, _, rfl, rfl⟩ := hR
 subst hL
 refine ⟨1, _, At, As, ?_⟩
 refine Ax (Av (Au At At (A0 (i := 4) BO At At Ak) (Au At At (A6 (i := 6) BO At At At Ak Ac (CF _)) (Az At (BB (⟨5, At, _, _, ⟨_, _, At, (Bn (i := 5) BO At At Ak), At⟩, (Cj (is := [2, 3]) At), ?_⟩))))))
 all_goals exact ⟨by show (.agg ((Be (UM (Rb (BJ.mk BG BD BE BF BH BI thm) A) us us.length (BS BE []))).map .p) : AV) = _; rw [Tw], rfl⟩
theorem _root_.Go.AY {α : Prop} (h : α := by simp only [List.length_drop]; omega) : α := h
theorem _root_.Go.AW {α : Prop} (h : α := by simp only [List.length_drop, EC]; omega) : α := h
theorem _root_.Go.AU {α : Prop} (h : α := by simp only [Bo, List.length_map]; omega) : α := h
theorem UH : ∀ (p c : Nat) (BG BD BE BF BH BI : ByteArray) (thm : List ByteArray) (m : Nat) (cs : List Int) (A : List Tm) (al : Int) (x : CY) (n : Nat) (l : List CY), (l.length ≤ n) → (l.length < 1000000) → (GX A x) → (∀ y ∈ l, GX A y) → (thm.length = 14) → Bt Tryz.prog 126 [.ptr p 0, .agg ((Ca x).map .p), .p (.lst (List.map Ca l))] [.box p [.p (.str BG), .p (.str BD), .p (.str BE), .p (.str BF), .p (.str BH), .p (.str BI), .p (.lst (List.map Ch thm)), .ptr c 0], .box c [.p (.lst (List.map Cf cs)), .p (.lst (BR A)), .map m, .p (I al)]] (DC (.tup [.agg ((CJ ((Ci (BJ.mk BG BD BE BF BH BI thm) A x l).1)).map .p), .p (.lst (List.map Ca ((Ci (BJ.mk BG BD BE BF BH BI thm) A x l).2)))]) [.box p [.p (.str BG), .p (.str BD), .p (.str BE), .p (.str BF), .p (.str BH), .p (.str BI), .p (.lst (List.map Ch thm)), .ptr c 0], .box c [.p (.lst (List.map Cf cs)), .p (.lst (BR A)), .map m, .p (I al)]]) := by
 intro p c BG BD BE BF BH BI thm m cs A al x n
 induction n using Nat.strongRecOn with
 | ind n ih =>
  intro l h1 h2 h3 h4 h5
  obtain ⟨xp, xm⟩ := x
  refine A8 Tryz.func126 At bx (n := 133) At At (Ax (Av (BM At At (Bh At) fun b4 => BM At At (BK Dp At) fun b6 => Au At At (Ay At) (Az At (Ax (Av (Au At At (Aw At) (Au At At (A0 (i := 1) G2 At At At) (Au At At (B6 [2, 3] At (.inl ⟨At, At, At⟩) (K6 p c BG BD BE BF BH BI thm m cs A al (CY.mk xp xm) h3) ⟨_, _, At, At, ⟨_, _, At, At, At⟩⟩ Aq At (.inl At)) ?_)))))))))
  refine BM At At (BK B7 At) fun b8 => Au At At (A6 (i := 0) BO At At At Ak Ac (CF _)) (Az At (Ax (Dm [.val (.ptr p 0), .val (.agg ((Be (Ce (BJ.mk BG BD BE BF BH BI thm) A (CY.mk xp xm))).map .p)), .val (.ptr p 0), .val (.p (.lst (List.map Ca l))), .val (.agg ((Be (Bc (BJ.mk BG BD BE BF BH BI thm) A l)).map .p)), .val (.agg ((Be (CW (BJ.mk BG BD BE BF BH BI thm) (Ce (BJ.mk BG BD BE BF BH BI thm) A (CY.mk xp xm)) (Bc (BJ.mk BG BD BE BF BH BI thm) A l))).map .p)), .new [.p (I 0), .p (I 0), .p (.str ⟨#[]⟩), .p (.nils), .p (.nils)]] D0 At An An (BN At (fun Bs => Aw At) (BN At (fun Bs => A0 (i := Bs.length + 0) BO At (Bx At) Ak) (BN At (fun Bs => Aw At) (BN At (fun Bs => Aw At) ?_)))))))
  refine BN At (fun Bs => CU [3, 4] At (.inl ⟨At, At, At⟩) (Ja p c BG BD BE BF BH BI thm m cs A al l Ag h4) ⟨_, _, At, At, ⟨_, _, At, At, At⟩⟩ Aq (aw (we At) (aw (we At) (Cv)))) (BN At (fun Bs => CU [3] At (.inl ⟨At, At, At⟩) (ES p c BG BD BE BF BH BI thm (Ce (BJ.mk BG BD BE BF BH BI thm) A (CY.mk xp xm)) (Bc (BJ.mk BG BD BE BF BH BI thm) A l)) ⟨_, _, At, At, At⟩ Aq (aw (we At) (aw (we At) (aw (we At) (Cv))))) (E5 At (fun Bs => BK B7 At) fun b9 => Ed ?_))
  change AL _ _ _ 7 ⟨133, _, [.box b9 [.p (I 0), .p (I 0), .p (.str ⟨#[]⟩), .p (.nils), .p (.nils)], .box b8 ((Be (Ce (BJ.mk BG BD BE BF BH BI thm) A (CY.mk xp xm))).map .p), .box b6 [.p (I 0), .p (I 0), .p (.str ⟨#[]⟩), .p (.nils), .p (.nils), .p (I 0), .p (I 0), .p (.str ⟨#[]⟩), .p (.nils), .p (.nils), .p (I 0), .p (I 0), .p (.str ⟨#[]⟩), .p (.nils), .p (.nils), .p (.bool false)], .box b4 [.p (I xp), .p (.bool xm)], .box p [.p (.str BG), .p (.str BD), .p (.str BE), .p (.str BF), .p (.str BH), .p (.str BI), .p (.lst (List.map Ch thm)), .ptr c 0], .box c [.p (.lst (List.map Cf cs)), .p (.lst (BR A)), .map m, .p (I al)]], []⟩ _
  refine Au At At (A6 (i := 0) BO At At At Ak Ac (CF _)) (Az At (Ax (Ax (CA [0, 2, 4, 6, 8, 9] 42 (fun z => ∃ b : Bool, z = .p (.bool b) ∧ (b = true → (l = [] ∨ ∃ y, l[0]? = some y ∧ (xp < y.place ∨ (xp = y.place ∧ xm = y.minus)))) ∧ (b = false → ∃ y, l[0]? = some y ∧ ¬ (xp < y.place ∨ (xp = y.place ∧ xm = y.minus)))) ?_ ?_))))
  ·refine CQ (fun k => false) D0 (A4 At At (fun _ => Aw At) trivial (A4 At At (fun _ => Bp Em At (List.length_map _)) trivial (A4 At At (fun _ => BA At At At) trivial (A4 At At (fun _ => Aw At) trivial (I0 27 At (fun g => ?_) (fun g => ?_))))))
   ·(try simp only [sd, se] at g)
    refine CN At At At At At trivial (CN At At At At At trivial (CN At At At At At trivial (CN At At At At At trivial (CN At At At At At trivial (CN At At At At At trivial (CN At At At At At trivial (A4 At At (fun _ => A7 At At) trivial (A4 At At (fun _ => Aw At) trivial (CN At At At At At trivial (CN At At At At At trivial (CN At At At At At trivial ?_)))))))))))
    exact CN At At At At At trivial (CN At At At At At trivial (A4 At At (fun _ => A7 At At) trivial (CK At An (⟨rfl, rfl, AJ, (by first | (refine ⟨_, rfl, fun _ => .inl (List.length_eq_zero_iff.1 ?_), fun h => nomatch (h : true = false)⟩; omega) | (refine ⟨_, rfl, fun _ => .inr ⟨_, hy, .inl g1⟩, fun h => nomatch (h : true = false)⟩; done) | (refine ⟨_, rfl, fun h => .inr ⟨_, hy, .inr (Uw h)⟩, fun h => ⟨_, hy, Vl (Int.not_lt.2 g1) h⟩⟩; done)), ⟨rfl, rfl, rfl, rfl, rfl, rfl, trivial⟩⟩))))
   ·(try simp only [sd, se] at g)
    refine CB At At At At (fun _ => A1 H4 At At) trivial (C5 (i := 3) At At At At At (fun H i hi => A2 (i := i) De At hi At) AA trivial (CB At At At At (fun _ => Aw At) trivial ?_))
    obtain ⟨y, hy⟩ := BP (l := l) (i := 0) Ar
    refine CB At At At At (fun _ => BL Em At At Ar (D1 hy) (At)) trivial ?_
    obtain ⟨yp, ym⟩ := y
    refine CB At At At At (fun _ => DF H4 At At) trivial (CB At At At At (fun _ => CI De At) trivial (CB At At At At (fun _ => BA At At At) trivial (A4 At At (fun _ => A7 At At) trivial (A4 At At (fun _ => Aw At) trivial (I0 36 At (fun g1 => ?_) (fun g1 => ?_))))))
    ·(try simp only [sd, se] at g1)
     exact CN At At At At At trivial (CN At At At At At trivial (CN At At At At At trivial (CN At At At At At trivial (CN At At At At At trivial (A4 At At (fun _ => A7 At At) trivial (CK At An (⟨rfl, rfl, AJ, (by first | (refine ⟨_, rfl, fun _ => .inl (List.length_eq_zero_iff.1 ?_), fun h => nomatch (h : true = false)⟩; omega) | (refine ⟨_, rfl, fun _ => .inr ⟨_, hy, .inl g1⟩, fun h => nomatch (h : true = false)⟩; done) | (refine ⟨_, rfl, fun h => .inr ⟨_, hy, .inr (Uw h)⟩, fun h => ⟨_, hy, Vl (Int.not_lt.2 g1) h⟩⟩; done)), ⟨rfl, rfl, rfl, rfl, rfl, rfl, trivial⟩⟩)))))))
    ·(try simp only [sd, se] at g1)
     exact C5 (i := 3) At At At At At (fun H i hi => A0 (i := i) G2 At hi At) AA trivial (CB At At At At (fun _ => Aw At) trivial (CB At At At At (fun _ => BL Em At At Ar (D1 hy) (At)) trivial (CB At At At At (fun _ => G6 (cs := [I yp, .bool ym]) G2 At At At) trivial (CB At At At At (fun _ => Vu dG At At) trivial (A4 At At (fun _ => A7 At At) trivial (CK At An (⟨rfl, rfl, AJ, (by first | (refine ⟨_, rfl, fun _ => .inl (List.length_eq_zero_iff.1 ?_), fun h => nomatch (h : true = false)⟩; omega) | (refine ⟨_, rfl, fun _ => .inr ⟨_, hy, .inl g1⟩, fun h => nomatch (h : true = false)⟩; done) | (refine ⟨_, rfl, fun h => .inr ⟨_, hy, .inr (Uw h)⟩, fun h => ⟨_, hy, Vl (Int.not_lt.2 g1) h⟩⟩; done)), ⟨rfl, rfl, rfl, rfl, rfl, rfl, trivial⟩⟩)))))))
  rintro _ ⟨q, rfl, hqt, hqf⟩
  refine A9 At (fun c1 => ?_) (fun c1 => ?_)
  ·(try simp only [sd, se] at c1)
   have hs := hqt c1
   refine Ax (Dm [.val (.ptr p 0), .val (.agg ((Be (CW (BJ.mk BG BD BE BF BH BI thm) (Ce (BJ.mk BG BD BE BF BH BI thm) A (CY.mk xp xm)) (Bc (BJ.mk BG BD BE BF BH BI thm) A l))).map .p)), .val (.agg ((CJ (DW (BJ.mk BG BD BE BF BH BI thm) (CW (BJ.mk BG BD BE BF BH BI thm) (Ce (BJ.mk BG BD BE BF BH BI thm) A (CY.mk xp xm)) (Bc (BJ.mk BG BD BE BF BH BI thm) A l)))).map .p)), .val (.agg [.p (I xp), .p (.bool xm)]), .newv 2 (List.map Ca [(CY.mk xp xm)]), .val (.p (.lst (List.map Ca l)))] D0 At An An (BN At (fun Bs => Aw At) (BN At (fun Bs => A0 (i := Bs.length + 0) BO At (Bx At) Ak) ?_)))
   refine BN At (fun Bs => CU [4] At (.inl ⟨At, At, At⟩) (J0 p c BG BD BE BF BH BI thm (CW (BJ.mk BG BD BE BF BH BI thm) (Ce (BJ.mk BG BD BE BF BH BI thm) A (CY.mk xp xm)) (Bc (BJ.mk BG BD BE BF BH BI thm) A l))) ⟨_, _, At, At, At⟩ Aq (aw (we At) (aw (we At) (Cv)))) (BN At (fun Bs => A0 (i := Bs.length + 3) G2 At (Bx At) At) (Lq At (fun Bs => EZ (rows := List.map Ca [(CY.mk xp xm)]) Em IL At At At At (Bz (DL _)) (NA _)) fun b47 cp => BN At (fun Bs => Aw At) (Ed ?_)))
   change AL _ _ _ 6 ⟨133, _, [.vec (some b47) 2 (List.map Ca [(CY.mk xp xm)]) cp, .box b9 ((Be (CW (BJ.mk BG BD BE BF BH BI thm) (Ce (BJ.mk BG BD BE BF BH BI thm) A (CY.mk xp xm)) (Bc (BJ.mk BG BD BE BF BH BI thm) A l))).map .p), .box b8 ((Be (Ce (BJ.mk BG BD BE BF BH BI thm) A (CY.mk xp xm))).map .p), .box b6 [.p (I 0), .p (I 0), .p (.str ⟨#[]⟩), .p (.nils), .p (.nils), .p (I 0), .p (I 0), .p (.str ⟨#[]⟩), .p (.nils), .p (.nils), .p (I 0), .p (I 0), .p (.str ⟨#[]⟩), .p (.nils), .p (.nils), .p (.bool false)], .box b4 [.p (I xp), .p (.bool xm)], .box p [.p (.str BG), .p (.str BD), .p (.str BE), .p (.str BF), .p (.str BH), .p (.str BI), .p (.lst (List.map Ch thm)), .ptr c 0], .box c [.p (.lst (List.map Cf cs)), .p (.lst (BR A)), .map m, .p (I al)]], []⟩ _
   refine Au At At (FI (i := 0) (rows' := List.map Ca l) Em Em IL At At At At At At (DL _) AE (IE (f := Ca) [(CY.mk xp xm)] l)) (Au At At (A6 (i := 2) Co At At At Aj Ab (Cb _)) (Au At At (Ay At) (Az At (BB (⟨At, _, _, ⟨_, _, At, (Bn (i := 2) Co At At Aj), ⟨_, _, At, At, At⟩⟩, (Cj (is := [4, 5]) At), ?_⟩)))))
   rw [WJ hs]
   all_goals exact ⟨rfl, rfl⟩
  ·(try simp only [sd, se] at c1)
   obtain ⟨z, hz0, hs⟩ := hqf c1
   have hpos := (List.getElem?_eq_some_iff.1 hz0).1
   refine BC (Ax ?_)
   obtain ⟨y, hy⟩ := BP (l := l) (i := 0) Ar
   have hzy := Option.some.inj (hz0.symm.trans hy)
   rw [hzy] at hs
   refine Dm [.val (.ptr p 0), .val (.p (.lst (List.map Ca l))), .val (.ref (Ca y)), .val (.agg ((Ca y).map .p)), .val (.agg ((Be (Ce (BJ.mk BG BD BE BF BH BI thm) A y)).map .p)), .val (.ptr p 0), .val (.p (.lst (List.map Ca l))), .val (.p (.lst (List.map Ca (l.drop 1)))), .val (.agg ((Be (Bc (BJ.mk BG BD BE BF BH BI thm) A (l.drop 1))).map .p)), .new [.p (I 0), .p (I 0), .p (.str ⟨#[]⟩), .p (.nils), .p (.nils)], .new [.p (I 0), .p (I 0), .p (.str ⟨#[]⟩), .p (.nils), .p (.nils)]] D0 At An An (BN At (fun Bs => Aw At) (BN At (fun Bs => Aw At) (BN At (fun Bs => BL Em At At Ar (D1 hy) (At)) (BN At (fun Bs => Bi G2 At (At)) ?_))))
   refine BN At (fun Bs => CU [4, 5] At (.inl ⟨At, At, At⟩) (K6 p c BG BD BE BF BH BI thm m cs A al y (Qn h4 hy)) ⟨_, _, At, At, ⟨_, _, At, At, At⟩⟩ Aq (aw (we At) (aw (we At) (Cv)))) (BN At (fun Bs => Aw At) (BN At (fun Bs => Aw At) (BN At (fun Bs => EA (lo := 1) Em At (Bz (DL _)) ⟨_, At⟩ At AU (Nat.le_refl _) (JH (f := Ca) l 1)) (BN At (fun Bs => CU [4, 5] At (.inl ⟨At, At, At⟩) (Ja p c BG BD BE BF BH BI thm m cs A al (l.drop 1) AW (H5 h4)) ⟨_, _, At, At, ⟨_, _, At, At, At⟩⟩ Aq (aw (we At) (aw (we At) (Cv)))) (E5 At (fun Bs => BK B7 At) fun b10 => E5 At (fun Bs => BK B7 At) fun b11 => Ed ?_)))))
   change AL _ _ _ 11 ⟨133, _, [.box b10 [.p (I 0), .p (I 0), .p (.str ⟨#[]⟩), .p (.nils), .p (.nils)], .box b11 [.p (I 0), .p (I 0), .p (.str ⟨#[]⟩), .p (.nils), .p (.nils)], .box b9 ((Be (CW (BJ.mk BG BD BE BF BH BI thm) (Ce (BJ.mk BG BD BE BF BH BI thm) A (CY.mk xp xm)) (Bc (BJ.mk BG BD BE BF BH BI thm) A l))).map .p), .box b8 ((Be (Ce (BJ.mk BG BD BE BF BH BI thm) A (CY.mk xp xm))).map .p), .box b6 [.p (I 0), .p (I 0), .p (.str ⟨#[]⟩), .p (.nils), .p (.nils), .p (I 0), .p (I 0), .p (.str ⟨#[]⟩), .p (.nils), .p (.nils), .p (I 0), .p (I 0), .p (.str ⟨#[]⟩), .p (.nils), .p (.nils), .p (.bool false)], .box b4 [.p (I xp), .p (.bool xm)], .box p [.p (.str BG), .p (.str BD), .p (.str BE), .p (.str BF), .p (.str BH), .p (.str BI), .p (.lst (List.map Ch thm)), .ptr c 0], .box c [.p (.lst (List.map Cf cs)), .p (.lst (BR A)), .map m, .p (I al)]], []⟩ _
   refine Au At At (A6 (i := 0) BO At At At Ak Ac (CF _)) (Au At At (A6 (i := 1) BO At At At Ak Ac (CF _)) (Az At (Ax (Av (Au At At (Aw At) (Au At At (Aw At) (Au At At (A0 (i := 3) BO At At Ak) (Au At At (A0 (i := 0) BO At At Ak) (Au At At (A0 (i := 1) BO At At Ak) (Au At At (B6 [6] At (.inl ⟨At, At, At⟩) (Nf p c BG BD BE BF BH BI thm (Ce (BJ.mk BG BD BE BF BH BI thm) A (CY.mk xp xm)) (Ce (BJ.mk BG BD BE BF BH BI thm) A y) (Bc (BJ.mk BG BD BE BF BH BI thm) A (l.drop 1)) h5) ⟨_, _, At, At, At⟩ Aq At (.inl At)) ?_))))))))))
   refine Au At At (B6 [6] At (.inl ⟨At, At, At⟩) (Sd p c BG BD BE BF BH BI thm (D3 (BJ.mk BG BD BE BF BH BI thm) (Ce (BJ.mk BG BD BE BF BH BI thm) A (CY.mk xp xm)) (Ce (BJ.mk BG BD BE BF BH BI thm) A y) (Bc (BJ.mk BG BD BE BF BH BI thm) A (l.drop 1)))) ⟨_, _, At, At, At⟩ Aq At (.inl At)) (BM At At (BK Dp At) fun b12 => Au At At (A6 (i := 0) Co At At At Aj Ab (Cb _)) (Az At (Ax (Ax (CQ (fun k => false) D0 (A4 At At (fun _ => A1 H4 At At) trivial (BQ (j := 6) At At At (fun H i hi => A2 (i := i) De At hi At) AA trivial (A4 At At (fun _ => Aw At) trivial (A4 At At (fun _ => BL Em At At Ar (D1 hy) (At)) trivial ?_)))))))))
   obtain ⟨yp, ym⟩ := y
   refine A4 At At (fun _ => DF H4 At At) trivial (A4 At At (fun _ => CI De At) trivial (A4 At At (fun _ => BA At At At) trivial (CK At An (A9 At (fun c2 => ?_) (fun c2 => ?_)))))
   ·(try simp only [sd, se] at c2)
    refine Ax (CQ (fun k => false) D0 (A4 At At (fun _ => Aw At) trivial (BQ (j := 0) At At At (fun H i hi => A0 (i := i) Co At hi Aj) AA trivial (A4 At At (fun _ => Aw At) trivial (A4 At At (fun _ => Aw At) trivial (BQ (j := 6) At At At (fun H i hi => A0 (i := i) G2 At hi At) AA trivial ?_))))))
    refine CD [7, 8] At At At (.inl ⟨At, At, At⟩) (T7 p c BG BD BE BF BH BI thm m cs A al (CY.mk xp xm) h3 h5) ⟨_, _, At, At, ⟨_, _, At, At, At⟩⟩ (QV (fun h => by injection h with h1 h2; exact absurd (congrArg List.length h2) As)) (aw (we rfl) (aw (we rfl) (Cv))) AA trivial ?_
    refine A4 At At (fun _ => Aw At) trivial (BQ (j := 2) At At At (fun H i hi => A0 (i := i) BO At hi Ak) AA trivial (CD [7] At At At (.inl ⟨At, At, At⟩) (J0 p c BG BD BE BF BH BI thm (Bc (BJ.mk BG BD BE BF BH BI thm) A (l.drop 1))) ⟨_, _, At, At, At⟩ (Cp _) (aw (we At) (aw (we At) (Cv))) AA trivial (CD [7] At At At (.inl ⟨At, At, At⟩) (Ll p c BG BD BE BF BH BI thm (HD (BJ.mk BG BD BE BF BH BI thm) A (CY.mk xp xm)) (DW (BJ.mk BG BD BE BF BH BI thm) (Bc (BJ.mk BG BD BE BF BH BI thm) A (l.drop 1)))) ⟨_, _, At, At, At⟩ (Cp _) (aw (we At) (aw (we At) (aw (we At) (Cv)))) AA trivial (A4 At At (fun _ => Aw At) trivial (BQ (j := 2) At At At (fun H i hi => A0 (i := i) BO At hi Ak) AA trivial ?_)))))
    refine CD [7] At At At (.inl ⟨At, At, At⟩) (QF p c BG BD BE BF BH BI thm (Bc (BJ.mk BG BD BE BF BH BI thm) A (l.drop 1)) h5) ⟨_, _, At, At, At⟩ (Cp _) (aw (we At) (aw (we At) (Cv))) AA trivial (A4 At At (fun _ => BU (rows := List.map CJ [(FH (BJ.mk BG BD BE BF BH BI thm) (HD (BJ.mk BG BD BE BF BH BI thm) A (CY.mk xp xm)) (DW (BJ.mk BG BD BE BF BH BI thm) (Bc (BJ.mk BG BD BE BF BH BI thm) A (l.drop 1)))), (IV (BJ.mk BG BD BE BF BH BI thm) (Bc (BJ.mk BG BD BE BF BH BI thm) A (l.drop 1)))]) JC Dp At At At At (Bz (FP _)) (Iz _)) trivial ?_)
    refine CD [7] At At At (.inl ⟨At, At, At⟩) (Fz p c BG BD BE BF BH BI thm (GG (BJ.mk BG BD BE BF BH BI thm) (D3 (BJ.mk BG BD BE BF BH BI thm) (Ce (BJ.mk BG BD BE BF BH BI thm) A (CY.mk xp xm)) (Ce (BJ.mk BG BD BE BF BH BI thm) A (CY.mk yp ym)) (Bc (BJ.mk BG BD BE BF BH BI thm) A (l.drop 1)))) [(FH (BJ.mk BG BD BE BF BH BI thm) (HD (BJ.mk BG BD BE BF BH BI thm) A (CY.mk xp xm)) (DW (BJ.mk BG BD BE BF BH BI thm) (Bc (BJ.mk BG BD BE BF BH BI thm) A (l.drop 1)))), (IV (BJ.mk BG BD BE BF BH BI thm) (Bc (BJ.mk BG BD BE BF BH BI thm) A (l.drop 1)))] AR) ⟨_, _, At, At, At⟩ (Cp _) (aw (we At) (aw (we At) (aw (we At) (Cv)))) AA trivial (A4 At At (fun _ => Aw At) trivial ?_)
    refine A4 At At (fun _ => EA (lo := 1) Em At (Bz (DL _)) ⟨_, At⟩ At AU (Nat.le_refl _) (JH (f := Ca) l 1)) trivial (Cr At At (A6 (i := 5) Co At At At Aj Ab (Cb _)) AA trivial (A4 At At (fun _ => Ay At) trivial (CK At An (BB (⟨At, _, _, ⟨_, _, At, (Bn (i := 5) Co At At Aj), ⟨_, _, At, At, At⟩⟩, (Cj (is := [7, 8]) At), ?_⟩)))))
    rw [Ve hy hs Ao]
    all_goals exact ⟨rfl, rfl⟩
   ·(try simp only [sd, se] at c2)
    refine BC (Ax (CQ (fun k => Nat.beq k 8) D0 (A4 At At (fun _ => Aw At) trivial (BQ (j := 6) At At At (fun H i hi => A0 (i := i) G2 At hi At) AA trivial (A4 At At (fun _ => Aw At) trivial (A4 At At (fun _ => EA (lo := 1) Em At (Bz (DL _)) ⟨_, At⟩ At AU (Nat.le_refl _) (JH (f := Ca) l 1)) trivial ?_))))))
    refine CD [7, 8] At At At (.inl ⟨At, At, At⟩) (ih (l.drop 1).length (by have := (List.getElem?_eq_some_iff.1 hy).1; simp only [List.length_drop]; omega) (l.drop 1) (Nat.le_refl _) AY h3 (H5 h4) h5) ⟨_, _, At, At, ⟨_, _, At, At, At⟩⟩ (QV (fun h => by injection h with h1 h2; exact absurd (congrArg List.length h2) As)) (aw (we rfl) (aw (we rfl) (aw (we rfl) (Cv)))) AA trivial ?_
    refine A4 At At (fun _ => Aw At) trivial (A4 At At (fun _ => BY At At) trivial (A4 At At (fun _ => BY At At) trivial (Pf [] At At (BK Dp At) An fun b13 => ⟨AA, trivial, ?_⟩)))
    refine Cr At At (A6 (i := 0) Co At At At Aj Ab (Cb _)) AA trivial (A4 At At (fun _ => Ay At) trivial (CK At An (Ax ?_)))
    refine Dm [.val (.ptr p 0), .val (.agg ((CJ (GG (BJ.mk BG BD BE BF BH BI thm) (D3 (BJ.mk BG BD BE BF BH BI thm) (Ce (BJ.mk BG BD BE BF BH BI thm) A (CY.mk xp xm)) (Ce (BJ.mk BG BD BE BF BH BI thm) A (CY.mk yp ym)) (Bc (BJ.mk BG BD BE BF BH BI thm) A (l.drop 1))))).map .p)), .val (.ptr p 0), .val (.ptr p 0), .val (.agg ((Be (Ce (BJ.mk BG BD BE BF BH BI thm) A (CY.mk xp xm))).map .p)), .val (.agg ((Be (Ce (BJ.mk BG BD BE BF BH BI thm) A (CY.mk yp ym))).map .p)), .val (.agg ((CJ (Gn (BJ.mk BG BD BE BF BH BI thm) (Ce (BJ.mk BG BD BE BF BH BI thm) A (CY.mk xp xm)) (Ce (BJ.mk BG BD BE BF BH BI thm) A (CY.mk yp ym)))).map .p)), .val (.ptr p 0), .val (.agg ((Be (Bc (BJ.mk BG BD BE BF BH BI thm) A (l.drop 1))).map .p)), .val (.agg ((CJ (DW (BJ.mk BG BD BE BF BH BI thm) (Bc (BJ.mk BG BD BE BF BH BI thm) A (l.drop 1)))).map .p)), .val (.agg ((CJ (FH (BJ.mk BG BD BE BF BH BI thm) (Gn (BJ.mk BG BD BE BF BH BI thm) (Ce (BJ.mk BG BD BE BF BH BI thm) A (CY.mk xp xm)) (Ce (BJ.mk BG BD BE BF BH BI thm) A (CY.mk yp ym))) (DW (BJ.mk BG BD BE BF BH BI thm) (Bc (BJ.mk BG BD BE BF BH BI thm) A (l.drop 1))))).map .p)), .val (.ptr p 0), .val (.agg ((Be (Ce (BJ.mk BG BD BE BF BH BI thm) A (CY.mk yp ym))).map .p)), .val (.agg ((Be (Ce (BJ.mk BG BD BE BF BH BI thm) A (CY.mk xp xm))).map .p)), .val (.agg ((Be (Bc (BJ.mk BG BD BE BF BH BI thm) A (l.drop 1))).map .p)), .val (.agg ((CJ (D3 (BJ.mk BG BD BE BF BH BI thm) (Ce (BJ.mk BG BD BE BF BH BI thm) A (CY.mk yp ym)) (Ce (BJ.mk BG BD BE BF BH BI thm) A (CY.mk xp xm)) (Bc (BJ.mk BG BD BE BF BH BI thm) A (l.drop 1)))).map .p)), .val (.ptr p 0), .val (.ptr p 0), .val (.ptr p 0), .val (.ptr p (0 + 0)), .val (.ptr p (0 + 1)), .val (.p (.str BD)), .val (.agg ((Be (Ce (BJ.mk BG BD BE BF BH BI thm) A (CY.mk yp ym))).map .p)), .val (.p (.lst (BR [(Ce (BJ.mk BG BD BE BF BH BI thm) A (CY.mk yp ym))]))), .val (.agg ((Be (BS BD [(Ce (BJ.mk BG BD BE BF BH BI thm) A (CY.mk yp ym))])).map .p)), .val (.agg ((CJ ((Ci (BJ.mk BG BD BE BF BH BI thm) A (CY.mk xp xm) (l.drop 1)).1)).map .p)), .val (.agg ((CJ (DS (BJ.mk BG BD BE BF BH BI thm) (BS BD [(Ce (BJ.mk BG BD BE BF BH BI thm) A (CY.mk yp ym))]) ((Ci (BJ.mk BG BD BE BF BH BI thm) A (CY.mk xp xm) (l.drop 1)).1))).map .p)), .val (.p (.lst (List.map CJ ([(FH (BJ.mk BG BD BE BF BH BI thm) (Gn (BJ.mk BG BD BE BF BH BI thm) (Ce (BJ.mk BG BD BE BF BH BI thm) A (CY.mk xp xm)) (Ce (BJ.mk BG BD BE BF BH BI thm) A (CY.mk yp ym))) (DW (BJ.mk BG BD BE BF BH BI thm) (Bc (BJ.mk BG BD BE BF BH BI thm) A (l.drop 1)))), (D3 (BJ.mk BG BD BE BF BH BI thm) (Ce (BJ.mk BG BD BE BF BH BI thm) A (CY.mk yp ym)) (Ce (BJ.mk BG BD BE BF BH BI thm) A (CY.mk xp xm)) (Bc (BJ.mk BG BD BE BF BH BI thm) A (l.drop 1))), (DS (BJ.mk BG BD BE BF BH BI thm) (BS BD [(Ce (BJ.mk BG BD BE BF BH BI thm) A (CY.mk yp ym))]) ((Ci (BJ.mk BG BD BE BF BH BI thm) A (CY.mk xp xm) (l.drop 1)).1))])))), .val (.agg ((CJ (Cm (BJ.mk BG BD BE BF BH BI thm) (GG (BJ.mk BG BD BE BF BH BI thm) (D3 (BJ.mk BG BD BE BF BH BI thm) (Ce (BJ.mk BG BD BE BF BH BI thm) A (CY.mk xp xm)) (Ce (BJ.mk BG BD BE BF BH BI thm) A (CY.mk yp ym)) (Bc (BJ.mk BG BD BE BF BH BI thm) A (l.drop 1)))) ([(FH (BJ.mk BG BD BE BF BH BI thm) (Gn (BJ.mk BG BD BE BF BH BI thm) (Ce (BJ.mk BG BD BE BF BH BI thm) A (CY.mk xp xm)) (Ce (BJ.mk BG BD BE BF BH BI thm) A (CY.mk yp ym))) (DW (BJ.mk BG BD BE BF BH BI thm) (Bc (BJ.mk BG BD BE BF BH BI thm) A (l.drop 1)))), (D3 (BJ.mk BG BD BE BF BH BI thm) (Ce (BJ.mk BG BD BE BF BH BI thm) A (CY.mk yp ym)) (Ce (BJ.mk BG BD BE BF BH BI thm) A (CY.mk xp xm)) (Bc (BJ.mk BG BD BE BF BH BI thm) A (l.drop 1))), (DS (BJ.mk BG BD BE BF BH BI thm) (BS BD [(Ce (BJ.mk BG BD BE BF BH BI thm) A (CY.mk yp ym))]) ((Ci (BJ.mk BG BD BE BF BH BI thm) A (CY.mk xp xm) (l.drop 1)).1))]))).map .p)), .val (.p (.lst (List.map Ca l))), .val (.ref [I yp, .bool ym]), .val (.agg [.p (I yp), .p (.bool ym)]), .newv 2 (List.map Ca [(CY.mk yp ym)]), .val (.p (.lst (List.map Ca ((Ci (BJ.mk BG BD BE BF BH BI thm) A (CY.mk xp xm) (l.drop 1)).2))))] D0 At An An ?_
    refine BN At (fun Bs => Aw At) (BN At (fun Bs => A0 (i := Bs.length + 1) Co At (Bx At) Aj) (BN At (fun Bs => Aw At) (BN At (fun Bs => Aw At) (BN At (fun Bs => A0 (i := Bs.length + 5) BO At (Bx At) Ak) (BN At (fun Bs => A0 (i := Bs.length + 2) BO At (Bx At) Ak) (BN At (fun Bs => CU [8] At (.inl ⟨At, At, At⟩) (QO p c BG BD BE BF BH BI thm (Ce (BJ.mk BG BD BE BF BH BI thm) A (CY.mk xp xm)) (Ce (BJ.mk BG BD BE BF BH BI thm) A (CY.mk yp ym)) h5) ⟨_, _, At, At, At⟩ Aq (aw (we At) (aw (we At) (aw (we At) (Cv))))) (BN At (fun Bs => Aw At) (BN At (fun Bs => A0 (i := Bs.length + 3) BO At (Bx At) Ak) ?_))))))))
    refine BN At (fun Bs => CU [8] At (.inl ⟨At, At, At⟩) (J0 p c BG BD BE BF BH BI thm (Bc (BJ.mk BG BD BE BF BH BI thm) A (l.drop 1))) ⟨_, _, At, At, At⟩ Aq (aw (we At) (aw (we At) (Cv)))) (BN At (fun Bs => CU [8] At (.inl ⟨At, At, At⟩) (Ll p c BG BD BE BF BH BI thm (Gn (BJ.mk BG BD BE BF BH BI thm) (Ce (BJ.mk BG BD BE BF BH BI thm) A (CY.mk xp xm)) (Ce (BJ.mk BG BD BE BF BH BI thm) A (CY.mk yp ym))) (DW (BJ.mk BG BD BE BF BH BI thm) (Bc (BJ.mk BG BD BE BF BH BI thm) A (l.drop 1)))) ⟨_, _, At, At, At⟩ Aq (aw (we At) (aw (we At) (aw (we At) (Cv))))) (BN At (fun Bs => Aw At) (BN At (fun Bs => A0 (i := Bs.length + 2) BO At (Bx At) Ak) (BN At (fun Bs => A0 (i := Bs.length + 5) BO At (Bx At) Ak) ?_))))
    refine BN At (fun Bs => A0 (i := Bs.length + 3) BO At (Bx At) Ak) (BN At (fun Bs => CU [8] At (.inl ⟨At, At, At⟩) (Nf p c BG BD BE BF BH BI thm (Ce (BJ.mk BG BD BE BF BH BI thm) A (CY.mk yp ym)) (Ce (BJ.mk BG BD BE BF BH BI thm) A (CY.mk xp xm)) (Bc (BJ.mk BG BD BE BF BH BI thm) A (l.drop 1)) h5) ⟨_, _, At, At, At⟩ Aq (aw (we At) (aw (we At) (aw (we At) (aw (we At) (Cv)))))) (BN At (fun Bs => Aw At) (BN At (fun Bs => Aw At) (BN At (fun Bs => Bd At) (BN At (fun Bs => A1 Hi At At) (BN At (fun Bs => A1 DU At At) (BN At (fun Bs => A2 (i := Bs.length + 8) FU At (Bx At) At) (BN At (fun Bs => A0 (i := Bs.length + 2) BO At (Bx At) Ak) ?_))))))))
    refine BN At (fun Bs => BU (rows := BR [(Ce (BJ.mk BG BD BE BF BH BI thm) A (CY.mk yp ym))]) By B7 At At At At (Bz (CC _)) (C1 _)) (BN At (fun Bs => Bg At At (EL BD [(Ce (BJ.mk BG BD BE BF BH BI thm) A (CY.mk yp ym))] AN) At) (BN At (fun Bs => A0 (i := Bs.length + 0) Co At (Bx At) Aj) (BN At (fun Bs => CU [8] At (.inl ⟨At, At, At⟩) (Lk p c BG BD BE BF BH BI thm (BS BD [(Ce (BJ.mk BG BD BE BF BH BI thm) A (CY.mk yp ym))]) ((Ci (BJ.mk BG BD BE BF BH BI thm) A (CY.mk xp xm) (l.drop 1)).1)) ⟨_, _, At, At, At⟩ Aq (aw (we At) (aw (we At) (aw (we At) (Cv))))) ?_)))
    refine BN At (fun Bs => BU (rows := List.map CJ ([(FH (BJ.mk BG BD BE BF BH BI thm) (Gn (BJ.mk BG BD BE BF BH BI thm) (Ce (BJ.mk BG BD BE BF BH BI thm) A (CY.mk xp xm)) (Ce (BJ.mk BG BD BE BF BH BI thm) A (CY.mk yp ym))) (DW (BJ.mk BG BD BE BF BH BI thm) (Bc (BJ.mk BG BD BE BF BH BI thm) A (l.drop 1)))), (D3 (BJ.mk BG BD BE BF BH BI thm) (Ce (BJ.mk BG BD BE BF BH BI thm) A (CY.mk yp ym)) (Ce (BJ.mk BG BD BE BF BH BI thm) A (CY.mk xp xm)) (Bc (BJ.mk BG BD BE BF BH BI thm) A (l.drop 1))), (DS (BJ.mk BG BD BE BF BH BI thm) (BS BD [(Ce (BJ.mk BG BD BE BF BH BI thm) A (CY.mk yp ym))]) ((Ci (BJ.mk BG BD BE BF BH BI thm) A (CY.mk xp xm) (l.drop 1)).1))])) JC Dp At At At At (Bz (FP _)) (Iz _)) ?_
    refine BN At (fun Bs => CU [8] At (.inl ⟨At, At, At⟩) (Fz p c BG BD BE BF BH BI thm (GG (BJ.mk BG BD BE BF BH BI thm) (D3 (BJ.mk BG BD BE BF BH BI thm) (Ce (BJ.mk BG BD BE BF BH BI thm) A (CY.mk xp xm)) (Ce (BJ.mk BG BD BE BF BH BI thm) A (CY.mk yp ym)) (Bc (BJ.mk BG BD BE BF BH BI thm) A (l.drop 1)))) ([(FH (BJ.mk BG BD BE BF BH BI thm) (Gn (BJ.mk BG BD BE BF BH BI thm) (Ce (BJ.mk BG BD BE BF BH BI thm) A (CY.mk xp xm)) (Ce (BJ.mk BG BD BE BF BH BI thm) A (CY.mk yp ym))) (DW (BJ.mk BG BD BE BF BH BI thm) (Bc (BJ.mk BG BD BE BF BH BI thm) A (l.drop 1)))), (D3 (BJ.mk BG BD BE BF BH BI thm) (Ce (BJ.mk BG BD BE BF BH BI thm) A (CY.mk yp ym)) (Ce (BJ.mk BG BD BE BF BH BI thm) A (CY.mk xp xm)) (Bc (BJ.mk BG BD BE BF BH BI thm) A (l.drop 1))), (DS (BJ.mk BG BD BE BF BH BI thm) (BS BD [(Ce (BJ.mk BG BD BE BF BH BI thm) A (CY.mk yp ym))]) ((Ci (BJ.mk BG BD BE BF BH BI thm) A (CY.mk xp xm) (l.drop 1)).1))]) AR) ⟨_, _, At, At, At⟩ Aq (aw (we At) (aw (we At) (aw (we At) (Cv))))) ?_
    refine BN At (fun Bs => Aw At) (BN At (fun Bs => BL Em At At Ar (D1 hy) (At)) (BN At (fun Bs => G6 (cs := [I yp, .bool ym]) G2 At At At) (Lq At (fun Bs => EZ (rows := List.map Ca [(CY.mk yp ym)]) Em IL At At At At (Bz (DL _)) (NA _)) fun b130 cp => BN At (fun Bs => Aw At) (Ed ?_))))
    change AL _ _ _ 34 ⟨133, _, [.vec (some b130) 2 (List.map Ca [(CY.mk yp ym)]) cp, .box b13 ((CJ ((Ci (BJ.mk BG BD BE BF BH BI thm) A (CY.mk xp xm) (l.drop 1)).1)).map .p), .box b12 ((CJ (GG (BJ.mk BG BD BE BF BH BI thm) (D3 (BJ.mk BG BD BE BF BH BI thm) (Ce (BJ.mk BG BD BE BF BH BI thm) A (CY.mk xp xm)) (Ce (BJ.mk BG BD BE BF BH BI thm) A (CY.mk yp ym)) (Bc (BJ.mk BG BD BE BF BH BI thm) A (l.drop 1))))).map .p), .box b10 ((Be (Ce (BJ.mk BG BD BE BF BH BI thm) A (CY.mk yp ym))).map .p), .box b11 ((Be (Bc (BJ.mk BG BD BE BF BH BI thm) A (l.drop 1))).map .p), .box b9 ((Be (CW (BJ.mk BG BD BE BF BH BI thm) (Ce (BJ.mk BG BD BE BF BH BI thm) A (CY.mk xp xm)) (Bc (BJ.mk BG BD BE BF BH BI thm) A l))).map .p), .box b8 ((Be (Ce (BJ.mk BG BD BE BF BH BI thm) A (CY.mk xp xm))).map .p), .box b6 [.p (I 0), .p (I 0), .p (.str ⟨#[]⟩), .p (.nils), .p (.nils), .p (I 0), .p (I 0), .p (.str ⟨#[]⟩), .p (.nils), .p (.nils), .p (I 0), .p (I 0), .p (.str ⟨#[]⟩), .p (.nils), .p (.nils), .p (.bool false)], .box b4 [.p (I xp), .p (.bool xm)], .box p [.p (.str BG), .p (.str BD), .p (.str BE), .p (.str BF), .p (.str BH), .p (.str BI), .p (.lst (List.map Ch thm)), .ptr c 0], .box c [.p (.lst (List.map Cf cs)), .p (.lst (BR A)), .map m, .p (I al)]], []⟩ _
    refine Au At At (FI (i := 0) (rows' := List.map Ca ((Ci (BJ.mk BG BD BE BF BH BI thm) A (CY.mk xp xm) (l.drop 1)).2)) Em Em IL At At At At At At (DL _) (by have := Kv (th := (BJ.mk BG BD BE BF BH BI thm)) (A := A) (x := (CY.mk xp xm)) (l.drop 1); simp only [List.length_drop, List.length_map, List.length_cons, List.length_nil] at *; omega) (IE (f := Ca) [(CY.mk yp ym)] ((Ci (BJ.mk BG BD BE BF BH BI thm) A (CY.mk xp xm) (l.drop 1)).2))) (Au At At (A6 (i := 6) Co At At At Aj Ab (Cb _)) (Au At At (Ay At) (Az At (BB (⟨At, _, _, ⟨_, _, At, (Bn (i := 6) Co At At Aj), ⟨_, _, At, At, At⟩⟩, (Cj (is := [8, 9]) At), ?_⟩)))))
    rw [VX hy hs Ao]
    all_goals exact ⟨rfl, rfl⟩
theorem WG : ∀ (p c : Nat) (BG BD BE BF BH BI : ByteArray) (thm : List ByteArray) (m : Nat) (cs : List Int) (A : List Tm) (al : Int) (b : List CY) (n : Nat) (a : List CY), (a.length ≤ n) → (a.length + b.length < 1000000) → (∀ y ∈ a, GX A y) → (∀ y ∈ b, GX A y) → (thm.length = 14) → Bt Tryz.prog 87 [.ptr p 0, .p (.lst (List.map Ca a)), .p (.lst (List.map Ca b))] [.box p [.p (.str BG), .p (.str BD), .p (.str BE), .p (.str BF), .p (.str BH), .p (.str BI), .p (.lst (List.map Ch thm)), .ptr c 0], .box c [.p (.lst (List.map Cf cs)), .p (.lst (BR A)), .map m, .p (I al)]] (DC (.tup [.agg ((CJ ((C6 (BJ.mk BG BD BE BF BH BI thm) A b a).1)).map .p), .p (.lst (List.map Ca ((C6 (BJ.mk BG BD BE BF BH BI thm) A b a).2)))]) [.box p [.p (.str BG), .p (.str BD), .p (.str BE), .p (.str BF), .p (.str BH), .p (.str BI), .p (.lst (List.map Ch thm)), .ptr c 0], .box c [.p (.lst (List.map Cf cs)), .p (.lst (BR A)), .map m, .p (I al)]]) := by
 intro p c BG BD BE BF BH BI thm m cs A al b n
 induction n using Nat.strongRecOn with
 | ind n ih =>
  intro a h1 h2 h3 h4 h5
  refine A8 Tryz.func87 At ei (n := 70) At At (Ax (Av (BM At At (BK Dp At) fun b6 => Au At At (Ay At) (Az At (Ax (Av (Au At At (Aw At) (Au At At (Aw At) (Au At At (B6 [1, 2] At (.inl ⟨At, At, At⟩) (Ja p c BG BD BE BF BH BI thm m cs A al b Ag h4) ⟨_, _, At, At, ⟨_, _, At, At, At⟩⟩ Aq At (.inl At)) (BM At At (BK B7 At) fun b8 => ?_))))))))))
  refine Au At At (A6 (i := 0) BO At At At Ak Ac (CF _)) (Az At (Ax (Ax (Av (Au At At (Aw At) (Au At At (Bp Em At (List.length_map _)) (Au At At (BA At At At) (Az At (A9 At (fun c1 => ?_) (fun c1 => ?_))))))))))
  ·(try simp only [sd, se] at c1)
   refine Ax (Av (Au At At (Aw At) (Au At At (A0 (i := 0) BO At At Ak) (Au At At (B6 [2] At (.inl ⟨At, At, At⟩) (QF p c BG BD BE BF BH BI thm (Bc (BJ.mk BG BD BE BF BH BI thm) A b) h5) ⟨_, _, At, At, At⟩ Aq At (.inl At)) (Au At At (Aw At) (Au At At (A6 (i := 1) Co At At At Aj Ab (Cb _)) (Au At At (Ay At) (Az At (BB (⟨At, _, _, ⟨_, _, At, (Bn (i := 1) Co At At Aj), ⟨_, _, At, At, At⟩⟩, (Cj (is := [2, 3]) At), ?_⟩))))))))))
   obtain rfl := List.length_eq_zero_iff.1 (by omega : a.length = 0)
   all_goals exact ⟨by show (.tup [.agg ((CJ (IV (BJ.mk BG BD BE BF BH BI thm) (Bc (BJ.mk BG BD BE BF BH BI thm) A b))).map .p), .p (.lst (List.map Ca b))] : AV) = _; rw [T9], rfl⟩
  ·(try simp only [sd, se] at c1)
   refine BC (Ax (Av (Au At At (Aw At) (Au At At (Aw At) ?_))))
   obtain ⟨x, hx⟩ := BP (l := a) (i := 0) Ar
   refine Au At At (BL Em At At Ar (D1 hx) (At)) (Au At At (Bi G2 At (At)) (Au At At (B6 [2, 3] At (.inl ⟨At, At, At⟩) (K6 p c BG BD BE BF BH BI thm m cs A al x (Qn h3 hx)) ⟨_, _, At, At, ⟨_, _, At, At, At⟩⟩ Aq At (.inl At)) (BM At At (BK B7 At) fun b9 => Au At At (A6 (i := 0) BO At At At Ak Ac (CF _)) (Az At (Ax (Av (Au At At (Aw At) (Au At At (Aw At) (Au At At (EA (lo := 1) Em At (Bz (DL _)) ⟨_, At⟩ At AU (Nat.le_refl _) (JH (f := Ca) a 1)) (Au At At (Aw At) ?_))))))))))
   refine Au At At (B6 [3, 4] At (.inl ⟨At, At, At⟩) (ih (a.drop 1).length AY (a.drop 1) (Nat.le_refl _) AY (H5 h3) h4 h5) ⟨_, _, At, At, ⟨_, _, At, At, At⟩⟩ Aq At (.inl At)) ?_
   generalize hmq : C6 (BJ.mk BG BD BE BF BH BI thm) A b (a.drop 1) = mq
   refine Au At At (Aw At) (Au At At (BY At At) (Au At At (BY At At) (BM At At (BK Dp At) fun b10 => Au At At (A6 (i := 0) Co At At At Aj Ab (Cb _)) (Au At At (Ay At) (Az At (Ax (Av (Au At At (Aw At) (Au At At (Aw At) (Au At At (BL Em At At Ar (D1 hx) (At)) ?_))))))))))
   refine Au At At (Bi G2 At (At)) (Au At At (Aw At) (Au At At (B6 [4, 5] At (.inl ⟨At, At, At⟩) (UH p c BG BD BE BF BH BI thm m cs A al x _ mq.2 (Nat.le_refl _) (by have := MA (th := (BJ.mk BG BD BE BF BH BI thm)) (A := A) (b := b) (a.drop 1); rw [hmq] at this; simp only [List.length_drop] at this; omega) (Qn h3 hx) (hmq ▸ OB h4 _ (H5 h3)) h5) ⟨_, _, At, At, ⟨_, _, At, At, At⟩⟩ Aq At (.inl At)) (Au At At (Aw At) (Au At At (BY At At) (Au At At (BY At At) (BM At At (BK Dp At) fun b12 => Au At At (A6 (i := 0) Co At At At Aj Ab (Cb _)) (Au At At (Ay At) (Az At (Ax (CQ (fun k => false) D0 ?_))))))))))
   refine A4 At At (fun _ => Aw At) trivial (A4 At At (fun _ => Aw At) trivial (BQ (j := 2) At At At (fun H i hi => A0 (i := i) BO At hi Ak) AA trivial (A4 At At (fun _ => Aw At) trivial (A4 At At (fun _ => Aw At) trivial (A4 At At (fun _ => EA (lo := 1) Em At (Bz (DL _)) ⟨_, At⟩ At AU (Nat.le_refl _) (JH (f := Ca) a 1)) trivial ?_)))))
   refine CD [5, 6] At At At (.inl ⟨At, At, At⟩) (Ja p c BG BD BE BF BH BI thm m cs A al (a.drop 1) AW (H5 h3)) ⟨_, _, At, At, ⟨_, _, At, At, At⟩⟩ (QV (fun h => by injection h with h1 h2; exact absurd (congrArg List.length h2) As)) (aw (we rfl) (aw (we rfl) (Cv))) AA trivial ?_
   refine BQ (j := 3) At At At (fun H i hi => A0 (i := i) BO At hi Ak) AA trivial (CD [5] At At At (.inl ⟨At, At, At⟩) (Nf p c BG BD BE BF BH BI thm (Ce (BJ.mk BG BD BE BF BH BI thm) A x) (Bc (BJ.mk BG BD BE BF BH BI thm) A (a.drop 1)) (Bc (BJ.mk BG BD BE BF BH BI thm) A b) h5) ⟨_, _, At, At, At⟩ (Cp _) (aw (we At) (aw (we At) (aw (we At) (aw (we At) (Cv))))) AA trivial (A4 At At (fun _ => Aw At) trivial (A4 At At (fun _ => Aw At) trivial (A4 At At (fun _ => Bd At) trivial (A4 At At (fun _ => A1 Hi At At) trivial (A4 At At (fun _ => A1 DU At At) trivial (BQ (j := 5) At At At (fun H i hi => A2 (i := i) FU At hi At) AA trivial (BQ (j := 2) At At At (fun H i hi => A0 (i := i) BO At hi Ak) AA trivial ?_))))))))
   refine A4 At At (fun _ => BU (rows := BR [(Ce (BJ.mk BG BD BE BF BH BI thm) A x)]) By B7 At At At At (Bz (CC _)) (C1 _)) trivial (A4 At At (fun _ => Bg At At (EL BD [(Ce (BJ.mk BG BD BE BF BH BI thm) A x)] AN) At) trivial (BQ (j := 1) At At At (fun H i hi => A0 (i := i) Co At hi Aj) AA trivial (CD [5] At At At (.inl ⟨At, At, At⟩) (Lk p c BG BD BE BF BH BI thm (BS BD [(Ce (BJ.mk BG BD BE BF BH BI thm) A x)]) mq.1) ⟨_, _, At, At, At⟩ (Cp _) (aw (we At) (aw (we At) (aw (we At) (Cv)))) AA trivial (BQ (j := 0) At At At (fun H i hi => A0 (i := i) Co At hi Aj) AA trivial ?_))))
   refine A4 At At (fun _ => BU (rows := List.map CJ ([(DS (BJ.mk BG BD BE BF BH BI thm) (BS BD [(Ce (BJ.mk BG BD BE BF BH BI thm) A x)]) mq.1), ((Ci (BJ.mk BG BD BE BF BH BI thm) A x mq.2).1)])) JC Dp At At At At (Bz (FP _)) (Iz _)) trivial (CD [5] At At At (.inl ⟨At, At, At⟩) (Fz p c BG BD BE BF BH BI thm (D3 (BJ.mk BG BD BE BF BH BI thm) (Ce (BJ.mk BG BD BE BF BH BI thm) A x) (Bc (BJ.mk BG BD BE BF BH BI thm) A (a.drop 1)) (Bc (BJ.mk BG BD BE BF BH BI thm) A b)) ([(DS (BJ.mk BG BD BE BF BH BI thm) (BS BD [(Ce (BJ.mk BG BD BE BF BH BI thm) A x)]) mq.1), ((Ci (BJ.mk BG BD BE BF BH BI thm) A x mq.2).1)]) AR) ⟨_, _, At, At, At⟩ (Cp _) (aw (we At) (aw (we At) (aw (we At) (Cv)))) AA trivial ?_)
   refine A4 At At (fun _ => Aw At) trivial (Cr At At (A6 (i := 4) Co At At At Aj Ab (Cb _)) AA trivial (A4 At At (fun _ => Ay At) trivial (CK At An (BB (⟨At, _, _, ⟨_, _, At, (Bn (i := 4) Co At At Aj), ⟨_, _, At, At, At⟩⟩, (Cj (is := [5, 6]) At), ?_⟩)))))
   all_goals exact ⟨by show (.tup [.agg ((CJ (Cm (BJ.mk BG BD BE BF BH BI thm) (D3 (BJ.mk BG BD BE BF BH BI thm) (Ce (BJ.mk BG BD BE BF BH BI thm) A x) (Bc (BJ.mk BG BD BE BF BH BI thm) A (a.drop 1)) (Bc (BJ.mk BG BD BE BF BH BI thm) A b)) ([(DS (BJ.mk BG BD BE BF BH BI thm) (BS BD [(Ce (BJ.mk BG BD BE BF BH BI thm) A x)]) mq.1), ((Ci (BJ.mk BG BD BE BF BH BI thm) A x mq.2).1)]))).map .p), .p (.lst (List.map Ca ((Ci (BJ.mk BG BD BE BF BH BI thm) A x mq.2).2)))] : AV) = _; rw [RR hx hmq], rfl⟩
theorem UK : ∀ (p c : Nat) (BG BD BE BF BH BI : ByteArray) (thm : List ByteArray) (m : Nat) (cs : List Int) (A : List Tm) (al : Int) (n : Nat) (l : List CY), (l.length ≤ n) → (l.length < 1000000) → (∀ y ∈ l, GX A y) → (thm.length = 14) → Bt Tryz.prog 92 [.ptr p 0, .p (.lst (List.map Ca l))] [.box p [.p (.str BG), .p (.str BD), .p (.str BE), .p (.str BF), .p (.str BH), .p (.str BI), .p (.lst (List.map Ch thm)), .ptr c 0], .box c [.p (.lst (List.map Cf cs)), .p (.lst (BR A)), .map m, .p (I al)]] (DC (.tup [.agg ((CJ ((Cz (BJ.mk BG BD BE BF BH BI thm) A l).1)).map .p), .p (.lst (List.map Ca ((Cz (BJ.mk BG BD BE BF BH BI thm) A l).2)))]) [.box p [.p (.str BG), .p (.str BD), .p (.str BE), .p (.str BF), .p (.str BH), .p (.str BI), .p (.lst (List.map Ch thm)), .ptr c 0], .box c [.p (.lst (List.map Cf cs)), .p (.lst (BR A)), .map m, .p (I al)]]) := by
 intro p c BG BD BE BF BH BI thm m cs A al  n
 induction n using Nat.strongRecOn with
 | ind n ih =>
  intro l h1 h2 h3 h4
  refine A8 Tryz.func92 At eR (n := 120) At At (Ax (Av (BM At At (BK Dp At) fun b4 => Au At At (Ay At) (Az At (Ax (Ax (Av (Au At At (Aw At) (Au At At (Bp Em At (List.length_map _)) (Au At At (BA At At At) ?_))))))))))
  refine Az At (A9 At (fun c1 => ?_) (fun c1 => ?_))
  ·(try simp only [sd, se] at c1)
   refine Ax (CQ (fun k => false) D0 (A4 At At (fun _ => Aw At) trivial (A4 At At (fun _ => Aw At) trivial (A4 At At (fun _ => Aw At) trivial (A4 At At (fun _ => Bd At) trivial (A4 At At (fun _ => A1 Hi At At) trivial (A4 At At (fun _ => A1 DU At At) trivial (BQ (j := 1) At At At (fun H i hi => A2 (i := i) FU At hi At) AA trivial (A4 At At (fun _ => DA At At (EL BE [] AN) (aw (we At) (aw (Cq At) (Cv)))) trivial (CD [1] At At At (.inl ⟨At, At, At⟩) (HA p c BG BD BE BF BH BI thm (BS BE [])) ⟨_, _, At, At, At⟩ (Cp _) (aw (we At) (aw (we At) (Cv))) AA trivial (A4 At At (fun _ => Aw At) trivial ?_)))))))))))
   refine A4 At At (fun _ => Bd At) trivial (A4 At At (fun _ => A1 Hi At At) trivial (A4 At At (fun _ => A1 DU At At) trivial (BQ (j := 1) At At At (fun H i hi => A2 (i := i) FU At hi At) AA trivial (A4 At At (fun _ => DA At At (EL BE [] AN) (aw (we At) (aw (Cq At) (Cv)))) trivial ?_))))
   refine CD [1] At At At (.inl ⟨At, At, At⟩) (Jj p c BG BD BE BF BH BI thm 6 (Ck (BJ.mk BG BD BE BF BH BI thm) (BS BE [])) (BS BE []) [] ⟨by decide, by rw [h4]; decide⟩ AR) ⟨_, _, rfl, rfl, rfl⟩ (Cp _) (aw (we rfl) (aw (we rfl) (aw (we rfl) (aw (we rfl) (aw (Cq rfl) (Cv)))))) AA trivial ?_
   refine Cr At At (A6 (i := 0) Co At At At Aj Ab (Cb _)) AA trivial (A4 At At (fun _ => Ay At) trivial (CK At An (CG (Ef 5) (BB (⟨At, _, _, ⟨_, _, At, (Bn (i := 0) Co At At Aj), ⟨_, _, At, At, At⟩⟩, (Cj (is := [1, 2]) At), ?_⟩)))))
   obtain rfl := List.length_eq_zero_iff.1 (by omega : l.length = 0)
   all_goals exact ⟨by show (.tup [.agg ((CJ (Eh (BJ.mk BG BD BE BF BH BI thm) 6 (Ck (BJ.mk BG BD BE BF BH BI thm) (BS BE [])) (BS BE []) [])).map .p), .p (.lst (List.map Ca []))] : AV) = _; simp only [Cz], rfl⟩
  ·(try simp only [sd, se] at c1)
   refine BC (Ax ?_)
   obtain ⟨x, hx⟩ := BP (l := l) (i := 0) Ar
   have hpx := Qn h3 hx
   simp only [GX] at hpx
   refine Dm [.val (.ptr p 0), .val (.p (.lst (List.map Ca l))), .val (.ref (Ca x)), .val (.agg ((Ca x).map .p)), .val (.agg ((Be (Ce (BJ.mk BG BD BE BF BH BI thm) A x)).map .p)), .val (.ptr p 0), .val (.p (.lst (List.map Ca l))), .val (.p (.lst (List.map Ca (l.drop 1)))), .val (.agg ((Be (Bc (BJ.mk BG BD BE BF BH BI thm) A (l.drop 1))).map .p)), .new [.p (I 0), .p (I 0), .p (.str ⟨#[]⟩), .p (.nils), .p (.nils)], .new [.p (I 0), .p (I 0), .p (.str ⟨#[]⟩), .p (.nils), .p (.nils)]] D0 At An An (BN At (fun Bs => Aw At) (BN At (fun Bs => Aw At) (BN At (fun Bs => BL Em At At Ar (D1 hx) (At)) (BN At (fun Bs => Bi G2 At (At)) ?_))))
   refine BN At (fun Bs => CU [1, 2] At (.inl ⟨At, At, At⟩) (K6 p c BG BD BE BF BH BI thm m cs A al x (Qn h3 hx)) ⟨_, _, At, At, ⟨_, _, At, At, At⟩⟩ Aq (aw (we At) (aw (we At) (Cv)))) (BN At (fun Bs => Aw At) (BN At (fun Bs => Aw At) (BN At (fun Bs => EA (lo := 1) Em At (Bz (DL _)) ⟨_, At⟩ At AU (Nat.le_refl _) (JH (f := Ca) l 1)) (BN At (fun Bs => CU [1, 2] At (.inl ⟨At, At, At⟩) (Ja p c BG BD BE BF BH BI thm m cs A al (l.drop 1) AW (H5 h3)) ⟨_, _, At, At, ⟨_, _, At, At, At⟩⟩ Aq (aw (we At) (aw (we At) (Cv)))) (E5 At (fun Bs => BK B7 At) fun b6 => E5 At (fun Bs => BK B7 At) fun b7 => Ed ?_)))))
   change AL _ _ _ 11 ⟨120, _, [.box b6 [.p (I 0), .p (I 0), .p (.str ⟨#[]⟩), .p (.nils), .p (.nils)], .box b7 [.p (I 0), .p (I 0), .p (.str ⟨#[]⟩), .p (.nils), .p (.nils)], .box b4 [.p (I 0), .p (I 0), .p (.str ⟨#[]⟩), .p (.nils), .p (.nils), .p (I 0), .p (I 0), .p (.str ⟨#[]⟩), .p (.nils), .p (.nils), .p (I 0), .p (I 0), .p (.str ⟨#[]⟩), .p (.nils), .p (.nils), .p (.bool false)], .box p [.p (.str BG), .p (.str BD), .p (.str BE), .p (.str BF), .p (.str BH), .p (.str BI), .p (.lst (List.map Ch thm)), .ptr c 0], .box c [.p (.lst (List.map Cf cs)), .p (.lst (BR A)), .map m, .p (I al)]], []⟩ _
   refine Au At At (A6 (i := 0) BO At At At Ak Ac (CF _)) (Au At At (A6 (i := 1) BO At At At Ak Ac (CF _)) (Az At (Ax ?_)))
   obtain ⟨xp, xm⟩ := x
   simp only at hpx
   refine Dm [.val (.p (.lst (List.map Ca l))), .val (.ref [I xp, .bool xm]), .val (.ref (List.drop 0 ([I xp, .bool xm]))), .val (.p (I xp)), .val (.p (.lst (List.map Ca l))), .val (.ref [I xp, .bool xm]), .val (.ref (List.drop 1 ([I xp, .bool xm]))), .val (.p (.bool xm)), .val (.p (.bool (!xm))), .val (.agg [.p (I xp), .p (.bool (!xm))]), .new [.p (I 0), .p (.bool false)]] D0 At An An (BN At (fun Bs => Aw At) (BN At (fun Bs => BL Em At At Ar (D1 hx) (At)) (BN At (fun Bs => DF H4 At At) (BN At (fun Bs => CI De At) (BN At (fun Bs => Aw At) (BN At (fun Bs => BL Em At At Ar (D1 hx) (At)) (BN At (fun Bs => DF H4 At At) (BN At (fun Bs => CI Wm At) (BN At (fun Bs => Cg At) (BN At (fun Bs => Br H4 IL At) ?_))))))))))
   refine E5 At (fun Bs => BK IL At) fun b8 => Ed ?_
   change AL _ _ _ 11 ⟨120, _, [.box b8 [.p (I 0), .p (.bool false)], .box b6 ((Be (Ce (BJ.mk BG BD BE BF BH BI thm) A (CY.mk xp xm))).map .p), .box b7 ((Be (Bc (BJ.mk BG BD BE BF BH BI thm) A (l.drop 1))).map .p), .box b4 [.p (I 0), .p (I 0), .p (.str ⟨#[]⟩), .p (.nils), .p (.nils), .p (I 0), .p (I 0), .p (.str ⟨#[]⟩), .p (.nils), .p (.nils), .p (I 0), .p (I 0), .p (.str ⟨#[]⟩), .p (.nils), .p (.nils), .p (.bool false)], .box p [.p (.str BG), .p (.str BD), .p (.str BE), .p (.str BF), .p (.str BH), .p (.str BI), .p (.lst (List.map Ch thm)), .ptr c 0], .box c [.p (.lst (List.map Cf cs)), .p (.lst (BR A)), .map m, .p (I al)]], []⟩ _
   refine Au At At (Bk (i := 0) G2 At At At At At At) (Az At (Ax (Av (Au At At (Aw At) (Au At At (Aw At) (Au At At (A0 (i := 1) BO At At Ak) (Au At At (B6 [4] At (.inl ⟨At, At, At⟩) (HA p c BG BD BE BF BH BI thm (Ce (BJ.mk BG BD BE BF BH BI thm) A (CY.mk xp xm))) ⟨_, _, At, At, At⟩ Aq At (.inl At)) (Au At At (B6 [4] At (.inl ⟨At, At, At⟩) (J0 p c BG BD BE BF BH BI thm (Ck (BJ.mk BG BD BE BF BH BI thm) (Ce (BJ.mk BG BD BE BF BH BI thm) A (CY.mk xp xm)))) ⟨_, _, At, At, At⟩ Aq At (.inl At)) (BM At At (BK Dp At) fun b9 => Au At At (A6 (i := 0) Co At At At Aj Ab (Cb _)) (Az At ?_))))))))))
   refine Ax (Ax (Av (Au At At (Aw At) (Au At At (BL Em At At Ar (D1 hx) (At)) (Au At At (DF H4 At At) (Au At At (CI Wm At) (Az At (A9 At (fun c2 => ?_) (fun c2 => ?_)))))))))
   ·(try simp only [sd, se] at c2)
    refine Ax ?_
    obtain ⟨x1, hx1⟩ := BP (l := A) (i := (xp : Int).toNat) Ar
    refine Dm [.val (.ptr p 0), .val (.ptr p 0), .val (.ptr p (0 + 7)), .val (.ptr c 0), .val (.ptr c 0), .val (.ptr c (0 + 1)), .val (.p (.lst (BR A))), .val (.p (.lst (List.map Ca l))), .val (.ref [I xp, .bool xm]), .val (.ref (List.drop 0 ([I xp, .bool xm]))), .val (.p (I xp)), .val (.ref (Be x1)), .val (.agg ((Be x1).map .p)), .new [.p (I 0), .p (I 0), .p (.str ⟨#[]⟩), .p (.nils), .p (.nils)]] D0 At An An (BN At (fun Bs => Aw At) (BN At (fun Bs => Bd At) (BN At (fun Bs => A1 Hi At At) (BN At (fun Bs => A2 (i := Bs.length + 5) Xf At (Bx At) At) (BN At (fun Bs => Bd At) (BN At (fun Bs => A1 HL At At) (BN At (fun Bs => A2 (i := Bs.length + 6) DQ At (Bx At) At) (BN At (fun Bs => Aw At) ?_))))))))
    refine BN At (fun Bs => BL Em At At Ar (D1 hx) (At)) (BN At (fun Bs => DF H4 At At) (BN At (fun Bs => CI De At) (BN At (fun Bs => BL By At At Ar (CH hx1) (Bj _)) (BN At (fun Bs => Bi BO At (Bj _)) (E5 At (fun Bs => BK B7 At) fun b10 => Ed ?_)))))
    change AL _ _ _ 14 ⟨120, _, [.box b10 [.p (I 0), .p (I 0), .p (.str ⟨#[]⟩), .p (.nils), .p (.nils)], .box b9 ((CJ (DW (BJ.mk BG BD BE BF BH BI thm) (Ck (BJ.mk BG BD BE BF BH BI thm) (Ce (BJ.mk BG BD BE BF BH BI thm) A (CY.mk xp xm))))).map .p), .box b8 [.p (I xp), .p (.bool (!xm))], .box b6 ((Be (Ce (BJ.mk BG BD BE BF BH BI thm) A (CY.mk xp xm))).map .p), .box b7 ((Be (Bc (BJ.mk BG BD BE BF BH BI thm) A (l.drop 1))).map .p), .box b4 [.p (I 0), .p (I 0), .p (.str ⟨#[]⟩), .p (.nils), .p (.nils), .p (I 0), .p (I 0), .p (.str ⟨#[]⟩), .p (.nils), .p (.nils), .p (I 0), .p (I 0), .p (.str ⟨#[]⟩), .p (.nils), .p (.nils), .p (.bool false)], .box p [.p (.str BG), .p (.str BD), .p (.str BE), .p (.str BF), .p (.str BH), .p (.str BI), .p (.lst (List.map Ch thm)), .ptr c 0], .box c [.p (.lst (List.map Cf cs)), .p (.lst (BR A)), .map m, .p (I al)]], []⟩ _
    refine Au At At (A6 (i := 0) BO At At At Ak Ac (CF _)) (Az At (CQ (fun k => false) D0 (A4 At At (fun _ => Aw At) trivial (A4 At At (fun _ => Aw At) trivial (BQ (j := 3) At At At (fun H i hi => A0 (i := i) BO At hi Ak) AA trivial (CD [6] At At At (.inl ⟨At, At, At⟩) (HA p c BG BD BE BF BH BI thm (Ce (BJ.mk BG BD BE BF BH BI thm) A (CY.mk xp xm))) ⟨_, _, At, At, At⟩ (Cp _) (aw (we At) (aw (we At) (Cv))) AA trivial (BQ (j := 0) At At At (fun H i hi => A0 (i := i) BO At hi Ak) AA trivial (BQ (j := 0) At At At (fun H i hi => A0 (i := i) BO At hi Ak) AA trivial (A4 At At (fun _ => BU (rows := BR [x1]) By B7 At At At At (Bz (CC _)) (C1 _)) trivial ?_)))))))))
    refine CD [6] At At At (.inl ⟨At, At, At⟩) (Jj p c BG BD BE BF BH BI thm 5 (Ck (BJ.mk BG BD BE BF BH BI thm) (Ce (BJ.mk BG BD BE BF BH BI thm) A (CY.mk xp xm))) x1 [x1] ⟨by decide, by rw [h4]; decide⟩ AR) ⟨_, _, rfl, rfl, rfl⟩ (Cp _) (aw (we rfl) (aw (we rfl) (aw (we rfl) (aw (we rfl) (aw (we rfl) (Cv)))))) AA trivial ?_
    refine Cr At At (A6 (i := 1) Co At At At Aj Ab (Cb _)) AA trivial (CK At An (Ax (Av (Au At At (Aw At) (Au At At (Aw At) (Au At At (EA (lo := 1) Em At (Bz (DL _)) ⟨_, At⟩ At AU (Nat.le_refl _) (JH (f := Ca) l 1)) (Au At At (B6 [6, 7] At (.inl ⟨At, At, At⟩) (ih (l.drop 1).length AY (l.drop 1) (Nat.le_refl _) AY (H5 h3) h4) ⟨_, _, At, At, ⟨_, _, At, At, At⟩⟩ Aq At (.inl At)) ?_)))))))
    generalize hnq : Cz (BJ.mk BG BD BE BF BH BI thm) A (l.drop 1) = nq
    refine Au At At (Aw At) (Au At At (BY At At) (Au At At (BY At At) (BM At At (BK Dp At) fun b11 => Au At At (A6 (i := 0) Co At At At Aj Ab (Cb _)) (Au At At (Ay At) (Az At (Ax ?_))))))
    refine Dm [.val (.ptr p 0), .val (.ptr p 0), .val (.ptr p 0), .val (.agg ((Be (Ce (BJ.mk BG BD BE BF BH BI thm) A (CY.mk xp xm))).map .p)), .val (.agg ((Be (Bc (BJ.mk BG BD BE BF BH BI thm) A (l.drop 1))).map .p)), .val (.agg ((Be (CW (BJ.mk BG BD BE BF BH BI thm) (Ce (BJ.mk BG BD BE BF BH BI thm) A (CY.mk xp xm)) (Bc (BJ.mk BG BD BE BF BH BI thm) A (l.drop 1)))).map .p)), .val (.agg ((Be (Ck (BJ.mk BG BD BE BF BH BI thm) (CW (BJ.mk BG BD BE BF BH BI thm) (Ce (BJ.mk BG BD BE BF BH BI thm) A (CY.mk xp xm)) (Bc (BJ.mk BG BD BE BF BH BI thm) A (l.drop 1))))).map .p)), .val (.ptr p 0), .val (.ptr p 0), .val (.agg ((Be (Ce (BJ.mk BG BD BE BF BH BI thm) A (CY.mk xp xm))).map .p)), .val (.agg ((Be (Ck (BJ.mk BG BD BE BF BH BI thm) (Ce (BJ.mk BG BD BE BF BH BI thm) A (CY.mk xp xm)))).map .p)), .val (.ptr p 0), .val (.agg ((Be (Bc (BJ.mk BG BD BE BF BH BI thm) A (l.drop 1))).map .p)), .val (.agg ((Be (Ck (BJ.mk BG BD BE BF BH BI thm) (Bc (BJ.mk BG BD BE BF BH BI thm) A (l.drop 1)))).map .p)), .val (.agg ((Be (CW (BJ.mk BG BD BE BF BH BI thm) (Ck (BJ.mk BG BD BE BF BH BI thm) (Ce (BJ.mk BG BD BE BF BH BI thm) A (CY.mk xp xm))) (Ck (BJ.mk BG BD BE BF BH BI thm) (Bc (BJ.mk BG BD BE BF BH BI thm) A (l.drop 1))))).map .p)), .val (.agg ((Be (Ce (BJ.mk BG BD BE BF BH BI thm) A (CY.mk xp xm))).map .p)), .val (.agg ((Be (Bc (BJ.mk BG BD BE BF BH BI thm) A (l.drop 1))).map .p)), .val (.p (.lst (BR [(Ce (BJ.mk BG BD BE BF BH BI thm) A (CY.mk xp xm)), (Bc (BJ.mk BG BD BE BF BH BI thm) A (l.drop 1))]))), .val (.agg ((CJ (Eh (BJ.mk BG BD BE BF BH BI thm) 4 (Ck (BJ.mk BG BD BE BF BH BI thm) (CW (BJ.mk BG BD BE BF BH BI thm) (Ce (BJ.mk BG BD BE BF BH BI thm) A (CY.mk xp xm)) (Bc (BJ.mk BG BD BE BF BH BI thm) A (l.drop 1)))) (CW (BJ.mk BG BD BE BF BH BI thm) (Ck (BJ.mk BG BD BE BF BH BI thm) (Ce (BJ.mk BG BD BE BF BH BI thm) A (CY.mk xp xm))) (Ck (BJ.mk BG BD BE BF BH BI thm) (Bc (BJ.mk BG BD BE BF BH BI thm) A (l.drop 1)))) [(Ce (BJ.mk BG BD BE BF BH BI thm) A (CY.mk xp xm)), (Bc (BJ.mk BG BD BE BF BH BI thm) A (l.drop 1))])).map .p)), .new [.p (I 0), .p (I 0), .p (.str ⟨#[]⟩), .p (.nils), .p (.nils), .p (I 0), .p (I 0), .p (.str ⟨#[]⟩), .p (.nils), .p (.nils), .p (I 0), .p (I 0), .p (.str ⟨#[]⟩), .p (.nils), .p (.nils), .p (.bool false)]] D0 At An An ?_
    refine BN At (fun Bs => Aw At) (BN At (fun Bs => Aw At) (BN At (fun Bs => Aw At) (BN At (fun Bs => A0 (i := Bs.length + 4) BO At (Bx At) Ak) (BN At (fun Bs => A0 (i := Bs.length + 5) BO At (Bx At) Ak) (BN At (fun Bs => CU [7] At (.inl ⟨At, At, At⟩) (ES p c BG BD BE BF BH BI thm (Ce (BJ.mk BG BD BE BF BH BI thm) A (CY.mk xp xm)) (Bc (BJ.mk BG BD BE BF BH BI thm) A (l.drop 1))) ⟨_, _, At, At, At⟩ Aq (aw (we At) (aw (we At) (aw (we At) (Cv))))) (BN At (fun Bs => CU [7] At (.inl ⟨At, At, At⟩) (HA p c BG BD BE BF BH BI thm (CW (BJ.mk BG BD BE BF BH BI thm) (Ce (BJ.mk BG BD BE BF BH BI thm) A (CY.mk xp xm)) (Bc (BJ.mk BG BD BE BF BH BI thm) A (l.drop 1)))) ⟨_, _, At, At, At⟩ Aq (aw (we At) (aw (we At) (Cv)))) ?_))))))
    refine BN At (fun Bs => Aw At) (BN At (fun Bs => Aw At) (BN At (fun Bs => A0 (i := Bs.length + 4) BO At (Bx At) Ak) (BN At (fun Bs => CU [7] At (.inl ⟨At, At, At⟩) (HA p c BG BD BE BF BH BI thm (Ce (BJ.mk BG BD BE BF BH BI thm) A (CY.mk xp xm))) ⟨_, _, At, At, At⟩ Aq (aw (we At) (aw (we At) (Cv)))) (BN At (fun Bs => Aw At) (BN At (fun Bs => A0 (i := Bs.length + 5) BO At (Bx At) Ak) (BN At (fun Bs => CU [7] At (.inl ⟨At, At, At⟩) (HA p c BG BD BE BF BH BI thm (Bc (BJ.mk BG BD BE BF BH BI thm) A (l.drop 1))) ⟨_, _, At, At, At⟩ Aq (aw (we At) (aw (we At) (Cv)))) ?_))))))
    refine BN At (fun Bs => CU [7] At (.inl ⟨At, At, At⟩) (ES p c BG BD BE BF BH BI thm (Ck (BJ.mk BG BD BE BF BH BI thm) (Ce (BJ.mk BG BD BE BF BH BI thm) A (CY.mk xp xm))) (Ck (BJ.mk BG BD BE BF BH BI thm) (Bc (BJ.mk BG BD BE BF BH BI thm) A (l.drop 1)))) ⟨_, _, At, At, At⟩ Aq (aw (we At) (aw (we At) (aw (we At) (Cv))))) (BN At (fun Bs => A0 (i := Bs.length + 4) BO At (Bx At) Ak) (BN At (fun Bs => A0 (i := Bs.length + 5) BO At (Bx At) Ak) (BN At (fun Bs => BU (rows := BR [(Ce (BJ.mk BG BD BE BF BH BI thm) A (CY.mk xp xm)), (Bc (BJ.mk BG BD BE BF BH BI thm) A (l.drop 1))]) By B7 At At At At (Bz (CC _)) (C1 _)) ?_)))
    refine BN At (fun Bs => CU [7] At (.inl ⟨At, At, At⟩) (Jj p c BG BD BE BF BH BI thm 4 (Ck (BJ.mk BG BD BE BF BH BI thm) (CW (BJ.mk BG BD BE BF BH BI thm) (Ce (BJ.mk BG BD BE BF BH BI thm) A (CY.mk xp xm)) (Bc (BJ.mk BG BD BE BF BH BI thm) A (l.drop 1)))) (CW (BJ.mk BG BD BE BF BH BI thm) (Ck (BJ.mk BG BD BE BF BH BI thm) (Ce (BJ.mk BG BD BE BF BH BI thm) A (CY.mk xp xm))) (Ck (BJ.mk BG BD BE BF BH BI thm) (Bc (BJ.mk BG BD BE BF BH BI thm) A (l.drop 1)))) [(Ce (BJ.mk BG BD BE BF BH BI thm) A (CY.mk xp xm)), (Bc (BJ.mk BG BD BE BF BH BI thm) A (l.drop 1))] ⟨by decide, by rw [h4]; decide⟩ AR) ⟨_, _, rfl, rfl, rfl⟩ Aq (aw (we rfl) (aw (we rfl) (aw (we rfl) (aw (we rfl) (aw (we rfl) (Cv))))))) ?_
    refine E5 At (fun Bs => BK Dp At) fun b13 => Ed ?_
    change AL _ _ _ 20 ⟨120, _, [.box b13 [.p (I 0), .p (I 0), .p (.str ⟨#[]⟩), .p (.nils), .p (.nils), .p (I 0), .p (I 0), .p (.str ⟨#[]⟩), .p (.nils), .p (.nils), .p (I 0), .p (I 0), .p (.str ⟨#[]⟩), .p (.nils), .p (.nils), .p (.bool false)], .box b11 ((CJ nq.1).map .p), .box b10 ((Be x1).map .p), .box b9 ((CJ (Eh (BJ.mk BG BD BE BF BH BI thm) 5 (Ck (BJ.mk BG BD BE BF BH BI thm) (Ce (BJ.mk BG BD BE BF BH BI thm) A (CY.mk xp xm))) x1 [x1])).map .p), .box b8 [.p (I xp), .p (.bool (!xm))], .box b6 ((Be (Ce (BJ.mk BG BD BE BF BH BI thm) A (CY.mk xp xm))).map .p), .box b7 ((Be (Bc (BJ.mk BG BD BE BF BH BI thm) A (l.drop 1))).map .p), .box b4 [.p (I 0), .p (I 0), .p (.str ⟨#[]⟩), .p (.nils), .p (.nils), .p (I 0), .p (I 0), .p (.str ⟨#[]⟩), .p (.nils), .p (.nils), .p (I 0), .p (I 0), .p (.str ⟨#[]⟩), .p (.nils), .p (.nils), .p (.bool false)], .box p [.p (.str BG), .p (.str BD), .p (.str BE), .p (.str BF), .p (.str BH), .p (.str BI), .p (.lst (List.map Ch thm)), .ptr c 0], .box c [.p (.lst (List.map Cf cs)), .p (.lst (BR A)), .map m, .p (I al)]], []⟩ _
    refine Au At At (A6 (i := 0) Co At At At Aj Ab (Cb _)) (Az At (Ax ?_))
    refine Dm [.val (.ptr p 0), .val (.agg ((CJ (Eh (BJ.mk BG BD BE BF BH BI thm) 4 (Ck (BJ.mk BG BD BE BF BH BI thm) (CW (BJ.mk BG BD BE BF BH BI thm) (Ce (BJ.mk BG BD BE BF BH BI thm) A (CY.mk xp xm)) (Bc (BJ.mk BG BD BE BF BH BI thm) A (l.drop 1)))) (CW (BJ.mk BG BD BE BF BH BI thm) (Ck (BJ.mk BG BD BE BF BH BI thm) (Ce (BJ.mk BG BD BE BF BH BI thm) A (CY.mk xp xm))) (Ck (BJ.mk BG BD BE BF BH BI thm) (Bc (BJ.mk BG BD BE BF BH BI thm) A (l.drop 1)))) [(Ce (BJ.mk BG BD BE BF BH BI thm) A (CY.mk xp xm)), (Bc (BJ.mk BG BD BE BF BH BI thm) A (l.drop 1))])).map .p)), .val (.ptr p 0), .val (.agg ((CJ (Eh (BJ.mk BG BD BE BF BH BI thm) 5 (Ck (BJ.mk BG BD BE BF BH BI thm) (Ce (BJ.mk BG BD BE BF BH BI thm) A (CY.mk xp xm))) x1 [x1])).map .p)), .val (.agg ((CJ nq.1).map .p)), .val (.agg ((CJ (FH (BJ.mk BG BD BE BF BH BI thm) (Eh (BJ.mk BG BD BE BF BH BI thm) 5 (Ck (BJ.mk BG BD BE BF BH BI thm) (Ce (BJ.mk BG BD BE BF BH BI thm) A (CY.mk xp xm))) x1 [x1]) nq.1)).map .p)), .val (.p (.lst (List.map CJ ([(FH (BJ.mk BG BD BE BF BH BI thm) (Eh (BJ.mk BG BD BE BF BH BI thm) 5 (Ck (BJ.mk BG BD BE BF BH BI thm) (Ce (BJ.mk BG BD BE BF BH BI thm) A (CY.mk xp xm))) x1 [x1]) nq.1)])))), .val (.agg ((CJ (Cm (BJ.mk BG BD BE BF BH BI thm) (Eh (BJ.mk BG BD BE BF BH BI thm) 4 (Ck (BJ.mk BG BD BE BF BH BI thm) (CW (BJ.mk BG BD BE BF BH BI thm) (Ce (BJ.mk BG BD BE BF BH BI thm) A (CY.mk xp xm)) (Bc (BJ.mk BG BD BE BF BH BI thm) A (l.drop 1)))) (CW (BJ.mk BG BD BE BF BH BI thm) (Ck (BJ.mk BG BD BE BF BH BI thm) (Ce (BJ.mk BG BD BE BF BH BI thm) A (CY.mk xp xm))) (Ck (BJ.mk BG BD BE BF BH BI thm) (Bc (BJ.mk BG BD BE BF BH BI thm) A (l.drop 1)))) [(Ce (BJ.mk BG BD BE BF BH BI thm) A (CY.mk xp xm)), (Bc (BJ.mk BG BD BE BF BH BI thm) A (l.drop 1))]) ([(FH (BJ.mk BG BD BE BF BH BI thm) (Eh (BJ.mk BG BD BE BF BH BI thm) 5 (Ck (BJ.mk BG BD BE BF BH BI thm) (Ce (BJ.mk BG BD BE BF BH BI thm) A (CY.mk xp xm))) x1 [x1]) nq.1)]))).map .p)), .val (.agg [.p (I xp), .p (.bool (!xm))]), .newv 2 (List.map Ca [(CY.mk xp (!xm))]), .val (.p (.lst (List.map Ca nq.2)))] D0 At An An ?_
    refine BN At (fun Bs => Aw At) (BN At (fun Bs => A0 (i := Bs.length + 0) Co At (Bx At) Aj) (BN At (fun Bs => Aw At) (BN At (fun Bs => A0 (i := Bs.length + 3) Co At (Bx At) Aj) (BN At (fun Bs => A0 (i := Bs.length + 1) Co At (Bx At) Aj) (BN At (fun Bs => CU [8] At (.inl ⟨At, At, At⟩) (Ll p c BG BD BE BF BH BI thm (Eh (BJ.mk BG BD BE BF BH BI thm) 5 (Ck (BJ.mk BG BD BE BF BH BI thm) (Ce (BJ.mk BG BD BE BF BH BI thm) A (CY.mk xp xm))) x1 [x1]) nq.1) ⟨_, _, At, At, At⟩ Aq (aw (we At) (aw (we At) (aw (we At) (Cv))))) ?_)))))
    refine BN At (fun Bs => BU (rows := List.map CJ ([(FH (BJ.mk BG BD BE BF BH BI thm) (Eh (BJ.mk BG BD BE BF BH BI thm) 5 (Ck (BJ.mk BG BD BE BF BH BI thm) (Ce (BJ.mk BG BD BE BF BH BI thm) A (CY.mk xp xm))) x1 [x1]) nq.1)])) JC Dp At At At At (Bz (FP _)) (Iz _)) ?_
    refine BN At (fun Bs => CU [8] At (.inl ⟨At, At, At⟩) (Fz p c BG BD BE BF BH BI thm (Eh (BJ.mk BG BD BE BF BH BI thm) 4 (Ck (BJ.mk BG BD BE BF BH BI thm) (CW (BJ.mk BG BD BE BF BH BI thm) (Ce (BJ.mk BG BD BE BF BH BI thm) A (CY.mk xp xm)) (Bc (BJ.mk BG BD BE BF BH BI thm) A (l.drop 1)))) (CW (BJ.mk BG BD BE BF BH BI thm) (Ck (BJ.mk BG BD BE BF BH BI thm) (Ce (BJ.mk BG BD BE BF BH BI thm) A (CY.mk xp xm))) (Ck (BJ.mk BG BD BE BF BH BI thm) (Bc (BJ.mk BG BD BE BF BH BI thm) A (l.drop 1)))) [(Ce (BJ.mk BG BD BE BF BH BI thm) A (CY.mk xp xm)), (Bc (BJ.mk BG BD BE BF BH BI thm) A (l.drop 1))]) ([(FH (BJ.mk BG BD BE BF BH BI thm) (Eh (BJ.mk BG BD BE BF BH BI thm) 5 (Ck (BJ.mk BG BD BE BF BH BI thm) (Ce (BJ.mk BG BD BE BF BH BI thm) A (CY.mk xp xm))) x1 [x1]) nq.1)]) AR) ⟨_, _, At, At, At⟩ Aq (aw (we At) (aw (we At) (aw (we At) (Cv))))) ?_
    refine BN At (fun Bs => A0 (i := Bs.length + 4) G2 At (Bx At) At) (Lq At (fun Bs => EZ (rows := List.map Ca [(CY.mk xp (!xm))]) Em IL At At At At (Bz (DL _)) (NA _)) fun b117 cp => BN At (fun Bs => Aw At) (Ed ?_))
    change AL _ _ _ 11 ⟨120, _, [.vec (some b117) 2 (List.map Ca [(CY.mk xp (!xm))]) cp, .box b13 ((CJ (Eh (BJ.mk BG BD BE BF BH BI thm) 4 (Ck (BJ.mk BG BD BE BF BH BI thm) (CW (BJ.mk BG BD BE BF BH BI thm) (Ce (BJ.mk BG BD BE BF BH BI thm) A (CY.mk xp xm)) (Bc (BJ.mk BG BD BE BF BH BI thm) A (l.drop 1)))) (CW (BJ.mk BG BD BE BF BH BI thm) (Ck (BJ.mk BG BD BE BF BH BI thm) (Ce (BJ.mk BG BD BE BF BH BI thm) A (CY.mk xp xm))) (Ck (BJ.mk BG BD BE BF BH BI thm) (Bc (BJ.mk BG BD BE BF BH BI thm) A (l.drop 1)))) [(Ce (BJ.mk BG BD BE BF BH BI thm) A (CY.mk xp xm)), (Bc (BJ.mk BG BD BE BF BH BI thm) A (l.drop 1))])).map .p), .box b11 ((CJ nq.1).map .p), .box b10 ((Be x1).map .p), .box b9 ((CJ (Eh (BJ.mk BG BD BE BF BH BI thm) 5 (Ck (BJ.mk BG BD BE BF BH BI thm) (Ce (BJ.mk BG BD BE BF BH BI thm) A (CY.mk xp xm))) x1 [x1])).map .p), .box b8 [.p (I xp), .p (.bool (!xm))], .box b6 ((Be (Ce (BJ.mk BG BD BE BF BH BI thm) A (CY.mk xp xm))).map .p), .box b7 ((Be (Bc (BJ.mk BG BD BE BF BH BI thm) A (l.drop 1))).map .p), .box b4 [.p (I 0), .p (I 0), .p (.str ⟨#[]⟩), .p (.nils), .p (.nils), .p (I 0), .p (I 0), .p (.str ⟨#[]⟩), .p (.nils), .p (.nils), .p (I 0), .p (I 0), .p (.str ⟨#[]⟩), .p (.nils), .p (.nils), .p (.bool false)], .box p [.p (.str BG), .p (.str BD), .p (.str BE), .p (.str BF), .p (.str BH), .p (.str BI), .p (.lst (List.map Ch thm)), .ptr c 0], .box c [.p (.lst (List.map Cf cs)), .p (.lst (BR A)), .map m, .p (I al)]], []⟩ _
    refine Au At At (FI (i := 0) (rows' := List.map Ca nq.2) Em Em IL At At At At At At (DL _) (by rw [List.length_map, List.length_map, ← hnq, Ii, List.length_drop]; simp only [List.length_cons, List.length_nil]; omega) (IE (f := Ca) [(CY.mk xp (!xm))] nq.2)) (Au At At (A6 (i := 7) Co At At At Aj Ab (Cb _)) (Au At At (Ay At) (Az At (BB (⟨At, _, _, ⟨_, _, At, (Bn (i := 7) Co At At Aj), ⟨_, _, At, At, At⟩⟩, (Cj (is := [8, 9]) At), ?_⟩)))))
    all_goals exact ⟨by show (.tup [.agg ((CJ (Cm (BJ.mk BG BD BE BF BH BI thm) (Eh (BJ.mk BG BD BE BF BH BI thm) 4 (Ck (BJ.mk BG BD BE BF BH BI thm) (CW (BJ.mk BG BD BE BF BH BI thm) (Ce (BJ.mk BG BD BE BF BH BI thm) A (CY.mk xp xm)) (Bc (BJ.mk BG BD BE BF BH BI thm) A (l.drop 1)))) (CW (BJ.mk BG BD BE BF BH BI thm) (Ck (BJ.mk BG BD BE BF BH BI thm) (Ce (BJ.mk BG BD BE BF BH BI thm) A (CY.mk xp xm))) (Ck (BJ.mk BG BD BE BF BH BI thm) (Bc (BJ.mk BG BD BE BF BH BI thm) A (l.drop 1)))) [(Ce (BJ.mk BG BD BE BF BH BI thm) A (CY.mk xp xm)), (Bc (BJ.mk BG BD BE BF BH BI thm) A (l.drop 1))]) ([(FH (BJ.mk BG BD BE BF BH BI thm) (Eh (BJ.mk BG BD BE BF BH BI thm) 5 (Ck (BJ.mk BG BD BE BF BH BI thm) (Ce (BJ.mk BG BD BE BF BH BI thm) A (CY.mk xp xm))) x1 [x1]) nq.1)]))).map .p), .p (.lst (List.map Ca ([(CY.mk xp (!xm))] ++ nq.2)))] : AV) = _; rw [La hx hnq]; simp only [IP]; rw [if_pos c2, Cs hx1]; rfl, rfl⟩
   ·(try simp only [sd, se] at c2)
    refine BC (Ax (Av (Au At At (Aw At) (Au At At (Aw At) (Au At At (EA (lo := 1) Em At (Bz (DL _)) ⟨_, At⟩ At AU (Nat.le_refl _) (JH (f := Ca) l 1)) (Au At At (B6 [5, 6] At (.inl ⟨At, At, At⟩) (ih (l.drop 1).length AY (l.drop 1) (Nat.le_refl _) AY (H5 h3) h4) ⟨_, _, At, At, ⟨_, _, At, At, At⟩⟩ Aq At (.inl At)) ?_))))))
    generalize hnq : Cz (BJ.mk BG BD BE BF BH BI thm) A (l.drop 1) = nq
    refine Au At At (Aw At) (Au At At (BY At At) (Au At At (BY At At) (BM At At (BK Dp At) fun b11 => Au At At (A6 (i := 0) Co At At At Aj Ab (Cb _)) (Au At At (Ay At) (Az At (Ax ?_))))))
    refine Dm [.val (.ptr p 0), .val (.ptr p 0), .val (.ptr p 0), .val (.agg ((Be (Ce (BJ.mk BG BD BE BF BH BI thm) A (CY.mk xp xm))).map .p)), .val (.agg ((Be (Bc (BJ.mk BG BD BE BF BH BI thm) A (l.drop 1))).map .p)), .val (.agg ((Be (CW (BJ.mk BG BD BE BF BH BI thm) (Ce (BJ.mk BG BD BE BF BH BI thm) A (CY.mk xp xm)) (Bc (BJ.mk BG BD BE BF BH BI thm) A (l.drop 1)))).map .p)), .val (.agg ((Be (Ck (BJ.mk BG BD BE BF BH BI thm) (CW (BJ.mk BG BD BE BF BH BI thm) (Ce (BJ.mk BG BD BE BF BH BI thm) A (CY.mk xp xm)) (Bc (BJ.mk BG BD BE BF BH BI thm) A (l.drop 1))))).map .p)), .val (.ptr p 0), .val (.ptr p 0), .val (.agg ((Be (Ce (BJ.mk BG BD BE BF BH BI thm) A (CY.mk xp xm))).map .p)), .val (.agg ((Be (Ck (BJ.mk BG BD BE BF BH BI thm) (Ce (BJ.mk BG BD BE BF BH BI thm) A (CY.mk xp xm)))).map .p)), .val (.ptr p 0), .val (.agg ((Be (Bc (BJ.mk BG BD BE BF BH BI thm) A (l.drop 1))).map .p)), .val (.agg ((Be (Ck (BJ.mk BG BD BE BF BH BI thm) (Bc (BJ.mk BG BD BE BF BH BI thm) A (l.drop 1)))).map .p)), .val (.agg ((Be (CW (BJ.mk BG BD BE BF BH BI thm) (Ck (BJ.mk BG BD BE BF BH BI thm) (Ce (BJ.mk BG BD BE BF BH BI thm) A (CY.mk xp xm))) (Ck (BJ.mk BG BD BE BF BH BI thm) (Bc (BJ.mk BG BD BE BF BH BI thm) A (l.drop 1))))).map .p)), .val (.agg ((Be (Ce (BJ.mk BG BD BE BF BH BI thm) A (CY.mk xp xm))).map .p)), .val (.agg ((Be (Bc (BJ.mk BG BD BE BF BH BI thm) A (l.drop 1))).map .p)), .val (.p (.lst (BR [(Ce (BJ.mk BG BD BE BF BH BI thm) A (CY.mk xp xm)), (Bc (BJ.mk BG BD BE BF BH BI thm) A (l.drop 1))]))), .val (.agg ((CJ (Eh (BJ.mk BG BD BE BF BH BI thm) 4 (Ck (BJ.mk BG BD BE BF BH BI thm) (CW (BJ.mk BG BD BE BF BH BI thm) (Ce (BJ.mk BG BD BE BF BH BI thm) A (CY.mk xp xm)) (Bc (BJ.mk BG BD BE BF BH BI thm) A (l.drop 1)))) (CW (BJ.mk BG BD BE BF BH BI thm) (Ck (BJ.mk BG BD BE BF BH BI thm) (Ce (BJ.mk BG BD BE BF BH BI thm) A (CY.mk xp xm))) (Ck (BJ.mk BG BD BE BF BH BI thm) (Bc (BJ.mk BG BD BE BF BH BI thm) A (l.drop 1)))) [(Ce (BJ.mk BG BD BE BF BH BI thm) A (CY.mk xp xm)), (Bc (BJ.mk BG BD BE BF BH BI thm) A (l.drop 1))])).map .p)), .new [.p (I 0), .p (I 0), .p (.str ⟨#[]⟩), .p (.nils), .p (.nils), .p (I 0), .p (I 0), .p (.str ⟨#[]⟩), .p (.nils), .p (.nils), .p (I 0), .p (I 0), .p (.str ⟨#[]⟩), .p (.nils), .p (.nils), .p (.bool false)]] D0 At An An ?_
    refine BN At (fun Bs => Aw At) (BN At (fun Bs => Aw At) (BN At (fun Bs => Aw At) (BN At (fun Bs => A0 (i := Bs.length + 3) BO At (Bx At) Ak) (BN At (fun Bs => A0 (i := Bs.length + 4) BO At (Bx At) Ak) (BN At (fun Bs => CU [6] At (.inl ⟨At, At, At⟩) (ES p c BG BD BE BF BH BI thm (Ce (BJ.mk BG BD BE BF BH BI thm) A (CY.mk xp xm)) (Bc (BJ.mk BG BD BE BF BH BI thm) A (l.drop 1))) ⟨_, _, At, At, At⟩ Aq (aw (we At) (aw (we At) (aw (we At) (Cv))))) (BN At (fun Bs => CU [6] At (.inl ⟨At, At, At⟩) (HA p c BG BD BE BF BH BI thm (CW (BJ.mk BG BD BE BF BH BI thm) (Ce (BJ.mk BG BD BE BF BH BI thm) A (CY.mk xp xm)) (Bc (BJ.mk BG BD BE BF BH BI thm) A (l.drop 1)))) ⟨_, _, At, At, At⟩ Aq (aw (we At) (aw (we At) (Cv)))) ?_))))))
    refine BN At (fun Bs => Aw At) (BN At (fun Bs => Aw At) (BN At (fun Bs => A0 (i := Bs.length + 3) BO At (Bx At) Ak) (BN At (fun Bs => CU [6] At (.inl ⟨At, At, At⟩) (HA p c BG BD BE BF BH BI thm (Ce (BJ.mk BG BD BE BF BH BI thm) A (CY.mk xp xm))) ⟨_, _, At, At, At⟩ Aq (aw (we At) (aw (we At) (Cv)))) (BN At (fun Bs => Aw At) (BN At (fun Bs => A0 (i := Bs.length + 4) BO At (Bx At) Ak) (BN At (fun Bs => CU [6] At (.inl ⟨At, At, At⟩) (HA p c BG BD BE BF BH BI thm (Bc (BJ.mk BG BD BE BF BH BI thm) A (l.drop 1))) ⟨_, _, At, At, At⟩ Aq (aw (we At) (aw (we At) (Cv)))) ?_))))))
    refine BN At (fun Bs => CU [6] At (.inl ⟨At, At, At⟩) (ES p c BG BD BE BF BH BI thm (Ck (BJ.mk BG BD BE BF BH BI thm) (Ce (BJ.mk BG BD BE BF BH BI thm) A (CY.mk xp xm))) (Ck (BJ.mk BG BD BE BF BH BI thm) (Bc (BJ.mk BG BD BE BF BH BI thm) A (l.drop 1)))) ⟨_, _, At, At, At⟩ Aq (aw (we At) (aw (we At) (aw (we At) (Cv))))) (BN At (fun Bs => A0 (i := Bs.length + 3) BO At (Bx At) Ak) (BN At (fun Bs => A0 (i := Bs.length + 4) BO At (Bx At) Ak) (BN At (fun Bs => BU (rows := BR [(Ce (BJ.mk BG BD BE BF BH BI thm) A (CY.mk xp xm)), (Bc (BJ.mk BG BD BE BF BH BI thm) A (l.drop 1))]) By B7 At At At At (Bz (CC _)) (C1 _)) ?_)))
    refine BN At (fun Bs => CU [6] At (.inl ⟨At, At, At⟩) (Jj p c BG BD BE BF BH BI thm 4 (Ck (BJ.mk BG BD BE BF BH BI thm) (CW (BJ.mk BG BD BE BF BH BI thm) (Ce (BJ.mk BG BD BE BF BH BI thm) A (CY.mk xp xm)) (Bc (BJ.mk BG BD BE BF BH BI thm) A (l.drop 1)))) (CW (BJ.mk BG BD BE BF BH BI thm) (Ck (BJ.mk BG BD BE BF BH BI thm) (Ce (BJ.mk BG BD BE BF BH BI thm) A (CY.mk xp xm))) (Ck (BJ.mk BG BD BE BF BH BI thm) (Bc (BJ.mk BG BD BE BF BH BI thm) A (l.drop 1)))) [(Ce (BJ.mk BG BD BE BF BH BI thm) A (CY.mk xp xm)), (Bc (BJ.mk BG BD BE BF BH BI thm) A (l.drop 1))] ⟨by decide, by rw [h4]; decide⟩ AR) ⟨_, _, rfl, rfl, rfl⟩ Aq (aw (we rfl) (aw (we rfl) (aw (we rfl) (aw (we rfl) (aw (we rfl) (Cv))))))) ?_
    refine E5 At (fun Bs => BK Dp At) fun b13 => Ed ?_
    change AL _ _ _ 20 ⟨120, _, [.box b13 [.p (I 0), .p (I 0), .p (.str ⟨#[]⟩), .p (.nils), .p (.nils), .p (I 0), .p (I 0), .p (.str ⟨#[]⟩), .p (.nils), .p (.nils), .p (I 0), .p (I 0), .p (.str ⟨#[]⟩), .p (.nils), .p (.nils), .p (.bool false)], .box b11 ((CJ nq.1).map .p), .box b9 ((CJ (DW (BJ.mk BG BD BE BF BH BI thm) (Ck (BJ.mk BG BD BE BF BH BI thm) (Ce (BJ.mk BG BD BE BF BH BI thm) A (CY.mk xp xm))))).map .p), .box b8 [.p (I xp), .p (.bool (!xm))], .box b6 ((Be (Ce (BJ.mk BG BD BE BF BH BI thm) A (CY.mk xp xm))).map .p), .box b7 ((Be (Bc (BJ.mk BG BD BE BF BH BI thm) A (l.drop 1))).map .p), .box b4 [.p (I 0), .p (I 0), .p (.str ⟨#[]⟩), .p (.nils), .p (.nils), .p (I 0), .p (I 0), .p (.str ⟨#[]⟩), .p (.nils), .p (.nils), .p (I 0), .p (I 0), .p (.str ⟨#[]⟩), .p (.nils), .p (.nils), .p (.bool false)], .box p [.p (.str BG), .p (.str BD), .p (.str BE), .p (.str BF), .p (.str BH), .p (.str BI), .p (.lst (List.map Ch thm)), .ptr c 0], .box c [.p (.lst (List.map Cf cs)), .p (.lst (BR A)), .map m, .p (I al)]], []⟩ _
    refine Au At At (A6 (i := 0) Co At At At Aj Ab (Cb _)) (Az At (Ax ?_))
    refine Dm [.val (.ptr p 0), .val (.agg ((CJ (Eh (BJ.mk BG BD BE BF BH BI thm) 4 (Ck (BJ.mk BG BD BE BF BH BI thm) (CW (BJ.mk BG BD BE BF BH BI thm) (Ce (BJ.mk BG BD BE BF BH BI thm) A (CY.mk xp xm)) (Bc (BJ.mk BG BD BE BF BH BI thm) A (l.drop 1)))) (CW (BJ.mk BG BD BE BF BH BI thm) (Ck (BJ.mk BG BD BE BF BH BI thm) (Ce (BJ.mk BG BD BE BF BH BI thm) A (CY.mk xp xm))) (Ck (BJ.mk BG BD BE BF BH BI thm) (Bc (BJ.mk BG BD BE BF BH BI thm) A (l.drop 1)))) [(Ce (BJ.mk BG BD BE BF BH BI thm) A (CY.mk xp xm)), (Bc (BJ.mk BG BD BE BF BH BI thm) A (l.drop 1))])).map .p)), .val (.ptr p 0), .val (.agg ((CJ (DW (BJ.mk BG BD BE BF BH BI thm) (Ck (BJ.mk BG BD BE BF BH BI thm) (Ce (BJ.mk BG BD BE BF BH BI thm) A (CY.mk xp xm))))).map .p)), .val (.agg ((CJ nq.1).map .p)), .val (.agg ((CJ (FH (BJ.mk BG BD BE BF BH BI thm) (DW (BJ.mk BG BD BE BF BH BI thm) (Ck (BJ.mk BG BD BE BF BH BI thm) (Ce (BJ.mk BG BD BE BF BH BI thm) A (CY.mk xp xm)))) nq.1)).map .p)), .val (.p (.lst (List.map CJ [(FH (BJ.mk BG BD BE BF BH BI thm) (DW (BJ.mk BG BD BE BF BH BI thm) (Ck (BJ.mk BG BD BE BF BH BI thm) (Ce (BJ.mk BG BD BE BF BH BI thm) A (CY.mk xp xm)))) nq.1)]))), .val (.agg ((CJ (Cm (BJ.mk BG BD BE BF BH BI thm) (Eh (BJ.mk BG BD BE BF BH BI thm) 4 (Ck (BJ.mk BG BD BE BF BH BI thm) (CW (BJ.mk BG BD BE BF BH BI thm) (Ce (BJ.mk BG BD BE BF BH BI thm) A (CY.mk xp xm)) (Bc (BJ.mk BG BD BE BF BH BI thm) A (l.drop 1)))) (CW (BJ.mk BG BD BE BF BH BI thm) (Ck (BJ.mk BG BD BE BF BH BI thm) (Ce (BJ.mk BG BD BE BF BH BI thm) A (CY.mk xp xm))) (Ck (BJ.mk BG BD BE BF BH BI thm) (Bc (BJ.mk BG BD BE BF BH BI thm) A (l.drop 1)))) [(Ce (BJ.mk BG BD BE BF BH BI thm) A (CY.mk xp xm)), (Bc (BJ.mk BG BD BE BF BH BI thm) A (l.drop 1))]) [(FH (BJ.mk BG BD BE BF BH BI thm) (DW (BJ.mk BG BD BE BF BH BI thm) (Ck (BJ.mk BG BD BE BF BH BI thm) (Ce (BJ.mk BG BD BE BF BH BI thm) A (CY.mk xp xm)))) nq.1)])).map .p)), .val (.agg [.p (I xp), .p (.bool (!xm))]), .newv 2 (List.map Ca [(CY.mk xp (!xm))]), .val (.p (.lst (List.map Ca nq.2)))] D0 At An An ?_
    refine BN At (fun Bs => Aw At) (BN At (fun Bs => A0 (i := Bs.length + 0) Co At (Bx At) Aj) (BN At (fun Bs => Aw At) (BN At (fun Bs => A0 (i := Bs.length + 2) Co At (Bx At) Aj) (BN At (fun Bs => A0 (i := Bs.length + 1) Co At (Bx At) Aj) (BN At (fun Bs => CU [7] At (.inl ⟨At, At, At⟩) (Ll p c BG BD BE BF BH BI thm (DW (BJ.mk BG BD BE BF BH BI thm) (Ck (BJ.mk BG BD BE BF BH BI thm) (Ce (BJ.mk BG BD BE BF BH BI thm) A (CY.mk xp xm)))) nq.1) ⟨_, _, At, At, At⟩ Aq (aw (we At) (aw (we At) (aw (we At) (Cv))))) ?_)))))
    refine BN At (fun Bs => BU (rows := List.map CJ [(FH (BJ.mk BG BD BE BF BH BI thm) (DW (BJ.mk BG BD BE BF BH BI thm) (Ck (BJ.mk BG BD BE BF BH BI thm) (Ce (BJ.mk BG BD BE BF BH BI thm) A (CY.mk xp xm)))) nq.1)]) JC Dp At At At At (Bz (FP _)) (Iz _)) ?_
    refine BN At (fun Bs => CU [7] At (.inl ⟨At, At, At⟩) (Fz p c BG BD BE BF BH BI thm (Eh (BJ.mk BG BD BE BF BH BI thm) 4 (Ck (BJ.mk BG BD BE BF BH BI thm) (CW (BJ.mk BG BD BE BF BH BI thm) (Ce (BJ.mk BG BD BE BF BH BI thm) A (CY.mk xp xm)) (Bc (BJ.mk BG BD BE BF BH BI thm) A (l.drop 1)))) (CW (BJ.mk BG BD BE BF BH BI thm) (Ck (BJ.mk BG BD BE BF BH BI thm) (Ce (BJ.mk BG BD BE BF BH BI thm) A (CY.mk xp xm))) (Ck (BJ.mk BG BD BE BF BH BI thm) (Bc (BJ.mk BG BD BE BF BH BI thm) A (l.drop 1)))) [(Ce (BJ.mk BG BD BE BF BH BI thm) A (CY.mk xp xm)), (Bc (BJ.mk BG BD BE BF BH BI thm) A (l.drop 1))]) [(FH (BJ.mk BG BD BE BF BH BI thm) (DW (BJ.mk BG BD BE BF BH BI thm) (Ck (BJ.mk BG BD BE BF BH BI thm) (Ce (BJ.mk BG BD BE BF BH BI thm) A (CY.mk xp xm)))) nq.1)] AR) ⟨_, _, At, At, At⟩ Aq (aw (we At) (aw (we At) (aw (we At) (Cv))))) ?_
    refine BN At (fun Bs => A0 (i := Bs.length + 3) G2 At (Bx At) At) (Lq At (fun Bs => EZ (rows := List.map Ca [(CY.mk xp (!xm))]) Em IL At At At At (Bz (DL _)) (NA _)) fun b117 cp => BN At (fun Bs => Aw At) (Ed ?_))
    change AL _ _ _ 11 ⟨120, _, [.vec (some b117) 2 (List.map Ca [(CY.mk xp (!xm))]) cp, .box b13 ((CJ (Eh (BJ.mk BG BD BE BF BH BI thm) 4 (Ck (BJ.mk BG BD BE BF BH BI thm) (CW (BJ.mk BG BD BE BF BH BI thm) (Ce (BJ.mk BG BD BE BF BH BI thm) A (CY.mk xp xm)) (Bc (BJ.mk BG BD BE BF BH BI thm) A (l.drop 1)))) (CW (BJ.mk BG BD BE BF BH BI thm) (Ck (BJ.mk BG BD BE BF BH BI thm) (Ce (BJ.mk BG BD BE BF BH BI thm) A (CY.mk xp xm))) (Ck (BJ.mk BG BD BE BF BH BI thm) (Bc (BJ.mk BG BD BE BF BH BI thm) A (l.drop 1)))) [(Ce (BJ.mk BG BD BE BF BH BI thm) A (CY.mk xp xm)), (Bc (BJ.mk BG BD BE BF BH BI thm) A (l.drop 1))])).map .p), .box b11 ((CJ nq.1).map .p), .box b9 ((CJ (DW (BJ.mk BG BD BE BF BH BI thm) (Ck (BJ.mk BG BD BE BF BH BI thm) (Ce (BJ.mk BG BD BE BF BH BI thm) A (CY.mk xp xm))))).map .p), .box b8 [.p (I xp), .p (.bool (!xm))], .box b6 ((Be (Ce (BJ.mk BG BD BE BF BH BI thm) A (CY.mk xp xm))).map .p), .box b7 ((Be (Bc (BJ.mk BG BD BE BF BH BI thm) A (l.drop 1))).map .p), .box b4 [.p (I 0), .p (I 0), .p (.str ⟨#[]⟩), .p (.nils), .p (.nils), .p (I 0), .p (I 0), .p (.str ⟨#[]⟩), .p (.nils), .p (.nils), .p (I 0), .p (I 0), .p (.str ⟨#[]⟩), .p (.nils), .p (.nils), .p (.bool false)], .box p [.p (.str BG), .p (.str BD), .p (.str BE), .p (.str BF), .p (.str BH), .p (.str BI), .p (.lst (List.map Ch thm)), .ptr c 0], .box c [.p (.lst (List.map Cf cs)), .p (.lst (BR A)), .map m, .p (I al)]], []⟩ _
    refine Au At At (FI (i := 0) (rows' := List.map Ca nq.2) Em Em IL At At At At At At (DL _) (by rw [List.length_map, List.length_map, ← hnq, Ii, List.length_drop]; simp only [List.length_cons, List.length_nil]; omega) (IE (f := Ca) [(CY.mk xp (!xm))] nq.2)) (Au At At (A6 (i := 6) Co At At At Aj Ab (Cb _)) (Au At At (Ay At) (Az At (BB (⟨At, _, _, ⟨_, _, At, (Bn (i := 6) Co At At Aj), ⟨_, _, At, At, At⟩⟩, (Cj (is := [7, 8]) At), ?_⟩)))))
    all_goals exact ⟨by show (.tup [.agg ((CJ (Cm (BJ.mk BG BD BE BF BH BI thm) (Eh (BJ.mk BG BD BE BF BH BI thm) 4 (Ck (BJ.mk BG BD BE BF BH BI thm) (CW (BJ.mk BG BD BE BF BH BI thm) (Ce (BJ.mk BG BD BE BF BH BI thm) A (CY.mk xp xm)) (Bc (BJ.mk BG BD BE BF BH BI thm) A (l.drop 1)))) (CW (BJ.mk BG BD BE BF BH BI thm) (Ck (BJ.mk BG BD BE BF BH BI thm) (Ce (BJ.mk BG BD BE BF BH BI thm) A (CY.mk xp xm))) (Ck (BJ.mk BG BD BE BF BH BI thm) (Bc (BJ.mk BG BD BE BF BH BI thm) A (l.drop 1)))) [(Ce (BJ.mk BG BD BE BF BH BI thm) A (CY.mk xp xm)), (Bc (BJ.mk BG BD BE BF BH BI thm) A (l.drop 1))]) [(FH (BJ.mk BG BD BE BF BH BI thm) (DW (BJ.mk BG BD BE BF BH BI thm) (Ck (BJ.mk BG BD BE BF BH BI thm) (Ce (BJ.mk BG BD BE BF BH BI thm) A (CY.mk xp xm)))) nq.1)])).map .p), .p (.lst (List.map Ca ([(CY.mk xp (!xm))] ++ nq.2)))] : AV) = _; rw [La hx hnq]; simp only [IP]; rw [if_neg (by rw [c2]; decide)]; rfl, rfl⟩
theorem bA (GL : List (Nat × Obj)) (hG : Gl GL) (c m : Nat) (cs : List Int) (A : List Tm) (al : Int) (t : Tm) (h1 : ER t) (h2 : size t < 1000000) (h3 : t ∈ A) (h4 : ∀ a ∈ A, My a) : Bt Tryz.prog 85 [.ptr c 0, TV t] [.box c [.p (.lst (List.map Cf cs)), .p (.lst (BR A)), .map m, .p (I al)], .map m (Du (FR 0 A)), .glob GL] (DC (.p (I (Cl A t : Nat))) [.box c [.p (.lst (List.map Cf cs)), .p (.lst (BR A)), .map m, .p (I al)], .map m (Du (FR 0 A)), .glob GL]) :=
 (YO GL c m _ _ _ A t hG h1 h2 h3 h4).mono (by rintro r H' ⟨rfl, rfl⟩; exact ⟨rfl, rfl⟩)
theorem Zy : ∀ (GL : List (Nat × Obj)) (hG : Gl GL) (b0 b1 : Nat) (p c : Nat) (BG BD BE BF BH BI : ByteArray) (thm : List ByteArray)(m : Nat) (cs : List Int) (A : List Tm) (al : Int)(t : Tm), (ER t) → (size t < 1000000) → (t ∈ A) → (∀ a ∈ A, My a) → (thm.length = 14) → Bt Tryz.prog 80 [.ptr b0 0, .ptr b1 0] [.box b0 [.ptr p 0], .box b1 ((Be t).map .p), .box p [.p (.str BG), .p (.str BD), .p (.str BE), .p (.str BF), .p (.str BH), .p (.str BI), .p (.lst (List.map Ch thm)), .ptr c 0], .box c [.p (.lst (List.map Cf cs)), .p (.lst (BR A)), .map m, .p (I al)], .map m (Du (FR 0 A)), .glob GL] (DC (.tup [.agg ((CJ (Cm (BJ.mk BG BD BE BF BH BI thm) (GG (BJ.mk BG BD BE BF BH BI thm) (IV (BJ.mk BG BD BE BF BH BI thm) t)) [Gn (BJ.mk BG BD BE BF BH BI thm) (BS BE []) t])).map .p), .p (.lst (List.map Ca [CY.mk (Cl A t : Nat) false]))]) [.box b0 [.ptr p 0], .box b1 ((Be t).map .p), .box p [.p (.str BG), .p (.str BD), .p (.str BE), .p (.str BF), .p (.str BH), .p (.str BI), .p (.lst (List.map Ch thm)), .ptr c 0], .box c [.p (.lst (List.map Cf cs)), .p (.lst (BR A)), .map m, .p (I al)], .map m (Du (FR 0 A)), .glob GL]) := by
 intro GL hG b0 b1 p c BG BD BE BF BH BI thm m cs A al t h1 h2 h3 h4 h5
 refine A8 Tryz.func80 At dO (n := 31) At At (Ax (Av (BM At At (BK Dp At) fun b2 => Au At At (Ay At) (Az At (Ax (Av (Au At At (A2 (i := 1) IC At At At) (Au At At (Bd At) (Au At At (A1 Hi At At) (Au At At (A1 DU At At) ?_))))))))))
 refine Au At At (A2 (i := 3) FU At At At) (Au At At (DA At At (EL BE [] AN) (aw (we At) (aw (Cq At) (Cv)))) (BM At At (BK B7 At) fun b4 => Au At At (A6 (i := 0) BO At At At Ak Ac (CF _)) (Az At (Ax (CQ (fun k => false) D0 (BQ (j := 2) At At At (fun H i hi => A2 (i := i) IC At hi At) AA trivial (BQ (j := 2) At At At (fun H i hi => A2 (i := i) IC At hi At) AA trivial (BQ (j := 2) At At At (fun H i hi => A2 (i := i) IC At hi At) AA trivial (BQ (j := 3) At At At (fun H i hi => A0 (i := i) BO At hi Ak) AA trivial (CD [4] At At At (.inl ⟨At, At, At⟩) (QF p c BG BD BE BF BH BI thm t h5) ⟨_, _, At, At, At⟩ (Cp _) (aw (we At) (aw (we At) (Cv))) AA trivial ?_))))))))))
 refine CD [4] At At At (.inl ⟨At, At, At⟩) (Sd p c BG BD BE BF BH BI thm (IV (BJ.mk BG BD BE BF BH BI thm) t)) ⟨_, _, At, At, At⟩ (Cp _) (aw (we At) (aw (we At) (Cv))) AA trivial (BQ (j := 2) At At At (fun H i hi => A2 (i := i) IC At hi At) AA trivial (BQ (j := 0) At At At (fun H i hi => A0 (i := i) BO At hi Ak) AA trivial (BQ (j := 3) At At At (fun H i hi => A0 (i := i) BO At hi Ak) AA trivial (CD [4] At At At (.inl ⟨At, At, At⟩) (QO p c BG BD BE BF BH BI thm (BS BE []) t h5) ⟨_, _, At, At, At⟩ (Cp _) (aw (we At) (aw (we At) (aw (we At) (Cv)))) AA trivial (A4 At At (fun _ => BU (rows := List.map CJ ([(Gn (BJ.mk BG BD BE BF BH BI thm) (BS BE []) t)])) JC Dp At At At At (Bz (FP _)) (Iz _)) trivial ?_)))))
 refine CD [4] At At At (.inl ⟨At, At, At⟩) (Fz p c BG BD BE BF BH BI thm (GG (BJ.mk BG BD BE BF BH BI thm) (IV (BJ.mk BG BD BE BF BH BI thm) t)) ([(Gn (BJ.mk BG BD BE BF BH BI thm) (BS BE []) t)]) AR) ⟨_, _, At, At, At⟩ (Cp _) (aw (we At) (aw (we At) (aw (we At) (Cv)))) AA trivial (BQ (j := 2) At At At (fun H i hi => A2 (i := i) IC At hi At) AA trivial (A4 At At (fun _ => Bd At) trivial (A4 At At (fun _ => A1 Hi At At) trivial (BQ (j := 4) At At At (fun H i hi => A2 (i := i) Xf At hi At) AA trivial (BQ (j := 3) At At At (fun H i hi => A0 (i := i) BO At hi Ak) AA trivial ?_)))))
 refine CD [5, 6, 7] At At At (.inl ⟨At, At, At⟩) (bA GL hG c m cs A al t h1 h2 h3 h4) ⟨_, _, At, At, ⟨_, _, At, At, ⟨_, _, At, At, At⟩⟩⟩ VV (aw (we At) (aw (we At) (Cv))) AA trivial (A4 At At (fun _ => Br H4 IL At) trivial (A4 At At (fun _ => BU (rows := List.map Ca [(CY.mk (Cl A t : Nat) false)]) Em IL At At At At (Bz (DL _)) (NA _)) trivial (Cr At At (A6 (i := 1) Co At At At Aj Ab (Cb _)) AA trivial (A4 At At (fun _ => Ay At) trivial (CK At An (BB (⟨At, _, _, ⟨_, _, At, (Bn (i := 1) Co At At Aj), ⟨_, _, At, At, At⟩⟩, (Cj (is := [2, 3, 4, 5, 6, 7]) At), ?_⟩)))))))
 all_goals exact ⟨rfl, rfl⟩
theorem bQ : ∀ (GL : List (Nat × Obj)) (hG : Gl GL) (b0 b1 : Nat) (p c : Nat) (BG BD BE BF BH BI : ByteArray) (thm : List ByteArray)(m : Nat) (cs : List Int) (A : List Tm) (al : Int)(n : Nat) (us : List Tm) (x y : Tm), (us[0]? = some x) → (us[1]? = some y) → (Bt Tryz.prog 47 [.ptr p 0, TV x] [.box p [.p (.str BG), .p (.str BD), .p (.str BE), .p (.str BF), .p (.str BH), .p (.str BI), .p (.lst (List.map Ch thm)), .ptr c 0], .box c [.p (.lst (List.map Cf cs)), .p (.lst (BR A)), .map m, .p (I al)], .map m (Du (FR 0 A)), .glob GL] (DC (.tup [.agg ((CJ (Bv (BJ.mk BG BD BE BF BH BI thm) A n x).1).map .p), .p (.lst (List.map Ca (Bv (BJ.mk BG BD BE BF BH BI thm) A n x).2))]) [.box p [.p (.str BG), .p (.str BD), .p (.str BE), .p (.str BF), .p (.str BH), .p (.str BI), .p (.lst (List.map Ch thm)), .ptr c 0], .box c [.p (.lst (List.map Cf cs)), .p (.lst (BR A)), .map m, .p (I al)], .map m (Du (FR 0 A)), .glob GL])) → (Bt Tryz.prog 47 [.ptr p 0, TV y] [.box p [.p (.str BG), .p (.str BD), .p (.str BE), .p (.str BF), .p (.str BH), .p (.str BI), .p (.lst (List.map Ch thm)), .ptr c 0], .box c [.p (.lst (List.map Cf cs)), .p (.lst (BR A)), .map m, .p (I al)], .map m (Du (FR 0 A)), .glob GL] (DC (.tup [.agg ((CJ (Bv (BJ.mk BG BD BE BF BH BI thm) A n y).1).map .p), .p (.lst (List.map Ca (Bv (BJ.mk BG BD BE BF BH BI thm) A n y).2))]) [.box p [.p (.str BG), .p (.str BD), .p (.str BE), .p (.str BF), .p (.str BH), .p (.str BI), .p (.lst (List.map Ch thm)), .ptr c 0], .box c [.p (.lst (List.map Cf cs)), .p (.lst (BR A)), .map m, .p (I al)], .map m (Du (FR 0 A)), .glob GL])) → (∀ z ∈ (Bv (BJ.mk BG BD BE BF BH BI thm) A n x).2, GX A z) → (∀ z ∈ (Bv (BJ.mk BG BD BE BF BH BI thm) A n y).2, GX A z) → ((Bv (BJ.mk BG BD BE BF BH BI thm) A n x).2.length + (Bv (BJ.mk BG BD BE BF BH BI thm) A n y).2.length < 1000000) → (thm.length = 14) → Bt Tryz.prog 86 [.ptr b0 0, .ptr b1 0] [.box b0 [.ptr p 0], .box b1 [.p (.lst (BR us))], .box p [.p (.str BG), .p (.str BD), .p (.str BE), .p (.str BF), .p (.str BH), .p (.str BI), .p (.lst (List.map Ch thm)), .ptr c 0], .box c [.p (.lst (List.map Cf cs)), .p (.lst (BR A)), .map m, .p (I al)], .map m (Du (FR 0 A)), .glob GL] (DC (.tup [.agg ((CJ (Cm (BJ.mk BG BD BE BF BH BI thm) (FH (BJ.mk BG BD BE BF BH BI thm) (Bv (BJ.mk BG BD BE BF BH BI thm) A n x).1 (Bv (BJ.mk BG BD BE BF BH BI thm) A n y).1) [(C6 (BJ.mk BG BD BE BF BH BI thm) A (Bv (BJ.mk BG BD BE BF BH BI thm) A n y).2 (Bv (BJ.mk BG BD BE BF BH BI thm) A n x).2).1])).map .p), .p (.lst (List.map Ca ((C6 (BJ.mk BG BD BE BF BH BI thm) A (Bv (BJ.mk BG BD BE BF BH BI thm) A n y).2 (Bv (BJ.mk BG BD BE BF BH BI thm) A n x).2).2)))]) [.box b0 [.ptr p 0], .box b1 [.p (.lst (BR us))], .box p [.p (.str BG), .p (.str BD), .p (.str BE), .p (.str BF), .p (.str BH), .p (.str BI), .p (.lst (List.map Ch thm)), .ptr c 0], .box c [.p (.lst (List.map Cf cs)), .p (.lst (BR A)), .map m, .p (I al)], .map m (Du (FR 0 A)), .glob GL]) := by
 intro GL hG b0 b1 p c BG BD BE BF BH BI thm m cs A al n us x y h1 h2 h3 h4 h5 h6 h7 h8
 have hul := (List.getElem?_eq_some_iff.1 h2).1
 refine A8 Tryz.func86 At eZ (n := 42) At At (Ax (Av (BM At At (BK Dp At) fun b2 => Au At At (Ay At) (Az At (Ax (CQ (fun k => Nat.beq k 8) D0 (BQ (j := 1) At At At (fun H i hi => A2 (i := i) IC At hi At) AA trivial (BQ (j := 2) At At At (fun H i hi => A2 (i := i) DQ At hi At) AA trivial (A4 At At (fun _ => BL By At At Ar (CH h1) (Bj _)) trivial (A4 At At (fun _ => Bi BO At (Bj _)) trivial ?_))))))))))
 refine CD [3, 4, 5, 6] At At At (.inl ⟨At, At, At⟩) (h3 ) ⟨_, _, At, At, ⟨_, _, At, At, ⟨_, _, At, At, ⟨_, _, At, At, At⟩⟩⟩⟩ (L5 As) (aw (we At) (aw (we At) (Cv))) AA trivial (A4 At At (fun _ => Aw At) trivial (A4 At At (fun _ => BY At At) trivial (A4 At At (fun _ => BY At At) trivial (Pf [] At At (BK Dp At) An fun b4 => ⟨AA, trivial, ?_⟩))))
 refine Cr At At (A6 (i := 0) Co At At At Aj Ab (Cb _)) AA trivial (A4 At At (fun _ => Ay At) trivial (CK At An (Ax (CQ (fun k => Nat.beq k 8) D0 (BQ (j := 2) At At At (fun H i hi => A2 (i := i) IC At hi At) AA trivial (BQ (j := 3) At At At (fun H i hi => A2 (i := i) DQ At hi At) AA trivial (A4 At At (fun _ => BL By At At Ar (CH h2) (Bj _)) trivial (A4 At At (fun _ => Bi BO At (Bj _)) trivial (CD [4, 5, 6, 7] At At At (.inl ⟨At, At, At⟩) (h4 ) ⟨_, _, At, At, ⟨_, _, At, At, ⟨_, _, At, At, ⟨_, _, At, At, At⟩⟩⟩⟩ (L5 As) (aw (we At) (aw (we At) (Cv))) AA trivial (A4 At At (fun _ => Aw At) trivial (A4 At At (fun _ => BY At At) trivial ?_)))))))))))
 refine A4 At At (fun _ => BY At At) trivial (Pf [] At At (BK Dp At) An fun b6 => ⟨AA, trivial, ?_⟩)
 refine Cr At At (A6 (i := 0) Co At At At Aj Ab (Cb _)) AA trivial (A4 At At (fun _ => Ay At) trivial (CK At An (Ax (Av (Au At At (A2 (i := 3) IC At At At) (Au At At (Aw At) (Au At At (Aw At) (Au At At (B6 [5, 6] At (.inl ⟨At, At, At⟩) (WG p c BG BD BE BF BH BI thm m cs A al ((Bv (BJ.mk BG BD BE BF BH BI thm) A n y).2) _ ((Bv (BJ.mk BG BD BE BF BH BI thm) A n x).2) (Nat.le_refl _) h7 h5 h6 h8) ⟨_, _, At, At, ⟨_, _, At, At, At⟩⟩ Aq At (.inl At)) (Au At At (Aw At) (Au At At (BY At At) (Au At At (BY At At) ?_)))))))))))
 refine BM At At (BK Dp At) fun b8 => Au At At (A6 (i := 0) Co At At At Aj Ab (Cb _)) (Au At At (Ay At) (Az At (Ax (CQ (fun k => false) D0 (BQ (j := 4) At At At (fun H i hi => A2 (i := i) IC At hi At) AA trivial (BQ (j := 4) At At At (fun H i hi => A2 (i := i) IC At hi At) AA trivial (BQ (j := 2) At At At (fun H i hi => A0 (i := i) Co At hi Aj) AA trivial (BQ (j := 1) At At At (fun H i hi => A0 (i := i) Co At hi Aj) AA trivial (CD [6] At At At (.inl ⟨At, At, At⟩) (Ll p c BG BD BE BF BH BI thm ((Bv (BJ.mk BG BD BE BF BH BI thm) A n x).1) ((Bv (BJ.mk BG BD BE BF BH BI thm) A n y).1)) ⟨_, _, At, At, At⟩ (Cp _) (aw (we At) (aw (we At) (aw (we At) (Cv)))) AA trivial ?_)))))))))
 refine BQ (j := 0) At At At (fun H i hi => A0 (i := i) Co At hi Aj) AA trivial (A4 At At (fun _ => BU (rows := List.map CJ [((C6 (BJ.mk BG BD BE BF BH BI thm) A ((Bv (BJ.mk BG BD BE BF BH BI thm) A n y).2) ((Bv (BJ.mk BG BD BE BF BH BI thm) A n x).2)).1)]) JC Dp At At At At (Bz (FP _)) (Iz _)) trivial (CD [6] At At At (.inl ⟨At, At, At⟩) (Fz p c BG BD BE BF BH BI thm (FH (BJ.mk BG BD BE BF BH BI thm) ((Bv (BJ.mk BG BD BE BF BH BI thm) A n x).1) ((Bv (BJ.mk BG BD BE BF BH BI thm) A n y).1)) [((C6 (BJ.mk BG BD BE BF BH BI thm) A ((Bv (BJ.mk BG BD BE BF BH BI thm) A n y).2) ((Bv (BJ.mk BG BD BE BF BH BI thm) A n x).2)).1)] AR) ⟨_, _, At, At, At⟩ (Cp _) (aw (we At) (aw (we At) (aw (we At) (Cv)))) AA trivial ?_))
 refine A4 At At (fun _ => Aw At) trivial (Cr At At (A6 (i := 3) Co At At At Aj Ab (Cb _)) AA trivial (A4 At At (fun _ => Ay At) trivial (CK At An (BB (⟨At, _, _, ⟨_, _, At, (Bn (i := 3) Co At At Aj), ⟨_, _, At, At, At⟩⟩, (Cj (is := [4, 5, 6, 7, 8, 9]) At), ?_⟩)))))
 all_goals exact ⟨rfl, rfl⟩
theorem aV : ∀ (GL : List (Nat × Obj)) (hG : Gl GL) (b0 b1 : Nat) (p c : Nat) (BG BD BE BF BH BI : ByteArray) (thm : List ByteArray)(m : Nat) (cs : List Int) (A : List Tm) (al : Int)(t : Tm), Bt Tryz.prog 89 [.ptr b0 0, .ptr b1 0] [.box b0 [.ptr p 0], .box b1 ((Be t).map .p), .box p [.p (.str BG), .p (.str BD), .p (.str BE), .p (.str BF), .p (.str BH), .p (.str BI), .p (.lst (List.map Ch thm)), .ptr c 0], .box c [.p (.lst (List.map Cf cs)), .p (.lst (BR A)), .map m, .p (I al)], .map m (Du (FR 0 A)), .glob GL] (DC (.tup [.agg ((CJ (DW (BJ.mk BG BD BE BF BH BI thm) t)).map .p), .p (.lst (List.map Ca []))]) [.box b0 [.ptr p 0], .box b1 ((Be t).map .p), .box p [.p (.str BG), .p (.str BD), .p (.str BE), .p (.str BF), .p (.str BH), .p (.str BI), .p (.lst (List.map Ch thm)), .ptr c 0], .box c [.p (.lst (List.map Cf cs)), .p (.lst (BR A)), .map m, .p (I al)], .map m (Du (FR 0 A)), .glob GL]) := by
 intro GL hG b0 b1 p c BG BD BE BF BH BI thm m cs A al t
 refine A8 Tryz.func89 At eP (n := 7) At At (Ax (Av (BM At At (BK Dp At) fun b2 => Au At At (Ay At) (Az At (Ax (Av (Au At At (A2 (i := 1) IC At At At) (Au At At (A0 (i := 2) BO At At Ak) (Au At At (B6 [3] At (.inl ⟨At, At, At⟩) (J0 p c BG BD BE BF BH BI thm t) ⟨_, _, At, At, At⟩ Aq At (.inl At)) (Au At At (A6 (i := 0) Co At At At Aj Ab (Cb _)) ?_))))))))))
 refine Au At At (Ay At) (Az At (CG (Ef 3) (BB (⟨At, _, _, ⟨_, _, At, (Bn (i := 0) Co At At Aj), ⟨_, _, At, At, At⟩⟩, (Cj (is := [1, 2, 3, 4, 5, 6]) At), ?_⟩))))
 all_goals exact ⟨rfl, rfl⟩
theorem cF : ∀ (GL : List (Nat × Obj)) (hG : Gl GL) (b0 b1 : Nat) (p c : Nat) (BG BD BE BF BH BI : ByteArray) (thm : List ByteArray)(m : Nat) (cs : List Int) (A : List Tm) (al : Int)(n : Nat) (us : List Tm) (x : Tm), (us[0]? = some x) → (Bt Tryz.prog 47 [.ptr p 0, TV x] [.box p [.p (.str BG), .p (.str BD), .p (.str BE), .p (.str BF), .p (.str BH), .p (.str BI), .p (.lst (List.map Ch thm)), .ptr c 0], .box c [.p (.lst (List.map Cf cs)), .p (.lst (BR A)), .map m, .p (I al)], .map m (Du (FR 0 A)), .glob GL] (DC (.tup [.agg ((CJ (Bv (BJ.mk BG BD BE BF BH BI thm) A n x).1).map .p), .p (.lst (List.map Ca (Bv (BJ.mk BG BD BE BF BH BI thm) A n x).2))]) [.box p [.p (.str BG), .p (.str BD), .p (.str BE), .p (.str BF), .p (.str BH), .p (.str BI), .p (.lst (List.map Ch thm)), .ptr c 0], .box c [.p (.lst (List.map Cf cs)), .p (.lst (BR A)), .map m, .p (I al)], .map m (Du (FR 0 A)), .glob GL])) → (∀ z ∈ (Bv (BJ.mk BG BD BE BF BH BI thm) A n x).2, GX A z) → ((Bv (BJ.mk BG BD BE BF BH BI thm) A n x).2.length < 1000000) → (thm.length = 14) → Bt Tryz.prog 91 [.ptr b0 0, .ptr b1 0] [.box b0 [.ptr p 0], .box b1 [.p (.lst (BR us))], .box p [.p (.str BG), .p (.str BD), .p (.str BE), .p (.str BF), .p (.str BH), .p (.str BI), .p (.lst (List.map Ch thm)), .ptr c 0], .box c [.p (.lst (List.map Cf cs)), .p (.lst (BR A)), .map m, .p (I al)], .map m (Du (FR 0 A)), .glob GL] (DC (.tup [.agg ((CJ (Cm (BJ.mk BG BD BE BF BH BI thm) (DS (BJ.mk BG BD BE BF BH BI thm) (BS BF []) (Bv (BJ.mk BG BD BE BF BH BI thm) A n x).1) [(Cz (BJ.mk BG BD BE BF BH BI thm) A (Bv (BJ.mk BG BD BE BF BH BI thm) A n x).2).1])).map .p), .p (.lst (List.map Ca ((Cz (BJ.mk BG BD BE BF BH BI thm) A (Bv (BJ.mk BG BD BE BF BH BI thm) A n x).2).2)))]) [.box b0 [.ptr p 0], .box b1 [.p (.lst (BR us))], .box p [.p (.str BG), .p (.str BD), .p (.str BE), .p (.str BF), .p (.str BH), .p (.str BI), .p (.lst (List.map Ch thm)), .ptr c 0], .box c [.p (.lst (List.map Cf cs)), .p (.lst (BR A)), .map m, .p (I al)], .map m (Du (FR 0 A)), .glob GL]) := by
 intro GL hG b0 b1 p c BG BD BE BF BH BI thm m cs A al n us x h1 h2 h3 h4 h5
 have hul := (List.getElem?_eq_some_iff.1 h1).1
 refine A8 Tryz.func91 At dw (n := 36) At At (Ax (Av (BM At At (BK Dp At) fun b2 => Au At At (Ay At) (Az At (Ax (CQ (fun k => Nat.beq k 8) D0 (BQ (j := 1) At At At (fun H i hi => A2 (i := i) IC At hi At) AA trivial (BQ (j := 2) At At At (fun H i hi => A2 (i := i) DQ At hi At) AA trivial (A4 At At (fun _ => BL By At At Ar (CH h1) (Bj _)) trivial (A4 At At (fun _ => Bi BO At (Bj _)) trivial ?_))))))))))
 refine CD [3, 4, 5, 6] At At At (.inl ⟨At, At, At⟩) (h2 ) ⟨_, _, At, At, ⟨_, _, At, At, ⟨_, _, At, At, ⟨_, _, At, At, At⟩⟩⟩⟩ (L5 As) (aw (we At) (aw (we At) (Cv))) AA trivial (A4 At At (fun _ => Aw At) trivial (A4 At At (fun _ => BY At At) trivial (A4 At At (fun _ => BY At At) trivial (Pf [] At At (BK Dp At) An fun b4 => ⟨AA, trivial, ?_⟩))))
 refine Cr At At (A6 (i := 0) Co At At At Aj Ab (Cb _)) AA trivial (A4 At At (fun _ => Ay At) trivial (CK At An (Ax (Av (Au At At (A2 (i := 2) IC At At At) (Au At At (Aw At) (Au At At (B6 [4, 5] At (.inl ⟨At, At, At⟩) (UK p c BG BD BE BF BH BI thm m cs A al _ ((Bv (BJ.mk BG BD BE BF BH BI thm) A n x).2) (Nat.le_refl _) h4 h3 h5) ⟨_, _, At, At, ⟨_, _, At, At, At⟩⟩ Aq At (.inl At)) (Au At At (Aw At) (Au At At (BY At At) (Au At At (BY At At) (BM At At (BK Dp At) fun b6 => ?_)))))))))))
 refine Au At At (A6 (i := 0) Co At At At Aj Ab (Cb _)) (Au At At (Ay At) (Az At (Ax (CQ (fun k => false) D0 (BQ (j := 3) At At At (fun H i hi => A2 (i := i) IC At hi At) AA trivial (BQ (j := 3) At At At (fun H i hi => A2 (i := i) IC At hi At) AA trivial (BQ (j := 3) At At At (fun H i hi => A2 (i := i) IC At hi At) AA trivial (A4 At At (fun _ => Bd At) trivial (A4 At At (fun _ => A1 Hi At At) trivial (A4 At At (fun _ => A1 DU At At) trivial (BQ (j := 5) At At At (fun H i hi => A2 (i := i) FU At hi At) AA trivial ?_)))))))))))
 refine A4 At At (fun _ => DA At At (EL BF [] AN) (aw (we At) (aw (Cq At) (Cv)))) trivial (BQ (j := 1) At At At (fun H i hi => A0 (i := i) Co At hi Aj) AA trivial (CD [5] At At At (.inl ⟨At, At, At⟩) (Lk p c BG BD BE BF BH BI thm (BS BF []) ((Bv (BJ.mk BG BD BE BF BH BI thm) A n x).1)) ⟨_, _, At, At, At⟩ (Cp _) (aw (we At) (aw (we At) (aw (we At) (Cv)))) AA trivial (BQ (j := 0) At At At (fun H i hi => A0 (i := i) Co At hi Aj) AA trivial (A4 At At (fun _ => BU (rows := List.map CJ [((Cz (BJ.mk BG BD BE BF BH BI thm) A ((Bv (BJ.mk BG BD BE BF BH BI thm) A n x).2)).1)]) JC Dp At At At At (Bz (FP _)) (Iz _)) trivial ?_))))
 refine CD [5] At At At (.inl ⟨At, At, At⟩) (Fz p c BG BD BE BF BH BI thm (DS (BJ.mk BG BD BE BF BH BI thm) (BS BF []) ((Bv (BJ.mk BG BD BE BF BH BI thm) A n x).1)) [((Cz (BJ.mk BG BD BE BF BH BI thm) A ((Bv (BJ.mk BG BD BE BF BH BI thm) A n x).2)).1)] AR) ⟨_, _, At, At, At⟩ (Cp _) (aw (we At) (aw (we At) (aw (we At) (Cv)))) AA trivial (A4 At At (fun _ => Aw At) trivial (Cr At At (A6 (i := 2) Co At At At Aj Ab (Cb _)) AA trivial (A4 At At (fun _ => Ay At) trivial (CK At An (BB (⟨At, _, _, ⟨_, _, At, (Bn (i := 2) Co At At Aj), ⟨_, _, At, At, At⟩⟩, (Cj (is := [3, 4, 5, 6, 7, 8]) At), ?_⟩))))))
 all_goals exact ⟨rfl, rfl⟩
theorem UC : ∀ (GL : List (Nat × Obj)) (hG : Gl GL) (p c : Nat) (BG BD BE BF BH BI : ByteArray) (thm : List ByteArray)(m : Nat) (cs : List Int) (A : List Tm) (al : Int)(n : Nat) (t : Tm), (size t ≤ n) → (ER t) → (size t < 1000000) → (∀ a ∈ A, My a) → (∀ a ∈ Cd (BJ.mk BG BD BE BF BH BI thm) n t, a ∈ A) → ((Cd (BJ.mk BG BD BE BF BH BI thm) n t).length < 1000000) → (thm.length = 14) → Bt Tryz.prog 47 [.ptr p 0, .agg ((Be t).map .p)] [.box p [.p (.str BG), .p (.str BD), .p (.str BE), .p (.str BF), .p (.str BH), .p (.str BI), .p (.lst (List.map Ch thm)), .ptr c 0], .box c [.p (.lst (List.map Cf cs)), .p (.lst (BR A)), .map m, .p (I al)], .map m (Du (FR 0 A)), .glob GL] (DC (.tup [.agg ((CJ ((Bv (BJ.mk BG BD BE BF BH BI thm) A n t).1)).map .p), .p (.lst (List.map Ca ((Bv (BJ.mk BG BD BE BF BH BI thm) A n t).2)))]) [.box p [.p (.str BG), .p (.str BD), .p (.str BE), .p (.str BF), .p (.str BH), .p (.str BI), .p (.lst (List.map Ch thm)), .ptr c 0], .box c [.p (.lst (List.map Cf cs)), .p (.lst (BR A)), .map m, .p (I al)], .map m (Du (FR 0 A)), .glob GL]) := by
 intro GL hG p c BG BD BE BF BH BI thm m cs A al n
 induction n with
 | zero => intro t h; cases t; simp [size] at h
 | succ n ih =>
  intro t h1 h2 h3 h4 h5 h6 h7
  refine A8 Tryz.func47 At eY (n := 29) At At (Ax (Av (BM At At (Bh At) fun b2 => BM At At (Bh At) fun b3 => BM At At (BK Dp At) fun b4 => Au At At (Ay At) (Az At (Ax ?_)))))
  refine Dm [.val (.ptr p 0), .val (.ptr p 0), .val (.ptr p (0 + 0)), .val (.agg [.p (.str BG), .p (.str BD), .p (.str BE), .p (.str BF), .p (.str BH), .p (.str BI), .p (.lst (List.map Ch thm))]), .val (.agg ((Be t).map .p)), .val (.tup [.p (I ((Cu (BJ.mk BG BD BE BF BH BI thm) t).1)), .p (.lst (BR ((Cu (BJ.mk BG BD BE BF BH BI thm) t).2)))]), .val (.tup [.p (I ((Cu (BJ.mk BG BD BE BF BH BI thm) t).1)), .p (.lst (BR ((Cu (BJ.mk BG BD BE BF BH BI thm) t).2)))]), .val (.p (I ((Cu (BJ.mk BG BD BE BF BH BI thm) t).1))), .val (.p (.lst (BR ((Cu (BJ.mk BG BD BE BF BH BI thm) t).2)))), .new [.p (.nils)], .val (.p (I ((Cu (BJ.mk BG BD BE BF BH BI thm) t).1)))] D0 At An An (BN At (fun Bs => A2 (i := Bs.length + 2) IC At (Bx At) At) (BN At (fun Bs => Bd At) ?_))
  refine BN At (fun Bs => A1 Hi At At) (BN At (fun Bs => B1 (i := Bs.length + 3) EG At (Bx At) At At) (BN At (fun Bs => A0 (i := Bs.length + 1) BO At (Bx At) Ak) (BN At (fun Bs => Bg At At (YI (BJ.mk BG BD BE BF BH BI thm) t h2.nd h3) At) (BN At (fun Bs => Aw At) (BN At (fun Bs => BY At At) (BN At (fun Bs => BY At At) (E5 At (fun Bs => BK eB At) fun b7 => BN At (fun Bs => Ay At) (Ed ?_))))))))
  change AL _ _ _ 11 ⟨29, _, [.box b7 [.p (.nils)], .box b4 [.p (I 0), .p (I 0), .p (.str ⟨#[]⟩), .p (.nils), .p (.nils), .p (I 0), .p (I 0), .p (.str ⟨#[]⟩), .p (.nils), .p (.nils), .p (I 0), .p (I 0), .p (.str ⟨#[]⟩), .p (.nils), .p (.nils), .p (.bool false)], .box b3 ((Be t).map .p), .box b2 [.ptr p 0], .box p [.p (.str BG), .p (.str BD), .p (.str BE), .p (.str BF), .p (.str BH), .p (.str BI), .p (.lst (List.map Ch thm)), .ptr c 0], .box c [.p (.lst (List.map Cf cs)), .p (.lst (BR A)), .map m, .p (I al)], .map m (Du (FR 0 A)), .glob GL], []⟩ _
  refine Au At At (Bk (i := 0) DQ At At At At At At) (Az At (Ax (Av (Au At At (Cw At At) (Au At At (Cw At At) (Au At At (Cw At At) (Au At At (Cw At At) (Au At At (JY Ra LR YG At) (BM At At (BK YG At) fun b8 => Au At At (Bk (i := 0) cY At At At At At At) (Az At ?_))))))))))
  refine Ax ?_
  rcases Sb (BJ.mk BG BD BE BF BH BI thm) t with ho | ho | ho | ho
  ·rw [R3 ho] at h5
   refine CG (EU (t := 6) (x := .p (I 0)) (pI ho)) (Av (Au At At (Aw At) (Au At At (FL Ra LR At At Aq Aq) (Au At At (A2 (i := 0) LR At At At) (Au At At (B6 [4, 3, 5, 6, 7, 8] At (.inr At) (Zy GL hG b2 b3 p c BG BD BE BF BH BI thm m cs A al t h2 h3 (h5 t As) h4 h7) ⟨_, _, At, At, ⟨_, _, At, At, ⟨_, _, At, At, ⟨_, _, At, At, ⟨_, _, At, At, ⟨_, _, At, At, At⟩⟩⟩⟩⟩⟩ Aq At (.inl At)) (Au At At (BY At At) (Au At At (BY At At) (Au At At (A6 (i := 2) Co At At At Aj Ab (Cb _)) (Au At At (Ay At) (Az At (BB ?_)))))))))))
   refine ⟨At, _, _, ⟨_, _, At, (Bn (i := 2) Co At At Aj), ⟨_, _, At, At, At⟩⟩, (Cj (is := [5, 6, 7, 8]) At), ?_⟩
   rw [Qm ho]
   all_goals exact ⟨rfl, rfl⟩
  ·have hl := (Gc (th := (BJ.mk BG BD BE BF BH BI thm)) (t := t)).1 ho
   have e2 := Gt (th := (BJ.mk BG BD BE BF BH BI thm)) (t := t) (by rw [ho]; decide) (by rw [ho]; decide)
   obtain ⟨x, hx⟩ : ∃ x, (Cu (BJ.mk BG BD BE BF BH BI thm) t).2[0]? = some x := ⟨_, List.getElem?_eq_getElem Ar⟩
   obtain ⟨y, hy⟩ : ∃ x, (Cu (BJ.mk BG BD BE BF BH BI thm) t).2[1]? = some x := ⟨_, List.getElem?_eq_getElem Ar⟩
   rw [UD ho hx hy] at h5 h6
   rw [List.length_append] at h6
   have hnx := GU (th := (BJ.mk BG BD BE BF BH BI thm)) (A := A) n x
   have hny := GU (th := (BJ.mk BG BD BE BF BH BI thm)) (A := A) n y
   refine CG (EU (t := 6) (x := .p (I 1)) (pI ho)) (Av (Au At At (Aw At) (Au At At (FL Ra LR At At Aq Aq) (Au At At (A2 (i := 0) LR At At At) ?_))))
   refine Au At At (B6 [4, 1, 5, 6, 7, 8] At (.inr At) (bQ GL hG b2 b7 p c BG BD BE BF BH BI thm m cs A al n ((Cu (BJ.mk BG BD BE BF BH BI thm) t).2) x y hx hy (ih x (by have := (h2.arg (e2 ▸ hx)).2; omega) (h2.arg (e2 ▸ hx)).1 (by have := (h2.arg (e2 ▸ hx)).2; omega) h4 (fun a ha => h5 a (List.mem_append_left _ ha)) Ar h7) (ih y (by have := (h2.arg (e2 ▸ hy)).2; omega) (h2.arg (e2 ▸ hy)).1 (by have := (h2.arg (e2 ▸ hy)).2; omega) h4 (fun a ha => h5 a (List.mem_append_right _ ha)) Ar h7) (HT n x fun a ha => h5 a (List.mem_append_left _ ha)) (HT n y fun a ha => h5 a (List.mem_append_right _ ha)) Ar h7) ⟨_, _, At, At, ⟨_, _, At, At, ⟨_, _, At, At, ⟨_, _, At, At, ⟨_, _, At, At, ⟨_, _, At, At, At⟩⟩⟩⟩⟩⟩ Aq At (.inl At)) (Au At At (BY At At) (Au At At (BY At At) ?_))
   refine Au At At (A6 (i := 2) Co At At At Aj Ab (Cb _)) (Au At At (Ay At) (Az At (BB (⟨At, _, _, ⟨_, _, At, (Bn (i := 2) Co At At Aj), ⟨_, _, At, At, At⟩⟩, (Cj (is := [5, 6, 7, 8]) At), ?_⟩))))
   rw [SC ho hx hy]
   all_goals exact ⟨rfl, rfl⟩
  ·refine CG (EU (t := 6) (x := .p (I 2)) (pI ho)) (Av (Au At At (Aw At) (Au At At (FL Ra LR At At Aq Aq) (Au At At (A2 (i := 0) LR At At At) (Au At At (B6 [4, 3, 5, 6, 7, 8] At (.inr At) (aV GL hG b2 b3 p c BG BD BE BF BH BI thm m cs A al t) ⟨_, _, At, At, ⟨_, _, At, At, ⟨_, _, At, At, ⟨_, _, At, At, ⟨_, _, At, At, ⟨_, _, At, At, At⟩⟩⟩⟩⟩⟩ Aq At (.inl At)) (Au At At (BY At At) (Au At At (BY At At) (Au At At (A6 (i := 2) Co At At At Aj Ab (Cb _)) (Au At At (Ay At) (Az At (BB ?_)))))))))))
   refine ⟨At, _, _, ⟨_, _, At, (Bn (i := 2) Co At At Aj), ⟨_, _, At, At, At⟩⟩, (Cj (is := [5, 6, 7, 8]) At), ?_⟩
   rw [Q8 ho]
   all_goals exact ⟨rfl, rfl⟩
  ·have hl := (Gc (th := (BJ.mk BG BD BE BF BH BI thm)) (t := t)).2 ho
   have e2 := Gt (th := (BJ.mk BG BD BE BF BH BI thm)) (t := t) (by rw [ho]; decide) (by rw [ho]; decide)
   obtain ⟨x, hx⟩ : ∃ x, (Cu (BJ.mk BG BD BE BF BH BI thm) t).2[0]? = some x := ⟨_, List.getElem?_eq_getElem Ar⟩
   rw [UI ho hx] at h5 h6
   have hnx := GU (th := (BJ.mk BG BD BE BF BH BI thm)) (A := A) n x
   refine CG (EU (t := 6) (x := .p (I 3)) (pI ho)) (Av (Au At At (Aw At) (Au At At (FL Ra LR At At Aq Aq) (Au At At (A2 (i := 0) LR At At At) (Au At At (B6 [4, 1, 5, 6, 7, 8] At (.inr At) (cF GL hG b2 b7 p c BG BD BE BF BH BI thm m cs A al n ((Cu (BJ.mk BG BD BE BF BH BI thm) t).2) x hx (ih x (by have := (h2.arg (e2 ▸ hx)).2; omega) (h2.arg (e2 ▸ hx)).1 (by have := (h2.arg (e2 ▸ hx)).2; omega) h4 h5 h6 h7) (HT n x h5) Ar h7) ⟨_, _, At, At, ⟨_, _, At, At, ⟨_, _, At, At, ⟨_, _, At, At, ⟨_, _, At, At, ⟨_, _, At, At, At⟩⟩⟩⟩⟩⟩ Aq At (.inl At)) (Au At At (BY At At) (Au At At (BY At At) (Au At At (A6 (i := 2) Co At At At Aj Ab (Cb _)) (Au At At (Ay At) (Az At (BB ?_)))))))))))
   refine ⟨At, _, _, ⟨_, _, At, (Bn (i := 2) Co At At Aj), ⟨_, _, At, At, At⟩⟩, (Cj (is := [5, 6, 7, 8]) At), ?_⟩
   rw [R4 ho hx]
   all_goals exact ⟨rfl, rfl⟩
theorem Yl : ∀ (HP : List BT → Prop) (l b1 b2 : Nat) (d : Kb) (at_ : Int) (bb : Bool) (T0 : List BT), d.kind = 0 → HB Tryz.prog l [.p (.str d.name), .agg ((OV (UN.mk 0 at_ 0 d.params d.type)).map .p)] T0 (Gm (.p (.bool bb)) HP) → Bt Tryz.prog 140 [.fn (.yield l) [] [], .ptr b2 0, .ptr b1 0] (.box b1 ((DZ d).map .p) :: .box b2 [.p (I at_)] :: T0) (Gm (.tup []) (fun H => ∃ T, HP T ∧ H = .box b1 ((DZ d).map .p) :: .box b2 [.p (I at_)] :: T)) := by
 intro HP l b1 b2 d at_ bb T0 h1 h2
 have hx0 : ([0, 1, 2] : List Int)[0]? = some 0 := rfl
 obtain ⟨dk, dn, dp, dy, dv, df, dc, dr, du⟩ := d
 obtain ⟨dyk, dyi, dyn, dyl, dys⟩ := dy
 obtain ⟨dvk, dvi, dvn, dvl, dvs⟩ := dv
 obtain ⟨drp, dry, drl⟩ := dr
 obtain ⟨dryk, dryi, dryn, dryl, drys⟩ := dry
 simp only at h1 h2
 subst h1
 refine A8 Tryz.func140 At Z5 (n := 98) At At (Ax (Av (Au At At (A2 (i := 1) De At At At) (Au At At (A1 PW At At) (Au At At (A2 (i := 0) De At At At) (Au At At (A1 PW At At) (Au At At (B1 (i := 0) BO At At At At) (Au At At (Br Yr Tu At) (BM At At (BK Tu At) fun b4 => Au At At (Bk (i := 0) Pt At At At At At At) (Az At ?_))))))))))
 refine Ax (Av (Au At At (A1 PW At At) (Au At At (A2 (i := 1) De At At At) (Az At (Ba (Ax (Ax (Av (Au At At (BA At At At) (Au At At (Ay At) (Az At ?_)))))))))))
 refine A9 At (fun c => ?_) (fun c => by cases c)
 refine BC ?_
 refine A9 At (fun c1 => ?_) (fun c1 => by cases c1)
 refine Ax (Av (Au At At (CO D9 S9 At At At At At) (Au At At (A1 PW At At) (Au At At (A2 (i := 1) De At At At) (Au At At (BL D9 At At As (Ds hx0) (At)) (Au At At (CI De At) (Au At At (A1 Yr At At) (Au At At (Bk (i := 0) De At At At At At At) (Az At (Av (Au At At (Aw At) ?_)))))))))))
 refine Au At At (A1 PW At At) (Au At At (A2 (i := 1) FU At At At) (Au At At (A0 (i := 0) Pt At At At) (J9 [_, _, _] At At At At (h2 ) At ?_ (fun _ _ h => h.elim))))
 rintro _ T ⟨rfl, hT⟩
 refine Az At ⟨At, _, _, At, (Gj [1, 2] [_, _, _] At), ?_⟩
 exact ⟨At, _, hT, At⟩
theorem Zh : ∀ (d : Kb) (at_ : Int), Bt Tryz.prog 112 [.agg ((DZ d).map .p), .p (I at_)] [] (fun r H' => ∃ b1 b2, r = .val (.fn (.func 140) [] [.ptr b2 0, .ptr b1 0]) ∧ H' = [.box b2 [.p (I at_)], .box b1 ((DZ d).map .p)]) := by
 intro d at_
 refine A8 Tryz.func112 At cX (n := 6) At At (Ax (Av (BM At At (Bh At) fun b2 => BM At At (Bh At) fun b3 => Au At At (Ay At) (Az At (Ax (Av (Au At At (Cw At At) (Au At At (Ay At) (Az At ?_)))))))))
 refine BB (⟨At, _, _, ⟨_, _, At, At, At⟩, (Cj (is := [0, 1]) At), ?_⟩)
 exact ⟨_, _, At, At⟩
end Go.Proofs.YtapmjpihennhaaaGreatDoor
namespace Go.Abs
theorem P5 {α : Type} {base T xs : List α} {is : List Nat} (hn : is.Nodup) (h : E4 base is xs) : (base ++ T).Perm (xs ++ (DD is 0 base ++ T)) := by
 rw [← List.append_assoc]; exact (Cx hn h).append_right T
theorem Og {α : Type} {base T xs rest : List α} {is : List Nat} (hn : is.Nodup) (h : E4 base is xs) (hd : DD is 0 base = rest) : (base ++ T).Perm (xs ++ (rest ++ T)) := by
 subst hd; exact P5 hn h
theorem I4 {P : Program} {fn : Func} {R : Db → List BT → Prop} {S : B2} {Hs : List BT} (h : JA P fn S R [] .ret Hs) : ∀ U : List Nat, JA P fn S R (U.map .mark) .ret (Hs ++ U.map .dfr)
 | [] => by simpa using h
 | d :: U => by
  refine ⟨Hs.length, by simp, ?_⟩
  have : (Hs ++ (d :: U).map BT.dfr).eraseIdx Hs.length = Hs ++ U.map BT.dfr := by
   rw [List.eraseIdx_append_of_length_le (Nat.le_refl _)]; simp
  rw [this]; exact I4 h U
theorem MS {P : Program} {fn : Func} {R : Db → List BT → Prop} {n : Nat} {τ : Nat → AV} (U : List Nat) {Hs : List BT} (h : JA P fn ⟨n, τ, Hs ++ U.map .dfr, U.map .mark⟩ R [] .ret Hs) : WL P fn R .ret ⟨n, τ, Hs ++ U.map .dfr, U.map .mark⟩ :=
 I4 h U
theorem Q0 {P : Program} {l d i : Nat} {S : B2} {Q : Cy → B2 → Prop} {v : AV} {H' : List BT} {L : Lj} (H2 : List BT) (h1 : H'[i]? = some (.loop l L)) (hs : L.state ≠ .busy) (hp : L.pending = none) (he : H'.eraseIdx i = H2) (h : Q .normal ⟨S.n, S.τ, H2, .mark d :: S.D⟩) : P7 P l d S Q (.val v) H' := by
 subst he; exact ⟨i, L, h1, hs, by rw [hp]; exact h⟩
theorem Ry {P : Program} {l d i : Nat} {S : B2} {Q : Cy → B2 → Prop} {v : AV} {H' : List BT} {L : Lj} (H2 : List BT) (h1 : H'[i]? = some (.loop l L)) (hs : L.state ≠ .busy) (hp : L.pending = some .ret) (he : H'.eraseIdx i = H2) (h : Ib P none .ret ⟨S.n, S.τ, H2, .mark d :: S.D⟩ Q) : P7 P l d S Q (.val v) H' := by
 subst he; exact ⟨i, L, h1, hs, by rw [hp]; exact h⟩
end Go.Abs
namespace Go.Proofs.YtapmjpihennhaaaGreatDoor
open Go.Abs Go.Eu
theorem Wb : ∀ (ds : List Kb) (nm : ByteArray), (ds.length < EC) → (∀ d ∈ ds, d.kind = 0) → G9 Tryz.prog 76 [.p (.lst (List.map DZ ds)), .p (.str nm)] (fun v => ∃ x : UN, v = .tup [.agg ((OV x).map .p), .p (I (if ds.any (fun d => decide (d.name = nm)) then 0 else 9))]) := by
 intro ds nm h1 h2
 simp only [EC] at h1
 refine Fu Tryz.func76 At fc (n := 28) At At (Ax (Av (BM At At (Bh At) fun b3 => BM At At (BK Tu At) fun b4 => BM At At (BK ek At) fun b5 => Az At (Ax (Ax (Av (Au At At (Aw At) (Au At At (Bp ZC At (List.length_map _)) ?_))))))))
 refine Au At At (Aw At) (Az At (Ba ?_))
 refine CM (α := Nat × List Nat) (fun (i, U) => ⟨28, mk [(3, .ptr b3 0), (4, .ptr b4 0), (5, .ptr b5 0), (10, .p (.lst (List.map DZ ds))), (11, .p (I (ds.length : Nat))), (12, .p (I (i : Int)))], (.box b5 [.p (I 0)] :: .box b4 [.p (I 0), .p (I 0), .p (I 0), .p (I 0), .p (I 0), .p (I 0), .p (.str ⟨#[]⟩), .p (.nils), .p (.nils)] :: .box b3 [.p (.str nm)] :: (U.map BT.dfr)), (U.map EB.mark)⟩) (fun (i, U) => ds.length - i) (fun (i, U) => i ≤ ds.length ∧ (∀ j, j < i → ∀ x, ds[j]? = some x → ¬ (x.name = nm))) ⟨0, []⟩ (⟨by omega, fun j h => by omega⟩) ?_ ?_
 ·exact B8 ⟨we At, we At, we At, we At, we At, we At, trivial⟩ (QW [0, 1, 2] [_, _, _] (l' := [_, _, _]) At (wl (oe At) (wl (oe At) (wl (oe At) (D4)))))
 rintro ⟨i, U⟩ hC
 try simp only at hC
 obtain ⟨hi, hC⟩ := hC
 refine Ax (Av (Au At At (BA At At At) (Az At (Ax (A9 At (fun c => ?_) (fun c => ?_))))))
 ·(try simp only [sd, se] at c)
  refine BC (Ax (Ba (Ax (Av (Au At At (Aw At) ?_)))))
  obtain ⟨x, hx⟩ := BP (l := ds) (i := i) Ar
  have hx0 := h2 _ (List.mem_of_getElem? hx)
  refine Au At At (BL ZC At At Ar (Vs hx) (JP _)) (Au At At (Bi RS At (JP _)) (BM At At (BK TX At) fun b7 => Au At At (Ay At) (Au At At (A6 (i := 0) RS At At At (by simp [JP]) (by first | rfl | simp [JP]) (Xv _)) (Az At (Ax (Av (Au At At (A0 (i := 0) RS At At (by simp [JP])) (Au At At (Aw At) ?_))))))))
  refine LU (Hs := []) At At At (.inl ⟨At, At, At⟩) (List.Perm.refl _) ((Zh x ((i : Int))).args (aw (we At) (aw (we At) Cv))) (.inl At) ?_ (fun _ _ ⟨_, _, h, _⟩ => by cases h)
  rintro _ _ ⟨bd, ba, h, rfl⟩
  cases h
  refine Az At (Ba (Iy (.inr At) fun dd l L hL => ⟨_, _, Og (is := [3, 2, 0, 4, 5, 6, 7]) (base := [_, _, _, _, _, _, _, _]) (rest := [.dfr dd]) Aq ⟨_, _, At, At, ⟨_, _, At, At, ⟨_, _, At, At, ⟨_, _, At, At, ⟨_, _, At, At, ⟨_, _, At, At, ⟨_, _, At, At, At⟩⟩⟩⟩⟩⟩⟩ At, ?_⟩))
  have hy : HB Tryz.prog l [.p (.str x.name), .agg ((OV (UN.mk 0 ((i : Int)) 0 x.params x.type)).map .p)] [.loop l L, .box b7 ((DZ x).map .p), .box b5 [.p (I 0)], .box b4 [.p (I 0), .p (I 0), .p (I 0), .p (I 0), .p (I 0), .p (I 0), .p (.str ⟨#[]⟩), .p (.nils), .p (.nils)], .box b3 [.p (.str nm)]] (Gm (.p (.bool (!decide (x.name = nm)))) (fun T : List BT => T = if x.name = nm then [.loop l { L with state := .done, pending := some .ret }, .box b7 ((DZ x).map .p), .box b5 [.p (I 0)], .box b4 ((OV (UN.mk 0 ((i : Int)) 0 x.params x.type)).map .p), .box b3 [.p (.str nm)]] else [.loop l L, .box b7 ((DZ x).map .p), .box b5 [.p (I 0)], .box b4 [.p (I 0), .p (I 0), .p (I 0), .p (I 0), .p (I 0), .p (I 0), .p (.str ⟨#[]⟩), .p (.nils), .p (.nils)], .box b3 [.p (.str nm)]])) := by
   obtain ⟨LB, hLB⟩ : ∃ x, x = BT.loop l { L with state := .busy } := ⟨_, rfl⟩
   subst hL
   refine Ju (i := 0) At At At At (Ax (Av (Au At At (Ay At) (Az At (Av (BM At At (BK Tu At) fun b9 => Au At At (A6 (i := 0) Pt At At At (by simp [Gz]) (by first | rfl | simp [Gz]) (Pp _)) (Az At ⟨At, 1, At, ?_⟩)))))))
   rw [← hLB]
   refine Ba (Ax (Av (Au At At (Aw At) (Au At At (A2 (i := 5) FU At At At) (Au At At (Fs At At) (Az At (A9 At (fun c1 => ?_) (fun c1 => ?_))))))))
   ·(try simp only [sd, se] at c1)
    refine Ax (Av (Au At At (A0 (i := 0) Pt At At (by simp [Gz])) (Au At At (A6 (i := 4) Pt At At At (by simp [Gz]) (by first | rfl | simp [Gz]) (Pp _)) (Au At At (Bk (i := 3) XF At At At At At At) (Az At (BB ?_))))))
    subst hLB
    refine ⟨1, _, At, Cj (is := [1, 2, 3, 4, 5]) At, ?_⟩
    have hcc : x.name = nm := Qs (by simpa using c1)
    exact ⟨by simp [hcc], (if_pos hcc).symm⟩
   ·(try simp only [sd, se] at c1)
    refine BC ?_
    subst hLB
    refine ⟨1, _, At, Cj (is := [1, 2, 3, 4, 5]) At, ?_⟩
    have hcc : ¬ (x.name = nm) := fun h => by simp [h] at c1
    exact ⟨by simp [hcc], (if_neg hcc).symm⟩
  refine (Yl (fun T : List BT => T = if x.name = nm then [.loop l { L with state := .done, pending := some .ret }, .box b7 ((DZ x).map .p), .box b5 [.p (I 0)], .box b4 ((OV (UN.mk 0 ((i : Int)) 0 x.params x.type)).map .p), .box b3 [.p (.str nm)]] else [.loop l L, .box b7 ((DZ x).map .p), .box b5 [.p (I 0)], .box b4 [.p (I 0), .p (I 0), .p (I 0), .p (I 0), .p (I 0), .p (I 0), .p (.str ⟨#[]⟩), .p (.nils), .p (.nils)], .box b3 [.p (.str nm)]]) l bd ba x ((i : Int)) _ _ (hx0) hy).mono ?_
  rintro (v | v) H' hR
  rotate_left
  ·exact hR.elim
  obtain ⟨rfl, _, hT, rfl⟩ := hR
  subst hL
  by_cases hcc : x.name = nm
  ·rw [if_pos hcc] at hT
   subst hT
   refine Ry (i := 2) (.box bd ((DZ x).map .p) :: .box ba [.p (I (i : Int))] :: .box b7 ((DZ x).map .p) :: .box b5 [.p (I 0)] :: .box b4 ((OV (UN.mk 0 ((i : Int)) 0 x.params x.type)).map .p) :: .box b3 [.p (.str nm)] :: (.dfr dd :: U.map BT.dfr)) At As At At (BB (MS (dd :: U) (Hs := [_, _, _, _, _, _]) (⟨_, _, ⟨_, _, At, (Bn (i := 4) Pt At At (by simp [Gz])), ⟨_, _, At, (RH (i := 3) XF At At), At⟩⟩, (List.nil_sublist _), ?_⟩)))
   all_goals exact ⟨⟨(UN.mk 0 (i : Int) 0 x.params x.type), by rw [if_pos (List.any_eq_true.2 ⟨x, List.mem_of_getElem? hx, by simpa using hcc⟩)]⟩, rfl⟩
  ·rw [if_neg hcc] at hT
   subst hT
   refine Q0 (i := 2) (.box bd ((DZ x).map .p) :: .box ba [.p (I (i : Int))] :: .box b7 ((DZ x).map .p) :: .box b5 [.p (I 0)] :: .box b4 [.p (I 0), .p (I 0), .p (I 0), .p (I 0), .p (I 0), .p (I 0), .p (.str ⟨#[]⟩), .p (.nils), .p (.nils)] :: .box b3 [.p (.str nm)] :: (.dfr dd :: U.map BT.dfr)) At As At At (Av (Au At At (CS At At Ar Ar) (Au At At (Aw At) (Az At (⟨⟨i + 1, dd :: U⟩, AZ, ⟨by omega, Dl (p := fun _ (x : Kb) => ¬ (x.name = nm)) hC hx hcc⟩, B8 ⟨we rfl, we rfl, we rfl, we rfl, we rfl, we rfl, trivial⟩ (QW [3, 4, 5] [_, _, _, _, _, _] (l' := [_, _, _]) rfl (wl (oe rfl) (wl (oe rfl) (wl (oe rfl) (D4)))))⟩)))))
 ·(try simp only [sd, se] at c)
  refine CL (Ax (Av (Au At At (Br Yr Tu At) (Au At At (Bk (i := 1) Pt At At At At At At) (Au At At (Bk (i := 0) XF At At At At At At) (Az At (CG (C9 (i := 1) At) (BB (MS U (Hs := [_, _, _]) (⟨_, _, ⟨_, _, At, (Bn (i := 1) Pt At At At), ⟨_, _, At, (RH (i := 0) XF At At), At⟩⟩, (List.nil_sublist _), ?_⟩))))))))))
  all_goals exact ⟨⟨(UN.mk 0 0 0 0 BZ), by rw [if_neg (fun h => by obtain ⟨x, hx, hq⟩ := List.any_eq_true.1 h; obtain ⟨j, hj⟩ := List.getElem?_of_mem hx; exact hC j (by have := (List.getElem?_eq_some_iff.1 hj).1; omega) x hj (by simpa using hq))]; rfl⟩, rfl⟩
theorem Yz : ∀ (b0 : Nat) (ds : List Kb) (nm : ByteArray), (ds.length < EC) → (∀ d ∈ ds, d.kind = 0) → Bt Tryz.prog 75 [.p (.str nm), .ptr b0 0] [.box b0 [.p (.lst (List.map DZ ds))]] (DC (.p (.bool (!P0 ds nm))) [.box b0 [.p (.lst (List.map DZ ds))]]) := by
 intro b0 ds nm h1 h2
 refine A8 Tryz.func75 At eM (n := 14) At At (Ax (Av (Au At At (Ay At) (Az At (Ax (Av (Au At At (A2 (i := 0) dH At At At) (Au At At (Aw At) (Ff At At (Bb At At (Wb ds nm h1 h2) (.inl At)) ?_)))))))))
 rintro _ ⟨xe, rfl⟩
 refine Au At At (Aw At) (Au At At (BY At At) (Au At At (BY At At) (BM At At (BK Tu At) fun b4 => Au At At (A6 (i := 0) Pt At At At (by simp [Gz]) (by first | rfl | simp [Gz]) (Pp _)) (Au At At (Ay At) (Az At (Ax (Av (Au At At (Aw At) (Au At At (BA At At At) (Au At At (Ay At) ?_))))))))))
 refine Az At (BB (⟨At, _, _, ⟨_, _, At, At, At⟩, (Cj (is := [1]) At), ?_⟩))
 all_goals exact ⟨by show (.p (.bool (((if ds.any (fun d => decide (d.name = nm)) then 0 else 9) : Int) != (0 : Int))) : AV) = _; simp only [P0]; cases ds.any (fun d => decide (d.name = nm)) <;> rfl, rfl⟩
theorem ZG : ∀ (b0 : Nat) (ds : List Kb) (l : List ByteArray), (ds.length < EC) → (∀ d ∈ ds, d.kind = 0) → (l.length < EC) → Bt Tryz.prog 111 [.p (.lst (List.map Ch l)), .fn (.func 75) [] [.ptr b0 0]] [.box b0 [.p (.lst (List.map DZ ds))]] (DC (.p (I (Xl ds l 0))) [.box b0 [.p (.lst (List.map DZ ds))]]) := by
 intro b0 ds l h1 h2 h3
 have hbig : l.length < 1099511627776 := h3
 refine A8 Tryz.func111 At bL (n := 19) At At (Ax (Av (Au At At (Ay At) (Az At (Ax (Ax (Av (Au At At (Aw At) (Au At At (Bp Kf At (List.length_map _)) (Au At At (Aw At) (Az At ?_)))))))))))
 refine Ba (CM (α := Nat) (fun i => ⟨19, mk [(0, .p (.lst (List.map Ch l))), (1, .fn (.func 75) [] [.ptr b0 0]), (7, .p (I (l.length : Nat))), (8, .p (I (i : Int)))], [.box b0 [.p (.lst (List.map DZ ds))]], []⟩) (fun i => l.length - i) (fun i => i ≤ l.length ∧ (Xl ds (l.drop i) i = Xl ds l 0)) 0 (⟨by omega, rfl⟩) ?_ ?_)
 ·exact B8 ⟨we At, we At, we At, we At, trivial⟩ (leH (is := [0]) At (wl (oe At) (D4)))
 rintro i hC
 try simp only at hC
 obtain ⟨hi, hC⟩ := hC
 refine Ax (Av (Au At At (BA At At At) (Az At (Ax (A9 At (fun c => ?_) (fun c => ?_))))))
 ·(try simp only [sd, se] at c)
  refine BC (Ax (Ba (Ax (Av (Au At At (Aw At) (Au At At (Ay At) (Az At (Ax (Av (Au At At (Aw At) (Au At At (Aw At) ?_)))))))))))
  refine Au At At (Aw At) ?_
  obtain ⟨x, hx⟩ := BP (l := l) (i := i) Ar
  refine Au At At (BL Kf At At Ar (Ni hx) (At)) (Au At At (CI FU At) (Au At At (B6 [0] At (.inr At) (Yz b0 ds x h1 h2) ⟨_, _, At, At, At⟩ Aq At (.inl At)) (Az At (A9 At (fun c1 => ?_) (fun c1 => ?_)))))
  ·(try simp only [sd, se] at c1)
   refine Ax (Av (Au At At (Aw At) (Au At At (Ay At) (Az At (BB (⟨At, _, _, ⟨_, _, At, At, At⟩, (Cj (is := [0]) At), ?_⟩))))))
   all_goals exact ⟨by show (.p (I (i : Int)) : AV) = _; rw [← hC, Vx hx, if_neg (by simpa using c1)], rfl⟩
  ·(try simp only [sd, se] at c1)
   refine BC (Av (Au At At (CS At At Ar Ar) (Au At At (Aw At) (Az At ?_))))
   refine ⟨(i + 1), AZ, ⟨by omega, by rw [← hC, Vx hx, if_pos (by simpa using c1)]; rfl⟩, B8 ⟨we rfl, we rfl, we rfl, we rfl, trivial⟩ (leH (is := [0]) rfl (wl (oe rfl) (D4)))⟩
 ·(try simp only [sd, se] at c)
  refine CL (Ax (Av (Au At At (Ay At) (Az At (BB (⟨At, _, _, ⟨_, _, At, At, At⟩, (Cj (is := [0]) At), ?_⟩))))))
  all_goals exact ⟨by show (.p (I (-1)) : AV) = _; rw [← hC, List.drop_eq_nil_of_le Ar]; rfl, rfl⟩
theorem Za : ∀ (b0 : Nat) (ds : List Kb) (l : List ByteArray), (ds.length < EC) → (∀ d ∈ ds, d.kind = 0) → (l.length < EC) → Bt Tryz.prog 74 [.p (.lst (List.map Ch l)), .fn (.func 75) [] [.ptr b0 0]] [.box b0 [.p (.lst (List.map DZ ds))]] (DC (.p (.bool (QJ ds l))) [.box b0 [.p (.lst (List.map DZ ds))]]) := by
 intro b0 ds l h1 h2 h3
 refine A8 Tryz.func74 At eO (n := 9) At At (Ax (Av (Au At At (Ay At) (Az At (Ax (Av (Au At At (Aw At) (Au At At (Aw At) (Au At At (B6 [0] At (.inl ⟨At, At, At⟩) (ZG b0 ds l h1 h2 h3) ⟨_, _, At, At, At⟩ Aq At (.inl At)) (Au At At (BA At At At) (Au At At (Ay At) ?_)))))))))))
 refine Az At (BB (⟨At, _, _, ⟨_, _, At, At, At⟩, (Cj (is := [0]) At), ?_⟩))
 all_goals exact ⟨by show (.p (.bool (decide ((Xl ds l 0 : Int) ≥ (0 : Int)))) : AV) = _; rw [← TT l 0 Ar], rfl⟩
theorem W9 : ∀ (ds : List Kb) (th : BJ), (ds.length < EC) → (∀ d ∈ ds, d.kind = 0) → (th.lemmas.length = 14) → G5 Tryz.prog 44 [.p (.lst (List.map DZ ds)), .agg ((EE th).map .p)] (.p (.bool (QJ ds (P4 th)))) := by
 intro ds th h1 h2 h3
 obtain ⟨BG, BD, BE, BF, BH, BI, thm⟩ := th
 simp only at h3
 refine A8 Tryz.func44 At fA (n := 22) At At (Ax (Av (BM At At (Bh At) fun b2 => BM At At (Bh At) fun b3 => Au At At (Ay At) (Az At (Ax (Dm [.val (.ptr b3 (0 + 0)), .val (.p (.str BG)), .val (.ptr b3 (0 + 1)), .val (.p (.str BD)), .val (.ptr b3 (0 + 2)), .val (.p (.str BE)), .val (.ptr b3 (0 + 3)), .val (.p (.str BF)), .newv 1 (List.map Ch ([BG, BD, BE, BF, ⟨#[69, 113]⟩, ⟨#[69, 113, 46, 114, 101, 102, 108]⟩, ⟨#[69, 113, 46, 115, 121, 109, 109]⟩, ⟨#[69, 113, 46, 116, 114, 97, 110, 115]⟩, ⟨#[69, 113, 46, 99, 111, 110, 103, 114]⟩])), .val (.ptr b3 (0 + 6)), .val (.p (.lst (List.map Ch thm))), .val (.p (.lst (List.map Ch (thm.take 7))))] D0 At An An (BN At (fun Bs => A1 DU At At) (BN At (fun Bs => A2 (i := Bs.length + 0) FU At (Bx At) At) ?_))))))))
 refine BN At (fun Bs => A1 DU At At) (BN At (fun Bs => A2 (i := Bs.length + 0) FU At (Bx At) At) (BN At (fun Bs => A1 DU At At) (BN At (fun Bs => A2 (i := Bs.length + 0) FU At (Bx At) At) (BN At (fun Bs => A1 DU At At) (BN At (fun Bs => A2 (i := Bs.length + 0) FU At (Bx At) At) (Lq At (fun Bs => G7 (rows := List.map Ch ([BG, BD, BE, BF, ⟨#[69, 113]⟩, ⟨#[69, 113, 46, 114, 101, 102, 108]⟩, ⟨#[69, 113, 46, 115, 121, 109, 109]⟩, ⟨#[69, 113, 46, 116, 114, 97, 110, 115]⟩, ⟨#[69, 113, 46, 99, 111, 110, 103, 114]⟩])) Kf aW At At At At At) fun b14 cp => BN At (fun Bs => A1 DU At At) (BN At (fun Bs => A2 (i := Bs.length + 0) Uh At (Bx At) At) ?_)))))))
 refine BN At (fun Bs => EA (lo := 0) (hi := 7) Kf At (Bz (MG _)) At ⟨_, At⟩ (Nat.zero_le _) AU (Y0 (f := Ch) thm 7)) (Ed ?_)
 change AL _ _ _ 12 ⟨22, _, [.vec (some b14) 1 (List.map Ch ([BG, BD, BE, BF, ⟨#[69, 113]⟩, ⟨#[69, 113, 46, 114, 101, 102, 108]⟩, ⟨#[69, 113, 46, 115, 121, 109, 109]⟩, ⟨#[69, 113, 46, 116, 114, 97, 110, 115]⟩, ⟨#[69, 113, 46, 99, 111, 110, 103, 114]⟩])) cp, .box b3 [.p (.str BG), .p (.str BD), .p (.str BE), .p (.str BF), .p (.str BH), .p (.str BI), .p (.lst (List.map Ch thm))], .box b2 [.p (.lst (List.map DZ ds))]], []⟩ _
 refine Au At At (FI (i := 0) (rows' := List.map Ch (thm.take 7)) Kf Kf aW At At At At At At (MG _) (by simp only [List.length_map, List.length_take, List.length_cons, List.length_nil]; omega) (IE (f := Ch) ([BG, BD, BE, BF, ⟨#[69, 113]⟩, ⟨#[69, 113, 46, 114, 101, 102, 108]⟩, ⟨#[69, 113, 46, 115, 121, 109, 109]⟩, ⟨#[69, 113, 46, 116, 114, 97, 110, 115]⟩, ⟨#[69, 113, 46, 99, 111, 110, 103, 114]⟩]) (thm.take 7))) (Au At At (Ay At) (Az At (Ax (Av (Au At At (Aw At) (Au At At (Cw At At) ?_))))))
 refine Au At At (B6 [1] At (.inl ⟨At, At, At⟩) (Za b2 ds ([BG, BD, BE, BF, ⟨#[69, 113]⟩, ⟨#[69, 113, 46, 114, 101, 102, 108]⟩, ⟨#[69, 113, 46, 115, 121, 109, 109]⟩, ⟨#[69, 113, 46, 116, 114, 97, 110, 115]⟩, ⟨#[69, 113, 46, 99, 111, 110, 103, 114]⟩] ++ (thm.take 7)) h1 h2 (by simp only [EC, List.length_append, List.length_take, List.length_cons, List.length_nil]; omega)) ⟨_, _, At, At, At⟩ Aq At (.inl At)) (Au At At (Ay At) (Az At (BB (⟨At, _, _, ⟨_, _, At, At, At⟩, (List.nil_sublist _), ?_⟩))))
 all_goals exact ⟨rfl, rfl⟩
theorem W5 : ∀ (GL : List (Nat × Obj)) (ds : List Kb) (th : BJ) (t : Tm) (hG : Gl GL), (ds.length < EC) → (∀ d ∈ ds, d.kind = 0) → (th.lemmas.length = 14) → (QJ ds (P4 th) = false) → (ER t) → (size t ≤ 4096) → ((CP th t).all ≤ 60) → (GP th) → Bt Tryz.prog 16 [.p (.lst (List.map DZ ds)), .agg ((EE th).map .p), .agg ((Be t).map .p)] [.glob GL] (fun x H' => (∃ s p e, x = .val (.tup [TV s, TV p, .p (I e)]) ∧ (e = 0 ∧ s = EO th (CP th t).coefs (CP th t).atoms ∧ p = (Bv th (CP th t).atoms (size t) t).1.proof ∨ e = 5 ∧ s = BZ ∧ p = BZ ∧ 16 < size t)) ∧ H' = [.glob GL]) := by
 intro GL ds th t hG h1 h2 h3 h4 h5 h6 h7 h8
 obtain ⟨BG, BD, BE, BF, BH, BI, thm⟩ := th
 simp only at h3
 refine A8 Tryz.func16 At en (n := 84) At At (Ax (Av (BM At At (Bh At) fun b4 => BM At At (Bh At) fun b5 => BM At At (BK B7 At) fun b6 => BM At At (BK B7 At) fun b7 => Au At At (Ay At) (Az At (Ax (Ax (Av ?_)))))))
 refine Au At At (A1 DU At At) (Au At At (A2 (i := 3) Uh At At At) (Au At At (Bp Kf At (List.length_map _)) (Au At At (BA At At At) (Az At (A9 At (fun c => ?_) (fun c => ?_))))))
 ·(try simp only [sd, se] at c)
  exact absurd h3 Ar
 ·(try simp only [sd, se] at c)
  refine BC (Ax (Ax (Av (Au At At (Aw At) (Au At At (A0 (i := 3) EG At At At) (Au At At (Bg At At (W9 ds (BJ.mk BG BD BE BF BH BI thm) h1 h2 h3) At) (Az At (A9 At (fun c1 => ?_) (fun c1 => ?_)))))))))
  ·(try simp only [sd, se] at c1)
   exact absurd (h4.symm.trans c1) Aq
  ·(try simp only [sd, se] at c1)
   refine BC (Ax (Av (Au At At (A0 (i := 3) EG At At At) (Au At At (A0 (i := 2) BO At At Ak) ?_))))
   refine Gk [_, _, _, _] At At At (.inl ⟨At, At, At⟩) (S5 GL (BJ.mk BG BD BE BF BH BI thm) t hG h5 Ar Ar) (aw (we At) (aw (we At) Cv)) ?_ (fun _ _ ⟨_, _, h, _⟩ => by cases h)
   rintro _ _ ⟨b, T, h, hT, rfl⟩
   cases h
   obtain ⟨o, cp, o1, cp1, m, rfl⟩ := hT
   refine Au At At (Aw At) (Au At At (BY At At) (Au At At (BY At At) (Au At At (Ay At) (Au At At (Ay At) (Az At (Ax (Ax (Av (Au At At (Aw At) (Au At At (BA At At At) (Az At ?_)))))))))))
   refine A9 At (fun c2 => by cases c2) (fun c2 => ?_)
   refine BC (Ax (Av (Au At At (Aw At) (Au At At (Bd At) (Au At At (A1 HL At At) (Au At At (A2 (i := 5) De At At At) (Au At At (BA At At At) (Au At At (Ay At) (Az At (Ax (Ax ?_)))))))))))
   refine CA [4, 5, 6, 7, 9] 47 (fun y => y = .p (.bool ((decide (((CP (BJ.mk BG BD BE BF BH BI thm) t).all : Int) > (60 : Int))) && (decide (((size t : Nat) : Int) > (16 : Int)))))) ?_ ?_
   ·exact Av (C4 (EU (t := 11) (x := .p (.bool false)) (pB Am)) (Au At At (Aw At) (Au At At (Aw At) (A5 At At At At At (A5 At At At At At (A5 At At At At At (Au At At (A7 At At) (Az At (⟨At, At, AJ, AI, ⟨At, At, At, At, At, trivial⟩⟩)))))))))
   rintro _ rfl
   refine A9 At (fun c3 => ?_) (fun c3 => ?_)
   ·(try simp only [sd, se] at c3)
    omega
   ·(try simp only [sd, se] at c3)
    refine BC (Ax (Av (C4 (Dn (i := 6) (j := 5) (q := 0) [] At At At (ID trivial)) (C4 (Dn (i := 6) (j := 5) (q := 1) [] At At At (ID trivial)) (Au At At (A0 (i := 3) EG At At At) (Au At At (Aw At) (Au At At (Br Hi eC At) (BM At At (Bh At) fun b53 => Au At At (Cw At At) (Au At At (Ay At) (Az At ?_))))))))))
    refine Ax (Av (Au At At (Aw At) (Au At At (A0 (i := 3) BO At At Ak) ?_)))
    have hpn := Vy (th := (BJ.mk BG BD BE BF BH BI thm)) h8 h5 h6 h7
    obtain ⟨f1, f2, f3, f4, f5⟩ := Ox (th := (BJ.mk BG BD BE BF BH BI thm)) h5 h6 h7
    refine Au At At (B6 [0, 6, 7, 5] At (.inr At) (UC GL hG b53 b BG BD BE BF BH BI thm m ((CP (BJ.mk BG BD BE BF BH BI thm) t).coefs) ((CP (BJ.mk BG BD BE BF BH BI thm) t).atoms) ((CP (BJ.mk BG BD BE BF BH BI thm) t).all) (size t) t (Nat.le_refl _) h5 Ar f3 f1 Ar h3) ⟨_, _, At, At, ⟨_, _, At, At, ⟨_, _, At, At, ⟨_, _, At, At, At⟩⟩⟩⟩ Aq At (.inl At)) ?_
    generalize hnq : Bv (BJ.mk BG BD BE BF BH BI thm) ((CP (BJ.mk BG BD BE BF BH BI thm) t).atoms) (size t) t = nq
    refine Au At At (Aw At) (Au At At (BY At At) (Au At At (BY At At) (BM At At (BK Dp At) fun b13 => Au At At (A6 (i := 0) Co At At At Aj Ab (Cb _)) ?_)))
    obtain ⟨z, zL⟩ := nq
    rw [hnq] at hpn
    obtain ⟨zl, zr, zp, zs⟩ := z
    obtain ⟨zlk, zli, zln, zll, zls⟩ := zl
    obtain ⟨zrk, zri, zrn, zrl, zrs⟩ := zr
    obtain ⟨zpk, zpi, zpn, zpl, zps⟩ := zp
    simp only at hpn
    refine Au At At (Ay At) (Az At (Ax (Ax (CA [4, 6, 7, 9, 13] 69 (fun y => y = .p (.bool ((decide (((size t : Nat) : Int) > (16 : Int))) && (decide (((size (.mk zpk zpi zpn zpl zps : Tm) : Nat) : Int) > (4096 : Int)))))) ?_ ?_))))
    ·refine Av (Au At At (A0 (i := 4) BO At At Ak) (Au At At (Bg At At (TK t h5.nd Ar) At) (Au At At (BA At At At) (Au At At (Aw At) (Bm 64 At (fun g => ?_) (fun g => ?_))))))
     ·(try simp only [sd, se] at g)
      exact A3 At At At At (A1 Es At At) (A3 At At At At (B1 (i := 0) BO At At At At) (A3 At At At At (Bg At At (TK (.mk zpk zpi zpn zpl zps : Tm) hpn.1 hpn.2) At) (A3 At At At At (BA At At At) (Au At At (A7 At At) (Az At (⟨At, At, AJ, AI, ⟨At, At, At, At, At, trivial⟩⟩))))))
     ·(try simp only [sd, se] at g)
      exact A5 At At At At At (A5 At At At At At (A5 At At At At At (A5 At At At At At (Au At At (A7 At At) (Az At (⟨At, At, AJ, AI, ⟨At, At, At, At, At, trivial⟩⟩))))))
    rintro _ rfl
    refine A9 At (fun c4 => ?_) (fun c4 => ?_)
    ·(try simp only [sd, se] at c4)
     refine Ax (Av (Au At At (Br CX B7 At) (Au At At (Br CX B7 At) (Au At At (Bk (i := 3) BO At At At At At At) (Au At At (Bk (i := 2) BO At At At At At At) (Au At At (Ay At) (Az At (CG (C9 (i := 3) At) (CG (C9 (i := 2) At) (BB (⟨At, _, _, ⟨_, _, At, (Bn (i := 3) BO At At At), ⟨_, _, At, (Bn (i := 2) BO At At At), ⟨_, _, At, At, At⟩⟩⟩, (Cj (is := [6]) At), ?_⟩)))))))))))
     all_goals exact ⟨⟨BZ, BZ, 5, rfl, .inr ⟨rfl, rfl, rfl, by have := c4; omega⟩⟩, rfl⟩
    ·(try simp only [sd, se] at c4)
     refine BC (Ax (CQ (fun k => false) D0 (BQ (j := 5) At At At (fun H i hi => A0 (i := i) EG At hi At) AA trivial (A4 At At (fun _ => Aw At) trivial (A4 At At (fun _ => Bd At) trivial (A4 At At (fun _ => A1 HL At At) trivial (BQ (j := 7) At At At (fun H i hi => A2 (i := i) Nq At hi At) AA trivial (A4 At At (fun _ => Aw At) trivial (A4 At At (fun _ => Bd At) trivial (A4 At At (fun _ => A1 HL At At) trivial (BQ (j := 7) At At At (fun H i hi => A2 (i := i) DQ At hi At) AA trivial ?_)))))))))))
     refine A4 At At (fun _ => Bg At At (JT (BJ.mk BG BD BE BF BH BI thm) ((CP (BJ.mk BG BD BE BF BH BI thm) t).coefs) ((CP (BJ.mk BG BD BE BF BH BI thm) t).atoms) Ag) At) trivial (A4 At At (fun _ => A1 Es At At) trivial (BQ (j := 0) At At At (fun H i hi => B1 (i := i) BO At hi At At) AA trivial (Cr At At (A6 (i := 3) BO At At At Ak Ac (CF _)) AA trivial (Cr At At (Bk (i := 2) BO At At At At At At) AA trivial (A4 At At (fun _ => Ay At) trivial (CK At An (BB (⟨At, _, _, ⟨_, _, At, (Bn (i := 3) BO At At Ak), ⟨_, _, At, (Bn (i := 2) BO At At At), ⟨_, _, At, At, At⟩⟩⟩, (Cj (is := [6]) At), ?_⟩))))))))
     all_goals exact ⟨⟨_, (.mk zpk zpi zpn zpl zps), 0, rfl, .inl ⟨rfl, rfl, rfl⟩⟩, rfl⟩
theorem Xe (GL : List (Nat × Obj)) (hG : Gl GL) (ds : List Kb) (th : BJ) (t : Tm) (h1 : ds.length < EC) (h2 : ∀ d ∈ ds, d.kind = 0) (h3 : th.lemmas.length = 14) (h4 : QJ ds (P4 th) = false) (h5 : ER t) (h6 : size t ≤ 16) (h8 : GP th) :
  Bt Tryz.prog 16 [.p (.lst (List.map DZ ds)), .agg ((EE th).map .p), TV t] [.glob GL] (DC (.tup [TV (EO th (CP th t).coefs (CP th t).atoms), TV (Bv th (CP th t).atoms (size t) t).1.proof, .p (I 0)]) [.glob GL]) :=
 (W5 GL ds th t hG h1 h2 h3 h4 h5 Ar (by have := ZF (th := th) h5; omega) h8).mono (by
  rintro x H' ⟨⟨s, p, e, rfl, h⟩, rfl⟩
  rcases h with ⟨rfl, rfl, rfl⟩ | ⟨_, _, _, h⟩
  ·exact ⟨At, At⟩
  ·omega)
theorem XG : ∀ (i : Int), G5 Tryz.prog 35 [.p (I i)] (.agg ((Be (.mk 0 i ⟨#[]⟩ [] [])).map .p)) := by
 intro i
 refine A8 Tryz.func35 At Z6 (n := 5) At At (Ax (Av (BM At At (BK B7 At) fun b2 => Az At (Ax (Av (Au At At (Aw At) (Au At At (Br CX B7 At) (Au At At (Bk (i := 0) BO At At At At At At) (Az At (CG (C9 (i := 0) At) ?_))))))))))
 refine BB (⟨At, _, _, ⟨_, _, At, (Bn (i := 0) BO At At At), At⟩, (List.nil_sublist _), ?_⟩)
 all_goals exact ⟨by show (.agg [.p (I 0), .p (I i), .p (.str ⟨#[]⟩), .p (.lst []), .p (.lst [])] : AV) = _; rfl, rfl⟩
theorem Ke : ∀ (n : ByteArray) (l : List Tm), (l.length < EC) → G5 Tryz.prog 36 [.p (.str n), .p (.lst (BR l))] (.agg ((Be (BS n l)).map .p)) := by
 intro n l h1
 refine A8 Tryz.func36 At fD (n := 9) At At (Ax (Av (BM At At (BK B7 At) fun b4 => Az At (Ax (Av (Au At At (Aw At) (Au At At (Br CX B7 At) (Au At At (Aw At) (Au At At (DA At At (Ky (.mk 3 0 n [] [] : Tm) l h1) (aw (Cq At) (aw (we At) (Cv)))) (Au At At (A6 (i := 0) BO At At At Ak Ac (CF _)) ?_))))))))))
 refine Az At (BB (⟨At, _, _, ⟨_, _, At, (Bn (i := 0) BO At At Ak), At⟩, (List.nil_sublist _), ?_⟩))
 all_goals exact ⟨rfl, rfl⟩
theorem _root_.Go.AO {α : Prop} (h : α := by simp only [EC, List.length_cons, List.length_nil]; omega) : α := h
theorem Ix : ∀ (a b : Tm), G5 Tryz.prog 23 [.agg ((Be a).map .p), .agg ((Be b).map .p)] (.agg ((Be (BS ⟨#[97, 100, 100]⟩ [a, b])).map .p)) := by
 intro a b
 refine A8 Tryz.func23 At ax (n := 9) At At (Ax (Av (BM At At (Bh At) fun b2 => BM At At (Bh At) fun b3 => BM At At (BK B7 At) fun b4 => Az At (Ax (Av (Au At At (A0 (i := 2) BO At At Ak) (Au At At (A0 (i := 1) BO At At Ak) (Au At At (BU (rows := BR [a, b]) By B7 At At At At (Bz (CC _)) (C1 _)) ?_))))))))
 refine Au At At (Bg At At (Ke ⟨#[97, 100, 100]⟩ [a, b] AO) At) (Au At At (A6 (i := 0) BO At At At Ak Ac (CF _)) (Az At (BB (⟨At, _, _, ⟨_, _, At, (Bn (i := 0) BO At At Ak), At⟩, (List.nil_sublist _), ?_⟩))))
 all_goals exact ⟨rfl, rfl⟩
theorem L8 : ∀ (a : Tm), G5 Tryz.prog 24 [.agg ((Be a).map .p)] (.agg ((Be (BS ⟨#[110, 101, 103]⟩ [a])).map .p)) := by
 intro a
 refine A8 Tryz.func24 At cE (n := 6) At At (Ax (Av (BM At At (Bh At) fun b1 => BM At At (BK B7 At) fun b2 => Az At (Ax (Av (Au At At (A0 (i := 1) BO At At Ak) (Au At At (BU (rows := BR [a]) By B7 At At At At (Bz (CC _)) (C1 _)) (Au At At (Bg At At (Ke ⟨#[110, 101, 103]⟩ [a] AO) At) (Au At At (A6 (i := 0) BO At At At Ak Ac (CF _)) ?_)))))))))
 refine Az At (BB (⟨At, _, _, ⟨_, _, At, (Bn (i := 0) BO At At Ak), At⟩, (List.nil_sublist _), ?_⟩))
 all_goals exact ⟨rfl, rfl⟩
theorem Vh : G5 Tryz.prog 21 [] (.agg ((EE (BJ.mk ⟨#[90]⟩ ⟨#[97, 100, 100]⟩ ⟨#[122, 101, 114, 111]⟩ ⟨#[110, 101, 103]⟩ ⟨#[111, 110, 101]⟩ ⟨#[108, 101, 113]⟩ [⟨#[108, 48]⟩, ⟨#[108, 49]⟩, ⟨#[108, 50]⟩, ⟨#[108, 51]⟩, ⟨#[108, 52]⟩, ⟨#[108, 53]⟩, ⟨#[108, 54]⟩, ⟨#[108, 55]⟩, ⟨#[108, 56]⟩, ⟨#[108, 57]⟩, ⟨#[108, 49, 48]⟩, ⟨#[108, 49, 49]⟩, ⟨#[108, 49, 50]⟩, ⟨#[108, 49, 51]⟩])).map .p)) := by
 refine A8 Tryz.func21 At fB (n := 3) At At (Ax (Av (BM At At (BK We At) fun b0 => Az At (Ax (Av (Au At At (CO Kf aW At At At At At) (Au At At (Br DU We At) (Au At At (Bk (i := 0) EG At At At At At At) (Az At (BB ?_))))))))))
 refine ⟨At, _, _, ⟨_, _, At, (Bn (i := 0) EG At At At), At⟩, (List.nil_sublist _), ?_⟩
 all_goals exact ⟨by show (.agg [.p (.str ⟨#[90]⟩), .p (.str ⟨#[97, 100, 100]⟩), .p (.str ⟨#[122, 101, 114, 111]⟩), .p (.str ⟨#[110, 101, 103]⟩), .p (.str ⟨#[111, 110, 101]⟩), .p (.str ⟨#[108, 101, 113]⟩), .p (.lst (List.map Ch ([⟨#[108, 48]⟩, ⟨#[108, 49]⟩, ⟨#[108, 50]⟩, ⟨#[108, 51]⟩, ⟨#[108, 52]⟩, ⟨#[108, 53]⟩, ⟨#[108, 54]⟩, ⟨#[108, 55]⟩, ⟨#[108, 56]⟩, ⟨#[108, 57]⟩, ⟨#[108, 49, 48]⟩, ⟨#[108, 49, 49]⟩, ⟨#[108, 49, 50]⟩, ⟨#[108, 49, 51]⟩])))] : AV) = _; rfl, rfl⟩
theorem cP : ∀ (l : FC) (a x y : Tm), G5 Tryz.prog 65 [.agg ((Dw l).map .p), .agg ((Be a).map .p), .agg ((Be x).map .p), .agg ((Be y).map .p)] (.agg ((Be (apply (.mk 3 0 ⟨#[69, 113]⟩ [l] []) [a, x, y])).map .p)) := by
 intro l a x y
 refine A8 Tryz.func65 At cQ (n := 17) At At (Ax (Av (BM At At (Bh At) fun b4 => BM At At (Bh At) fun b5 => BM At At (Bh At) fun b6 => BM At At (Bh At) fun b7 => BM At At (BK B7 At) fun b8 => Az At (Ax (Av (Au At At (A0 (i := 4) EM At At At) ?_))))))
 refine Au At At (BU (rows := List.map Dw [l]) Hr Gw At At At At (Bz (Lx _)) (Rq _)) (Au At At (Br CX B7 At) (Au At At (A0 (i := 3) BO At At Ak) (Au At At (A0 (i := 2) BO At At Ak) (Au At At (A0 (i := 1) BO At At Ak) (Au At At (BU (rows := BR [a, x, y]) By B7 At At At At (Bz (CC _)) (C1 _)) (Au At At (DA At At (Ky (.mk 3 0 ⟨#[69, 113]⟩ [l] [] : Tm) [a, x, y] AO) (aw (Cq At) (aw (we At) (Cv)))) (Au At At (A6 (i := 0) BO At At At Ak Ac (CF _)) (Az At (BB (⟨At, _, _, ⟨_, _, At, (Bn (i := 0) BO At At Ak), At⟩, (List.nil_sublist _), ?_⟩))))))))))
 all_goals exact ⟨rfl, rfl⟩
theorem WU : ∀ (t : Tm) (by' fr : Int), (Nd t) → (size t < 1000000) → (-65536 ≤ by' ∧ by' ≤ 65536) → (0 ≤ fr) → G9 Tryz.prog 104 [.agg ((Be t).map .p), .p (I by'), .p (I fr)] (fun v => ∃ (q : Tm) (e : Int), v = .tup [TV q, .p (I e)]) := by
 intro t by' fr h1 h2 h3 h4
 refine A8 Tryz.func104 At cO (n := 40) At At (Ax (Av (BM At At (Bh At) fun b3 => BM At At (BK B7 At) fun b6 => Au At At (Ay At) (Az At (Ax (Ax (CA [1, 2, 3, 6] 19 (fun y => y = .p (.bool (((decide ((fr : Int) < (0 : Int))) || (decide ((by' : Int) < (-65536 : Int)))) || (decide ((by' : Int) > (65536 : Int)))))) ?_ ?_)))))))
 ·refine Av (Au At At (Aw At) (Au At At (BA At At At) (Au At At (Aw At) (Bm 12 At (fun g => ?_) (fun g => ?_)))))
  ·(try simp only [sd, se] at g)
   exact A5 At At At At At (A5 At At At At At (Au At At (A7 At At) (Au At At (Aw At) (A5 At At At At At (A5 At At At At At (Au At At (A7 At At) (Az At (⟨At, At, AJ, AI, ⟨At, At, At, At, trivial⟩⟩))))))))
  ·(try simp only [sd, se] at g)
   refine A3 At At At At (Aw At) (A3 At At At At (BA At At At) (Au At At (A7 At At) (Au At At (Aw At) (Bm 16 At (fun g1 => ?_) (fun g1 => ?_)))))
   ·(try simp only [sd, se] at g1)
    exact A5 At At At At At (A5 At At At At At (Au At At (A7 At At) (Az At (⟨At, At, AJ, AI, ⟨At, At, At, At, trivial⟩⟩))))
   ·(try simp only [sd, se] at g1)
    exact A3 At At At At (Aw At) (A3 At At At At (BA At At At) (Au At At (A7 At At) (Az At (⟨At, At, AJ, AI, ⟨At, At, At, At, trivial⟩⟩))))
 rintro _ rfl
 refine A9 At (fun c => ?_) (fun c => ?_)
 ·(try simp only [sd, se] at c)
  refine Ax (Av (Au At At (Br CX B7 At) (Au At At (Bk (i := 0) BO At At At At At At) (Au At At (Ay At) (Az At (CG (C9 (i := 0) At) (BB (⟨At, _, _, ⟨_, _, At, (Bn (i := 0) BO At At At), ⟨_, _, At, At, At⟩⟩, (List.nil_sublist _), ?_⟩))))))))
  all_goals exact ⟨⟨BZ, _, rfl⟩, rfl⟩
 ·(try simp only [sd, se] at c)
  refine BC (Ax (Av (Au At At (Br Qi Z0 At) (BM At At (Bh At) fun b22 => Au At At (Ay At) (Az At (Ax (Av (Au At At (Aw At) (Au At At (A0 (i := 2) BO At At Ak) (Au At At (Aw At) ?_))))))))))
  refine Au At At (Aw At) (Au At At (Px At At) (Au At At (B6 [0] At (.inl ⟨At, At, At⟩) (Xc _ t b22 by' (min (fr : Int) (65536 : Int)) 0 0 0 (Nat.le_refl _) h1 Ar Ar) ⟨_, _, rfl, rfl, rfl⟩ Aq rfl (.inl rfl)) (BM At At (BK B7 At) fun b9 => Au At At (A6 (i := 0) BO At At At Ak Ac (CF _)) (Az At (Ax (Ax (Av (Au At At (Aw At) (Au At At (Bd At) (Au At At (A1 Qi At At) ?_))))))))))
  refine Au At At (A2 (i := 1) De At At At) (Au At At (BA At At At) (Az At (A9 At (fun c1 => ?_) (fun c1 => ?_))))
  ·(try simp only [sd, se] at c1)
   refine Ax (CQ (fun k => false) D0 (A4 At At (fun _ => Br CX B7 At) trivial (A4 At At (fun _ => Aw At) trivial (A4 At At (fun _ => Bd At) trivial (A4 At At (fun _ => A1 Qi At At) trivial (BQ (j := 1) At At At (fun H i hi => A2 (i := i) De At hi At) AA trivial (Cr At At (Bk (i := 2) BO At At At At At At) AA trivial (A4 At At (fun _ => Ay At) trivial (CK At An (CG (C9 (i := 2) At) (BB ?_)))))))))))
   refine ⟨At, _, _, ⟨_, _, At, (Bn (i := 2) BO At At At), ⟨_, _, At, At, At⟩⟩, (List.nil_sublist _), ?_⟩
   all_goals exact ⟨⟨BZ, _, rfl⟩, rfl⟩
  ·(try simp only [sd, se] at c1)
   refine BC (Ax (Av (Au At At (A0 (i := 0) BO At At Ak) (Au At At (A6 (i := 2) BO At At At Ak Ac (CF _)) (Au At At (Ay At) (Az At (BB (⟨At, _, _, ⟨_, _, At, (Bn (i := 2) BO At At Ak), ⟨_, _, At, At, At⟩⟩, (List.nil_sublist _), ?_⟩))))))))
   all_goals exact ⟨⟨_, _, rfl⟩, rfl⟩
theorem Yb : ∀ (a b : Tm), (Nd b) → (size b < 1000000) → G9 Tryz.prog 68 [.agg ((Be a).map .p), .agg ((Be b).map .p)] (fun v => ∃ q : Tm, v = TV q) := by
 intro a b h1 h2
 refine A8 Tryz.func68 At fE (n := 16) At At (Ax (Av (BM At At (Bh At) fun b2 => BM At At (Bh At) fun b3 => BM At At (BK B7 At) fun b4 => Az At (Ax (Av (Au At At (A0 (i := 1) BO At At Ak) (Ff At At (Bb At At (WU b 1 0 h1 h2 Ar Ar) (.inl At)) ?_)))))))
 rintro _ ⟨q, e, rfl⟩
 refine Au At At (Aw At) (Au At At (BY At At) (Au At At (BY At At) (BM At At (BK B7 At) fun b5 => Au At At (A6 (i := 0) BO At At At Ak Ac (CF _)) (Au At At (Ay At) (Az At (Ax (Av (Au At At (A0 (i := 3) BO At At Ak) (Au At At (A0 (i := 0) BO At At Ak) (Au At At (BU (rows := BR [a, q]) By B7 At At At At (Bz (CC _)) (C1 _)) ?_))))))))))
 refine Au At At (Br CX B7 At) (Au At At (Bk (i := 1) BO At At At At At At) (Az At (CG (C9 (i := 1) At) (BB (⟨At, _, _, ⟨_, _, At, (Bn (i := 1) BO At At At), At⟩, (List.nil_sublist _), ?_⟩)))))
 all_goals exact ⟨⟨(.mk 6 0 ⟨#[]⟩ [] [a, q]), rfl⟩, rfl⟩
theorem NH : ∀ (l : FC), G9 Tryz.prog 61 [.agg ((Dw l).map .p)] (fun v => ∃ q : Tm, v = TV q) := by
 intro l
 refine A8 Tryz.func61 At dq (n := 6) At At (Ax (Av (BM At At (Bh At) fun b1 => BM At At (BK B7 At) fun b2 => Az At (Ax (Av (Au At At (A0 (i := 1) EM At At At) (Au At At (BU (rows := List.map Dw [l]) Hr Gw At At At At (Bz (Lx _)) (Rq _)) (Au At At (Br CX B7 At) (Au At At (Bk (i := 0) BO At At At At At At) ?_)))))))))
 refine Az At (CG (C9 (i := 0) At) (BB (⟨At, _, _, ⟨_, _, At, (Bn (i := 0) BO At At At), At⟩, (List.nil_sublist _), ?_⟩)))
 all_goals exact ⟨⟨(.mk 2 0 ⟨#[]⟩ [l] []), rfl⟩, rfl⟩
theorem IF : ∀ (l : List Tm), (0 < l.length) → (l.length < 100) → G9 Tryz.prog 62 [.p (.lst (BR l))] (fun v => ∃ q : Tm, v = TV q) := by
 intro l h1 h2
 refine A8 Tryz.func62 At fY (n := 15) At At (Ax (Av (BM At At (BK B7 At) fun b2 => Az At (Ax (CQ (fun k => false) D0 (A4 At At (fun _ => Aw At) trivial (A4 At At (fun _ => Aw At) trivial (A4 At At (fun _ => Bp By At (Bo _)) trivial (A4 At At (fun _ => FA At At Ar Ar) trivial (A4 At At (fun _ => EA (lo := 0) (hi := (((l.length : Nat) : Int) - (1 : Int) : Int).toNat) By At (Bz (CC _)) At ⟨_, pI Ar⟩ (Nat.zero_le _) AU (YN l ((((l.length : Nat) : Int) - (1 : Int) : Int).toNat))) trivial ?_))))))))))
 refine A4 At At (fun _ => Aw At) trivial (A4 At At (fun _ => Aw At) trivial (A4 At At (fun _ => Bp By At (Bo _)) trivial (A4 At At (fun _ => FA At At Ar Ar) trivial ?_)))
 obtain ⟨x, hx⟩ := BP (l := l) (i := (((l.length : Nat) : Int) - (1 : Int) : Int).toNat) Ar
 refine A4 At At (fun _ => BL By At At Ar (CH hx) (Bj _)) trivial (A4 At At (fun _ => Bi BO At (Bj _)) trivial (A4 At At (fun _ => Bg At At (Zg (l.take ((((l.length : Nat) : Int) - (1 : Int) : Int).toNat)) x (by simp only [EC, List.length_take]; omega)) At) trivial (Cr At At (A6 (i := 0) BO At At At Ak Ac (CF _)) AA trivial (CK At An (BB (⟨At, _, _, ⟨_, _, At, (Bn (i := 0) BO At At Ak), At⟩, (List.nil_sublist _), ?_⟩))))))
 all_goals exact ⟨⟨_, rfl⟩, rfl⟩
theorem N6 : ∀ (b0 : Nat) (z x y : Tm), Bt Tryz.prog 64 [.agg ((Be x).map .p), .agg ((Be y).map .p), .ptr b0 0] [.box b0 ((Be z).map .p)] (DC (.agg ((Be (apply (.mk 3 0 ⟨#[69, 113]⟩ [FC.mk 0 []] []) [z, x, y])).map .p)) [.box b0 ((Be z).map .p)]) := by
 intro b0 z x y
 refine A8 Tryz.func64 At fe (n := 11) At At (Ax (Av (BM At At (Bh At) fun b3 => BM At At (Bh At) fun b4 => BM At At (BK B7 At) fun b5 => Az At (Ax (Av (Au At At (Br D8 Gw At) (Au At At (A0 (i := 3) BO At At Ak) (Au At At (A0 (i := 2) BO At At Ak) ?_))))))))
 refine Au At At (A0 (i := 1) BO At At Ak) (Au At At (DA At At (cP (FC.mk 0 []) z x y) (aw (Cq At) (aw (we At) (aw (we At) (aw (we At) (Cv)))))) (Au At At (A6 (i := 0) BO At At At Ak Ac (CF _)) (Az At (BB (⟨At, _, _, ⟨_, _, At, (Bn (i := 0) BO At At Ak), At⟩, (Cj (is := [3]) At), ?_⟩)))))
 all_goals exact ⟨rfl, rfl⟩
theorem G3 : ∀ (n : ByteArray) (p : Int) (t : Tm), G5 Tryz.prog 66 [.p (.str n), .p (I p), .agg ((Be t).map .p)] (.agg ((DZ (Dc n p t)).map .p)) := by
 intro n p t
 obtain ⟨tk, ti, tn, tl, ts⟩ := t
 refine A8 Tryz.func66 At dV (n := 11) At At (Ax (Av (BM At At (Bh At) fun b5 => BM At At (BK TX At) fun b6 => Az At (Ax (Av (Au At At (Aw At) (Au At At (Aw At) (Au At At (A0 (i := 1) BO At At At) (Au At At (Br (cs := [.p (I 0), .p (.str n), .p (I p), .p (I tk), .p (I ti), .p (.str tn), .p (.lst (List.map Dw tl)), .p (.lst (BR ts)), .p (I 0), .p (I 0), .p (.str ⟨#[]⟩), .p (.nils), .p (.nils), .p (I 0), .p (.nils), .p (I 0), .p (I 0), .p (I 0), .p (.str ⟨#[]⟩), .p (.nils), .p (.nils), .p (.nils), .p (.nils)]) PW TX An) ?_)))))))))
 refine Au At At (A6 (i := 0) (us := [.p (I 0), .p (.str n), .p (I p), .p (I tk), .p (I ti), .p (.str tn), .p (.lst (List.map Dw tl)), .p (.lst (BR ts)), .p (I 0), .p (I 0), .p (.str ⟨#[]⟩), .p (.nils), .p (.nils), .p (I 0), .p (.nils), .p (I 0), .p (I 0), .p (I 0), .p (.str ⟨#[]⟩), .p (.nils), .p (.nils), .p (.nils), .p (.nils)]) RS At At At At At At) (Az At (CG (C9 (i := 0) At) (BB (⟨At, _, _, ⟨_, _, At, (Bn (i := 0) RS At At At), At⟩, (List.nil_sublist _), ?_⟩))))
 all_goals exact ⟨rfl, rfl⟩
theorem Vf : ∀ (a b : Int), (0 ≤ a ∧ a < 100) → (0 ≤ b ∧ b < 100) → G9 Tryz.prog 67 [.p (I a), .p (I b)] (fun v => ∃ q : Tm, v = TV q) := by
 intro a b h1 h2
 refine A8 Tryz.func67 At eW (n := 10) At At (Ax (Av (BM At At (BK B7 At) fun b4 => Az At (Ax (Av (Au At At (Aw At) (Au At At (Bg At At (XG a) At) (Au At At (Aw At) (Au At At (Bg At At (XG b) At) (Ff At At (Bb At At (Yb (.mk 0 a ⟨#[]⟩ [] []) (.mk 0 b ⟨#[]⟩ [] []) (ZB h2) (by simp [size, B4])) (.inl At)) ?_))))))))))
 rintro _ ⟨q, rfl⟩
 refine Au At At (A6 (i := 0) BO At At At Ak Ac (CF _)) (Az At (BB (⟨At, _, _, ⟨_, _, At, (Bn (i := 0) BO At At Ak), At⟩, (List.nil_sublist _), ?_⟩)))
 all_goals exact ⟨⟨_, rfl⟩, rfl⟩
theorem DV : ∀ (i : Int), G9 Tryz.prog 35 [.p (I i)] (fun v => ∃ q : Tm, v = TV q) := by
 intro i
 refine A8 Tryz.func35 At Z6 (n := 5) At At (Ax (Av (BM At At (BK B7 At) fun b2 => Az At (Ax (Av (Au At At (Aw At) (Au At At (Br CX B7 At) (Au At At (Bk (i := 0) BO At At At At At At) (Az At (CG (C9 (i := 0) At) ?_))))))))))
 refine BB (⟨At, _, _, ⟨_, _, At, (Bn (i := 0) BO At At At), At⟩, (List.nil_sublist _), ?_⟩)
 all_goals exact ⟨⟨(.mk 0 i ⟨#[]⟩ [] []), rfl⟩, rfl⟩
theorem H7 : ∀ (a b : Tm), G9 Tryz.prog 23 [.agg ((Be a).map .p), .agg ((Be b).map .p)] (fun v => ∃ q : Tm, v = TV q) := by
 intro a b
 refine A8 Tryz.func23 At ax (n := 9) At At (Ax (Av (BM At At (Bh At) fun b2 => BM At At (Bh At) fun b3 => BM At At (BK B7 At) fun b4 => Az At (Ax (Av (Au At At (A0 (i := 2) BO At At Ak) (Au At At (A0 (i := 1) BO At At Ak) (Au At At (BU (rows := BR [a, b]) By B7 At At At At (Bz (CC _)) (C1 _)) ?_))))))))
 refine Au At At (Bg At At (Ke ⟨#[97, 100, 100]⟩ [a, b] AO) At) (Au At At (A6 (i := 0) BO At At At Ak Ac (CF _)) (Az At (BB (⟨At, _, _, ⟨_, _, At, (Bn (i := 0) BO At At Ak), At⟩, (List.nil_sublist _), ?_⟩))))
 all_goals exact ⟨⟨_, rfl⟩, rfl⟩
theorem Kh : ∀ (a : Tm), G9 Tryz.prog 24 [.agg ((Be a).map .p)] (fun v => ∃ q : Tm, v = TV q) := by
 intro a
 refine A8 Tryz.func24 At cE (n := 6) At At (Ax (Av (BM At At (Bh At) fun b1 => BM At At (BK B7 At) fun b2 => Az At (Ax (Av (Au At At (A0 (i := 1) BO At At Ak) (Au At At (BU (rows := BR [a]) By B7 At At At At (Bz (CC _)) (C1 _)) (Au At At (Bg At At (Ke ⟨#[110, 101, 103]⟩ [a] AO) At) (Au At At (A6 (i := 0) BO At At At Ak Ac (CF _)) ?_)))))))))
 refine Az At (BB (⟨At, _, _, ⟨_, _, At, (Bn (i := 0) BO At At Ak), At⟩, (List.nil_sublist _), ?_⟩))
 all_goals exact ⟨⟨_, rfl⟩, rfl⟩
theorem LC : ∀ (l : FC) (a x y : Tm), G9 Tryz.prog 65 [.agg ((Dw l).map .p), .agg ((Be a).map .p), .agg ((Be x).map .p), .agg ((Be y).map .p)] (fun v => ∃ q : Tm, v = TV q) := by
 intro l a x y
 refine A8 Tryz.func65 At cQ (n := 17) At At (Ax (Av (BM At At (Bh At) fun b4 => BM At At (Bh At) fun b5 => BM At At (Bh At) fun b6 => BM At At (Bh At) fun b7 => BM At At (BK B7 At) fun b8 => Az At (Ax (Av (Au At At (A0 (i := 4) EM At At At) ?_))))))
 refine Au At At (BU (rows := List.map Dw [l]) Hr Gw At At At At (Bz (Lx _)) (Rq _)) (Au At At (Br CX B7 At) (Au At At (A0 (i := 3) BO At At Ak) (Au At At (A0 (i := 2) BO At At Ak) (Au At At (A0 (i := 1) BO At At Ak) (Au At At (BU (rows := BR [a, x, y]) By B7 At At At At (Bz (CC _)) (C1 _)) (Au At At (DA At At (Ky (.mk 3 0 ⟨#[69, 113]⟩ [l] [] : Tm) [a, x, y] AO) (aw (Cq At) (aw (we At) (Cv)))) (Au At At (A6 (i := 0) BO At At At Ak Ac (CF _)) (Az At (BB (⟨At, _, _, ⟨_, _, At, (Bn (i := 0) BO At At Ak), At⟩, (List.nil_sublist _), ?_⟩))))))))))
 all_goals exact ⟨⟨_, rfl⟩, rfl⟩
end Go.Proofs.YtapmjpihennhaaaGreatDoor
namespace Go.Abs
abbrev BV := Nat × Nat × AV
inductive Ez where
 | val (v : AV)
 | skip
 | new (cs : List AV)
 | newv (sz : Nat) (rows : List (List PV))
 | rel (R : AV → Prop)
def Ez.v (b : BV) : Ez → AV
 | .val v => v
 | .skip => .tup []
 | .new _ => .ptr b.1 0
 | .newv _ rows => .vs (some b.1) rows.length b.2.1
 | .rel _ => b.2.2
def Ez.box (b : BV) : Ez → List BT
 | .new cs => [.box b.1 cs]
 | .newv sz rows => [.vec (some b.1) sz rows b.2.1]
 | _ => []
def Ez.ok (b : BV) : Ez → Prop
 | .rel R => R b.2.2
 | _ => True
def Wa : List Ez → Prop
 | [] => True
 | .rel R :: r => (∃ v, R v) ∧ Wa r
 | _ :: r => Wa r
def Uu (P : Program) (ops : Array Oper) (H₀ : List BT) (o : Oper) (τ : Nat → AV) : Ez → Prop
 | .val v => DH ops ⟨0, τ, [], []⟩ o ∧ ∀ Bs, Dg P o (ev τ) (Bs ++ H₀) v (Bs ++ H₀)
 | .skip => ∃ j want d, o.guard = some (j, want) ∧ (ops[j]?).bind (·.dst) = some d ∧ Wq (τ d) want
 | .new cs => o.guard = none ∧ ∀ Bs, DB P o (ev τ) (Bs ++ H₀) (I1 cs (Bs ++ H₀))
 | .newv sz rows => o.guard = none ∧ ∀ Bs, DB P o (ev τ) (Bs ++ H₀) (Ig sz rows (Bs ++ H₀))
 | .rel R => o.guard = none ∧ ∀ Bs, DB P o (ev τ) (Bs ++ H₀) (KT R (Bs ++ H₀))
def EV (P : Program) (ops : Array Oper) (H₀ : List BT) : Nat → (Nat → AV) → List Ez → ((Nat → AV) → List BT → Prop) → Prop
 | _, τ, [], K => K τ []
 | k, τ, e :: r, K => ∃ o, ops[k]? = some o ∧ Uu P ops H₀ o τ e ∧ ∀ b, e.ok b → EV P ops H₀ (k + 1) (put τ o.dst (e.v b)) r (fun τ' Hs => K τ' (e.box b ++ Hs))
def Ga (β : Nat → BV) : Nat → List Ez → List Sp
 | _, [] => []
 | k, e :: r => .free (e.v (β k)) :: Ga β (k + 1) r
def XP (β : Nat → BV) : Nat → List Ez → List BT
 | _, [] => []
 | k, e :: r => e.box (β k) ++ XP β (k + 1) r
def QH (β : Nat → BV) (l : Nat → Bool) : Nat → List Ez → List BT
 | _, [] => []
 | k, e :: r => (if l k = true then e.box (β k) else []) ++ QH β l (k + 1) r
theorem Mn (β : Nat → BV) : ∀ (r : List Ez) (k j : Nat), j < r.length → (Ga β k r).getD j .skip = .free ((r.getD j .skip).v (β (k + j)))
 | [], k, j, h => by simp at h
 | e :: r, k, 0, h => by simp [Ga]
 | e :: r, k, j + 1, h => by
  have := Mn β r (k + 1) j (by simpa using h)
  simp only [Ga, List.getD_cons_succ]
  rw [this, show k + 1 + j = k + (j + 1) by omega]
theorem Tb (β : Nat → BV) : ∀ (r : List Ez) (k : Nat), (Ga β k r).length = r.length
 | [], k => rfl
 | e :: r, k => by simp [Ga, Tb β r (k + 1)]
theorem M4 (β : Nat → BV) {r : List Ez} {k j : Nat} (h : r.length ≤ j) : (Ga β k r).getD j .skip = .skip := by
 rw [List.getD_eq_getElem?_getD, List.getElem?_eq_none (by rw [Tb]; exact h)]; rfl
theorem S3 (β : Nat → BV) (r : List Ez) (k j : Nat) : ((Ga β k r).getD j .skip).isEff = false := by
 rcases Nat.lt_or_ge j r.length with h | h
 ·rw [Mn β r k j h]; rfl
 ·rw [M4 β h]; rfl
theorem QZ (β : Nat → BV) (r : List Ez) (k j : Nat) (ob : List BT) (v : AV) : (Ga β k r).getD j .skip ≠ .read ob v := by
 rcases Nat.lt_or_ge j r.length with h | h
 ·rw [Mn β r k j h]; simp
 ·rw [M4 β h]; simp
theorem Fb (β : Nat → BV) {r : List Ez} {j : Nat} (h : j < r.length) : ((Ga β 0 r).getD j .skip).val = (r.getD j .skip).v (β j) := by
 rw [Mn β r 0 j h, Nat.zero_add]; rfl
theorem EV.facts {P : Program} {ops : Array Oper} {H₀ : List BT} {τ : Nat → AV} {base : List Ez} (β : Nat → BV) : ∀ (r : List Ez) (k : Nat) (τk : Nat → AV) (K : (Nat → AV) → List BT → Prop), base.drop k = r → k + r.length = base.length → τk = τS ops (Ga β 0 base) τ k → EV P ops H₀ k τk r K → (∀ j, k ≤ j → j < base.length → (base.getD j .skip).ok (β j)) →
  (∀ j, k ≤ j → j < base.length → ∃ o, ops[j]? = some o ∧ Uu P ops H₀ o (τS ops (Ga β 0 base) τ j) (base.getD j .skip)) ∧ K (τS ops (Ga β 0 base) τ base.length) (XP β k r)
 | [], k, τk, K, hd, hk, ht, h, hβ => by
  simp only [List.length_nil, Nat.add_zero] at hk
  subst hk
  exact ⟨fun j h1 h2 => by omega, by rw [← ht]; exact h⟩
 | e :: r, k, τk, K, hd, hk, ht, h, hβ => by
  obtain ⟨o, ho, hok, hn⟩ := h
  simp only [List.length_cons] at hk
  have hb : base.getD k .skip = e := by
   have : (base.drop k)[0]? = some e := by rw [hd]; rfl
   rw [List.getElem?_drop] at this
   rw [List.getD_eq_getElem?_getD, show k = k + 0 by omega, this]; rfl
  have hd2 : base.drop (k + 1) = r := by
   rw [← List.drop_drop, hd]; rfl
  obtain ⟨h1, h2⟩ := EV.facts (τ := τ) (base := base) β r (k + 1) _ _ hd2 Ar (by simp only [τS, ho, Option.bind_some]; rw [Fb β Ar, hb, ← ht]) (hn (β k) (by have := hβ k (Nat.le_refl _) Ar; rwa [hb] at this)) (fun j h1 h2 => hβ j Ar h2)
  refine ⟨fun j hj hl => ?_, h2⟩
  by_cases e2 : j = k
  ·subst e2; exact ⟨o, ho, by rw [hb, ← ht]; exact hok⟩
  ·exact h1 j Ar hl
theorem J6 {β β' : Nat → BV} {l l' : Nat → Bool} : ∀ (r : List Ez) (k : Nat), (∀ j, k ≤ j → l j = l' j ∧ (l j = true → β j = β' j)) → QH β l k r = QH β' l' k r
 | [], k, h => rfl
 | e :: r, k, h => by
  simp only [QH]
  obtain ⟨h1, h2⟩ := h k (Nat.le_refl _)
  rw [J6 r (k + 1) fun j hj => h j Ar, ← h1]
  cases hl : l k
  ·rfl
  ·rw [h2 hl]
theorem Pg {β : Nat → BV} {l : Nat → Bool} {i : Nat} {b : BV} (hi : l i = false) : ∀ (r : List Ez) (k : Nat), k ≤ i → i < k + r.length → ((r.getD (i - k) .skip).box b ++ QH β l k r).Perm (QH (fun j => if j = i then b else β j) (fun j => l j || j == i) k r)
 | [], k, h1, h2 => by simp at h2; omega
 | e :: r, k, h1, h2 => by
  simp only [QH]
  by_cases hk : k = i
  ·subst hk
   simp only [hi, Bool.false_eq_true, if_false, List.nil_append, Nat.sub_self, List.getD_cons_zero, beq_self_eq_true, Bool.or_true, if_true]
   rw [J6 (β' := fun j => if j = k then b else β j) (l' := fun j => l j || j == k) r (k + 1) fun j hj => ⟨by simp [show (j == k) = false by simp; omega], fun _ => by rw [if_neg Ar]⟩]
  ·have hp := Pg (β := β) hi r (k + 1) (b := b) Ar (by simp only [List.length_cons] at h2; omega)
   have e1 : (e :: r).getD (i - k) .skip = r.getD (i - (k + 1)) .skip := by
    rw [show i - k = (i - (k + 1)) + 1 by omega]; rfl
   have e2 : (if (l k || k == i) = true then e.box (if k = i then b else β k) else []) = (if l k = true then e.box (β k) else []) := by
    rw [if_neg hk]
    simp [hk]
   rw [e1, e2]
   refine List.Perm.trans ?_ (hp.append_left _)
   rw [← List.append_assoc, ← List.append_assoc]
   exact List.perm_append_comm.append_right _
theorem Pq {β : Nat → BV} {l : Nat → Bool} : ∀ (r : List Ez) (k : Nat), (∀ j, k ≤ j → j < k + r.length → l j = true) → QH β l k r = XP β k r
 | [], k, h => rfl
 | e :: r, k, h => by
  simp only [QH, XP]
  rw [if_pos (h k (Nat.le_refl _) As), Pq r (k + 1) fun j h1 h2 => h j Ar AX]
theorem NO {β : Nat → BV} {l : Nat → Bool} : ∀ (r : List Ez) (k : Nat), (∀ j, l j = false) → QH β l k r = []
 | [], k, h => rfl
 | e :: r, k, h => by simp only [QH]; rw [NO r (k + 1) h, h k]; rfl
theorem Wa.pick : ∀ (l : List Ez), Wa l → ∃ β : Nat → BV, ∀ j, j < l.length → (l.getD j .skip).ok (β j)
 | [], _ => ⟨fun _ => (0, 0, .p .any), fun j h => by simp at h⟩
 | e :: r, h => by
  have h2 : Wa r ∧ ∃ b, e.ok b := by
   cases e with
   | rel R => exact ⟨h.2, let ⟨v, hv⟩ := h.1; ⟨(0, 0, v), hv⟩⟩
   | _ => exact ⟨h, (0, 0, .p .any), trivial⟩
  obtain ⟨β, hβ⟩ := Wa.pick r h2.1
  obtain ⟨b, hb⟩ := h2.2
  refine ⟨fun j => match j with | 0 => b | j + 1 => β j, fun j hj => ?_⟩
  cases j with
  | zero => exact hb
  | succ j => exact hβ j (by simpa using hj)
theorem Xh {P : Program} {r : Option Nat} {ops : Array Oper} {id n : Nat} {τ : Nat → AV} {H : List BT} {D : List EB} {Q : Cy → B2 → Prop} (base : List Ez) (hm : P.follows .mixedOrders = true)
  (he : Nat.ble base.length ops.size = true) (chk : N9 ops n [] = true) (late : VH ops base.length = true) (hne : Wa base) (h : EV P ops H 0 τ base (fun τ' Hs => AL P r ops base.length ⟨n, τ', Hs ++ H, D⟩ Q)) : Ib P r (.region id ops true) ⟨n, τ, H, D⟩ Q := by
 intro F₀ a₀ w₀ hs₀
 rw [Nat.ble_eq] at he
 refine wpIn_region_any hm ?_
 have same : C7 F₀ w₀ F₀ { w₀ with drawn := w₀.drawn + 1 } := ⟨Nat.le_refl _, fun _ _ _ => rfl, fun _ h _ => h⟩
 have t₀ : Trans F₀ H w₀ F₀ H { w₀ with drawn := w₀.drawn + 1 } :=
  ⟨Nat.le_refl _, fun _ _ _ => rfl, fun _ h _ => h, fun _ h => .inl h, fun o ho b hb => .inl ⟨o, ho, hb⟩, rfl, rfl, rfl⟩
 have hs₁ : DP F₀ ⟨n, τ, H, D⟩ a₀ { w₀ with drawn := w₀.drawn + 1 } :=
  ⟨hs₀.size, fun t => CR.mono same _ _ (hs₀.tmp t), hs₀.heap.stable' same (fun _ h => h) (fun _ _ _ _ => rfl) hs₀.heap.bd, E7.mono same _ _ hs₀.defs⟩
 obtain ⟨hdst, c0, c1, c2, _⟩ := J5 chk
 have hd : ∀ β, MU P ops n (fun _ => False) τ H (Ga β 0 base) := fun β =>
  ⟨hdst, fun _ _ _ h => h.elim, c0, c1, c2, fun i k _ _ h _ => (by rw [S3] at h; cases h), fun i e ob v _ _ _ h _ _ => absurd h (QZ β base 0 i ob v)⟩
 have hE : ∀ β, (∀ j, j < base.length → (base.getD j .skip).ok (β j)) → (∀ j, j < base.length → ∃ o, ops[j]? = some o ∧ Uu P ops H o (τS ops (Ga β 0 base) τ j) (base.getD j .skip)) ∧ AL P r ops base.length ⟨n, τS ops (Ga β 0 base) τ base.length, XP β 0 base ++ H, D⟩ Q := fun β hβ => by
  obtain ⟨h1, h2⟩ := EV.facts (base := base) β base 0 τ _ As As rfl h (fun j _ h => hβ j h)
  exact ⟨fun j hj => h1 j (Nat.zero_le _) hj, h2⟩
 -- where all of the first part has been carried out, the rest goes in the order of the text
 have conv : ∀ {l : Array Bool} {a w β τ' F Hb}, (∀ j, j < base.length → (base.getD j .skip).ok (β j)) → (∀ j, j < base.length → l.getD j false = true) → (∀ k, base.length ≤ k → l.getD k false = false) → FM ops (Ga β 0 base) τ (fun i => l.getD i false = true) τ' → Hb.Perm (QH β (fun k => l.getD k false) 0 base) → DP F ⟨n, τ', Hb ++ H, D⟩ a w → Trans F₀ H w₀ F (Hb ++ H) w →
   wpOpsIn (W r) 0 P ops (post F₀ H w₀ Q) (List.range' base.length (ops.size - base.length)) a w := by
  intro l a w β τ' F Hb hβ hall hno hτ hp hs ht
  have hτe : τ' = τS ops (Ga β 0 base) τ base.length := by
   funext t
   have h2 := KC (hd β) base.length he t
   by_cases hw : ∃ (k : Nat) (o' : Oper), ops[k]? = some o' ∧ o'.dst = some t ∧ k < base.length
   ·obtain ⟨k, o', ho', hk, hlt⟩ := hw
    rw [(hτ t).1 k o' ho' hk (hall k hlt), h2.1 k o' ho' hk hlt]
   ·have hw' : ∀ (k : Nat) o', ops[k]? = some o' → o'.dst = some t → ¬ k < base.length := fun k o' h1 h2 h3 => hw ⟨k, o', h1, h2, h3⟩
    rw [(hτ t).2 fun k o' h1 h2 h3 => (by have h4 : l.getD k false = true := h3; have := hno k (by have := hw' k o' h1 h2; omega); rw [this] at h4; cases h4), h2.2 fun k o' h1 h2 h3 => hw' k o' h1 h2 h3]
  rw [Pq base 0 fun j _ hj => hall j Ar] at hp
  have hp2 := hp.append_right H
  have := (hE β hβ).2 F a w (by rw [← hτe]; exact ⟨hs.size, hs.tmp, hs.heap.perm hp2, hs.defs⟩)
  refine Dq (fun e a' w' hq => ?_) _ _ _ this
  exact Fg hs₀.heap.bd { ht with keys := fun o ho => ht.keys o (hp2.mem_iff.2 ho) } hq
 refine J3 (I := fun l a w => l.size = ops.size ∧ ((∃ β τ' F Hb, (∀ j, j < base.length → (base.getD j .skip).ok (β j)) ∧ Down ops (fun i => l.getD i false = true) ∧ (∀ k, base.length ≤ k → l.getD k false = false) ∧ FM ops (Ga β 0 base) τ (fun i => l.getD i false = true) τ' ∧ Hb.Perm (QH β (fun k => l.getD k false) 0 base) ∧ DP F ⟨n, τ', Hb ++ H, D⟩ a w ∧ Trans F₀ H w₀ F (Hb ++ H) w) ∨
  (∃ m, base.length ≤ m ∧ m ≤ ops.size ∧ (∀ k, k < ops.size → (l.getD k false = true ↔ k < m)) ∧ wpOpsIn (W r) 0 P ops (post F₀ H w₀ Q) (List.range' m (ops.size - m)) a w))) (fun l a w h => h.1) ?_ ?_ _ _ _ _ ?_ ?_
 ·rintro l a w ⟨hsz, hI⟩ i hi
  obtain ⟨hun, o, ho, hall⟩ := mem_ready.1 hi
  have hlt : i < ops.size := by
   rcases Nat.lt_or_ge i ops.size with h | h
   ·exact h
   ·simp [Array.getElem?_eq_none h] at ho
  have hil : i < l.size := by omega
  have hnot : l.getD i false = false := by
   have : l[i] = false := by simpa [hil] using hun
   simp [hil, this]
  have hr : ∀ j ∈ D6 o, l.getD j false = true := by
   intro j hj
   simp only [D6, List.mem_map, List.mem_filter] at hj
   obtain ⟨e, ⟨he, hb⟩, rfl⟩ := hj
   exact hall e (by simpa using he) hb
  have hset : ∀ k, (l.setIfInBounds i true).getD k false = true ↔ (l.getD k false = true ∨ k = i) := by
   intro k
   by_cases hk : k = i
   ·subst hk; simp [hil]
   ·simp [Array.getElem?_setIfInBounds_ne (Ne.symm hk), hk]
  have hset2 : ∀ k, (l.setIfInBounds i true).getD k false = (l.getD k false || k == i) := by
   intro k
   by_cases hk : k = i
   ·subst hk; simp [hil]
   ·simp [Array.getElem?_setIfInBounds_ne (Ne.symm hk), hk]
  have hsz' : (l.setIfInBounds i true).size = ops.size := by simp [hsz]
  have goLate : ∀ m, i = m → base.length ≤ m → m ≤ ops.size → (∀ k, k < ops.size → (l.getD k false = true ↔ k < m)) → wpOpsIn (W r) 0 P ops (post F₀ H w₀ Q) (List.range' m (ops.size - m)) a w →
    wpOpIn (W r) 0 P ops (post F₀ H w₀ Q) i (fun a w => (l.setIfInBounds i true).size = ops.size ∧ ((∃ β τ' F Hb, (∀ j, j < base.length → (base.getD j .skip).ok (β j)) ∧ Down ops (fun k => (l.setIfInBounds i true).getD k false = true) ∧ (∀ k, base.length ≤ k → (l.setIfInBounds i true).getD k false = false) ∧ FM ops (Ga β 0 base) τ (fun k => (l.setIfInBounds i true).getD k false = true) τ' ∧ Hb.Perm (QH β (fun k => (l.setIfInBounds i true).getD k false) 0 base) ∧ DP F ⟨n, τ', Hb ++ H, D⟩ a w ∧ Trans F₀ H w₀ F (Hb ++ H) w) ∨
     (∃ m, base.length ≤ m ∧ m ≤ ops.size ∧ (∀ k, k < ops.size → ((l.setIfInBounds i true).getD k false = true ↔ k < m)) ∧ wpOpsIn (W r) 0 P ops (post F₀ H w₀ Q) (List.range' m (ops.size - m)) a w))) a w := by
   intro m him h1 h2 h3 hw
   subst him
   rw [Iq hlt, wpOpsIn_cons] at hw
   refine wpOpIn_mono (fun a' w' h' => ⟨hsz', .inr ⟨i + 1, by omega, by omega, fun k hk => ?_, h'⟩⟩) hw
   rw [hset k, h3 k hk]
   omega
  rcases hI with ⟨β, τ', F, Hb, hβ, hdown, hno, hτ, hp, hs, ht⟩ | ⟨m, hm1, hm2, hm3, hw⟩
  ·rcases Nat.lt_or_ge i base.length with hib | hib
   ·-- of the first part
    obtain ⟨o', ho', hok⟩ := (hE β hβ).1 i hib
    rw [ho] at ho'; injection ho' with ho'; subst ho'
    have hlook : ∀ t ∈ looks ops o, τ' t = τS ops (Ga β 0 base) τ i t := fun t ht => J2 (hd β) hdown hτ ho (by rw [hnot]; decide) hr ht
    have hops : ∀ x ∈ o.op.operands.toList, ev τ' x = ev (τS ops (Ga β 0 base) τ i) x := by
     intro x hx
     cases x with
     | tmp t => exact hlook t (List.mem_append_left _ (List.mem_filterMap.2 ⟨.tmp t, hx, rfl⟩))
     | _ => rfl
    have hguard : ∀ j want d, o.guard = some (j, want) → (ops[j]?).bind (·.dst) = some d → τ' d = τS ops (Ga β 0 base) τ i d := by
     intro j want d hg hj
     refine hlook d (List.mem_append_right _ ?_)
     simp [hg, hj]
    have hdown' : Down ops (fun k => (l.setIfInBounds i true).getD k false = true) := by
     intro k o' j ho' hk hj
     rcases (hset k).1 hk with h | h
     ·exact (hset j).2 (.inl (hdown k o' j ho' h hj))
     ·subst h; rw [ho] at ho'; injection ho' with ho'; subst ho'; exact (hset j).2 (.inl (hr j hj))
    have hno' : ∀ k, base.length ≤ k → (l.setIfInBounds i true).getD k false = false := by
     intro k hk
     rw [hset2 k, hno k hk]
     simp; omega
    generalize hbe : base.getD i .skip = e at hok
    have close : ∀ {a' w' F' b H'}, e.ok b → H' = e.box b ++ (Hb ++ H) → DP F' ⟨n, put τ' o.dst (e.v b), H', D⟩ a' w' → Trans F (Hb ++ H) w F' H' w' →
      (l.setIfInBounds i true).size = ops.size ∧ ((∃ β τ' F Hb, (∀ j, j < base.length → (base.getD j .skip).ok (β j)) ∧ Down ops (fun k => (l.setIfInBounds i true).getD k false = true) ∧ (∀ k, base.length ≤ k → (l.setIfInBounds i true).getD k false = false) ∧ FM ops (Ga β 0 base) τ (fun k => (l.setIfInBounds i true).getD k false = true) τ' ∧ Hb.Perm (QH β (fun k => (l.setIfInBounds i true).getD k false) 0 base) ∧ DP F ⟨n, τ', Hb ++ H, D⟩ a' w' ∧ Trans F₀ H w₀ F (Hb ++ H) w') ∨
       (∃ m, base.length ≤ m ∧ m ≤ ops.size ∧ (∀ k, k < ops.size → ((l.setIfInBounds i true).getD k false = true ↔ k < m)) ∧ wpOpsIn (W r) 0 P ops (post F₀ H w₀ Q) (List.range' m (ops.size - m)) a' w')) := by
     intro a' w' F' b H' hb0 hH h3 h4
     subst hH
     refine ⟨hsz', .inl ⟨fun j => if j = i then b else β j, put τ' o.dst (e.v b), F', e.box b ++ Hb, (fun j hj => by
      by_cases e3 : j = i
      ·subst e3; simp only [if_true]; rw [hbe]; exact hb0
      ·simp only [if_neg e3]; exact hβ j hj), hdown', hno', ?_, ?_, by rw [List.append_assoc]; exact h3, by rw [List.append_assoc]; exact ht.trans hs₀.heap.bd h4⟩⟩
     ·have hτ2 : FM ops (Ga (fun j => if j = i then b else β j) 0 base) τ (fun k => l.getD k false = true) τ' := by
       intro t
       refine ⟨fun k o' a1 a2 a3 => ?_, (hτ t).2⟩
       have a4 : l.getD k false = true := a3
       have hki : k ≠ i := fun e => by subst e; rw [hnot] at a4; cases a4
       rw [(hτ t).1 k o' a1 a2 a3]
       rcases Nat.lt_or_ge k base.length with hk | hk
       ·rw [Fb _ hk, Fb _ hk, if_neg hki]
       ·have := hno k hk; rw [this] at a4; cases a4
      have hτ3 := hτ2.put (hd _) ho
      rw [Fb _ hib, if_pos rfl, hbe] at hτ3
      intro t
      exact ⟨fun k o' a1 a2 a3 => (hτ3 t).1 k o' a1 a2 ((hset k).1 a3), fun hn => (hτ3 t).2 fun k o' a1 a2 a3 => hn k o' a1 a2 ((hset k).2 a3)⟩
     ·have h1 := Pg (β := β) (l := fun k => l.getD k false) (i := i) (b := b) hnot base 0 (Nat.zero_le _) Ar
      rw [Nat.sub_zero, hbe] at h1
      refine (hp.append_left _).trans (h1.trans (List.Perm.of_eq ?_))
      exact J6 base 0 fun j _ => ⟨(hset2 j).symm, fun _ => At⟩
    have wants : DH ops ⟨0, τS ops (Ga β 0 base) τ i, [], []⟩ o → DH ops ⟨n, τ', Hb ++ H, D⟩ o := by
     intro h
     unfold DH at *
     cases hg : o.guard with
     | none => simp [hg]
     | some jw =>
      obtain ⟨j, want⟩ := jw
      simp only [hg] at h ⊢
      obtain ⟨d, h1, h2⟩ := h
      exact ⟨d, h1, by rw [← h2]; exact hguard j want d hg h1⟩
    have yields : DH ops ⟨n, τ', Hb ++ H, D⟩ o → DB P o (ev (τS ops (Ga β 0 base) τ i)) (Hb ++ H) (fun r H' => match r with | .val v => ∃ b, e.ok b ∧ v = e.v b ∧ H' = e.box b ++ (Hb ++ H) | .panic _ => False) → wpOpIn (W r) 0 P ops (post F₀ H w₀ Q) i (fun a' w' => (l.setIfInBounds i true).size = ops.size ∧ ((∃ β τ' F Hb, (∀ j, j < base.length → (base.getD j .skip).ok (β j)) ∧ Down ops (fun k => (l.setIfInBounds i true).getD k false = true) ∧ (∀ k, base.length ≤ k → (l.setIfInBounds i true).getD k false = false) ∧ FM ops (Ga β 0 base) τ (fun k => (l.setIfInBounds i true).getD k false = true) τ' ∧ Hb.Perm (QH β (fun k => (l.setIfInBounds i true).getD k false) 0 base) ∧ DP F ⟨n, τ', Hb ++ H, D⟩ a' w' ∧ Trans F₀ H w₀ F (Hb ++ H) w') ∨
       (∃ m, base.length ≤ m ∧ m ≤ ops.size ∧ (∀ k, k < ops.size → ((l.setIfInBounds i true).getD k false = true ↔ k < m)) ∧ wpOpsIn (W r) 0 P ops (post F₀ H w₀ Q) (List.range' m (ops.size - m)) a' w'))) a w := by
     intro hwant hop
     unfold wpOpIn
     simp only [ho, HS hs hwant, if_true]
     have hw := hop r F _ a w hs rfl (fun x hx => hops x hx) (fun t ht => hdst i o t ho ht)
     unfold Oper.wpIn at *
     refine ⟨hw.1, ?_⟩
     replace hw := hw.2
     generalize (o.semAt (W r).round a.eval).run P w = rr at *
     cases rr with
     | ok nx w' =>
      cases nx <;> simp only [Oper.uponIn] at hw ⊢
      case value u => obtain ⟨v', H'', F', ⟨b, h0, h1, h2⟩, h3, h4⟩ := hw; subst h1; exact close h0 h2 h3 h4
      case skip => obtain ⟨v', H'', F', ⟨b, h0, h1, h2⟩, h3, h4⟩ := hw; subst h1; exact close h0 h2 h3 h4
      case defer d => obtain ⟨v', H'', F', ⟨b, h0, h1, h2⟩, h3, h4⟩ := hw; subst h1; exact close h0 h2 h3 h4
      case enter f args =>
       refine ⟨hw.1, hw.2.mono fun e w'' he => ?_⟩
       cases e with
       | returned u => obtain ⟨v', H'', F', ⟨b, h0, h1, h2⟩, h3, h4⟩ := he; subst h1; exact close h0 h2 h3 h4
       | panicked c => obtain ⟨_, _, _, _, h, _⟩ := he; exact h.elim
       | outgrown => obtain ⟨_, _, _, _, _, _, h, _⟩ := he; exact h.elim
      case row row args => exact ⟨hw.1, hw.2.mono fun u w'' h => by obtain ⟨v', H'', F', ⟨b, h0, h1, h2⟩, h3, h4⟩ := h; subst h1; exact close h0 h2 h3 h4⟩
      case round l' f tmps assign body =>
       refine ⟨hw.1, hw.2.mono fun e w'' he => ?_⟩
       cases e with
       | returned u => obtain ⟨v', H'', F', ⟨b, h0, h1, h2⟩, h3, h4⟩ := he; subst h1; exact close h0 h2 h3 h4
       | panicked c => obtain ⟨_, _, _, _, h, _⟩ := he; exact h.elim
       | outgrown => obtain ⟨_, _, _, _, _, _, h, _⟩ := he; exact h.elim
     | halt x w' =>
      cases x <;> simp only [Oper.uponIn] at hw ⊢
      case panic u => obtain ⟨_, _, _, _, h, _⟩ := hw; exact h.elim
    cases e with
    | val v => exact yields (wants hok.1) ((hok.2 Hb).mono (by
      intro r H' hR
      cases r with
      | val v' => obtain ⟨rfl, rfl⟩ := hR; exact ⟨(0, 0, .p .any), trivial, rfl, rfl⟩
      | panic v' => exact hR.elim))
    | new cs =>
     refine yields (by unfold DH; rw [hok.1]; trivial) ((hok.2 _).mono ?_)
     intro r H' hR
     cases r with
     | val v' => obtain ⟨b, rfl, rfl⟩ := hR; exact ⟨(b, 0, .p .any), trivial, rfl, rfl⟩
     | panic v' => exact hR.elim
    | newv sz rows =>
     refine yields (by unfold DH; rw [hok.1]; trivial) ((hok.2 _).mono ?_)
     intro r H' hR
     cases r with
     | val v' => obtain ⟨b, c, rfl, rfl⟩ := hR; exact ⟨(b, c, .p .any), trivial, rfl, rfl⟩
     | panic v' => exact hR.elim
    | rel R =>
     refine yields (by unfold DH; rw [hok.1]; trivial) ((hok.2 _).mono ?_)
     intro r H' hR
     cases r with
     | val v' => obtain ⟨h1, rfl⟩ := hR; exact ⟨(0, 0, v'), h1, rfl, rfl⟩
     | panic v' => exact hR.elim
    | skip =>
     obtain ⟨j, want, d, hg, hj, hb⟩ := hok
     have hw : Region.wanted o (yielded ops a.tmps) = false := Jl (S := ⟨n, τ', Hb ++ H, D⟩) hs hg hj (by show Wq (τ' d) want; rw [hguard j want d hg hj]; exact hb)
     unfold wpOpIn
     simp only [ho, hw, Bool.false_eq_true, if_false]
     refine ⟨fun _ _ => trivial, close (b := (0, 0, .p .any)) trivial At ?_ .refl⟩
     exact hs.put (fun t ht => hdst i o t ho ht) ⟨Nat.le_refl _, fun _ _ _ => At, fun _ h _ => h⟩ hs.heap (by simp only [Ez.v, CR, B0, undef]; exact ⟨[], rfl, rfl⟩)
   ·-- the first of the rest
    have hpre : ∀ j, j < i → l.getD j false = true := by
     intro j hj
     have hpi := Ik late hib hlt hj
     have : ∀ {a b}, Pred ops a b → b = i → l.getD a false = true := by
      intro a b hab
      induction hab with
      | base ho' hj => intro e; subst e; rw [ho] at ho'; injection ho' with ho'; subst ho'; exact hr _ hj
      | trans p1 _ _ ih2 => intro e; exact hdown.pred p1 (ih2 e)
     exact this hpi At
    have hie : i = base.length := by
     rcases Nat.lt_or_ge base.length i with h | h
     ·have h1 := hpre base.length h
      rw [hno base.length (Nat.le_refl _)] at h1
      cases h1
     ·omega
    refine goLate base.length hie (Nat.le_refl _) he (fun k hk => ⟨fun h => ?_, fun h => hpre k Ar⟩) (conv hβ (fun j hj => hpre j Ar) hno hτ hp hs ht)
    rcases Nat.lt_or_ge k base.length with h' | h'
    ·exact h'
    ·rw [hno k h'] at h; cases h
  ·have hmi : m ≤ i := by
    rcases Nat.lt_or_ge i m with h | h
    ·have := (hm3 i hlt).2 h; rw [hnot] at this; cases this
    ·exact h
   have him : i = m := by
    rcases Nat.lt_or_ge m i with h | h
    ·have hpi := Ik late (by omega : base.length ≤ i) hlt h
     have hdown : ∀ {a b}, Pred ops a b → b = i → l.getD a false = true := by
      intro a b hab
      induction hab with
      | base ho' hj => intro e; subst e; rw [ho] at ho'; injection ho' with ho'; subst ho'; exact hr _ hj
      | @trans a k b p1 p2 _ ih2 =>
       intro e
       have hk := ih2 e
       have hks : k < ops.size := by
        rcases Nat.lt_or_ge k ops.size with h | h
        ·exact h
        ·have : l.getD k false = false := by
          have : ¬ k < l.size := by omega
          simp [this]
         rw [this] at hk; cases hk
       have hkm := (hm3 k hks).1 hk
       have hak : a < k := Pred.lt (hd fun _ => (0, 0, .p .any)) p1
       exact (hm3 a Ar).2 Ar
     have := (hm3 m Ar).1 (hdown hpi rfl)
     omega
    ·omega
   exact goLate m him hm1 hm2 hm3 hw
 ·rintro l a w ⟨hsz, hI⟩ hr
  have hall : ∀ i, i < ops.size → l.getD i false = true := by
   intro i
   induction i using Nat.strongRecOn with
   | _ i ih =>
    intro hi
    cases hq : l.getD i false with
    | true => rfl
    | false =>
     have ho : ops[i]? = some ops[i] := Array.getElem?_eq_getElem hi
     have : i ∈ Region.ready .any ops l := by
      refine mem_ready.2 ⟨?_, ops[i], ho, ?_⟩
      ·have : i < l.size := by omega
       simp [this] at hq ⊢; exact hq
      ·intro e he hb
       have hj : e.on ∈ D6 ops[i] := by
        simp only [D6, List.mem_map, List.mem_filter]
        exact ⟨e, ⟨by simpa using he, hb⟩, rfl⟩
       have hlt := c0 i _ _ ho hj
       exact ih e.on hlt Ar
     rw [hr] at this
     cases this
  rcases hI with ⟨β, τ', F, Hb, hβ, hdown, hno, hτ, hp, hs, ht⟩ | ⟨m, hm1, hm2, hm3, hw⟩
  ·have hbs : base.length = ops.size := by
    rcases Nat.lt_or_ge base.length ops.size with h | h
    ·have := hall base.length h; rw [hno base.length (Nat.le_refl _)] at this; cases this
    ·omega
   have := conv hβ (fun j hj => hall j Ar) hno hτ hp hs ht
   rw [hbs, Nat.sub_self] at this
   exact this
  ·have hms : m = ops.size := by
    rcases Nat.lt_or_ge m ops.size with h | h
    ·have := (hm3 m h).1 (hall m h); omega
    ·omega
   rw [hms, Nat.sub_self] at hw
   exact hw
 ·obtain ⟨β0, hβ0⟩ := Wa.pick base hne
  refine ⟨by simp, .inl ⟨β0, τ, F₀, [], hβ0, ?_, ?_, ?_, ?_, hs₁, t₀⟩⟩
  ·intro i o j ho hi
   by_cases h : i < ops.size <;> simp [h] at hi
  ·intro k _
   by_cases h : k < ops.size <;> simp [h]
  ·intro t
   refine ⟨fun k o ho hk hl => ?_, fun _ => At⟩
   by_cases h : k < ops.size <;> simp [h] at hl
  ·rw [NO base 0 fun j => by by_cases h : j < ops.size <;> simp [h]]
 ·have := List.length_filter_le (fun b : Bool => !b) (Array.replicate ops.size false).toList
  simp at this ⊢
section
variable {P : Program} {ops : Array Oper} {H₀ : List BT} {k : Nat} {τ : Nat → AV} {r : List Ez} {K : (Nat → AV) → List BT → Prop} {dst : Option Tmp} {op : Op} {ty : TypeId} {pos : String} {aft : Array Edge} {v : AV}
theorem B3 (ho : ops[k]? = some ⟨dst, op, ty, pos, aft, none⟩) (h : ∀ Bs, Dg P ⟨dst, op, ty, pos, aft, none⟩ (ev τ) (Bs ++ H₀) v (Bs ++ H₀)) (next : EV P ops H₀ (k + 1) (put τ dst v) r K) : EV P ops H₀ k τ (.val v :: r) K :=
 ⟨_, ho, ⟨trivial, h⟩, fun _ _ => next⟩
theorem Un {cs : List AV} (ho : ops[k]? = some ⟨dst, op, ty, pos, aft, none⟩) (h : ∀ Bs, DB P ⟨dst, op, ty, pos, aft, none⟩ (ev τ) (Bs ++ H₀) (I1 cs (Bs ++ H₀))) (next : ∀ b, EV P ops H₀ (k + 1) (put τ dst (.ptr b 0)) r (fun τ' Hs => K τ' (.box b cs :: Hs))) : EV P ops H₀ k τ (.new cs :: r) K :=
 ⟨_, ho, ⟨rfl, h⟩, fun b _ => next b.1⟩
theorem Bl {R : AV → Prop} (ho : ops[k]? = some ⟨dst, op, ty, pos, aft, none⟩) (h : ∀ Bs, DB P ⟨dst, op, ty, pos, aft, none⟩ (ev τ) (Bs ++ H₀) (KT R (Bs ++ H₀))) (next : ∀ v, R v → EV P ops H₀ (k + 1) (put τ dst v) r K) : EV P ops H₀ k τ (.rel R :: r) K :=
 ⟨_, ho, ⟨rfl, h⟩, fun b hb => next b.2.2 hb⟩
theorem U4 (h : K τ []) : EV P ops H₀ k τ [] K := h
end
theorem C0 {P : Program} {o : Oper} {ρ : Operand → AV} {H : List BT} {v : AV} {R : AV → Prop} (h : Dg P o ρ H v H) (hv : R v) : DB P o ρ H (KT R H) :=
 DB.mono h (by
  intro r H' hR
  cases r with
  | val v' => obtain ⟨rfl, rfl⟩ := hR; exact ⟨hv, rfl⟩
  | panic v' => exact hR.elim)
theorem DP.putW {F : Nat → Prop} {S : B2} {d : Option Nat} {v v' : AV} {H : List BT} {a : Act} {w : World} (h : DP F (S.put d v H) a w) (hv : Nn v v') : DP F (S.put d v' H) a w :=
 ⟨h.size, fun t => by
  have := h.tmp t
  cases d with
  | none => exact this
  | some d =>
   have h3 : CR F w (Abs.put S.τ (some d) v t) (a.tmps.getD t undef) := this
   show CR F w (Abs.put S.τ (some d) v' t) (a.tmps.getD t undef)
   cases hb : Nat.beq t d
   ·have e (x : AV) : Abs.put S.τ (some d) x t = S.τ t := by simp only [Abs.put, hb, cond_false]
    rw [e] at h3 ⊢; exact h3
   ·have e (x : AV) : Abs.put S.τ (some d) x t = x := by simp only [Abs.put, hb, cond_true]
    rw [e] at h3 ⊢; exact hv _ _ _ h3, h.heap, h.defs⟩
theorem Nt {P : Program} {o : Oper} {ρ : Operand → AV} {H H' : List BT} {v : AV} (h : Dg P o ρ H v H') : Dg P o ρ H (norm v) H' := by
 intro r F S a w hs hH hρ hd
 have := h r F S a w hs hH hρ hd
 unfold Oper.wpIn at *
 refine ⟨this.1, ?_⟩
 replace this := this.2
 generalize (o.semAt (W r).round a.eval).run P w = rr at *
 cases rr with
 | ok n w' =>
  cases n <;> simp only [Oper.uponIn] at this ⊢
  case value u => obtain ⟨v1, H1, F1, ⟨e1, e2⟩, h2, h3⟩ := this; subst e1; subst e2; exact ⟨_, _, F1, ⟨rfl, rfl⟩, h2.putW (Cq rfl), h3⟩
  case skip => obtain ⟨v1, H1, F1, ⟨e1, e2⟩, h2, h3⟩ := this; subst e1; subst e2; exact ⟨_, _, F1, ⟨rfl, rfl⟩, h2.putW (Cq rfl), h3⟩
  case defer d => obtain ⟨v1, H1, F1, ⟨e1, e2⟩, h2, h3⟩ := this; subst e1; subst e2; exact ⟨_, _, F1, ⟨rfl, rfl⟩, h2.putW (Cq rfl), h3⟩
  case enter f args =>
   refine ⟨this.1, this.2.mono fun e w'' he => ?_⟩
   cases e with
   | returned u => obtain ⟨v1, H1, F1, ⟨e1, e2⟩, h2, h3⟩ := he; subst e1; subst e2; exact ⟨_, _, F1, ⟨rfl, rfl⟩, h2.putW (Cq rfl), h3⟩
   | panicked c => obtain ⟨_, _, _, _, h, _⟩ := he; exact h.elim
   | outgrown => obtain ⟨_, _, _, _, _, _, h, _⟩ := he; exact h.elim
  case row row args => exact ⟨this.1, this.2.mono fun u w'' he => by obtain ⟨v1, H1, F1, ⟨e1, e2⟩, h2, h3⟩ := he; subst e1; subst e2; exact ⟨_, _, F1, ⟨rfl, rfl⟩, h2.putW (Cq rfl), h3⟩⟩
  case round l f tmps assign body =>
   refine ⟨this.1, this.2.mono fun e w'' he => ?_⟩
   cases e with
   | returned u => obtain ⟨v1, H1, F1, ⟨e1, e2⟩, h2, h3⟩ := he; subst e1; subst e2; exact ⟨_, _, F1, ⟨rfl, rfl⟩, h2.putW (Cq rfl), h3⟩
   | panicked c => obtain ⟨_, _, _, _, h, _⟩ := he; exact h.elim
   | outgrown => obtain ⟨_, _, _, _, _, _, h, _⟩ := he; exact h.elim
 | halt x w' =>
  cases x <;> simp only [Oper.uponIn] at this ⊢
  case panic u => obtain ⟨_, _, _, _, h, _⟩ := this; exact h.elim
end Go.Abs
