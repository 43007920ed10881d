/- Part of the proofs: an abstract program logic, plain models and contracts of functions. -/
import Derived.Test.YtapmjpihennhaaaGreatDoorPg
import Derived.Test.YtapmjpihennhaaaGreatDoorPf
import Derived.Test.YtapmjpihennhaaaGreatDoorPd
import Derived.Test.YtapmjpihennhaaaGreatDoorPa
set_option linter.unusedVariables false
set_option linter.unusedSimpArgs false
set_option maxRecDepth 100000
namespace Go.Proofs.YtapmjpihennhaaaGreatDoor
open Go.Abs Go.Eu
theorem _root_.Go.Ae {α : Prop} (h : α := by first | omega | (simp; done)) : α := h
theorem ZK : G9 Tryz.prog 37 [] (fun v => ∃ ds : List Kb, v = .p (.lst (List.map DZ ds)) ∧ ds.map Kb.name = [⟨#[69, 113]⟩, ⟨#[69, 113, 46, 114, 101, 102, 108]⟩, ⟨#[69, 113, 46, 115, 121, 109, 109]⟩, ⟨#[69, 113, 46, 116, 114, 97, 110, 115]⟩, ⟨#[69, 113, 46, 99, 111, 110, 103, 114]⟩, ⟨#[90]⟩, ⟨#[97, 100, 100]⟩, ⟨#[122, 101, 114, 111]⟩, ⟨#[110, 101, 103]⟩, ⟨#[111, 110, 101]⟩, ⟨#[108, 48]⟩, ⟨#[108, 49]⟩, ⟨#[108, 50]⟩, ⟨#[108, 51]⟩, ⟨#[108, 52]⟩, ⟨#[108, 53]⟩, ⟨#[108, 54]⟩] ∧ ∀ d ∈ ds, d.kind = 0) := by
 refine A8 Tryz.func37 At dE (n := 260) At At (Ax (Av (Au At At (Ay At) (Az At (Ax (Av (Au At At (Br (cs := [.p (I 0), .p (I 0)]) FX K7 An) (Au At At (BU (rows := List.map Ec [(DJ.mk 0 0)]) Fq K7 At At At At (Bz (Kd _)) (QP _)) (Au At At (Br (cs := [.p (I 0), .p (.lst (List.map Ec [(DJ.mk 0 0)]))]) D8 Gw An) (Au At At (Br (cs := [.p (I 1), .p (I 0)]) FX K7 An) (Au At At (BU (rows := List.map Ec [(DJ.mk 1 0)]) Fq K7 At At At At (Bz (Kd _)) (QP _)) ?_)))))))))))
 refine Au At At (Br (cs := [.p (I 0), .p (.lst (List.map Ec [(DJ.mk 1 0)]))]) D8 Gw An) (BM At At (BK Gw At) fun b1 => BM At At (BK Gw At) fun b2 => Au At At (A6 (i := 1) (us := [.p (I 0), .p (.lst (List.map Ec [(DJ.mk 0 0)]))]) EM At At At At At At) (Au At At (A6 (i := 0) (us := [.p (I 0), .p (.lst (List.map Ec [(DJ.mk 1 0)]))]) EM At At At At At At) (Az At (Ax (Av (Au At At (Br (cs := [.p (I 0), .p (I 0)]) FX K7 An) (Au At At (Br (cs := [.p (I 1), .p (I 0)]) FX K7 An) (Au At At (BU (rows := List.map Ec [(DJ.mk 0 0), (DJ.mk 1 0)]) Fq K7 At At At At (Bz (Kd _)) (QP _)) ?_))))))))
 refine Au At At (Br (cs := [.p (I 0), .p (.lst (List.map Ec [(DJ.mk 0 0), (DJ.mk 1 0)]))]) D8 Gw An) (BM At At (BK Gw At) fun b3 => Au At At (A6 (i := 0) (us := [.p (I 0), .p (.lst (List.map Ec [(DJ.mk 0 0), (DJ.mk 1 0)]))]) EM At At At At At At) (Az At (Ax (Av (Au At At (Ay At) (Az At (Ax (Av (Au At At (Ay At) (Az At ?_))))))))))
 refine Ax (Av (Au At At (DA At At (Ke ⟨#[90]⟩ [] AO) (aw (we At) (aw (Cq At) (Cv)))) (Au At At (DA At At (Ke ⟨#[122, 101, 114, 111]⟩ [] AO) (aw (we At) (aw (Cq At) (Cv)))) (BM At At (BK B7 At) fun b6 => BM At At (BK B7 At) fun b7 => Au At At (A6 (i := 1) BO At At At Ak Ac (CF _)) (Au At At (A6 (i := 0) BO At At At Ak Ac (CF _)) (Az At (Ax (Av (Au At At (Cw At At) ?_)))))))))
 refine Au At At (Ay At) (Az At (Ax (Av (Au At At (Ay At) (Az At (Ax (Av (Au At At (Ay At) (Az At (Ax ?_))))))))))
 refine Xh [.val (.p (.fn 66)), .val (.p (.fn 62)), .val (.p (.fn 61)), .val (.agg [.p (I 0), .p (.lst (List.map Ec [(DJ.mk 0 0)]))]), .rel (fun v => ∃ q : Tm, v = TV q), .rel (fun v => ∃ q : Tm, v = TV q), .rel (fun v => ∃ q : Tm, v = TV q), .rel (fun v => ∃ q : Tm, v = TV q), .rel (fun v => ∃ l : List Tm, v = .p (.lst (BR l)) ∧ l.length = 4), .rel (fun v => ∃ q : Tm, v = TV q), .rel (fun v => ∃ q : Tm, v = .agg ((DZ (Dc ⟨#[69, 113]⟩ 1 q)).map .p)), .val (.p (.fn 66)), .val (.p (.fn 62)), .val (.p (.fn 61)), .val (.agg [.p (I 0), .p (.lst (List.map Ec [(DJ.mk 0 0)]))]), .rel (fun v => ∃ q : Tm, v = TV q), .rel (fun v => ∃ q : Tm, v = TV q), .val (.agg [.p (I 0), .p (.lst (List.map Ec [(DJ.mk 0 0)]))]), .rel (fun v => ∃ q : Tm, v = TV q), .rel (fun v => ∃ q : Tm, v = TV q), .rel (fun v => ∃ q : Tm, v = TV q), .rel (fun v => ∃ q : Tm, v = TV q), .rel (fun v => ∃ l : List Tm, v = .p (.lst (BR l)) ∧ l.length = 3), .rel (fun v => ∃ q : Tm, v = TV q), .rel (fun v => ∃ q : Tm, v = .agg ((DZ (Dc ⟨#[69, 113, 46, 114, 101, 102, 108]⟩ 1 q)).map .p)), .val (.p (.fn 66)), .val (.p (.fn 62)), .val (.p (.fn 61)), .val (.agg [.p (I 0), .p (.lst (List.map Ec [(DJ.mk 0 0)]))]), .rel (fun v => ∃ q : Tm, v = TV q), .rel (fun v => ∃ q : Tm, v = TV q), .rel (fun v => ∃ q : Tm, v = TV q), .val (.agg [.p (I 0), .p (.lst (List.map Ec [(DJ.mk 0 0)]))]), .rel (fun v => ∃ q : Tm, v = TV q), .rel (fun v => ∃ q : Tm, v = TV q), .rel (fun v => ∃ q : Tm, v = TV q), .rel (fun v => ∃ q : Tm, v = TV q), .val (.agg [.p (I 0), .p (.lst (List.map Ec [(DJ.mk 0 0)]))]), .rel (fun v => ∃ q : Tm, v = TV q), .rel (fun v => ∃ q : Tm, v = TV q), .rel (fun v => ∃ q : Tm, v = TV q), .rel (fun v => ∃ q : Tm, v = TV q), .rel (fun v => ∃ l : List Tm, v = .p (.lst (BR l)) ∧ l.length = 5), .rel (fun v => ∃ q : Tm, v = TV q), .rel (fun v => ∃ q : Tm, v = .agg ((DZ (Dc ⟨#[69, 113, 46, 115, 121, 109, 109]⟩ 1 q)).map .p)), .val (.p (.fn 66)), .val (.p (.fn 62)), .val (.p (.fn 61)), .val (.agg [.p (I 0), .p (.lst (List.map Ec [(DJ.mk 0 0)]))]), .rel (fun v => ∃ q : Tm, v = TV q), .rel (fun v => ∃ q : Tm, v = TV q), .rel (fun v => ∃ q : Tm, v = TV q), .rel (fun v => ∃ q : Tm, v = TV q), .val (.agg [.p (I 0), .p (.lst (List.map Ec [(DJ.mk 0 0)]))]), .rel (fun v => ∃ q : Tm, v = TV q), .rel (fun v => ∃ q : Tm, v = TV q), .rel (fun v => ∃ q : Tm, v = TV q), .rel (fun v => ∃ q : Tm, v = TV q), .val (.agg [.p (I 0), .p (.lst (List.map Ec [(DJ.mk 0 0)]))]), .rel (fun v => ∃ q : Tm, v = TV q), .rel (fun v => ∃ q : Tm, v = TV q), .rel (fun v => ∃ q : Tm, v = TV q), .rel (fun v => ∃ q : Tm, v = TV q), .val (.agg [.p (I 0), .p (.lst (List.map Ec [(DJ.mk 0 0)]))]), .rel (fun v => ∃ q : Tm, v = TV q), .rel (fun v => ∃ q : Tm, v = TV q), .rel (fun v => ∃ q : Tm, v = TV q), .rel (fun v => ∃ q : Tm, v = TV q), .rel (fun v => ∃ l : List Tm, v = .p (.lst (BR l)) ∧ l.length = 7), .rel (fun v => ∃ q : Tm, v = TV q), .rel (fun v => ∃ q : Tm, v = .agg ((DZ (Dc ⟨#[69, 113, 46, 116, 114, 97, 110, 115]⟩ 1 q)).map .p)), .val (.p (.fn 66)), .val (.p (.fn 62)), .val (.p (.fn 61)), .val (.agg [.p (I 0), .p (.lst (List.map Ec [(DJ.mk 0 0)]))]), .rel (fun v => ∃ q : Tm, v = TV q), .val (.p (.fn 61)), .val (.agg [.p (I 0), .p (.lst (List.map Ec [(DJ.mk 1 0)]))]), .rel (fun v => ∃ q : Tm, v = TV q), .val (.p (.fn 67)), .rel (fun v => ∃ q : Tm, v = TV q), .val (.p (.fn 67)), .rel (fun v => ∃ q : Tm, v = TV q), .rel (fun v => ∃ q : Tm, v = TV q), .rel (fun v => ∃ q : Tm, v = TV q), .val (.agg [.p (I 0), .p (.lst (List.map Ec [(DJ.mk 0 0), (DJ.mk 1 0)]))]), .val (.p (.fn 67)), .rel (fun v => ∃ q : Tm, v = TV q), .rel (fun v => ∃ q : Tm, v = TV q), .rel (fun v => ∃ q : Tm, v = TV q), .rel (fun v => ∃ q : Tm, v = TV q), .val (.agg [.p (I 0), .p (.lst (List.map Ec [(DJ.mk 0 0)]))]), .rel (fun v => ∃ q : Tm, v = TV q), .rel (fun v => ∃ q : Tm, v = TV q), .rel (fun v => ∃ q : Tm, v = TV q), .rel (fun v => ∃ q : Tm, v = TV q), .val (.agg [.p (I 0), .p (.lst (List.map Ec [(DJ.mk 1 0)]))]), .rel (fun v => ∃ q : Tm, v = TV q), .rel (fun v => ∃ q : Tm, v = TV q), .rel (fun v => ∃ q : Tm, v = TV q), .rel (fun v => ∃ l : List Tm, v = .p (.lst (BR l)) ∧ l.length = 2), .rel (fun v => ∃ q : Tm, v = TV q), .rel (fun v => ∃ q : Tm, v = TV q), .rel (fun v => ∃ q : Tm, v = TV q), .rel (fun v => ∃ l : List Tm, v = .p (.lst (BR l)) ∧ l.length = 2), .rel (fun v => ∃ q : Tm, v = TV q), .rel (fun v => ∃ q : Tm, v = TV q), .rel (fun v => ∃ l : List Tm, v = .p (.lst (BR l)) ∧ l.length = 9), .rel (fun v => ∃ q : Tm, v = TV q), .rel (fun v => ∃ q : Tm, v = .agg ((DZ (Dc ⟨#[69, 113, 46, 99, 111, 110, 103, 114]⟩ 2 q)).map .p)), .val (.p (.fn 66)), .val (.p (.fn 61)), .val (.agg [.p (I 0), .p (.nils)]), .rel (fun v => ∃ q : Tm, v = TV q), .rel (fun v => ∃ q : Tm, v = .agg ((DZ (Dc ⟨#[90]⟩ 0 q)).map .p)), .val (.p (.fn 66)), .val (.p (.fn 62)), .val (.agg ((Be (BS ⟨#[90]⟩ [])).map .p)), .val (.agg ((Be (BS ⟨#[90]⟩ [])).map .p)), .val (.agg ((Be (BS ⟨#[90]⟩ [])).map .p)), .val (.p (.lst (BR ([(BS ⟨#[90]⟩ []), (BS ⟨#[90]⟩ []), (BS ⟨#[90]⟩ [])])))), .rel (fun v => ∃ q : Tm, v = TV q), .rel (fun v => ∃ q : Tm, v = .agg ((DZ (Dc ⟨#[97, 100, 100]⟩ 0 q)).map .p)), .val (.p (.fn 66)), .val (.agg ((Be (BS ⟨#[90]⟩ [])).map .p)), .val (.agg ((DZ (Dc ⟨#[122, 101, 114, 111]⟩ 0 (BS ⟨#[90]⟩ []))).map .p)), .val (.p (.fn 66)), .val (.p (.fn 62)), .val (.agg ((Be (BS ⟨#[90]⟩ [])).map .p)), .val (.agg ((Be (BS ⟨#[90]⟩ [])).map .p)), .val (.p (.lst (BR ([(BS ⟨#[90]⟩ []), (BS ⟨#[90]⟩ [])])))), .rel (fun v => ∃ q : Tm, v = TV q), .rel (fun v => ∃ q : Tm, v = .agg ((DZ (Dc ⟨#[110, 101, 103]⟩ 0 q)).map .p)), .val (.p (.fn 66)), .val (.agg ((Be (BS ⟨#[90]⟩ [])).map .p)), .val (.agg ((DZ (Dc ⟨#[111, 110, 101]⟩ 0 (BS ⟨#[90]⟩ []))).map .p)), .val (.p (.fn 66)), .val (.p (.fn 62)), .val (.agg ((Be (BS ⟨#[90]⟩ [])).map .p)), .val (.agg ((Be (BS ⟨#[90]⟩ [])).map .p)), .val (.fn (.func 64) [] [.ptr b6 0]), .rel (fun v => ∃ q : Tm, v = TV q), .rel (fun v => ∃ q : Tm, v = TV q), .rel (fun v => ∃ q : Tm, v = TV q), .rel (fun v => ∃ q : Tm, v = TV q), .rel (fun v => ∃ q : Tm, v = TV q), .rel (fun v => ∃ q : Tm, v = TV q), .rel (fun v => ∃ q : Tm, v = TV q), .rel (fun v => ∃ l : List Tm, v = .p (.lst (BR l)) ∧ l.length = 3), .rel (fun v => ∃ q : Tm, v = TV q), .rel (fun v => ∃ q : Tm, v = .agg ((DZ (Dc ⟨#[108, 48]⟩ 0 q)).map .p)), .val (.p (.fn 66)), .val (.p (.fn 62)), .val (.agg ((Be (BS ⟨#[90]⟩ [])).map .p)), .val (.agg ((Be (BS ⟨#[90]⟩ [])).map .p)), .val (.agg ((Be (BS ⟨#[90]⟩ [])).map .p)), .val (.fn (.func 64) [] [.ptr b6 0]), .rel (fun v => ∃ q : Tm, v = TV q), .rel (fun v => ∃ q : Tm, v = TV q), .rel (fun v => ∃ q : Tm, v = TV q), .rel (fun v => ∃ q : Tm, v = TV q), .rel (fun v => ∃ q : Tm, v = TV q), .rel (fun v => ∃ q : Tm, v = TV q), .rel (fun v => ∃ q : Tm, v = TV q), .rel (fun v => ∃ q : Tm, v = TV q), .rel (fun v => ∃ q : Tm, v = TV q), .rel (fun v => ∃ q : Tm, v = TV q), .rel (fun v => ∃ q : Tm, v = TV q), .rel (fun v => ∃ l : List Tm, v = .p (.lst (BR l)) ∧ l.length = 4), .rel (fun v => ∃ q : Tm, v = TV q), .rel (fun v => ∃ q : Tm, v = .agg ((DZ (Dc ⟨#[108, 49]⟩ 0 q)).map .p)), .val (.p (.fn 66)), .val (.p (.fn 62)), .val (.agg ((Be (BS ⟨#[90]⟩ [])).map .p)), .val (.fn (.func 64) [] [.ptr b6 0]), .val (.agg ((Be (BS ⟨#[122, 101, 114, 111]⟩ [])).map .p)), .rel (fun v => ∃ q : Tm, v = TV q), .rel (fun v => ∃ q : Tm, v = TV q), .rel (fun v => ∃ q : Tm, v = TV q), .rel (fun v => ∃ q : Tm, v = TV q), .rel (fun v => ∃ l : List Tm, v = .p (.lst (BR l)) ∧ l.length = 2), .rel (fun v => ∃ q : Tm, v = TV q), .rel (fun v => ∃ q : Tm, v = .agg ((DZ (Dc ⟨#[108, 50]⟩ 0 q)).map .p)), .val (.p (.fn 66)), .val (.p (.fn 62)), .val (.agg ((Be (BS ⟨#[90]⟩ [])).map .p)), .val (.fn (.func 64) [] [.ptr b6 0]), .rel (fun v => ∃ q : Tm, v = TV q), .rel (fun v => ∃ q : Tm, v = TV q), .rel (fun v => ∃ q : Tm, v = TV q), .rel (fun v => ∃ q : Tm, v = TV q), .val (.agg ((Be (BS ⟨#[122, 101, 114, 111]⟩ [])).map .p)), .rel (fun v => ∃ q : Tm, v = TV q), .rel (fun v => ∃ l : List Tm, v = .p (.lst (BR l)) ∧ l.length = 2), .rel (fun v => ∃ q : Tm, v = TV q), .rel (fun v => ∃ q : Tm, v = .agg ((DZ (Dc ⟨#[108, 51]⟩ 0 q)).map .p)), .val (.p (.fn 66)), .val (.p (.fn 62)), .val (.agg ((Be (BS ⟨#[90]⟩ [])).map .p)), .val (.agg ((Be (BS ⟨#[90]⟩ [])).map .p)), .val (.fn (.func 64) [] [.ptr b6 0]), .rel (fun v => ∃ q : Tm, v = TV q), .rel (fun v => ∃ q : Tm, v = TV q), .rel (fun v => ∃ q : Tm, v = TV q), .rel (fun v => ∃ q : Tm, v = TV q), .rel (fun v => ∃ q : Tm, v = TV q), .rel (fun v => ∃ q : Tm, v = TV q), .rel (fun v => ∃ q : Tm, v = TV q), .rel (fun v => ∃ q : Tm, v = TV q), .rel (fun v => ∃ q : Tm, v = TV q), .rel (fun v => ∃ q : Tm, v = TV q), .rel (fun v => ∃ l : List Tm, v = .p (.lst (BR l)) ∧ l.length = 3), .rel (fun v => ∃ q : Tm, v = TV q), .rel (fun v => ∃ q : Tm, v = .agg ((DZ (Dc ⟨#[108, 52]⟩ 0 q)).map .p)), .val (.p (.fn 66)), .val (.p (.fn 62)), .val (.agg ((Be (BS ⟨#[90]⟩ [])).map .p)), .val (.fn (.func 64) [] [.ptr b6 0]), .rel (fun v => ∃ q : Tm, v = TV q), .rel (fun v => ∃ q : Tm, v = TV q), .rel (fun v => ∃ q : Tm, v = TV q), .rel (fun v => ∃ q : Tm, v = TV q), .rel (fun v => ∃ q : Tm, v = TV q), .rel (fun v => ∃ l : List Tm, v = .p (.lst (BR l)) ∧ l.length = 2), .rel (fun v => ∃ q : Tm, v = TV q), .rel (fun v => ∃ q : Tm, v = .agg ((DZ (Dc ⟨#[108, 53]⟩ 0 q)).map .p)), .val (.p (.fn 66)), .val (.fn (.func 64) [] [.ptr b6 0]), .val (.agg ((Be (BS ⟨#[122, 101, 114, 111]⟩ [])).map .p)), .rel (fun v => ∃ q : Tm, v = TV q), .val (.agg ((Be (BS ⟨#[122, 101, 114, 111]⟩ [])).map .p)), .rel (fun v => ∃ q : Tm, v = TV q)] D0 At An An ?_ ?_
 ·exact ⟨⟨_, BZ, At⟩, ⟨⟨_, BZ, At⟩, ⟨⟨_, BZ, At⟩, ⟨⟨_, BZ, At⟩, ⟨⟨_, List.replicate 4 BZ, At, At⟩, ⟨⟨_, BZ, At⟩, ⟨⟨_, BZ, At⟩, ⟨⟨_, BZ, At⟩, ⟨⟨_, BZ, At⟩, ⟨⟨_, BZ, At⟩, ⟨⟨_, BZ, At⟩, ⟨⟨_, BZ, At⟩, ⟨⟨_, BZ, At⟩, ⟨⟨_, List.replicate 3 BZ, At, At⟩, ⟨⟨_, BZ, At⟩, ⟨⟨_, BZ, At⟩, ⟨⟨_, BZ, At⟩, ⟨⟨_, BZ, At⟩, ⟨⟨_, BZ, At⟩, ⟨⟨_, BZ, At⟩, ⟨⟨_, BZ, At⟩, ⟨⟨_, BZ, At⟩, ⟨⟨_, BZ, At⟩, ⟨⟨_, BZ, At⟩, ⟨⟨_, BZ, At⟩, ⟨⟨_, BZ, At⟩, ⟨⟨_, BZ, At⟩, ⟨⟨_, List.replicate 5 BZ, At, At⟩, ⟨⟨_, BZ, At⟩, ⟨⟨_, BZ, At⟩, ⟨⟨_, BZ, At⟩, ⟨⟨_, BZ, At⟩, ⟨⟨_, BZ, At⟩, ⟨⟨_, BZ, At⟩, ⟨⟨_, BZ, At⟩, ⟨⟨_, BZ, At⟩, ⟨⟨_, BZ, At⟩, ⟨⟨_, BZ, At⟩, ⟨⟨_, BZ, At⟩, ⟨⟨_, BZ, At⟩, ⟨⟨_, BZ, At⟩, ⟨⟨_, BZ, At⟩, ⟨⟨_, BZ, At⟩, ⟨⟨_, BZ, At⟩, ⟨⟨_, BZ, At⟩, ⟨⟨_, BZ, At⟩, ⟨⟨_, List.replicate 7 BZ, At, At⟩, ⟨⟨_, BZ, At⟩, ⟨⟨_, BZ, At⟩, ⟨⟨_, BZ, At⟩, ⟨⟨_, BZ, At⟩, ⟨⟨_, BZ, At⟩, ⟨⟨_, BZ, At⟩, ⟨⟨_, BZ, At⟩, ⟨⟨_, BZ, At⟩, ⟨⟨_, BZ, At⟩, ⟨⟨_, BZ, At⟩, ⟨⟨_, BZ, At⟩, ⟨⟨_, BZ, At⟩, ⟨⟨_, BZ, At⟩, ⟨⟨_, BZ, At⟩, ⟨⟨_, BZ, At⟩, ⟨⟨_, BZ, At⟩, ⟨⟨_, BZ, At⟩, ⟨⟨_, BZ, At⟩, ⟨⟨_, BZ, At⟩, ⟨⟨_, List.replicate 2 BZ, At, At⟩, ⟨⟨_, BZ, At⟩, ⟨⟨_, BZ, At⟩, ⟨⟨_, BZ, At⟩, ⟨⟨_, List.replicate 2 BZ, At, At⟩, ⟨⟨_, BZ, At⟩, ⟨⟨_, BZ, At⟩, ⟨⟨_, List.replicate 9 BZ, At, At⟩, ⟨⟨_, BZ, At⟩, ⟨⟨_, BZ, At⟩, ⟨⟨_, BZ, At⟩, ⟨⟨_, BZ, At⟩, ⟨⟨_, BZ, At⟩, ⟨⟨_, BZ, At⟩, ⟨⟨_, BZ, At⟩, ⟨⟨_, BZ, At⟩, ⟨⟨_, BZ, At⟩, ⟨⟨_, BZ, At⟩, ⟨⟨_, BZ, At⟩, ⟨⟨_, BZ, At⟩, ⟨⟨_, BZ, At⟩, ⟨⟨_, BZ, At⟩, ⟨⟨_, BZ, At⟩, ⟨⟨_, List.replicate 3 BZ, At, At⟩, ⟨⟨_, BZ, At⟩, ⟨⟨_, BZ, At⟩, ⟨⟨_, BZ, At⟩, ⟨⟨_, BZ, At⟩, ⟨⟨_, BZ, At⟩, ⟨⟨_, BZ, At⟩, ⟨⟨_, BZ, At⟩, ⟨⟨_, BZ, At⟩, ⟨⟨_, BZ, At⟩, ⟨⟨_, BZ, At⟩, ⟨⟨_, BZ, At⟩, ⟨⟨_, BZ, At⟩, ⟨⟨_, BZ, At⟩, ⟨⟨_, List.replicate 4 BZ, At, At⟩, ⟨⟨_, BZ, At⟩, ⟨⟨_, BZ, At⟩, ⟨⟨_, BZ, At⟩, ⟨⟨_, BZ, At⟩, ⟨⟨_, BZ, At⟩, ⟨⟨_, BZ, At⟩, ⟨⟨_, List.replicate 2 BZ, At, At⟩, ⟨⟨_, BZ, At⟩, ⟨⟨_, BZ, At⟩, ⟨⟨_, BZ, At⟩, ⟨⟨_, BZ, At⟩, ⟨⟨_, BZ, At⟩, ⟨⟨_, BZ, At⟩, ⟨⟨_, BZ, At⟩, ⟨⟨_, List.replicate 2 BZ, At, At⟩, ⟨⟨_, BZ, At⟩, ⟨⟨_, BZ, At⟩, ⟨⟨_, BZ, At⟩, ⟨⟨_, BZ, At⟩, ⟨⟨_, BZ, At⟩, ⟨⟨_, BZ, At⟩, ⟨⟨_, BZ, At⟩, ⟨⟨_, BZ, At⟩, ⟨⟨_, BZ, At⟩, ⟨⟨_, BZ, At⟩, ⟨⟨_, BZ, At⟩, ⟨⟨_, BZ, At⟩, ⟨⟨_, List.replicate 3 BZ, At, At⟩, ⟨⟨_, BZ, At⟩, ⟨⟨_, BZ, At⟩, ⟨⟨_, BZ, At⟩, ⟨⟨_, BZ, At⟩, ⟨⟨_, BZ, At⟩, ⟨⟨_, BZ, At⟩, ⟨⟨_, BZ, At⟩, ⟨⟨_, List.replicate 2 BZ, At, At⟩, ⟨⟨_, BZ, At⟩, ⟨⟨_, BZ, At⟩, ⟨⟨_, BZ, At⟩, ⟨⟨_, BZ, At⟩, trivial⟩⟩⟩⟩⟩⟩⟩⟩⟩⟩⟩⟩⟩⟩⟩⟩⟩⟩⟩⟩⟩⟩⟩⟩⟩⟩⟩⟩⟩⟩⟩⟩⟩⟩⟩⟩⟩⟩⟩⟩⟩⟩⟩⟩⟩⟩⟩⟩⟩⟩⟩⟩⟩⟩⟩⟩⟩⟩⟩⟩⟩⟩⟩⟩⟩⟩⟩⟩⟩⟩⟩⟩⟩⟩⟩⟩⟩⟩⟩⟩⟩⟩⟩⟩⟩⟩⟩⟩⟩⟩⟩⟩⟩⟩⟩⟩⟩⟩⟩⟩⟩⟩⟩⟩⟩⟩⟩⟩⟩⟩⟩⟩⟩⟩⟩⟩⟩⟩⟩⟩⟩⟩⟩⟩⟩⟩⟩⟩⟩⟩⟩⟩⟩⟩⟩⟩⟩⟩⟩⟩⟩⟩⟩⟩
 refine B3 At (fun Bs => Aw At) (B3 At (fun Bs => Aw At) (B3 At (fun Bs => Aw At) (B3 At (fun Bs => A0 (i := Bs.length + 4) EM At (Bx At) At) (Bl At (fun Bs => Bb At At (NH (FC.mk 0 [(DJ.mk 0 0)])) (.inl At)) ?_))))
 rintro _ ⟨q, rfl⟩
 refine Bl At (fun Bs => Bb At At (DV 0) (.inl At)) ?_
 rintro _ ⟨q1, rfl⟩
 refine Bl At (fun Bs => Bb At At (DV 1) (.inl At)) ?_
 rintro _ ⟨q2, rfl⟩
 refine Bl At (fun Bs => C0 (Nt (Br (cs := [.p (I 1), .p (I 0), .p (.str ⟨#[]⟩), .p (.nils), .p (.nils)]) CX B7 An)) ⟨(.mk 1 0 ⟨#[]⟩ [] [] : Tm), At⟩) ?_
 rintro _ ⟨q3, rfl⟩
 refine Bl At (fun Bs => C0 (BU (rows := BR [q, q1, q2, q3]) By B7 At At At At (Bz (CC _)) (C1 _)) ⟨[q, q1, q2, q3], At, At⟩) ?_
 rintro _ ⟨l, rfl, hl⟩
 refine Bl At (fun Bs => Bb At At (IF l Ae Ae) (.inl At)) ?_
 rintro _ ⟨q4, rfl⟩
 refine Bl At (fun Bs => C0 (Bg At At (G3 ⟨#[69, 113]⟩ 1 q4) At) ⟨_, At⟩) ?_
 rintro _ ⟨q5, rfl⟩
 refine B3 At (fun Bs => Aw At) (B3 At (fun Bs => Aw At) (B3 At (fun Bs => Aw At) (B3 At (fun Bs => A0 (i := Bs.length + 4) EM At (Bx At) At) (Bl At (fun Bs => Bb At At (NH (FC.mk 0 [(DJ.mk 0 0)])) (.inl At)) ?_))))
 rintro _ ⟨q6, rfl⟩
 refine Bl At (fun Bs => Bb At At (DV 0) (.inl At)) ?_
 rintro _ ⟨q7, rfl⟩
 refine B3 At (fun Bs => A0 (i := Bs.length + 4) EM At (Bx At) At) (Bl At (fun Bs => Bb At At (DV 1) (.inl At)) ?_)
 rintro _ ⟨q8, rfl⟩
 refine Bl At (fun Bs => Bb At At (DV 0) (.inl At)) ?_
 rintro _ ⟨q9, rfl⟩
 refine Bl At (fun Bs => Bb At At (DV 0) (.inl At)) ?_
 rintro _ ⟨q10, rfl⟩
 refine Bl At (fun Bs => Bb At At (LC (FC.mk 0 [(DJ.mk 0 0)]) q8 q9 q10) (.inl At)) ?_
 rintro _ ⟨q11, rfl⟩
 refine Bl At (fun Bs => C0 (BU (rows := BR [q6, q7, q11]) By B7 At At At At (Bz (CC _)) (C1 _)) ⟨[q6, q7, q11], At, At⟩) ?_
 rintro _ ⟨l1, rfl, hl1⟩
 refine Bl At (fun Bs => Bb At At (IF l1 Ae Ae) (.inl At)) ?_
 rintro _ ⟨q12, rfl⟩
 refine Bl At (fun Bs => C0 (Bg At At (G3 ⟨#[69, 113, 46, 114, 101, 102, 108]⟩ 1 q12) At) ⟨_, At⟩) ?_
 rintro _ ⟨q13, rfl⟩
 refine B3 At (fun Bs => Aw At) (B3 At (fun Bs => Aw At) (B3 At (fun Bs => Aw At) (B3 At (fun Bs => A0 (i := Bs.length + 4) EM At (Bx At) At) (Bl At (fun Bs => Bb At At (NH (FC.mk 0 [(DJ.mk 0 0)])) (.inl At)) ?_))))
 rintro _ ⟨q14, rfl⟩
 refine Bl At (fun Bs => Bb At At (DV 0) (.inl At)) ?_
 rintro _ ⟨q15, rfl⟩
 refine Bl At (fun Bs => Bb At At (DV 1) (.inl At)) ?_
 rintro _ ⟨q16, rfl⟩
 refine B3 At (fun Bs => A0 (i := Bs.length + 4) EM At (Bx At) At) (Bl At (fun Bs => Bb At At (DV 2) (.inl At)) ?_)
 rintro _ ⟨q17, rfl⟩
 refine Bl At (fun Bs => Bb At At (DV 1) (.inl At)) ?_
 rintro _ ⟨q18, rfl⟩
 refine Bl At (fun Bs => Bb At At (DV 0) (.inl At)) ?_
 rintro _ ⟨q19, rfl⟩
 refine Bl At (fun Bs => Bb At At (LC (FC.mk 0 [(DJ.mk 0 0)]) q17 q18 q19) (.inl At)) ?_
 rintro _ ⟨q20, rfl⟩
 refine B3 At (fun Bs => A0 (i := Bs.length + 4) EM At (Bx At) At) (Bl At (fun Bs => Bb At At (DV 3) (.inl At)) ?_)
 rintro _ ⟨q21, rfl⟩
 refine Bl At (fun Bs => Bb At At (DV 1) (.inl At)) ?_
 rintro _ ⟨q22, rfl⟩
 refine Bl At (fun Bs => Bb At At (DV 2) (.inl At)) ?_
 rintro _ ⟨q23, rfl⟩
 refine Bl At (fun Bs => Bb At At (LC (FC.mk 0 [(DJ.mk 0 0)]) q21 q22 q23) (.inl At)) ?_
 rintro _ ⟨q24, rfl⟩
 refine Bl At (fun Bs => C0 (BU (rows := BR [q14, q15, q16, q20, q24]) By B7 At At At At (Bz (CC _)) (C1 _)) ⟨[q14, q15, q16, q20, q24], At, At⟩) ?_
 rintro _ ⟨l2, rfl, hl2⟩
 refine Bl At (fun Bs => Bb At At (IF l2 Ae Ae) (.inl At)) ?_
 rintro _ ⟨q25, rfl⟩
 refine Bl At (fun Bs => C0 (Bg At At (G3 ⟨#[69, 113, 46, 115, 121, 109, 109]⟩ 1 q25) At) ⟨_, At⟩) ?_
 rintro _ ⟨q26, rfl⟩
 refine B3 At (fun Bs => Aw At) (B3 At (fun Bs => Aw At) (B3 At (fun Bs => Aw At) (B3 At (fun Bs => A0 (i := Bs.length + 4) EM At (Bx At) At) (Bl At (fun Bs => Bb At At (NH (FC.mk 0 [(DJ.mk 0 0)])) (.inl At)) ?_))))
 rintro _ ⟨q27, rfl⟩
 refine Bl At (fun Bs => Bb At At (DV 0) (.inl At)) ?_
 rintro _ ⟨q28, rfl⟩
 refine Bl At (fun Bs => Bb At At (DV 1) (.inl At)) ?_
 rintro _ ⟨q29, rfl⟩
 refine Bl At (fun Bs => Bb At At (DV 2) (.inl At)) ?_
 rintro _ ⟨q30, rfl⟩
 refine B3 At (fun Bs => A0 (i := Bs.length + 4) EM At (Bx At) At) (Bl At (fun Bs => Bb At At (DV 3) (.inl At)) ?_)
 rintro _ ⟨q31, rfl⟩
 refine Bl At (fun Bs => Bb At At (DV 2) (.inl At)) ?_
 rintro _ ⟨q32, rfl⟩
 refine Bl At (fun Bs => Bb At At (DV 1) (.inl At)) ?_
 rintro _ ⟨q33, rfl⟩
 refine Bl At (fun Bs => Bb At At (LC (FC.mk 0 [(DJ.mk 0 0)]) q31 q32 q33) (.inl At)) ?_
 rintro _ ⟨q34, rfl⟩
 refine B3 At (fun Bs => A0 (i := Bs.length + 4) EM At (Bx At) At) (Bl At (fun Bs => Bb At At (DV 4) (.inl At)) ?_)
 rintro _ ⟨q35, rfl⟩
 refine Bl At (fun Bs => Bb At At (DV 2) (.inl At)) ?_
 rintro _ ⟨q36, rfl⟩
 refine Bl At (fun Bs => Bb At At (DV 1) (.inl At)) ?_
 rintro _ ⟨q37, rfl⟩
 refine Bl At (fun Bs => Bb At At (LC (FC.mk 0 [(DJ.mk 0 0)]) q35 q36 q37) (.inl At)) ?_
 rintro _ ⟨q38, rfl⟩
 refine B3 At (fun Bs => A0 (i := Bs.length + 4) EM At (Bx At) At) (Bl At (fun Bs => Bb At At (DV 5) (.inl At)) ?_)
 rintro _ ⟨q39, rfl⟩
 refine Bl At (fun Bs => Bb At At (DV 4) (.inl At)) ?_
 rintro _ ⟨q40, rfl⟩
 refine Bl At (fun Bs => Bb At At (DV 2) (.inl At)) ?_
 rintro _ ⟨q41, rfl⟩
 refine Bl At (fun Bs => Bb At At (LC (FC.mk 0 [(DJ.mk 0 0)]) q39 q40 q41) (.inl At)) ?_
 rintro _ ⟨q42, rfl⟩
 refine Bl At (fun Bs => C0 (BU (rows := BR [q27, q28, q29, q30, q34, q38, q42]) By B7 At At At At (Bz (CC _)) (C1 _)) ⟨[q27, q28, q29, q30, q34, q38, q42], At, At⟩) ?_
 rintro _ ⟨l3, rfl, hl3⟩
 refine Bl At (fun Bs => Bb At At (IF l3 Ae Ae) (.inl At)) ?_
 rintro _ ⟨q43, rfl⟩
 refine Bl At (fun Bs => C0 (Bg At At (G3 ⟨#[69, 113, 46, 116, 114, 97, 110, 115]⟩ 1 q43) At) ⟨_, At⟩) ?_
 rintro _ ⟨q44, rfl⟩
 refine B3 At (fun Bs => Aw At) (B3 At (fun Bs => Aw At) (B3 At (fun Bs => Aw At) (B3 At (fun Bs => A0 (i := Bs.length + 4) EM At (Bx At) At) (Bl At (fun Bs => Bb At At (NH (FC.mk 0 [(DJ.mk 0 0)])) (.inl At)) ?_))))
 rintro _ ⟨q45, rfl⟩
 refine B3 At (fun Bs => Aw At) (B3 At (fun Bs => A0 (i := Bs.length + 3) EM At (Bx At) At) (Bl At (fun Bs => Bb At At (NH (FC.mk 0 [(DJ.mk 1 0)])) (.inl At)) ?_))
 rintro _ ⟨q46, rfl⟩
 refine B3 At (fun Bs => Aw At) (Bl At (fun Bs => Bb At At (Vf 1 0 Ar Ar) (.inl At)) ?_)
 rintro _ ⟨q47, rfl⟩
 refine B3 At (fun Bs => Aw At) (Bl At (fun Bs => Bb At At (Vf 2 1 Ar Ar) (.inl At)) ?_)
 rintro _ ⟨q48, rfl⟩
 refine Bl At (fun Bs => Bb At At (DV 3) (.inl At)) ?_
 rintro _ ⟨q49, rfl⟩
 refine Bl At (fun Bs => Bb At At (DV 4) (.inl At)) ?_
 rintro _ ⟨q50, rfl⟩
 refine B3 At (fun Bs => A0 (i := Bs.length + 2) EM At (Bx At) At) (B3 At (fun Bs => Aw At) (Bl At (fun Bs => Bb At At (Vf 5 4 Ar Ar) (.inl At)) ?_))
 rintro _ ⟨q51, rfl⟩
 refine Bl At (fun Bs => Bb At At (DV 3) (.inl At)) ?_
 rintro _ ⟨q52, rfl⟩
 refine Bl At (fun Bs => Bb At At (DV 2) (.inl At)) ?_
 rintro _ ⟨q53, rfl⟩
 refine Bl At (fun Bs => Bb At At (LC (FC.mk 0 [(DJ.mk 0 0), (DJ.mk 1 0)]) q51 q52 q53) (.inl At)) ?_
 rintro _ ⟨q54, rfl⟩
 refine B3 At (fun Bs => A0 (i := Bs.length + 4) EM At (Bx At) At) (Bl At (fun Bs => Bb At At (DV 6) (.inl At)) ?_)
 rintro _ ⟨q55, rfl⟩
 refine Bl At (fun Bs => Bb At At (DV 2) (.inl At)) ?_
 rintro _ ⟨q56, rfl⟩
 refine Bl At (fun Bs => Bb At At (DV 1) (.inl At)) ?_
 rintro _ ⟨q57, rfl⟩
 refine Bl At (fun Bs => Bb At At (LC (FC.mk 0 [(DJ.mk 0 0)]) q55 q56 q57) (.inl At)) ?_
 rintro _ ⟨q58, rfl⟩
 refine B3 At (fun Bs => A0 (i := Bs.length + 3) EM At (Bx At) At) (Bl At (fun Bs => Bb At At (DV 6) (.inl At)) ?_)
 rintro _ ⟨q59, rfl⟩
 refine Bl At (fun Bs => Bb At At (DV 5) (.inl At)) ?_
 rintro _ ⟨q60, rfl⟩
 refine Bl At (fun Bs => Bb At At (DV 3) (.inl At)) ?_
 rintro _ ⟨q61, rfl⟩
 refine Bl At (fun Bs => C0 (BU (rows := BR [q60, q61]) By B7 At At At At (Bz (CC _)) (C1 _)) ⟨[q60, q61], At, At⟩) ?_
 rintro _ ⟨l4, rfl, hl4⟩
 refine Bl At (fun Bs => C0 (Nt (Br (cs := [.p (I 4), .p (I 0), .p (.str ⟨#[]⟩), .p (.nils), .p (.lst (BR l4))]) CX B7 An)) ⟨(.mk 4 0 ⟨#[]⟩ [] l4 : Tm), At⟩) ?_
 rintro _ ⟨q62, rfl⟩
 refine Bl At (fun Bs => Bb At At (DV 4) (.inl At)) ?_
 rintro _ ⟨q63, rfl⟩
 refine Bl At (fun Bs => Bb At At (DV 2) (.inl At)) ?_
 rintro _ ⟨q64, rfl⟩
 refine Bl At (fun Bs => C0 (BU (rows := BR [q63, q64]) By B7 At At At At (Bz (CC _)) (C1 _)) ⟨[q63, q64], At, At⟩) ?_
 rintro _ ⟨l5, rfl, hl5⟩
 refine Bl At (fun Bs => C0 (Nt (Br (cs := [.p (I 4), .p (I 0), .p (.str ⟨#[]⟩), .p (.nils), .p (.lst (BR l5))]) CX B7 An)) ⟨(.mk 4 0 ⟨#[]⟩ [] l5 : Tm), At⟩) ?_
 rintro _ ⟨q65, rfl⟩
 refine Bl At (fun Bs => Bb At At (LC (FC.mk 0 [(DJ.mk 1 0)]) q59 q62 q65) (.inl At)) ?_
 rintro _ ⟨q66, rfl⟩
 refine Bl At (fun Bs => C0 (BU (rows := BR [q45, q46, q47, q48, q49, q50, q54, q58, q66]) By B7 At At At At (Bz (CC _)) (C1 _)) ⟨[q45, q46, q47, q48, q49, q50, q54, q58, q66], At, At⟩) ?_
 rintro _ ⟨l6, rfl, hl6⟩
 refine Bl At (fun Bs => Bb At At (IF l6 Ae Ae) (.inl At)) ?_
 rintro _ ⟨q67, rfl⟩
 refine Bl At (fun Bs => C0 (Bg At At (G3 ⟨#[69, 113, 46, 99, 111, 110, 103, 114]⟩ 2 q67) At) ⟨_, At⟩) ?_
 rintro _ ⟨q68, rfl⟩
 refine B3 At (fun Bs => Aw At) (B3 At (fun Bs => Aw At) (B3 At (fun Bs => Br (cs := [.p (I 0), .p (.nils)]) D8 Gw An) (Bl At (fun Bs => Bb At At (NH (FC.mk 0 [])) (.inr At)) ?_)))
 rintro _ ⟨q69, rfl⟩
 refine Bl At (fun Bs => C0 (Bg At At (G3 ⟨#[90]⟩ 0 q69) At) ⟨_, At⟩) ?_
 rintro _ ⟨q70, rfl⟩
 refine B3 At (fun Bs => Aw At) (B3 At (fun Bs => Aw At) (B3 At (fun Bs => A0 (i := Bs.length + 1) BO At (Bx At) Ak) (B3 At (fun Bs => A0 (i := Bs.length + 1) BO At (Bx At) Ak) (B3 At (fun Bs => A0 (i := Bs.length + 1) BO At (Bx At) Ak) (B3 At (fun Bs => BU (rows := BR ([(BS ⟨#[90]⟩ []), (BS ⟨#[90]⟩ []), (BS ⟨#[90]⟩ [])])) By B7 At At At At (Bz (CC _)) (C1 _)) (Bl At (fun Bs => Bb At At (IF ([(BS ⟨#[90]⟩ []), (BS ⟨#[90]⟩ []), (BS ⟨#[90]⟩ [])]) Ae Ae) (.inl At)) ?_))))))
 rintro _ ⟨q71, rfl⟩
 refine Bl At (fun Bs => C0 (Bg At At (G3 ⟨#[97, 100, 100]⟩ 0 q71) At) ⟨_, At⟩) ?_
 rintro _ ⟨q72, rfl⟩
 refine B3 At (fun Bs => Aw At) (B3 At (fun Bs => A0 (i := Bs.length + 1) BO At (Bx At) Ak) (B3 At (fun Bs => Bg At At (G3 ⟨#[122, 101, 114, 111]⟩ 0 (BS ⟨#[90]⟩ [])) At) (B3 At (fun Bs => Aw At) (B3 At (fun Bs => Aw At) (B3 At (fun Bs => A0 (i := Bs.length + 1) BO At (Bx At) Ak) (B3 At (fun Bs => A0 (i := Bs.length + 1) BO At (Bx At) Ak) (B3 At (fun Bs => BU (rows := BR ([(BS ⟨#[90]⟩ []), (BS ⟨#[90]⟩ [])])) By B7 At At At At (Bz (CC _)) (C1 _)) (Bl At (fun Bs => Bb At At (IF ([(BS ⟨#[90]⟩ []), (BS ⟨#[90]⟩ [])]) Ae Ae) (.inl At)) ?_))))))))
 rintro _ ⟨q73, rfl⟩
 refine Bl At (fun Bs => C0 (Bg At At (G3 ⟨#[110, 101, 103]⟩ 0 q73) At) ⟨_, At⟩) ?_
 rintro _ ⟨q74, rfl⟩
 refine B3 At (fun Bs => Aw At) (B3 At (fun Bs => A0 (i := Bs.length + 1) BO At (Bx At) Ak) (B3 At (fun Bs => Bg At At (G3 ⟨#[111, 110, 101]⟩ 0 (BS ⟨#[90]⟩ [])) At) (B3 At (fun Bs => Aw At) (B3 At (fun Bs => Aw At) (B3 At (fun Bs => A0 (i := Bs.length + 1) BO At (Bx At) Ak) (B3 At (fun Bs => A0 (i := Bs.length + 1) BO At (Bx At) Ak) (B3 At (fun Bs => Aw At) (Bl At (fun Bs => Bb At At (DV 1) (.inl At)) ?_))))))))
 rintro _ ⟨q75, rfl⟩
 refine Bl At (fun Bs => Bb At At (DV 0) (.inl At)) ?_
 rintro _ ⟨q76, rfl⟩
 refine Bl At (fun Bs => Bb At At (H7 q75 q76) (.inl At)) ?_
 rintro _ ⟨q77, rfl⟩
 refine Bl At (fun Bs => Bb At At (DV 0) (.inl At)) ?_
 rintro _ ⟨q78, rfl⟩
 refine Bl At (fun Bs => Bb At At (DV 1) (.inl At)) ?_
 rintro _ ⟨q79, rfl⟩
 refine Bl At (fun Bs => Bb At At (H7 q78 q79) (.inl At)) ?_
 rintro _ ⟨q80, rfl⟩
 refine Bl At (fun Bs => C0 (CU [1] At (.inr At) (N6 b6 (BS ⟨#[90]⟩ []) q77 q80) ⟨_, _, At, At, At⟩ Aq (aw (we At) (aw (we At) (aw (we At) (Cv))))) ⟨(apply (.mk 3 0 ⟨#[69, 113]⟩ [FC.mk 0 []] []) [(BS ⟨#[90]⟩ []), q77, q80]), At⟩) ?_
 rintro _ ⟨q81, rfl⟩
 refine Bl At (fun Bs => C0 (BU (rows := BR ([(BS ⟨#[90]⟩ []), (BS ⟨#[90]⟩ []), q81])) By B7 At At At At (Bz (CC _)) (C1 _)) ⟨[(BS ⟨#[90]⟩ []), (BS ⟨#[90]⟩ []), q81], At, At⟩) ?_
 rintro _ ⟨l7, rfl, hl7⟩
 refine Bl At (fun Bs => Bb At At (IF l7 Ae Ae) (.inl At)) ?_
 rintro _ ⟨q82, rfl⟩
 refine Bl At (fun Bs => C0 (Bg At At (G3 ⟨#[108, 48]⟩ 0 q82) At) ⟨_, At⟩) ?_
 rintro _ ⟨q83, rfl⟩
 refine B3 At (fun Bs => Aw At) (B3 At (fun Bs => Aw At) (B3 At (fun Bs => A0 (i := Bs.length + 1) BO At (Bx At) Ak) (B3 At (fun Bs => A0 (i := Bs.length + 1) BO At (Bx At) Ak) (B3 At (fun Bs => A0 (i := Bs.length + 1) BO At (Bx At) Ak) (B3 At (fun Bs => Aw At) (Bl At (fun Bs => Bb At At (DV 2) (.inl At)) ?_))))))
 rintro _ ⟨q84, rfl⟩
 refine Bl At (fun Bs => Bb At At (DV 1) (.inl At)) ?_
 rintro _ ⟨q85, rfl⟩
 refine Bl At (fun Bs => Bb At At (H7 q84 q85) (.inl At)) ?_
 rintro _ ⟨q86, rfl⟩
 refine Bl At (fun Bs => Bb At At (DV 0) (.inl At)) ?_
 rintro _ ⟨q87, rfl⟩
 refine Bl At (fun Bs => Bb At At (H7 q86 q87) (.inl At)) ?_
 rintro _ ⟨q88, rfl⟩
 refine Bl At (fun Bs => Bb At At (DV 2) (.inl At)) ?_
 rintro _ ⟨q89, rfl⟩
 refine Bl At (fun Bs => Bb At At (DV 1) (.inl At)) ?_
 rintro _ ⟨q90, rfl⟩
 refine Bl At (fun Bs => Bb At At (DV 0) (.inl At)) ?_
 rintro _ ⟨q91, rfl⟩
 refine Bl At (fun Bs => Bb At At (H7 q90 q91) (.inl At)) ?_
 rintro _ ⟨q92, rfl⟩
 refine Bl At (fun Bs => Bb At At (H7 q89 q92) (.inl At)) ?_
 rintro _ ⟨q93, rfl⟩
 refine Bl At (fun Bs => C0 (CU [1] At (.inr At) (N6 b6 (BS ⟨#[90]⟩ []) q88 q93) ⟨_, _, At, At, At⟩ Aq (aw (we At) (aw (we At) (aw (we At) (Cv))))) ⟨(apply (.mk 3 0 ⟨#[69, 113]⟩ [FC.mk 0 []] []) [(BS ⟨#[90]⟩ []), q88, q93]), At⟩) ?_
 rintro _ ⟨q94, rfl⟩
 refine Bl At (fun Bs => C0 (BU (rows := BR ([(BS ⟨#[90]⟩ []), (BS ⟨#[90]⟩ []), (BS ⟨#[90]⟩ []), q94])) By B7 At At At At (Bz (CC _)) (C1 _)) ⟨[(BS ⟨#[90]⟩ []), (BS ⟨#[90]⟩ []), (BS ⟨#[90]⟩ []), q94], At, At⟩) ?_
 rintro _ ⟨l8, rfl, hl8⟩
 refine Bl At (fun Bs => Bb At At (IF l8 Ae Ae) (.inl At)) ?_
 rintro _ ⟨q95, rfl⟩
 refine Bl At (fun Bs => C0 (Bg At At (G3 ⟨#[108, 49]⟩ 0 q95) At) ⟨_, At⟩) ?_
 rintro _ ⟨q96, rfl⟩
 refine B3 At (fun Bs => Aw At) (B3 At (fun Bs => Aw At) (B3 At (fun Bs => A0 (i := Bs.length + 1) BO At (Bx At) Ak) (B3 At (fun Bs => Aw At) (B3 At (fun Bs => A0 (i := Bs.length + 0) BO At (Bx At) Ak) (Bl At (fun Bs => Bb At At (DV 0) (.inl At)) ?_)))))
 rintro _ ⟨q97, rfl⟩
 refine Bl At (fun Bs => Bb At At (H7 (BS ⟨#[122, 101, 114, 111]⟩ []) q97) (.inl At)) ?_
 rintro _ ⟨q98, rfl⟩
 refine Bl At (fun Bs => Bb At At (DV 0) (.inl At)) ?_
 rintro _ ⟨q99, rfl⟩
 refine Bl At (fun Bs => C0 (CU [1] At (.inr At) (N6 b6 (BS ⟨#[90]⟩ []) q98 q99) ⟨_, _, At, At, At⟩ Aq (aw (we At) (aw (we At) (aw (we At) (Cv))))) ⟨(apply (.mk 3 0 ⟨#[69, 113]⟩ [FC.mk 0 []] []) [(BS ⟨#[90]⟩ []), q98, q99]), At⟩) ?_
 rintro _ ⟨q100, rfl⟩
 refine Bl At (fun Bs => C0 (BU (rows := BR ([(BS ⟨#[90]⟩ []), q100])) By B7 At At At At (Bz (CC _)) (C1 _)) ⟨[(BS ⟨#[90]⟩ []), q100], At, At⟩) ?_
 rintro _ ⟨l9, rfl, hl9⟩
 refine Bl At (fun Bs => Bb At At (IF l9 Ae Ae) (.inl At)) ?_
 rintro _ ⟨q101, rfl⟩
 refine Bl At (fun Bs => C0 (Bg At At (G3 ⟨#[108, 50]⟩ 0 q101) At) ⟨_, At⟩) ?_
 rintro _ ⟨q102, rfl⟩
 refine B3 At (fun Bs => Aw At) (B3 At (fun Bs => Aw At) (B3 At (fun Bs => A0 (i := Bs.length + 1) BO At (Bx At) Ak) (B3 At (fun Bs => Aw At) (Bl At (fun Bs => Bb At At (DV 0) (.inl At)) ?_))))
 rintro _ ⟨q103, rfl⟩
 refine Bl At (fun Bs => Bb At At (Kh q103) (.inl At)) ?_
 rintro _ ⟨q104, rfl⟩
 refine Bl At (fun Bs => Bb At At (DV 0) (.inl At)) ?_
 rintro _ ⟨q105, rfl⟩
 refine Bl At (fun Bs => Bb At At (H7 q104 q105) (.inl At)) ?_
 rintro _ ⟨q106, rfl⟩
 refine B3 At (fun Bs => A0 (i := Bs.length + 0) BO At (Bx At) Ak) (Bl At (fun Bs => C0 (CU [1] At (.inr At) (N6 b6 (BS ⟨#[90]⟩ []) q106 (BS ⟨#[122, 101, 114, 111]⟩ [])) ⟨_, _, At, At, At⟩ Aq (aw (we At) (aw (we At) (aw (we At) (Cv))))) ⟨(apply (.mk 3 0 ⟨#[69, 113]⟩ [FC.mk 0 []] []) [(BS ⟨#[90]⟩ []), q106, (BS ⟨#[122, 101, 114, 111]⟩ [])]), At⟩) ?_)
 rintro _ ⟨q107, rfl⟩
 refine Bl At (fun Bs => C0 (BU (rows := BR ([(BS ⟨#[90]⟩ []), q107])) By B7 At At At At (Bz (CC _)) (C1 _)) ⟨[(BS ⟨#[90]⟩ []), q107], At, At⟩) ?_
 rintro _ ⟨l10, rfl, hl10⟩
 refine Bl At (fun Bs => Bb At At (IF l10 Ae Ae) (.inl At)) ?_
 rintro _ ⟨q108, rfl⟩
 refine Bl At (fun Bs => C0 (Bg At At (G3 ⟨#[108, 51]⟩ 0 q108) At) ⟨_, At⟩) ?_
 rintro _ ⟨q109, rfl⟩
 refine B3 At (fun Bs => Aw At) (B3 At (fun Bs => Aw At) (B3 At (fun Bs => A0 (i := Bs.length + 1) BO At (Bx At) Ak) (B3 At (fun Bs => A0 (i := Bs.length + 1) BO At (Bx At) Ak) (B3 At (fun Bs => Aw At) (Bl At (fun Bs => Bb At At (DV 1) (.inl At)) ?_)))))
 rintro _ ⟨q110, rfl⟩
 refine Bl At (fun Bs => Bb At At (DV 0) (.inl At)) ?_
 rintro _ ⟨q111, rfl⟩
 refine Bl At (fun Bs => Bb At At (H7 q110 q111) (.inl At)) ?_
 rintro _ ⟨q112, rfl⟩
 refine Bl At (fun Bs => Bb At At (Kh q112) (.inl At)) ?_
 rintro _ ⟨q113, rfl⟩
 refine Bl At (fun Bs => Bb At At (DV 1) (.inl At)) ?_
 rintro _ ⟨q114, rfl⟩
 refine Bl At (fun Bs => Bb At At (Kh q114) (.inl At)) ?_
 rintro _ ⟨q115, rfl⟩
 refine Bl At (fun Bs => Bb At At (DV 0) (.inl At)) ?_
 rintro _ ⟨q116, rfl⟩
 refine Bl At (fun Bs => Bb At At (Kh q116) (.inl At)) ?_
 rintro _ ⟨q117, rfl⟩
 refine Bl At (fun Bs => Bb At At (H7 q115 q117) (.inl At)) ?_
 rintro _ ⟨q118, rfl⟩
 refine Bl At (fun Bs => C0 (CU [1] At (.inr At) (N6 b6 (BS ⟨#[90]⟩ []) q113 q118) ⟨_, _, At, At, At⟩ Aq (aw (we At) (aw (we At) (aw (we At) (Cv))))) ⟨(apply (.mk 3 0 ⟨#[69, 113]⟩ [FC.mk 0 []] []) [(BS ⟨#[90]⟩ []), q113, q118]), At⟩) ?_
 rintro _ ⟨q119, rfl⟩
 refine Bl At (fun Bs => C0 (BU (rows := BR ([(BS ⟨#[90]⟩ []), (BS ⟨#[90]⟩ []), q119])) By B7 At At At At (Bz (CC _)) (C1 _)) ⟨[(BS ⟨#[90]⟩ []), (BS ⟨#[90]⟩ []), q119], At, At⟩) ?_
 rintro _ ⟨l11, rfl, hl11⟩
 refine Bl At (fun Bs => Bb At At (IF l11 Ae Ae) (.inl At)) ?_
 rintro _ ⟨q120, rfl⟩
 refine Bl At (fun Bs => C0 (Bg At At (G3 ⟨#[108, 52]⟩ 0 q120) At) ⟨_, At⟩) ?_
 rintro _ ⟨q121, rfl⟩
 refine B3 At (fun Bs => Aw At) (B3 At (fun Bs => Aw At) (B3 At (fun Bs => A0 (i := Bs.length + 1) BO At (Bx At) Ak) (B3 At (fun Bs => Aw At) (Bl At (fun Bs => Bb At At (DV 0) (.inl At)) ?_))))
 rintro _ ⟨q122, rfl⟩
 refine Bl At (fun Bs => Bb At At (Kh q122) (.inl At)) ?_
 rintro _ ⟨q123, rfl⟩
 refine Bl At (fun Bs => Bb At At (Kh q123) (.inl At)) ?_
 rintro _ ⟨q124, rfl⟩
 refine Bl At (fun Bs => Bb At At (DV 0) (.inl At)) ?_
 rintro _ ⟨q125, rfl⟩
 refine Bl At (fun Bs => C0 (CU [1] At (.inr At) (N6 b6 (BS ⟨#[90]⟩ []) q124 q125) ⟨_, _, At, At, At⟩ Aq (aw (we At) (aw (we At) (aw (we At) (Cv))))) ⟨(apply (.mk 3 0 ⟨#[69, 113]⟩ [FC.mk 0 []] []) [(BS ⟨#[90]⟩ []), q124, q125]), At⟩) ?_
 rintro _ ⟨q126, rfl⟩
 refine Bl At (fun Bs => C0 (BU (rows := BR ([(BS ⟨#[90]⟩ []), q126])) By B7 At At At At (Bz (CC _)) (C1 _)) ⟨[(BS ⟨#[90]⟩ []), q126], At, At⟩) ?_
 rintro _ ⟨l12, rfl, hl12⟩
 refine Bl At (fun Bs => Bb At At (IF l12 Ae Ae) (.inl At)) ?_
 rintro _ ⟨q127, rfl⟩
 refine Bl At (fun Bs => C0 (Bg At At (G3 ⟨#[108, 53]⟩ 0 q127) At) ⟨_, At⟩) ?_
 rintro _ ⟨q128, rfl⟩
 refine B3 At (fun Bs => Aw At) (B3 At (fun Bs => Aw At) (B3 At (fun Bs => A0 (i := Bs.length + 0) BO At (Bx At) Ak) (Bl At (fun Bs => Bb At At (Kh (BS ⟨#[122, 101, 114, 111]⟩ [])) (.inl At)) ?_)))
 rintro _ ⟨q129, rfl⟩
 refine B3 At (fun Bs => A0 (i := Bs.length + 0) BO At (Bx At) Ak) (Bl At (fun Bs => C0 (CU [1] At (.inr At) (N6 b6 (BS ⟨#[90]⟩ []) q129 (BS ⟨#[122, 101, 114, 111]⟩ [])) ⟨_, _, At, At, At⟩ Aq (aw (we At) (aw (we At) (aw (we At) (Cv))))) ⟨(apply (.mk 3 0 ⟨#[69, 113]⟩ [FC.mk 0 []] []) [(BS ⟨#[90]⟩ []), q129, (BS ⟨#[122, 101, 114, 111]⟩ [])]), At⟩) ?_)
 rintro _ ⟨q130, rfl⟩
 refine U4 ?_
 change AL _ _ _ 232 ⟨260, _, [.box b7 ((Be (BS ⟨#[122, 101, 114, 111]⟩ [])).map .p), .box b6 ((Be (BS ⟨#[90]⟩ [])).map .p), .box b3 [.p (I 0), .p (.lst (List.map Ec [(DJ.mk 0 0), (DJ.mk 1 0)]))], .box b2 [.p (I 0), .p (.lst (List.map Ec [(DJ.mk 1 0)]))], .box b1 [.p (I 0), .p (.lst (List.map Ec [(DJ.mk 0 0)]))]], []⟩ _
 refine Au At At (Bg At At (G3 ⟨#[108, 54]⟩ 0 q130) At) (Au At At (BU (rows := List.map DZ ([(Dc ⟨#[69, 113]⟩ 1 q5), (Dc ⟨#[69, 113, 46, 114, 101, 102, 108]⟩ 1 q13), (Dc ⟨#[69, 113, 46, 115, 121, 109, 109]⟩ 1 q26), (Dc ⟨#[69, 113, 46, 116, 114, 97, 110, 115]⟩ 1 q44), (Dc ⟨#[69, 113, 46, 99, 111, 110, 103, 114]⟩ 2 q68), (Dc ⟨#[90]⟩ 0 q70), (Dc ⟨#[97, 100, 100]⟩ 0 q72), (Dc ⟨#[122, 101, 114, 111]⟩ 0 (BS ⟨#[90]⟩ [])), (Dc ⟨#[110, 101, 103]⟩ 0 q74), (Dc ⟨#[111, 110, 101]⟩ 0 (BS ⟨#[90]⟩ [])), (Dc ⟨#[108, 48]⟩ 0 q83), (Dc ⟨#[108, 49]⟩ 0 q96), (Dc ⟨#[108, 50]⟩ 0 q102), (Dc ⟨#[108, 51]⟩ 0 q109), (Dc ⟨#[108, 52]⟩ 0 q121), (Dc ⟨#[108, 53]⟩ 0 q128), (Dc ⟨#[108, 54]⟩ 0 q130)])) ZC TX At At At At (Bz (T5 _)) (ZP _)) (Au At At (Ay At) (Az At (Ax (Av (Au At At (Aw At) ?_))))))
 refine Au At At (Ay At) (Az At (BB (⟨At, _, _, ⟨_, _, At, At, At⟩, (List.nil_sublist _), ?_⟩)))
 all_goals exact ⟨⟨[(Dc ⟨#[69, 113]⟩ 1 q5), (Dc ⟨#[69, 113, 46, 114, 101, 102, 108]⟩ 1 q13), (Dc ⟨#[69, 113, 46, 115, 121, 109, 109]⟩ 1 q26), (Dc ⟨#[69, 113, 46, 116, 114, 97, 110, 115]⟩ 1 q44), (Dc ⟨#[69, 113, 46, 99, 111, 110, 103, 114]⟩ 2 q68), (Dc ⟨#[90]⟩ 0 q70), (Dc ⟨#[97, 100, 100]⟩ 0 q72), (Dc ⟨#[122, 101, 114, 111]⟩ 0 (BS ⟨#[90]⟩ [])), (Dc ⟨#[110, 101, 103]⟩ 0 q74), (Dc ⟨#[111, 110, 101]⟩ 0 (BS ⟨#[90]⟩ [])), (Dc ⟨#[108, 48]⟩ 0 q83), (Dc ⟨#[108, 49]⟩ 0 q96), (Dc ⟨#[108, 50]⟩ 0 q102), (Dc ⟨#[108, 51]⟩ 0 q109), (Dc ⟨#[108, 52]⟩ 0 q121), (Dc ⟨#[108, 53]⟩ 0 q128), (Dc ⟨#[108, 54]⟩ 0 q130)], rfl, rfl, by simp [Dc]⟩, rfl⟩
theorem e6 {ds : List Kb} (h : ds.map Kb.name = [⟨#[69, 113]⟩, ⟨#[69, 113, 46, 114, 101, 102, 108]⟩, ⟨#[69, 113, 46, 115, 121, 109, 109]⟩, ⟨#[69, 113, 46, 116, 114, 97, 110, 115]⟩, ⟨#[69, 113, 46, 99, 111, 110, 103, 114]⟩, ⟨#[90]⟩, ⟨#[97, 100, 100]⟩, ⟨#[122, 101, 114, 111]⟩, ⟨#[110, 101, 103]⟩, ⟨#[111, 110, 101]⟩, ⟨#[108, 48]⟩, ⟨#[108, 49]⟩, ⟨#[108, 50]⟩, ⟨#[108, 51]⟩, ⟨#[108, 52]⟩, ⟨#[108, 53]⟩, ⟨#[108, 54]⟩]) : QJ ds (P4 (BJ.mk ⟨#[90]⟩ ⟨#[97, 100, 100]⟩ ⟨#[122, 101, 114, 111]⟩ ⟨#[110, 101, 103]⟩ ⟨#[111, 110, 101]⟩ ⟨#[108, 101, 113]⟩ [⟨#[108, 48]⟩, ⟨#[108, 49]⟩, ⟨#[108, 50]⟩, ⟨#[108, 51]⟩, ⟨#[108, 52]⟩, ⟨#[108, 53]⟩, ⟨#[108, 54]⟩, ⟨#[108, 55]⟩, ⟨#[108, 56]⟩, ⟨#[108, 57]⟩, ⟨#[108, 49, 48]⟩, ⟨#[108, 49, 49]⟩, ⟨#[108, 49, 50]⟩, ⟨#[108, 49, 51]⟩])) = false := by
 have e (s : ByteArray) : P0 ds s = (ds.map Kb.name).any (fun n => decide (n = s)) := by simp [P0, List.any_map, Function.comp_def]
 unfold QJ
 rw [show (fun s => !P0 ds s) = (fun s => !(List.any [⟨#[69, 113]⟩, ⟨#[69, 113, 46, 114, 101, 102, 108]⟩, ⟨#[69, 113, 46, 115, 121, 109, 109]⟩, ⟨#[69, 113, 46, 116, 114, 97, 110, 115]⟩, ⟨#[69, 113, 46, 99, 111, 110, 103, 114]⟩, ⟨#[90]⟩, ⟨#[97, 100, 100]⟩, ⟨#[122, 101, 114, 111]⟩, ⟨#[110, 101, 103]⟩, ⟨#[111, 110, 101]⟩, ⟨#[108, 48]⟩, ⟨#[108, 49]⟩, ⟨#[108, 50]⟩, ⟨#[108, 51]⟩, ⟨#[108, 52]⟩, ⟨#[108, 53]⟩, ⟨#[108, 54]⟩] (fun n => decide (n = s)))) from funext fun s => by rw [e, h]]
 decide
theorem TD (GL : List (Nat × Obj)) (hG : Gl GL) (th : BJ) (t : Tm) (cs : List Int) (us : List Tm) (e : Int) (h1 : ER t) (h2 : size t < 1000000) (h3 : B5 th t = (cs, us, e)) : Bt Tryz.prog 19 [.agg ((EE th).map .p), TV t] [.glob GL] (DC (.tup [.p (.lst (List.map Cf cs)), .p (.lst (BR us)), .p (I e)]) [.glob GL]) := by
 have := Io GL hG th t h1 h2
 rw [h3] at this
 exact this
theorem K9 (a b : Tm) (h1 : Nd a) (h2 : a = b) : G5 Tryz.prog 12 [TV a, TV b] (.p (.bool true)) := by
 have := Kl (size a) a b (Nat.le_refl _) h1
 rwa [C3 h2] at this
theorem MN : ∀ (t : Tm) (vars params metas levels : Int), (Nd t) → (size t < 1000000) → G9 Tryz.prog 22 [.agg ((Be t).map .p), .p (I vars), .p (I params), .p (I metas), .p (I levels)] (fun v => ∃ e : Int, v = .p (I e) ∧ (e = 0 → My t ∧ Cn t)) := by
 intro t vars params metas levels h1 h2
 refine A8 Tryz.func22 At fU (n := 28) At At (Ax (Av (BM At At (Bh At) fun b5 => Au At At (Ay At) (Az At (Ax (Ax (Av (Au At At (A0 (i := 0) BO At At Ak) (Au At At (Aw At) (Au At At (Jq At At) ?_))))))))))
 refine Au At At (Aw At) (Au At At (Aw At) (Au At At (Aw At) (Ff At At (Bb At At (VM _ t 0 (max (vars : Int) (0 : Int)) params metas levels (Nat.le_refl _) h1 Ar Ag) (.inl At)) ?_)))
 rintro _ ⟨e, rfl, he⟩
 refine Au At At (Ay At) (Az At (Ax (Av (Au At At (Aw At) (Au At At (BA At At At) (Az At (A9 At (fun c => ?_) (fun c => ?_))))))))
 ·(try simp only [sd, se] at c)
  refine Ax (Av (Au At At (Aw At) (Au At At (Ay At) (Az At (BB (⟨At, _, [], Bu At, List.nil_sublist _, ⟨⟨_, At, ?_⟩, At⟩⟩))))))
  exact fun h => absurd h Ao
 ·(try simp only [sd, se] at c)
  refine BC (Ax (Ax (Av (Au At At (A0 (i := 0) BO At At Ak) (Au At At (Bg At At (X2 _ t (Nat.le_refl _) Ar) At) (Au At At (BA At At At) (Az At (A9 At (fun c1 => ?_) (fun c1 => ?_)))))))))
  ·(try simp only [sd, se] at c1)
   refine Ax (Av (Au At At (Ay At) (Az At (BB (⟨At, _, [], Bu At, List.nil_sublist _, ⟨⟨_, At, ?_⟩, At⟩⟩)))))
   exact fun h => absurd h Aq
  ·(try simp only [sd, se] at c1)
   refine BC (Ax (Ax (Av (Au At At (A0 (i := 0) BO At At Ak) (Au At At (Bg At At (WW _ t (Nat.le_refl _) Ar) At) (Au At At (BA At At At) (Az At (A9 At (fun c2 => ?_) (fun c2 => ?_)))))))))
   ·(try simp only [sd, se] at c2)
    refine Ax (Av (Au At At (Ay At) (Az At (BB (⟨At, _, [], Bu At, List.nil_sublist _, ⟨⟨_, At, ?_⟩, At⟩⟩)))))
    exact fun h => absurd h Aq
   ·(try simp only [sd, se] at c2)
    refine BC (Ax (Av (Au At At (Ay At) (Az At (BB (⟨At, _, [], Bu At, List.nil_sublist _, ⟨⟨_, At, ?_⟩, At⟩⟩))))))
    exact fun _ => (he Ar).2
theorem Ld : ∀ (l : List Tm), (Vt l) → (l.length < wide) → G9 Tryz.prog 10 [.p (.lst (BR l))] (fun v => ∃ b : Bool, v = .p (.bool b) ∧ (b = true → B4 l ≤ 200 ∧ ∀ t ∈ l, ER t ∧ size t ≤ 200)) := by
 intro l h1 h2
 have h2b := h2
 simp only [wide] at h2b
 refine A8 Tryz.func10 At dM (n := 18) At At (Ax (Av (Au At At (Ay At) (Az At (Ax (Ax (Av (Au At At (Aw At) (Ff At At (Bb At At (bK _ l (Nat.le_refl _) h1 h2) (.inl At)) ?_)))))))))
 rintro _ ⟨b, rfl, hb⟩
 refine Au At At (Cg At) (Az At (A9 At (fun c => ?_) (fun c => ?_)))
 ·(try simp only [sd, se] at c)
  refine Ax (Av (Au At At (Ay At) (Az At (BB (⟨At, _, [], Bu At, List.nil_sublist _, ⟨⟨_, At, ?_⟩, At⟩⟩)))))
  exact fun h => absurd h Aq
 ·(try simp only [sd, se] at c)
  have hf := hb (by simpa using c)
  refine BC (Ax (Ax (Av (Au At At (Aw At) (Au At At (Bp By At (Bo _)) (Au At At (Aw At) (Az At (Ba ?_))))))))
  refine CM (α := Nat) (fun i => ⟨18, mk [(8, .p (.lst (BR l))), (9, .p (I (l.length : Nat))), (10, .p (I (i : Int)))], [], []⟩) (fun i => l.length - i) (fun i => i ≤ l.length ∧ (∀ j, j < i → ∀ x, l[j]? = some x → My x ∧ Cn x)) 0 (⟨by omega, fun j h => by omega⟩) ?_ ?_
  ·exact B8 ⟨we At, we At, we At, trivial⟩ (leH (is := []) At (D4))
  rintro i hC
  try simp only at hC
  obtain ⟨hi, hC⟩ := hC
  refine Ax (Av (Au At At (BA At At At) (Az At (Ax (A9 At (fun c1 => ?_) (fun c1 => ?_))))))
  ·(try simp only [sd, se] at c1)
   refine BC (Ax (Ba (Ax (Av ?_))))
   obtain ⟨x, hx⟩ := BP (l := l) (i := i) Ar
   refine Au At At (BL By At At Ar (CH hx) (Bj _)) (Au At At (Bi BO At (Bj _)) (BM At At (BK B7 At) fun b4 => Au At At (A6 (i := 0) BO At At At Ak Ac (CF _)) (Az At (Ax (Av (Au At At (A0 (i := 0) BO At At Ak) (Ff At At (Bb At At (MN x 65536 8 65536 65536 (DY hf.nd hx) (by have := DE hx; have := hf.sz; omega)) (.inl At)) ?_)))))))
   rintro _ ⟨e, rfl, he⟩
   refine Au At At (BA At At At) (Az At (A9 At (fun c2 => ?_) (fun c2 => ?_)))
   ·(try simp only [sd, se] at c2)
    refine Ax (Av (Au At At (Ay At) (Az At (BB (⟨At, _, [], Bu At, List.nil_sublist _, ⟨⟨_, At, ?_⟩, At⟩⟩)))))
    exact fun h => absurd h Aq
   ·(try simp only [sd, se] at c2)
    refine BC (Av (Au At At (CS At At Ar Ar) (Au At At (Aw At) (Az At (⟨(i + 1), AZ, ⟨by omega, Dl hC hx (he Ar)⟩, B8 ⟨we rfl, we rfl, we rfl, trivial⟩ (leH (is := []) rfl (D4))⟩)))))
  ·(try simp only [sd, se] at c1)
   refine CL (Ax (Av (Au At At (Ay At) (Az At (BB (⟨At, _, [], Bu At, List.nil_sublist _, ⟨⟨_, At, ?_⟩, At⟩⟩))))))
   exact fun _ => ⟨hf.sz, fun t ht => by
    obtain ⟨j, hj⟩ := Fh ht
    obtain ⟨q1, q2⟩ := hC j (by have := (List.getElem?_eq_some_iff.1 hj).1; omega) t hj
    exact ⟨⟨q2, DY hf.nd hj, q1, M1 hf.fw ht⟩, by have := DE hj; have := hf.sz; omega⟩⟩
theorem SN : ∀ (th : BJ), (th.lemmas.length ≤ 8796093021952) → G9 Tryz.prog 9 [.agg ((EE th).map .p)] (fun v => ∃ b : Bool, v = .p (.bool b) ∧ (b = true → GP th ∧ th.lemmas.length ≤ 20 ∧ th.add.size ≤ 200 ∧ th.zero.size ≤ 200 ∧ th.neg.size ≤ 200)) := by
 intro th h1
 obtain ⟨BG, BD, BE, BF, BH, BI, thm⟩ := th
 simp only at h1
 have hll : ([BG, BD, BE, BF] ++ thm).length = thm.length + 4 := by simp
 refine A8 Tryz.func9 At gh (n := 30) At At (Ax (Av (BM At At (Bh At) fun b1 => Au At At (Ay At) (Az At (Ax (Ax (Av (Au At At (A1 DU At At) (Au At At (A2 (i := 0) FU At At At) (Au At At (A1 DU At At) ?_))))))))))
 refine Au At At (A2 (i := 0) FU At At At) (Au At At (A1 DU At At) (Au At At (A2 (i := 0) FU At At At) (Au At At (A1 DU At At) (Au At At (A2 (i := 0) FU At At At) (VY At At (G7 (rows := List.map Ch [BG, BD, BE, BF]) Kf aW At At At At At) fun b13 cp => Au At At (A1 DU At At) (Au At At (A2 (i := 1) Uh At At At) (Au At At (FI (i := 0) (rows' := List.map Ch thm) Kf Kf aW At At At At At At (MG _) (by simp only [List.length_map, List.length_cons, List.length_nil]; omega) (IE (f := Ch) [BG, BD, BE, BF] thm)) (Au At At (Bp Kf At (List.length_map _)) (Au At At (Aw At) (Az At ?_))))))))))
 refine Ba ?_
 refine CM (α := Nat) (fun i => ⟨30, mk [(1, .ptr b1 0), (16, .p (.lst (List.map Ch ([BG, BD, BE, BF] ++ thm)))), (17, .p (I (([BG, BD, BE, BF] ++ thm).length : Nat))), (18, .p (I (i : Int)))], [.box b1 [.p (.str BG), .p (.str BD), .p (.str BE), .p (.str BF), .p (.str BH), .p (.str BI), .p (.lst (List.map Ch thm))]], []⟩) (fun i => ([BG, BD, BE, BF] ++ thm).length - i) (fun i => i ≤ ([BG, BD, BE, BF] ++ thm).length ∧ (∀ j, j < i → ∀ x, ([BG, BD, BE, BF] ++ thm)[j]? = some x → x.size ≤ 100)) 0 (⟨by omega, fun j h => by omega⟩) ?_ ?_
 ·exact B8 ⟨we At, we At, we At, we At, trivial⟩ (leH (is := [0]) At (wl (oe At) (D4)))
 rintro i hC
 try simp only at hC
 obtain ⟨hi, hC⟩ := hC
 refine Ax (Av (Au At At (BA At At At) (Az At (Ax (A9 At (fun c => ?_) (fun c => ?_))))))
 ·(try simp only [sd, se] at c)
  refine BC (Ax (Ba (Ax (Av ?_))))
  obtain ⟨x, hx⟩ := BP (l := [BG, BD, BE, BF] ++ thm) (i := i) Ar
  refine Au At At (BL Kf At At Ar (Ni hx) (At)) (Au At At (CI FU At) (Au At At (Ay At) (Az At (Ax (Av (Au At At (Aw At) (Au At At (Gx Ys At) (Au At At (BA At At At) (Az At (A9 At (fun c1 => ?_) (fun c1 => ?_)))))))))))
  ·(try simp only [sd, se] at c1)
   refine Ax (Av (Au At At (Ay At) (Az At (BB (⟨At, _, [], Bu At, List.nil_sublist _, ⟨⟨_, At, ?_⟩, At⟩⟩)))))
   exact fun h => absurd h Aq
  ·(try simp only [sd, se] at c1)
   refine BC (Av (Au At At (CS At At Ar Ar) (Au At At (Aw At) (Az At (⟨(i + 1), AZ, ⟨by omega, Dl (p := fun _ (x : ByteArray) => x.size ≤ 100) hC hx Ar⟩, B8 ⟨we rfl, we rfl, we rfl, we rfl, trivial⟩ (leH (is := [0]) rfl (wl (oe rfl) (D4)))⟩)))))
 ·(try simp only [sd, se] at c)
  refine CL (Ax (Av (Au At At (A1 DU At At) (Au At At (A2 (i := 0) Uh At At At) (Au At At (Bp Kf At (List.length_map _)) (Au At At (BA At At At) (Au At At (Ay At) (Az At (BB (⟨At, _, [], Bu At, List.nil_sublist _, ⟨⟨_, At, ?_⟩, At⟩⟩))))))))))
  have hs0 : ∀ x ∈ [BG, BD, BE, BF] ++ thm, x.size ≤ 100 := fun x hx => by
   obtain ⟨j, hj⟩ := Fh hx
   exact hC j (by have := (List.getElem?_eq_some_iff.1 hj).1; omega) x hj
  have hs : ∀ x ∈ [BG, BD, BE, BF] ++ thm, x.size < EC := fun x hx => by have := hs0 x hx; simp only [EC]; omega
  have k1 := hs0 BD As
  have k2 := hs0 BE As
  have k3 := hs0 BF As
  exact fun hl => ⟨⟨hs _ As, hs _ As, hs _ As, hs _ As, fun s h => hs s (by simp [h])⟩, Int.ofNat_le.1 (by simpa using hl), by simp only; omega, by simp only; omega, by simp only; omega⟩
theorem bW {a b : List Tm} (hl : a.length = b.length) (h : ∀ j, j < a.length → ∀ x, a[j]? = some x → b[j]? = some x) : a = b := by
 refine List.ext_getElem? fun j => ?_
 rcases Nat.lt_or_ge j a.length with q | q
 ·rw [List.getElem?_eq_getElem q]
  exact (h j q _ (List.getElem?_eq_getElem q)).symm
 ·rw [List.getElem?_eq_none q, List.getElem?_eq_none Ar]
theorem Yk : ∀ (a b : List Tm), (Ic a) → (a.length < 1000000) → G5 Tryz.prog 55 [.p (.lst (BR a)), .p (.lst (BR b)), .p (.fn 12)] (.p (.bool (Mx a b))) := by
 intro a b h1 h2
 refine A8 Tryz.func55 At fN (n := 32) At At (Ax (Av (Au At At (Ay At) (Az At (Ax (Ax (Av (Au At At (Aw At) (Au At At (Bp By At (Bo _)) (Au At At (Aw At) (Au At At (Bp By At (Bo _)) ?_)))))))))))
 refine Au At At (BA At At At) (Az At (A9 At (fun c => ?_) (fun c => ?_)))
 ·(try simp only [sd, se] at c)
  refine Ax (Av (Au At At (Ay At) (Az At (BB (⟨At, _, _, ⟨_, _, At, At, At⟩, (List.nil_sublist _), ?_⟩)))))
  all_goals exact ⟨by show (.p (.bool false) : AV) = _; rw [DK (fun h => by subst h; simp at c)], rfl⟩
 ·(try simp only [sd, se] at c)
  refine BC (Ax (Ax (Av (Au At At (Aw At) (Au At At (Bp By At (Bo _)) (Au At At (Aw At) (Az At (Ba ?_))))))))
  refine CM (α := Nat) (fun i => ⟨32, mk [(1, .p (.lst (BR b))), (2, .p (.fn 12)), (15, .p (.lst (BR a))), (16, .p (I (a.length : Nat))), (17, .p (I (i : Int)))], [], []⟩) (fun i => a.length - i) (fun i => i ≤ a.length ∧ (∀ j, j < i → ∀ x, a[j]? = some x → b[j]? = some x)) 0 (⟨by omega, fun j h => by omega⟩) ?_ ?_
  ·exact B8 ⟨we At, we At, we At, we At, we At, trivial⟩ (leH (is := []) At (D4))
  rintro i hC
  try simp only at hC
  obtain ⟨hi, hC⟩ := hC
  refine Ax (Av (Au At At (BA At At At) (Az At (Ax (A9 At (fun c1 => ?_) (fun c1 => ?_))))))
  ·(try simp only [sd, se] at c1)
   refine BC (Ax (Ba (Ax (Av (Au At At (Aw At) ?_)))))
   obtain ⟨x, hx⟩ := BP (l := a) (i := i) Ar
   refine Au At At (BL By At At Ar (CH hx) (Bj _)) (Au At At (Bi BO At (Bj _)) (BM At At (BK B7 At) fun b8 => Au At At (Ay At) (Au At At (A6 (i := 0) BO At At At Ak Ac (CF _)) (Az At (Ax (Av (Au At At (Aw At) (Au At At (Aw At) ?_))))))))
   obtain ⟨x1, hx1⟩ := BP (l := b) (i := i) Ar
   refine Au At At (BL By At At Ar (CH hx1) (Bj _)) (Au At At (Bi BO At (Bj _)) (BM At At (BK B7 At) fun b9 => Au At At (A6 (i := 0) BO At At At Ak Ac (CF _)) (Az At (Ax (Av (Au At At (Aw At) (Au At At (A0 (i := 1) BO At At Ak) (Au At At (A0 (i := 0) BO At At Ak) (Au At At (Bg At At (Kl _ x x1 (Nat.le_refl _) (DY h1 hx)) At) (Au At At (Cg At) ?_))))))))))
   refine Az At (A9 At (fun c2 => ?_) (fun c2 => ?_))
   ·(try simp only [sd, se] at c2)
    refine Ax (Av (Au At At (Ay At) (Az At (BB (⟨At, _, _, ⟨_, _, At, At, At⟩, (List.nil_sublist _), ?_⟩)))))
    all_goals exact ⟨by show (.p (.bool false) : AV) = _; rw [DK (fun h => by subst h; rw [hx] at hx1; injection hx1 with e; subst e; simp [C3] at c2)], rfl⟩
   ·(try simp only [sd, se] at c2)
    refine BC (Av (Au At At (CS At At Ar Ar) (Au At At (Aw At) (Az At (⟨(i + 1), AZ, ⟨by omega, Dl (p := fun j x => b[j]? = some x) hC hx (by have e : x = x1 := F9.1 (by simpa using c2); rw [e]; exact hx1)⟩, B8 ⟨we rfl, we rfl, we rfl, we rfl, we rfl, trivial⟩ (leH (is := []) rfl (D4))⟩)))))
  ·(try simp only [sd, se] at c1)
   refine CL (Ax (Av (Au At At (Ay At) (Az At (BB (⟨At, _, _, ⟨_, _, At, At, At⟩, (List.nil_sublist _), ?_⟩))))))
   all_goals exact ⟨by show (.p (.bool true) : AV) = _; rw [C3 (bW Ar fun j hj x hx => hC j Ar x hx)], rfl⟩
theorem Vb : ∀ (a b : List Tm), (Ic a) → (a.length < 1000000) → G5 Tryz.prog 31 [.p (.lst (BR a)), .p (.lst (BR b))] (.p (.bool (Mx a b))) := by
 intro a b h1 h2
 refine A8 Tryz.func31 At eS (n := 8) At At (Ax (Av (Au At At (Ay At) (Az At (Ax (Av (Au At At (Aw At) (Au At At (Aw At) (Au At At (Bg At At (Yk a b h1 h2) At) (Au At At (Ay At) (Az At ?_)))))))))))
 refine BB (⟨At, _, _, ⟨_, _, At, At, At⟩, (List.nil_sublist _), ?_⟩)
 all_goals exact ⟨rfl, rfl⟩
end Go.Proofs.YtapmjpihennhaaaGreatDoor
namespace Go.Abs
def TW (P : Program) (ops : Array Oper) (H₀ : List BT) : Nat → (Nat → AV) → List BT → List AV → ((Nat → AV) → List BT → Prop) → Prop
 | _, τ, H, [], K => K τ H
 | k, τ, H, v :: r, K => ∃ o H', ops[k]? = some o ∧ o.guard = none ∧ Dg P o (ev τ) (H ++ H₀) v (H' ++ H₀) ∧ TW P ops H₀ (k + 1) (put τ o.dst v) H' r K
def ZY (fl : List Nat) (base : List Ez) : Bool := fl.all fun j => match base.getD j .skip with | .val _ => true | _ => false
def YE (ops : Array Oper) (e : Nat) (fl : List Nat) : Bool := (List.range ops.size).all fun i => Nat.blt i e || (List.range i).all fun j => (Nat.blt j e && fl.contains j) || Mf ops j i
theorem M5 {ops : Array Oper} {e : Nat} {fl : List Nat} (h : YE ops e fl = true) {i j : Nat} (hi : e ≤ i) (hs : i < ops.size) (hj : j < i) (hf : ¬ (j < e ∧ j ∈ fl)) : Pred ops j i := by
 have := List.all_eq_true.1 h i (by simpa using hs)
 simp only [Bool.or_eq_true] at this
 rcases this with h1 | h1
 ·rw [Nat.blt_eq] at h1; omega
 ·have h2 := List.all_eq_true.1 h1 j (by simpa using hj)
  simp only [Bool.or_eq_true, Bool.and_eq_true, Nat.blt_eq] at h2
  rcases h2 with h2 | h2
  ·exact absurd ⟨h2.1, by simpa using h2.2⟩ hf
  ·exact EK h2
theorem EV.facts4 {P : Program} {ops : Array Oper} {H₀ : List BT} {τ : Nat → AV} {base fb : List Ez} (hf : ∀ j, j < base.length → j < fb.length ∧ fb.getD j .skip = base.getD j .skip) (β : Nat → BV) : ∀ (r : List Ez) (k : Nat) (τk : Nat → AV) (K : (Nat → AV) → List BT → Prop), base.drop k = r → k + r.length = base.length → τk = τS ops (Ga β 0 fb) τ k → EV P ops H₀ k τk r K → (∀ j, k ≤ j → j < base.length → (base.getD j .skip).ok (β j)) →
  (∀ j, k ≤ j → j < base.length → ∃ o, ops[j]? = some o ∧ Uu P ops H₀ o (τS ops (Ga β 0 fb) τ j) (base.getD j .skip)) ∧ K (τS ops (Ga β 0 fb) τ base.length) (XP β k r)
 | [], k, τk, K, hd, hk, ht, h, hβ => by
  simp only [List.length_nil, Nat.add_zero] at hk
  subst hk
  exact ⟨fun j h1 h2 => by omega, by rw [← ht]; exact h⟩
 | e :: r, k, τk, K, hd, hk, ht, h, hβ => by
  obtain ⟨o, ho, hok, hn⟩ := h
  simp only [List.length_cons] at hk
  have hb : base.getD k .skip = e := by
   have : (base.drop k)[0]? = some e := by rw [hd]; rfl
   rw [List.getElem?_drop] at this
   rw [List.getD_eq_getElem?_getD, show k = k + 0 by omega, this]; rfl
  have hd2 : base.drop (k + 1) = r := by
   rw [← List.drop_drop, hd]; rfl
  obtain ⟨f1, f2⟩ := hf k Ar
  obtain ⟨h1, h2⟩ := EV.facts4 (τ := τ) (base := base) hf β r (k + 1) _ _ hd2 Ar (by simp only [τS, ho, Option.bind_some]; rw [Fb β f1, f2, hb, ← ht]) (hn (β k) (by have := hβ k (Nat.le_refl _) Ar; rwa [hb] at this)) (fun j h1 h2 => hβ j Ar h2)
  refine ⟨fun j hj hl => ?_, h2⟩
  by_cases e2 : j = k
  ·subst e2; exact ⟨o, ho, by rw [hb, ← ht]; exact hok⟩
  ·exact h1 j Ar hl
theorem TW.facts {P : Program} {ops : Array Oper} {H₀ : List BT} {τ : Nat → AV} {fb : List Ez} (β : Nat → BV) : ∀ (r : List AV) (k : Nat) (τk : Nat → AV) (H : List BT) (K : (Nat → AV) → List BT → Prop), (∀ m, m < r.length → k + m < fb.length ∧ fb.getD (k + m) .skip = .val (r.getD m (.p .any))) → τk = τS ops (Ga β 0 fb) τ k → TW P ops H₀ k τk H r K →
  ∃ Hm : Nat → List BT, Hm k = H ∧ (∀ j, k ≤ j → j < k + r.length → ∃ o, ops[j]? = some o ∧ o.guard = none ∧ Dg P o (ev (τS ops (Ga β 0 fb) τ j)) (Hm j ++ H₀) ((fb.getD j .skip).v (β j)) (Hm (j + 1) ++ H₀)) ∧ K (τS ops (Ga β 0 fb) τ (k + r.length)) (Hm (k + r.length))
 | [], k, τk, H, K, hf, ht, h => ⟨fun _ => H, rfl, fun j h1 h2 => by simp at h2; omega, by simp only [List.length_nil, Nat.add_zero]; rw [← ht]; exact h⟩
 | v :: r, k, τk, H, K, hf, ht, h => by
  obtain ⟨o, H', ho, hg, hop, hn⟩ := h
  obtain ⟨f1, f2⟩ := hf 0 As
  simp only [Nat.add_zero, List.getD_cons_zero] at f1 f2
  obtain ⟨Hm, h1, h2, h3⟩ := TW.facts (τ := τ) (fb := fb) β r (k + 1) _ H' K (fun m hm => by have := hf (m + 1) (by simpa using hm); rw [show k + (m + 1) = k + 1 + m by omega] at this; simpa using this) (by simp only [τS, ho, Option.bind_some]; rw [Fb β f1, f2, ← ht]; rfl) hn
  refine ⟨fun j => if j = k then H else Hm j, by simp, fun j hj hl => ?_, ?_⟩
  ·by_cases e : j = k
   ·subst e
    refine ⟨o, ho, hg, ?_⟩
    rw [f2, ← ht]
    show Dg P o (ev τk) ((if j = j then H else Hm j) ++ H₀) v ((if j + 1 = j then H else Hm (j + 1)) ++ H₀)
    rw [if_pos rfl, if_neg Ar, h1]
    exact hop
   ·show ∃ o, ops[j]? = some o ∧ o.guard = none ∧ Dg P o _ ((if j = k then H else Hm j) ++ H₀) _ ((if j + 1 = k then H else Hm (j + 1)) ++ H₀)
    rw [if_neg e, if_neg Ar]
    exact h2 j Ar (by simp only [List.length_cons] at hl; omega)
  ·show K _ (if k + (v :: r).length = k then H else Hm (k + (v :: r).length))
   simp only [List.length_cons]
   rw [if_neg Ar, show k + (r.length + 1) = k + 1 + r.length by omega]
   exact h3
theorem WD {β : Nat → BV} {l : Nat → Bool} : ∀ (r : List Ez) (k : Nat), (∀ j, j < r.length → l (k + j) = true ∨ ∃ v, r.getD j .skip = .val v) → QH β l k r = XP β k r
 | [], k, h => rfl
 | e :: r, k, h => by
  simp only [QH, XP]
  rw [WD r (k + 1) fun j hj => by have := h (j + 1) (by simpa using hj); rw [show k + (j + 1) = k + 1 + j by omega] at this; simpa using this]
  rcases h 0 As with h1 | ⟨v, h1⟩
  ·rw [Nat.add_zero] at h1; rw [if_pos h1]
  ·simp only [List.getD_cons_zero] at h1
   subst h1
   split <;> rfl
theorem Wl {P : Program} {r : Option Nat} {ops : Array Oper} {id n : Nat} {τ : Nat → AV} {H : List BT} {D : List EB} {Q : Cy → B2 → Prop} (base : List Ez) (tl : List AV) (fl : List Nat) (hm : P.follows .mixedOrders = true)
  (he : base.length + tl.length = ops.size) (chk : N9 ops n [] = true) (late : YE ops base.length fl = true) (hfl : ZY fl base = true) (hne : Wa base)
  (h : EV P ops H 0 τ base (fun τ' Hs => TW P ops H base.length τ' Hs tl (fun τ'' Bs => Q .normal ⟨n, τ'', Bs ++ H, D⟩))) : Ib P r (.region id ops true) ⟨n, τ, H, D⟩ Q := by
 intro F₀ a₀ w₀ hs₀
 refine wpIn_region_any hm ?_
 have same : C7 F₀ w₀ F₀ { w₀ with drawn := w₀.drawn + 1 } := ⟨Nat.le_refl _, fun _ _ _ => rfl, fun _ h _ => h⟩
 have t₀ : Trans F₀ H w₀ F₀ H { w₀ with drawn := w₀.drawn + 1 } :=
  ⟨Nat.le_refl _, fun _ _ _ => rfl, fun _ h _ => h, fun _ h => .inl h, fun o ho b hb => .inl ⟨o, ho, hb⟩, rfl, rfl, rfl⟩
 have hs₁ : DP F₀ ⟨n, τ, H, D⟩ a₀ { w₀ with drawn := w₀.drawn + 1 } :=
  ⟨hs₀.size, fun t => CR.mono same _ _ (hs₀.tmp t), hs₀.heap.stable' same (fun _ h => h) (fun _ _ _ _ => rfl) hs₀.heap.bd, E7.mono same _ _ hs₀.defs⟩
 obtain ⟨hdst, c0, c1, c2, _⟩ := J5 chk
 obtain ⟨fb, hfb⟩ : ∃ fb, fb = base ++ tl.map Ez.val := ⟨_, rfl⟩
 have hfl1 : fb.length = ops.size := by rw [hfb]; simp; omega
 have hf1 : ∀ j, j < base.length → j < fb.length ∧ fb.getD j .skip = base.getD j .skip := fun j hj => ⟨by omega, by
  rw [hfb, List.getD_eq_getElem?_getD, List.getD_eq_getElem?_getD, List.getElem?_append_left hj]⟩
 have hf2 : ∀ m, m < tl.length → base.length + m < fb.length ∧ fb.getD (base.length + m) .skip = .val (tl.getD m (.p .any)) := fun m hm => ⟨by omega, by
  rw [hfb, List.getD_eq_getElem?_getD, List.getElem?_append_right Ar, Nat.add_sub_cancel_left, List.getElem?_map, List.getElem?_eq_getElem hm]
  simp [List.getElem?_eq_getElem hm]⟩
 have hd : ∀ β, MU P ops n (fun _ => False) τ H (Ga β 0 fb) := fun β =>
  ⟨hdst, fun _ _ _ h => h.elim, c0, c1, c2, fun i k _ _ h _ => (by rw [S3] at h; cases h), fun i e ob v _ _ _ h _ _ => absurd h (QZ β fb 0 i ob v)⟩
 have flv : ∀ j, j ∈ fl → ∃ v, base.getD j .skip = .val v := fun j hj => by
  have := List.all_eq_true.1 hfl j hj
  cases hq : base.getD j .skip with
  | val v => exact ⟨v, rfl⟩
  | _ => simp only [hq] at this; cases this
 have hE : ∀ β, (∀ j, j < base.length → (base.getD j .skip).ok (β j)) → (∀ j, j < base.length → ∃ o, ops[j]? = some o ∧ Uu P ops H o (τS ops (Ga β 0 fb) τ j) (base.getD j .skip)) ∧
   ∃ Hm : Nat → List BT, Hm base.length = XP β 0 base ∧ (∀ j, base.length ≤ j → j < ops.size → ∃ o, ops[j]? = some o ∧ o.guard = none ∧ Dg P o (ev (τS ops (Ga β 0 fb) τ j)) (Hm j ++ H) ((fb.getD j .skip).v (β j)) (Hm (j + 1) ++ H)) ∧ Q .normal ⟨n, τS ops (Ga β 0 fb) τ ops.size, Hm ops.size ++ H, D⟩ := fun β hβ => by
  obtain ⟨h1, h2⟩ := EV.facts4 (base := base) (fb := fb) hf1 β base 0 τ _ As As rfl h (fun j _ h => hβ j h)
  obtain ⟨Hm, g1, g2, g3⟩ := TW.facts (fb := fb) β tl base.length _ _ _ hf2 rfl h2
  rw [he] at g2 g3
  exact ⟨fun j hj => h1 j (Nat.zero_le _) hj, Hm, g1, g2, g3⟩
 obtain ⟨I, hI0⟩ : ∃ I : Array Bool → Act → World → Prop, I = fun l a w => l.size = ops.size ∧ ∃ β τ' F Hb, (∀ j, j < base.length → (base.getD j .skip).ok (β j)) ∧ Down ops (fun i => l.getD i false = true) ∧ FM ops (Ga β 0 fb) τ (fun i => l.getD i false = true) τ' ∧ DP F ⟨n, τ', Hb ++ H, D⟩ a w ∧ Trans F₀ H w₀ F (Hb ++ H) w ∧
  (((∀ k, base.length ≤ k → l.getD k false = false) ∧ Hb.Perm (QH β (fun k => l.getD k false) 0 base)) ∨
   (∃ (m : Nat) (Hm : Nat → List BT), (∀ j, base.length ≤ j → j < ops.size → ∃ o, ops[j]? = some o ∧ o.guard = none ∧ Dg P o (ev (τS ops (Ga β 0 fb) τ j)) (Hm j ++ H) ((fb.getD j .skip).v (β j)) (Hm (j + 1) ++ H)) ∧ Q .normal ⟨n, τS ops (Ga β 0 fb) τ ops.size, Hm ops.size ++ H, D⟩ ∧ base.length ≤ m ∧ m ≤ ops.size ∧ (∀ k, base.length ≤ k → (l.getD k false = true ↔ k < m)) ∧ (∀ k, k < base.length → k ∉ fl → l.getD k false = true) ∧ Hb = Hm m)) := ⟨_, rfl⟩
 refine J3 (I := I) (fun l a w h => by rw [hI0] at h; exact h.1) ?_ ?_ _ _ _ _ ?_ ?_
 ·intro l a w hI i hi
  rw [hI0] at hI
  obtain ⟨hsz, β, τ', F, Hb, hβ, hdown, hτ, hs, ht, hI⟩ := hI
  obtain ⟨hun, o, ho, hall⟩ := mem_ready.1 hi
  have hlt : i < ops.size := by
   rcases Nat.lt_or_ge i ops.size with h | h
   ·exact h
   ·simp [Array.getElem?_eq_none h] at ho
  have hil : i < l.size := by omega
  have hnot : l.getD i false = false := by
   have : l[i] = false := by simpa [hil] using hun
   simp [hil, this]
  have hr : ∀ j ∈ D6 o, l.getD j false = true := by
   intro j hj
   simp only [D6, List.mem_map, List.mem_filter] at hj
   obtain ⟨e, ⟨he, hb⟩, rfl⟩ := hj
   exact hall e (by simpa using he) hb
  have hset : ∀ k, (l.setIfInBounds i true).getD k false = true ↔ (l.getD k false = true ∨ k = i) := by
   intro k
   by_cases hk : k = i
   ·subst hk; simp [hil]
   ·simp [Array.getElem?_setIfInBounds_ne (Ne.symm hk), hk]
  have hset2 : ∀ k, (l.setIfInBounds i true).getD k false = (l.getD k false || k == i) := by
   intro k
   by_cases hk : k = i
   ·subst hk; simp [hil]
   ·simp [Array.getElem?_setIfInBounds_ne (Ne.symm hk), hk]
  have hsz' : (l.setIfInBounds i true).size = ops.size := by simp [hsz]
  have hdown' : Down ops (fun k => (l.setIfInBounds i true).getD k false = true) := by
   intro k o' j ho' hk hj
   rcases (hset k).1 hk with h | h
   ·exact (hset j).2 (.inl (hdown k o' j ho' h hj))
   ·subst h; rw [ho] at ho'; injection ho' with ho'; subst ho'; exact (hset j).2 (.inl (hr j hj))
  have hlook : ∀ t ∈ looks ops o, τ' t = τS ops (Ga β 0 fb) τ i t := fun t ht => J2 (hd β) hdown hτ ho (by rw [hnot]; decide) hr ht
  have hops : ∀ x ∈ o.op.operands.toList, ev τ' x = ev (τS ops (Ga β 0 fb) τ i) x := by
   intro x hx
   cases x with
   | tmp t => exact hlook t (List.mem_append_left _ (List.mem_filterMap.2 ⟨.tmp t, hx, rfl⟩))
   | _ => rfl
  have hguard : ∀ j want d, o.guard = some (j, want) → (ops[j]?).bind (·.dst) = some d → τ' d = τS ops (Ga β 0 fb) τ i d := by
   intro j want d hg hj
   refine hlook d (List.mem_append_right _ ?_)
   simp [hg, hj]
  have hpred : ∀ {a}, Pred ops a i → l.getD a false = true := by
   have : ∀ {a b}, Pred ops a b → b = i → l.getD a false = true := by
    intro a b hab
    induction hab with
    | base ho' hj => intro e; subst e; rw [ho] at ho'; injection ho' with ho'; subst ho'; exact hr _ hj
    | trans p1 _ _ ih2 => intro e; exact hdown.pred p1 (ih2 e)
   exact fun {a} h => this h At
  have wants : DH ops ⟨0, τS ops (Ga β 0 fb) τ i, [], []⟩ o → DH ops ⟨n, τ', Hb ++ H, D⟩ o := by
   intro h
   unfold DH at *
   cases hg : o.guard with
   | none => simp [hg]
   | some jw =>
    obtain ⟨j, want⟩ := jw
    simp only [hg] at h ⊢
    obtain ⟨d, h1, h2⟩ := h
    exact ⟨d, h1, by rw [← h2]; exact hguard j want d hg h1⟩
  -- one operation
  have exec : ∀ {Hx : List BT} {C : AV → List BT → Prop}, DP F ⟨n, τ', Hx, D⟩ a w → DH ops ⟨n, τ', Hx, D⟩ o → DB P o (ev (τS ops (Ga β 0 fb) τ i)) Hx (fun r H' => match r with | .val v => C v H' | .panic _ => False) → (∀ v H' a' w' F', C v H' → DP F' ⟨n, put τ' o.dst v, H', D⟩ a' w' → Trans F Hx w F' H' w' → I (l.setIfInBounds i true) a' w') → wpOpIn (W r) 0 P ops (post F₀ H w₀ Q) i (fun a' w' => I (l.setIfInBounds i true) a' w') a w := by
   intro Hx C hs hwant hop close
   unfold wpOpIn
   simp only [ho, HS hs hwant, if_true]
   have hw := hop r F _ a w hs rfl (fun x hx => hops x hx) (fun t ht => hdst i o t ho ht)
   unfold Oper.wpIn at *
   refine ⟨hw.1, ?_⟩
   replace hw := hw.2
   generalize (o.semAt (W r).round a.eval).run P w = rr at *
   cases rr with
   | ok nx w' =>
    cases nx <;> simp only [Oper.uponIn] at hw ⊢
    case value u => obtain ⟨v', H'', F', h1, h3, h4⟩ := hw; exact close _ _ _ _ _ h1 h3 h4
    case skip => obtain ⟨v', H'', F', h1, h3, h4⟩ := hw; exact close _ _ _ _ _ h1 h3 h4
    case defer d => obtain ⟨v', H'', F', h1, h3, h4⟩ := hw; exact close _ _ _ _ _ h1 h3 h4
    case enter f args =>
     refine ⟨hw.1, hw.2.mono fun e w'' he => ?_⟩
     cases e with
     | returned u => obtain ⟨v', H'', F', h1, h3, h4⟩ := he; exact close _ _ _ _ _ h1 h3 h4
     | panicked c => obtain ⟨_, _, _, _, h, _⟩ := he; exact h.elim
     | outgrown => obtain ⟨_, _, _, _, _, _, h, _⟩ := he; exact h.elim
    case row row args => exact ⟨hw.1, hw.2.mono fun u w'' h => by obtain ⟨v', H'', F', h1, h3, h4⟩ := h; exact close _ _ _ _ _ h1 h3 h4⟩
    case round l' f tmps assign body =>
     refine ⟨hw.1, hw.2.mono fun e w'' he => ?_⟩
     cases e with
     | returned u => obtain ⟨v', H'', F', h1, h3, h4⟩ := he; exact close _ _ _ _ _ h1 h3 h4
     | panicked c => obtain ⟨_, _, _, _, h, _⟩ := he; exact h.elim
     | outgrown => obtain ⟨_, _, _, _, _, _, h, _⟩ := he; exact h.elim
   | halt x w' =>
    cases x <;> simp only [Oper.uponIn] at hw ⊢
    case panic u => obtain ⟨_, _, _, _, h, _⟩ := hw; exact h.elim
  have hτput : ∀ {v : AV}, v = ((Ga β 0 fb).getD i .skip).val → FM ops (Ga β 0 fb) τ (fun k => (l.setIfInBounds i true).getD k false = true) (put τ' o.dst v) := by
   intro v hv
   have hτ3 := hτ.put (hd β) ho
   rw [← hv] at hτ3
   intro t
   exact ⟨fun k o' a1 a2 a3 => (hτ3 t).1 k o' a1 a2 ((hset k).1 a3), fun hn => (hτ3 t).2 fun k o' a1 a2 a3 => hn k o' a1 a2 ((hset k).2 a3)⟩
  -- a tail operation
  have goTail : ∀ Hm : Nat → List BT, (∀ j, base.length ≤ j → j < ops.size → ∃ o, ops[j]? = some o ∧ o.guard = none ∧ Dg P o (ev (τS ops (Ga β 0 fb) τ j)) (Hm j ++ H) ((fb.getD j .skip).v (β j)) (Hm (j + 1) ++ H)) → Q .normal ⟨n, τS ops (Ga β 0 fb) τ ops.size, Hm ops.size ++ H, D⟩ → base.length ≤ i → (∀ k, base.length ≤ k → (l.getD k false = true ↔ k < i)) → (∀ k, k < base.length → k ∉ fl → l.getD k false = true) → DP F ⟨n, τ', Hm i ++ H, D⟩ a w → Trans F₀ H w₀ F (Hm i ++ H) w → wpOpIn (W r) 0 P ops (post F₀ H w₀ Q) i (fun a' w' => I (l.setIfInBounds i true) a' w') a w := by
   intro Hm g2 g3 hbi hk1 hk2 hs ht
   obtain ⟨o', ho', hg, hop⟩ := g2 i hbi hlt
   rw [ho] at ho'; injection ho' with ho'; subst ho'
   refine exec (C := fun v H' => v = (fb.getD i .skip).v (β i) ∧ H' = Hm (i + 1) ++ H) hs (by unfold DH; rw [hg]; trivial) (DB.mono hop (by
    intro r H' hR
    cases r with
    | val v' => exact hR
    | panic v' => exact hR.elim)) ?_
   rintro v H' a' w' F' ⟨hv, rfl⟩ h3 h4
   rw [hI0]
   refine ⟨hsz', β, _, F', Hm (i + 1), hβ, hdown', hτput (by rw [hv, Fb β Ar]), h3, ht.trans hs₀.heap.bd h4, .inr ⟨i + 1, Hm, g2, g3, by omega, by omega, fun k hk => ?_, fun k h1 h2 => (hset k).2 (.inl (hk2 k h1 h2)), rfl⟩⟩
   rw [hset k, hk1 k hk]; omega
  rcases hI with ⟨hno, hp⟩ | ⟨m, Hm, g2, g3, hm1, hm2, hk1, hk2, rfl⟩
  ·rcases Nat.lt_or_ge i base.length with hib | hib
   ·-- of the first part
    obtain ⟨o', ho', hok⟩ := (hE β hβ).1 i hib
    rw [ho] at ho'; injection ho' with ho'; subst ho'
    have hno' : ∀ k, base.length ≤ k → (l.setIfInBounds i true).getD k false = false := by
     intro k hk
     rw [hset2 k, hno k hk]
     simp; omega
    generalize hbe : base.getD i .skip = e at hok
    have close : ∀ {a' w' F' b H'}, e.ok b → H' = e.box b ++ (Hb ++ H) → DP F' ⟨n, put τ' o.dst (e.v b), H', D⟩ a' w' → Trans F (Hb ++ H) w F' H' w' → I (l.setIfInBounds i true) a' w' := by
     intro a' w' F' b H' hb0 hH h3 h4
     subst hH
     rw [hI0]
     have hspn : ∀ k, k < fb.length → ((Ga (fun j => if j = i then b else β j) 0 fb).getD k .skip).val = (fb.getD k .skip).v (if k = i then b else β k) := fun k hk => Fb _ hk
     refine ⟨hsz', fun j => if j = i then b else β j, put τ' o.dst (e.v b), F', e.box b ++ Hb, (fun j hj => by
      by_cases e3 : j = i
      ·subst e3; simp only [if_true]; rw [hbe]; exact hb0
      ·simp only [if_neg e3]; exact hβ j hj), hdown', ?_, by rw [List.append_assoc]; exact h3, by rw [List.append_assoc]; exact ht.trans hs₀.heap.bd h4, .inl ⟨hno', ?_⟩⟩
     ·have hτ2 : FM ops (Ga (fun j => if j = i then b else β j) 0 fb) τ (fun k => l.getD k false = true) τ' := by
       intro t
       refine ⟨fun k o' a1 a2 a3 => ?_, (hτ t).2⟩
       have a4 : l.getD k false = true := a3
       have hki : k ≠ i := fun e => by subst e; rw [hnot] at a4; cases a4
       rw [(hτ t).1 k o' a1 a2 a3]
       rcases Nat.lt_or_ge k fb.length with hk | hk
       ·rw [Fb _ hk, Fb _ hk, if_neg hki]
       ·rw [M4 _ hk, M4 _ hk]
      have hτ3 := hτ2.put (hd _) ho
      rw [Fb _ Ar, if_pos rfl, (hf1 i hib).2, hbe] at hτ3
      intro t
      exact ⟨fun k o' a1 a2 a3 => (hτ3 t).1 k o' a1 a2 ((hset k).1 a3), fun hn => (hτ3 t).2 fun k o' a1 a2 a3 => hn k o' a1 a2 ((hset k).2 a3)⟩
     ·have h1 := Pg (β := β) (l := fun k => l.getD k false) (i := i) (b := b) hnot base 0 (Nat.zero_le _) Ar
      rw [Nat.sub_zero, hbe] at h1
      refine (hp.append_left _).trans (h1.trans (List.Perm.of_eq ?_))
      exact J6 base 0 fun j _ => ⟨(hset2 j).symm, fun _ => At⟩
    have yields : DH ops ⟨n, τ', Hb ++ H, D⟩ o → DB P o (ev (τS ops (Ga β 0 fb) τ i)) (Hb ++ H) (fun r H' => match r with | .val v => ∃ b, e.ok b ∧ v = e.v b ∧ H' = e.box b ++ (Hb ++ H) | .panic _ => False) → wpOpIn (W r) 0 P ops (post F₀ H w₀ Q) i (fun a' w' => I (l.setIfInBounds i true) a' w') a w := fun h1 h2 =>
     exec (C := fun v H' => ∃ b, e.ok b ∧ v = e.v b ∧ H' = e.box b ++ (Hb ++ H)) hs h1 h2 (by rintro v H' a' w' F' ⟨b, h0, rfl, h1⟩ h3 h4; exact close h0 h1 h3 h4)
    cases e with
    | val v => exact yields (wants hok.1) ((hok.2 Hb).mono (by
      intro r H' hR
      cases r with
      | val v' => obtain ⟨rfl, rfl⟩ := hR; exact ⟨(0, 0, .p .any), trivial, rfl, rfl⟩
      | panic v' => exact hR.elim))
    | new cs =>
     refine yields (by unfold DH; rw [hok.1]; trivial) ((hok.2 _).mono ?_)
     intro r H' hR
     cases r with
     | val v' => obtain ⟨b, rfl, rfl⟩ := hR; exact ⟨(b, 0, .p .any), trivial, rfl, rfl⟩
     | panic v' => exact hR.elim
    | newv sz rows =>
     refine yields (by unfold DH; rw [hok.1]; trivial) ((hok.2 _).mono ?_)
     intro r H' hR
     cases r with
     | val v' => obtain ⟨b, c, rfl, rfl⟩ := hR; exact ⟨(b, c, .p .any), trivial, rfl, rfl⟩
     | panic v' => exact hR.elim
    | rel R =>
     refine yields (by unfold DH; rw [hok.1]; trivial) ((hok.2 _).mono ?_)
     intro r H' hR
     cases r with
     | val v' => obtain ⟨h1, rfl⟩ := hR; exact ⟨(0, 0, v'), h1, rfl, rfl⟩
     | panic v' => exact hR.elim
    | skip =>
     obtain ⟨j, want, d, hg, hj, hb⟩ := hok
     have hw : Region.wanted o (yielded ops a.tmps) = false := Jl (S := ⟨n, τ', Hb ++ H, D⟩) hs hg hj (by show Wq (τ' d) want; rw [hguard j want d hg hj]; exact hb)
     unfold wpOpIn
     simp only [ho, hw, Bool.false_eq_true, if_false]
     refine ⟨fun _ _ => trivial, close (b := (0, 0, .p .any)) trivial At ?_ .refl⟩
     exact hs.put (fun t ht => hdst i o t ho ht) ⟨Nat.le_refl _, fun _ _ _ => At, fun _ h _ => h⟩ hs.heap (by simp only [Ez.v, CR, B0, undef]; exact ⟨[], rfl, rfl⟩)
   ·-- the first of the rest
    have hpre : ∀ j, j < i → ¬ (j < base.length ∧ j ∈ fl) → l.getD j false = true := fun j hj hf => hpred (M5 late hib hlt hj hf)
    have hie : i = base.length := by
     rcases Nat.lt_or_ge base.length i with h | h
     ·have h1 := hpre base.length h (fun h => Nat.lt_irrefl _ h.1)
      rw [hno base.length (Nat.le_refl _)] at h1
      cases h1
     ·omega
    obtain ⟨Hm, g1, g2, g3⟩ := (hE β hβ).2
    have hp2 : (Hb ++ H).Perm (Hm i ++ H) := by
     rw [hie, g1]
     refine List.Perm.append_right H (hp.trans (List.Perm.of_eq (WD base 0 fun j hj => ?_)))
     rw [Nat.zero_add]
     by_cases hq : j ∈ fl
     ·exact .inr (flv j hq)
     ·exact .inl (hpre j Ar fun h => hq h.2)
    refine goTail Hm g2 g3 hib (fun k hk => ⟨fun h => ?_, fun h => by omega⟩) (fun k h1 h2 => hpre k Ar fun h => h2 h.2) ⟨hs.size, hs.tmp, hs.heap.perm hp2, hs.defs⟩ { ht with keys := fun o ho => ht.keys o (hp2.mem_iff.2 ho) }
    rw [hno k hk] at h; cases h
  ·rcases Nat.lt_or_ge i base.length with hib | hib
   ·-- a value that floats
    have hif : i ∈ fl := Classical.byContradiction fun hq => by rw [hk2 i hib hq] at hnot; cases hnot
    obtain ⟨v, hv⟩ := flv i hif
    obtain ⟨o', ho', hok⟩ := (hE β hβ).1 i hib
    rw [ho] at ho'; injection ho' with ho'; subst ho'
    rw [hv] at hok
    refine exec (C := fun v' H' => v' = v ∧ H' = Hm m ++ H) hs (wants hok.1) ((hok.2 (Hm m)).mono (by
     intro r H' hR
     cases r with
     | val v' => exact hR
     | panic v' => exact hR.elim)) ?_
    rintro v' H' a' w' F' ⟨rfl, rfl⟩ h3 h4
    rw [hI0]
    refine ⟨hsz', β, _, F', Hm m, hβ, hdown', hτput (by rw [Fb β Ar, (hf1 i hib).2, hv]; rfl), h3, ht.trans hs₀.heap.bd h4, .inr ⟨m, Hm, g2, g3, hm1, hm2, fun k hk => ?_, fun k h1 h2 => (hset k).2 (.inl (hk2 k h1 h2)), At⟩⟩
    rw [hset k, hk1 k hk]
    exact ⟨fun h => h.resolve_right Ar, .inl⟩
   ·have him : i = m := by
     rcases Nat.lt_trichotomy i m with h | h | h
     ·rw [(hk1 i hib).2 h] at hnot; cases hnot
     ·exact h
     ·have := hpred (M5 late (by omega : base.length ≤ i) hlt h (fun h => by omega))
      have := (hk1 m hm1).1 this
      omega
    subst him
    exact goTail Hm g2 g3 hib hk1 hk2 hs ht
 ·intro l a w hI hr
  rw [hI0] at hI
  obtain ⟨hsz, β, τ', F, Hb, hβ, hdown, hτ, hs, ht, hI⟩ := hI
  have hall : ∀ i, i < ops.size → l.getD i false = true := by
   intro i
   induction i using Nat.strongRecOn with
   | _ i ih =>
    intro hi
    cases hq : l.getD i false with
    | true => rfl
    | false =>
     have ho : ops[i]? = some ops[i] := Array.getElem?_eq_getElem hi
     have : i ∈ Region.ready .any ops l := by
      refine mem_ready.2 ⟨?_, ops[i], ho, ?_⟩
      ·have : i < l.size := by omega
       simp [this] at hq ⊢; exact hq
      ·intro e he hb
       have hj : e.on ∈ D6 ops[i] := by
        simp only [D6, List.mem_map, List.mem_filter]
        exact ⟨e, ⟨by simpa using he, hb⟩, rfl⟩
       have hlt := c0 i _ _ ho hj
       exact ih e.on hlt Ar
     rw [hr] at this
     cases this
  have hτe : τ' = τS ops (Ga β 0 fb) τ ops.size := by
   funext t
   have h2 := KC (hd β) ops.size (Nat.le_refl _) t
   by_cases hw : ∃ (k : Nat) (o' : Oper), ops[k]? = some o' ∧ o'.dst = some t
   ·obtain ⟨k, o', ho', hk⟩ := hw
    have hlt : k < ops.size := by
     rcases Nat.lt_or_ge k ops.size with h | h
     ·exact h
     ·simp [Array.getElem?_eq_none h] at ho'
    rw [(hτ t).1 k o' ho' hk (hall k hlt), h2.1 k o' ho' hk hlt]
   ·rw [(hτ t).2 fun k o' h1 h2 _ => hw ⟨k, o', h1, h2⟩, h2.2 fun k o' h1 h2 _ => hw ⟨k, o', h1, h2⟩]
  have fin : ∀ Hx : List BT, (Hb ++ H).Perm (Hx ++ H) → Q .normal ⟨n, τS ops (Ga β 0 fb) τ ops.size, Hx ++ H, D⟩ → post F₀ H w₀ Q .normal a w := fun Hx hp hq =>
   ⟨.normal, _, F, hq, rfl, ⟨by exact hs.size, by rw [← hτe]; exact hs.tmp, hs.heap.perm hp, hs.defs⟩, { ht with keys := fun o ho => ht.keys o (hp.mem_iff.2 ho) }⟩
  rcases hI with ⟨hno, hp⟩ | ⟨m, Hm, g2, g3, hm1, hm2, hk1, hk2, rfl⟩
  ·have hbs : base.length = ops.size := by
    rcases Nat.lt_or_ge base.length ops.size with h | h
    ·have := hall base.length h; rw [hno base.length (Nat.le_refl _)] at this; cases this
    ·omega
   obtain ⟨Hm, g1, g2, g3⟩ := (hE β hβ).2
   refine fin (Hm ops.size) ?_ g3
   rw [← hbs, g1]
   exact List.Perm.append_right H (hp.trans (List.Perm.of_eq (Pq base 0 fun j _ hj => hall j Ar)))
  ·have hms : m = ops.size := by
    rcases Nat.lt_or_ge m ops.size with h | h
    ·have := (hk1 m hm1).1 (hall m h); omega
    ·omega
   subst hms
   exact fin _ (List.Perm.refl _) g3
 ·obtain ⟨β0, hβ0⟩ := Wa.pick base hne
  rw [hI0]
  refine ⟨by simp, β0, τ, F₀, [], hβ0, ?_, ?_, hs₁, t₀, .inl ⟨?_, ?_⟩⟩
  ·intro i o j ho hi
   by_cases h : i < ops.size <;> simp [h] at hi
  ·intro t
   refine ⟨fun k o ho hk hl => ?_, fun _ => At⟩
   by_cases h : k < ops.size <;> simp [h] at hl
  ·intro k _
   by_cases h : k < ops.size <;> simp [h]
  ·rw [NO base 0 fun j => by by_cases h : j < ops.size <;> simp [h]]
 ·have := List.length_filter_le (fun b : Bool => !b) (Array.replicate ops.size false).toList
  simp at this ⊢
section
variable {P : Program} {ops : Array Oper} {H₀ : List BT} {k : Nat} {τ : Nat → AV} {r : List AV} {K : (Nat → AV) → List BT → Prop} {dst : Option Tmp} {op : Op} {ty : TypeId} {pos : String} {aft : Array Edge} {v : AV} {H : List BT}
theorem Py (H' : List BT) (ho : ops[k]? = some ⟨dst, op, ty, pos, aft, none⟩) (h : Dg P ⟨dst, op, ty, pos, aft, none⟩ (ev τ) (H ++ H₀) v (H' ++ H₀)) (next : TW P ops H₀ (k + 1) (put τ dst v) H' r K) : TW P ops H₀ k τ H (v :: r) K :=
 ⟨_, H', ho, rfl, h, next⟩
theorem Zj (h : K τ H) : TW P ops H₀ k τ H [] K := h
end
end Go.Abs
namespace Go.Proofs.YtapmjpihennhaaaGreatDoor
open Go.Abs Go.Eu
theorem Kw (a b : List Int) (h1 : a.length < EC) (h2 : a = b) : G5 Tryz.prog 30 [.p (.lst (List.map Cf a)), .p (.lst (List.map Cf b))] (.p (.bool true)) := by
 have := UU a b h1
 rwa [C3 h2] at this
set_option maxHeartbeats 2000000 in
theorem En : ∀ (GL : List (Nat × Obj)) (hG : Gl GL), Bt Tryz.prog 11 [] [.glob GL] (DC (.p (.bool true)) [.glob GL]) := by
 intro GL hG
 obtain ⟨e0, he0⟩ : ∃ e, e = ((.mk 0 4 ⟨#[]⟩ [] []) : Tm) := ⟨_, rfl⟩
 obtain ⟨e1, he1⟩ : ∃ e, e = ((.mk 0 2 ⟨#[]⟩ [] []) : Tm) := ⟨_, rfl⟩
 have hx0 : ([(.mk 0 4 ⟨#[]⟩ [] []), (.mk 0 2 ⟨#[]⟩ [] [])] : List Tm)[0]? = some e0 := by rw [he0]; rfl
 have hx1 : ([(.mk 0 4 ⟨#[]⟩ [] []), (.mk 0 2 ⟨#[]⟩ [] [])] : List Tm)[1]? = some e1 := by rw [he1]; rfl
 refine A8 Tryz.func11 At de (n := 126) At At (Ax (Av (Au At At (Ay At) (Az At (Ax (Av (Au At At (Bg At At (Vh ) At) (BM At At (BK We At) fun b1 => Au At At (A6 (i := 0) EG At At At At At (TC _)) (Az At (Ax ?_))))))))))
 refine Av (Au At At (Bg At At (XG 4) At) (Au At At (Bg At At (XG 2) At) (Au At At (DA At At (Ke ⟨#[122, 101, 114, 111]⟩ [] AO) (aw (we At) (aw (Cq At) (Cv)))) (BM At At (BK B7 At) fun b2 => BM At At (BK B7 At) fun b3 => BM At At (BK B7 At) fun b4 => Au At At (A6 (i := 2) BO At At At Ak Ac (CF _)) (Au At At (A6 (i := 1) BO At At At Ak Ac (CF _)) (Au At At (A6 (i := 0) BO At At At Ak Ac (CF _)) (Az At (Ax ?_))))))))
 refine CQ (fun k => false) D0 (BQ (j := 3) At At At (fun H i hi => A0 (i := i) EG At hi At) AA trivial (BQ (j := 2) At At At (fun H i hi => A0 (i := i) BO At hi Ak) AA trivial (BQ (j := 1) At At At (fun H i hi => A0 (i := i) BO At hi Ak) AA trivial (A4 At At (fun _ => Bg At At (L8 (.mk 0 2 ⟨#[]⟩ [] [])) At) trivial (A4 At At (fun _ => Bg At At (Ix (.mk 0 4 ⟨#[]⟩ [] []) (BS ⟨#[110, 101, 103]⟩ [(.mk 0 2 ⟨#[]⟩ [] [])])) At) trivial (BQ (j := 2) At At At (fun H i hi => A0 (i := i) BO At hi Ak) AA trivial (A4 At At (fun _ => Bg At At (Ix (BS ⟨#[97, 100, 100]⟩ [(.mk 0 4 ⟨#[]⟩ [] []), (BS ⟨#[110, 101, 103]⟩ [(.mk 0 2 ⟨#[]⟩ [] [])])]) (.mk 0 4 ⟨#[]⟩ [] [])) At) trivial ?_)))))))
 refine CD [4] At At At (.inl ⟨At, At, At⟩) (TD GL hG (BJ.mk ⟨#[90]⟩ ⟨#[97, 100, 100]⟩ ⟨#[122, 101, 114, 111]⟩ ⟨#[110, 101, 103]⟩ ⟨#[111, 110, 101]⟩ ⟨#[108, 101, 113]⟩ [⟨#[108, 48]⟩, ⟨#[108, 49]⟩, ⟨#[108, 50]⟩, ⟨#[108, 51]⟩, ⟨#[108, 52]⟩, ⟨#[108, 53]⟩, ⟨#[108, 54]⟩, ⟨#[108, 55]⟩, ⟨#[108, 56]⟩, ⟨#[108, 57]⟩, ⟨#[108, 49, 48]⟩, ⟨#[108, 49, 49]⟩, ⟨#[108, 49, 50]⟩, ⟨#[108, 49, 51]⟩]) (BS ⟨#[97, 100, 100]⟩ [(BS ⟨#[97, 100, 100]⟩ [(.mk 0 4 ⟨#[]⟩ [] []), (BS ⟨#[110, 101, 103]⟩ [(.mk 0 2 ⟨#[]⟩ [] [])])]), (.mk 0 4 ⟨#[]⟩ [] [])]) [2, -1] ([(.mk 0 4 ⟨#[]⟩ [] []), (.mk 0 2 ⟨#[]⟩ [] [])]) 0 bE a8 Yq) ⟨_, _, At, At, At⟩ (Cp _) (aw (we At) (aw (we At) (Cv))) AA trivial (A4 At At (fun _ => Aw At) trivial (A4 At At (fun _ => BY At At) trivial (A4 At At (fun _ => BY At At) trivial (A4 At At (fun _ => BY At At) trivial ?_))))
 refine A4 At At (fun _ => Ay At) trivial (A4 At At (fun _ => Ay At) trivial (A4 At At (fun _ => Ay At) trivial (CK At An (Ax (CQ (fun k => false) D0 (BQ (j := 3) At At At (fun H i hi => A0 (i := i) EG At hi At) AA trivial (BQ (j := 2) At At At (fun H i hi => A0 (i := i) BO At hi Ak) AA trivial (BQ (j := 2) At At At (fun H i hi => A0 (i := i) BO At hi Ak) AA trivial (A4 At At (fun _ => Bg At At (L8 (.mk 0 4 ⟨#[]⟩ [] [])) At) trivial (A4 At At (fun _ => Bg At At (Ix (.mk 0 4 ⟨#[]⟩ [] []) (BS ⟨#[110, 101, 103]⟩ [(.mk 0 4 ⟨#[]⟩ [] [])])) At) trivial ?_))))))))))
 refine CD [4] At At At (.inl ⟨At, At, At⟩) (TD GL hG (BJ.mk ⟨#[90]⟩ ⟨#[97, 100, 100]⟩ ⟨#[122, 101, 114, 111]⟩ ⟨#[110, 101, 103]⟩ ⟨#[111, 110, 101]⟩ ⟨#[108, 101, 113]⟩ [⟨#[108, 48]⟩, ⟨#[108, 49]⟩, ⟨#[108, 50]⟩, ⟨#[108, 51]⟩, ⟨#[108, 52]⟩, ⟨#[108, 53]⟩, ⟨#[108, 54]⟩, ⟨#[108, 55]⟩, ⟨#[108, 56]⟩, ⟨#[108, 57]⟩, ⟨#[108, 49, 48]⟩, ⟨#[108, 49, 49]⟩, ⟨#[108, 49, 50]⟩, ⟨#[108, 49, 51]⟩]) (BS ⟨#[97, 100, 100]⟩ [(.mk 0 4 ⟨#[]⟩ [] []), (BS ⟨#[110, 101, 103]⟩ [(.mk 0 4 ⟨#[]⟩ [] [])])]) [0] ([(.mk 0 4 ⟨#[]⟩ [] [])]) 0 aK bo Zb) ⟨_, _, At, At, At⟩ (Cp _) (aw (we At) (aw (we At) (Cv))) AA trivial (A4 At At (fun _ => Aw At) trivial (A4 At At (fun _ => BY At At) trivial (A4 At At (fun _ => BY At At) trivial (A4 At At (fun _ => BY At At) trivial (A4 At At (fun _ => Ay At) trivial ?_)))))
 refine A4 At At (fun _ => Ay At) trivial (A4 At At (fun _ => Ay At) trivial (CK At An (Ax (Av (Au At At (A0 (i := 3) EG At At At) (Au At At (Aw At) (Au At At (Aw At) (Au At At (Bg At At (JT (BJ.mk ⟨#[90]⟩ ⟨#[97, 100, 100]⟩ ⟨#[122, 101, 114, 111]⟩ ⟨#[110, 101, 103]⟩ ⟨#[111, 110, 101]⟩ ⟨#[108, 101, 113]⟩ [⟨#[108, 48]⟩, ⟨#[108, 49]⟩, ⟨#[108, 50]⟩, ⟨#[108, 51]⟩, ⟨#[108, 52]⟩, ⟨#[108, 53]⟩, ⟨#[108, 54]⟩, ⟨#[108, 55]⟩, ⟨#[108, 56]⟩, ⟨#[108, 57]⟩, ⟨#[108, 49, 48]⟩, ⟨#[108, 49, 49]⟩, ⟨#[108, 49, 50]⟩, ⟨#[108, 49, 51]⟩]) [2, -1] ([(.mk 0 4 ⟨#[]⟩ [] []), (.mk 0 2 ⟨#[]⟩ [] [])]) Aq) At) (BM At At (BK B7 At) fun b11 => Au At At (A6 (i := 0) BO At At At Ak Ac (CF _)) (Az At ?_))))))))))
 refine Ax ?_
 refine Wl [.rel (fun v => ∃ ds : List Kb, v = .p (.lst (List.map DZ ds)) ∧ ds.map Kb.name = [⟨#[69, 113]⟩, ⟨#[69, 113, 46, 114, 101, 102, 108]⟩, ⟨#[69, 113, 46, 115, 121, 109, 109]⟩, ⟨#[69, 113, 46, 116, 114, 97, 110, 115]⟩, ⟨#[69, 113, 46, 99, 111, 110, 103, 114]⟩, ⟨#[90]⟩, ⟨#[97, 100, 100]⟩, ⟨#[122, 101, 114, 111]⟩, ⟨#[110, 101, 103]⟩, ⟨#[111, 110, 101]⟩, ⟨#[108, 48]⟩, ⟨#[108, 49]⟩, ⟨#[108, 50]⟩, ⟨#[108, 51]⟩, ⟨#[108, 52]⟩, ⟨#[108, 53]⟩, ⟨#[108, 54]⟩] ∧ ∀ d ∈ ds, d.kind = 0), .val (.agg ((EE (BJ.mk ⟨#[90]⟩ ⟨#[97, 100, 100]⟩ ⟨#[122, 101, 114, 111]⟩ ⟨#[110, 101, 103]⟩ ⟨#[111, 110, 101]⟩ ⟨#[108, 101, 113]⟩ [⟨#[108, 48]⟩, ⟨#[108, 49]⟩, ⟨#[108, 50]⟩, ⟨#[108, 51]⟩, ⟨#[108, 52]⟩, ⟨#[108, 53]⟩, ⟨#[108, 54]⟩, ⟨#[108, 55]⟩, ⟨#[108, 56]⟩, ⟨#[108, 57]⟩, ⟨#[108, 49, 48]⟩, ⟨#[108, 49, 49]⟩, ⟨#[108, 49, 50]⟩, ⟨#[108, 49, 51]⟩])).map .p)), .val (.agg ((Be (.mk 0 4 ⟨#[]⟩ [] [])).map .p)), .val (.agg ((Be (BS ⟨#[122, 101, 114, 111]⟩ [])).map .p)), .val (.agg ((Be (BS ⟨#[97, 100, 100]⟩ [(.mk 0 4 ⟨#[]⟩ [] []), (BS ⟨#[122, 101, 114, 111]⟩ [])])).map .p)), .val (.agg ((Be (BS ⟨#[110, 101, 103]⟩ [(BS ⟨#[97, 100, 100]⟩ [(.mk 0 4 ⟨#[]⟩ [] []), (BS ⟨#[122, 101, 114, 111]⟩ [])])])).map .p)), .val (.agg ((Be (BS ⟨#[110, 101, 103]⟩ [(BS ⟨#[110, 101, 103]⟩ [(BS ⟨#[97, 100, 100]⟩ [(.mk 0 4 ⟨#[]⟩ [] []), (BS ⟨#[122, 101, 114, 111]⟩ [])])])])).map .p)), .val (.tup [.agg ((Be (EO (BJ.mk ⟨#[90]⟩ ⟨#[97, 100, 100]⟩ ⟨#[122, 101, 114, 111]⟩ ⟨#[110, 101, 103]⟩ ⟨#[111, 110, 101]⟩ ⟨#[108, 101, 113]⟩ [⟨#[108, 48]⟩, ⟨#[108, 49]⟩, ⟨#[108, 50]⟩, ⟨#[108, 51]⟩, ⟨#[108, 52]⟩, ⟨#[108, 53]⟩, ⟨#[108, 54]⟩, ⟨#[108, 55]⟩, ⟨#[108, 56]⟩, ⟨#[108, 57]⟩, ⟨#[108, 49, 48]⟩, ⟨#[108, 49, 49]⟩, ⟨#[108, 49, 50]⟩, ⟨#[108, 49, 51]⟩]) (CP (BJ.mk ⟨#[90]⟩ ⟨#[97, 100, 100]⟩ ⟨#[122, 101, 114, 111]⟩ ⟨#[110, 101, 103]⟩ ⟨#[111, 110, 101]⟩ ⟨#[108, 101, 113]⟩ [⟨#[108, 48]⟩, ⟨#[108, 49]⟩, ⟨#[108, 50]⟩, ⟨#[108, 51]⟩, ⟨#[108, 52]⟩, ⟨#[108, 53]⟩, ⟨#[108, 54]⟩, ⟨#[108, 55]⟩, ⟨#[108, 56]⟩, ⟨#[108, 57]⟩, ⟨#[108, 49, 48]⟩, ⟨#[108, 49, 49]⟩, ⟨#[108, 49, 50]⟩, ⟨#[108, 49, 51]⟩]) (BS ⟨#[110, 101, 103]⟩ [(BS ⟨#[110, 101, 103]⟩ [(BS ⟨#[97, 100, 100]⟩ [(.mk 0 4 ⟨#[]⟩ [] []), (BS ⟨#[122, 101, 114, 111]⟩ [])])])])).coefs (CP (BJ.mk ⟨#[90]⟩ ⟨#[97, 100, 100]⟩ ⟨#[122, 101, 114, 111]⟩ ⟨#[110, 101, 103]⟩ ⟨#[111, 110, 101]⟩ ⟨#[108, 101, 113]⟩ [⟨#[108, 48]⟩, ⟨#[108, 49]⟩, ⟨#[108, 50]⟩, ⟨#[108, 51]⟩, ⟨#[108, 52]⟩, ⟨#[108, 53]⟩, ⟨#[108, 54]⟩, ⟨#[108, 55]⟩, ⟨#[108, 56]⟩, ⟨#[108, 57]⟩, ⟨#[108, 49, 48]⟩, ⟨#[108, 49, 49]⟩, ⟨#[108, 49, 50]⟩, ⟨#[108, 49, 51]⟩]) (BS ⟨#[110, 101, 103]⟩ [(BS ⟨#[110, 101, 103]⟩ [(BS ⟨#[97, 100, 100]⟩ [(.mk 0 4 ⟨#[]⟩ [] []), (BS ⟨#[122, 101, 114, 111]⟩ [])])])])).atoms)).map .p), .agg ((Be ((Bv (BJ.mk ⟨#[90]⟩ ⟨#[97, 100, 100]⟩ ⟨#[122, 101, 114, 111]⟩ ⟨#[110, 101, 103]⟩ ⟨#[111, 110, 101]⟩ ⟨#[108, 101, 113]⟩ [⟨#[108, 48]⟩, ⟨#[108, 49]⟩, ⟨#[108, 50]⟩, ⟨#[108, 51]⟩, ⟨#[108, 52]⟩, ⟨#[108, 53]⟩, ⟨#[108, 54]⟩, ⟨#[108, 55]⟩, ⟨#[108, 56]⟩, ⟨#[108, 57]⟩, ⟨#[108, 49, 48]⟩, ⟨#[108, 49, 49]⟩, ⟨#[108, 49, 50]⟩, ⟨#[108, 49, 51]⟩]) (CP (BJ.mk ⟨#[90]⟩ ⟨#[97, 100, 100]⟩ ⟨#[122, 101, 114, 111]⟩ ⟨#[110, 101, 103]⟩ ⟨#[111, 110, 101]⟩ ⟨#[108, 101, 113]⟩ [⟨#[108, 48]⟩, ⟨#[108, 49]⟩, ⟨#[108, 50]⟩, ⟨#[108, 51]⟩, ⟨#[108, 52]⟩, ⟨#[108, 53]⟩, ⟨#[108, 54]⟩, ⟨#[108, 55]⟩, ⟨#[108, 56]⟩, ⟨#[108, 57]⟩, ⟨#[108, 49, 48]⟩, ⟨#[108, 49, 49]⟩, ⟨#[108, 49, 50]⟩, ⟨#[108, 49, 51]⟩]) (BS ⟨#[110, 101, 103]⟩ [(BS ⟨#[110, 101, 103]⟩ [(BS ⟨#[97, 100, 100]⟩ [(.mk 0 4 ⟨#[]⟩ [] []), (BS ⟨#[122, 101, 114, 111]⟩ [])])])])).atoms (size (BS ⟨#[110, 101, 103]⟩ [(BS ⟨#[110, 101, 103]⟩ [(BS ⟨#[97, 100, 100]⟩ [(.mk 0 4 ⟨#[]⟩ [] []), (BS ⟨#[122, 101, 114, 111]⟩ [])])])])) (BS ⟨#[110, 101, 103]⟩ [(BS ⟨#[110, 101, 103]⟩ [(BS ⟨#[97, 100, 100]⟩ [(.mk 0 4 ⟨#[]⟩ [] []), (BS ⟨#[122, 101, 114, 111]⟩ [])])])])).1.proof)).map .p), .p (I 0)]), .val (.tup [.agg ((Be (EO (BJ.mk ⟨#[90]⟩ ⟨#[97, 100, 100]⟩ ⟨#[122, 101, 114, 111]⟩ ⟨#[110, 101, 103]⟩ ⟨#[111, 110, 101]⟩ ⟨#[108, 101, 113]⟩ [⟨#[108, 48]⟩, ⟨#[108, 49]⟩, ⟨#[108, 50]⟩, ⟨#[108, 51]⟩, ⟨#[108, 52]⟩, ⟨#[108, 53]⟩, ⟨#[108, 54]⟩, ⟨#[108, 55]⟩, ⟨#[108, 56]⟩, ⟨#[108, 57]⟩, ⟨#[108, 49, 48]⟩, ⟨#[108, 49, 49]⟩, ⟨#[108, 49, 50]⟩, ⟨#[108, 49, 51]⟩]) (CP (BJ.mk ⟨#[90]⟩ ⟨#[97, 100, 100]⟩ ⟨#[122, 101, 114, 111]⟩ ⟨#[110, 101, 103]⟩ ⟨#[111, 110, 101]⟩ ⟨#[108, 101, 113]⟩ [⟨#[108, 48]⟩, ⟨#[108, 49]⟩, ⟨#[108, 50]⟩, ⟨#[108, 51]⟩, ⟨#[108, 52]⟩, ⟨#[108, 53]⟩, ⟨#[108, 54]⟩, ⟨#[108, 55]⟩, ⟨#[108, 56]⟩, ⟨#[108, 57]⟩, ⟨#[108, 49, 48]⟩, ⟨#[108, 49, 49]⟩, ⟨#[108, 49, 50]⟩, ⟨#[108, 49, 51]⟩]) (BS ⟨#[110, 101, 103]⟩ [(BS ⟨#[110, 101, 103]⟩ [(BS ⟨#[97, 100, 100]⟩ [(.mk 0 4 ⟨#[]⟩ [] []), (BS ⟨#[122, 101, 114, 111]⟩ [])])])])).coefs (CP (BJ.mk ⟨#[90]⟩ ⟨#[97, 100, 100]⟩ ⟨#[122, 101, 114, 111]⟩ ⟨#[110, 101, 103]⟩ ⟨#[111, 110, 101]⟩ ⟨#[108, 101, 113]⟩ [⟨#[108, 48]⟩, ⟨#[108, 49]⟩, ⟨#[108, 50]⟩, ⟨#[108, 51]⟩, ⟨#[108, 52]⟩, ⟨#[108, 53]⟩, ⟨#[108, 54]⟩, ⟨#[108, 55]⟩, ⟨#[108, 56]⟩, ⟨#[108, 57]⟩, ⟨#[108, 49, 48]⟩, ⟨#[108, 49, 49]⟩, ⟨#[108, 49, 50]⟩, ⟨#[108, 49, 51]⟩]) (BS ⟨#[110, 101, 103]⟩ [(BS ⟨#[110, 101, 103]⟩ [(BS ⟨#[97, 100, 100]⟩ [(.mk 0 4 ⟨#[]⟩ [] []), (BS ⟨#[122, 101, 114, 111]⟩ [])])])])).atoms)).map .p), .agg ((Be ((Bv (BJ.mk ⟨#[90]⟩ ⟨#[97, 100, 100]⟩ ⟨#[122, 101, 114, 111]⟩ ⟨#[110, 101, 103]⟩ ⟨#[111, 110, 101]⟩ ⟨#[108, 101, 113]⟩ [⟨#[108, 48]⟩, ⟨#[108, 49]⟩, ⟨#[108, 50]⟩, ⟨#[108, 51]⟩, ⟨#[108, 52]⟩, ⟨#[108, 53]⟩, ⟨#[108, 54]⟩, ⟨#[108, 55]⟩, ⟨#[108, 56]⟩, ⟨#[108, 57]⟩, ⟨#[108, 49, 48]⟩, ⟨#[108, 49, 49]⟩, ⟨#[108, 49, 50]⟩, ⟨#[108, 49, 51]⟩]) (CP (BJ.mk ⟨#[90]⟩ ⟨#[97, 100, 100]⟩ ⟨#[122, 101, 114, 111]⟩ ⟨#[110, 101, 103]⟩ ⟨#[111, 110, 101]⟩ ⟨#[108, 101, 113]⟩ [⟨#[108, 48]⟩, ⟨#[108, 49]⟩, ⟨#[108, 50]⟩, ⟨#[108, 51]⟩, ⟨#[108, 52]⟩, ⟨#[108, 53]⟩, ⟨#[108, 54]⟩, ⟨#[108, 55]⟩, ⟨#[108, 56]⟩, ⟨#[108, 57]⟩, ⟨#[108, 49, 48]⟩, ⟨#[108, 49, 49]⟩, ⟨#[108, 49, 50]⟩, ⟨#[108, 49, 51]⟩]) (BS ⟨#[110, 101, 103]⟩ [(BS ⟨#[110, 101, 103]⟩ [(BS ⟨#[97, 100, 100]⟩ [(.mk 0 4 ⟨#[]⟩ [] []), (BS ⟨#[122, 101, 114, 111]⟩ [])])])])).atoms (size (BS ⟨#[110, 101, 103]⟩ [(BS ⟨#[110, 101, 103]⟩ [(BS ⟨#[97, 100, 100]⟩ [(.mk 0 4 ⟨#[]⟩ [] []), (BS ⟨#[122, 101, 114, 111]⟩ [])])])])) (BS ⟨#[110, 101, 103]⟩ [(BS ⟨#[110, 101, 103]⟩ [(BS ⟨#[97, 100, 100]⟩ [(.mk 0 4 ⟨#[]⟩ [] []), (BS ⟨#[122, 101, 114, 111]⟩ [])])])])).1.proof)).map .p), .p (I 0)]), .val (.agg ((Be (EO (BJ.mk ⟨#[90]⟩ ⟨#[97, 100, 100]⟩ ⟨#[122, 101, 114, 111]⟩ ⟨#[110, 101, 103]⟩ ⟨#[111, 110, 101]⟩ ⟨#[108, 101, 113]⟩ [⟨#[108, 48]⟩, ⟨#[108, 49]⟩, ⟨#[108, 50]⟩, ⟨#[108, 51]⟩, ⟨#[108, 52]⟩, ⟨#[108, 53]⟩, ⟨#[108, 54]⟩, ⟨#[108, 55]⟩, ⟨#[108, 56]⟩, ⟨#[108, 57]⟩, ⟨#[108, 49, 48]⟩, ⟨#[108, 49, 49]⟩, ⟨#[108, 49, 50]⟩, ⟨#[108, 49, 51]⟩]) (CP (BJ.mk ⟨#[90]⟩ ⟨#[97, 100, 100]⟩ ⟨#[122, 101, 114, 111]⟩ ⟨#[110, 101, 103]⟩ ⟨#[111, 110, 101]⟩ ⟨#[108, 101, 113]⟩ [⟨#[108, 48]⟩, ⟨#[108, 49]⟩, ⟨#[108, 50]⟩, ⟨#[108, 51]⟩, ⟨#[108, 52]⟩, ⟨#[108, 53]⟩, ⟨#[108, 54]⟩, ⟨#[108, 55]⟩, ⟨#[108, 56]⟩, ⟨#[108, 57]⟩, ⟨#[108, 49, 48]⟩, ⟨#[108, 49, 49]⟩, ⟨#[108, 49, 50]⟩, ⟨#[108, 49, 51]⟩]) (BS ⟨#[110, 101, 103]⟩ [(BS ⟨#[110, 101, 103]⟩ [(BS ⟨#[97, 100, 100]⟩ [(.mk 0 4 ⟨#[]⟩ [] []), (BS ⟨#[122, 101, 114, 111]⟩ [])])])])).coefs (CP (BJ.mk ⟨#[90]⟩ ⟨#[97, 100, 100]⟩ ⟨#[122, 101, 114, 111]⟩ ⟨#[110, 101, 103]⟩ ⟨#[111, 110, 101]⟩ ⟨#[108, 101, 113]⟩ [⟨#[108, 48]⟩, ⟨#[108, 49]⟩, ⟨#[108, 50]⟩, ⟨#[108, 51]⟩, ⟨#[108, 52]⟩, ⟨#[108, 53]⟩, ⟨#[108, 54]⟩, ⟨#[108, 55]⟩, ⟨#[108, 56]⟩, ⟨#[108, 57]⟩, ⟨#[108, 49, 48]⟩, ⟨#[108, 49, 49]⟩, ⟨#[108, 49, 50]⟩, ⟨#[108, 49, 51]⟩]) (BS ⟨#[110, 101, 103]⟩ [(BS ⟨#[110, 101, 103]⟩ [(BS ⟨#[97, 100, 100]⟩ [(.mk 0 4 ⟨#[]⟩ [] []), (BS ⟨#[122, 101, 114, 111]⟩ [])])])])).atoms)).map .p)), .val (.agg ((Be ((Bv (BJ.mk ⟨#[90]⟩ ⟨#[97, 100, 100]⟩ ⟨#[122, 101, 114, 111]⟩ ⟨#[110, 101, 103]⟩ ⟨#[111, 110, 101]⟩ ⟨#[108, 101, 113]⟩ [⟨#[108, 48]⟩, ⟨#[108, 49]⟩, ⟨#[108, 50]⟩, ⟨#[108, 51]⟩, ⟨#[108, 52]⟩, ⟨#[108, 53]⟩, ⟨#[108, 54]⟩, ⟨#[108, 55]⟩, ⟨#[108, 56]⟩, ⟨#[108, 57]⟩, ⟨#[108, 49, 48]⟩, ⟨#[108, 49, 49]⟩, ⟨#[108, 49, 50]⟩, ⟨#[108, 49, 51]⟩]) (CP (BJ.mk ⟨#[90]⟩ ⟨#[97, 100, 100]⟩ ⟨#[122, 101, 114, 111]⟩ ⟨#[110, 101, 103]⟩ ⟨#[111, 110, 101]⟩ ⟨#[108, 101, 113]⟩ [⟨#[108, 48]⟩, ⟨#[108, 49]⟩, ⟨#[108, 50]⟩, ⟨#[108, 51]⟩, ⟨#[108, 52]⟩, ⟨#[108, 53]⟩, ⟨#[108, 54]⟩, ⟨#[108, 55]⟩, ⟨#[108, 56]⟩, ⟨#[108, 57]⟩, ⟨#[108, 49, 48]⟩, ⟨#[108, 49, 49]⟩, ⟨#[108, 49, 50]⟩, ⟨#[108, 49, 51]⟩]) (BS ⟨#[110, 101, 103]⟩ [(BS ⟨#[110, 101, 103]⟩ [(BS ⟨#[97, 100, 100]⟩ [(.mk 0 4 ⟨#[]⟩ [] []), (BS ⟨#[122, 101, 114, 111]⟩ [])])])])).atoms (size (BS ⟨#[110, 101, 103]⟩ [(BS ⟨#[110, 101, 103]⟩ [(BS ⟨#[97, 100, 100]⟩ [(.mk 0 4 ⟨#[]⟩ [] []), (BS ⟨#[122, 101, 114, 111]⟩ [])])])])) (BS ⟨#[110, 101, 103]⟩ [(BS ⟨#[110, 101, 103]⟩ [(BS ⟨#[97, 100, 100]⟩ [(.mk 0 4 ⟨#[]⟩ [] []), (BS ⟨#[122, 101, 114, 111]⟩ [])])])])).1.proof)).map .p)), .val (.p (I 0)), .new [.p (I 0), .p (I 0), .p (.str ⟨#[]⟩), .p (.nils), .p (.nils)], .new [.p (I 0), .p (I 0), .p (.str ⟨#[]⟩), .p (.nils), .p (.nils)]] [.p .any, .p .any, .p (I 0)] [10, 11] D0 At An An An ?_ ?_
 ·exact ⟨⟨_, ([⟨#[69, 113]⟩, ⟨#[69, 113, 46, 114, 101, 102, 108]⟩, ⟨#[69, 113, 46, 115, 121, 109, 109]⟩, ⟨#[69, 113, 46, 116, 114, 97, 110, 115]⟩, ⟨#[69, 113, 46, 99, 111, 110, 103, 114]⟩, ⟨#[90]⟩, ⟨#[97, 100, 100]⟩, ⟨#[122, 101, 114, 111]⟩, ⟨#[110, 101, 103]⟩, ⟨#[111, 110, 101]⟩, ⟨#[108, 48]⟩, ⟨#[108, 49]⟩, ⟨#[108, 50]⟩, ⟨#[108, 51]⟩, ⟨#[108, 52]⟩, ⟨#[108, 53]⟩, ⟨#[108, 54]⟩] : List ByteArray).map fun n => Dc n 0 BZ, At, At, by simp [Dc]⟩, trivial⟩
 refine Bl At (fun Bs => Bb At At (ZK ) (.inl At)) ?_
 rintro _ ⟨ds, rfl, hgn, hgk⟩
 refine B3 At (fun Bs => A0 (i := Bs.length + 4) EG At (Bx At) At) (B3 At (fun Bs => A0 (i := Bs.length + 3) BO At (Bx At) Ak) (B3 At (fun Bs => A0 (i := Bs.length + 1) BO At (Bx At) Ak) (B3 At (fun Bs => Bg At At (Ix (.mk 0 4 ⟨#[]⟩ [] []) (BS ⟨#[122, 101, 114, 111]⟩ [])) At) (B3 At (fun Bs => Bg At At (L8 (BS ⟨#[97, 100, 100]⟩ [(.mk 0 4 ⟨#[]⟩ [] []), (BS ⟨#[122, 101, 114, 111]⟩ [])])) At) (B3 At (fun Bs => Bg At At (L8 (BS ⟨#[110, 101, 103]⟩ [(BS ⟨#[97, 100, 100]⟩ [(.mk 0 4 ⟨#[]⟩ [] []), (BS ⟨#[122, 101, 114, 111]⟩ [])])])) At) ?_)))))
 refine B3 At (fun Bs => CU [5] At (.inl ⟨At, At, At⟩) (Xe GL hG ds (BJ.mk ⟨#[90]⟩ ⟨#[97, 100, 100]⟩ ⟨#[122, 101, 114, 111]⟩ ⟨#[110, 101, 103]⟩ ⟨#[111, 110, 101]⟩ ⟨#[108, 101, 113]⟩ [⟨#[108, 48]⟩, ⟨#[108, 49]⟩, ⟨#[108, 50]⟩, ⟨#[108, 51]⟩, ⟨#[108, 52]⟩, ⟨#[108, 53]⟩, ⟨#[108, 54]⟩, ⟨#[108, 55]⟩, ⟨#[108, 56]⟩, ⟨#[108, 57]⟩, ⟨#[108, 49, 48]⟩, ⟨#[108, 49, 49]⟩, ⟨#[108, 49, 50]⟩, ⟨#[108, 49, 51]⟩]) (BS ⟨#[110, 101, 103]⟩ [(BS ⟨#[110, 101, 103]⟩ [(BS ⟨#[97, 100, 100]⟩ [(.mk 0 4 ⟨#[]⟩ [] []), (BS ⟨#[122, 101, 114, 111]⟩ [])])])]) (by have := congrArg List.length hgn; rw [List.length_map] at this; rw [this]; decide) hgk At (e6 hgn) aj aI bI) ⟨_, _, At, At, At⟩ Aq (aw (we At) (aw (we At) (aw (we At) (Cv))))) (B3 At (fun Bs => Aw At) (B3 At (fun Bs => BY At At) (B3 At (fun Bs => BY At At) ?_)))
 refine B3 At (fun Bs => BY At At) (Un At (fun Bs => BK B7 At) fun b12 => Un At (fun Bs => BK B7 At) fun b13 => U4 ?_)
 refine Py [.box b12 ((Be (EO (BJ.mk ⟨#[90]⟩ ⟨#[97, 100, 100]⟩ ⟨#[122, 101, 114, 111]⟩ ⟨#[110, 101, 103]⟩ ⟨#[111, 110, 101]⟩ ⟨#[108, 101, 113]⟩ [⟨#[108, 48]⟩, ⟨#[108, 49]⟩, ⟨#[108, 50]⟩, ⟨#[108, 51]⟩, ⟨#[108, 52]⟩, ⟨#[108, 53]⟩, ⟨#[108, 54]⟩, ⟨#[108, 55]⟩, ⟨#[108, 56]⟩, ⟨#[108, 57]⟩, ⟨#[108, 49, 48]⟩, ⟨#[108, 49, 49]⟩, ⟨#[108, 49, 50]⟩, ⟨#[108, 49, 51]⟩]) (CP (BJ.mk ⟨#[90]⟩ ⟨#[97, 100, 100]⟩ ⟨#[122, 101, 114, 111]⟩ ⟨#[110, 101, 103]⟩ ⟨#[111, 110, 101]⟩ ⟨#[108, 101, 113]⟩ [⟨#[108, 48]⟩, ⟨#[108, 49]⟩, ⟨#[108, 50]⟩, ⟨#[108, 51]⟩, ⟨#[108, 52]⟩, ⟨#[108, 53]⟩, ⟨#[108, 54]⟩, ⟨#[108, 55]⟩, ⟨#[108, 56]⟩, ⟨#[108, 57]⟩, ⟨#[108, 49, 48]⟩, ⟨#[108, 49, 49]⟩, ⟨#[108, 49, 50]⟩, ⟨#[108, 49, 51]⟩]) (BS ⟨#[110, 101, 103]⟩ [(BS ⟨#[110, 101, 103]⟩ [(BS ⟨#[97, 100, 100]⟩ [(.mk 0 4 ⟨#[]⟩ [] []), (BS ⟨#[122, 101, 114, 111]⟩ [])])])])).coefs (CP (BJ.mk ⟨#[90]⟩ ⟨#[97, 100, 100]⟩ ⟨#[122, 101, 114, 111]⟩ ⟨#[110, 101, 103]⟩ ⟨#[111, 110, 101]⟩ ⟨#[108, 101, 113]⟩ [⟨#[108, 48]⟩, ⟨#[108, 49]⟩, ⟨#[108, 50]⟩, ⟨#[108, 51]⟩, ⟨#[108, 52]⟩, ⟨#[108, 53]⟩, ⟨#[108, 54]⟩, ⟨#[108, 55]⟩, ⟨#[108, 56]⟩, ⟨#[108, 57]⟩, ⟨#[108, 49, 48]⟩, ⟨#[108, 49, 49]⟩, ⟨#[108, 49, 50]⟩, ⟨#[108, 49, 51]⟩]) (BS ⟨#[110, 101, 103]⟩ [(BS ⟨#[110, 101, 103]⟩ [(BS ⟨#[97, 100, 100]⟩ [(.mk 0 4 ⟨#[]⟩ [] []), (BS ⟨#[122, 101, 114, 111]⟩ [])])])])).atoms)).map .p), .box b13 [.p (I 0), .p (I 0), .p (.str ⟨#[]⟩), .p (.nils), .p (.nils)]] At (A6 (i := 0) BO At At At Ak Ac (CF _)) ?_
 refine Py [.box b12 ((Be (EO (BJ.mk ⟨#[90]⟩ ⟨#[97, 100, 100]⟩ ⟨#[122, 101, 114, 111]⟩ ⟨#[110, 101, 103]⟩ ⟨#[111, 110, 101]⟩ ⟨#[108, 101, 113]⟩ [⟨#[108, 48]⟩, ⟨#[108, 49]⟩, ⟨#[108, 50]⟩, ⟨#[108, 51]⟩, ⟨#[108, 52]⟩, ⟨#[108, 53]⟩, ⟨#[108, 54]⟩, ⟨#[108, 55]⟩, ⟨#[108, 56]⟩, ⟨#[108, 57]⟩, ⟨#[108, 49, 48]⟩, ⟨#[108, 49, 49]⟩, ⟨#[108, 49, 50]⟩, ⟨#[108, 49, 51]⟩]) (CP (BJ.mk ⟨#[90]⟩ ⟨#[97, 100, 100]⟩ ⟨#[122, 101, 114, 111]⟩ ⟨#[110, 101, 103]⟩ ⟨#[111, 110, 101]⟩ ⟨#[108, 101, 113]⟩ [⟨#[108, 48]⟩, ⟨#[108, 49]⟩, ⟨#[108, 50]⟩, ⟨#[108, 51]⟩, ⟨#[108, 52]⟩, ⟨#[108, 53]⟩, ⟨#[108, 54]⟩, ⟨#[108, 55]⟩, ⟨#[108, 56]⟩, ⟨#[108, 57]⟩, ⟨#[108, 49, 48]⟩, ⟨#[108, 49, 49]⟩, ⟨#[108, 49, 50]⟩, ⟨#[108, 49, 51]⟩]) (BS ⟨#[110, 101, 103]⟩ [(BS ⟨#[110, 101, 103]⟩ [(BS ⟨#[97, 100, 100]⟩ [(.mk 0 4 ⟨#[]⟩ [] []), (BS ⟨#[122, 101, 114, 111]⟩ [])])])])).coefs (CP (BJ.mk ⟨#[90]⟩ ⟨#[97, 100, 100]⟩ ⟨#[122, 101, 114, 111]⟩ ⟨#[110, 101, 103]⟩ ⟨#[111, 110, 101]⟩ ⟨#[108, 101, 113]⟩ [⟨#[108, 48]⟩, ⟨#[108, 49]⟩, ⟨#[108, 50]⟩, ⟨#[108, 51]⟩, ⟨#[108, 52]⟩, ⟨#[108, 53]⟩, ⟨#[108, 54]⟩, ⟨#[108, 55]⟩, ⟨#[108, 56]⟩, ⟨#[108, 57]⟩, ⟨#[108, 49, 48]⟩, ⟨#[108, 49, 49]⟩, ⟨#[108, 49, 50]⟩, ⟨#[108, 49, 51]⟩]) (BS ⟨#[110, 101, 103]⟩ [(BS ⟨#[110, 101, 103]⟩ [(BS ⟨#[97, 100, 100]⟩ [(.mk 0 4 ⟨#[]⟩ [] []), (BS ⟨#[122, 101, 114, 111]⟩ [])])])])).atoms)).map .p), .box b13 ((Be ((Bv (BJ.mk ⟨#[90]⟩ ⟨#[97, 100, 100]⟩ ⟨#[122, 101, 114, 111]⟩ ⟨#[110, 101, 103]⟩ ⟨#[111, 110, 101]⟩ ⟨#[108, 101, 113]⟩ [⟨#[108, 48]⟩, ⟨#[108, 49]⟩, ⟨#[108, 50]⟩, ⟨#[108, 51]⟩, ⟨#[108, 52]⟩, ⟨#[108, 53]⟩, ⟨#[108, 54]⟩, ⟨#[108, 55]⟩, ⟨#[108, 56]⟩, ⟨#[108, 57]⟩, ⟨#[108, 49, 48]⟩, ⟨#[108, 49, 49]⟩, ⟨#[108, 49, 50]⟩, ⟨#[108, 49, 51]⟩]) (CP (BJ.mk ⟨#[90]⟩ ⟨#[97, 100, 100]⟩ ⟨#[122, 101, 114, 111]⟩ ⟨#[110, 101, 103]⟩ ⟨#[111, 110, 101]⟩ ⟨#[108, 101, 113]⟩ [⟨#[108, 48]⟩, ⟨#[108, 49]⟩, ⟨#[108, 50]⟩, ⟨#[108, 51]⟩, ⟨#[108, 52]⟩, ⟨#[108, 53]⟩, ⟨#[108, 54]⟩, ⟨#[108, 55]⟩, ⟨#[108, 56]⟩, ⟨#[108, 57]⟩, ⟨#[108, 49, 48]⟩, ⟨#[108, 49, 49]⟩, ⟨#[108, 49, 50]⟩, ⟨#[108, 49, 51]⟩]) (BS ⟨#[110, 101, 103]⟩ [(BS ⟨#[110, 101, 103]⟩ [(BS ⟨#[97, 100, 100]⟩ [(.mk 0 4 ⟨#[]⟩ [] []), (BS ⟨#[122, 101, 114, 111]⟩ [])])])])).atoms (size (BS ⟨#[110, 101, 103]⟩ [(BS ⟨#[110, 101, 103]⟩ [(BS ⟨#[97, 100, 100]⟩ [(.mk 0 4 ⟨#[]⟩ [] []), (BS ⟨#[122, 101, 114, 111]⟩ [])])])])) (BS ⟨#[110, 101, 103]⟩ [(BS ⟨#[110, 101, 103]⟩ [(BS ⟨#[97, 100, 100]⟩ [(.mk 0 4 ⟨#[]⟩ [] []), (BS ⟨#[122, 101, 114, 111]⟩ [])])])])).1.proof)).map .p)] At (A6 (i := 1) BO At At At Ak Ac (CF _)) ?_
 refine Py [.box b12 ((Be (EO (BJ.mk ⟨#[90]⟩ ⟨#[97, 100, 100]⟩ ⟨#[122, 101, 114, 111]⟩ ⟨#[110, 101, 103]⟩ ⟨#[111, 110, 101]⟩ ⟨#[108, 101, 113]⟩ [⟨#[108, 48]⟩, ⟨#[108, 49]⟩, ⟨#[108, 50]⟩, ⟨#[108, 51]⟩, ⟨#[108, 52]⟩, ⟨#[108, 53]⟩, ⟨#[108, 54]⟩, ⟨#[108, 55]⟩, ⟨#[108, 56]⟩, ⟨#[108, 57]⟩, ⟨#[108, 49, 48]⟩, ⟨#[108, 49, 49]⟩, ⟨#[108, 49, 50]⟩, ⟨#[108, 49, 51]⟩]) (CP (BJ.mk ⟨#[90]⟩ ⟨#[97, 100, 100]⟩ ⟨#[122, 101, 114, 111]⟩ ⟨#[110, 101, 103]⟩ ⟨#[111, 110, 101]⟩ ⟨#[108, 101, 113]⟩ [⟨#[108, 48]⟩, ⟨#[108, 49]⟩, ⟨#[108, 50]⟩, ⟨#[108, 51]⟩, ⟨#[108, 52]⟩, ⟨#[108, 53]⟩, ⟨#[108, 54]⟩, ⟨#[108, 55]⟩, ⟨#[108, 56]⟩, ⟨#[108, 57]⟩, ⟨#[108, 49, 48]⟩, ⟨#[108, 49, 49]⟩, ⟨#[108, 49, 50]⟩, ⟨#[108, 49, 51]⟩]) (BS ⟨#[110, 101, 103]⟩ [(BS ⟨#[110, 101, 103]⟩ [(BS ⟨#[97, 100, 100]⟩ [(.mk 0 4 ⟨#[]⟩ [] []), (BS ⟨#[122, 101, 114, 111]⟩ [])])])])).coefs (CP (BJ.mk ⟨#[90]⟩ ⟨#[97, 100, 100]⟩ ⟨#[122, 101, 114, 111]⟩ ⟨#[110, 101, 103]⟩ ⟨#[111, 110, 101]⟩ ⟨#[108, 101, 113]⟩ [⟨#[108, 48]⟩, ⟨#[108, 49]⟩, ⟨#[108, 50]⟩, ⟨#[108, 51]⟩, ⟨#[108, 52]⟩, ⟨#[108, 53]⟩, ⟨#[108, 54]⟩, ⟨#[108, 55]⟩, ⟨#[108, 56]⟩, ⟨#[108, 57]⟩, ⟨#[108, 49, 48]⟩, ⟨#[108, 49, 49]⟩, ⟨#[108, 49, 50]⟩, ⟨#[108, 49, 51]⟩]) (BS ⟨#[110, 101, 103]⟩ [(BS ⟨#[110, 101, 103]⟩ [(BS ⟨#[97, 100, 100]⟩ [(.mk 0 4 ⟨#[]⟩ [] []), (BS ⟨#[122, 101, 114, 111]⟩ [])])])])).atoms)).map .p), .box b13 ((Be ((Bv (BJ.mk ⟨#[90]⟩ ⟨#[97, 100, 100]⟩ ⟨#[122, 101, 114, 111]⟩ ⟨#[110, 101, 103]⟩ ⟨#[111, 110, 101]⟩ ⟨#[108, 101, 113]⟩ [⟨#[108, 48]⟩, ⟨#[108, 49]⟩, ⟨#[108, 50]⟩, ⟨#[108, 51]⟩, ⟨#[108, 52]⟩, ⟨#[108, 53]⟩, ⟨#[108, 54]⟩, ⟨#[108, 55]⟩, ⟨#[108, 56]⟩, ⟨#[108, 57]⟩, ⟨#[108, 49, 48]⟩, ⟨#[108, 49, 49]⟩, ⟨#[108, 49, 50]⟩, ⟨#[108, 49, 51]⟩]) (CP (BJ.mk ⟨#[90]⟩ ⟨#[97, 100, 100]⟩ ⟨#[122, 101, 114, 111]⟩ ⟨#[110, 101, 103]⟩ ⟨#[111, 110, 101]⟩ ⟨#[108, 101, 113]⟩ [⟨#[108, 48]⟩, ⟨#[108, 49]⟩, ⟨#[108, 50]⟩, ⟨#[108, 51]⟩, ⟨#[108, 52]⟩, ⟨#[108, 53]⟩, ⟨#[108, 54]⟩, ⟨#[108, 55]⟩, ⟨#[108, 56]⟩, ⟨#[108, 57]⟩, ⟨#[108, 49, 48]⟩, ⟨#[108, 49, 49]⟩, ⟨#[108, 49, 50]⟩, ⟨#[108, 49, 51]⟩]) (BS ⟨#[110, 101, 103]⟩ [(BS ⟨#[110, 101, 103]⟩ [(BS ⟨#[97, 100, 100]⟩ [(.mk 0 4 ⟨#[]⟩ [] []), (BS ⟨#[122, 101, 114, 111]⟩ [])])])])).atoms (size (BS ⟨#[110, 101, 103]⟩ [(BS ⟨#[110, 101, 103]⟩ [(BS ⟨#[97, 100, 100]⟩ [(.mk 0 4 ⟨#[]⟩ [] []), (BS ⟨#[122, 101, 114, 111]⟩ [])])])])) (BS ⟨#[110, 101, 103]⟩ [(BS ⟨#[110, 101, 103]⟩ [(BS ⟨#[97, 100, 100]⟩ [(.mk 0 4 ⟨#[]⟩ [] []), (BS ⟨#[122, 101, 114, 111]⟩ [])])])])).1.proof)).map .p)] At (Ay At) ?_
 refine Zj (Ax (Ax (Av (Au At At (Aw At) (Au At At (BA At At At) (Au At At (Aw At) (A3 At At At At (Aw At) (A3 At At At At (BA At At At) (Au At At (A7 At At) (Au At At (Aw At) (A3 At At At At (Aw At) ?_)))))))))))
 refine A3 At At At At (BA At At At) (Au At At (A7 At At) (Au At At (Aw At) (A3 At At At At (Aw At) (A3 At At At At (Bp By At (Bo _)) (A3 At At At At (BA At At At) (Au At At (A7 At At) (Au At At (Aw At) (Bm 72 At (fun g => ?_) (fun g => ?_)))))))))
 ·(try simp only [sd, se] at g)
  refine A5 At At At At At (A5 At At At At At (A5 At At At At At (Au At At (A7 At At) (Az At ?_))))
  refine A9 At (fun c => ?_) (fun c => by cases c)
  refine Ax (Av (Au At At (Ay At) (Az At (BB ?_))))
  first | exact absurd g Aq | exact absurd c Aq
 ·(try simp only [sd, se] at g)
  refine A3 At At At At (Aw At) (A3 At At At At (Bp By At (Bo _)) (A3 At At At At (BA At At At) (Au At At (A7 At At) (Az At (A9 At (fun c => ?_) (fun c => ?_))))))
  ·(try simp only [sd, se] at c)
   refine Ax (Av (Au At At (Ay At) (Az At (BB ?_))))
   first | exact absurd g Aq | exact absurd c Aq
  ·(try simp only [sd, se] at c)
   refine BC (Ax (CQ (fun k => false) D0 (A4 At At (fun _ => Aw At) trivial (A4 At At (fun _ => CO D9 S9 At At At At At) trivial (A4 At At (fun _ => Bg At At (Kw [2, -1] [2, (-1)] Aq At) At) trivial (A4 At At (fun _ => Aw At) trivial (CB At At At At (fun _ => Aw At) trivial (CB At At At At (fun _ => BL By At At As (CH hx0) (Bj _)) trivial (CB At At At At (fun _ => Bi BO At (Bj _)) trivial (C5 (i := 5) At At At At At (fun H i hi => A0 (i := i) BO At hi Ak) AA trivial (CB At At At At (fun _ => Bg At At (K9 e0 (.mk 0 4 ⟨#[]⟩ [] []) (he0 ▸ Lc.nd) he0) At) trivial ?_)))))))))))
   refine A4 At At (fun _ => A7 At At) trivial (A4 At At (fun _ => Aw At) trivial (CB At At At At (fun _ => Aw At) trivial (CB At At At At (fun _ => BL By At At As (CH hx1) (Bj _)) trivial (CB At At At At (fun _ => Bi BO At (Bj _)) trivial (C5 (i := 4) At At At At At (fun H i hi => A0 (i := i) BO At hi Ak) AA trivial (CB At At At At (fun _ => Bg At At (K9 e1 (.mk 0 2 ⟨#[]⟩ [] []) (he1 ▸ UP.nd) he1) At) trivial (A4 At At (fun _ => A7 At At) trivial (A4 At At (fun _ => Aw At) trivial (CB At At At At (fun _ => Aw At) trivial (CB At At At At (fun _ => CO D9 S9 At At At At At) trivial (CB At At At At (fun _ => Bg At At (Kw [0] [0] Aq At) At) trivial ?_)))))))))))
   refine A4 At At (fun _ => A7 At At) trivial (A4 At At (fun _ => Aw At) trivial (C5 (i := 2) At At At At At (fun H i hi => A0 (i := i) BO At hi Ak) AA trivial (C5 (i := 5) At At At At At (fun H i hi => A0 (i := i) BO At hi Ak) AA trivial (C5 (i := 5) At At At At At (fun H i hi => A0 (i := i) BO At hi Ak) AA trivial (C5 (i := 4) At At At At At (fun H i hi => A0 (i := i) BO At hi Ak) AA trivial (CB At At At At (fun _ => Bg At At (L8 (.mk 0 2 ⟨#[]⟩ [] [])) At) trivial (C5 (i := 3) At At At At At (fun H i hi => A0 (i := i) BO At hi Ak) AA trivial (CB At At At At (fun _ => Bg At At (Ix (BS ⟨#[110, 101, 103]⟩ [(.mk 0 2 ⟨#[]⟩ [] [])]) (BS ⟨#[122, 101, 114, 111]⟩ [])) At) trivial ?_))))))))
   refine CB At At At At (fun _ => Bg At At (Ix (.mk 0 4 ⟨#[]⟩ [] []) (BS ⟨#[97, 100, 100]⟩ [(BS ⟨#[110, 101, 103]⟩ [(.mk 0 2 ⟨#[]⟩ [] [])]), (BS ⟨#[122, 101, 114, 111]⟩ [])])) At) trivial (CB At At At At (fun _ => Bg At At (Ix (.mk 0 4 ⟨#[]⟩ [] []) (BS ⟨#[97, 100, 100]⟩ [(.mk 0 4 ⟨#[]⟩ [] []), (BS ⟨#[97, 100, 100]⟩ [(BS ⟨#[110, 101, 103]⟩ [(.mk 0 2 ⟨#[]⟩ [] [])]), (BS ⟨#[122, 101, 114, 111]⟩ [])])])) At) trivial ?_)
   refine CB At At At At (fun _ => Bg At At (K9 (EO (BJ.mk ⟨#[90]⟩ ⟨#[97, 100, 100]⟩ ⟨#[122, 101, 114, 111]⟩ ⟨#[110, 101, 103]⟩ ⟨#[111, 110, 101]⟩ ⟨#[108, 101, 113]⟩ [⟨#[108, 48]⟩, ⟨#[108, 49]⟩, ⟨#[108, 50]⟩, ⟨#[108, 51]⟩, ⟨#[108, 52]⟩, ⟨#[108, 53]⟩, ⟨#[108, 54]⟩, ⟨#[108, 55]⟩, ⟨#[108, 56]⟩, ⟨#[108, 57]⟩, ⟨#[108, 49, 48]⟩, ⟨#[108, 49, 49]⟩, ⟨#[108, 49, 50]⟩, ⟨#[108, 49, 51]⟩]) [2, -1] ([(.mk 0 4 ⟨#[]⟩ [] []), (.mk 0 2 ⟨#[]⟩ [] [])])) (BS ⟨#[97, 100, 100]⟩ [(.mk 0 4 ⟨#[]⟩ [] []), (BS ⟨#[97, 100, 100]⟩ [(.mk 0 4 ⟨#[]⟩ [] []), (BS ⟨#[97, 100, 100]⟩ [(BS ⟨#[110, 101, 103]⟩ [(.mk 0 2 ⟨#[]⟩ [] [])]), (BS ⟨#[122, 101, 114, 111]⟩ [])])])]) Zz YL) At) trivial (A4 At At (fun _ => A7 At At) trivial (A4 At At (fun _ => Aw At) trivial (C5 (i := 6) At At At At At (fun H i hi => A0 (i := i) EG At hi At) AA trivial ?_)))
   refine CB At At At At (fun _ => Aw At) trivial (CB At At At At (fun _ => Aw At) trivial (CB At At At At (fun _ => Bg At At (JT (BJ.mk ⟨#[90]⟩ ⟨#[97, 100, 100]⟩ ⟨#[122, 101, 114, 111]⟩ ⟨#[110, 101, 103]⟩ ⟨#[111, 110, 101]⟩ ⟨#[108, 101, 113]⟩ [⟨#[108, 48]⟩, ⟨#[108, 49]⟩, ⟨#[108, 50]⟩, ⟨#[108, 51]⟩, ⟨#[108, 52]⟩, ⟨#[108, 53]⟩, ⟨#[108, 54]⟩, ⟨#[108, 55]⟩, ⟨#[108, 56]⟩, ⟨#[108, 57]⟩, ⟨#[108, 49, 48]⟩, ⟨#[108, 49, 49]⟩, ⟨#[108, 49, 50]⟩, ⟨#[108, 49, 51]⟩]) [0] ([(.mk 0 4 ⟨#[]⟩ [] [])]) Aq) At) trivial (C5 (i := 3) At At At At At (fun H i hi => A0 (i := i) BO At hi Ak) AA trivial ?_)))
   refine CB At At At At (fun _ => Bg At At (K9 (EO (BJ.mk ⟨#[90]⟩ ⟨#[97, 100, 100]⟩ ⟨#[122, 101, 114, 111]⟩ ⟨#[110, 101, 103]⟩ ⟨#[111, 110, 101]⟩ ⟨#[108, 101, 113]⟩ [⟨#[108, 48]⟩, ⟨#[108, 49]⟩, ⟨#[108, 50]⟩, ⟨#[108, 51]⟩, ⟨#[108, 52]⟩, ⟨#[108, 53]⟩, ⟨#[108, 54]⟩, ⟨#[108, 55]⟩, ⟨#[108, 56]⟩, ⟨#[108, 57]⟩, ⟨#[108, 49, 48]⟩, ⟨#[108, 49, 49]⟩, ⟨#[108, 49, 50]⟩, ⟨#[108, 49, 51]⟩]) [0] ([(.mk 0 4 ⟨#[]⟩ [] [])])) (BS ⟨#[122, 101, 114, 111]⟩ []) aU YR) At) trivial (A4 At At (fun _ => A7 At At) trivial (A4 At At (fun _ => Aw At) trivial (C5 (i := 0) At At At At At (fun H i hi => A0 (i := i) BO At hi Ak) AA trivial (C5 (i := 5) At At At At At (fun H i hi => A0 (i := i) BO At hi Ak) AA trivial (C5 (i := 3) At At At At At (fun H i hi => A0 (i := i) BO At hi Ak) AA trivial ?_)))))
   refine CB At At At At (fun _ => Bg At At (Ix (.mk 0 4 ⟨#[]⟩ [] []) (BS ⟨#[122, 101, 114, 111]⟩ [])) At) trivial ?_
   refine CB At At At At (fun _ => Bg At At (K9 (EO (BJ.mk ⟨#[90]⟩ ⟨#[97, 100, 100]⟩ ⟨#[122, 101, 114, 111]⟩ ⟨#[110, 101, 103]⟩ ⟨#[111, 110, 101]⟩ ⟨#[108, 101, 113]⟩ [⟨#[108, 48]⟩, ⟨#[108, 49]⟩, ⟨#[108, 50]⟩, ⟨#[108, 51]⟩, ⟨#[108, 52]⟩, ⟨#[108, 53]⟩, ⟨#[108, 54]⟩, ⟨#[108, 55]⟩, ⟨#[108, 56]⟩, ⟨#[108, 57]⟩, ⟨#[108, 49, 48]⟩, ⟨#[108, 49, 49]⟩, ⟨#[108, 49, 50]⟩, ⟨#[108, 49, 51]⟩]) (CP (BJ.mk ⟨#[90]⟩ ⟨#[97, 100, 100]⟩ ⟨#[122, 101, 114, 111]⟩ ⟨#[110, 101, 103]⟩ ⟨#[111, 110, 101]⟩ ⟨#[108, 101, 113]⟩ [⟨#[108, 48]⟩, ⟨#[108, 49]⟩, ⟨#[108, 50]⟩, ⟨#[108, 51]⟩, ⟨#[108, 52]⟩, ⟨#[108, 53]⟩, ⟨#[108, 54]⟩, ⟨#[108, 55]⟩, ⟨#[108, 56]⟩, ⟨#[108, 57]⟩, ⟨#[108, 49, 48]⟩, ⟨#[108, 49, 49]⟩, ⟨#[108, 49, 50]⟩, ⟨#[108, 49, 51]⟩]) (BS ⟨#[110, 101, 103]⟩ [(BS ⟨#[110, 101, 103]⟩ [(BS ⟨#[97, 100, 100]⟩ [(.mk 0 4 ⟨#[]⟩ [] []), (BS ⟨#[122, 101, 114, 111]⟩ [])])])])).coefs (CP (BJ.mk ⟨#[90]⟩ ⟨#[97, 100, 100]⟩ ⟨#[122, 101, 114, 111]⟩ ⟨#[110, 101, 103]⟩ ⟨#[111, 110, 101]⟩ ⟨#[108, 101, 113]⟩ [⟨#[108, 48]⟩, ⟨#[108, 49]⟩, ⟨#[108, 50]⟩, ⟨#[108, 51]⟩, ⟨#[108, 52]⟩, ⟨#[108, 53]⟩, ⟨#[108, 54]⟩, ⟨#[108, 55]⟩, ⟨#[108, 56]⟩, ⟨#[108, 57]⟩, ⟨#[108, 49, 48]⟩, ⟨#[108, 49, 49]⟩, ⟨#[108, 49, 50]⟩, ⟨#[108, 49, 51]⟩]) (BS ⟨#[110, 101, 103]⟩ [(BS ⟨#[110, 101, 103]⟩ [(BS ⟨#[97, 100, 100]⟩ [(.mk 0 4 ⟨#[]⟩ [] []), (BS ⟨#[122, 101, 114, 111]⟩ [])])])])).atoms) (BS ⟨#[97, 100, 100]⟩ [(.mk 0 4 ⟨#[]⟩ [] []), (BS ⟨#[122, 101, 114, 111]⟩ [])]) bH YC) At) trivial ?_
   refine A4 At At (fun _ => A7 At At) trivial (A4 At At (fun _ => Ay At) trivial (CK At An (BB (⟨At, _, _, ⟨_, _, At, At, At⟩, (Cj (is := [7]) At), ?_⟩))))
   all_goals exact ⟨rfl, rfl⟩
theorem Gp {th : BJ} {t : Tm} (h : ER t) (hs : size t < 1000000) : (B5 th t).1.length < 1000000 ∧ Ic (B5 th t).2.1 ∧ (B5 th t).2.1.length < 1000000 := by
 have k := FO th t
 have g := Q7 (th := th) h hs
 have h1 := k.len
 have h2 := k.lt
 unfold B5
 split
 ·exact ⟨by simp, trivial, by simp⟩
 ·exact ⟨by show (CP th t).coefs.length < 1000000; omega, g.nds, by show (CP th t).atoms.length < 1000000; omega⟩
theorem Qb (a b : List Tm) (h1 : Ic a) (h2 : a.length < 1000000) (h3 : a = b) : G5 Tryz.prog 31 [.p (.lst (BR a)), .p (.lst (BR b))] (.p (.bool true)) := by
 have := Vb a b h1 h2
 rwa [C3 h3] at this
theorem Yi : ∀ (GL : List (Nat × Obj)) (hG : Gl GL) (th : BJ) (t : Tm), (th.lemmas.length ≤ 8796093021952) → (Wd t) → Bt Tryz.prog 7 [.agg ((EE th).map .p), .agg ((Be t).map .p)] [.glob GL] (DC (.p (.bool true)) [.glob GL]) := by
 intro GL hG th t h1 h2
 refine A8 Tryz.func7 At gZ (n := 51) At At (Ax (Av (BM At At (Bh At) fun b2 => BM At At (Bh At) fun b3 => Au At At (Ay At) (Az At (Ax (Ax (CA [2, 3] 19 (fun y => ∃ b : Bool, y = .p (.bool b) ∧ (b = false → ER t ∧ size t ≤ 200)) ?_ ?_)))))))
 ·refine Av (Au At At (A0 (i := 1) EG At At At) (Ff At At (Bb At At (SN th h1) (.inl At)) ?_))
  rintro _ ⟨b, rfl, hb⟩
  refine Au At At (Cg At) (Au At At (Aw At) (Bm 14 At (fun g => ?_) (fun g => ?_)))
  ·(try simp only [sd, se] at g)
   exact A5 At At At At At (A5 At At At At At (A5 At At At At At (A5 At At At At At (Au At At (A7 At At) (Az At (⟨At, At, AJ, (by refine ⟨_, rfl, fun h => ?_⟩; first | (exact absurd h Aq) | (simp_all; done)), ⟨At, At, trivial⟩⟩))))))
  ·(try simp only [sd, se] at g)
   refine A3 At At At At (A0 (i := 0) BO At At Ak) (A3 At At At At (BU (rows := BR [t]) By B7 At At At At (Bz (CC _)) (C1 _)) (Js At At At At (Bb At At (Ld [t] ⟨h2, trivial⟩ (by simp [wide])) (.inl At)) ?_))
   rintro _ ⟨b1, rfl, hb1⟩
   exact A3 At At At At (Cg At) (Au At At (A7 At At) (Az At (⟨At, At, AJ, (by refine ⟨_, rfl, fun h => ?_⟩; first | (exact absurd h Aq) | (simp_all; done)), ⟨At, At, trivial⟩⟩)))
 rintro _ ⟨q, rfl, hq⟩
 refine A9 At (fun c => ?_) (fun c => ?_)
 ·(try simp only [sd, se] at c)
  refine Ax (Av (Au At At (B6 [2] At (.inl ⟨At, At, At⟩) (En GL hG ) ⟨_, _, At, At, At⟩ Aq At (.inl At)) (Au At At (Ay At) (Az At (BB (⟨At, _, _, ⟨_, _, At, At, At⟩, (Cj (is := [2]) At), ?_⟩))))))
  all_goals exact ⟨rfl, rfl⟩
 ·(try simp only [sd, se] at c)
  have hq1 := hq (by simpa using c)
  have hff := Gp (th := th) hq1.1 (by have := hq1.2; omega)
  refine BC (Ax (Av (Au At At (A0 (i := 1) EG At At At) (Au At At (A0 (i := 0) BO At At Ak) (Au At At (B6 [2] At (.inl ⟨At, At, At⟩) (Io GL hG th t hq1.1 (by have := hq1.2; omega)) ⟨_, _, At, At, At⟩ Aq At (.inl At)) (Au At At (Aw At) (Au At At (BY At At) (Au At At (BY At At) (Au At At (BY At At) (Au At At (Ay At) (Au At At (Ay At) ?_)))))))))))
  refine Au At At (Ay At) (Az At (Ax (Av (Au At At (A0 (i := 1) EG At At At) (Au At At (A0 (i := 0) BO At At Ak) (Au At At (Bg At At (Xx th t hq1.1 (by have := hq1.2; omega)) At) (Au At At (Aw At) (Au At At (BY At At) (Au At At (BY At At) (Au At At (BY At At) (Au At At (Ay At) ?_)))))))))))
  refine Au At At (Ay At) (Au At At (Ay At) (Az At (Ax (CA [] 4 (fun y => y = .p (.bool true)) ?_ ?_))))
  ·refine Av (Au At At (Aw At) (Au At At (Aw At) (Au At At (BA At At At) (Au At At (Aw At) (Bm 38 At (fun g => ?_) (fun g => ?_))))))
   ·(try simp only [sd, se] at g)
    refine A3 At At At At (Aw At) (A3 At At At At (Aw At) (A3 At At At At (Bg At At (Kw ((B5 th t).1) ((B5 th t).1) (by have := hff.1; simp only [EC]; omega) At) At) (Au At At (A7 At At) (Au At At (Aw At) (A3 At At At At (Aw At) (A3 At At At At (Aw At) (A3 At At At At (Bg At At (Qb ((B5 th t).2.1) ((B5 th t).2.1) hff.2.1 hff.2.2 At) At) (Au At At (A7 At At) (Au At At (Aw At) (A3 At At At At (B6 [2] At (.inl ⟨At, At, At⟩) (En GL hG ) ⟨_, _, At, At, At⟩ Aq At (.inl At)) (Au At At (A7 At At) ?_)))))))))))
    exact Au At At (Ay At) (Az At ⟨At, At, AJ, (by first | rfl | (refine absurd g ?_; simp; done)), trivial⟩)
   ·(try simp only [sd, se] at g)
    refine A5 At At At At At (A5 At At At At At (A5 At At At At At (Au At At (A7 At At) (Au At At (Aw At) (A5 At At At At At (A5 At At At At At (A5 At At At At At (Au At At (A7 At At) (Au At At (Aw At) (A5 At At At At At (Au At At (A7 At At) ?_)))))))))))
    exact Au At At (Ay At) (Az At ⟨At, At, AJ, (by first | rfl | (refine absurd g ?_; simp; done)), trivial⟩)
  rintro _ rfl
  refine BB (⟨At, _, _, ⟨_, _, At, At, At⟩, (Cj (is := [2]) At), ?_⟩)
  all_goals exact ⟨rfl, rfl⟩
end Go.Proofs.YtapmjpihennhaaaGreatDoor
namespace Go.Eu
open Go.Abs
theorem Sj (a b : Int) : wr (wr a + b) = wr (a + b) := by unfold wr; simp only [IntKind.wrap_i64]; omega
theorem VP (a : Int) : wr (- wr a) = wr (- a) := by unfold wr; simp only [IntKind.wrap_i64]; omega
theorem ZE (a b : Int) : wr (wr a - wr b) = wr (a - b) := by unfold wr; simp only [IntKind.wrap_i64]; omega
theorem X7 (a : Int) : ∃ k : Int, wr a = a + 18446744073709551616 * k := by
 unfold wr
 simp only [IntKind.wrap_i64]
 exact ⟨-((a + 9223372036854775808) / 18446744073709551616), by omega⟩
theorem Ur (a k : Int) : wr (a + 18446744073709551616 * k) = wr a := by unfold wr; simp only [IntKind.wrap_i64]; omega
theorem Yf {a b : Int} (h : wr a = wr b) (c : Int) : wr (a + c) = wr (b + c) := by rw [← Sj, h, Sj]
def Fe : List Int → List Tm → (Tm → Int) → Int
 | c :: cs, a :: as', v => c * v a + Fe cs as' v
 | _, _, _ => 0
theorem PQ : ∀ {cs : List Int} {us : List Tm} {s : Int} {t : Tm} {v : Tm → Int}, cs.length = us.length → Fe (cs ++ [s]) (us ++ [t]) v = Fe cs us v + s * v t
 | [], [], s, t, v, _ => by simp [Fe]
 | c :: cs, u :: us, s, t, v, h => by
  have := PQ (s := s) (t := t) (v := v) (cs := cs) (us := us) (by simpa using h)
  simp only [List.cons_append, Fe, this]
  omega
theorem RA : ∀ {cs : List Int} {us : List Tm} {v : Tm → Int} {i : Nat} {x : Int}, cs.length = us.length → i < us.length → Fe (cs.set i x) us v = Fe cs us v + (x - cs.getD i 0) * v (us.getD i BZ)
 | [], [], v, i, x, _, h => by simp at h
 | c :: cs, u :: us, v, 0, x, _, _ => by
  simp only [List.set_cons_zero, Fe, List.getD_cons_zero, Int.sub_mul]
  omega
 | c :: cs, u :: us, v, i + 1, x, h, h' => by
  have := RA (v := v) (i := i) (x := x) (cs := cs) (us := us) (by simpa using h) (by simpa using h')
  simp only [List.set_cons_succ, Fe, List.getD_cons_succ, this]
  omega
noncomputable def Hu (th : BJ) (v : Tm → Int) : Nat → Tm → Int
 | 0, _ => 0
 | n + 1, t =>
  if (Cu th t).1 = 1 then Hu th v n ((Cu th t).2.getD 0 BZ) + Hu th v n ((Cu th t).2.getD 1 BZ)
  else if (Cu th t).1 = 2 then 0
  else if (Cu th t).1 = 3 then - Hu th v n ((Cu th t).2.getD 0 BZ)
  else v t
theorem VI {C : FQ} {t : Tm} {s : Int} {v : Tm → Int} (h : Ft C) : wr (Fe (ET C t s).coefs (ET C t s).atoms v) = wr (Fe C.coefs C.atoms v + s * v t) := by
 unfold ET
 by_cases hm : t ∈ C.atoms
 ·obtain ⟨h1, h2⟩ := Da hm
  rw [if_pos h1]
  simp only
  rw [RA h.len h1, h2]
  obtain ⟨k, hk⟩ := X7 (C.coefs.getD (Cl C.atoms t) 0 + s)
  rw [hk, show C.coefs.getD (Cl C.atoms t) 0 + s + 18446744073709551616 * k - C.coefs.getD (Cl C.atoms t) 0 = s + 18446744073709551616 * k by omega, Int.add_mul, Int.mul_assoc, ← Int.add_assoc, Ur]
 ·rw [if_neg (DR hm)]
  simp only
  rw [PQ h.len]
theorem Gy {th : BJ} {v : Tm → Int} : ∀ (n : Nat) (C : FQ) (t : Tm) (s : Int), Ft C → (Bw th n C t s).all ≤ 200 → wr (Fe (Bw th n C t s).coefs (Bw th n C t s).atoms v) = wr (Fe C.coefs C.atoms v + s * Hu th v n t)
 | 0, C, t, s, h, hl => by simp [Bw, Hu]
 | n + 1, C, t, s, h, hl => by
  have hC : ¬ C.all > 200 := by have := FK (th := th) (n + 1) C t s h; omega
  unfold Bw at hl ⊢
  unfold Hu
  rw [if_neg hC] at hl ⊢
  by_cases h1 : (Cu th t).1 = 1
  ·rw [if_pos h1] at hl ⊢
   rw [if_pos h1]
   have hk := Dh (th := th) n C ((Cu th t).2.getD 0 BZ) s h
   have e2 := Gy (th := th) (v := v) n _ _ _ hk hl
   have e1 := Gy (th := th) (v := v) n C ((Cu th t).2.getD 0 BZ) s h (by have := FK (th := th) n _ ((Cu th t).2.getD 1 BZ) s hk; omega)
   rw [e2, Yf e1, Int.mul_add, Int.add_assoc]
  ·rw [if_neg h1] at hl ⊢
   rw [if_neg h1]
   by_cases h2 : (Cu th t).1 = 2
   ·rw [if_pos h2, if_pos h2]; simp
   ·rw [if_neg h2] at hl ⊢
    rw [if_neg h2]
    by_cases h3 : (Cu th t).1 = 3
    ·rw [if_pos h3] at hl ⊢
     rw [if_pos h3]
     have e := Gy (th := th) (v := v) n C ((Cu th t).2.getD 0 BZ) (wr (-s)) h hl
     obtain ⟨k, hk⟩ := X7 (-s)
     rw [e, hk, Int.add_mul, Int.mul_assoc, ← Int.add_assoc, Ur]
     congr 2
     rw [Int.neg_mul, Int.mul_neg]
    ·rw [if_neg h3, if_neg h3]
     exact VI h
structure Tj (th : BJ) (C : FQ) : Prop where
 nodup : C.atoms.Nodup
 atom : ∀ a ∈ C.atoms, (Cu th a).1 = 0
 rng : ∀ c ∈ C.coefs, rng c
theorem Zi {th : BJ} : Tj th ⟨[], [], 0⟩ := ⟨by simp, by simp, by simp⟩
theorem Xi {th : BJ} (t : Tm) : (Cu th t).1 = 0 ∨ (Cu th t).1 = 1 ∨ (Cu th t).1 = 2 ∨ (Cu th t).1 = 3 := by
 unfold Cu
 repeat' split
 all_goals simp
theorem Yy {th : BJ} {C : FQ} {t : Tm} {s : Int} (h : Tj th C) (ht : (Cu th t).1 = 0) (hs : Go.Eu.rng s) : Tj th (ET C t s) := by
 unfold ET
 by_cases hm : t ∈ C.atoms
 ·rw [if_pos (Da hm).1]
  refine ⟨h.nodup, h.atom, fun c hc => ?_⟩
  rcases List.mem_or_eq_of_mem_set hc with hc | rfl
  ·exact h.rng c hc
  ·exact Nv _
 ·rw [if_neg (DR hm)]
  refine ⟨?_, fun a ha => ?_, fun c hc => ?_⟩
  ·rw [List.nodup_append]
   refine ⟨h.nodup, by simp, fun a ha b hb e => ?_⟩
   simp at hb
   subst hb e
   exact hm ha
  ·rcases List.mem_append.1 ha with ha | ha
   ·exact h.atom a ha
   ·simp at ha; subst ha; exact ht
  ·rcases List.mem_append.1 hc with hc | hc
   ·exact h.rng c hc
   ·simp at hc; subst hc; exact hs
theorem Jv {th : BJ} : ∀ (n : Nat) (C : FQ) (t : Tm) (s : Int), Tj th C → Go.Eu.rng s → Tj th (Bw th n C t s)
 | 0, C, t, s, h, _ => h
 | n + 1, C, t, s, h, hs => by
  unfold Bw
  split
  ·exact h
  ·split
   ·exact Jv n _ _ _ (Jv n _ _ _ h hs) hs
   ·split
    ·exact h
    ·split
     ·exact Jv n _ _ _ h (Nv _)
     ·exact Yy h (by rcases Xi (th := th) t with h | h | h | h <;> first | exact h | contradiction) hs
theorem L1 (th : BJ) (t : Tm) : Tj th (CP th t) := Jv _ _ _ _ Zi ⟨by decide, by decide⟩
theorem F6 {th : BJ} : ∀ (n m : Nat) (C : FQ) (t : Tm) (s : Int), ER t → size t ≤ n → size t ≤ m → Bw th n C t s = Bw th m C t s
 | 0, _, C, t, s, _, h, _ => by have := size_pos t; omega
 | _, 0, C, t, s, _, _, h => by have := size_pos t; omega
 | n + 1, m + 1, C, t, s, ht, h, h' => by
  unfold Bw
  split
  ·rfl
  ·split
   ·rename_i ho
    obtain ⟨h1, h2, h3⟩ := ht.op.1 ho
    have p1 := size_pos ((Cu th t).2.getD 0 BZ)
    have p2 := size_pos ((Cu th t).2.getD 1 BZ)
    rw [F6 n m _ _ _ h1 Ar Ar, F6 n m _ _ _ h2 Ar Ar]
   ·split
    ·rfl
    ·split
     ·rename_i ho
      obtain ⟨h1, h3⟩ := ht.op.2 ho
      exact F6 n m _ _ _ h1 Ar Ar
     ·rfl
theorem JJ {th : BJ} {v : Tm → Int} : ∀ (n m : Nat) (t : Tm), ER t → size t ≤ n → size t ≤ m → Hu th v n t = Hu th v m t
 | 0, _, t, _, h, _ => by have := size_pos t; omega
 | _, 0, t, _, _, h => by have := size_pos t; omega
 | n + 1, m + 1, t, ht, h, h' => by
  unfold Hu
  split
  ·rename_i ho
   obtain ⟨h1, h2, h3⟩ := ht.op.1 ho
   have p1 := size_pos ((Cu th t).2.getD 0 BZ)
   have p2 := size_pos ((Cu th t).2.getD 1 BZ)
   rw [JJ n m _ h1 Ar Ar, JJ n m _ h2 Ar Ar]
  ·split
   ·rfl
   ·split
    ·rename_i ho
     obtain ⟨h1, h3⟩ := ht.op.2 ho
     rw [JJ n m _ h1 Ar Ar]
    ·rfl
theorem SF {th : BJ} {n : ByteArray} {l : List Tm} (hs : Bq (BS n l) = (.mk 3 0 n [] [], l)) : (n = th.add → l.length = 2 → Cu th (BS n l) = (1, l)) ∧ (n = th.zero → l = [] → Cu th (BS n l) = (2, [])) ∧ (n = th.neg → l.length = 1 → Cu th (BS n l) = (3, l)) := by
 unfold Cu
 rw [hs]
 simp only [DN, Tm.kind, Tm.name, Tm.levels]
 refine ⟨?_, ?_, ?_⟩
 ·rintro rfl h; simp [h]
 ·rintro rfl rfl; simp
 ·rintro rfl h; simp [h]
theorem Rm (n : ByteArray) : Bq (BS n []) = (.mk 3 0 n [] [], []) := rfl
theorem Ri (n : ByteArray) (x : Tm) : Bq (BS n [x]) = (.mk 3 0 n [] [], [x]) := by simp [BS, apply, MD, Bq]
theorem Sa (n : ByteArray) (x y : Tm) : Bq (BS n [x, y]) = (.mk 3 0 n [] [], [x, y]) := by simp [BS, apply, MD, Bq]
theorem Ha (th : BJ) (x y : Tm) : Cu th (BS th.add [x, y]) = (1, [x, y]) := (SF (th := th) (Sa _ x y)).1 rfl rfl
theorem OO (th : BJ) : Cu th (BS th.zero []) = (2, []) := (SF (th := th) (Rm _)).2.1 rfl rfl
theorem Jn (th : BJ) (x : Tm) : Cu th (BS th.neg [x]) = (3, [x]) := (SF (th := th) (Ri _ x)).2.2 rfl rfl
noncomputable def GH (cs : List Int) (us : List Tm) (t : Tm) : Int := if Cl us t < us.length then cs.getD (Cl us t) 0 else 0
noncomputable def Pm (u t : Tm) : Int := @ite _ (t = u) (Classical.propDecidable _) 1 0
theorem UR (u : Tm) : Pm u u = 1 := by simp [Pm]
theorem Vg {u t : Tm} (h : t ≠ u) : Pm u t = 0 := by simp [Pm, h]
theorem RO {u : Tm} : ∀ {cs : List Int} {us : List Tm}, u ∉ us → Fe cs us (Pm u) = 0
 | [], us, _ => by simp [Fe]
 | c :: cs, [], _ => by simp [Fe]
 | c :: cs, a :: us, h => by
  simp only [List.mem_cons, not_or] at h
  simp only [Fe, Vg (Ne.symm h.1), RO h.2]
  omega
theorem MH {u : Tm} {us : List Tm} : Cl (u :: us) u = 0 := by
 simp [Cl, List.findIdx_cons, C3]
theorem Np {u a : Tm} {us : List Tm} (h : a ≠ u) : Cl (a :: us) u = Cl us u + 1 := by
 simp [Cl, List.findIdx_cons, DK h]
theorem TL {u : Tm} : ∀ {cs : List Int} {us : List Tm}, cs.length = us.length → us.Nodup → Fe cs us (Pm u) = GH cs us u
 | [], [], _, _ => by simp [Fe, GH]
 | c :: cs, a :: us, h, hn => by
  rw [List.nodup_cons] at hn
  unfold GH
  by_cases e : a = u
  ·subst e
   rw [MH, if_pos As]
   simp only [Fe, UR, RO hn.1, List.getD_cons_zero]
   omega
  ·have := TL (u := u) (cs := cs) (us := us) (by simpa using h) hn.2
   rw [Np e]
   simp only [Fe, Vg e, this, GH, List.length_cons, List.getD_cons_succ, Nat.add_lt_add_iff_right]
   omega
theorem V2 {cs : List Int} (h : ∀ c ∈ cs, rng c) (us : List Tm) (t : Tm) : rng (GH cs us t) := by
 unfold GH
 split
 ·cases e : cs[Cl us t]? with
  | none => rw [List.getD_eq_getElem?_getD, e]; exact ⟨by decide, by decide⟩
  | some c => rw [List.getD_eq_getElem?_getD, e]; exact h c (List.mem_of_getElem? e)
 ·exact ⟨by decide, by decide⟩
theorem Nc {th : BJ} {t u : Tm} (hl : (CP th t).all ≤ 200) : GH (CP th t).coefs (CP th t).atoms u = wr (Hu th (Pm u) (size t) t) := by
 have h := Gy (th := th) (v := Pm u) (size t) ⟨[], [], 0⟩ t 1 Fx hl
 have k := FO th t
 have d := L1 th t
 change wr (Fe (CP th t).coefs (CP th t).atoms (Pm u)) = _ at h
 rw [TL k.len d.nodup, FZ (V2 d.rng _ _)] at h
 rw [h]
 simp [Fe]
theorem V7 {cs : List Int} {us : List Tm} {i : Nat} {t : Tm} {z : Int} (hn : us.Nodup) (hl : cs.length = us.length) (ht : us[i]? = some t) (hz : cs[i]? = some z) : GH cs us t = z := by
 have hix : Cl us t = i := HR ht (C3 rfl) fun j hj x hx => DK fun e => by
  subst e
  have h1 := (List.getElem?_eq_some_iff.1 hx).1
  have h2 := (List.getElem?_eq_some_iff.1 ht).1
  have := (List.getElem?_inj h1 hn).1 (hx.trans ht.symm)
  omega
 unfold GH
 rw [hix, if_pos (List.getElem?_eq_some_iff.1 ht).1, Cs hz]
theorem J1 {th : BJ} : ∀ (n : Nat) (C : FQ) (t : Tm) (s : Int), ∀ u ∈ (Bw th n C t s).atoms, u ∈ C.atoms ∨ u ∈ Cd th n t
 | 0, C, t, s, u, hu => .inl hu
 | n + 1, C, t, s, u, hu => by
  unfold Bw at hu
  unfold Cd
  split at hu
  ·exact .inl hu
  ·split at hu
   ·rename_i ho
    rw [if_pos ho]
    rcases J1 n _ _ _ u hu with h | h
    ·rcases J1 n _ _ _ u h with h | h
     ·exact .inl h
     ·exact .inr (List.mem_append.2 (.inl h))
    ·exact .inr (List.mem_append.2 (.inr h))
   ·rename_i ho
    rw [if_neg ho]
    split at hu
    ·exact .inl hu
    ·rename_i ho
     rw [if_neg ho]
     split at hu
     ·rename_i ho
      rw [if_pos ho]
      exact J1 n _ _ _ u hu
     ·rename_i ho
      rw [if_neg ho]
      unfold ET at hu
      split at hu
      ·exact .inl hu
      ·rcases List.mem_append.1 hu with h | h
       ·exact .inl h
       ·exact .inr h
theorem Oa {th : BJ} (t : Tm) : ∀ u ∈ (CP th t).atoms, u ∈ Cd th (size t) t := fun u hu => by
 rcases J1 (th := th) (size t) ⟨[], [], 0⟩ t 1 u hu with h | h
 ·simp at h
 ·exact h
section
variable {th : BJ} {a b : Tm}
abbrev GK (th : BJ) (a b : Tm) : Tm := BS th.add [a, BS th.neg [b]]
theorem JR : size (GK th a b) = size a + size b + 5 := by simp [GK, DM, B4]; omega
theorem Su (ha : ER a) (hb : ER b) : CP th (GK th a b) = Bw th (size b) (CP th a) b (-1) ∨ ((CP th a).all > 200 ∧ CP th (GK th a b) = CP th a) := by
 have e1 : CP th (GK th a b) = Bw th (size a + size b + 4) (CP th a) (BS th.neg [b]) 1 := by
  unfold CP
  rw [JR, show size a + size b + 5 = (size a + size b + 4) + 1 by omega, Bw, if_neg Aq, Ha, if_pos rfl]
  simp only [List.getD_cons_zero, List.getD_cons_succ]
  rw [F6 (size a + size b + 4) (size a) _ _ _ ha Ar (Nat.le_refl _)]
 by_cases h : (CP th a).all > 200
 ·right
  refine ⟨h, ?_⟩
  rw [e1, show size a + size b + 4 = (size a + size b + 3) + 1 by omega, Bw, if_pos h]
 ·left
  rw [e1, show size a + size b + 4 = (size a + size b + 3) + 1 by omega, Bw, if_neg h, Jn, if_neg (fun h => by cases h), if_neg (fun h => by cases h), if_pos rfl]
  simp only [List.getD_cons_zero]
  rw [show wr (-1) = -1 from by decide, F6 (size a + size b + 3) (size b) _ _ _ hb Ar (Nat.le_refl _)]
theorem Pn : ∀ (n : Nat) (C : FQ) (t : Tm) (s : Int), Ft C → (C.all + (Cd th n t).length > 200) → (Bw th n C t s).all > 200
 | n, C, t, s, h, ho => by
  by_cases hl : (Bw th n C t s).all ≤ 200
  ·have := (EI (th := th) n C t s h hl).1; omega
  ·omega
theorem VE (t : Tm) (h : (CP th t).all > 200) : 200 < (Cd th (size t) t).length := by
 have := Hl (th := th) (size t) ⟨[], [], 0⟩ t 1 Fx
 have : (CP th t).all ≤ 0 + ((Cd th (size t) t).length : Int) := this
 omega
theorem Lr (ha : ER a) (hb : ER b) (h : (CP th a).all > 200 ∨ (CP th b).all > 200) : (CP th (GK th a b)).all > 200 := by
 rcases Su (th := th) ha hb with e | ⟨h1, e⟩
 ·rw [e]
  rcases h with h | h
  ·have := FK (th := th) (size b) (CP th a) b (-1) (FO th a); omega
  ·have := VE (th := th) b h
   have h0 := (FO th a).lo
   exact Pn _ _ _ _ (FO th a) Ar
 ·rw [e]; exact h1
theorem ZH {v : Tm → Int} (ha : ER a) (hb : ER b) : Hu th v (size (GK th a b)) (GK th a b) = Hu th v (size a) a - Hu th v (size b) b := by
 rw [JR, show size a + size b + 5 = (size a + size b + 4) + 1 by omega, Hu, Ha, if_pos rfl]
 simp only [List.getD_cons_zero, List.getD_cons_succ]
 rw [JJ (size a + size b + 4) (size a) _ ha Ar (Nat.le_refl _), show size a + size b + 4 = (size a + size b + 3) + 1 by omega, Hu, Jn, if_neg (fun h => by cases h), if_neg (fun h => by cases h), if_pos rfl]
 simp only [List.getD_cons_zero]
 rw [JJ (size a + size b + 3) (size b) _ hb Ar (Nat.le_refl _)]
 omega
theorem U2 (ha : ER a) (hb : ER b) (hl : (CP th (GK th a b)).all ≤ 200) {i : Nat} {t : Tm} {z : Int} (ht : (CP th (GK th a b)).atoms[i]? = some t) (hz : (CP th (GK th a b)).coefs[i]? = some z) :
  z = wr (GH (CP th a).coefs (CP th a).atoms t - GH (CP th b).coefs (CP th b).atoms t) := by
 have k := FO th (GK th a b)
 have d := L1 th (GK th a b)
 have hov : ¬ ((CP th a).all > 200 ∨ (CP th b).all > 200) := fun h => by have := Lr ha hb h; omega
 rw [← V7 d.nodup k.len ht hz, Nc hl, ZH ha hb, Nc Ar, Nc Ar, ZE]
theorem XZ (ha : ER a) (hb : ER b) (hl : (CP th (GK th a b)).all ≤ 200) : ∀ t ∈ (CP th a).atoms ++ (CP th b).atoms, t ∈ (CP th (GK th a b)).atoms := by
 have hov : ¬ ((CP th a).all > 200 ∨ (CP th b).all > 200) := fun h => by have := Lr ha hb h; omega
 rcases Su (th := th) ha hb with e | ⟨h1, e⟩
 ·rw [e] at hl ⊢
  obtain ⟨_, h2, h3⟩ := EI (th := th) (size b) (CP th a) b (-1) (FO th a) hl
  intro t ht
  rcases List.mem_append.1 ht with ht | ht
  ·exact h3 t ht
  ·exact h2 t (Oa b t ht)
 ·omega
end
def KW (n : Int) : List PV := [.int .i8 n]
theorem MJ {ts : List Int} {i : Nat} {t : Int} (h : ts[i]? = some t) : (ts.map KW)[i]? = some (KW t) := by simp [h]
noncomputable def I6 (us : List Tm) (vs : List Int) (t : Tm) : Int := vs.getD (Cl us t) 0
def K2 (f : Tm → Int) : List Tm → Int
 | [] => 0
 | t :: l => f t + K2 f l
theorem Xt {f : Tm → Int} {l : List Tm} {i : Nat} {t : Tm} (h : l[i]? = some t) : K2 f (l.drop i) = f t + K2 f (l.drop (i + 1)) := by rw [Dd h, K2]
def Lp : List Int → List Int → Nat → Int
 | c :: cs, vs, k => c * vs.getD k 0 + Lp cs vs (k + 1)
 | [], _, _ => 0
theorem Xz {cs vs : List Int} {i k : Nat} {c : Int} (h : cs[i]? = some c) : Lp (cs.drop i) vs k = c * vs.getD k 0 + Lp (cs.drop (i + 1)) vs (k + 1) := by rw [Dd h, Lp]
theorem Ow {vs : List Int} : ∀ {cs : List Int} {k : Nat}, vs.length ≤ k → Lp cs vs k = 0
 | [], k, _ => rfl
 | c :: cs, k, h => by
  rw [Lp, Ow Ar, List.getD_eq_getElem?_getD, List.getElem?_eq_none h]
  simp
theorem Vd {cs vs : List Int} {i : Nat} (h : cs.length ≤ i ∨ vs.length ≤ i) : Lp (cs.drop i) vs i = 0 := by
 rcases h with h | h
 ·rw [List.drop_eq_nil_of_le h]; rfl
 ·exact Ow h
theorem Rd {vs : List Int} {v : Tm → Int} : ∀ {cs : List Int} {us : List Tm} (k : Nat), cs.length = us.length → (∀ (i : Nat) (u : Tm), us[i]? = some u → v u = vs.getD (k + i) 0) → Fe cs us v = Lp cs vs k
 | [], [], k, _, _ => rfl
 | c :: cs, u :: us, k, h, hv => by
  rw [Fe, Lp, hv 0 u rfl, Nat.add_zero, Rd (k + 1) (by simpa using h) (fun i w hw => by rw [hv (i + 1) w (by simpa using hw)]; congr 1; omega)]
theorem XO {us : List Tm} {vs : List Int} (hn : us.Nodup) {i : Nat} {u : Tm} (h : us[i]? = some u) : I6 us vs u = vs.getD i 0 := by
 have hix : Cl us u = i := HR h (C3 rfl) fun j hj x hx => DK fun e => by
  subst e
  have h1 := (List.getElem?_eq_some_iff.1 hx).1
  have := (List.getElem?_inj h1 hn).1 (hx.trans h.symm)
  omega
 rw [I6, hix]
theorem Qv {cs vs : List Int} {us : List Tm} (hl : cs.length = us.length) (hn : us.Nodup) : Fe cs us (I6 us vs) = Lp cs vs 0 :=
 Rd 0 hl fun i u h => by rw [XO hn h, Nat.zero_add]
noncomputable def SP (us : List Tm) (t : Tm) : Int := if Cl us t < us.length then (Cl us t : Int) else -1
theorem X1 {us : List Tm} {t : Tm} (h : t ∈ us) : SP us t = (Cl us t : Int) := if_pos (Da h).1
theorem Rj {us : List Tm} {t : Tm} : SP us t ≥ 0 ↔ t ∈ us := by
 unfold SP
 by_cases h : t ∈ us
 ·rw [if_pos (Da h).1]; exact ⟨fun _ => h, fun _ => by omega⟩
 ·rw [if_neg (DR h)]; exact ⟨fun q => by omega, fun q => absurd q h⟩
theorem L0 {us : List Tm} {t x : Tm} {i : Nat} (hx : us[i]? = some x) (he : x = t) (hb : ∀ j, j < i → ∀ y, us[j]? = some y → y ≠ t) : SP us t = i := by
 have := HR (l := us) (t := t) hx (C3 he) (fun j hj y hy => DK (hb j hj y hy))
 unfold SP
 rw [this, if_pos (List.getElem?_eq_some_iff.1 hx).1]
theorem NM {us : List Tm} {t : Tm} (hb : ∀ j, j < us.length → ∀ y, us[j]? = some y → y ≠ t) : SP us t = -1 := by
 unfold SP
 rw [if_neg (DR fun h => ?_)]
 obtain ⟨j, hj⟩ := List.mem_iff_getElem?.1 h
 exact hb j (List.getElem?_eq_some_iff.1 hj).1 t hj At
section
variable {th : BJ} {t : Tm} {us : List Tm} {n : Nat} {v : Tm → Int}
theorem Qt (h : Hh th t = false) : ((Cu th t).1 = 1 ∧ (Cu th t).2 = (Bq t).2 ∧ (Bq t).2.length = 2) ∨ ((Cu th t).1 = 2 ∧ (Bq t).2 = []) ∨ ((Cu th t).1 = 3 ∧ (Cu th t).2 = (Bq t).2 ∧ (Bq t).2.length = 1 ∧ (Bq t).1.name.toList = th.neg.toList) := by
 unfold Hh at h
 rw [Bool.not_eq_false'] at h
 unfold Cu
 split
 ·rename_i h1
  simp only [Bool.and_eq_true, beq_iff_eq] at h1
  exact .inl ⟨At, At, by omega⟩
 ·rename_i h1
  split
  ·rename_i h2
   simp only [Bool.and_eq_true, beq_iff_eq] at h2
   exact .inr (.inl ⟨At, List.eq_nil_of_length_eq_zero Ar⟩)
  ·rename_i h2
   split
   ·rename_i h3
    simp only [Bool.and_eq_true, beq_iff_eq, DN] at h3
    exact .inr (.inr ⟨At, At, by omega, h3.1.1.2⟩)
   ·rename_i h3
    simp only [Bool.not_eq_true] at h1 h2 h3
    rw [h1, h2, h3] at h
    cases h
theorem Oo (h : Hh th t = true) : (Cu th t).1 = 0 := by
 unfold Hh at h
 simp only [Bool.not_eq_true', Bool.or_eq_false_iff] at h
 unfold Cu
 rw [if_neg (by rw [h.1.1]; decide), if_neg (by rw [h.1.2]; decide), if_neg (by rw [h.2]; decide)]
theorem UT (h : Hh th t = true) (hm : ∀ a ∈ Cd th (n + 1) t, a ∈ us) : t ∈ us ∧ Hu th v (n + 1) t = v t := by
 have ho := Oo h
 unfold Cd at hm
 unfold Hu
 simp only [ho] at hm ⊢
 exact ⟨hm t As, by simp⟩
theorem Ww (h : Hh th t = false) (hm : ∀ a ∈ Cd th (n + 1) t, a ∈ us) {i : Nat} {x : Tm} (hx : (Bq t).2[i]? = some x) : ∀ a ∈ Cd th n x, a ∈ us := by
 unfold Cd at hm
 rcases Qt h with ⟨h1, h2, h3⟩ | ⟨h1, h2⟩ | ⟨h1, h2, h3, _⟩
 ·rw [if_pos h1, h2] at hm
  have hi := (List.getElem?_eq_some_iff.1 hx).1
  have : i = 0 ∨ i = 1 := by omega
  rcases this with rfl | rfl
  ·rw [Cs hx] at hm; exact fun a ha => hm a (List.mem_append.2 (.inl ha))
  ·rw [Cs hx] at hm; exact fun a ha => hm a (List.mem_append.2 (.inr ha))
 ·rw [h2] at hx; cases hx
 ·rw [if_neg Ar, if_neg Ar, if_pos h1, h2] at hm
  have hi := (List.getElem?_eq_some_iff.1 hx).1
  obtain rfl : i = 0 := by omega
  rw [Cs hx] at hm; exact hm
theorem Sn (h : Hh th t = false) : Hu th v (n + 1) t = if ((Bq t).1.name.toList == th.neg.toList && ((Bq t).2.length : Int) == 1) = true then - K2 (Hu th v n) (Bq t).2 else K2 (Hu th v n) (Bq t).2 := by
 unfold Hu
 rcases Qt h with ⟨h1, h2, h3⟩ | ⟨h1, h2⟩ | ⟨h1, h2, h3, h4⟩
 ·rw [if_pos h1, h2, if_neg (by rw [h3]; simp)]
  match e : (Bq t).2, h3 with
  | [a, b], _ => simp [K2]
 ·rw [if_neg Ar, if_pos h1, if_neg (by rw [h2]; simp), h2]
  rfl
 ·rw [if_neg Ar, if_neg Ar, if_pos h1, h2, if_pos (by rw [h3, h4]; simp)]
  match e : (Bq t).2, h3 with
  | [a], _ => simp [K2]
end
section
variable {th : BJ} {v : Tm → Int}
theorem XX (n : Nat) : Hu th v n (BS th.zero []) = 0 := by
 cases n with
 | zero => rfl
 | succ n => rw [Hu, OO, if_neg (fun h => by cases h), if_pos rfl]
theorem Wh (n : Nat) (x y : Tm) : Hu th v (n + 1) (BS th.add [x, y]) = Hu th v n x + Hu th v n y := by
 rw [Hu, Ha, if_pos rfl]; rfl
theorem X0 (n : Nat) (x : Tm) : Hu th v (n + 1) (BS th.neg [x]) = - Hu th v n x := by
 rw [Hu, Jn, if_neg (fun h => by cases h), if_neg (fun h => by cases h), if_pos rfl]; rfl
theorem S7 (n : Nat) {x : Tm} (h : (Cu th x).1 = 0) : Hu th v (n + 1) x = v x := by
 rw [Hu, if_neg Ar, if_neg Ar, if_neg Ar]
theorem Yu (n : Nat) {x : Tm} (c : Int) (h : (Cu th x).1 = 0) (hn : size (E8 th c x) ≤ n) : Hu th v n (E8 th c x) = if c < 0 then - v x else v x := by
 have := size_pos x
 unfold E8 at hn ⊢
 by_cases hc : c < 0
 ·rw [if_pos hc] at hn ⊢
  rw [if_pos hc]
  simp only [DM, B4, List.length_cons, List.length_nil] at hn
  obtain ⟨m, rfl⟩ : ∃ m, n = m + 1 + 1 := ⟨n - 2, by omega⟩
  rw [X0, S7 _ h]
 ·rw [if_neg hc] at hn ⊢
  rw [if_neg hc]
  obtain ⟨m, rfl⟩ : ∃ m, n = m + 1 := ⟨n - 1, by omega⟩
  exact S7 _ h
theorem TU {x : Tm} (c : Int) (h : (Cu th x).1 = 0) : ∀ (k n : Nat) (o : Tm), size (Eo th (E8 th c x) k o) ≤ n → Hu th v n (Eo th (E8 th c x) k o) = k * (if c < 0 then - v x else v x) + Hu th v (n - k) o
 | 0, n, o, hn => by simp [Eo]
 | k + 1, n, o, hn => by
  simp only [Eo, DM, B4, List.length_cons, List.length_nil] at hn ⊢
  obtain ⟨m, rfl⟩ : ∃ m, n = m + 1 := ⟨n - 1, by omega⟩
  rw [Wh, Yu m c h Ar, TU c h k m o Ar, show m + 1 - (k + 1) = m - k by omega]
  rw [show ((k + 1 : Nat) : Int) = (k : Int) + 1 by omega, Int.add_mul]
  omega
theorem Jy {x o : Tm} : ∀ k : Nat, size (Eo th x k o) = k * (size x + 3) + size o
 | 0 => by simp [Eo]
 | k + 1 => by
  simp only [Eo, DM, B4, List.length_cons, List.length_nil, Jy k, Nat.add_mul]
  omega
theorem UY : ∀ (cs : List Int) (us : List Tm) (n : Nat), cs.length = us.length → (∀ u ∈ us, (Cu th u).1 = 0) → size (Dx th cs us) ≤ n → Hu th v n (Dx th cs us) = Fe cs us v
 | [], [], n, _, _, _ => by simp [Dx, Fe, XX]
 | c :: cs, u :: us, n, hl, hu, hn => by
  rw [Dx] at hn ⊢
  rw [TU c (hu u As) _ _ _ hn]
  rw [Jy] at hn
  have hk : c.natAbs ≤ c.natAbs * (size (E8 th c u) + 3) := by rw [Nat.mul_add]; omega
  rw [UY cs us (n - c.natAbs) (by simpa using hl) (fun w hw => hu w (by simp [hw])) Ar, Fe]
  by_cases hc : c < 0
  ·rw [if_pos hc, show ((c.natAbs : Nat) : Int) = -c by omega, Int.neg_mul_neg]
  ·rw [if_neg hc, show ((c.natAbs : Nat) : Int) = c by omega]
theorem XS (n : Nat) : Cd th n (BS th.zero []) = [] := by
 cases n with
 | zero => rfl
 | succ n => rw [Cd, OO, if_neg (fun h => by cases h), if_pos rfl]
theorem Y3 {x : Tm} (c : Int) (h : (Cu th x).1 = 0) : ∀ (n : Nat), ∀ a ∈ Cd th n (E8 th c x), a = x
 | 0, a, ha => by simp [Cd] at ha
 | n + 1, a, ha => by
  unfold E8 at ha
  by_cases hc : c < 0
  ·rw [if_pos hc, Cd, Jn, if_neg (fun h => by cases h), if_neg (fun h => by cases h), if_pos rfl] at ha
   simp only [List.getD_cons_zero] at ha
   cases n with
   | zero => simp [Cd] at ha
   | succ n => rw [Cd, if_neg Ar, if_neg Ar, if_neg Ar] at ha; simpa using ha
  ·rw [if_neg hc, Cd, if_neg Ar, if_neg Ar, if_neg Ar] at ha
   simpa using ha
theorem S8 {x : Tm} (c : Int) (h : (Cu th x).1 = 0) : ∀ (k n : Nat) (o : Tm), ∀ a ∈ Cd th n (Eo th (E8 th c x) k o), a = x ∨ ∃ m, a ∈ Cd th m o
 | 0, n, o, a, ha => .inr ⟨n, ha⟩
 | k + 1, 0, o, a, ha => by simp [Cd] at ha
 | k + 1, n + 1, o, a, ha => by
  rw [Eo, Cd, Ha, if_pos rfl] at ha
  simp only [List.getD_cons_zero, List.getD_cons_succ] at ha
  rcases List.mem_append.1 ha with ha | ha
  ·exact .inl (Y3 c h n a ha)
  ·exact S8 c h k n o a ha
theorem U6 : ∀ (cs : List Int) (us : List Tm) (n : Nat), cs.length = us.length → (∀ u ∈ us, (Cu th u).1 = 0) → ∀ a ∈ Cd th n (Dx th cs us), a ∈ us
 | [], [], n, _, _, a, ha => by rw [show Dx th [] [] = BS th.zero [] by simp [Dx], XS] at ha; exact ha
 | c :: cs, u :: us, n, hl, hu, a, ha => by
  rw [Dx] at ha
  rcases S8 c (hu u As) _ _ _ a ha with rfl | ⟨m, ha⟩
  ·simp
  ·exact List.mem_cons_of_mem _ (U6 cs us m (by simpa using hl) (fun w hw => hu w (by simp [hw])) a ha)
end
end Go.Eu
namespace Go.Eu
open Go.Abs Go.RowKit Go.ChangeShapes Go.ChangeAt Go.WideShapes
section
variable {H : Type} {enc : TypeId × Value → H} {P : Program} {w : World} {base : Nat} {sp : Nat → Bool} {hd : Bool}
theorem Uy {tI tIs : TypeId} (uI : P.underlying tI = some (.int .i8)) (eE : P.underlying tIs = some (.slice tI)) (cI : P.cellsOf tI = 1) {b2 : Nat} {r : Reach} {v : Value} {d : DataW H} {ps : List MemPlace} (hk : Value.okWide P w r b2 tIs v) (h : DataW.Trod enc P w base sp hd tIs v d ps) : ∃ l : List Int, l.length < wide ∧ (∀ x ∈ l, -128 ≤ x ∧ x ≤ 127) ∧ CR F0 w (.p (.lst (l.map KW))) v := by
 obtain ⟨n, h⟩ := h
 obtain ⟨l, g1, g2, u, hu, g3⟩ := GR eE cI Aq KW (fun x => -128 ≤ x ∧ x ≤ 127) (fun m cs y _ h => by
  obtain ⟨a, ha, _, fa⟩ := DataW.trod_int uI h
  subst ha
  simp only [Lit.wf, Bool.and_eq_true, decide_eq_true_eq] at fa
  exact ⟨a, ⟨_, _, At, by simp [CV], rfl⟩, fa.1, fa.2⟩) h
 have := O0 eE hk hu
 subst this
 exact ⟨l, g1, g2, by simp only [CR]; exact g3⟩
end
end Go.Eu
namespace Go.Proofs.YtapmjpihennhaaaGreatDoor
theorem gB : Tryz.prog.underlying 48 = some (.int .i8) := by kernel_rfl
theorem cA : Tryz.prog.underlying 45 = some (.slice 48) := by kernel_rfl
theorem fq : Tryz.prog.cellsOf 48 = 1 := by kernel_rfl
end Go.Proofs.YtapmjpihennhaaaGreatDoor
namespace Go.Eu
open Go.Abs
theorem TO (o f r : Int) : wr (wr (o + wr f) + r) = wr (o + (f + r)) := by unfold wr; simp only [IntKind.wrap_i64]; omega
theorem XH {o s : Int} (h : wr o = wr s) : wr (0 - o) = wr (- s) := by rw [Int.zero_sub, ← VP, h, VP]
def ED : List Int → Int
 | [] => 0
 | c :: cs => (c.natAbs : Int) + ED cs
theorem Lo : ∀ cs : List Int, 0 ≤ ED cs
 | [] => by simp [ED]
 | c :: cs => by have := Lo cs; simp only [ED]; omega
theorem PS : ∀ (cs : List Int) (s : Int), ED (cs ++ [s]) = ED cs + (s.natAbs : Int)
 | [], s => by simp [ED]
 | c :: cs, s => by simp only [List.cons_append, ED, PS cs s]; omega
theorem Qh : ∀ (cs : List Int) (i : Nat) (x : Int), i < cs.length → ED (cs.set i x) = ED cs - ((cs.getD i 0).natAbs : Int) + (x.natAbs : Int)
 | [], i, x, h => by simp at h
 | c :: cs, 0, x, h => by simp only [List.set_cons_zero, ED, List.getD_cons_zero]; omega
 | c :: cs, i + 1, x, h => by
  have := Qh cs i x (by simpa using h)
  simp only [List.set_cons_succ, ED, List.getD_cons_succ, this]; omega
theorem RF : ∀ (cs : List Int) (i : Nat), ((cs.getD i 0).natAbs : Int) ≤ ED cs
 | [], i => by simp [ED]
 | c :: cs, 0 => by have := Lo cs; simp only [List.getD_cons_zero, ED]; omega
 | c :: cs, i + 1 => by have := RF cs i; simp only [List.getD_cons_succ, ED]; omega
theorem Pz : ∀ (cs : List Int) (a : Int), 0 ≤ a → a + ED cs ≤ 200 → Mi a cs = true
 | [], a, _, _ => by simp [Mi]
 | c :: cs, a, h0, h => by
  have := Lo cs
  simp only [ED] at h
  unfold Mi
  rw [if_neg Ar, if_neg Ar]
  exact Pz cs _ Ar Ar
theorem Uz {C : FQ} {t : Tm} {s : Int} (h : Ft C) (ha : C.all ≤ 200) (hs : s = 1 ∨ s = -1) (hb : ED C.coefs ≤ C.all) : ED (ET C t s).coefs ≤ (ET C t s).all := by
 rw [(It h ha).1]
 unfold ET
 by_cases hm : t ∈ C.atoms
 ·have h1 := (Da hm).1
  rw [if_pos h1]
  simp only
  have h2 := RF C.coefs (Cl C.atoms t)
  rw [Qh _ _ _ (by rw [h.len]; exact h1), FZ ⟨by omega, by omega⟩]
  omega
 ·rw [if_neg (DR hm)]
  simp only
  rw [PS]
  omega
theorem Hw {th : BJ} : ∀ (n : Nat) (C : FQ) (t : Tm) (s : Int), Ft C → (s = 1 ∨ s = -1) → ED C.coefs ≤ C.all → ED (Bw th n C t s).coefs ≤ (Bw th n C t s).all
 | 0, C, t, s, _, _, hb => hb
 | n + 1, C, t, s, h, hs, hb => by
  unfold Bw
  split
  ·exact hb
  ·split
   ·exact Hw n _ _ _ (Dh _ _ _ _ h) hs (Hw n _ _ _ h hs hb)
   ·split
    ·exact hb
    ·split
     ·exact Hw n _ _ _ h (by rcases hs with rfl | rfl <;> decide) hb
     ·exact Uz h Ar hs hb
theorem TI {th : BJ} {t : Tm} (hl : (CP th t).all ≤ 200) : Mi 0 (CP th t).coefs = true := by
 have : ED (CP th t).coefs ≤ (CP th t).all := Hw (th := th) (size t) ⟨[], [], 0⟩ t 1 Fx (.inl rfl) (by simp [ED])
 exact Pz _ 0 Ar Ar
theorem Qd {th : BJ} : ∀ (cs : List Int) (us : List Tm) (N : Nat), (∀ u ∈ us, size u ≤ N) → (size (Dx th cs us) : Int) ≤ 1 + ED cs * (N + 5)
 | [], us, N, _ => by simp [Dx, DM, B4, ED]
 | c :: cs, [], N, _ => by
  simp only [Dx, DM, B4, List.length_nil]
  have h1 : 0 ≤ ED (c :: cs) * ((N : Int) + 5) := Int.mul_nonneg (Lo _) Ar
  omega
 | c :: cs, u :: us, N, h => by
  have h1 := Qd (th := th) cs us N (fun w hw => h w (by simp [hw]))
  have h2 := h u As
  have h3 : size (E8 th c u) + 3 ≤ N + 5 := by
   unfold E8
   split
   ·simp only [DM, B4, List.length_cons, List.length_nil]; omega
   ·omega
  rw [Dx, Jy]
  have h4 : c.natAbs * (size (E8 th c u) + 3) ≤ c.natAbs * (N + 5) := Nat.mul_le_mul_left _ h3
  simp only [ED, Int.add_mul]
  have h5 : ((c.natAbs * (N + 5) : Nat) : Int) = (c.natAbs : Int) * ((N : Int) + 5) := by simp
  omega
theorem RT : ∀ (cs : List Int) (a : Int), Mi a cs = true → a ≤ 200 → a + ED cs ≤ 200
 | [], a, _, h => by simpa [ED] using h
 | c :: cs, a, h, ha => by
  unfold Mi at h
  split at h
  ·cases h
  ·split at h
   ·cases h
   ·have := RT cs _ h Ar
    simp only [ED]
    omega
theorem PM {th : BJ} {cs : List Int} {us : List Tm} (h : ∀ u ∈ us, size u ≤ 200) : size (EO th cs us) < 1000000 := by
 unfold EO
 split
 ·rename_i hh
  have h1 := Qd (th := th) cs us 200 h
  have h2 := RT cs 0 hh.2 Ar
  have h3 : ED cs * ((200 : Nat) + 5) ≤ 200 * ((200 : Nat) + 5) := Int.mul_le_mul_of_nonneg_right Ar Ar
  omega
 ·simp [BZ, size, B4]
theorem T4 {us : List Tm} {vs : List Int} {t : Tm} (h : vs.length ≤ Cl us t) : wr (I6 us vs t) = 0 := by
 rw [I6, List.getD_eq_getElem?_getD, List.getElem?_eq_none h]; rfl
theorem Uo {us : List Tm} {vs : List Int} {t : Tm} {x : Int} (h : SP us t = (Cl us t : Int)) (hx : vs[(SP us t : Int).toNat]? = some x) (hb : -128 ≤ x ∧ x ≤ 127) : wr (I6 us vs t) = x := by
 rw [h, Int.toNat_natCast] at hx
 rw [I6, Cs hx, FZ ⟨by omega, by omega⟩]
theorem Qj {o : Int} {i : Nat} {F : Tm → Int} {l : List Tm} (h : rng o ∧ wr (o + K2 F (l.drop i)) = wr (K2 F l)) (hi : l.length ≤ i) : wr o = wr (K2 F l) := by
 have := h.2
 rwa [List.drop_eq_nil_of_le hi, K2, Int.add_zero] at this
theorem HU (th : BJ) (t : Tm) : ((B5 th t).2.2 = 5 ∧ (CP th t).all > 200 ∧ (B5 th t).1.length = (B5 th t).2.1.length) ∨ ((B5 th t).2.2 = 0 ∧ (CP th t).all ≤ 200 ∧ (B5 th t).1 = (CP th t).coefs ∧ (B5 th t).2.1 = (CP th t).atoms) := by
 by_cases h : (CP th t).all > 200
 ·rw [IQ h]; exact .inl ⟨rfl, h, rfl⟩
 ·rw [GQ h]; exact .inr ⟨rfl, by omega, rfl, rfl⟩
theorem SR {th : BJ} {t : Tm} {N : Nat} (ht : ER t) (hs : size t ≤ N) : ∀ u ∈ (B5 th t).2.1, size u ≤ N := by
 rcases HU th t with ⟨h, h1, h2⟩ | ⟨_, _, _, h⟩
 ·rw [IQ h1]; simp
 ·rw [h]; exact FW (th := th) (size t) ⟨[], [], 0⟩ t 1 As ht hs
theorem XN {th : BJ} {t : Tm} {vs : List Int} (hl : (CP th t).all ≤ 200) : wr (Lp (CP th t).coefs vs 0) = wr (Hu th (I6 (CP th t).atoms vs) (size t) t) := by
 have h := Gy (th := th) (v := I6 (CP th t).atoms vs) (size t) ⟨[], [], 0⟩ t 1 Fx hl
 have e : Fe (CP th t).coefs (CP th t).atoms (I6 (CP th t).atoms vs) = _ := Qv (vs := vs) (FO th t).len (L1 th t).nodup
 rw [← e]
 refine h.trans ?_
 simp [Fe]
theorem WA {th : BJ} {t : Tm} {vs : List Int} (hl : (CP th t).all ≤ 200) {n : Nat} (hn : size (EO th (CP th t).coefs (CP th t).atoms) ≤ n) : Hu th (I6 (CP th t).atoms vs) n (EO th (CP th t).coefs (CP th t).atoms) = Lp (CP th t).coefs vs 0 := by
 have hk := (FO th t).len
 rw [IY hk (TI hl)] at hn ⊢
 rw [UY _ _ n hk (L1 th t).atom hn, Qv hk (L1 th t).nodup]
theorem VG {th : BJ} {t : Tm} (hl : (CP th t).all ≤ 200) (n : Nat) : ∀ a ∈ Cd th n (EO th (CP th t).coefs (CP th t).atoms), a ∈ (CP th t).atoms := by
 have hk := (FO th t).len
 rw [IY hk (TI hl)]
 exact U6 _ _ n hk (L1 th t).atom
theorem WC {th : BJ} {t : Tm} (hl : (CP th t).all ≤ 200) : ∀ a ∈ Cd th (size t) t, a ∈ (CP th t).atoms :=
 (EI (th := th) (size t) ⟨[], [], 0⟩ t 1 Fx hl).2.1
theorem Rl {cs : List Int} {us : List Tm} {t x : Tm} {z : Int} {i : Nat} (hx : us[i]? = some x) (he : x = t) (hb : ∀ j, j < i → ∀ y, us[j]? = some y → y ≠ t) (hz : cs[i]? = some z) : GH cs us t = z := by
 have := HR (l := us) (t := t) hx (C3 he) (fun j hj y hy => DK (hb j hj y hy))
 unfold GH
 rw [this, if_pos (List.getElem?_eq_some_iff.1 hx).1, Cs hz]
theorem T3 {cs : List Int} {us : List Tm} {t : Tm} (hb : ∀ j, j < us.length → ∀ y, us[j]? = some y → y ≠ t) : GH cs us t = 0 := by
 unfold GH
 rw [if_neg (DR fun h => ?_)]
 obtain ⟨j, hj⟩ := List.mem_iff_getElem?.1 h
 exact hb j (List.getElem?_eq_some_iff.1 hj).1 t hj At
theorem WE {l : List Tm} (h : Ic l) {u : Tm} (hu : u ∈ l) : Nd u := by
 obtain ⟨j, hj⟩ := List.mem_iff_getElem?.1 hu
 exact DY h hj
end Go.Eu
namespace Go.Abs
section
variable {P : Program} {dst : Option Tmp} {ty : TypeId} {pos : String} {aft : Array Edge} {g : Option (Nat × Bool)} {ρ : Operand → AV} {H : List BT} {x : Operand}
theorem Lu {s d : TypeId} {n : Int} (hs : P.underlying s = some (.int .i8)) (hd : P.underlying d = some (.int .i64)) (hx : ρ x = .p (.int .i8 n)) (h1 : -128 ≤ n) (h2 : n ≤ 127) :
  Dg P ⟨dst, .convert s d x, ty, pos, aft, g⟩ ρ H (.p (.int .i64 n)) H :=
 CT fun F w E hH hE => by
  have e1 := hE x Ah
  rw [hx] at e1
  simp only [CR, CV] at e1
  have hk : P.intKind d = .i64 := by unfold Program.intKind; rw [hd]
  have hw : IntKind.i64.wrap n = n := Mp (k := .i64) (show (-9223372036854775808 : Int) ≤ n by omega) (show n ≤ 9223372036854775807 by omega)
  have := run_convert_int (P := P) w s d .i8 n (by rw [hs]; rfl) (by rw [hk]; exact hd)
  rw [hk, hw] at this
  exact ⟨.int .i64 n, by simp [execOp, e1, this], by simp [CR, CV]⟩
end
end Go.Abs
namespace Go.Proofs.YtapmjpihennhaaaGreatDoor
open Go.Abs Go.Eu
theorem Zo : ∀ (b0 : Nat) (t a : Tm), (Nd a) → Bt Tryz.prog 51 [.agg ((Be a).map .p), .ptr b0 0] [.box b0 ((Be t).map .p)] (DC (.p (.bool (Mx a t))) [.box b0 ((Be t).map .p)]) := by
 intro b0 t a h1
 refine A8 Tryz.func51 At eb (n := 7) At At (Ax (Av (BM At At (Bh At) fun b2 => Au At At (Ay At) (Az At (Ax (Av (Au At At (A0 (i := 0) BO At At Ak) (Au At At (A0 (i := 1) BO At At Ak) (Au At At (Bg At At (Kl _ a t (Nat.le_refl _) h1) At) (Au At At (Ay At) ?_))))))))))
 refine Az At (BB (⟨At, _, _, ⟨_, _, At, At, At⟩, (Cj (is := [1]) At), ?_⟩))
 all_goals exact ⟨rfl, rfl⟩
theorem Wv : ∀ (b0 : Nat) (t : Tm) (l : List Tm), (Ic l) → (l.length < 1000000) → Bt Tryz.prog 50 [.p (.lst (BR l)), .fn (.func 51) [] [.ptr b0 0]] [.box b0 ((Be t).map .p)] (DC (.p (I (SP l t))) [.box b0 ((Be t).map .p)]) := by
 intro b0 t l h1 h2
 refine A8 Tryz.func50 At Zk (n := 19) At At (Ax (Av (Au At At (Ay At) (Az At (Ax (Ax (Av (Au At At (Aw At) (Au At At (Bp By At (Bo _)) (Au At At (Aw At) (Az At ?_)))))))))))
 refine Ba ?_
 refine CM (α := Nat) (fun i => ⟨19, mk [(0, .p (.lst (BR l))), (1, .fn (.func 51) [] [.ptr b0 0]), (7, .p (I (l.length : Nat))), (8, .p (I (i : Int)))], [.box b0 ((Be t).map .p)], []⟩) (fun i => l.length - i) (fun i => i ≤ l.length ∧ (∀ j, j < i → ∀ y, l[j]? = some y → y ≠ t)) 0 (⟨by omega, fun j h => by omega⟩) ?_ ?_
 ·exact B8 ⟨we At, we At, we At, we At, trivial⟩ (leH (is := [0]) At (wl (oe At) (D4)))
 rintro i hC
 try simp only at hC
 obtain ⟨hi, hC⟩ := hC
 refine Ax (Av (Au At At (BA At At At) (Az At (Ax (A9 At (fun c => ?_) (fun c => ?_))))))
 ·(try simp only [sd, se] at c)
  refine BC (Ax (Ba (Ax (Av (Au At At (Aw At) (Au At At (Ay At) (Az At (Ax (Av (Au At At (Aw At) (Au At At (Aw At) ?_)))))))))))
  refine Au At At (Aw At) ?_
  obtain ⟨x, hx⟩ := BP (l := l) (i := i) Ar
  refine Au At At (BL By At At Ar (CH hx) (Bj _)) (Au At At (Bi BO At (Bj _)) (Au At At (B6 [0] At (.inr At) (Zo b0 t x (DY h1 hx)) ⟨_, _, At, At, At⟩ Aq At (.inl At)) (Az At (A9 At (fun c1 => ?_) (fun c1 => ?_)))))
  ·(try simp only [sd, se] at c1)
   refine Ax (Av (Au At At (Aw At) (Au At At (Ay At) (Az At (BB (⟨At, _, _, ⟨_, _, At, At, At⟩, (Cj (is := [0]) At), ?_⟩))))))
   all_goals exact ⟨by show (.p (I (i : Int)) : AV) = _; rw [L0 hx (F9.1 (by simpa using c1)) hC], rfl⟩
  ·(try simp only [sd, se] at c1)
   refine BC (Av (Au At At (CS At At Ar Ar) (Au At At (Aw At) (Az At ?_))))
   refine ⟨(i + 1), AZ, ⟨by omega, Dl (p := fun _ (y : Tm) => y ≠ t) hC hx (fun e => by subst e; simp [C3] at c1)⟩, B8 ⟨we rfl, we rfl, we rfl, we rfl, trivial⟩ (leH (is := [0]) rfl (wl (oe rfl) (D4)))⟩
 ·(try simp only [sd, se] at c)
  refine CL (Ax (Av (Au At At (Ay At) (Az At (BB (⟨At, _, _, ⟨_, _, At, At, At⟩, (Cj (is := [0]) At), ?_⟩))))))
  all_goals exact ⟨by show (.p (I (-1)) : AV) = _; rw [NM fun j hj => hC j Ar], rfl⟩
theorem RY : ∀ (us : List Tm) (vs : List Int) (n : Nat) (th : BJ) (t : Tm), (size t ≤ n) → (Nd t) → (size t < 1000000) → (Ic us) → (us.length < 1000000) → (vs.length < 1000000) → (∀ x ∈ vs, -128 ≤ x ∧ x ≤ 127) → (∀ a ∈ Cd th n t, a ∈ us) → G5 Tryz.prog 20 [.agg ((EE th).map .p), .agg ((Be t).map .p), .p (.lst (BR us)), .p (.lst (List.map KW vs))] (.tup [.p (I (wr (Hu th (I6 us vs) n t))), .p (.bool true)]) := by
 intro us vs n
 induction n with
 | zero => intro th t h; cases t; simp [size] at h
 | succ n ih =>
  intro th t h1 h2 h3 h4 h5 h6 h7 h8
  have hsp := Ew t
  obtain ⟨BG, BD, BE, BF, BH, BI, thm⟩ := th
  refine A8 Tryz.func20 At db (n := 73) At At (Ax (Av (BM At At (Bh At) fun b4 => BM At At (Bh At) fun b5 => Au At At (Ay At) (Au At At (Ay At) (Az At (Ax (Av (Au At At (A0 (i := 0) BO At At Ak) (Au At At (Bg At At (M6 _ t (Nat.le_refl _) Ag) At) ?_)))))))))
  refine Au At At (Aw At) (Au At At (BY At At) (Au At At (BY At At) (BM At At (BK B7 At) fun b10 => Au At At (A6 (i := 0) BO At At At Ak Ac (CF _)) (Au At At (Ay At) (Az At (Ax (Ax (Av (Au At At (A0 (i := 2) EG At At At) (Au At At (A0 (i := 1) BO At At Ak) ?_))))))))))
  refine Au At At (Bg At At (Sr (BJ.mk BG BD BE BF BH BI thm) t h2 h3) At) (Az At (A9 At (fun c => ?_) (fun c => ?_)))
  ·(try simp only [sd, se] at c)
   obtain ⟨hm, hsv⟩ := UT (v := I6 us vs) c h8
   have hix := X1 hm
   refine Ax (Av (Au At At (Aw At) (Au At At (Cw At At) (Au At At (B6 [1] At (.inl ⟨At, At, At⟩) (Wv b5 t us h4 h5) ⟨_, _, At, At, At⟩ Aq At (.inl At)) (Au At At (Ay At) (Az At (Ax (Ax (Av (Au At At (Aw At) (Au At At (BA At At At) ?_)))))))))))
   refine Az At (A9 At (fun c1 => ?_) (fun c1 => ?_))
   ·(try simp only [sd, se] at c1)
    exact absurd c1 (by rw [hix]; simp)
   ·(try simp only [sd, se] at c1)
    refine BC (Ax (Ax (Av (Au At At (Aw At) (Au At At (Aw At) (Au At At (Bp SJ At (List.length_map _)) (Au At At (BA At At At) (Az At (A9 At (fun c2 => ?_) (fun c2 => ?_))))))))))
    ·(try simp only [sd, se] at c2)
     refine Ax (Av (Au At At (Ay At) (Au At At (Ay At) (Az At (BB (⟨At, _, _, ⟨_, _, At, At, ⟨_, _, At, At, At⟩⟩, (List.nil_sublist _), ?_⟩))))))
     all_goals exact ⟨by show (.tup [.p (I 0), .p (.bool true)] : AV) = _; rw [hsv, T4 Ar], rfl⟩
    ·(try simp only [sd, se] at c2)
     refine BC (Ax (Av (Au At At (Aw At) (Au At At (Aw At) ?_))))
     obtain ⟨x, hx⟩ := BP (l := vs) (i := (SP us t : Int).toNat) Ar
     have hb := h7 _ (List.mem_of_getElem? hx)
     refine Au At At (BL SJ At At Ar (MJ hx) (At)) (Au At At (CI Zr At) (Au At At (Lu An An At Ar Ar) (Au At At (Ay At) (Au At At (Ay At) (Az At (BB (⟨At, _, _, ⟨_, _, At, At, ⟨_, _, At, At, At⟩⟩, (List.nil_sublist _), ?_⟩)))))))
     all_goals exact ⟨by show (.tup [.p (I x), .p (.bool true)] : AV) = _; rw [hsv, Uo hix hx hb], rfl⟩
  ·(try simp only [sd, se] at c)
   have hnb : Hh (BJ.mk BG BD BE BF BH BI thm) t = false := by simpa using c
   refine BC (Ax (Av (Au At At (Ay At) (Az At (Ax (Ax (Av (Au At At (Aw At) (Au At At (Bp By At (Bo _)) (Au At At (Aw At) (Az At ?_)))))))))))
   refine Ba ?_
   refine CM (α := Nat × Int) (fun (i, o) => ⟨73, mk [(2, .p (.lst (BR us))), (3, .p (.lst (List.map KW vs))), (4, .ptr b4 0), (10, .ptr b10 0), (11, .p (.lst (BR ((Bq t).2)))), (13, .p (I o)), (40, .p (.lst (BR ((Bq t).2)))), (41, .p (I (((Bq t).2).length : Nat))), (42, .p (I (i : Int)))], [.box b10 ((Be ((Bq t).1)).map .p), .box b4 [.p (.str BG), .p (.str BD), .p (.str BE), .p (.str BF), .p (.str BH), .p (.str BI), .p (.lst (List.map Ch thm))]], []⟩) (fun (i, o) => (Bq t).2.length - i) (fun (i, o) => i ≤ (Bq t).2.length ∧ (rng o ∧ wr (o + K2 (Hu (BJ.mk BG BD BE BF BH BI thm) (I6 us vs) n) ((Bq t).2.drop i)) = wr (K2 (Hu (BJ.mk BG BD BE BF BH BI thm) (I6 us vs) n) (Bq t).2))) ⟨0, 0⟩ (⟨by omega, ⟨by decide, by decide⟩, by simp⟩) ?_ ?_
   ·exact B8 ⟨we At, we At, we At, we At, we At, we At, we At, we At, we At, trivial⟩ (leH (is := [0, 2]) At (wl (oe At) (wl (oe At) (D4))))
   rintro ⟨i, o⟩ hC
   try simp only at hC
   obtain ⟨hi, hC⟩ := hC
   refine Ax (Av (Au At At (BA At At At) (Az At (Ax (A9 At (fun c1 => ?_) (fun c1 => ?_))))))
   ·(try simp only [sd, se] at c1)
    refine BC (Ax (Ba (Ax (Av ?_))))
    obtain ⟨x, hx⟩ := BP (l := (Bq t).2) (i := i) Ar
    refine Au At At (BL By At At Ar (CH hx) (Bj _)) (Au At At (Bi BO At (Bj _)) (BM At At (BK B7 At) fun b15 => Au At At (A6 (i := 0) BO At At At Ak Ac (CF _)) (Az At (Ax (Av (Au At At (A0 (i := 2) EG At At At) (Au At At (A0 (i := 0) BO At At Ak) (Au At At (Aw At) (Au At At (Aw At) (Au At At (Bg At At (ih (BJ.mk BG BD BE BF BH BI thm) x (by have := DE hx; omega) (DY (OR t h2).2 hx) (by have := DE hx; omega) h4 h5 h6 h7 (Ww hnb h8 hx)) At) ?_))))))))))
    refine Au At At (Aw At) (Au At At (BY At At) (Au At At (BY At At) (Au At At (Ay At) (Au At At (Ay At) (Az At (Ax (Ax (Av (Au At At (Aw At) (Au At At (Cg At) (Az At ?_)))))))))))
    refine A9 At (fun c2 => by cases c2) (fun c2 => ?_)
    refine BC (Av (Au At At (Aw At) (Au At At (Aw At) (Au At At (D7 At At) (Au At At (Ay At) (Az At (Av (Au At At (CS At At Ar Ar) (Au At At (Aw At) (Az At ?_))))))))))
    refine ⟨⟨i + 1, wr (o + wr ((Hu (BJ.mk BG BD BE BF BH BI thm) (I6 us vs) n) x))⟩, AZ, ⟨by omega, ⟨Nv _, by rw [← hC.2, Xt hx, TO]⟩⟩, B8 ⟨we rfl, we rfl, we rfl, we rfl, we rfl, we rfl, we rfl, we rfl, we rfl, trivial⟩ (leH (is := [1, 2]) rfl (wl (oe rfl) (wl (oe rfl) (D4))))⟩
   ·(try simp only [sd, se] at c1)
    refine CL (Ax (Ax ?_))
    generalize hz : (Bq t).1 = z
    obtain ⟨zk, zi, zn, zl, zs⟩ := z
    refine CA [13] 69 (fun y => y = .p (.bool ((zn.toList == BF.toList) && (((((Bq t).2).length : Nat) : Int) == (1 : Int))))) ?_ ?_
    ·refine Av (Au At At (A1 CX At At) (Au At At (A2 (i := 0) FU At At At) (Au At At (A1 DU At At) (Au At At (A2 (i := 1) FU At At At) (Au At At (Fs At At) (Au At At (Aw At) (Bm 65 At (fun g => ?_) (fun g => ?_))))))))
     ·(try simp only [sd, se] at g)
      exact A3 At At At At (Aw At) (A3 At At At At (Bp By At (Bo _)) (A3 At At At At (BA At At At) (Au At At (A7 At At) (Az At (⟨At, At, AJ, AI, ⟨At, trivial⟩⟩)))))
     ·(try simp only [sd, se] at g)
      exact A5 At At At At At (A5 At At At At At (A5 At At At At At (Au At At (A7 At At) (Az At (⟨At, At, AJ, AI, ⟨At, trivial⟩⟩)))))
    rintro _ rfl
    refine A9 At (fun c2 => ?_) (fun c2 => ?_)
    ·(try simp only [sd, se] at c2)
     refine Av (Au At At (Aw At) (Au At At (K0 At) (Au At At (Ay At) (Az At (Ax (Av (Au At At (Aw At) (Au At At (Ay At) (Au At At (Ay At) (Az At (BB ?_)))))))))))
     refine ⟨At, _, _, ⟨_, _, At, At, ⟨_, _, At, At, At⟩⟩, (List.nil_sublist _), ?_⟩
     all_goals exact ⟨by show (.tup [.p (I (wr (0 - o))), .p (.bool true)] : AV) = _; rw [Sn hnb, hz, if_pos (by simpa [Tm.name] using c2), XH (Qj hC Ar)], rfl⟩
    ·(try simp only [sd, se] at c2)
     refine BC (Ax (Av (Au At At (Aw At) (Au At At (Ay At) (Au At At (Ay At) (Az At (BB (⟨At, _, _, ⟨_, _, At, At, ⟨_, _, At, At, At⟩⟩, (List.nil_sublist _), ?_⟩))))))))
     all_goals exact ⟨by show (.tup [.p (I o), .p (.bool true)] : AV) = _; rw [Sn hnb, hz, if_neg (by simpa [Tm.name] using c2), ← Qj hC Ar, FZ hC.1], rfl⟩
theorem W7 : ∀ (GL : List (Nat × Obj)) (hG : Gl GL) (th : BJ) (t : Tm) (vs : List Int), (th.lemmas.length ≤ 8796093021952) → (Wd t) → (vs.length < wide) → (∀ x ∈ vs, -128 ≤ x ∧ x ≤ 127) → Bt Tryz.prog 5 [.agg ((EE th).map .p), .agg ((Be t).map .p), .p (.lst (List.map KW vs))] [.glob GL] (DC (.p (.bool true)) [.glob GL]) := by
 intro GL hG th t vs h1 h2 h3 h4
 have h3b := h3
 simp only [wide] at h3b
 refine A8 Tryz.func5 At gN (n := 109) At At (Ax (Av (BM At At (Bh At) fun b3 => BM At At (Bh At) fun b4 => Au At At (Ay At) (Az At (Ax (Ax (CA [2, 3, 4] 29 (fun y => ∃ b : Bool, y = .p (.bool b) ∧ (b = false → ((GP th ∧ ER t) ∧ size t ≤ 200) ∧ (vs.length : Int) ≤ 30)) ?_ ?_)))))))
 ·refine Av (Au At At (A0 (i := 1) EG At At At) (Ff At At (Bb At At (SN th h1) (.inl At)) ?_))
  rintro _ ⟨b, rfl, hb⟩
  refine Au At At (Cg At) (Au At At (Aw At) (Bm 19 At (fun g => ?_) (fun g => ?_)))
  ·(try simp only [sd, se] at g)
   exact A5 At At At At At (A5 At At At At At (A5 At At At At At (A5 At At At At At (Au At At (A7 At At) (Au At At (Aw At) (A5 At At At At At (A5 At At At At At (A5 At At At At At (Au At At (A7 At At) (Az At (⟨At, At, AJ, (by refine ⟨_, rfl, fun h => ?_⟩; first | (exact absurd h Aq) | (simp_all; done) | (simp_all; omega)), ⟨At, At, At, trivial⟩⟩)))))))))))
  ·(try simp only [sd, se] at g)
   refine A3 At At At At (A0 (i := 0) BO At At Ak) (A3 At At At At (BU (rows := BR [t]) By B7 At At At At (Bz (CC _)) (C1 _)) (Js At At At At (Bb At At (Ld [t] ⟨h2, trivial⟩ (by simp [wide])) (.inl At)) ?_))
   rintro _ ⟨b1, rfl, hb1⟩
   refine A3 At At At At (Cg At) (Au At At (A7 At At) (Au At At (Aw At) (Bm 25 At (fun g1 => ?_) (fun g1 => ?_))))
   ·(try simp only [sd, se] at g1)
    exact A5 At At At At At (A5 At At At At At (A5 At At At At At (Au At At (A7 At At) (Az At (⟨At, At, AJ, (by refine ⟨_, rfl, fun h => ?_⟩; first | (exact absurd h Aq) | (simp_all; done) | (simp_all; omega)), ⟨At, At, At, trivial⟩⟩)))))
   ·(try simp only [sd, se] at g1)
    exact A3 At At At At (Aw At) (A3 At At At At (Bp SJ At (List.length_map _)) (A3 At At At At (BA At At At) (Au At At (A7 At At) (Az At (⟨At, At, AJ, (by refine ⟨_, rfl, fun h => ?_⟩; first | (exact absurd h Aq) | (simp_all; done) | (simp_all; omega)), ⟨At, At, At, trivial⟩⟩)))))
 rintro _ ⟨q, rfl, hq⟩
 refine A9 At (fun c => ?_) (fun c => ?_)
 ·(try simp only [sd, se] at c)
  refine Ax (Av (Au At At (B6 [2] At (.inl ⟨At, At, At⟩) (En GL hG ) ⟨_, _, At, At, At⟩ Aq At (.inl At)) (Au At At (Ay At) (Az At (BB (⟨At, _, _, ⟨_, _, At, At, At⟩, (Cj (is := [2]) At), ?_⟩))))))
  all_goals exact ⟨rfl, rfl⟩
 ·(try simp only [sd, se] at c)
  obtain ⟨⟨⟨hq3, hq4⟩, hq5⟩, hq2⟩ := hq (by simpa using c)
  have hq1 : ER t ∧ size t ≤ 200 := ⟨hq4, hq5⟩
  have hff := Gp (th := th) hq1.1 (by have := hq1.2; omega)
  refine BC (Ax (Av (Au At At (A0 (i := 1) EG At At At) (Au At At (A0 (i := 0) BO At At Ak) (Au At At (B6 [2] At (.inl ⟨At, At, At⟩) (Io GL hG th t hq1.1 (by have := hq1.2; omega)) ⟨_, _, At, At, At⟩ Aq At (.inl At)) (Au At At (Aw At) (Au At At (BY At At) (Au At At (BY At At) (Au At At (BY At At) (Au At At (Ay At) (Au At At (Ay At) ?_)))))))))))
  refine Au At At (Ay At) (Az At (Ax (Ax (CA [2, 3, 4, 7, 8, 9] 46 (fun y => y = .p (.bool ((((B5 th t).2.2 : Int) != (0 : Int)) || (((((B5 th t).1).length : Nat) : Int) != ((((B5 th t).2.1).length : Nat) : Int))))) ?_ ?_))))
  ·refine Av (Au At At (Aw At) (Au At At (BA At At At) (Au At At (Aw At) (Bm 40 At (fun g => ?_) (fun g => ?_)))))
   ·(try simp only [sd, se] at g)
    exact A5 At At At At At (A5 At At At At At (A5 At At At At At (A5 At At At At At (A5 At At At At At (Au At At (A7 At At) (Az At (⟨At, At, AJ, AI, ⟨At, At, At, At, At, At, trivial⟩⟩)))))))
   ·(try simp only [sd, se] at g)
    exact A3 At At At At (Aw At) (A3 At At At At (Bp D9 At (List.length_map _)) (A3 At At At At (Aw At) (A3 At At At At (Bp By At (Bo _)) (A3 At At At At (BA At At At) (Au At At (A7 At At) (Az At (⟨At, At, AJ, AI, ⟨At, At, At, At, At, At, trivial⟩⟩)))))))
  rintro _ rfl
  refine A9 At (fun c1 => ?_) (fun c1 => ?_)
  ·(try simp only [sd, se] at c1)
   have he5 : (B5 th t).2.2 = 5 := by
    rcases HU th t with ⟨h, _⟩ | ⟨h1, h2, h3, h4⟩
    ·exact h
    ·rw [h1, h3, h4, (FO th t).len] at c1; simp at c1
   refine Ax (CA [] 6 (fun y => y = .p (.bool true)) ?_ ?_)
   ·refine Av (Au At At (Aw At) (Au At At (BA At At At) (Au At At (Aw At) (Bm 49 At (fun g => ?_) (fun g => ?_)))))
    ·(try simp only [sd, se] at g)
     exact A3 At At At At (B6 [2] At (.inl ⟨At, At, At⟩) (En GL hG ) ⟨_, _, At, At, At⟩ Aq At (.inl At)) (Au At At (A7 At At) (Au At At (Ay At) (Az At ⟨At, At, AJ, (by first | rfl | (refine absurd g ?_; simp [he5]; done)), trivial⟩)))
    ·(try simp only [sd, se] at g)
     exact A5 At At At At At (Au At At (A7 At At) (Au At At (Ay At) (Az At ⟨At, At, AJ, (by first | rfl | (refine absurd g ?_; simp [he5]; done)), trivial⟩)))
   rintro _ rfl
   refine BB (⟨At, _, _, ⟨_, _, At, At, At⟩, (Cj (is := [2]) At), ?_⟩)
   all_goals exact ⟨rfl, rfl⟩
  ·(try simp only [sd, se] at c1)
   obtain ⟨hf0, hf1, hf2, hf3⟩ : (B5 th t).2.2 = 0 ∧ (CP th t).all ≤ 200 ∧ (B5 th t).1 = (CP th t).coefs ∧ (B5 th t).2.1 = (CP th t).atoms := by
    rcases HU th t with ⟨h, _⟩ | h
    ·rw [h] at c1; simp at c1
    ·exact h
   refine BC (Ax (Av (Au At At (Ay At) (Az At (Ax (Ax (Av (Au At At (Aw At) (Au At At (Bp D9 At (List.length_map _)) (Au At At (Aw At) (Au At At (Bp SJ At (List.length_map _)) ?_)))))))))))
   refine Au At At (Px At At) (Au At At (Aw At) (Az At (Ba ?_)))
   refine CM (α := Nat × Int) (fun (i, o) => ⟨109, mk [(2, .p (.lst (List.map KW vs))), (3, .ptr b3 0), (4, .ptr b4 0), (7, .p (.lst (List.map Cf ((B5 th t).1)))), (8, .p (.lst (BR ((B5 th t).2.1)))), (10, .p (I o)), (56, .p (I (min ((((B5 th t).1).length : Nat) : Int) ((vs.length : Nat) : Int)))), (57, .p (I (i : Int)))], [.box b4 ((Be t).map .p), .box b3 ((EE th).map .p), .glob GL], []⟩) (fun (i, o) => min (B5 th t).1.length vs.length - i) (fun (i, o) => i ≤ min (B5 th t).1.length vs.length ∧ (rng o ∧ wr (o + Lp ((B5 th t).1.drop i) vs i) = wr (Lp (B5 th t).1 vs 0))) ⟨0, 0⟩ (⟨by omega, ⟨by decide, by decide⟩, by simp⟩) ?_ ?_
   ·exact B8 ⟨we At, we At, we At, we At, we At, we At, we At, we At, trivial⟩ (leH (is := [0, 1, 2]) At (wl (oe At) (wl (oe At) (wl (oe At) (D4)))))
   rintro ⟨i, o⟩ hC
   try simp only at hC
   obtain ⟨hi, hC⟩ := hC
   refine Ax (Av (Au At At (BA At At At) (Az At (Ax (A9 At (fun c2 => ?_) (fun c2 => ?_))))))
   ·(try simp only [sd, se] at c2)
    refine BC (Ax (Ba (Ax (Av (Au At At (Aw At) (Au At At (Ay At) (Az At (CQ (fun k => false) D0 (A4 At At (fun _ => Aw At) trivial (A4 At At (fun _ => Aw At) trivial (A4 At At (fun _ => Aw At) trivial ?_)))))))))))
    obtain ⟨x, hx⟩ := BP (l := (B5 th t).1) (i := i) Ar
    refine A4 At At (fun _ => BL D9 At At Ar (Ds hx) (At)) trivial (A4 At At (fun _ => CI De At) trivial (A4 At At (fun _ => Aw At) trivial (A4 At At (fun _ => Aw At) trivial ?_)))
    obtain ⟨x1, hx1⟩ := BP (l := vs) (i := i) Ar
    have hb := h4 _ (List.mem_of_getElem? hx1)
    refine A4 At At (fun _ => BL SJ At At Ar (MJ hx1) (At)) trivial (A4 At At (fun _ => CI Zr At) trivial (A4 At At (fun _ => Lu An An At Ar Ar) trivial (A4 At At (fun _ => Ug At At) trivial (A4 At At (fun _ => D7 At At) trivial (A4 At At (fun _ => Ay At) trivial (CK At An (Av (Au At At (CS At At Ar Ar) (Au At At (Aw At) (Az At ?_))))))))))
    refine ⟨⟨i + 1, wr (o + wr (x * x1))⟩, AZ, ⟨by omega, ⟨Nv _, by rw [← hC.2, Xz hx, Cs hx1, TO]⟩⟩, B8 ⟨we rfl, we rfl, we rfl, we rfl, we rfl, we rfl, we rfl, we rfl, trivial⟩ (leH (is := [0, 1, 2]) rfl (wl (oe rfl) (wl (oe rfl) (wl (oe rfl) (D4)))))⟩
   ·(try simp only [sd, se] at c2)
    refine CL (Ax (Av (Au At At (A0 (i := 1) EG At At At) (Au At At (A0 (i := 0) BO At At Ak) (Au At At (Aw At) (Au At At (Aw At) (Au At At (Bg At At (RY ((B5 th t).2.1) vs (size t) th t (Nat.le_refl _) hq1.1.nd (by have := hq1.2; omega) hff.2.1 hff.2.2 Ar h4 (by rw [hf3]; exact WC hf1)) At) (Au At At (Aw At) (Au At At (BY At At) (Au At At (BY At At) (Au At At (Ay At) ?_)))))))))))
    refine Au At At (Ay At) (Az At (Ax (CQ (fun k => false) D0 (BQ (j := 1) At At At (fun H i hi => A0 (i := i) EG At hi At) AA trivial (BQ (j := 1) At At At (fun H i hi => A0 (i := i) EG At hi At) AA trivial (A4 At At (fun _ => Aw At) trivial (A4 At At (fun _ => Aw At) trivial (A4 At At (fun _ => Bg At At (JT th ((B5 th t).1) ((B5 th t).2.1) (by have := hff.1; simp only [EC]; omega)) At) trivial (A4 At At (fun _ => Aw At) trivial (A4 At At (fun _ => Aw At) trivial ?_))))))))))
    refine A4 rfl rfl (fun _ => Bg rfl rfl (RY ((B5 th t).2.1) vs (size (EO th (B5 th t).1 (B5 th t).2.1)) th (EO th ((B5 th t).1) ((B5 th t).2.1)) (Nat.le_refl _) (So hq3 (fun u hu => WE hff.2.1 hu)) (PM (SR hq1.1 hq1.2)) hff.2.1 hff.2.2 Ar h4 (by rw [hf2, hf3]; exact VG hf1 _)) rfl) trivial (A4 At At (fun _ => Aw At) trivial (A4 At At (fun _ => BY At At) trivial (A4 At At (fun _ => BY At At) trivial (A4 At At (fun _ => Ay At) trivial (A4 At At (fun _ => Ay At) trivial (CK At An (Ax ?_)))))))
    have hd := hC.2
    rw [Vd Ar, Int.add_zero, FZ hC.1, hf2] at hd
    have ha : wr (Hu th (I6 (B5 th t).2.1 vs) (size t) t) = o := by rw [hf3, hd, XN hf1]
    have hb2 : wr (Hu th (I6 (B5 th t).2.1 vs) (size (EO th (B5 th t).1 (B5 th t).2.1)) (EO th (B5 th t).1 (B5 th t).2.1)) = o := by rw [hf2, hf3, hd, WA hf1 (Nat.le_refl _)]
    refine CA [] 6 (fun y => y = .p (.bool true)) ?_ ?_
    ·refine Av (Au At At (Aw At) (Au At At (Aw At) (A3 At At At At (Aw At) (Au At At (A7 At At) (Au At At (Aw At) (A3 At At At At (Aw At) (A3 At At At At (Aw At) (A3 At At At At (BA At At At) (Au At At (A7 At At) (Au At At (Aw At) (Bm 101 At (fun g => ?_) (fun g => ?_))))))))))))
     ·(try simp only [sd, se] at g)
      refine A3 At At At At (Aw At) (A3 At At At At (Aw At) (A3 At At At At (BA At At At) (Au At At (A7 At At) (Au At At (Aw At) (Bm 106 At (fun g1 => ?_) (fun g1 => ?_))))))
      ·(try simp only [sd, se] at g1)
       exact A3 At At At At (B6 [2] At (.inl ⟨At, At, At⟩) (En GL hG ) ⟨_, _, At, At, At⟩ Aq At (.inl At)) (Au At At (A7 At At) (Au At At (Ay At) (Az At ⟨At, At, AJ, (by first | rfl | (refine absurd g ?_; simp [ha, hb2]; done) | (refine absurd g1 ?_; simp [ha, hb2]; done)), trivial⟩)))
      ·(try simp only [sd, se] at g1)
       exact A5 At At At At At (Au At At (A7 At At) (Au At At (Ay At) (Az At ⟨At, At, AJ, (by first | rfl | (refine absurd g ?_; simp [ha, hb2]; done) | (refine absurd g1 ?_; simp [ha, hb2]; done)), trivial⟩)))
     ·(try simp only [sd, se] at g)
      exact A5 At At At At At (A5 At At At At At (A5 At At At At At (Au At At (A7 At At) (Au At At (Aw At) (A5 At At At At At (Au At At (A7 At At) (Au At At (Ay At) (Az At ⟨At, At, AJ, (by first | rfl | (refine absurd g ?_; simp [ha, hb2]; done) | (refine absurd g1 ?_; simp [ha, hb2]; done)), trivial⟩))))))))
    rintro _ rfl
    refine BB (⟨At, _, _, ⟨_, _, At, At, At⟩, (Cj (is := [2]) At), ?_⟩)
    all_goals exact ⟨rfl, rfl⟩
end Go.Proofs.YtapmjpihennhaaaGreatDoor
namespace Go.Eu
open Go.Abs
theorem Sk : ∀ {a b : List Tm}, Ic a → Ic b → Ic (a ++ b)
 | [], b, _, h => h
 | x :: a, b, h, h' => ⟨h.1, Sk h.2 h'⟩
theorem TR {th : BJ} (h : th = I8) {a b : Tm} (ha : ER a) (hb : ER b) : ER (GK th a b) := by
 subst h
 exact HF ha (Jw hb)
structure IA (th : BJ) (t : Tm) : Prop where
 all : (CP th t).all ≤ 200
 len : (B5 th t).1.length = (B5 th t).2.1.length
 cs : (B5 th t).1 = (CP th t).coefs
 us : (B5 th t).2.1 = (CP th t).atoms
theorem P6 {th : BJ} {t : Tm} (h : (B5 th t).2.2 = 0) : IA th t := by
 rcases HU th t with ⟨h5, _⟩ | ⟨_, h1, h2, h3⟩
 ·omega
 ·exact ⟨h1, by rw [h2, h3, (FO th t).len], h2, h3⟩
theorem form_over {th : BJ} {t : Tm} (h : ¬ (B5 th t).2.2 = 0) : (CP th t).all > 200 := by
 rcases HU th t with ⟨_, h5, _⟩ | ⟨h0, _⟩
 ·exact h5
 ·exact absurd h0 h
section
variable {th : BJ} {a b : Tm}
theorem Tt (ha : ER a) (hb : ER b) (h : (¬ (B5 th a).2.2 = 0 ∨ ¬ (B5 th b).2.2 = 0) ∨ ¬ (B5 th (GK th a b)).2.2 = 0) : (B5 th (GK th a b)).2.2 = 5 := by
 have hov : (CP th (GK th a b)).all > 200 := by
  rcases h with (h | h) | h
  ·exact Lr ha hb (.inl (form_over h))
  ·exact Lr ha hb (.inr (form_over h))
  ·exact form_over h
 rw [IQ hov]
theorem Tq (h : ((B5 th a).2.2 = 0 ∧ (B5 th b).2.2 = 0) ∧ (B5 th (GK th a b)).2.2 = 0) : IA th a ∧ IA th b ∧ IA th (GK th a b) := ⟨P6 h.1.1, P6 h.1.2, P6 h.2⟩
theorem Q9 (ha : ER a) (hb : ER b) (hA : IA th a) (hB : IA th b) (hS : IA th (GK th a b)) {i : Nat} {t : Tm} {z : Int} (ht : (B5 th (GK th a b)).2.1[i]? = some t) (hz : (B5 th (GK th a b)).1[i]? = some z) :
  z = wr (GH (B5 th a).1 (B5 th a).2.1 t - GH (B5 th b).1 (B5 th b).2.1 t) := by
 rw [hS.us] at ht
 rw [hS.cs] at hz
 rw [hA.cs, hA.us, hB.cs, hB.us]
 exact U2 ha hb hS.all ht hz
theorem Vw (ha : ER a) (hb : ER b) (hA : IA th a) (hB : IA th b) (hS : IA th (GK th a b)) {t : Tm} (ht : t ∈ (B5 th a).2.1 ++ (B5 th b).2.1) : t ∈ (B5 th (GK th a b)).2.1 := by
 rw [hA.us, hB.us] at ht
 rw [hS.us]
 exact XZ ha hb hS.all t ht
end
end Go.Eu
namespace Go.Proofs.YtapmjpihennhaaaGreatDoor
open Go.Abs Go.Eu
theorem Yv : ∀ (b0 : Nat) (t a : Tm), (Nd t) → Bt Tryz.prog 28 [.agg ((Be a).map .p), .ptr b0 0] [.box b0 ((Be t).map .p)] (DC (.p (.bool (Mx t a))) [.box b0 ((Be t).map .p)]) := by
 intro b0 t a h1
 refine A8 Tryz.func28 At eQ (n := 7) At At (Ax (Av (BM At At (Bh At) fun b2 => Au At At (Ay At) (Az At (Ax (Av (Au At At (A0 (i := 1) BO At At Ak) (Au At At (A0 (i := 0) BO At At Ak) (Au At At (Bg At At (Kl _ t a (Nat.le_refl _) h1) At) (Au At At (Ay At) ?_))))))))))
 refine Az At (BB (⟨At, _, _, ⟨_, _, At, At, At⟩, (Cj (is := [1]) At), ?_⟩))
 all_goals exact ⟨rfl, rfl⟩
theorem Wc : ∀ (b0 : Nat) (t : Tm) (l : List Tm), (Nd t) → (l.length < 1000000) → Bt Tryz.prog 50 [.p (.lst (BR l)), .fn (.func 28) [] [.ptr b0 0]] [.box b0 ((Be t).map .p)] (DC (.p (I (SP l t))) [.box b0 ((Be t).map .p)]) := by
 intro b0 t l h1 h2
 refine A8 Tryz.func50 At Zk (n := 19) At At (Ax (Av (Au At At (Ay At) (Az At (Ax (Ax (Av (Au At At (Aw At) (Au At At (Bp By At (Bo _)) (Au At At (Aw At) (Az At ?_)))))))))))
 refine Ba ?_
 refine CM (α := Nat) (fun i => ⟨19, mk [(0, .p (.lst (BR l))), (1, .fn (.func 28) [] [.ptr b0 0]), (7, .p (I (l.length : Nat))), (8, .p (I (i : Int)))], [.box b0 ((Be t).map .p)], []⟩) (fun i => l.length - i) (fun i => i ≤ l.length ∧ (∀ j, j < i → ∀ y, l[j]? = some y → y ≠ t)) 0 (⟨by omega, fun j h => by omega⟩) ?_ ?_
 ·exact B8 ⟨we At, we At, we At, we At, trivial⟩ (leH (is := [0]) At (wl (oe At) (D4)))
 rintro i hC
 try simp only at hC
 obtain ⟨hi, hC⟩ := hC
 refine Ax (Av (Au At At (BA At At At) (Az At (Ax (A9 At (fun c => ?_) (fun c => ?_))))))
 ·(try simp only [sd, se] at c)
  refine BC (Ax (Ba (Ax (Av (Au At At (Aw At) (Au At At (Ay At) (Az At (Ax (Av (Au At At (Aw At) (Au At At (Aw At) ?_)))))))))))
  refine Au At At (Aw At) ?_
  obtain ⟨x, hx⟩ := BP (l := l) (i := i) Ar
  refine Au At At (BL By At At Ar (CH hx) (Bj _)) (Au At At (Bi BO At (Bj _)) (Au At At (B6 [0] At (.inr At) (Yv b0 t x h1) ⟨_, _, At, At, At⟩ Aq At (.inl At)) (Az At (A9 At (fun c1 => ?_) (fun c1 => ?_)))))
  ·(try simp only [sd, se] at c1)
   refine Ax (Av (Au At At (Aw At) (Au At At (Ay At) (Az At (BB (⟨At, _, _, ⟨_, _, At, At, At⟩, (Cj (is := [0]) At), ?_⟩))))))
   all_goals exact ⟨by show (.p (I (i : Int)) : AV) = _; rw [L0 hx ((F9.1 (by simpa using c1)).symm) hC], rfl⟩
  ·(try simp only [sd, se] at c1)
   refine BC (Av (Au At At (CS At At Ar Ar) (Au At At (Aw At) (Az At ?_))))
   refine ⟨(i + 1), AZ, ⟨by omega, Dl (p := fun _ (y : Tm) => y ≠ t) hC hx (fun e => by subst e; simp [C3] at c1)⟩, B8 ⟨we rfl, we rfl, we rfl, we rfl, trivial⟩ (leH (is := [0]) rfl (wl (oe rfl) (D4)))⟩
 ·(try simp only [sd, se] at c)
  refine CL (Ax (Av (Au At At (Ay At) (Az At (BB (⟨At, _, _, ⟨_, _, At, At, At⟩, (Cj (is := [0]) At), ?_⟩))))))
  all_goals exact ⟨by show (.p (I (-1)) : AV) = _; rw [NM fun j hj => hC j Ar], rfl⟩
theorem Wz : ∀ (b0 : Nat) (t : Tm) (l : List Tm), (Nd t) → (l.length < 1000000) → Bt Tryz.prog 27 [.p (.lst (BR l)), .fn (.func 28) [] [.ptr b0 0]] [.box b0 ((Be t).map .p)] (DC (.p (.bool (decide (SP l t ≥ 0)))) [.box b0 ((Be t).map .p)]) := by
 intro b0 t l h1 h2
 refine A8 Tryz.func27 At cl (n := 9) At At (Ax (Av (Au At At (Ay At) (Az At (Ax (Av (Au At At (Aw At) (Au At At (Aw At) (Au At At (B6 [0] At (.inl ⟨At, At, At⟩) (Wc b0 t l h1 h2) ⟨_, _, At, At, At⟩ Aq At (.inl At)) (Au At At (BA At At At) (Au At At (Ay At) ?_)))))))))))
 refine Az At (BB (⟨At, _, _, ⟨_, _, At, At, At⟩, (Cj (is := [0]) At), ?_⟩))
 all_goals exact ⟨rfl, rfl⟩
theorem Sg : ∀ (cs : List Int) (us : List Tm) (t : Tm), (Ic us) → (us.length < 1000000) → (cs.length = us.length) → G5 Tryz.prog 25 [.p (.lst (List.map Cf cs)), .p (.lst (BR us)), .agg ((Be t).map .p)] (.p (I (GH cs us t))) := by
 intro cs us t h1 h2 h3
 refine A8 Tryz.func25 At dI (n := 27) At At (Ax (Av (BM At At (Bh At) fun b5 => Au At At (Ay At) (Az At (Ax (Ax (Av (Au At At (Aw At) (Au At At (Bp D9 At (List.length_map _)) (Au At At (Aw At) ?_))))))))))
 refine Au At At (Bp By At (Bo _)) (Au At At (Px At At) (Au At At (Aw At) (Az At (Ba ?_))))
 refine CM (α := Nat) (fun i => ⟨27, mk [(0, .p (.lst (List.map Cf cs))), (1, .p (.lst (BR us))), (5, .ptr b5 0), (12, .p (I (min ((cs.length : Nat) : Int) ((us.length : Nat) : Int)))), (13, .p (I (i : Int)))], [.box b5 ((Be t).map .p)], []⟩) (fun i => us.length - i) (fun i => i ≤ us.length ∧ (∀ j, j < i → ∀ y, us[j]? = some y → y ≠ t)) 0 (⟨by omega, fun j h => by omega⟩) ?_ ?_
 ·exact B8 ⟨we At, we At, we At, we At, we At, trivial⟩ (leH (is := [0]) At (wl (oe At) (D4)))
 rintro i hC
 try simp only at hC
 obtain ⟨hi, hC⟩ := hC
 refine Ax (Av (Au At At (BA At At At) (Az At (Ax (A9 At (fun c => ?_) (fun c => ?_))))))
 ·(try simp only [sd, se] at c)
  refine BC (Ax (Ba (Ax (Av (Au At At (Aw At) (Au At At (Ay At) (Az At (Ax (CQ (fun k => false) D0 (A4 At At (fun _ => Aw At) trivial (A4 At At (fun _ => Aw At) trivial ?_)))))))))))
  obtain ⟨x, hx⟩ := BP (l := us) (i := i) Ar
  refine A4 At At (fun _ => BL By At At Ar (CH hx) (Bj _)) trivial (A4 At At (fun _ => Bi BO At (Bj _)) trivial (BQ (j := 0) At At At (fun H i hi => A0 (i := i) BO At hi Ak) AA trivial (A4 At At (fun _ => Bg At At (Kl _ x t (Nat.le_refl _) (DY h1 hx)) At) trivial (CK At An (A9 At (fun c1 => ?_) (fun c1 => ?_))))))
  ·(try simp only [sd, se] at c1)
   refine Ax (Av (Au At At (Aw At) (Au At At (Aw At) ?_)))
   obtain ⟨x1, hx1⟩ := BP (l := cs) (i := i) Ar
   refine Au At At (BL D9 At At Ar (Ds hx1) (At)) (Au At At (CI De At) (Au At At (Ay At) (Az At (BB (⟨At, _, _, ⟨_, _, At, At, At⟩, (List.nil_sublist _), ?_⟩)))))
   all_goals exact ⟨by show (.p (I x1) : AV) = _; rw [Rl hx (F9.1 (by simpa using c1)) hC hx1], rfl⟩
  ·(try simp only [sd, se] at c1)
   refine BC (Av (Au At At (CS At At Ar Ar) (Au At At (Aw At) (Az At ?_))))
   refine ⟨(i + 1), AZ, ⟨by omega, Dl (p := fun _ (y : Tm) => y ≠ t) hC hx (fun e => by subst e; simp [C3] at c1)⟩, B8 ⟨we rfl, we rfl, we rfl, we rfl, we rfl, trivial⟩ (leH (is := [0]) rfl (wl (oe rfl) (D4)))⟩
 ·(try simp only [sd, se] at c)
  refine CL (Ax (Av (Au At At (Ay At) (Az At (BB (⟨At, _, _, ⟨_, _, At, At, At⟩, (List.nil_sublist _), ?_⟩))))))
  all_goals exact ⟨by show (.p (I 0) : AV) = _; rw [T3 fun j hj => hC j Ar], rfl⟩
theorem Y4 (th : BJ) (h : th = (BJ.mk ⟨#[90]⟩ ⟨#[97, 100, 100]⟩ ⟨#[122, 101, 114, 111]⟩ ⟨#[110, 101, 103]⟩ ⟨#[111, 110, 101]⟩ ⟨#[108, 101, 113]⟩ [⟨#[108, 48]⟩, ⟨#[108, 49]⟩, ⟨#[108, 50]⟩, ⟨#[108, 51]⟩, ⟨#[108, 52]⟩, ⟨#[108, 53]⟩, ⟨#[108, 54]⟩, ⟨#[108, 55]⟩, ⟨#[108, 56]⟩, ⟨#[108, 57]⟩, ⟨#[108, 49, 48]⟩, ⟨#[108, 49, 49]⟩, ⟨#[108, 49, 50]⟩, ⟨#[108, 49, 51]⟩])) : G5 Tryz.prog 21 [] (.agg ((EE th).map .p)) := by
 subst h; exact Vh
theorem VB (th : BJ) (a b : Tm) (h : th.add = ⟨#[97, 100, 100]⟩) : G5 Tryz.prog 23 [TV a, TV b] (TV (BS th.add [a, b])) := by
 rw [h]; exact Ix a b
theorem Vo (th : BJ) (a : Tm) (h : th.neg = ⟨#[110, 101, 103]⟩) : G5 Tryz.prog 24 [TV a] (TV (BS th.neg [a])) := by
 rw [h]; exact L8 a
theorem Ui : ∀ (l : List Tm), (l.length < 2 ^ 36) → Bt Tryz.prog 26 [.p (.lst (BR l))] [] (Wi (fun v => v) 5 (BR l)) := by
 intro l h1
 refine A8 Tryz.func26 At eF (n := 8) At At (Ax (Av (Au At At (Ay At) (Az At (Ax (Ax (Av (Au At At (Aw At) (Ff At At (On By At At) ?_)))))))))
 rintro _ ⟨q, rfl, hq⟩
 refine Az At (A9 At (fun c => ?_) (fun c => ?_))
 ·(try simp only [sd, se] at c)
  refine Ax (Av (Au At At (Ay At) (Az At (CG (GZ (t := 2) (sz := 5) At) (BB (⟨At, _, _, ⟨_, _, At, At, At⟩, (Cj (is := [0]) At), ?_⟩))))))
  rw [show l = [] by have := hq c; simpa [Ee] using this]
  all_goals exact ⟨_, _, rfl, rfl⟩
 ·(try simp only [sd, se] at c)
  refine BC (Ax (Av (VY At At (Mj By) fun b5 cp => Au At At (Aw At) (P9 At At (DX (i := 0) (rows' := BR l) By By B7 At At At At At At (CC _) AE (Lg [] l)) fun o cp1 => Au At At (Ay At) (Az At (BB (⟨At, _, _, ⟨_, _, At, At, At⟩, (Cj (is := [0]) At), ?_⟩)))))))
  all_goals exact ⟨_, _, rfl, rfl⟩
theorem Xo : ∀ (GL : List (Nat × Obj)) (hG : Gl GL) (a b : Tm), (Wd a) → (Wd b) → Bt Tryz.prog 6 [.agg ((Be a).map .p), .agg ((Be b).map .p)] [.glob GL] (DC (.p (.bool true)) [.glob GL]) := by
 intro GL hG a b h1 h2
 obtain ⟨th, hth⟩ : ∃ q, q = (BJ.mk ⟨#[90]⟩ ⟨#[97, 100, 100]⟩ ⟨#[122, 101, 114, 111]⟩ ⟨#[110, 101, 103]⟩ ⟨#[111, 110, 101]⟩ ⟨#[108, 101, 113]⟩ [⟨#[108, 48]⟩, ⟨#[108, 49]⟩, ⟨#[108, 50]⟩, ⟨#[108, 51]⟩, ⟨#[108, 52]⟩, ⟨#[108, 53]⟩, ⟨#[108, 54]⟩, ⟨#[108, 55]⟩, ⟨#[108, 56]⟩, ⟨#[108, 57]⟩, ⟨#[108, 49, 48]⟩, ⟨#[108, 49, 49]⟩, ⟨#[108, 49, 50]⟩, ⟨#[108, 49, 51]⟩]) := ⟨_, rfl⟩
 refine A8 Tryz.func6 At ga (n := 123) At At (Ax (Av (BM At At (Bh At) fun b2 => BM At At (Bh At) fun b3 => Au At At (Ay At) (Az At (Ax (Av (Au At At (Bg At At (Y4 th hth) At) (BM At At (BK We At) fun b5 => Au At At (A6 (i := 0) EG At At At At At (TC _)) ?_))))))))
 refine Az At (Ax (Ax (CA [2, 3, 5] 32 (fun y => ∃ b1 : Bool, y = .p (.bool b1) ∧ (b1 = false → (ER a ∧ size a ≤ 200) ∧ (ER b ∧ size b ≤ 200))) ?_ ?_)))
 ·refine CQ (fun k => Nat.beq k 3 || Nat.beq k 10) D0 (BQ (j := 2) At At At (fun H i hi => A0 (i := i) BO At hi Ak) AA trivial (BQ (j := 1) At At At (fun H i hi => A0 (i := i) BO At hi Ak) AA trivial (A4 At At (fun _ => BU (rows := BR [a, b]) By B7 At At At At (Bz (CC _)) (C1 _)) trivial (VS [] At At (Bb At At (Ld [a, b] ⟨h1, h2, trivial⟩ (by simp [wide])) (.inl At)) An (⟨_, false, At, fun h => absurd h Aq⟩) AA ?_))))
  rintro _ ⟨b1, rfl, hb⟩
  refine ⟨trivial, ?_⟩
  refine A4 At At (fun _ => Cg At) trivial (A4 At At (fun _ => Aw At) trivial (I0 25 At (fun g => ?_) (fun g => ?_)))
  ·(try simp only [sd, se] at g)
   exact CN At At At At At trivial (CN At At At At At trivial (CN At At At At At trivial (CN At At At At At trivial (WH At At At At trivial (CN At At At At At trivial (A4 At At (fun _ => A7 At At) trivial (CK At An (⟨At, At, AJ, (by refine ⟨_, rfl, fun h => ?_⟩; first | (exact absurd h Aq) | (exact ⟨(hb g).2 a As, (hb g).2 b As⟩) | (simp_all; done)), ⟨At, At, At, trivial⟩⟩))))))))
  ·(try simp only [sd, se] at g)
   refine C5 (i := 2) At At At At At (fun H i hi => A0 (i := i) BO At hi Ak) AA trivial (C5 (i := 1) At At At At At (fun H i hi => A0 (i := i) BO At hi Ak) AA trivial (CB At At At At (fun _ => Bg At At (Vo th b (by rw [hth])) At) trivial (CB At At At At (fun _ => Bg At At (VB th a (BS th.neg [b]) (by rw [hth])) At) trivial (XE [] At At At At (Bb At At (MN (BS th.add [a, (BS th.neg [b])]) 65536 8 65536 65536 (TR hth ((hb g).2 a As).1 ((hb g).2 b As).1).nd (by rw [JR]; have := ((hb g).2 a As).2; have := ((hb g).2 b As).2; omega)) (.inl At)) An (⟨_, 1, At, fun h => absurd h Aq⟩) AA ?_))))
   rintro _ ⟨e, rfl, he⟩
   refine ⟨trivial, ?_⟩
   exact CB At At At At (fun _ => BA At At At) trivial (A4 At At (fun _ => A7 At At) trivial (CK At An (⟨At, At, AJ, (by refine ⟨_, rfl, fun h => ?_⟩; first | (exact absurd h Aq) | (exact ⟨(hb g).2 a As, (hb g).2 b As⟩) | (simp_all; done)), ⟨At, At, At, trivial⟩⟩)))
 rintro _ ⟨q, rfl, hq⟩
 refine A9 At (fun c => ?_) (fun c => ?_)
 ·(try simp only [sd, se] at c)
  refine Ax (Av (Au At At (B6 [3] At (.inl ⟨At, At, At⟩) (En GL hG ) ⟨_, _, At, At, At⟩ Aq At (.inl At)) (Au At At (Ay At) (Az At (BB (⟨At, _, _, ⟨_, _, At, At, At⟩, (Cj (is := [3]) At), ?_⟩))))))
  all_goals exact ⟨rfl, rfl⟩
 ·(try simp only [sd, se] at c)
  obtain ⟨⟨ha1, ha2⟩, hb1, hb2⟩ := hq (by simpa using c)
  have hs1 := TR hth ha1 hb1
  have hfa := Gp (th := th) ha1 Ar
  have hfb := Gp (th := th) hb1 Ar
  have hfs := Gp (th := th) (t := BS th.add [a, BS th.neg [b]]) hs1 (by rw [JR]; omega)
  refine BC (Ax (Av (Au At At (A0 (i := 0) EG At At At) (Au At At (A0 (i := 2) BO At At Ak) (Au At At (B6 [3] At (.inl ⟨At, At, At⟩) (Io GL hG th a ha1 Ar) ⟨_, _, At, At, At⟩ Aq At (.inl At)) (Au At At (Aw At) (Au At At (BY At At) (Au At At (BY At At) (Au At At (BY At At) (Au At At (Ay At) (Au At At (Ay At) ?_)))))))))))
  refine Au At At (Ay At) (Az At (Ax (Av (Au At At (A0 (i := 0) EG At At At) (Au At At (A0 (i := 1) BO At At Ak) (Au At At (B6 [3] At (.inl ⟨At, At, At⟩) (Io GL hG th b hb1 Ar) ⟨_, _, At, At, At⟩ Aq At (.inl At)) (Au At At (Aw At) (Au At At (BY At At) (Au At At (BY At At) (Au At At (BY At At) (Au At At (Ay At) ?_)))))))))))
  refine Au At At (Ay At) (Au At At (Ay At) (Az At (Ax (CQ (fun k => false) D0 (BQ (j := 0) At At At (fun H i hi => A0 (i := i) EG At hi At) AA trivial (BQ (j := 2) At At At (fun H i hi => A0 (i := i) BO At hi Ak) AA trivial (BQ (j := 1) At At At (fun H i hi => A0 (i := i) BO At hi Ak) AA trivial (A4 At At (fun _ => Bg At At (Vo th b (by rw [hth])) At) trivial (A4 At At (fun _ => Bg At At (VB th a (BS th.neg [b]) (by rw [hth])) At) trivial (CD [3] At At At (.inl ⟨At, At, At⟩) (Io GL hG th (BS th.add [a, (BS th.neg [b])]) hs1 (by rw [JR]; omega)) ⟨_, _, At, At, At⟩ (Cp _) (aw (we At) (aw (we At) (Cv))) AA trivial (A4 At At (fun _ => Aw At) trivial ?_)))))))))))
  refine A4 At At (fun _ => BY At At) trivial (A4 At At (fun _ => BY At At) trivial (A4 At At (fun _ => BY At At) trivial (A4 At At (fun _ => Ay At) trivial (A4 At At (fun _ => Ay At) trivial (A4 At At (fun _ => Ay At) trivial (CK At An (Ax (Ax (CA [6, 7, 9, 10, 12, 13, 14] 67 (fun y => y = .p (.bool (((((B5 th a).2.2 : Int) != (0 : Int)) || (((B5 th b).2.2 : Int) != (0 : Int))) || (((B5 th (BS th.add [a, (BS th.neg [b])])).2.2 : Int) != (0 : Int))))) ?_ ?_)))))))))
  ·refine Av (Au At At (Aw At) (Au At At (BA At At At) (Au At At (Aw At) (Bm 60 At (fun g => ?_) (fun g => ?_)))))
   ·(try simp only [sd, se] at g)
    exact A5 At At At At At (A5 At At At At At (Au At At (A7 At At) (Au At At (Aw At) (A5 At At At At At (A5 At At At At At (Au At At (A7 At At) (Az At (⟨At, At, AJ, AI, ⟨At, At, At, At, At, At, At, trivial⟩⟩))))))))
   ·(try simp only [sd, se] at g)
    refine A3 At At At At (Aw At) (A3 At At At At (BA At At At) (Au At At (A7 At At) (Au At At (Aw At) (Bm 64 At (fun g1 => ?_) (fun g1 => ?_)))))
    ·(try simp only [sd, se] at g1)
     exact A5 At At At At At (A5 At At At At At (Au At At (A7 At At) (Az At (⟨At, At, AJ, AI, ⟨At, At, At, At, At, At, At, trivial⟩⟩))))
    ·(try simp only [sd, se] at g1)
     exact A3 At At At At (Aw At) (A3 At At At At (BA At At At) (Au At At (A7 At At) (Az At (⟨At, At, AJ, AI, ⟨At, At, At, At, At, At, At, trivial⟩⟩))))
  rintro _ rfl
  refine A9 At (fun c1 => ?_) (fun c1 => ?_)
  ·(try simp only [sd, se] at c1)
   have he5 : (B5 th (GK th a b)).2.2 = 5 := Tt ha1 hb1 (by simpa using c1)
   refine Ax (CA [] 4 (fun y => y = .p (.bool true)) ?_ ?_)
   ·refine Av (Au At At (Aw At) (Au At At (BA At At At) (Au At At (Aw At) (Bm 70 At (fun g => ?_) (fun g => ?_)))))
    ·(try simp only [sd, se] at g)
     exact A3 At At At At (B6 [3] At (.inl ⟨At, At, At⟩) (En GL hG ) ⟨_, _, At, At, At⟩ Aq At (.inl At)) (Au At At (A7 At At) (Au At At (Ay At) (Az At ⟨At, At, AJ, (by first | rfl | (refine absurd g ?_; simp [he5]; done)), trivial⟩)))
    ·(try simp only [sd, se] at g)
     exact A5 At At At At At (Au At At (A7 At At) (Au At At (Ay At) (Az At ⟨At, At, AJ, (by first | rfl | (refine absurd g ?_; simp [he5]; done)), trivial⟩)))
   rintro _ rfl
   refine BB (⟨At, _, _, ⟨_, _, At, At, At⟩, (Cj (is := [3]) At), ?_⟩)
   all_goals exact ⟨rfl, rfl⟩
  ·(try simp only [sd, se] at c1)
   obtain ⟨hA, hB, hS⟩ := Tq (by simpa using c1)
   have hla := hA.len
   have hlb := hB.len
   have hls : (B5 th (BS th.add [a, BS th.neg [b]])).1.length = (B5 th (BS th.add [a, BS th.neg [b]])).2.1.length := hS.len
   have hap : ((B5 th a).2.1 ++ (B5 th b).2.1).length = (B5 th a).2.1.length + (B5 th b).2.1.length := List.length_append
   refine BC (Ax (Ax (Av (Au At At (Aw At) (Au At At (Bp By At (Bo _)) (Au At At (Aw At) (Az At (Ba ?_))))))))
   refine CM (α := Nat) (fun i => ⟨123, mk [(6, .p (.lst (List.map Cf ((B5 th a).1)))), (7, .p (.lst (BR ((B5 th a).2.1)))), (9, .p (.lst (List.map Cf ((B5 th b).1)))), (10, .p (.lst (BR ((B5 th b).2.1)))), (12, .p (.lst (List.map Cf ((B5 th (BS th.add [a, (BS th.neg [b])])).1)))), (13, .p (.lst (BR ((B5 th (BS th.add [a, (BS th.neg [b])])).2.1)))), (73, .p (.lst (BR ((B5 th (BS th.add [a, (BS th.neg [b])])).2.1)))), (74, .p (I (((B5 th (BS th.add [a, (BS th.neg [b])])).2.1).length : Nat))), (75, .p (I (i : Int)))], [.glob GL], []⟩) (fun i => (B5 th (BS th.add [a, BS th.neg [b]])).2.1.length - i) (fun i => i ≤ (B5 th (BS th.add [a, BS th.neg [b]])).2.1.length) 0 Ar ?_ ?_
   ·exact B8 ⟨we At, we At, we At, we At, we At, we At, we At, we At, we At, trivial⟩ (leH (is := [3]) At (wl (oe At) (D4)))
   rintro i hC
   try simp only at hC
   have hi := hC
   refine Ax (Av (Au At At (BA At At At) (Az At (Ax (A9 At (fun c2 => ?_) (fun c2 => ?_))))))
   ·(try simp only [sd, se] at c2)
    refine BC (Ax (Ba (Ax (Av (Au At At (Aw At) ?_)))))
    obtain ⟨x, hx⟩ := BP (l := (B5 th (BS th.add [a, (BS th.neg [b])])).2.1) (i := i) Ar
    refine Au At At (BL By At At Ar (CH hx) (Bj _)) (Au At At (Bi BO At (Bj _)) (BM At At (BK B7 At) fun b16 => Au At At (Ay At) (Au At At (A6 (i := 0) BO At At At Ak Ac (CF _)) (Az At (Ax (CA [6, 7, 9, 10, 12, 13, 73, 74, 75] 99 (fun y => y = .p (.bool false)) ?_ ?_))))))
    ·refine CQ (fun k => false) D0 (A4 At At (fun _ => Aw At) trivial (A4 At At (fun _ => Aw At) trivial (A4 At At (fun _ => Bp D9 At (List.length_map _)) trivial (A4 At At (fun _ => BA At At At) trivial (A4 At At (fun _ => Aw At) trivial (I0 84 At (fun g => ?_) (fun g => ?_)))))))
     ·(try simp only [sd, se] at g)
      refine CN At At At At At trivial (CN At At At At At trivial (CN At At At At At trivial (CN At At At At At trivial (CN At At At At At trivial (CN At At At At At trivial (CN At At At At At trivial (CN At At At At At trivial (CN At At At At At trivial (CN At At At At At trivial (CN At At At At At trivial (CN At At At At At trivial ?_)))))))))))
      exact CN At At At At At trivial (CN At At At At At trivial (A4 At At (fun _ => A7 At At) trivial (CK At An (⟨At, At, AJ, (by first | (refine pB ?_; rw [Q9 ha1 hb1 hA hB hS hx hx1]; simp; done) | (exfalso; omega)), ⟨At, At, At, At, At, At, At, At, At, trivial⟩⟩))))
     ·(try simp only [sd, se] at g)
      refine CB At At At At (fun _ => Aw At) trivial (CB At At At At (fun _ => Aw At) trivial ?_)
      obtain ⟨x1, hx1⟩ := BP (l := (B5 th (BS th.add [a, (BS th.neg [b])])).1) (i := i) Ar
      refine CB At At At At (fun _ => BL D9 At At Ar (Ds hx1) (At)) trivial (CB At At At At (fun _ => CI De At) trivial (CB At At At At (fun _ => Aw At) trivial (CB At At At At (fun _ => Aw At) trivial (C5 (i := 0) At At At At At (fun H i hi => A0 (i := i) BO At hi Ak) AA trivial (CB At At At At (fun _ => Bg At At (Sg ((B5 th a).1) ((B5 th a).2.1) x hfa.2.1 hfa.2.2 hla) At) trivial (CB At At At At (fun _ => Aw At) trivial (CB At At At At (fun _ => Aw At) trivial (C5 (i := 0) At At At At At (fun H i hi => A0 (i := i) BO At hi Ak) AA trivial (CB At At At At (fun _ => Bg At At (Sg ((B5 th b).1) ((B5 th b).2.1) x hfb.2.1 hfb.2.2 hlb) At) trivial (CB At At At At (fun _ => NZ At At) trivial ?_))))))))))
      exact CB At At At At (fun _ => BA At At At) trivial (A4 At At (fun _ => A7 At At) trivial (CK At An (⟨At, At, AJ, (by first | (refine pB ?_; rw [Q9 ha1 hb1 hA hB hS hx hx1]; simp; done) | (exfalso; omega)), ⟨At, At, At, At, At, At, At, At, At, trivial⟩⟩)))
    rintro _ rfl
    refine A9 At (fun c3 => by cases c3) (fun c3 => ?_)
    refine BC (Av (Au At At (CS At At Ar Ar) (Au At At (Aw At) (Az At ?_))))
    refine ⟨(i + 1), AZ, by omega, B8 ⟨we rfl, we rfl, we rfl, we rfl, we rfl, we rfl, we rfl, we rfl, we rfl, trivial⟩ (leH (is := [1]) rfl (wl (oe rfl) (D4)))⟩
   ·(try simp only [sd, se] at c2)
    refine CL (Ax (Ax (Av (Au At At (Aw At) (Uj At At At (.inl ⟨At, At, At⟩) (Ui ((B5 th a).2.1) (by have := hfa.2.2; omega)) (.inl At) fun o cp => Au At At (Aw At) (P9 At At (DX (i := 0) (rows' := BR ((B5 th b).2.1)) By By B7 At At At At At At (CC _) AE (Lg ((B5 th a).2.1) ((B5 th b).2.1))) fun o1 cp1 => Au At At (JO By At (Bo _)) (Au At At (Aw At) (Az At (Ba ?_)))))))))
    refine CM (α := Nat) (fun i => ⟨123, mk [(12, .p (.lst (List.map Cf ((B5 th (BS th.add [a, (BS th.neg [b])])).1)))), (13, .p (.lst (BR ((B5 th (BS th.add [a, (BS th.neg [b])])).2.1)))), (104, .vs o1 (BR (((B5 th a).2.1) ++ ((B5 th b).2.1))).length cp1), (105, .p (I ((((B5 th a).2.1) ++ ((B5 th b).2.1)).length : Nat))), (106, .p (I (i : Int)))], [.vec o1 5 (BR (((B5 th a).2.1) ++ ((B5 th b).2.1))) cp1, .glob GL], []⟩) (fun i => ((B5 th a).2.1 ++ (B5 th b).2.1).length - i) (fun i => i ≤ ((B5 th a).2.1 ++ (B5 th b).2.1).length) 0 AS ?_ ?_
    ·exact B8 ⟨we At, we At, we At, we At, we At, trivial⟩ (leH (is := [0, 1]) At (wl (oe At) (wl (oe At) (D4))))
    rintro i hC1
    try simp only at hC1
    have hi := hC1
    refine Ax (Av (Au At At (BA At At At) (Az At (Ax (A9 At (fun c3 => ?_) (fun c3 => ?_))))))
    ·(try simp only [sd, se] at c3)
     refine BC (Ax (Ba (Ax (Av (Pk (i := 0) At Af fun b1 hb => ?_)))))
     subst hb
     refine Au At At (Df By At At Ar AH) ?_
     obtain ⟨y, hy⟩ := BP (l := ((B5 th a).2.1) ++ ((B5 th b).2.1)) (i := i) AQ
     refine Au At At (HK (i := 0) BO At At (CH hy)) (BM At At (BK B7 At) fun b18 => Au At At (A6 (i := 0) BO At At At Ak Ac (CF _)) (Az At (Ax (Av (Au At At (Aw At) (Au At At (Cw At At) (Au At At (B6 [0] At (.inl ⟨At, At, At⟩) (Wz b18 y ((B5 th (BS th.add [a, (BS th.neg [b])])).2.1) (WE (Sk hfa.2.1 hfb.2.1) (List.mem_of_getElem? hy)) hfs.2.2) ⟨_, _, At, At, At⟩ Aq At (.inl At)) (Au At At (Cg At) (Az At (A9 At (fun c4 => ?_) (fun c4 => ?_)))))))))))
     ·(try simp only [sd, se] at c4)
      exact absurd (Rj.2 (Vw ha1 hb1 hA hB hS (List.mem_of_getElem? hy))) (by simpa using c4)
     ·(try simp only [sd, se] at c4)
      refine BC (Av (Au At At (CS At At Ar Ar) (Au At At (Aw At) (Az At ?_))))
      refine ⟨(i + 1), AZ, by omega, B8 ⟨we rfl, we rfl, we rfl, we rfl, we rfl, trivial⟩ (leH (is := [1, 2]) rfl (wl (oe rfl) (wl (oe rfl) (D4))))⟩
    ·(try simp only [sd, se] at c3)
     refine CL (Ax (CA [] 4 (fun y => y = .p (.bool true)) ?_ ?_))
     ·refine Av (Au At At (Aw At) (Au At At (Bp D9 At (List.length_map _)) (Au At At (Aw At) (Au At At (Bp By At (Bo _)) (Au At At (BA At At At) (Au At At (Aw At) (Bm 120 At (fun g => ?_) (fun g => ?_))))))))
      ·(try simp only [sd, se] at g)
       exact A3 At At At At (B6 [1] At (.inl ⟨At, At, At⟩) (En GL hG ) ⟨_, _, At, At, At⟩ Aq At (.inl At)) (Au At At (A7 At At) (Au At At (Ay At) (Az At ⟨At, At, AJ, (by first | rfl | (refine absurd g ?_; simp [hls]; done)), trivial⟩)))
      ·(try simp only [sd, se] at g)
       exact A5 At At At At At (Au At At (A7 At At) (Au At At (Ay At) (Az At ⟨At, At, AJ, (by first | rfl | (refine absurd g ?_; simp [hls]; done)), trivial⟩)))
     rintro _ rfl
     refine BB (⟨At, _, _, ⟨_, _, At, At, At⟩, (Cj (is := [1]) At), ?_⟩)
     all_goals exact ⟨rfl, rfl⟩
end Go.Proofs.YtapmjpihennhaaaGreatDoor
namespace Go.Eu
open Go.Abs
def Fo : List Int → List Int
 | [] => []
 | c :: cs => if c = 0 then Fo cs else c :: Fo cs
def Er : List Int → List Tm → List Tm
 | c :: cs, u :: us => if c = 0 then Er cs us else u :: Er cs us
 | _, _ => []
theorem Lz : ∀ {cs : List Int} {us : List Tm} {u : Tm}, u ∈ Er cs us → u ∈ us
 | [], _, u, h => by simp [Er] at h
 | c :: cs, [], u, h => by simp [Er] at h
 | c :: cs, v :: us, u, h => by
  unfold Er at h
  split at h
  ·exact List.mem_cons_of_mem _ (Lz h)
  ·rcases List.mem_cons.1 h with rfl | h
   ·simp
   ·exact List.mem_cons_of_mem _ (Lz h)
theorem Ki : ∀ (cs : List Int) (c : Int), Fo (cs ++ [c]) = if c = 0 then Fo cs else Fo cs ++ [c]
 | [], c => by simp [Fo]
 | d :: cs, c => by
  simp only [List.cons_append, Fo, Ki cs c]
  split <;> split <;> rfl
theorem Ks : ∀ (cs : List Int) (us : List Tm) (c : Int) (u : Tm), cs.length = us.length → Er (cs ++ [c]) (us ++ [u]) = if c = 0 then Er cs us else Er cs us ++ [u]
 | [], [], c, u, _ => by simp [Er]
 | d :: cs, v :: us, c, u, h => by
  simp only [List.cons_append, Er, Ks cs us c u (by simpa using h)]
  split <;> split <;> rfl
def VR (C : FQ) (x : Tm) (s : Int) : Nat → FQ
 | 0 => C
 | j + 1 => ⟨C.coefs ++ [((j + 1 : Nat) : Int) * s], C.atoms ++ [x], C.all + ((j + 1 : Nat) : Int)⟩
theorem Xq (C : FQ) (x : Tm) (s : Int) (j : Nat) : (VR C x s j).all = C.all + j := by cases j <;> simp [VR]
theorem XJ {C : FQ} {x : Tm} {s : Int} (hl : C.coefs.length = C.atoms.length) (h0 : 0 ≤ C.all) (hx : x ∉ C.atoms) (hs : s = 1 ∨ s = -1) : ∀ j : Nat, C.all + j ≤ 200 → ET (VR C x s j) x s = VR C x s (j + 1)
 | 0, h => by
  show ET C x s = ⟨C.coefs ++ [_], C.atoms ++ [x], _⟩
  unfold ET
  rw [if_neg (DR hx), FZ ⟨by omega, by omega⟩]
  simp
 | j + 1, h => by
  show ET ⟨C.coefs ++ [((j + 1 : Nat) : Int) * s], C.atoms ++ [x], C.all + ((j + 1 : Nat) : Int)⟩ x s = ⟨C.coefs ++ [_], C.atoms ++ [x], _⟩
  unfold ET
  simp only
  rw [if_pos (by rw [HZ hx]; simp), HZ hx, ← hl]
  have e : (C.coefs ++ [((j + 1 : Nat) : Int) * s]).getD C.coefs.length 0 = ((j + 1 : Nat) : Int) * s := by simp [List.getD_eq_getElem?_getD]
  rw [e, List.set_append_right _ _ (Nat.le_refl _), Nat.sub_self, List.set_cons_zero, FZ (n := C.all + _ + 1) ⟨by omega, by omega⟩]
  have e2 : wr (((j + 1 : Nat) : Int) * s + s) = ((j + 1 + 1 : Nat) : Int) * s := by
   rcases hs with rfl | rfl <;> (rw [FZ ⟨by omega, by omega⟩]; omega)
  rw [e2]
  congr 1
  omega
section
variable {th : BJ}
theorem UZ {C : FQ} {x : Tm} {c : Int} (h : (Cu th x).1 = 0) (ha : ¬ C.all > 200) {n : Nat} (hn : size (E8 th c x) ≤ n) : Bw th n C (E8 th c x) 1 = ET C x (if c < 0 then -1 else 1) := by
 have := size_pos x
 unfold E8 at hn ⊢
 by_cases hc : c < 0
 ·rw [if_pos hc] at hn ⊢
  rw [if_pos hc]
  simp only [DM, B4, List.length_cons, List.length_nil] at hn
  obtain ⟨m, rfl⟩ : ∃ m, n = m + 1 + 1 := ⟨n - 2, by omega⟩
  rw [HM (x := x) ha (by rw [Jn]) (by rw [Jn]; rfl), show wr (0 - 1) = -1 by decide, E2 ha h]
 ·rw [if_neg hc] at hn ⊢
  rw [if_neg hc]
  obtain ⟨m, rfl⟩ : ∃ m, n = m + 1 := ⟨n - 1, by omega⟩
  exact E2 ha h
theorem PF {C : FQ} {x : Tm} {c : Int} (h : (Cu th x).1 = 0) (hl : C.coefs.length = C.atoms.length) (h0 : 0 ≤ C.all) (hx : x ∉ C.atoms) : ∀ (k j n : Nat) (o : Tm), C.all + j + k ≤ 200 → size (Eo th (E8 th c x) k o) ≤ n → Bw th n (VR C x (if c < 0 then -1 else 1) j) (Eo th (E8 th c x) k o) 1 = Bw th (n - k) (VR C x (if c < 0 then -1 else 1) (j + k)) o 1
 | 0, j, n, o, _, _ => by simp [Eo]
 | k + 1, j, n, o, hk, hn => by
  simp only [Eo, DM, B4, List.length_cons, List.length_nil] at hn ⊢
  obtain ⟨m, rfl⟩ : ∃ m, n = m + 1 := ⟨n - 1, by omega⟩
  have ha : ¬ (VR C x (if c < 0 then -1 else 1) j).all > 200 := by rw [Xq]; omega
  rw [HI ha (by rw [Ha]) (x := E8 th c x) (y := Eo th (E8 th c x) k o) (by rw [Ha]; rfl) (by rw [Ha]; rfl), UZ h ha Ar, XJ hl h0 hx (by split <;> simp) j Ar,
   PF h hl h0 hx k (j + 1) m o Ar Ar, show m + 1 - (k + 1) = m - k by omega, show j + 1 + k = j + (k + 1) by omega]
theorem OD : ∀ (cs : List Int) (us : List Tm) (C : FQ) (n : Nat), cs.length = us.length → (∀ u ∈ us, (Cu th u).1 = 0) → us.Nodup → (∀ u ∈ us, u ∉ C.atoms) → C.coefs.length = C.atoms.length → 0 ≤ C.all → C.all + ED cs ≤ 200 → size (Dx th cs us) ≤ n → Bw th n C (Dx th cs us) 1 = ⟨C.coefs ++ Fo cs, C.atoms ++ Er cs us, C.all + ED cs⟩
 | [], [], C, n, _, _, _, _, _, h0, ha, hn => by
  rw [show Dx th [] [] = BS th.zero [] by simp [Dx]] at hn ⊢
  simp only [DM] at hn
  simp only [ED] at ha
  obtain ⟨m, rfl⟩ : ∃ m, n = m + 1 := ⟨n - 1, by omega⟩
  rw [Gg Ar (by rw [OO])]
  simp [Fo, Er, ED]
 | c :: cs, u :: us, C, n, hl, hu, hd, hx, hc, h0, ha, hn => by
  have h1 := Lo cs
  simp only [ED] at ha
  have hk := Jy (th := th) (x := E8 th c u) (o := Dx th cs us) c.natAbs
  have hk2 : c.natAbs ≤ c.natAbs * (size (E8 th c u) + 3) := by rw [Nat.mul_add]; omega
  rw [Dx] at hn ⊢
  have hd' := List.nodup_cons.1 hd
  have := PF (th := th) (C := C) (x := u) (c := c) (hu u As) hc h0 (hx u As) c.natAbs 0 n (Dx th cs us) Ar hn
  rw [show VR C u (if c < 0 then -1 else 1) 0 = C from rfl, Nat.zero_add] at this
  rw [this]
  by_cases e : c = 0
  ·subst e
   rw [show Int.natAbs 0 = 0 from rfl, show VR C u _ 0 = C from rfl, OD cs us C _ (by simpa using hl) (fun w hw => hu w (by simp [hw])) hd'.2 (fun w hw => hx w (by simp [hw])) hc h0 Ar Ar]
   simp [Fo, Er, ED]
  ·obtain ⟨k, hk3⟩ : ∃ k, c.natAbs = k + 1 := ⟨c.natAbs - 1, by omega⟩
   have e2 : ((k + 1 : Nat) : Int) * (if c < 0 then -1 else 1) = c := by split <;> omega
   rw [hk3, show VR C u (if c < 0 then -1 else 1) (k + 1) = ⟨C.coefs ++ [c], C.atoms ++ [u], C.all + ((k + 1 : Nat) : Int)⟩ by simp only [VR, e2],
    OD cs us _ _ (by simpa using hl) (fun w hw => hu w (by simp [hw])) hd'.2 (fun w hw => by
     intro q
     rcases List.mem_append.1 q with q | q
     ·exact hx w (by simp [hw]) q
     ·rw [List.mem_singleton] at q; subst q; exact hd'.1 hw) (by simp [hc]) (by simp only; omega) (by simp only; omega) Ar]
   simp only [Fo, Er, if_neg e, ED, List.append_assoc, List.singleton_append, hk3]
   congr 1
   omega
theorem Tn {cs : List Int} {us : List Tm} (hl : cs.length = us.length) (hu : ∀ u ∈ us, (Cu th u).1 = 0) (hd : us.Nodup) (ha : ED cs ≤ 200) : B5 th (EO th cs us) = (Fo cs, Er cs us, 0) := by
 rw [IY hl (Pz cs 0 Ar Ar)]
 have := OD (th := th) cs us ⟨[], [], 0⟩ (size (Dx th cs us)) hl hu hd (fun _ _ h => by simp at h) rfl As (by simpa using ha) (Nat.le_refl _)
 have hc : CP th (Dx th cs us) = ⟨Fo cs, Er cs us, ED cs⟩ := by unfold CP; rw [this]; simp
 rw [GQ (by rw [hc]; simp only; omega), hc]
theorem Sy : ∀ (cs : List Int), (∀ c ∈ cs, -19 ≤ c ∧ c ≤ 19) → ED cs ≤ 19 * cs.length
 | [], _ => by simp [ED]
 | c :: cs, h => by
  have h1 := Sy cs fun x hx => h x (by simp [hx])
  have h2 := h c As
  simp only [ED, List.length_cons]
  omega
def RV (th : BJ) : Prop := th.add.size ≤ 200 ∧ th.zero.size ≤ 200 ∧ th.neg.size ≤ 200
theorem Ph {n : ByteArray} {l : List Tm} (hn : n.size ≤ 200) (hl : ∀ t ∈ l, Fw t) : Fw (BS n l) := by
 have hap : ∀ (l : List Tm) (f : Tm), Fw f → (∀ t ∈ l, Fw t) → Fw (apply f l) := by
  intro l
  induction l with
  | nil => intro f h _; simpa [apply] using h
  | cons a l ih =>
   intro f h hq
   rw [apply]
   exact ih _ ⟨by decide, by simp, by simp, h, hq a As, trivial⟩ fun t ht => hq t (by simp [ht])
 exact hap l _ ⟨hn, by simp, by simp, trivial⟩ hl
theorem UO (h : RV th) : ∀ (cs : List Int) (us : List Tm), (∀ u ∈ us, Fw u) → Fw (Dx th cs us)
 | [], us, _ => by rw [show Dx th [] us = BS th.zero [] by cases us <;> simp [Dx]]; exact Ph h.2.1 As
 | c :: cs, [], _ => by rw [show Dx th (c :: cs) [] = BS th.zero [] by simp [Dx]]; exact Ph h.2.1 As
 | c :: cs, u :: us, hu => by
  rw [Dx]
  have h1 := UO h cs us fun w hw => hu w (by simp [hw])
  have h2 : Fw (E8 th c u) := by
   unfold E8
   split
   ·exact Ph h.2.2 (by simpa using hu u As)
   ·exact hu u As
  generalize c.natAbs = k
  induction k with
  | zero => exact h1
  | succ k ih => rw [Eo]; exact Ph h.1 (by simp [h2, ih])
theorem XW (h : RV th) {cs : List Int} {us : List Tm} (hu : ∀ u ∈ us, Fw u) : Fw (EO th cs us) := by
 unfold EO
 split
 ·exact UO h cs us hu
 ·exact ⟨by decide, by simp, by simp, trivial⟩
end
def Ml (cs : List Int) : List Int := cs.map fun c => c.tmod 20
theorem Zp (c : Int) : -19 ≤ c.tmod 20 ∧ c.tmod 20 ≤ 19 := by
 rcases Int.lt_or_le c 0 with h | h
 ·obtain ⟨d, rfl⟩ : ∃ d, c = -d := ⟨-c, by omega⟩
  rw [Int.neg_tmod, Int.tmod_eq_emod_of_nonneg Ar]
  omega
 ·rw [Int.tmod_eq_emod_of_nonneg h]
  omega
theorem V3 (cs : List Int) : ED (Ml cs) ≤ 19 * cs.length := by
 have := Sy (Ml cs) fun c hc => by
  obtain ⟨d, _, rfl⟩ := List.mem_map.1 hc
  exact Zp d
 simpa [Ml] using this
theorem MF : ∀ cs : List Int, (Fo cs).length ≤ cs.length
 | [] => by simp [Fo]
 | c :: cs => by
  have := MF cs
  unfold Fo
  split <;> simp <;> omega
theorem Lw : ∀ (cs : List Int) (us : List Tm), (Er cs us).length ≤ cs.length
 | [], us => by simp [Er]
 | c :: cs, [] => by simp [Er]
 | c :: cs, u :: us => by
  have := Lw cs us
  unfold Er
  split <;> simp <;> omega
theorem Kn {α : Type} {l : List α} {i : Nat} {x : α} (h : l[i]? = some x) : l.take (i + 1) = l.take i ++ [x] := by rw [List.take_add_one, h]; rfl
section
variable {cs A W : List Int} {us L : List Tm} {i : Nat} {x : Tm} {c : Int}
theorem RC (hA : A = (Ml cs).take i) (hW : W = Fo A) (hL : L = Er A (us.take i)) (hx : us[i]? = some x) (hc : cs[i]? = some c) :
  A ++ [c.tmod 20] = (Ml cs).take (i + 1) ∧ (c.tmod 20 ≠ 0 → W ++ [c.tmod 20] = Fo (A ++ [c.tmod 20]) ∧ L ++ [x] = Er (A ++ [c.tmod 20]) (us.take (i + 1))) ∧ (c.tmod 20 = 0 → W = Fo (A ++ [c.tmod 20]) ∧ L = Er (A ++ [c.tmod 20]) (us.take (i + 1))) := by
 have hl : A.length = (us.take i).length := by
  rw [hA]
  have h1 := (List.getElem?_eq_some_iff.1 hx).1
  have h2 := (List.getElem?_eq_some_iff.1 hc).1
  simp [Ml]; omega
 refine ⟨by rw [Kn (x := c.tmod 20) (by simp [Ml, hc]), hA], fun h => ?_, fun h => ?_⟩
 ·rw [Ki, if_neg h, Kn hx, Ks _ _ _ _ hl, if_neg h, hW, hL]
  exact ⟨At, At⟩
 ·rw [Ki, if_pos h, Kn hx, Ks _ _ _ _ hl, if_pos h, hW, hL]
  exact ⟨At, At⟩
theorem T8 (h : ∀ j, j < us.length → ∀ y, us[j]? = some y → y ∉ us.take j) : us.Nodup := by
 unfold List.Nodup
 rw [List.pairwise_iff_getElem]
 intro i j hi hj hij e
 have hj2 : us[j]? = some us[j] := List.getElem?_eq_getElem hj
 refine h j hj _ hj2 (List.mem_iff_getElem?.2 ⟨i, ?_⟩)
 rw [List.getElem?_take, if_pos hij, List.getElem?_eq_getElem hi, e]
end
end Go.Eu
