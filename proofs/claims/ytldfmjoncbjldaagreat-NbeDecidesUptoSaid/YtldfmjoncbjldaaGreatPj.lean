/- Part of the proofs: an abstract program logic, plain models and contracts of functions. -/
import Derived.Test.YtldfmjoncbjldaaGreatPi
import Derived.Test.YtldfmjoncbjldaaGreatPd
import Derived.Test.YtldfmjoncbjldaaGreatPb
import Derived.Test.YtldfmjoncbjldaaGreatPf
import Derived.Test.YtldfmjoncbjldaaGreatPe
set_option linter.unusedVariables false
set_option linter.unusedSimpArgs false
set_option maxRecDepth 100000
namespace Go.Proofs.YtldfmjoncbjldaaGreat
open Go.Abs Go.Eu
set_option maxHeartbeats 4000000 in
theorem Xj : ∀ (n m : Nat) (ds : List B8) (s : Int) (g : Tm) (a : List Tm), (xE ds n) → (G2 ds) → (N3 s) → (okB g = true) → (a.length < 549755813888) → (∀ y ∈ a, okB y = true) → (IA ds CE n g a s ≠ .stuck) → BL Tryz.prog 115 [.ptr m 0, .agg ((BD g).map .p), .p (.lst (A6 a))] [.box m [.p (.lst (List.map B1 ds)), .p (I s)]] (OP (fun (r : Option Tm × Int) => .tup [TV (r.1.getD BN), .p (.bool r.1.isSome)]) (fun _ => .p (.iface 178 .unit)) (fun r H' => H' = [.box m [.p (.lst (List.map B1 ds)), .p (I r.2)]]) ((IA ds CE n g a s).ex)) := by
 intro n m ds s g a hT h2 h3 h4 h5 h6 hns
 obtain ⟨gk, gi, gn, gl, gs⟩ := g
 have hgo := Bu.1 h4
 have hgl := hgo.nd
 simp only [Nd, Db] at hgl
 generalize hC : IA ds CE n (.mk gk gi gn gl gs : Tm) a s = X at hns ⊢
 refine DI Tryz.func115 ?_
 refine CG [0] O O fun b4 => ?_
 refine Bp [0] O (Az Ba O) fun b6 => ?_
 refine A2 [3, 1] O (Bj [2] O (.inl ⟨O, O, O⟩) (gJ m ds s (.mk gk gi gn gl gs : Tm) h2.g.env) ⟨_, _, O, O, O⟩ As O (.inl O)) ?_
 refine Bp [3] O (Az GL O) fun b8 => ?_
 refine BC [4, 0, 1] rfl ?_ ?_ <;> intro c
 ·rw [Y8 c] at hC
  refine CK [3, 1, 0] O ?_
  refine A5 (BE (i := 1) O) ?_
  refine BP (A9 [0] O (Bg [1] [3] O O ⟨⟨_, _⟩, Gy hC.symm, O, O⟩))
 have hu := c
 obtain ⟨ix, dd, e1, e2, e3, e4⟩ := KI hu
 have hde := e2.decl
 have hdg := h2.g.all _ e3
 have hel := h2.g.env.len
 have hil := (List.getElem?_eq_some_iff.1 e1).1
 have hfx := hdg.fx
 have hnr := KK hdg
 have hcl := hdg.din.cl
 have hfl := hdg.din.fl
 refine E2 [0] [8] O ?_
 refine Bb [5, 3] O ?_
 refine CF (j := 0) O O O (fun H i hi => Ax (i := i) Dz O hi (EJ _)) AB Aw ?_
 refine A3 O (fun _ => A0 Qb O O Au (G4 e4) (DJ _)) Aw ?_
 refine A3 O (fun _ => Bk TE O (DJ _)) Aw ?_
 refine Ge [] O O (Az Ie O) Ap fun b10 => ⟨AB, Aw, ?_⟩
 refine Dj [1, 0, 1] O (A2 [1] O (Ax (i := 1) Dz O O (FZ _)) ?_)
 refine BC [2] rfl ?_ ?_ <;> intro c1
 ·have hk1 := c1
  rw [e9 hu e4 hk1] at hC
  refine DS [4, 1, 3] O ?_
  refine GZ [4] O O O (.inl ⟨O, O, O⟩) (m6 m ds s ((BY ds (.mk gk gi gn gl gs : Tm).name).1) (.mk gk gi gn gl gs : Tm) a dd h3 e4 Au hdg h4 h5 (by rw [hC]; exact hns)) ⟨_, _, O, O, O⟩ As (aw (we O) (aw (we O) (aw (we O) (aw (we O) (HT))))) (fun _ _ h => (congrArg List.length h).trans O) ?_ ?_
  rotate_left
  ·intro e _ he
   exact ⟨O, _, List.nil_sublist _, ⟨_, by rw [← hC]; exact he, rfl⟩⟩
  rintro ⟨q, n2⟩ _ hz rfl
  have hfin := hz
  refine BW (A9 [4, 2, 1] O (Bg [2] [4] O O ⟨⟨q, n2⟩, by rw [← hC]; exact hfin, rfl, rfl⟩))
 have hk1 := c1
 refine BC [2] rfl ?_ ?_ <;> intro c2
 ·have hk5 := c2
  refine CQ [1, 0] O (Ym dd hdg.din hdg.fx) ?_
  refine CA [2] O O (A8 _) ?_
  refine BC [2] rfl ?_ ?_ <;> intro c3
  ·rw [mj hu e4 hk5 Au] at hC
   refine CK [3, 2, 0] O ?_
   refine A5 (BE (i := 2) O) ?_
   refine BP (A9 [0] O (Bg [2] [4] O O ⟨⟨_, _⟩, Gy hC.symm, O, O⟩))
  have hfew : ¬ (a.length : Int) ≤ Bv dd := by omega
  obtain ⟨x, hx⟩ := A1 (l := a) (i := (Bv dd : Int).toNat) Au
  have hxo := h6 _ (List.mem_of_getElem? hx)
  refine A2 [3] O (A0 BS O O Au (BO hx) (A7 _)) ?_
  refine A2 [1] O (Bj [4] O (.inl ⟨O, O, O⟩) (W7 m ds s x h2.g hxo) ⟨_, _, O, O, O⟩ As O (.inl O)) ?_
  refine Bp [5] O (Az Ie O) fun b12 => ?_
  refine BC [5, 0, 1] rfl ?_ ?_ <;> intro c4
  ·have hcs := MD c4
   rw [ZC hu e4 hk5 hfew hx hcs] at hC
   obtain ⟨e, he⟩ | ⟨⟨q, n2⟩, hz⟩ := Mt ((ER ds CE dd (.mk gk gi gn gl gs : Tm) a x s).ex)
   ·refine CK [0] O ?_
    refine R5 ((fun _ => .p (.iface 178 .unit)) e) 8 [.val (.ptr m 0), .val (.agg ((B1 dd).map .p)), .val (.agg [.p (I gk), .p (I gi), .p (.str gn), .p (.lst (List.map B4 gl)), .p (.lst (A6 gs))]), .val (.p (.lst (A6 a))), .val (.p (.lst (A6 a))), .val (.p (I (Bv dd))), .val (.ref (BD x)), .val (.agg ((BD x).map .p)), .val (.p .any), .val (.p .any), .val (.p .any), .val (.p .any), .val (.p .any)] Ot O Ap O Aw (fun _ _ => by exact ⟨rfl, _, List.nil_sublist _, ⟨_, by rw [← hC]; exact he, rfl⟩⟩) ?_
    refine DY O O (fun Bs => Bh O) ?_
    refine DY O O (fun Bs => Cy (i := Bs.length + 1) TE O (EB O) (by simp [DJ])) ?_
    refine DY O O (fun Bs => Cy (i := Bs.length + 4) CN O (EB O) O) ?_
    refine DY O O (fun Bs => Bh O) ?_
    refine DY O O (fun Bs => Bh O) ?_
    refine DY O O (fun Bs => Bh O) ?_
    refine DY O O (fun Bs => A0 BS O O Au (BO hx) (A7 _)) ?_
    refine DY O O (fun Bs => Bk CN O (A7 _)) ?_
    refine X2 (mkp := (fun _ => .p (.iface 178 .unit))) (e := e) [5] he O O (.inl ⟨O, O, O⟩) (eB m ds s dd (.mk gk gi gn gl gs : Tm) a x h3 h2.g hdg h4 h5 hxo Au (by rw [hC]; exact hns)) ⟨_, _, O, O, O⟩ As (aw (we O) (aw (we O) (aw (we O) (aw (we O) (aw (we O) (HT)))))) ?_
    refine Ik O O Ap ?_
    refine Ik O O Ap ?_
    refine Ik O O Ap ?_
    refine Ik O O Ap ?_
    exact X4
   have hfin := hz
   refine CK [0] O ?_
   refine O9 [.box b12 ((B1 ((Bo ds x).1)).map .p), .box b10 ((B1 dd).map .p), .box b8 ((GH ((BY ds (.mk gk gi gn gl gs : Tm).name).1)).map .p), .box b6 [.p (I 0), .p (I 0), .p (.str ⟨#[]⟩), .p (.nils), .p (.nils)], .box b4 [.p (I gk), .p (I gi), .p (.str gn), .p (.lst (List.map B4 gl)), .p (.lst (A6 gs))], .box m [.p (.lst (List.map B1 ds)), .p (I n2)]] 8 [.val (.ptr m 0), .val (.agg ((B1 dd).map .p)), .val (.agg [.p (I gk), .p (I gi), .p (.str gn), .p (.lst (List.map B4 gl)), .p (.lst (A6 gs))]), .val (.p (.lst (A6 a))), .val (.p (.lst (A6 a))), .val (.p (I (Bv dd))), .val (.ref (BD x)), .val (.agg ((BD x).map .p)), .val (.tup [.agg ((BD (q.getD BN)).map .p), .p (.bool q.isSome)]), .val (.agg ((BD (q.getD BN)).map .p)), .val (.p (.bool q.isSome))] [.p .any, .p (.bool q.isSome)] [] Ot O Ap Ap Ap O ?_
   refine Ca O O (fun Bs => Bh O) ?_
   refine MB O O O (fun Bs => Cy (i := Bs.length + 1) TE O (EB O) (by simp [DJ])) (fun _ Bs => Cy (i := Bs.length + 1) TE O (EB O) (by simp [DJ])) ?_
   refine MB O O O (fun Bs => Cy (i := Bs.length + 4) CN O (EB O) O) (fun _ Bs => Cy (i := Bs.length + 4) CN O (EB O) O) ?_
   refine Ca O O (fun Bs => Bh O) ?_
   refine Ca O O (fun Bs => Bh O) ?_
   refine Ca O O (fun Bs => Bh O) ?_
   refine Ca O O (fun Bs => A0 BS O O Au (BO hx) (A7 _)) ?_
   refine Ca O O (fun Bs => Bk CN O (A7 _)) ?_
   refine To O O (fun Bs => Mx [5] O (.inl ⟨O, O, O⟩) (XN hz (eB m ds s dd (.mk gk gi gn gl gs : Tm) a x h3 h2.g hdg h4 h5 hxo Au (by rw [hC]; exact hns))) ⟨_, _, O, O, O⟩ As O (aw (we O) (aw (we O) (aw (we O) (aw (we O) (aw (we O) (HT))))))) ?_
   refine Ca O O (fun Bs => HI O O) ?_
   refine Ca O O (fun Bs => HI O O) ?_
   refine KL ?_
   refine Hv [.box b12 ((B1 ((Bo ds x).1)).map .p), .box b10 ((B1 dd).map .p), .box b8 ((GH ((BY ds (.mk gk gi gn gl gs : Tm).name).1)).map .p), .box b6 ((BD (q.getD BN)).map .p), .box b4 [.p (I gk), .p (I gi), .p (.str gn), .p (.lst (List.map B4 gl)), .p (.lst (A6 gs))], .box m [.p (.lst (List.map B1 ds)), .p (I n2)]] O (DX (i := 3) CN O O O Am Ag (Gd _)) ?_
   refine Hv [.box b12 ((B1 ((Bo ds x).1)).map .p), .box b10 ((B1 dd).map .p), .box b8 ((GH ((BY ds (.mk gk gi gn gl gs : Tm).name).1)).map .p), .box b6 ((BD (q.getD BN)).map .p), .box b4 [.p (I gk), .p (I gi), .p (.str gn), .p (.lst (List.map B4 gl)), .p (.lst (A6 gs))], .box m [.p (.lst (List.map B1 ds)), .p (I n2)]] O (H7 O) ?_
   refine Oi ?_
   refine Cu (A9 [0] O (Bg [3] [5] O O ⟨⟨q, n2⟩, by rw [← hC]; exact hfin, rfl, rfl⟩))
  have hcn := Ng c4
  refine A2 [3] O (A0 BS O O Au (BO hx) (A7 _)) ?_
  rw [YF hu e4 hk5 hfew hx hcn] at hC
  have hn0 := hns
  rw [← hC] at hn0
  have hn1 := R3 hn0
  refine DS [1] O ?_
  refine GZ [5] O O O (.inl ⟨O, O, O⟩) (hT m x s h3 hn1) ⟨_, _, O, O, O⟩ As (aw (we O) (aw (we O) (HT))) (fun _ _ h => (congrArg List.length h).trans O) ?_ ?_
  rotate_left
  ·intro e _ he
   exact ⟨O, _, List.nil_sublist _, ⟨_, by rw [← hC]; exact XE hn0 he, rfl⟩⟩
  rintro ⟨q, n2⟩ _ hz rfl
  rw [XO hz] at hC
  refine BW (Bp [3] O (Az Ba O) fun b16 => ?_)
  refine BC [4, 0, 1] rfl ?_ ?_ <;> intro c5
  ·rw [je c5] at hC
   refine CK [3, 4, 0] O ?_
   refine A5 (BE (i := 4) O) ?_
   refine BP (A9 [0] O (Bg [4] [6] O O ⟨⟨_, _⟩, Gy hC.symm, O, O⟩))
  rw [kP c5] at hC
  refine DS [1] O ?_
  refine Mj O O O (.inl ⟨O, O, O⟩) (NC a h5) (.inl O) fun o cp => ?_
  refine BW (DS [4, 1] O ?_)
  refine I4 (i := 0) O (by rw [A8]; omega) fun b hb => ?_
  subst hb
  refine BW (A2 [0] O (CJ BS O O Au Ah) ?_)
  refine A2 [0] O (C7 (i := 0) (j := ((Bv dd : Int).toNat)) CN O O O Ah O (Ho _) (A7 _) (Gd _) (MP a ((Bv dd : Int).toNat) (q.getD BN))) ?_
  refine DS [2, 6] O ?_
  refine BH (CV (t := 93) (x := .vs (some b) (A6 ((a).set ((Bv dd : Int).toNat) (q.getD BN))).length cp) (CZ a (l' := (a).set ((Bv dd : Int).toNat) (q.getD BN)) Av)) ?_
  refine BH (CV (t := 18) (x := .vs (some b) (A6 ((a).set ((Bv dd : Int).toNat) (q.getD BN))).length cp) (CZ a (l' := (a).set ((Bv dd : Int).toNat) (q.getD BN)) Av)) ?_
  refine BH (CV (t := 94) (x := .vs (some b) (A6 ((a).set ((Bv dd : Int).toNat) (q.getD BN))).length cp) (CZ a (l' := (a).set ((Bv dd : Int).toNat) (q.getD BN)) Av)) ?_
  refine BH (CV (t := 99) (x := .vs (some b) (A6 ((a).set ((Bv dd : Int).toNat) (q.getD BN))).length cp) (CZ a (l' := (a).set ((Bv dd : Int).toNat) (q.getD BN)) Av)) ?_
  refine BH (CL (i := 0) [93, 18, 94, 99] O (DA ⟨O, O, O, O, Aw⟩)) ?_
  refine BW (CQ [0] O (Fp (.mk gk gi gn gl gs : Tm) ((a).set ((Bv dd : Int).toNat) (q.getD BN)) Ac) ?_)
  refine A9 [2, 4, 1] O (Bg [4] [6] O O ⟨⟨_, _⟩, Gy hC.symm, O, O⟩)
 have hk5 := c2
 refine BC [2] rfl ?_ ?_ <;> intro c3
 ·have hk6 := c3
  obtain ⟨fk, ff, f1, f2⟩ := e2.func hk6
  have hff : dd.funs[(BY ds (Tm.mk gk gi gn gl gs).name).1.item.toNat]? = some ff := by rw [f2]; simpa using f1
  have hfm := List.mem_of_getElem? hff
  have hfa := hdg.fu ff hfm
  have hfi := (List.getElem?_eq_some_iff.1 f1).1
  refine A2 [1] O (Ax (i := 0) F6 O O (CD _)) ?_
  refine A2 [1] O (Ax (i := 1) Dz O O (GS _)) ?_
  refine A2 [0] O (A0 J2 O O Au (Fe hff) (Eh _)) ?_
  refine Bp [1] O (Az mQ O) fun b19 => ?_
  refine CA [2, 0, 1] O O (A8 _) ?_
  refine A2 [1] O (Ax (i := 0) Dz O O (C9 _)) ?_
  refine BC [1] rfl ?_ ?_ <;> intro c4
  ·rw [e8 hu e4 hk6 hff Au] at hC
   refine DS [4, 4, 0] O ?_
   refine GZ [5] O O O (.inl ⟨O, O, O⟩) (cj n m ds s (.mk gk gi gn gl gs : Tm) a dd ff hT h2 h3 e3 hfm Au h4 h5 h6 (by rw [hC]; exact hns)) ⟨_, _, O, O, O⟩ As (aw (we O) (aw (we O) (aw (we O) (aw (we O) (HT))))) (fun _ _ h => (congrArg List.length h).trans O) ?_ ?_
   rotate_left
   ·intro e _ he
    exact ⟨O, _, List.nil_sublist _, ⟨_, by rw [← hC]; exact he, rfl⟩⟩
   rintro ⟨q, n2⟩ _ hz rfl
   have hfin := hz
   refine BW (A9 [4, 3, 1] O (Bg [3] [5] O O ⟨⟨q, n2⟩, by rw [← hC]; exact hfin, rfl, rfl⟩))
  rw [lT hu e4 hk6 hff Au] at hC
  refine CK [3, 3, 0] O ?_
  refine A5 (BE (i := 3) O) ?_
  refine BP (A9 [0] O (Bg [3] [5] O O ⟨⟨_, _⟩, Gy hC.symm, O, O⟩))
 have hk6 := c3
 rw [uJ hu hk1 hk5 hk6] at hC
 refine CK [3, 2, 0] O ?_
 refine A5 (BE (i := 2) O) ?_
 refine BP (A9 [0] O (Bg [2] [4] O O ⟨⟨_, _⟩, Gy hC.symm, O, O⟩))
set_option maxHeartbeats 4000000 in
theorem me : ∀ (ds : List B8) (hE : G2 ds) (n : Nat), xE ds n := by
 intro ds hE n
 induction n using Nat.strongRecOn with
 | ind n ih =>
  intro m t s hJ hns
  obtain ⟨k, rfl⟩ := Tb rfl hns
  generalize hC : Di ds CE (k + 1) s t = X at hns ⊢
  have hwo := dr hC hns
  have hsp := Q8 hwo
  have hsl := hsp.len
  have hss := hsp.sz
  have hsa := hsp.asz
  refine DI Tryz.func67 ?_
  refine CG [0] O O fun b3 => ?_
  refine Bp [0] O (Az Ba O) fun b4 => ?_
  refine CQ [2, 1] O (O5 t hsp.nd Ak) ?_
  refine Bp [3] O (Az Ba O) fun b6 => ?_
  generalize hz : (Ay t).1 = z
  obtain ⟨zk, zi, zn, zl, zs⟩ := z
  have hzo : okB (.mk zk zi zn zl zs) = true := hz ▸ hsp.head
  have hzq := hz
  have hzl := J6 hzo
  have hzn := (Bu.1 hzo).nd
  refine BC [6, 0, 1, 0] rfl ?_ ?_ <;> intro c
  ·have hk := (congrArg Tm.kind hzq).trans c
   refine CA [1] O O (A8 _) ?_
   refine BC [1] rfl ?_ ?_ <;> intro c1
   ·obtain ⟨x, hx⟩ := A1 (l := zs) (i := 1) Au
    obtain ⟨x1, hx1⟩ := A1 (l := (Ay t).2) (i := 0) Au
    have hxo := Fh hzo (i := 1) hx
    have hx1o := hsp.args _ (List.mem_of_getElem? hx1)
    rw [XA hwo hk Au (by rw [hzq]; exact hx), vZ hx1] at hC
    have hn3 := hns
    rw [← hC] at hn3
    obtain ⟨e, he⟩ | ⟨⟨z1, n2⟩, hz⟩ := Mt (K9 s (B9 x [x1] 0))
    ·refine CK [0] O ?_
     refine R5 ((fun _ => .p (.iface 178 .unit)) e) 9 [.val (.ptr m 0), .val (.ptr b6 (0 + 4)), .val (.p (.lst (A6 zs))), .val (.ref (BD x)), .val (.agg ((BD x).map .p)), .val (.p (.lst (A6 ((Ay t).2)))), .val (.ref (BD x1)), .val (.agg ((BD x1).map .p)), .val (.p (.lst (A6 [x1]))), .val (.p .any), .val (.p (.lst (A6 ((Ay t).2)))), .val (.p (.lst (A6 (((Ay t).2).drop 1)))), .val (.p .any), .val (.p .any), .val (.p .any)] Ot O Ap O Aw (fun _ _ => by exact ⟨rfl, _, List.nil_sublist _, ⟨_, by rw [← hC]; exact TM hn3 he, rfl⟩⟩) ?_
     refine DY O O (fun Bs => Bh O) ?_
     refine DY O O (fun Bs => BG S1 O O) ?_
     refine DY O O (fun Bs => Bt (i := Bs.length + 0) JW O (EB O) O) ?_
     refine DY O O (fun Bs => A0 BS O O Au (BO hx) (A7 _)) ?_
     refine DY O O (fun Bs => Bk CN O (A7 _)) ?_
     refine DY O O (fun Bs => Bh O) ?_
     refine DY O O (fun Bs => A0 BS O O Au (BO hx1) (A7 _)) ?_
     refine DY O O (fun Bs => Bk CN O (A7 _)) ?_
     refine DY O O (fun Bs => By (rows := A6 [x1]) BS Ba O O O O (CW (Bd _)) (Gl _)) ?_
     refine X2 (mkp := (fun _ => .p (.iface 178 .unit))) (e := e) [3] he O O (.inl ⟨O, O, O⟩) (T9 m ds s x [x1] hJ hxo (ok_one hx1o) R4) ⟨_, _, O, O, O⟩ As (aw (we O) (aw (we O) (aw (we O) (HT)))) ?_
     refine DY O O (fun Bs => Bh O) ?_
     refine DY O O (fun Bs => Cn (lo := 1) BS O (CW (Bd _)) ⟨_, O⟩ O AZ (Nat.le_refl _) (MR ((Ay t).2) 1)) ?_
     refine Ik O O Ap ?_
     refine Ik O O Ap ?_
     refine Ik O O Ap ?_
     exact X4
    rw [UI hn3 hz] at hC
    have hJ3 := (lF hJ hz).1
    refine CK [0] O ?_
    refine O9 [.box b6 [.p (I zk), .p (I zi), .p (.str zn), .p (.lst (List.map B4 zl)), .p (.lst (A6 zs))], .box b4 [.p (I 0), .p (I 0), .p (.str ⟨#[]⟩), .p (.nils), .p (.nils)], .box b3 ((BD t).map .p), .box m [.p (.lst (List.map B1 ds)), .p (I n2)]] 9 [.val (.ptr m 0), .val (.ptr b6 (0 + 4)), .val (.p (.lst (A6 zs))), .val (.ref (BD x)), .val (.agg ((BD x).map .p)), .val (.p (.lst (A6 ((Ay t).2)))), .val (.ref (BD x1)), .val (.agg ((BD x1).map .p)), .val (.p (.lst (A6 [x1]))), .val (.agg ((BD z1).map .p)), .val (.p (.lst (A6 ((Ay t).2)))), .val (.p (.lst (A6 (((Ay t).2).drop 1)))), .val (.agg ((BD (apply z1 (((Ay t).2).drop 1))).map .p))] [.p .any, .p (.bool true)] [] Ot O Ap Ap Ap O ?_
    refine Ca O O (fun Bs => Bh O) ?_
    refine Ca O O (fun Bs => BG S1 O O) ?_
    refine MB O O O (fun Bs => Bt (i := Bs.length + 0) JW O (EB O) O) (fun _ Bs => Bt (i := Bs.length + 0) JW O (EB O) O) ?_
    refine Ca O O (fun Bs => A0 BS O O Au (BO hx) (A7 _)) ?_
    refine Ca O O (fun Bs => Bk CN O (A7 _)) ?_
    refine Ca O O (fun Bs => Bh O) ?_
    refine Ca O O (fun Bs => A0 BS O O Au (BO hx1) (A7 _)) ?_
    refine Ca O O (fun Bs => Bk CN O (A7 _)) ?_
    refine Ca O O (fun Bs => By (rows := A6 [x1]) BS Ba O O O O (CW (Bd _)) (Gl _)) ?_
    refine To O O (fun Bs => Mx [3] O (.inl ⟨O, O, O⟩) (XN hz (T9 m ds s x [x1] hJ hxo (ok_one hx1o) R4)) ⟨_, _, O, O, O⟩ As O (aw (we O) (aw (we O) (aw (we O) (HT))))) ?_
    refine Ca O O (fun Bs => Bh O) ?_
    refine Ca O O (fun Bs => Cn (lo := 1) BS O (CW (Bd _)) ⟨_, O⟩ O AZ (Nat.le_refl _) (MR ((Ay t).2) 1)) ?_
    refine Ca O O (fun Bs => BF O O (Fp z1 (((Ay t).2).drop 1) Ab) O) ?_
    refine KL ?_
    refine Hv [.box b6 [.p (I zk), .p (I zi), .p (.str zn), .p (.lst (List.map B4 zl)), .p (.lst (A6 zs))], .box b4 ((BD (apply z1 (((Ay t).2).drop 1))).map .p), .box b3 ((BD t).map .p), .box m [.p (.lst (List.map B1 ds)), .p (I n2)]] O (DX (i := 1) CN O O O Am Ag (Gd _)) ?_
    refine Hv [.box b6 [.p (I zk), .p (I zi), .p (.str zn), .p (.lst (List.map B4 zl)), .p (.lst (A6 zs))], .box b4 ((BD (apply z1 (((Ay t).2).drop 1))).map .p), .box b3 ((BD t).map .p), .box m [.p (.lst (List.map B1 ds)), .p (I n2)]] O (H7 O) ?_
    refine Oi ?_
    refine Cu (A9 [0] O (Bg [1] [3] O O ⟨⟨_, _⟩, Gy hC.symm, O, O⟩))
   rw [TB hwo hk Au] at hC
   refine CK [3, 1, 0] O ?_
   refine A5 (BE (i := 1) O) ?_
   refine BP (A9 [0] O (Bg [1] [3] O O ⟨⟨_, _⟩, Gy hC.symm, O, O⟩))
  refine BC [2] rfl ?_ ?_ <;> intro c1
  ·have hk := (congrArg Tm.kind hzq).trans c1
   obtain ⟨x, hx⟩ := A1 (l := zs) (i := 2) Au
   obtain ⟨x1, hx1⟩ := A1 (l := zs) (i := 1) Au
   have hxo := Fh hzo (i := 2) hx
   have hx1o := Fh hzo (i := 1) hx1
   rw [Wo hwo hk (by rw [hzq]; exact hx1) (by rw [hzq]; exact hx)] at hC
   have hn3 := hns
   rw [← hC] at hn3
   obtain ⟨e, he⟩ | ⟨⟨z1, n2⟩, hz⟩ := Mt (K9 s (B9 x [x1] 0))
   ·refine CK [0] O ?_
    refine R5 ((fun _ => .p (.iface 178 .unit)) e) 10 [.val (.ptr m 0), .val (.ptr b6 (0 + 4)), .val (.p (.lst (A6 zs))), .val (.ref (BD x)), .val (.agg ((BD x).map .p)), .val (.ptr b6 (0 + 4)), .val (.p (.lst (A6 zs))), .val (.ref (BD x1)), .val (.agg ((BD x1).map .p)), .val (.p (.lst (A6 [x1]))), .val (.p .any), .val (.p (.lst (A6 ((Ay t).2)))), .val (.p .any), .val (.p .any), .val (.p .any)] Ot O Ap O Aw (fun _ _ => by exact ⟨rfl, _, List.nil_sublist _, ⟨_, by rw [← hC]; exact TM hn3 he, rfl⟩⟩) ?_
    refine DY O O (fun Bs => Bh O) ?_
    refine DY O O (fun Bs => BG S1 O O) ?_
    refine DY O O (fun Bs => Bt (i := Bs.length + 0) JW O (EB O) O) ?_
    refine DY O O (fun Bs => A0 BS O O Au (BO hx) (A7 _)) ?_
    refine DY O O (fun Bs => Bk CN O (A7 _)) ?_
    refine DY O O (fun Bs => BG S1 O O) ?_
    refine DY O O (fun Bs => Bt (i := Bs.length + 0) JW O (EB O) O) ?_
    refine DY O O (fun Bs => A0 BS O O Au (BO hx1) (A7 _)) ?_
    refine DY O O (fun Bs => Bk CN O (A7 _)) ?_
    refine DY O O (fun Bs => By (rows := A6 [x1]) BS Ba O O O O (CW (Bd _)) (Gl _)) ?_
    refine X2 (mkp := (fun _ => .p (.iface 178 .unit))) (e := e) [3] he O O (.inl ⟨O, O, O⟩) (T9 m ds s x [x1] hJ hxo (ok_one hx1o) R4) ⟨_, _, O, O, O⟩ As (aw (we O) (aw (we O) (aw (we O) (HT)))) ?_
    refine DY O O (fun Bs => Bh O) ?_
    refine Ik O O Ap ?_
    refine Ik O O Ap ?_
    refine Ik O O Ap ?_
    exact X4
   rw [UI hn3 hz] at hC
   have hJ3 := (lF hJ hz).1
   refine CK [0] O ?_
   refine O9 [.box b6 [.p (I zk), .p (I zi), .p (.str zn), .p (.lst (List.map B4 zl)), .p (.lst (A6 zs))], .box b4 [.p (I 0), .p (I 0), .p (.str ⟨#[]⟩), .p (.nils), .p (.nils)], .box b3 ((BD t).map .p), .box m [.p (.lst (List.map B1 ds)), .p (I n2)]] 10 [.val (.ptr m 0), .val (.ptr b6 (0 + 4)), .val (.p (.lst (A6 zs))), .val (.ref (BD x)), .val (.agg ((BD x).map .p)), .val (.ptr b6 (0 + 4)), .val (.p (.lst (A6 zs))), .val (.ref (BD x1)), .val (.agg ((BD x1).map .p)), .val (.p (.lst (A6 [x1]))), .val (.agg ((BD z1).map .p)), .val (.p (.lst (A6 ((Ay t).2)))), .val (.agg ((BD (apply z1 ((Ay t).2))).map .p))] [.p .any, .p (.bool true)] [] Ot O Ap Ap Ap O ?_
   refine Ca O O (fun Bs => Bh O) ?_
   refine Ca O O (fun Bs => BG S1 O O) ?_
   refine MB O O O (fun Bs => Bt (i := Bs.length + 0) JW O (EB O) O) (fun _ Bs => Bt (i := Bs.length + 0) JW O (EB O) O) ?_
   refine Ca O O (fun Bs => A0 BS O O Au (BO hx) (A7 _)) ?_
   refine Ca O O (fun Bs => Bk CN O (A7 _)) ?_
   refine Ca O O (fun Bs => BG S1 O O) ?_
   refine MB O O O (fun Bs => Bt (i := Bs.length + 0) JW O (EB O) O) (fun _ Bs => Bt (i := Bs.length + 0) JW O (EB O) O) ?_
   refine Ca O O (fun Bs => A0 BS O O Au (BO hx1) (A7 _)) ?_
   refine Ca O O (fun Bs => Bk CN O (A7 _)) ?_
   refine Ca O O (fun Bs => By (rows := A6 [x1]) BS Ba O O O O (CW (Bd _)) (Gl _)) ?_
   refine To O O (fun Bs => Mx [3] O (.inl ⟨O, O, O⟩) (XN hz (T9 m ds s x [x1] hJ hxo (ok_one hx1o) R4)) ⟨_, _, O, O, O⟩ As O (aw (we O) (aw (we O) (aw (we O) (HT))))) ?_
   refine Ca O O (fun Bs => Bh O) ?_
   refine Ca O O (fun Bs => BF O O (Fp z1 ((Ay t).2) Ab) O) ?_
   refine KL ?_
   refine Hv [.box b6 [.p (I zk), .p (I zi), .p (.str zn), .p (.lst (List.map B4 zl)), .p (.lst (A6 zs))], .box b4 ((BD (apply z1 ((Ay t).2))).map .p), .box b3 ((BD t).map .p), .box m [.p (.lst (List.map B1 ds)), .p (I n2)]] O (DX (i := 1) CN O O O Am Ag (Gd _)) ?_
   refine Hv [.box b6 [.p (I zk), .p (I zi), .p (.str zn), .p (.lst (List.map B4 zl)), .p (.lst (A6 zs))], .box b4 ((BD (apply z1 ((Ay t).2))).map .p), .box b3 ((BD t).map .p), .box m [.p (.lst (List.map B1 ds)), .p (I n2)]] O (H7 O) ?_
   refine Oi ?_
   refine Cu (A9 [0] O (Bg [1] [3] O O ⟨⟨_, _⟩, Gy hC.symm, O, O⟩))
  refine CI [2] 999999 [0, 4, 6, 7, 17] 51 (decide (zk = 9 ∨ zk = 10)) O O ?_ ?_
  ·refine BC [0] rfl ?_ ?_ <;> intro c2
   ·exact CT [0] O (hr := (by refine pB (Bool.eq_iff_iff.2 ?_); simp only [beq_iff_eq, decide_eq_true_eq]; omega))
   exact CT [2] O (hr := (by refine pB (Bool.eq_iff_iff.2 ?_); simp only [beq_iff_eq, decide_eq_true_eq]; omega))
  refine BC [0] rfl ?_ ?_ <;> intro c2
  ·have hk9 : zk = 9 ∨ zk = 10 := by simpa using c2
   refine D7 [2, 0] zs 0 O O O (IH _) (fun p hp => ?_)
   refine Bp [1] O (Az Ba O) fun b8 => ?_
   obtain ⟨pk, pi, pn, pl, ps⟩ := p
   have hpo := Fh hzo (i := 0) hp
   have hpl := J6 hpo
   refine BC [4, 0, 1, 0] rfl ?_ ?_ <;> intro c3
   ·have hp8 := c3
    obtain ⟨cq, hcq⟩ := A1 (l := ps) (i := (1 + zk - 9).toNat) (by have := hpl.2.2.2 hp8; omega)
    have hcqo := Fh hpo (i := (1 + zk - 9).toNat) hcq
    rw [T6 hwo (by rw [hzq]; exact hk9) (by rw [hzq]; exact hp) (p := .mk pk pi pn pl ps) hp8 (by rw [hzq]; exact hcq)] at hC
    have hn3 := hns
    rw [← hC] at hn3
    refine DS [3, 1, 0] O ?_
    refine GZ [4] O O O (.inl ⟨O, O, O⟩) (pt m ds s (.mk zk zi zn zl zs : Tm) (.mk pk pi pn pl ps : Tm) cq hJ hk9 hcq) ⟨_, _, O, O, O⟩ As (aw (we O) (aw (we O) (aw (we O) (HT)))) (fun _ _ h => (congrArg List.length h).trans O) ?_ ?_
    rotate_left
    ·intro e _ he
     exact ⟨O, _, List.nil_sublist _, ⟨_, by rw [← hC]; exact TM hn3 he, rfl⟩⟩
    rintro ⟨z1, n2⟩ _ hz rfl
    rw [UI hn3 hz] at hC
    refine BW (CQ [1] O (Fp z1 ((Ay t).2) Ab) ?_)
    refine A9 [2, 2, 1] O (Bg [2] [4] O O ⟨⟨_, _⟩, Gy hC.symm, O, O⟩)
   have hp8 := c3
   rw [US hwo (by rw [hzq]; exact hk9) (by rw [hzq]; exact hp) (p := .mk pk pi pn pl ps) hp8] at hC
   have hn0 := hns
   rw [← hC] at hn0
   have hn1 := R3 hn0
   refine DS [2, 0] O ?_
   refine GZ [4] O O O (.inl ⟨O, O, O⟩) (ih k Au m (.mk pk pi pn pl ps : Tm) s hJ hn1) ⟨_, _, O, O, O⟩ As (aw (we O) (aw (we O) (HT))) (fun _ _ h => (congrArg List.length h).trans O) ?_ ?_
   rotate_left
   ·intro e _ he
    exact ⟨O, _, List.nil_sublist _, ⟨_, by rw [← hC]; exact XE hn0 he, rfl⟩⟩
   rintro ⟨q, n2⟩ _ hz rfl
   rw [XO hz] at hC
   refine BW (Bp [3] O (Az Ba O) fun b9 => ?_)
   refine BC [3, 0, 1] rfl ?_ ?_ <;> intro c4
   ·rw [mH c4, hzq] at hC
    refine A2 [3, 2, 0] O (By (rows := A6 [(q.getD BN)]) BS Ba O O O O (CW (Bd _)) (Gl _)) ?_
    refine A2 [2] O (IW O O (Fp (.mk zk 0 ⟨#[]⟩ [] [(q.getD BN)] : Tm) ((Ay t).2) Ab) (aw (FW O) (aw (we O) (HT)))) ?_
    refine A9 [2, 3, 1] O (Bg [3] [5] O O ⟨⟨_, _⟩, Gy hC.symm, O, O⟩)
   rw [jt c4] at hC
   refine CK [3, 3, 0] O ?_
   refine A5 (BE (i := 3) O) ?_
   refine BP (A9 [0] O (Bg [3] [5] O O ⟨⟨_, _⟩, Gy hC.symm, O, O⟩))
  refine BC [2] rfl ?_ ?_ <;> intro c3
  ·have hk := (congrArg Tm.kind hzq).trans c3
   rw [Nb hwo hk, hzq] at hC
   refine DS [3, 0] O ?_
   refine GZ [3] O O O (.inl ⟨O, O, O⟩) (Xj k m ds s (.mk zk zi zn zl zs : Tm) ((Ay t).2) (ih k Au) hE hJ hzo Au hsp.args (by rw [hC]; exact hns)) ⟨_, _, O, O, O⟩ As (aw (we O) (aw (we O) (aw (we O) (HT)))) (fun _ _ h => (congrArg List.length h).trans O) ?_ ?_
   rotate_left
   ·intro e _ he
    exact ⟨O, _, List.nil_sublist _, ⟨_, by rw [← hC]; exact he, rfl⟩⟩
   rintro ⟨q, n2⟩ _ hz rfl
   have hfin := hz
   refine BW (A9 [4, 1, 1] O (Bg [1] [3] O O ⟨⟨q, n2⟩, by rw [← hC]; exact hfin, rfl, rfl⟩))
  rw [dB hwo (by rw [hzq]; assumption) (by rw [hzq]; assumption) (by rw [hzq]; show ¬ zk = 9; omega) (by rw [hzq]; show ¬ zk = 10; omega) (by rw [hzq]; assumption)] at hC
  refine CK [3, 1, 0] O ?_
  refine A5 (BE (i := 1) O) ?_
  refine BP (A9 [0] O (Bg [1] [3] O O ⟨⟨_, _⟩, Gy hC.symm, O, O⟩))
end Go.Proofs.YtldfmjoncbjldaaGreat
namespace Go.Eu
open Go.Abs
def kK (q:Tm):Bool:= !(decide ((size q:Int) > 4096)||decide (FU q > 200))
def Ox:Out (Option Tm×Int)→Tm×Bool×Int
 | .ok (some q,_)=>if kK q=true then (q,true,0) else (BN,false,11)
 | .ok (none,_)=>(BN,false,0)
 | _=>(BN,false,11)
def sH (o:Out (Option Tm×Int)):Prop:=∀q c,o= .ok (some q,c)→okB q=true
section
variable {o:Out (Option Tm×Int)}{q:Option Tm}{c e:Int}
theorem Tj (h:sH o) (hx:o.ex= .ok (q,c)):okB (q.getD BN)=true:=by
 have h1:=aB hx;cases q with
 | none=>decide
 | some x=>exact h x c h1
theorem SQ (h:o.ex= .error e):Ox o=(BN,false,11):=by cases o<;>first | rfl | cases h
theorem PL (h:o.ex= .ok (q,c)) (hq:q.isSome=false):Ox o=(q.getD BN,q.isSome,0):=by
 rw[aB h];cases q with
 | none=>rfl
 | some x=>cases hq
theorem M0 (h:o.ex= .ok (q,c)) (hq:q.isSome=true) (hf:(size (q.getD BN):Int) > 4096∨FU (q.getD BN) > 200):Ox o=(BN,false,11):=by
 rw[aB h];cases q with
 | none=>cases hq
 | some x =>
  have:kK x=false:=by
   simp only[Option.getD_some] at hf;unfold kK;simp only[Bool.not_eq_false',Bool.or_eq_true,decide_eq_true_eq];exact hf
  simp only[Ox,this,Bool.false_eq_true,if_false]
theorem SL (h:o.ex= .ok (q,c)) (hf:¬(q.isSome=true∧((size (q.getD BN):Int) > 4096∨FU (q.getD BN) > 200))):Ox o=(q.getD BN,q.isSome,0):=by
 rw[aB h];cases q with
 | none=>rfl
 | some x =>
  have:kK x=true:=by
   unfold kK;simp only[Option.isSome_some,Option.getD_some,true_and,not_or] at hf;simp only[Bool.not_eq_true',Bool.or_eq_false_iff,decide_eq_false_iff_not];exact hf
  simp only[Ox,this,if_true,Option.getD_some,Option.isSome_some]
end
section
variable {o:Out (Option Int×Int)}{q:Option Int}{c e:Int}
end
section
variable {E:List B8}{σ:Type}{S:Sys σ}{W:σ→Tm→Out (Tm×σ)}
end
end Go.Eu
namespace Go.Proofs.YtldfmjoncbjldaaGreat
open Go.Abs Go.Eu
theorem dK : ∀ (ds : List B8) (N m bt bo bk : Nat) (t : Tm) (s : Int), (G2 ds) → (N3 s) → (Di ds CE N s t ≠ .stuck) → BL Tryz.prog 66 [.ptr m 0, .ptr bt 0, .ptr bo 0, .ptr bk 0] [.box m [.p (.lst (List.map B1 ds)), .p (I s)], .box bt ((BD t).map .p), .box bo [.p (I 0), .p (I 0), .p (.str ⟨#[]⟩), .p (.nils), .p (.nils)], .box bk [.p (.bool false)]] (OP (fun (r : Option Tm × Int) => .tup []) (fun _ => .p (.iface 178 .unit)) (fun r H' => H' = [.box m [.p (.lst (List.map B1 ds)), .p (I r.2)], .box bt ((BD t).map .p), .box bo ((BD (r.1.getD BN)).map .p), .box bk [.p (.bool r.1.isSome)]]) ((Di ds CE N s t).ex)) := by
 intro ds N m bt bo bk t s h1 h2 h3
 refine DI Tryz.func66 ?_
 refine DS [2, 1] O ?_
 refine GZ [0] O O O (.inl ⟨O, O, O⟩) (me ds h1 N m t s h2 h3) ⟨_, _, O, O, O⟩ As (aw (we O) (aw (we O) (HT))) (fun _ _ h => (congrArg List.length h).trans O) ?_ ?_
 rotate_left
 ·intro e _ he
  exact ⟨O, _, List.nil_sublist _, ⟨_, he, O⟩⟩
 rintro ⟨q, n2⟩ _ hz rfl
 refine BW (Ks [5, 2, 1, 3, 0] O ?_)
 refine ⟨O, _, _, O, (HB (is := [0, 1, 2, 3]) O), ?_⟩
 exact ⟨⟨q, n2⟩, hz, O, O⟩
theorem qF:∀(ds:List B8) (N:Nat) (t:Tm),(G2 ds)→(Di ds CE N 20000 t≠ .stuck)→(sH (Di ds CE N 20000 t))→En Tryz.prog 37 [.p (.lst (List.map B1 ds)),.agg ((BD t).map .p)] (.tup [.agg ((BD ((Ox (Di ds CE N 20000 t)).1)).map .p),.p (.bool ((Ox (Di ds CE N 20000 t)).2.1)),.p (I ((Ox (Di ds CE N 20000 t)).2.2))]):=by
 intro ds N t h1 h2 h3;refine DI Tryz.func37 (CG [0] O O fun b3=>Bp [0] O (Az Ba O) fun b4=>Bp [2] O (Az Ba O) fun b7=>Bp [0] O (Az yj O) fun b8=>?_);obtain⟨e,he⟩ | ⟨⟨q,n2⟩,ha⟩:=Mt ((Di ds CE N 20000 t).ex)
 ·refine DS [3,0,0] O (pO [3,1,0] O O O (.inl ⟨O,O,O⟩) (j7 _ _ he (fun r=>r.2) (fun r=>[.box b3 ((BD t).map .p),.box b7 ((BD (r.1.getD BN)).map .p),.box b8 [.p (.bool r.1.isSome)]]) 66 [.ptr b3 0,.ptr b7 0,.ptr b8 0] [.box b3 ((BD t).map .p),.box b7 [.p (I 0),.p (I 0),.p (.str ⟨#[]⟩),.p (.nils),.p (.nils)],.box b8 [.p (.bool false)]] ds (fun m=>dK ds N m b3 b7 b8 t 20000 h1 bH h2)) ⟨_,_,O,O,⟨_,_,O,O,⟨_,_,O,O,O⟩⟩⟩ As (Dt _) ?_);refine BW (ID [16] O O (fun c=>by cases c) (fun c=>?_));refine ID [2] O O (fun c1=>?_) (fun c1=>by cases c1);refine CK [5,0,0] O (A5 (BE (i:=0) O) ?_);refine BP (A9 [0] rfl (Bg [0] [] rfl rfl ⟨by first | (rw[SQ he]<;>rfl) | (rw[PL ha g]<;>rfl) | (rw[M0 ha g]<;>first | rfl | omega) | (rw[SL ha]<;>first | rfl | (rintro⟨_,_ | _⟩<;>omega)),rfl⟩))
 refine A2 [3,0,0] O (Bj [3,1,0] O (.inl ⟨O,O,O⟩) (nt _ _ ha (fun r=>r.2) (fun r=>[.box b3 ((BD t).map .p),.box b7 ((BD (r.1.getD BN)).map .p),.box b8 [.p (.bool r.1.isSome)]]) 66 [.ptr b3 0,.ptr b7 0,.ptr b8 0] [.box b3 ((BD t).map .p),.box b7 [.p (I 0),.p (I 0),.p (.str ⟨#[]⟩),.p (.nils),.p (.nils)],.box b8 [.p (.bool false)]] ds (fun m=>dK ds N m b3 b7 b8 t 20000 h1 bH h2)) ⟨_,_,O,O,⟨_,_,O,O,⟨_,_,O,O,O⟩⟩⟩ As O (.inl O)) ?_;refine Bc [7,0] 18 rfl rfl ?_ ?_<;>intro g
 ·refine CQ [1,1] O (dx (q.getD BN) (Bu.1 (Tj h3 ha)).nd (by have:=Ft (Tj h3 ha);omega)) ?_;refine Bc [2] 22 rfl rfl ?_ ?_<;>intro g1
  ·refine ID [5] O O (fun c=>?_) (fun c=>by cases c);refine ID [3] O O (fun c1=>?_) (fun c1=>by cases c1);refine CK [5,2,0] O (A5 (BE (i:=2) O) ?_);refine BP (A9 [0] rfl (Bg [2] [] rfl rfl ⟨by first | (rw[SQ he]<;>rfl) | (rw[PL ha g]<;>rfl) | (rw[M0 ha g]<;>first | rfl | omega) | (rw[SL ha]<;>first | rfl | (rintro⟨_,_ | _⟩<;>omega)),rfl⟩))
  refine CQ [1,1] O (ZU _ (q.getD BN) (Nat.le_refl _) (Bu.1 (Tj h3 ha)).nd) ?_;refine BC [3] rfl ?_ ?_<;>intro c
  ·refine ID [3] O O (fun c1=>?_) (fun c1=>by cases c1);refine CK [5,2,0] O (A5 (BE (i:=2) O) ?_);refine BP (A9 [0] rfl (Bg [2] [] rfl rfl ⟨by first | (rw[SQ he]<;>rfl) | (rw[PL ha g]<;>rfl) | (rw[M0 ha g]<;>first | rfl | omega) | (rw[SL ha]<;>first | rfl | (rintro⟨_,_ | _⟩<;>omega)),rfl⟩))
  refine ID [2] O O (fun c1=>by cases c1) (fun c1=>?_);refine E2 [0] [] O ?_;refine Dj [5,1,0,2,1] rfl (A9 [0] rfl (Bg [2] [] rfl rfl ⟨by first | (rw[SQ he]<;>rfl) | (rw[PL ha g]<;>rfl) | (rw[M0 ha g]<;>first | rfl | omega) | (rw[SL ha]<;>first | rfl | (rintro⟨_,_ | _⟩<;>omega)),rfl⟩))
 refine ID [9] O O (fun c=>by cases c) (fun c=>?_);refine ID [2] O O (fun c1=>by cases c1) (fun c1=>?_);refine E2 [0] [] O ?_;refine Dj [5,1,0,2,1] rfl (A9 [0] rfl (Bg [2] [] rfl rfl ⟨by first | (rw[SQ he]<;>rfl) | (rw[PL ha g]<;>rfl) | (rw[M0 ha g]<;>first | rfl | omega) | (rw[SL ha]<;>first | rfl | (rintro⟨_,_ | _⟩<;>omega)),rfl⟩))
theorem _root_.Go.AN {α:Prop}(h:α:=by simp only[A8,List.length_append,List.nil_append,List.length_nil];omega):α:=h
theorem jQ : ∀ (n : Nat) (ps : List Int) (t x z : Tm), (ps.length ≤ n) → (okB t = true) → (∀ p ∈ ps, 0 ≤ p) → (ps.length < 1000000) → (Ic t ps x = some z) → En Tryz.prog 125 [.agg ((BD t).map .p), .p (.lst (List.map Fz ps)), .agg ((BD x).map .p)] (.agg ((BD z).map .p)) := by
 intro n
 induction n using Nat.strongRecOn with
 | ind n ih =>
  intro ps t x z h0 h1 h3 h4 h5
  have hsp := Q8 h1
  have hsl := hsp.len
  have hss := hsp.sz
  refine DI Tryz.func125 ?_
  refine CG [0] O O fun b3 => ?_
  refine CG [0] O O fun b5 => ?_
  refine Bp [0] O (Az Ba O) fun b6 => ?_
  refine CA [1] O O (List.length_map _) ?_
  refine BC [1] rfl ?_ ?_ <;> intro c
  ·refine A9 [2, 1, 0, 1] O (Bg [0] [] O O ⟨by rw [Z1 h5 Au]; try rfl, rfl⟩)
  refine CQ [1, 2] O (LG _ t (Nat.le_refl _) Ak) ?_
  refine Bp [3] O (Az Ba O) fun b7 => ?_
  refine DS [3, 0, 1] O ?_
  refine BH (DH (t := 9) (sz := 5) O) ?_
  refine BW (DS [2] O ?_)
  refine ET O O (Bi (i := 0) (rows' := A6 ((Ay t).2)) BS BS Ba O O O O O O (Bd _) Aa (Hj [] ((Ay t).2))) fun o cp => ?_
  refine BW (CK [1] O ?_)
  refine JI (i := 0) O (by have hxl := Wa h5 Au; simp only [A8, List.length_append, List.nil_append, List.length_nil]; omega) fun b hb => ?_
  subst hb
  refine BP (E2 [0] [] O ?_)
  refine Bb [2] O ?_
  obtain ⟨x1, hx1⟩ := A1 (l := ps) (i := 0) Au
  have hx0 := h3 _ (List.mem_of_getElem? hx1)
  have hxl := UT h5 hx1
  refine A3 O (fun _ => A0 HL O O Au (K4 hx1) (O)) Aw ?_
  refine Bb [3] O ?_
  refine A3 O (fun _ => A0 HL O O Au (K4 hx1) (O)) Aw ?_
  refine A3 O (fun _ => Gp Dz O) Aw ?_
  refine A3 O (fun _ => CJ BS O O Au AN) Aw ?_
  obtain ⟨y, hy⟩ := A1 (l := ((Ay t).2)) (i := (x1 : Int).toNat) Ai
  refine CF (j := 0) O O O (fun H i hi => Dl (i := i) CN O hi (BO hy)) AB Aw ?_
  refine A3 O (fun _ => Bh O) Aw ?_
  refine A3 O (fun _ => Cn (lo := 1) HL O (CW (Jq _)) ⟨_, O⟩ O AZ (Nat.le_refl _) (l7 (f := Fz) ps 1)) Aw ?_
  refine Bb [1, 3] O ?_
  obtain ⟨z1, e1, e2⟩ := V1 h5 hx1 hy
  refine A3 rfl (fun _ => BF rfl rfl (ih (n - 1) Au (ps.drop 1) y x z1 Ad (hsp.args _ (List.mem_of_getElem? hy)) (fun p hp => h3 p (List.mem_of_mem_drop hp)) Ad e1) rfl) trivial ?_
  refine A3 O (fun _ => CJ BS O O Au AN) Aw ?_
  refine FB O O (C7 (i := 0) (j := ((x1 : Int).toNat)) CN O O O AN O (Ho _) (A7 _) (Gd _) (MP ((Ay t).2) ((x1 : Int).toNat) z1)) AB Aw ?_
  refine HC O Ap ?_
  refine Cu (DS [2, 1] O ?_)
  refine BH (CV (t := 9) (x := .vs (some b) (A6 ((((Ay t).2)).set ((x1 : Int).toNat) z1)).length cp) (CZ ((Ay t).2) (l' := (((Ay t).2)).set ((x1 : Int).toNat) z1) Av)) ?_
  refine BH (CV (t := 21) (x := .vs (some b) (A6 ((((Ay t).2)).set ((x1 : Int).toNat) z1)).length cp) (CZ ((Ay t).2) (l' := (((Ay t).2)).set ((x1 : Int).toNat) z1) Av)) ?_
  refine BH (CV (t := 22) (x := .vs (some b) (A6 ((((Ay t).2)).set ((x1 : Int).toNat) z1)).length cp) (CZ ((Ay t).2) (l' := (((Ay t).2)).set ((x1 : Int).toNat) z1) Av)) ?_
  refine BH (CV (t := 26) (x := .vs (some b) (A6 ((((Ay t).2)).set ((x1 : Int).toNat) z1)).length cp) (CZ ((Ay t).2) (l' := (((Ay t).2)).set ((x1 : Int).toNat) z1) Av)) ?_
  refine BH (CV (t := 38) (x := .vs (some b) (A6 ((((Ay t).2)).set ((x1 : Int).toNat) z1)).length cp) (CZ ((Ay t).2) (l' := (((Ay t).2)).set ((x1 : Int).toNat) z1) Av)) ?_
  refine BH (CL (i := 0) [9, 21, 22, 26, 38] O (DA ⟨O, O, O, O, O, Aw⟩)) ?_
  refine BW (CQ [0] O (Ee ((Ay t).1) ((((Ay t).2)).set ((x1 : Int).toNat) z1) Ac) ?_)
  refine A9 [1, 1, 1] O (Bg [1] [] O O ⟨by rw [e2]; try rfl, rfl⟩)
theorem _root_.Go.AK {α:Prop}(h:α:=by simp only[List.length_map,List.length_nil,List.length_cons,List.length_append];omega):α:=h
theorem lW:∀(l:List Int) (n:Int),(l.length<549755813888)→En Tryz.prog 127 [.p (.lst (List.map Fz l)),.p (I n)] (.p (.lst (List.map Fz (l++[n])))):=by
 intro l n h1;refine DI Tryz.func127 (DS [2] O (BH (DH (t:=5) (sz:=1) O) (BW (DS [2] O ?_))));refine ET O O (Bi (i:=0) (rows':=List.map Fz l) HL HL mT O O O O O O (Jq _) AK (Fx (f:=Fz) [] l)) fun o cp=>BW (A2 [1] O (BJ HL mT O O O O O) ?_);refine DS [0] O (ET O O (Bi (i:=0) (rows':=List.map Fz [n]) HL HL mT O O O O O O (Jq _) AK (Fx (f:=Fz) l [n])) fun o1 cp1=>BW (CK [1] O ?_));refine A5 (CL (i:=0) [4,11] O (DA ⟨O,O,Aw⟩)) (BP (A9 [0] O (Bg [] [] O O ⟨O,O⟩)))
def yG (ds:List B8) (n:Nat):Prop:=∀(b:Nat) (t:Tm) (c c2:Dn) (q:Option Tm),Di ds DK n c t= .ok (q,c2)→BL Tryz.prog 40 [.p (.lst (List.map B1 ds)),.agg ((BD t).map .p),.ptr b 0] [.box b ((HX c).map .p)] (Gm (.tup [TV (q.getD BN),.p (.bool q.isSome)]) [.box b ((HX c2).map .p)])
theorem _root_.Go.AG {α:Prop}(h:α:=by simp only[A8,List.length_append,List.nil_append,List.length_nil,List.length_map];omega):α:=h
set_option maxHeartbeats 4000000 in
theorem Yn:∀(n:Nat) (ds:List B8) (g:Tm) (f:I9) (a:List Tm) (d:B8) (b:Nat) (c c2:Dn) (q:Option Tm),(yG ds n)→(G2 ds)→(d∈ds)→(f∈d.funs)→(f.arity≤a.length)→(okB g=true)→(a.length<549755813888)→(∀y∈a,okB y=true)→(Fs ds DK (Di ds DK n) g f.arity a n f.tree (a.take f.arity.toNat) (P2 f.arity.toNat) c= .ok (q,c2))→BL Tryz.prog 78 [.p (.lst (List.map B1 ds)),.agg ((BD g).map .p),.agg ((Ix f).map .p),.p (.lst (A6 a)),.ptr b 0] [.box b ((HX c).map .p)] (Gm (.tup [.agg ((BD (q.getD BN)).map .p),.p (.bool q.isSome)]) [.box b ((HX c2).map .p)]):=by
 intro n ds g f a d b c c2 q hT h2 h4 h5 h6 h7 h8 h9 hX;obtain⟨gk,gi,gn,gl,gs⟩:=g;have hgo:=Bu.1 h7;have hgl:=hgo.nd;simp only[Nd,Db] at hgl;have hfu:=(h2.g.all _ h4).fu _ h5;have hdp:=h2.fu _ h4 _ h5;have hlf:=dR h2 h4 h5 h9;have htl:(a.take f.arity.toNat).length=f.arity.toNat:=by rw[List.length_take];omega
 have hpw:=Y7 a f.arity.toNat f.tree Au Au;refine DI Tryz.func78 (CG [0] O O fun b6=>CG [0] O O fun b7=>Bp [0] O (Az Ba O) fun b10=>DS [2] O (BH (DH (t:=12) (sz:=5) O) (BW (DS [1] O ?_))));refine BH (DH (t:=13) (sz:=2) O) (BW (GG (α:=Nat×Option Nat×Nat×Option Nat×Nat) [1] [0,3,4,6,7,10] [0,1,2,3,4,5] (fun(i,o,cp,o1,cp1)=>[(12,.vs o (A6 (a.take i)).length cp),(13,.vs o1 (List.map Dd (P2 i)).length cp1),(14,.p (I (i:Int)))]) (fun(i,o,cp,o1,cp1)=>[(0,.vec o1 2 (List.map Dd (P2 i)) cp1),(1,.vec o 5 (A6 (a.take i)) cp)]) (fun(i,o,cp,o1,cp1)=>(a.take f.arity.toNat).length - i) (fun(i,o,cp,o1,cp1)=>i≤(a.take f.arity.toNat).length) ⟨0,none,0,none,0⟩ O O O AY ?_));rintro⟨i,o,cp,o1,cp1⟩ hC
 try simp only at hC
 have hi:=hC;refine A2 [2] O (Ax (i:=3) Dz O O (C9 _)) ?_;refine BC [1] rfl ?_ ?_<;>intro c1
 ·refine D7 [3] a i O O O (IH _) (fun x hx=>?_);obtain⟨xk,xi,xn,xl,xs⟩:=x;refine A2 [1] O (BJ BS Ba O O O O O) (DS [0] O (ET O O (Bi (i:=1) (rows':=A6 [(.mk xk xi xn xl xs:Tm)]) BS BS Ba O O O O O O (Bd _) (by simp only[A8,List.length_take,List.length_cons,List.length_nil];omega) (Hj (a.take i) [(.mk xk xi xn xl xs:Tm)])) fun o2 cp2=>BW (A2 [3] O (BJ Tl Y6 O O O O O) ?_)));exact DS [0] O (ET O O (Bi (i:=0) (rows':=List.map Dd ([((i:Int),[])])) Tl Tl Y6 O O O O O O (Vt _) AO (Fx (f:=Dd) (P2 i) ([((i:Int),[])]))) fun o3 cp3=>BW (FR [5] 0 ⟨i+1,o2,cp2,o3,cp3⟩ O Au (e1:=⟨we (H9 (a.take i++[(.mk xk xi xn xl xs:Tm)]) ((Im hx).symm)),we (FQ (f:=Dd) (P2 i++([((i:Int),[])])) ((PE i).symm)),we O,Aw⟩) (e2:=wl (Eo (f:=Dd) (P2 i++([((i:Int),[])])) ((PE i).symm)) (wl (Gw (a.take i++[(.mk xk xi xn xl xs:Tm)]) ((Im hx).symm)) (wl (oe O) (wl (oe O) (wl (oe O) (wl (oe O) (Ih)))))))))
 refine DF [0] O (A2 [1] O (Bq (i:=3) LM O O (HU _) (Ds _)) (Bp [0] O (Az VP O) fun b15=>?_));refine GG (α:=Nat×FY×List Tm×List (Int×List Int)×Option Nat×Nat×Option Nat×Nat) [1,0,1] [0,3,4,6,7,10,15] [0,1,2,3,4,5,6] (fun(k2,w,us,pl,o2,cp2,o3,cp3)=>[(12,.vs o2 (A6 us).length cp2),(13,.vs o3 (List.map Dd pl).length cp3)]) (fun(k2,w,us,pl,o2,cp2,o3,cp3)=>[(0,.box b15 ((EC w).map .p)),(1,.vec o3 2 (List.map Dd pl) cp3),(2,.vec o2 5 (A6 us) cp2)]) (fun(k2,w,us,pl,o2,cp2,o3,cp3)=>k2) (fun(k2,w,us,pl,o2,cp2,o3,cp3)=>Fs ds DK (Di ds DK n) (.mk gk gi gn gl gs:Tm) f.arity a k2 w us pl c= .ok (q,c2)∧Wq w us∧nY a us pl w) ⟨n,f.tree,a.take f.arity.toNat,P2 f.arity.toNat,o,cp,o1,cp1⟩ O O O (⟨hX,hlf,hpw⟩) ?_ (e0:=⟨we (H9 (a.take i) (by rw[show i=f.arity.toNat from by omega])),we (FQ (f:=Dd) (P2 i) (by rw[show i=f.arity.toNat from by omega])),Aw⟩) (e1:=wl (oe O) (wl (Eo (f:=Dd) (P2 i) (by rw[show i=f.arity.toNat from by omega])) (wl (Gw (a.take i) (by rw[show i=f.arity.toNat from by omega])) (wl (oe O) (wl (oe O) (wl (oe O) (wl (oe O) (Ih))))))));rintro⟨k2,w,us,pl,o2,cp2,o3,cp3⟩ hC1
 try simp only at hC1
 obtain⟨hC1,hL,hW⟩:=hC1;obtain⟨k1,rfl⟩:=YZ hC1 Av;refine A2 [1] O (Ax (i:=0) Dz O O (HW _)) ?_;refine BC [1] rfl ?_ ?_<;>intro c3
 ·have hk1:=c3;refine CI [0] 9 [0,3,4,6,7,10,12,13,15] 61 ((decide ((w.var:Int)<(0:Int)))||(decide ((w.var:Int)≥((us.length:Nat):Int)))) O O ?_ ?_
  ·refine A2 [1] O (Ax (i:=0) Dz O O (DD _)) ?_;refine Bc [2] 55 rfl rfl ?_ ?_<;>intro g1
   ·exact CT [6] O
   exact A2 [1] O (Ax (i:=0) Dz O O (DD _)) (A2 [1] O (JO BS O (A8 _)) (CT [2] O))
  refine BC [0] rfl ?_ ?_<;>intro c4
  ·have hq:=(ew hk1 (by simpa using c4)).symm.trans hC1;cases hq;refine CK [3,3,0] O (A5 (BE (i:=3) O) (BP (A9 [0] O (Bg [3] [6] O O ⟨O,O⟩))))
  have hcb:¬(w.var<0∨w.var≥(us.length:Int)):=by simpa using c4
  have hWl:=hW.len;have hLl:=hL.len;refine A2 [2] O (Ax (i:=0) Dz O O (DD _)) (DS [0] O (I4 (i:=1) O AG fun b1 hb=>?_));subst hb;refine BW (A2 [0] O (CJ Tl O O Au AG) ?_);obtain⟨y,hy⟩:=A1 (l:=pl) (i:=(w.var:Int).toNat) Ai;refine A2 [0] O (Dl (i:=1) vL O O (Px hy)) (Bp [0] O (Az Y6 O) fun b16=>A2 [4,0,1] O (Ax (i:=1) Dz O O (DD _)) (DS [0] O (I4 (i:=3) O AG fun b2 hb1=>?_)));subst hb1;refine BW (A2 [0] O (CJ BS O O Au AG) ?_);obtain⟨y1,hy1⟩:=A1 (l:=us) (i:=(w.var:Int).toNat) Ai;refine A2 [0] O (Dl (i:=3) CN O O (BO hy1)) (CQ [0] O (PX ds y1 h2.g (hL.ok _ (List.mem_of_getElem? hy1))) (Bp [5] O (Az Ie O) fun b17=>?_));refine BC [6,0,1] rfl ?_ ?_<;>intro c5
  ·have hcn:=Ng c5;obtain⟨ha1,ha2,ha3,ha4⟩:=hW.at_ hy1 hy;obtain⟨ya,hya⟩:=A1 ha4;refine A2 [3] O (Ax (i:=2) Dz O O (DD _)) (A2 [0] O (CJ BS O O Au AG) ?_);obtain⟨y2,hy2⟩:=A1 (l:=us) (i:=(w.var:Int).toNat) Ai;refine A2 [0] O (Dl (i:=4) CN O O (BO hy2)) ?_;have hyy:y2=y1:=Option.some.inj (hy2.symm.trans hy1);obtain⟨⟨sq,d2⟩,hs1,hs2⟩:=D9 ((Ys hk1 hcb hy2 hy (by rw[hyy];exact hcn)).symm.trans hC1);refine A2 [1] O (Bj [8] O (.inl ⟨O,O,O⟩) (hT b y2 c d2 sq hs1) ⟨_,_,O,O,O⟩ As O (.inl O)) (Bp [3] O (Az Ba O) fun b21=>?_);refine BC [4,0,1] rfl ?_ ?_<;>intro c6
   ·rw[Vz c6] at hs2;cases hs2;refine CK [3,6,0] O (A5 (BE (i:=6) O) (BP (A9 [0] O (Bg [6] [9] O O ⟨O,O⟩))))
   obtain⟨z1,hz1,hz2⟩:=Vl (by rw[hs2];simp) c6 hya;rw[hz2] at hs2;cases hs2;refine DS [1] O (BH (DH (t:=23) (sz:=5) O) (BW (DS [2] O ?_)));refine ET O O (Bi (i:=0) (rows':=A6 a) BS BS Ba O O O O O O (Bd _) Aa (Hj [] a)) fun o4 cp4=>BW (CK [1] O ?_);refine JI (i:=0) O AG fun b3 hb2=>?_;subst hb2;refine BP (E2 [0] [] O ?_);refine Bb [6,3,3] O (A3 O (fun _=>CJ BS O O Au AG) Aw ?_);obtain⟨y3,hy3⟩:=A1 (l:=a) (i:=(y.1:Int).toNat) Ai;refine CF (j:=0) O O O (fun H i hi=>Dl (i:=i) CN O hi (BO hy3)) AB Aw (Bb [3,3,1] O ?_);have hyy:=Option.some.inj (hy3.symm.trans hya);refine A3 O (fun _=>BF O O (jQ y.2.length y.2 y3 (sq.getD BN) z1 (Nat.le_refl _) (h9 _ (List.mem_of_getElem? hy3)) ha2 Au (by rw[hyy];exact hz1)) O) Aw (A3 O (fun _=>CJ BS O O Au AG) Aw (FB O O (C7 (i:=0) (j:=((y.1:Int).toNat)) CN O O O AN O (Ho _) (A7 _) (Gd _) (MP a ((y.1:Int).toNat) z1)) AB Aw (HC O Ap (Cu (DS [2,9] O ?_)))));refine BH (CV (t:=23) (x:= .vs (some b3) (A6 ((a).set ((y.1:Int).toNat) z1)).length cp4) (CZ a (l':=(a).set ((y.1:Int).toNat) z1) Av)) (BH (CV (t:=98) (x:= .vs (some b3) (A6 ((a).set ((y.1:Int).toNat) z1)).length cp4) (CZ a (l':=(a).set ((y.1:Int).toNat) z1) Av)) (BH (CV (t:=99) (x:= .vs (some b3) (A6 ((a).set ((y.1:Int).toNat) z1)).length cp4) (CZ a (l':=(a).set ((y.1:Int).toNat) z1) Av)) (BH (CV (t:=102) (x:= .vs (some b3) (A6 ((a).set ((y.1:Int).toNat) z1)).length cp4) (CZ a (l':=(a).set ((y.1:Int).toNat) z1) Av)) (BH (CV (t:=113) (x:= .vs (some b3) (A6 ((a).set ((y.1:Int).toNat) z1)).length cp4) (CZ a (l':=(a).set ((y.1:Int).toNat) z1) Av)) (BH (CL (i:=0) [23,98,99,102,113] O (DA ⟨O,O,O,O,O,Aw⟩)) ?_)))));refine BW (CQ [0] O (Ee (.mk gk gi gn gl gs:Tm) ((a).set ((y.1:Int).toNat) z1) Ac) ?_);refine A9 [2,6,1] O (Bg [6] [9] O O ⟨O,O⟩)
  obtain⟨ha1,ha2,ha3,ha4⟩:=hW.at_ hy1 hy;have hcs:=MD c5;have hcf:=Fy hcs;have hlo:=hcf.lo;have hhi:=hcf.hi;have hfl:=JD h2.g hcs;have hdf:=(h2.g.all _ hcf.mem).fx;refine E2 [0] [11] O (Bb [2,2] O (CF (j:=0) O O O (fun H i hi=>Ax (i:=i) GC O hi (B5 _)) AB Aw (A3 O (fun _=>Bh O) Aw ?_)));obtain⟨x,hx⟩:=A1 (l:=((Bo ds y1).1).ctors) (i:=((Bo ds y1).2.1:Int).toNat) Au;refine A3 O (fun _=>A0 Km O O Au (Gr hx) (Ei _)) Aw (A3 O (fun _=>DN UG O O) Aw (A3 O (fun _=>DQ N7 O (GR _)) Aw (A3 O (fun _=>BF O O (VR w x.name hL.tin.bl) O) Aw (Bb [3] O (Ge [] O O (Az VP O) Ap fun b24=>⟨AB,Aw,?_⟩)))));refine Dj [2,0,1] rfl (BC [2] rfl ?_ ?_)<;>intro c6
  ·have hq:=(lk hk1 hcb hy1 hy hcs (by rw[EM,CO hx];exact Zi c6)).symm.trans hC1;cases hq;refine CK [3,6,0] O (A5 (BE (i:=6) O) (BP (A9 [0] O (Bg [6] [9] O O ⟨O,O⟩))))
  have hbs:=YM c6;rw[mL hk1 hcb hy1 hy hcs (by rw[EM,CO hx];exact hbs)] at hC1;refine GG (α:=Nat×Option Nat×Nat×Option Nat×Nat) [3,0,3,1] [0,3,4,6,7,10,15,16,17,19] [1,2,3,4,5,6,7,8,9] (fun(i,o4,cp4,o5,cp5)=>[(12,.vs o4 (A6 (us++(Bo ds y1).2.2.1.take i)).length cp4),(13,.vs o5 (List.map Dd (pl++De y (Bo ds y1).1.fixed i)).length cp5),(25,.p (I (i:Int)))]) (fun(i,o4,cp4,o5,cp5)=>[(3,.vec o5 2 (List.map Dd (pl++De y (Bo ds y1).1.fixed i)) cp5),(4,.vec o4 5 (A6 (us++(Bo ds y1).2.2.1.take i)) cp4)]) (fun(i,o4,cp4,o5,cp5)=>(Bo ds y1).2.2.1.length - i) (fun(i,o4,cp4,o5,cp5)=>i≤(Bo ds y1).2.2.1.length) ⟨0,(some b2),cp2,(some b1),cp3⟩ O O O AY ?_ (e0:=⟨we (H9 us Av),we (FQ (f:=Dd) pl (by simp[Jm])),we O,Aw⟩) (e1:=wl (oe O) (wl (oe O) (wl (oe O) (wl (Eo (f:=Dd) pl (by simp[Jm])) (wl (Gw us Av) (wl (oe O) (wl (oe O) (wl (oe O) (wl (oe O) (Ih))))))))));rintro⟨i,o4,cp4,o5,cp5⟩ hC2
  try simp only at hC2
  have hi:=hC2;refine CA [2] O O (A8 _) ?_;refine BC [1] rfl ?_ ?_<;>intro c7
  ·refine E2 [0] [6,19] O (Bb [3] O ?_);obtain⟨x1,hx1⟩:=A1 (l:=(Bo ds y1).2.2.1) (i:=i) Au;refine A3 O (fun _=>A0 BS O O Au (BO hx1) (A7 _)) Aw (Bb [1] O ?_);obtain⟨x1k,x1i,x1n,x1l,x1s⟩:=x1;refine A3 O (fun _=>BJ BS Ba O O O O O) Aw ?_;refine JS [(7,.free (.vs o5 (List.map Dd (pl++De y (Bo ds y1).1.fixed i)).length cp5)),(8,.free (.ptr b16 0)),(9,.read [.box b16 [.p (I y.1),.p (.lst (List.map Fz y.2))]] (.p (I y.1))),(10,.free (.ptr b16 1)),(11,.read [.box b16 [.p (I y.1),.p (.lst (List.map Fz y.2))]] (.p (.lst (List.map Fz y.2)))),(12,.free (.ptr b17 13)),(13,.read [.box b17 ((B1 ((Bo ds y1).1)).map .p)] (.p (I (((Bo ds y1).1).fixed)))),(14,.free (.p (I (i:Int)))),(15,.free (.p (I ((((Bo ds y1).1).fixed:Int)+((i:Int):Int)))))] O O (Bi (i:=4) (rows':=A6 [(.mk x1k x1i x1n x1l x1s:Tm)]) BS BS Ba O O O O O O (Bd _) (by have:=hL.len;have:=hW.len;simp only[A8,Nn,Iu,List.length_take,List.length_map,List.length_cons,List.length_nil,List.length_append];omega) (Hj (us++(Bo ds y1).2.2.1.take i) [(.mk x1k x1i x1n x1l x1s:Tm)])) Ap fun o6 cp6=>⟨AB,Aw,?_⟩;refine Bb [6,1,1] O (CF (j:=0) O O O (fun H i hi=>Ax (i:=i) Dz O hi (Cr _)) AB AS (Bb [2] O (A3 O (fun _=>BF O O (lW y.2 ((((Bo ds y1).1).fixed:Int)+((i:Int):Int)) Au) O) AS (Bb [1] O (A3 O (fun _=>BJ Tl Y6 O O O O O) AS (JS [] O O (Bi (i:=3) (rows':=List.map Dd ([(y.1,(y.2++[((((Bo ds y1).1).fixed:Int)+((i:Int):Int))]))])) Tl Tl Y6 O O O O O O (Vt _) (by have:=hL.len;have:=hW.len;simp only[A8,Nn,Iu,List.length_take,List.length_map,List.length_cons,List.length_nil,List.length_append];omega) (Fx (f:=Dd) (pl++De y (Bo ds y1).1.fixed i) ([(y.1,(y.2++[((((Bo ds y1).1).fixed:Int)+((i:Int):Int))]))]))) Ap fun o7 cp7=>⟨AB,AS,?_⟩))))))
   exact CY tab 2 [] O (Cu (FR [3] 0 ⟨i+1,o6,cp6,o7,cp7⟩ O Au (e1:=⟨we (H9 (us++(Bo ds y1).2.2.1.take i++[(.mk x1k x1i x1n x1l x1s:Tm)]) (by rw[Im hx1,List.append_assoc])),we (FQ (f:=Dd) (pl++De y (Bo ds y1).1.fixed i++([(y.1,(y.2++[((((Bo ds y1).1).fixed:Int)+((i:Int):Int))]))])) (by rw[Jg,List.append_assoc])),we O,Aw⟩) (e2:=wl (oe O) (wl (oe O) (wl (oe O) (wl (Eo (f:=Dd) (pl++De y (Bo ds y1).1.fixed i++([(y.1,(y.2++[((((Bo ds y1).1).fixed:Int)+((i:Int):Int))]))])) (by rw[Jg,List.append_assoc])) (wl (Gw (us++(Bo ds y1).2.2.1.take i++[(.mk x1k x1i x1n x1l x1s:Tm)]) (by rw[Im hx1,List.append_assoc])) (wl (oe O) (wl (oe O) (wl (oe O) (wl (oe O) (Ih))))))))))))
  refine DF [0] O ?_;exact FR [0] 2 ⟨k1,(aN x.name w.branches).1,us++(Bo ds y1).2.2.1,pl++De y (Bo ds y1).1.fixed (Bo ds y1).2.2.1.length,o4,cp4,o5,cp5⟩ O (⟨hC1,hL.next h2.g (hL.ok _ (List.mem_of_getElem? hy1)) hcs hbs,hW.next h2.g hy1 hy hcs hbs hL.tok⟩) (e1:=⟨we (H9 (us++(Bo ds y1).2.2.1.take i) (by rw[PH Au])),we (FQ (f:=Dd) (pl++De y (Bo ds y1).1.fixed i) (by rw[show i=(Bo ds y1).2.2.1.length from by omega])),Aw⟩) (e2:=wl (oe O) (wl (Eo (f:=Dd) (pl++De y (Bo ds y1).1.fixed i) (by rw[show i=(Bo ds y1).2.2.1.length from by omega])) (wl (Gw (us++(Bo ds y1).2.2.1.take i) (by rw[PH Au])) (wl (oe O) (wl (oe O) (wl (oe O) (wl (oe O) (Ih))))))))
 have hk1:=c3;have hLl:=hL.len;rw[ZA hk1] at hC1;refine DF [0] O (A2 [1] O (Bq (i:=0) CN O O (Ff _) (A7 _)) (CQ [2,5] O (Lx w.body gl (Bu.1 (Lm hL.tok)).nd hgl.2.1 hgl.2.2.1) (Bp [3] O (Az Ba O) fun b26=>?_)));refine BC [4,0,1] rfl ?_ ?_<;>intro c4
 ·have hq:=(KE (h:=(.mk gk gi gn gl gs:Tm)) c4).symm.trans hC1;cases hq;refine CK [3,4,0] O (A5 (BE (i:=4) O) (BP (A9 [0] O (Bg [4] [7] O O ⟨O,O⟩))))
 obtain⟨hb1,hb2,hb3,hb4⟩:=X3 (by rw[hC1];simp) c4;rw[hb4] at hC1;obtain⟨hpo,hpe⟩:=IM (h:=(by rw[hC1];simp));rw[hpe] at hC1;cases hC1;refine CK [0] O (A5 (CL (i:=3) [12] O (DA ⟨O,Aw⟩)) (BP (E2 [0] [7] O ?_)));refine Bb [2,0] O (A3 O (fun _=>BF O O (PM us Ak) O) Aw (A3 O (fun _=>BF O O (K2 ((BU w.body gl).1) us.reverse (by have:=Ft (t:=(BU w.body gl).1) hb1;omega) (Bu.1 hb1).nd (FF (ah hb2)).1 (by rw[Q1];omega)) O) Aw (Bb [3] O (Ge [] O O (Az Ba O) Ap fun b28=>⟨AB,Aw,?_⟩))));refine Dj [2,0,1] O (E2 [0] [] O ?_);refine Bb [3,0] O (FB O O (Bj [7] O (.inl ⟨O,O,O⟩) (Fv b c ((B9 ((BU w.body gl).1) us.reverse 0).1) ((B9 ((BU w.body gl).1) us.reverse 0).2) (Bu.1 hpo).nd) ⟨_,_,O,O,O⟩ As O (.inl O)) AB Aw (Bb [2] O (CF (j:=5) O O O (fun H i hi=>Ax (i:=i) Dz O hi (C9 _)) AB Aw (A3 O (fun _=>Cn (lo:=(f.arity:Int).toNat) BS O (CW (Bd _)) ⟨_,pI Au⟩ O AZ (Nat.le_refl _) (MR a ((f.arity:Int).toNat))) Aw (A3 O (fun _=>BF O O (Ee ((B9 ((BU w.body gl).1) us.reverse 0).1) (a.drop ((f.arity:Int).toNat)) Ab) O) Aw (Dj [2,4,1] O (A9 [0] O (Bg [4] [7] O O ⟨O,O⟩))))))))
theorem _root_.Go.AU {α:Prop}(h:α:=by simp only[Db,List.length_drop,List.length_set];omega):α:=h
set_option maxHeartbeats 4000000 in
theorem jM : ∀ (ds : List B8) (hE : G2 ds) (n : Nat), yG ds n := by
 intro ds hE n
 induction n using Nat.strongRecOn with
 | ind n ih =>
  intro b t c c2 q hC
  have h2 := hE
  obtain ⟨k, rfl⟩ := Tb hC Av
  have hwo := dr hC Av
  have hsp := Q8 hwo
  have hsl := hsp.len
  have hss := hsp.sz
  have hsa := hsp.asz
  refine DI Tryz.func40 ?_
  refine CG [0] O O fun b4 => ?_
  refine Bp [0] O (Az Ba O) fun b6 => ?_
  refine CQ [2, 1] O (LG _ t (Nat.le_refl _) Ak) ?_
  refine Bp [3] O (Az Ba O) fun b8 => ?_
  generalize hz : (Ay t).1 = z
  obtain ⟨zk, zi, zn, zl, zs⟩ := z
  have hzo : okB (.mk zk zi zn zl zs) = true := hz ▸ hsp.head
  have hzq := hz
  have hzl := J6 hzo
  have hzn := (Bu.1 hzo).nd
  refine CI [6, 0, 1, 0] 999999 [0, 2, 6, 8, 9, 34] 35 (decide (zk = 5 ∨ zk = 11)) O O ?_ ?_
  ·refine BC [0] rfl ?_ ?_ <;> intro c1
   ·exact CT [0] O (hr := (by refine pB (Bool.eq_iff_iff.2 ?_); simp only [beq_iff_eq, decide_eq_true_eq]; omega))
   exact CT [2] O (hr := (by refine pB (Bool.eq_iff_iff.2 ?_); simp only [beq_iff_eq, decide_eq_true_eq]; omega))
  refine BC [0] rfl ?_ ?_ <;> intro c1
  ·have hk511 : zk = 5 ∨ zk = 11 := by simpa using c1
   refine CI [0] 5 [2, 6, 8, 9] 45 (((zk : Int) == (5 : Int)) && (((((Ay t).2).length : Nat) : Int) == (0 : Int))) O O ?_ ?_
   ·refine Bc [4, 0] 41 rfl rfl ?_ ?_ <;> intro g
    ·refine CA [1] O O (A8 _) ?_
     exact CT [2] O
    exact CT [4] O
   refine BC [0] rfl ?_ ?_ <;> intro c3
   ·have hc2 : zk = 5 ∧ (Ay t).2.length = 0 := by simpa using c3
    have hq := (TB hwo (by rw [hzq]; exact hc2.1) Au).symm.trans hC
    cases hq
    refine CK [3, 1, 0] O ?_
    refine A5 (BE (i := 1) O) ?_
    refine BP (A9 [0] O (Bg [1] [3] O O ⟨O, O⟩))
   have hc2 : ¬ (zk = 5 ∧ (Ay t).2.length = 0) := by simpa using c3
   refine BC [3, 0] rfl ?_ ?_ <;> intro c4
   ·have hk : (Ay t).1.kind = 5 := by rw [hzq]; exact c4
    refine E2 [0] [10] O ?_
    refine Bb [2, 0] O ?_
    obtain ⟨x, hx⟩ := A1 (l := zs) (i := 1) Au
    have hxo := Fh hzo (i := 1) hx
    have hq := (XA hwo hk Au (by rw [hzq]; exact hx)).symm.trans hC
    obtain ⟨hpo, hpe⟩ := IM (h := (by rw [hq]; simp))
    rw [hpe] at hq
    cases hq
    refine A3 O (fun _ => A0 BS O O Au (BO hx) (A7 _)) Aw ?_
    refine Bb [2] O ?_
    refine A3 O (fun _ => Cn (lo := 0) (hi := 1) BS O (CW (Bd _)) O ⟨_, O⟩ (Nat.zero_le _) AZ (V4 ((Ay t).2) 1)) Aw ?_
    refine A3 O (fun _ => BF O O (K2 x (((Ay t).2).take 1) (by have := Ft hxo; omega) (Bu.1 hxo).nd (WA hsp.args) (by have := DE (Ay t).2 1; omega)) O) Aw ?_
    refine Bb [3] O ?_
    refine Ge [] O O (Az Ba O) Ap fun b10 => ⟨AB, Aw, ?_⟩
    refine Dj [2, 0, 1] O (E2 [0] [] O ?_)
    refine Bb [3, 0] O ?_
    refine FB O O (Bj [4] O (.inl ⟨O, O, O⟩) (Fv b c ((B9 x (((Ay t).2).take 1) 0).1) ((B9 x (((Ay t).2).take 1) 0).2) (Bu.1 hpo).nd) ⟨_, _, O, O, O⟩ As O (.inl O)) AB Aw ?_
    refine A3 O (fun _ => Bh O) Aw ?_
    refine A3 O (fun _ => Cn (lo := 1) BS O (CW (Bd _)) ⟨_, O⟩ O AZ (Nat.le_refl _) (MR ((Ay t).2) 1)) Aw ?_
    refine A3 O (fun _ => BF O O (Ee ((B9 x (((Ay t).2).take 1) 0).1) (((Ay t).2).drop 1) AU) O) Aw ?_
    refine Dj [2, 2, 1] O (A9 [0] O (Bg [2] [4] O O ⟨O, O⟩))
   have hk : (Ay t).1.kind = 11 := by rw [hzq]; show zk = 11; omega
   refine E2 [0] [11] O ?_
   refine Bb [2, 0] O ?_
   obtain ⟨x, hx⟩ := A1 (l := zs) (i := 2) Au
   have hxo := Fh hzo (i := 2) hx
   obtain ⟨v, hv⟩ := A1 (l := zs) (i := 1) Au
   have hvo := Fh hzo (i := 1) hv
   have hq := (Wo hwo hk (by rw [hzq]; exact hv) (by rw [hzq]; exact hx)).symm.trans hC
   rw [← Qf hv] at hq
   obtain ⟨hpo, hpe⟩ := IM (h := (by rw [hq]; simp))
   rw [hpe] at hq
   cases hq
   refine A3 O (fun _ => A0 BS O O Au (BO hx) (A7 _)) Aw ?_
   refine Bb [3, 0] O ?_
   refine A3 O (fun _ => Cn (lo := 1) (hi := 2) BS O (CW (Bd _)) ⟨_, O⟩ ⟨_, O⟩ AX AX (nP zs 1 2)) Aw ?_
   refine A3 O (fun _ => BF O O (K2 x ((zs.take 2).drop 1) (by have := Ft hxo; omega) (Bu.1 hxo).nd (by rw [Qf hv]; exact ⟨(Bu.1 hvo).nd, trivial⟩) (by rw [Qf hv]; have := Ft hvo; simp only [BB]; omega)) O) Aw ?_
   refine Bb [3] O ?_
   refine Ge [] O O (Az Ba O) Ap fun b12 => ⟨AB, Aw, ?_⟩
   refine Dj [2, 0, 1] O (A2 [3, 0] O (Bj [4] O (.inl ⟨O, O, O⟩) (Fv b c ((B9 x ((zs.take 2).drop 1) 0).1) ((B9 x ((zs.take 2).drop 1) 0).2) (Bu.1 hpo).nd) ⟨_, _, O, O, O⟩ As O (.inl O)) ?_)
   refine CQ [1] O (Ee ((B9 x ((zs.take 2).drop 1) 0).1) ((Ay t).2) AU) ?_
   refine A9 [2, 2, 1] O (Bg [2] [4] O O ⟨O, O⟩)
  have hk511 : ¬ (zk = 5 ∨ zk = 11) := by simpa using c1
  refine CI [2] 999999 [0, 2, 6, 8, 9, 34] 84 (decide (zk = 9 ∨ zk = 10)) O O ?_ ?_
  ·refine BC [0] rfl ?_ ?_ <;> intro c3
   ·exact CT [0] O (hr := (by refine pB (Bool.eq_iff_iff.2 ?_); simp only [beq_iff_eq, decide_eq_true_eq]; omega))
   exact CT [2] O (hr := (by refine pB (Bool.eq_iff_iff.2 ?_); simp only [beq_iff_eq, decide_eq_true_eq]; omega))
  refine BC [0] rfl ?_ ?_ <;> intro c3
  ·have hk9 : zk = 9 ∨ zk = 10 := by simpa using c3
   refine D7 [2, 0] zs 0 O O O (IH _) (fun p hp => ?_)
   refine Bp [1] O (Az Ba O) fun b14 => ?_
   obtain ⟨pk, pi, pn, pl, ps⟩ := p
   have hpo8 := Fh hzo (i := 0) hp
   have hpl := J6 hpo8
   refine BC [4, 0, 1, 0] rfl ?_ ?_ <;> intro c4
   ·have hp8 := c4
    obtain ⟨x, hx⟩ := A1 (l := ps) (i := (((1 : Int) + (zk : Int) : Int) - (9 : Int) : Int).toNat) (by have := hpl.2.2.2 hp8; omega)
    have hxo := Fh hpo8 (i := (1 + zk - 9).toNat) hx
    have hq := (T6 hwo (by rw [hzq]; exact hk9) (by rw [hzq]; exact hp) (p := .mk pk pi pn pl ps) hp8 (by rw [hzq]; exact hx)).symm.trans hC
    obtain ⟨hpo, hpe⟩ := IM (h := (by rw [hq]; simp))
    rw [hpe] at hq
    cases hq
    refine A2 [7, 0, 1] O (A0 BS O O Au (BO hx) (A7 _)) ?_
    refine A2 [1] O (Bj [4] O (.inl ⟨O, O, O⟩) (Fv b c x 0 (Bu.1 hpo).nd) ⟨_, _, O, O, O⟩ As O (.inl O)) ?_
    refine CQ [1] O (Ee x ((Ay t).2) AU) ?_
    refine A9 [2, 2, 1] O (Bg [2] [4] O O ⟨O, O⟩)
   have hp8 := c4
   obtain ⟨⟨sq, d2⟩, hs1, hs2⟩ := D9 ((US hwo (by rw [hzq]; exact hk9) (by rw [hzq]; exact hp) (p := .mk pk pi pn pl ps) hp8).symm.trans hC)
   refine A2 [3, 0] O (Bj [4] O (.inl ⟨O, O, O⟩) (ih k Au b (.mk pk pi pn pl ps : Tm) c d2 sq hs1) ⟨_, _, O, O, O⟩ As O (.inl O)) ?_
   refine Bp [3] O (Az Ba O) fun b15 => ?_
   refine BC [4, 0, 1] rfl ?_ ?_ <;> intro c5
   ·rw [jt c5] at hs2
    cases hs2
    refine CK [3, 3, 0] O ?_
    refine A5 (BE (i := 3) O) ?_
    refine BP (A9 [0] O (Bg [3] [5] O O ⟨O, O⟩))
   rw [mH c5, hzq] at hs2
   cases hs2
   generalize hz1 : sq.getD BN = z1
   obtain ⟨z1k, z1i, z1n, z1l, z1s⟩ := z1
   refine A2 [3, 2, 0] O (BJ BS Ba O O O O O) ?_
   refine A2 [2] O (IW O O (Ee (.mk zk 0 ⟨#[]⟩ [] [(.mk z1k z1i z1n z1l z1s : Tm)] : Tm) ((Ay t).2) AU) (aw (FW O) (aw (we O) (HT)))) ?_
   refine A9 [2, 3, 1] O (Bg [3] [5] O O ⟨O, O⟩)
  have hk9 : ¬ (zk = 9 ∨ zk = 10) := by simpa using c3
  refine BC [2] rfl ?_ ?_ <;> intro c4
  ·have hk : (Ay t).1.kind = 3 := by rw [hzq]; exact c4
   rw [Nb hwo hk, hzq] at hC
   refine CQ [2, 0] O (Th ds (.mk zk zi zn zl zs : Tm) hE.g.env) ?_
   refine Bp [3] O (Az GL O) fun b17 => ?_
   refine BC [4, 0, 1] rfl ?_ ?_ <;> intro c5
   ·have hq := (Y8 c5).symm.trans hC
    cases hq
    refine CK [3, 2, 0] O ?_
    refine A5 (BE (i := 2) O) ?_
    refine BP (A9 [0] O (Bg [2] [4] O O ⟨O, O⟩))
   have hu := c5
   obtain ⟨ix, dd, e1, e2, e3, e4⟩ := KI hu
   have hde := e2.decl
   have hdg := h2.g.all _ e3
   have hel := h2.g.env.len
   have hil := (List.getElem?_eq_some_iff.1 e1).1
   have hfx := hdg.fx
   have hnr := KK hdg
   have hcl := hdg.din.cl
   have hfl := hdg.din.fl
   refine A2 [2] O (Ax (i := 0) Dz O O (EJ _)) ?_
   refine A2 [0] O (A0 Qb O O Au (G4 e4) (DJ _)) ?_
   refine Bp [1] O (Az Ie O) fun b19 => ?_
   refine A2 [2, 0, 1] O (Ax (i := 1) Dz O O (FZ _)) ?_
   refine BC [1] rfl ?_ ?_ <;> intro c6
   ·have hk1 := c6
    have hq2 := (Jr (E := ds) (S := DK) (W := FM ds DK 0) (n := 0) hu e4 hk1).trans ((e9 (n := k) hu e4 hk1).symm.trans hC)
    refine A2 [4, 2] O (Bj [5] O (.inl ⟨O, O, O⟩) (Va 0 ds (.mk zk zi zn zl zs : Tm) ((Ay t).2) b c c2 q (Yo ds hE 0) hE hzo hsp.args Au hq2) ⟨_, _, O, O, O⟩ As O (.inl O)) ?_
    refine A9 [4, 3, 1] O (Bg [3] [5] O O ⟨O, O⟩)
   have hk1 := c6
   refine CI [0] 28 [0, 2, 6, 8, 9, 17, 19] 158 (((((BY ds (.mk zk zi zn zl zs : Tm).name).1).kind : Int) == (5 : Int)) && (decide (((((Ay t).2).length : Nat) : Int) > (Bv dd : Int)))) O O ?_ ?_
   ·refine A2 [1] O (Ax (i := 1) Dz O O (FZ _)) ?_
    refine Bc [2] 152 rfl rfl ?_ ?_ <;> intro g
    ·refine CA [1] O O (A8 _) ?_
     refine CQ [1, 0] O (LR dd hdg.din hdg.fx) ?_
     exact CT [2] O
    exact CT [6] O
   refine BC [0] rfl ?_ ?_ <;> intro c7
   ·have hk5 : (BY ds (Tm.mk zk zi zn zl zs).name).1.kind = 5 ∧ Bv dd < ((Ay t).2.length : Int) := by simpa using c7
    refine CQ [2, 0] O (LR dd hdg.din hdg.fx) ?_
    obtain ⟨x, hx⟩ := A1 (l := (Ay t).2) (i := (Bv dd : Int).toNat) Au
    have hxo := hsp.args _ (List.mem_of_getElem? hx)
    refine A2 [0] O (A0 BS O O Au (BO hx) (A7 _)) ?_
    refine Bp [1] O (Az Ba O) fun b20 => ?_
    refine CQ [3, 0, 1, 0] O (PX ds x hE.g hxo) ?_
    refine Bp [5] O (Az Ie O) fun b21 => ?_
    refine BC [5, 0, 1] rfl ?_ ?_ <;> intro c8
    ·have hcs := MD c8
     have hfd := ka (eI hu) hk5.1 e4
     refine A2 [5, 4, 1] O (Bj [7] O (.inl ⟨O, O, O⟩) (Z5 ds (.mk zk zi zn zl zs : Tm) ((Ay t).2) x b c c2 q hE.g (hfd ▸ e3) hzo hxo (by rw [hfd]; omega) Au (by rw [hfd]; exact (ZC hu e4 hk5.1 Au hx hcs).symm.trans hC)) ⟨_, _, O, O, O⟩ As O (.inl O)) ?_
     refine A9 [4, 5, 1] O (Bg [5] [7] O O ⟨O, O⟩)
    have hcn := Ng c8
    obtain ⟨⟨sq, d2⟩, hs1, hs2⟩ := D9 ((YF hu e4 hk5.1 Au hx hcn).symm.trans hC)
    refine A2 [3, 1] O (Bj [7] O (.inl ⟨O, O, O⟩) (ih k Au b x c d2 sq hs1) ⟨_, _, O, O, O⟩ As O (.inl O)) ?_
    refine Bp [3] O (Az Ba O) fun b25 => ?_
    refine BC [4, 0, 1] rfl ?_ ?_ <;> intro c9
    ·rw [je c9] at hs2
     cases hs2
     refine CK [3, 6, 0] O ?_
     refine A5 (BE (i := 6) O) ?_
     refine BP (A9 [0] O (Bg [6] [8] O O ⟨O, O⟩))
    rw [kP c9] at hs2
    cases hs2
    refine DS [1] O ?_
    refine BH (DH (t := 27) (sz := 5) O) ?_
    refine BW (DS [2] O ?_)
    refine ET O O (Bi (i := 0) (rows' := A6 ((Ay t).2)) BS BS Ba O O O O O O (Bd _) Aa (Hj [] ((Ay t).2))) fun o cp => ?_
    refine BW (CK [1] O ?_)
    refine JI (i := 0) O AN fun b1 hb => ?_
    subst hb
    refine BP (E2 [0] [] O ?_)
    refine Bb [2, 4] O ?_
    refine A3 O (fun _ => BF O O (LR dd hdg.din hdg.fx) O) Aw ?_
    refine Bb [1, 1] O ?_
    refine A3 O (fun _ => CJ BS O O Au AN) Aw ?_
    refine FB O O (C7 (i := 0) (j := ((Bv dd : Int).toNat)) CN O O O AN O (Ho _) (A7 _) (Gd _) (MP ((Ay t).2) ((Bv dd : Int).toNat) (sq.getD BN))) AB Aw ?_
    refine HC O Ap ?_
    refine Cu (DS [2, 6] O ?_)
    refine BH (CV (t := 27) (x := .vs (some b1) (A6 ((((Ay t).2)).set ((Bv dd : Int).toNat) (sq.getD BN))).length cp) (CZ ((Ay t).2) (l' := (((Ay t).2)).set ((Bv dd : Int).toNat) (sq.getD BN)) Av)) ?_
    refine BH (CV (t := 193) (x := .vs (some b1) (A6 ((((Ay t).2)).set ((Bv dd : Int).toNat) (sq.getD BN))).length cp) (CZ ((Ay t).2) (l' := (((Ay t).2)).set ((Bv dd : Int).toNat) (sq.getD BN)) Av)) ?_
    refine BH (CV (t := 194) (x := .vs (some b1) (A6 ((((Ay t).2)).set ((Bv dd : Int).toNat) (sq.getD BN))).length cp) (CZ ((Ay t).2) (l' := (((Ay t).2)).set ((Bv dd : Int).toNat) (sq.getD BN)) Av)) ?_
    refine BH (CV (t := 200) (x := .vs (some b1) (A6 ((((Ay t).2)).set ((Bv dd : Int).toNat) (sq.getD BN))).length cp) (CZ ((Ay t).2) (l' := (((Ay t).2)).set ((Bv dd : Int).toNat) (sq.getD BN)) Av)) ?_
    refine BH (CL (i := 0) [27, 193, 194, 200] O (DA ⟨O, O, O, O, Aw⟩)) ?_
    refine BW (CQ [0] O (Ee (.mk zk zi zn zl zs : Tm) ((((Ay t).2)).set ((Bv dd : Int).toNat) (sq.getD BN)) AU) ?_)
    refine A9 [2, 6, 1] O (Bg [6] [8] O O ⟨O, O⟩)
   have hk5 : ¬ ((BY ds (Tm.mk zk zi zn zl zs).name).1.kind = 5 ∧ ((Ay t).2.length : Int) > Bv dd) := by simpa using c7
   refine CI [0] 40 [0, 2, 6, 8, 9, 17, 19] 216 (((((BY ds (.mk zk zi zn zl zs : Tm).name).1).kind : Int) == (6 : Int)) && (decide (((((Ay t).2).length : Nat) : Int) ≥ ((Gh dd (BY ds (Tm.mk zk zi zn zl zs).name).1.item).arity : Int)))) O O ?_ ?_
   ·refine A2 [1] O (Ax (i := 1) Dz O O (FZ _)) ?_
    refine Bc [2] 205 rfl rfl ?_ ?_ <;> intro g
    ·have hk6 := g
     obtain ⟨fk, ff, f1, f2⟩ := e2.func hk6
     have hff : dd.funs[(BY ds (Tm.mk zk zi zn zl zs).name).1.item.toNat]? = some ff := by rw [f2]; simpa using f1
     have hfm := List.mem_of_getElem? hff
     have hfa := hdg.fu ff hfm
     have hfi := (List.getElem?_eq_some_iff.1 f1).1
     have hfat : Gh dd (BY ds (Tm.mk zk zi zn zl zs).name).1.item = ff := CO hff
     refine CA [1] O O (A8 _) ?_
     refine A2 [1] O (Ax (i := 0) F6 O O (CD _)) ?_
     refine A2 [1] O (Ax (i := 1) Dz O O (GS _)) ?_
     refine A2 [0] O (A0 J2 O O Au (Fe hff) (Eh _)) ?_
     refine A2 [1] O (DQ Dz O (C9 _)) ?_
     exact CT [2] O (hr := (by first | rfl | (refine pB ?_; simp [hk6, hfat]; done) | (refine pB ?_; simp_all; done)))
    exact CT [11] O (hr := (by first | rfl | (refine pB ?_; simp [hk6, hfat]; done) | (refine pB ?_; simp_all; done)))
   refine BC [0] rfl ?_ ?_ <;> intro c8
   ·have hk66 : (BY ds (Tm.mk zk zi zn zl zs).name).1.kind = 6 ∧ (Gh dd (BY ds (Tm.mk zk zi zn zl zs).name).1.item).arity ≤ ((Ay t).2.length : Int) := by simpa using c8
    obtain ⟨hk6, hl6⟩ := hk66
    obtain ⟨fk, ff, f1, f2⟩ := e2.func hk6
    have hff : dd.funs[(BY ds (Tm.mk zk zi zn zl zs).name).1.item.toNat]? = some ff := by rw [f2]; simpa using f1
    have hfm := List.mem_of_getElem? hff
    have hfa := hdg.fu ff hfm
    have hfi := (List.getElem?_eq_some_iff.1 f1).1
    have hfat : Gh dd (BY ds (Tm.mk zk zi zn zl zs).name).1.item = ff := CO hff
    rw [hfat] at hl6
    refine E2 [0] [] O ?_
    refine Bb [3, 2] O ?_
    refine CF (j := 0) O O O (fun H i hi => Ax (i := i) F6 O hi (CD _)) AB Aw ?_
    refine A3 O (fun _ => BG MT O O) Aw ?_
    refine CF (j := 1) O O O (fun H i hi => Ax (i := i) Dz O hi (GS _)) AB Aw ?_
    refine A3 O (fun _ => A0 J2 O O Au (Fe hff) (Eh _)) Aw ?_
    refine Bb [3] O ?_
    refine FB O O (Bj [5] O (.inl ⟨O, O, O⟩) (Yn k ds (.mk zk zi zn zl zs : Tm) ff ((Ay t).2) dd b c c2 q (ih k Au) hE e3 hfm Au hzo Au hsp.args ((e8 hu e4 hk6 hff Au).symm.trans hC)) ⟨_, _, O, O, O⟩ As O (.inl O)) AB Aw ?_
    refine Dj [4, 3, 1] O (A9 [0] O (Bg [3] [5] O O ⟨O, O⟩))
   have hk6 : ¬ ((BY ds (Tm.mk zk zi zn zl zs).name).1.kind = 6 ∧ ((Ay t).2.length : Int) ≥ (Gh dd (BY ds (Tm.mk zk zi zn zl zs).name).1.item).arity) := by simpa using c8
   have hq := (ky hu e4 hk1 hk5 hk6).symm.trans hC
   cases hq
   refine CK [3, 3, 0] O ?_
   refine A5 (BE (i := 3) O) ?_
   refine BP (A9 [0] O (Bg [3] [5] O O ⟨O, O⟩))
  have hq := (dB hwo (by rw [hzq]; show ¬ zk = 5; omega) (by rw [hzq]; show ¬ zk = 11; omega) (by rw [hzq]; show ¬ zk = 9; omega) (by rw [hzq]; show ¬ zk = 10; omega) (by rw [hzq]; assumption)).symm.trans hC
  cases hq
  refine CK [3, 1, 0] O ?_
  refine A5 (BE (i := 1) O) ?_
  refine BP (A9 [0] O (Bg [1] [3] O O ⟨O, O⟩))
theorem Vv:BL Tryz.prog 34 [] [] (W2 (fun b=> .ptr b 0) ((HX G0).map .p)):=by
 refine DI Tryz.func34 (CG [2] O O fun b2=>A9 [1] O (Bg [] [0] O O ⟨_,O,O⟩))
end Go.Proofs.YtldfmjoncbjldaaGreat
namespace Go.Eu
open Go.Abs
mutual
theorem mn {vars m:Int}(hv:vars≤549755813888):∀(t:Tm) (d:Int),wf vars m d t→0≤d→d+size t≤1073741824→Vp t
 | .mk k i n l ks,d,h,h0,h1=>by
  simp only[wf,size] at h h1;exact⟨fun e=>by have:=h.2.2.2.1 e;omega,dh hv ks k d 0 h.2.2.2.2.2 h0 Au⟩
theorem dh {vars m:Int}(hv:vars≤549755813888):∀(ts:List Tm) (k d:Int) (j:Nat),oA vars m k d j ts→0≤d→d+1+BB ts≤1073741824→Uh ts
 | [],k,d,j,h,h0,h1=>trivial
 | t::ts,k,d,j,h,h0,h1=>by
  have:=Cx k j;simp only[oA,BB] at h h1;have:=size_pos t;exact⟨mn hv t _ h.1 Au Au,dh hv ts k d (j+1) h.2 h0 Au⟩
end
mutual
theorem rP:∀(t:Tm),Cw t→Ci t
 | .mk k i n l ks,h=>by
  obtain⟨⟨f1,f2,_,f4⟩,h2⟩:=h;refine⟨?_,ml ks h2⟩;simp only[uc,Bool.and_eq_true,Bool.or_eq_true,decide_eq_true_eq];refine⟨⟨?_,?_⟩,?_⟩
  ·by_cases e:i=0
   ·exact .inl (.inl e)
   rcases f1 e with h | h
   ·exact .inl (.inr h)
   exact .inr h
  ·by_cases e:n=⟨#[]⟩
   ·subst e;exact .inl rfl
   exact .inr (f2 e)
  by_cases e:k=2
  ·exact .inl (.inr e)
  by_cases e3:k=3
  ·exact .inr e3
  exact .inl (.inl (f4 e e3))
theorem ml:∀(ts:List Tm),w4 ts→eM ts
 | [],_=>trivial
 | t::ts,h=>⟨rP t h.1,ml ts h.2⟩
end
theorem nI {t:Tm}{vars m:Int}(hn:Nd t) (hs:size t<1000000) (hv:vars≤549755813888) (h:wf (max vars 0) m 0 t∧Cw t):okB t=true :=
 Bu.2 ⟨hn,rR t 0 h.1,mn Au t 0 h.1 Au Au,rP t h.2,by omega⟩
def da (d:B8):Prop:=(d.kind≠1→d.kind≠2→d.value=BN)∧(d.kind≠3→d.recs.rules.length=0∧d.fixed=0)∧(d.kind≠4→d.funs.length=0)
def W8 (d:B8):Prop:=0≤d.fixed∧(∀f∈d.funs,1≤f.arity∧f.arity≤16)∧(d.kind=3→d.fixed≤1000000)
def uj (v:Int) (t:Tm):Prop:=∃m,wf (max v 0) m 0 t
inductive U0 (E:List B8):Int→FY→Prop
 | leaf {v:Int} {t:FY} (hk:t.kind≠1) (h:uj v t.body):U0 E v t
 | split {v:Int} {t:FY} (hk:t.kind=1) (h0:∀b∈t.branches,b.absurd=false→(BY E b.ctor).2=0∧(BY E b.ctor).1.kind=4) (h:∀b∈t.branches,b.absurd=false→U0 E (v+Ed (CR E (BY E b.ctor).1.decl) (BY E b.ctor).1.item) b.tree):U0 E v t
def s8 (E:List B8) (v:Int) (b:G3):Prop:=b.absurd=false→((BY E b.ctor).2=0∧(BY E b.ctor).1.kind=4)∧U0 E (v+Ed (CR E (BY E b.ctor).1.decl) (BY E b.ctor).1.item) b.tree
theorem rB {E:List B8}{v:Int}{t:FY}(hk:t.kind=1) (h:∀b∈t.branches,FD b.tree∧s8 E v b):U0 E v t:= .split hk (fun b hb ha=>((h b hb).2 ha).1) fun b hb ha=>((h b hb).2 ha).2
theorem uX {E:List B8}{v:Int}{b:G3}{d:B8}(h1:(BY E b.ctor).2=0) (h2:(BY E b.ctor).1.kind=4) (hd:E[(BY E b.ctor).1.decl.toNat]?=some d) (h:FD b.tree∧U0 E (v+Ed d (BY E b.ctor).1.item) b.tree):FD b.tree∧s8 E v b :=
 ⟨h.1,fun _=>⟨⟨h1,h2⟩,by rw[show CR E (BY E b.ctor).1.decl=d from CO hd];exact h.2⟩⟩
def QK (E:List B8) (d:B8):Prop:=(d.kind=1∨d.kind=2→okB d.value=true∧uj 0 d.value)∧(d.kind=3→∀t∈d.recs.rules,okB t=true∧uj 0 t)∧(d.kind=4→∀f∈d.funs,FD f.tree∧U0 E f.arity f.tree)
def qd (E:List B8):Prop:=∀i d,E[i]?=some d→QK (E.take i) d
theorem wg {E:List B8}{d:B8}(h:Q0 d) (hk:0≤d.kind∧d.kind≤4) (hu:da d) (hc:W8 d) (ht:QK E d):DG d:=by
 obtain⟨u1,u2,u3⟩:=hu;obtain⟨c1,c2,c3⟩:=hc;obtain⟨t1,t2,t3⟩:=ht;refine⟨h,⟨c1,?_⟩,?_,?_,fun f hf=>⟨(c2 f hf).1,(c2 f hf).2,?_⟩⟩
 ·by_cases h3:d.kind=3
  ·exact c3 h3
  rw[(u2 h3).2];omega
 ·by_cases h1:d.kind=1∨d.kind=2
  ·exact(t1 h1).1
  rw[u1 Au Au];exact J1
 ·by_cases h3:d.kind=3
  ·exact fun t ht=>(t2 h3 t ht).1
  intro t ht;rw[List.length_eq_zero_iff.1 (u2 h3).1] at ht;cases ht
 by_cases h4:d.kind=4
 ·exact(t3 h4 f hf).1
 rw[List.length_eq_zero_iff.1 (u3 h4)] at hf;cases hf
def Vk (d:B8):Prop:=size d.value≤400∧(∀t∈d.recs.rules,size t≤400)∧∀f∈d.funs,Dp f.tree≤50
theorem pY {ds:List B8}(h:MC ds) (hf:∀d∈ds,Vk d):G2 ds:=⟨h,fun d hd=>(hf d hd).1,fun d hd=>(hf d hd).2.1,fun d hd=>(hf d hd).2.2⟩
theorem UW {n:Nat}:∀{l:List G3},(∀x∈l,Dp x.tree≤n)→L7 l≤n
 | [],_=>by simp[L7]
 | .mk c a t::l,h=>by
  have h1:=h (.mk c a t) Av;have h2:=UW (n:=n) (l:=l) fun x hx=>h x (by simp[hx]);simp only[L7,bC,G3.tree] at *;omega
theorem gM {n:Nat}{t:FY}(h:∀x∈t.branches,Dp x.tree≤n):Dp t≤n+1:=by
 obtain⟨k,b,v,l⟩:=t;have h1:=UW (n:=n) (l:=l) h;simp only[Dp];omega
theorem WY:∀{l:List G3},(∀x∈l,FD x.tree)→UC l
 | [],_=>trivial
 | .mk c a t::l,h=>⟨h (.mk c a t) Av,WY fun x hx=>h x (by simp[hx])⟩
theorem Sj {t:FY}(h0:okB t.body=true) (h:∀x∈t.branches,FD x.tree):FD t:=by
 obtain⟨k,b,v,l⟩:=t;exact⟨h0,WY h⟩
theorem bN {t:FY}(h0:ML t.body BN=true) (h:t.branches.length=0):FD t :=
 Sj (by rw[GY.1 h0];exact J1) (fun x hx=>by rw[List.length_eq_zero_iff.1 h] at hx;cases hx)
theorem IY {α:Type}{p:α→Prop}{l:List α}{n:Nat}(hn:l.length≤n) (h:∀j,j<n→∀x,l[j]?=some x→p x):∀x∈l,p x:=fun x hx=>by
 obtain⟨j,hj⟩:=List.mem_iff_getElem?.1 hx;exact h j (by have:=(List.getElem?_eq_some_iff.1 hj).1;omega) x hj
theorem gR {ds:List B8}{i:Nat}(h:IT ds) (hC:∀j,j<i→∀x,ds[j]?=some x→DG x):MC (ds.take i) :=
 ⟨h.take i,fun d hd=>by
  obtain⟨j,hj⟩:=List.mem_iff_getElem?.1 hd;have hlt:=(List.getElem?_eq_some_iff.1 hj).1;rw[List.length_take] at hlt;rw[List.getElem?_take_of_lt Au] at hj;exact hC j Au d hj⟩
theorem uQ {α:Type}{l:List α}(h:l.length=0) {p:α→Prop}:∀x∈l,p x:=fun x hx=>by
 rw[List.length_eq_zero_iff.1 h] at hx;cases hx
theorem pT {t:FY}{dp:Int}(hd:dp≤40) (h:∀x∈t.branches,(Dp x.tree:Int)≤42 - (dp+1)):(Dp t:Int)≤42 - dp:=by
 have:=gM (n:=(42 - (dp+1)).toNat) (t:=t) fun x hx=>by have:=h x hx;omega
 omega
theorem RK {t:Tm}(h:YC t) (hs:FG t≤400):size t≤400:=by
 have h1:=Pv (t:=t) (by have:=h.sz;omega);omega
theorem nB {d:B8}(h:Q0 d) (hv:FG d.value≤400) (hr:∀t∈d.recs.rules,FG t≤400) (hf:∀f∈d.funs,(Dp f.tree:Int)≤42 - 0):Vk d :=
 ⟨RK h.vl hv,fun t ht=>RK (h.rs t ht) (hr t ht),fun f hm=>by have:=hf f hm;omega⟩
structure kz (ds:List B8) (l:List Tm):Prop where
 env:G2 ds
 cl:qd ds
 ok:∀t∈l,okB t=true
 sz:BB l≤60
 few:ds.length≤70
theorem j3 {ds:List B8}{l:List Tm}(hn:Ew l 60 0≤60) (hg:dC l∧∀t∈l,okB t=true) (he:(G2 ds∧qd ds)∧ds.length≤70):kz ds l :=
 ⟨he.1.1,he.1.2,hg.2,by have:=YV hg.1 Au hn;omega,he.2⟩
theorem iJ {l:List Tm}(h:dC l):l.length<1000000:=by
 have:=h.sz;have:=Fl l;omega
theorem cQ {l:List Tm}(h:dC l∧∀t∈l,okB t=true):∀x∈l,okB x=true∧size x<1000000:=fun x hx =>
 ⟨h.2 x hx,by have:=h.1.sz;have:=FI hx;omega⟩
end Go.Eu
namespace Go.Proofs.YtldfmjoncbjldaaGreat
open Go.Abs Go.Eu
theorem bg:∀(d:B8),(Q0 d)→(0≤d.kind∧d.kind≤4)→Hd Tryz.prog 140 [.agg ((B1 d).map .p)] (fun v=>∃bb:Bool,v= .p (.bool bb)∧(bb=true→da d)):=by
 intro d h1 h2;refine DI Tryz.func140 (CG [0] O O fun b1=>CI [1] 1 [1] 3 ((((d.recs.params:Int)==(0:Int))&&(ML d.recs.type BN))&&(((d.recs.rules.length:Nat):Int)==(0:Int))) O O ?_ ?_)
 ·refine A2 [2] O (Ax (i:=0) Dz O O (Du _)) ?_;refine Bc [2] 9 rfl rfl ?_ ?_<;>intro g
  ·refine A2 [2] O (Bq (i:=0) CN O O (Fa _) (A7 _)) (CQ [0] O (LX d.recs.type (by first | exact h1.rt.nd | exact h1.vl.nd | exact h1.ty.nd)) ?_);refine Bc [2] 15 rfl rfl ?_ ?_<;>intro g1
   ·exact A2 [2] O (Ax (i:=0) JW O O (Cp _)) (CA [0] O O (A8 _) (CT [3] O))
   exact CT [7] O
  exact CT [13] O
 refine CI [0] 2 [1] 4 ((((d.fixed:Int)==(0:Int))&&(((d.ctors.length:Nat):Int)==(0:Int)))&&((((d.recs.params:Int)==(0:Int))&&(ML d.recs.type BN))&&(((d.recs.rules.length:Nat):Int)==(0:Int)))) O O ?_ ?_
 ·refine A2 [1] O (Ax (i:=0) Dz O O (Cr _)) ?_;refine Bc [2] 25 rfl rfl ?_ ?_<;>intro g
  ·refine A2 [1] O (Ax (i:=0) GC O O (B5 _)) (CA [0] O O (List.length_map _) ?_);refine Bc [3] 31 rfl rfl ?_ ?_<;>intro g1
   ·exact CT [3] O
   exact CT [3] O
  exact CT [9] O
 refine A2 [1] O (Ax (i:=0) Dz O O (EU _)) ?_;refine BC [2] rfl ?_ ?_<;>intro c
 ·refine CI [0] 5 [] 2 (((ML d.value BN)&&((((d.fixed:Int)==(0:Int))&&(((d.ctors.length:Nat):Int)==(0:Int)))&&((((d.recs.params:Int)==(0:Int))&&(ML d.recs.type BN))&&(((d.recs.rules.length:Nat):Int)==(0:Int)))))&&(((d.funs.length:Nat):Int)==(0:Int))) O O ?_ ?_
  ·refine A2 [1] O (Bq (i:=0) CN O O (Fu _) (A7 _)) (CQ [0] O (LX d.value (by first | exact h1.rt.nd | exact h1.vl.nd | exact h1.ty.nd)) ?_);refine Bc [1] 41 rfl rfl ?_ ?_<;>intro g
   ·refine Bc [3] 44 rfl rfl ?_ ?_<;>intro g1
    ·exact A2 [1] O (Ax (i:=0) F6 O O (CD _)) (CA [0] O O (List.length_map _) (CT [3] O))
    exact CT [6] O
   exact CT [9] O
  refine A9 [0] rfl (Bg [] [] rfl rfl ⟨⟨_,rfl,fun h=>by simp only[Bool.and_eq_true,beq_iff_eq,decide_eq_true_eq,GY] at h;refine⟨fun _ _=>?_,fun _=>⟨?_,?_⟩,fun _=>?_⟩<;>first | omega | (simp_all;done)⟩,rfl⟩)
 refine CI [2] 999999 [1,4,35] 50 (decide (d.kind=1∨d.kind=2)) O O ?_ ?_
 ·refine BC [0] rfl ?_ ?_<;>intro c1
  ·exact CT [0] O (hr:=(by refine pB (Bool.eq_iff_iff.2 ?_);simp only[beq_iff_eq,decide_eq_true_eq];omega))
  exact CT [2] O (hr:=(by refine pB (Bool.eq_iff_iff.2 ?_);simp only[beq_iff_eq,decide_eq_true_eq];omega))
 refine BC [0] rfl ?_ ?_<;>intro c1
 ·refine CI [0] 8 [] 2 (((((d.fixed:Int)==(0:Int))&&(((d.ctors.length:Nat):Int)==(0:Int)))&&((((d.recs.params:Int)==(0:Int))&&(ML d.recs.type BN))&&(((d.recs.rules.length:Nat):Int)==(0:Int))))&&(((d.funs.length:Nat):Int)==(0:Int))) O O ?_ ?_
  ·refine Bc [2] 54 rfl rfl ?_ ?_<;>intro g
   ·exact A2 [1] O (Ax (i:=0) F6 O O (CD _)) (CA [0] O O (List.length_map _) (CT [3] O))
   exact CT [6] O
  refine A9 [0] rfl (Bg [] [] rfl rfl ⟨⟨_,rfl,fun h=>by simp only[Bool.and_eq_true,beq_iff_eq,decide_eq_true_eq,GY] at h;refine⟨fun _ _=>?_,fun _=>⟨?_,?_⟩,fun _=>?_⟩<;>first | omega | (simp_all;done)⟩,rfl⟩)
 refine BC [2] rfl ?_ ?_<;>intro c2
 ·refine CI [0] 10 [] 2 ((ML d.value BN)&&(((d.funs.length:Nat):Int)==(0:Int))) O O ?_ ?_
  ·refine A2 [1] O (Bq (i:=0) CN O O (Fu _) (A7 _)) (CQ [0] O (LX d.value (by first | exact h1.rt.nd | exact h1.vl.nd | exact h1.ty.nd)) ?_);refine Bc [1] 65 rfl rfl ?_ ?_<;>intro g
   ·exact A2 [1] O (Ax (i:=0) F6 O O (CD _)) (CA [0] O O (List.length_map _) (CT [3] O))
   exact CT [6] O
  refine A9 [0] rfl (Bg [] [] rfl rfl ⟨⟨_,rfl,fun h=>by simp only[Bool.and_eq_true,beq_iff_eq,decide_eq_true_eq,GY] at h;refine⟨fun _ _=>?_,fun _=>⟨?_,?_⟩,fun _=>?_⟩<;>first | omega | (simp_all;done)⟩,rfl⟩)
 refine Fo [0] 11 [] 2 (fun y=>∃q:Bool,y= .p (.bool q)∧(q=true→ML d.value BN=true∧d.fixed=0∧d.recs.rules.length=0)) O O ?_ ?_
 ·refine A2 [1] O (Ax (i:=0) N7 O O (DZ _)) (A2 [0] O (Gs O O) ?_);refine Bc [1] 74 rfl rfl ?_ ?_<;>intro g
  ·refine A2 [1] O (Bq (i:=0) CN O O (Fk _) (A7 _)) (CQ [0] O (LX d.type (by first | exact h1.rt.nd | exact h1.vl.nd | exact h1.ty.nd)) ?_);refine Bc [2] 79 rfl rfl ?_ ?_<;>intro g1
   ·refine A2 [1] O (Bq (i:=0) CN O O (Fu _) (A7 _)) (CQ [0] O (LX d.value (by first | exact h1.rt.nd | exact h1.vl.nd | exact h1.ty.nd)) ?_);refine Bc [2] 84 rfl rfl ?_ ?_<;>intro g2
    ·exact CT [3] rfl (hr:=(by refine⟨_,rfl,fun h=>?_⟩;first | (exact absurd h As) | (refine⟨by simpa using Aq,?_,?_⟩<;>(simp only[Bool.and_eq_true,beq_iff_eq,decide_eq_true_eq] at h;omega))))
    exact CT [3] rfl (hr:=(by refine⟨_,rfl,fun h=>?_⟩;first | (exact absurd h As) | (refine⟨by simpa using Aq,?_,?_⟩<;>(simp only[Bool.and_eq_true,beq_iff_eq,decide_eq_true_eq] at h;omega))))
   exact CT [8] rfl (hr:=(by refine⟨_,rfl,fun h=>?_⟩;first | (exact absurd h As) | (refine⟨by simpa using Aq,?_,?_⟩<;>(simp only[Bool.and_eq_true,beq_iff_eq,decide_eq_true_eq] at h;omega))))
  exact CT [13] rfl (hr:=(by refine⟨_,rfl,fun h=>?_⟩;first | (exact absurd h As) | (refine⟨by simpa using Aq,?_,?_⟩<;>(simp only[Bool.and_eq_true,beq_iff_eq,decide_eq_true_eq] at h;omega))))
 rintro _ ⟨q,rfl,hq⟩;refine A9 [0] rfl (Bg [] [] rfl rfl ⟨⟨_,rfl,fun h=>by obtain⟨q1,q2,q3⟩:=hq h;rw[GY] at q1;exact⟨fun _ _=>q1,fun _=>⟨q3,q2⟩,fun _=>by omega⟩⟩,rfl⟩)
theorem RD:∀(t:Tm),(YC t)→Hd Tryz.prog 190 [.agg ((BD t).map .p)] (fun v=>∃e:Int,v= .p (I e)∧0≤e∧e≤size t):=by
 intro t h1;have hsz:=h1.sz;refine DI Tryz.func190 (CG [0] O O fun b1=>?_);refine GG (α:=Tm×Int) [2] [1] [0] (fun(y,m)=>[(3,.p (I m))]) (fun(y,m)=>[(0,.box b1 ((BD y).map .p))]) (fun(y,m)=>size y) (fun(y,m)=>Nd y∧0≤m∧m+size y≤size t) ⟨t,0⟩ O O O (⟨h1.nd,by omega,by omega⟩) ?_;rintro⟨y,m⟩ hC
 try simp only at hC
 obtain⟨hC,hm0,hm1⟩:=hC;obtain⟨yk,yi,yn,yl,ys⟩:=y;refine CI [0] 2 [1,3] 12 (((yk:Int)==(6:Int))&&(((ys.length:Nat):Int)==(2:Int))) O O ?_ ?_
 ·refine Bc [4,0] 7 rfl rfl ?_ ?_<;>intro g
  ·exact CA [2,0] O O (A8 _) (CT [2] O)
  exact CT [5] O
 refine BC [0] rfl ?_ ?_<;>intro c
 ·refine D7 [5,0] ys 1 O O O (IH _) (fun x hx=>?_) (hj:=⟨Au,by first | rfl | omega,(by first | omega | (simp at c;omega))⟩);exact FR [2,0,1] 0 ⟨x,(m:Int)+(1:Int)⟩ O (⟨DV hC.2.2.2.2.1 hx,by omega,by have:=CU hx;simp only[size] at hm1;omega⟩) (hμ:=(by have:=CU hx;simp only[size];omega))
 refine DF [0] O ?_;refine A9 [2] O (Bg [] [] O O ⟨⟨_,O,by omega,by simp only[size] at hm1;omega⟩,rfl⟩)
theorem V8:∀(d:B8),(Q0 d)→Hd Tryz.prog 169 [.agg ((B1 d).map .p)] (fun v=>∃bb:Bool,v= .p (.bool bb)∧(bb=true→d.fixed≤1000000)):=by
 intro d h1;have hcl:=h1.cl;have hts:=h1.ty.sz;refine DI Tryz.func169 (CG [0] O O fun b1=>E2 [1] [2] O (A3 O (fun _=>BG Kc O O) Aw (CF (j:=0) O O O (fun H i hi=>Bq (i:=i) CN O hi (Fk _) (A7 _)) AB Aw ?_)));refine L9 [(3,.free (.ptr b1 13)),(4,.read [.box b1 ((B1 d).map .p)] (.p (I d.fixed)))] O O (B7 O O (RD d.type h1.ty) (.inl O)) Ap (⟨_,0,O,by omega,by omega⟩) AB ?_;rintro _ ⟨e,rfl,he0,he1⟩;refine⟨Aw,?_⟩;refine Bb [1] O (CF (j:=0) O O O (fun H i hi=>Ax (i:=i) Dz O hi (Cr _)) AB AS ?_);refine Dj [2] O (GG (α:=Nat×Bool) [1] [1] [0] (fun(i,b)=>[(3,.p (.bool b)),(4,.p (I (i:Int)))]) (fun _=>[]) (fun(i,b)=>d.ctors.length - i) (fun(i,b)=>i≤d.ctors.length∧(b=true→d.fixed≤1000000)) ⟨0,(decide ((e:Int)≥(d.fixed:Int)))⟩ O O O (⟨by omega,fun h=>by simp only[decide_eq_true_eq] at h;omega⟩) ?_);rintro⟨i,b⟩ hC
 try simp only at hC
 obtain⟨hi,hC⟩:=hC;refine A2 [2] O (Ax (i:=0) GC O O (B5 _)) (CA [0] O O (List.length_map _) ?_);refine BC [1] rfl ?_ ?_<;>intro c
 ·refine Fo [0] 5 [1,4] 3 (fun y=>∃q:Bool,y= .p (.bool q)∧(q=true→b=true)) O O ?_ ?_
  ·refine E2 [0] [8] O (Bb [2] O (Da 19 O (fun g=>?_) (fun g=>?_)))
   ·(try simp only[sd,se] at g);refine Bx O (fun _=>BG Kc O O) Aw (M3 (i:=0) O O O O O (fun H i hi=>Ax (i:=i) GC O hi (B5 _)) AB Aw (Bx O (fun _=>Bh O) Aw ?_));obtain⟨x,hx⟩:=A1 (l:=d.ctors) (i:=i) Au;refine Bx O (fun _=>A0 Km O O Au (Gr hx) (Ei _)) Aw (Bx O (fun _=>DN UG O O) Aw (Bx O (fun _=>Dh CN O (GW _) (A7 _)) Aw ?_));refine fI [(9,.free (.ptr b1 13)),(10,.read [.box b1 ((B1 d).map .p)] (.p (I d.fixed)))] O O O O (B7 O O (RD x.type (h1.cs _ (List.mem_of_getElem? hx)).ty) (.inl O)) Ap (⟨_,0,O,by omega,by omega⟩) AB ?_;rintro _ ⟨e1,rfl,he01,he11⟩;refine⟨Aw,?_⟩;exact Bb [1] O (M3 (i:=0) O O O O O (fun H i hi=>Ax (i:=i) Dz O hi (Cr _)) AB AS (CY tab 3 [] O (Cu (CT [0] O (hr:=(by refine⟨_,rfl,fun h=>?_⟩;first | (exact absurd h As) | assumption))))))
   (try simp only[sd,se] at g);exact Bb [6] O (YY O O O O AS (CY tab 5 [] O (Cu (CT [0] O (hr:=(by refine⟨_,rfl,fun h=>?_⟩;first | (exact absurd h As) | assumption))))))
  rintro _ ⟨q,rfl,hq⟩;exact FR [3] 0 ⟨i+1,q⟩ O (⟨by omega,fun h=>hC (hq h)⟩)
 refine DF [0] O (A9 [2] O (Bg [] [] O O ⟨⟨_,O,hC⟩,O⟩))
theorem QP : ∀ (t : Tm) (vars params metas levels : Int), (Nd t) → (size t < 1000000) → Hd Tryz.prog 51 [.agg ((BD t).map .p), .p (I vars), .p (I params), .p (I metas), .p (I levels)] (fun v => ∃ e : Int, v = .p (I e) ∧ (e = 0 → wf (max vars 0) metas 0 t ∧ Cw t)) := by
 intro t vars params metas levels h1 h2
 refine DI Tryz.func51 ?_
 refine CG [0] O O fun b5 => ?_
 refine A2 [3, 0] O (F7 O O) ?_
 refine DS [3] O ?_
 refine EF O O (B7 O O (oR _ t 0 (max (vars : Int) (0 : Int)) params metas levels (Nat.le_refl _) h1 Au Ak) (.inl O)) ?_
 rintro _ ⟨e, rfl, he⟩
 refine BW (BC [3] rfl ?_ ?_) <;> intro c
 ·refine A9 [2] O ?_
  refine ⟨O, _, [], Dx O, List.nil_sublist _, ⟨⟨_, O, ?_⟩, O⟩⟩
  exact fun h => absurd h Aq
 refine CQ [1, 0] O (sw _ t (Nat.le_refl _) Au) ?_
 refine BC [1] rfl ?_ ?_ <;> intro c1
 ·refine A9 [1] O ?_
  refine ⟨O, _, [], Dx O, List.nil_sublist _, ⟨⟨_, O, ?_⟩, O⟩⟩
  exact fun h => absurd h As
 refine CQ [1, 0] O (qC _ t (Nat.le_refl _) Au) ?_
 refine BC [1] rfl ?_ ?_ <;> intro c2
 ·refine A9 [1] O ?_
  refine ⟨O, _, [], Dx O, List.nil_sublist _, ⟨⟨_, O, ?_⟩, O⟩⟩
  exact fun h => absurd h As
 refine A9 [1] O ?_
 refine ⟨O, _, [], Dx O, List.nil_sublist _, ⟨⟨_, O, ?_⟩, O⟩⟩
 exact fun _ => he Au
theorem U9 : ∀ (ds : List B8) (d : B8), (IT ds) → (Q0 d) → Hd Tryz.prog 142 [.p (.lst (List.map B1 ds)), .agg ((B1 d).map .p)] (ec) := by
 intro ds d h1 h2
 have hn := Og d
 have hcl := h2.cl
 have hfl := h2.fl
 refine DI Tryz.func142 ?_
 refine CG [0] O O fun b3 => ?_
 refine CQ [2, 0] O (Np d h2.cl h2.fl h2.nm) ?_
 refine GG (α := Nat) [2] [0, 5] [] (fun i => [(6, .p (I (i : Int)))]) (fun _ => []) (fun i => (DU d).length - i) (fun i => i ≤ (DU d).length) 0 O O O AY ?_
 rintro i hC
 try simp only at hC
 have hi := hC
 refine CA [2] O O (List.length_map _) ?_
 refine BC [1] rfl ?_ ?_ <;> intro c
 ·refine D7 [2] (DU d) i O O O (H5 (f := Ib) fun _ => O) (fun x hx => ?_)
  refine DS [1] O ?_
  refine EF O O (B7 O O (mw x (gT h2 hx)) (.inl O)) ?_
  rintro _ ⟨q, rfl⟩
  refine BW (BC [1] rfl ?_ ?_) <;> intro c1
  ·refine A9 [1] O (Bg [] [] O O ⟨⟨_, O⟩, O⟩)
  refine A2 [3] O (A0 Je O O Au (Zh hx) (O)) ?_
  refine CQ [1] O (Ms ds x h1) ?_
  refine Bp [3] O (Az GL O) fun b7 => ?_
  refine Fo [2, 0, 1] 8 [0, 5, 6] 43 LP O O ?_ ?_
  ·refine E2 [0] [] O ?_
   refine Bb [3] O ?_
   refine Da 34 O (fun g => ?_) (fun g => ?_)
   ·(try simp only [sd, se] at g)
    refine CY tab 9 [] O ?_
    exact Cu (CT [0] O (hr := ⟨_, O⟩))
   (try simp only [sd, se] at g)
   refine Bb [2] O ?_
   refine Bx O (fun _ => Cn (lo := 0) (hi := i) Je O (CW (LN _)) O ⟨_, O⟩ (Nat.zero_le _) AZ (bL (f := Ib) (DU d) i)) Aw ?_
   refine Bb [2] O ?_
   refine Bx O (fun _ => A0 Je O O Au (Zh hx) (O)) Aw ?_
   refine Bx O (fun _ => Gp N7 O) Aw ?_
   refine Bx O (fun _ => BF O O (Xz ((DU d).take i) x Ao) O) Aw ?_
   refine CY tab 1 [] O ?_
   exact Cu (CT [0] O (hr := ⟨_, O⟩))
  rintro _ ⟨q1, rfl⟩
  refine BC [0] rfl ?_ ?_ <;> intro c2
  ·refine A9 [1] O (Bg [] [] O O ⟨⟨_, O⟩, O⟩)
  exact FR [3] 1 (i + 1) O Au
 refine DF [0] O ?_
 refine A9 [1] O (Bg [] [] O O ⟨⟨_, O⟩, O⟩)
theorem Ul : ∀ (n : Nat) (s : Ui) (t : Tm), (size t ≤ n) → (Nd t) → (IT s.env) → (s.own.length < 9000000) → (Q0 s.d) → Hd Tryz.prog 191 [.agg ((JF s).map .p), .agg ((BD t).map .p)] (ec) := by
 intro n
 induction n with
 | zero => intro s t h; cases t; simp [size] at h
 | succ n ih =>
  intro s t h1 h2 h3 h4 h5
  have h3l := h3.len
  obtain ⟨tk, ti, tn, tl, ts⟩ := t
  have hk := h2.2.2.2.2.1
  have hkl := h2.2.2.2.1
  simp only [Db] at hkl
  simp only [size] at h1
  refine DI Tryz.func191 ?_
  refine CG [0] O O fun b2 => ?_
  refine CG [0] O O fun b3 => ?_
  refine Fo [4, 0] 999999 [2, 3] 12 (fun _ => True) O O ?_ ?_
  ·refine BC [0] rfl ?_ ?_ <;> intro c
   ·refine A2 [1] O (Ax (i := 1) oD O O (Kp _)) ?_
    refine CQ [2, 0] O (Ms s.env tn h3) ?_
    refine Bp [3] O (Az GL O) fun b5 => ?_
    refine BC [4, 0, 1] rfl ?_ ?_ <;> intro c1
    ·refine A2 [1] O (Ax (i := 2) Zn O O (Yu _)) ?_
     refine CQ [2, 1] O (Xz s.own tn h4) ?_
     refine BC [1] rfl ?_ ?_ <;> intro c2
     ·refine A9 [1] O (Bg [] [] O O ⟨⟨_, O⟩, O⟩)
     refine A2 [1] O (Bq (i := 2) TE O O (Vr _) (DJ _)) ?_
     refine A2 [1] O (Ax (i := 2) oD O O (Kp _)) ?_
     refine CA [0] O O (List.length_map _) ?_
     refine CQ [2, 1] O (WG s.d (s.env.length : Nat) tn h5.cl h5.fl) ?_
     refine CA [3, 0, 1, 1] O O (List.length_map _) ?_
     refine A2 [1] O (Ax (i := 0) Dz O O (IN _)) ?_
     refine BC [1] rfl ?_ ?_ <;> intro c3
     ·refine A9 [1] O (Bg [] [] O O ⟨⟨_, O⟩, O⟩)
     exact CT [0] O (hr := Aw) (hs := (HB (is := [1, 2]) O))
    refine CA [2, 1] O O (List.length_map _) ?_
    refine A2 [1] O (Ax (i := 0) Dz O O (IN _)) ?_
    refine BC [1] rfl ?_ ?_ <;> intro c2
    ·refine A9 [1] O (Bg [] [] O O ⟨⟨_, O⟩, O⟩)
    exact CT [0] O (hr := Aw) (hs := (HB (is := [1, 2]) O))
   exact CT [0] O (hr := Aw)
  intro _ _
  refine GG (α := Nat) [1] [2, 3] [0, 1] (fun i => [(7, .p (I (i : Int)))]) (fun _ => []) (fun i => ts.length - i) (fun i => i ≤ ts.length) 0 O O O AY ?_
  rintro i hC
  try simp only at hC
  have hi := hC
  refine CA [3, 0] O O (A8 _) ?_
  refine BC [1] rfl ?_ ?_ <;> intro c
  ·refine E2 [0] [6] O ?_
   refine Bb [4, 1, 0] O ?_
   obtain ⟨x, hx⟩ := A1 (l := ts) (i := i) Au
   refine A3 O (fun _ => A0 BS O O Au (BO hx) (A7 _)) Aw ?_
   refine A3 O (fun _ => Bk CN O (A7 _)) Aw ?_
   refine L9 [] O O (B7 O O (ih s x (by have := CU hx; omega) (DV hk hx) h3 h4 h5) (.inl O)) Ap (⟨_, 0, O⟩) AB ?_
   rintro _ ⟨e, rfl⟩
   refine ⟨Aw, ?_⟩
   refine Dj [1] rfl (BC [2] rfl ?_ ?_) <;> intro c1
   ·refine A9 [2] O (Bg [] [] O O ⟨⟨_, O⟩, O⟩)
   exact FR [3] 0 (i + 1) O Au
  refine DF [0] O ?_
  refine A9 [1] O (Bg [] [] O O ⟨⟨_, O⟩, O⟩)
theorem cz:∀(d:B8),(Q0 d)→Hd Tryz.prog 141 [.agg ((B1 d).map .p)] (fun v=>∃ee:Int,v= .p (I ee)∧(ee=0→W8 d)):=by
 intro d h1;have hfl:=h1.fl;have hcl:=h1.cl;have hrl:=h1.rl;refine DI Tryz.func141 (CG [0] O O fun b1=>CI [1] 1 [1] 16 (((decide ((d.params:Int)<(0:Int)))||(decide ((d.params:Int) > (8:Int))))||(decide ((d.fixed:Int)<(0:Int)))) O O ?_ ?_)
 ·refine A2 [1] O (Ax (i:=0) Dz O O (Cv _)) ?_;refine Bc [2] 7 rfl rfl ?_ ?_<;>intro g
  ·exact CT [9] O
  refine A2 [1] O (Ax (i:=0) Dz O O (Cv _)) ?_;refine Bc [3] 12 rfl rfl ?_ ?_<;>intro g1
  ·exact CT [4] O
  exact A2 [1] O (Ax (i:=0) Dz O O (Cr _)) (CT [2] O)
 refine BC [0] rfl ?_ ?_<;>intro c
 ·refine A9 [1] O (Bg [] [] O O ⟨⟨_,O,fun h=>absurd h As⟩,O⟩)
 have hf0:0≤d.fixed:=by omega
 refine Fo [0] 3 [1] 37 LP O O ?_ ?_
 ·refine A2 [1] O (Ax (i:=0) GC O O (B5 _)) (CA [0] O O (List.length_map _) ?_);refine Bc [2] 21 rfl rfl ?_ ?_<;>intro g
  ·exact CT [16] O (hr:=⟨_,O⟩)
  refine A2 [1] O (Ax (i:=0) Dz O O (EU _)) ?_;refine Bc [2] 25 rfl rfl ?_ ?_<;>intro g1
  ·refine A2 [1] O (Ax (i:=0) F6 O O (CD _)) (CA [0] O O (List.length_map _) ?_);refine Bc [2] 30 rfl rfl ?_ ?_<;>intro g2
   ·exact CT [7] O (hr:=⟨_,O⟩)
   exact A2 [1] O (Ax (i:=0) F6 O O (CD _)) (CA [0] O O (List.length_map _) (CT [4] O (hr:=⟨_,O⟩)))
  exact CT [12] O (hr:=⟨_,O⟩)
 rintro _ ⟨q,rfl⟩;refine BC [0] rfl ?_ ?_<;>intro c1
 ·refine A9 [1] O (Bg [] [] O O ⟨⟨_,O,fun h=>absurd h As⟩,O⟩)
 refine GG (α:=Nat) [1] [1] [0] (fun i=>[(3,.p (I (i:Int)))]) (fun _=>[]) (fun i=>d.funs.length - i) (fun i=>i≤d.funs.length∧(∀j,j<i→∀x,d.funs[j]?=some x→1≤x.arity∧x.arity≤16)) 0 O O O (⟨by omega,fun j h=>by omega⟩) ?_;rintro i hC
 try simp only at hC
 obtain⟨hi,hC⟩:=hC;refine A2 [2] O (Ax (i:=0) F6 O O (CD _)) (CA [0] O O (List.length_map _) ?_);refine BC [1] rfl ?_ ?_<;>intro c2
 ·obtain⟨x,hx⟩:=A1 (l:=d.funs) (i:=i) Au;refine Fo [0] 8 [1,3] 60 (fun y=>∃q:Bool,y= .p (.bool q)∧(q=false→1≤x.arity∧x.arity≤16)) O O ?_ ?_
  ·refine A2 [1] O (Ax (i:=0) F6 O O (CD _)) (A2 [1] O (A0 J2 O O Au (Fe hx) (Eh _)) (A2 [1] O (DQ Dz O (C9 _)) ?_));refine Bc [2] 52 rfl rfl ?_ ?_<;>intro g
   ·exact CT [8] O (hr:=(by refine⟨_,rfl,fun h=>?_⟩;first | (exact absurd h As) | (simp only[decide_eq_false_iff_not] at h;omega) | omega))
   exact A2 [1] O (Ax (i:=0) F6 O O (CD _)) (A2 [1] O (A0 J2 O O Au (Fe hx) (Eh _)) (A2 [1] O (DQ Dz O (C9 _)) (CT [2] O (hr:=(by refine⟨_,rfl,fun h=>?_⟩;first | (exact absurd h As) | (simp only[decide_eq_false_iff_not] at h;omega) | omega)))))
  rintro _ ⟨q,rfl,hq⟩;refine BC [0] rfl ?_ ?_<;>intro c3
  ·refine A9 [1] O (Bg [] [] O O ⟨⟨_,O,fun h=>absurd h As⟩,O⟩)
  have hq3:=hq (by simpa using c3);exact FR [3] 0 (i+1) O (⟨by omega,Cg (p:=fun _ (x:I9)=>1≤x.arity∧x.arity≤16) hC hx hq3⟩)
 refine DF [0] O (Fo [0] 10 [] 95 (fun y=>∃q:Bool,y= .p (.bool q)∧(q=false→d.kind=3→d.fixed≤1000000)) O O ?_ ?_)
 ·refine A2 [1] O (Ax (i:=0) Dz O O (EU _)) ?_;refine Bc [2] 64 rfl rfl ?_ ?_<;>intro g
  ·refine A2 [2] O (Ax (i:=0) Dz O O (Du _)) (A2 [1] O (Ax (i:=0) Dz O O (Cv _)) ?_);refine Bc [2] 71 rfl rfl ?_ ?_<;>intro g1
   ·refine A2 [2] O (Ax (i:=0) Dz O O (Du _)) (A2 [1] O (Ax (i:=0) Dz O O (Cv _)) (A2 [0] O (Eg O O) ?_));refine Bc [3] 80 rfl rfl ?_ ?_<;>intro g2
    ·exact CT [15] O (hr:=(by refine⟨_,rfl,fun h h3=>?_⟩;first | (exact absurd h As) | omega | exact hq (by simpa using h)))
    refine A2 [2] O (Ax (i:=0) JW O O (Cp _)) (CA [0] O O (A8 _) (A2 [1] O (Ax (i:=0) GC O O (B5 _)) (CA [0] O O (List.length_map _) ?_)));refine Bc [3] 90 rfl rfl ?_ ?_<;>intro g3
    ·exact CT [5] O (hr:=(by refine⟨_,rfl,fun h h3=>?_⟩;first | (exact absurd h As) | omega | exact hq (by simpa using h)))
    refine DS [1,0] O (I6 O O O O (B7 O O (V8 d h1) (.inl O)) ?_);rintro _ ⟨q1,rfl,hq⟩;refine BW (Ks [3] O ?_);exact⟨O,O,AQ,(by refine⟨_,rfl,fun h h3=>?_⟩;first | (exact absurd h As) | omega | exact hq (by simpa using h)),Aw⟩
   refine A2 [11] O (Ax (i:=0) JW O O (Cp _)) (CA [0] O O (A8 _) (A2 [1] O (Ax (i:=0) GC O O (B5 _)) (CA [0] O O (List.length_map _) ?_)));refine Bc [3] 90 rfl rfl ?_ ?_<;>intro g2
   ·exact CT [5] O (hr:=(by refine⟨_,rfl,fun h h3=>?_⟩;first | (exact absurd h As) | omega | exact hq (by simpa using h)))
   refine DS [1,0] O (I6 O O O O (B7 O O (V8 d h1) (.inl O)) ?_);rintro _ ⟨q1,rfl,hq⟩;refine BW (Ks [3] O ?_);exact⟨O,O,AQ,(by refine⟨_,rfl,fun h h3=>?_⟩;first | (exact absurd h As) | omega | exact hq (by simpa using h)),Aw⟩
  exact CT [31] O (hr:=(by refine⟨_,rfl,fun h h3=>?_⟩;first | (exact absurd h As) | omega | exact hq (by simpa using h)))
 rintro _ ⟨q,rfl,hq⟩;refine BC [0] rfl ?_ ?_<;>intro c3
 ·refine A9 [1] O (Bg [] [] O O ⟨⟨_,O,fun h=>absurd h As⟩,O⟩)
 have hq4:=hq (by simpa using c3);refine A9 [1] O (Bg [] [] O O ⟨⟨_,O,fun _=>⟨hf0,IY Au hC,hq4⟩⟩,O⟩)
theorem H4 : ∀ (s : Ui) (t : Tm) (vs ps : Int), (YC t) → (IT s.env) → (s.own.length < 9000000) → (Q0 s.d) → (vs ≤ 549755813888) → Hd Tryz.prog 170 [.agg ((JF s).map .p), .agg ((BD t).map .p), .p (I vs), .p (I ps)] (fun v => ∃ ee : Int, v = .p (I ee) ∧ (ee = 0 → okB t = true ∧ uj vs t)) := by
 intro s t vs ps h1 h2 h3 h4 h5
 refine DI Tryz.func170 ?_
 refine CG [0] O O fun b4 => ?_
 refine CG [0] O O fun b5 => ?_
 refine DS [4, 0] O ?_
 refine EF O O (B7 O O (QP t vs ps 0 0 h1.nd h1.sz) (.inl O)) ?_
 rintro _ ⟨e, rfl, he⟩
 refine BW (BC [3] rfl ?_ ?_) <;> intro c
 ·refine A9 [2] O (Bg [] [] O O ⟨⟨_, O, fun h => absurd h Aq⟩, O⟩)
 refine DS [2, 1, 0] O ?_
 refine EF O O (B7 O O (Ul (size t) s t (Nat.le_refl _) h1.nd h2 h3 h4) (.inl O)) ?_
 rintro _ ⟨e1, rfl⟩
 refine BW (A9 [1] O (Bg [] [] O O ⟨⟨_, O, fun _ => ⟨nI h1.nd h1.sz h5 (he Au), _, (he Au).1⟩⟩, O⟩))
theorem XL:∀(n:Nat) (a b:FY),(MS a≤n)→(JL a)→Hd Tryz.prog 192 [.agg ((EC a).map .p),.agg ((EC b).map .p)] (fun v=>∃bb:Bool,v= .p (.bool bb)∧(bb=true→ML a.body b.body=true∧a.branches.length=b.branches.length)):=by
 intro n
 induction n with
 | zero=>intro a b h;have:=QU a;omega
 | succ n ih =>
  intro a b h1 h2;have hal:=h2.bl;refine DI Tryz.func192 (CG [0] O O fun b2=>CG [0] O O fun b3=>Fo [1] 1 [2,3] 36 (fun y=>∃q:Bool,y= .p (.bool q)∧(q=false→a.branches.length=b.branches.length∧ML a.body b.body=true)) O O ?_ ?_)
  ·refine A2 [1] O (Ax (i:=1) Dz O O (HW _)) (A2 [1] O (Ax (i:=0) Dz O O (HW _)) ?_);refine Bc [2] 13 rfl rfl ?_ ?_<;>intro g
   ·exact CT [23] O (hr:=(by refine⟨_,rfl,fun h=>?_⟩;first | (exact absurd h As) | (simp_all;done) | (simp_all;omega)))
   refine A2 [1] O (Ax (i:=1) Dz O O (DD _)) (A2 [1] O (Ax (i:=0) Dz O O (DD _)) ?_);refine Bc [3] 20 rfl rfl ?_ ?_<;>intro g1
   ·exact CT [16] O (hr:=(by refine⟨_,rfl,fun h=>?_⟩;first | (exact absurd h As) | (simp_all;done) | (simp_all;omega)))
   refine A2 [1] O (Bq (i:=1) CN O O (Ff _) (A7 _)) (A2 [1] O (Bq (i:=0) CN O O (Ff _) (A7 _)) (CQ [0] O (XS _ a.body b.body (Nat.le_refl _) h2.body.nd) ?_));refine Bc [3] 28 rfl rfl ?_ ?_<;>intro g2
   ·exact CT [8] O (hr:=(by refine⟨_,rfl,fun h=>?_⟩;first | (exact absurd h As) | (simp_all;done) | (simp_all;omega)))
   exact A2 [1] O (Ax (i:=1) IB O O (CC _)) (CA [0] O O (Gt _) (A2 [1] O (Ax (i:=0) IB O O (CC _)) (CA [0] O O (Gt _) (CT [2] O (hr:=(by refine⟨_,rfl,fun h=>?_⟩;first | (exact absurd h As) | (simp_all;done) | (simp_all;omega)))))))
  rintro _ ⟨q,rfl,hq⟩;refine BC [0] rfl ?_ ?_<;>intro c
  ·refine A9 [1] O (Bg [] [] O O ⟨⟨_,O,fun h=>absurd h As⟩,O⟩)
  obtain⟨hqa,hqb⟩:=hq (by simpa using c);refine GG (α:=Nat) [1] [2,3] [0,1] (fun i=>[(5,.p (I (i:Int)))]) (fun _=>[]) (fun i=>a.branches.length - i) (fun i=>i≤a.branches.length) 0 O O O AY ?_;rintro i hC
  try simp only at hC
  have hi:=hC;refine A2 [2] O (Ax (i:=1) IB O O (CC _)) (CA [0] O O (Gt _) ?_);refine BC [1] rfl ?_ ?_<;>intro c1
  ·obtain⟨x,hx⟩:=A1 (l:=a.branches) (i:=i) Au;obtain⟨x1,hx1⟩:=A1 (l:=b.branches) (i:=i) Au;refine CK [0] O (eg [.val (.ptr b2 (0+7)),.val (.p (.lst (MU a.branches))),.val (.p (I (i:Int))),.val (.ref (HY x)),.val (.agg ((HY x).map .p)),.val (.ptr b3 (0+7)),.val (.p (.lst (MU b.branches))),.val (.p (I (i:Int))),.val (.ref (HY x1)),.val (.agg ((HY x1).map .p)),.new [.p (.str ⟨#[]⟩),.p (.bool false),.p (I 0),.p (I 0),.p (I 0),.p (.str ⟨#[]⟩),.p (.nils),.p (.nils),.p (I 0),.p (.nils)],.new [.p (.str ⟨#[]⟩),.p (.bool false),.p (I 0),.p (I 0),.p (I 0),.p (.str ⟨#[]⟩),.p (.nils),.p (.nils),.p (I 0),.p (.nils)]] [.p .any,.p .any] [5,6,7,8,9] Ot O Ap Ap Ap (C3 O (fun Bs=>BG df O O) (C3 O (fun Bs=>Ax (i:=Bs.length+1) IB O (EB O) (CC _)) (C3 O (fun Bs=>Bh O) (C3 O (fun Bs=>A0 RH O O Au (IE hx) (EX _)) ?_)))));refine C3 O (fun Bs=>Bk et O (EX _)) (C3 O (fun Bs=>BG df O O) (C3 O (fun Bs=>Ax (i:=Bs.length+0) IB O (EB O) (CC _)) (C3 O (fun Bs=>Bh O) (C3 O (fun Bs=>A0 RH O O Au (IE hx1) (EX _)) (C3 O (fun Bs=>Bk et O (EX _)) (M4 O (fun Bs=>Az m5 O) fun b6=>M4 O (fun Bs=>Az m5 O) fun b7=>KL (Ry [.box b6 ((HY x).map .p),.box b7 [.p (.str ⟨#[]⟩),.p (.bool false),.p (I 0),.p (I 0),.p (I 0),.p (.str ⟨#[]⟩),.p (.nils),.p (.nils),.p (I 0),.p (.nils)]] O (DX (i:=0) et O O O (by simp[EX]) (by first | rfl | simp[EX]) (Xl _)) ?_)))))));refine Ry [.box b6 ((HY x).map .p),.box b7 ((HY x1).map .p)] O (DX (i:=1) et O O O (by simp[EX]) (by first | rfl | simp[EX]) (Xl _)) (Oi (Cu (Fo [0] 7 [2,3,5] 73 LP O O ?_ ?_)))
   ·refine A2 [1] O (Ax (i:=0) N7 O O (HQ _)) (A2 [1] O (Ax (i:=1) N7 O O (HQ _)) (A2 [0] O (Js O O) ?_));refine Bc [1] 59 rfl rfl ?_ ?_<;>intro g
    ·exact CT [14] O (hr:=⟨_,O⟩)
    refine A2 [1] O (Ax (i:=0) u7 O O (HF _)) (A2 [1] O (Ax (i:=1) u7 O O (HF _)) (A2 [0] O (Tq wz O O) ?_));refine Bc [2] 66 rfl rfl ?_ ?_<;>intro g1
    ·exact CT [7] O (hr:=⟨_,O⟩)
    refine A2 [1] O (Bq (i:=0) LM O O (Gf _) (Ds _)) (A2 [1] O (Bq (i:=1) LM O O (Gf _) (Ds _)) (DS [0] O (I6 O O O O (B7 O O (ih x.tree x1.tree (by have:=SY hx;omega) (J8 h2.bs hx).tr) (.inl O)) ?_)));rintro _ ⟨q1,rfl,hq⟩;refine BW (Ks [2] O ?_);exact⟨O,O,AQ,⟨_,O⟩,⟨O,O,O,Aw⟩⟩
   rintro _ ⟨q1,rfl⟩;refine BC [0] rfl ?_ ?_<;>intro c2
   ·refine A9 [1] O (Bg [] [] O O ⟨⟨_,O,fun h=>absurd h As⟩,O⟩)
   exact FR [3] 2 (i+1) O Au
  refine DF [0] O (A9 [1] O (Bg [] [] O O ⟨⟨_,O,fun _=>⟨hqb,hqa⟩⟩,O⟩))
theorem dI:∀(n:Nat) (s:Ui) (t:FY) (vs dp:Int),(MS t≤n)→(JL t)→(MC s.env)→(s.own.length<9000000)→(Q0 s.d)→(0≤dp∧dp≤200)→(0≤vs∧vs+(201 - dp)*1000000≤549755813888)→Hd Tryz.prog 171 [.agg ((JF s).map .p),.agg ((EC t).map .p),.p (I vs),.p (I dp)] (fun v=>∃ee:Int,v= .p (I ee)∧(ee=0→FD t∧U0 s.env vs t)):=by
 intro n
 induction n with
 | zero=>intro s t vs dp h;have:=QU t;omega
 | succ n ih =>
  intro s t vs dp h1 h2 h3 h4 h5 h6 h7;have htl:=h2.bl;refine DI Tryz.func171 (CG [0] O O fun b4=>CG [0] O O fun b5=>?_);refine BC [3] rfl ?_ ?_<;>intro c
  ·refine A9 [1] O (Bg [] [] O O ⟨⟨_,O,fun h=>absurd h As⟩,O⟩)
  refine A2 [1] O (Ax (i:=0) Dz O O (HW _)) ?_;refine BC [2] rfl ?_ ?_<;>intro c1
  ·refine CI [0] 6 [2,4,5] 28 (((t.var:Int) !=(0:Int))||(decide (((t.branches.length:Nat):Int) > (0:Int)))) O O ?_ ?_
   ·refine A2 [1] O (Ax (i:=0) Dz O O (DD _)) ?_;refine Bc [2] 23 rfl rfl ?_ ?_<;>intro g
    ·exact CT [5] O
    exact A2 [1] O (Ax (i:=0) IB O O (CC _)) (CA [0] O O (Gt _) (CT [2] O))
   refine BC [0] rfl ?_ ?_<;>intro c2
   ·refine A9 [1] O (Bg [] [] O O ⟨⟨_,O,fun h=>absurd h As⟩,O⟩)
   have hb0:t.branches.length=0:=by omega
   refine A2 [2,1] O (Bq (i:=0) CN O O (Ff _) (A7 _)) (A2 [3] O (Ax (i:=1) Dz O O (Qc _)) (DS [0] O (EF O O (B7 O O (H4 s t.body vs s.d.params h2.body h3.env h4 h5 Au) (.inl O)) ?_)));rintro _ ⟨e,rfl,he⟩;refine BW (A9 [1] O (Bg [] [] O O ⟨⟨_,O,fun h=>⟨Sj (he h).1 (uQ hb0),.leaf Au (he h).2⟩⟩,O⟩))
  refine BC [2] rfl ?_ ?_<;>intro c2
  ·refine A2 [1] O (Bq (i:=0) CN O O (Ff _) (A7 _)) (CQ [0] O (LX t.body h2.body.nd) ?_);refine BC [1] rfl ?_ ?_<;>intro c3
   ·refine A9 [1] O (Bg [] [] O O ⟨⟨_,O,fun h=>absurd h As⟩,O⟩)
   have hz0:ML t.body BN=true:=by simpa using c3
   refine CI [0] 12 [2,3,4,5] 51 ((decide ((t.var:Int)<(0:Int)))||(decide ((t.var:Int)≥(vs:Int)))) O O ?_ ?_
   ·refine A2 [1] O (Ax (i:=0) Dz O O (DD _)) ?_;refine Bc [2] 46 rfl rfl ?_ ?_<;>intro g
    ·exact CT [5] O
    exact A2 [1] O (Ax (i:=0) Dz O O (DD _)) (CT [3] O)
   refine BC [0] rfl ?_ ?_<;>intro c4
   ·refine A9 [1] O (Bg [] [] O O ⟨⟨_,O,fun h=>absurd h As⟩,O⟩)
   refine A2 [1] O (Ax (i:=0) IB O O (CC _)) (CA [0] O O (Gt _) ?_);refine BC [1] rfl ?_ ?_<;>intro c5
   ·refine A9 [1] O (Bg [] [] O O ⟨⟨_,O,fun h=>absurd h As⟩,O⟩)
   refine GG (α:=Nat) [1] [2,3,4,5] [0,1] (fun i=>[(9,.p (I (i:Int)))]) (fun _=>[]) (fun i=>t.branches.length - i) (fun i=>i≤t.branches.length∧(∀j,j<i→∀x,t.branches[j]?=some x→FD x.tree∧s8 s.env vs x)) 0 O O O (⟨by omega,fun j h=>by omega⟩) ?_;rintro i hC
   try simp only at hC
   obtain⟨hi,hC⟩:=hC;refine A2 [2] O (Ax (i:=0) IB O O (CC _)) (CA [0] O O (Gt _) ?_);refine BC [1] rfl ?_ ?_<;>intro c6
   ·refine A2 [1] O (Ax (i:=0) IB O O (CC _)) (D7 [1] t.branches i O O O (tX _) (fun x hx=>?_));refine Bp [1] O (Az m5 O) fun b10=>A2 [2,0,1] O (Ax (i:=2) oD O O (Kp _)) (A2 [1] O (Ax (i:=0) N7 O O (HQ _)) (CQ [0] O (Ms s.env x.ctor h3.env) (Bp [3] O (Az GL O) fun b11=>Fo [2,0,1] 21 [2,3,4,5,9,10,11] 82 (fun y=>∃q:Bool,y= .p (.bool q)∧(q=false→(BY s.env x.ctor).2=0∧(BY s.env x.ctor).1.kind=4)) O O ?_ ?_)))
    ·refine Bc [3] 78 rfl rfl ?_ ?_<;>intro g
     ·exact CT [4] O (hr:=(by refine⟨_,rfl,fun h=>?_⟩;first | (exact absurd h As) | exact⟨by simpa using g,by simpa using h⟩))
     refine A2 [1] O (Ax (i:=0) Dz O O (FZ _)) ?_;exact CT [2] O (hr:=(by refine⟨_,rfl,fun h=>?_⟩;first | (exact absurd h As) | exact⟨by simpa using g,by simpa using h⟩))
    rintro _ ⟨q,rfl,hq⟩;refine BC [0] rfl ?_ ?_<;>intro c7
    ·refine A9 [1] O (Bg [] [] O O ⟨⟨_,O,fun h=>absurd h As⟩,O⟩)
    obtain⟨hqc,hqd⟩:=hq (by simpa using c7);obtain⟨dd,k1,k2,k3,k4⟩:=bE hqc hqd;refine A2 [1] O (Ax (i:=1) u7 O O (HF _)) ?_;refine BC [0] rfl ?_ ?_<;>intro c8
    ·have hab:x.absurd=true:=by simpa using c8
     refine A2 [1] O (Bq (i:=1) LM O O (Gf _) (Ds _)) (DS [1] O (EF O O (B7 O O (BL.args (XL (MS x.tree) x.tree (FY.mk 0 (.mk 0 0 ⟨#[]⟩ [] []:Tm) 0 []) (Nat.le_refl _) (J8 h2.bs hx).tr) (aw (we O) (aw (FW O) (HT)))) (.inl O)) ?_));rintro _ ⟨q1,rfl,hq⟩;refine BW (BC [1] rfl ?_ ?_)<;>intro c9
     ·refine A9 [1] O (Bg [] [] O O ⟨⟨_,O,fun h=>absurd h As⟩,O⟩)
     have hok:FD x.tree∧s8 s.env vs x:=⟨bN (hq (by simpa using c9)).1 (hq (by simpa using c9)).2,fun h=>by rw[hab] at h;cases h⟩;exact FR [3] 2 (i+1) O (⟨by omega,Cg (p:=fun _ (y:G3)=>FD y.tree∧s8 s.env vs y) hC hx hok⟩)
    have hab:x.absurd=false:=by simpa using c8
    refine E2 [0] [16] O (Bb [2,3] O (CF (j:=1) O O O (fun H i hi=>Bq (i:=i) LM O hi (Gf _) (Ds _)) AB Aw (Bb [2] O (CF (j:=3) O O O (fun H i hi=>Ax (i:=i) oD O hi (Kp _)) AB Aw (Bb [1] O (CF (j:=0) O O O (fun H i hi=>Ax (i:=i) Dz O hi (EJ _)) AB Aw ?_))))));obtain⟨x1,hx1⟩:=A1 (l:=s.env) (i:=(((BY s.env x.ctor).1).decl:Int).toNat) (by have:=(List.getElem?_eq_some_iff.1 k2).1;omega);refine A3 O (fun _=>A0 Qb O O Au (G4 hx1) (DJ _)) Aw (Bb [2] O (CF (j:=0) O O O (fun H i hi=>Ax (i:=i) Dz O hi (GS _)) AB Aw ?_));have hfr:=Ld (h3.all _ (List.mem_of_getElem? hx1)).din k3 (by have e:=Option.some.inj (k2.symm.trans hx1);subst e;exact k4) (h3.all _ (List.mem_of_getElem? hx1)).fx.1;refine A3 O (fun _=>BF O O (WC x1 (((BY s.env x.ctor).1).item) (h3.all _ (List.mem_of_getElem? hx1)).din (h3.all _ (List.mem_of_getElem? hx1)).fx k3 (by have e:=Option.some.inj (k2.symm.trans hx1);subst e;exact k4)) O) Aw (Bb [3] O (L9 [] O O (B7 O O (ih s x.tree ((vs:Int)+(Ed x1 (((BY s.env x.ctor).1).item):Int)) ((dp:Int)+(1:Int)) (by have:=SY hx;omega) (J8 h2.bs hx).tr h3 h4 h5 Au Au) (.inl O)) Ap (⟨_,1,O,fun h=>absurd h As⟩) AB ?_));rintro _ ⟨e,rfl,he⟩;refine⟨Aw,?_⟩;refine Dj [1] rfl (BC [2] rfl ?_ ?_)<;>intro c9
    ·refine A9 [2] O (Bg [] [] O O ⟨⟨_,O,fun h=>absurd h Aq⟩,O⟩)
    have hok:FD x.tree∧s8 s.env vs x:=uX hqc hqd hx1 (@he Au);exact FR [3] 2 (i+1) O (⟨by omega,Cg (p:=fun _ (y:G3)=>FD y.tree∧s8 s.env vs y) hC hx hok⟩)
   refine DF [0] O (A9 [1] O (Bg [] [] O O ⟨⟨_,O,fun _=>⟨Sj (by rw[GY.1 hz0];exact J1) (fun x hx=>(IY Au hC x hx).1),rB Au (IY Au hC)⟩⟩,O⟩))
  refine A9 [1] O (Bg [] [] O O ⟨⟨_,O,fun h=>absurd h As⟩,O⟩)
theorem ft : ∀ (ds : List B8) (d : B8), (MC ds) → (Q0 d) → (W8 d) → Hd Tryz.prog 143 [.p (.lst (List.map B1 ds)), .agg ((B1 d).map .p)] (fun v => ∃ ee : Int, v = .p (I ee) ∧ (ee = 0 → QK ds d)) := by
 intro ds d h1 h2 h3
 have hn := Og d
 have hcl := h2.cl
 have hfl := h2.fl
 have hrl := h2.rl
 refine DI Tryz.func143 ?_
 refine CG [0] O O fun b3 => ?_
 refine A2 [3, 0] O (mq wX rn (vq O O O)) ?_
 refine Bp [0] O (Az rn O) fun b5 => ?_
 refine A2 [2, 0, 1] O (Ax (i := 1) Dz O O (EU _)) ?_
 refine Fo [1] 999999 [3, 5] 17 (fun _ => True) O O ?_ ?_
 ·refine BC [0] rfl ?_ ?_ <;> intro c
  ·refine A2 [2, 0] O (Bq (i := 1) CN O O (Fk _) (A7 _)) ?_
   refine A2 [1] O (Ax (i := 1) Dz O O (Cv _)) ?_
   refine DS [0] O ?_
   refine EF O O (B7 O O (H4 (Ui.mk ds [] d) d.type 0 d.params h2.ty h1.env Av h2 Au) (.inl O)) ?_
   rintro _ ⟨e, rfl, he⟩
   refine BW (BC [3] rfl ?_ ?_) <;> intro c1
   ·refine A9 [2] O (Bg [] [] O O ⟨⟨_, O, fun h => absurd h Aq⟩, O⟩)
   exact CT [0] O (hr := Aw)
  exact CT [0] O (hr := Aw)
 intro _ _
 refine A2 [1] O (Ax (i := 1) Dz O O (EU _)) ?_
 refine CI [2] 999999 [3, 5, 33] 34 (decide (d.kind = 1 ∨ d.kind = 2)) O O ?_ ?_
 ·refine BC [0] rfl ?_ ?_ <;> intro c
  ·exact CT [0] O (hr := (by refine pB (Bool.eq_iff_iff.2 ?_); simp only [beq_iff_eq, decide_eq_true_eq]; omega))
  exact CT [2] O (hr := (by refine pB (Bool.eq_iff_iff.2 ?_); simp only [beq_iff_eq, decide_eq_true_eq]; omega))
 refine BC [0] rfl ?_ ?_ <;> intro c
 ·have hk12 : d.kind = 1 ∨ d.kind = 2 := by simpa using c
  refine A2 [2, 0] O (Bq (i := 1) CN O O (Fu _) (A7 _)) ?_
  refine A2 [1] O (Ax (i := 1) Dz O O (Cv _)) ?_
  refine DS [0] O ?_
  refine EF O O (B7 O O (H4 (Ui.mk ds [] d) d.value 0 d.params h2.vl h1.env Av h2 Au) (.inl O)) ?_
  rintro _ ⟨e, rfl, he⟩
  refine BW (A9 [1] O (Bg [] [] O O ⟨⟨_, O, fun h => ⟨fun _ => he h, fun _ => by omega, fun _ => by omega⟩⟩, rfl⟩))
 have hk12 : ¬ (d.kind = 1 ∨ d.kind = 2) := by simpa using c
 refine BC [2] rfl ?_ ?_ <;> intro c1
 ·have hn1 := gL (d := d) (by simpa using c1)
  have hk3 := c1
  refine A2 [1] O (Ax (i := 1) N7 O O (DZ _)) ?_
  refine A2 [0] O (BJ Je qQ O O O O O) ?_
  refine A2 [1] O (EI (i := 0) (ds := (JF (Ui.mk ds [d.name] d)).map .p) Zn O O O O O O O) ?_
  refine GG (α := Nat) [1] [3, 5] [0, 1] (fun i => [(7, .p (I (i : Int)))]) (fun _ => []) (fun i => d.ctors.length - i) (fun i => i ≤ d.ctors.length) 0 O O O AY ?_
  rintro i hC
  try simp only at hC
  have hi := hC
  refine A2 [2] O (Ax (i := 1) GC O O (B5 _)) ?_
  refine CA [0] O O (List.length_map _) ?_
  refine BC [1] rfl ?_ ?_ <;> intro c2
  ·refine E2 [0] [9] O ?_
   refine Bb [2, 0] O ?_
   refine CF (j := 1) O O O (fun H i hi => Ax (i := i) GC O hi (B5 _)) AB Aw ?_
   refine A3 O (fun _ => Bh O) Aw ?_
   obtain ⟨x, hx⟩ := A1 (l := d.ctors) (i := i) Au
   refine A3 O (fun _ => A0 Km O O Au (Gr hx) (Ei _)) Aw ?_
   refine A3 O (fun _ => DN UG O O) Aw ?_
   refine A3 O (fun _ => Dh CN O (GW _) (A7 _)) Aw ?_
   refine A3 O (fun _ => BG Kc O O) Aw ?_
   refine CF (j := 1) O O O (fun H i hi => Ax (i := i) Dz O hi (Cv _)) AB Aw ?_
   refine L9 [] O O (B7 O O (H4 (Ui.mk ds [d.name] d) x.type 0 d.params (h2.cs _ (List.mem_of_getElem? hx)).ty h1.env Av h2 Au) (.inl O)) Ap (⟨_, 1, O, fun h => absurd h As⟩) AB ?_
   rintro _ ⟨e, rfl, he⟩
   refine ⟨Aw, ?_⟩
   refine Dj [1] rfl (BC [2] rfl ?_ ?_) <;> intro c3
   ·refine A9 [2] O (Bg [] [] O O ⟨⟨_, O, fun h => absurd h Aq⟩, O⟩)
   exact FR [3] 0 (i + 1) O Au
  refine DF [0] O ?_
  refine CQ [1, 1] O (Np d h2.cl h2.fl h2.nm) ?_
  refine CA [3] O O (List.length_map _) ?_
  refine A2 [1] O (Cn (lo := 0) (hi := ((((DU d).length : Nat) : Int) - (1 : Int) : Int).toNat) Je O (CW (LN _)) O ⟨_, pI Au⟩ (Nat.zero_le _) AZ (bL (f := Ib) (DU d) (((((DU d).length : Nat) : Int) - (1 : Int) : Int).toNat))) ?_
  refine A2 [1] O (EI (i := 0) (ds := (JF (Ui.mk ds ((DU d).take (((((DU d).length : Nat) : Int) - (1 : Int) : Int).toNat)) d)).map .p) Zn O O O O O O O) ?_
  refine A2 [3, 0] O (Bq (i := 1) CN O O (Fa _) (A7 _)) ?_
  refine A2 [2] O (Ax (i := 1) Dz O O (Du _)) ?_
  refine DS [0] O ?_
  refine EF O O (B7 O O (H4 (Ui.mk ds ((DU d).take (((((DU d).length : Nat) : Int) - (1 : Int) : Int).toNat)) d) d.recs.type 0 d.recs.params h2.rt h1.env Ao h2 Au) (.inl O)) ?_
  rintro _ ⟨e, rfl, he⟩
  refine BW (BC [3] rfl ?_ ?_) <;> intro c3
  ·refine A9 [2] O (Bg [] [] O O ⟨⟨_, O, fun h => absurd h Aq⟩, O⟩)
  refine A2 [2] O (EI (i := 0) (ds := (JF (Ui.mk ds (DU d) d)).map .p) Zn O O O O O O O) ?_
  refine GG (α := Nat) [1] [3, 5] [0, 1] (fun i => [(11, .p (I (i : Int)))]) (fun _ => []) (fun i => d.recs.rules.length - i) (fun i => i ≤ d.recs.rules.length ∧ (∀ j, j < i → ∀ x, d.recs.rules[j]? = some x → okB x = true ∧ uj 0 x)) 0 O O O (⟨by omega, fun j h => by omega⟩) ?_
  rintro i hC1
  try simp only at hC1
  obtain ⟨hi, hR⟩ := hC1
  refine A2 [3] O (Ax (i := 1) JW O O (Cp _)) ?_
  refine CA [0] O O (A8 _) ?_
  refine BC [1] rfl ?_ ?_ <;> intro c4
  ·refine E2 [0] [10] O ?_
   refine Bb [3, 0] O ?_
   refine CF (j := 1) O O O (fun H i hi => Ax (i := i) JW O hi (Cp _)) AB Aw ?_
   refine A3 O (fun _ => Bh O) Aw ?_
   obtain ⟨x, hx⟩ := A1 (l := d.recs.rules) (i := i) Au
   refine A3 O (fun _ => A0 BS O O Au (BO hx) (A7 _)) Aw ?_
   refine Bb [3] O ?_
   refine CF (j := 1) O O O (fun H i hi => Ax (i := i) Dz O hi (Du _)) AB Aw ?_
   refine L9 [] O O (B7 O O (H4 (Ui.mk ds (DU d) d) x 0 d.recs.params (h2.rs _ (List.mem_of_getElem? hx)) h1.env (by simp only; omega) h2 Au) (.inl O)) Ap (⟨_, 1, O, fun h => absurd h As⟩) AB ?_
   rintro _ ⟨e1, rfl, he1⟩
   refine ⟨Aw, ?_⟩
   refine Dj [1] rfl (BC [2] rfl ?_ ?_) <;> intro c5
   ·refine A9 [2] O (Bg [] [] O O ⟨⟨_, O, fun h => absurd h Aq⟩, O⟩)
   exact FR [3] 0 (i + 1) O (⟨by omega, Cg (p := fun _ (y : Tm) => okB y = true ∧ uj 0 y) hR hx (he1 Au)⟩)
  refine DF [0] O ?_
  refine A9 [1] O (Bg [] [] O O ⟨⟨_, O, fun _ => ⟨fun _ => by omega, fun _ => IY Au hR, fun _ => by omega⟩⟩, rfl⟩)
 have hk3 := c1
 refine BC [2] rfl ?_ ?_ <;> intro c2
 ·refine GG (α := Nat) [1] [3, 5] [0, 1] (fun i => [(13, .p (I (i : Int)))]) (fun _ => []) (fun i => d.funs.length - i) (fun i => i ≤ d.funs.length) 0 O O O AY ?_
  rintro i hC
  try simp only at hC
  have hi := hC
  refine A2 [2] O (Ax (i := 1) F6 O O (CD _)) ?_
  refine CA [0] O O (List.length_map _) ?_
  refine BC [1] rfl ?_ ?_ <;> intro c3
  ·refine E2 [0] [9] O ?_
   refine Bb [2, 0] O ?_
   refine CF (j := 1) O O O (fun H i hi => Ax (i := i) F6 O hi (CD _)) AB Aw ?_
   refine A3 O (fun _ => Bh O) Aw ?_
   obtain ⟨x, hx⟩ := A1 (l := d.funs) (i := i) Au
   refine A3 O (fun _ => A0 J2 O O Au (Fe hx) (Eh _)) Aw ?_
   refine A3 O (fun _ => DN O2 O O) Aw ?_
   refine A3 O (fun _ => Dh CN O (Ji _) (A7 _)) Aw ?_
   refine A3 O (fun _ => BG Kc O O) Aw ?_
   refine CF (j := 1) O O O (fun H i hi => Ax (i := i) Dz O hi (Cv _)) AB Aw ?_
   refine L9 [] O O (B7 O O (H4 (Ui.mk ds [] d) x.type 0 d.params (h2.fs _ (List.mem_of_getElem? hx)).ty h1.env Av h2 Au) (.inl O)) Ap (⟨_, 1, O, fun h => absurd h As⟩) AB ?_
   rintro _ ⟨e, rfl, he⟩
   refine ⟨Aw, ?_⟩
   refine Dj [1] rfl (BC [2] rfl ?_ ?_) <;> intro c4
   ·refine A9 [2] O (Bg [] [] O O ⟨⟨_, O, fun h => absurd h Aq⟩, O⟩)
   exact FR [3] 0 (i + 1) O Au
  refine DF [0] O ?_
  refine CQ [1, 1] O (Np d h2.cl h2.fl h2.nm) ?_
  refine A2 [1] O (EI (i := 0) (ds := (JF (Ui.mk ds (DU d) d)).map .p) Zn O O O O O O O) ?_
  refine GG (α := Nat) [1] [3, 5] [0, 1] (fun i => [(15, .p (I (i : Int)))]) (fun _ => []) (fun i => d.funs.length - i) (fun i => i ≤ d.funs.length ∧ (∀ j, j < i → ∀ x, d.funs[j]? = some x → FD x.tree ∧ U0 ds x.arity x.tree)) 0 O O O (⟨by omega, fun j h => by omega⟩) ?_
  rintro i hC1
  try simp only at hC1
  obtain ⟨hi, hT⟩ := hC1
  refine A2 [2] O (Ax (i := 1) F6 O O (CD _)) ?_
  refine CA [0] O O (List.length_map _) ?_
  refine BC [1] rfl ?_ ?_ <;> intro c4
  ·refine E2 [0] [13] O ?_
   refine Bb [2, 0] O ?_
   refine CF (j := 1) O O O (fun H i hi => Ax (i := i) F6 O hi (CD _)) AB Aw ?_
   refine A3 O (fun _ => Bh O) Aw ?_
   obtain ⟨x, hx⟩ := A1 (l := d.funs) (i := i) Au
   refine A3 O (fun _ => A0 J2 O O Au (Fe hx) (Eh _)) Aw ?_
   refine A3 O (fun _ => DN O2 O O) Aw ?_
   refine A3 O (fun _ => Dh LM O (HU _) (Ds _)) Aw ?_
   refine A3 O (fun _ => BG Kc O O) Aw ?_
   refine CF (j := 1) O O O (fun H i hi => Ax (i := i) F6 O hi (CD _)) AB Aw ?_
   refine A3 O (fun _ => Bh O) Aw ?_
   refine A3 O (fun _ => A0 J2 O O Au (Fe hx) (Eh _)) Aw ?_
   refine A3 O (fun _ => DN O2 O O) Aw ?_
   refine A3 O (fun _ => DQ Dz O (C9 _)) Aw ?_
   have hax := h3.2.1 _ (List.mem_of_getElem? hx)
   refine L9 [] O O (B7 O O (dI (MS x.tree) (Ui.mk ds (DU d) d) x.tree x.arity 0 (Nat.le_refl _) (h2.fs _ (List.mem_of_getElem? hx)).tr h1 (by simp only; omega) h2 Au Au) (.inl O)) Ap (⟨_, 1, O, fun h => absurd h As⟩) AB ?_
   rintro _ ⟨e, rfl, he⟩
   refine ⟨Aw, ?_⟩
   refine Dj [1] rfl (BC [2] rfl ?_ ?_) <;> intro c5
   ·refine A9 [2] O (Bg [] [] O O ⟨⟨_, O, fun h => absurd h Aq⟩, O⟩)
   exact FR [3] 0 (i + 1) O (⟨by omega, Cg (p := fun _ (y : I9) => FD y.tree ∧ U0 ds y.arity y.tree) hT hx (he Au)⟩)
  refine DF [0] O ?_
  refine A9 [1] O (Bg [] [] O O ⟨⟨_, O, fun _ => ⟨fun _ => by omega, fun _ => by omega, fun _ => IY Au hT⟩⟩, rfl⟩)
 refine A9 [1] O (Bg [] [] O O ⟨⟨_, O, fun _ => ⟨fun _ => by omega, fun _ => by omega, fun _ => by omega⟩⟩, rfl⟩)
theorem ma:∀(ds:List B8) (d:B8),(MC ds)→(Q0 d)→Hd Tryz.prog 104 [.p (.lst (List.map B1 ds)),.agg ((B1 d).map .p)] (fun v=>∃ee:Int,v= .p (I ee)∧(ee=0→DG d∧QK ds d)):=by
 intro ds d h1 h2;refine DI Tryz.func104 (CG [0] O O fun b3=>CI [1] 1 [0,3] 14 ((decide ((d.kind:Int)<(0:Int)))||(decide ((d.kind:Int) > (4:Int)))) O O ?_ ?_)
 ·refine A2 [1] O (Ax (i:=0) Dz O O (EU _)) ?_;refine Bc [2] 10 rfl rfl ?_ ?_<;>intro g
  ·exact CT [4] O
  exact A2 [1] O (Ax (i:=0) Dz O O (EU _)) (CT [2] O)
 refine BC [0] rfl ?_ ?_<;>intro c
 ·refine A9 [1] O (Bg [] [] O O ⟨⟨_,O,fun h=>absurd h As⟩,O⟩)
 have hk:0≤d.kind∧d.kind≤4:=by omega
 refine DS [1,0] O (EF O O (B7 O O (bg d h2 hk) (.inl O)) ?_);rintro _ ⟨q,rfl,hq⟩;refine BW (BC [1] rfl ?_ ?_)<;>intro c1
 ·refine A9 [1] O (Bg [] [] O O ⟨⟨_,O,fun h=>absurd h As⟩,O⟩)
 have hu:=hq (by simpa using c1);refine DS [1,0] O (EF O O (B7 O O (cz d h2) (.inl O)) ?_);rintro _ ⟨e,rfl,he⟩;refine BW (BC [3] rfl ?_ ?_)<;>intro c2
 ·refine A9 [2] O (Bg [] [] O O ⟨⟨_,O,fun h=>absurd h Aq⟩,O⟩)
 have hcn:=he Au;refine DS [2,0] O (EF O O (B7 O O (U9 ds d h1.env h2) (.inl O)) ?_);rintro _ ⟨e1,rfl⟩;refine BW (BC [3] rfl ?_ ?_)<;>intro c3
 ·refine A9 [2] O (Bg [] [] O O ⟨⟨_,O,fun h=>absurd h Aq⟩,O⟩)
 refine DS [2,0] O (EF O O (B7 O O (ft ds d h1 h2 hcn) (.inl O)) ?_);rintro _ ⟨e2,rfl,he1⟩;refine BW (A9 [1] O (Bg [] [] O O ⟨⟨_,O,fun h=>⟨wg h2 hk hu hcn (he1 h),he1 h⟩⟩,O⟩))
theorem cP : ∀ (ds : List B8), (IT ds) → Hd Tryz.prog 53 [.p (.lst (List.map B1 ds))] (fun v => ∃ a e : Int, v = .tup [.p (I a), .p (I e)] ∧ (e = 0 → MC ds ∧ qd ds)) := by
 intro ds h1
 have hl := h1.len
 refine DI Tryz.func53 ?_
 refine CA [3] O O (List.length_map _) ?_
 refine BC [1] rfl ?_ ?_ <;> intro c
 ·refine A9 [2] O (Bg [] [] O O ⟨⟨_, _, O, fun h => absurd h As⟩, O⟩)
 refine GG (α := Nat) [1] [0] [] (fun i => [(4, .p (I (i : Int)))]) (fun _ => []) (fun i => ds.length - i) (fun i => i ≤ ds.length ∧ (∀ j, j < i → ∀ x, ds[j]? = some x → DG x ∧ QK (ds.take j) x)) 0 O O O (⟨by omega, fun j h => by omega⟩) ?_
 rintro i hC
 try simp only at hC
 obtain ⟨hi, hC⟩ := hC
 refine CA [2] O O (List.length_map _) ?_
 refine BC [1] rfl ?_ ?_ <;> intro c1
 ·refine E2 [0] [7] O ?_
  refine Bb [2] O ?_
  refine A3 O (fun _ => Cn (lo := 0) (hi := i) Qb O (CW (gD _)) O ⟨_, O⟩ (Nat.zero_le _) AZ (bL (f := B1) ds i)) Aw ?_
  refine Bb [2] O ?_
  obtain ⟨x, hx⟩ := A1 (l := ds) (i := i) Au
  refine A3 O (fun _ => A0 Qb O O Au (G4 hx) (DJ _)) Aw ?_
  refine A3 O (fun _ => Bk TE O (DJ _)) Aw ?_
  refine L9 [] O O (B7 O O (ma (ds.take i) x (gR h1 fun j hj x hx => (hC j hj x hx).1) (h1.all _ (List.mem_of_getElem? hx))) (.inl O)) Ap (⟨_, 1, O, fun h => absurd h As⟩) AB ?_
  rintro _ ⟨e, rfl, he⟩
  refine ⟨Aw, ?_⟩
  refine Dj [1] rfl (BC [2] rfl ?_ ?_) <;> intro c2
  ·refine A9 [4] O (Bg [] [] O O ⟨⟨_, _, O, fun h => absurd h Aq⟩, O⟩)
  exact FR [3] 0 (i + 1) O (⟨by omega, Cg (p := fun j (y : B8) => DG y ∧ QK (ds.take j) y) hC hx (he Au)⟩)
 refine DF [0] O ?_
 refine A9 [2] O (Bg [] [] O O ⟨⟨_, _, O, fun _ => ⟨⟨h1, IY Au fun j hj x hx => (hC j hj x hx).1⟩, fun j x hx => (hC j (by have := (List.getElem?_eq_some_iff.1 hx).1; omega) x hx).2⟩⟩, O⟩)
theorem Ip:∀(t:Tm),(YC t)→En Tryz.prog 138 [.agg ((BD t).map .p)] (.p (.bool (decide (FG t≤400)&&decide (FU t≤150)))):=by
 intro t h1;refine DI Tryz.func138 (CG [0] O O fun b1=>CI [1] 1 [] 2 ((decide ((FG t:Int)≤(400:Int)))&&(decide ((FU t:Int)≤(150:Int)))) O O ?_ ?_)
 ·refine CQ [1,0] O (Nv _ t (Nat.le_refl _) h1.nd) ?_;refine Bc [2] 6 rfl rfl ?_ ?_<;>intro g
  ·exact CQ [1,0] O (Pj _ t (Nat.le_refl _) h1.nd) (CT [3] O)
  exact CT [5] O
 refine A9 [0] O (Bg [] [] O O ⟨O,O⟩)
theorem U2:∀(n:Nat) (t:FY) (dp:Int),(MS t≤n)→(JL t)→(-1000<dp∧dp<1000)→Hd Tryz.prog 139 [.agg ((EC t).map .p),.p (I dp)] (fun v=>∃bb:Bool,v= .p (.bool bb)∧(bb=true→(Dp t:Int)≤42 - dp)):=by
 intro n
 induction n with
 | zero=>intro t dp h;have:=QU t;omega
 | succ n ih =>
  intro t dp h1 h2 h3;have htl:=h2.bl;refine DI Tryz.func139 (CG [0] O O fun b2=>Fo [1] 1 [1,2] 19 (fun y=>∃q:Bool,y= .p (.bool q)∧(q=false→dp≤40)) O O ?_ ?_)
  ·refine Bc [3] 8 rfl rfl ?_ ?_<;>intro g
   ·exact CT [11] O (hr:=(by refine⟨_,rfl,fun h=>?_⟩;first | (exact absurd h As) | omega))
   refine A2 [1] O (Ax (i:=0) IB O O (CC _)) (CA [0] O O (Gt _) ?_);refine Bc [3] 14 rfl rfl ?_ ?_<;>intro g1
   ·exact CT [5] O (hr:=(by refine⟨_,rfl,fun h=>?_⟩;first | (exact absurd h As) | omega))
   exact A2 [1] O (Bq (i:=0) CN O O (Ff _) (A7 _)) (CQ [0] O (Ip t.body h2.body) (CT [2] O (hr:=(by refine⟨_,rfl,fun h=>?_⟩;first | (exact absurd h As) | omega))))
  rintro _ ⟨q,rfl,hq⟩;refine BC [0] rfl ?_ ?_<;>intro c
  ·refine A9 [1] O (Bg [] [] O O ⟨⟨_,O,fun h=>absurd h As⟩,O⟩)
  have hq1:=hq (by simpa using c);refine GG (α:=Nat) [1] [1,2] [0] (fun i=>[(5,.p (I (i:Int)))]) (fun _=>[]) (fun i=>t.branches.length - i) (fun i=>i≤t.branches.length∧(∀j,j<i→∀x,t.branches[j]?=some x→(Dp x.tree:Int)≤42 - (dp+1))) 0 O O O (⟨by omega,fun j h=>by omega⟩) ?_;rintro i hC
  try simp only at hC
  obtain⟨hi,hC⟩:=hC;refine A2 [2] O (Ax (i:=0) IB O O (CC _)) (CA [0] O O (Gt _) ?_);refine BC [1] rfl ?_ ?_<;>intro c1
  ·obtain⟨x,hx⟩:=A1 (l:=t.branches) (i:=i) Au;refine Fo [0] 6 [1,2,5] 46 (fun y=>∃q:Bool,y= .p (.bool q)∧(q=false→(Dp x.tree:Int)≤42 - (dp+1))) O O ?_ ?_
   ·refine A2 [1] O (Ax (i:=0) IB O O (CC _)) (A2 [1] O (A0 RH O O Au (IE hx) (EX _)) (A2 [1] O (Dh LM O (Gf _) (Ds _)) (DS [2] O (EF O O (B7 O O (ih x.tree ((dp:Int)+(1:Int)) (by have:=SY hx;omega) (J8 h2.bs hx).tr Au) (.inl O)) ?_))));rintro _ ⟨q1,rfl,hq⟩;refine BW (Bc [2] 37 rfl rfl ?_ ?_)<;>intro g
    ·exact CT [9] O (hr:=(by refine⟨_,rfl,fun h=>?_⟩;first | (exact absurd h As) | exact hq (by simpa using g)))
    exact A2 [1] O (Ax (i:=0) IB O O (CC _)) (A2 [1] O (A0 RH O O Au (IE hx) (EX _)) (A2 [1] O (DQ N7 O (HQ _)) (A2 [0] O (G8 rj O) (CT [2] O (hr:=(by refine⟨_,rfl,fun h=>?_⟩;first | (exact absurd h As) | exact hq (by simpa using g)))))))
   rintro _ ⟨q,rfl,hqx⟩;refine BC [0] rfl ?_ ?_<;>intro c2
   ·refine A9 [1] O (Bg [] [] O O ⟨⟨_,O,fun h=>absurd h As⟩,O⟩)
   have hok:=hqx (by simpa using c2);exact FR [3] 0 (i+1) O (⟨by omega,Cg (p:=fun _ (y:G3)=>(Dp y.tree:Int)≤42 - (dp+1)) hC hx hok⟩)
  refine DF [0] O (A9 [1] O (Bg [] [] O O ⟨⟨_,O,fun _=>pT hq1 (IY Au hC)⟩,O⟩))
theorem ZJ:∀(d:B8),(Q0 d)→Hd Tryz.prog 103 [.agg ((B1 d).map .p)] (fun v=>∃bb:Bool,v= .p (.bool bb)∧(bb=true→Vk d)):=by
 intro d h1;have hcl:=h1.cl;have hfl:=h1.fl;have hrl:=h1.rl;refine DI Tryz.func103 (CG [0] O O fun b1=>Fo [1] 1 [1] 47 (fun y=>∃q:Bool,y= .p (.bool q)∧(q=false→FG d.value≤400)) O O ?_ ?_)
 ·refine A2 [1] O (Ax (i:=0) N7 O O (DZ _)) (A2 [0] O (G8 rj O) ?_);refine Bc [2] 10 rfl rfl ?_ ?_<;>intro g
  ·exact CT [37] O (hr:=(by refine⟨_,rfl,fun h=>?_⟩;first | (exact absurd h As) | (simp_all;done) | (simp_all;omega)))
  refine A2 [1] O (Bq (i:=0) CN O O (Fk _) (A7 _)) (CQ [0] O (Ip d.type h1.ty) ?_);refine Bc [3] 16 rfl rfl ?_ ?_<;>intro g1
  ·exact CT [31] O (hr:=(by refine⟨_,rfl,fun h=>?_⟩;first | (exact absurd h As) | (simp_all;done) | (simp_all;omega)))
  refine A2 [1] O (Bq (i:=0) CN O O (Fu _) (A7 _)) (CQ [0] O (Ip d.value h1.vl) ?_);refine Bc [3] 22 rfl rfl ?_ ?_<;>intro g2
  ·exact CT [25] O (hr:=(by refine⟨_,rfl,fun h=>?_⟩;first | (exact absurd h As) | (simp_all;done) | (simp_all;omega)))
  refine A2 [1] O (Ax (i:=0) GC O O (B5 _)) (CA [0] O O (List.length_map _) ?_);refine Bc [3] 28 rfl rfl ?_ ?_<;>intro g3
  ·exact CT [19] O (hr:=(by refine⟨_,rfl,fun h=>?_⟩;first | (exact absurd h As) | (simp_all;done) | (simp_all;omega)))
  refine A2 [1] O (Ax (i:=0) F6 O O (CD _)) (CA [0] O O (List.length_map _) ?_);refine Bc [3] 34 rfl rfl ?_ ?_<;>intro g4
  ·exact CT [13] O (hr:=(by refine⟨_,rfl,fun h=>?_⟩;first | (exact absurd h As) | (simp_all;done) | (simp_all;omega)))
  refine A2 [2] O (Bq (i:=0) CN O O (Fa _) (A7 _)) (CQ [0] O (Ip d.recs.type h1.rt) ?_);refine Bc [3] 41 rfl rfl ?_ ?_<;>intro g5
  ·exact CT [6] O (hr:=(by refine⟨_,rfl,fun h=>?_⟩;first | (exact absurd h As) | (simp_all;done) | (simp_all;omega)))
  exact A2 [2] O (Ax (i:=0) JW O O (Cp _)) (CA [0] O O (A8 _) (CT [2] O (hr:=(by refine⟨_,rfl,fun h=>?_⟩;first | (exact absurd h As) | (simp_all;done) | (simp_all;omega)))))
 rintro _ ⟨q,rfl,hq⟩;refine BC [0] rfl ?_ ?_<;>intro c
 ·refine A9 [1] O (Bg [] [] O O ⟨⟨_,O,fun h=>absurd h As⟩,O⟩)
 have hq1:=hq (by simpa using c);refine GG (α:=Nat) [1] [1] [0] (fun i=>[(3,.p (I (i:Int)))]) (fun _=>[]) (fun i=>d.ctors.length - i) (fun i=>i≤d.ctors.length) 0 O O O AY ?_;rintro i hC
 try simp only at hC
 have hi:=hC;refine A2 [2] O (Ax (i:=0) GC O O (B5 _)) (CA [0] O O (List.length_map _) ?_);refine BC [1] rfl ?_ ?_<;>intro c1
 ·refine Fo [0] 6 [1,3] 72 LP O O ?_ ?_
  ·refine A2 [1] O (Ax (i:=0) GC O O (B5 _)) (D7 [1] d.ctors i O O O (H5 Ei) (fun x hx=>?_));refine A2 [1] O (DQ N7 O (GR _)) (A2 [0] O (G8 rj O) ?_);refine Bc [2] 63 rfl rfl ?_ ?_<;>intro g
   ·exact CT [9] O (hr:=⟨_,O⟩)
   exact A2 [1] O (Ax (i:=0) GC O O (B5 _)) (A2 [1] O (A0 Km O O Au (Gr hx) (Ei _)) (A2 [1] O (Dh CN O (GW _) (A7 _)) (CQ [0] O (Ip x.type (h1.cs _ (List.mem_of_getElem? hx)).ty) (CT [2] O (hr:=⟨_,O⟩)))))
  rintro _ ⟨q1,rfl⟩;refine BC [0] rfl ?_ ?_<;>intro c2
  ·refine A9 [1] O (Bg [] [] O O ⟨⟨_,O,fun h=>absurd h As⟩,O⟩)
  exact FR [3] 0 (i+1) O Au
 refine DF [0] O ?_;refine GG (α:=Nat) [1] [1] [0] (fun i=>[(4,.p (I (i:Int)))]) (fun _=>[]) (fun i=>d.recs.rules.length - i) (fun i=>i≤d.recs.rules.length∧(∀j,j<i→∀x,d.recs.rules[j]?=some x→FG x≤400)) 0 O O O (⟨by omega,fun j h=>by omega⟩) ?_;rintro i hC1
 try simp only at hC1
 obtain⟨hi,hR⟩:=hC1;refine A2 [3] O (Ax (i:=0) JW O O (Cp _)) (CA [0] O O (A8 _) ?_);refine BC [1] rfl ?_ ?_<;>intro c2
 ·refine A2 [2] O (Ax (i:=0) JW O O (Cp _)) (D7 [1] d.recs.rules i O O O (IH _) (fun x hx=>?_));refine CQ [1] O (Ip x (h1.rs _ (List.mem_of_getElem? hx))) ?_;refine BC [1] rfl ?_ ?_<;>intro c3
  ·refine A9 [1] O (Bg [] [] O O ⟨⟨_,O,fun h=>absurd h As⟩,O⟩)
  have hqr:FG x≤400:=by simp_all
  exact FR [3] 0 (i+1) O (⟨by omega,Cg (p:=fun _ (y:Tm)=>FG y≤400) hR hx hqr⟩)
 refine DF [0] O ?_;refine GG (α:=Nat) [1] [1] [0] (fun i=>[(5,.p (I (i:Int)))]) (fun _=>[]) (fun i=>d.funs.length - i) (fun i=>i≤d.funs.length∧(∀j,j<i→∀x,d.funs[j]?=some x→(Dp x.tree:Int)≤42 - 0)) 0 O O O (⟨by omega,fun j h=>by omega⟩) ?_;rintro i hC2
 try simp only at hC2
 obtain⟨hi,hT⟩:=hC2;refine A2 [2] O (Ax (i:=0) F6 O O (CD _)) (CA [0] O O (List.length_map _) ?_);refine BC [1] rfl ?_ ?_<;>intro c3
 ·obtain⟨x,hx⟩:=A1 (l:=d.funs) (i:=i) Au;refine Fo [0] 16 [1,5] 123 (fun y=>∃q:Bool,y= .p (.bool q)∧(q=false→(Dp x.tree:Int)≤42 - 0)) O O ?_ ?_
  ·refine A2 [1] O (Ax (i:=0) F6 O O (CD _)) (A2 [1] O (A0 J2 O O Au (Fe hx) (Eh _)) (A2 [1] O (DQ N7 O (Jk _)) (A2 [0] O (G8 rj O) ?_)));refine Bc [2] 104 rfl rfl ?_ ?_<;>intro g
   ·exact CT [19] O (hr:=(by refine⟨_,rfl,fun h=>?_⟩;first | (exact absurd h As) | exact hq (by simpa using h)))
   refine A2 [1] O (Ax (i:=0) F6 O O (CD _)) (A2 [1] O (A0 J2 O O Au (Fe hx) (Eh _)) (A2 [1] O (Dh CN O (Ji _) (A7 _)) (CQ [0] O (Ip x.type (h1.fs _ (List.mem_of_getElem? hx)).ty) ?_)));refine Bc [3] 114 rfl rfl ?_ ?_<;>intro g1
   ·exact CT [9] O (hr:=(by refine⟨_,rfl,fun h=>?_⟩;first | (exact absurd h As) | exact hq (by simpa using h)))
   refine A2 [1] O (Ax (i:=0) F6 O O (CD _)) (A2 [1] O (A0 J2 O O Au (Fe hx) (Eh _)) (A2 [1] O (Dh LM O (HU _) (Ds _)) (DS [0] O (I6 O O O O (B7 O O (U2 (MS x.tree) x.tree 0 (Nat.le_refl _) (h1.fs _ (List.mem_of_getElem? hx)).tr Au) (.inl O)) ?_))));rintro _ ⟨q1,rfl,hq⟩;refine BW (Ks [2] O ?_);exact⟨O,O,AQ,(by refine⟨_,rfl,fun h=>?_⟩;first | (exact absurd h As) | exact hq (by simpa using h)),⟨O,O,Aw⟩⟩
  rintro _ ⟨q,rfl,hqx⟩;refine BC [0] rfl ?_ ?_<;>intro c4
  ·refine A9 [1] O (Bg [] [] O O ⟨⟨_,O,fun h=>absurd h As⟩,O⟩)
  have hok:=hqx (by simpa using c4);exact FR [3] 0 (i+1) O (⟨by omega,Cg (p:=fun _ (y:I9)=>(Dp y.tree:Int)≤42 - 0) hT hx hok⟩)
 refine DF [0] O (A9 [1] O (Bg [] [] O O ⟨⟨_,O,fun _=>nB h1 hq1 (IY Au hR) (IY Au hT)⟩,O⟩))
theorem px:∀(ds:List B8),(IT ds)→Hd Tryz.prog 52 [.p (.lst (List.map B1 ds))] (fun v=>∃bb:Bool,v= .p (.bool bb)∧(bb=true→(∀d∈ds,Vk d)∧ds.length≤70)):=by
 intro ds h1;have hl:=h1.len;refine DI Tryz.func52 ?_;refine GG (α:=Nat) [2] [0] [] (fun i=>[(3,.p (I (i:Int)))]) (fun _=>[]) (fun i=>ds.length - i) (fun i=>i≤ds.length∧(∀j,j<i→∀x,ds[j]?=some x→Vk x)) 0 O O O (⟨by omega,fun j h=>by omega⟩) ?_;rintro i hC
 try simp only at hC
 obtain⟨hi,hC⟩:=hC;refine Fo [0] 2 [0,3] 11 (fun y=>∃q:Bool,y= .p (.bool q)∧(q=true→i<ds.length)∧(q=false→ds.length≤i∨80≤i)) O O ?_ ?_
 ·refine CA [2] O O (List.length_map _) ?_;refine Bc [2] 8 rfl rfl ?_ ?_<;>intro g
  ·exact CT [3] rfl (hr:=(by refine⟨_,rfl,fun h=>?_,fun h=>?_⟩<;>first | (exact absurd h As) | omega | (simp only[decide_eq_true_eq,decide_eq_false_iff_not] at h;omega)))
  exact CT [3] rfl (hr:=(by refine⟨_,rfl,fun h=>?_,fun h=>?_⟩<;>first | (exact absurd h As) | omega | (simp only[decide_eq_true_eq,decide_eq_false_iff_not] at h;omega)))
 rintro _ ⟨q,rfl,hq,hqn⟩;refine BC [0] rfl ?_ ?_<;>intro c
 ·have hq1:=hq (by simpa using c);refine D7 [2] ds i O O O (H5 DJ) (fun x hx=>?_);refine DS [1] O (EF O O (B7 O O (ZJ x (h1.all _ (List.mem_of_getElem? hx))) (.inl O)) ?_);rintro _ ⟨q1,rfl,hq⟩;refine BW (BC [1] rfl ?_ ?_)<;>intro c1
  ·refine A9 [1] O (Bg [] [] O O ⟨⟨_,O,fun h=>absurd h As⟩,O⟩)
  have hok:=hq (by simpa using c1);exact FR [3] 0 (i+1) O (⟨by omega,Cg (p:=fun _ (y:B8)=>Vk y) hC hx hok⟩)
 have hqe:=hqn (by simpa using c);refine DF [0] O (CA [1] O O (List.length_map _) ?_);refine A9 [2] O (Bg [] [] O O ⟨⟨_,O,fun h=>⟨IY (by simp only[decide_eq_true_eq] at h;omega) hC,by simp only[decide_eq_true_eq] at h;omega⟩⟩,rfl⟩)
theorem mh:∀(ds:List B8),(IT ds)→Hd Tryz.prog 29 [.p (.lst (List.map B1 ds))] (fun v=>∃bb:Bool,v= .p (.bool bb)∧(bb=true→(G2 ds∧qd ds)∧ds.length≤70)):=by
 intro ds h1;refine DI Tryz.func29 (DS [2] O (EF O O (B7 O O (px ds h1) (.inl O)) ?_));rintro _ ⟨q,rfl,hq⟩;refine BW (BC [1] rfl ?_ ?_)<;>intro c
 ·refine A9 [1] O (Bg [] [] O O ⟨⟨_,O,fun h=>absurd h As⟩,O⟩)
 have hf:=hq (by simpa using c);refine DS [1] O (EF O O (B7 O O (cP ds h1) (.inl O)) ?_);rintro _ ⟨a,e,rfl,he⟩;refine BW (A9 [8] O (Bg [] [] O O ⟨⟨_,O,fun h=>⟨⟨pY (he (by simpa using h)).1 hf.1,(he (by simpa using h)).2⟩,hf.2⟩⟩,O⟩))
theorem jf:∀(l:List Tm),(nc l)→(l.length<wide)→Hd Tryz.prog 28 [.p (.lst (A6 l))] (fun v=>∃bb:Bool,v= .p (.bool bb)∧(bb=true→dC l∧∀t∈l,okB t=true)):=by
 intro l h1 h2;have h2b:=h2;simp only[wide] at h2b;refine DI Tryz.func28 (DS [2] O (EF O O (B7 O O (uq _ l (Nat.le_refl _) h1 h2) (.inl O)) ?_));rintro _ ⟨b,rfl,hb⟩;refine BW (BC [1] rfl ?_ ?_)<;>intro c
 ·refine A9 [1] O (⟨O,_,[],Dx O,List.nil_sublist _,⟨⟨_,O,?_⟩,O⟩⟩);exact fun h=>absurd h As
 have hf:=hb (by simpa using c);refine CA [1] O O (A8 _) ?_;refine GG (α:=Nat) [1] [8,9] [] (fun i=>[(10,.p (I (i:Int)))]) (fun _=>[]) (fun i=>l.length - i) (fun i=>i≤l.length∧(∀j,j<i→∀x,l[j]?=some x→okB x=true)) 0 O O O (⟨by omega,fun j h=>by omega⟩) ?_;rintro i hC
 try simp only at hC
 obtain⟨hi,hC⟩:=hC;refine BC [1] rfl ?_ ?_<;>intro c1
 ·refine D7 [0] l i O O O (IH _) (fun x hx=>?_);refine Bp [1] O (Az Ba O) fun b4=>DS [2,0,1,0] O (EF O O (B7 O O (QP x 65536 8 65536 65536 (DV hf.nd hx) (by have:=CU hx;have:=hf.sz;omega)) (.inl O)) ?_);rintro _ ⟨e,rfl,he⟩;refine BW (BC [1] rfl ?_ ?_)<;>intro c2
  ·refine A9 [1] O (⟨O,_,[],Dx O,List.nil_sublist _,⟨⟨_,O,?_⟩,O⟩⟩);exact fun h=>absurd h As
  exact FR [2] 1 (i+1) O (⟨by omega,Cg hC hx (nI (DV hf.nd hx) (by have:=CU hx;have:=hf.sz;omega) Au (he Au))⟩)
 refine DF [0] O (A9 [1] O (⟨O,_,[],Dx O,List.nil_sublist _,⟨⟨_,O,?_⟩,O⟩⟩));exact fun _=>⟨hf,IY Au hC⟩
theorem qX : ∀ (t : Tm), (okB t = true) → (size t < 1000000) → Hd Tryz.prog 31 [.agg ((BD t).map .p)] (LP) := by
 intro t h1 h2
 refine DI Tryz.func31 ?_
 refine CG [0] O O fun b1 => ?_
 refine DS [2, 0] O ?_
 refine EF O O (B7 O O (QP t 60000 8 65536 65536 (Bu.1 h1).nd h2) (.inl O)) ?_
 rintro _ ⟨e, rfl, he⟩
 refine BW (A9 [2] O (Bg [] [] O O ⟨⟨_, O⟩, O⟩))
theorem sZ : ∀ (l : List Tm), (l.length < 1000000) → (∀ x ∈ l, okB x = true ∧ size x < 1000000) → Hd Tryz.prog 54 [.p (.lst (A6 l)), .p (.fn 31)] (ec) := by
 intro l h1 h2
 refine DI Tryz.func54 ?_
 refine CA [2] O O (A8 _) ?_
 refine GG (α := Nat) [1] [0, 1, 7] [] (fun i => [(8, .p (I (i : Int)))]) (fun _ => []) (fun i => l.length - i) (fun i => i ≤ l.length) 0 O O O AY ?_
 rintro i hC
 try simp only at hC
 have hi := hC
 refine BC [1] rfl ?_ ?_ <;> intro c
 ·refine D7 [5] l i O O O (IH _) (fun x hx => ?_)
  refine DS [1] O ?_
  refine EF O O (B7 O O (qX x (h2 _ (List.mem_of_getElem? hx)).1 (h2 _ (List.mem_of_getElem? hx)).2) (.inl O)) ?_
  rintro _ ⟨q, rfl⟩
  refine BW (BC [0] rfl ?_ ?_) <;> intro c1
  ·refine A9 [2] O (Bg [] [] O O ⟨⟨_, O⟩, O⟩)
  exact FR [2] 0 (i + 1) O Au
 refine DF [0] O ?_
 refine A9 [1] O (Bg [] [] O O ⟨⟨_, O⟩, O⟩)
theorem o9:∀(l:List Tm),(l.length<1000000)→(∀x∈l,okB x=true∧size x<1000000)→Hd Tryz.prog 30 [.p (.lst (A6 l)),.p (.fn 31)] (LP):=by
 intro l h1 h2;refine DI Tryz.func30 (DS [3] O (EF O O (B7 O O (sZ l h1 h2) (.inl O)) ?_));rintro _ ⟨r,rfl⟩;refine BW (A9 [2] O (Bg [] [] O O ⟨⟨_,O⟩,O⟩))
theorem Yx : ∀ (ds : List B8) (l : List Tm), (IT ds) → (nc l) → (l.length < wide) → Hd Tryz.prog 10 [.p (.lst (List.map B1 ds)), .p (.lst (A6 l))] (fun v => ∃ bb : Bool, v = .p (.bool bb) ∧ (bb = true → kz ds l)) := by
 intro ds l h1 h2 h3
 refine DI Tryz.func10 ?_
 refine CQ [2] O (Yh _ l 60 (Nat.le_refl _) h2 h3) ?_
 refine Bc [2] 8 rfl rfl ?_ ?_ <;> intro g
 ·refine DS [1] O ?_
  refine I6 O O O O (B7 O O (jf l h2 h3) (.inl O)) ?_
  rintro _ ⟨b, rfl, hb⟩
  refine BW (Bc [2] 12 rfl rfl ?_ ?_) <;> intro g1
  ·refine DS [1] O ?_
   refine I6 O O O O (B7 O O (mh ds h1) (.inl O)) ?_
   rintro _ ⟨q, rfl, hq⟩
   refine BW (Bc [2] 16 rfl rfl ?_ ?_) <;> intro g2
   ·refine DS [1] O ?_
    refine I6 O O O O (B7 O O (o9 l (iJ (hb Aq).1) (cQ (hb Aq))) (.inl O)) ?_
    rintro _ ⟨q1, rfl⟩
    refine BW (A9 [3] O (Bg [] [] O O ⟨⟨_, O, fun h => j3 Au (hb Aq) (hq Aq)⟩, O⟩))
   refine A9 [5] O (Bg [] [] O O ⟨⟨_, O, fun h => absurd h As⟩, O⟩)
  refine A9 [9] O (Bg [] [] O O ⟨⟨_, O, fun h => absurd h As⟩, O⟩)
 refine A9 [13] O (Bg [] [] O O ⟨⟨_, O, fun h => absurd h As⟩, O⟩)
set_option maxHeartbeats 4000000 in
theorem te:∀(n:Nat),QC n→∀(m:Nat) (mu:List Nat) (s s':NS) (t:Tm) (a:Nat) (d:Int),mu.length=s.objs.length→Mb (n+1) s (.st a) d= .ok (t,s')→BL Tryz.prog 256 [.p (N1 mu a),.p (.addr m),.p (I d)] (HS xq m mu s) (wN xq m mu t s'):=by
 intro n hQ m mu s s' t a d hl h;obtain⟨hd,args0,hg,hwf,hkl0,hbn,hn1,hn2,hd1,hd2,t1,s1,h2,args,h0,hg1,hwf1,hal,hqa⟩:=wH h;obtain⟨hkw,_⟩:=ZD hwf hg;obtain⟨_,haw⟩:=ZD hwf1 hg1;have hlt:a<mu.length:=by rw[hl];exact sP hg
 rw[←hl] at hkw;obtain⟨hk,hv,⟨gk,gi,gn,gl,gs⟩,hks,hb⟩:=hd;obtain⟨k2,v2,⟨gk2,gi2,gn2,gl2,gs2⟩,ks2,b2⟩:=h2;simp only at hkl0 hbn hkw;subst hbn;refine Cb Tryz.func256 O u0 (n:=94) O O (BQ (C8 O (Az Ba O) fun b6=>Ch O (BQ (BT tab 2 [] O (BA O (Bj [1] O (.inl ⟨O,O,O⟩) (cH m s.left s.nodes d hn1 hn2 hd1 hd2) ⟨_,_,O,O,O⟩ As O (.inl O)) (Ch O (BQ (D3 O (BA O (CP O) (BT tab 2 [] O (BA O (FX (i:=s.objs.length - 1 - a+1+1) CN O (show _=some (A4.box _ [.p (I hk),.p (I hv),.p (I gk),.p (I gi),.p (.str gn),.p (.lst (List.map B4 gl)),.p (.lst (A6 gs)),.p (.lst (Ug mu hks)),.p (.nilFn),.p (.lst (Ug mu args0))]) from Fq (s:=({ s with nodes:=s.nodes+1 }:NS)) hl hg) O O) (C8 O (Az Ba O) fun b7=>BK tab 1 [0,0] O (BR (BQ (D3 O (BA O (CP O) (BA O (BG S9 O O) ?_)))))))))))))))));refine BA O (FX (i:=s.objs.length - 1 - a+1+1+1) r5 O (show _=some (A4.box _ [.p (I hk),.p (I hv),.p (I gk),.p (I gi),.p (.str gn),.p (.lst (List.map B4 gl)),.p (.lst (A6 gs)),.p (.lst (Ug mu hks)),.p (.nilFn),.p (.lst (Ug mu args0))]) from Fq (s:=({ s with nodes:=s.nodes+1 }:NS)) hl hg) O O) (C8 O (Az vY O) fun b8=>BK tab 1 [0,0] O (B3 (BZ tab 4 [0] O (BX O (fun c=>?_) (fun c=>?_)))))
 ·(try simp only[sd,se] at c);obtain⟨hv1,hv2,rfl,rfl⟩:=sT h0 c;simp only at hv1 hv2;have hawS:∀x∈args,x<mu.length:=by rw[hl];exact haw
  refine Be (BK tab 7 [0,1,0] O (BR (BQ (D3 O (BA O (CP O) (BA O (BG S9 O O) (BA O (Bt (i:=({ s with nodes:=s.nodes+1 }:NS).objs.length - 1 - a+1+1+1+1) ek O (Fq (s:=({ s with nodes:=s.nodes+1 }:NS)) hl hg1) O) (BA O (Ct J7 O (Nz _ _)) (BK tab 1 [] O (B3 ?_))))))))));refine Er (α:=Nat×Tm×NS×List Nat) (fun(i,z,S2,MUy)=>⟨94,mk [(1,.p (.addr m)),(2,.p (I d)),(6,.ptr b6 0),(7,.ptr b7 0),(76,.p (.lst (Ug mu args))),(77,.p (I (args.length:Nat))),(78,.p (I (i:Int)))],(.box b7 ((BD z).map .p):: .box b6 [.p (I 0),.p (I 0),.p (.str ⟨#[]⟩),.p (.nils),.p (.nils)]:: .box m [.p (.lst []),.p (I S2.left),.p (I S2.nodes)]::NR xq m MUy MUy S2.objs),[]⟩) (fun(i,z,S2,MUy)=>args.length - i) (fun(i,z,S2,MUy)=>i≤args.length∧(MUy.length=S2.objs.length∧(∃w,MUy=w++mu)∧YA (Uv (Mb n) n) d (args.drop i) z S2= .ok (t,s'))) ⟨0,(.mk 0 (d - 1 - hv) ⟨#[]⟩ [] []),({ s with nodes:=s.nodes+1 }:NS),mu⟩ (⟨by omega,hl,⟨[],rfl⟩,by rw[List.drop_zero];exact hqa⟩) ?_ ?_
  ·exact Ec ⟨we O,we O,we O,we O,we O,we O,we O,Aw⟩ (Uf [1,2,3] [_,_,_,_] (l':=[_,_,_]) O (wl (on (O)) (wl (oe O) (wl (oe O) (Ih)))))
  rintro⟨i,z,S2,MUy⟩ hC
  try simp only at hC
  obtain⟨hi,⟨hlj,⟨w2,hwf2⟩,hqi⟩⟩:=hC;refine BZ tab 1 [] O (BR (BX O (fun c1=>?_) (fun c1=>?_)))
  ·(try simp only[sd,se] at c1);refine Bn (BR (B3 (BQ ?_)));obtain⟨x,hx⟩:=A1 (l:=args) (i:=i) Au;refine BA O (A0 J7 O O Au (XM hx) O) (BK tab 2 [] O (BQ ?_));obtain⟨hn3,hn4,hn5,hn6,y,sy,hq1,hq2⟩:=ZL (by rw[←Cd hx];exact hqi);refine BT tab 2 [] O (BA O (Bj [2] O (.inl ⟨O,O,O⟩) (cH m S2.left S2.nodes d hn3 hn4 hn5 hn6) ⟨_,_,O,O,O⟩ As O (.inl O)) (Ch O (Hg (fun k=>Nat.beq k 4) Ot (DO tab 4 [0] O (Kw [] O O (FK O O (List.perm_append_comm (l₁:=[_,_])) (by have h9:=cK n hQ m MUy { S2 with nodes:=S2.nodes+1 } sy y x d hlj hq1;rw[hwf2,KU (hawS x (List.mem_of_getElem? hx)),←hwf2] at h9;exact h9) (TY)) Ap (mB (s:={ S2 with nodes:=S2.nodes+1 }) hlj (Wx hq1) _) (aK _) ?_)))));rintro _ _ ⟨_,⟨_,hl1,⟨w,rfl⟩,rfl,rfl⟩,rfl⟩;refine⟨(.box b7 ((BD z).map .p):: .box b6 [.p (I 0),.p (I 0),.p (.str ⟨#[]⟩),.p (.nils),.p (.nils)]:: .box m [.p (.lst []),.p (I sy.left),.p (I sy.nodes)]::NR xq m (w++MUy) (w++MUy) sy.objs),List.perm_append_comm,AB,Aw,?_⟩;refine A3 O (fun _=>By (rows:=A6 [y]) BS Ba O O O O (CW (Bd _)) (Gl _)) Aw (A3 O (fun _=>BF O O (Fp z [y] (by simp only[Db,List.length_cons,List.length_nil];decide)) O) Aw (CY tab 1 [0,1] O (Be (BK tab 2 [] O ?_))));refine⟨⟨i+1,(apply z [y]),sy,(w++MUy)⟩,Ae,⟨by omega,⟨by assumption,⟨_,by rw[hwf2,←List.append_assoc]⟩,hq2⟩⟩,Ec ⟨we rfl,we rfl,we rfl,we rfl,we rfl,we rfl,we rfl,trivial⟩ (Uf [0,1,2] [_,_,_] (l':=[_,_,_]) rfl (wl (oe rfl) (wl (oe rfl) (wl (oe rfl) (Ih)))))⟩
  (try simp only[sd,se] at c1);obtain⟨e1,e2⟩:=ez (by have:=hqi;rwa [List.drop_eq_nil_of_le Au] at this);exact EN (BZ tab 2 [0,1,1] O (CB (⟨O,_,_,⟨_,_,O,(DR (i:=1) CN O O Am),O⟩,(Et [] [_,_] O),⟨_,(by rw[e2];exact hlj),⟨w2,hwf2⟩,(by rw[e1]),(by rw[e2];rfl)⟩⟩)))
 (try simp only[sd,se] at c);obtain⟨hkl,_,ts,hqs,rfl⟩:=oG h0 c;simp only at hkl hqs;refine BQ (BT tab 2 [0] O (BA O (Ct J7 O (Nz _ _)) (BK tab 2 [] O (BX O (fun c1=>?_) (fun c1=>?_)))))
 ·(try simp only[sd,se] at c1);refine BZ tab 4 [0,1,0] O (BR (BQ (BH (EV (i:=1) O (Ux (aw (we O) (aw (we O) (aw (we O) (aw (we O) (aw (Iv) (HT)))))))) (BH (H6 (sz:=5)) (BH (BE (i:=2) O) (BT tab 2 [1] O (BA O (Ct J7 O (Nz _ _)) (BK tab 1 [] O (B3 ?_)))))))));refine Er (α:=Nat×List Tm×NS×List Nat×Option Nat×Nat) (fun(i,ys,S,MUx,o,cp)=>⟨94,mk [(0,.p (.addr (RB mu a))),(1,.p (.addr m)),(2,.p (I d)),(6,.ptr b6 0),(7,.ptr b7 0),(8,.ptr b8 0),(44,.p (.lst (Ug mu hks))),(45,.p (I (hks.length:Nat))),(46,.p (I (i:Int)))],(.vec o 5 (A6 ys) cp:: .box b8 [.p (I hk),.p (I hv),.p (I gk),.p (I gi),.p (.str gn),.p (.lst (List.map B4 gl)),.p (.lst (A6 gs)),.p (.lst (Ug mu hks)),.p (.nilFn)]:: .box b7 [.p (I hk),.p (I 0),.p (.str ⟨#[]⟩),.p (.lst []),.vs o (A6 ys).length cp]:: .box b6 [.p (I 0),.p (I 0),.p (.str ⟨#[]⟩),.p (.nils),.p (.nils)]:: .box m [.p (.lst []),.p (I S.left),.p (I S.nodes)]::NR xq m MUx MUx S.objs),[]⟩) (fun(i,ys,S,MUx,o,cp)=>hks.length - i) (fun(i,ys,S,MUx,o,cp)=>i≤hks.length∧(ys.length=i∧MUx.length=S.objs.length∧(∃w,MUx=w++mu)∧∃zs,aW (Uv (Mb n) n) d (hks.drop i) S= .ok (zs,s1)∧ts=ys++zs)) ⟨0,[],({ s with nodes:=s.nodes+1 }:NS),mu,none,0⟩ (⟨by omega,rfl,hl,⟨[],rfl⟩,ts,by rw[List.drop_zero];exact hqs,rfl⟩) ?_ ?_
  ·exact Ec ⟨we O,we O,we O,we O,we O,we O,we O,we O,we O,Aw⟩ (Uf [0,1,2,3,4] [_,_,_,_,_] (l':=[_,_,_,_,_]) O (wl (oe O) (wl (oe O) (wl (oe O) (wl (oe O) (wl (oe O) (Ih)))))))
  rintro⟨i,ys,S,MUx,o,cp⟩ hC
  try simp only at hC
  obtain⟨hi,⟨hyl,hli,⟨w,hwe⟩,zs,hqi,htz⟩⟩:=hC;refine BZ tab 1 [] O (BR (BX O (fun c2=>?_) (fun c2=>?_)))
  ·(try simp only[sd,se] at c2);refine Bn (BR (B3 (BQ ?_)));obtain⟨x,hx⟩:=A1 (l:=hks) (i:=i) Au;refine BA O (A0 J7 O O Au (XM hx) O) (BK tab 2 [] O (Hg (fun k=>Nat.beq k 5||Nat.beq k 7) Ot (DO tab 5 [2] O ?_)));obtain⟨y,sy,ys2,hq1,hq2,rfl⟩:=nE (by rw[←Cd hx];exact hqi);refine Kw [] O O (FK O O (List.perm_append_comm (l₁:=[_,_,_,_])) (by have h9:=cK n hQ m MUx S sy y x d hli hq1;rw[hwe,KU (hkw x (List.mem_of_getElem? hx)),←hwe] at h9;exact h9) (TY)) Ap (mB hli (Wx hq1) _) (aK _) ?_;rintro _ _ ⟨_,⟨_,hl1,⟨w,rfl⟩,rfl,rfl⟩,rfl⟩;refine⟨(.vec o 5 (A6 ys) cp:: .box b8 [.p (I hk),.p (I hv),.p (I gk),.p (I gi),.p (.str gn),.p (.lst (List.map B4 gl)),.p (.lst (A6 gs)),.p (.lst (Ug mu hks)),.p (.nilFn)]:: .box b7 [.p (I hk),.p (I 0),.p (.str ⟨#[]⟩),.p (.lst []),.vs o (A6 ys).length cp]:: .box b6 [.p (I 0),.p (I 0),.p (.str ⟨#[]⟩),.p (.nils),.p (.nils)]:: .box m [.p (.lst []),.p (I sy.left),.p (I sy.nodes)]::NR xq m (w++MUx) (w++MUx) sy.objs),List.perm_append_comm,AB,Aw,?_⟩;refine A3 O (fun _=>By (rows:=A6 [y]) BS Ba O O O O (CW (Bd _)) (Gl _)) Aw (JS [] O O (Bi (i:=0) (rows':=A6 [y]) BS BS Ba O O O O O O (Bd _) AD (Hj ys [y])) Ap fun o1 cp1=>⟨AB,Aw,?_⟩);refine CY tab 2 [2,0] O (Be (BK tab 2 [] O ?_));refine⟨⟨i+1,(ys++[y]),sy,(w++MUx),o1,cp1⟩,Ae,⟨by omega,⟨by simp[hyl],by assumption,⟨_,by rw[hwe,←List.append_assoc]⟩,ys2,hq2,by rw[htz,List.append_assoc];rfl⟩⟩,Ec ⟨we rfl,we rfl,we rfl,we rfl,we rfl,we rfl,we rfl,we rfl,we rfl,trivial⟩ (Uf [0,1,2,3,4] [_,_,_,_,_] (l':=[_,_,_,_,_]) rfl (wl (oe rfl) (wl (oe rfl) (wl (oe rfl) (wl (oe rfl) (wl (oe rfl) (Ih)))))))⟩
  (try simp only[sd,se] at c2);have hqe:=pS (by have:=hqi;rwa [List.drop_eq_nil_of_le Au] at this);have hts:ts=ys:=by rw[htz,hqe.1,List.append_nil]
  have hs1:=hqe.2;have hgS:=hg1;rw[hs1] at hgS;have hbS:RB MUx a=RB mu a:=by rw[hwe];exact OU hlt
  have hawS:∀x∈args,x<MUx.length:=by rw[hli,←hs1];exact haw
  refine EN (BQ (BT tab 2 [1] O (BA O (gE Ap O O) (Ch O ?_))));refine BX O (fun c3=>by cases c3) (fun c3=>?_);refine Bn (BR (BQ (BH (Cf (i:=0) (j:=2) (q:=4) [] O O O (DA Aw)) (D3 O (BA O (CP O) (BA O (BG S9 O O) (BA O (Bt (i:=S.objs.length - 1 - a+1+1+1+1) ek O (fj hli hgS hbS) O) (BA O (Ct J7 O (Nz _ _)) (BK tab 1 [] O (B3 ?_))))))))));refine Er (α:=Nat×Tm×NS×List Nat) (fun(i,z,S2,MUy)=>⟨94,mk [(1,.p (.addr m)),(2,.p (I d)),(6,.ptr b6 0),(7,.ptr b7 0),(76,.p (.lst (Ug MUx args))),(77,.p (I (args.length:Nat))),(78,.p (I (i:Int)))],(.box b7 ((BD z).map .p):: .box b6 [.p (I 0),.p (I 0),.p (.str ⟨#[]⟩),.p (.nils),.p (.nils)]:: .box m [.p (.lst []),.p (I S2.left),.p (I S2.nodes)]::NR xq m MUy MUy S2.objs),[]⟩) (fun(i,z,S2,MUy)=>args.length - i) (fun(i,z,S2,MUy)=>i≤args.length∧(MUy.length=S2.objs.length∧(∃w,MUy=w++MUx)∧YA (Uv (Mb n) n) d (args.drop i) z S2= .ok (t,s'))) ⟨0,(.mk hk 0 ⟨#[]⟩ [] ys),S,MUx⟩ (⟨by omega,hli,⟨[],rfl⟩,by rw[List.drop_zero,←hts,←hs1];exact hqa⟩) ?_ ?_
  ·exact Ec ⟨we O,we O,we O,we O,we O,we O,we O,Aw⟩ (Uf [1,2,3] [_,_,_,_] (l':=[_,_,_]) O (wl (oe O) (wl (oe O) (wl (oe O) (Ih)))))
  rintro⟨i,z,S2,MUy⟩ hC1
  try simp only at hC1
  obtain⟨hi,⟨hlj,⟨w2,hwf2⟩,hqi⟩⟩:=hC1;refine BZ tab 1 [] O (BR (BX O (fun c4=>?_) (fun c4=>?_)))
  ·(try simp only[sd,se] at c4);refine Bn (BR (B3 (BQ ?_)));obtain⟨x,hx⟩:=A1 (l:=args) (i:=i) Au;refine BA O (A0 J7 O O Au (XM hx) O) (BK tab 2 [] O (BQ ?_));obtain⟨hn3,hn4,hn5,hn6,y,sy,hq1,hq2⟩:=ZL (by rw[←Cd hx];exact hqi);refine BT tab 2 [] O (BA O (Bj [2] O (.inl ⟨O,O,O⟩) (cH m S2.left S2.nodes d hn3 hn4 hn5 hn6) ⟨_,_,O,O,O⟩ As O (.inl O)) (Ch O (Hg (fun k=>Nat.beq k 4) Ot (DO tab 4 [0] O (Kw [] O O (FK O O (List.perm_append_comm (l₁:=[_,_])) (by have h9:=cK n hQ m MUy { S2 with nodes:=S2.nodes+1 } sy y x d hlj hq1;rw[hwf2,KU (hawS x (List.mem_of_getElem? hx)),←hwf2] at h9;exact h9) (TY)) Ap (mB (s:={ S2 with nodes:=S2.nodes+1 }) hlj (Wx hq1) _) (aK _) ?_)))));rintro _ _ ⟨_,⟨_,hl1,⟨w,rfl⟩,rfl,rfl⟩,rfl⟩;refine⟨(.box b7 ((BD z).map .p):: .box b6 [.p (I 0),.p (I 0),.p (.str ⟨#[]⟩),.p (.nils),.p (.nils)]:: .box m [.p (.lst []),.p (I sy.left),.p (I sy.nodes)]::NR xq m (w++MUy) (w++MUy) sy.objs),List.perm_append_comm,AB,Aw,?_⟩;refine A3 O (fun _=>By (rows:=A6 [y]) BS Ba O O O O (CW (Bd _)) (Gl _)) Aw (A3 O (fun _=>BF O O (Fp z [y] (by simp only[Db,List.length_cons,List.length_nil];decide)) O) Aw (CY tab 1 [0,1] O (Be (BK tab 2 [] O ?_))));refine⟨⟨i+1,(apply z [y]),sy,(w++MUy)⟩,Ae,⟨by omega,⟨by assumption,⟨_,by rw[hwf2,←List.append_assoc]⟩,hq2⟩⟩,Ec ⟨we rfl,we rfl,we rfl,we rfl,we rfl,we rfl,we rfl,trivial⟩ (Uf [0,1,2] [_,_,_] (l':=[_,_,_]) rfl (wl (oe rfl) (wl (oe rfl) (wl (oe rfl) (Ih)))))⟩
  (try simp only[sd,se] at c4);obtain⟨e1,e2⟩:=ez (by have:=hqi;rwa [List.drop_eq_nil_of_le Au] at this);refine EN (BZ tab 2 [0,1,1] O (CB ?_));exact⟨O,_,_,⟨_,_,O,(DR (i:=1) CN O O Am),O⟩,(Et [] [_,_] O),⟨_,(by rw[e2];exact hlj),⟨w2++w,by rw[hwf2,hwe,List.append_assoc]⟩,(by rw[e1]),(by rw[e2];rfl)⟩⟩
 (try simp only[sd,se] at c1);exfalso;omega
theorem sC:∀n,QC n
 | 0=>fun m mu s s' t a d hl h=>(by cases h)
 | n+1=>fun m mu s s' t a d hl h=>te n (sC n) m mu s s' t a d hl h
theorem qz:∀(bo be:Nat) (co ce:List AV),D8 Tryz.prog 32 [.ptr bo 0,.ptr be 0] (.ret) [.box bo co,.box be ce] (fun H'=>H'=[.box bo co,.box be ce]):=by
 intro bo be co ce;refine GQ (ty2:=0) Tryz.func32 O xh (n:=16) O O O O O O (BQ (D3 O (BA O (Fb Wu O O O) (Ch O ?_))));refine BX O (fun c=>by cases c) (fun c=>?_);exact Bn ⟨.inl O,O,_,(HB (is:=[0,1]) O),O⟩
theorem dw:∀(n:Nat) (t z:Tm) (s2:NS),kL n t= .ok (z,s2)→En Tryz.prog 12 [.p (.lst []),TV t] (.tup [TV z,.p (I 0)]):=by
 intro n t z s2 h;obtain⟨⟨v,s1⟩,h1,h2⟩:=MX h;obtain⟨_,a,e⟩:=cG h2;simp only at e;subst e;refine Em Tryz.func12 O xQ (n:=16) O O (BQ (C8 O (Dk O) fun b3=>C8 O (Az Ba O) fun b4=>C8 O (Az a8 O) fun b5=>Ch O (BQ (BA O (EK O O) (LK O O O O (Ch O (BQ (BT tab 2 [] O (C8 O (Dk O) fun m=>BK tab 1 [] O (BQ (IZ (List.perm_append_comm (l₁:=[_]) (l₂:=[_,_,_])) (BT tab 2 [2] O (Mz O O (FK O O (List.perm_append_comm (l₁:=[_,_,_])) ((VK n m [] ⟨[],20000,0⟩ s1 (.st a) O).1 t none h1) (TY)) (K1 _) ?_)))))))))))));rintro _ _ ⟨_,⟨_,hl,⟨w,rfl⟩,rfl,rfl⟩,rfl⟩;refine⟨(.box b5 [.p (I 0)]:: .box b4 [.p (I 0),.p (I 0),.p (.str ⟨#[]⟩),.p (.nils),.p (.nils)]:: .box b3 ((BD t).map .p):: .box m [.p (.lst []),.p (I s1.left),.p (I s1.nodes)]::NR xq m (w++[]) (w++[]) s1.objs),List.perm_append_comm,?_⟩;refine D3 O (Mz O O (Lr O O Ap (List.perm_append_comm (l₁:=[_,_,_])) (sC n m (w++[]) s1 s2 z a 0 hl h2) (TY)) (aK _) ?_);rintro _ _ ⟨_,⟨_,hl1,⟨w1,rfl⟩,rfl,rfl⟩,rfl⟩;refine⟨(.box b5 [.p (I 0)]:: .box b4 [.p (I 0),.p (I 0),.p (.str ⟨#[]⟩),.p (.nils),.p (.nils)]:: .box b3 ((BD t).map .p):: .box m [.p (.lst []),.p (I s2.left),.p (I s2.nodes)]::NR xq m (w1++(w++[])) (w1++(w++[])) s2.objs),List.perm_append_comm,?_⟩;refine BK tab 2 [1,1,0,0] O (CB (⟨_,_,_,O,DP (is:=[1,0]) As ⟨_,_,O,O,⟨_,_,O,O,O⟩⟩,D8.eq (qz b4 b5 _ _) ?_⟩));refine⟨_,_,⟨_,_,O,(DR (i:=0) CN O O Am),⟨_,_,O,(F9 (i:=1) QN O O),O⟩⟩,(List.nil_sublist _),?_⟩
 all_goals exact⟨rfl,rfl⟩
end Go.Proofs.YtldfmjoncbjldaaGreat
namespace Go.Eu
open Go.Abs
def NF {α:Type}(o:Out α):Prop:=o≠ .fail
section
variable {α β:Type}
theorem EZ (a:α):NF (.ok a):=fun h=>by cases h
theorem EO:NF (.stuck:Out α):=fun h=>by cases h
theorem Nj {o:Out α}{k:α→Out β}(h:NF o) (hk:∀a,NF (k a)):NF (o.bind k):=by
 cases o with
 | stuck=>exact EO
 | fail=>exact absurd rfl h
 | ok a=>exact hk a
theorem aR {σ:Type}{o:Out (Tm×σ)}{k:Tm×σ→Out β}(h:NF o) (hk:∀a,NF (k a)):NF (o.chk k):=by
 unfold Out.chk;refine Nj h fun r=>?_;split
 ·exact hk r
 exact EO
theorem L0 {s:Dn}{x:Tm×Int}{k:Tm→Dn→Out α}(hk:∀t s',NF (k t s')):NF (DK.put s x k):=by
 unfold Sys.put;split
 ·exact hk _ _
 exact EO
end
section
variable {E:List B8}{W:Dn→Tm→Out (Tm×Dn)}
theorem dW (hW:∀c t,NF (W c t)):∀(n:Nat) (t:FY) (vs:List Tm) (l:Tm) (c:Dn),NF (EA E DK W n t vs l c)
 | 0,t,vs,l,c=>by rw[EA];exact EO
 | n+1,t,vs,l,c=>by
  rw[EA];split
  ·split
   ·exact EZ _
   refine aR (hW _ _) fun r=>?_;split
   ·exact EZ _
   split
   ·exact EZ _
   exact dW hW n _ _ _ _
  exact EZ _
theorem Yb {d:B8}{h:Tm}{a:List Tm}{c:Dn}:NF (EP DK d h a c):=by
 unfold EP;split
 ·exact EZ _
 exact L0 fun _ _=>EZ _
theorem fo {d:B8}{h m:Tm}{a:List Tm}{c:Dn}:NF (ER E DK d h a m c):=by
 unfold ER;split
 ·exact EZ _
 split
 ·exact EZ _
 split
 ·exact EZ _
 exact L0 fun _ _=>EZ _
theorem eD {h b:Tm}{vs a:List Tm}{c:Dn}:NF (FE DK h b vs a c):=by
 unfold FE;split
 ·exact EZ _
 split
 ·exact EO
 exact L0 fun _ _=>EZ _
theorem kq (hW:∀c t,NF (W c t)) {n:Nat}{h:Tm}{a:List Tm}{c:Dn}:NF (Dc E DK W n h a c):=by
 unfold Dc;split
 ·exact EZ _
 split
 ·exact Yb
 split
 ·unfold QE;split
  ·exact EZ _
  exact aR (hW _ _) fun r=>fo
 split
 ·unfold Iw;split
  ·exact EZ _
  refine Nj (dW hW _ _ _ _ _) fun q=>?_;split
  ·exact EZ _
  split
  ·exact EZ _
  exact eD
 exact EZ _
theorem rL:∀(n:Nat) (c:Dn) (t:Tm),NF (FM E DK n c t)
 | 0,c,t=>by rw[FM];exact EO
 | n+1,c,t=>by
  have ih:=rL n;rw[FM];split
  ·exact EO
  split
  ·exact EZ _
  split
  ·rename_i h;exact absurd h (by simp[DK])
  split
  ·split
   ·exact EZ _
   unfold KC;split
   ·exact EO
   exact L0 fun _ _=>ih _ _
  split
  ·unfold OV;split
   ·exact L0 fun _ _=>ih _ _
   exact EO
  split
  ·split
   ·exact EO
   refine aR (ih _ _) fun r=>?_;split
   ·exact EZ _
   unfold Jf;split
   ·exact EO
   exact L0 fun _ _=>ih _ _
  split
  ·refine Nj (kq ih) fun r=>?_;split
   ·exact EZ _
   exact ih _ _
  exact EZ _
theorem mC {T:Dn→Tm→Out (Option Tm×Dn)}(hT:∀c t,NF (T c t)) {h:Tm}{ar:Int}{a:List Tm}:∀(n:Nat) (t:FY) (vs:List Tm) (pl:List (Int×List Int)) (c:Dn),NF (Fs E DK T h ar a n t vs pl c)
 | 0,t,vs,pl,c=>by rw[Fs];exact EO
 | n+1,t,vs,pl,c=>by
  rw[Fs];split
  ·split
   ·exact EZ _
   split
   ·refine Nj (hT _ _) fun r=>?_;split
    ·exact EZ _
    split
    ·exact EO
    exact EZ _
   split
   ·exact EZ _
   exact mC hT n _ _ _ _
  exact eD
theorem js:∀(n:Nat) (c:Dn) (t:Tm),NF (Di E DK n c t)
 | 0,c,t=>by rw[Di];exact EO
 | n+1,c,t=>by
  have ih:=js n;rw[Di];split
  ·exact EO
  split
  ·split
   ·exact EZ _
   unfold KC;split
   ·exact EO
   exact L0 fun _ _=>EZ _
  split
  ·unfold OV;split
   ·exact L0 fun _ _=>EZ _
   exact EO
  split
  ·split
   ·exact EO
   split
   ·unfold Jf;split
    ·exact EO
    exact L0 fun _ _=>EZ _
   refine Nj (ih _ _) fun r=>?_;split
   ·exact EZ _
   exact EZ _
  split
  ·split
   ·exact EZ _
   split
   ·exact Yb
   split
   ·split
    ·exact fo
    refine Nj (ih _ _) fun r=>?_;split
    ·exact EZ _
    exact EZ _
   split
   ·exact mC ih _ _ _ _ _
   exact EZ _
  exact EZ _
end
theorem mf {α:Type}{o:Out α}{p:α→Prop}(h:C6 o p) (hf:NF o):∃a,o= .ok a∧p a:=by
 cases o with
 | stuck=>exact h.elim
 | fail=>exact absurd rfl hf
 | ok a=>exact⟨a,rfl,h⟩
@[irreducible] def FN:Nat:=1000000000000
theorem Ye:FN=1000000000000:=by unfold FN;rfl
section
variable {E:List B8}{t:Tm}
end
structure Fit (z:Nat) (q:Tm):Prop where
 sz:size q≤2000+z
 dp:depth q≤95+z
def QF (z:Nat) (o:Out (Option Tm×Dn)):Prop:=∀q c',o= .ok (some q,c')→c'.over=false→Fit z q
theorem QF.mono {z z':Nat}{o:Out (Option Tm×Dn)}(h:QF z o) (hz:z≤z'):QF z' o:=fun q c' e hv=>by
 obtain⟨h1,h2⟩:=h q c' e hv;exact⟨by omega,by omega⟩
section
variable {E:List B8}
end
theorem cf:lx G0:=⟨rfl,by decide,fun _=>by decide⟩
section
variable {E:List B8}{t:Tm}
theorem ei (hE:G2 E) (ho:okB t=true) (hs:size t≤10000):C6 (Di E CE FN 20000 t) (TD CE N3 (fun n=>(20000 - n).toNat) 20000 (size t)) :=
 Pw pQ hE FN 20000 t bH Av ho (by rw[Ye];omega) Au
theorem bD (hE:G2 E) (ho:okB t=true) (hs:size t≤10000):sH (Di E CE FN 20000 t):=fun q c e=>((ei hE ho hs).get e).ok q rfl |>.1
theorem ed (hE:G2 E) (ho:okB t=true) (hs:size t≤10000):∃q c,Di E DK FN G0 t= .ok (q,c)∧okB (q.getD BN)=true:=by
 obtain⟨⟨q,c⟩,h1,h2⟩:=mf (Pw e6 hE FN G0 t cf (by simp[G0]) ho (by rw[Ye];omega) Au) (js FN G0 t);refine⟨q,c,h1,?_⟩;cases q with
 | none=>exact J1
 | some x=>exact(h2.ok x rfl).1
end
section
variable {E:List B8}{t:FY}{a:List Tm}
structure p8 (t:FY) (a:List Tm):Prop where
 tok:FD t
 dep:Dp t≤50
 ok:∀x∈a,okB x=true
 sz:BB a≤60
theorem p8.len (h:p8 t a):a.length≤60:=by have:=Fl a;have:=h.sz;omega
theorem p8.all (h:p8 t a):∀x∈a,okB x=true∧size x≤100000:=fun x hx=>⟨h.ok x hx,by have:=FI hx;have:=h.sz;omega⟩
end
section
variable {E:List B8}{σ σ':Type}{S:Sys σ}{S':Sys σ'}
theorem Ij {α:Type}{s:σ}{x:Tm×Int}{f:Tm→α}{s1:σ}(h:S.put s x (fun t s'=> .ok (some (f t),s'))= .ok (none,s1)):False:=by
 unfold Sys.put at h;split at h
 ·split at h<;>simp at h
 cases h
theorem ZI {d:B8}{g:Tm}{a:List Tm}{s s1:σ}(h:EP S d g a s= .ok (none,s1)) (s2:σ'):EP S' d g a s2= .ok (none,s2):=by
 unfold EP at h ⊢;split at h
 ·rename_i e;rw[if_pos e]
 exact(Ij h).elim
theorem du {d:B8}{g m:Tm}{a:List Tm}{s s1:σ}(h:ER E S d g a m s= .ok (none,s1)) (s2:σ'):ER E S' d g a m s2= .ok (none,s2):=by
 unfold ER at h ⊢;split at h
 ·rfl
 rename_i e j fs hc;split at h
 ·rename_i e;rw[if_pos e]
 rename_i e1;rw[if_neg e1];split at h
 ·rename_i e;rw[if_pos e]
 exact(Ij h).elim
theorem pe {g b:Tm}{vs a:List Tm}{s s1:σ}(h:FE S g b vs a s= .ok (none,s1)) (s2:σ'):FE S' g b vs a s2= .ok (none,s2):=by
 unfold FE at h ⊢;split at h
 ·rename_i e;rw[if_pos e]
 split at h
 ·cases h
 exact(Ij h).elim
theorem jy {T:σ→Tm→Out (Option Tm×σ)}{T':σ'→Tm→Out (Option Tm×σ')}(hT:∀s t s1,T s t= .ok (none,s1)→∀s2,T' s2 t= .ok (none,s2)) {h:Tm}{ar:Int}{a:List Tm} :
  ∀(m:Nat) (t:FY) (vs:List Tm) (pl:List (Int×List Int)) (s s1:σ),Fs E S T h ar a m t vs pl s= .ok (none,s1)→∀s2,Fs E S' T' h ar a m t vs pl s2= .ok (none,s2)
 | 0,t,vs,pl,s,s1,e,s2=>by cases e
 | m+1,t,vs,pl,s,s1,e,s2=>by
  rw[Fs] at e ⊢;split at e
  ·rename_i hk;rw[if_pos hk];split at e
   ·rename_i hv;rw[if_pos hv]
   rename_i hv;rw[if_neg hv];split at e
   ·rename_i hc;obtain⟨r,h1,h2⟩:=D9 e;obtain⟨q,s3⟩:=r;simp only at h2;split at h2
    ·rename_i hq;rw[hT _ _ _ h1 s2];rfl
    split at h2<;>simp at h2
   rename_i d j fs hc;split at e
   ·rfl
   rename_i t' hb;exact jy hT m t' _ _ s s1 e s2
  rename_i hk;rw[if_neg hk];exact pe e s2
theorem NG:∀(n:Nat) (s:σ) (t:Tm) (s1:σ),Di E S n s t= .ok (none,s1)→∀s2:σ',Di E S' n s2 t= .ok (none,s2)
 | 0,s,t,s1,h,s2=>by cases h
 | n+1,s,t,s1,h,s2=>by
  rw[Di] at h ⊢;split at h
  ·cases h
  rename_i ho;rw[if_neg ho];split at h
  ·rename_i hk;rw[if_pos hk];split at h
   ·rename_i hl;rw[if_pos hl]
   unfold KC at h;split at h
   ·cases h
   exact(Ij h).elim
  rename_i h5;rw[if_neg h5];split at h
  ·unfold OV at h;split at h
   ·exact(Ij h).elim
   cases h
  rename_i h11;rw[if_neg h11];split at h
  ·rename_i h9;rw[if_pos h9];split at h
   ·cases h
   rename_i p hp;split at h
   ·unfold Jf at h;split at h
    ·cases h
    exact(Ij h).elim
   rename_i h8;rw[if_neg h8];obtain⟨⟨q,s3⟩,h1,h2⟩:=D9 h;simp only at h2;split at h2
   ·rename_i hq;rw[NG n _ _ _ h1 s2];rfl
   simp at h2
  rename_i h9;rw[if_neg h9];split at h
  ·rename_i h3;rw[if_pos h3];split at h
   ·rfl
   rename_i x hu;split at h
   ·rename_i hx;rw[if_pos hx];exact ZI h s2
   rename_i hx1;rw[if_neg hx1];split at h
   ·rename_i hx5;rw[if_pos hx5];split at h
    ·rename_i q hc;exact du h s2
    rename_i hc;obtain⟨⟨q,s3⟩,h1,h2⟩:=D9 h;simp only at h2;split at h2
    ·rename_i hq;rw[NG n _ _ _ h1 s2];rfl
    simp at h2
   rename_i hx5;rw[if_neg hx5];split at h
   ·rename_i hx6;rw[if_pos hx6];exact jy (NG n) _ _ _ _ _ _ h s2
   rename_i hx6;rw[if_neg hx6]
  rename_i h3;rw[if_neg h3]
end
section
variable {E:List B8}{t:Tm}
def KV (E:List B8) (t:Tm):Bool:=match Di E DK FN G0 t with
 | .ok (q,c)=>q.isSome||c.over
 | _=>true
def Mc (E:List B8) (t:Tm):Bool:=(Ox (Di E CE FN 20000 t)).2.1||decide ((Ox (Di E CE FN 20000 t)).2.2≠0)
theorem O3:KV E t=false↔Di E DK FN G0 t= .ok (none,G0):=by
 unfold KV;constructor
 ·intro h;split at h
  ·rename_i q c e;cases q with
   | some x=>simp at h
   | none=>rw[NG FN _ _ _ e G0]
  cases h
 intro h;rw[h];rfl
theorem ZF:Mc E t=false↔∃l,Di E CE FN 20000 t= .ok (none,l):=by
 unfold Mc;constructor
 ·intro h;simp only[Bool.or_eq_false_iff,decide_eq_false_iff_not,Decidable.not_not] at h;generalize Di E CE FN 20000 t=o at h;cases o with
  | stuck=>exact absurd h.2 As
  | fail=>exact absurd h.2 As
  | ok a =>
   obtain⟨q,l⟩:=a;cases q with
   | none=>exact⟨l,rfl⟩
   | some x =>
    simp only[Ox] at h;split at h
    ·exact absurd h.1 Av
    exact absurd h.2 Av
 rintro⟨l,h⟩;rw[h];rfl
theorem qo:Mc E t=KV E t:=by
 cases hp:Mc E t with
 | false =>
  obtain⟨l,h⟩:=ZF.1 hp;exact(O3.2 (NG FN _ _ _ h G0)).symm
 | true =>
  cases hr:KV E t with
  | true=>rfl
  | false =>
   have:=ZF.2 ⟨20000,NG FN _ _ _ (O3.1 hr) (20000:Int)⟩;rw[hp] at this;cases this
def Gu (st:Tm→Bool):Nat→Tm→Bool
 | 0,_=>true
 | n+1,t=> !st t&&((Ay t).1.kids++(Ay t).2).all (Gu st n)
theorem PZ:∀(n:Nat) (t:Tm),Gu (Mc E) n t=Gu (KV E) n t
 | 0,t=>rfl
 | n+1,t=>by
  rw[Gu,Gu,qo];congr 1;have:Gu (Mc E) n=Gu (KV E) n:=funext (PZ n);rw[this]
end
def E4 {α β:Type}(R:α→β→Prop):List α→List β→Prop
 | [],[]=>True
 | x::xs,y::ys=>R x y∧E4 R xs ys
 | _,_=>False
section
variable {α β:Type}{R R':α→β→Prop}
theorem E4.len:∀{xs:List α}{ys:List β},E4 R xs ys→ys.length=xs.length
 | [],[],_=>rfl
 | _::_,_::_,h=>congrArg (·+1) (E4.len h.2)
 | [],_::_,h=>h.elim
 | _::_,[],h=>h.elim
theorem E4.get:∀{xs:List α}{ys:List β}{i:Nat}{x:α},E4 R xs ys→xs[i]?=some x→∃y,ys[i]?=some y∧R x y
 | x::xs,y::ys,0,z,h,e=>by cases e;exact⟨y,rfl,h.1⟩
 | x::xs,y::ys,i+1,z,h,e=>E4.get (i:=i) h.2 e
 | [],[],i,z,h,e=>by cases e
 | [],_::_,i,z,h,e=>h.elim
 | _::_,[],i,z,h,e=>h.elim
theorem E4.mono (hR:∀x y,R x y→R' x y):∀{xs:List α}{ys:List β},E4 R xs ys→E4 R' xs ys
 | [],[],_=>trivial
 | _::_,_::_,h=>⟨hR _ _ h.1,E4.mono hR h.2⟩
 | [],_::_,h=>h.elim
 | _::_,[],h=>h.elim
theorem E4.append:∀{xs xs':List α}{ys ys':List β},E4 R xs ys→E4 R xs' ys'→E4 R (xs++xs') (ys++ys')
 | [],_,[],_,_,h=>h
 | _::_,_,_::_,_,h,h'=>⟨h.1,E4.append h.2 h'⟩
 | [],_,_::_,_,h,_=>h.elim
 | _::_,_,[],_,h,_=>h.elim
theorem E4.drop:∀(n:Nat) {xs:List α}{ys:List β},E4 R xs ys→E4 R (xs.drop n) (ys.drop n)
 | 0,_,_,h=>h
 | n+1,[],[],_=>trivial
 | n+1,_::_,_::_,h=>E4.drop n h.2
 | n+1,[],_::_,h=>h.elim
 | n+1,_::_,[],h=>h.elim
theorem E4.take:∀(n:Nat) {xs:List α}{ys:List β},E4 R xs ys→E4 R (xs.take n) (ys.take n)
 | 0,_,_,_=>by rw[List.take_zero,List.take_zero];trivial
 | n+1,[],[],_=>trivial
 | n+1,_::_,_::_,h=>⟨h.1,E4.take n h.2⟩
 | n+1,[],_::_,h=>h.elim
 | n+1,_::_,[],h=>h.elim
theorem E4.of {f:α→β}:∀{xs:List α},(∀x∈xs,R x (f x))→E4 R xs (xs.map f)
 | [],_=>trivial
 | x::xs,h=>⟨h x Av,E4.of fun y hy=>h y (by simp[hy])⟩
theorem E4.eq {R₁ R₂:α→β→Prop}(hR:∀x y z,R₁ x y→R₂ x z→y=z):∀{xs:List α}{ys zs:List β},E4 R₁ xs ys→E4 R₂ xs zs→ys=zs
 | [],[],[],_,_=>rfl
 | _::_,_::_,_::_,h,h'=>by rw[hR _ _ _ h.1 h'.1,E4.eq hR h.2 h'.2]
 | [],_::_,_,h,_=>h.elim
 | _::_,[],_,h,_=>h.elim
 | [],[],_::_,_,h=>h.elim
 | _::_,_::_,[],_,h=>h.elim
end
def R0 (h:Tm) (ks zs:List Tm):Tm:=apply (.mk h.kind h.index h.name h.levels ks) zs
theorem QX {h:Tm}(hk:h.kind≠4) (ks zs:List Tm):Ay (R0 h ks zs)=(.mk h.kind h.index h.name h.levels ks,zs):=LI (h:= .mk h.kind h.index h.name h.levels ks) hk zs
theorem VO:∀(t:Tm),Wt t→(Ay t).1.kind≠4
 | .mk k i n l [f,a],h=>by
  unfold Ay;split
  ·exact VO f h.2.2.1
  ·assumption
 | .mk k i n l [],h=>by unfold Ay;intro e;have:=h.1;rw[show k=4 from e] at this;simp[arity] at this
 | .mk k i n l [a],h=>by unfold Ay;intro e;have:=h.1;rw[show k=4 from e] at this;simp[arity] at this
 | .mk k i n l (a::b::c::r),h=>by unfold Ay;intro e;have:=h.1;rw[show k=4 from e] at this;simp[arity] at this;omega
theorem XB {t:Tm}(ho:okB t=true):(Ay t).1.kind≠4:=VO t (Bu.1 ho).wt
theorem yS {n:ByteArray}(h:n.size=0):n=⟨#[]⟩:=by
 obtain⟨⟨d⟩⟩:=n;have:d=[]:=List.eq_nil_of_length_eq_zero h;subst this;rfl
theorem rQ {k i:Int}{n:ByteArray}{l:List CX}{ks:List Tm}(h:Ci (.mk k i n l ks)):(k≠0→k≠12→i=0)∧(k≠3→n=⟨#[]⟩)∧(k≠2→k≠3→l=[]):=by
 have:=h.1;simp only[uc,Bool.and_eq_true,Bool.or_eq_true,decide_eq_true_eq] at this;exact⟨fun h0 h1=>by omega,fun h3=>yS Au,fun h2 h3=>List.eq_nil_of_length_eq_zero Au⟩
theorem R9:∀(t:Tm),Ci t→apply (Ay t).1 (Ay t).2=t
 | .mk k i n l [f,a],h=>by
  unfold Ay;split
  ·rename_i hk;obtain⟨c1,c2,c3⟩:=rQ h;have:=R9 f h.2.1;simp only[apply,List.foldl_append,List.foldl_cons,List.foldl_nil] at this ⊢;rw[this,c1 Au Au,c2 Au,c3 Au Au,hk];rfl
  ·rfl
 | .mk k i n l [],h=>by unfold Ay;rfl
 | .mk k i n l [a],h=>by unfold Ay;rfl
 | .mk k i n l (a::b::c::r),h=>by unfold Ay;rfl
section
variable {E:List B8}
def Wh (E:List B8) (t w:Tm):Prop:=okB w=true∧∃n l l',FM E CE n l t= .ok (w,l')
theorem Wh.det {t a b:Tm}(h1:Wh E t a) (h2:Wh E t b):a=b:=by
 obtain⟨_,n,l,l',h1⟩:=h1;obtain⟨_,m,k,k',h2⟩:=h2;rcases Int.le_total l k with h | h
 ·exact ZT h1 h2 h
 exact(ZT h2 h1 h).symm
def N2 (E:List B8):Nat→Tm→Tm→Prop
 | 0,_,_=>False
 | k+1,t,n=>∃w ks zs,Wh E t w∧n=R0 (Ay w).1 ks zs∧E4 (N2 E k) (Ay w).1.kids ks∧E4 (N2 E k) (Ay w).2 zs
theorem N2.det:∀{k m:Nat}{t a b:Tm},N2 E k t a→N2 E m t b→a=b
 | 0,_,_,_,_,h,_=>h.elim
 | _+1,0,_,_,_,_,h=>h.elim
 | k+1,m+1,t,a,b,h1,h2=>by
  obtain⟨w,ks,zs,h1,rfl,h3,h4⟩:=h1;obtain⟨w2,ks2,as2,g1,rfl,g3,g4⟩:=h2;obtain rfl:=h1.det g1;have e1:ks=ks2:=E4.eq (R₁:=N2 E k) (R₂:=N2 E m) (fun x y z p q=>N2.det p q) h3 g3;have e2:zs=as2:=E4.eq (R₁:=N2 E k) (R₂:=N2 E m) (fun x y z p q=>N2.det p q) h4 g4;rw[e1,e2]
theorem N2.up:∀{k:Nat}{t a:Tm},N2 E k t a→N2 E (k+1) t a
 | 0,_,_,h=>h.elim
 | k+1,t,a,h=>by
  obtain⟨w,ks,zs,h1,h2,h3,h4⟩:=h;exact⟨w,ks,zs,h1,h2,h3.mono fun _ _=>N2.up,h4.mono fun _ _=>N2.up⟩
theorem N2.le {k m:Nat}(h:k≤m) {t a:Tm}(e:N2 E k t a):N2 E m t a:=by
 induction h with
 | refl=>exact e
 | step _ ih=>exact ih.up
def RO (E:List B8) (k:Int) (nm:ByteArray) (a:List Tm):Option (B8×Int×List Tm) :=
 if k≠3 then none
 else match GU E nm with
  | none=>none
  | some (d,j)=>if j<0 then none else if (a.length:Int)≠d.fixed+Ed d j then none else some (d,j,a.drop d.fixed.toNat)
theorem Py (t:Tm):Ce E t=RO E (Ay t).1.kind (Ay t).1.name (Ay t).2:=rfl
theorem gf {R:Tm→Tm→Prop}{k:Int}{nm:ByteArray}{a b:List Tm}(h:E4 R a b) :
  (RO E k nm a=none→RO E k nm b=none)∧(∀d j fs,RO E k nm a=some (d,j,fs)→∃fs',RO E k nm b=some (d,j,fs')∧E4 R fs fs'):=by
 unfold RO;rw[h.len];by_cases k3:k≠3
 ·rw[if_pos k3,if_pos k3];exact⟨fun _=>O,fun d j fs e=>by cases e⟩
 rw[if_neg k3,if_neg k3];cases GU E nm with
 | none=>exact⟨fun _=>rfl,fun d j fs e=>by cases e⟩
 | some q =>
  obtain⟨d,j⟩:=q;simp only;by_cases hj:j<0
  ·rw[if_pos hj,if_pos hj];exact⟨fun _=>O,fun d j fs e=>by cases e⟩
  rw[if_neg hj,if_neg hj];by_cases hl:(a.length:Int)≠d.fixed+Ed d j
  ·rw[if_pos hl,if_pos hl];exact⟨fun _=>O,fun d j fs e=>by cases e⟩
  rw[if_neg hl,if_neg hl];exact⟨fun e=>(by cases e),fun d1 j1 fs e=>(by cases e;exact⟨_,rfl,h.drop _⟩)⟩
theorem km {m:Tm}(ho:okB m=true) {R:Tm→Tm→Prop}{ks zs:List Tm}(h:E4 R (Ay m).2 zs) :
  (Ce E m=none→Ce E (R0 (Ay m).1 ks zs)=none)∧(∀d j fs,Ce E m=some (d,j,fs)→∃fs',Ce E (R0 (Ay m).1 ks zs)=some (d,j,fs')∧E4 R fs fs'):=by
 rw[Py,Py,QX (XB ho)];exact gf h
theorem fG {k:Nat}{v v' m:Tm}(h:N2 E k v v') (hm:Wh E v m):∃j,k=j+1∧(Ce E m=none→Ce E v'=none)∧(∀d i fs,Ce E m=some (d,i,fs)→∃fs',Ce E v'=some (d,i,fs')∧E4 (N2 E j) fs fs'):=by
 cases k with
 | zero=>exact h.elim
 | succ j =>
  obtain⟨w,ks,zs,h1,rfl,h3,h4⟩:=h;obtain rfl:=h1.det hm;exact⟨j,O,km hm.1 h4⟩
def Qt (E:List B8) (t:Tm):Prop:=∃M,∀m,M≤m→∀s,Di E CE m s t= .ok (none,s)
end
section
variable {E:List B8}
theorem p4 {R:Tm→Tm→Prop}{d:B8}{g m m':Tm}{a a':List Tm}{s s1:Int}(h:ER E CE d g a m s= .ok (none,s1)) (h0:Ce E m=none→Ce E m'=none)
  (h1:∀e j fs,Ce E m=some (e,j,fs)→∃fs',Ce E m'=some (e,j,fs')∧E4 R fs fs') (s2:Int):ER E CE d g a' m' s2= .ok (none,s2):=by
 unfold ER at h ⊢;split at h
 ·rename_i e;rw[h0 e]
 rename_i e j fs hc;obtain⟨fs',e1,_⟩:=h1 e j fs hc;rw[e1];simp only;split at h
 ·rename_i e;rw[if_pos e]
 rename_i e1;rw[if_neg e1];split at h
 ·rename_i e;rw[if_pos e]
 exact(Ij h).elim
theorem E4.with {α β:Type}{R:α→β→Prop}{p:β→Prop}:∀{xs:List α}{ys:List β},E4 R xs ys→(∀y∈ys,p y)→E4 (fun x y=>R x y∧p y) xs ys
 | [],[],_,_=>trivial
 | _::_,y::_,h,hp=>⟨⟨h.1,hp y Av⟩,E4.with h.2 fun z hz=>hp z (by simp[hz])⟩
 | [],_::_,h,_=>h.elim
 | _::_,[],h,_=>h.elim
theorem Y1 {v:Tm}{d:B8}{j:Int}{fs:List Tm}(ho:okB v=true) (h:Ce E v=some (d,j,fs)):∀x∈fs,okB x=true:=by
 rw[Py,RO] at h;by_cases k3:(Ay v).1.kind≠3
 ·rw[if_pos k3] at h;cases h
 rw[if_neg k3] at h;cases hf:GU E (Ay v).1.name with
 | none=>rw[hf] at h;cases h
 | some q =>
  rw[hf] at h;simp only at h;split at h
  ·cases h
  split at h
  ·cases h
  cases h;exact fun x hx=>(DB ho).2 x (List.mem_of_mem_drop hx)
theorem Z4 {k:Nat}(hq:∀j,j<k→∀v v',N2 E j v v'→okB v'=true→Qt E v') {h:Tm}{ar:Int}{a:List Tm}{n:Nat} :
  ∀(m:Nat) (t:FY) (vs vs':List Tm) (la:Tm) (s:Int) (q:(Option (Tm×List Tm)×Tm)×Int),EA E CE (FM E CE n) m t vs la s= .ok q→(∀b us,q.1.1=some (b,us)→(BU b h.levels).2≠0)→E4 (fun v v'=>okB v'=true∧∃j,j<k∧N2 E j v v') vs vs' →
   ∃M,∀m1,M≤m1→∀m2,M≤m2→∀pl s2,Fs E CE (Di E CE m1) h ar a m2 t vs' pl s2= .ok (none,s2)
 | 0,t,vs,vs',la,s,q,e,hb,hr=>by cases e
 | m+1,t,vs,vs',la,s,q,e,hb,hr=>by
  rw[EA] at e;by_cases hk:t.kind=1
  ·rw[if_pos hk] at e;by_cases hv:t.var<0∨t.var≥(vs.length:Int)
   ·refine⟨1,fun m1 h1 m2 h2 pl s2=>?_⟩;obtain⟨m2,rfl⟩:∃x,m2=x+1:=⟨m2 - 1,by omega⟩;rw[Fs,if_pos hk,if_pos (by rw[hr.len];exact hv)]
   rw[if_neg (fun g=>by
    rcases g with g | g | g
    ·exact hv (.inl g)
    ·exact hv (.inr g)
    cases g)] at e
   obtain⟨⟨w,l1⟩,h1,h2,h3⟩:=HA e;have hx:vs[t.var.toNat]?=some (vs.getD t.var.toNat default):=by
    have:t.var.toNat<vs.length:=by omega
    rw[List.getD_eq_getElem?_getD,List.getElem?_eq_getElem this];rfl
   obtain⟨v',hx',hov,j,hj,hnf⟩:=hr.get hx;have hgd:vs'.getD t.var.toNat default=v':=by rw[List.getD_eq_getElem?_getD,hx'];rfl
   obtain⟨i,hi,hc0,hc1⟩:=fG hnf ⟨h2,n,s,l1,h1⟩;have hv':¬(t.var<0∨t.var≥(vs'.length:Int)):=by rw[hr.len];exact hv
   simp only at h3;cases hcw:Ce E w with
   | none =>
    obtain⟨M,hM⟩:=hq j hj _ _ hnf hov;refine⟨M+1,fun m1 g1 m2 g2 pl s2=>?_⟩;obtain⟨m2,rfl⟩:∃x,m2=x+1:=⟨m2 - 1,by omega⟩;rw[Fs,if_pos hk,if_neg hv',hgd,hc0 hcw];simp only;rw[hM m1 Au s2];rfl
   | some r =>
    obtain⟨d,ci,fs⟩:=r;obtain⟨fs',hc',hfs⟩:=hc1 d ci fs hcw;rw[hcw] at h3;simp only at h3;cases hbr:Cl (EM d ci).name t.branches with
    | none =>
     refine⟨1,fun m1 g1 m2 g2 pl s2=>?_⟩;obtain⟨m2,rfl⟩:∃x,m2=x+1:=⟨m2 - 1,by omega⟩;rw[Fs,if_pos hk,if_neg hv',hgd,hc'];simp only;rw[hbr]
    | some t' =>
     rw[hbr] at h3;simp only at h3;obtain⟨M,hM⟩:=Z4 hq m t' (vs++fs) (vs'++fs') _ _ q h3 hb (hr.append ((hfs.with (Y1 hov hc')).mono fun _ _ g=>⟨g.2,i,by omega,g.1⟩));refine⟨M+1,fun m1 g1 m2 g2 pl s2=>?_⟩;obtain⟨m2,rfl⟩:∃x,m2=x+1:=⟨m2 - 1,by omega⟩;rw[Fs,if_pos hk,if_neg hv',hgd,hc'];simp only;rw[hbr];exact hM m1 Au m2 Au _ s2
  rw[if_neg hk] at e;cases e;refine⟨1,fun m1 h1 m2 h2 pl s2=>?_⟩;obtain⟨m2,rfl⟩:∃x,m2=x+1:=⟨m2 - 1,by omega⟩;rw[Fs,if_neg hk,FE,if_pos (hb _ _ rfl)]
theorem nU {m : Tm} (ho : okB m = true) {R : Tm → Tm → Prop} {ks zs : List Tm} (h : E4 R (Ay m).2 zs) : (R0 (Ay m).1 ks zs).kind = m.kind := by
 have hb := R9 m (Bu.1 ho).ci
 have key : ∀ (f : Tm) (xs : List Tm), xs ≠ [] → (apply f xs).kind = 4 := by
  intro f xs
  induction xs generalizing f with
  | nil => intro h; exact absurd rfl h
  | cons x xs ih =>
   intro _
   by_cases hx : xs = []
   ·subst hx; rfl
   exact ih (GJ f x) hx
 cases hs : (Ay m).2 with
 | nil =>
  rw [hs] at h hb
  cases zs with
  | nil => conv => rhs; rw [← hb]
           rfl
  | cons z zs => exact h.elim
 | cons x xs =>
  rw [hs] at h hb
  cases zs with
  | nil => exact h.elim
  | cons z zs =>
   rw [R0, key _ _ Av, ← hb, key _ _ Av]
theorem TI {l:List Tm}{i:Nat}(h:i<l.length):l[i]?=some (l.getD i default):=by
 rw[List.getD_eq_getElem?_getD,List.getElem?_eq_getElem h];rfl
theorem rO (hN:∀g x,Gx E g=some x→x.kind=5→0≤Bv (CR E x.decl)):∀(k:Nat) (t n:Tm),N2 E k t n→okB n=true→Qt E n
 | 0,t,n,h,ho=>h.elim
 | k+1,t,n,h,ho=>by
  have ih:∀j,j<k+1→∀v v',N2 E j v v'→okB v'=true→Qt E v':=fun j hj v v' g go=>rO hN j v v' g go;obtain⟨w,ks,zs,⟨hw,n1,l,l',hwh⟩,rfl,hks,hzs⟩:=h;obtain⟨n',l1,l2,_,hx⟩:=eN n1 l l' t w hwh;have hs:=QX (XB hw) ks zs;have hsk:(Ay (R0 (Ay w).1 ks zs)).1.kind=(Ay w).1.kind:=by rw[hs];rfl
  have hs2:(Ay (R0 (Ay w).1 ks zs)).2=zs:=by rw[hs]
  have hoz:=(DB ho).2;have hoh:=(DB ho).1;rw[hs2] at hoz;by_cases k5:(Ay w).1.kind=5
  ·refine⟨1,fun m hm s=>?_⟩;obtain⟨m,rfl⟩:∃x,m=x+1:=⟨m - 1,by omega⟩;exact TB ho (hsk.trans k5) (by rw[hs2,hzs.len];exact hx.lam k5)
  by_cases k9:(Ay w).1.kind=9∨(Ay w).1.kind=10
  ·obtain⟨p,e1,hp,h8,hwp,_⟩:=hx.proj k9;have hkids:(Ay w).1.kids=[p]:=by rw[e1];rfl
   rw[hkids] at hks
   match ks,hks,hs,ho,hsk,hs2,hoh with
   | [p'],hks,hs,ho,hsk,hs2,hoh =>
    have hop:okB p'=true:=Fh (i:=0) hoh (by rw[hs];rfl);obtain⟨M,hM⟩:=ih k Au p p' hks.1 hop;have hk8:p'.kind≠8:=by
     cases k with
     | zero=>exact hks.1.elim
     | succ j =>
      obtain⟨w2,ks2,zs2,hw2,rfl,g1,g2⟩:=hks.1;obtain rfl:=hw2.det ⟨hp,n',l1,l2,hwp⟩;rw[nU hp g2];exact h8
    refine⟨M+1,fun m hm s=>?_⟩;obtain⟨m,rfl⟩:∃x,m=x+1:=⟨m - 1,by omega⟩;rw[US ho (by rw[hsk];exact k9) (p:=p') (by rw[hs];rfl) hk8,hM m Au s];rfl
   | [],hks,_,_,_,_,_=>exact hks.elim
   | _::_::_,hks,_,_,_,_,_=>exact hks.2.elim
  by_cases k3:(Ay w).1.kind=3
  ·have hc:=hx.con k3;have hk0:(Ay w).1.kids=[]:=by
    have hw1:=(Bu.1 (DB hw).1).wt;generalize (Ay w).1=g at hw1 k3;obtain⟨gk,gi,gn,gl,gs⟩:=g;have h:=hw1.1;rw[show gk=3 from k3,show arity 3=0 from rfl] at h;exact List.eq_nil_of_length_eq_zero (by show gs.length=0;omega)
   have hks0:ks=[]:=by
    rw[hk0] at hks;cases ks with
    | nil=>rfl
    | cons _ _=>exact hks.elim
   have hh:(Ay (R0 (Ay w).1 ks zs)).1=(Ay w).1:=by
    rw[hs,hks0];generalize (Ay w).1=g at hk0;obtain⟨gk,gi,gn,gl,gs⟩:=g;simp only[Tm.kids] at hk0;subst hk0;rfl
   have go:∀M,(∀m,M≤m→∀s,IA E CE m (Ay w).1 zs s= .ok (none,s))→Qt E (R0 (Ay w).1 ks zs):=by
    intro M hM;refine⟨M+1,fun m hm s=>?_⟩;obtain⟨m,rfl⟩:∃x,m=x+1:=⟨m - 1,by omega⟩;rw[Nb ho (hsk.trans k3),hh,hs2];exact hM m Au s
   unfold Dc at hc;cases hu:Gx E (Ay w).1 with
   | none=>exact go 0 fun m _ s=>by rw[IA,hu]
   | some x =>
    rw[hu] at hc;simp only at hc;by_cases x1:x.kind=1
    ·rw[if_pos x1] at hc;exact go 0 fun m _ s=>by
      rw[IA,hu];simp only;rw[if_pos x1];unfold EP at hc ⊢;split at hc
      ·rename_i e;rw[if_pos e]
      exact(Ij hc).elim
    rw[if_neg x1] at hc;by_cases x5:x.kind=5
    ·rw[if_pos x5] at hc;unfold QE at hc;by_cases hl:((Ay w).2.length:Int)≤Bv (CR E x.decl)
     ·exact go 0 fun m _ s=>by
       rw[IA,hu];simp only;rw[if_neg x1,if_neg (by rw[hzs.len];omega),if_neg Au]
     rw[if_neg hl] at hc;obtain⟨⟨m,l3⟩,h1,h2,h3⟩:=HA hc;by_cases hneg:(Bv (CR E x.decl)).toNat<(Ay w).2.length
     ·obtain⟨v',hv',hnf⟩:=hzs.get (TI hneg);have hgd:zs.getD (Bv (CR E x.decl)).toNat default=v':=by rw[List.getD_eq_getElem?_getD,hv'];rfl
      have hov:=hoz v' (List.mem_of_getElem? hv');obtain⟨i,rfl,hc0,hc1⟩:=fG hnf ⟨h2,n',l1,l3,h1⟩;obtain⟨M,hM⟩:=ih (i+1) Au _ _ hnf hov;exact go M fun m2 hm s=>by
       rw[IA,hu];simp only;rw[if_neg x1,if_pos ⟨x5,by rw[hzs.len];omega⟩,hgd];cases hcv:Ce E v' with
       | some r=>exact p4 h3 hc0 hc1 s
       | none =>
        simp only;rw[hM m2 hm s];rfl
     have:=hN _ _ hu x5;omega
    rw[if_neg x5] at hc;by_cases x6:x.kind=6
    ·rw[if_pos x6] at hc;unfold Iw at hc;by_cases hl:((Ay w).2.length:Int)<(Gh (CR E x.decl) x.item).arity
     ·exact go 0 fun m _ s=>by
       rw[IA,hu];simp only;rw[if_neg x1,if_neg (fun e=>x5 e.1),if_neg (fun e=>by have:=e.2;rw[hzs.len] at this;omega)]
     rw[if_neg hl] at hc;obtain⟨q,h1,h2⟩:=D9 hc;have hb:∀b us,q.1.1=some (b,us)→(BU b (Ay w).1.levels).2≠0:=by
      intro b us e;rw[e] at h2;simp only at h2;rw[if_neg (by simp[CE]),FE] at h2;split at h2
      ·assumption
      split at h2
      ·cases h2
      exact(Ij h2).elim
     obtain⟨M,hM⟩:=Z4 (k:=k+1) ih (h:=(Ay w).1) (ar:=(Gh (CR E x.decl) x.item).arity) (a:=zs) n' _ _ (zs.take (Gh (CR E x.decl) x.item).arity.toNat) _ _ q h1 hb
      (((hzs.take _).with fun y hy=>hoz y (List.mem_of_mem_take hy)).mono fun _ _ g=>⟨g.2,k,by omega,g.1⟩)
     exact go M fun m hm s=>by
      rw[IA,hu];simp only;rw[if_neg x1,if_neg (fun e=>x5 e.1),if_pos ⟨x6,by rw[hzs.len];omega⟩];exact hM m hm m hm _ s
    exact go 0 fun m _ s=>by
     rw[IA,hu];simp only;rw[if_neg x1,if_neg (fun e=>x5 e.1),if_neg (fun e=>x6 e.1)]
  refine⟨1,fun m hm s=>?_⟩;obtain⟨m,rfl⟩:∃x,m=x+1:=⟨m - 1,by omega⟩;exact dB ho (by rw[hsk];exact k5) (by rw[hsk];exact hx.lt) (by rw[hsk];exact fun e=>k9 (.inl e)) (by rw[hsk];exact fun e=>k9 (.inr e)) (by rw[hsk];exact k3)
end
section
variable {E:List B8}
def Nm (E:List B8):Nat→Tm→Prop
 | 0,_=>False
 | k+1,t=>(∃m s s1,Di E CE m s t= .ok (none,s1))∧∀x∈(Ay t).1.kids++(Ay t).2,Nm E k x
theorem Nm.up:∀{k:Nat}{t:Tm},Nm E k t→Nm E (k+1) t
 | 0,_,h=>h.elim
 | k+1,t,h=>⟨h.1,fun x hx=>(h.2 x hx).up⟩
def SN (E:List B8) (v:Tm):Prop:=∃M,∀m,M≤m→∀l,FM E CE m l v= .ok (v,l)
theorem mc {v:Tm}{d:B8}{j:Int}{fs:List Tm}(h:Ce E v=some (d,j,fs)):∀x∈fs,x∈(Ay v).2:=by
 rw[Py,RO] at h;by_cases k3:(Ay v).1.kind≠3
 ·rw[if_pos k3] at h;cases h
 rw[if_neg k3] at h;cases hf:GU E (Ay v).1.name with
 | none=>rw[hf] at h;cases h
 | some q =>
  rw[hf] at h;simp only at h;split at h
  ·cases h
  split at h
  ·cases h
  cases h;exact fun x hx=>List.mem_of_mem_drop hx
theorem dU {l:List Tm}{x:Tm}(h:x∈l):size x≤BB l:=by
 obtain⟨i,hi⟩:=List.mem_iff_getElem?.1 h;exact CU hi
theorem D1 {v x:Tm}(h:x∈(Ay v).2):size x+1≤size v:=by
 have h1:=EL v;have h2:=dU h;have h3:=size_pos (Ay v).1;omega
theorem FH {v x:Tm}(h:x∈(Ay v).1.kids):size x+1≤size v:=by
 have h1:=EL v;generalize (Ay v).1=g at h h1;obtain⟨k,i,n,l,ks⟩:=g;have h2:size x≤BB ks:=dU h;simp only[size] at h1;omega
theorem nM {k:Nat}(hq:∀j,j≤k→∀v,Nm E j v→okB v=true→size v≤40000→SN E v) {h:Tm}{ar:Int}{a:List Tm}{T:Int→Tm→Out (Option Tm×Int)} :
  ∀(m:Nat) (t:FY) (vs:List Tm) (pl:List (Int×List Int)) (s s1:Int),Fs E CE T h ar a m t vs pl s= .ok (none,s1)→(∀v∈vs,okB v=true∧size v≤40000∧∃j,j≤k∧Nm E j v) →
   ∃M,∀n,M≤n→∀m2,M≤m2→∀la l,∃q,EA E CE (FM E CE n) m2 t vs la l= .ok (q,l)∧∀b us,q.1=some (b,us)→(BU b h.levels).2≠0
 | 0,t,vs,pl,s,s1,e,hv=>by cases e
 | m+1,t,vs,pl,s,s1,e,hv=>by
  rw[Fs] at e;by_cases hk:t.kind=1
  ·rw[if_pos hk] at e;by_cases hr:t.var<0∨t.var≥(vs.length:Int)
   ·refine⟨1,fun n h1 m2 h2 la l=>⟨(none,la),?_,fun b us e=>by cases e⟩⟩;obtain⟨m2,rfl⟩:∃x,m2=x+1:=⟨m2 - 1,by omega⟩;rw[EA,if_pos hk,if_pos (hr.elim .inl fun g=> .inr (.inl g))]
   rw[if_neg hr] at e;have hx:vs[t.var.toNat]?=some (vs.getD t.var.toNat default):=TI Au;obtain⟨ho,hz,j,hj,hn⟩:=hv _ (List.mem_of_getElem? hx);generalize vs.getD t.var.toNat default=v at *;have hgd:vs.getD t.var.toNat default=v:=by rw[List.getD_eq_getElem?_getD,hx];rfl
   obtain⟨M,hM⟩:=hq j hj v hn ho hz;have hr':∀l:Int,¬(t.var<0∨t.var≥(vs.length:Int)∨CE.over l=true):=fun l g=>by
    rcases g with g | g | g
    ·exact hr (.inl g)
    ·exact hr (.inr g)
    cases g
   cases hcw:Ce E v with
   | none =>
    refine⟨M+1,fun n h1 m2 h2 la l=>⟨(none,v),?_,fun b us e=>by cases e⟩⟩;obtain⟨m2,rfl⟩:∃x,m2=x+1:=⟨m2 - 1,by omega⟩;rw[EA,if_pos hk,if_neg (hr' l),hgd,hM n Au l];simp only[Out.chk,Out.bind];rw[if_pos ho];rw[hcw]
   | some r =>
    obtain⟨d,ci,fs⟩:=r;rw[hcw] at e;simp only at e;cases hbr:Cl (EM d ci).name t.branches with
    | none =>
     refine⟨M+1,fun n h1 m2 h2 la l=>⟨(none,v),?_,fun b us e=>by cases e⟩⟩;obtain⟨m2,rfl⟩:∃x,m2=x+1:=⟨m2 - 1,by omega⟩;rw[EA,if_pos hk,if_neg (hr' l),hgd,hM n Au l];simp only[Out.chk,Out.bind];rw[if_pos ho];rw[hcw];simp only;rw[hbr]
    | some t' =>
     rw[hbr] at e;simp only at e;have hfs:∀x∈fs,okB x=true∧size x≤40000∧∃j,j≤k∧Nm E j x:=by
      intro x hxf;have hmem:x∈(Ay v).2:=mc hcw x hxf;refine⟨Y1 ho hcw x hxf,by have:=D1 hmem;omega,?_⟩;cases j with
      | zero=>exact hn.elim
      | succ j=>exact⟨j,by omega,hn.2 x (List.mem_append_right _ hmem)⟩
     obtain⟨M2,hM2⟩:=nM hq m t' (vs++fs) _ s s1 e (fun x hx=>by
      rcases List.mem_append.1 hx with g | g
      ·exact hv x g
      exact hfs x g)
     refine⟨M+M2+1,fun n h1 m2 h2 la l=>?_⟩;obtain⟨m2,rfl⟩:∃x,m2=x+1:=⟨m2 - 1,by omega⟩;obtain⟨q,g1,g2⟩:=hM2 n Au m2 Au v l;refine⟨q,?_,g2⟩;rw[EA,if_pos hk,if_neg (hr' l),hgd,hM n Au l];simp only[Out.chk,Out.bind];rw[if_pos ho];rw[hcw];simp only;rw[hbr];exact g1
  rw[if_neg hk] at e;refine⟨1,fun n h1 m2 h2 la l=>⟨(some (t.body,vs),BN),?_,?_⟩⟩
  ·obtain⟨m2,rfl⟩:∃x,m2=x+1:=⟨m2 - 1,by omega⟩;rw[EA,if_neg hk]
  intro b us e2;cases e2;rw[FE] at e;split at e
  ·assumption
  split at e
  ·cases e
  exact(Ij e).elim
theorem QO (l:List Tm):l.length≤BB l:=by
 induction l with
 | nil=>simp[BB]
 | cons x l ih=>have:=size_pos x;simp only[List.length_cons,BB];omega
theorem rv (hN:∀g x,Gx E g=some x→x.kind=5→0≤Bv (CR E x.decl)):∀(k:Nat) (t:Tm),Nm E k t→okB t=true→size t≤40000→SN E t
 | 0,t,h,_,_=>h.elim
 | k+1,t,h,ho,hz=>by
  have ih:∀j,j≤k→∀v,Nm E j v→okB v=true→size v≤40000→SN E v:=fun j hj v g go gz=>rv hN j v g go gz;obtain⟨⟨m0,s0,s1,hq⟩,hp⟩:=h;obtain⟨m0,rfl⟩:=Tb hq Av;have hm:CE.many (Ay t).2.length=false:=by
   have:=EL t;have:=QO (Ay t).2;simp[CE];omega
  have hoh:=(DB ho).1;have hoa:=(DB ho).2;have hv:∀s:Int,CE.over s=false:=fun _=>rfl;by_cases k5:(Ay t).1.kind=5
  ·by_cases hl:(Ay t).2.length=0
   ·refine⟨1,fun m h1 l=>?_⟩;obtain⟨m,rfl⟩:∃x,m=x+1:=⟨m - 1,by omega⟩;exact MI ho (hv l) hm k5 hl
   obtain⟨b,hb,_⟩:=ED hoh (i:=1) (by rw[k5];decide);rw[XA ho k5 hl hb] at hq;exact(Ij hq).elim
  by_cases k11:(Ay t).1.kind=11
  ·obtain⟨v,hv1,_⟩:=ED hoh (i:=1) (by rw[k11];decide);obtain⟨b,hb,_⟩:=ED hoh (i:=2) (by rw[k11];decide);rw[Wo ho k11 hv1 hb] at hq;exact(Ij hq).elim
  by_cases k9:(Ay t).1.kind=9∨(Ay t).1.kind=10
  ·obtain⟨p,hp0,hpo,hps⟩:=ED hoh (i:=0) (by rcases k9 with g | g<;>(rw[g];decide));by_cases h8:p.kind=8
   ·obtain⟨y,hy,_⟩:=ED hpo (i:=(1+(Ay t).1.kind - 9).toNat) (by rw[h8,show arity 8=3 from rfl];omega);rw[T6 ho k9 hp0 h8 hy] at hq;exact(Ij hq).elim
   have hmem:p∈(Ay t).1.kids:=List.mem_of_getElem? hp0;obtain⟨M,hM⟩:=ih k Au p (hp p (List.mem_append_left _ hmem)) hpo (by have:=FH hmem;omega);refine⟨M+1,fun m h1 l=>?_⟩;obtain⟨m,rfl⟩:∃x,m=x+1:=⟨m - 1,by omega⟩;rw[LY ho (hv l) hm k9 hp0,hM m Au l];simp only[Out.chk,Out.bind];rw[if_pos hpo,KF (r:=(p,l)) h8];have hb:=R9 t (Bu.1 ho).ci;have hh:Ha (Ay t).1.kind p=(Ay t).1:=by
    have hw:=(Bu.1 hoh).wt;have hc:=(Bu.1 hoh).ci;generalize (Ay t).1=g at hw hc hp0 k9;obtain⟨gk,gi,gn,gl,gs⟩:=g;obtain⟨c1,c2,c3⟩:=rQ hc;have h1:=hw.1;simp only[Tm.kind] at k9;have hl1:gs.length=1:=by rcases k9 with g | g<;>(rw[g] at h1;simp[arity] at h1;omega)
    match gs,hl1,hp0 with
    | [q],_,hp0 =>
     cases hp0;simp only[Ha,Tm.kind];rw[c1 Au Au,c2 Au,c3 Au Au]
   simp only;rw[hh,hb]
  by_cases k3:(Ay t).1.kind=3
  ·rw[Nb ho k3] at hq;have go:∀M,(∀m,M≤m→∀l,Dc E CE (FM E CE m) m (Ay t).1 (Ay t).2 l= .ok (none,l))→SN E t:=by
    intro M hM;refine⟨M+1,fun m h1 l=>?_⟩;obtain⟨m,rfl⟩:∃x,m=x+1:=⟨m - 1,by omega⟩;rw[JG ho (hv l) hm k3,hM m Au l];rfl
   unfold IA at hq;cases hu:Gx E (Ay t).1 with
   | none=>exact go 0 fun m _ l=>by rw[Dc,hu]
   | some x =>
    rw[hu] at hq;simp only at hq;by_cases x1:x.kind=1
    ·rw[if_pos x1] at hq;exact go 0 fun m _ l=>by
      rw[Dc,hu];simp only;rw[if_pos x1];exact ZI hq l
    rw[if_neg x1] at hq;by_cases x5:x.kind=5
    ·by_cases hl:((Ay t).2.length:Int)≤Bv (CR E x.decl)
     ·exact go 0 fun m _ l=>by
       rw[Dc,hu];simp only;rw[if_neg x1,if_pos x5,QE,if_pos hl]
     rw[if_pos ⟨x5,by omega⟩] at hq;by_cases hneg:(Bv (CR E x.decl)).toNat<(Ay t).2.length
     ·have hx:=TI hneg;have hmem:=List.mem_of_getElem? hx;generalize (Ay t).2.getD (Bv (CR E x.decl)).toNat default=v at *;have hgd:(Ay t).2.getD (Bv (CR E x.decl)).toNat default=v:=by rw[List.getD_eq_getElem?_getD,hx];rfl
      obtain⟨M,hM⟩:=ih k Au v (hp v (List.mem_append_right _ hmem)) (hoa v hmem) (by have:=D1 hmem;omega);refine go M fun m h1 l=>?_;rw[Dc,hu];simp only;rw[if_neg x1,if_pos x5,QE,if_neg hl,hgd,hM m h1 l];simp only[Out.chk,Out.bind];rw[if_pos (hoa v hmem)];cases hcv:Ce E v with
      | none=>rw[ER,hcv]
      | some r=>rw[hcv] at hq;exact du hq l
     have:=hN _ _ hu x5;omega
    by_cases x6:x.kind=6
    ·by_cases hl:((Ay t).2.length:Int)<(Gh (CR E x.decl) x.item).arity
     ·exact go 0 fun m _ l=>by
       rw[Dc,hu];simp only;rw[if_neg x1,if_neg x5,if_pos x6,Iw,if_pos hl]
     rw[if_neg (fun e=>x5 e.1),if_pos ⟨x6,by omega⟩] at hq;obtain⟨M,hM⟩:=nM (k:=k) ih _ _ _ _ _ _ hq (fun v hv=>by
      have hmem:=List.mem_of_mem_take hv;exact⟨hoa v hmem,by have:=D1 hmem;omega,k,by omega,hp v (List.mem_append_right _ hmem)⟩)
     refine go M fun m h1 l=>?_;obtain⟨q,g1,g2⟩:=hM m h1 m h1 BN l;rw[Dc,hu];simp only;rw[if_neg x1,if_neg x5,if_pos x6,Iw,if_neg hl,g1];simp only[Out.bind];cases hq1:q.1 with
     | none=>rfl
     | some r =>
      obtain⟨b,us⟩:=r;simp only;rw[if_neg (by simp[CE]),FE,if_pos (g2 b us hq1)]
    exact go 0 fun m _ l=>by
     rw[Dc,hu];simp only;rw[if_neg x1,if_neg x5,if_neg x6]
  refine⟨1,fun m h1 l=>?_⟩;obtain⟨m,rfl⟩:∃x,m=x+1:=⟨m - 1,by omega⟩;exact Sk ho (hv l) hm k5 k11 (fun e=>k9 (.inl e)) (fun e=>k9 (.inr e)) k3
theorem kX {t:Tm}(hc:Ci t):R0 (Ay t).1 (Ay t).1.kids (Ay t).2=t:=by
 have h:=R9 t hc;have e:∀g:Tm,Tm.mk g.kind g.index g.name g.levels g.kids=g:=fun g=>by cases g;rfl
 rw[R0,e,h]
theorem UJ {R:Tm→Tm→Prop}:∀{l:List Tm},(∀x∈l,R x x)→E4 R l l
 | [],_=>trivial
 | x::l,h=>⟨h x Av,UJ fun y hy=>h y (by simp[hy])⟩
theorem LJ {t x:Tm}(ho:okB t=true) (h:x∈(Ay t).1.kids):okB x=true:=by
 obtain⟨i,hi⟩:=List.mem_iff_getElem?.1 h;exact Fh (DB ho).1 hi
theorem kM (hN:∀g x,Gx E g=some x→x.kind=5→0≤Bv (CR E x.decl)):∀(k:Nat) (t:Tm),Nm E k t→okB t=true→size t≤40000→N2 E k t t
 | 0,t,h,_,_=>h.elim
 | k+1,t,h,ho,hz=>by
  obtain⟨M,hM⟩:=rv hN (k+1) t h ho hz;refine⟨t,(Ay t).1.kids,(Ay t).2,⟨ho,M,0,0,hM M (Nat.le_refl _) 0⟩,(kX (Bu.1 ho).ci).symm,UJ fun x hx=>?_,UJ fun x hx=>?_⟩
  ·exact kM hN k x (h.2 x (List.mem_append_left _ hx)) (LJ ho hx) (by have:=FH hx;omega)
  exact kM hN k x (h.2 x (List.mem_append_right _ hx)) ((DB ho).2 x hx) (by have:=D1 hx;omega)
theorem lj (hN:∀g x,Gx E g=some x→x.kind=5→0≤Bv (CR E x.decl)):∀(k:Nat) (t n:Tm),N2 E k t n→okB n=true→Nm E k n
 | 0,t,n,h,_=>h.elim
 | k+1,t,n,h,ho=>by
  obtain⟨M,hM⟩:=rO hN (k+1) t n h ho;obtain⟨w,ks,zs,hw,rfl,hks,hzs⟩:=h;refine⟨⟨M,0,0,hM M (Nat.le_refl _) 0⟩,fun x hx=>?_⟩;have hs:=QX (XB hw.1) ks zs;have key:∀{l:List Tm} {l':List Tm},E4 (N2 E k) l l'→x∈l'→∃y,N2 E k y x:=by
   intro l
   induction l with
   | nil=>intro l' h hx;cases l' with
    | nil=>cases hx
    | cons _ _=>exact h.elim
   | cons y l ih=>intro l' h hx;cases l' with
    | nil=>cases hx
    | cons z l' =>
     rcases List.mem_cons.1 hx with e | e
     ·subst e;exact⟨y,h.1⟩
     exact ih h.2 e
  rcases List.mem_append.1 hx with g | g
  ·have hox:=LJ ho g;rw[hs] at g;obtain⟨y,hy⟩:=key hks g;exact lj hN k y x hy hox
  have hox:=(DB ho).2 x g;rw[hs] at g;obtain⟨y,hy⟩:=key hzs g;exact lj hN k y x hy hox
theorem mE:∀(k:Nat) (t:Tm),size t≤k→Gu (KV E) k t=true→Nm E k t
 | 0,t,h,_=>by have:=size_pos t;omega
 | k+1,t,h,e=>by
  rw[Gu,Bool.and_eq_true,Bool.not_eq_true',List.all_eq_true] at e;refine⟨⟨FN,0,0,NG (S':=CE) FN _ _ _ (O3.1 e.1) 0⟩,fun x hx=>mE k x ?_ (e.2 x hx)⟩;rcases List.mem_append.1 hx with g | g
  ·have:=FH g;omega
  have:=D1 g;omega
theorem wG (hE:G2 E) {k:Nat}{t:Tm}(h:Nm E k t) (ho:okB t=true) (hz:size t≤10000):KV E t=false:=by
 cases k with
 | zero=>exact h.elim
 | succ k =>
  obtain⟨⟨m,s,s1,hq⟩,_⟩:=h;obtain⟨q,c,e,_⟩:=ed hE ho hz;have h1:=NG (S':=DK) m s t s1 hq G0;have:q=none∧c=G0:=by
   rcases Nat.le_total m FN with g | g
   ·rcases cX (E:=E) (S:=DK) m FN g G0 t with x | x
    ·rw[x] at h1;cases h1
    rw[h1,e] at x;cases x;exact⟨rfl,rfl⟩
   rcases cX (E:=E) (S:=DK) FN m g G0 t with x | x
   ·rw[x] at e;cases e
   rw[e,h1] at x;cases x;exact⟨rfl,rfl⟩
  obtain⟨rfl,rfl⟩:=this;exact O3.2 e
theorem dG (hE:G2 E):∀(k j:Nat) (t:Tm),Nm E k t→okB t=true→size t≤10000→Gu (KV E) j t=true
 | 0,_,_,h,_,_=>h.elim
 | _+1,0,_,_,_,_=>rfl
 | k+1,j+1,t,h,ho,hz=>by
  rw[Gu,Bool.and_eq_true,Bool.not_eq_true',List.all_eq_true];refine⟨wG hE h ho hz,fun x hx=>?_⟩;rcases List.mem_append.1 hx with g | g
  ·exact dG hE k j x (h.2 x hx) (LJ ho g) (by have:=FH g;omega)
  exact dG hE k j x (h.2 x hx) ((DB ho).2 x g) (by have:=D1 g;omega)
end
end Go.Eu
