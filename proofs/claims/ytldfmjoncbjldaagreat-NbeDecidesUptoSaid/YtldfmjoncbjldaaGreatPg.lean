/- Part of the proofs: an abstract program logic, plain models and contracts of functions. -/
import Derived.Test.YtldfmjoncbjldaaGreatPe
import Derived.Test.YtldfmjoncbjldaaGreatPd
import Derived.Test.YtldfmjoncbjldaaGreatPf
set_option linter.unusedVariables false
set_option linter.unusedSimpArgs false
set_option maxRecDepth 100000
namespace Go.Proofs.YtldfmjoncbjldaaGreat
open Go.Abs Go.Eu
theorem _root_.Go.AF {α:Prop}(h:α:=by simp only[List.length_map,List.length_append,List.length_take,List.length_cons,List.length_nil];omega):α:=h
theorem pL : ∀ (l : CX) (n : Int), (OA l) → En Tryz.prog 209 [.agg ((B4 l).map .p), .p (I n)] (.tup [.agg ((B4 ((F5 l n).1)).map .p), .p (I ((F5 l n).2))]) := by
 intro l n h1
 have hl := h1.vars
 simp only [Db] at hl
 refine DI Tryz.func209 ?_
 refine CG [0] O O fun b2 => ?_
 refine Bp [0] O (Az FC O) fun b4 => ?_
 refine CQ [2, 1] O (M7 l h1) ?_
 refine BC [1] rfl ?_ ?_ <;> intro c
 ·refine CK [3, 0, 0] O ?_
  refine A5 (BE (i := 0) O) ?_
  refine BP (A9 [0] O (Bg [0] [] O O ⟨by rw [yd (by simpa using c)]; rfl, rfl⟩))
 have hv : B0 l = true := by simpa using c
 have hv0 := aD hv
 refine BC [2] rfl ?_ ?_ <;> intro c1
 ·refine CK [3, 0, 0] O ?_
  refine A5 (BE (i := 0) O) ?_
  refine BP (A9 [0] O (Bg [0] [] O O ⟨by rw [yP hv c1]; rfl, rfl⟩))
 refine BC [2] rfl ?_ ?_ <;> intro c2
 ·refine CK [3, 0, 0] O ?_
  refine A5 (BE (i := 0) O) ?_
  refine BP (A9 [0] O (Bg [0] [] O O ⟨by rw [yT hv Au c2]; rfl, rfl⟩))
 refine Bp [1] O (Az FC O) fun b6 => ?_
 refine CI [1, 0, 0] 8 [1, 2, 4, 6] 27 ((decide ((l.const : Int) > (0 : Int))) || (((l.vars.length : Nat) : Int) == (0 : Int))) O O ?_ ?_
 ·refine Bc [4, 2] 22 rfl rfl ?_ ?_ <;> intro g
  ·exact CT [5] O
  refine CA [2, 2] O O (List.length_map _) ?_
  exact CT [2] O
 refine BC [0] rfl ?_ ?_ <;> intro c3
 ·refine BC [9, 2, 0, 0, 0] rfl ?_ ?_ <;> intro c4
  ·refine CK [3, 1, 0] O ?_
   refine A5 (BE (i := 1) O) ?_
   refine BP (A9 [0] O (Bg [1] [] O O ⟨by rw [yX hv Au Au (by rw [Nh Au]; omega)]; rfl, rfl⟩))
  refine DS [0] O ?_
  refine BH (EV (i := 0) O (Ux (aw (we O) (aw (Iv) (HT))))) ?_
  refine BH (H6 (sz := 2)) ?_
  refine BW (GG (α := Nat × Option Nat × Nat) [1] [1, 2, 4, 6] [0, 1, 2, 3] (fun (i, o, cp) => [(7, .p (I (i : Int)))]) (fun (i, o, cp) => [(0, .vec o 2 (List.map Ey ((l.vars.take i).map (P1 n))) cp), (1, .box b6 [.p (I ((l.const : Int) + (n : Int))), .vs o (List.map Ey ((l.vars.take i).map (P1 n))).length cp])]) (fun (i, o, cp) => l.vars.length - i) (fun (i, o, cp) => i ≤ l.vars.length ∧ (∀ j, j < i → ∀ y, l.vars[j]? = some y → ¬ 100 < y.plus + n)) ⟨0, none, 0⟩ O O O (⟨by omega, fun j h => by omega⟩) ?_)
  rintro ⟨i, o, cp⟩ hC
  try simp only at hC
  obtain ⟨hi, hC⟩ := hC
  refine CA [3, 3] O O (List.length_map _) ?_
  refine BC [1] rfl ?_ ?_ <;> intro c5
  ·obtain ⟨x, hx⟩ := A1 (l := l.vars) (i := i) Au
   have hw := L8 hv hx
   refine A2 [3, 3] O (A0 DC O O Au (DT hx) (O)) ?_
   refine BC [5] rfl ?_ ?_ <;> intro c6
   ·refine CK [3, 2, 0] O ?_
    refine A5 (BE (i := 2) O) ?_
    refine BP (A9 [0] O (Bg [2] [] O O ⟨by rw [yC hv Au Au (by rw [Nh Au]; omega) hx c6]; rfl, rfl⟩))
   refine E2 [0] [18] O ?_
   refine Bb [5, 1, 3] O ?_
   refine A3 O (fun _ => A0 DC O O Au (DT hx) (O)) Aw ?_
   refine Bb [5, 3] O ?_
   refine A3 O (fun _ => A0 DC O O Au (DT hx) (O)) Aw ?_
   refine Bb [5] O ?_
   refine A3 O (fun _ => BJ DC HH O O O O O) Aw ?_
   refine JS [] O O (Bi (i := 0) (rows' := List.map Ey [(B6.mk x.index ((x.plus : Int) + (n : Int)))]) DC DC HH O O O O O O (G6 _) AF (Fx (f := Ey) ((l.vars.take i).map (P1 n)) [(B6.mk x.index ((x.plus : Int) + (n : Int)))])) Ap fun o1 cp1 => ⟨AB, Aw, ?_⟩
   refine CY tab 2 [1, 0] O ?_
   exact Cu (FR [3] 0 ⟨i + 1, o1, cp1⟩ O (⟨by omega, Cg (p := fun _ (y : B6) => ¬ 100 < y.plus + n) hC hx Au⟩) (e2 := wl (Eo (f := Ey) ((l.vars.take i).map (P1 n) ++ [(B6.mk x.index ((x.plus : Int) + (n : Int)))]) (by rw [List.take_add_one, hx]; simp [P1])) (wl (Ux (aw (we rfl) (aw (we (FQ (f := Ey) ((l.vars.take i).map (P1 n) ++ [(B6.mk x.index ((x.plus : Int) + (n : Int)))]) (by rw [List.take_add_one, hx]; simp [P1]))) (HT)))) (wl (oe rfl) (wl (oe rfl) (Ih))))))
  refine DF [0] O ?_
  refine DS [0] O ?_
  refine BH (Cf (i := 0) (j := 1) (q := 1) [] O O O (DA Aw)) ?_
  refine BW (A9 [3, 0, 1, 0] O (Bg [1] [] O O ⟨by rw [yH hv Au Au (by rw [Nh Au]; omega) fun j hj => hC j Au, Nh Au, List.take_of_length_le Au]; rfl, rfl⟩))
 refine BC [3, 0] rfl ?_ ?_ <;> intro c4
 ·refine CK [3, 1, 0] O ?_
  refine A5 (BE (i := 1) O) ?_
  refine BP (A9 [0] O (Bg [1] [] O O ⟨by exfalso; simp at c4, rfl⟩))
 refine DS [0] O ?_
 refine BH (EV (i := 0) O (Ux (aw (we O) (aw (Iv) (HT))))) ?_
 refine BH (H6 (sz := 2)) ?_
 refine BW (GG (α := Nat × Option Nat × Nat) [1] [1, 2, 4, 6] [0, 1, 2, 3] (fun (i, o, cp) => [(7, .p (I (i : Int)))]) (fun (i, o, cp) => [(0, .vec o 2 (List.map Ey ((l.vars.take i).map (P1 n))) cp), (1, .box b6 [.p (I 0), .vs o (List.map Ey ((l.vars.take i).map (P1 n))).length cp])]) (fun (i, o, cp) => l.vars.length - i) (fun (i, o, cp) => i ≤ l.vars.length ∧ (∀ j, j < i → ∀ y, l.vars[j]? = some y → ¬ 100 < y.plus + n)) ⟨0, none, 0⟩ O O O (⟨by omega, fun j h => by omega⟩) ?_)
 rintro ⟨i, o, cp⟩ hC
 try simp only at hC
 obtain ⟨hi, hC⟩ := hC
 refine CA [3, 3] O O (List.length_map _) ?_
 refine BC [1] rfl ?_ ?_ <;> intro c5
 ·obtain ⟨x, hx⟩ := A1 (l := l.vars) (i := i) Au
  have hw := L8 hv hx
  refine A2 [3, 3] O (A0 DC O O Au (DT hx) (O)) ?_
  refine BC [5] rfl ?_ ?_ <;> intro c6
  ·refine CK [3, 2, 0] O ?_
   refine A5 (BE (i := 2) O) ?_
   refine BP (A9 [0] O (Bg [2] [] O O ⟨by rw [yC hv Au Au (by rw [Qn Au]; omega) hx c6]; rfl, rfl⟩))
  refine E2 [0] [18] O ?_
  refine Bb [5, 1, 3] O ?_
  refine A3 O (fun _ => A0 DC O O Au (DT hx) (O)) Aw ?_
  refine Bb [5, 3] O ?_
  refine A3 O (fun _ => A0 DC O O Au (DT hx) (O)) Aw ?_
  refine Bb [5] O ?_
  refine A3 O (fun _ => BJ DC HH O O O O O) Aw ?_
  refine JS [] O O (Bi (i := 0) (rows' := List.map Ey [(B6.mk x.index ((x.plus : Int) + (n : Int)))]) DC DC HH O O O O O O (G6 _) AF (Fx (f := Ey) ((l.vars.take i).map (P1 n)) [(B6.mk x.index ((x.plus : Int) + (n : Int)))])) Ap fun o1 cp1 => ⟨AB, Aw, ?_⟩
  refine CY tab 2 [1, 0] O ?_
  exact Cu (FR [3] 0 ⟨i + 1, o1, cp1⟩ O (⟨by omega, Cg (p := fun _ (y : B6) => ¬ 100 < y.plus + n) hC hx Au⟩) (e2 := wl (Eo (f := Ey) ((l.vars.take i).map (P1 n) ++ [(B6.mk x.index ((x.plus : Int) + (n : Int)))]) (by rw [List.take_add_one, hx]; simp [P1])) (wl (Ux (aw (we rfl) (aw (we (FQ (f := Ey) ((l.vars.take i).map (P1 n) ++ [(B6.mk x.index ((x.plus : Int) + (n : Int)))]) (by rw [List.take_add_one, hx]; simp [P1]))) (HT)))) (wl (oe rfl) (wl (oe rfl) (Ih))))))
 refine DF [0] O ?_
 refine DS [0] O ?_
 refine BH (Cf (i := 0) (j := 1) (q := 1) [] O O O (DA Aw)) ?_
 refine BW (A9 [3, 0, 1, 0] O (Bg [1] [] O O ⟨by rw [yH hv Au Au (by rw [Qn Au]; omega) fun j hj => hC j Au, Qn Au, List.take_of_length_le Au]; rfl, rfl⟩))
theorem uV : ∀ (b0 : Nat) (l : CX) (x : B6), BL Tryz.prog 204 [.agg ((Ey x).map .p), .ptr b0 0] [.box b0 ((B4 l).map .p)] (Gm (.p (.bool (decide (l.const ≤ x.plus)))) [.box b0 ((B4 l).map .p)]) := by
 intro b0 l x
 refine DI Tryz.func204 ?_
 refine CG [0] O O fun b2 => ?_
 refine A9 [7, 0, 1] O (Bg [] [1] O O ⟨O, O⟩)
theorem tZ : ∀ (b0 : Nat) (l : CX) (vs : List B6), (vs.length < Db) → BL Tryz.prog 211 [.p (.lst (List.map Ey vs)), .fn (.func 204) [] [.ptr b0 0]] [.box b0 ((B4 l).map .p)] (Gm (.p (I (Qw (fun v => decide (l.const ≤ v.plus)) vs 0))) [.box b0 ((B4 l).map .p)]) := by
 intro b0 l vs h1
 simp only [Db] at h1
 refine DI Tryz.func211 ?_
 refine CA [2] O O (List.length_map _) ?_
 refine GG (α := Nat) [1] [0, 1, 7] [0] (fun i => [(8, .p (I (i : Int)))]) (fun _ => []) (fun i => vs.length - i) (fun i => i ≤ vs.length ∧ (Qw (fun v => decide (l.const ≤ v.plus)) (vs.drop i) i = Qw (fun v => decide (l.const ≤ v.plus)) vs 0)) 0 O O O (⟨by omega, rfl⟩) ?_
 rintro i hC
 try simp only at hC
 obtain ⟨hi, hC⟩ := hC
 refine BC [1] rfl ?_ ?_ <;> intro c
 ·refine D7 [5] vs i O O O (H5 (f := Ey) fun _ => O) (fun x hx => ?_)
  refine A2 [1] O (Bj [0] O (.inr O) (uV b0 l x) ⟨_, _, O, O, O⟩ As O (.inl O)) ?_
  refine BC [0] rfl ?_ ?_ <;> intro c1
  ·refine A9 [2] O (Bg [] [0] O O ⟨by rw [← hC, Xw hx, if_pos (by simpa using c1)]; try rfl, rfl⟩)
  exact FR [2] 0 (i + 1) O (⟨by omega, by rw [← hC, Xw hx, if_neg (by simpa using c1)]; rfl⟩)
 refine DF [0] O ?_
 refine A9 [1] O (Bg [] [0] O O ⟨by rw [← hC, List.drop_eq_nil_of_le Au]; rfl, rfl⟩)
theorem tu:∀(b0:Nat) (l:CX) (vs:List B6),(vs.length<Db)→BL Tryz.prog 203 [.p (.lst (List.map Ey vs)),.fn (.func 204) [] [.ptr b0 0]] [.box b0 ((B4 l).map .p)] (Gm (.p (.bool (vs.any (fun v=>decide (l.const≤v.plus))))) [.box b0 ((B4 l).map .p)]):=by
 intro b0 l vs h1;refine DI Tryz.func203 (A2 [3] O (Bj [0] O (.inl ⟨O,O,O⟩) (tZ b0 l vs h1) ⟨_,_,O,O,O⟩ As O (.inl O)) ?_);refine A9 [2] O (Bg [] [0] O O ⟨by rw[←Xa vs 0 Au];try rfl,rfl⟩)
theorem Ti : ∀ (l : CX), (l.vars.length < Db) → En Tryz.prog 193 [.agg ((B4 l).map .p)] (.p (.bool (Rh l))) := by
 intro l h1
 refine DI Tryz.func193 ?_
 refine CG [0] O O fun b1 => ?_
 refine A2 [4, 0] O (Bj [0] O (.inl ⟨O, O, O⟩) (tu b1 l l.vars h1) ⟨_, _, O, O, O⟩ As O (.inl O)) ?_
 refine A9 [1] O (Bg [] [] O O ⟨O, O⟩)
theorem TL:∀(l:CX),(OA l)→En Tryz.prog 175 [.agg ((B4 l).map .p)] (.p (.bool (B0 l))):=by
 intro l h1;have hl:=h1.vars;simp only[Db] at hl;refine DI Tryz.func175 (CG [0] O O fun b1=>CI [1] 1 [1] 21 (((decide ((l.const:Int)<(0:Int)))||(decide ((l.const:Int) > (100:Int))))||((decide ((l.const:Int) > (0:Int)))&&(Rh (CX.mk l.const l.vars)))) O O ?_ ?_)
 ·refine Bc [4,0] 8 rfl rfl ?_ ?_<;>intro g
  ·exact CT [13] O
  refine Bc [5,0] 13 rfl rfl ?_ ?_<;>intro g1
  ·exact CT [8] O
  refine Bc [4,0] 17 rfl rfl ?_ ?_<;>intro g2
  ·exact CQ [1,0] O (Ti (CX.mk l.const l.vars) h1.vars) (CT [2] O)
  exact CT [4] O
 refine BC [0] rfl ?_ ?_<;>intro c
 ·refine A9 [1] O (Bg [] [] O O ⟨pB (sK c),O⟩)
 refine CA [2,0] O O (List.length_map _) (GG (α:=Nat) [1] [1,23,24] [0] (fun i=>[(25,.p (I (i:Int)))]) (fun _=>[]) (fun i=>l.vars.length - i) (fun i=>i≤l.vars.length∧(Cz 0 l.vars 0=Cz 0 l.vars i)) 0 O O O (⟨by omega,rfl⟩) ?_);rintro i hC
 try simp only at hC
 obtain⟨hi,hC⟩:=hC;refine BC [1] rfl ?_ ?_<;>intro c1
 ·refine D7 [1] l.vars i O O O (H5 (f:=Ey) fun _=>O) (fun x hx=>?_);refine Bp [1] O (Az HH O) fun b4=>CI [2,0,1] 6 [1,23,24,25] 63 (!(Wp 0 x&&KH (Kn l.vars i) x.index)) O O ?_ ?_
  ·refine E2 [0] [] O (Bb [4,0] O (Da 33 O (fun g=>?_) (fun g=>?_)))
   ·(try simp only[sd,se] at g);exact CY tab 30 [] O (Cu (CT [0] O (hr:=(by first | exact pB (Qs Au) | exact pB (Ns Au Au) | exact pB (VT hx1 Au Au)))))
   (try simp only[sd,se] at g);refine Bb [5,0] O (Da 38 O (fun g1=>?_) (fun g1=>?_))
   ·(try simp only[sd,se] at g1);exact CY tab 25 [] O (Cu (CT [0] O (hr:=(by first | exact pB (Qs Au) | exact pB (Ns Au Au) | exact pB (VT hx1 Au Au)))))
   (try simp only[sd,se] at g1);refine Bb [5,0] O (Da 43 O (fun g2=>?_) (fun g2=>?_))
   ·(try simp only[sd,se] at g2);exact CY tab 20 [] O (Cu (CT [0] O (hr:=(by first | exact pB (Qs Au) | exact pB (Ns Au Au) | exact pB (VT hx1 Au Au)))))
   (try simp only[sd,se] at g2);refine Bb [5,0] O (Da 48 O (fun g3=>?_) (fun g3=>?_))
   ·(try simp only[sd,se] at g3);exact CY tab 15 [] O (Cu (CT [0] O (hr:=(by first | exact pB (Qs Au) | exact pB (Ns Au Au) | exact pB (VT hx1 Au Au)))))
   (try simp only[sd,se] at g3);refine Bb [3] O (Da 51 O (fun g4=>?_) (fun g4=>?_))
   ·(try simp only[sd,se] at g4);refine Bb [4,1] O ?_;obtain⟨x1,hx1⟩:=A1 (l:=l.vars) (i:=(((i:Int):Int) - (1:Int):Int).toNat) Au;exact Bx O (fun _=>A0 DC O O Au (DT hx1) (O)) Aw (CY tab 7 [0] O (Cu (CT [0] O (hr:=(by first | exact pB (Qs Au) | exact pB (Ns Au Au) | exact pB (VT hx1 Au Au))))))
   (try simp only[sd,se] at g4);exact CY tab 12 [] O (Cu (CT [0] O (hr:=(by first | exact pB (Qs Au) | exact pB (Ns Au Au) | exact pB (VT hx1 Au Au)))))
  refine BC [0] rfl ?_ ?_<;>intro c2
  ·refine A9 [1] O (Bg [] [] O O ⟨pB (oS hC (by rw[Pp hx];simp at c2 ⊢;intro q1 q2;simp[c2 q1] at q2)),O⟩)
  exact FR [2] 1 (i+1) O (⟨by omega,(hC.trans (by rw[Pp hx,c2.1,c2.2];rfl))⟩)
 refine DF [0] O (A9 [1] O (Bg [] [] O O ⟨pB (pv (vX c) hC Au),O⟩))
theorem pA : ∀ (x : CX), (OA x) → En Tryz.prog 194 [.agg ((B4 x).map .p)] (.p (.bool (!B0 x))) := by
 intro x h1
 refine DI Tryz.func194 ?_
 refine CG [0] O O fun b1 => ?_
 refine CQ [2, 0] O (TL x h1) ?_
 refine A9 [2] O (Bg [] [] O O ⟨O, O⟩)
theorem qq : ∀ (l : List CX), (l.length < Db) → (∀ x ∈ l, OA x) → En Tryz.prog 134 [.p (.lst (List.map B4 l)), .p (.fn 194)] (.p (I (Qw (fun x => !B0 x) l 0))) := by
 intro l h1 h2
 simp only [Db] at h1
 refine DI Tryz.func134 ?_
 refine CA [2] O O (List.length_map _) ?_
 refine GG (α := Nat) [1] [0, 1, 7] [] (fun i => [(8, .p (I (i : Int)))]) (fun _ => []) (fun i => l.length - i) (fun i => i ≤ l.length ∧ (Qw (fun x => !B0 x) (l.drop i) i = Qw (fun x => !B0 x) l 0)) 0 O O O (⟨by omega, rfl⟩) ?_
 rintro i hC
 try simp only at hC
 obtain ⟨hi, hC⟩ := hC
 refine BC [1] rfl ?_ ?_ <;> intro c
 ·refine D7 [5] l i O O O (H5 E3) (fun x hx => ?_)
  refine CQ [1] O (pA x (h2 x (List.mem_of_getElem? hx))) ?_
  refine BC [0] rfl ?_ ?_ <;> intro c1
  ·refine A9 [2] O (Bg [] [] O O ⟨by rw [← hC, Xw hx, if_pos (by simpa using c1)]; try rfl, rfl⟩)
  exact FR [2] 0 (i + 1) O (⟨by omega, by rw [← hC, Xw hx, if_neg (by simpa using c1)]; rfl⟩)
 refine DF [0] O ?_
 refine A9 [1] O (Bg [] [] O O ⟨by rw [← hC, List.drop_eq_nil_of_le Au]; rfl, rfl⟩)
theorem oC : ∀ (l : List CX), (l.length < Db) → (∀ x ∈ l, OA x) → En Tryz.prog 100 [.p (.lst (List.map B4 l)), .p (.fn 194)] (.p (.bool (l.any (fun x => !B0 x)))) := by
 intro l h1 h2
 refine DI Tryz.func100 ?_
 refine CQ [3] O (qq l h1 h2) ?_
 refine A9 [2] O (Bg [] [] O O ⟨by rw [← Xa l 0 Au]; try rfl, rfl⟩)
theorem Ya : ∀ (l : List CX), (l.length < Db) → (∀ x ∈ l, OA x) → En Tryz.prog 176 [.p (.lst (List.map B4 l))] (.p (.bool (l.all B0))) := by
 intro l h1 h2
 refine DI Tryz.func176 ?_
 refine CQ [2] O (oC l h1 h2) ?_
 refine A9 [2] O (Bg [] [] O O ⟨pB (by rw [List.all_eq_not_any_not]), O⟩)
theorem iU : ∀ (l : CX), (OA l) → En Tryz.prog 177 [.agg ((B4 l).map .p)] (.p (I (HV l))) := by
 intro l h1
 have hl := h1.vars
 simp only [Db] at hl
 refine DI Tryz.func177 ?_
 refine CG [0] O O fun b1 => ?_
 refine CA [3, 0] O O (List.length_map _) ?_
 refine CI [1] 2 [1, 3] 12 ((B0 (CX.mk l.const l.vars)) && (decide (((l.vars.length : Nat) : Int) > (0 : Int)))) O O ?_ ?_
 ·refine CQ [1, 0] O (TL (CX.mk l.const l.vars) h1) ?_
  refine Bc [1] 9 rfl rfl ?_ ?_ <;> intro g
  ·exact CT [3] O
  exact CT [3] O
 refine BC [0] rfl ?_ ?_ <;> intro c
 ·obtain ⟨hv, hn⟩ : B0 l = true ∧ 0 < l.vars.length := by simpa using c
  obtain ⟨x, hx⟩ := A1 (l := l.vars) (i := (((l.vars.length : Nat) : Int) - (1 : Int) : Int).toNat) Au
  have hw := L8 hv hx
  refine A2 [4, 0] O (A0 DC O O Au (DT hx) (O)) ?_
  refine A2 [3] O (F7 O O) ?_
  refine A9 [1] O (Bg [] [] O O ⟨pI (YL hv hx Au), O⟩)
 refine A9 [1] O (Bg [] [] O O ⟨pI (Yp (vO c)), O⟩)
theorem kp:BL Tryz.prog 178 [] [] (pq (fun b:Nat×Nat=> .ptr b.1 0) (fun b=>[.box b.1 [.map b.2,.p (I 0)],.map b.2 (Ek (Hy []))])):=by
 refine DI Tryz.func178 (DS [1] O (uF O O Za fun m1=>BW (CG [1] O O fun b3=>?_)));refine A9 [1] O (Bg [] [0,1] O O ⟨(_,_),O,O⟩)
theorem ZO:∀(m:Nat) (M:List (Int×Int)) (i p:Int),BL Tryz.prog 179 [.map m,.p (I i),.p (I p)] [.map m (Ek (Hy M))] (Gm (.tup []) [.map m (Ek (Hy (HM M i p)))]):=by
 intro m M i p;refine DI Tryz.func179 ?_;refine A2 [2] O (Us (i:=0) mb mT (fun _ _=>by simp[Bz,Br]) rfl rfl rfl (Y4 _ _) (ja _ _)) ?_;refine CI [5] 1 [0,1,2] 20 ((!((mg i M).isSome))||(decide ((p:Int) > ((mg i M).getD 0:Int)))) O O ?_ ?_
 ·refine Bc [3] 16 rfl rfl ?_ ?_<;>intro g
  ·exact CT [4] O
  exact CT [4] O
 refine BC [0] rfl ?_ ?_<;>intro c
 ·refine A2 [3] O (Uq (i:=0) mb O O O O) (Ks [0] O ⟨O,_,_,O,(HB (is:=[0]) O),?_⟩);refine⟨O,?_⟩;show ([.map m (Ek (OS i (.p (I p)) (Hy M)))]:List A4)=_;rw[iQ c,←eX]
 refine Ks [0] O ⟨O,_,_,O,(HB (is:=[0]) O),?_⟩;refine⟨O,?_⟩;show ([.map m (Ek (Hy M))]:List A4)=_;rw[bV c]
theorem aU : ∀ (l : CX), (l.vars.length < Db) → En Tryz.prog 197 [.agg ((B4 l).map .p)] (.tup [.agg ((B4 ((L1 l).1)).map .p), .p (I ((L1 l).2))]) := by
 intro l h1
 have hl := h1
 simp only [Db] at hl
 refine DI Tryz.func197 ?_
 refine CG [0] O O fun b1 => ?_
 refine Bp [0] O (Az FC O) fun b2 => ?_
 refine CA [3, 1] O O (List.length_map _) ?_
 refine GG (α := Nat) [1] [1, 2, 7, 8] [0, 1] (fun i => [(9, .p (I (i : Int)))]) (fun _ => []) (fun i => l.vars.length - i) (fun i => i ≤ l.vars.length ∧ (∀ j, j < i → ∀ y, l.vars[j]? = some y → ¬ 100 < y.plus)) 0 O O O (⟨by omega, fun j h => by omega⟩) ?_
 rintro i hC
 try simp only at hC
 obtain ⟨hi, hC⟩ := hC
 refine BC [1] rfl ?_ ?_ <;> intro c
 ·refine D7 [0] l.vars i O O O (H5 (f := Ey) fun _ => O) (fun x hx => ?_)
  refine Bp [1] O (Az HH O) fun b5 => ?_
  refine BC [4, 0, 1, 0] rfl ?_ ?_ <;> intro c1
  ·refine CK [3, 1, 0] O ?_
   refine A5 (BE (i := 1) O) ?_
   refine BP (A9 [0] O (Bg [1] [] O O ⟨by rw [w7 hx c1]; rfl, rfl⟩))
  exact FR [2] 1 (i + 1) O (⟨by omega, Cg (p := fun _ (y : B6) => ¬ 100 < y.plus) hC hx Au⟩)
 refine DF [0] O ?_
 refine BC [3, 1] rfl ?_ ?_ <;> intro c1
 ·refine CK [3, 0, 0] O ?_
  refine A5 (BE (i := 0) O) ?_
  refine BP (A9 [0] O (Bg [0] [] O O ⟨by rw [xI c1]; rfl, rfl⟩))
 refine CQ [1, 1] O (Ti (CX.mk l.const l.vars) h1) ?_
 refine BC [0] rfl ?_ ?_ <;> intro c2
 ·refine A9 [5, 1, 0, 1, 0, 0] O (Bg [0] [] O O ⟨by rw [xO (fun j hj => hC j Au) Au c2]; rfl, rfl⟩)
 refine A9 [3, 1, 0, 0] O (Bg [0] [] O O ⟨by rw [xt (fun j hj => hC j Au) Au (by simpa using c2)]; rfl, rfl⟩)
theorem qG : ∀ (s m : Nat) (M : List (Int × Int)) (C : Int) (l : CX) (n : Int), (Jx l) → (0 ≤ n) → (n ≤ 100) → BL Tryz.prog 180 [.ptr s 0, .agg ((B4 l).map .p), .p (I n)] [.box s [.map m, .p (I C)], .map m (Ek (Hy M))] (Gm (.tup []) [.box s [.map m, .p (I ((Tu (M, C) l n).2))], .map m (Ek (Hy (Tu (M, C) l n).1))]) := by
 intro s m M C l n h1 h2 h3
 have hl := h1.len
 have hc := h1.c
 refine DI Tryz.func180 ?_
 refine CG [0] O O fun b4 => ?_
 refine E2 [0] [] O ?_
 refine Bb [9, 1, 0] O ?_
 refine A3 O (fun _ => F7 O O) Aw ?_
 refine Dj [3, 1, 0] O (CA [2, 0] O O (List.length_map _) ?_)
 refine GG (α := Nat) [1] [0, 2, 21, 22] [1, 2] (fun i => [(23, .p (I (i : Int)))]) (fun i => [(1, .map m (Ek (Hy ((l.vars.take i).foldl (Iz n) M))))]) (fun i => l.vars.length - i) (fun i => i ≤ l.vars.length) 0 O O O AY ?_
 rintro i hC
 try simp only at hC
 have hi := hC
 refine BC [1] rfl ?_ ?_ <;> intro c
 ·obtain ⟨x, hx⟩ := A1 (l := l.vars) (i := i) Au
  have hv := h1.rg x (List.mem_of_getElem? hx)
  refine A2 [0] O (A0 DC O O Au (DT hx) (O)) ?_
  refine Bp [1] O (Az HH O) fun b7 => ?_
  refine E2 [1, 0, 1] [] O ?_
  refine Bb [10, 1, 0, 0] O ?_
  refine FB O O (Bj [2] O (.inl ⟨O, O, O⟩) (ZO m ((l.vars.take i).foldl (Iz n) M) x.index ((x.plus : Int) + (n : Int))) ⟨_, _, O, O, O⟩ As O (.inl O)) AB Aw ?_
  refine HC O Ap ?_
  refine Cu (DS [0] O ?_)
  refine BH (EV (i := 2) O (om (congrArg Ek (congrArg Hy (gV hx))))) ?_
  exact BW (FR [2] 1 (i + 1) O Au)
 refine DF [0] O ?_
 refine Ks [0] O ?_
 refine ⟨O, _, _, O, (HB (is := [0, 1]) O), ?_⟩
 refine ⟨O, ?_⟩
 show ([.box s [.map m, .p (I (max (C : Int) ((l.const : Int) + (n : Int) : Int)))], .map m (Ek (Hy ((l.vars.take i).foldl (Iz n) M)))] : List A4) = _
 rw [show l.vars.take i = l.vars from List.take_of_length_le Au]; rfl
end Go.Proofs.YtldfmjoncbjldaaGreat
