/- Part of the proofs: an abstract program logic, plain models and contracts of functions. -/
import Derived.Test.YtldfmjoncbjldaaGreatPe
import Derived.Test.YtldfmjoncbjldaaGreatPd
import Derived.Test.YtldfmjoncbjldaaGreatPf
set_option linter.unusedVariables false
set_option linter.unusedSimpArgs false
set_option maxRecDepth 100000
namespace Go.Proofs.YtldfmjoncbjldaaGreat
open Go.Abs Go.Eu
theorem _root_.Go.AF {α:Prop}(h:α:=by simp only[List.length_map,List.length_append,List.length_take,List.length_cons,List.length_nil];omega):α:=h
theorem n4:∀(l:CW) (n:Int),(N5 l)→En Tryz.prog 209 [.agg ((B4 l).map .p),.p (I n)] (.tup [.agg ((B4 ((F5 l n).1)).map .p),.p (I ((F5 l n).2))]):=by
 intro l n h1;have hl:=h1.vars;simp only[DZ] at hl;refine DJ Tryz.func209 (CG [0] O O fun b2=>Bp [0] O (Az FH O) fun b4=>CQ [2,1] O (Mw l h1) ?_);refine BC [1] rfl ?_ ?_<;>intro c
 ·refine CK [3,0,0] O (A5 (BE (i:=0) O) ?_);refine BP (A9 [0] O (Bg [0] [] O O ⟨by rw[yZ (by simpa using c)];rfl,rfl⟩))
 have hv:B1 l=true:=by simpa using c
 have hv0:=Zb hv;refine BC [2] rfl ?_ ?_<;>intro c1
 ·refine CK [3,0,0] O (A5 (BE (i:=0) O) ?_);refine BP (A9 [0] O (Bg [0] [] O O ⟨by rw[yh hv c1];rfl,rfl⟩))
 refine BC [2] rfl ?_ ?_<;>intro c2
 ·refine CK [3,0,0] O (A5 (BE (i:=0) O) ?_);refine BP (A9 [0] O (Bg [0] [] O O ⟨by rw[yU hv Au c2];rfl,rfl⟩))
 refine Bp [1] O (Az FH O) fun b6=>CJ [1,0,0] 8 [1,2,4,6] 27 ((decide ((l.const:Int) > (0:Int)))||(((l.vars.length:Nat):Int)==(0:Int))) O O ?_ ?_
 ·refine Bc [4,2] 22 rfl rfl ?_ ?_<;>intro g
  ·exact CT [5] O
  exact B9 [2,2] O O (List.length_map _) (CT [2] O)
 refine BC [0] rfl ?_ ?_<;>intro c3
 ·refine BC [9,2,0,0,0] rfl ?_ ?_<;>intro c4
  ·refine CK [3,1,0] O (A5 (BE (i:=1) O) ?_);refine BP (A9 [0] O (Bg [1] [] O O ⟨by rw[yR hv Au Au (by rw[Nb Au];omega)];rfl,rfl⟩))
  refine DT [0] O (BJ (EX (i:=0) O (Up (aw (we O) (aw (I1) (HW))))) (BJ (H7 (sz:=2)) ?_));refine BW (GG (α:=Nat×Option Nat×Nat) [1] [1,2,4,6] [0,1,2,3] (fun(i,o,cp)=>[(7,.p (I (i:Int)))]) (fun(i,o,cp)=>[(0,.vec o 2 (List.map E0 ((l.vars.take i).map (P2 n))) cp),(1,.box b6 [.p (I ((l.const:Int)+(n:Int))),.vs o (List.map E0 ((l.vars.take i).map (P2 n))).length cp])]) (fun(i,o,cp)=>l.vars.length - i) (fun(i,o,cp)=>i≤l.vars.length∧(∀j,j<i→∀y,l.vars[j]?=some y→¬100<y.plus+n)) ⟨0,none,0⟩ O O O (⟨by omega,fun j h=>by omega⟩) ?_);rintro⟨i,o,cp⟩ hC
  try simp only at hC
  obtain⟨hi,hC⟩:=hC;refine B9 [3,3] O O (List.length_map _) ?_;refine BC [1] rfl ?_ ?_<;>intro c5
  ·obtain⟨x,hx⟩:=A1 (l:=l.vars) (i:=i) Au;have hw:=Ll hv hx;refine A2 [3,3] O (A0 DC O O Au (DP hx) (O)) ?_;refine BC [5] rfl ?_ ?_<;>intro c6
   ·refine CK [3,2,0] O (A5 (BE (i:=2) O) ?_);refine BP (A9 [0] O (Bg [2] [] O O ⟨by rw[yJ hv Au Au (by rw[Nb Au];omega) hx c6];rfl,rfl⟩))
   refine E2 [0] [18] O (Bb [5,1,3] O (A3 O (fun _=>A0 DC O O Au (DP hx) (O)) Aw (Bb [5,3] O (A3 O (fun _=>A0 DC O O Au (DP hx) (O)) Aw (Bb [5] O (A3 O (fun _=>BH DC G8 O O O O O) Aw (JT [] O O (Bh (i:=0) (rows':=List.map E0 [(B6.mk x.index ((x.plus:Int)+(n:Int)))]) DC DC G8 O O O O O O (HG _) AF (Fz (f:=E0) ((l.vars.take i).map (P2 n)) [(B6.mk x.index ((x.plus:Int)+(n:Int)))])) Ap fun o1 cp1=>⟨AB,Aw,?_⟩)))))));exact CY tab 2 [1,0] O (Cu (FR [3] 0 ⟨i+1,o1,cp1⟩ O (⟨by omega,Cg (p:=fun _ (y:B6)=>¬100<y.plus+n) hC hx Au⟩) (e2:=wl (Eo (f:=E0) ((l.vars.take i).map (P2 n)++[(B6.mk x.index ((x.plus:Int)+(n:Int)))]) (by rw[List.take_add_one,hx];simp[P2])) (wl (Up (aw (we rfl) (aw (we (FQ (f:=E0) ((l.vars.take i).map (P2 n)++[(B6.mk x.index ((x.plus:Int)+(n:Int)))]) (by rw[List.take_add_one,hx];simp[P2]))) (HW)))) (wl (oe rfl) (wl (oe rfl) (Ie)))))))
  refine DH [0] O (DT [0] O (BJ (Cf (i:=0) (j:=1) (q:=1) [] O O O (DA Aw)) ?_));refine BW (A9 [3,0,1,0] O (Bg [1] [] O O ⟨by rw[yI hv Au Au (by rw[Nb Au];omega) fun j hj=>hC j Au,Nb Au,List.take_of_length_le Au];rfl,rfl⟩))
 refine BC [3,0] rfl ?_ ?_<;>intro c4
 ·refine CK [3,1,0] O (A5 (BE (i:=1) O) ?_);refine BP (A9 [0] O (Bg [1] [] O O ⟨by exfalso;simp at c4,rfl⟩))
 refine DT [0] O (BJ (EX (i:=0) O (Up (aw (we O) (aw (I1) (HW))))) (BJ (H7 (sz:=2)) ?_));refine BW (GG (α:=Nat×Option Nat×Nat) [1] [1,2,4,6] [0,1,2,3] (fun(i,o,cp)=>[(7,.p (I (i:Int)))]) (fun(i,o,cp)=>[(0,.vec o 2 (List.map E0 ((l.vars.take i).map (P2 n))) cp),(1,.box b6 [.p (I 0),.vs o (List.map E0 ((l.vars.take i).map (P2 n))).length cp])]) (fun(i,o,cp)=>l.vars.length - i) (fun(i,o,cp)=>i≤l.vars.length∧(∀j,j<i→∀y,l.vars[j]?=some y→¬100<y.plus+n)) ⟨0,none,0⟩ O O O (⟨by omega,fun j h=>by omega⟩) ?_);rintro⟨i,o,cp⟩ hC
 try simp only at hC
 obtain⟨hi,hC⟩:=hC;refine B9 [3,3] O O (List.length_map _) ?_;refine BC [1] rfl ?_ ?_<;>intro c5
 ·obtain⟨x,hx⟩:=A1 (l:=l.vars) (i:=i) Au;have hw:=Ll hv hx;refine A2 [3,3] O (A0 DC O O Au (DP hx) (O)) ?_;refine BC [5] rfl ?_ ?_<;>intro c6
  ·refine CK [3,2,0] O (A5 (BE (i:=2) O) ?_);refine BP (A9 [0] O (Bg [2] [] O O ⟨by rw[yJ hv Au Au (by rw[QS Au];omega) hx c6];rfl,rfl⟩))
  refine E2 [0] [18] O (Bb [5,1,3] O (A3 O (fun _=>A0 DC O O Au (DP hx) (O)) Aw (Bb [5,3] O (A3 O (fun _=>A0 DC O O Au (DP hx) (O)) Aw (Bb [5] O (A3 O (fun _=>BH DC G8 O O O O O) Aw (JT [] O O (Bh (i:=0) (rows':=List.map E0 [(B6.mk x.index ((x.plus:Int)+(n:Int)))]) DC DC G8 O O O O O O (HG _) AF (Fz (f:=E0) ((l.vars.take i).map (P2 n)) [(B6.mk x.index ((x.plus:Int)+(n:Int)))])) Ap fun o1 cp1=>⟨AB,Aw,?_⟩)))))));exact CY tab 2 [1,0] O (Cu (FR [3] 0 ⟨i+1,o1,cp1⟩ O (⟨by omega,Cg (p:=fun _ (y:B6)=>¬100<y.plus+n) hC hx Au⟩) (e2:=wl (Eo (f:=E0) ((l.vars.take i).map (P2 n)++[(B6.mk x.index ((x.plus:Int)+(n:Int)))]) (by rw[List.take_add_one,hx];simp[P2])) (wl (Up (aw (we rfl) (aw (we (FQ (f:=E0) ((l.vars.take i).map (P2 n)++[(B6.mk x.index ((x.plus:Int)+(n:Int)))]) (by rw[List.take_add_one,hx];simp[P2]))) (HW)))) (wl (oe rfl) (wl (oe rfl) (Ie)))))))
 refine DH [0] O (DT [0] O (BJ (Cf (i:=0) (j:=1) (q:=1) [] O O O (DA Aw)) ?_));refine BW (A9 [3,0,1,0] O (Bg [1] [] O O ⟨by rw[yI hv Au Au (by rw[QS Au];omega) fun j hj=>hC j Au,QS Au,List.take_of_length_le Au];rfl,rfl⟩))
theorem uW:∀(b0:Nat) (l:CW) (x:B6),BL Tryz.prog 204 [.agg ((E0 x).map .p),.ptr b0 0] [.box b0 ((B4 l).map .p)] (Gh (.p (.bool (decide (l.const≤x.plus)))) [.box b0 ((B4 l).map .p)]):=by
 intro b0 l x;refine DJ Tryz.func204 (CG [0] O O fun b2=>A9 [7,0,1] O (Bg [] [1] O O ⟨O,O⟩))
theorem sj:∀(b0:Nat) (l:CW) (vs:List B6),(vs.length<DZ)→BL Tryz.prog 211 [.p (.lst (List.map E0 vs)),.fn (.func 204) [] [.ptr b0 0]] [.box b0 ((B4 l).map .p)] (Gh (.p (I (Qu (fun v=>decide (l.const≤v.plus)) vs 0))) [.box b0 ((B4 l).map .p)]):=by
 intro b0 l vs h1;simp only[DZ] at h1;refine DJ Tryz.func211 (B9 [2] O O (List.length_map _) (GG (α:=Nat) [1] [0,1,7] [0] (fun i=>[(8,.p (I (i:Int)))]) (fun _=>[]) (fun i=>vs.length - i) (fun i=>i≤vs.length∧(Qu (fun v=>decide (l.const≤v.plus)) (vs.drop i) i=Qu (fun v=>decide (l.const≤v.plus)) vs 0)) 0 O O O (⟨by omega,rfl⟩) ?_));rintro i hC
 try simp only at hC
 obtain⟨hi,hC⟩:=hC;refine BC [1] rfl ?_ ?_<;>intro c
 ·refine D6 [5] vs i O O O (H5 (f:=E0) fun _=>O) (fun x hx=>?_);refine A2 [1] O (Bi [0] O (.inr O) (uW b0 l x) ⟨_,_,O,O,O⟩ As O (.inl O)) ?_;refine BC [0] rfl ?_ ?_<;>intro c1
  ·refine A9 [2] O (Bg [] [0] O O ⟨by rw[←hC,W5 hx,if_pos (by simpa using c1)];try rfl,rfl⟩)
  exact FR [2] 0 (i+1) O (⟨by omega,by rw[←hC,W5 hx,if_neg (by simpa using c1)];rfl⟩)
 refine DH [0] O ?_;refine A9 [1] O (Bg [] [0] O O ⟨by rw[←hC,List.drop_eq_nil_of_le Au];rfl,rfl⟩)
theorem tu:∀(b0:Nat) (l:CW) (vs:List B6),(vs.length<DZ)→BL Tryz.prog 203 [.p (.lst (List.map E0 vs)),.fn (.func 204) [] [.ptr b0 0]] [.box b0 ((B4 l).map .p)] (Gh (.p (.bool (vs.any (fun v=>decide (l.const≤v.plus))))) [.box b0 ((B4 l).map .p)]):=by
 intro b0 l vs h1;refine DJ Tryz.func203 (A2 [3] O (Bi [0] O (.inl ⟨O,O,O⟩) (sj b0 l vs h1) ⟨_,_,O,O,O⟩ As O (.inl O)) ?_);refine A9 [2] O (Bg [] [0] O O ⟨by rw[←Wv vs 0 Au];try rfl,rfl⟩)
theorem Ty:∀(l:CW),(l.vars.length<DZ)→En Tryz.prog 193 [.agg ((B4 l).map .p)] (.p (.bool (Rj l))):=by
 intro l h1;refine DJ Tryz.func193 (CG [0] O O fun b1=>A2 [4,0] O (Bi [0] O (.inl ⟨O,O,O⟩) (tu b1 l l.vars h1) ⟨_,_,O,O,O⟩ As O (.inl O)) (A9 [1] O (Bg [] [] O O ⟨O,O⟩)))
theorem UD:∀(l:CW),(N5 l)→En Tryz.prog 175 [.agg ((B4 l).map .p)] (.p (.bool (B1 l))):=by
 intro l h1;have hl:=h1.vars;simp only[DZ] at hl;refine DJ Tryz.func175 (CG [0] O O fun b1=>CJ [1] 1 [1] 21 (((decide ((l.const:Int)<(0:Int)))||(decide ((l.const:Int) > (100:Int))))||((decide ((l.const:Int) > (0:Int)))&&(Rj (CW.mk l.const l.vars)))) O O ?_ ?_)
 ·refine Bc [4,0] 8 rfl rfl ?_ ?_<;>intro g
  ·exact CT [13] O
  refine Bc [5,0] 13 rfl rfl ?_ ?_<;>intro g1
  ·exact CT [8] O
  refine Bc [4,0] 17 rfl rfl ?_ ?_<;>intro g2
  ·exact CQ [1,0] O (Ty (CW.mk l.const l.vars) h1.vars) (CT [2] O)
  exact CT [4] O
 refine BC [0] rfl ?_ ?_<;>intro c
 ·refine A9 [1] O (Bg [] [] O O ⟨pB (uH c),O⟩)
 refine B9 [2,0] O O (List.length_map _) (GG (α:=Nat) [1] [1,23,24] [0] (fun i=>[(25,.p (I (i:Int)))]) (fun _=>[]) (fun i=>l.vars.length - i) (fun i=>i≤l.vars.length∧(Cz 0 l.vars 0=Cz 0 l.vars i)) 0 O O O (⟨by omega,rfl⟩) ?_);rintro i hC
 try simp only at hC
 obtain⟨hi,hC⟩:=hC;refine BC [1] rfl ?_ ?_<;>intro c1
 ·refine D6 [1] l.vars i O O O (H5 (f:=E0) fun _=>O) (fun x hx=>?_);refine Bp [1] O (Az G8 O) fun b4=>CJ [2,0,1] 6 [1,23,24,25] 63 (!(Wn 0 x&&KU (Kp l.vars i) x.index)) O O ?_ ?_
  ·refine E2 [0] [] O (Bb [4,0] O (Db 33 O (fun g=>?_) (fun g=>?_)))
   ·(try simp only[sd,se] at g);exact CY tab 30 [] O (Cu (CT [0] O (hr:=(by first | exact pB (P9 Au) | exact pB (No Au Au) | exact pB (Wb hx1 Au Au)))))
   (try simp only[sd,se] at g);refine Bb [5,0] O (Db 38 O (fun g1=>?_) (fun g1=>?_))
   ·(try simp only[sd,se] at g1);exact CY tab 25 [] O (Cu (CT [0] O (hr:=(by first | exact pB (P9 Au) | exact pB (No Au Au) | exact pB (Wb hx1 Au Au)))))
   (try simp only[sd,se] at g1);refine Bb [5,0] O (Db 43 O (fun g2=>?_) (fun g2=>?_))
   ·(try simp only[sd,se] at g2);exact CY tab 20 [] O (Cu (CT [0] O (hr:=(by first | exact pB (P9 Au) | exact pB (No Au Au) | exact pB (Wb hx1 Au Au)))))
   (try simp only[sd,se] at g2);refine Bb [5,0] O (Db 48 O (fun g3=>?_) (fun g3=>?_))
   ·(try simp only[sd,se] at g3);exact CY tab 15 [] O (Cu (CT [0] O (hr:=(by first | exact pB (P9 Au) | exact pB (No Au Au) | exact pB (Wb hx1 Au Au)))))
   (try simp only[sd,se] at g3);refine Bb [3] O (Db 51 O (fun g4=>?_) (fun g4=>?_))
   ·(try simp only[sd,se] at g4);refine Bb [4,1] O ?_;obtain⟨x1,hx1⟩:=A1 (l:=l.vars) (i:=(((i:Int):Int) - (1:Int):Int).toNat) Au;exact Bx O (fun _=>A0 DC O O Au (DP hx1) (O)) Aw (CY tab 7 [0] O (Cu (CT [0] O (hr:=(by first | exact pB (P9 Au) | exact pB (No Au Au) | exact pB (Wb hx1 Au Au))))))
   (try simp only[sd,se] at g4);exact CY tab 12 [] O (Cu (CT [0] O (hr:=(by first | exact pB (P9 Au) | exact pB (No Au Au) | exact pB (Wb hx1 Au Au)))))
  refine BC [0] rfl ?_ ?_<;>intro c2
  ·refine A9 [1] O (Bg [] [] O O ⟨pB (pE hC (by rw[Pm hx];simp at c2 ⊢;intro q1 q2;simp[c2 q1] at q2)),O⟩)
  exact FR [2] 1 (i+1) O (⟨by omega,(hC.trans (by rw[Pm hx,c2.1,c2.2];rfl))⟩)
 refine DH [0] O (A9 [1] O (Bg [] [] O O ⟨pB (q9 (ux c) hC Au),O⟩))
theorem np:∀(x:CW),(N5 x)→En Tryz.prog 194 [.agg ((B4 x).map .p)] (.p (.bool (!B1 x))):=by
 intro x h1;refine DJ Tryz.func194 (CG [0] O O fun b1=>CQ [2,0] O (UD x h1) (A9 [2] O (Bg [] [] O O ⟨O,O⟩)))
theorem pC:∀(l:List CW),(l.length<DZ)→(∀x∈l,N5 x)→En Tryz.prog 134 [.p (.lst (List.map B4 l)),.p (.fn 194)] (.p (I (Qu (fun x=> !B1 x) l 0))):=by
 intro l h1 h2;simp only[DZ] at h1;refine DJ Tryz.func134 (B9 [2] O O (List.length_map _) (GG (α:=Nat) [1] [0,1,7] [] (fun i=>[(8,.p (I (i:Int)))]) (fun _=>[]) (fun i=>l.length - i) (fun i=>i≤l.length∧(Qu (fun x=> !B1 x) (l.drop i) i=Qu (fun x=> !B1 x) l 0)) 0 O O O (⟨by omega,rfl⟩) ?_));rintro i hC
 try simp only at hC
 obtain⟨hi,hC⟩:=hC;refine BC [1] rfl ?_ ?_<;>intro c
 ·refine D6 [5] l i O O O (H5 E4) (fun x hx=>?_);refine CQ [1] O (np x (h2 x (List.mem_of_getElem? hx))) ?_;refine BC [0] rfl ?_ ?_<;>intro c1
  ·refine A9 [2] O (Bg [] [] O O ⟨by rw[←hC,W5 hx,if_pos (by simpa using c1)];try rfl,rfl⟩)
  exact FR [2] 0 (i+1) O (⟨by omega,by rw[←hC,W5 hx,if_neg (by simpa using c1)];rfl⟩)
 refine DH [0] O ?_;refine A9 [1] O (Bg [] [] O O ⟨by rw[←hC,List.drop_eq_nil_of_le Au];rfl,rfl⟩)
theorem oB:∀(l:List CW),(l.length<DZ)→(∀x∈l,N5 x)→En Tryz.prog 100 [.p (.lst (List.map B4 l)),.p (.fn 194)] (.p (.bool (l.any (fun x=> !B1 x)))):=by
 intro l h1 h2;refine DJ Tryz.func100 (CQ [3] O (pC l h1 h2) ?_);refine A9 [2] O (Bg [] [] O O ⟨by rw[←Wv l 0 Au];try rfl,rfl⟩)
theorem Zn:∀(l:List CW),(l.length<DZ)→(∀x∈l,N5 x)→En Tryz.prog 176 [.p (.lst (List.map B4 l))] (.p (.bool (l.all B1))):=by
 intro l h1 h2;refine DJ Tryz.func176 (CQ [2] O (oB l h1 h2) (A9 [2] O (Bg [] [] O O ⟨pB (by rw[List.all_eq_not_any_not]),O⟩)))
theorem fp:∀(l:CW),(N5 l)→En Tryz.prog 177 [.agg ((B4 l).map .p)] (.p (I (HX l))):=by
 intro l h1;have hl:=h1.vars;simp only[DZ] at hl;refine DJ Tryz.func177 (CG [0] O O fun b1=>B9 [3,0] O O (List.length_map _) (CJ [1] 2 [1,3] 12 ((B1 (CW.mk l.const l.vars))&&(decide (((l.vars.length:Nat):Int) > (0:Int)))) O O ?_ ?_))
 ·refine CQ [1,0] O (UD (CW.mk l.const l.vars) h1) ?_;refine Bc [1] 9 rfl rfl ?_ ?_<;>intro g
  ·exact CT [3] O
  exact CT [3] O
 refine BC [0] rfl ?_ ?_<;>intro c
 ·obtain⟨hv,hn⟩:B1 l=true∧0<l.vars.length:=by simpa using c
  obtain⟨x,hx⟩:=A1 (l:=l.vars) (i:=(((l.vars.length:Nat):Int) - (1:Int):Int).toNat) Au;have hw:=Ll hv hx;refine A2 [4,0] O (A0 DC O O Au (DP hx) (O)) (A2 [3] O (F7 O O) (A9 [1] O (Bg [] [] O O ⟨pI (ZI hv hx Au),O⟩)))
 refine A9 [1] O (Bg [] [] O O ⟨pI (Zo (vK c)),O⟩)
theorem kY:BL Tryz.prog 178 [] [] (oZ (fun b:Nat×Nat=> .ptr b.1 0) (fun b=>[.box b.1 [.map b.2,.p (I 0)],.map b.2 (Em (H8 []))])):=by
 refine DJ Tryz.func178 (DT [1] O (s4 O O X7 fun m1=>BW (CG [1] O O fun b3=>?_)));refine A9 [1] O (Bg [] [0,1] O O ⟨(_,_),O,O⟩)
theorem Ys:∀(m:Nat) (M:List (Int×Int)) (i p:Int),BL Tryz.prog 179 [.map m,.p (I i),.p (I p)] [.map m (Em (H8 M))] (Gh (.tup []) [.map m (Em (H8 (G6 M i p)))]):=by
 intro m M i p;refine DJ Tryz.func179 ?_;refine A2 [2] O (Uq (i:=0) kD jR (fun _ _=>by simp[Bz,Br]) rfl rfl rfl (Zh _ _) (lE _ _)) ?_;refine CJ [5] 1 [0,1,2] 20 ((!((mg i M).isSome))||(decide ((p:Int) > ((mg i M).getD 0:Int)))) O O ?_ ?_
 ·refine Bc [3] 16 rfl rfl ?_ ?_<;>intro g
  ·exact CT [4] O
  exact CT [4] O
 refine BC [0] rfl ?_ ?_<;>intro c
 ·refine A2 [3] O (Uv (i:=0) kD O O O O) (Ku [0] O ⟨O,_,_,O,(G7 (is:=[0]) O),?_⟩);refine⟨O,?_⟩;show ([.map m (Em (Oi i (.p (I p)) (H8 M)))]:List A4)=_;rw[jH c,←dP]
 refine Ku [0] O ⟨O,_,_,O,(G7 (is:=[0]) O),?_⟩;refine⟨O,?_⟩;show ([.map m (Em (H8 M))]:List A4)=_;rw[aW c]
theorem dI:∀(l:CW),(l.vars.length<DZ)→En Tryz.prog 197 [.agg ((B4 l).map .p)] (.tup [.agg ((B4 ((Lg l).1)).map .p),.p (I ((Lg l).2))]):=by
 intro l h1;have hl:=h1;simp only[DZ] at hl;refine DJ Tryz.func197 (CG [0] O O fun b1=>Bp [0] O (Az FH O) fun b2=>B9 [3,1] O O (List.length_map _) ?_);refine GG (α:=Nat) [1] [1,2,7,8] [0,1] (fun i=>[(9,.p (I (i:Int)))]) (fun _=>[]) (fun i=>l.vars.length - i) (fun i=>i≤l.vars.length∧(∀j,j<i→∀y,l.vars[j]?=some y→¬100<y.plus)) 0 O O O (⟨by omega,fun j h=>by omega⟩) ?_;rintro i hC
 try simp only at hC
 obtain⟨hi,hC⟩:=hC;refine BC [1] rfl ?_ ?_<;>intro c
 ·refine D6 [0] l.vars i O O O (H5 (f:=E0) fun _=>O) (fun x hx=>?_);refine Bp [1] O (Az G8 O) fun b5=>?_;refine BC [4,0,1,0] rfl ?_ ?_<;>intro c1
  ·refine CK [3,1,0] O (A5 (BE (i:=1) O) ?_);refine BP (A9 [0] O (Bg [1] [] O O ⟨by rw[w9 hx c1];rfl,rfl⟩))
  exact FR [2] 1 (i+1) O (⟨by omega,Cg (p:=fun _ (y:B6)=>¬100<y.plus) hC hx Au⟩)
 refine DH [0] O ?_;refine BC [3,1] rfl ?_ ?_<;>intro c1
 ·refine CK [3,0,0] O (A5 (BE (i:=0) O) ?_);refine BP (A9 [0] O (Bg [0] [] O O ⟨by rw[xv c1];rfl,rfl⟩))
 refine CQ [1,1] O (Ty (CW.mk l.const l.vars) h1) ?_;refine BC [0] rfl ?_ ?_<;>intro c2
 ·refine A9 [5,1,0,1,0,0] O (Bg [0] [] O O ⟨by rw[xb (fun j hj=>hC j Au) Au c2];rfl,rfl⟩)
 refine A9 [3,1,0,0] O (Bg [0] [] O O ⟨by rw[xW (fun j hj=>hC j Au) Au (by simpa using c2)];rfl,rfl⟩)
theorem pz:∀(s m:Nat) (M:List (Int×Int)) (C:Int) (l:CW) (n:Int),(Js l)→(0≤n)→(n≤100)→BL Tryz.prog 180 [.ptr s 0,.agg ((B4 l).map .p),.p (I n)] [.box s [.map m,.p (I C)],.map m (Em (H8 M))] (Gh (.tup []) [.box s [.map m,.p (I ((Sj (M,C) l n).2))],.map m (Em (H8 (Sj (M,C) l n).1))]):=by
 intro s m M C l n h1 h2 h3;have hl:=h1.len;have hc:=h1.c;refine DJ Tryz.func180 (CG [0] O O fun b4=>E2 [0] [] O (Bb [9,1,0] O (A3 O (fun _=>F7 O O) Aw (Dj [3,1,0] O (B9 [2,0] O O (List.length_map _) ?_)))));refine GG (α:=Nat) [1] [0,2,21,22] [1,2] (fun i=>[(23,.p (I (i:Int)))]) (fun i=>[(1,.map m (Em (H8 ((l.vars.take i).foldl (Ip n) M))))]) (fun i=>l.vars.length - i) (fun i=>i≤l.vars.length) 0 O O O AY ?_;rintro i hC
 try simp only at hC
 have hi:=hC;refine BC [1] rfl ?_ ?_<;>intro c
 ·obtain⟨x,hx⟩:=A1 (l:=l.vars) (i:=i) Au;have hv:=h1.rg x (List.mem_of_getElem? hx);refine A2 [0] O (A0 DC O O Au (DP hx) (O)) (Bp [1] O (Az G8 O) fun b7=>E2 [1,0,1] [] O (Bb [10,1,0,0] O (FB O O (Bi [2] O (.inl ⟨O,O,O⟩) (Ys m ((l.vars.take i).foldl (Ip n) M) x.index ((x.plus:Int)+(n:Int))) ⟨_,_,O,O,O⟩ As O (.inl O)) AB Aw (HM O Ap (Cu (DT [0] O ?_))))));exact BJ (EX (i:=2) O (om (congrArg Em (congrArg H8 (gb hx))))) (BW (FR [2] 1 (i+1) O Au))
 refine DH [0] O (Ku [0] O ⟨O,_,_,O,(G7 (is:=[0,1]) O),?_⟩);refine⟨O,?_⟩;show ([.box s [.map m,.p (I (max (C:Int) ((l.const:Int)+(n:Int):Int)))],.map m (Em (H8 ((l.vars.take i).foldl (Ip n) M)))]:List A4)=_;rw[show l.vars.take i=l.vars from List.take_of_length_le Au];rfl
end Go.Proofs.YtldfmjoncbjldaaGreat
