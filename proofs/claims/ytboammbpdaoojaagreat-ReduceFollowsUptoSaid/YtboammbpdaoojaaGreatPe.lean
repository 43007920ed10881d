/- Part of the proofs: an abstract program logic, plain models and contracts of functions. -/
import Derived.Test.YtboammbpdaoojaaGreatPd
set_option linter.unusedVariables false
set_option linter.unusedSimpArgs false
set_option maxRecDepth 100000
namespace Go.Proofs.YtboammbpdaoojaaGreat
open Go.Abs Go.Eu
theorem n4:∀(b0:Nat) (l:CS) (x:CF),Bn Tryz.prog 196 [.agg ((Dt x).map .p),.ptr b0 0] [.box b0 ((By l).map .p)] (Gk (.p (.bool (decide (l.const≤x.plus)))) [.box b0 ((By l).map .p)]):=by
 intro b0 l x;refine A5 Tryz.func196 O tx (n:=9) O O (Aw (BF O (BN O) fun b2=>Ar Ay 1 [] O (Au Ay 6 [0,1] O (A1 (⟨O,_,_,⟨_,_,O,O,O⟩,(B8 (is:=[1]) O),?_⟩)))))
 all_goals exact⟨rfl,rfl⟩
theorem oc:∀(b0:Nat) (l:CS) (vs:List CF),(vs.length<DY)→Bn Tryz.prog 200 [.p (.lst (List.map Dt vs)),.fn (.func 196) [] [.ptr b0 0]] [.box b0 ((By l).map .p)] (Gk (.p (I (N5 (fun v=>decide (l.const≤v.plus)) vs 0))) [.box b0 ((By l).map .p)]):=by
 intro b0 l vs h1;simp only[DY] at h1;refine A5 Tryz.func200 O qX (n:=19) O O (Au Ay 1 [] O (As (Aw (Br O (Aq O (BJ CY O (List.length_map _)) (Ar Ay 1 [] O (A9 (Bc (α:=Nat) (fun i=>⟨19,mk [(0,.p (.lst (List.map Dt vs))),(1,.fn (.func 196) [] [.ptr b0 0]),(7,.p (I (vs.length:Nat))),(8,.p (I (i:Int)))],[.box b0 ((By l).map .p)],[]⟩) (fun i=>vs.length - i) (fun i=>i≤vs.length∧(N5 (fun v=>decide (l.const≤v.plus)) (vs.drop i) i=N5 (fun v=>decide (l.const≤v.plus)) vs 0)) 0 (⟨by omega,rfl⟩) ?_ ?_))))))))
 ·exact BS ⟨we O,we O,we O,we O,Ap⟩ (leH (is:=[0]) O (wl (oe O) (C2)))
 rintro i hC
 try simp only at hC
 obtain⟨hi,hC⟩:=hC;refine Au Ay 1 [] O (As (Av O (fun c=>?_) (fun c=>?_)))
 ·simp only[sd,se] at c;refine A2 (As (A9 (Au Ay 2 [] O (Aw (Ax Ay 3 [] O ?_)))));obtain⟨x,hx⟩:=A6 (l:=vs) (i:=i) An;refine Aq O (A4 CY O O An (Cl hx) (O)) (Aq O (BM OL O (O)) (Aq O (CE [0] O (.inr O) (n4 b0 l x) ⟨_,_,O,O,O⟩ Am O (.inl O)) (Bg O (Av O (fun c1=>?_) (fun c1=>?_)))))
  ·simp only[sd,se] at c1;refine Au Ay 2 [] O (A1 (⟨O,_,_,⟨_,_,O,O,O⟩,(B8 (is:=[0]) O),?_⟩))
   all_goals exact⟨by show (.p (I (i:Int)):AV)=_;rw[←hC,Vb hx,if_pos (by simpa using c1)],rfl⟩
  simp only[sd,se] at c1;refine A2 (A3 (Ar Ay 2 [] O ?_));refine⟨(i+1),AW,⟨by omega,by rw[←hC,Vb hx,if_neg (by simpa using c1)];rfl⟩,BS ⟨we rfl,we rfl,we rfl,we rfl,trivial⟩ (leH (is:=[0]) rfl (wl (oe rfl) (C2)))⟩
 simp only[sd,se] at c;refine Be (Au Ay 1 [] O (A1 (⟨O,_,_,⟨_,_,O,O,O⟩,(B8 (is:=[0]) O),?_⟩)))
 all_goals exact⟨by show (.p (I (-1)):AV)=_;rw[←hC,List.drop_eq_nil_of_le An];rfl,rfl⟩
theorem px:∀(b0:Nat) (l:CS) (vs:List CF),(vs.length<DY)→Bn Tryz.prog 195 [.p (.lst (List.map Dt vs)),.fn (.func 196) [] [.ptr b0 0]] [.box b0 ((By l).map .p)] (Gk (.p (.bool (vs.any (fun v=>decide (l.const≤v.plus))))) [.box b0 ((By l).map .p)]):=by
 intro b0 l vs h1;refine A5 Tryz.func195 O tp (n:=9) O O (Au Ay 1 [] O (Aw (Ax Ay 2 [] O (Aq O (CE [0] O (.inl ⟨O,O,O⟩) (oc b0 l vs h1) ⟨_,_,O,O,O⟩ Am O (.inl O)) (Ar Ay 2 [] O (A1 (⟨O,_,_,⟨_,_,O,O,O⟩,(B8 (is:=[0]) O),?_⟩)))))))
 all_goals exact⟨by show (.p (.bool (decide ((N5 (fun v=>decide (l.const≤v.plus)) vs 0:Int)≥(0:Int)))):AV)=_;rw[←VN vs 0 An],rfl⟩
theorem SI:∀(l:CS),(l.vars.length<DY)→ET Tryz.prog 190 [.agg ((By l).map .p)] (.p (.bool (Qp l))):=by
 intro l h1;refine A5 Tryz.func190 O r7 (n:=7) O O (Aw (BF O (BN O) fun b1=>Ar Ay 1 [] O (Aw (Ax Ay 3 [0] O (Aq O (CE [0] O (.inl ⟨O,O,O⟩) (px b1 l l.vars h1) ⟨_,_,O,O,O⟩ Am O (.inl O)) (Ar Ay 1 [] O (A1 (⟨O,_,_,⟨_,_,O,O,O⟩,(List.nil_sublist _),?_⟩))))))))
 all_goals exact⟨rfl,rfl⟩
theorem SK:∀(l:CS),(Nj l)→ET Tryz.prog 180 [.agg ((By l).map .p)] (.p (.bool (B9 l))):=by
 intro l h1;have hl:=h1.vars;simp only[DY] at hl;refine A5 Tryz.func180 O sm (n:=65) O O (Aw (BF O (BN O) fun b1=>Ar Ay 1 [] O (As (As (BT [1] 21 (fun y=>y= .p (.bool (((decide ((l.const:Int)<(0:Int)))||(decide ((l.const:Int) > (100:Int))))||((decide ((l.const:Int) > (0:Int)))&&(Qp (CS.mk l.const l.vars)))))) ?_ ?_)))))
 ·refine A3 (Ax Ay 4 [0] O (BO 8 O (fun g=>?_) (fun g=>?_)))
  ·simp only[sd,se] at g;exact Ar Ay 13 [] O (⟨O,O,AM,AI,⟨O,Ap⟩⟩)
  simp only[sd,se] at g;refine Ax Ay 5 [0] O (BO 13 O (fun g1=>?_) (fun g1=>?_))
  ·simp only[sd,se] at g1;exact Ar Ay 8 [] O (⟨O,O,AM,AI,⟨O,Ap⟩⟩)
  simp only[sd,se] at g1;refine Ax Ay 4 [0] O (BO 17 O (fun g2=>?_) (fun g2=>?_))
  ·simp only[sd,se] at g2;exact BB O (BU (i:=0) DU O O O) (BB O (BC O O (SI (CS.mk l.const l.vars) h1.vars) O) (Ar Ay 2 [] O (⟨O,O,AM,AI,⟨O,Ap⟩⟩)))
  simp only[sd,se] at g2;exact Ar Ay 4 [] O (⟨O,O,AM,AI,⟨O,Ap⟩⟩)
 rintro _ rfl;refine Av O (fun c=>?_) (fun c=>?_)
 ·simp only[sd,se] at c;refine Au Ay 1 [] O (A1 (⟨O,_,_,⟨_,_,O,O,O⟩,(List.nil_sublist _),?_⟩))
  all_goals exact⟨pB (pF c),rfl⟩
 simp only[sd,se] at c;refine A2 (As (Aw (Ax Ay 2 [0] O (Aq O (BJ CY O (List.length_map _)) (Ar Ay 1 [] O (A9 (Bc (α:=Nat) (fun i=>⟨65,mk [(1,.ptr b1 0),(23,.p (.lst (List.map Dt l.vars))),(24,.p (I (l.vars.length:Nat))),(25,.p (I (i:Int)))],[.box b1 [.p (I l.const),.p (.lst (List.map Dt l.vars))]],[]⟩) (fun i=>l.vars.length - i) (fun i=>i≤l.vars.length∧(Cq 0 l.vars 0=Cq 0 l.vars i)) 0 (⟨by omega,rfl⟩) ?_ ?_)))))))
 ·exact BS ⟨we O,we O,we O,we O,Ap⟩ (leH (is:=[0]) O (wl (oe O) (C2)))
 rintro i hC
 try simp only at hC
 obtain⟨hi,hC⟩:=hC;refine Au Ay 1 [] O (As (Av O (fun c1=>?_) (fun c1=>?_)))
 ·simp only[sd,se] at c1;refine A2 (As (A9 (Aw (Br O ?_))));obtain⟨x,hx⟩:=A6 (l:=l.vars) (i:=i) An;refine Aq O (A4 CY O O An (Cl hx) (O)) (Aq O (BM OL O (O)) (BF O (A7 F8 O) fun b4=>Ar Ay 2 [0,1] O (As (BT [1,23,24,25] 63 (fun y=>y= .p (.bool (!(WR 0 x&&Ji (J5 l.vars i) x.index)))) ?_ ?_))))
  ·refine Bt (fun k=>false) Dn (BR Ay 4 [0] O (D6 33 O (fun g=>?_) (fun g=>?_)))
   ·simp only[sd,se] at g;exact Bk Ay 30 [] O (⟨O,O,AM,(by first | exact pB (P5 An) | exact pB (M5 An An) | exact pB (UK hx1 An An)),⟨O,O,O,O,Ap⟩⟩)
   simp only[sd,se] at g;refine BR Ay 5 [0] O (D6 38 O (fun g1=>?_) (fun g1=>?_))
   ·simp only[sd,se] at g1;exact Bk Ay 25 [] O (⟨O,O,AM,(by first | exact pB (P5 An) | exact pB (M5 An An) | exact pB (UK hx1 An An)),⟨O,O,O,O,Ap⟩⟩)
   simp only[sd,se] at g1;refine BR Ay 5 [0] O (D6 43 O (fun g2=>?_) (fun g2=>?_))
   ·simp only[sd,se] at g2;exact Bk Ay 20 [] O (⟨O,O,AM,(by first | exact pB (P5 An) | exact pB (M5 An An) | exact pB (UK hx1 An An)),⟨O,O,O,O,Ap⟩⟩)
   simp only[sd,se] at g2;refine BR Ay 5 [0] O (D6 48 O (fun g3=>?_) (fun g3=>?_))
   ·simp only[sd,se] at g3;exact Bk Ay 15 [] O (⟨O,O,AM,(by first | exact pB (P5 An) | exact pB (M5 An An) | exact pB (UK hx1 An An)),⟨O,O,O,O,Ap⟩⟩)
   simp only[sd,se] at g3;refine BR Ay 3 [] O (D6 51 O (fun g4=>?_) (fun g4=>?_))
   ·simp only[sd,se] at g4;refine BR Ay 4 [1] O ?_;obtain⟨x1,hx1⟩:=A6 (l:=l.vars) (i:=(((i:Int):Int) - (1:Int):Int).toNat) An;exact Ce O (fun _=>A4 CY O O An (Cl hx1) (O)) Ap (Bk Ay 7 [0] O (⟨O,O,AM,(by first | exact pB (P5 An) | exact pB (M5 An An) | exact pB (UK hx1 An An)),⟨O,O,O,O,Ap⟩⟩))
   simp only[sd,se] at g4;exact Bk Ay 12 [] O (⟨O,O,AM,(by first | exact pB (P5 An) | exact pB (M5 An An) | exact pB (UK hx1 An An)),⟨O,O,O,O,Ap⟩⟩)
  rintro _ rfl;refine Av O (fun c2=>?_) (fun c2=>?_)
  ·simp only[sd,se] at c2;refine Au Ay 1 [] O (A1 (⟨O,_,_,⟨_,_,O,O,O⟩,(List.nil_sublist _),?_⟩))
   all_goals exact⟨pB (ml hC (by rw[Oj hx];simp at c2 ⊢;intro q1 q2;simp[c2 q1] at q2)),rfl⟩
  simp only[sd,se] at c2;refine A2 (A3 (Ar Ay 2 [] O (⟨(i+1),AW,⟨by omega,(hC.trans (by rw[Oj hx,c2.1,c2.2];rfl))⟩,BS ⟨we rfl,we rfl,we rfl,we rfl,trivial⟩ (leH (is:=[1]) rfl (wl (oe rfl) (C2)))⟩)))
 simp only[sd,se] at c1;refine Be (Au Ay 1 [] O (A1 (⟨O,_,_,⟨_,_,O,O,O⟩,(List.nil_sublist _),?_⟩)))
 all_goals exact⟨pB (mv (ri c) hC An),rfl⟩
theorem ky:∀(x:CS),(Nj x)→ET Tryz.prog 191 [.agg ((By x).map .p)] (.p (.bool (!B9 x))):=by
 intro x h1;refine A5 Tryz.func191 O sL (n:=6) O O (Aw (BF O (BN O) fun b1=>Ar Ay 1 [] O (Aw (Aq O (BU (i:=0) DU O O Ae) (Aq O (BC O O (SK x h1) O) (Ar Ay 2 [] O (A1 (⟨O,_,_,⟨_,_,O,O,O⟩,(List.nil_sublist _),?_⟩))))))))
 all_goals exact⟨rfl,rfl⟩
theorem lb:∀(l:List CS),(l.length<DY)→(∀x∈l,Nj x)→ET Tryz.prog 130 [.p (.lst (List.map By l)),.p (.fn 191)] (.p (I (N5 (fun x=> !B9 x) l 0))):=by
 intro l h1 h2;simp only[DY] at h1;refine A5 Tryz.func130 O nK (n:=19) O O (Au Ay 1 [] O (As (Aw (Br O (Aq O (BJ EV O (List.length_map _)) (Ar Ay 1 [] O (A9 (Bc (α:=Nat) (fun i=>⟨19,mk [(0,.p (.lst (List.map By l))),(1,.p (.fn 191)),(7,.p (I (l.length:Nat))),(8,.p (I (i:Int)))],[],[]⟩) (fun i=>l.length - i) (fun i=>i≤l.length∧(N5 (fun x=> !B9 x) (l.drop i) i=N5 (fun x=> !B9 x) l 0)) 0 (⟨by omega,rfl⟩) ?_ ?_))))))))
 ·exact BS ⟨we O,we O,we O,we O,Ap⟩ (leH (is:=[]) O (C2))
 rintro i hC
 try simp only at hC
 obtain⟨hi,hC⟩:=hC;refine Au Ay 1 [] O (As (Av O (fun c=>?_) (fun c=>?_)))
 ·simp only[sd,se] at c;refine A2 (As (A9 (Au Ay 2 [] O (Aw (Ax Ay 3 [] O ?_)))));obtain⟨x,hx⟩:=A6 (l:=l) (i:=i) An;refine Aq O (A4 EV O O An (Fu hx) (Dg _)) (Aq O (BM DU O (Dg _)) (Aq O (BC O O (ky x (h2 x (List.mem_of_getElem? hx))) O) (Bg O (Av O (fun c1=>?_) (fun c1=>?_)))))
  ·simp only[sd,se] at c1;refine Au Ay 2 [] O (A1 (⟨O,_,_,⟨_,_,O,O,O⟩,(List.nil_sublist _),?_⟩))
   all_goals exact⟨by show (.p (I (i:Int)):AV)=_;rw[←hC,Vb hx,if_pos (by simpa using c1)],rfl⟩
  simp only[sd,se] at c1;refine A2 (A3 (Ar Ay 2 [] O ?_));refine⟨(i+1),AW,⟨by omega,by rw[←hC,Vb hx,if_neg (by simpa using c1)];rfl⟩,BS ⟨we rfl,we rfl,we rfl,we rfl,trivial⟩ (leH (is:=[]) rfl (C2))⟩
 simp only[sd,se] at c;refine Be (Au Ay 1 [] O (A1 (⟨O,_,_,⟨_,_,O,O,O⟩,(List.nil_sublist _),?_⟩)))
 all_goals exact⟨by show (.p (I (-1)):AV)=_;rw[←hC,List.drop_eq_nil_of_le An];rfl,rfl⟩
theorem lp:∀(l:List CS),(l.length<DY)→(∀x∈l,Nj x)→ET Tryz.prog 99 [.p (.lst (List.map By l)),.p (.fn 191)] (.p (.bool (l.any (fun x=> !B9 x)))):=by
 intro l h1 h2;refine A5 Tryz.func99 O tz (n:=9) O O (Au Ay 1 [] O (Aw (Ax Ay 2 [] O (Aq O (BC O O (lb l h1 h2) O) (Ar Ay 2 [] O (A1 (⟨O,_,_,⟨_,_,O,O,O⟩,(List.nil_sublist _),?_⟩)))))))
 all_goals exact⟨by show (.p (.bool (decide ((N5 (fun x=> !B9 x) l 0:Int)≥(0:Int)))):AV)=_;rw[←VN l 0 An],rfl⟩
theorem Xh:∀(l:List CS),(l.length<DY)→(∀x∈l,Nj x)→ET Tryz.prog 181 [.p (.lst (List.map By l))] (.p (.bool (l.all B9))):=by
 intro l h1 h2;refine A5 Tryz.func181 O sK (n:=6) O O (Au Ay 1 [] O (Aw (Br O (Aq O (BC O O (lp l h1 h2) O) (Ar Ay 2 [] O (A1 (⟨O,_,_,⟨_,_,O,O,O⟩,(List.nil_sublist _),?_⟩)))))))
 all_goals exact⟨pB (by rw[List.all_eq_not_any_not]),rfl⟩
theorem dE:∀(l:CS),(Nj l)→ET Tryz.prog 182 [.agg ((By l).map .p)] (.p (I (Ge l))):=by
 intro l h1;have hl:=h1.vars;simp only[DY] at hl;refine A5 Tryz.func182 O rN (n:=22) O O (Aw (BF O (BN O) fun b1=>Ar Ay 1 [] O (As (Aw (Ax Ay 2 [0] O (Aq O (BJ CY O (List.length_map _)) (Ar Ay 1 [] O (As (BT [1,3] 12 (fun y=>y= .p (.bool ((B9 (CS.mk l.const l.vars))&&(decide (((l.vars.length:Nat):Int) > (0:Int)))))) ?_ ?_)))))))))
 ·refine A3 (Aq O (BU (i:=0) DU O O O) (Aq O (BC O O (SK (CS.mk l.const l.vars) h1) O) (Br O (BO 9 O (fun g=>?_) (fun g=>?_)))))
  ·exact Ar Ay 3 [] O (⟨O,O,AM,AI,⟨O,O,Ap⟩⟩)
  exact Ar Ay 3 [] O (⟨O,O,AM,AI,⟨O,O,Ap⟩⟩)
 rintro _ rfl;refine Av O (fun c=>?_) (fun c=>?_)
 ·simp only[sd,se] at c;obtain⟨hv,hn⟩:B9 l=true∧0<l.vars.length:=by simpa using c
  refine Aw (Ax Ay 4 [0] O ?_);obtain⟨x,hx⟩:=A6 (l:=l.vars) (i:=(((l.vars.length:Nat):Int) - (1:Int):Int).toNat) An;have hw:=Lh hv hx;refine Aq O (A4 CY O O An (Cl hx) (O)) (Ax Ay 3 [] O (Aq O (FI O O) (Ar Ay 1 [] O (A1 (⟨O,_,_,⟨_,_,O,O,O⟩,(List.nil_sublist _),?_⟩)))))
  all_goals exact⟨pI (Xt hv hx An),rfl⟩
 simp only[sd,se] at c;refine A2 (Au Ay 1 [] O (A1 (⟨O,_,_,⟨_,_,O,O,O⟩,(List.nil_sublist _),?_⟩)))
 all_goals exact⟨pI (Xz (qw c)),rfl⟩
theorem gJ:Bn Tryz.prog 183 [] [] (mh (fun b:Nat×Nat=> .ptr b.1 0) (fun b=>[.box b.1 [.map b.2,.p (I 0)],.map b.2 (EF (G4 []))])):=by
 refine A5 Tryz.func183 O rJ (n:=4) O O (Au Ay 1 [] O (Aw (oQ O O W7 fun m1=>Aq O (CO sf uD O) (BF O (BN O) fun b3=>Ar Ay 1 [] O (A1 (⟨O,_,_,⟨_,_,O,O,O⟩,(B8 (is:=[0,1]) O),?_⟩))))));exact⟨(_,_),O,O⟩
theorem XC:∀(m:Nat) (M:List (Int×Int)) (i p:Int),Bn Tryz.prog 184 [.map m,.p (I i),.p (I p)] [.map m (EF (G4 M))] (Gk (.tup []) [.map m (EF (G4 (GN M i p)))]):=by
 intro m M i p;refine A5 Tryz.func184 O sr (n:=24) O O (Aw (Ax Ay 2 [] O ?_));refine Aq O (Tc (i:=0) gh ki (fun _ _=>by simp[CN,CK]) rfl rfl rfl (XY _ _) (jS _ _)) ?_;refine Ar Ay 5 [] O (As (BT [0,1,2] 20 (fun y=>y= .p (.bool ((!((mg i M).isSome))||(decide ((p:Int) > ((mg i M).getD 0:Int)))))) ?_ ?_))
 ·refine A3 (Ax Ay 3 [] O (BO 16 O (fun g=>?_) (fun g=>?_)))
  ·simp only[sd,se] at g;exact Ar Ay 4 [] O (⟨O,O,AM,AI,⟨O,O,O,Ap⟩⟩)
  simp only[sd,se] at g;exact Ar Ay 4 [] O (⟨O,O,AM,AI,⟨O,O,O,Ap⟩⟩)
 rintro _ rfl;refine Av O (fun c=>?_) (fun c=>?_)
 ·simp only[sd,se] at c;refine A3 (Ax Ay 3 [] O (Aq O (Ti (i:=0) gh O O O O) (Bg O ⟨O,_,_,O,(B8 (is:=[0]) O),?_⟩)));refine⟨O,?_⟩;show ([.map m (EF (N3 i (.p (I p)) (G4 M)))]:List BK)=_;rw[cf c,←cM]
 simp only[sd,se] at c;refine A2 ⟨O,_,_,O,(B8 (is:=[0]) O),?_⟩;refine⟨O,?_⟩;show ([.map m (EF (G4 M))]:List BK)=_;rw[ZX c]
theorem Y6:∀(l:CS),(l.vars.length<DY)→ET Tryz.prog 194 [.agg ((By l).map .p)] (.tup [.agg ((By ((JU l).1)).map .p),.p (I ((JU l).2))]):=by
 intro l h1;have hl:=h1;simp only[DY] at hl;refine A5 Tryz.func194 O rF (n:=26) O O (Aw (BF O (BN O) fun b1=>BF O (A7 EI O) fun b2=>Ar Ay 1 [] O (As (Aw (Ax Ay 2 [1] O (Aq O (BJ CY O (List.length_map _)) (Ar Ay 1 [] O (A9 ?_))))))));refine Bc (α:=Nat) (fun i=>⟨26,mk [(1,.ptr b1 0),(2,.ptr b2 0),(7,.p (.lst (List.map Dt l.vars))),(8,.p (I (l.vars.length:Nat))),(9,.p (I (i:Int)))],[.box b2 [.p (I 0),.p (.nils)],.box b1 [.p (I l.const),.p (.lst (List.map Dt l.vars))]],[]⟩) (fun i=>l.vars.length - i) (fun i=>i≤l.vars.length∧(∀j,j<i→∀y,l.vars[j]?=some y→¬100<y.plus)) 0 (⟨by omega,fun j h=>by omega⟩) ?_ ?_
 ·exact BS ⟨we O,we O,we O,we O,we O,Ap⟩ (leH (is:=[0,1]) O (wl (oe O) (wl (oe O) (C2))))
 rintro i hC
 try simp only at hC
 obtain⟨hi,hC⟩:=hC;refine Au Ay 1 [] O (As (Av O (fun c=>?_) (fun c=>?_)))
 ·simp only[sd,se] at c;refine A2 (As (A9 (Aw ?_)));obtain⟨x,hx⟩:=A6 (l:=l.vars) (i:=i) An;refine Aq O (A4 CY O O An (Cl hx) (O)) (Aq O (BM OL O (O)) (BF O (A7 F8 O) fun b5=>Ar Ay 1 [0,1] O (Au Ay 3 [0] O (Av O (fun c1=>?_) (fun c1=>?_)))))
  ·simp only[sd,se] at c1;refine Au Ay 3 [1,0] O (BH (BW (i:=1) O) (A1 (⟨O,_,_,⟨_,_,O,(BA (i:=1) DU O O O),⟨_,_,O,O,O⟩⟩,(List.nil_sublist _),?_⟩)))
   all_goals exact⟨by show (.tup [.agg [.p (I 0),.p (.lst [])],.p (I 15)]:AV)=_;rw[vI hx c1];rfl,rfl⟩
  simp only[sd,se] at c1;refine A2 (A3 (Ar Ay 2 [] O (⟨(i+1),AW,⟨by omega,Cx (p:=fun _ (y:CF)=>¬100<y.plus) hC hx An⟩,BS ⟨we rfl,we rfl,we rfl,we rfl,we rfl,trivial⟩ (leH (is:=[1,2]) rfl (wl (oe rfl) (wl (oe rfl) (C2))))⟩)))
 simp only[sd,se] at c;refine Be (As (Au Ay 3 [1] O (Av O (fun c1=>?_) (fun c1=>?_))))
 ·simp only[sd,se] at c1;refine Au Ay 3 [0,0] O (BH (BW (i:=0) O) (A1 (⟨O,_,_,⟨_,_,O,(BA (i:=0) DU O O O),⟨_,_,O,O,O⟩⟩,(List.nil_sublist _),?_⟩)))
  all_goals exact⟨by show (.tup [.agg [.p (I 0),.p (.lst [])],.p (I 15)]:AV)=_;rw[uz c1];rfl,rfl⟩
 simp only[sd,se] at c1;refine A2 (As (Aw (Aq O (BU (i:=1) DU O O O) (Aq O (BC O O (SI (CS.mk l.const l.vars) h1) O) (Bg O (Av O (fun c2=>?_) (fun c2=>?_)))))))
 ·refine A3 (Ar Ay 2 [1,0] O (Au Ay 3 [1,0,0] O (A1 (⟨O,_,_,⟨_,_,O,(BA (i:=0) DU O O O),⟨_,_,O,O,O⟩⟩,(List.nil_sublist _),?_⟩))))
  all_goals exact⟨by show (.tup [.agg [.p (I 0),.p (.lst (List.map Dt l.vars))],.p (I 0)]:AV)=_;rw[u7 (fun j hj=>hC j An) An c2];rfl,rfl⟩
 refine A2 (Au Ay 3 [1,0,0] O (A1 (⟨O,_,_,⟨_,_,O,(BA (i:=0) DU O O O),⟨_,_,O,O,O⟩⟩,(List.nil_sublist _),?_⟩)))
 all_goals exact⟨by show (.tup [.agg [.p (I l.const),.p (.lst (List.map Dt l.vars))],.p (I 0)]:AV)=_;rw[ug (fun j hj=>hC j An) An (by simpa using c2)];rfl,rfl⟩
theorem lh:∀(s m:Nat) (M:List (Int×Int)) (C:Int) (l:CS) (n:Int),(JG l)→(0≤n)→(n≤100)→Bn Tryz.prog 185 [.ptr s 0,.agg ((By l).map .p),.p (I n)] [.box s [.map m,.p (I C)],.map m (EF (G4 M))] (Gk (.tup []) [.box s [.map m,.p (I ((Sn (M,C) l n).2))],.map m (EF (G4 (Sn (M,C) l n).1))]):=by
 intro s m M C l n h1 h2 h3;have hl:=h1.len;have hc:=h1.c;refine A5 Tryz.func185 O re (n:=39) O O (Aw (BF O (BN O) fun b4=>Bg O (As (Bt (fun k=>false) Dn (BR Ay 9 [1,0] O (BG O (fun _=>FI O O) Ap (Bk Ay 3 [1,0] O (Aw (Ax Ay 2 [0] O (Aq O (BJ CY O (List.length_map _)) (Ar Ay 1 [] O (A9 (Bc (α:=Nat) (fun i=>⟨39,mk [(0,.ptr s 0),(2,.p (I n)),(21,.p (.lst (List.map Dt l.vars))),(22,.p (I (l.vars.length:Nat))),(23,.p (I (i:Int)))],[.box s [.map m,.p (I (max (C:Int) ((l.const:Int)+(n:Int):Int)))],.map m (EF (G4 ((l.vars.take i).foldl (H5 n) M)))],[]⟩) (fun i=>l.vars.length - i) (fun i=>i≤l.vars.length) 0 AQ ?_ ?_)))))))))))))
 ·exact BS ⟨we O,we O,we O,we O,we O,Ap⟩ (leH (is:=[1,2]) O (wl (oe O) (wl (oe O) (C2))))
 rintro i hC
 try simp only at hC
 have hi:=hC;refine Au Ay 1 [] O (As (Av O (fun c=>?_) (fun c=>?_)))
 ·simp only[sd,se] at c;refine A2 (As (A9 (Aw ?_)));obtain⟨x,hx⟩:=A6 (l:=l.vars) (i:=i) An;have hv:=h1.rg x (List.mem_of_getElem? hx);refine Aq O (A4 CY O O An (Cl hx) (O)) (Aq O (BM OL O (O)) (BF O (A7 F8 O) fun b7=>Ar Ay 1 [0,1] O (Bt (fun k=>false) Dn (BR Ay 10 [1,0,0] O (GX O O (CE [2] O (.inl ⟨O,O,O⟩) (XC m ((l.vars.take i).foldl (H5 n) M) x.index ((x.plus:Int)+(n:Int))) ⟨_,_,O,O,O⟩ Am O (.inl O)) AB Ap (Je O Aj (A3 (B4 (IA (i:=2) O (om (congrArg EF (congrArg G4 (dQ hx))))) (Ar Ay 2 [] O ?_)))))))));refine⟨(i+1),AW,by omega,BS ⟨we rfl,we rfl,we rfl,we rfl,we rfl,trivial⟩ (leH (is:=[1,2]) rfl (wl (oe rfl) (wl (oe rfl) (C2))))⟩
 simp only[sd,se] at c;refine Be ⟨O,_,_,O,(B8 (is:=[0,1]) O),?_⟩;refine⟨O,?_⟩;show ([.box s [.map m,.p (I (max (C:Int) ((l.const:Int)+(n:Int):Int)))],.map m (EF (G4 ((l.vars.take i).foldl (H5 n) M)))]:List BK)=_;rw[show l.vars.take i=l.vars from List.take_of_length_le An];rfl
end Go.Proofs.YtboammbpdaoojaaGreat
