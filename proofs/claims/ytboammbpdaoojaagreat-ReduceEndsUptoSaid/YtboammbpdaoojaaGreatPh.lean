/- Part of the proofs: an abstract program logic, plain models and contracts of functions. -/
import Derived.Test.YtboammbpdaoojaaGreatPg
import Derived.Test.YtboammbpdaoojaaGreatPd
import Derived.Test.YtboammbpdaoojaaGreatPc
import Derived.Test.YtboammbpdaoojaaGreatPe
import Derived.Test.YtboammbpdaoojaaGreatPb
set_option linter.unusedVariables false
set_option linter.unusedSimpArgs false
set_option maxRecDepth 100000
namespace Go.Proofs.YtboammbpdaoojaaGreat
open Go.Abs Go.Eu
theorem kD:∀(l b1 b2:Nat) (d:CM) (at_:Int) (nm:ByteArray) (TA:Fu→List BL) (T0:List BL),(d.kind=0∨OD d)→(∀s e,(s,e)∈E9 d at_→Kw Tryz.prog l [.p (.str s),.agg ((Dj e).map .p)] T0 (Ut (.p (.bool (!decide (s=nm)))) (fun T=>T=if s=nm then TA e else T0)))→Bu Tryz.prog 170 [.fn (.yield l) [] [],.ptr b2 0,.ptr b1 0] (.box b1 ((Bo d).map .p):: .box b2 [.p (I at_)]::T0) (Ut (.tup []) (fun H=>∃T,T=IE TA T0 nm (E9 d at_)∧H= .box b1 ((Bo d).map .p):: .box b2 [.p (I at_)]::T)):=by
 intro l b1 b2 d at_ nm TA T0 h1 h2;refine A9 Tryz.func170 O m6 (n:=98) O O (A3 (A2 A8 2 [1] O (Av O (A6 (i:=0) C7 O O (Ci _)) (Av O (Aw Cm O O) (Av O (B4 (i:=0) Ba O O (FO _) (BJ _)) (Av O (CE E8 IK (aS O O O)) (BP O (BE IK O) fun b4=>Ax A8 1 [0,1] O (A3 (Av O (Aw Cm O O) (Av O (A6 (i:=1) C7 O O (Du _)) (Bk O (BH (Az (Ay A8 2 [] O (Bb [0,1,2,4,16] 17 (fun y=>y= .p (.bool (decide (d.kind=0∨d.kind=1∨d.kind=2)))) ?_ ?_)))))))))))))))
 ·refine A0 O (fun c=>?_) (fun c=>?_)
  ·(try simp only[sd,se] at c);exact A5 (⟨O,O,(List.Sublist.refl _),(by refine pB (Bool.eq_iff_iff.2 ?_);simp only[beq_iff_eq,decide_eq_true_eq];omega),⟨O,O,O,O,O,Au⟩⟩)
  (try simp only[sd,se] at c);refine Ay A8 2 [] O (A0 O (fun c1=>?_) (fun c1=>?_))
  ·(try simp only[sd,se] at c1);exact A5 (⟨O,O,(List.Sublist.refl _),(by refine pB (Bool.eq_iff_iff.2 ?_);simp only[beq_iff_eq,decide_eq_true_eq];omega),⟨O,O,O,O,O,Au⟩⟩)
  (try simp only[sd,se] at c1);exact A7 (Ax A8 2 [] O (⟨O,O,(List.Sublist.refl _),(by refine pB (Bool.eq_iff_iff.2 ?_);simp only[beq_iff_eq,decide_eq_true_eq];omega),⟨O,O,O,O,O,Au⟩⟩))
 rintro _ rfl;refine A0 O (fun c=>?_) (fun c=>?_)
 ·(try simp only[sd,se] at c);have hx0:([0,1,2]:List Int)[d.kind.toNat]?=some d.kind:=by
   have:d.kind=0∨d.kind=1∨d.kind=2:=by simpa using c
   rcases this with e | e | e<;>rw[e]<;>rfl
  have hk0:0≤d.kind∧d.kind<3:=by
   have:d.kind=0∨d.kind=1∨d.kind=2:=by simpa using c
   omega
  refine A3 (Av O (CC HE fj O O O O O) (Av O (Aw Cm O O) (Av O (A6 (i:=1) C7 O O (Du _)) (Av O (BA HE O O Ar (K1 hx0) (O)) (A2 A8 2 [] O (Av O (Ds (i:=0) (ds:=(Dj (Fu.mk d.kind at_ 0 d.params d.type)).map .p) C7 O O O O O O O) (Bk O (A7 (A2 A8 2 [] O (Av O (A6 (i:=1) Lz O O (De _)) (Av O (BI (i:=0) I1 O O Ai) (IU [_,_,_] O O O O (h2 _ _ (cG (by simpa using c))) O ?_ (fun _ _ h=>h.elim)))))))))))));rintro _ T ⟨rfl,hT⟩;refine Bk O ⟨O,_,_,O,(GM [1,2] [_,_,_] O),?_⟩;exact⟨O,_,(hT.trans (WV (by simpa using c)).symm),O⟩
 (try simp only[sd,se] at c);have hD:OD d:=by
  rcases h1 with h | h
  ·exact absurd (show d.kind=0∨d.kind=1∨d.kind=2 from .inl h) (by simpa using c)
  exact h
 have hcl:=hD.cl;have hfl:=hD.fl;refine Ay A8 2 [] O (A0 O (fun c1=>?_) (fun c1=>?_))
 ·(try simp only[sd,se] at c1);refine A3 (Av O (Aw E8 O O) (Av O (Ds (i:=0) (ds:=(Dj (Fu.mk 3 at_ 0 d.params d.type)).map .p) C7 O O O O O O O) (Bk O (Az (A3 (A2 A8 2 [] O (Av O (A6 (i:=1) Lz O O (De _)) (Av O (BI (i:=0) I1 O O Ai) (IU [_,_,_] O O O O (h2 _ _ (et (by simpa using c1))) O ?_ (fun _ _ h=>h.elim))))))))));rintro _ T ⟨rfl,hT⟩;refine Ax A8 1 [] O (A0 O (fun c2=>?_) (fun c2=>?_))
  ·(try simp only[sd,se] at c2);refine A4 ⟨O,_,_,O,(GM [1,2] [_,_,_] O),?_⟩;exact⟨O,_,(hT.trans ((if_pos (by simpa using c2)).trans (Yz (by simpa using c1) (by simpa using c2)).symm)),O⟩
  (try simp only[sd,se] at c2);have qc2:¬(d.name=nm):=by simpa using c2
  rw[if_neg qc2] at hT;have hT:=hT.symm;subst hT;refine A5 (Az (A3 (Av O (Aw Cm O O) (Av O (A6 (i:=1) IM O O (CJ _)) (Av O (BS Hu O (List.length_map _)) (Ax A8 1 [] O (BH ?_)))))));refine Bn (α:=Nat) (fun i=>⟨98,mk [(0,.fn (.yield l) [] []),(1,.ptr b2 0),(2,.ptr b1 0),(42,.p (.lst (List.map GK d.ctors))),(43,.p (I (d.ctors.length:Nat))),(44,.p (I (i:Int)))],(.box b1 ((Bo d).map .p):: .box b2 [.p (I at_)]::T0),[]⟩) (fun i=>d.ctors.length - i) (fun i=>i≤d.ctors.length∧(∀j,j<i→∀y,d.ctors[j]?=some y→y.name≠nm)) 0 (⟨by omega,fun j h=>by omega⟩) ?_ ?_
  ·exact Bh ⟨we O,we O,we O,we O,we O,we O,Au⟩ (Xh [1,2] [_,_,_] (l':=[_,_]) O (wl (oe O) (wl (oe O) (Dd))))
  rintro i hC
  try simp only at hC
  obtain⟨hi,hC⟩:=hC;refine Ay A8 1 [] O (Az (A0 O (fun c3=>?_) (fun c3=>?_)))
  ·(try simp only[sd,se] at c3);refine A5 (Az (BH (A3 (B0 O ?_))));obtain⟨x,hx⟩:=BB (l:=d.ctors) (i:=i) Ar;refine Av O (BA Hu O O Ar (Eh hx) (EI _)) (Av O (BO nV O (EI _)) (BP O (BE XN O) fun b6=>Ax A8 2 [0,1] O (A3 (A2 A8 2 [] O (Av O (A6 (i:=0) Lz O O (Fy _)) (A2 A8 3 [2] O (Av O (A6 (i:=1) C7 O O (Ci _)) (Av O (Aw I8 O O) (Av O (B4 (i:=0) Ba O O (FP _) (BJ _)) (Av O (CE E8 IK (M9 O O O O O)) (IU [_,_,_] O O O O (h2 _ _ (dN (by simpa using c1) hx)) O ?_ (fun _ _ h=>h.elim))))))))))));rintro _ T1 ⟨rfl,hT1⟩;refine Ax A8 1 [] O (A0 O (fun c4=>?_) (fun c4=>?_))
   ·(try simp only[sd,se] at c4);refine A4 ⟨O,_,_,O,(GM [1,2] [_,_,_] O),?_⟩;exact⟨O,_,(hT1.trans ((if_pos (by simpa using c4)).trans (WN (by simpa using c1) qc2 hx (by simpa using c4) hC).symm)),O⟩
   (try simp only[sd,se] at c4);have qc4:¬(x.name=nm):=by simpa using c4
   rw[if_neg qc4] at hT1;have hT1:=hT1.symm;subst hT1;refine A5 (A7 (Ax A8 2 [] O (⟨(i+1),AT,⟨by omega,C6 (p:=fun _ (y:Hz)=>y.name≠nm) hC hx qc4⟩,Bh ⟨we rfl,we rfl,we rfl,we rfl,we rfl,we rfl,trivial⟩ (Xh [1,2] [_,_,_] (l':=[_,_]) rfl (wl (oe rfl) (wl (oe rfl) (Dd))))⟩)))
  (try simp only[sd,se] at c3);refine Bp (A7 (A2 A8 2 [] O (Av O (A6 (i:=0) Lz O O (De _)) (Av O (QH O O (by have:(⟨#[46,114,101,99]⟩:ByteArray).size=4:=rfl;have:=hD.nm;omega)) (A2 A8 3 [1] O (Av O (A6 (i:=0) C7 O O (DU _)) (A2 A8 2 [] O (Av O (B4 (i:=0) Ba O O (Em _) (BJ _)) (Av O (CE E8 IK (X7 O O O O)) (IU [_,_] O O O O (h2 _ _ (eJ (by simpa using c1))) O ?_ (fun _ _ h=>h.elim)))))))))));rintro _ T1 ⟨rfl,hT1⟩;refine Bk O ⟨O,_,_,O,(GM [0,1] [_,_] O),?_⟩;exact⟨O,_,(hT1.trans (YV (by simpa using c1) qc2 fun j hj=>hC j Ar).symm),O⟩
 (try simp only[sd,se] at c1);refine Ay A8 2 [] O (A0 O (fun c2=>?_) (fun c2=>?_))
 ·(try simp only[sd,se] at c2);refine A3 (Av O (Aw Cm O O) (Av O (A6 (i:=1) HS O O (CI _)) (Av O (BS G9 O (List.length_map _)) (Ax A8 1 [] O (BH ?_)))));refine Bn (α:=Nat) (fun i=>⟨98,mk [(0,.fn (.yield l) [] []),(1,.ptr b2 0),(2,.ptr b1 0),(78,.p (.lst (List.map Fe d.funs))),(79,.p (I (d.funs.length:Nat))),(80,.p (I (i:Int)))],(.box b1 ((Bo d).map .p):: .box b2 [.p (I at_)]::T0),[]⟩) (fun i=>d.funs.length - i) (fun i=>i≤d.funs.length∧(∀j,j<i→∀y,d.funs[j]?=some y→y.name≠nm)) 0 (⟨by omega,fun j h=>by omega⟩) ?_ ?_
  ·exact Bh ⟨we O,we O,we O,we O,we O,we O,Au⟩ (Xh [1,2] [_,_,_] (l':=[_,_]) O (wl (oe O) (wl (oe O) (Dd))))
  rintro i hC
  try simp only at hC
  obtain⟨hi,hC⟩:=hC;refine Ay A8 1 [] O (Az (A0 O (fun c3=>?_) (fun c3=>?_)))
  ·(try simp only[sd,se] at c3);refine A5 (Az (BH (A3 (B0 O ?_))));obtain⟨x,hx⟩:=BB (l:=d.funs) (i:=i) Ar;refine Av O (BA G9 O O Ar (Ec hx) (DQ _)) (Av O (BO Z6 O (DQ _)) (BP O (BE Zl O) fun b8=>Ax A8 2 [0,1] O (A3 (A2 A8 2 [] O (Av O (A6 (i:=0) Lz O O (IP _)) (A2 A8 3 [2] O (Av O (A6 (i:=1) C7 O O (Ci _)) (Av O (Aw G2 O O) (Av O (B4 (i:=0) Ba O O (IQ _) (BJ _)) (Av O (CE E8 IK (M9 O O O O O)) (IU [_,_,_] rfl rfl rfl rfl (h2 _ _ (fB (by simpa using c2) hx)) rfl ?_ (fun _ _ h=>h.elim))))))))))));rintro _ T ⟨rfl,hT⟩;refine Ax A8 1 [] O (A0 O (fun c4=>?_) (fun c4=>?_))
   ·(try simp only[sd,se] at c4);refine A4 ⟨O,_,_,O,(GM [1,2] [_,_,_] O),?_⟩;exact⟨O,_,(hT.trans ((if_pos (by simpa using c4)).trans (Zb (by simpa using c2) hx (by simpa using c4) hC).symm)),O⟩
   (try simp only[sd,se] at c4);have qc4:¬(x.name=nm):=by simpa using c4
   rw[if_neg qc4] at hT;have hT:=hT.symm;subst hT;refine A5 (A7 (Ax A8 2 [] O (⟨(i+1),AT,⟨by omega,C6 (p:=fun _ (y:HB)=>y.name≠nm) hC hx qc4⟩,Bh ⟨we rfl,we rfl,we rfl,we rfl,we rfl,we rfl,trivial⟩ (Xh [1,2] [_,_,_] (l':=[_,_]) rfl (wl (oe rfl) (wl (oe rfl) (Dd))))⟩)))
  (try simp only[sd,se] at c3);refine Bp ⟨O,_,_,O,(GM [0,1] [_,_] O),?_⟩;exact⟨O,_,(Wb (by simpa using c2) fun j hj=>hC j Ar).symm,O⟩
 (try simp only[sd,se] at c2);refine A5 ⟨O,_,_,O,(GM [1,2] [_,_,_] O),?_⟩;exact⟨O,_,(WC (by simpa using c) (by simpa using c1) (by simpa using c2)).symm,O⟩
theorem jQ:∀(d:CM) (at_:Int),Bu Tryz.prog 144 [.agg ((Bo d).map .p),.p (I at_)] [] (fun r H'=>∃b1 b2,r= .val (.fn (.func 170) [] [.ptr b2 0,.ptr b1 0])∧H'=[.box b2 [.p (I at_)],.box b1 ((Bo d).map .p)]):=by
 intro d at_;refine A9 Tryz.func144 O ke (n:=6) O O (A3 (BP O (BY O) fun b2=>BP O (BY O) fun b3=>Ax A8 1 [] O (Ay A8 2 [] O (A4 (⟨O,_,_,⟨_,_,O,O,O⟩,(CO (is:=[0,1]) O),?_⟩)))));exact⟨_,_,O,O⟩
theorem YG:∀(ds:List CM) (nm:ByteArray),(ds.length<Dv)→(og ds)→FF Tryz.prog 116 [.p (.lst (List.map Bo ds)),.p (.str nm)] (.tup [.agg ((Dj ((Bw ds nm).1)).map .p),.p (I ((Bw ds nm).2))]):=by
 intro ds nm h1 h2;simp only[Dv] at h1;refine E2 Tryz.func116 O me (n:=28) O O (A3 (BP O (BY O) fun b3=>BP O (BE IK O) fun b4=>BP O (BE aK O) fun b5=>Bk O (Az (A3 (B0 O (Av O (BS Iv O (List.length_map _)) (Ax A8 1 [] O (BH ?_))))))));refine Bn (α:=Nat×List Nat) (fun(i,U)=>⟨28,mk [(3,.ptr b3 0),(4,.ptr b4 0),(5,.ptr b5 0),(10,.p (.lst (List.map Bo ds))),(11,.p (I (ds.length:Nat))),(12,.p (I (i:Int)))],(.box b5 [.p (I 0)]:: .box b4 [.p (I 0),.p (I 0),.p (I 0),.p (I 0),.p (I 0),.p (I 0),.p (.str ⟨#[]⟩),.p (.nils),.p (.nils)]:: .box b3 [.p (.str nm)]::(U.map BL.dfr)),(U.map EF.mark)⟩) (fun(i,U)=>ds.length - i) (fun(i,U)=>i≤ds.length∧(∀j,j<i→∀y,ds[j]?=some y→Ck nm (E9 y j)=none)) ⟨0,[]⟩ (⟨by omega,fun j h=>by omega⟩) ?_ ?_
 ·exact Bh ⟨we O,we O,we O,we O,we O,we O,Au⟩ (Xh [0,1,2] [_,_,_] (l':=[_,_,_]) O (wl (oe O) (wl (oe O) (wl (oe O) (Dd)))))
 rintro⟨i,U⟩ hC
 try simp only at hC
 obtain⟨hi,hC⟩:=hC;refine Ay A8 1 [] O (Az (A0 O (fun c=>?_) (fun c=>?_)))
 ·(try simp only[sd,se] at c);refine A5 (Az (BH (A3 (B0 O ?_))));obtain⟨x,hx⟩:=BB (l:=ds) (i:=i) Ar;have hx0:=h2 _ (List.mem_of_getElem? hx);refine Av O (BA Iv O O Ar (En hx) (Cp _)) (Av O (BO Ew O (Cp _)) (BP O (BE MY O) fun b7=>Ax A8 2 [0,1] O (A3 (A2 A8 2 [0] O ?_))));refine IL (Hs:=[]) O O O (.inl ⟨O,O,O⟩) (List.Perm.refl _) ((jQ x ((i:Int))).args (aw (we O) (aw (we O) FB))) (.inl O) ?_ (fun _ _ ⟨_,_,h,_⟩=>by cases h);rintro _ _ ⟨bd,ba,h,rfl⟩;cases h;refine Bk O (BH (QP (.inr O) fun dd l L hL=>⟨_,_,RU (is:=[3,2,0,4,5,6,7]) (base:=[_,_,_,_,_,_,_,_]) (rest:=[.dfr dd]) Aq ⟨_,_,O,O,⟨_,_,O,O,⟨_,_,O,O,⟨_,_,O,O,⟨_,_,O,O,⟨_,_,O,O,⟨_,_,O,O,O⟩⟩⟩⟩⟩⟩⟩ O,?_⟩));have hy:∀(sn:ByteArray) (en:Fu),(sn,en)∈E9 x ((i:Int))→Kw Tryz.prog l [.p (.str sn),.agg ((Dj en).map .p)] [.loop l L,.box b7 ((Bo x).map .p),.box b5 [.p (I 0)],.box b4 [.p (I 0),.p (I 0),.p (I 0),.p (I 0),.p (I 0),.p (I 0),.p (.str ⟨#[]⟩),.p (.nils),.p (.nils)],.box b3 [.p (.str nm)]] (Ut (.p (.bool (!decide (sn=nm)))) (fun T:List BL=>T=if sn=nm then [.loop l { L with state:= .done,pending:=some .ret },.box b7 ((Bo x).map .p),.box b5 [.p (I 0)],.box b4 ((Dj en).map .p),.box b3 [.p (.str nm)]] else [.loop l L,.box b7 ((Bo x).map .p),.box b5 [.p (I 0)],.box b4 [.p (I 0),.p (I 0),.p (I 0),.p (I 0),.p (I 0),.p (I 0),.p (.str ⟨#[]⟩),.p (.nils),.p (.nils)],.box b3 [.p (.str nm)]])):=by
   intro sn en hm;obtain⟨LB,hLB⟩:∃x,x=BL.loop l { L with state:= .busy }:=⟨_,rfl⟩;subst hL;refine R0 (i:=0) O O O O (Ay A8 1 [] O (A7 (BP O (BE IK O) fun b9=>Ax A8 1 [0,1] O ⟨O,1,O,?_⟩)));rw[←hLB];refine BH (A3 (A2 A8 2 [5] O (Av O (F4 O O) (Bk O (A0 O (fun c1=>?_) (fun c1=>?_))))))
   ·(try simp only[sd,se] at c1);refine Ay A8 3 [0,4,1,3,0] O (A4 ?_);subst hLB;refine⟨1,_,O,CO (is:=[1,2,3,4,5]) O,?_⟩;have hcc:sn=nm:=G4 (by simpa using c1);exact⟨by simp[hcc],(if_pos hcc).symm⟩
   (try simp only[sd,se] at c1);refine A5 ?_;subst hLB;refine⟨1,_,O,CO (is:=[1,2,3,4,5]) O,?_⟩;have hcc:¬(sn=nm):=fun h=>by simp[h] at c1
   exact⟨by simp[hcc],(if_neg hcc).symm⟩
  refine(kD l bd ba x ((i:Int)) nm (fun en=>[.loop l { L with state:= .done,pending:=some .ret },.box b7 ((Bo x).map .p),.box b5 [.p (I 0)],.box b4 ((Dj en).map .p),.box b3 [.p (.str nm)]]) _ (hx0) hy).mono ?_;rintro(v | v) H' hR
  rotate_left
  ·exact hR.elim
  obtain⟨rfl,_,hT,rfl⟩:=hR;subst hL;unfold IE at hT;cases hF:Ck nm (E9 x ((i:Int))) with
  | some en =>
   rw[hF] at hT;simp only at hT;subst hT;refine WI (i:=2) (.box bd ((Bo x).map .p):: .box ba [.p (I (i:Int))]:: .box b7 ((Bo x).map .p):: .box b5 [.p (I 0)]:: .box b4 ((Dj en).map .p):: .box b3 [.p (.str nm)]::(.dfr dd::U.map BL.dfr)) O As O O (A4 (Oy (dd::U) (Hs:=[_,_,_,_,_,_]) (⟨_,_,⟨_,_,O,(BN (i:=4) I1 O O Ai),⟨_,_,O,(GP (i:=3) Rc O O),O⟩⟩,(List.nil_sublist _),?_⟩)))
   all_goals exact⟨by show (.tup [.agg ((Dj en).map .p),.p (I 0)]:AV)=_;rw[ae hx hC hF],rfl⟩
  | none =>
   rw[hF] at hT;simp only at hT;subst hT;refine VU (i:=2) (.box bd ((Bo x).map .p):: .box ba [.p (I (i:Int))]:: .box b7 ((Bo x).map .p):: .box b5 [.p (I 0)]:: .box b4 [.p (I 0),.p (I 0),.p (I 0),.p (I 0),.p (I 0),.p (I 0),.p (.str ⟨#[]⟩),.p (.nils),.p (.nils)]:: .box b3 [.p (.str nm)]::(.dfr dd::U.map BL.dfr)) O As O O (A7 (Ax A8 2 [] O (⟨⟨i+1,dd::U⟩,AT,⟨by omega,C6 (p:=fun j (y:CM)=>Ck nm (E9 y j)=none) hC hx hF⟩,Bh ⟨we rfl,we rfl,we rfl,we rfl,we rfl,we rfl,trivial⟩ (Xh [3,4,5] [_,_,_,_,_,_] (l':=[_,_,_]) rfl (wl (oe rfl) (wl (oe rfl) (wl (oe rfl) (Dd)))))⟩)))
 (try simp only[sd,se] at c);refine Bp (Ay A8 3 [1,0,0,0] O (BZ (Bl (i:=1) O) (A4 (Oy U (Hs:=[_,_,_]) (⟨_,_,⟨_,_,O,(BN (i:=1) I1 O O O),⟨_,_,O,(GP (i:=0) Rc O O),O⟩⟩,(List.nil_sublist _),?_⟩)))))
 all_goals exact⟨by show (.tup [.agg [.p (I 0),.p (I 0),.p (I 0),.p (I 0),.p (I 0),.p (I 0),.p (.str ⟨#[]⟩),.p (.lst []),.p (.lst [])],.p (I 9)]:AV)=_;rw[dg fun j hj=>hC j Ar];rfl,rfl⟩
theorem _root_.Go.AY {α:Prop}(h:α:=by first | rfl | simp[Cp]):α:=h
theorem ZI:∀(ds:List CM) (nm:ByteArray),(Ho ds)→FF Tryz.prog 127 [.p (.lst (List.map Bo ds)),.p (.str nm)] (.tup [.agg ((Bo ((D4 ds nm).1)).map .p),.p (I ((D4 ds nm).2.1)),.p (.bool ((D4 ds nm).2.2))]):=by
 intro ds nm h1;have hl:=h1.len;refine A9 Tryz.func127 O ld (n:=44) O O (A3 (BP O (BE MY O) fun b4=>Ax A8 2 [] O (A3 (A2 A8 2 [] O (Av rfl (BM rfl rfl (YG ds nm Ab (fun d hd=> .inr (h1.all d hd))) rfl) (A2 A8 3 [] O (BP O (BE IK O) fun b7=>Ax A8 2 [0,1] O (Az (Ay A8 2 [] O (A0 O (fun c=>?_) (fun c=>?_)))))))))))
 ·(try simp only[sd,se] at c);refine Ay A8 4 [1,0] O (BZ (Bl (i:=1) O) (A4 (⟨O,_,_,⟨_,_,O,(BN (i:=1) Ew O O O),⟨_,_,O,O,⟨_,_,O,O,O⟩⟩⟩,(List.nil_sublist _),?_⟩)))
  all_goals exact⟨by show (.tup [.agg [.p (I 0),.p (.str ⟨#[]⟩),.p (I 0),.p (I 0),.p (I 0),.p (.str ⟨#[]⟩),.p (.lst []),.p (.lst []),.p (I 0),.p (I 0),.p (.str ⟨#[]⟩),.p (.lst []),.p (.lst []),.p (I 0),.p (.lst []),.p (I 0),.p (I 0),.p (I 0),.p (.str ⟨#[]⟩),.p (.lst []),.p (.lst []),.p (.lst []),.p (.lst [])],.p (I 0),.p (.bool false)]:AV)=_;rw[eg Ar];rfl,rfl⟩
 (try simp only[sd,se] at c);obtain⟨fi,fd,hfi,hfo⟩:=RO (ds:=ds) (nm:=nm) Ar;have hdl:=hfo.decl;have hfl:=(List.getElem?_eq_some_iff.1 hfi).1;refine A5 (Az (A3 (Av O (Aw E8 O O) (Av O (A6 (i:=0) C7 O O (DP _)) (Bk O (BH (Ay A8 2 [] O (A0 O (fun c1=>?_) (fun c1=>?_)))))))))
 ·(try simp only[sd,se] at c1);refine A3 (A2 A8 2 [] O (Av O (A6 (i:=0) C7 O O (ER _)) ?_));obtain⟨x,hx⟩:=BB (l:=ds) (i:=(((Bw ds nm).1).decl:Int).toNat) Ar;refine Av O (BA Iv O O Ar (En hx) (Cp _)) (Ax A8 4 [1,1] O (A4 (⟨O,_,_,⟨_,_,O,(BN (i:=1) Ew O O Ah),⟨_,_,O,O,⟨_,_,O,O,O⟩⟩⟩,(List.nil_sublist _),?_⟩)))
  all_goals exact⟨by show (.tup [.agg ((Bo x).map .p),.p (I (-1)),.p (.bool true)]:AV)=_;rw[kS Ar Ar hx],rfl⟩
 (try simp only[sd,se] at c1);refine Ay A8 2 [] O (A0 O (fun c2=>?_) (fun c2=>?_))
 ·(try simp only[sd,se] at c2);refine Az (CG (fun k=>false) Eg (A1 O (fun _=>BC O) Au (A1 O (fun _=>Aw E8 O O) Au (BT (j:=0) O O O (fun H i hi=>A6 (i:=i) C7 O hi (ER _)) AB Au ?_))));obtain⟨x,hx⟩:=BB (l:=ds) (i:=(((Bw ds nm).1).decl:Int).toNat) Ar;refine A1 O (fun _=>BA Iv O O Ar (En hx) (Cp _)) Au (A1 O (fun _=>BO Ew O (Cp _)) Au (A1 O (fun _=>Aw E8 O O) Au (BT (j:=0) O O O (fun H i hi=>A6 (i:=i) C7 O hi (Gt _)) AB Au (Cd O O (Bd (i:=1) Ew O O O Ah AY (Lc _)) AB Au (A1 O (fun _=>Bf O) Au (A1 O (fun _=>Bf O) Au (B6 O An (A4 (⟨O,_,_,⟨_,_,O,(BN (i:=1) Ew O O Ah),⟨_,_,O,O,⟨_,_,O,O,O⟩⟩⟩,(List.nil_sublist _),?_⟩)))))))))
  all_goals exact⟨by show (.tup [.agg ((Bo x).map .p),.p (I (((Bw ds nm).1).item)),.p (.bool true)]:AV)=_;rw[mi Ar Ar hx],rfl⟩
 (try simp only[sd,se] at c2);refine Ay A8 2 [] O (A0 O (fun c3=>?_) (fun c3=>?_))
 ·(try simp only[sd,se] at c3);refine A3 (A2 A8 2 [] O (Av O (A6 (i:=0) C7 O O (ER _)) ?_));obtain⟨x,hx⟩:=BB (l:=ds) (i:=(((Bw ds nm).1).decl:Int).toNat) Ar;refine Av O (BA Iv O O Ar (En hx) (Cp _)) (Ax A8 4 [1,1] O (A4 (⟨O,_,_,⟨_,_,O,(BN (i:=1) Ew O O Ah),⟨_,_,O,O,⟨_,_,O,O,O⟩⟩⟩,(List.nil_sublist _),?_⟩)))
  all_goals exact⟨by show (.tup [.agg ((Bo x).map .p),.p (I (-2)),.p (.bool true)]:AV)=_;rw[lk Ar Ar hx],rfl⟩
 (try simp only[sd,se] at c3);refine A5 (Ay A8 4 [1,0] O (BZ (Bl (i:=1) O) (A4 (⟨O,_,_,⟨_,_,O,(BN (i:=1) Ew O O O),⟨_,_,O,O,⟨_,_,O,O,O⟩⟩⟩,(List.nil_sublist _),?_⟩))))
 all_goals exact⟨by show (.tup [.agg [.p (I 0),.p (.str ⟨#[]⟩),.p (I 0),.p (I 0),.p (I 0),.p (.str ⟨#[]⟩),.p (.lst []),.p (.lst []),.p (I 0),.p (I 0),.p (.str ⟨#[]⟩),.p (.lst []),.p (.lst []),.p (I 0),.p (.lst []),.p (I 0),.p (I 0),.p (I 0),.p (.str ⟨#[]⟩),.p (.lst []),.p (.lst []),.p (.lst []),.p (.lst [])],.p (I 0),.p (.bool false)]:AV)=_;rw[jH Ar Ar Ar];rfl,rfl⟩
theorem OP:∀(m:Nat) (ds:List CM) (n:Int) (h:Tm),(Ho ds)→Bu Tryz.prog 89 [.ptr m 0,.agg ((BU h).map .p)] [.box m [.p (.lst (List.map Bo ds)),.p (I n)]] (HM (.tup [.agg ((Dj ((Bw ds h.name).1)).map .p),.p (.bool (U0 ds h))]) [.box m [.p (.lst (List.map Bo ds)),.p (I n)]]):=by
 intro m ds n h h1;have hel:=h1.len;obtain⟨hk,hi,hn,hl,hs⟩:=h;refine A9 Tryz.func89 O np (n:=29) O O (A3 (BP O (BY O) fun b3=>BP O (BE IK O) fun b4=>Ax A8 1 [] O (Az (CG (fun k=>Nat.beq k 10) Eg (A1 O (fun _=>BC O) Au (A1 O (fun _=>DB O) Au (A1 O (fun _=>Aw Q4 O O) Au (BT (j:=2) O O O (fun H i hi=>BG (i:=i) Qu O hi O) AB Au (A1 O (fun _=>Aw Dq O O) Au (BT (j:=1) O O O (fun H i hi=>BG (i:=i) Lz O hi O) AB Au (A1 rfl (fun _=>BM rfl rfl (YG ds hn Ab (fun d hd=> .inr (h1.all d hd))) rfl) trivial (A1 O (fun _=>BC O) Au (A1 O (fun _=>CB O O) Au (A1 O (fun _=>CB O O) Au (KB [] O O (BE IK O) An fun b6=>⟨AB,Au,?_⟩)))))))))))))));refine Cd O O (Bd (i:=0) I1 O O O Ai AW (Lk _)) AB Au (A1 O (fun _=>Bf O) Au (B6 O An (Az (CG (fun k=>false) Eg (BT (j:=0) O O O (fun H i hi=>BI (i:=i) I1 O hi Ai) AB Au (A1 O (fun _=>BC O) Au (A1 O (fun _=>D8 O O O) Au (A1 O (fun _=>BC O) Au (GX 21 O (fun g=>?_) (fun g=>?_))))))))))
 ·(try simp only[sd,se] at g);refine By O (fun _=>Aw Dq O O) Au (Dl (i:=2) O O O O O (fun H i hi=>BG (i:=i) WK O hi O) AB Au (By O (fun _=>BS Fb O (List.length_map _)) Au (By O (fun _=>Aw E8 O O) Au (Dl (i:=0) O O O O O (fun H i hi=>A6 (i:=i) C7 O hi (Ip _)) AB Au (By O (fun _=>D8 O O O) Au (A1 O (fun _=>CS O O) Au (Cd O O (Bd (i:=1) I1 O O O Ai AW (Lk _)) AB Au (A1 O (fun _=>Bf O) Au (B6 O An (A4 (⟨O,_,_,⟨_,_,O,(BN (i:=1) I1 O O Ai),⟨_,_,O,O,O⟩⟩,(CO (is:=[3]) O),?_⟩)))))))))))
  all_goals exact⟨by show (.tup [.agg ((Dj ((Bw ds hn).1)).map .p),.p (.bool (((hl.length:Nat):Int)==(((Bw ds hn).1).params:Int)))]:AV)=_;rw[iU (k:=hk) (i:=hi) (ks:=hs) (by first | exact g | omega)];rfl,rfl⟩
 (try simp only[sd,se] at g);refine B1 O Au (B1 O Au (B1 O Au (B1 O Au (B1 O Au (B1 O Au (A1 O (fun _=>CS O O) Au (Cd O O (Bd (i:=1) I1 O O O Ai AW (Lk _)) AB Au (A1 O (fun _=>Bf O) Au (B6 O An (A4 (⟨O,_,_,⟨_,_,O,(BN (i:=1) I1 O O Ai),⟨_,_,O,O,O⟩⟩,(CO (is:=[3]) O),?_⟩)))))))))))
 all_goals exact⟨by show (.tup [.agg ((Dj ((Bw ds hn).1)).map .p),.p (.bool false)]:AV)=_;rw[lT (k:=hk) (i:=hi) (ls:=hl) (ks:=hs) (by first | exact g | omega)];rfl,rfl⟩
theorem _root_.Go.AQ {α:Prop}(h:α:=by simp only[Bc,List.length_map];omega):α:=h
theorem PR:∀(m:Nat) (ds:List CM) (n:Int) (t:Tm),(L3 ds)→(okB t=true)→Bu Tryz.prog 96 [.ptr m 0,.agg ((BU t).map .p)] [.box m [.p (.lst (List.map Bo ds)),.p (I n)]] (HM (.tup [.agg ((Bo ((CV ds t).1)).map .p),.p (I ((CV ds t).2.1)),.p (.lst (BK ((CV ds t).2.2.1))),.p (.bool ((CV ds t).2.2.2))]) [.box m [.p (.lst (List.map Bo ds)),.p (I n)]]):=by
 intro m ds n t h1 h2;have ho:=Ch.1 h2;have hosz:=ho.sz;have hoss:=Ih t;have hosl:=SF t;have hosp:=IY h2;refine A9 Tryz.func96 O nr (n:=67) O O (A3 (BP O (BY O) fun b3=>BP O (BE MY O) fun b4=>Ax A8 3 [] O (A3 (Av O (BI (i:=1) Ba O O Ak) (Av O (BM O O (LL t ho.nd Ab) O) (A2 A8 3 [] O (BP O (BE B8 O) fun b8=>Ax A8 2 [0,1] O (Az (A3 (Av O (Aw Dq O O) ?_))))))))));generalize hz:(BD t).1=z;obtain⟨zk,zi,zn,zl,zs⟩:=z;refine Ax A8 2 [0] O (A0 O (fun c=>?_) (fun c=>?_))
 ·(try simp only[sd,se] at c);refine Ay A8 5 [1,0] O (BZ (Bl (i:=1) O) (BZ (Fi 6) (A4 (⟨O,_,_,⟨_,_,O,(BN (i:=1) Ew O O O),⟨_,_,O,O,⟨_,_,O,O,⟨_,_,O,O,O⟩⟩⟩⟩,(CO (is:=[3]) O),?_⟩))))
  all_goals exact⟨by show (.tup [.agg [.p (I 0),.p (.str ⟨#[]⟩),.p (I 0),.p (I 0),.p (I 0),.p (.str ⟨#[]⟩),.p (.lst []),.p (.lst []),.p (I 0),.p (I 0),.p (.str ⟨#[]⟩),.p (.lst []),.p (.lst []),.p (I 0),.p (.lst []),.p (I 0),.p (I 0),.p (I 0),.p (.str ⟨#[]⟩),.p (.lst []),.p (.lst []),.p (.lst []),.p (.lst [])],.p (I 0),.p (.lst (BK [])),.p (.bool false)]:AV)=_;rw[Pr (fA hz c)];rfl,rfl⟩
 (try simp only[sd,se] at c);refine A5 (Az (CG (fun k=>Nat.beq k 11) Eg (A1 O (fun _=>BC O) Au (A1 O (fun _=>DB O) Au (A1 O (fun _=>Aw Q4 O O) Au (BT (j:=3) O O O (fun H i hi=>BG (i:=i) Qu O hi O) AB Au (A1 O (fun _=>Aw Dq O O) Au (BT (j:=0) O O O (fun H i hi=>BG (i:=i) Lz O hi O) AB Au (A1 O (fun _=>BM O O (ZI ds zn h1.env) O) Au (A1 O (fun _=>BC O) Au (A1 O (fun _=>CB O O) Au (A1 O (fun _=>CB O O) Au (A1 O (fun _=>CB O O) Au (KB [] O O (BE MY O) An fun b10=>⟨AB,Au,?_⟩))))))))))))));refine Cd O O (Bd (i:=0) Ew O O O Ah AY (Lc _)) AB Au (A1 O (fun _=>Bf O) Au (A1 O (fun _=>Bf O) Au (B6 O An (Az (Az (Bb [4,9,10,11] 40 (fun y=>y= .p (.bool ((!((D4 ds zn).2.2))||(decide (((D4 ds zn).2.1:Int)<(0:Int)))))) ?_ ?_))))))
 ·refine A7 (A2 A8 3 [] O (BQ 37 O (fun g=>?_) (fun g=>?_)))
  ·(try simp only[sd,se] at g);exact Ax A8 3 [] O (⟨O,O,AK,AI,⟨O,O,O,O,Au⟩⟩)
  (try simp only[sd,se] at g);exact Ax A8 3 [] O (⟨O,O,AK,AI,⟨O,O,O,O,Au⟩⟩)
 rintro _ rfl;refine A0 O (fun c1=>?_) (fun c1=>?_)
 ·(try simp only[sd,se] at c1);have hcc:=c1;refine Ay A8 5 [2,0] O (BZ (Bl (i:=2) O) (BZ (Fi 6) (A4 (⟨O,_,_,⟨_,_,O,(BN (i:=2) Ew O O O),⟨_,_,O,O,⟨_,_,O,O,⟨_,_,O,O,O⟩⟩⟩⟩,(CO (is:=[4]) O),?_⟩))))
  all_goals exact⟨by show (.tup [.agg [.p (I 0),.p (.str ⟨#[]⟩),.p (I 0),.p (I 0),.p (I 0),.p (.str ⟨#[]⟩),.p (.lst []),.p (.lst []),.p (I 0),.p (I 0),.p (.str ⟨#[]⟩),.p (.lst []),.p (.lst []),.p (I 0),.p (.lst []),.p (I 0),.p (I 0),.p (I 0),.p (.str ⟨#[]⟩),.p (.lst []),.p (.lst []),.p (.lst []),.p (.lst [])],.p (I 0),.p (.lst (BK [])),.p (.bool false)]:AV)=_;rw[Pr (eY hz (by simpa using c) hcc)];rfl,rfl⟩
 (try simp only[sd,se] at c1);have hcc:(D4 ds zn).2.2=true∧¬(D4 ds zn).2.1<0:=⟨c1.1,by omega⟩;have hfd:=iT h1 hcc.1 hcc.2;have hfr:=WY hfd.1 hfd.2.2.1 hfd.2.2.2 hfd.2.1.1;have hfx:=hfd.2.1;refine A5 (A3 (Av O (Aw Cm O O) (Av O (A6 (i:=0) IM O O (CJ _)) (B0 O ?_))));obtain⟨x,hx⟩:=BB (l:=((D4 ds zn).1).ctors) (i:=((D4 ds zn).2.1:Int).toNat) Ar;have hal:=Jh x.type;have hxs:=(hfd.1.cs _ (List.mem_of_getElem? hx)).ty;refine Av O (BA Hu O O Ar (Eh hx) (EI _)) (Av O (B3 I8 O O) (Av O (DV Ba O (FP _) (BJ _)) (Av O (BM O O (X1 x.type hxs.nd hxs.sz) O) (A2 A8 3 [] O (BP O (BE B8 O) fun b14=>Ax A8 2 [0,1] O (Az (A3 (B0 O (Av O (BS Br O (Bc _)) (Av O (Aw Cm O O) (Av O (A6 (i:=1) C7 O O (DY _)) (B0 O (Av O (BS Br O (Bc _)) (Av O (IN O O) (Ax A8 1 [] O (A0 O (fun c2=>?_) (fun c2=>?_)))))))))))))))))
 ·(try simp only[sd,se] at c2);refine Ay A8 5 [3,0] O (BZ (Bl (i:=3) O) (BZ (Fi 6) (A4 (⟨O,_,_,⟨_,_,O,(BN (i:=3) Ew O O O),⟨_,_,O,O,⟨_,_,O,O,⟨_,_,O,O,O⟩⟩⟩⟩,(CO (is:=[5]) O),?_⟩))))
  all_goals exact⟨by show (.tup [.agg [.p (I 0),.p (.str ⟨#[]⟩),.p (I 0),.p (I 0),.p (I 0),.p (.str ⟨#[]⟩),.p (.lst []),.p (.lst []),.p (I 0),.p (I 0),.p (.str ⟨#[]⟩),.p (.lst []),.p (.lst []),.p (I 0),.p (.lst []),.p (I 0),.p (I 0),.p (I 0),.p (.str ⟨#[]⟩),.p (.lst []),.p (.lst []),.p (.lst []),.p (.lst [])],.p (I 0),.p (.lst (BK [])),.p (.bool false)]:AV)=_;rw[Pr (eh hz (by simpa using c) hcc.1 hcc.2 (by rw[Qc hx hfx.1];exact c2))];rfl,rfl⟩
 (try simp only[sd,se] at c2);have hl3:=c2;refine A5 (Az (CG (fun k=>false) Eg (BT (j:=1) O O O (fun H i hi=>BI (i:=i) Ew O hi Ah) AB Au (A1 O (fun _=>BC O) Au (A1 O (fun _=>BC O) Au (A1 O (fun _=>Aw Cm O O) Au (BT (j:=1) O O O (fun H i hi=>A6 (i:=i) C7 O hi (DY _)) AB Au (A1 O (fun _=>Cz (lo:=(((D4 ds zn).1).fixed:Int).toNat) Br O (CQ (B9 _)) ⟨_,pI Ar⟩ O AQ (Nat.le_refl _) (L8 ((BD t).2) ((((D4 ds zn).1).fixed:Int).toNat))) Au (Cd O O (Bd (i:=3) Ew O O O Ah AY (Lc _)) AB Au (A1 O (fun _=>Bf O) Au (A1 O (fun _=>Bf O) Au (A1 O (fun _=>Bf O) Au (B6 O An (A4 (⟨O,_,_,⟨_,_,O,(BN (i:=3) Ew O O Ah),⟨_,_,O,O,⟨_,_,O,O,⟨_,_,O,O,O⟩⟩⟩⟩,(CO (is:=[5]) O),?_⟩)))))))))))))))
 all_goals exact⟨by show (.tup [.agg ((Bo ((D4 ds zn).1)).map .p),.p (I ((D4 ds zn).2.1)),.p (.lst (BK (((BD t).2).drop ((((D4 ds zn).1).fixed:Int).toNat)))),.p (.bool true)]:AV)=_;rw[Tt (ik hz (by simpa using c) hcc.1 hcc.2 (by rw[Qc hx hfx.1];exact c2))],rfl⟩
theorem gR:∀(b0:Nat) (x:GF) (nm:ByteArray),Bu Tryz.prog 129 [.agg ((GG x).map .p),.ptr b0 0] [.box b0 [.p (.str nm)]] (HM (.p (.bool (x.ctor.toList==nm.toList))) [.box b0 [.p (.str nm)]]):=by
 intro b0 x nm;refine A9 Tryz.func129 O kN (n:=8) O O (A3 (BP O (BY O) fun b2=>Ax A8 1 [] O (A3 (Av O (Aw Im O O) (Av O (A6 (i:=0) Lz O O (Gv _)) (Av O (BG (i:=1) Lz O O O) (Av O (F4 O O) (Ax A8 1 [] O (A4 (⟨O,_,_,⟨_,_,O,O,O⟩,(CO (is:=[1]) O),?_⟩))))))))))
 all_goals exact⟨rfl,rfl⟩
theorem jA:∀(b0:Nat) (nm:ByteArray) (l:List GF),(l.length<2000000)→Bu Tryz.prog 128 [.p (.lst (KY l)),.fn (.func 129) [] [.ptr b0 0]] [.box b0 [.p (.str nm)]] (HM (.p (I (L1 nm l 0))) [.box b0 [.p (.str nm)]]):=by
 intro b0 nm l h1;refine A9 Tryz.func128 O l6 (n:=19) O O (Ay A8 1 [] O (Az (A3 (B0 O (Av O (BS Kg O (F5 _)) (Ax A8 1 [] O (BH (Bn (α:=Nat) (fun i=>⟨19,mk [(0,.p (.lst (KY l))),(1,.fn (.func 129) [] [.ptr b0 0]),(7,.p (I (l.length:Nat))),(8,.p (I (i:Int)))],[.box b0 [.p (.str nm)]],[]⟩) (fun i=>l.length - i) (fun i=>i≤l.length∧(L1 nm (l.drop i) (i:Int)=L1 nm l 0)) 0 (⟨by omega,rfl⟩) ?_ ?_))))))))
 ·exact Bh ⟨we O,we O,we O,we O,Au⟩ (leH (is:=[0]) O (wl (oe O) (Dd)))
 rintro i hC
 try simp only at hC
 obtain⟨hi,hC⟩:=hC;refine Ay A8 1 [] O (Az (A0 O (fun c=>?_) (fun c=>?_)))
 ·(try simp only[sd,se] at c);refine A5 (Az (BH (Ay A8 2 [] O (A3 (A2 A8 3 [] O ?_)))));obtain⟨x,hx⟩:=BB (l:=l) (i:=i) Ar;refine Av O (BA Kg O O Ar (Gj hx) (Di _)) (Av O (BO Se O (Di _)) (Av O (Co [0] O (.inr O) (gR b0 x nm) ⟨_,_,O,O,O⟩ Aq O (.inl O)) (Bk O (A0 O (fun c1=>?_) (fun c1=>?_)))))
  ·(try simp only[sd,se] at c1);refine Ay A8 2 [] O (A4 (⟨O,_,_,⟨_,_,O,O,O⟩,(CO (is:=[0]) O),?_⟩))
   all_goals exact⟨pI (by rw[←hC,gX hx (by simpa using c1)]),rfl⟩
  (try simp only[sd,se] at c1);refine A5 (A7 (Ax A8 2 [] O ?_));refine⟨(i+1),AT,⟨by omega,by rw[←hC,ic hx (by simpa using c1)];rfl⟩,Bh ⟨we rfl,we rfl,we rfl,we rfl,trivial⟩ (leH (is:=[0]) rfl (wl (oe rfl) (Dd)))⟩
 (try simp only[sd,se] at c);refine Bp (Ay A8 1 [] O (A4 (⟨O,_,_,⟨_,_,O,O,O⟩,(CO (is:=[0]) O),?_⟩)))
 all_goals exact⟨pI (by rw[←hC,List.drop_eq_nil_of_le Ar];rfl),rfl⟩
theorem _root_.Go.Ad {α:Prop}(h:α:=by simp[Cq]):α:=h
theorem SH:∀(t:FE) (nm:ByteArray),(t.branches.length<2000000)→FF Tryz.prog 97 [.agg ((DA t).map .p),.p (.str nm)] (.tup [.agg ((DA ((Zu nm t.branches).1)).map .p),.p (.bool ((Zu nm t.branches).2))]):=by
 intro t nm h1;refine A9 Tryz.func97 O oq (n:=28) O O (A3 (BP O (BY O) fun b2=>BP O (BY O) fun b3=>BP O (BE Ye O) fun b4=>Ax A8 1 [] O (A3 (Av O (Aw Fs O O) (Av O (A6 (i:=2) L0 O O (CU _)) (Av O (EU O O) (Av O (Co [1] O (.inl ⟨O,O,O⟩) (jA b3 nm t.branches h1) ⟨_,_,O,O,O⟩ Aq O (.inl O)) (Ax A8 1 [] O (Az (A3 (A2 A8 3 [] O (BQ 13 O (fun g=>?_) (fun g=>?_)))))))))))))
 ·(try simp only[sd,se] at g);have hbn:=cf (by simpa using g);refine Ax A8 7 [] O ?_;refine A0 O (fun c=>?_) (fun c=>by cases c);refine Ay A8 3 [0,0] O (BZ (Bl (i:=0) O) (A4 (⟨O,_,_,⟨_,_,O,(BN (i:=0) It O O O),⟨_,_,O,O,O⟩⟩,(List.nil_sublist _),?_⟩)))
  all_goals exact⟨by show (.tup [.agg [.p (I 0),.p (I 0),.p (I 0),.p (.str ⟨#[]⟩),.p (.lst []),.p (.lst []),.p (I 0),.p (.lst [])],.p (.bool false)]:AV)=_;rw[bV hbn];rfl,rfl⟩
 (try simp only[sd,se] at g);obtain⟨bx,hbx,hbr⟩:=iy (nm:=nm) (l:=t.branches) (by simpa using g);refine BF O (Aw Fs O O) (BF O (A6 (i:=2) L0 O O (CU _)) (BF O (BC O) (BF O (BA Kg O O Ar (Gj hbx) (Di _)) (BF O (B3 Im O O) (BF O (DW iY O (Gu _)) (Ax A8 1 [] O (A0 O (fun c=>?_) (fun c=>?_))))))))
 ·(try simp only[sd,se] at c);refine Ay A8 3 [0,0] O (BZ (Bl (i:=0) O) (A4 (⟨O,_,_,⟨_,_,O,(BN (i:=0) It O O O),⟨_,_,O,O,O⟩⟩,(List.nil_sublist _),?_⟩)))
  all_goals exact⟨by show (.tup [.agg [.p (I 0),.p (I 0),.p (I 0),.p (.str ⟨#[]⟩),.p (.lst []),.p (.lst []),.p (I 0),.p (.lst [])],.p (.bool false)]:AV)=_;rw[bV (by rw[hbr,if_pos (by simpa using c)])];rfl,rfl⟩
 (try simp only[sd,se] at c);refine A5 (A3 (Av O (Aw Fs O O) (Av O (A6 (i:=2) L0 O O (CU _)) (B0 O (Av O (BA Kg O O Ar (Gj hbx) (Di _)) (Av O (B3 Im O O) (Av O (DV It O (Fz _) (Cq _)) (Ax A8 2 [0,1] O (A4 (⟨O,_,_,⟨_,_,O,(BN (i:=0) It O O Ad),⟨_,_,O,O,O⟩⟩,(List.nil_sublist _),?_⟩))))))))))
 all_goals exact⟨by show (.tup [.agg ((DA bx.tree).map .p),.p (.bool true)]:AV)=_;rw[dV (by rw[hbr,if_neg (by simpa using c)])],rfl⟩
def rD (ds:List CM) (n:Nat):Prop:=∀(b:Nat) (t:Tm) (c c2:Ik) (r:Tm),DJ ds jB n c t= .ok (r,c2)→Bu Tryz.prog 14 [.p (.lst (List.map Bo ds)),.agg ((BU t).map .p),.ptr b 0] [.box b ((ZV c).map .p)] (HM (.agg ((BU r).map .p)) [.box b ((ZV c2).map .p)])
end Go.Proofs.YtboammbpdaoojaaGreat
namespace Go.Eu
open Go.Abs
section
variable {E:List CM}{σ:Type}{S:Sys σ}{W:σ→Tm→Out (Tm×σ)}{n:Nat}{h m:Tm}{a:List Tm}{s:σ}{d:CM}{x:Fu}
theorem Yt {a b:ByteArray}(h:¬a.toList=b.toList):a≠b:=fun e=>h (by rw[e])
theorem dh (hc:((CV E m).2.2.2=false∨¬(CV E m).1.name.toList=d.name.toList)∨(d.recs.rules.length:Int)≤(CV E m).2.1):FA E S d h a m s= .ok (none,s):=by
 cases hk:(CV E m).2.2.2 with
 | false=>exact SE (Pd hk)
 | true =>
  refine X8 (M3 hk) ?_;rcases hc with (hc | hc) | hc
  ·rw[hk] at hc;cases hc
  ·exact .inl (Yt hc)
  exact .inr hc
theorem ZW (hc:((CV E m).2.2.2=true∧(CV E m).1.name.toList=d.name.toList)∧(CV E m).2.1<(d.recs.rules.length:Int)):DL E m=some ((CV E m).1,(CV E m).2.1,(CV E m).2.2.1)∧¬((CV E m).1.name≠d.name∨(CV E m).2.1≥(d.recs.rules.length:Int))∧0≤(CV E m).2.1:=by
 have h1:=M3 hc.1.1;refine⟨h1,fun h=>?_,(Gd h1).lo⟩;rcases h with h | h
 ·exact h (G4 hc.1.2)
 omega
end
theorem LI {d:CM}(h:DG d):0≤d.fixed∧d.fixed+1+d.ctors.length≤Cc d∧Cc d≤4000001:=by
 have h1:=Hq h.din h.fx;have h2:=h.fx;have h3:=h.din.cl;unfold Cc;omega
section
variable {E:List CM}{σ:Type}{S:Sys σ}{W:σ→Tm→Out (Tm×σ)}{n:Nat}{h m:Tm}{a:List Tm}{s:σ}{d:CM}{x:Fu}
theorem Wk {f:HB}{q:Option (Tm×List Tm)×Tm}(hq:q.1.isSome=false∨S.over s=true):OM S f h a (q,s)= .ok (none,s):=by
 unfold OM;obtain⟨q1,q2⟩:=q;cases q1 with
 | none=>rfl
 | some bv =>
  obtain⟨b,v⟩:=bv;rcases hq with hq | hq
  ·cases hq
  simp only[hq,if_true]
theorem Wp {f:HB}{q:Option (Tm×List Tm)×Tm}(hq:q.1.isSome=true) (ho:S.over s=false):OM S f h a (q,s)=Hk S h (Nz q) (Sb q) (a.drop f.arity.toNat) s:=by
 unfold OM;obtain⟨q1,q2⟩:=q;cases q1 with
 | none=>cases hq
 | some bv=>obtain⟨b,v⟩:=bv;simp only[ho,Bool.false_eq_true,if_false];rfl
theorem Vg (hE:L3 E):∀(k:Nat) (t:FE) (vs:List Tm) (l:Tm) (s s':σ) (q:Option (Tm×List Tm)×Tm),Ug t vs→EH E S W k t vs l s= .ok (q,s')→okB (Nz q)=true∧(∀v∈Sb q,okB v=true)∧(Sb q).length≤100000000
 | 0,t,vs,l,s,s',q,hl,h=>by rw[EH] at h;cases h
 | k+1,t,vs,l,s,s',q,hl,h=>by
  have hnone:∀l',okB (Nz (none,l'))=true∧(∀v∈Sb (none,l'),okB v=true)∧(Sb (none,l')).length≤100000000:=fun l'=>⟨Gp,fun v hv=>by simp[Sb] at hv,Nat.zero_le _⟩;by_cases hk:t.kind=1
  ·by_cases hb:t.var<0∨t.var≥(vs.length:Int)∨S.over s=true
   ·rw[Kt hk hb] at h;cases h;exact hnone _
   have hlt:t.var.toNat<vs.length:=by omega
   rw[Mt hk hb (List.getElem?_eq_getElem hlt)] at h;obtain⟨⟨r,s1⟩,h1,h2,h3⟩:=Kv h;cases hc:DL E r with
   | none=>rw[Io hc] at h3;cases h3;exact hnone _
   | some p =>
    obtain⟨d,j,f⟩:=p;cases hbr:C3 (FU d j).name t.branches with
    | none=>rw[LN hc hbr] at h3;cases h3;exact hnone _
    | some t'=>rw[Ks hc hbr] at h3;exact Vg hE k t' _ _ _ _ _ (hl.next hE h2 hc hbr) h3
  rw[Jn hk] at h;cases h;obtain⟨kk,b,v,l2⟩:=t;have:=hl.tok;simp only[FJ] at this;exact⟨this.1,hl.ok,by have:=hl.len;show vs.length≤_;omega⟩
end
theorem j3 {l:List Tm}(h:∀v∈l,okB v=true):∀v∈l.reverse,okB v=true:=fun v hv=>h v (List.mem_reverse.1 hv)
theorem S5 {E:List CM}{d:CM}{f:HB}{a:List Tm}(hE:HD E) (hd:d∈E) (hf:f∈d.funs) (ha:∀x∈a,okB x=true):Ug f.tree (a.take f.arity.toNat):=by
 have h1:=hE.g.all d hd;have h2:=h1.fu f hf;have h3:=hE.fu d hd f hf;exact⟨(h1.din.fs f hf).tr,h2.2.2,by rw[List.length_take];omega,fun v hv=>ha v (List.mem_of_mem_take hv)⟩
end Go.Eu
namespace Go.Proofs.YtboammbpdaoojaaGreat
open Go.Abs Go.Eu
end Go.Proofs.YtboammbpdaoojaaGreat
namespace Go.Eu
open Go.Abs
theorem K3 {k i:Int}{n:ByteArray}{l:List Cf}{ks:List Tm}(h:okB (.mk k i n l ks)=true):(k=5→ks.length=2)∧(k=11→ks.length=3)∧(k=9∨k=10→ks.length=1)∧(k=8→ks.length=3):=by
 have hw:=(Ch.1 h).wt;simp only[Wt] at hw;have h1:=hw.1;unfold arity at h1;refine⟨fun e=>?_,fun e=>?_,fun e=>?_,fun e=>?_⟩
 ·rw[if_pos Ar] at h1;omega
 ·rw[if_neg Ar,if_pos Ar] at h1;omega
 ·rw[if_neg Ar,if_neg Ar,if_pos Ar] at h1;omega
 rw[if_neg Ar,if_pos Ar] at h1;omega
section
variable {E:List CM}{σ:Type}{S:Sys σ}{n:Nat}{t:Tm}{s:σ}
theorem Z9 {q:Option Tm}(h:q.isSome=false):Xl E S n t (q,s)= .ok (t,s):=by
 cases q with
 | none=>rfl
 | some x=>cases h
theorem dP {q:Option Tm}(h:q.isSome=true):Xl E S n t (q,s)=DJ E S n s (q.getD Be):=by
 cases q with
 | none=>cases h
 | some x=>rfl
end
structure m7 (w:Tm):Prop where
 ok:okB w=true
 nd:Nd w
 sz:size w<549755813888
 len:(BD w).2.length<549755813888
 head:okB (BD w).1=true
 args:∀x∈(BD w).2,okB x=true
 asz:Bg (BD w).2+(BD w).2.length<size w
theorem Xy {w:Tm}(h:okB w=true):m7 w:=by
 have h1:=G3 h;have h2:=Ih w;have h3:=size_pos (BD w).1;exact⟨h,(Ch.1 h).nd,h1,by omega,(IY h).1,(IY h).2,by omega⟩
end Go.Eu
namespace Go.Proofs.YtboammbpdaoojaaGreat
open Go.Abs Go.Eu
end Go.Proofs.YtboammbpdaoojaaGreat
namespace Go.Eu
open Go.Abs
section
variable {E:List CM}{σ:Type}{S:Sys σ}{R:σ→σ→Prop}
structure iC (S:Sys σ) (R:σ→σ→Prop):Prop where
 rf:∀s,R s s
 tr:∀{a b c},R a b→R b c→R a c
 rs:∀{s t e s'},S.res s t e=some s'→R s s'
variable (h:iC S R)
include h
theorem Lw {α:Type}{s:σ}{x:Tm×Int}{k:Tm→σ→Out (α×σ)}{q:α×σ}(hk:∀t s' q,k t s'= .ok q→R s' q.2) (hq:S.put s x k= .ok q):R s q.2:=by
 unfold Sys.put at hq;split at hq
 ·cases hs:S.res s x.1 x.2 with
  | none=>rw[hs] at hq;cases hq
  | some s'=>rw[hs] at hq;exact h.tr (h.rs hs) (hk _ _ _ hq)
 cases hq
theorem RD {W:σ→Tm→Out (Tm×σ)}(hW:∀s t q,W s t= .ok q→R s q.2):∀(k:Nat) (t:FE) (vs:List Tm) (l:Tm) (s:σ) (q:(Option (Tm×List Tm)×Tm)×σ),EH E S W k t vs l s= .ok q→R s q.2
 | 0,t,vs,l,s,q,hq=>by rw[EH] at hq;cases hq
 | k+1,t,vs,l,s,q,hq=>by
  by_cases hk:t.kind=1
  ·by_cases hb:t.var<0∨t.var≥(vs.length:Int)∨S.over s=true
   ·rw[Kt hk hb] at hq;cases hq;exact h.rf _
   have hlt:t.var.toNat<vs.length:=by omega
   rw[Mt hk hb (List.getElem?_eq_getElem hlt)] at hq;obtain⟨r,h1,h2,h3⟩:=Kv hq;have hr:=hW _ _ _ h1;cases hc:DL E r.1 with
   | none=>rw[Io hc] at h3;cases h3;exact hr
   | some p =>
    obtain⟨d,j,f⟩:=p;cases hbr:C3 (FU d j).name t.branches with
    | none=>rw[LN hc hbr] at h3;cases h3;exact hr
    | some t'=>rw[Ks hc hbr] at h3;exact h.tr hr (RD hW k t' _ _ _ _ h3)
  rw[Jn hk] at hq;cases hq;exact h.rf _
theorem Z8 {d:CM}{g m:Tm}{a:List Tm}{s:σ}{q:Option Tm×σ}(hq:FA E S d g a m s= .ok q):R s q.2:=by
 unfold FA at hq;split at hq
 ·cases hq;exact h.rf _
 split at hq
 ·cases hq;exact h.rf _
 split at hq
 ·cases hq;exact h.rf _
 exact Lw h (fun t s' q e=>by cases e;exact h.rf _) hq
theorem cu {g b:Tm}{vs rest:List Tm}{s:σ}{q:Option Tm×σ}(hq:Hk S g b vs rest s= .ok q):R s q.2:=by
 unfold Hk at hq;split at hq
 ·cases hq;exact h.rf _
 split at hq
 ·cases hq
 exact Lw h (fun t s' q e=>by cases e;exact h.rf _) hq
theorem Ze {d:CM}{g:Tm}{a:List Tm}{s:σ}{q:Option Tm×σ}(hq:Es S d g a s= .ok q):R s q.2:=by
 unfold Es at hq;split at hq
 ·cases hq;exact h.rf _
 exact Lw h (fun t s' q e=>by cases e;exact h.rf _) hq
theorem OJ {W:σ→Tm→Out (Tm×σ)}(hW:∀s t q,W s t= .ok q→R s q.2) {n:Nat}{g:Tm}{a:List Tm}{s:σ}{q:Option Tm×σ}(hq:Ed E S W n g a s= .ok q):R s q.2:=by
 unfold Ed at hq;split at hq
 ·cases hq;exact h.rf _
 split at hq
 ·exact Ze h hq
 split at hq
 ·unfold RG at hq;split at hq
  ·cases hq;exact h.rf _
  obtain⟨r,h1,h2,h3⟩:=Kv hq;exact h.tr (hW _ _ _ h1) (Z8 h h3)
 split at hq
 ·unfold Iw at hq;split at hq
  ·cases hq;exact h.rf _
  obtain⟨r,h1,h2⟩:=Lh hq;have hr:=RD h hW _ _ _ _ _ _ h1;split at h2
  ·cases h2;exact hr
  split at h2
  ·cases h2;exact hr
  exact h.tr hr (cu h h2)
 cases hq;exact h.rf _
theorem N6:∀(n:Nat) (s:σ) (t:Tm) (q:Tm×σ),DJ E S n s t= .ok q→R s q.2
 | 0,s,t,q,hq=>by rw[DJ] at hq;cases hq
 | n+1,s,t,q,hq=>by
  have ih:=N6 n;rw[DJ] at hq;split at hq
  ·cases hq
  split at hq
  ·cases hq;exact h.rf _
  split at hq
  ·cases hq
  split at hq
  ·split at hq
   ·cases hq;exact h.rf _
   unfold Mu at hq;split at hq
   ·cases hq
   exact Lw h (fun t s' q e=>ih _ _ _ e) hq
  split at hq
  ·unfold Tw at hq;split at hq
   ·exact Lw h (fun t s' q e=>ih _ _ _ e) hq
   cases hq
  split at hq
  ·split at hq
   ·cases hq
   obtain⟨r,h1,h2,h3⟩:=Kv hq;have hr:=ih _ _ _ h1;split at h3
   ·cases h3;exact hr
   unfold MF at h3;split at h3
   ·cases h3
   exact h.tr hr (Lw h (fun t s' q e=>ih _ _ _ e) h3)
  split at hq
  ·obtain⟨r,h1,h2⟩:=Lh hq;have hr:=OJ h ih h1;split at h2
   ·cases h2;exact hr
   exact h.tr hr (ih _ _ _ h2)
  cases hq;exact h.rf _
end
theorem Gh:iC Bq (fun a b=>b≤a∧(0≤a→0≤b)):=by
 refine⟨fun s=>⟨Int.le_refl _,fun h=>h⟩,fun h1 h2=>⟨by omega,fun h=>h2.2 (h1.2 h)⟩,fun h=>?_⟩;simp only[Bq] at h;split at h
 ·cases h
 cases h;omega
theorem PX {E:List CM}{n:Nat}{s s':Int}{t r:Tm}(h:GH s) (hq:DJ E Bq n s t= .ok (r,s')):GH s':=by
 have h1:=N6 Gh n s t _ hq;have h2:=h.1;have h3:=h.2;exact⟨h1.2 h2,by have:=h1.1;simp only at this;omega⟩
def K9 (n:Int):Except Int Unit:=if n - 1<0 then .error 0 else .ok ()
def Is (n:Int) (x:Tm×Int):Except Int (Tm×Int):=if n - 1<0∨x.2≠0 then .error 0 else .ok (x.1,n - 1)
theorem kz {n:Int}(h:0≤n - 1):K9 n= .ok ():=by rw[K9,if_neg Ar]
theorem mD {n:Int}(h:n - 1<0):K9 n= .error 0:=by rw[K9,if_pos h]
end Go.Eu
namespace Go.Eu
theorem VP {t:Tm}{vs:List Tm}(ht:okB t=true) (hv:∀v∈vs,okB v=true) (hl:vs.length<549755813888):Fc t vs 0=Cv t vs 0 :=
 YY (Xx hv hl) (Ch.1 ht).wt (Ch.1 ht).vp (by have:=G3 ht;omega)
theorem bZ {n e:Int}{x:Tm×Int}(h:K9 n= .error e):Is n x= .error e:=by
 unfold K9 at h;split at h
 ·rename_i hn;cases h;rw[Is,if_pos (.inl hn)]
 cases h
theorem mA {n:Int}{t:Tm}{vs:List Tm}(hn:0≤n) (ht:okB t=true) (hv:∀v∈vs,okB v=true) (hl:vs.length<549755813888) (he:(Fc t vs 0).2≠0):Is n (Cv t vs 0)= .error 0:=by
 rw[VP ht hv hl] at he;rw[Is,if_pos (.inr he)]
theorem nR {n:Int}{t:Tm}{vs:List Tm}{u:Unit}(hn:K9 n= .ok u) (ht:okB t=true) (hv:∀v∈vs,okB v=true) (hl:vs.length<549755813888) (he:(Fc t vs 0).2=0):Is n (Cv t vs 0)= .ok ((Fc t vs 0).1,n - 1):=by
 rw[VP ht hv hl] at he ⊢;unfold K9 at hn;split at hn
 ·cases hn
 rw[Is,if_neg Ar]
end Go.Eu
namespace Go.Eu
open Go.Abs
section
variable {α:Type}{n n2 e:Int}{x:Tm×Int}{z t:Tm}{k:Tm→Int→Out α}{u:Unit}
theorem KC (hs:Bq.put n x k≠ .stuck) (h:Is n x= .ok (z,n2)):Bq.put n x k=k z n2:=by
 rw[(Nf hs).2];unfold Is at h;split at h
 ·cases h
 rename_i hn;cases h;rw[if_neg hn]
theorem KS (hs:Bq.put n x k≠ .stuck) (h:Is n x= .error e):(Bq.put n x k).ex= .error e:=by
 rw[(Nf hs).2];unfold Is at h;split at h
 ·rename_i hn;cases h;rw[if_pos hn];rfl
 cases h
theorem nM (h:K9 n= .ok u):Is n (t,0)= .ok (t,n - 1):=by
 unfold K9 at h;split at h
 ·cases h
 rw[Is,if_neg Ar]
theorem bJ (hs:Bq.put n (t,0) k≠ .stuck) (h:K9 n= .ok u):Bq.put n (t,0) k=k t (n - 1):=KC hs (nM h)
theorem aO (hs:Bq.put n (t,0) k≠ .stuck) (h:K9 n= .error e):(Bq.put n (t,0) k).ex= .error e:=KS hs (bZ h)
end
theorem QZ {n n2:Int}{x:Tm×Int}{z:Tm}(h:GH n) (hp:Is n x= .ok (z,n2)):GH n2∧z=x.1:=by
 have h1:=h.1;have h2:=h.2;unfold Is at hp;split at hp
 ·cases hp
 cases hp;exact⟨⟨by omega,by omega⟩,rfl⟩
section
variable {E:List CM}{g m:Tm}{a:List Tm}{s e:Int}{d:CM}{u:Unit}
theorem aq (hs:Es Bq d g a s≠ .stuck) (he:(B5 d.value g.levels).2=0) (hn:K9 s= .ok u):Es Bq d g a s= .ok (some (apply (B5 d.value g.levels).1 a),s - 1):=by
 rw[Mr he] at hs ⊢;exact bJ hs hn
theorem bX (hs:Es Bq d g a s≠ .stuck) (he:(B5 d.value g.levels).2=0) (hn:K9 s= .error e):(Es Bq d g a s).ex= .error e:=by
 rw[Mr he] at hs ⊢;exact aO hs hn
theorem gL {c:CM}{j:Int}{f:List Tm}{r:Tm}(hs:FA E Bq d g a m s≠ .stuck) (hc:DL E m=some (c,j,f)) (hn:¬(c.name≠d.name∨j≥(d.recs.rules.length:Int))) (hr:d.recs.rules[j.toNat]?=some r) (he:(B5 r g.levels).2=0) (hk:K9 s= .ok u) :
  FA E Bq d g a m s= .ok (some (apply (apply (apply (B5 r g.levels).1 (a.take (d.fixed+1+d.ctors.length).toNat)) f) (a.drop (Cc d+1).toNat)),s - 1):=by
 rw[TK hc hn hr he] at hs ⊢;exact bJ hs hk
theorem gK {c:CM}{j:Int}{f:List Tm}{r:Tm}(hs:FA E Bq d g a m s≠ .stuck) (hc:DL E m=some (c,j,f)) (hn:¬(c.name≠d.name∨j≥(d.recs.rules.length:Int))) (hr:d.recs.rules[j.toNat]?=some r) (he:(B5 r g.levels).2=0) (hk:K9 s= .error e) :
  (FA E Bq d g a m s).ex= .error e:=by
 rw[TK hc hn hr he] at hs ⊢;exact aO hs hk
end
theorem Sl {E:List CM}{n k:Nat}{s s':Int}{t:FE}{vs:List Tm}{l:Tm}{q:Option (Tm×List Tm)×Tm}(h:GH s) (hq:EH E Bq (DJ E Bq n) k t vs l s= .ok (q,s')):GH s':=by
 have h1:=RD Gh (fun s t q=>N6 Gh n s t q) k t vs l s _ hq;have h2:=h.1;have h3:=h.2;exact⟨h1.2 h2,by have:=h1.1;simp only at this;omega⟩
theorem XB {E:List CM}{n:Nat}{s s':Int}{g:Tm}{a:List Tm}{q:Option Tm}(h:GH s) (hq:Ed E Bq (DJ E Bq n) n g a s= .ok (q,s')):GH s':=by
 have h1:=OJ Gh (fun s t q=>N6 Gh n s t q) hq;have h2:=h.1;have h3:=h.2;exact⟨h1.2 h2,by have:=h1.1;simp only at this;omega⟩
end Go.Eu
namespace Go.Eu
theorem iS {l:List Tm}{x:Tm}(h:l[0]?=some x):l.take 1=[x]:=by
 cases l with
 | nil=>simp at h
 | cons a l=>simp at h;subst h;rfl
theorem ok_one {x:Tm}(h:okB x=true):∀v∈[x],okB v=true:=fun v hv=>by rw[List.mem_singleton.1 hv];exact h
theorem I3 {x:Tm}:[x].length<549755813888:=by simp
end Go.Eu
namespace Go.Proofs.YtboammbpdaoojaaGreat
open Go.Abs Go.Eu
theorem X0:∀(fid:Nat) (caps:List AV),Bu Tryz.prog 159 [.fn (.func fid) [] caps] [] (eK (fun b=> .agg [.fn (.func 176) [] [.ptr b 0]]) [.fn (.func fid) [] caps]):=by
 intro fid caps;refine A9 Tryz.func159 O nK (n:=5) O O (A3 (BP O (BY O) fun b1=>BP O (BE mc O) fun b2=>Bk O (Ay A8 3 [0,0] O (A4 (⟨O,_,_,⟨_,_,O,(BN (i:=0) iQ O O O),O⟩,(CO (is:=[1]) O),?_⟩)))));exact⟨_,O,O⟩
theorem UY:∀(rep:Tm→Int→Except Int Tm) (fid:Nat) (caps:List AV) (T:List BL) (hr:∀(t:Tm) (d:Int),Nd t→Vp t→t.kind=0→0≤d→d<Dv→Bu Tryz.prog fid ([TV t,.p (I d)]++caps) T (KQ (fun(r:Tm)=>TV r) (fun e=> .p (.iface 223 (I e))) (fun r H'=>H'=T) (rep t d))) (bR:Nat) (s:Unit) (t:Tm) (d:Int),Nd t→Vp t→0≤d→d<Dv→Bu Tryz.prog 176 [TV t,.p (I d),.ptr bR 0] (.box bR [.fn (.func fid) [] caps]::T) (KQ (fun(r:(Tm×Bool)×Unit)=> .tup [TV r.1.1,.p (.bool r.1.2)]) (fun e=> .p (.iface 223 (I e))) (fun r H'=>H'= .box bR [.fn (.func fid) [] caps]::T) (Jg rep s t d)):=by
 intro rep fid caps T hr bR s t d h1 h2 h3 h4;refine A9 Tryz.func176 O ki (n:=16) O O (A3 (BP O (BY O) fun b3=>BP O (BE B8 O) fun b5=>Ax A8 1 [] O (Az (A3 (Av O (Aw Dq O O) ?_)))));obtain⟨tk,ti,tn,tl,ts⟩:=t;refine Ax A8 2 [1] O (A0 O (fun c=>?_) (fun c=>?_))
 ·(try simp only[sd,se] at c);refine A3 (A2 A8 3 [2,1] O (gy [_,_,_] O O O (.inr O) (hr (.mk tk ti tn tl ts) d h1 h2 c h3 h4) (DS _) ?_ ?_))
  rotate_left
  ·intro e _ he;exact⟨O,_,List.nil_sublist _,⟨_,NJ c he,O⟩⟩
  rintro z _ hz rfl;refine Ax A8 2 [0,1] O (A4 (⟨O,_,_,⟨_,_,O,(BN (i:=0) Ba O O Ak),⟨_,_,O,O,O⟩⟩,(GM [2] [_,_,_] O),?_⟩));exact⟨⟨⟨z,true⟩,()⟩,LX c hz,O,O⟩
 (try simp only[sd,se] at c);refine A5 (A3 (Av O (BI (i:=1) Ba O O O) (Av O (BM O O (QA (.mk tk ti tn tl ts:Tm) h1) O) (Ax A8 2 [0,1] O (A4 (⟨O,_,_,⟨_,_,O,(BN (i:=0) Ba O O Ak),⟨_,_,O,O,O⟩⟩,(GM [2] [_,_,_] O),?_⟩))))));exact⟨⟨⟨.mk tk ti tn tl [],false⟩,()⟩,No c,O,O⟩
theorem Zs:∀(t:Tm) (d:Int) (bf bb:Nat) (fr b:Int),(Nd t)→(Vp t)→(t.kind=0)→(0≤d)→(d<Dv)→(-4611686018427387904≤b∧b≤4611686018427387904)→(-2305843009213693952≤fr∧fr≤2305843009213693952)→Bu Tryz.prog 177 [.agg ((BU t).map .p),.p (I d),.ptr bf 0,.ptr bb 0] [.box bf [.p (I fr)],.box bb [.p (I b)]] (KQ (fun(r:Tm)=>TV r) (fun e=> .p (.iface 223 (I e))) (fun r H'=>H'=[.box bf [.p (I fr)],.box bb [.p (I b)]]) (Xi b fr t d)):=by
 intro t d bf bb fr b h1 h2 h3 h4 h5 h6 h7;obtain⟨tk,ti,tn,tl,ts⟩:=t;have hi:=h2.1 h3;simp only[Dv] at h5;refine A9 Tryz.func177 O nU (n:=32) O O (A3 (BP O (BY O) fun b4=>BP O (BE B8 O) fun b6=>Bk O (Ay A8 5 [1] O (Az (Ay A8 3 [2] O (A0 O (fun c=>?_) (fun c=>?_)))))))
 ·(try simp only[sd,se] at c);refine A3 (Av O (BI (i:=1) Ba O O O) (Av O (BM O O (QA (.mk tk ti tn tl ts:Tm) h1) O) (Ax A8 1 [0,1] O (A4 (⟨O,_,_,⟨_,_,O,(BN (i:=0) Ba O O Ak),O⟩,(CO (is:=[2,3]) O),?_⟩)))));exact⟨(.mk tk ti tn tl []),XX c,O,O⟩
 (try simp only[sd,se] at c);refine A5 (Az (Az (Bb [3,4,6] 25 (fun y=>y= .p (.bool ((decide ((b:Int)<(0:Int)))&&(decide (((ti:Int) - (d:Int):Int)<((fr:Int) - (b:Int):Int)))))) ?_ ?_)))
 ·refine A7 (A2 A8 3 [3] O (BQ 19 O (fun g=>?_) (fun g=>?_)))
  ·(try simp only[sd,se] at g);exact Ax A8 6 [2,3] O (⟨O,O,AK,AI,⟨O,O,O,Au⟩⟩)
  (try simp only[sd,se] at g);exact Ax A8 6 [] O (⟨O,O,AK,AI,⟨O,O,O,Au⟩⟩)
 rintro _ rfl;refine A0 O (fun c1=>?_) (fun c1=>?_)
 ·(try simp only[sd,se] at c1);exact A7 (M5 O O O (.inl ⟨O,O,O⟩) (Po 24) (aw (we O) (FB)) (⟨O,_,List.nil_sublist _,⟨_,e8 Ar Ar Ar,O⟩⟩))
 (try simp only[sd,se] at c1);refine A5 (A3 (A2 A8 4 [1,3] O (Dg [] O O O (.inl ⟨O,O,O⟩) (Vl ((ti:Int)+(b:Int))) O Aq (aw (we O) (FB)) (fun _ _ h=>(congrArg List.length h).trans O) ?_ ?_)))
 rotate_left
 ·intro e _ he;exact⟨O,_,List.nil_sublist _,⟨_,by rw[V3 Ar Ar,he],rfl⟩⟩
 rintro z _ hz rfl;refine Ax A8 1 [0,1] O (A4 (⟨O,_,_,⟨_,_,O,(BN (i:=0) Ba O O Ak),O⟩,(CO (is:=[2,3]) O),?_⟩));exact⟨z,by rw[V3 Ar Ar,hz],rfl,rfl⟩
theorem _root_.Go.AN {α:Prop}(h:α:=by repeat' first | exact trivial | rfl | refine And.intro ?_ ?_):α:=h
theorem Vu:∀(t:Tm) (b fr:Int),(Nd t)→(Vp t)→(size t<Dv)→(-4611686018427387904≤b∧b≤4611686018427387904)→(-2305843009213693952≤fr∧fr≤2305843009213693952)→Bu Tryz.prog 161 [.agg ((BU t).map .p),.p (I b),.p (I fr)] [] (KQ (fun(r:Tm)=>TV r) (fun e=> .p (.iface 223 (I e))) (fun r H'=>H'=[]) (KT b fr t)):=by
 intro t b fr h1 h2 h3 h4 h5;refine A9 Tryz.func161 O mK (n:=11) O O (A3 (BP O (BY O) fun b3=>BP O (BY O) fun b4=>BP O (BY O) fun b5=>BP O (BE B8 O) fun b6=>Bk O (Az (CG (fun k=>Nat.beq k 1||Nat.beq k 3) Eg (A1 O (fun _=>EU O O) Au (YH [(2,.read [.box b3 ((BU t).map .p)] (.agg ((BU t).map .p)))] O O O (.inl ⟨O,O,O⟩) (X0 177 [.ptr b5 0,.ptr b4 0]) (.inl O) An fun bn=>⟨AB,Au,?_⟩))))));refine BT (j:=4) O O O (fun H i hi=>BI (i:=i) Ba O hi Ak) AB AN ?_;refine OS [0,2,3] O O O (.inl ⟨O,O,O⟩) (NH (Jg (Xi b fr)) (fun _ T=>T=[.box bn [.fn (.func 177) [] [.ptr b5 0,.ptr b4 0]],.box b5 [.p (I fr)],.box b4 [.p (I b)]]) 176 [.ptr bn 0] (fun s t d T hn hp h0 hb hT=>by subst hT;exact UY (Xi b fr) 177 [.ptr b5 0,.ptr b4 0] _ (fun t d g1 g2 g3 g4 g5=>Zs t d b5 b4 fr b g1 g2 g3 g4 g5 h4 h5) bn s t d hn hp h0 hb) _ t 0 () _ (Nat.le_refl _) h1 h2 Ar Ar rfl) ⟨_,_,rfl,rfl,⟨_,_,rfl,rfl,⟨_,_,rfl,rfl,rfl⟩⟩⟩ Aq (DS _) (fun _ _ h=>(congrArg List.length h).trans rfl) An An rfl AB ?_ ?_
 rotate_left
 ·intro e he _ _ hτ;exact⟨O,_,List.nil_sublist _,⟨_,ON he,O⟩⟩
 rintro⟨z,_⟩ _ hz rfl;refine⟨AB,AN,?_⟩;refine Cd O O (Bd (i:=1) Ba O O O Ak AX (DR _)) AB AN (B6 O An (A4 (⟨O,_,_,⟨_,_,O,(BN (i:=1) Ba O O Ak),O⟩,(List.nil_sublist _),?_⟩)));exact⟨z,Pv hz,O,O⟩
theorem SN:∀(bo be:Nat) (co ce:List AV),ES Tryz.prog 153 [.ptr bo 0,.ptr be 0] (.ret) [.box bo co,.box be ce] (fun H'=>H'=[.box bo co,.box be ce]):=by
 intro bo be co ce;refine HH (ty2:=0) Tryz.func153 O iN (n:=9) O O O O O O (A3 (B0 O (Av O (Gl Y3 O O O) (Bk O ?_))));refine A0 O (fun c=>by cases c) (fun c=>?_);exact A5 ⟨.inl O,O,_,(CO (is:=[0,1]) O),O⟩
theorem Rw:∀(bo be:Nat) (e:Int),ES Tryz.prog 153 [.ptr bo 0,.ptr be 0] (.pan (.p (.iface 223 (I e)))) [.box bo [.p (I 0),.p (I 0),.p (.str ⟨#[]⟩),.p (.nils),.p (.nils)],.box be [.p (I 0)]] (fun H'=>H'=[.box bo [.p (I 0),.p (I 0),.p (.str ⟨#[]⟩),.p (.lst []),.p (.lst [])],.box be [.p (I e)]]):=by
 intro bo be e;refine HH (ty2:=0) Tryz.func153 O iN (n:=9) O O O O O O (A3 (B0 O (Av O (Gl Y3 O O O) (CN (Bl (i:=0) O) (Bk O ?_)))));refine A0 O (fun c=>?_) (fun c=>by cases c);exact A7 (A2 A8 2 [] O (Av O (BM O O (R8 _) O) (A2 A8 2 [0,0,1,0] O (CN (Bl (i:=0) O) (Bk O ⟨.inl O,O,_,(CO (is:=[0,1]) O),O⟩)))))
theorem R9:∀(t:Tm) (d:Int) (bd bv:Nat) (dp:Int) (vs:List Tm),Bu Tryz.prog 155 [.agg ((BU t).map .p),.p (I d),.ptr bd 0,.ptr bv 0] [.box bd [.p (I dp)],.box bv [.p (.lst (BK vs))]] (HM (.p (I (Iq vs dp t.index d))) [.box bd [.p (I dp)],.box bv [.p (.lst (BK vs))]]):=by
 intro t d bd bv dp vs;obtain⟨tk,ti,tn,tl,ts⟩:=t;refine A9 Tryz.func155 O kU (n:=23) O O (A3 (BP O (BY O) fun b4=>Ax A8 1 [] O (Az (A3 (A2 A8 3 [0] O (Av O (JW O O) (Av O (BG (i:=1) C7 O O O) (Av O (JW O O) (Ax A8 1 [] O (Az (Bb [7] 21 (fun y=>y= .p (.bool ((decide ((wr ((wr ((ti:Int) - (d:Int)):Int) - (dp:Int)):Int)≥(0:Int)))&&(decide ((wr ((wr ((ti:Int) - (d:Int)):Int) - (dp:Int)):Int)<((vs.length:Nat):Int)))))) ?_ ?_)))))))))))
 ·refine A7 (A2 A8 3 [] O (BQ 16 O (fun g=>?_) (fun g=>?_)))
  ·(try simp only[sd,se] at g);exact A2 A8 2 [2] O (BF O (BS Br O (Bc _)) (Ax A8 2 [] O (⟨O,O,AK,AI,⟨O,Au⟩⟩)))
  (try simp only[sd,se] at g);exact Ax A8 5 [] O (⟨O,O,AK,AI,⟨O,Au⟩⟩)
 rintro _ rfl;refine A0 O (fun c=>?_) (fun c=>?_)
 ·(try simp only[sd,se] at c);refine Ay A8 2 [] O (A4 (⟨O,_,_,⟨_,_,O,O,O⟩,(CO (is:=[1,2]) O),?_⟩))
  all_goals exact⟨pI (cw Ar Ar).symm,rfl⟩
 (try simp only[sd,se] at c);refine A5 (Ay A8 1 [] O (A4 (⟨O,_,_,⟨_,_,O,O,O⟩,(CO (is:=[1,2]) O),?_⟩)))
 all_goals exact⟨pI (dx (ti:=ti) Ar).symm,rfl⟩
theorem Zj:∀(t:Tm) (d:Int) (bv bc bs bd bvs cb:Nat) (dp n:Int) (vs:List Tm) (sz:List Int),(sz.length=vs.length)→Bu Tryz.prog 156 [.agg ((BU t).map .p),.p (I d),.ptr bv 0,.ptr bc 0,.ptr bs 0] [.box bv [.fn (.func 155) [] [.ptr bd 0,.ptr bvs 0]],.box bc [.ptr cb 0],.box bs [.p (.lst (List.map GC sz))],.box bd [.p (I dp)],.box bvs [.p (.lst (BK vs))],.box cb [.p (I n)]] (KQ (fun(r:(Tm×Bool)×Int)=> .tup [TV r.1.1,.p (.bool r.1.2)]) (fun e=> .p (.iface 223 (I e))) (fun r H'=>H'=[.box bv [.fn (.func 155) [] [.ptr bd 0,.ptr bvs 0]],.box bc [.ptr cb 0],.box bs [.p (.lst (List.map GC sz))],.box bd [.p (I dp)],.box bvs [.p (.lst (BK vs))],.box cb [.p (I r.2)]]) (Qo vs sz dp n t d)):=by
 intro t d bv bc bs bd bvs cb dp n vs sz h1;obtain⟨tk,ti,tn,tl,ts⟩:=t;refine A9 Tryz.func156 O kO (n:=33) O O (A3 (BP O (BY O) fun b5=>BP O (BE B8 O) fun b7=>Ax A8 1 [] O (Az (A3 (A2 A8 3 [2,1] O (Av O (Co [5,6] O (.inr O) (R9 (.mk tk ti tn tl ts:Tm) d bd bvs dp vs) ⟨_,_,O,O,⟨_,_,O,O,O⟩⟩ Aq O (.inl O)) (Ax A8 1 [] O (Az (Bb [3,4,5,7,9] 20 (fun y=>y= .p (.bool (((tk:Int)==(0:Int))&&(decide ((Iq vs dp (.mk tk ti tn tl ts:Tm).index d:Int)≥(0:Int)))))) ?_ ?_)))))))))
 ·refine A7 (A2 A8 4 [1] O (BQ 17 O (fun g=>?_) (fun g=>?_)))
  ·(try simp only[sd,se] at g);exact Ax A8 3 [] O (⟨O,O,AK,AI,⟨O,O,O,O,O,Au⟩⟩)
  (try simp only[sd,se] at g);exact Ax A8 3 [] O (⟨O,O,AK,AI,⟨O,O,O,O,O,Au⟩⟩)
 rintro _ rfl;refine A0 O (fun c=>?_) (fun c=>?_)
 ·(try simp only[sd,se] at c);have hvl:=TT (vs:=vs) (dp:=dp) (ti:=(Tm.mk tk ti tn tl ts).index) (d:=d) c.2;refine CG (fun k=>Nat.beq k 5) Eg (BT (j:=3) O O O (fun H i hi=>BG (i:=i) hP O hi O) AB Au (BT (j:=4) O O O (fun H i hi=>BG (i:=i) Xs O hi O) AB Au (A1 O (fun _=>BC O) Au ?_)));obtain⟨x,hx⟩:=BB (l:=sz) (i:=(Iq vs dp (.mk tk ti tn tl ts:Tm).index d:Int).toNat) Ar;refine A1 O (fun _=>BA HE O O Ar (K1 hx) (O)) Au (A1 O (fun _=>Dt C7 O) Au (OS [7] O O O (.inl ⟨O,O,O⟩) (cj cb n x) ⟨_,_,O,O,O⟩ Aq (aw (we O) (aw (we O) (FB))) (fun _ _ h=>(congrArg List.length h).trans O) An An O AB ?_ ?_))
  rotate_left
  ·intro e he _ _ hτ;exact⟨O,_,List.nil_sublist _,⟨_,NW (Q1 c hx) he,O⟩⟩
  rintro r _ hz rfl;refine⟨AB,Au,?_⟩;refine B6 O An (Az (CG (fun k=>false) Eg (A1 O (fun _=>CE Dq B8 O) Au (A1 O (fun _=>Aw Dq O O) Au (BT (j:=1) O O O (fun H i hi=>BG (i:=i) C7 O hi O) AB Au (A1 O (fun _=>D8 O O O) Au (Cd O O (Cl (i:=0) Ba O O O O O O) AB Au (A1 O (fun _=>Bf O) Au (B6 O An (BZ (Bl (i:=0) O) (A4 (⟨O,_,_,⟨_,_,O,(BN (i:=0) Ba O O O),⟨_,_,O,O,O⟩⟩,(CO (is:=[2,3,4,5,6,7]) O),?_⟩))))))))))));exact⟨⟨⟨Be,decide (tk=0)⟩,r⟩,Pk (Q1 c hx) hz,O,O⟩
 (try simp only[sd,se] at c);refine A7 (Av O (BG (i:=3) hP O O O) (Dg [7] O O O (.inl ⟨O,O,O⟩) (cj cb n 1) ⟨_,_,O,O,O⟩ Aq (aw (we O) (aw (we O) (FB))) (fun _ _ h=>(congrArg List.length h).trans O) ?_ ?_))
 rotate_left
 ·intro e _ he;exact⟨O,_,List.nil_sublist _,⟨_,NW (Pg (by simp_all [Tm.index])) he,O⟩⟩
 rintro r _ hz rfl;refine Bk O (Az (CG (fun k=>false) Eg (A1 O (fun _=>CE Dq B8 O) Au (A1 O (fun _=>Aw Dq O O) Au (BT (j:=1) O O O (fun H i hi=>BG (i:=i) C7 O hi O) AB Au (A1 O (fun _=>D8 O O O) Au (Cd O O (Cl (i:=0) Ba O O O O O O) AB Au (A1 O (fun _=>Bf O) Au (B6 O An (BZ (Bl (i:=0) O) (A4 (⟨O,_,_,⟨_,_,O,(BN (i:=0) Ba O O O),⟨_,_,O,O,O⟩⟩,(CO (is:=[2,3,4,5,6,7]) O),?_⟩))))))))))));exact⟨⟨⟨Be,decide (tk=0)⟩,r⟩,Pk (Pg (by simp_all [Tm.index])) hz,O,O⟩
theorem ZG:∀(t:Tm) (d:Int) (bv bvs bd:Nat) (dp:Int) (vs:List Tm),(Nd t)→(Vp t)→(t.kind=0)→(0≤d)→(d<Dv)→(Mk vs)→(SU vs)→(∀v∈vs,size v<Dv)→(0≤dp∧dp≤65536)→(vs.length<Dv)→Bu Tryz.prog 160 [.agg ((BU t).map .p),.p (I d),.ptr bv 0,.ptr bvs 0,.ptr bd 0] [.box bv [.fn (.func 155) [] [.ptr bd 0,.ptr bvs 0]],.box bvs [.p (.lst (BK vs))],.box bd [.p (I dp)]] (KQ (fun(r:Tm)=>TV r) (fun e=> .p (.iface 223 (I e))) (fun r H'=>H'=[.box bv [.fn (.func 155) [] [.ptr bd 0,.ptr bvs 0]],.box bvs [.p (.lst (BK vs))],.box bd [.p (I dp)]]) (KP vs dp t d)):=by
 intro t d bv bvs bd dp vs h1 h2 h3 h4 h5 h6 h7 h8 h9 h10;obtain⟨tk,ti,tn,tl,ts⟩:=t;have hti:=h2.1 h3;simp only[Dv] at h5;have hw:wr (dp+d)=dp+d:=Ej (by unfold JJ;omega);refine A9 Tryz.func160 O mN (n:=37) O O (A3 (BP O (BY O) fun b5=>BP O (BE B8 O) fun b7=>Bk O (Az (A3 (A2 A8 3 [2,1] O (Av O (Co [4,3] O (.inr O) (R9 (.mk tk ti tn tl ts:Tm) d bd bvs dp vs) ⟨_,_,O,O,⟨_,_,O,O,O⟩⟩ Aq O (.inl O)) (Ax A8 1 [] O (Ay A8 2 [] O (A0 O (fun c=>?_) (fun c=>?_))))))))))
 ·(try simp only[sd,se] at c);have hvl:=TT (vs:=vs) (dp:=dp) (ti:=(Tm.mk tk ti tn tl ts).index) (d:=d) c;refine Az (CG (fun k=>Nat.beq k 7) Eg (BT (j:=3) O O O (fun H i hi=>BG (i:=i) E3 O hi O) AB Au (A1 O (fun _=>BC O) Au ?_)));obtain⟨x,hx⟩:=BB (l:=vs) (i:=(Iq vs dp (.mk tk ti tn tl ts:Tm).index d:Int).toNat) Ar;refine A1 O (fun _=>BA Br O O Ar (Bj hx) (BJ _)) Au (A1 O (fun _=>BO Ba O (BJ _)) Au (BT (j:=4) O O O (fun H i hi=>BG (i:=i) C7 O hi O) AB Au (A1 O (fun _=>BC O) Au (A1 O (fun _=>FC O O) Au (OS [] O O O (.inl ⟨O,O,O⟩) (Vu x (wr ((dp:Int)+(d:Int))) 0 (Dy h6 hx) (Lq h7 hx) (h8 x (List.mem_of_getElem? hx)) (by rw[hw];omega) Ar) O Aq (aw (we O) (aw (we O) (aw (we O) (FB)))) (fun _ _ h=>(congrArg List.length h).trans O) An An O AB ?_ ?_)))))
  rotate_left
  ·intro e he _ _ hτ;exact⟨O,_,List.nil_sublist _,⟨_,(RJ (i:=ti) c hx).trans he,O⟩⟩
  rintro z _ hz rfl;refine⟨AB,Au,?_⟩;refine Cd O O (Bd (i:=0) Ba O O O Ak AX (DR _)) AB Au (B6 O An (A4 (⟨O,_,_,⟨_,_,O,(BN (i:=0) Ba O O Ak),O⟩,(CO (is:=[2,3,4]) O),?_⟩)));exact⟨z,(RJ (i:=ti) c hx).trans hz,O,O⟩
 (try simp only[sd,se] at c);refine A5 (Az (A3 (A2 A8 3 [1] O (Av O (JW O O) (Ax A8 2 [4] O (A0 O (fun c1=>?_) (fun c1=>?_)))))))
 ·(try simp only[sd,se] at c1);refine A3 (Av O (BI (i:=1) Ba O O O) (Av O (BM O O (QA (.mk tk ti tn tl ts:Tm) h1) O) (Ax A8 1 [0,1] O (A4 (⟨O,_,_,⟨_,_,O,(BN (i:=0) Ba O O Ak),O⟩,(CO (is:=[2,3,4]) O),?_⟩)))));exact⟨(.mk tk ti tn tl []),U5 (by simpa [Tm.index] using c) Ar,O,O⟩
 (try simp only[sd,se] at c1);refine A5 (A3 (A2 A8 3 [1,3] O (Av O (BS Br O (Bc _)) (Av O (JW O O) (Dg [] O O O (.inl ⟨O,O,O⟩) (Vl (wr ((ti:Int) - ((vs.length:Nat):Int)))) O Aq (aw (we O) (FB)) (fun _ _ h=>(congrArg List.length h).trans O) ?_ ?_)))))
 rotate_left
 ·intro e _ he;exact⟨O,_,List.nil_sublist _,⟨_,by rw[UG (by simpa [Tm.index] using c) Ar,he],rfl⟩⟩
 rintro z _ hz rfl;refine Ax A8 1 [0,1] O (A4 (⟨O,_,_,⟨_,_,O,(BN (i:=0) Ba O O Ak),O⟩,(CO (is:=[2,3,4]) O),?_⟩));exact⟨z,by rw[UG (by simpa [Tm.index] using c) Ar,hz],rfl,rfl⟩
theorem _root_.Go.AG {α:Prop}(h:α:=by simp only[List.length_append,List.length_map,List.length_take,List.length_replicate];omega):α:=h
set_option maxHeartbeats 2000000 in
theorem ZF:∀(t:Tm) (vs:List Tm) (dp:Int),(Nd t)→(Vp t)→(size t<1099511627776)→(Mk vs)→(SU vs)→(∀v∈vs,size v<Dv)→(0≤dp∧dp≤65536)→(vs.length<Dv)→FF Tryz.prog 137 [.agg ((BU t).map .p),.p (.lst (BK vs)),.p (I dp)] (.tup [.agg ((BU ((Fc t vs dp).1)).map .p),.p (I ((Fc t vs dp).2))]):=by
 intro t vs dp h1 h2 h3 h4 h5 h6 h7 h8;have h8b:=h8;simp only[Dv] at h8b;refine E2 Tryz.func137 O lJ (n:=49) O O (A3 (BP O (BY O) fun b3=>BP O (BY O) fun b4=>BP O (BY O) fun b5=>BP O (BE B8 O) fun b6=>BP O (BE aK O) fun b7=>Bk O (Az (Ay A8 2 [2] O (A0 O (fun c=>?_) (fun c=>?_))))))
 ·(try simp only[sd,se] at c);exact absurd c Ar
 (try simp only[sd,se] at c);refine A5 (A3 (Av O (EU O O) (Mz O O O O (Bk O (A3 (Av O (EU O O) (BP O (BE kb O) fun b8=>Ax A8 1 [0,0] O (A3 (Av O (BG (i:=4) E3 O O O) (Av O (BS Br O (Bc _)) (P1 O O (Ko HE fj O O Aq O O O Ar Ar Ar (jk (f:=GC) (((vs.length:Nat):Int).toNat) 0)) fun b20 cp=>BP O (BE mO O) fun b9=>Ax A8 1 [0,0] O (Az (A3 (Av O (BG (i:=6) E3 O O O) (Av O (BS Br O (Bc _)) (Ax A8 1 [] O (BH ?_)))))))))))))))));refine Bn (α:=Nat×Option Nat×Nat) (fun(i,o,cp1)=>⟨49,mk [(3,.ptr b3 0),(4,.ptr b4 0),(5,.ptr b5 0),(6,.ptr b6 0),(7,.ptr b7 0),(8,.ptr b8 0),(9,.ptr b9 0),(21,.p (.lst (BK vs))),(22,.p (I (vs.length:Nat))),(23,.p (I (i:Int)))],[.box b9 [.vs o (List.map GC (((vs.take i).map fun v=>(size v:Int))++List.replicate (vs.length - i) 0)).length cp1],.vec o 1 (List.map GC (((vs.take i).map fun v=>(size v:Int))++List.replicate (vs.length - i) 0)) cp1,.box b8 [.fn (.func 155) [] [.ptr b5 0,.ptr b4 0]],.box b7 [.p (I 0)],.box b6 [.p (I 0),.p (I 0),.p (.str ⟨#[]⟩),.p (.nils),.p (.nils)],.box b5 [.p (I dp)],.box b4 [.p (.lst (BK vs))],.box b3 ((BU t).map .p)],[.clo (.func 153) [.ptr b6 0,.ptr b7 0]]⟩) (fun(i,o,cp1)=>vs.length - i) (fun(i,o,cp1)=>i≤vs.length) ⟨0,(some b20),cp⟩ AP ?_ ?_
 ·exact Bh ⟨we O,we O,we O,we O,we O,we O,we O,we O,we O,we O,Au⟩ (leH (is:=[0,1,2,3,4,5,6,7]) O (wl (dt (aw (we (Gq (f:=GC) (List.replicate (((vs.length:Nat):Int).toNat) 0) As)) (FB))) (wl (F6 (f:=GC) (List.replicate (((vs.length:Nat):Int).toNat) 0) As) (wl (oe O) (wl (oe O) (wl (oe O) (wl (oe O) (wl (oe O) (wl (oe O) (Dd))))))))))
 rintro⟨i,o,cp1⟩ hC
 try simp only at hC
 have hi:=hC;refine Ay A8 1 [] O (Az (A0 O (fun c1=>?_) (fun c1=>?_)))
 ·(try simp only[sd,se] at c1);refine A5 (Az (BH (A3 (B0 O ?_))));obtain⟨x,hx⟩:=BB (l:=vs) (i:=i) Ar;refine Av O (BA Br O O Ar (Bj hx) (BJ _)) (Av O (BO Ba O (BJ _)) (BP O (BE B8 O) fun b11=>Ax A8 2 [0,1] O (Kn (i:=2) O Aa fun b hb=>?_)));subst hb;refine CG (fun k=>false) Eg (BT (j:=1) O O O (fun H i hi=>BG (i:=i) Xs O hi O) AB Au (A1 O (fun _=>BC O) Au (BT (j:=0) O O O (fun H i hi=>BI (i:=i) Ba O hi Ak) AB Au (A1 O (fun _=>BM O O (XQ x (Dy h4 hx) (by have:=h6 x (List.mem_of_getElem? hx);simp only[Dv] at this;omega)) O) Au (A1 O (fun _=>Cx HE O O Ar AG) Au (Cd O O (EE (i:=2) (j:=i) C7 O O O AG O O O O (dH (f:=GC) (((vs.take i).map fun v=>(size v:Int))++List.replicate (vs.length - i) 0) i (size x:Nat))) AB Au (B6 O An (A7 (Ax A8 2 [] O ?_)))))))));refine⟨⟨i+1,(some b),cp1⟩,AT,by omega,Bh ⟨we rfl,we rfl,we rfl,we rfl,we rfl,we rfl,we rfl,we rfl,we rfl,we rfl,trivial⟩ (leH (is:=[1,2,3,4,5,6,7,8]) rfl (wl (dt (aw (we (S4 (f:=GC) (((vs.take i).map fun v=>(size v:Int))++List.replicate (vs.length - i) 0) Am)) (FB))) (wl (F6 (f:=GC) ((((vs.take i).map fun v=>(size v:Int))++List.replicate (vs.length - i) 0).set i (size x:Nat)) (jm hx)) (wl (oe rfl) (wl (oe rfl) (wl (oe rfl) (wl (oe rfl) (wl (oe rfl) (wl (oe rfl) (Dd))))))))))⟩
 (try simp only[sd,se] at c1);refine Bp (A3 ?_);rw[mE (vs:=vs) (i:=i) Ar];refine CN (Ei (i:=1) (j:=0) (q:=0) [] O O O (FQ Au)) (Av O (CE lq nL O) (BP O (BY O) fun b35=>BP O (BE lB O) fun b12=>Ax A8 1 [0,0] O (A3 (A2 A8 3 [8] O ?_))));refine Dg [3,0,2,6,7,1] O O O (.inl ⟨O,O,O⟩) (NH (Qo vs (vs.map fun v=>(size v:Int)) dp) (fun n T=>T=[.box b8 [.fn (.func 155) [] [.ptr b5 0,.ptr b4 0]],.box b12 [.ptr b35 0],.box b9 [.p (.lst (List.map GC (vs.map fun v=>(size v:Int))))],.box b5 [.p (I dp)],.box b4 [.p (.lst (BK vs))],.box b35 [.p (I n)]]) 156 [.ptr b8 0,.ptr b12 0,.ptr b9 0] (fun n t d T hn hp h0 hb hT=>by subst hT;exact Zj t d b8 b12 b9 b5 b4 b35 dp n vs (vs.map fun v=>(size v:Int)) As) _ t 0 0 _ (Nat.le_refl _) h1 h2 Ar Ab rfl) ⟨_,_,rfl,rfl,⟨_,_,rfl,rfl,⟨_,_,rfl,rfl,⟨_,_,rfl,rfl,⟨_,_,rfl,rfl,⟨_,_,rfl,rfl,rfl⟩⟩⟩⟩⟩⟩ Aq (DS _) (fun _ _ h=>(congrArg List.length h).trans rfl) ?_ ?_
 rotate_left
 ·intro e _ he;refine⟨_,_,_,O,Lg (is:=[1,0]) _ Aq ⟨_,_,O,O,⟨_,_,O,O,O⟩⟩,ES.eq (Rw b6 b7 _) ?_⟩;refine⟨_,[],⟨_,_,O,(BN (i:=0) Ba O O O),⟨_,_,O,(GP (i:=1) Rc O O),O⟩⟩,(List.nil_sublist _),?_⟩;rw[II (Oq he)];exact⟨O,O⟩
 rintro⟨z,n1⟩ _ hz rfl;refine Bk O (Az (CG (fun k=>Nat.beq k 1||Nat.beq k 3) Eg (A1 O (fun _=>EU O O) Au (YH [(2,.read [.box b3 ((BU t).map .p)] (.agg ((BU t).map .p)))] O O O (.inl ⟨O,O,O⟩) (X0 160 [.ptr b8 0,.ptr b4 0,.ptr b5 0]) (.inl O) An fun bn=>⟨AB,Au,?_⟩))));refine BT (j:=9) O O O (fun H i hi=>BI (i:=i) Ba O hi Ak) AB AN ?_;refine OS [0,4,8,7] O O O (.inl ⟨O,O,O⟩) (NH (Jg (KP vs dp)) (fun _ T=>T=[.box bn [.fn (.func 160) [] [.ptr b8 0,.ptr b4 0,.ptr b5 0]],.box b8 [.fn (.func 155) [] [.ptr b5 0,.ptr b4 0]],.box b4 [.p (.lst (BK vs))],.box b5 [.p (I dp)]]) 176 [.ptr bn 0] (fun s t d T hn hp h0 hb hT=>by subst hT;exact UY (KP vs dp) 160 [.ptr b8 0,.ptr b4 0,.ptr b5 0] [.box b8 [.fn (.func 155) [] [.ptr b5 0,.ptr b4 0]],.box b4 [.p (.lst (BK vs))],.box b5 [.p (I dp)]] (fun t d g1 g2 g3 g4 g5=>ZG t d b8 b4 b5 dp vs g1 g2 g3 g4 g5 h4 h5 h6 h7 h8) bn s t d hn hp h0 hb) _ t 0 () _ (Nat.le_refl _) h1 h2 Ar Ab rfl) ⟨_,_,rfl,rfl,⟨_,_,rfl,rfl,⟨_,_,rfl,rfl,⟨_,_,rfl,rfl,rfl⟩⟩⟩⟩ Aq (DS _) (fun _ _ h=>(congrArg List.length h).trans rfl) An An rfl AB ?_ ?_
 rotate_left
 ·intro e he _ _ hτ;refine⟨_,_,_,O,Lg (is:=[4,3]) _ Aq ⟨_,_,O,O,⟨_,_,O,O,O⟩⟩,ES.eq (Rw b6 b7 _) ?_⟩;refine⟨_,[],⟨_,_,O,(BN (i:=0) Ba (hτ 6 (Q9 An)) O O),⟨_,_,O,(GP (i:=1) Rc (hτ 7 (Q9 An)) O),O⟩⟩,(List.nil_sublist _),?_⟩;rw[II (Oz hz he)];exact⟨O,O⟩
 rintro⟨z1,_⟩ _ hz1 rfl;refine⟨AB,AN,?_⟩;refine Cd O O (Bd (i:=6) Ba O O O Ak AX (DR _)) AB AN (B6 O An (Az (A3 (Av O (BI (i:=6) Ba O O Ak) (Av O (BM O O (Us _ z1 (Nat.le_refl _) (gA h4 h5 h1 h2 hz1)) O) (Ax A8 1 [] O (A0 O (fun c2=>?_) (fun c2=>?_))))))))
 ·(try simp only[sd,se] at c2);refine A3 (Av O (CE Dq B8 O) ?_);obtain⟨z1k,z1i,z1n,z1l,z1s⟩:=z1;refine Ax A8 2 [6,0,5,0] O (BZ (Bl (i:=6) O) (A4 (⟨_,_,_,O,DK (is:=[6,5]) Aq ⟨_,_,O,O,⟨_,_,O,O,O⟩⟩,ES.eq (SN b6 b7 _ _) ?_⟩)));refine⟨_,_,⟨_,_,O,(BN (i:=0) Ba O O O),⟨_,_,O,(GP (i:=1) Rc O O),O⟩⟩,(List.nil_sublist _),?_⟩;rw[Ox (Ld hz hz1) Ar]
  all_goals exact⟨rfl,rfl⟩
 (try simp only[sd,se] at c2);refine A5 (Ay A8 3 [6,6,1,5,0] O (A4 (⟨_,_,_,O,DK (is:=[6,5]) Aq ⟨_,_,O,O,⟨_,_,O,O,O⟩⟩,ES.eq (SN b6 b7 _ _) ?_⟩)));refine⟨_,_,⟨_,_,O,(BN (i:=0) Ba O O Ak),⟨_,_,O,(GP (i:=1) Rc O O),O⟩⟩,(List.nil_sublist _),?_⟩;rw[SA (Ld hz hz1) Ar]
 all_goals exact⟨rfl,rfl⟩
theorem Yh:∀(t:Tm) (vs:List Tm),(Nd t)→(Vp t)→(size t<1099511627776)→(Mk vs)→(SU vs)→(∀v∈vs,size v<Dv)→(vs.length<Dv)→FF Tryz.prog 105 [.agg ((BU t).map .p),.p (.lst (BK vs))] (.tup [.agg ((BU ((Fc t vs 0).1)).map .p),.p (I ((Fc t vs 0).2))]):=by
 intro t vs h1 h2 h3 h4 h5 h6 h7;refine A9 Tryz.func105 O kY (n:=11) O O (A3 (BP O (BY O) fun b2=>BP O (BE B8 O) fun b4=>Ax A8 1 [] O (A3 (A2 A8 2 [1] O (Av O (BM O O (ZF t vs 0 h1 h2 h3 h4 h5 h6 Ar h7) O) (Ax A8 4 [0,1] O (A4 (⟨O,_,_,⟨_,_,O,(BN (i:=0) Ba O O Ak),⟨_,_,O,O,O⟩⟩,(List.nil_sublist _),?_⟩))))))))
 all_goals exact⟨rfl,rfl⟩
theorem Na:∀(m:Nat) (ds:List CM) (n:Int),(GH n)→Bu Tryz.prog 104 [.ptr m 0] [.box m [.p (.lst (List.map Bo ds)),.p (I n)]] (KQ (fun(r:Unit)=> .tup []) (fun _=> .p (.iface 122 .unit)) (fun r H'=>H'=[.box m [.p (.lst (List.map Bo ds)),.p (I (n - 1))]]) (K9 n)):=by
 intro m ds n h1;have hn:=h1.1;have hn2:=h1.2;refine A9 Tryz.func104 O kJ (n:=16) O O (Ay A8 8 [0,0,0] O (Ay A8 5 [0] O (A0 O (fun c=>?_) (fun c=>?_))))
 ·(try simp only[sd,se] at c);exact A7 (Av O (CE dG YF O) (Av O (Ic An O) (M7 O O (La O) (⟨O,_,List.nil_sublist _,⟨_,mD Ar,O⟩⟩))))
 (try simp only[sd,se] at c);refine A5 ⟨O,_,_,O,(CO (is:=[0]) O),?_⟩;exact⟨(),kz Ar,O,O⟩
theorem KU:∀(m:Nat) (ds:List CM) (n:Int) (t:Tm) (vs:List Tm),(GH n)→(okB t=true)→(∀v∈vs,okB v=true)→(vs.length<549755813888)→Bu Tryz.prog 74 [.ptr m 0,.agg ((BU t).map .p),.p (.lst (BK vs))] [.box m [.p (.lst (List.map Bo ds)),.p (I n)]] (KQ (fun(r:Tm×Int)=>TV r.1) (fun _=> .p (.iface 122 .unit)) (fun r H'=>H'=[.box m [.p (.lst (List.map Bo ds)),.p (I r.2)]]) (Is n (Cv t vs 0))):=by
 intro m ds n t vs h1 h2 h3 h4;have hn:=h1.1;have hto:=Ch.1 h2;have hts:=hto.sz;have hvo:=GR h3;refine A9 Tryz.func74 O pd (n:=22) O O (A3 (BP O (BY O) fun b4=>BP O (BE B8 O) fun b6=>Bk O (A3 (B0 O (Dg [2] O O O (.inl ⟨O,O,O⟩) (Na m ds n h1) ⟨_,_,O,O,O⟩ Aq (aw (we O) (FB)) (fun _ _ h=>(congrArg List.length h).trans O) ?_ ?_)))))
 rotate_left
 ·intro e _ he;exact⟨O,_,List.nil_sublist _,⟨_,bZ he,O⟩⟩
 rintro _ _ hz rfl;refine Bk O (A3 (A2 A8 2 [1] O ?_));refine Av rfl (BM rfl rfl (Yh t vs hto.nd hto.vp Ar hvo.1 hvo.2.2 (fun v hv=>by have:=G3 (h3 v hv);simp only[Dv];omega) Ab) rfl) ?_;refine A2 A8 3 [] O (BP O (BE B8 O) fun b7=>Ax A8 2 [0,1] O (Az (Ay A8 2 [] O (A0 O (fun c=>?_) (fun c=>?_)))))
 ·(try simp only[sd,se] at c);have hce:=c;exact A7 (Av O (CE dG YF O) (Av O (Ic An O) (M7 O O (La O) (⟨O,_,List.nil_sublist _,⟨_,mA Ar h2 h3 h4 hce,O⟩⟩))))
 (try simp only[sd,se] at c);refine A5 (Ay A8 2 [0,1,1] O (A4 (⟨O,_,_,⟨_,_,O,(BN (i:=1) Ba O O Ak),O⟩,(CO (is:=[3]) O),?_⟩)));exact⟨⟨(Fc t vs 0).1,n - 1⟩,nR hz h2 h3 h4 c,O,O⟩
theorem Jp:∀(l:List Tm),(l.length<549755813888)→Bu Tryz.prog 95 [.p (.lst (BK l))] [] (Ya (fun v=>v) 5 (BK l)):=by
 intro l h1;refine A9 Tryz.func95 O pe (n:=8) O O (Ay A8 1 [] O (Az (A3 (B0 O (DO O O (MB Br O O) ?_)))));rintro _ ⟨q,rfl,hq⟩;refine Bk O (A0 O (fun c=>?_) (fun c=>?_))
 ·(try simp only[sd,se] at c);refine Ay A8 1 [] O (BZ (F3 (t:=2) (sz:=5) O) (A4 (⟨O,_,_,⟨_,_,O,O,O⟩,(CO (is:=[0]) O),?_⟩)));rw[show l=[] from List.length_eq_zero_iff.1 (by rw[←Bc,hq c];rfl)]
  all_goals exact⟨_,_,rfl,rfl⟩
 (try simp only[sd,se] at c);refine A5 (A3 (P1 O O (Kc Br) fun b5 cp=>B0 O (Il O O (C4 (i:=0) (rows':=BK l) Br Br B8 O O O O O O (B9 _) (by simp only[Bc,List.length_nil];omega) (O7 [] l)) fun o cp1=>Ax A8 1 [] O (A4 (⟨O,_,_,⟨_,_,O,O,O⟩,(CO (is:=[0]) O),?_⟩)))))
 all_goals exact⟨_,_,rfl,rfl⟩
theorem Pc:∀(m:Nat) (ds:List CM) (n:Int) (t:Tm) (vs:List Tm),(GH n)→(okB t=true)→(∀v∈vs,okB v=true)→(vs.length<549755813888)→Bu Tryz.prog 62 [.ptr m 0,.agg ((BU t).map .p),.p (.lst (BK vs))] [.box m [.p (.lst (List.map Bo ds)),.p (I n)]] (KQ (fun(r:Tm×Int)=>TV r.1) (fun _=> .p (.iface 122 .unit)) (fun r H'=>H'=[.box m [.p (.lst (List.map Bo ds)),.p (I r.2)]]) (Is n (Cv t vs.reverse 0))):=by
 intro m ds n t vs h1 h2 h3 h4;refine A9 Tryz.func62 O nz (n:=16) O O (A3 (BP O (BY O) fun b4=>BP O (BE B8 O) fun b6=>Bk O (A3 (B0 O (MU O O O (.inl ⟨O,O,O⟩) (Jp vs h4) (.inl O) fun o cp=>Ax A8 1 [] O (A3 (B0 O (Av O (Co [0] O (.inl ⟨O,O,O⟩) (ca vs o cp Ab) ⟨_,_,O,O,O⟩ Aq O (.inl O)) (Bk O (A3 (A2 A8 3 [2] O (CN (C5 (t:=9) (x:= .vs o (BK vs.reverse).length cp) (DF vs (l':=vs.reverse) As)) (CN (C5 (t:=7) (x:= .vs o (BK vs.reverse).length cp) (DF vs (l':=vs.reverse) As)) (CN (C5 (t:=10) (x:= .vs o (BK vs.reverse).length cp) (DF vs (l':=vs.reverse) As)) (CN (C5 (t:=14) (x:= .vs o (BK vs.reverse).length cp) (DF vs (l':=vs.reverse) As)) ?_)))))))))))))));refine CN (DE (i:=0) [9,7,10,14] O (FQ ⟨O,O,O,O,Au⟩)) (Dg [2] O O O (.inl ⟨O,O,O⟩) (KU m ds n t vs.reverse h1 h2 (j3 h3) (by rw[List.length_reverse];exact h4)) ⟨_,_,O,O,O⟩ Aq (aw (we O) (aw (we O) (aw (we O) (FB)))) (fun _ _ h=>(congrArg List.length h).trans O) ?_ ?_)
 rotate_left
 ·intro e _ he;exact⟨O,_,List.nil_sublist _,⟨_,he,O⟩⟩
 rintro⟨z,n2⟩ _ hz rfl;refine Ax A8 1 [0,1] O (A4 (⟨O,_,_,⟨_,_,O,(BN (i:=0) Ba O O Ak),O⟩,(CO (is:=[2]) O),?_⟩));exact⟨⟨z,n2⟩,hz,O,O⟩
theorem Vf:∀(m:Nat) (ds:List CM) (s:Int) (x:Fu) (g:Tm) (a:List Tm) (d:CM),(GH s)→(ds[x.decl.toNat]?=some d)→(0≤x.decl)→(DG d)→(okB g=true)→(a.length<549755813888)→(Es Bq d g a s≠ .stuck)→Bu Tryz.prog 106 [.ptr m 0,.agg ((Dj x).map .p),.agg ((BU g).map .p),.p (.lst (BK a))] [.box m [.p (.lst (List.map Bo ds)),.p (I s)]] (KQ (fun(r:Option Tm×Int)=> .tup [TV (r.1.getD Be),.p (.bool r.1.isSome)]) (fun _=> .p (.iface 122 .unit)) (fun r H'=>H'=[.box m [.p (.lst (List.map Bo ds)),.p (I r.2)]]) ((Es Bq d g a s).ex)):=by
 intro m ds s x g a d h1 h2 h3 h4 h5 h6 h7;obtain⟨gk,gi,gn,gl,gs⟩:=g;have hgo:=Ch.1 h5;have hgl:=hgo.nd;simp only[Nd,Dv] at hgl;refine A9 Tryz.func106 O nP (n:=35) O O (A3 (BP O (BY O) fun b5=>BP O (BY O) fun b6=>BP O (BE B8 O) fun b8=>Ax A8 1 [] O (Az (CG (fun k=>Nat.beq k 15) Eg (A1 O (fun _=>BC O) Au (A1 O (fun _=>DB O) Au (A1 O (fun _=>Aw Q4 O O) Au (BT (j:=3) O O O (fun H i hi=>BG (i:=i) Qu O hi O) AB Au (A1 O (fun _=>Aw E8 O O) Au (BT (j:=2) O O O (fun H i hi=>A6 (i:=i) C7 O hi (ER _)) AB Au (A1 O (fun _=>BA Iv O O Ar (En h2) (Cp _)) Au (A1 O (fun _=>B3 Cm O O) Au (A1 O (fun _=>DV Ba O (Fa _) (BJ _)) Au (A1 O (fun _=>Aw Dq O O) Au ?_))))))))))))));refine BT (j:=1) O O O (fun H i hi=>BG (i:=i) WK O hi O) AB Au (A1 O (fun _=>BM O O (Lr d.value gl (Ch.1 h4.vl).nd (Ch.1 h4.vl).vp (by have:=G3 h4.vl;omega) hgl.2.1 hgl.2.2.1) O) Au (A1 O (fun _=>BC O) Au (A1 O (fun _=>CB O O) Au (A1 O (fun _=>CB O O) Au (KB [] O O (BE B8 O) An fun b10=>⟨AB,Au,?_⟩)))));refine Cd O O (Bd (i:=0) Ba O O O Ak AX (DR _)) AB Au (A1 O (fun _=>Bf O) Au (B6 O An (Az (Ay A8 2 [] O (A0 O (fun c=>?_) (fun c=>?_))))))
 ·(try simp only[sd,se] at c);have hce:=c;refine Ay A8 3 [1,0] O (BZ (Bl (i:=1) O) (A4 (⟨O,_,_,⟨_,_,O,(BN (i:=1) Ba O O O),⟨_,_,O,O,O⟩⟩,(CO (is:=[4]) O),?_⟩)));exact⟨⟨none,s⟩,DC (OB hce),O,O⟩
 (try simp only[sd,se] at c);have hce:=c;refine A5 (A3 (B0 O (Dg [4] O O O (.inl ⟨O,O,O⟩) (Na m ds s h1) ⟨_,_,O,O,O⟩ Aq (aw (we O) (FB)) (fun _ _ h=>(congrArg List.length h).trans O) ?_ ?_)))
 rotate_left
 ·intro e _ he;exact⟨O,_,List.nil_sublist _,⟨_,bX h7 hce he,O⟩⟩
 rintro _ _ hz rfl;refine Bk O (A3 (A2 A8 2 [0] O (Av O (BM O O (ED ((B5 d.value gl).1) a Ab) O) (Ax A8 2 [1,1] O (A4 (⟨O,_,_,⟨_,_,O,(BN (i:=1) Ba O O Ak),⟨_,_,O,O,O⟩⟩,(CO (is:=[4]) O),?_⟩))))));exact⟨⟨some (apply (B5 d.value gl).1 a),s - 1⟩,DC (aq h7 hce hz),O,O⟩
theorem _root_.Go.AR {α:Prop}(h:α:=by simp only[Dv,List.length_drop];omega):α:=h
theorem UD:∀(m:Nat) (ds:List CM) (s:Int) (d:CM) (g:Tm) (a:List Tm) (mm:Tm),(GH s)→(L3 ds)→(DG d)→(okB g=true)→(a.length<549755813888)→(okB mm=true)→(Cc d<a.length)→(FA ds Bq d g a mm s≠ .stuck)→Bu Tryz.prog 110 [.ptr m 0,.agg ((Bo d).map .p),.agg ((BU g).map .p),.p (.lst (BK a)),.agg ((BU mm).map .p)] [.box m [.p (.lst (List.map Bo ds)),.p (I s)]] (KQ (fun(r:Option Tm×Int)=> .tup [TV (r.1.getD Be),.p (.bool r.1.isSome)]) (fun _=> .p (.iface 122 .unit)) (fun r H'=>H'=[.box m [.p (.lst (List.map Bo ds)),.p (I r.2)]]) ((FA ds Bq d g a mm s).ex)):=by
 intro m ds s d g a mm h1 h2 h3 h4 h5 h6 h7 h8;obtain⟨gk,gi,gn,gl,gs⟩:=g;have hgo:=Ch.1 h4;have hgl:=hgo.nd;simp only[Nd,Dv] at hgl;have hnr:=LI h3;have hcl:=h3.din.cl;have hrl:=h3.din.rl;have hfx:=h3.fx;have hir:=Hq h3.din h3.fx;refine A9 Tryz.func110 O lV (n:=82) O O (A3 (BP O (BY O) fun b6=>BP O (BY O) fun b7=>BP O (BY O) fun b9=>BP O (BE B8 O) fun b10=>Ax A8 1 [] O (A3 (A2 A8 2 [1] O (Av O (Co [4] O (.inl ⟨O,O,O⟩) (PR m ds s mm h2 h6) ⟨_,_,O,O,O⟩ Aq O (.inl O)) (A2 A8 5 [] O (BP O (BE MY O) fun b12=>Ax A8 4 [0,1] O (Az (Az (Bb [0,3,6,7,10,13,14] 42 (fun y=>y= .p (.bool (((!((CV ds mm).2.2.2))||(!((((CV ds mm).1).name).toList==d.name.toList)))||(decide (((CV ds mm).2.1:Int)≥((d.recs.rules.length:Nat):Int)))))) ?_ ?_))))))))))
 ·refine A7 (A2 A8 3 [] O (BQ 28 O (fun g1=>?_) (fun g1=>?_)))
  ·(try simp only[sd,se] at g1);exact Ax A8 14 [] O (⟨O,O,AK,AI,⟨O,O,O,O,O,O,O,Au⟩⟩)
  (try simp only[sd,se] at g1);refine BF O (Aw Cm O O) (BF O (A6 (i:=0) Lz O O (De _)) (BF O (Aw Cm O O) (BF O (A6 (i:=4) Lz O O (De _)) (BF O (Jc O O) (A2 A8 2 [] O (BQ 35 O (fun g2=>?_) (fun g2=>?_)))))))
  ·(try simp only[sd,se] at g2);exact Ax A8 7 [] O (⟨O,O,AK,AI,⟨O,O,O,O,O,O,O,Au⟩⟩)
  (try simp only[sd,se] at g2);exact A2 A8 3 [] O (BF O (A6 (i:=4) E3 O O (Cr _)) (BF O (BS Br O (Bc _)) (Ax A8 2 [] O (⟨O,O,AK,AI,⟨O,O,O,O,O,O,O,Au⟩⟩))))
 rintro _ rfl;refine A0 O (fun c=>?_) (fun c=>?_)
 ·(try simp only[sd,se] at c);have hib:=dh (S:=Bq) (h:=(.mk gk gi gn gl gs:Tm)) (a:=a) (s:=s) c;refine Ay A8 3 [1,0] O (BZ (Bl (i:=1) O) (A4 (⟨O,_,_,⟨_,_,O,(BN (i:=1) Ba O O O),⟨_,_,O,O,O⟩⟩,(CO (is:=[5]) O),?_⟩)));exact⟨⟨none,s⟩,DC hib,O,O⟩
 (try simp only[sd,se] at c);obtain⟨hg1,hg2,hg3⟩:=ZW c;have hg4:=c.2;have hfl:=Kq h2 hg1;refine A5 (Az (CG (fun k=>Nat.beq k 12) Eg (A1 O (fun _=>Aw Cm O O) Au (A1 O (fun _=>Aw il O O) Au (BT (j:=4) O O O (fun H i hi=>A6 (i:=i) E3 O hi (Cr _)) AB Au (A1 O (fun _=>BC O) Au ?_))))));obtain⟨x,hx⟩:=BB (l:=d.recs.rules) (i:=((CV ds mm).2.1:Int).toNat) Ar;have hro:=h3.ru _ (List.mem_of_getElem? hx);refine A1 O (fun _=>BA Br O O Ar (Bj hx) (BJ _)) Au (A1 O (fun _=>BO Ba O (BJ _)) Au (A1 O (fun _=>Aw Dq O O) Au (BT (j:=3) O O O (fun H i hi=>BG (i:=i) WK O hi O) AB Au (A1 O (fun _=>BM O O (Lr x gl (Ch.1 hro).nd (Ch.1 hro).vp (by have:=G3 hro;omega) hgl.2.1 hgl.2.2.1) O) Au (A1 O (fun _=>BC O) Au (A1 O (fun _=>CB O O) Au (A1 O (fun _=>CB O O) Au (KB [] O O (BE B8 O) An fun b16=>⟨AB,Au,?_⟩))))))));refine Cd O O (Bd (i:=0) Ba O O O Ak AX (DR _)) AB Au (A1 O (fun _=>Bf O) Au (B6 O An (Az (Ay A8 2 [] O (A0 O (fun c1=>?_) (fun c1=>?_))))))
 ·(try simp only[sd,se] at c1);have hce:=c1;refine Ay A8 3 [2,0] O (BZ (Bl (i:=2) O) (A4 (⟨O,_,_,⟨_,_,O,(BN (i:=2) Ba O O O),⟨_,_,O,O,O⟩⟩,(CO (is:=[6]) O),?_⟩)));exact⟨⟨none,s⟩,DC (UT (h:=(.mk gk gi gn gl gs:Tm)) hg1 hg2 hx hce),O,O⟩
 (try simp only[sd,se] at c1);have hce:=c1;refine A5 (A3 (B0 O (Dg [6] O O O (.inl ⟨O,O,O⟩) (Na m ds s h1) ⟨_,_,O,O,O⟩ Aq (aw (we O) (FB)) (fun _ _ h=>(congrArg List.length h).trans O) ?_ ?_)))
 rotate_left
 ·intro e _ he;exact⟨O,_,List.nil_sublist _,⟨_,gK (g:=(.mk gk gi gn gl gs:Tm)) h8 hg1 hg2 hx hce he,O⟩⟩
 rintro _ _ hz rfl;refine Bk O (Az (CG (fun k=>false) Eg (BT (j:=0) O O O (fun H i hi=>BI (i:=i) Ba O hi Ak) AB Au (A1 O (fun _=>BC O) Au (A1 O (fun _=>Aw Cm O O) Au (BT (j:=5) O O O (fun H i hi=>A6 (i:=i) C7 O hi (DY _)) AB Au (A1 O (fun _=>Ga O O Ar Ar) Au (A1 O (fun _=>Aw Cm O O) Au (BT (j:=5) O O O (fun H i hi=>A6 (i:=i) IM O hi (CJ _)) AB Au (A1 O (fun _=>BS Hu O (List.length_map _)) Au (A1 O (fun _=>Ga O O Ar Ar) Au (A1 O (fun _=>Cz (lo:=0) (hi:=(((d.fixed:Int)+(1:Int):Int)+((d.ctors.length:Nat):Int):Int).toNat) Br O (CQ (B9 _)) O ⟨_,pI Ar⟩ (Nat.zero_le _) AQ (Sa a ((((d.fixed:Int)+(1:Int):Int)+((d.ctors.length:Nat):Int):Int).toNat))) Au ?_))))))))))));refine A1 O (fun _=>BM O O (ED ((B5 x gl).1) (a.take ((((d.fixed:Int)+(1:Int):Int)+((d.ctors.length:Nat):Int):Int).toNat)) (by simp only[Dv,List.length_take];omega)) O) Au (Cd O O (Bd (i:=0) Ba O O O Ak AX (DR _)) AB Au (B6 O An (A3 (A2 A8 2 [0] O (Av O (BM O O (ED (apply ((B5 x gl).1) (a.take ((((d.fixed:Int)+(1:Int):Int)+((d.ctors.length:Nat):Int):Int).toNat))) ((CV ds mm).2.2.1) Ab) O) (Ax A8 1 [0,1] O (Az (CG (fun k=>false) Eg (BT (j:=0) O O O (fun H i hi=>BI (i:=i) Ba O hi Ak) AB Au (A1 O (fun _=>BC O) Au (BT (j:=5) O O O (fun H i hi=>BI (i:=i) Ew O hi Ah) AB Au (A1 O (fun _=>BM O O (Nj d h3.din h3.fx) O) Au (A1 O (fun _=>Ga O O Ar Ar) Au ?_)))))))))))));refine A1 O (fun _=>Cz (lo:=((Cc d:Int)+(1:Int):Int).toNat) Br O (CQ (B9 _)) ⟨_,pI Ar⟩ O AQ (Nat.le_refl _) (L8 a (((Cc d:Int)+(1:Int):Int).toNat))) Au (A1 O (fun _=>BM O O (ED (apply (apply ((B5 x gl).1) (a.take ((((d.fixed:Int)+(1:Int):Int)+((d.ctors.length:Nat):Int):Int).toNat))) ((CV ds mm).2.2.1)) (a.drop (((Cc d:Int)+(1:Int):Int).toNat)) AR) O) Au (Cd O O (Bd (i:=2) Ba O O O Ak AX (DR _)) AB Au (A1 O (fun _=>Bf O) Au (B6 O An (A4 (⟨O,_,_,⟨_,_,O,(BN (i:=2) Ba O O Ak),⟨_,_,O,O,O⟩⟩,(CO (is:=[6]) O),?_⟩))))));exact⟨⟨some _,s - 1⟩,DC (gL (g:=(.mk gk gi gn gl gs:Tm)) h8 hg1 hg2 hx hce hz),O,O⟩
def nW (ds:List CM) (n:Nat):Prop:=∀(m:Nat) (t:Tm) (s:Int),GH s→DJ ds Bq n s t≠ .stuck→Bu Tryz.prog 39 [.ptr m 0,.agg ((BU t).map .p)] [.box m [.p (.lst (List.map Bo ds)),.p (I s)]] (KQ (fun(r:Tm×Int)=>TV r.1) (fun _=> .p (.iface 122 .unit)) (fun r H'=>H'=[.box m [.p (.lst (List.map Bo ds)),.p (I r.2)]]) ((DJ ds Bq n s t).ex))
theorem _root_.Go.AO {α:Prop}(h:α:=by first | omega | (simp_all;done) | (simp_all;omega)):α:=h
theorem _root_.Go.AH {α:Prop}(h:α:=by first | (simp only[List.length_map,Bc];omega) | (simp_all;done) | (simp_all;omega)):α:=h
theorem Ph:∀(n k m:Nat) (ds:List CM) (t:FE) (vs:List Tm) (s:Int),(nW ds n)→(L3 ds)→(GH s)→(Ug t vs)→(EH ds Bq (DJ ds Bq n) k t vs Be s≠ .stuck)→Bu Tryz.prog 61 [.ptr m 0,.agg ((DA t).map .p),.p (.lst (BK vs))] [.box m [.p (.lst (List.map Bo ds)),.p (I s)]] (KQ (fun(r:(Option (Tm×List Tm)×Tm)×Int)=> .tup [TV (Nz r.1),.p (.lst (BK (Sb r.1))),.p (.bool r.1.1.isSome),TV r.1.2]) (fun _=> .p (.iface 122 .unit)) (fun r H'=>H'=[.box m [.p (.lst (List.map Bo ds)),.p (I r.2)]]) ((EH ds Bq (DJ ds Bq n) k t vs Be s).ex)):=by
 intro n k m ds t vs s hW h2 h3 h4 hns;have h4l:=h4.len;generalize hX:EH ds Bq (DJ ds Bq n) k t vs Be s=X at hns ⊢;refine A9 Tryz.func61 O pX (n:=76) O O (A3 (BP O (BY O) fun b4=>BP O (BE B8 O) fun b6=>A2 A8 2 [] O (BP O (BE B8 O) fun b9=>Bk O (A3 (B0 O (MU O O O (.inl ⟨O,O,O⟩) (Jp vs Ar) (.inl O) fun o cp=>Ax A8 1 [] O (A3 (BP O (BE B8 O) fun b11=>Bk O (Az (BH ?_))))))))));refine Bn (α:=Nat×FE×List Tm×Tm×Int×Option Nat×Nat) (fun(k2,w,us,l,d,o1,cp1)=>⟨76,mk [(0,.ptr m 0),(4,.ptr b4 0),(6,.ptr b6 0),(9,.ptr b9 0),(10,.vs o1 (BK us).length cp1),(11,.ptr b11 0)],[.box b11 ((BU l).map .p),.vec o1 5 (BK us) cp1,.box b9 [.p (I 0),.p (I 0),.p (.str ⟨#[]⟩),.p (.nils),.p (.nils)],.box b6 [.p (I 0),.p (I 0),.p (.str ⟨#[]⟩),.p (.nils),.p (.nils)],.box b4 ((DA w).map .p),.box m [.p (.lst (List.map Bo ds)),.p (I d)]],[]⟩) (fun(k2,w,us,l,d,o1,cp1)=>k2) (fun(k2,w,us,l,d,o1,cp1)=>EH ds Bq (DJ ds Bq n) k2 w us l d=X∧Ug w us∧GH d) ⟨k,t,vs,Be,s,o,cp⟩ (⟨hX,h4,h3⟩) ?_ ?_
 ·exact Bh ⟨we O,we O,we O,we O,we O,we O,Au⟩ (leH (is:=[0,1,2,3,4,5]) O (wl (on (O)) (wl (oe O) (wl (oe O) (wl (oe O) (wl (oe O) (wl (oe O) (Dd))))))))
 rintro⟨k2,w,us,l,d,o1,cp1⟩ hC
 try simp only at hC
 obtain⟨hC,hL,hJ⟩:=hC;obtain⟨k1,rfl⟩:=Yv hC hns;refine Az (A3 (Av O (Aw Fs O O) (Av O (A6 (i:=4) C7 O O (Gs _)) (Ax A8 1 [] O (A0 O (fun c=>?_) (fun c=>?_))))))
 ·(try simp only[sd,se] at c);have hk1:=c;refine A5 (BH (Az (Az (Bb [0,4,6,9,10,11] 31 (fun y=>y= .p (.bool ((decide ((w.var:Int)<(0:Int)))||(decide ((w.var:Int)≥((us.length:Nat):Int)))))) ?_ ?_))))
  ·refine A7 (Av O (Aw Fs O O) (Av O (A6 (i:=4) C7 O O (Dk _)) (A2 A8 2 [] O (BQ 25 O (fun g=>?_) (fun g=>?_)))))
   ·(try simp only[sd,se] at g);exact Ax A8 6 [] O (⟨O,O,AK,AI,⟨O,O,O,O,O,O,Au⟩⟩)
   (try simp only[sd,se] at g);exact BF O (Aw Fs O O) (BF O (A6 (i:=4) C7 O O (Dk _)) (BF O (BC O) (BF O (Mo Br O (Bc _)) (Ax A8 2 [] O (⟨O,O,AK,AI,⟨O,O,O,O,O,O,Au⟩⟩)))))
  rintro _ rfl;refine A0 O (fun c1=>?_) (fun c1=>?_)
  ·(try simp only[sd,se] at c1);rw[Kt hk1 (by simpa [Bq] using c1)] at hC;refine Az (CG (fun k=>false) Eg (A1 O (fun _=>CE Dq B8 O) Au (BT (j:=0) O O O (fun H i hi=>BI (i:=i) Ba O hi Ak) AB Au (Cd O O (Cl (i:=3) Ba O O O O O O) AB Au (A1 O (fun _=>Bf O) Au (A1 O (fun _=>Bf O) Au (Cd O O (Bd (i:=2) Ba O O O Ak AX (DR _)) AB Au (B6 O An (BZ (Bl (i:=3) O) (BZ (Fi 7) (A4 (⟨O,_,_,⟨_,_,O,(BN (i:=3) Ba O O O),⟨_,_,O,O,⟨_,_,O,O,⟨_,_,O,(BN (i:=2) Ba O O Ak),O⟩⟩⟩⟩,(CO (is:=[5]) O),?_⟩))))))))))));exact⟨⟨(none,l),d⟩,DC hC.symm,O,O⟩
  (try simp only[sd,se] at c1);have hcb:=c1;refine A5 (A3 (A2 A8 3 [] O (Av O (A6 (i:=4) C7 O O (Dk _)) (NG (i:=1) O Aa fun b hb=>?_))));subst hb;refine Av O (Cx Br O O Ar AH) ?_;obtain⟨y,hy⟩:=BB (l:=us) (i:=(w.var:Int).toNat) AO;refine Av O (Ek (i:=1) Ba O O (Bj hy)) ?_;rw[Mt hk1 (by simpa [Bq] using hcb) hy] at hC;have hn0:=hns;rw[←hC] at hn0;have hn1:=UF hn0;refine Dg [5] O O O (.inl ⟨O,O,O⟩) (hW m y d hJ hn1) ⟨_,_,O,O,O⟩ Aq (aw (we O) (aw (we O) (FB))) (fun _ _ h=>(congrArg List.length h).trans O) ?_ ?_
  rotate_left
  ·intro e _ he;exact⟨O,_,List.nil_sublist _,⟨_,by rw[←hC];exact TO hn0 he,rfl⟩⟩
  rintro⟨z,n2⟩ _ hz rfl;obtain⟨hr2,hr3⟩:=Tc hn0 hz;rw[hr3] at hC;have hJ2:=PX hJ (Hj hz);refine Ax A8 1 [0,1] O (A3 (A2 A8 2 [0] O (Av O (Co [5] O (.inl ⟨O,O,O⟩) (PR m ds n2 z h2 hr2) ⟨_,_,O,O,O⟩ Aq O (.inl O)) (A2 A8 5 [] O (BP O (BE MY O) fun b12=>Ax A8 4 [0,1] O (Az (Ay A8 2 [] O (A0 O (fun c2=>?_) (fun c2=>?_)))))))))
  ·(try simp only[sd,se] at c2);rw[Io (Pd c2)] at hC;refine Az (CG (fun k=>false) Eg (A1 O (fun _=>CE Dq B8 O) Au (BT (j:=1) O O O (fun H i hi=>BI (i:=i) Ba O hi Ak) AB Au (Cd O O (Cl (i:=4) Ba O O O O O O) AB Au (A1 O (fun _=>Bf O) Au (A1 O (fun _=>Bf O) Au (Cd O O (Bd (i:=3) Ba O O O Ak AX (DR _)) AB Au (B6 O An (BZ (Bl (i:=4) O) (BZ (Fi 7) (A4 (⟨O,_,_,⟨_,_,O,(BN (i:=4) Ba O O O),⟨_,_,O,O,⟨_,_,O,O,⟨_,_,O,(BN (i:=3) Ba O O Ak),O⟩⟩⟩⟩,(CO (is:=[6]) O),?_⟩))))))))))));exact⟨⟨(none,z),n2⟩,DC hC.symm,O,O⟩
  (try simp only[sd,se] at c2);have hcs:=M3 c2;have hcf:=Gd hcs;have hlo:=hcf.lo;have hhi:=hcf.hi;have hfl:=Kq h2 hcs;refine A5 (Az (CG (fun k=>Nat.beq k 11) Eg (BT (j:=5) O O O (fun H i hi=>BI (i:=i) It O hi Ad) AB Au (A1 O (fun _=>Aw Cm O O) Au (BT (j:=0) O O O (fun H i hi=>A6 (i:=i) IM O hi (CJ _)) AB Au (A1 O (fun _=>BC O) Au ?_))))));obtain⟨x,hx⟩:=BB (l:=((CV ds z).1).ctors) (i:=((CV ds z).2.1:Int).toNat) Ar;refine A1 O (fun _=>BA Hu O O Ar (Eh hx) (EI _)) Au (A1 O (fun _=>B3 I8 O O) Au (A1 O (fun _=>DW Lz O (Fy _)) Au (A1 O (fun _=>BM O O (SH w x.name hL.tin.bl) O) Au (A1 O (fun _=>BC O) Au (A1 O (fun _=>CB O O) Au (A1 O (fun _=>CB O O) Au (KB [] O O (BE Ye O) An fun b16=>⟨AB,Au,?_⟩)))))));refine Cd O O (Bd (i:=0) It O O O Ad (by first | rfl | simp[Cq]) (UI _)) AB Au (A1 O (fun _=>Bf O) Au (B6 O An (Az (Ay A8 2 [] O (A0 O (fun c3=>?_) (fun c3=>?_))))))
  ·(try simp only[sd,se] at c3);rw[LN hcs (by rw[FU,CZ hx];exact Up c3)] at hC;refine Az (CG (fun k=>false) Eg (A1 O (fun _=>CE Dq B8 O) Au (BT (j:=2) O O O (fun H i hi=>BI (i:=i) Ba O hi Ak) AB Au (Cd O O (Cl (i:=5) Ba O O O O O O) AB Au (A1 O (fun _=>Bf O) Au (A1 O (fun _=>Bf O) Au (Cd O O (Bd (i:=4) Ba O O O Ak AX (DR _)) AB Au (B6 O An (BZ (Bl (i:=5) O) (BZ (Fi 7) (A4 (⟨O,_,_,⟨_,_,O,(BN (i:=5) Ba O O O),⟨_,_,O,O,⟨_,_,O,O,⟨_,_,O,(BN (i:=4) Ba O O Ak),O⟩⟩⟩⟩,(CO (is:=[7]) O),?_⟩))))))))))));exact⟨⟨(none,z),n2⟩,DC hC.symm,O,O⟩
  (try simp only[sd,se] at c3);have hbs:=U6 c3;rw[Ks hcs (by rw[FU,CZ hx];exact hbs)] at hC;refine A5 (Ay A8 2 [0,6,1] O (A7 (A2 A8 2 [] O (Il O O (C4 (i:=3) (rows':=BK ((CV ds z).2.2.1)) Br Br B8 O O O O O O (B9 _) (by have:=hL.len;simp only[Bc,List.length_append];omega) (O7 us ((CV ds z).2.2.1))) fun o2 cp2=>Ax A8 1 [] O (⟨⟨k1,(Zu x.name w.branches).1,us++(CV ds z).2.2.1,z,n2,o2,cp2⟩,AT,⟨hC,hL.next h2 hr2 hcs hbs,hJ2⟩,Bh ⟨we O,we O,we O,we O,we O,we O,Au⟩ (leH (is:=[2,3,4,5,6,7]) O (wl (oe O) (wl (oe O) (wl (oe O) (wl (oe O) (wl (oe O) (wl (oe O) (Dd))))))))⟩)))))
 (try simp only[sd,se] at c);have hk1:=c;rw[Jn hk1] at hC;refine Bp (A3 (Av O (Aw Fs O O) (Av O (B4 (i:=4) Ba O O (FT _) (BJ _)) (Ax A8 6 [3,1,2,0] O (BZ (DE (i:=1) [10,74,7] O (FQ ⟨O,O,O,Au⟩)) (BZ (Bl (i:=1) O) (A4 (⟨O,_,_,⟨_,_,O,(BN (i:=2) Ba O O Ak),⟨_,_,O,O,⟨_,_,O,O,⟨_,_,O,(BN (i:=1) Ba O O O),O⟩⟩⟩⟩,(CO (is:=[4]) O),?_⟩))))))));exact⟨⟨(some (w.body,us),Be),d⟩,DC hC.symm,O,O⟩
theorem jW:∀(n m:Nat) (ds:List CM) (s:Int) (x:Fu) (g:Tm) (a:List Tm) (d:CM),(nW ds n)→(L3 ds)→(GH s)→(ds[x.decl.toNat]?=some d)→(0≤x.decl)→(DG d)→(okB g=true)→(a.length<549755813888)→(∀y∈a,okB y=true)→(RG ds Bq (DJ ds Bq n) d g a s≠ .stuck)→Bu Tryz.prog 107 [.ptr m 0,.agg ((Dj x).map .p),.agg ((BU g).map .p),.p (.lst (BK a))] [.box m [.p (.lst (List.map Bo ds)),.p (I s)]] (KQ (fun(r:Option Tm×Int)=> .tup [TV (r.1.getD Be),.p (.bool r.1.isSome)]) (fun _=> .p (.iface 122 .unit)) (fun r H'=>H'=[.box m [.p (.lst (List.map Bo ds)),.p (I r.2)]]) ((RG ds Bq (DJ ds Bq n) d g a s).ex)):=by
 intro n m ds s x g a d hW h2 h3 h4 h5 h6 h7 h8 h9 hns;have hnr:=LI h6;generalize hC:RG ds Bq (DJ ds Bq n) d g a s=X at hns ⊢;refine A9 Tryz.func107 O kI (n:=40) O O (A3 (BP O (BY O) fun b5=>BP O (BY O) fun b6=>BP O (BE B8 O) fun b8=>Ax A8 1 [] O (Az (CG (fun k=>Nat.beq k 8) Eg (A1 O (fun _=>BC O) Au (A1 O (fun _=>DB O) Au (A1 O (fun _=>Aw Q4 O O) Au (BT (j:=3) O O O (fun H i hi=>BG (i:=i) Qu O hi O) AB Au (A1 O (fun _=>Aw E8 O O) Au (BT (j:=2) O O O (fun H i hi=>A6 (i:=i) C7 O hi (ER _)) AB Au (A1 O (fun _=>BA Iv O O Ar (En h4) (Cp _)) Au (A1 O (fun _=>BO Ew O (Cp _)) Au (KB [] O O (BE MY O) An fun b10=>⟨AB,Au,?_⟩)))))))))))));refine Cd O O (Bd (i:=0) Ew O O O Ah AY (Lc _)) AB Au (B6 O An (A3 (Av O (BI (i:=0) Ew O O Ah) (Av O (BM O O (Nj d h6.din h6.fx) O) (Ax A8 1 [] O (Az (A3 (B0 O (Av O (BS Br O (Bc _)) (Ax A8 2 [] O (A0 O (fun c=>?_) (fun c=>?_))))))))))))
 ·(try simp only[sd,se] at c);rw[XK Ar] at hC;refine Ay A8 3 [1,0] O (BZ (Bl (i:=1) O) (A4 (⟨O,_,_,⟨_,_,O,(BN (i:=1) Ba O O O),⟨_,_,O,O,O⟩⟩,(CO (is:=[4]) O),?_⟩)));exact⟨⟨none,s⟩,DC hC.symm,O,O⟩
 (try simp only[sd,se] at c);refine A5 (Az (CG (fun k=>Nat.beq k 9||Nat.beq k 10) Eg (A1 O (fun _=>BC O) Au (BT (j:=0) O O O (fun H i hi=>BI (i:=i) Ew O hi Ah) AB Au (BT (j:=2) O O O (fun H i hi=>BI (i:=i) Ba O hi Ak) AB Au (A1 O (fun _=>BC O) Au (A1 O (fun _=>BC O) Au (A1 O (fun _=>BC O) Au (A1 O (fun _=>BC O) Au ?_)))))))));obtain⟨x1,hx1⟩:=BB (l:=a) (i:=(Cc d:Int).toNat) Ar;rw[bP Ar hx1] at hC;have hn0:=hns;rw[←hC] at hn0;have hn1:=UF hn0;refine A1 O (fun _=>BA Br O O Ar (Bj hx1) (BJ _)) Au (A1 O (fun _=>BO Ba O (BJ _)) Au (OS [4] O O O (.inl ⟨O,O,O⟩) (hW m x1 s h3 hn1) ⟨_,_,O,O,O⟩ Aq (aw (we O) (aw (we O) (FB))) (fun _ _ h=>(congrArg List.length h).trans O) An An O AB ?_ ?_))
 rotate_left
 ·intro e he _ _ hτ;exact⟨O,_,List.nil_sublist _,⟨_,by rw[←hC];exact TO hn0 he,rfl⟩⟩
 rintro⟨z,n2⟩ _ hz rfl;refine⟨AB,Au,?_⟩;obtain⟨hr2,hr3⟩:=Tc hn0 hz;rw[hr3] at hC;simp only at hC;have hJ2:=PX h3 (Hj hz);refine OS [4] O O O (.inl ⟨O,O,O⟩) (UD m ds n2 d g a z hJ2 h2 h6 h7 h8 hr2 Ar (by rw[hC];exact hns)) ⟨_,_,O,O,O⟩ Aq (aw (we O) (aw (we O) (aw (we O) (aw (we O) (aw (we O) (FB)))))) (fun _ _ h=>(congrArg List.length h).trans O) An An O AB ?_ ?_
 rotate_left
 ·intro e he _ _ hτ;exact⟨O,_,List.nil_sublist _,⟨_,by rw[←hC];exact he,rfl⟩⟩
 rintro⟨q,n21⟩ _ hz1 rfl;refine⟨AB,Au,?_⟩;have hfin:=hz1;refine A1 O (fun _=>CB O O) Au (A1 O (fun _=>CB O O) Au (Cd O O (Bd (i:=1) Ba O O O Ak AX (DR _)) AB Au (A1 O (fun _=>Bf O) Au (B6 O An (A4 (⟨O,_,_,⟨_,_,O,(BN (i:=1) Ba O O Ak),⟨_,_,O,O,O⟩⟩,(CO (is:=[4]) O),?_⟩))))));exact⟨⟨q,n21⟩,by rw[←hC];exact hfin,rfl,rfl⟩
theorem Xo:∀(m:Nat) (ds:List CM) (n:Int) (g p q:Tm),(GH n)→(g.kind=9∨g.kind=10)→(p.kids[(1+g.kind - 9).toNat]?=some q)→Bu Tryz.prog 75 [.ptr m 0,.agg ((BU g).map .p),.agg ((BU p).map .p)] [.box m [.p (.lst (List.map Bo ds)),.p (I n)]] (KQ (fun(r:Tm×Int)=>TV r.1) (fun _=> .p (.iface 122 .unit)) (fun r H'=>H'=[.box m [.p (.lst (List.map Bo ds)),.p (I r.2)]]) (Is n (q,0))):=by
 intro m ds n g p q h1 h2 h3;obtain⟨gk,gi,gn,gl,gs⟩:=g;obtain⟨pk,pi,pn,pl,ps⟩:=p;simp only[Tm.kind,Tm.kids] at h2 h3;refine A9 Tryz.func75 O nj (n:=17) O O (A3 (BP O (BY O) fun b4=>BP O (BY O) fun b5=>BP O (BE B8 O) fun b6=>Bk O (A3 (B0 O (Dg [3] O O O (.inl ⟨O,O,O⟩) (Na m ds n h1) ⟨_,_,O,O,O⟩ Aq (aw (we O) (FB)) (fun _ _ h=>(congrArg List.length h).trans O) ?_ ?_)))))
 rotate_left
 ·intro e _ he;exact⟨O,_,List.nil_sublist _,⟨_,bZ he,O⟩⟩
 rintro _ _ hz rfl;refine Bk O (A3 (A2 A8 6 [1,2] O (Av O (BA Br O O Ar (Bj h3) (BJ _)) (Ax A8 2 [0,1] O (A4 (⟨O,_,_,⟨_,_,O,(BN (i:=0) Ba O O Ak),O⟩,(CO (is:=[3]) O),?_⟩))))));exact⟨⟨q,n - 1⟩,nM hz,O,O⟩
end Go.Proofs.YtboammbpdaoojaaGreat
