/- Part of the proofs: an abstract program logic, plain models and contracts of functions. -/
import Derived.Test.YtifphifongokcaaGreatPf
import Derived.Test.YtifphifongokcaaGreatPc
import Derived.Test.YtifphifongokcaaGreatPd
import Derived.Scope
import Derived.Test.YtifphifongokcaaGreatPb
set_option linter.unusedVariables false
set_option linter.unusedSimpArgs false
set_option maxRecDepth 100000
namespace Go.Proofs.YtifphifongokcaaGreat
open Go.Abs Go.Eu
theorem Zp:∀(l b1 b2:Nat) (d:Bx) (at_:Int) (nm:ByteArray) (TA:Ff→List Ax) (T0:List Ax),(d.kind=0∨bN d)→(∀s e,(s,e)∈Db d at_→Em Tryz.prog l [.p (.str s),.agg ((FG e).map .p)] T0 (Jw (.p (.bool (!decide (s=nm)))) (fun T=>T=if s=nm then TA e else T0)))→Bb Tryz.prog 209 [.fn (.yield l) [] [],.ptr b2 0,.ptr b1 0] (.box b1 ((Br d).map .p):: .box b2 [.p (I at_)]::T0) (Jw (.tup []) (fun H=>∃T,T=FV TA T0 nm (Db d at_)∧H= .box b1 ((Br d).map .p):: .box b2 [.p (I at_)]::T)):=by
 intro l b1 b2 d at_ nm TA T0 h1 h2;refine Aw Tryz.func209 O ah (n:=98) O O (Ar (Ap As 2 [1] O (Al O (A6 (i:=0) FW O O (Dy _)) (Al O (A2 Gq O O) (Al O (CT (i:=0) Bf O O (JW _) (A7 _)) (Al O (B5 K5 Hp (Yx O O O)) (A5 O (Az Hp O) fun b4=>Ak As 1 [0,1] O (Ar (Al O (A2 Gq O O) (Al O (A6 (i:=1) FW O O (G5 _)) (BR O (A1 (Am (An As 2 [] O (BO [0,1,2,4,16] 17 (fun y=>y= .p (.bool (decide (d.kind=0∨d.kind=1∨d.kind=2)))) ?_ ?_)))))))))))))))
 ·refine Ao O (fun c=>?_) (fun c=>?_)
  ·(try simp only[sd,se] at c);exact Aq (⟨O,O,(List.Sublist.refl _),(by refine pB (Bool.eq_iff_iff.2 ?_);simp only[beq_iff_eq,decide_eq_true_eq];omega),⟨O,O,O,O,O,Aj⟩⟩)
  (try simp only[sd,se] at c);refine An As 2 [] O (Ao O (fun c1=>?_) (fun c1=>?_))
  ·(try simp only[sd,se] at c1);exact Aq (⟨O,O,(List.Sublist.refl _),(by refine pB (Bool.eq_iff_iff.2 ?_);simp only[beq_iff_eq,decide_eq_true_eq];omega),⟨O,O,O,O,O,Aj⟩⟩)
  (try simp only[sd,se] at c1);exact Au (Ak As 2 [] O (⟨O,O,(List.Sublist.refl _),(by refine pB (Bool.eq_iff_iff.2 ?_);simp only[beq_iff_eq,decide_eq_true_eq];omega),⟨O,O,O,O,O,Aj⟩⟩))
 rintro _ rfl;refine Ao O (fun c=>?_) (fun c=>?_)
 ·(try simp only[sd,se] at c);have hx0:([0,1,2]:List Int)[d.kind.toNat]?=some d.kind:=by
   have:d.kind=0∨d.kind=1∨d.kind=2:=by simpa using c
   rcases this with e | e | e<;>rw[e]<;>rfl
  have hk0:0≤d.kind∧d.kind<3:=by
   have:d.kind=0∨d.kind=1∨d.kind=2:=by simpa using c
   omega
  refine Ar (Al O (BT Po dR O O O O O) (Al O (A2 Gq O O) (Al O (A6 (i:=1) FW O O (G5 _)) (Al O (A3 Po O O Ah (Qj hx0) (O)) (Ap As 2 [] O (Al O (Iw (i:=0) (ds:=(FG (Ff.mk d.kind at_ 0 d.params d.type)).map .p) FW O O O O O O O) (BR O (Au (Ap As 2 [] O (Al O (A6 (i:=1) P3 O O (D3 _)) (Al O (Ba (i:=0) NY O O (by simp[Gt])) (Es [_,_,_] O O O O (h2 _ _ (Up (by simpa using c))) O ?_ (fun _ _ h=>h.elim)))))))))))));rintro _ T ⟨rfl,hT⟩;refine BR O ⟨O,_,_,O,(D4 [1,2] [_,_,_] O),?_⟩;exact⟨O,_,(hT.trans (Qt (by simpa using c)).symm),O⟩
 (try simp only[sd,se] at c);have hD:bN d:=by
  rcases h1 with h | h
  ·exact absurd (show d.kind=0∨d.kind=1∨d.kind=2 from .inl h) (by simpa using c)
  exact h
 have hcl:=hD.cl;have hfl:=hD.fl;refine An As 2 [] O (Ao O (fun c1=>?_) (fun c1=>?_))
 ·(try simp only[sd,se] at c1);refine Ar (Al O (A2 K5 O O) (Al O (Iw (i:=0) (ds:=(FG (Ff.mk 3 at_ 0 d.params d.type)).map .p) FW O O O O O O O) (BR O (Am (Ar (Ap As 2 [] O (Al O (A6 (i:=1) P3 O O (D3 _)) (Al O (Ba (i:=0) NY O O (by simp[Gt])) (Es [_,_,_] O O O O (h2 _ _ (XC (by simpa using c1))) O ?_ (fun _ _ h=>h.elim))))))))));rintro _ T ⟨rfl,hT⟩;refine Ak As 1 [] O (Ao O (fun c2=>?_) (fun c2=>?_))
  ·(try simp only[sd,se] at c2);refine Av ⟨O,_,_,O,(D4 [1,2] [_,_,_] O),?_⟩;exact⟨O,_,(hT.trans ((if_pos (by simpa using c2)).trans (Tz (by simpa using c1) (by simpa using c2)).symm)),O⟩
  (try simp only[sd,se] at c2);have qc2:¬(d.name=nm):=by simpa using c2
  rw[if_neg qc2] at hT;have hT:=hT.symm;subst hT;refine Aq (Am (Ar (Al O (A2 Gq O O) (Al O (A6 (i:=1) Xk O O (E3 _)) (Al O (BB RY O (List.length_map _)) (Ak As 1 [] O (A1 ?_)))))));refine BZ (α:=Nat) (fun i=>⟨98,mk [(0,.fn (.yield l) [] []),(1,.ptr b2 0),(2,.ptr b1 0),(42,.p (.lst (List.map Ec d.ctors))),(43,.p (I (d.ctors.length:Nat))),(44,.p (I (i:Int)))],(.box b1 ((Br d).map .p):: .box b2 [.p (I at_)]::T0),[]⟩) (fun i=>d.ctors.length - i) (fun i=>i≤d.ctors.length∧(∀j,j<i→∀y,d.ctors[j]?=some y→y.name≠nm)) 0 (⟨by omega,fun j h=>by omega⟩) ?_ ?_
  ·exact BM ⟨we O,we O,we O,we O,we O,we O,Aj⟩ (Qr [1,2] [_,_,_] (l':=[_,_]) O (wl (oe O) (wl (oe O) (C8))))
  rintro i hC
  try simp only at hC
  obtain⟨hi,hC⟩:=hC;refine An As 1 [] O (Am (Ao O (fun c3=>?_) (fun c3=>?_)))
  ·(try simp only[sd,se] at c3);refine Aq (Am (A1 (Ar (Bu O ?_))));obtain⟨x,hx⟩:=A0 (l:=d.ctors) (i:=i) Ah;refine Al O (A3 RY O O Ah (KD hx) (Fm _)) (Al O (BL eN O (Fm _)) (A5 O (Az Ud O) fun b6=>Ak As 2 [0,1] O (Ar (Ap As 2 [] O (Al O (A6 (i:=0) P3 O O (Jj _)) (Ap As 3 [2] O (Al O (A6 (i:=1) FW O O (Dy _)) (Al O (A2 Td O O) (Al O (CT (i:=0) Bf O O (HE _) (A7 _)) (Al O (B5 K5 Hp (Pt O O O O O)) (Es [_,_,_] O O O O (h2 _ _ (Uv (by simpa using c1) hx)) O ?_ (fun _ _ h=>h.elim))))))))))));rintro _ T1 ⟨rfl,hT1⟩;refine Ak As 1 [] O (Ao O (fun c4=>?_) (fun c4=>?_))
   ·(try simp only[sd,se] at c4);refine Av ⟨O,_,_,O,(D4 [1,2] [_,_,_] O),?_⟩;exact⟨O,_,(hT1.trans ((if_pos (by simpa using c4)).trans (RV (by simpa using c1) qc2 hx (by simpa using c4) hC).symm)),O⟩
   (try simp only[sd,se] at c4);have qc4:¬(x.name=nm):=by simpa using c4
   rw[if_neg qc4] at hT1;have hT1:=hT1.symm;subst hT1;refine Aq (Au (Ak As 2 [] O (⟨(i+1),AN,⟨by omega,DQ (p:=fun _ (y:Dk)=>y.name≠nm) hC hx qc4⟩,BM ⟨we rfl,we rfl,we rfl,we rfl,we rfl,we rfl,trivial⟩ (Qr [1,2] [_,_,_] (l':=[_,_]) rfl (wl (oe rfl) (wl (oe rfl) (C8))))⟩)))
  (try simp only[sd,se] at c3);refine Bc (Au (Ap As 2 [] O (Al O (A6 (i:=0) P3 O O (D3 _)) (Al O (RL O O (by have:(⟨#[46,114,101,99]⟩:ByteArray).size=4:=rfl;have:=hD.nm;omega)) (Ap As 3 [1] O (Al O (A6 (i:=0) FW O O (IZ _)) (Ap As 2 [] O (Al O (CT (i:=0) Bf O O (JP _) (A7 _)) (Al O (B5 K5 Hp (Wv O O O O)) (Es [_,_] O O O O (h2 _ _ (Xa (by simpa using c1))) O ?_ (fun _ _ h=>h.elim)))))))))));rintro _ T1 ⟨rfl,hT1⟩;refine BR O ⟨O,_,_,O,(D4 [0,1] [_,_] O),?_⟩;exact⟨O,_,(hT1.trans (TG (by simpa using c1) qc2 fun j hj=>hC j Ah).symm),O⟩
 (try simp only[sd,se] at c1);refine An As 2 [] O (Ao O (fun c2=>?_) (fun c2=>?_))
 ·(try simp only[sd,se] at c2);refine Ar (Al O (A2 Gq O O) (Al O (A6 (i:=1) fX O O (PI _)) (Al O (BB dq O (List.length_map _)) (Ak As 1 [] O (A1 ?_)))));refine BZ (α:=Nat) (fun i=>⟨98,mk [(0,.fn (.yield l) [] []),(1,.ptr b2 0),(2,.ptr b1 0),(78,.p (.lst (List.map MY d.funs))),(79,.p (I (d.funs.length:Nat))),(80,.p (I (i:Int)))],(.box b1 ((Br d).map .p):: .box b2 [.p (I at_)]::T0),[]⟩) (fun i=>d.funs.length - i) (fun i=>i≤d.funs.length∧(∀j,j<i→∀y,d.funs[j]?=some y→y.name≠nm)) 0 (⟨by omega,fun j h=>by omega⟩) ?_ ?_
  ·exact BM ⟨we O,we O,we O,we O,we O,we O,Aj⟩ (Qr [1,2] [_,_,_] (l':=[_,_]) O (wl (oe O) (wl (oe O) (C8))))
  rintro i hC
  try simp only at hC
  obtain⟨hi,hC⟩:=hC;refine An As 1 [] O (Am (Ao O (fun c3=>?_) (fun c3=>?_)))
  ·(try simp only[sd,se] at c3);refine Aq (Am (A1 (Ar (Bu O ?_))));obtain⟨x,hx⟩:=A0 (l:=d.funs) (i:=i) Ah;refine Al O (A3 dq O O Ah (UC hx) (MO _)) (Al O (BL dw O (MO _)) (A5 O (Az bw O) fun b8=>Ak As 2 [0,1] O (Ar (Ap As 2 [] O (Al O (A6 (i:=0) P3 O O (Oo _)) (Ap As 3 [2] O (Al O (A6 (i:=1) FW O O (Dy _)) (Al O (A2 cC O O) (Al O (CT (i:=0) Bf O O (On _) (A7 _)) (Al O (B5 K5 Hp (Pt O O O O O)) (Es [_,_,_] rfl rfl rfl rfl (h2 _ _ (XL (by simpa using c2) hx)) rfl ?_ (fun _ _ h=>h.elim))))))))))));rintro _ T ⟨rfl,hT⟩;refine Ak As 1 [] O (Ao O (fun c4=>?_) (fun c4=>?_))
   ·(try simp only[sd,se] at c4);refine Av ⟨O,_,_,O,(D4 [1,2] [_,_,_] O),?_⟩;exact⟨O,_,(hT.trans ((if_pos (by simpa using c4)).trans (Tb (by simpa using c2) hx (by simpa using c4) hC).symm)),O⟩
   (try simp only[sd,se] at c4);have qc4:¬(x.name=nm):=by simpa using c4
   rw[if_neg qc4] at hT;have hT:=hT.symm;subst hT;refine Aq (Au (Ak As 2 [] O (⟨(i+1),AN,⟨by omega,DQ (p:=fun _ (y:J5)=>y.name≠nm) hC hx qc4⟩,BM ⟨we rfl,we rfl,we rfl,we rfl,we rfl,we rfl,trivial⟩ (Qr [1,2] [_,_,_] (l':=[_,_]) rfl (wl (oe rfl) (wl (oe rfl) (C8))))⟩)))
  (try simp only[sd,se] at c3);refine Bc ⟨O,_,_,O,(D4 [0,1] [_,_] O),?_⟩;exact⟨O,_,(Ri (by simpa using c2) fun j hj=>hC j Ah).symm,O⟩
 (try simp only[sd,se] at c2);refine Aq ⟨O,_,_,O,(D4 [1,2] [_,_,_] O),?_⟩;exact⟨O,_,(RH (by simpa using c) (by simpa using c1) (by simpa using c2)).symm,O⟩
theorem aR:∀(d:Bx) (at_:Int),Bb Tryz.prog 198 [.agg ((Br d).map .p),.p (I at_)] [] (fun r H'=>∃b1 b2,r= .val (.fn (.func 209) [] [.ptr b2 0,.ptr b1 0])∧H'=[.box b2 [.p (I at_)],.box b1 ((Br d).map .p)]):=by
 intro d at_;refine Aw Tryz.func198 O cQ (n:=6) O O (Ar (A5 O (BF O) fun b2=>A5 O (BF O) fun b3=>Ak As 1 [] O (An As 2 [] O (Av (⟨O,_,_,⟨_,_,O,O,O⟩,(CM (is:=[0,1]) O),?_⟩)))));exact⟨_,_,O,O⟩
theorem SS:∀(ds:List Bx) (nm:ByteArray),(ds.length<Cr)→(gm ds)→Df Tryz.prog 183 [.p (.lst (List.map Br ds)),.p (.str nm)] (.tup [.agg ((FG ((B2 ds nm).1)).map .p),.p (I ((B2 ds nm).2))]):=by
 intro ds nm h1 h2;simp only[Cr] at h1;refine C9 Tryz.func183 O bF (n:=28) O O (Ar (A5 O (BF O) fun b3=>A5 O (Az Hp O) fun b4=>A5 O (Az ZV O) fun b5=>BR O (Am (Ar (Bu O (Al O (BB N7 O (List.length_map _)) (Ak As 1 [] O (A1 ?_))))))));refine BZ (α:=Nat×List Nat) (fun(i,U)=>⟨28,mk [(3,.ptr b3 0),(4,.ptr b4 0),(5,.ptr b5 0),(10,.p (.lst (List.map Br ds))),(11,.p (I (ds.length:Nat))),(12,.p (I (i:Int)))],(.box b5 [.p (I 0)]:: .box b4 [.p (I 0),.p (I 0),.p (I 0),.p (I 0),.p (I 0),.p (I 0),.p (.str ⟨#[]⟩),.p (.nils),.p (.nils)]:: .box b3 [.p (.str nm)]::(U.map Ax.dfr)),(U.map Cu.mark)⟩) (fun(i,U)=>ds.length - i) (fun(i,U)=>i≤ds.length∧(∀j,j<i→∀y,ds[j]?=some y→CV nm (Db y j)=none)) ⟨0,[]⟩ (⟨by omega,fun j h=>by omega⟩) ?_ ?_
 ·exact BM ⟨we O,we O,we O,we O,we O,we O,Aj⟩ (Qr [0,1,2] [_,_,_] (l':=[_,_,_]) O (wl (oe O) (wl (oe O) (wl (oe O) (C8)))))
 rintro⟨i,U⟩ hC
 try simp only at hC
 obtain⟨hi,hC⟩:=hC;refine An As 1 [] O (Am (Ao O (fun c=>?_) (fun c=>?_)))
 ·(try simp only[sd,se] at c);refine Aq (Am (A1 (Ar (Bu O ?_))));obtain⟨x,hx⟩:=A0 (l:=ds) (i:=i) Ah;have hx0:=h2 _ (List.mem_of_getElem? hx);refine Al O (A3 N7 O O Ah (Jk hx) (Dm _)) (Al O (BL Q0 O (Dm _)) (A5 O (Az Ub O) fun b7=>Ak As 2 [0,1] O (Ar (Ap As 2 [0] O ?_))));refine Jh (Hs:=[]) O O O (.inl ⟨O,O,O⟩) (List.Perm.refl _) ((aR x ((i:Int))).args (aw (we O) (aw (we O) HX))) (.inl O) ?_ (fun _ _ ⟨_,_,h,_⟩=>by cases h);rintro _ _ ⟨bd,ba,h,rfl⟩;cases h;refine BR O (A1 (Fu (.inr O) fun dd l L hL=>⟨_,_,NW (is:=[3,2,0,4,5,6,7]) (base:=[_,_,_,_,_,_,_,_]) (rest:=[.dfr dd]) Ag ⟨_,_,O,O,⟨_,_,O,O,⟨_,_,O,O,⟨_,_,O,O,⟨_,_,O,O,⟨_,_,O,O,⟨_,_,O,O,O⟩⟩⟩⟩⟩⟩⟩ O,?_⟩));have hy:∀(sn:ByteArray) (en:Ff),(sn,en)∈Db x ((i:Int))→Em Tryz.prog l [.p (.str sn),.agg ((FG en).map .p)] [.loop l L,.box b7 ((Br x).map .p),.box b5 [.p (I 0)],.box b4 [.p (I 0),.p (I 0),.p (I 0),.p (I 0),.p (I 0),.p (I 0),.p (.str ⟨#[]⟩),.p (.nils),.p (.nils)],.box b3 [.p (.str nm)]] (Jw (.p (.bool (!decide (sn=nm)))) (fun T:List Ax=>T=if sn=nm then [.loop l { L with state:= .done,pending:=some .ret },.box b7 ((Br x).map .p),.box b5 [.p (I 0)],.box b4 ((FG en).map .p),.box b3 [.p (.str nm)]] else [.loop l L,.box b7 ((Br x).map .p),.box b5 [.p (I 0)],.box b4 [.p (I 0),.p (I 0),.p (I 0),.p (I 0),.p (I 0),.p (I 0),.p (.str ⟨#[]⟩),.p (.nils),.p (.nils)],.box b3 [.p (.str nm)]])):=by
   intro sn en hm;obtain⟨LB,hLB⟩:∃x,x=Ax.loop l { L with state:= .busy }:=⟨_,rfl⟩;subst hL;refine Gp (i:=0) O O O O (An As 1 [] O (Au (A5 O (Az Hp O) fun b9=>Ak As 1 [0,1] O ⟨O,1,O,?_⟩)));rw[←hLB];refine A1 (Ar (Ap As 2 [5] O (Al O (Gr O O) (BR O (Ao O (fun c1=>?_) (fun c1=>?_))))))
   ·(try simp only[sd,se] at c1);refine An As 3 [0,4,1,3,0] O (Av ?_);subst hLB;refine⟨1,_,O,CM (is:=[1,2,3,4,5]) O,?_⟩;have hcc:sn=nm:=Gl (by simpa using c1);exact⟨by simp[hcc],(if_pos hcc).symm⟩
   (try simp only[sd,se] at c1);refine Aq ?_;subst hLB;refine⟨1,_,O,CM (is:=[1,2,3,4,5]) O,?_⟩;have hcc:¬(sn=nm):=fun h=>by simp[h] at c1
   exact⟨by simp[hcc],(if_neg hcc).symm⟩
  refine(Zp l bd ba x ((i:Int)) nm (fun en=>[.loop l { L with state:= .done,pending:=some .ret },.box b7 ((Br x).map .p),.box b5 [.p (I 0)],.box b4 ((FG en).map .p),.box b3 [.p (.str nm)]]) _ (hx0) hy).mono ?_;rintro(v | v) H' hR
  rotate_left
  ·exact hR.elim
  obtain⟨rfl,_,hT,rfl⟩:=hR;subst hL;unfold FV at hT;cases hF:CV nm (Db x ((i:Int))) with
  | some en =>
   rw[hF] at hT;simp only at hT;subst hT;refine L4 (i:=2) (.box bd ((Br x).map .p):: .box ba [.p (I (i:Int))]:: .box b7 ((Br x).map .p):: .box b5 [.p (I 0)]:: .box b4 ((FG en).map .p):: .box b3 [.p (.str nm)]::(.dfr dd::U.map Ax.dfr)) O Ai O O (Av (K2 (dd::U) (Hs:=[_,_,_,_,_,_]) (⟨_,_,⟨_,_,O,(BD (i:=4) NY O O (by simp[Gt])),⟨_,_,O,(EU (i:=3) Qw O O),O⟩⟩,(List.nil_sublist _),?_⟩)))
   all_goals exact⟨by show (.tup [.agg ((FG en).map .p),.p (I 0)]:AV)=_;rw[Vr hx hC hF],rfl⟩
  | none =>
   rw[hF] at hT;simp only at hT;subst hT;refine Kq (i:=2) (.box bd ((Br x).map .p):: .box ba [.p (I (i:Int))]:: .box b7 ((Br x).map .p):: .box b5 [.p (I 0)]:: .box b4 [.p (I 0),.p (I 0),.p (I 0),.p (I 0),.p (I 0),.p (I 0),.p (.str ⟨#[]⟩),.p (.nils),.p (.nils)]:: .box b3 [.p (.str nm)]::(.dfr dd::U.map Ax.dfr)) O Ai O O (Au (Ak As 2 [] O (⟨⟨i+1,dd::U⟩,AN,⟨by omega,DQ (p:=fun j (y:Bx)=>CV nm (Db y j)=none) hC hx hF⟩,BM ⟨we rfl,we rfl,we rfl,we rfl,we rfl,we rfl,trivial⟩ (Qr [3,4,5] [_,_,_,_,_,_] (l':=[_,_,_]) rfl (wl (oe rfl) (wl (oe rfl) (wl (oe rfl) (C8)))))⟩)))
 (try simp only[sd,se] at c);refine Bc (An As 3 [1,0,0,0] O (BK (Bm (i:=1) O) (Av (K2 U (Hs:=[_,_,_]) (⟨_,_,⟨_,_,O,(BD (i:=1) NY O O O),⟨_,_,O,(EU (i:=0) Qw O O),O⟩⟩,(List.nil_sublist _),?_⟩)))))
 all_goals exact⟨by show (.tup [.agg [.p (I 0),.p (I 0),.p (I 0),.p (I 0),.p (I 0),.p (I 0),.p (.str ⟨#[]⟩),.p (.lst []),.p (.lst [])],.p (I 9)]:AV)=_;rw[UA fun j hj=>hC j Ah];rfl,rfl⟩
theorem LR:∀(t:Tm),(Nd t)→(size t<1000000)→Df Tryz.prog 106 [.agg ((BQ t).map .p)] (.tup [.p (.lst (Ay ((BS t).1))),.agg ((BQ ((BS t).2)).map .p)]):=by
 intro t h1 h2;refine Aw Tryz.func106 O dk (n:=27) O O (Ar (A5 O (BF O) fun b1=>Py O (A5 O (Az Bj O) fun b3=>BR O (An As 1 [] O (Am (A1 (BK (EM (t:=4) (sz:=5) O) ?_)))))));refine BZ (α:=Tm×List Tm×Option Nat×Nat) (fun(y,l,o,cp)=>⟨27,mk [(1,.ptr b1 0),(3,.ptr b3 0),(4,.vs o (Ay l).length cp)],[.vec o 5 (Ay l) cp,.box b3 [.p (I 0),.p (I 0),.p (.str ⟨#[]⟩),.p (.nils),.p (.nils)],.box b1 ((BQ y).map .p)],[]⟩) (fun(y,l,o,cp)=>size y) (fun(y,l,o,cp)=>Nd y∧l.length+size y≤size t∧(l++(BS y).1,(BS y).2)=BS t) ⟨t,[],none,0⟩ (⟨h1,by simp,by simp⟩) ?_ ?_
 ·exact BM ⟨we O,we O,we O,Aj⟩ (leH (is:=[0,1,2]) O (wl (oe O) (wl (oe O) (wl (oe O) (C8)))))
 rintro⟨y,l,o,cp⟩ hC
 try simp only at hC
 have hl0:l.length<1000000:=by have:=hC.2.1;omega
 refine Am (Am ?_);obtain⟨yk,yi,yn,yl,ys⟩:=y;refine BO [1,3,4] 13 (fun y=>y= .p (.bool (((yk:Int)==(6:Int))&&(((ys.length:Nat):Int)==(2:Int))))) ?_ ?_
 ·refine Au (Ap As 4 [2] O (BE 8 O (fun g=>?_) (fun g=>?_)))
  ·(try simp only[sd,se] at g);exact Ap As 2 [2] O (BI O (BB BP O (A8 _)) (Ak As 2 [] O (⟨O,O,AG,AF,⟨O,O,O,Aj⟩⟩)))
  (try simp only[sd,se] at g);exact Ak As 5 [] O (⟨O,O,AG,AF,⟨O,O,O,Aj⟩⟩)
 rintro _ rfl;refine Ao O (fun c=>?_) (fun c=>?_)
 ·(try simp only[sd,se] at c);refine Aq (A1 (Ar (Ap As 3 [2] O ?_)));obtain⟨x,hx⟩:=A0 (l:=ys) (i:=0) (by first | omega | (simp at c;omega));refine Al O (A3 BP O O Ah (Be hx) (A7 _)) (Al O (BL Bf O (A7 _)) ?_);obtain⟨xk,xi,xn,xl,xs⟩:=x;refine Al O (BT BP Bj O O O O O) (JB O O (Cb (i:=0) (rows':=Ay [(.mk xk xi xn xl xs:Tm)]) BP BP Bj O O O O O O (CD _) AD (Nn l [(.mk xk xi xn xl xs:Tm)])) fun o1 cp1=>Ak As 1 [] O (Au (Ap As 2 [2] O ?_)));obtain⟨x1,hx1⟩:=A0 (l:=ys) (i:=1) (by first | omega | (simp at c;omega));refine Al O (A3 BP O O Ah (Be hx1) (A7 _)) (Ak As 2 [2,1] O ?_);refine⟨⟨x1,l++[(.mk xk xi xn xl xs:Tm)],o1,cp1⟩,(by have:=Bw hx1;simp only[size];omega),⟨CY hC.1.2.2.2.2.1 hx1,by have:=Bw hx1;have:=hC.2.1;simp only[size] at *;simp only[List.length_append,List.length_cons,List.length_nil];omega,Te c hx hx1 hC.2.2⟩,BM ⟨we rfl,we rfl,we rfl,trivial⟩ (leH (is:=[0,1,2]) rfl (wl (oe rfl) (wl (oe rfl) (wl (oe rfl) (C8)))))⟩
 (try simp only[sd,se] at c);refine Bc (Am (By (fun k=>false) Eg (B1 As 4 [2,1,0] O (BK (CX (i:=0) [4,25,2] O (DV ⟨O,O,O,Aj⟩)) (Av (⟨O,_,_,⟨_,_,O,O,⟨_,_,O,(BD (i:=0) Bf O O O),O⟩⟩,(List.nil_sublist _),?_⟩))))))
 all_goals exact⟨by show (.tup [.p (.lst (Ay l)),.agg [.p (I yk),.p (I yi),.p (.str yn),.p (.lst (List.map Bz yl)),.p (.lst (Ay ys))]]:AV)=_;rw[U3 Ah hC.2.2];rfl,rfl⟩
theorem TX:∀(ds:List Bx) (nm:ByteArray),(C3 ds)→Df Tryz.prog 152 [.p (.lst (List.map Br ds)),.p (.str nm)] (.tup [.agg ((Br ((Ca ds nm).1)).map .p),.p (I ((Ca ds nm).2.1)),.p (.bool ((Ca ds nm).2.2))]):=by
 intro ds nm h1;have hl:=h1.len;refine Aw Tryz.func152 O aj (n:=44) O O (Ar (A5 O (Az Ub O) fun b4=>Ak As 2 [] O (Ar (Ap As 2 [] O (Al rfl (BA rfl rfl (SS ds nm AU (fun d hd=> .inr (h1.all d hd))) rfl) (Ap As 3 [] O (A5 O (Az Hp O) fun b7=>Ak As 2 [0,1] O (Am (An As 2 [] O (Ao O (fun c=>?_) (fun c=>?_)))))))))))
 ·(try simp only[sd,se] at c);refine An As 4 [1,0] O (BK (Bm (i:=1) O) (Av (⟨O,_,_,⟨_,_,O,(BD (i:=1) Q0 O O O),⟨_,_,O,O,⟨_,_,O,O,O⟩⟩⟩,(List.nil_sublist _),?_⟩)))
  all_goals exact⟨by show (.tup [.agg [.p (I 0),.p (.str ⟨#[]⟩),.p (I 0),.p (I 0),.p (I 0),.p (.str ⟨#[]⟩),.p (.lst []),.p (.lst []),.p (I 0),.p (I 0),.p (.str ⟨#[]⟩),.p (.lst []),.p (.lst []),.p (I 0),.p (.lst []),.p (I 0),.p (I 0),.p (I 0),.p (.str ⟨#[]⟩),.p (.lst []),.p (.lst []),.p (.lst []),.p (.lst [])],.p (I 0),.p (.bool false)]:AV)=_;rw[WH Ah];rfl,rfl⟩
 (try simp only[sd,se] at c);obtain⟨fi,fd,hfi,hfo⟩:=MG (ds:=ds) (nm:=nm) Ah;have hdl:=hfo.decl;have hfl:=(List.getElem?_eq_some_iff.1 hfi).1;refine Aq (Am (Ar (Al O (A2 K5 O O) (Al O (A6 (i:=0) FW O O (J0 _)) (BR O (A1 (An As 2 [] O (Ao O (fun c1=>?_) (fun c1=>?_)))))))))
 ·(try simp only[sd,se] at c1);refine Ar (Ap As 2 [] O (Al O (A6 (i:=0) FW O O (G9 _)) ?_));obtain⟨x,hx⟩:=A0 (l:=ds) (i:=(((B2 ds nm).1).decl:Int).toNat) Ah;refine Al O (A3 N7 O O Ah (Jk hx) (Dm _)) (Ak As 4 [1,1] O (Av (⟨O,_,_,⟨_,_,O,(BD (i:=1) Q0 O O (by simp[Dm])),⟨_,_,O,O,⟨_,_,O,O,O⟩⟩⟩,(List.nil_sublist _),?_⟩)))
  all_goals exact⟨by show (.tup [.agg ((Br x).map .p),.p (I (-1)),.p (.bool true)]:AV)=_;rw[aZ Ah Ah hx],rfl⟩
 (try simp only[sd,se] at c1);refine An As 2 [] O (Ao O (fun c2=>?_) (fun c2=>?_))
 ·(try simp only[sd,se] at c2);refine Am (By (fun k=>false) Eg (BU As 2 [] O (DC (j:=0) O O O (fun H i hi=>A6 (i:=i) FW O hi (G9 _)) AB Aj ?_)));obtain⟨x,hx⟩:=A0 (l:=ds) (i:=(((B2 ds nm).1).decl:Int).toNat) Ah;refine BG O (fun _=>A3 N7 O O Ah (Jk hx) (Dm _)) Aj (BU As 2 [] O (DC (j:=0) O O O (fun H i hi=>A6 (i:=i) FW O hi (PA _)) AB Aj (B1 As 3 [1,1] O (Av (⟨O,_,_,⟨_,_,O,(BD (i:=1) Q0 O O (by simp[Dm])),⟨_,_,O,O,⟨_,_,O,O,O⟩⟩⟩,(List.nil_sublist _),?_⟩)))))
  all_goals exact⟨by show (.tup [.agg ((Br x).map .p),.p (I (((B2 ds nm).1).item)),.p (.bool true)]:AV)=_;rw[ed Ah Ah hx],rfl⟩
 (try simp only[sd,se] at c2);refine An As 2 [] O (Ao O (fun c3=>?_) (fun c3=>?_))
 ·(try simp only[sd,se] at c3);refine Ar (Ap As 2 [] O (Al O (A6 (i:=0) FW O O (G9 _)) ?_));obtain⟨x,hx⟩:=A0 (l:=ds) (i:=(((B2 ds nm).1).decl:Int).toNat) Ah;refine Al O (A3 N7 O O Ah (Jk hx) (Dm _)) (Ak As 4 [1,1] O (Av (⟨O,_,_,⟨_,_,O,(BD (i:=1) Q0 O O (by simp[Dm])),⟨_,_,O,O,⟨_,_,O,O,O⟩⟩⟩,(List.nil_sublist _),?_⟩)))
  all_goals exact⟨by show (.tup [.agg ((Br x).map .p),.p (I (-2)),.p (.bool true)]:AV)=_;rw[cx Ah Ah hx],rfl⟩
 (try simp only[sd,se] at c3);refine Aq (An As 4 [1,0] O (BK (Bm (i:=1) O) (Av (⟨O,_,_,⟨_,_,O,(BD (i:=1) Q0 O O O),⟨_,_,O,O,⟨_,_,O,O,O⟩⟩⟩,(List.nil_sublist _),?_⟩))))
 all_goals exact⟨by show (.tup [.agg [.p (I 0),.p (.str ⟨#[]⟩),.p (I 0),.p (I 0),.p (I 0),.p (.str ⟨#[]⟩),.p (.lst []),.p (.lst []),.p (I 0),.p (I 0),.p (.str ⟨#[]⟩),.p (.lst []),.p (.lst []),.p (I 0),.p (.lst []),.p (I 0),.p (I 0),.p (I 0),.p (.str ⟨#[]⟩),.p (.lst []),.p (.lst []),.p (.lst []),.p (.lst [])],.p (I 0),.p (.bool false)]:AV)=_;rw[Yu Ah Ah Ah];rfl,rfl⟩
theorem TQ:∀(m:Nat) (ds:List Bx) (n:Int) (h:Tm),(C3 ds)→Bb Tryz.prog 205 [.ptr m 0,.agg ((BQ h).map .p)] [.box m [.p (.lst (List.map Br ds)),.p (I n)]] (Dz (.tup [.agg ((FG ((B2 ds h.name).1)).map .p),.p (.bool (V9 ds h))]) [.box m [.p (.lst (List.map Br ds)),.p (I n)]]):=by
 intro m ds n h h1;have hel:=h1.len;obtain⟨hk,hi,hn,hl,hs⟩:=h;refine Aw Tryz.func205 O eW (n:=29) O O (Ar (A5 O (BF O) fun b3=>A5 O (Az Hp O) fun b4=>Ak As 1 [] O (Am (By (fun k=>Nat.beq k 10) Eg (BU As 6 [2,1] O (BG rfl (fun _=>BA rfl rfl (SS ds hn AU (fun d hd=> .inr (h1.all d hd))) rfl) trivial (BU As 3 [] O (PU [] O O (Az Hp O) Ad fun b6=>⟨AB,Aj,?_⟩))))))));refine B1 As 2 [0,1] O (Am (By (fun k=>false) Eg (BU As 4 [0] O (Fh 21 O (fun g=>?_) (fun g=>?_)))))
 ·(try simp only[sd,se] at g);refine BU As 2 [2] O (B8 O (fun _=>BB Eh O (List.length_map _)) Aj (B8 O (fun _=>A2 K5 O O) Aj (QY (i:=0) O O O O O (fun H i hi=>A6 (i:=i) FW O hi (MF _)) AB Aj (B1 As 4 [1,1] O (Av (⟨O,_,_,⟨_,_,O,(BD (i:=1) NY O O (by simp[Gt])),⟨_,_,O,O,O⟩⟩,(CM (is:=[3]) O),?_⟩))))))
  all_goals exact⟨by show (.tup [.agg ((FG ((B2 ds hn).1)).map .p),.p (.bool (((hl.length:Nat):Int)==(((B2 ds hn).1).params:Int)))]:AV)=_;rw[Zu (k:=hk) (i:=hi) (ks:=hs) (by first | exact g | omega)];rfl,rfl⟩
 (try simp only[sd,se] at g);refine B1 As 9 [1,1] O (Av (⟨O,_,_,⟨_,_,O,(BD (i:=1) NY O O (by simp[Gt])),⟨_,_,O,O,O⟩⟩,(CM (is:=[3]) O),?_⟩))
 all_goals exact⟨by show (.tup [.agg ((FG ((B2 ds hn).1)).map .p),.p (.bool false)]:AV)=_;rw[eA (k:=hk) (i:=hi) (ls:=hl) (ks:=hs) (by first | exact g | omega)];rfl,rfl⟩
end Go.Proofs.YtifphifongokcaaGreat
namespace Go.Eu
open Go.Abs
structure ei (ds:List Bx) (t:Tm):Prop where
 ok:okB t=true
 len:(A4 t).2.length≤1000
 hd:(A4 t).1.kind=0∨(A4 t).1.kind=3∧(V9 ds (A4 t).1=true→(B2 ds (A4 t).1.name).1.kind=4)
structure Tn (ds:List Bx) (t:Tm):Prop where
 ok:okB t=true
 len:(A4 t).2.length≤1000
 hd:ei ds t∨∃k i,(k=9∨k=10)∧t= .mk k 0 ⟨#[]⟩ [] [Cn i]∧0≤i∧i<1000∧size t<1000
theorem Tn.nd {ds:List Bx}{t:Tm}(h:Tn ds t):Nd t:=(Da.1 h.ok).nd
theorem G6 (ds:List Bx) {i:Int}(h:0≤i∧i<1000):ei ds (Cn i) :=
 ⟨Da.2 ⟨⟨by simp only[Cr];decide,by simp only[Cr];decide,by simp,by simp only[Cr];decide,trivial,⟨by decide,by decide⟩,⟨by omega,by omega⟩⟩,⟨rfl,fun e=>absurd e Ag,trivial⟩,⟨fun _=>by omega,trivial⟩,by simp[Cn,size,BC]⟩,by show ([]:List Tm).length≤1000;simp,.inl rfl⟩
end Go.Eu
namespace Go.Proofs.YtifphifongokcaaGreat
open Go.Abs Go.Eu
set_option maxHeartbeats 4000000 in
theorem V0:∀(m:Nat) (ds:List Bx) (s:Int) (g:Tm) (a:List Tm),(C3 ds)→(V9 ds g=true→(B2 ds g.name).1.kind=4)→Bb Tryz.prog 197 [.ptr m 0,.agg ((BQ g).map .p),.p (.lst (Ay a))] [.box m [.p (.lst (List.map Br ds)),.p (I s)]] (Dz (.tup [.agg ((BQ BH).map .p),.p (.bool false)]) [.box m [.p (.lst (List.map Br ds)),.p (I s)]]):=by
 intro m ds s g a h1 h2;obtain⟨gk,gi,gn,gl,gs⟩:=g;refine Aw Tryz.func197 O df (n:=40) O O (Ar (A5 O (BF O) fun b4=>A5 O (Az Bj O) fun b6=>Ak As 1 [] O (Ar (Ap As 2 [1] O (Al O (Bq [2] O (.inl ⟨O,O,O⟩) (TQ m ds s (.mk gk gi gn gl gs:Tm) h1) ⟨_,_,O,O,O⟩ Ag O (.inl O)) (Ap As 3 [] O (A5 O (Az Hp O) fun b8=>Ak As 2 [0,1] O (Am (An As 2 [] O (Ao O (fun c=>?_) (fun c=>?_)))))))))))
 ·(try simp only[sd,se] at c);refine An As 3 [1,0] O (BK (Bm (i:=1) O) (Av (⟨O,_,_,⟨_,_,O,(BD (i:=1) Bf O O O),⟨_,_,O,O,O⟩⟩,(CM (is:=[3]) O),?_⟩)))
  all_goals exact⟨rfl,rfl⟩
 (try simp only[sd,se] at c);have hkk:=h2 c;refine Aq (Am ?_);rcases hkk with hkk;refine Au (Ap As 6 [] O (Al O (Hh Ye Yq bJ O) (Al O (A2 K5 O O) (Al O (A6 (i:=0) FW O O (J0 _)) (Al O (NR (j:=4) Ye Yq O O (hkk) O Ag) (Ak As 1 [] O (Am (Ar (Bu O (Al O (Q1 Ad (.inl ⟨O,O⟩) O) (BR O ?_)))))))))));refine Ao O (fun c1=>?_) (fun c1=>by cases c1);refine An As 3 [1,0] O (BK (Bm (i:=1) O) (Av (⟨O,_,_,⟨_,_,O,(BD (i:=1) Bf O O O),⟨_,_,O,O,O⟩⟩,(CM (is:=[3]) O),?_⟩)))
 all_goals exact⟨rfl,rfl⟩
set_option maxHeartbeats 2000000 in
theorem SO:∀(m:Nat) (ds:List Bx) (s:Int) (t:Tm),(C3 ds)→(ei ds t)→Bb Tryz.prog 180 [.ptr m 0,.agg ((BQ t).map .p)] [.box m [.p (.lst (List.map Br ds)),.p (I s)]] (Dz (.agg ((BQ t).map .p)) [.box m [.p (.lst (List.map Br ds)),.p (I s)]]):=by
 intro m ds s t h1 h2;have hsp:=X1 h2.ok;have hsl:=hsp.len;have hln:=h2.len;have hss:=hsp.sz;have hos:=Ke h2.ok;refine Aw Tryz.func180 O YK (n:=95) O O (Ar (A5 O (BF O) fun b3=>A5 O (Az Bj O) fun b4=>BR O (A1 (BZ (α:=Nat) (fun k2=>⟨95,mk [(0,.ptr m 0),(3,.ptr b3 0),(4,.ptr b4 0)],[.box b4 [.p (I 0),.p (I 0),.p (.str ⟨#[]⟩),.p (.nils),.p (.nils)],.box b3 ((BQ t).map .p),.box m [.p (.lst (List.map Br ds)),.p (I s)]],[]⟩) (fun k2=>k2) (fun k2=>True) 0 AK ?_ ?_))))
 ·exact BM ⟨we O,we O,we O,Aj⟩ (leH (is:=[0,1,2]) O (wl (oe O) (wl (oe O) (wl (oe O) (C8)))))
 rintro k2 hC
 try simp only at hC
 refine A1 (Ar (Al O (Ba (i:=1) Bf O O Aa) (Al O (BA O O (J2 t hsp.nd AU) O) (Ap As 3 [] O (A5 O (Az Bj O) fun b5=>Ak As 2 [0,1] O (Am (Ar (Bu O (Al O (BB BP O (A8 _)) (Ak As 1 [] O (Ao O (fun c=>?_) (fun c=>?_))))))))))))
 ·(try simp only[sd,se] at c);exfalso;omega
 (try simp only[sd,se] at c);refine Aq (Ar (Al O (A2 D0 O O) ?_));generalize hz:(A4 t).1=z;obtain⟨zk,zi,zn,zl,zs⟩:=z;have hd:=h2.hd;rw[hz] at hd;have hd0:zk=0∨zk=3:=hd.imp id (·.1);refine Ak As 1 [0] O (A1 (An As 2 [] O (Ao O (fun c1=>?_) (fun c1=>?_))))
 ·(try simp only[sd,se] at c1);exfalso;omega
 (try simp only[sd,se] at c1);refine An As 2 [] O (Ao O (fun c2=>?_) (fun c2=>?_))
 ·(try simp only[sd,se] at c2);exfalso;omega
 (try simp only[sd,se] at c2);refine Am (An As 2 [] O (BO [0,3,4,5,6,21] 57 (fun y=>y= .p (.bool (decide (zk=9∨zk=10)))) ?_ ?_))
 ·refine Ao O (fun c3=>?_) (fun c3=>?_)
  ·(try simp only[sd,se] at c3);exact Aq (⟨O,O,(List.Sublist.refl _),(by refine pB (Bool.eq_iff_iff.2 ?_);simp only[beq_iff_eq,decide_eq_true_eq];omega),⟨O,O,O,O,O,O,Aj⟩⟩)
  (try simp only[sd,se] at c3);exact Au (Ak As 2 [] O (⟨O,O,(List.Sublist.refl _),(by refine pB (Bool.eq_iff_iff.2 ?_);simp only[beq_iff_eq,decide_eq_true_eq];omega),⟨O,O,O,O,O,O,Aj⟩⟩))
 rintro _ rfl;refine Ao O (fun c3=>?_) (fun c3=>?_)
 ·(try simp only[sd,se] at c3);exfalso;omega
 (try simp only[sd,se] at c3);refine An As 2 [] O (Ao O (fun c4=>?_) (fun c4=>?_))
 ·(try simp only[sd,se] at c4);refine Ar (Ap As 3 [0] O (Al O (Bq [3] O (.inl ⟨O,O,O⟩) (V0 m ds s (.mk zk zi zn zl zs:Tm) ((A4 t).2) h1 (hd.resolve_left (by show ¬zk=0;omega)).2) ⟨_,_,O,O,O⟩ Ag O (.inl O)) (Ap As 3 [] O (A5 O (Az Bj O) fun b8=>Ak As 2 [0,1] O (Am (An As 2 [] O ?_))))));refine Ao O (fun c5=>?_) (fun c5=>by cases c5);refine An As 2 [3,2,1] O (Av (⟨O,_,_,⟨_,_,O,(BD (i:=2) Bf O O Aa),O⟩,(CM (is:=[4]) O),?_⟩))
  all_goals exact⟨rfl,rfl⟩
 (try simp only[sd,se] at c4);refine An As 2 [2,1,1] O (Av (⟨O,_,_,⟨_,_,O,(BD (i:=1) Bf O O Aa),O⟩,(CM (is:=[3]) O),?_⟩))
 all_goals exact⟨rfl,rfl⟩
set_option maxHeartbeats 2000000 in
theorem Xv:∀(m:Nat) (ds:List Bx) (s:Int) (t:Tm) (k i:Int),(C3 ds)→(k=9∨k=10)→(t= .mk k 0 ⟨#[]⟩ [] [Cn i])→(ei ds (Cn i))→(Nd t)→(size t<1000)→Bb Tryz.prog 180 [.ptr m 0,.agg ((BQ t).map .p)] [.box m [.p (.lst (List.map Br ds)),.p (I s)]] (Dz (.agg ((BQ t).map .p)) [.box m [.p (.lst (List.map Br ds)),.p (I s)]]):=by
 intro m ds s t k i h1 h2 h3 h4 h5 h6;have ha:(A4 t).2=[]:=by rw[h3];rfl
 have hal:(A4 t).2.length=0:=by rw[ha];rfl
 refine Aw Tryz.func180 O YK (n:=95) O O (Ar (A5 O (BF O) fun b3=>A5 O (Az Bj O) fun b4=>BR O (A1 (BZ (α:=Nat) (fun k2=>⟨95,mk [(0,.ptr m 0),(3,.ptr b3 0),(4,.ptr b4 0)],[.box b4 [.p (I 0),.p (I 0),.p (.str ⟨#[]⟩),.p (.nils),.p (.nils)],.box b3 ((BQ t).map .p),.box m [.p (.lst (List.map Br ds)),.p (I s)]],[]⟩) (fun k2=>k2) (fun k2=>True) 0 AK ?_ ?_))))
 ·exact BM ⟨we O,we O,we O,Aj⟩ (leH (is:=[0,1,2]) O (wl (oe O) (wl (oe O) (wl (oe O) (C8)))))
 rintro k2 hC
 try simp only at hC
 refine A1 (Ar (Al O (Ba (i:=1) Bf O O Aa) (Al O (BA O O (J2 t h5 AU) O) (Ap As 3 [] O (A5 O (Az Bj O) fun b5=>Ak As 2 [0,1] O (Am (Ar (Bu O (Al O (BB BP O (A8 _)) (Ak As 1 [] O (Ao O (fun c=>?_) (fun c=>?_))))))))))))
 ·(try simp only[sd,se] at c);exfalso;omega
 (try simp only[sd,se] at c);refine Aq (Ar (Al O (A2 D0 O O) ?_));generalize hz:(A4 t).1=z;obtain⟨zk,zi,zn,zl,zs⟩:=z;have hq:(.mk zk zi zn zl zs:Tm)= .mk k 0 ⟨#[]⟩ [] [Cn i]:=by rw[←hz,h3];rfl
 injection hq with q1 q2 q3 q4 q5;have hzl:zs.length=1:=by rw[q5];rfl
 refine Ak As 1 [0] O (A1 (An As 2 [] O (Ao O (fun c1=>?_) (fun c1=>?_))))
 ·(try simp only[sd,se] at c1);exfalso;omega
 (try simp only[sd,se] at c1);refine An As 2 [] O (Ao O (fun c2=>?_) (fun c2=>?_))
 ·(try simp only[sd,se] at c2);exfalso;omega
 (try simp only[sd,se] at c2);refine Am (An As 2 [] O (BO [0,3,4,5,6,21] 57 (fun y=>y= .p (.bool (decide (zk=9∨zk=10)))) ?_ ?_))
 ·refine Ao O (fun c3=>?_) (fun c3=>?_)
  ·(try simp only[sd,se] at c3);exact Aq (⟨O,O,(List.Sublist.refl _),(by refine pB (Bool.eq_iff_iff.2 ?_);simp only[beq_iff_eq,decide_eq_true_eq];omega),⟨O,O,O,O,O,O,Aj⟩⟩)
  (try simp only[sd,se] at c3);exact Au (Ak As 2 [] O (⟨O,O,(List.Sublist.refl _),(by refine pB (Bool.eq_iff_iff.2 ?_);simp only[beq_iff_eq,decide_eq_true_eq];omega),⟨O,O,O,O,O,O,Aj⟩⟩))
 rintro _ rfl;refine Ao O (fun c3=>?_) (fun c3=>?_)
 ·(try simp only[sd,se] at c3);refine Ar (Ap As 3 [0] O ?_);obtain⟨x,hx⟩:=A0 (l:=zs) (i:=0) Ah;refine Al O (A3 BP O O Ah (Be hx) (A7 _)) (Al O (BL Bf O (A7 _)) (Al O (Bq [3] O (.inl ⟨O,O,O⟩) (SO m ds s x h1 (by rw[q5] at hx;injection hx with e;rw[←e];exact h4)) ⟨_,_,O,O,O⟩ Ag O (.inl O)) (A5 O (Az Bj O) fun b7=>Ak As 1 [0,1] O (Am (Ar (Al O (A2 D0 O O) ?_))))));obtain⟨xk,xi,xn,xl,xs⟩:=x;have hxe:Cn i= .mk xk xi xn xl xs:=by rw[q5] at hx;injection hx
  have hxk:xk=0:=by injection hxe with e;exact e.symm
  refine Ak As 2 [0] O (Ao O (fun c4=>?_) (fun c4=>?_))
  ·(try simp only[sd,se] at c4);refine Ar (Ap As 3 [1,0] O (Al O (Bi (rows:=Ay [(.mk xk xi xn xl xs:Tm)]) BP Bj O O O O (CP (CD _)) (Gk _)) (Ap As 2 [] O (Al O (Jy O O (UB (.mk zk 0 ⟨#[]⟩ [] [(.mk xk xi xn xl xs:Tm)]:Tm) ((A4 t).2) AU) (aw (Fl O) (aw (we O) (HX)))) (Ak As 1 [2,1] O (Av (⟨O,_,_,⟨_,_,O,(BD (i:=2) Bf O O Aa),O⟩,(CM (is:=[4]) O),?_⟩)))))))
   all_goals exact⟨by show (.agg ((BQ (apply (.mk zk 0 ⟨#[]⟩ [] [(.mk xk xi xn xl xs:Tm)]:Tm) ((A4 t).2))).map .p):AV)=_;rw[ha,h3,q1,←hxe];rfl,rfl⟩
  (try simp only[sd,se] at c4);exfalso;omega
 (try simp only[sd,se] at c3);exfalso;omega
theorem W6 (m:Nat) (ds:List Bx) (s:Int) (t:Tm) (h1:C3 ds) (h2:Tn ds t):Bb Tryz.prog 180 [.ptr m 0,TV t] [.box m [.p (.lst (List.map Br ds)),.p (I s)]] (Dz (TV t) [.box m [.p (.lst (List.map Br ds)),.p (I s)]]):=by
 rcases h2.hd with h | ⟨k,i,hk,e,h3,h4,h5⟩
 ·exact SO m ds s t h1 h
 exact Xv m ds s t k i h1 hk e (G6 ds ⟨h3,h4⟩) h2.nd h5
theorem Xl:∀(be:Nat) (ce:List AV),D1 Tryz.prog 194 [.ptr be 0] (.ret) [.box be ce] (fun H'=>H'=[.box be ce]):=by
 intro be ce;refine I1 (ty2:=0) Tryz.func194 O dy (n:=14) O O O O O O (Ar (Bu O (Al O (Hv Y1 O O O) (BR O ?_))));refine Ao O (fun c=>by cases c) (fun c=>?_);exact Aq ⟨.inl O,O,_,(CM (is:=[0]) O),O⟩
theorem aD:∀(ds:List Bx) (cn:Int) (fid:Nat) (caps:List AV) (T G:List Ax) (hf:∀m,Bb Tryz.prog fid ([.ptr m 0]++caps) (.box m [.p (.lst (List.map Br ds)),.p (I 20000)]::T) (Dz (.tup []) (.box m [.p (.lst (List.map Br ds)),.p (I cn)]::G))),Bb Tryz.prog 178 [.p (.lst (List.map Br ds)),.fn (.func fid) [] caps] T (Dz (.p (I 0)) G):=by
 intro ds cn fid caps T G hf;refine C9 Tryz.func178 O du (n:=11) O O (Ar (A5 O (Az ZV O) fun b4=>BR O (Ar (Al O (DZ O O) (Qm O O O O (BR O (Ar (Ap As 3 [] O (A5 O (BF O) fun b9=>Je (List.Perm.swap _ _ _) (Fs [_] O O O (.inr O) (hf b9) (Dx _) ?_ (fun _ _ h=>h.elim)))))))))));rintro v T2 ⟨rfl,rfl⟩;refine BR O (An As 1 [0,0] O (Av ⟨_,[_],_,O,List.Perm.refl _,D1.eq (Xl b4 _) ?_⟩));refine⟨_,_,⟨_,_,O,(EU (i:=0) Qw O O),O⟩,(D4 [] [_,_] O),?_⟩
 all_goals exact⟨rfl,rfl⟩
theorem Xq:∀(m bt bo:Nat) (ds:List Bx) (t:Tm),(C3 ds)→(Tn ds t)→Bb Tryz.prog 179 [.ptr m 0,.ptr bt 0,.ptr bo 0] [.box m [.p (.lst (List.map Br ds)),.p (I 20000)],.box bt ((BQ t).map .p),.box bo [.p (I 0),.p (I 0),.p (.str ⟨#[]⟩),.p (.nils),.p (.nils)]] (Dz (.tup []) [.box m [.p (.lst (List.map Br ds)),.p (I 20000)],.box bt ((BQ t).map .p),.box bo ((BQ t).map .p)]):=by
 intro m bt bo ds t h1 h2;refine Aw Tryz.func179 O bQ (n:=7) O O (Au (Ap As 2 [1] O (Al O (Bq [0] O (.inl ⟨O,O,O⟩) (W6 m ds 20000 t h1 h2) ⟨_,_,O,O,O⟩ Ag O (.inl O)) (Ak As 1 [2,1] O ⟨O,_,_,O,(CM (is:=[0,1,2]) O),?_⟩))))
 all_goals exact⟨rfl,rfl⟩
theorem Sk:∀(ds:List Bx) (t:Tm),(C3 ds)→(Tn ds t)→Df Tryz.prog 148 [.p (.lst (List.map Br ds)),.agg ((BQ t).map .p)] (.tup [.agg ((BQ t).map .p),.p (I 0)]):=by
 intro ds t h1 h2;refine Aw Tryz.func148 O dh (n:=16) O O (Ar (A5 O (BF O) fun b3=>A5 O (Az Bj O) fun b4=>Ak As 1 [] O (Ar (A5 O (Az Bj O) fun b6=>BR O (Ar (Ap As 2 [] O (Al O (Bq [2,0] O (.inl ⟨O,O,O⟩) (aD ds 20000 179 [.ptr b3 0,.ptr b6 0] [.box b3 ((BQ t).map .p),.box b6 [.p (I 0),.p (I 0),.p (.str ⟨#[]⟩),.p (.nils),.p (.nils)]] [.box b3 ((BQ t).map .p),.box b6 ((BQ t).map .p)] (fun m=>Xq m b3 b6 ds t h1 h2)) ⟨_,_,O,O,⟨_,_,O,O,O⟩⟩ Ag O (.inl O)) (Ak As 1 [] O (Am (An As 2 [] O ?_))))))))));refine Ao O (fun c=>by cases c) (fun c=>?_);refine Aq (An As 3 [0,1,1] O (Av (⟨O,_,_,⟨_,_,O,(BD (i:=1) Bf O O Aa),⟨_,_,O,O,O⟩⟩,(List.nil_sublist _),?_⟩)))
 all_goals exact⟨rfl,rfl⟩
theorem R3:∀(nm:ByteArray),Df Tryz.prog 52 [.p (.str nm)] (.agg ((BQ (.mk 3 0 nm [] [])).map .p)):=by
 intro nm;refine Aw Tryz.func52 O iJ (n:=5) O O (Ar (A5 O (Az Bj O) fun b2=>BR O (An As 3 [0,0] O (BK (Bm (i:=0) O) (Av (⟨O,_,_,⟨_,_,O,(BD (i:=0) Bf O O O),O⟩,(List.nil_sublist _),?_⟩))))))
 all_goals exact⟨rfl,rfl⟩
theorem WI:∀(nm:ByteArray) (l:List Tm),(l.length<Cr)→Df Tryz.prog 55 [.p (.str nm),.p (.lst (Ay l))] (.agg ((BQ (apply (.mk 3 0 nm [] []) l)).map .p)):=by
 intro nm l h1;refine Aw Tryz.func55 O gp (n:=9) O O (Ar (A5 O (Az Bj O) fun b4=>BR O (Ar (Bu O (Al O (BA O O (R3 nm) O) (Bu O (Al O (BA O O (Uh (.mk 3 0 nm [] []) l h1) O) (Ak As 1 [0,1] O (Av (⟨O,_,_,⟨_,_,O,(BD (i:=0) Bf O O Aa),O⟩,(List.nil_sublist _),?_⟩))))))))))
 all_goals exact⟨rfl,rfl⟩
theorem U0:∀(a b:List Bool),(a.length<Cr)→Df Tryz.prog 56 [.p (.lst (List.map Bp a)),.p (.lst (List.map Bp b))] (.p (.bool (E9 a b))):=by
 intro a b h1;simp only[Cr] at h1;refine Aw Tryz.func56 O gy (n:=26) O O (An As 1 [] O (Am (Ar (Bu O (Al O (BB FC O (List.length_map _)) (Bu O (Al O (BB FC O (List.length_map _)) (Ak As 1 [] O (Ao O (fun c=>?_) (fun c=>?_))))))))))
 ·(try simp only[sd,se] at c);refine An As 1 [] O (Av (⟨O,_,_,⟨_,_,O,O,O⟩,(List.nil_sublist _),?_⟩))
  all_goals exact⟨by show (.p (.bool false):AV)=_;rw[CI (fun h=>by subst h;simp at c)],rfl⟩
 (try simp only[sd,se] at c);refine Aq (Am (Ar (Bu O (Al O (BB FC O (List.length_map _)) (Ak As 1 [] O (A1 ?_))))));refine BZ (α:=Nat) (fun i=>⟨26,mk [(0,.p (.lst (List.map Bp a))),(1,.p (.lst (List.map Bp b))),(12,.p (I (a.length:Nat))),(13,.p (I (i:Int)))],[],[]⟩) (fun i=>a.length - i) (fun i=>i≤a.length∧(∀j,j<i→∀x,a[j]?=some x→b[j]?=some x)) 0 (⟨by omega,fun j h=>by omega⟩) ?_ ?_
 ·exact BM ⟨we O,we O,we O,we O,Aj⟩ (leH (is:=[]) O (C8))
 rintro i hC
 try simp only at hC
 obtain⟨hi,hC⟩:=hC;refine An As 1 [] O (Am (Ao O (fun c1=>?_) (fun c1=>?_)))
 ·(try simp only[sd,se] at c1);refine Aq (Am (A1 (An As 2 [] O (Am (By (fun k=>false) Eg (BU As 2 [] O ?_))))));obtain⟨x,hx⟩:=A0 (l:=a) (i:=i) Ah;refine BG O (fun _=>A3 FC O O Ah (Gh hx) (O)) Aj (BU As 3 [] O ?_);obtain⟨x1,hx1⟩:=A0 (l:=b) (i:=i) Ah;refine BG O (fun _=>A3 FC O O Ah (Gh hx1) (O)) Aj (BG O (fun _=>GZ Y7 O) Aj (BG O (fun _=>RO kP O O) Aj (El O Ad (Ao O (fun c2=>?_) (fun c2=>?_)))))
  ·(try simp only[sd,se] at c2);refine An As 1 [] O (Av (⟨O,_,_,⟨_,_,O,O,O⟩,(List.nil_sublist _),?_⟩))
   all_goals exact⟨by show (.p (.bool false):AV)=_;rw[CI (fun h=>by subst h;rw[hx] at hx1;injection hx1 with e;subst e;simp[CR] at c2)],rfl⟩
  (try simp only[sd,se] at c2);refine Aq (Au (Ak As 2 [] O (⟨(i+1),AN,⟨by omega,DQ (p:=fun j x=>b[j]?=some x) hC hx (by have e:x=x1:=(by simpa using c2);rw[e];exact hx1)⟩,BM ⟨we rfl,we rfl,we rfl,we rfl,trivial⟩ (leH (is:=[]) rfl (C8))⟩)))
 (try simp only[sd,se] at c1);refine Bc (An As 1 [] O (Av (⟨O,_,_,⟨_,_,O,O,O⟩,(List.nil_sublist _),?_⟩)))
 all_goals exact⟨by show (.p (.bool true):AV)=_;rw[CR (PX Ah fun j hj x hx=>hC j Ah x hx)],rfl⟩
theorem Zn:∀(a b:List B9),(a.length<Cr)→Df Tryz.prog 119 [.p (.lst (List.map I9 a)),.p (.lst (List.map I9 b))] (.p (.bool (E9 a b))):=by
 intro a b h1;simp only[Cr] at h1;refine Aw Tryz.func119 O bW (n:=26) O O (An As 1 [] O (Am (Ar (Bu O (Al O (BB Fv O (List.length_map _)) (Bu O (Al O (BB Fv O (List.length_map _)) (Ak As 1 [] O (Ao O (fun c=>?_) (fun c=>?_))))))))))
 ·(try simp only[sd,se] at c);refine An As 1 [] O (Av (⟨O,_,_,⟨_,_,O,O,O⟩,(List.nil_sublist _),?_⟩))
  all_goals exact⟨by show (.p (.bool false):AV)=_;rw[CI (fun h=>by subst h;simp at c)],rfl⟩
 (try simp only[sd,se] at c);refine Aq (Am (Ar (Bu O (Al O (BB Fv O (List.length_map _)) (Ak As 1 [] O (A1 ?_))))));refine BZ (α:=Nat) (fun i=>⟨26,mk [(0,.p (.lst (List.map I9 a))),(1,.p (.lst (List.map I9 b))),(12,.p (I (a.length:Nat))),(13,.p (I (i:Int)))],[],[]⟩) (fun i=>a.length - i) (fun i=>i≤a.length∧(∀j,j<i→∀x,a[j]?=some x→b[j]?=some x)) 0 (⟨by omega,fun j h=>by omega⟩) ?_ ?_
 ·exact BM ⟨we O,we O,we O,we O,Aj⟩ (leH (is:=[]) O (C8))
 rintro i hC
 try simp only at hC
 obtain⟨hi,hC⟩:=hC;refine An As 1 [] O (Am (Ao O (fun c1=>?_) (fun c1=>?_)))
 ·(try simp only[sd,se] at c1);refine Aq (Am (A1 (An As 2 [] O (Am (By (fun k=>false) Eg (BU As 2 [] O ?_))))));obtain⟨x,hx⟩:=A0 (l:=a) (i:=i) Ah;refine BG O (fun _=>A3 Fv O O Ah (D8 hx) (O)) Aj (BU As 3 [] O ?_);obtain⟨x1,hx1⟩:=A0 (l:=b) (i:=i) Ah;refine BG O (fun _=>A3 Fv O O Ah (D8 hx1) (O)) Aj (BG O (fun _=>BL ZS O (O)) Aj (BG O (fun _=>N0 cf O O) Aj (El O Ad (Ao O (fun c2=>?_) (fun c2=>?_)))))
  ·(try simp only[sd,se] at c2);refine An As 1 [] O (Av (⟨O,_,_,⟨_,_,O,O,O⟩,(List.nil_sublist _),?_⟩))
   all_goals exact⟨by show (.p (.bool false):AV)=_;rw[CI (fun h=>by subst h;rw[hx] at hx1;injection hx1 with e;subst e;simp[CR] at c2)],rfl⟩
  (try simp only[sd,se] at c2);refine Aq (Au (Ak As 2 [] O (⟨(i+1),AN,⟨by omega,DQ (p:=fun j x=>b[j]?=some x) hC hx (by have e:x=x1:=(by obtain⟨_,_⟩:=x;obtain⟨_,_⟩:=x1;simp at c2;simp[c2]);rw[e];exact hx1)⟩,BM ⟨we rfl,we rfl,we rfl,we rfl,trivial⟩ (leH (is:=[]) rfl (C8))⟩)))
 (try simp only[sd,se] at c1);refine Bc (An As 1 [] O (Av (⟨O,_,_,⟨_,_,O,O,O⟩,(List.nil_sublist _),?_⟩)))
 all_goals exact⟨by show (.p (.bool true):AV)=_;rw[CR (PX Ah fun j hj x hx=>hC j Ah x hx)],rfl⟩
theorem Us:∀(a b:CB),(a.vars.length<Cr)→Df Tryz.prog 82 [.agg ((Bz a).map .p),.agg ((Bz b).map .p)] (.p (.bool (E9 a b))):=by
 intro a b h1;refine Aw Tryz.func82 O fS (n:=17) O O (Ar (A5 O (BF O) fun b2=>A5 O (BF O) fun b3=>Ak As 1 [] O (Am (BO [] 4 (fun y=>y= .p (.bool (E9 a b))) ?_ ?_))))
 ·refine Au (Ap As 6 [1,0] O (BE 10 O (fun g=>?_) (fun g=>?_)))
  ·(try simp only[sd,se] at g);exact Ap As 4 [1,0] O (BI O (BA O O (Zn a.vars b.vars h1) O) (Ak As 2 [] O ⟨O,O,AG,(by rw[SX];first | rfl | (refine pB ?_;simp_all)),Aj⟩))
  (try simp only[sd,se] at g);exact Ak As 7 [] O ⟨O,O,AG,(by rw[SX];first | rfl | (refine pB ?_;simp_all)),Aj⟩
 rintro _ rfl;refine Av (⟨O,_,_,⟨_,_,O,O,O⟩,(List.nil_sublist _),?_⟩)
 all_goals exact⟨rfl,rfl⟩
theorem W3:∀(a b:List CB),(a.length<Cr)→(∀l∈a,X8 l)→Df Tryz.prog 81 [.p (.lst (List.map Bz a)),.p (.lst (List.map Bz b)),.p (.fn 82)] (.p (.bool (E9 a b))):=by
 intro a b h1 h2;simp only[Cr] at h1;refine Aw Tryz.func81 O gM (n:=32) O O (An As 1 [] O (Am (Ar (Bu O (Al O (BB Eh O (List.length_map _)) (Bu O (Al O (BB Eh O (List.length_map _)) (Ak As 1 [] O (Ao O (fun c=>?_) (fun c=>?_))))))))))
 ·(try simp only[sd,se] at c);refine An As 1 [] O (Av (⟨O,_,_,⟨_,_,O,O,O⟩,(List.nil_sublist _),?_⟩))
  all_goals exact⟨by show (.p (.bool false):AV)=_;rw[CI (fun h=>by subst h;simp at c)],rfl⟩
 (try simp only[sd,se] at c);refine Aq (Am (Ar (Bu O (Al O (BB Eh O (List.length_map _)) (Ak As 1 [] O (A1 ?_))))));refine BZ (α:=Nat) (fun i=>⟨32,mk [(1,.p (.lst (List.map Bz b))),(2,.p (.fn 82)),(15,.p (.lst (List.map Bz a))),(16,.p (I (a.length:Nat))),(17,.p (I (i:Int)))],[],[]⟩) (fun i=>a.length - i) (fun i=>i≤a.length∧(∀j,j<i→∀x,a[j]?=some x→b[j]?=some x)) 0 (⟨by omega,fun j h=>by omega⟩) ?_ ?_
 ·exact BM ⟨we O,we O,we O,we O,we O,Aj⟩ (leH (is:=[]) O (C8))
 rintro i hC
 try simp only at hC
 obtain⟨hi,hC⟩:=hC;refine An As 1 [] O (Am (Ao O (fun c1=>?_) (fun c1=>?_)))
 ·(try simp only[sd,se] at c1);refine Aq (Am (A1 (Ar (Bu O ?_))));obtain⟨x,hx⟩:=A0 (l:=a) (i:=i) Ah;refine Al O (A3 Eh O O Ah (F6 hx) (DT _)) (Al O (BL S6 O (DT _)) (A5 O (Az Li O) fun b8=>Ak As 2 [0,1] O (Ar (Ap As 2 [] O ?_))));obtain⟨x1,hx1⟩:=A0 (l:=b) (i:=i) Ah;refine Al O (A3 Eh O O Ah (F6 hx1) (DT _)) (Al O (BL S6 O (DT _)) (A5 O (Az Li O) fun b9=>Ak As 1 [0,1] O (Ar (Ap As 3 [1,0] O (Al O (BA O O (Us x x1 (h2 x (List.mem_of_getElem? hx)).vars) O) (Ak As 1 [] O (Ao O (fun c2=>?_) (fun c2=>?_))))))))
  ·(try simp only[sd,se] at c2);refine An As 1 [] O (Av (⟨O,_,_,⟨_,_,O,O,O⟩,(List.nil_sublist _),?_⟩))
   all_goals exact⟨by show (.p (.bool false):AV)=_;rw[CI (fun h=>by subst h;rw[hx] at hx1;injection hx1 with e;subst e;simp[CR] at c2)],rfl⟩
  (try simp only[sd,se] at c2);refine Aq (Au (Ak As 2 [] O (⟨(i+1),AN,⟨by omega,DQ (p:=fun j x=>b[j]?=some x) hC hx (by have e:x=x1:=EE.1 (by simpa using c2);rw[e];exact hx1)⟩,BM ⟨we rfl,we rfl,we rfl,we rfl,we rfl,trivial⟩ (leH (is:=[]) rfl (C8))⟩)))
 (try simp only[sd,se] at c1);refine Bc (An As 1 [] O (Av (⟨O,_,_,⟨_,_,O,O,O⟩,(List.nil_sublist _),?_⟩)))
 all_goals exact⟨by show (.p (.bool true):AV)=_;rw[CR (PX Ah fun j hj x hx=>hC j Ah x hx)],rfl⟩
theorem Ss:∀(n:Nat) (a b:List Tm),(∀x y:Tm,size x≤n→Nd x→Df Tryz.prog 31 [TV x,TV y] (.p (.bool (E9 x y))))→(BC a≤n)→(Ej a)→(a.length<Cr)→Df Tryz.prog 83 [.p (.lst (Ay a)),.p (.lst (Ay b)),.p (.fn 31)] (.p (.bool (E9 a b))):=by
 intro n a b h1 h2 h3 h4;simp only[Cr] at h4;refine Aw Tryz.func83 O gv (n:=32) O O (An As 1 [] O (Am (Ar (Bu O (Al O (BB BP O (A8 _)) (Bu O (Al O (BB BP O (A8 _)) (Ak As 1 [] O (Ao O (fun c=>?_) (fun c=>?_))))))))))
 ·(try simp only[sd,se] at c);refine An As 1 [] O (Av (⟨O,_,_,⟨_,_,O,O,O⟩,(List.nil_sublist _),?_⟩))
  all_goals exact⟨by show (.p (.bool false):AV)=_;rw[CI (fun h=>by subst h;simp at c)],rfl⟩
 (try simp only[sd,se] at c);refine Aq (Am (Ar (Bu O (Al O (BB BP O (A8 _)) (Ak As 1 [] O (A1 ?_))))));refine BZ (α:=Nat) (fun i=>⟨32,mk [(1,.p (.lst (Ay b))),(2,.p (.fn 31)),(15,.p (.lst (Ay a))),(16,.p (I (a.length:Nat))),(17,.p (I (i:Int)))],[],[]⟩) (fun i=>a.length - i) (fun i=>i≤a.length∧(∀j,j<i→∀x,a[j]?=some x→b[j]?=some x)) 0 (⟨by omega,fun j h=>by omega⟩) ?_ ?_
 ·exact BM ⟨we O,we O,we O,we O,we O,Aj⟩ (leH (is:=[]) O (C8))
 rintro i hC
 try simp only at hC
 obtain⟨hi,hC⟩:=hC;refine An As 1 [] O (Am (Ao O (fun c1=>?_) (fun c1=>?_)))
 ·(try simp only[sd,se] at c1);refine Aq (Am (A1 (Ar (Bu O ?_))));obtain⟨x,hx⟩:=A0 (l:=a) (i:=i) Ah;refine Al O (A3 BP O O Ah (Be hx) (A7 _)) (Al O (BL Bf O (A7 _)) (A5 O (Az Bj O) fun b8=>Ak As 2 [0,1] O (Ar (Ap As 2 [] O ?_))));obtain⟨x1,hx1⟩:=A0 (l:=b) (i:=i) Ah;refine Al O (A3 BP O O Ah (Be hx1) (A7 _)) (Al O (BL Bf O (A7 _)) (A5 O (Az Bj O) fun b9=>Ak As 1 [0,1] O (Ar (Ap As 3 [1,0] O (Al O (BA O O (h1 x x1 (by have:=Bw hx;omega) (CY h3 hx)) O) (Ak As 1 [] O (Ao O (fun c2=>?_) (fun c2=>?_))))))))
  ·(try simp only[sd,se] at c2);refine An As 1 [] O (Av (⟨O,_,_,⟨_,_,O,O,O⟩,(List.nil_sublist _),?_⟩))
   all_goals exact⟨by show (.p (.bool false):AV)=_;rw[CI (fun h=>by subst h;rw[hx] at hx1;injection hx1 with e;subst e;simp[CR] at c2)],rfl⟩
  (try simp only[sd,se] at c2);refine Aq (Au (Ak As 2 [] O (⟨(i+1),AN,⟨by omega,DQ (p:=fun j x=>b[j]?=some x) hC hx (by have e:x=x1:=EE.1 (by simpa using c2);rw[e];exact hx1)⟩,BM ⟨we rfl,we rfl,we rfl,we rfl,we rfl,trivial⟩ (leH (is:=[]) rfl (C8))⟩)))
 (try simp only[sd,se] at c1);refine Bc (An As 1 [] O (Av (⟨O,_,_,⟨_,_,O,O,O⟩,(List.nil_sublist _),?_⟩)))
 all_goals exact⟨by show (.p (.bool true):AV)=_;rw[CR (PX Ah fun j hj x hx=>hC j Ah x hx)],rfl⟩
theorem GW:∀(n:Nat) (a b:Tm),(size a≤n)→(Nd a)→Df Tryz.prog 31 [.agg ((BQ a).map .p),.agg ((BQ b).map .p)] (.p (.bool (E9 a b))):=by
 intro n
 induction n with
 | zero=>intro a b h1;cases a;simp[size] at h1
 | succ n ih =>
  intro a b h1 h2;obtain⟨ak,ai,an,al,as1⟩:=a;simp only[size] at h1;simp only[Nd,Cr] at h2;obtain⟨bk,bi,bn,bl,bs⟩:=b;refine Aw Tryz.func31 O iB (n:=38) O O (Ar (A5 O (BF O) fun b2=>A5 O (BF O) fun b3=>Ak As 1 [] O (Am (BO [] 4 (fun y=>y= .p (.bool (E9 (Tm.mk ak ai an al as1) (Tm.mk bk bi bn bl bs)))) ?_ ?_))))
  ·refine Au (Ap As 6 [1,0] O (BE 10 O (fun g=>?_) (fun g=>?_)))
   ·(try simp only[sd,se] at g);refine Ap As 7 [1,0] O (BE 17 O (fun g1=>?_) (fun g1=>?_))
    ·(try simp only[sd,se] at g1);refine Ap As 4 [1,0] O (BI O (Gr O O) (Ap As 2 [] O (BE 24 O (fun g2=>?_) (fun g2=>?_))))
     ·(try simp only[sd,se] at g2);refine Ap As 4 [1,0] O (BI O (BA O O (W3 al bl h2.2.1 h2.2.2.1) O) (Ap As 2 [] O (BE 31 O (fun g3=>?_) (fun g3=>?_))))
      ·(try simp only[sd,se] at g3);exact Ap As 4 [1,0] O (BI O (BA O O (Ss n as1 bs ih Ah h2.2.2.2.2.1 h2.2.2.2.1) O) (Ak As 2 [] O ⟨O,O,AG,(by rw[M6];first | rfl | (refine pB ?_;simp_all)),Aj⟩))
      (try simp only[sd,se] at g3);exact Ak As 7 [] O ⟨O,O,AG,(by rw[M6];first | rfl | (refine pB ?_;simp_all)),Aj⟩
     (try simp only[sd,se] at g2);exact Ak As 14 [] O ⟨O,O,AG,(by rw[M6];first | rfl | (refine pB ?_;simp_all)),Aj⟩
    (try simp only[sd,se] at g1);exact Ak As 21 [] O ⟨O,O,AG,(by rw[M6];first | rfl | (refine pB ?_;simp_all)),Aj⟩
   (try simp only[sd,se] at g);exact Ak As 28 [] O ⟨O,O,AG,(by rw[M6];first | rfl | (refine pB ?_;simp_all)),Aj⟩
  rintro _ rfl;refine Av (⟨O,_,_,⟨_,_,O,O,O⟩,(List.nil_sublist _),?_⟩)
  all_goals exact⟨rfl,rfl⟩
end Go.Proofs.YtifphifongokcaaGreat
namespace Go.Eu
open Go.Abs
structure Rfl where
 field:Int
 args:List Tm
 results:List Tm
deriving Inhabited
structure Pe where
 name:ByteArray
 fields:List Tm
 recs:List Rfl
 results:List Tm
deriving Inhabited
structure Fam where
 name:ByteArray
 levels:Int
 params:List Tm
 indices:List Tm
 sort:Tm
 ctors:List Pe
deriving Inhabited
def GM:Rfl→List PV
 | ⟨f,a,r⟩=>[I f,.lst (Ay a),.lst (Ay r)]
def Fp:Pe→List PV
 | ⟨n,f,c,r⟩=>[.str n,.lst (Ay f),.lst (c.map GM),.lst (Ay r)]
def Lz:Fam→List PV
 | ⟨n,l,p,i,s,c⟩=> .str n::I l:: .lst (Ay p):: .lst (Ay i)::(BQ s++[.lst (c.map Fp)])
def Bg:Tm×Tm→List PV
 | (a,b)=>BQ a++BQ b
theorem OH (r:Pe):(Fp r).length=4:=rfl
theorem MD (r:Fam):(Lz r).length=10:=by simp[Lz,A7]
theorem IJ (e:Tm×Tm):(Bg e).length=10:=by simp[Bg,A7]
theorem XR (r:Rfl):Cl 3 (GM r):=⟨rfl,by simp[GM]⟩
theorem Sh (r:Pe):Cl 4 (Fp r):=⟨rfl,by simp[Fp]⟩
theorem UM (r:Fam):Cl 10 (Lz r):=Bv Ai (Bv Ai (Bv Ai (Bv Ai (EL (n:=5) (m:=1) (FN _) (Bv Ai IV)))))
theorem SM (e:Tm×Tm):Cl 10 (Bg e):=EL (n:=5) (m:=5) (FN _) (FN _)
theorem Np (l:List Rfl):∀r∈l.map GM,Cl 3 r:=Ep XR l
theorem No (l:List Pe):∀r∈l.map Fp,Cl 4 r:=Ep Sh l
theorem FH (l:List (Tm×Tm)):∀r∈l.map Bg,Cl 10 r:=Ep SM l
theorem Wz (r:Pe):((Fp r).map AV.p).all one=true:=DH (Sh r)
theorem WX (r:Fam):((Lz r).map AV.p).all one=true:=DH (UM r)
theorem PF (r:Tm×Tm):((Bg r).map AV.p).all one=true:=DH (SM r)
def Gi (levels:Int):List CB:=(List.range levels.toNat).map fun i:Nat=>CB.mk 0 [B9.mk i 0]
def PW (name:ByteArray) (levels:Int):Tm:= .mk 3 0 name (Gi levels) []
def D7 (n:Nat) (from':Int):List Tm:=if n<1∨4096<n∨from' < 0 then [] else (List.range n).map fun i:Nat=>Cn (from'+n - 1 - i)
section
open Classical
variable (own:Tm) (params:List Tm) (ni:Nat)
noncomputable def Dl (t:Tm) (last:Int):Option (List Tm) :=
 if (A4 t).2.length=params.length+ni∧(A4 t).1=own∧(A4 t).2.take params.length=D7 params.length last then some ((A4 t).2.drop params.length) else none
noncomputable def Ia:Nat→List Tm→List Rfl
 | _,[]=>[]
 | i,t::ts=>match Dl own params ni (BS t).2 (i+(BS t).1.length) with
  | none=>Ia (i+1) ts
  | some l=>⟨i,(BS t).1,l⟩::Ia (i+1) ts
noncomputable def ET (c:Dk):Option Pe :=
 if params.length≤(BS c.type).1.length∧(BS c.type).1.take params.length=params then
  (Dl own params ni (BS c.type).2 ((BS c.type).1.drop params.length).length).map fun l=>⟨c.name,(BS c.type).1.drop params.length,Ia own params ni 0 ((BS c.type).1.drop params.length),l⟩
 else none
noncomputable def Dt:List Dk→Option (List Pe)
 | []=>some []
 | c::cs=>match ET own params ni c with
  | none=>none
  | some x=>(Dt cs).map (x:: ·)
end
noncomputable def Ml (d:Bx):Except Int Fam :=
 if d.kind≠3 then .error 1
 else if d.fixed<0∨(BS d.type).1.length<d.fixed∨((BS d.type).2.kind≠1∧(BS d.type).2.kind≠2) then .error 3
 else match Dt (PW d.name d.params) ((BS d.type).1.take d.fixed.toNat) ((BS d.type).1.drop d.fixed.toNat).length d.ctors with
  | none=> .error 3
  | some l=> .ok ⟨d.name,d.params,(BS d.type).1.take d.fixed.toNat,(BS d.type).1.drop d.fixed.toNat,(BS d.type).2,l⟩
theorem U2 {n:Nat}{f:Int}(h:n<1∨4096<n∨f<0):D7 n f=[]:=by unfold D7;rw[if_pos h]
theorem Oa {n:Nat}{f:Int}(h:¬(n<1∨4096<n∨f<0)):D7 n f=(List.range n).map fun i:Nat=>Cn (f+n - 1 - i):=by unfold D7;rw[if_neg h]
theorem Gm {n:Nat}{f:Int}(h:¬(n<1∨4096<n∨f<0)):(D7 n f).length=n:=by rw[Oa h];simp
theorem Ro {n:Nat}{f:Int}(h:¬(n<1∨4096<n∨f<0)) {i:Nat}(hi:i<n) {e:Int}(he:e=f+n - 1 - i):((D7 n f).take i++List.replicate (n - i) BH).set i (.mk 0 e ⟨#[]⟩ [] [])=(D7 n f).take (i+1)++List.replicate (n - (i+1)) BH:=by
 rw[M7 (by rw[List.length_take,Gm h];omega) Ah,List.take_add_one,show (D7 n f)[i]?=some (Cn (f+n - 1 - i)) by rw[Oa h];simp[List.getElem?_map,List.getElem?_range hi],he];rfl
theorem SC {a b:List Tm}(h:¬a.length=b.length):E9 a b=false:=CI fun e=>h (by rw[e])
structure HU where
 own:Tm
 params:List Tm
 indices:Int
deriving Inhabited
def RK:HU→List PV
 | ⟨o,p,i⟩=>BQ o++[.lst (Ay p),I i]
section
variable {own:Tm}{params:List Tm}{ni:Nat}{t:Tm}{last:Int}
theorem Rg (h:¬(A4 t).2.length=params.length+ni):true=(Dl own params ni t last).isNone:=by unfold Dl;rw[if_neg (fun q=>h q.1)];rfl
theorem Rk (h:E9 (A4 t).1 own=false):true=(Dl own params ni t last).isNone:=by
 unfold Dl;rw[if_neg (fun q=>by rw[q.2.1,CR rfl] at h;cases h)];rfl
theorem Rn (h:(A4 t).2.length=params.length+ni) (h2:E9 (A4 t).1 own=true):(!E9 ((A4 t).2.take params.length) (D7 params.length last))=(Dl own params ni t last).isNone:=by
 unfold Dl;cases q:E9 ((A4 t).2.take params.length) (D7 params.length last) with
 | true=>rw[if_pos ⟨h,EE.1 h2,EE.1 q⟩];rfl
 | false=>rw[if_neg (fun r=>by rw[r.2.2,CR rfl] at q;cases q)];rfl
theorem Tv (h0:(Dl own params ni t last).isNone=false):Dl own params ni t last=some ((A4 t).2.drop params.length):=by
 have h:¬(Dl own params ni t last).isNone=true:=by rw[h0];decide
 unfold Dl at h ⊢;split at h
 ·rename_i q;rw[if_pos q]
 exact absurd O h
theorem VT (h0:(Dl own params ni t last).isNone=false):(A4 t).2.length=params.length+ni:=by
 unfold Dl at h0;split at h0
 ·rename_i q;exact q.1
 cases h0
theorem Tx (h:(Dl own params ni t last).isNone=true):Dl own params ni t last=none:=Option.isNone_iff_eq_none.1 h
end
section
variable {own:Tm}{params:List Tm}{ni:Nat}
theorem UW {t:Tm}{last:Int}(h:(Dl own params ni t last).isSome=false):Dl own params ni t last=none:=by cases q:Dl own params ni t last with | none=>rfl | some x=>rw[q] at h;cases h
theorem Vw {t:Tm}{last:Int}(h:(Dl own params ni t last).isSome=true):Dl own params ni t last=some ((Dl own params ni t last).getD []):=by cases q:Dl own params ni t last with | none=>rw[q] at h;cases h | some x=>rfl
theorem Ul {fs:List Tm}{i:Nat}{x:Tm}{ys zs:List Rfl}(hx:fs[i]?=some x) (h:Dl own params ni (BS x).2 (i+(BS x).1.length)=none) (hC:ys++Ia own params ni i (fs.drop i)=zs):ys++Ia own params ni (i+1) (fs.drop (i+1))=zs:=by
 rw[CH hx,Ia,h] at hC;exact hC
theorem Vv {fs:List Tm}{i:Nat}{x:Tm}{ys zs:List Rfl}{l:List Tm}(hx:fs[i]?=some x) (h:Dl own params ni (BS x).2 (i+(BS x).1.length)=some l) (hC:ys++Ia own params ni i (fs.drop i)=zs):(ys++[⟨i,(BS x).1,l⟩])++Ia own params ni (i+1) (fs.drop (i+1))=zs:=by
 rw[CH hx,Ia,h] at hC;rw[List.append_assoc];exact hC
theorem Ue {fs:List Tm}{i:Nat}{ys zs:List Rfl}(hi:fs.length≤i) (hC:ys++Ia own params ni i (fs.drop i)=zs):ys=zs:=by
 rw[List.drop_eq_nil_of_le hi,Ia,List.append_nil] at hC;exact hC
end
theorem KG:∀(t:Tm),size (BS t).2≤size t∧(Nd t→Nd (BS t).2∧Ej (BS t).1)
 | .mk k i n l [a,b]=>by
  unfold BS;split
  ·obtain⟨q1,q2⟩:=KG b;exact⟨by simp only[size,BC];omega,fun h=>⟨(q2 h.2.2.2.2.1.2.1).1,h.2.2.2.2.1.1,(q2 h.2.2.2.2.1.2.1).2⟩⟩
  ·exact⟨Nat.le_refl _,fun h=>⟨h,Aj⟩⟩
 | .mk k i n l []=>⟨Nat.le_refl _,fun h=>⟨h,trivial⟩⟩
 | .mk k i n l [a]=>⟨Nat.le_refl _,fun h=>⟨h,trivial⟩⟩
 | .mk k i n l (a::b::c::r)=>⟨Nat.le_refl _,fun h=>⟨h,trivial⟩⟩
theorem S4 (t:Tm):size (BS t).2≤size t:=(KG t).1
theorem PG {t:Tm}(h:Nd t):Nd (BS t).2∧Ej (BS t).1:=(KG t).2 h
theorem Ze (l:List Rfl):∀r∈l.map GM,∀c∈r,c≠ .nils:=by
 intro r hr;obtain⟨⟨a,b,d⟩,_,rfl⟩:=List.mem_map.1 hr;simp[GM]
theorem ZO (l:List Pe):∀r∈l.map Fp,∀c∈r,c≠ .nils:=by
 intro r hr;obtain⟨⟨a,b,d,e⟩,_,rfl⟩:=List.mem_map.1 hr;simp[Fp]
theorem R2 (l:List (Tm×Tm)):∀r∈l.map Bg,∀c∈r,c≠ .nils:=by
 intro r hr;obtain⟨⟨⟨k,i,n,ls,s⟩,⟨k2,i2,n2,ls2,s2⟩⟩,_,rfl⟩:=List.mem_map.1 hr;simp[Bg,BQ]
def KB:Pe:=⟨⟨#[]⟩,[],[],[]⟩
section
variable {own:Tm}{params:List Tm}{ni:Nat}{c:Dk}
theorem bE (h:(decide (params.length≤(BS c.type).1.length)&&E9 ((BS c.type).1.take params.length) params)=false):ET own params ni c=none:=by
 unfold ET;rw[if_neg (fun q=>by rw[decide_eq_true q.1,CR q.2] at h;cases h)]
theorem eY (h:(decide (params.length≤(BS c.type).1.length)&&E9 ((BS c.type).1.take params.length) params)=true):params.length≤(BS c.type).1.length∧∀l,Dl own params ni (BS c.type).2 ((BS c.type).1.drop params.length).length=l→ET own params ni c=l.map fun l=>⟨c.name,(BS c.type).1.drop params.length,Ia own params ni 0 ((BS c.type).1.drop params.length),l⟩:=by
 rw[Bool.and_eq_true,decide_eq_true_eq,EE] at h;refine⟨h.1,fun l hl=>?_⟩;unfold ET;rw[if_pos h,hl]
end
theorem Qn:∀(t:Tm),BC (BS t).1≤size t
 | .mk k i n l [a,b]=>by
  unfold BS;split
  ·have:=Qn b;simp only[size,BC];omega
  ·simp[BC]
 | .mk k i n l []=>by simp[BS,BC]
 | .mk k i n l [_]=>by simp[BS,BC]
 | .mk k i n l (_::_::_::_)=>by simp[BS,BC]
end Go.Eu
namespace Go.Proofs.YtifphifongokcaaGreat
open Go.Abs Go.Eu
theorem S8:∀(nm:ByteArray) (lv:Int),(0≤lv∧lv≤1000)→Df Tryz.prog 107 [.p (.str nm),.p (I lv)] (.agg ((BQ (.mk 3 0 nm (Gi lv) [])).map .p)):=by
 intro nm lv h1;refine Aw Tryz.func107 O bH (n:=24) O O (Ar (A5 O (Az Bj O) fun b4=>BR O (Ar (Ap As 2 [] O (A5 O (Az Bj O) fun b5=>Ak As 1 [0,0] O (Am (Ar (CJ (IT (i:=0) O (X2 (aw (we O) (aw (we O) (aw (we O) (aw (KR) (aw (we O) (HX)))))))) (CJ (I0 (sz:=2)) (Ak As 2 [] O (A1 ?_)))))))))));refine BZ (α:=Nat×Option Nat×Nat) (fun(i,o,cp)=>⟨24,mk [(4,.ptr b4 0),(5,.ptr b5 0),(9,.p (I lv)),(10,.p (I (i:Int)))],[.vec o 2 (List.map Bz ((List.range i).map fun i:Nat=>CB.mk 0 [B9.mk i 0])) cp,.box b5 [.p (I 3),.p (I 0),.p (.str nm),.vs o (List.map Bz ((List.range i).map fun i:Nat=>CB.mk 0 [B9.mk i 0])).length cp,.p (.nils)],.box b4 [.p (I 0),.p (I 0),.p (.str ⟨#[]⟩),.p (.nils),.p (.nils)]],[]⟩) (fun(i,o,cp)=>lv.toNat - i) (fun(i,o,cp)=>i≤lv.toNat) ⟨0,none,0⟩ AK ?_ ?_
 ·exact BM ⟨we O,we O,we O,we O,Aj⟩ (leH (is:=[0,1,2]) O (wl (oe O) (wl (oe O) (wl (oe O) (C8)))))
 rintro⟨i,o,cp⟩ hC
 try simp only at hC
 have hi:=hC;refine An As 1 [] O (Am (Ao O (fun c=>?_) (fun c=>?_)))
 ·(try simp only[sd,se] at c);refine Aq (Am (A1 (An As 2 [] O (Au (Ap As 4 [1] O (Al O (BT Fv Y3 O O O O O) (Al O (B5 Zs Li O) (Al O (BT Eh Li O O O O O) (JB O O (Cb (i:=0) (rows':=List.map Bz ([(CB.mk 0 [(B9.mk (i:Int) 0)])])) Eh Eh Li O O O O O O (Nz _) Ac (I2 (f:=Bz) ((List.range i).map fun i:Nat=>CB.mk 0 [B9.mk i 0]) ([(CB.mk 0 [(B9.mk (i:Int) 0)])]))) fun o1 cp1=>Ak As 2 [1,0] O (Au (Ak As 2 [] O ?_)))))))))));refine⟨⟨i+1,o1,cp1⟩,AN,by omega,BM ⟨we rfl,we rfl,we rfl,we rfl,trivial⟩ (leH (is:=[0,1,2]) rfl (wl (GR (f:=Bz) (((List.range i).map fun i:Nat=>CB.mk 0 [B9.mk i 0])++([(CB.mk 0 [(B9.mk (i:Int) 0)])])) (by rw[List.range_succ,List.map_append];rfl)) (wl (X2 (aw (we rfl) (aw (we rfl) (aw (we rfl) (aw (we (HC (f:=Bz) (((List.range i).map fun i:Nat=>CB.mk 0 [B9.mk i 0])++([(CB.mk 0 [(B9.mk (i:Int) 0)])])) (by rw[List.range_succ,List.map_append];rfl))) (aw (we rfl) (HX))))))) (wl (oe rfl) (C8)))))⟩
 (try simp only[sd,se] at c);refine Bc (Ar (CJ (Ch (i:=0) (j:=1) (q:=3) [] O O O (DV Aj)) (Ak As 2 [0,1,0] O (BK (Bm (i:=1) O) (Av (⟨O,_,_,⟨_,_,O,(BD (i:=1) Bf O O O),O⟩,(List.nil_sublist _),?_⟩))))))
 all_goals exact⟨by show (.agg [.p (I 3),.p (I 0),.p (.str nm),.p (.lst (List.map Bz ((List.range i).map fun i:Nat=>CB.mk 0 [B9.mk i 0]))),.p (.lst [])]:AV)=_;unfold Gi;rw[show i=lv.toNat by omega];rfl,rfl⟩
theorem _root_.Go.AJ {α:Prop}(h:α:=by refine pB (Bool.eq_iff_iff.2 ?_);simp<;>omega):α:=h
theorem Ww:∀(n from1:Int),(0≤n∧n≤1000000)→(-1000000≤from1∧from1≤1000000)→Df Tryz.prog 167 [.p (I n),.p (I from1)] (.p (.lst (Ay (D7 n.toNat from1)))):=by
 intro n from1 h1 h2;refine Aw Tryz.func167 O bq (n:=36) O O (An As 1 [] O (Am (Am (BO [0,1] 16 (fun y=>y= .p (.bool (decide (n.toNat<1∨4096<n.toNat∨from1<0)))) ?_ ?_))))
 ·refine Au (Ap As 3 [] O (BE 9 O (fun g=>?_) (fun g=>?_)))
  ·(try simp only[sd,se] at g);exact Ak As 7 [] O (⟨O,O,AG,AJ,⟨O,O,Aj⟩⟩)
  (try simp only[sd,se] at g);refine Ap As 4 [] O (BE 13 O (fun g1=>?_) (fun g1=>?_))
  ·(try simp only[sd,se] at g1);exact Ak As 3 [] O (⟨O,O,AG,AJ,⟨O,O,Aj⟩⟩)
  (try simp only[sd,se] at g1);exact Ak As 3 [] O (⟨O,O,AG,AJ,⟨O,O,Aj⟩⟩)
 rintro _ rfl;refine Ao O (fun c=>?_) (fun c=>?_)
 ·(try simp only[sd,se] at c);have hv:=c;refine An As 1 [] O (BK (GQ 4) (Av (⟨O,_,_,⟨_,_,O,O,O⟩,(List.nil_sublist _),?_⟩)))
  all_goals exact⟨by show (.p (.lst (Ay [])):AV)=_;rw[U2 hv],rfl⟩
 (try simp only[sd,se] at c);have hv:=c;refine Aq (Ar (Bu O (Mk O O (Cf BP Bj O O Ag O O O Ah Ah Ah (OP ((n:Int).toNat) (.mk 0 0 ⟨#[]⟩ [] []:Tm))) fun b18 cp=>Ak As 1 [] O (Am (Ar (Bu O (Al O (DP BP O (A8 _)) (Ak As 1 [] O (A1 (BZ (α:=Nat×Option Nat×Nat) (fun(i,o,cp1)=>⟨36,mk [(0,.p (I n)),(1,.p (I from1)),(5,.vs o (Ay ((D7 n.toNat from1).take i++List.replicate (n.toNat - i) BH)).length cp1),(20,.p (I ((List.replicate ((n:Int).toNat) (.mk 0 0 ⟨#[]⟩ [] []:Tm)).length:Nat))),(21,.p (I (i:Int)))],[.vec o 5 (Ay ((D7 n.toNat from1).take i++List.replicate (n.toNat - i) BH)) cp1],[]⟩) (fun(i,o,cp1)=>n.toNat - i) (fun(i,o,cp1)=>i≤n.toNat) ⟨0,(some b18),cp⟩ AK ?_ ?_))))))))))
 ·exact BM ⟨we O,we O,we (H6 (List.replicate ((n:Int).toNat) (.mk 0 0 ⟨#[]⟩ [] []:Tm)) (by simp[BH])),we O,we O,Aj⟩ (leH (is:=[0]) O (wl (EI (List.replicate ((n:Int).toNat) (.mk 0 0 ⟨#[]⟩ [] []:Tm)) (by simp[BH])) (C8)))
 rintro⟨i,o,cp1⟩ hC
 try simp only at hC
 have hi:=hC;refine An As 1 [] O (Am (Ao O (fun c1=>?_) (fun c1=>?_)))
 ·(try simp only[sd,se] at c1);have hin:i<n.toNat:=by omega
  refine Aq (Am (A1 (An As 2 [] O (Au (Ap As 9 [] O (GO (i:=0) O AT fun b hb=>?_))))));subst hb;refine Al O (B0 BP O O Ah (by simp[A8,Gm hv];omega)) (Al O (CA (i:=0) (j:=i) Bf O O O (by simp[A8,Gm hv];omega) O O O O (Iv ((D7 n.toNat from1).take i++List.replicate (n.toNat - i) BH) i (.mk 0 ((((from1:Int)+(n:Int):Int) - (1:Int):Int) - ((i:Int):Int)) ⟨#[]⟩ [] []:Tm))) (BR O (Au (Ak As 2 [] O ?_))));refine⟨⟨i+1,(some b),cp1⟩,AN,by omega,BM ⟨we rfl,we rfl,we (DU ((D7 n.toNat from1).take i++List.replicate (n.toNat - i) BH) (by simp[Gm hv];omega)),we rfl,we rfl,trivial⟩ (leH (is:=[0]) rfl (wl (EI (((D7 n.toNat from1).take i++List.replicate (n.toNat - i) BH).set i (.mk 0 ((((from1:Int)+(n:Int):Int) - (1:Int):Int) - ((i:Int):Int)) ⟨#[]⟩ [] []:Tm)) (Ro hv hin Ah)) (C8)))⟩
 (try simp only[sd,se] at c1);generalize hK:(D7 n.toNat from1).take i++List.replicate (n.toNat - i) BH=K;obtain rfl:K=D7 n.toNat from1:=by rw[←hK,List.take_of_length_le (by rw[Gm hv];omega),show n.toNat - i=0 by omega,List.replicate_zero,List.append_nil]
 refine Bc (An As 2 [] O (BK (CX (i:=0) [5,35,4] O (DV ⟨O,O,O,Aj⟩)) (Av (⟨O,_,_,⟨_,_,O,O,O⟩,(List.nil_sublist _),?_⟩))))
 all_goals exact⟨rfl,rfl⟩
theorem QQ:∀(a b:List Tm),(Ej a)→(a.length<Cr)→Df Tryz.prog 131 [.p (.lst (Ay a)),.p (.lst (Ay b)),.p (.fn 31)] (.p (.bool (E9 a b))):=by
 intro a b h1 h2;refine Aw Tryz.func131 O az (n:=18) O O (An As 1 [] O (Am (BO [] 6 (fun y=>y= .p (.bool (E9 a b))) ?_ ?_)))
 ·refine Au (Bu O (Al O (BB BP O (A8 _)) (Bu O (Al O (BB BP O (A8 _)) (Ap As 2 [] O (BE 12 O (fun g=>?_) (fun g=>?_)))))))
  ·(try simp only[sd,se] at g);exact Ap As 3 [] O (BI rfl (BA rfl rfl (Ss (BC a) a b (fun x y hx hn=>GW (BC a) x y hx hn) (Nat.le_refl _) h1 h2) rfl) (Ak As 2 [] O ⟨O,O,AG,(by first | rfl | exact pB (SC Ah).symm),Aj⟩))
  (try simp only[sd,se] at g);exact Ak As 6 [] O ⟨O,O,AG,(by first | rfl | exact pB (SC Ah).symm),Aj⟩
 rintro _ rfl;refine Av (⟨O,_,_,⟨_,_,O,O,O⟩,(List.nil_sublist _),?_⟩)
 all_goals exact⟨rfl,rfl⟩
theorem Xb (n:Nat) (f:Int) (h1:n≤1000000) (h2: -1000000≤f∧f≤1000000):Df Tryz.prog 167 [.p (I (n:Int)),.p (I f)] (.p (.lst (Ay (D7 n f)))):=by
 have:=Ww (n:Int) f ⟨by omega,by omega⟩ h2
 rwa [Int.toNat_natCast] at this
theorem _root_.Go.AM {α:Prop}(h:α:=by simp only[A8,List.length_map];omega):α:=h
set_option maxHeartbeats 2000000 in
theorem OK:∀(s:HU) (t:Tm) (last:Int),(Nd s.own)→(size s.own<1000000)→(Ej s.params)→(s.params.length<1000)→(0≤s.indices∧s.indices≤1000)→(Nd t)→(size t<1000000)→(0≤last∧last≤1000000)→Df Tryz.prog 132 [.agg ((RK s).map .p),.agg ((BQ t).map .p),.p (I last)] (.tup [.p (.lst (Ay ((Dl s.own s.params s.indices.toNat t last).getD []))),.p (.bool ((Dl s.own s.params s.indices.toNat t last).isSome))]):=by
 intro s t last h1 h2 h3 h4 h5 h6 h7 h8;have hsp:=Tt t;have hsn:=Pr t h6;obtain⟨so,sp,si⟩:=s;obtain⟨sok,soi,son,sol,sos⟩:=so;simp only at h1 h2 h3 h4 h5;refine Aw Tryz.func132 O cc (n:=46) O O (Ar (A5 O (BF O) fun b3=>A5 O (BF O) fun b4=>Ak As 2 [] O (Ar (Al O (Ba (i:=0) Bf O O Aa) (Al O (BA O O (J2 t h6 AU) O) (Ap As 3 [] O (A5 O (Az Bj O) fun b8=>Ak As 2 [0,1] O (Ar (Ap As 2 [2] O (Al O (BB BP O (A8 _)) (Ak As 1 [] O (Am (Am (BO [9,10] 42 (fun y=>y= .p (.bool ((Dl (.mk sok soi son sol sos:Tm) sp si.toNat t last).isNone))) ?_ ?_))))))))))))))
 ·refine By (fun k=>false) Eg (BG O (fun _=>CF O) Aj (BG O (fun _=>BB BP O (A8 _)) Aj (BU As 6 [2] O (Fh 26 O (fun g=>?_) (fun g=>?_)))))
  ·(try simp only[sd,se] at g);exact B1 As 16 [] O (⟨O,O,AG,(by first | rfl | (refine pB (Rg ?_);omega) | (refine pB (Rk ?_);simpa using g1) | (refine pB (Rn ?_ ?_);omega;simpa using g1)),⟨O,O,Aj⟩⟩)
  (try simp only[sd,se] at g);refine BU As 2 [0] O (QY (i:=2) O O O O O (fun H i hi=>FP (i:=i) Bf O hi O O) AB Aj (B8 O (fun _=>BA O O (GW _ ((A4 t).1) (.mk sok soi son sol sos:Tm) (Nat.le_refl _) hsn.1) O) Aj (BU As 3 [] O (Fh 33 O (fun g1=>?_) (fun g1=>?_)))))
  ·(try simp only[sd,se] at g1);exact B1 As 9 [] O (⟨O,O,AG,(by first | rfl | (refine pB (Rg ?_);omega) | (refine pB (Rk ?_);simpa using g1) | (refine pB (Rn ?_ ?_);omega;simpa using g1)),⟨O,O,Aj⟩⟩)
  (try simp only[sd,se] at g1);exact BU As 2 [] O (B8 O (fun _=>EK (lo:=0) (hi:=sp.length) BP O (CP (CD _)) O ⟨_,O⟩ (Nat.zero_le _) AM (Vz ((A4 t).2) sp.length)) Aj (BU As 2 [] O (B8 O (fun _=>BA O O (Xb sp.length last Ah Ah) O) Aj (B8 O (fun _=>BA O O (QQ (((A4 t).2).take sp.length) (D7 sp.length last) (L8 hsn.2 _) (by simp only[Cr,List.length_take];omega)) O) Aj (B1 As 2 [] O (⟨O,O,AG,(by first | rfl | (refine pB (Rg ?_);omega) | (refine pB (Rk ?_);simpa using g1) | (refine pB (Rn ?_ ?_);omega;simpa using g1)),⟨O,O,Aj⟩⟩))))))
 rintro _ rfl;refine Ao O (fun c=>?_) (fun c=>?_)
 ·(try simp only[sd,se] at c);have hrn:=Tx c;refine An As 2 [] O (BK (GQ 6) (Av (⟨O,_,_,⟨_,_,O,O,⟨_,_,O,O,O⟩⟩,(List.nil_sublist _),?_⟩)))
  all_goals exact⟨by show (.tup [.p (.lst (Ay [])),.p (.bool false)]:AV)=_;rw[hrn];rfl,rfl⟩
 (try simp only[sd,se] at c);have hrs:=Tv c;have hrl:=VT c;refine Aq (Ar (Ap As 2 [] O (Al O (EK (lo:=sp.length) BP O (CP (CD _)) ⟨_,O⟩ O AM (Nat.le_refl _) (SN ((A4 t).2) sp.length)) (Ak As 2 [] O (Av (⟨O,_,_,⟨_,_,O,O,⟨_,_,O,O,O⟩⟩,(List.nil_sublist _),?_⟩))))))
 all_goals exact⟨by show (.tup [.p (.lst (Ay (((A4 t).2).drop sp.length))),.p (.bool true)]:AV)=_;rw[hrs];rfl,rfl⟩
end Go.Proofs.YtifphifongokcaaGreat
namespace Go
section
variable {F:Fence}{n:Nat}{P:Program}{b:Frame}{a:Act}{k:List Item}{cs:List Frame}{w:World}{Q:Exit→Act→World→Prop}
theorem ER {c:Code}:step P (lone (b.atR a (.code (.scope c)::k)) cs w)= .next (lone (b.atR a (.code c:: .inScope c::k)) cs w) :=
 step_lone_go (by simp[stepG,stepG.exec,Frame.atR])
theorem NQ {c:Code}:step P (lone (b.atR a (.inScope c::k)) cs w)= .next (lone (b.atR a k) cs w) :=
 step_lone_go (by simp[stepG,stepG.exec,Frame.atR])
theorem Qv {c:Code}(h:c.wpIn F n P (Exit.noGoto Q) a w):(Code.scope c).wpIn F n P Q a w:=by
 intro b k cs hro hb hr;have h0:(lone (b.atR a (.code (.scope c)::k)) cs w).fenced P F:=fenced_calm hb hr rfl;obtain⟨e,a₁,w₁,hq,harr⟩:=h b (.inScope c::k) cs hro hb hr;cases e with
 | normal=>exact⟨.normal,a₁,w₁,hq,.head h0 ER (StepsIn.trans harr (.one (fenced_calm hb hr rfl) NQ))⟩
 | exit id =>
  have hx:exitTo id (.inScope c::k)=exitTo id k:=by simp[exitTo]
  exact⟨.exit id,a₁,w₁,hq,fun k' hk=> .head h0 ER (harr.1 k' (by rw[hx];exact hk)),
   fun hr' hk=>let ⟨k₁,h1,h2⟩:=harr.2 hr' (by rw[hx];exact hk);⟨k₁,h1,.head h0 ER h2⟩⟩
 | goto l=>exact hq.elim
 | ret=>exact⟨_,a₁,w₁,hq,.of_steps (.one h0 ER) harr⟩
 | panic ch=>exact⟨_,a₁,w₁,hq,.of_steps (.one h0 ER) harr⟩
 | outgrown=>exact⟨_,a₁,w₁,hq,.of_steps (.one h0 ER) harr⟩
end
namespace Abs
variable {P:Program}{r:Option Nat}{c:Code}{S:BJ}{Q:B7→BJ→Prop}
theorem T5 {l:Nat}(h:Q .normal S):FJ P r (.label l) S Q:=fun F a w hs=>wpIn_label ⟨.normal,S,F,h,rfl,hs,.refl⟩
theorem TU (h:FJ P r c S Q):FJ P r (.scope c) S Q:=by
 intro F a w hs;refine Qv (wpIn_mono (h F a w hs) ?_);rintro e a' w' ⟨e',S',F',hq,he,hs',ht⟩;have key:∀e0:Exit,e0=e→Exit.noGoto (post F S.H w Q) e0 a' w':=by
  intro e0 h0;subst h0;have hp:post F S.H w Q e0 a' w':=⟨e',S',F',hq,he,hs',ht⟩;cases e0 with
  | goto l=>cases e'<;>simp[SV] at he
  | normal=>exact hp
  | exit i=>exact hp
  | ret=>exact hp
  | panic v=>exact hp
  | outgrown=>exact hp
 exact key e O
end Abs
end Go
namespace Go.Proofs.YtifphifongokcaaGreat
open Go.Abs Go.Eu
set_option maxHeartbeats 2000000 in
theorem UF:∀(s:HU) (fs:List Tm),(Nd s.own)→(size s.own<1000000)→(Ej s.params)→(s.params.length<1000)→(0≤s.indices∧s.indices≤1000)→(Ej fs)→(BC fs<100000)→Df Tryz.prog 133 [.agg ((RK s).map .p),.p (.lst (Ay fs))] (.p (.lst (List.map GM (Ia s.own s.params s.indices.toNat 0 fs)))):=by
 intro s fs h1 h2 h3 h4 h5 h6 h7;have hfl:=DK fs;obtain⟨so,sp,si⟩:=s;obtain⟨sok,soi,son,sol,sos⟩:=so;simp only at h1 h2 h3 h4 h5;refine Aw Tryz.func133 O dx (n:=45) O O (Ar (A5 O (BF O) fun b2=>Ak As 1 [] O (TU (An As 1 [] O (Am (T5 (Am (Ar (Bu O (Al O (BB BP O (A8 _)) (Ak As 1 [] O (A1 (BK (EM (t:=5) (sz:=3) O) ?_)))))))))))));refine BZ (α:=Nat×List Rfl×Option Nat×Nat) (fun(i,ys,o,cp)=>⟨45,mk [(2,.ptr b2 0),(5,.vs o (List.map GM ys).length cp),(12,.p (.lst (Ay fs))),(13,.p (I (fs.length:Nat))),(14,.p (I (i:Int)))],[.vec o 3 (List.map GM ys) cp,.box b2 [.p (I sok),.p (I soi),.p (.str son),.p (.lst (List.map Bz sol)),.p (.lst (Ay sos)),.p (.lst (Ay sp)),.p (I si)]],[]⟩) (fun(i,ys,o,cp)=>fs.length - i) (fun(i,ys,o,cp)=>i≤fs.length∧(ys++Ia (.mk sok soi son sol sos:Tm) sp si.toNat i (fs.drop i)=Ia (.mk sok soi son sol sos:Tm) sp si.toNat 0 fs∧ys.length≤i)) ⟨0,[],none,0⟩ (⟨by omega,by simp,by simp⟩) ?_ ?_
 ·exact BM ⟨we O,we O,we O,we O,we O,Aj⟩ (leH (is:=[0,1]) O (wl (oe O) (wl (oe O) (C8))))
 rintro⟨i,ys,o,cp⟩ hC
 try simp only at hC
 obtain⟨hi,hC⟩:=hC;refine An As 1 [] O (Am (Ao O (fun c=>?_) (fun c=>?_)))
 ·(try simp only[sd,se] at c);refine Aq (Am (A1 (Ar (Bu O ?_))));obtain⟨x,hx⟩:=A0 (l:=fs) (i:=i) Ah;refine Al O (A3 BP O O Ah (Be hx) (A7 _)) (Al O (BL Bf O (A7 _)) (A5 O (Az Bj O) fun b7=>Ak As 2 [0,1] O (Ar (Al O (Ba (i:=0) Bf O O Aa) (Al O (BA O O (LR x (CY h6 hx) (by have:=Bw hx;omega)) O) (Ap As 3 [] O (A5 O (Az Bj O) fun b9=>Ak As 2 [0,1] O (Ar (Ap As 4 [3,0] O (Al O (BB BP O (A8 _)) (Al O (IP O O (by have:=Dn x;have:=Bw hx;omega) (by have:=Dn x;have:=Bw hx;omega)) ?_)))))))))));refine Al O (BA O O (OK (HU.mk (.mk sok soi son sol sos:Tm) sp si) ((BS x).2) (((i:Int):Int)+((((BS x).1).length:Nat):Int)) h1 h2 h3 h4 h5 (PG (CY h6 hx)).1 (by have:=S4 x;have:=Bw hx;omega) (by have:=Dn x;have:=Bw hx;omega)) O) (Ak As 5 [] O (Am (An As 2 [] O (Ao O (fun c1=>?_) (fun c1=>?_)))))
  ·(try simp only[sd,se] at c1);have hrn:=UW (by simpa using c1);refine Bc (Au (Al O (IP O O (by have:=Dn x;have:=Bw hx;omega) (by have:=Dn x;have:=Bw hx;omega)) (Ak As 1 [] O ?_)));refine⟨⟨i+1,ys,o,cp⟩,AN,⟨by omega,by first | exact⟨Ul hx hrn hC.1,by have:=hC.2;omega⟩ | exact⟨Vv hx hrs hC.1,by have:=hC.2;simp;omega⟩⟩,BM ⟨we rfl,we rfl,we rfl,we rfl,we rfl,trivial⟩ (leH (is:=[2,3]) rfl (wl (oe rfl) (wl (oe rfl) (C8))))⟩
  (try simp only[sd,se] at c1);have hrs:=Vw (by simpa using c1);refine Aq (Au (Ap As 5 [] O (Al O (Bi (rows:=List.map GM ([(Rfl.mk (i:Int) ((BS x).1) ((Dl (HU.mk (.mk sok soi son sol sos:Tm) sp si).own (HU.mk (.mk sok soi son sol sos:Tm) sp si).params (HU.mk (.mk sok soi son sol sos:Tm) sp si).indices.toNat ((BS x).2) (((i:Int):Int)+((((BS x).1).length:Nat):Int))).getD []))])) Zx bP O O O O (CP (Np _)) (Ze _)) ?_)));refine JB O O (Cb (i:=2) (rows':=List.map GM ([(Rfl.mk (i:Int) ((BS x).1) ((Dl (HU.mk (.mk sok soi son sol sos:Tm) sp si).own (HU.mk (.mk sok soi son sol sos:Tm) sp si).params (HU.mk (.mk sok soi son sol sos:Tm) sp si).indices.toNat ((BS x).2) (((i:Int):Int)+((((BS x).1).length:Nat):Int))).getD []))])) Zx Zx bP O O O O O O (Np _) (by have:=hC.2;simp;omega) (I2 (f:=GM) ys ([(Rfl.mk (i:Int) ((BS x).1) ((Dl (HU.mk (.mk sok soi son sol sos:Tm) sp si).own (HU.mk (.mk sok soi son sol sos:Tm) sp si).params (HU.mk (.mk sok soi son sol sos:Tm) sp si).indices.toNat ((BS x).2) (((i:Int):Int)+((((BS x).1).length:Nat):Int))).getD []))]))) fun o1 cp1=>Ak As 1 [] O (Au ?_);refine Al O (IP O O (by have:=Dn x;have:=Bw hx;omega) (by have:=Dn x;have:=Bw hx;omega)) (Ak As 1 [] O ?_);refine⟨⟨i+1,(ys++([(Rfl.mk (i:Int) ((BS x).1) ((Dl (HU.mk (.mk sok soi son sol sos:Tm) sp si).own (HU.mk (.mk sok soi son sol sos:Tm) sp si).params (HU.mk (.mk sok soi son sol sos:Tm) sp si).indices.toNat ((BS x).2) (((i:Int):Int)+((((BS x).1).length:Nat):Int))).getD []))])),o1,cp1⟩,AN,⟨by omega,by first | exact⟨Ul hx hrn hC.1,by have:=hC.2;omega⟩ | exact⟨Vv hx hrs hC.1,by have:=hC.2;simp;omega⟩⟩,BM ⟨we rfl,we rfl,we rfl,we rfl,we rfl,trivial⟩ (leH (is:=[2,3]) rfl (wl (oe rfl) (wl (oe rfl) (C8))))⟩
 (try simp only[sd,se] at c);refine Bc (An As 2 [] O (BK (CX (i:=0) [5,44,4] O (DV ⟨O,O,O,Aj⟩)) (Av (⟨O,_,_,⟨_,_,O,O,O⟩,(List.nil_sublist _),?_⟩))))
 all_goals exact⟨by show (.p (.lst (List.map GM ys)):AV)=_;rw[Ue Ah hC.1],rfl⟩
set_option maxHeartbeats 2000000 in
theorem WK:∀(s:HU) (c:Dk),(Nd s.own)→(size s.own<1000000)→(Ej s.params)→(s.params.length<1000)→(0≤s.indices∧s.indices≤1000)→(Nd c.type)→(size c.type<50000)→Df Tryz.prog 108 [.agg ((RK s).map .p),.agg ((Ec c).map .p)] (.tup [.agg ((Fp ((ET s.own s.params s.indices.toNat c).getD KB)).map .p),.p (.bool ((ET s.own s.params s.indices.toNat c).isSome))]):=by
 intro s c h1 h2 h3 h4 h5 h6 h7;have htl:=Dn c.type;have htn:=PG h6;have hts:=S4 c.type;obtain⟨so,sp,si⟩:=s;obtain⟨sok,soi,son,sol,sos⟩:=so;simp only at h1 h2 h3 h4 h5;refine Aw Tryz.func108 O eC (n:=57) O O (Ar (A5 O (BF O) fun b2=>A5 O (BF O) fun b3=>A5 O (Az Xf O) fun b4=>Ak As 1 [] O (Ar (Al O (A2 Td O O) (Al O (CT (i:=1) Bf O O (HE _) (A7 _)) (Al O (BA O O (LR c.type h6 Ah) O) (Ap As 3 [] O (A5 O (Az Bj O) fun b7=>Ak As 2 [0,1] O (Ar (Ap As 2 [3] O (Al O (BB BP O (A8 _)) (Ak As 1 [] O (Am (Am (BO [2,3,4,6,7,8] 33 (fun y=>y= .p (.bool (!(decide (sp.length≤(BS c.type).1.length)&&E9 ((BS c.type).1.take sp.length) sp)))) ?_ ?_)))))))))))))))
 ·refine By (fun k=>false) Eg (BG O (fun _=>CF O) Aj (BG O (fun _=>BB BP O (A8 _)) Aj (BU As 3 [] O (Fh 25 O (fun g=>?_) (fun g=>?_)))))
  ·(try simp only[sd,se] at g);refine B1 As 8 [] O ?_;exact⟨O,O,AG,(by refine pB ?_;first | (rw[decide_eq_false (by omega:¬sp.length≤(BS c.type).1.length)];rfl) | (rw[decide_eq_true (by omega:sp.length≤(BS c.type).1.length)];rfl)),⟨O,O,O,O,O,O,Aj⟩⟩
  (try simp only[sd,se] at g);refine BU As 2 [] O (B8 O (fun _=>EK (lo:=0) (hi:=sp.length) BP O (CP (CD _)) O ⟨_,O⟩ (Nat.zero_le _) AM (Vz ((BS c.type).1) sp.length)) Aj (BU As 2 [3] O (B8 O (fun _=>BA O O (QQ (((BS c.type).1).take sp.length) sp (L8 htn.2 _) (by simp only[Cr,List.length_take];omega)) O) Aj (B1 As 2 [] O ?_))));exact⟨O,O,AG,(by refine pB ?_;first | (rw[decide_eq_false (by omega:¬sp.length≤(BS c.type).1.length)];rfl) | (rw[decide_eq_true (by omega:sp.length≤(BS c.type).1.length)];rfl)),⟨O,O,O,O,O,O,Aj⟩⟩
 rintro _ rfl;refine Ao O (fun c1=>?_) (fun c1=>?_)
 ·(try simp only[sd,se] at c1);have hc0:=bE (own:=(.mk sok soi son sol sos:Tm)) (ni:=si.toNat) (by simpa using c1);refine An As 3 [1,0] O (BK (Bm (i:=1) O) (Av (⟨O,_,_,⟨_,_,O,(BD (i:=1) WE O O O),⟨_,_,O,O,O⟩⟩,(List.nil_sublist _),?_⟩)))
  all_goals exact⟨by show (.tup [.agg [.p (.str ⟨#[]⟩),.p (.lst []),.p (.lst []),.p (.lst [])],.p (.bool false)]:AV)=_;rw[hc0];rfl,rfl⟩
 (try simp only[sd,se] at c1);obtain⟨hc1,hc2⟩:=eY (own:=(.mk sok soi son sol sos:Tm)) (ni:=si.toNat) (by simpa using c1);refine Aq (Ar (Ap As 2 [] O (Al O (EK (lo:=sp.length) BP O (CP (CD _)) ⟨_,O⟩ O AM (Nat.le_refl _) (SN ((BS c.type).1) sp.length)) (Ak As 1 [] O (Ar (Ap As 3 [3,0] O (Al O (BB BP O (A8 _)) (Al O (BA O O (OK (HU.mk (.mk sok soi son sol sos:Tm) sp si) ((BS c.type).2) ((((BS c.type).1).drop sp.length).length:Nat) h1 h2 h3 h4 h5 htn.1 Ah Ac) O) (Ak As 5 [] O (Am (An As 2 [] O (Ao O (fun c2=>?_) (fun c2=>?_)))))))))))))
 ·(try simp only[sd,se] at c2);have hrn:=hc2 _ (UW (by simpa using c2));refine An As 3 [1,0] O (BK (Bm (i:=1) O) (Av (⟨O,_,_,⟨_,_,O,(BD (i:=1) WE O O O),⟨_,_,O,O,O⟩⟩,(List.nil_sublist _),?_⟩)))
  all_goals exact⟨by show (.tup [.agg [.p (.str ⟨#[]⟩),.p (.lst []),.p (.lst []),.p (.lst [])],.p (.bool false)]:AV)=_;rw[hrn];rfl,rfl⟩
 (try simp only[sd,se] at c2);have hrs:=hc2 _ (Vw (by simpa using c2));refine Aq (Am (By (fun k=>false) Eg (BG O (fun _=>A2 Td O O) Aj (DC (j:=2) O O O (fun H i hi=>A6 (i:=i) P3 O hi (Jj _)) AB Aj (BU As 3 [3] O (BG O (fun _=>BA O O (UF (HU.mk (.mk sok soi son sol sos:Tm) sp si) (((BS c.type).1).drop sp.length) h1 h2 h3 h4 h5 (Vm htn.2 _) (by have:=Q6 (BS c.type).1 sp.length;have:=Qn c.type;omega)) O) Aj (B1 As 4 [1,0] O (Av (⟨O,_,_,⟨_,_,O,(BD (i:=1) WE O O O),⟨_,_,O,O,O⟩⟩,(List.nil_sublist _),?_⟩)))))))))
 all_goals exact⟨by show (.tup [.agg [.p (.str c.name),.p (.lst (Ay (((BS c.type).1).drop sp.length))),.p (.lst (List.map GM (Ia (HU.mk (.mk sok soi son sol sos:Tm) sp si).own (HU.mk (.mk sok soi son sol sos:Tm) sp si).params (HU.mk (.mk sok soi son sol sos:Tm) sp si).indices.toNat 0 (((BS c.type).1).drop sp.length)))),.p (.lst (Ay ((Dl (HU.mk (.mk sok soi son sol sos:Tm) sp si).own (HU.mk (.mk sok soi son sol sos:Tm) sp si).params (HU.mk (.mk sok soi son sol sos:Tm) sp si).indices.toNat ((BS c.type).2) ((((BS c.type).1).drop sp.length).length:Nat)).getD [])))],.p (.bool true)]:AV)=_;rw[hrs];rfl,rfl⟩
end Go.Proofs.YtifphifongokcaaGreat
namespace Go.Eu
open Go.Abs
section
variable {own:Tm}{params:List Tm}{ni:Nat}
theorem Z3 {cs:List Dk}{i:Nat}{x:Dk}{ys:List Pe}{Z:Option (List Pe)}(hx:cs[i]?=some x) (h:(ET own params ni x).isSome=false) (hC:Z=(Dt own params ni (cs.drop i)).map (ys++ ·)):Z=none:=by
 have:ET own params ni x=none:=by cases q:ET own params ni x with | none=>rfl | some y=>rw[q] at h;cases h
 rw[hC,CH hx,Dt,this];rfl
theorem Zo {cs:List Dk}{i:Nat}{x:Dk}{ys:List Pe}{Z:Option (List Pe)}(hx:cs[i]?=some x) (h:(ET own params ni x).isSome=true) (hC:Z=(Dt own params ni (cs.drop i)).map (ys++ ·)):Z=(Dt own params ni (cs.drop (i+1))).map ((ys++[(ET own params ni x).getD KB])++ ·):=by
 cases q:ET own params ni x with
 | none=>rw[q] at h;cases h
 | some y =>
  rw[hC,CH hx,Dt,q];cases Dt own params ni (cs.drop (i+1))<;>simp
theorem UR {cs:List Dk}{i:Nat}{ys:List Pe}{Z:Option (List Pe)}(hi:cs.length≤i) (hC:Z=(Dt own params ni (cs.drop i)).map (ys++ ·)):Z=some ys:=by
 rw[hC,List.drop_eq_nil_of_le hi,Dt];simp
end
def Xi:Fam:=⟨⟨#[]⟩,0,[],[],BH,[]⟩
noncomputable def PB (d:Bx):Fam:=match Ml d with | .ok f=>f | .error _=>Xi
noncomputable def Pu (d:Bx):Int:=match Ml d with | .ok _=>0 | .error e=>e
structure Y5 (d:Bx):Prop where
 nd:Nd d.type
 sz:size d.type<900
 pr:0≤d.params∧d.params≤1000
 cl:d.ctors.length<1000
 cs:∀c∈d.ctors,Nd c.type∧size c.type<50000
theorem cW {d:Bx}(h:d.kind≠3):Ml d= .error 1:=by unfold Ml;rw[if_pos h]
theorem cP {d:Bx}(h:¬d.kind≠3) (h2:d.fixed<0∨(BS d.type).1.length<d.fixed∨((BS d.type).2.kind≠1∧(BS d.type).2.kind≠2)):Ml d= .error 3:=by unfold Ml;rw[if_neg h,if_pos h2]
theorem cJ {d:Bx}(h:¬d.kind≠3) (h2:¬(d.fixed<0∨(BS d.type).1.length<d.fixed∨((BS d.type).2.kind≠1∧(BS d.type).2.kind≠2))) (hZ:Dt (PW d.name d.params) ((BS d.type).1.take d.fixed.toNat) ((BS d.type).1.drop d.fixed.toNat).length d.ctors=none):Ml d= .error 3:=by
 unfold Ml;rw[if_neg h,if_neg h2,hZ]
theorem YO {d:Bx}{l:List Pe}(h:¬d.kind≠3) (h2:¬(d.fixed<0∨(BS d.type).1.length<d.fixed∨((BS d.type).2.kind≠1∧(BS d.type).2.kind≠2))) (hZ:Dt (PW d.name d.params) ((BS d.type).1.take d.fixed.toNat) ((BS d.type).1.drop d.fixed.toNat).length d.ctors=some l) :
  Ml d= .ok ⟨d.name,d.params,(BS d.type).1.take d.fixed.toNat,(BS d.type).1.drop d.fixed.toNat,(BS d.type).2,l⟩:=by
 unfold Ml;rw[if_neg h,if_neg h2,hZ]
theorem Ts {n:ByteArray}{p:Int}(hn:n.size<Cr) (h:0≤p∧p≤1000):Nd (PW n p)∧size (PW n p)<1000000:=by
 refine⟨⟨hn,by simp only[Gi,List.length_map,List.length_range,Cr];omega,fun l hl=>?_,by simp only[Cr];decide,trivial,⟨by decide,by decide⟩,⟨by decide,by decide⟩⟩,by simp[PW,size,BC]⟩;obtain⟨i,hi,rfl⟩:=List.mem_map.1 hl;have:=List.mem_range.1 hi;refine⟨by simp[Cr],⟨by simp,by simp⟩,fun v hv=>?_⟩;simp only[List.mem_singleton] at hv;subst hv;refine⟨⟨?_,?_⟩,⟨?_,?_⟩⟩<;>simp<;>omega
end Go.Eu
namespace Go.Proofs.YtifphifongokcaaGreat
open Go.Abs Go.Eu
set_option maxHeartbeats 4000000 in
theorem RZ:∀(d:Bx),(Y5 d)→(d.name.size<Cr)→Df Tryz.prog 64 [.agg ((Br d).map .p)] (.tup [.agg ((Lz (PB d)).map .p),.p (I (Pu d))]):=by
 intro d h1 h2;have htl:=Dn d.type;have htn:=PG h1.nd;have hsz:=h1.sz;have hcl:=h1.cl;have hpr:=h1.pr;obtain⟨hon,hos⟩:=Ts h2 h1.pr;refine Aw Tryz.func64 O hO (n:=92) O O (Ar (A5 O (BF O) fun b1=>A5 O (Az Wp O) fun b2=>Ak As 1 [] O (Am (Ar (Al O (A2 Gq O O) (Al O (A6 (i:=1) FW O O (G5 _)) (Ak As 1 [] O (Ao O (fun c=>?_) (fun c=>?_)))))))))
 ·(try simp only[sd,se] at c);have hk:=cW c;refine An As 3 [0,0] O (BK (Bm (i:=0) O) (Av (⟨O,_,_,⟨_,_,O,(BD (i:=0) Uw O O O),⟨_,_,O,O,O⟩⟩,(List.nil_sublist _),?_⟩)))
  all_goals exact⟨by show (.tup [.agg [.p (.str ⟨#[]⟩),.p (I 0),.p (.lst []),.p (.lst []),.p (I 0),.p (I 0),.p (.str ⟨#[]⟩),.p (.lst []),.p (.lst []),.p (.lst [])],.p (I 1)]:AV)=_;unfold PB Pu;rw[hk];rfl,rfl⟩
 (try simp only[sd,se] at c);have hk:=c;refine Aq (Ar (Al O (A2 Gq O O) (Al O (CT (i:=1) Bf O O (JW _) (A7 _)) (Al O (BA O O (LR d.type h1.nd Ah) O) (Ap As 3 [] O (A5 O (Az Bj O) fun b5=>Ak As 2 [0,1] O (Am (Am (BO [1,2,4,5] 41 (fun y=>y= .p (.bool (decide (d.fixed<0∨(BS d.type).1.length<d.fixed∨((BS d.type).2.kind≠1∧(BS d.type).2.kind≠2))))) ?_ ?_)))))))))
 ·refine Au (Al O (A2 Gq O O) (Al O (A6 (i:=2) FW O O (Dd _)) (Ap As 2 [] O (BE 25 O (fun g=>?_) (fun g=>?_)))))
  ·(try simp only[sd,se] at g);refine Ak As 16 [] O ?_;exact⟨rfl,rfl,AG,(by refine pB (Bool.eq_iff_iff.2 ?_);simp_all [Tm.kind]<;>omega),⟨rfl,rfl,rfl,rfl,trivial⟩⟩
  (try simp only[sd,se] at g);refine BI O (A2 Gq O O) (BI O (A6 (i:=2) FW O O (Dd _)) (BI O (CF O) (BI O (BB BP O (A8 _)) (Ap As 3 [] O (BE 32 O (fun g1=>?_) (fun g1=>?_))))))
  ·(try simp only[sd,se] at g1);refine Ak As 9 [] O ?_;exact⟨rfl,rfl,AG,(by refine pB (Bool.eq_iff_iff.2 ?_);simp_all [Tm.kind]<;>omega),⟨rfl,rfl,rfl,rfl,trivial⟩⟩
  (try simp only[sd,se] at g1);refine BI O (A2 D0 O O) ?_;generalize hz:(BS d.type).2=z;obtain⟨zk,zi,zn,zl,zs⟩:=z;refine Ap As 3 [0] O (BE 36 O (fun g2=>?_) (fun g2=>?_))
  ·(try simp only[sd,se] at g2);refine Ak As 5 [0] O ?_;exact⟨rfl,rfl,AG,(by refine pB (Bool.eq_iff_iff.2 ?_);simp_all [Tm.kind]<;>omega),⟨rfl,rfl,rfl,rfl,trivial⟩⟩
  (try simp only[sd,se] at g2);refine Ak As 5 [] O ?_;exact⟨rfl,rfl,AG,(by refine pB (Bool.eq_iff_iff.2 ?_);simp_all [Tm.kind]<;>omega),⟨rfl,rfl,rfl,rfl,trivial⟩⟩
 rintro _ rfl;refine Ao O (fun c1=>?_) (fun c1=>?_)
 ·(try simp only[sd,se] at c1);have hk2:=cP (fun e=>e hk) c1;refine An As 3 [1,0] O (BK (Bm (i:=1) O) (Av (⟨O,_,_,⟨_,_,O,(BD (i:=1) Uw O O O),⟨_,_,O,O,O⟩⟩,(List.nil_sublist _),?_⟩)))
  all_goals exact⟨by show (.tup [.agg [.p (.str ⟨#[]⟩),.p (I 0),.p (.lst []),.p (.lst []),.p (I 0),.p (I 0),.p (.str ⟨#[]⟩),.p (.lst []),.p (.lst []),.p (.lst [])],.p (I 3)]:AV)=_;unfold PB Pu;rw[hk2];rfl,rfl⟩
 (try simp only[sd,se] at c1);have hk2:=c1;refine Aq (Am ?_);generalize hz:(BS d.type).2=z;obtain⟨zk,zi,zn,zl,zs⟩:=z;refine SG [.val (.ptr b1 (0+1)),.val (.p (.str d.name)),.val (.ptr b1 (0+2)),.val (.p (I d.params)),.val (.p (.lst (Ay ((BS d.type).1)))),.val (.ptr b1 (0+13)),.val (.p (I d.fixed)),.val (.p (.lst (Ay (((BS d.type).1).take ((d.fixed:Int).toNat))))),.val (.p (.lst (Ay ((BS d.type).1)))),.val (.ptr b1 (0+13)),.val (.p (I d.fixed)),.val (.p (.lst (Ay (((BS d.type).1).drop ((d.fixed:Int).toNat))))),.val (.agg [.p (I zk),.p (I zi),.p (.str zn),.p (.lst (List.map Bz zl)),.p (.lst (Ay zs))]),.val (.agg [.p (.str d.name),.p (I d.params),.p (.lst (Ay (((BS d.type).1).take ((d.fixed:Int).toNat)))),.p (.lst (Ay (((BS d.type).1).drop ((d.fixed:Int).toNat)))),.p (I zk),.p (I zi),.p (.str zn),.p (.lst (List.map Bz zl)),.p (.lst (Ay zs)),.p (.nils)]),.new [.p (.str ⟨#[]⟩),.p (I 0),.p (.nils),.p (.nils),.p (I 0),.p (I 0),.p (.str ⟨#[]⟩),.p (.nils),.p (.nils),.p (.nils)]] Eg O Ad Ad ?_;refine C0 O (fun Bs=>A2 Gq O O) (C0 O (fun Bs=>A6 (i:=Bs.length+2) P3 O (Du O) (D3 _)) (C0 O (fun Bs=>A2 Gq O O) (C0 O (fun Bs=>A6 (i:=Bs.length+2) FW O (Du O) (Dy _)) (C0 O (fun Bs=>CF O) (C0 O (fun Bs=>A2 Gq O O) (C0 O (fun Bs=>A6 (i:=Bs.length+2) FW O (Du O) (Dd _)) (C0 O (fun Bs=>EK (lo:=0) (hi:=(d.fixed:Int).toNat) BP O (CP (CD _)) O ⟨_,pI Ah⟩ (Nat.zero_le _) AM (Vz ((BS d.type).1) ((d.fixed:Int).toNat))) (C0 O (fun Bs=>CF O) (C0 O (fun Bs=>A2 Gq O O) (C0 O (fun Bs=>A6 (i:=Bs.length+2) FW O (Du O) (Dd _)) ?_))))))))));refine C0 O (fun Bs=>EK (lo:=(d.fixed:Int).toNat) BP O (CP (CD _)) ⟨_,pI Ah⟩ O AM (Nat.le_refl _) (SN ((BS d.type).1) ((d.fixed:Int).toNat))) (C0 O (fun Bs=>Ba (i:=Bs.length+0) Bf O (Du O) Aa) (C0 O (fun Bs=>B5 Zf Wp O) (V8 O (fun Bs=>Az Wp O) fun b6=>UX ?_)))
 change AL _ _ _ 15 ⟨92,_,[.box b6 [.p (.str ⟨#[]⟩),.p (I 0),.p (.nils),.p (.nils),.p (I 0),.p (I 0),.p (.str ⟨#[]⟩),.p (.nils),.p (.nils),.p (.nils)],.box b5 [.p (I zk),.p (I zi),.p (.str zn),.p (.lst (List.map Bz zl)),.p (.lst (Ay zs))],.box b2 [.p (.str ⟨#[]⟩),.p (I 0),.p (.nils),.p (.nils),.p (I 0),.p (I 0),.p (.str ⟨#[]⟩),.p (.nils),.p (.nils),.p (.nils)],.box b1 ((Br d).map .p)],[]⟩ _
 refine Ak As 1 [0,0] O (Am (SG [.val (.ptr b1 (0+1)),.val (.p (.str d.name)),.val (.ptr b1 (0+2)),.val (.p (I d.params)),.val (.agg [.p (I 3),.p (I 0),.p (.str d.name),.p (.lst (List.map Bz (Gi d.params))),.p (.lst (Ay []))]),.val (.ptr b6 (0+2)),.val (.p (.lst (Ay (((BS d.type).1).take ((d.fixed:Int).toNat))))),.val (.ptr b6 (0+3)),.val (.p (.lst (Ay (((BS d.type).1).drop ((d.fixed:Int).toNat))))),.val (.p (I ((((BS d.type).1).drop ((d.fixed:Int).toNat)).length:Nat))),.val (.agg [.p (I 3),.p (I 0),.p (.str d.name),.p (.lst (List.map Bz (Gi d.params))),.p (.lst (Ay [])),.p (.lst (Ay (((BS d.type).1).take ((d.fixed:Int).toNat)))),.p (I ((((BS d.type).1).drop ((d.fixed:Int).toNat)).length:Nat))]),.new [.p (I 0),.p (I 0),.p (.str ⟨#[]⟩),.p (.nils),.p (.nils),.p (.nils),.p (I 0)]] Eg O Ad Ad ?_));refine C0 O (fun Bs=>A2 Gq O O) (C0 O (fun Bs=>A6 (i:=Bs.length+3) P3 O (Du O) (D3 _)) (C0 O (fun Bs=>A2 Gq O O) (C0 O (fun Bs=>A6 (i:=Bs.length+3) FW O (Du O) (Dy _)) (C0 O (fun Bs=>BA O O (S8 d.name d.params h1.pr) O) (C0 O (fun Bs=>A2 Zf O O) (C0 O (fun Bs=>Bd (i:=Bs.length+0) NK O (Du O) O) (C0 O (fun Bs=>A2 Zf O O) (C0 O (fun Bs=>Bd (i:=Bs.length+0) NK O (Du O) O) (C0 O (fun Bs=>BB BP O (A8 _)) (C0 O (fun Bs=>B5 au X4 O) (V8 O (fun Bs=>Az X4 O) fun b7=>UX ?_)))))))))))
 change AL _ _ _ 12 ⟨92,_,[.box b7 [.p (I 0),.p (I 0),.p (.str ⟨#[]⟩),.p (.nils),.p (.nils),.p (.nils),.p (I 0)],.box b6 [.p (.str d.name),.p (I d.params),.p (.lst (Ay (((BS d.type).1).take ((d.fixed:Int).toNat)))),.p (.lst (Ay (((BS d.type).1).drop ((d.fixed:Int).toNat)))),.p (I zk),.p (I zi),.p (.str zn),.p (.lst (List.map Bz zl)),.p (.lst (Ay zs)),.p (.nils)],.box b5 [.p (I zk),.p (I zi),.p (.str zn),.p (.lst (List.map Bz zl)),.p (.lst (Ay zs))],.box b2 [.p (.str ⟨#[]⟩),.p (I 0),.p (.nils),.p (.nils),.p (I 0),.p (I 0),.p (.str ⟨#[]⟩),.p (.nils),.p (.nils),.p (.nils)],.box b1 ((Br d).map .p)],[]⟩ _
 refine Ak As 1 [0,0] O (Am (Ar (CJ (IT (i:=1) O (X2 (aw (we O) (aw (we O) (aw (we O) (aw (we O) (aw (we O) (aw (we O) (aw (we O) (aw (we O) (aw (we O) (aw (KR) (HX))))))))))))) (CJ (I0 (sz:=4)) (Al O (A2 Gq O O) (Al O (A6 (i:=5) Xk O O (E3 _)) (Al O (BB RY O (List.length_map _)) (Ak As 1 [] O (A1 ?_)))))))));refine BZ (α:=Nat×List Pe×Option Nat×Nat) (fun(i,ys,o,cp)=>⟨92,mk [(2,.ptr b2 0),(6,.ptr b6 0),(7,.ptr b7 0),(69,.p (.lst (List.map Ec d.ctors))),(70,.p (I (d.ctors.length:Nat))),(71,.p (I (i:Int)))],[.vec o 4 (List.map Fp ys) cp,.box b7 [.p (I 3),.p (I 0),.p (.str d.name),.p (.lst (List.map Bz (Gi d.params))),.p (.lst (Ay [])),.p (.lst (Ay (((BS d.type).1).take ((d.fixed:Int).toNat)))),.p (I ((((BS d.type).1).drop ((d.fixed:Int).toNat)).length:Nat))],.box b6 [.p (.str d.name),.p (I d.params),.p (.lst (Ay (((BS d.type).1).take ((d.fixed:Int).toNat)))),.p (.lst (Ay (((BS d.type).1).drop ((d.fixed:Int).toNat)))),.p (I zk),.p (I zi),.p (.str zn),.p (.lst (List.map Bz zl)),.p (.lst (Ay zs)),.vs o (List.map Fp ys).length cp],.box b2 [.p (.str ⟨#[]⟩),.p (I 0),.p (.nils),.p (.nils),.p (I 0),.p (I 0),.p (.str ⟨#[]⟩),.p (.nils),.p (.nils),.p (.nils)]],[]⟩) (fun(i,ys,o,cp)=>d.ctors.length - i) (fun(i,ys,o,cp)=>i≤d.ctors.length∧(Dt (PW d.name d.params) ((BS d.type).1.take d.fixed.toNat) ((BS d.type).1.drop d.fixed.toNat).length d.ctors=(Dt (PW d.name d.params) ((BS d.type).1.take d.fixed.toNat) ((BS d.type).1.drop d.fixed.toNat).length (d.ctors.drop i)).map (ys++ ·)∧ys.length≤i)) ⟨0,[],none,0⟩ (⟨by omega,by simp,by simp⟩) ?_ ?_
 ·exact BM ⟨we O,we O,we O,we O,we O,we O,Aj⟩ (leH (is:=[0,1,2,4]) O (wl (oe O) (wl (oe O) (wl (oe O) (wl (oe O) (C8))))))
 rintro⟨i,ys,o,cp⟩ hC
 try simp only at hC
 obtain⟨hi,hC⟩:=hC;refine An As 1 [] O (Am (Ao O (fun c2=>?_) (fun c2=>?_)))
 ·(try simp only[sd,se] at c2);refine Aq (Am (A1 (Ar ?_)));obtain⟨x,hx⟩:=A0 (l:=d.ctors) (i:=i) Ah;refine Al O (A3 RY O O Ah (KD hx) (Fm _)) (Al O (BL eN O (Fm _)) (A5 O (Az Ud O) fun b9=>Ak As 1 [0,1] O (Ar (Ap As 2 [2,0] O (Al O (BA O O (WK (HU.mk (.mk 3 0 d.name (Gi d.params) []:Tm) (((BS d.type).1).take ((d.fixed:Int).toNat)) ((((BS d.type).1).drop ((d.fixed:Int).toNat)).length:Nat)) x hon hos (L8 htn.2 _) Ac Ac (h1.cs _ (List.mem_of_getElem? hx)).1 (h1.cs _ (List.mem_of_getElem? hx)).2) O) (Ap As 3 [] O (A5 O (Az Xf O) fun b10=>Al O (Bo (i:=0) WE O O O (by simp[OH]) (by first | rfl | simp[OH]) (Wz _)) (Ak As 1 [] O (Am (An As 2 [] O (Ao O (fun c3=>?_) (fun c3=>?_))))))))))))
  ·(try simp only[sd,se] at c3);have hcn:=Z3 hx c3 hC.1;refine An As 3 [5,0] O (BK (Bm (i:=5) O) (Av (⟨O,_,_,⟨_,_,O,(BD (i:=5) Uw O O O),⟨_,_,O,O,O⟩⟩,(List.nil_sublist _),?_⟩)))
   all_goals exact⟨by show (.tup [.agg [.p (.str ⟨#[]⟩),.p (I 0),.p (.lst []),.p (.lst []),.p (I 0),.p (I 0),.p (.str ⟨#[]⟩),.p (.lst []),.p (.lst []),.p (.lst [])],.p (I 3)]:AV)=_;unfold PB Pu;rw[cJ (fun e=>e hk) hk2 hcn];rfl,rfl⟩
  (try simp only[sd,se] at c3);have hcy:=Zo hx c3 hC.1;refine Aq (Au (Ap As 3 [4,0] O (Al O (Bi (rows:=List.map Fp ([((ET (HU.mk (.mk 3 0 d.name (Gi d.params) []:Tm) (((BS d.type).1).take ((d.fixed:Int).toNat)) ((((BS d.type).1).drop ((d.fixed:Int).toNat)).length:Nat)).own (HU.mk (.mk 3 0 d.name (Gi d.params) []:Tm) (((BS d.type).1).take ((d.fixed:Int).toNat)) ((((BS d.type).1).drop ((d.fixed:Int).toNat)).length:Nat)).params (HU.mk (.mk 3 0 d.name (Gi d.params) []:Tm) (((BS d.type).1).take ((d.fixed:Int).toNat)) ((((BS d.type).1).drop ((d.fixed:Int).toNat)).length:Nat)).indices.toNat x).getD KB)])) Z2 Xf O O O O (CP (No _)) (ZO _)) ?_)));refine JB O O (Cb (i:=2) (rows':=List.map Fp ([((ET (HU.mk (.mk 3 0 d.name (Gi d.params) []:Tm) (((BS d.type).1).take ((d.fixed:Int).toNat)) ((((BS d.type).1).drop ((d.fixed:Int).toNat)).length:Nat)).own (HU.mk (.mk 3 0 d.name (Gi d.params) []:Tm) (((BS d.type).1).take ((d.fixed:Int).toNat)) ((((BS d.type).1).drop ((d.fixed:Int).toNat)).length:Nat)).params (HU.mk (.mk 3 0 d.name (Gi d.params) []:Tm) (((BS d.type).1).take ((d.fixed:Int).toNat)) ((((BS d.type).1).drop ((d.fixed:Int).toNat)).length:Nat)).indices.toNat x).getD KB)])) Z2 Z2 Xf O O O O O O (No _) (by have:=hC.2;simp;omega) (I2 (f:=Fp) ys ([((ET (HU.mk (.mk 3 0 d.name (Gi d.params) []:Tm) (((BS d.type).1).take ((d.fixed:Int).toNat)) ((((BS d.type).1).drop ((d.fixed:Int).toNat)).length:Nat)).own (HU.mk (.mk 3 0 d.name (Gi d.params) []:Tm) (((BS d.type).1).take ((d.fixed:Int).toNat)) ((((BS d.type).1).drop ((d.fixed:Int).toNat)).length:Nat)).params (HU.mk (.mk 3 0 d.name (Gi d.params) []:Tm) (((BS d.type).1).take ((d.fixed:Int).toNat)) ((((BS d.type).1).drop ((d.fixed:Int).toNat)).length:Nat)).indices.toNat x).getD KB)]))) fun o1 cp1=>?_;refine Ak As 2 [4,0] O (Au (Ak As 2 [] O ?_))
  refine⟨⟨i+1,(ys++([((ET (HU.mk (.mk 3 0 d.name (Gi d.params) []:Tm) (((BS d.type).1).take ((d.fixed:Int).toNat)) ((((BS d.type).1).drop ((d.fixed:Int).toNat)).length:Nat)).own (HU.mk (.mk 3 0 d.name (Gi d.params) []:Tm) (((BS d.type).1).take ((d.fixed:Int).toNat)) ((((BS d.type).1).drop ((d.fixed:Int).toNat)).length:Nat)).params (HU.mk (.mk 3 0 d.name (Gi d.params) []:Tm) (((BS d.type).1).take ((d.fixed:Int).toNat)) ((((BS d.type).1).drop ((d.fixed:Int).toNat)).length:Nat)).indices.toNat x).getD KB)])),o1,cp1⟩,AN,⟨by omega,⟨hcy,by have:=hC.2;simp;omega⟩⟩,BM ⟨we rfl,we rfl,we rfl,we rfl,we rfl,we rfl,trivial⟩ (leH (is:=[2,3,4,5]) rfl (wl (oe rfl) (wl (oe rfl) (wl (oe rfl) (wl (oe rfl) (C8))))))⟩
 (try simp only[sd,se] at c2);refine Bc (Ar (CJ (Ch (i:=0) (j:=2) (q:=9) [] O O O (DV Aj)) (Ak As 3 [1,2,0] O (Av (⟨O,_,_,⟨_,_,O,(BD (i:=2) Uw O O O),⟨_,_,O,O,O⟩⟩,(List.nil_sublist _),?_⟩)))))
 all_goals exact⟨by show (.tup [.agg [.p (.str d.name),.p (I d.params),.p (.lst (Ay (((BS d.type).1).take ((d.fixed:Int).toNat)))),.p (.lst (Ay (((BS d.type).1).drop ((d.fixed:Int).toNat)))),.p (I zk),.p (I zi),.p (.str zn),.p (.lst (List.map Bz zl)),.p (.lst (Ay zs)),.p (.lst (List.map Fp ys))],.p (I 0)]:AV)=_;unfold PB Pu;rw[YO (fun e=>e hk) hk2 (UR Ah hC.1),hz];rfl,rfl⟩
theorem Zq:∀(so:Nat) (d:Bx),(Y5 d)→(d.name.size<Cr)→(Pu d=0)→((PB d).sort.kind=2)→Df Tryz.prog 153 [.ptr so 0,.agg ((Br d).map .p)] (.tup [.p (.bool true),.p (I 0)]):=by
 intro so d h1 h2 h3 h4;refine Aw Tryz.func153 O dr (n:=47) O O (Ar (A5 O (BF O) fun b3=>Ak As 2 [] O (Ar (Al O (Ba (i:=0) Q0 O O (by simp[Dm])) (Al O (BA O O (RZ d h1 h2) O) (Ap As 3 [] O (A5 O (Az Wp O) fun b6=>Al O (Bo (i:=0) Uw O O O (by simp[MD]) (by first | rfl | simp[MD]) (WX _)) (Ak As 1 [] O (Am (An As 2 [] O (Ao O (fun c=>?_) (fun c=>?_))))))))))))
 ·(try simp only[sd,se] at c);exfalso;omega
 (try simp only[sd,se] at c);refine Aq (Am (Ar (Ap As 2 [] O ?_)));generalize hz:PB d=z;obtain⟨zn,zl,zp,zi,zs,zc⟩:=z;obtain⟨zsk,zsi,zsn,zsl,zss⟩:=zs;refine Ak As 2 [0] O (Ao O (fun c1=>?_) (fun c1=>?_))
 ·(try simp only[sd,se] at c1);refine An As 2 [] O (Av (⟨O,_,_,⟨_,_,O,O,⟨_,_,O,O,O⟩⟩,(List.nil_sublist _),?_⟩))
  all_goals exact⟨rfl,rfl⟩
 (try simp only[sd,se] at c1);exfalso;first | exact c1 h4 | (simp_all [Tm.kind];done)
end Go.Proofs.YtifphifongokcaaGreat
namespace Go.Eu
open Go.Abs
structure RJ where
 name:ByteArray
 ctor:ByteArray
 levels:List CB
 fields:List Tm
deriving Inhabited
def HN:RJ→List PV
 | ⟨n,c,l,f⟩=>[.str n,.str c,.lst (l.map Bz),.lst (Ay f)]
theorem OL (r:RJ):(HN r).length=4:=rfl
theorem WW (r:RJ):Cl 4 (HN r):=⟨rfl,by simp[HN]⟩
theorem IS (r:RJ):((HN r).map AV.p).all one=true:=DH (WW r)
def Ms:RJ:=⟨⟨#[]⟩,⟨#[]⟩,[],[]⟩
structure UH (d:Bx):Prop where
 an:Y5 d
 nm:d.name.size<Cr
 e:Pu d=0
 k:(PB d).sort.kind=2
 fx:0≤d.fixed∧d.fixed≤1000
noncomputable def Ci (ds:List Bx) (t:Tm):Option RJ :=
 if (A4 t).1.kind≠3 then none
 else if (Ca ds (A4 t).1.name).2.2=false∨(Ca ds (A4 t).1.name).2.1<0∨((Ca ds (A4 t).1.name).1.ctors.length:Int)≤(Ca ds (A4 t).1.name).2.1 then none
 else if (A4 t).2.length≠(BS (Gd (Ca ds (A4 t).1.name).1 (Ca ds (A4 t).1.name).2.1).type).1.length∨((A4 t).2.length:Int)<(Ca ds (A4 t).1.name).1.fixed then none
 else some ⟨(Ca ds (A4 t).1.name).1.name,(A4 t).1.name,(A4 t).1.levels,(A4 t).2.drop (Ca ds (A4 t).1.name).1.fixed.toNat⟩
section
variable {ds:List Bx}{t:Tm}
theorem Um (h:(A4 t).1.kind≠3):Ci ds t=none:=by unfold Ci;rw[if_pos h]
theorem ZT (h:¬(A4 t).1.kind≠3) (h2:(Ca ds (A4 t).1.name).2.2=false∨(Ca ds (A4 t).1.name).2.1<0∨((Ca ds (A4 t).1.name).1.ctors.length:Int)≤(Ca ds (A4 t).1.name).2.1):Ci ds t=none:=by unfold Ci;rw[if_neg h,if_pos h2]
theorem Zk {x:Dk}(h:¬(A4 t).1.kind≠3) (h2:¬((Ca ds (A4 t).1.name).2.2=false∨(Ca ds (A4 t).1.name).2.1<0∨((Ca ds (A4 t).1.name).1.ctors.length:Int)≤(Ca ds (A4 t).1.name).2.1)) (hx:(Ca ds (A4 t).1.name).1.ctors[(Ca ds (A4 t).1.name).2.1.toNat]?=some x) (h3:(A4 t).2.length≠(BS x.type).1.length∨((A4 t).2.length:Int)<(Ca ds (A4 t).1.name).1.fixed):Ci ds t=none:=by
 unfold Ci Gd;rw[if_neg h,if_neg h2,JU hx,if_pos h3]
theorem Y6 {x:Dk}(h:¬(A4 t).1.kind≠3) (h2:¬((Ca ds (A4 t).1.name).2.2=false∨(Ca ds (A4 t).1.name).2.1<0∨((Ca ds (A4 t).1.name).1.ctors.length:Int)≤(Ca ds (A4 t).1.name).2.1)) (hx:(Ca ds (A4 t).1.name).1.ctors[(Ca ds (A4 t).1.name).2.1.toNat]?=some x) (h3:¬((A4 t).2.length≠(BS x.type).1.length∨((A4 t).2.length:Int)<(Ca ds (A4 t).1.name).1.fixed)) :
  Ci ds t=some ⟨(Ca ds (A4 t).1.name).1.name,(A4 t).1.name,(A4 t).1.levels,(A4 t).2.drop (Ca ds (A4 t).1.name).1.fixed.toNat⟩:=by
 unfold Ci Gd;rw[if_neg h,if_neg h2,JU hx,if_neg h3]
end
end Go.Eu
namespace Go.Proofs.YtifphifongokcaaGreat
open Go.Abs Go.Eu
theorem _root_.Go.AH {α:Prop}(h:α:=by refine pB (Bool.eq_iff_iff.2 ?_);simp_all<;>omega):α:=h
set_option maxHeartbeats 4000000 in
theorem PQ:∀(s sb:Nat) (ds:List Bx) (a2 a3:AV) (t:Tm),(C3 ds)→(okB t=true)→(∀nm,(Ca ds nm).2.2=true→UH (Ca ds nm).1)→Bb Tryz.prog 127 [.ptr s 0,.agg ((BQ t).map .p)] [.box s [.ptr sb 0,.p (.lst (List.map Br ds)),a2,a3]] (Dz (.tup [.agg ((HN ((Ci ds t).getD Ms)).map .p),.p (.bool ((Ci ds t).isSome)),.p (I 0)]) [.box s [.ptr sb 0,.p (.lst (List.map Br ds)),a2,a3]]):=by
 intro s sb ds a2 a3 t h1 h2 h3;have hsp:=X1 h2;have hsl:=hsp.len;have hss:=hsp.sz;have hos:=Ke h2;refine Aw Tryz.func127 O eT (n:=91) O O (Ar (A5 O (BF O) fun b3=>A5 O (Az Lx O) fun b4=>Ak As 2 [] O (Ar (Al O (Ba (i:=1) Bf O O Aa) (Al O (BA O O (J2 t hsp.nd AU) O) (Ap As 3 [] O (A5 O (Az Bj O) fun b7=>Ak As 2 [0,1] O (Am (Ar (Al O (A2 D0 O O) ?_))))))))));generalize hz:(A4 t).1=z;obtain⟨zk,zi,zn,zl,zs⟩:=z;refine Ak As 2 [0] O (Ao O (fun c=>?_) (fun c=>?_))
 ·(try simp only[sd,se] at c);have hd:=Um (ds:=ds) (t:=t) (by rw[hz];exact c);refine An As 4 [1,0] O (BK (Bm (i:=1) O) (Av (⟨O,_,_,⟨_,_,O,(BD (i:=1) Il O O O),⟨_,_,O,O,⟨_,_,O,O,O⟩⟩⟩,(CM (is:=[3]) O),?_⟩)))
  all_goals exact⟨by show (.tup [.agg [.p (.str ⟨#[]⟩),.p (.str ⟨#[]⟩),.p (.lst []),.p (.lst [])],.p (.bool false),.p (I 0)]:AV)=_;rw[hd];rfl,rfl⟩
 (try simp only[sd,se] at c);have hk:=c;refine Aq (Am (By (fun k=>Nat.beq k 11) Eg (BU As 6 [3,0] O (BG O (fun _=>BA O O (TX ds zn h1) O) Aj (BU As 4 [] O (PU [] O O (Az Ub O) Ad fun b9=>⟨AB,Aj,?_⟩))))));refine B1 As 3 [0,1] O (Am (Am (BO [0,4,7,8,9,10] 47 (fun y=>y= .p (.bool (decide ((Ca ds zn).2.2=false∨(Ca ds zn).2.1<0∨((Ca ds zn).1.ctors.length:Int)≤(Ca ds zn).2.1)))) ?_ ?_)))
 ·refine Au (Ap As 3 [] O (BE 37 O (fun g=>?_) (fun g=>?_)))
  ·(try simp only[sd,se] at g);exact Ak As 10 [] O (⟨O,O,AG,AH,⟨O,O,O,O,O,O,Aj⟩⟩)
  (try simp only[sd,se] at g);refine Ap As 4 [] O (BE 41 O (fun g1=>?_) (fun g1=>?_))
  ·(try simp only[sd,se] at g1);exact Ak As 6 [] O (⟨O,O,AG,AH,⟨O,O,O,O,O,O,Aj⟩⟩)
  (try simp only[sd,se] at g1);exact Ap As 2 [] O (BI O (A6 (i:=0) Xk O O (E3 _)) (BI O (BB RY O (List.length_map _)) (Ak As 2 [] O (⟨O,O,AG,AH,⟨O,O,O,O,O,O,Aj⟩⟩))))
 rintro _ rfl;refine Ao O (fun c1=>?_) (fun c1=>?_)
 ·(try simp only[sd,se] at c1);have hd:=ZT (ds:=ds) (t:=t) (by rw[hz];exact fun e=>e hk) (by rw[hz];exact c1);refine An As 4 [2,0] O (BK (Bm (i:=2) O) (Av (⟨O,_,_,⟨_,_,O,(BD (i:=2) Il O O O),⟨_,_,O,O,⟨_,_,O,O,O⟩⟩⟩,(CM (is:=[4]) O),?_⟩)))
  all_goals exact⟨by show (.tup [.agg [.p (.str ⟨#[]⟩),.p (.str ⟨#[]⟩),.p (.lst []),.p (.lst [])],.p (.bool false),.p (I 0)]:AV)=_;rw[hd];rfl,rfl⟩
 (try simp only[sd,se] at c1);have hk2:=c1;have hij:=h3 zn (by simpa using fun e=>hk2 (.inl e));have hcl:=hij.an.cl;have hfx:=hij.fx;refine Aq (Ar (Al O (A2 Gq O O) (Al O (A6 (i:=0) Xk O O (E3 _)) (Bu O ?_))));obtain⟨x,hx⟩:=A0 (l:=((Ca ds zn).1).ctors) (i:=((Ca ds zn).2.1:Int).toNat) Ah;refine Al O (A3 RY O O Ah (KD hx) (Fm _)) (Al O (Ip Td O O) (Al O (QN Bf O (HE _) (A7 _)) (Al O (BA O O (LR x.type (hij.an.cs _ (List.mem_of_getElem? hx)).1 (by have:=(hij.an.cs _ (List.mem_of_getElem? hx)).2;omega)) O) (Ap As 3 [] O (A5 O (Az Bj O) fun b13=>Ak As 2 [0,1] O (Am (Am (BO [0,4,7,8,9] 70 (fun y=>y= .p (.bool ((((((A4 t).2).length:Nat):Int) !=((((BS x.type).1).length:Nat):Int))||(decide ((((Ca ds zn).1).fixed:Int) > ((((A4 t).2).length:Nat):Int)))))) ?_ ?_))))))))
 ·refine Au (Bu O (Al O (BB BP O (A8 _)) (Bu O (Al O (BB BP O (A8 _)) (Ap As 2 [] O (BE 64 O (fun g=>?_) (fun g=>?_)))))))
  ·(try simp only[sd,se] at g);exact Ak As 6 [] O (⟨O,O,AG,AF,⟨O,O,O,O,O,Aj⟩⟩)
  (try simp only[sd,se] at g);exact BI O (A2 Gq O O) (BI O (A6 (i:=1) FW O O (Dd _)) (BI O (CF O) (BI O (BB BP O (A8 _)) (Ak As 2 [] O (⟨O,O,AG,AF,⟨O,O,O,O,O,Aj⟩⟩)))))
 rintro _ rfl;refine Ao O (fun c2=>?_) (fun c2=>?_)
 ·(try simp only[sd,se] at c2);have hd:=Zk (ds:=ds) (t:=t) (x:=x) (by rw[hz];exact fun e=>e hk) (by rw[hz];exact hk2) (by rw[hz];exact hx) (by rw[hz];simp only[Tm.name];omega);refine An As 4 [3,0] O (BK (Bm (i:=3) O) (Av (⟨O,_,_,⟨_,_,O,(BD (i:=3) Il O O O),⟨_,_,O,O,⟨_,_,O,O,O⟩⟩⟩,(CM (is:=[5]) O),?_⟩)))
  all_goals exact⟨by show (.tup [.agg [.p (.str ⟨#[]⟩),.p (.str ⟨#[]⟩),.p (.lst []),.p (.lst [])],.p (.bool false),.p (I 0)]:AV)=_;rw[hd];rfl,rfl⟩
 (try simp only[sd,se] at c2);have hd:=Y6 (ds:=ds) (t:=t) (x:=x) (by rw[hz];exact fun e=>e hk) (by rw[hz];exact hk2) (by rw[hz];exact hx) (by rw[hz];simp only[Tm.name];omega);refine Aq (Ar (Ap As 2 [1] O (Al O (BA O O (Zq s ((Ca ds zn).1) hij.an hij.nm hij.e hij.k) O) (Ak As 5 [] O (Am (By (fun k=>false) Eg (BG O (fun _=>A2 Gq O O) Aj (DC (j:=1) O O O (fun H i hi=>A6 (i:=i) P3 O hi (D3 _)) AB Aj (BU As 6 [2,2] O (DC (j:=1) O O O (fun H i hi=>A6 (i:=i) FW O hi (Dd _)) AB Aj (BG O (fun _=>EK (lo:=(((Ca ds zn).1).fixed:Int).toNat) BP O (CP (CD _)) ⟨_,pI Ah⟩ O AM (Nat.le_refl _) (SN ((A4 t).2) ((((Ca ds zn).1).fixed:Int).toNat))) Aj (B1 As 6 [3,0] O (Av (⟨O,_,_,⟨_,_,O,(BD (i:=3) Il O O O),⟨_,_,O,O,⟨_,_,O,O,O⟩⟩⟩,(CM (is:=[5]) O),?_⟩))))))))))))))
 all_goals exact⟨by show (.tup [.agg [.p (.str (((Ca ds zn).1).name)),.p (.str zn),.p (.lst (List.map Bz zl)),.p (.lst (Ay (((A4 t).2).drop ((((Ca ds zn).1).fixed:Int).toNat))))],.p (.bool true),.p (I 0)]:AV)=_;rw[hd,hz];rfl,rfl⟩
end Go.Proofs.YtifphifongokcaaGreat
namespace Go.Abs
theorem BN.take' {F:Nat→Prop}{w:World}{b sz:Nat}:∀{rows:List (List PV)}{o:Nat}(n:Nat),BN F w b sz o rows→BN F w b sz o (rows.take n)
 | rows,o,0,h=>by simp[BN]
 | [],o,n+1,h=>by simp[BN]
 | r::rows,o,n+1,h=>by
  simp only[BN] at h;simp only[List.take_succ_cons,BN];exact⟨h.1,h.2.1,BN.take' n h.2.2⟩
theorem Z8 {b sz c:Nat}{rows:List (List PV)}(n:Nat):H7 (.vec (some b) sz rows c) (.vec (some b) sz (rows.take n) c) :=
 ⟨rfl,fun F w ⟨vs,T,h1,h2,h3,h4⟩=>⟨vs,T,h1,h2,by rw[List.length_take];omega,BN.take' n h4⟩⟩
section
variable {P:Program}{H:List Ax}{dst:Option Tmp}{ty:TypeId}{pos:String}{aft:Array Edge}{g:Option (Nat×Bool)}{ρ:Operand→AV}{x y:Operand}
theorem NT {T e:TypeId}{sz bytes b n c k:Nat}(hT:DY P T=some (e,sz,bytes)) (hx:ρ x= .vs (some b) n c) (hy:ρ y= .p (.int .i64 k)) (hk:k≤c):Co P ⟨dst,.slice T x none (some y) none,ty,pos,aft,g⟩ ρ H (.vs (some b) k c) H :=
 Bn fun F w E hH hE=>by
  obtain⟨hu,j,hj,hs,_⟩:=DF hT;have h:=hE x AW;have h1:=hE y AW;rw[hx] at h;rw[hy] at h1;simp only[Bl,Bt] at h h1;have hszr:(sizeOf e).run P w= .ok sz w:=by simp[sizeOf,typeInfo,hj,hs]
  refine⟨.slice (some ⟨b,0,none⟩) k c,?_,by simp only[Bl]⟩;have hk2:¬((k:Int)<0):=by omega
  have hk3:¬((c:Int)<(k:Int)):=by omega
  simp[execOp,Instr.sliceAt,Sem.run_bind,run_underlying hu,h,h1,Instr.slice,Instr.sliceBounds,Instr.sliceBound,asIntOf,hszr,Addr.add_mid,hk]
end
end Go.Abs
namespace Go.Proofs.YtifphifongokcaaGreat
open Go.Abs Go.Eu
theorem _root_.Go.AI {α:Prop}(h:α:=by first | omega | (simp_all;done) | (simp_all;omega)):α:=h
theorem L6:∀(ok ov:Option Nat) (ck cv:Nat) (kn:List Bool) (vs:List Tm) (t:Tm),(KH kn vs t)→Bb Tryz.prog 58 [.vs ok (List.map Bp kn).length ck,.vs ov (Ay vs).length cv,.agg ((BQ t).map .p)] [.vec ok 1 (List.map Bp kn) ck,.vec ov 5 (Ay vs) cv] (Dz (.tup [.agg ((BQ (F8 kn vs t)).map .p),.p (.bool (decide ((CZ t (CN kn vs) 0).2=0)))]) [.vec ok 1 (List.map Bp kn) ck,.vec ov 5 (Ay vs) cv]):=by
 intro ok ov ck cv kn vs t h1;have hl1:=h1.len;have hl2:=h1.few;refine Aw Tryz.func58 O bK (n:=60) O O (Ar (A5 O (BF O) fun b5=>A5 O (Az Bj O) fun b6=>Ak As 1 [] O (Ar (Bu O (Al O (DP FC O (List.length_map _)) (Ak As 1 [] O (Ar (Bu O (Mk O O (Cf BP Bj O O Ag O O O Ah Ah Ah (OP (((kn.length:Nat):Int).toNat) (.mk 0 0 ⟨#[]⟩ [] []:Tm))) fun b17 cp=>Ak As 1 [] O (Am (Ar (Bu O (Al O (DP BP O (A8 _)) (Ak As 1 [] O (A1 ?_)))))))))))))));refine BZ (α:=Nat×Option Nat×Nat) (fun(i,o,cp1)=>⟨60,mk [(0,.vs ok (List.map Bp kn).length ck),(1,.vs ov (Ay vs).length cv),(5,.ptr b5 0),(6,.ptr b6 0),(8,.p (I (kn.length:Nat))),(9,.vs o (Ay ((CN kn vs).take i++List.replicate (kn.length - i) BH)).length cp1),(19,.p (I ((List.replicate (((kn.length:Nat):Int).toNat) (.mk 0 0 ⟨#[]⟩ [] []:Tm)).length:Nat))),(20,.p (I (i:Int)))],[.vec o 5 (Ay ((CN kn vs).take i++List.replicate (kn.length - i) BH)) cp1,.box b6 [.p (I 0),.p (I 0),.p (.str ⟨#[]⟩),.p (.nils),.p (.nils)],.box b5 ((BQ t).map .p),.vec ok 1 (List.map Bp kn) ck,.vec ov 5 (Ay vs) cv],[]⟩) (fun(i,o,cp1)=>kn.length - i) (fun(i,o,cp1)=>i≤kn.length) ⟨0,(some b17),cp⟩ AK ?_ ?_
 ·exact BM ⟨we O,we O,we O,we O,we O,we (H6 (List.replicate (((kn.length:Nat):Int).toNat) (.mk 0 0 ⟨#[]⟩ [] []:Tm)) (by simp[BH])),we O,we O,Aj⟩ (leH (is:=[0,1,2,3,4]) O (wl (EI (List.replicate (((kn.length:Nat):Int).toNat) (.mk 0 0 ⟨#[]⟩ [] []:Tm)) (by simp[BH])) (wl (oe O) (wl (oe O) (wl (oe O) (wl (oe O) (C8)))))))
 rintro⟨i,o,cp1⟩ hC
 try simp only at hC
 have hi:=hC;refine An As 1 [] O (Am (Ao O (fun c=>?_) (fun c=>?_)))
 ·(try simp only[sd,se] at c);refine Aq (Am (A1 (An As 2 [] O (Ar (Ap As 4 [] O (GO (i:=0) O AT fun b hb=>?_))))));subst hb;refine Al O (B0 BP O O Ah AP) (Al O (CA (i:=0) (j:=i) Bf O O O AP O O O O (Iv ((CN kn vs).take i++List.replicate (kn.length - i) BH) i (.mk 0 (i:Int) ⟨#[]⟩ [] []:Tm))) (BR O (An As 5 [] O (Am ?_))));obtain⟨j,hj⟩:∃j:Nat,(((kn.length:Nat):Int) - (1:Int):Int) - ((i:Int):Int)=(j:Int):=⟨kn.length - 1 - i,by omega⟩;rw[hj];have hj2:kn.length - 1 - i=j:=by omega
  have hin:i<kn.length:=by omega
  refine BO [0,1,5,6,8,9,10,11,19,20] 41 (fun y=>y= .p (.bool (kn.getD j false))) ?_ ?_
  ·refine Au (Ap As 2 [] O (GO (i:=3) O AT fun b1 hb1=>?_));subst hb1;refine Al O (B0 FC O O Ah AP) ?_;obtain⟨y,hy⟩:=A0 (l:=kn) (i:=j) AI;refine Al O (Ik (i:=3) Y7 O O (Gh hy)) (Bu O (BE 36 O (fun g=>?_) (fun g=>?_)))
   ·(try simp only[sd,se] at g);refine Ap As 2 [] O (BI O (DP BP O (A8 _)) (Ak As 2 [] O ?_));exact⟨rfl,rfl,AG,(by refine pB ?_;rw[List.getD_eq_getElem?_getD,hy];simp_all<;>omega),⟨rfl,rfl,rfl,rfl,rfl,rfl,rfl,rfl,rfl,rfl,trivial⟩⟩
   (try simp only[sd,se] at g);refine Ak As 5 [] O ?_;exact⟨rfl,rfl,AG,(by refine pB ?_;rw[List.getD_eq_getElem?_getD,hy];simp_all<;>omega),⟨rfl,rfl,rfl,rfl,rfl,rfl,rfl,rfl,rfl,rfl,trivial⟩⟩
  rintro _ rfl;refine Ao O (fun c1=>?_) (fun c1=>?_)
  ·(try simp only[sd,se] at c1);have hyes:=fun {y}=>MS (vs:=vs) (y:=y) hj2 c1;refine Au (Ap As 4 [] O (GO (i:=4) O AT fun b1 hb1=>?_));subst hb1;refine Al O (B0 BP O O Ah AP) ?_;obtain⟨y,hy⟩:=A0 (l:=vs) (i:=j) AI;refine Al O (Fg (i:=4) Bf O O (Be hy)) (Al O (B0 BP O O Ah AP) (Al O (CA (i:=0) (j:=i) Bf O O O AP O (F5 _) (A7 _) (Gf _) (Iv (((CN kn vs).take i++List.replicate (kn.length - i) BH).set i (.mk 0 (i:Int) ⟨#[]⟩ [] []:Tm)) i y)) (BR O (Au (Ak As 2 [] O ?_)))));refine⟨⟨i+1,(some b),cp1⟩,AN,by omega,BM ⟨we rfl,we rfl,we rfl,we rfl,we rfl,we (DU ((CN kn vs).take i++List.replicate (kn.length - i) BH) (by simp[D9];omega)),we rfl,we rfl,trivial⟩ (leH (is:=[0,1,2,3,4]) rfl (wl (EI ((((CN kn vs).take i++List.replicate (kn.length - i) BH).set i (.mk 0 (i:Int) ⟨#[]⟩ [] []:Tm)).set i y) (by first | (rw[List.set_set,←hyes hy];exact EP hin) | (rw[←hno];exact EP hin))) (wl (oe rfl) (wl (oe rfl) (wl (oe rfl) (wl (oe rfl) (C8)))))))⟩
  (try simp only[sd,se] at c1);have hno:=O6 (vs:=vs) hj2 (by simpa using c1);refine Aq (Au (Ak As 2 [] O ?_));refine⟨⟨i+1,(some b),cp1⟩,AN,by omega,BM ⟨we rfl,we rfl,we rfl,we rfl,we rfl,we (DU ((CN kn vs).take i++List.replicate (kn.length - i) BH) (by simp[D9];omega)),we rfl,we rfl,trivial⟩ (leH (is:=[0,1,2,3,4]) rfl (wl (EI (((CN kn vs).take i++List.replicate (kn.length - i) BH).set i (.mk 0 (i:Int) ⟨#[]⟩ [] []:Tm)) (by first | (rw[List.set_set,←hyes hy];exact EP hin) | (rw[←hno];exact EP hin))) (wl (oe rfl) (wl (oe rfl) (wl (oe rfl) (wl (oe rfl) (C8)))))))⟩
 (try simp only[sd,se] at c);generalize hK:(CN kn vs).take i++List.replicate (kn.length - i) BH=K;obtain rfl:K=CN kn vs:=by rw[←hK,List.take_of_length_le (by rw[D9];omega),show kn.length - i=0 by omega,List.replicate_zero,List.append_nil]
 refine Bc (Ar (CJ (CX (i:=0) [9] O (DV ⟨O,Aj⟩)) (Ap As 2 [1] O ?_)));refine Al O (BA O O (N2 t (CN kn vs) h1.nd h1.vp (by have:=h1.sz;omega) h1.snd h1.svp (fun v hv=>by have:=h1.ssz v hv;simp only[Cr];omega) (by have:=h1.slen;simp only[Cr];omega)) rfl) ?_;refine Ap As 3 [] O (A5 O (Az Bj O) fun b12=>Ak As 2 [0,1] O (Am (An As 2 [] O (Ao O (fun c1=>?_) (fun c1=>?_)))))
 ·(try simp only[sd,se] at c1);have hce:=c1;refine An As 3 [1,0] O (BK (Bm (i:=1) O) (Av (⟨O,_,_,⟨_,_,O,(BD (i:=1) Bf O O O),⟨_,_,O,O,O⟩⟩,(CM (is:=[3,4]) O),?_⟩)))
  all_goals exact⟨by show (.tup [.agg [.p (I 0),.p (I 0),.p (.str ⟨#[]⟩),.p (.lst []),.p (.lst [])],.p (.bool false)]:AV)=_;unfold F8;rw[if_neg hce,decide_eq_false hce];rfl,rfl⟩
 (try simp only[sd,se] at c1);have hce:=c1;refine Aq (An As 3 [0,1,1] O (Av (⟨O,_,_,⟨_,_,O,(BD (i:=1) Bf O O Aa),⟨_,_,O,O,O⟩⟩,(CM (is:=[3,4]) O),?_⟩)))
 all_goals exact⟨by show (.tup [.agg ((BQ ((CZ t (CN kn vs) 0).1)).map .p),.p (.bool true)]:AV)=_;unfold F8;rw[if_pos hce,decide_eq_true hce],rfl⟩
set_option maxHeartbeats 2000000 in
theorem Wu:∀(s sb:Nat) (ds:List Bx) (ok ov:Option Nat) (ck cv:Nat) (kn:List Bool) (vs:List Tm) (t:Tm),(KH kn vs t)→((CZ t (CN kn vs) 0).2=0)→(C3 ds)→(Tn ds (F8 kn vs t))→Bb Tryz.prog 125 [.ptr s 0,.agg ((BQ t).map .p)] [.box s [.ptr sb 0,.p (.lst (List.map Br ds)),.vs ok (List.map Bp kn).length ck,.vs ov (Ay vs).length cv],.vec ok 1 (List.map Bp kn) ck,.vec ov 5 (Ay vs) cv] (Dz (.tup [.agg ((BQ (F8 kn vs t)).map .p),.p (I 0)]) [.box s [.ptr sb 0,.p (.lst (List.map Br ds)),.vs ok (List.map Bp kn).length ck,.vs ov (Ay vs).length cv],.vec ok 1 (List.map Bp kn) ck,.vec ov 5 (Ay vs) cv]):=by
 intro s sb ds ok ov ck cv kn vs t h1 h2 h3 h4;refine Aw Tryz.func125 O eV (n:=32) O O (Ar (A5 O (BF O) fun b3=>A5 O (Az Bj O) fun b4=>Ak As 1 [] O (Am (Sm [.val (.ptr s 0),.val (.ptr s 0),.val (.ptr s (0+2)),.val (.vs ok (List.map Bp kn).length ck),.val (.ptr s 0),.val (.ptr s 0),.val (.ptr s (0+3)),.val (.vs ov (Ay vs).length cv),.val (.agg ((BQ t).map .p)),.val (.tup [.agg ((BQ (F8 kn vs t)).map .p),.p (.bool (decide ((CZ t (CN kn vs) 0).2=0)))]),.val (.tup [.agg ((BQ (F8 kn vs t)).map .p),.p (.bool (decide ((CZ t (CN kn vs) 0).2=0)))]),.val (.agg ((BQ (F8 kn vs t)).map .p)),.val (.p (.bool (decide ((CZ t (CN kn vs) 0).2=0)))),.new [.p (I 0),.p (I 0),.p (.str ⟨#[]⟩),.p (.nils),.p (.nils)]] [.p .any,.p (.bool (decide ((CZ t (CN kn vs) 0).2=0)))] [12] Eg O Ad Ad Ad ?_ ?_))))
 ·exact Aj
 refine DD O (fun Bs=>CF O) (DD O (fun Bs=>Cs O) (DD O (fun Bs=>A2 Ng O O) (DD O (fun Bs=>Bd (i:=Bs.length+2) VZ O (Du O) O) (DD O (fun Bs=>CF O) (DD O (fun Bs=>Cs O) (DD O (fun Bs=>A2 Ng O O) (DD O (fun Bs=>Bd (i:=Bs.length+2) NK O (Du O) O) (DD O (fun Bs=>Ba (i:=Bs.length+1) Bf O (Du O) Aa) (DD O (fun Bs=>VA [3,4] O (.inl ⟨O,O,O⟩) (L6 ok ov ck cv kn vs t h1) ⟨_,_,O,O,⟨_,_,O,O,O⟩⟩ Ag (aw (we O) (aw (we O) (aw (we O) (HX))))) (DD O (fun Bs=>CF O) (DD O (fun Bs=>FI O O) (DD O (fun Bs=>FI O O) (UY O (fun Bs=>Az Bj O) fun b6=>Uc ?_)))))))))))));refine LH [.box b6 ((BQ (F8 kn vs t)).map .p)] O (Bo (i:=0) Bf O O O Aa (by first | rfl | simp[A7]) (Gf _)) (LH [.box b6 ((BQ (F8 kn vs t)).map .p)] O (Fy O) (Ur (Am (An As 2 [] O (Ao O (fun c=>?_) (fun c=>?_))))))
 ·(try simp only[sd,se] at c);exfalso;simp[h2] at c
 (try simp only[sd,se] at c);refine Aq (Am (By (fun k=>false) Eg (BU As 5 [3,0] O (BG O (fun _=>BA O O (Sk ds (F8 kn vs t) h3 h4) O) Aj (B1 As 4 [1,1] O (Av (⟨O,_,_,⟨_,_,O,(BD (i:=1) Bf O O Aa),⟨_,_,O,O,O⟩⟩,(CM (is:=[3,4,5]) O),?_⟩)))))))
 all_goals exact⟨rfl,rfl⟩
theorem _root_.Go.AQ {α:Prop}(h:α:=by first | rfl | simp[IJ]):α:=h
theorem _root_.Go.AY {α:Prop}(h:α:=by simp[IJ]):α:=h
theorem UJ:∀(s b cs:Nat) (x:Tm×Tm),Bb Tryz.prog 103 [.ptr s 0] [.box s [.vs (some b) (List.map Bg [x]).length cs],.vec (some b) 10 (List.map Bg [x]) cs] (Dz (.agg ((Bg x).map .p)) [.box s [.vs (some b) 0 cs],.vec (some b) 10 (List.map Bg ([]:List (Tm×Tm))) cs]):=by
 intro s b cs x;have hx1:[x].length=1:=rfl;refine Aw Tryz.func103 O bu (n:=26) O O (Ar (A5 O (Az GG O) fun b2=>BR O (Am (By (fun k=>Nat.beq k 10) Eg (BU As 6 [1,1] O (BG O (fun _=>DP HW O (List.length_map _)) Aj (BG O (fun _=>JX O O Ah Ah) Aj (BG O (fun _=>B0 HW O O Ah Ai) Aj ?_))))))));obtain⟨y,hy⟩:=A0 (l:=[x]) (i:=((([x].length:Nat):Int) - (1:Int):Int).toNat) Ai;refine DC (j:=2) O O O (fun H i hi=>Fg (i:=i) Is O hi (Ja hy)) AB Aj (PU [] O O (Az GG O) Ad fun b3=>⟨AB,Aj,?_⟩);refine Eo O O (Bo (i:=0) Is O O O AY AQ (PF _)) AB Aj (El O Ad (Am (By (fun k=>false) Eg (BU As 7 [2,2] O (BG O (fun _=>DP HW O (List.length_map _)) Aj (BG O (fun _=>JX O O Ah Ah) Aj (BG O (fun _=>NT (k:=0) HW O (pI Ai) (Nat.zero_le _)) Aj (B1 As 2 [2,0] O (Ar (CJ (IT (i:=3) O (Z8 0)) (Al O (Ba (i:=0) Is O O AY) (Al O (Bo (i:=1) Is O O O AY AQ (PF _)) (BR O (Av (⟨O,_,_,⟨_,_,O,(BD (i:=1) Is O O AY),O⟩,(CM (is:=[2,3]) O),?_⟩)))))))))))))))
 all_goals exact⟨by show (.agg ((Bg y).map .p):AV)=_;rw[show x=y by simpa using hy],rfl⟩
theorem U9:∀(CC:List Ax→Prop) (l b1:Nat) (x:Tm×Tm) (T0:List Ax) (hyy:Em Tryz.prog l [.p (I 0),.agg ((Bg x).map .p)] T0 (Jw (.p (.bool true)) CC)),Bb Tryz.prog 147 [.fn (.yield l) [] [],.ptr b1 0] (.box b1 [.p (.lst (List.map Bg [x]))]::T0) (Jw (.tup []) (fun H=>∃T,CC T∧H= .box b1 [.p (.lst (List.map Bg [x]))]::T)):=by
 intro CC l b1 x T0 hyy;have hx1:[x].length=1:=rfl;refine Aw Tryz.func147 O dH (n:=19) O O (Ar (Al O (Bd (i:=0) YR O O O) (Al O (BB Km O (List.length_map _)) (Al O (JX O O Ah Ah) (Py O (BR O (A1 (BZ (α:=Nat×List Ax) (fun(m,U)=>⟨19,mk [(0,.fn (.yield l) [] []),(1,.ptr b1 0),(3,.p (I ((m:Int) - 1)))],(.box b1 [.p (.lst (List.map Bg [x]))]::U),[]⟩) (fun(m,U)=>m) (fun(m,U)=>(m=1∧U=T0)∨(m=0∧CC U)) ⟨1,T0⟩ (.inl ⟨O,O⟩) ?_ ?_))))))))
 ·exact BM ⟨we O,we O,we O,Aj⟩ (Qr [0] [_] (l':=[_]) O (wl (oe O) (C8)))
 rintro⟨m,U⟩ hC
 try simp only at hC
 refine Am (Ar (Bu O (Al O (SH O O O) (BR O (Ao O (fun c=>?_) (fun c=>?_))))))
 ·(try simp only[sd,se] at c);refine Aq (Am (A1 (Ar (Bu O (Bu O (Al O (Bd (i:=0) YR O O O) (Bu O ?_)))))));obtain⟨y,hy⟩:=A0 (l:=[x]) (i:=((m:Int) - 1:Int).toNat) Ah;refine Al O (A3 Km O O Ah (Ja hy) (IJ _)) (Al O (BL Is O (IJ _)) ?_);obtain⟨hm1,hU1⟩:m=1∧U=T0:=hC.elim id (fun h=>absurd h.1 Ah);have hxy:x=y:=by subst hm1;simpa using hy
  have hyz:Em Tryz.prog l [.p (I ((m:Int) - 1)),.agg ((Bg y).map .p)] U (Jw (.p (.bool true)) CC):=by rw[show ((m:Int) - 1)=0 by omega,hU1,←hxy];exact hyy
  refine Es [_] O O O O hyz O ?_ (fun _ _ h=>h.elim);rintro _ T ⟨rfl,hT⟩;refine Al O (S0 O) (BR O ?_);refine Ao O (fun c1=>by cases c1) (fun c1=>?_);refine Aq (Au (Bu O (Al O (JX O O Ah Ah) (Py O (BR O ?_)))));refine⟨⟨m - 1,T⟩,AN,.inr ⟨by omega,by assumption⟩,BM ⟨we rfl,we rfl,we (pI Ah),trivial⟩ (Qr [0] [_] (l':=[_]) rfl (wl (oe rfl) (C8)))⟩
 (try simp only[sd,se] at c);refine Bc ⟨O,_,_,O,(D4 [0] [_] O),?_⟩;have hK:CC U:=hC.elim (fun h=>absurd h.1 Ah) (fun h=>h.2);exact⟨O,_,hK,O⟩
theorem YH:∀(xs:List (Tm×Tm)),Bb Tryz.prog 124 [.p (.lst (List.map Bg xs))] [] (fun r H'=>∃b,r= .val (.fn (.func 147) [] [.ptr b 0])∧H'=[.box b [.p (.lst (List.map Bg xs))]]):=by
 intro xs;refine Aw Tryz.func124 O cD (n:=4) O O (Ar (A5 O (BF O) fun b1=>Py O (BR O (Ar (Al O (DZ O O) (Py O (BR O (Av (⟨O,_,_,⟨_,_,O,O,O⟩,(CM (is:=[0]) O),?_⟩)))))))));exact⟨_,O,O⟩
theorem XB:∀(s:Nat) (o0:Option Nat) (c0:Nat) (x:Tm×Tm),Bb Tryz.prog 101 [.ptr s 0,.p (.lst (List.map Bg [x]))] [.box s [.vs o0 (List.map Bg ([]:List (Tm×Tm))).length c0],.vec o0 10 (List.map Bg ([]:List (Tm×Tm))) c0] (fun r H'=>∃o cp,r= .val (.tup [])∧H'=[.box s [.vs o (List.map Bg [x]).length cp],.vec o 10 (List.map Bg [x]) cp]):=by
 intro s o0 c0 x;refine C9 Tryz.func101 O Yd (n:=18) O O (Ar (A5 O (BF O) fun b2=>BR O (Ar (Bu O ?_))));refine Hj [] O O O (.inl ⟨O,O,O⟩) (YH [x]) O Ai (aw (we O) HX) ?_ (fun _ _ ⟨_,h,_⟩=>by cases h);rintro _ _ ⟨bn,h,rfl⟩;cases h;refine BR O (A1 (Fu (.inr O) fun dd l L hL=>⟨_,_,CK (is:=[2,0,3,4,5]) Ag ⟨_,_,O,O,⟨_,_,O,O,⟨_,_,O,O,⟨_,_,O,O,⟨_,_,O,O,O⟩⟩⟩⟩⟩,?_⟩));have hyy:Em Tryz.prog l [.p (I 0),.agg ((Bg x).map .p)] [.loop l L,.box b2 [.ptr s 0],.box s [.vs o0 (List.map Bg ([]:List (Tm×Tm))).length c0],.vec o0 10 (List.map Bg ([]:List (Tm×Tm))) c0] (Jw (.p (.bool true)) (fun T:List Ax=>∃o cp,T=[.loop l L,.box b2 [.ptr s 0],.box s [.vs o (List.map Bg [x]).length cp],.vec o 10 (List.map Bg [x]) cp])):=by
  obtain⟨LB,hLB⟩:∃x,x=Ax.loop l { L with state:= .busy }:=⟨_,rfl⟩;subst hL;refine Gp (i:=0) O O O O (Au (A5 O (Az GG O) fun b5=>Al O (Bo (i:=0) Is O O O AY AQ (PF _)) (BR O ⟨O,1,O,?_⟩)));rw[←hLB];refine A1 (By (fun k=>Nat.beq k 6) Eg (DC (j:=2) O O O (fun H i hi=>Bd (i:=i) Sf O hi O) AB Aj (DC (j:=2) O O O (fun H i hi=>Bd (i:=i) Sf O hi O) AB Aj (BG O (fun _=>Cs O) Aj (DC (j:=3) O O O (fun H i hi=>Bd (i:=i) Sx O hi O) AB Aj (DC (j:=0) O O O (fun H i hi=>Ba (i:=i) Is O hi AY) AB Aj (BG O (fun _=>Bi (rows:=List.map Bg [x]) HW GG O O O O (CP (FH _)) (R2 _)) Aj (KU [] O O (Cb (i:=4) (rows':=List.map Bg [x]) HW HW GG O O O O O O (FH _) Ai (I2 (f:=Bg) ([]:List (Tm×Tm)) [x])) Ad fun o cp=>⟨AB,Aj,?_⟩))))))));refine BG O (fun _=>Cs O) Aj (Eo O O (EB (i:=3) Sx O O O O O O) AB Aj (El O Ad ?_));subst hLB;refine⟨1,_,O,CM (is:=[1,2,3,4]) O,?_⟩;exact⟨O,_,_,O⟩
 refine(U9 (fun T:List Ax=>∃o cp,T=[.loop l L,.box b2 [.ptr s 0],.box s [.vs o (List.map Bg [x]).length cp],.vec o 10 (List.map Bg [x]) cp]) l bn x _ hyy).mono ?_;rintro(v | v) H' hR
 rotate_left
 ·exact hR.elim
 obtain⟨rfl,_,⟨o,cp,rfl⟩,rfl⟩:=hR;subst hL;refine⟨1,_,O,Ai,?_⟩;refine⟨4,O,_,_,O,(CM (is:=[2,3]) O),?_⟩;exact⟨_,_,O,O⟩
end Go.Proofs.YtifphifongokcaaGreat
namespace Go.Eu
open Go.Abs
def QO (idx d:Int) (t:Tm):Prop:=t.kind=0∧wr (t.index - d)=idx∧d≤t.index
instance (idx d:Int) (t:Tm):Decidable (QO idx d t):=by unfold QO;infer_instance
def UZ (idx:Int) (_:Unit) (d:Int) (t:Tm):Unit×Bool:=((),!decide (QO idx d t))
def MN (idx:Int) (t:Tm):Bool:= !(Cy (UZ idx) t 0 ()).2
theorem W8 {i:Int}(h:0≤i∧i<1000):MN i (Cn i)=true:=by
 have:QO i 0 (Cn i):=⟨rfl,by show wr (i - 0)=i;exact(by rw[Int.sub_zero];exact DX ⟨by omega,by omega⟩),h.1⟩;rw[MN,Kw (t:=Cn i) (by simp[UZ,this])];rfl
def Dh (ds:List Bx):Prop:=∀nm,(Ca ds nm).2.2=true→UH (Ca ds nm).1
def gz (n:Nat):List Tm:=CN (List.replicate n false) (List.replicate n BH)
structure Kt (kn:List Bool) (vs:List Tm) (idx:Int) (t:Tm):Prop where
 len:kn.length=vs.length
 few:kn.length≤1000
 no:∀b∈kn,b=false
 lo:0≤idx
 sm:size t<1000000
 hi:idx<kn.length
 ok:okB t=true
 oc:MN idx t=false
 un:(CZ t (gz kn.length) 0).2=0
theorem Kt.nd {kn:List Bool}{vs:List Tm}{idx:Int}{t:Tm}(h:Kt kn vs idx t):Nd t:=(Da.1 h.ok).nd
theorem Kt.sz {kn:List Bool}{vs:List Tm}{idx:Int}{t:Tm}(h:Kt kn vs idx t):size t<1099511627776:=by have:=Ke h.ok;omega
theorem X5 {n:Nat}{t:Tm}(h:okB t=true) (hs:size t<1000000) (hn:n≤1000):KH (List.replicate n false) (List.replicate n BH) t:=by
 have q:=Da.1 h;refine⟨by simp,by simp;exact hn,q.nd,q.wt,q.vp,hs,?_,?_,?_,?_⟩<;>intro v hv<;>obtain rfl:=(List.mem_replicate.1 hv).2
 ·exact GU
 ·exact⟨O,fun e=>absurd e Ag,Aj⟩
 ·exact⟨fun _=>by omega,trivial⟩
 decide
theorem Jb (x:Tm×Tm):At (Bg x) 0 (BQ x.1):=by cases x;exact At.front
theorem JV (x:Tm×Tm):At (Bg x) 5 (BQ x.2):=by cases x;exact At.app (A7 _) At.all
theorem Cv (t:Tm):At (BQ t) 0 [I t.kind]:=by cases t;exact At.one
theorem Cq (t:Tm):At (BQ t) 1 [I t.index]:=by cases t;exact At.cons At.one
theorem Fe (d:RJ):At (HN d) 0 [.str d.name]:=At.one
theorem Fa (d:RJ):At (HN d) 1 [.str d.ctor]:=At.cons At.one
theorem EY (d:RJ):At (HN d) 2 [.lst (d.levels.map Bz)]:=At.cons (At.cons At.one)
theorem GB (d:RJ):At (HN d) 3 [.lst (Ay d.fields)]:=At.cons (At.cons (At.cons At.one))
structure Ev (ds:List Bx) (kn:List Bool) (vs:List Tm) (t a:Tm):Prop where
 rs:KH kn vs t
 un:(CZ t (CN kn vs) 0).2=0
 eq:F8 kn vs t=a
 ir:Tn ds a
theorem Ev.ok {ds:List Bx}{kn:List Bool}{vs:List Tm}{t a:Tm}(h:Ev ds kn vs t a):okB a=true:=h.ir.ok
theorem Pw {l:List CB}(h:l=[]):Nd (.mk 3 0 ⟨#[]⟩ l []):=by
 subst h;exact⟨by simp only[Cr];decide,by simp only[Cr];decide,by simp,by simp only[Cr];decide,trivial,⟨by decide,by decide⟩,⟨by decide,by decide⟩⟩
theorem Jg {a b:List Tm}{i:Nat}{x y:Tm}(hx:a[i]?=some x) (hy:b[i]?=some y):(a.take i).zip (b.take i)++[(x,y)]=(a.take (i+1)).zip (b.take (i+1)):=by
 have h1:=(List.getElem?_eq_some_iff.1 hx).1;have h2:=(List.getElem?_eq_some_iff.1 hy).1;rw[List.take_add_one,List.take_add_one,hx,hy,List.zip_append Ac];rfl
end Go.Eu
namespace Go.Proofs.YtifphifongokcaaGreat
open Go.Abs Go.Eu
theorem IA:∀(t:Tm) (idx:Int),(Nd t)→(size t<1099511627776)→(0≤idx)→Df Tryz.prog 149 [.agg ((BQ t).map .p),.p (I idx)] (.p (.bool (MN idx t))):=by
 intro t idx h1 h2 h3;refine C9 Tryz.func149 O ae (n:=30) O O (Ar (A5 O (BF O) fun b2=>A5 O (BF O) fun b3=>A5 O (Az bD O) fun b4=>BR O (Am (An As 2 [1] O (Ao O (fun c=>?_) (fun c=>?_))))))
 ·(try simp only[sd,se] at c);exfalso;omega
 (try simp only[sd,se] at c);refine Aq (Am (Ar (Al O (Ba (i:=2) Bf O O Aa) ?_)));refine Hj [] O O O (.inl ⟨O,O,O⟩) (QA t) O Ai (aw (we O) HX) ?_ (fun _ _ ⟨_,h,_⟩=>by cases h);rintro _ _ ⟨bn,h,rfl⟩;cases h;refine BR O (A1 (Fu (.inr O) fun dd l L hL=>⟨_,_,CK (is:=[2,0,3,4,5]) Ag ⟨_,_,O,O,⟨_,_,O,O,⟨_,_,O,O,⟨_,_,O,O,⟨_,_,O,O,O⟩⟩⟩⟩⟩,?_⟩));have hy:∀(m:Nat) (q:Unit) (d:Int) (tt:Tm) (T:List Ax),Nd tt→True→(fun(b:Bool) (_:Unit) (T:List Ax)=>T=if b=true then [.loop l L,.box b4 [.p (.bool false)],.box b3 [.p (I idx)],.box b2 ((BQ t).map .p)] else [.loop l { L with state:= .done,pending:=some .ret },.box b4 [.p (.bool true)],.box b3 [.p (I idx)],.box b2 ((BQ t).map .p)]) true q T→Em Tryz.prog l [.p (I d),TV tt] T (Jw (.p (.bool (UZ idx q d tt).2)) ((fun(b:Bool) (_:Unit) (T:List Ax)=>T=if b=true then [.loop l L,.box b4 [.p (.bool false)],.box b3 [.p (I idx)],.box b2 ((BQ t).map .p)] else [.loop l { L with state:= .done,pending:=some .ret },.box b4 [.p (.bool true)],.box b3 [.p (I idx)],.box b2 ((BQ t).map .p)]) (UZ idx q d tt).2 (UZ idx q d tt).1)):=by
  rintro m q d tt T hnd _ hT0;rw[if_pos rfl] at hT0;subst hT0;obtain⟨LB,hLB⟩:∃x,x=Ax.loop l { L with state:= .busy }:=⟨_,rfl⟩;subst hL;refine Gp (i:=0) O O O O (An As 1 [] O (Au (A5 O (Az Bj O) fun b6=>Ak As 1 [0,1] O ⟨O,1,O,?_⟩)));rw[←hLB];refine A1 (Am ?_);obtain⟨ttk,tti,ttn,ttl,tts⟩:=tt;refine BO [4] 29 (fun y=>y= .p (.bool ((((ttk:Int)==(0:Int))&&((wr ((tti:Int) - (d:Int)):Int)==(idx:Int)))&&(decide ((tti:Int)≥(d:Int)))))) ?_ ?_
  ·refine Au (Ap As 4 [0] O (BE 16 O (fun g=>?_) (fun g=>?_)))
   ·(try simp only[sd,se] at g);refine Ap As 3 [0] O (BI O (FF O O) (Ap As 4 [3] O (BE 24 O (fun g1=>?_) (fun g1=>?_))))
    ·(try simp only[sd,se] at g1);exact Ak As 5 [0] O (⟨O,O,AG,AF,⟨O,Aj⟩⟩)
    (try simp only[sd,se] at g1);exact Ak As 5 [] O (⟨O,O,AG,AF,⟨O,Aj⟩⟩)
   (try simp only[sd,se] at g);exact Ak As 13 [] O (⟨O,O,AG,AF,⟨O,Aj⟩⟩)
  rintro _ rfl;refine Ao O (fun c1=>?_) (fun c1=>?_)
  ·(try simp only[sd,se] at c1);refine An As 1 [2,0] O (Av ?_);subst hLB;refine⟨1,_,O,CM (is:=[1,2,3,4]) O,?_⟩;have hcc:QO idx d (.mk ttk tti ttn ttl tts):=by simpa [QO,Tm.kind,Tm.index,and_assoc] using c1
   exact⟨by simp[UZ,hcc],(if_neg (by simp[UZ,hcc])).symm⟩
  (try simp only[sd,se] at c1);refine Aq ?_;subst hLB;refine⟨1,_,O,CM (is:=[1,2,3,4]) O,?_⟩;have hcc:¬QO idx d (.mk ttk tti ttn ttl tts):=by simpa [QO,Tm.kind,Tm.index,and_assoc] using c1
  exact⟨by simp[UZ,hcc],(if_pos (by simp[UZ,hcc])).symm⟩
 refine(QX (UZ idx) (fun _ _=>True) (fun(b:Bool) (_:Unit) (T:List Ax)=>T=if b=true then [.loop l L,.box b4 [.p (.bool false)],.box b3 [.p (I idx)],.box b2 ((BQ t).map .p)] else [.loop l { L with state:= .done,pending:=some .ret },.box b4 [.p (.bool true)],.box b3 [.p (I idx)],.box b2 ((BQ t).map .p)]) l bn (fun _ _ _ _ _=>Aj) hy t () _ 0 h1 Ah Aj (if_pos O).symm).mono ?_;rintro(v | v) H' hR
 rotate_left
 ·exact hR.elim
 obtain⟨rfl,T1,hT,rfl⟩:=hR;subst hL;cases hF:(Cy (UZ idx) t 0 ()).2 with
 | false =>
  rw[hF,if_neg Ag] at hT;subst hT;refine L4 (i:=1) [.box bn ((BQ t).map .p),.box b4 [.p (.bool true)],.box b3 [.p (I idx)],.box b2 ((BQ t).map .p),.dfr dd] O Ai O O (Av (⟨4,O,_,_,⟨_,_,O,(EU (i:=1) Y7 O O),O⟩,(List.nil_sublist _),?_⟩))
  all_goals exact⟨by show (.p (.bool true):AV)=_;rw[MN,hF];rfl,rfl⟩
 | true =>
  rw[hF,if_pos rfl] at hT;subst hT;refine Kq (i:=1) [.box bn ((BQ t).map .p),.box b4 [.p (.bool false)],.box b3 [.p (I idx)],.box b2 ((BQ t).map .p),.dfr dd] O Ai O O (An As 1 [1,0] O (Av (⟨4,O,_,_,⟨_,_,O,(EU (i:=1) Y7 O O),O⟩,(List.nil_sublist _),?_⟩)))
  all_goals exact⟨by show (.p (.bool false):AV)=_;rw[MN,hF];rfl,rfl⟩
theorem _root_.Go.AR {α:Prop}(h:α:=by first | rfl | simp[OL]):α:=h
theorem _root_.Go.AZ {α:Prop}(h:α:=by simp[OL]):α:=h
theorem W5:∀(bl bs bi bx s sb:Nat) (a2 a3:AV) (ds:List Bx) (n idx:Int) (t:Tm),(C3 ds)→(okB t=true)→(Dh ds)→(1≤n∧n≤100000000)→(Ci ds t=none)→Bb Tryz.prog 181 [.agg ((BQ t).map .p),.ptr bl 0,.ptr bs 0,.ptr bi 0,.ptr bx 0] [.box bl [.p (I n)],.box bs [.ptr s 0],.box bi [.p (I idx)],.box s [.ptr sb 0,.p (.lst (List.map Br ds)),a2,a3]] (Dz (.tup [.p (.bool false),.p (I 0)]) [.box bl [.p (I (n - 1))],.box bs [.ptr s 0],.box bi [.p (I idx)],.box s [.ptr sb 0,.p (.lst (List.map Br ds)),a2,a3]]):=by
 intro bl bs bi bx s sb a2 a3 ds n idx t h1 h2 h3 h4 h5;have hd1:(Ci ds t).getD Ms=Ms:=by rw[h5];rfl
 have hd2:(Ci ds t).isSome=false:=by rw[h5];rfl
 refine Aw Tryz.func181 O Yi (n:=81) O O (Ar (A5 O (BF O) fun b5=>Ak As 2 [] O (Am (An As 2 [1] O (Ao O (fun c=>?_) (fun c=>?_))))))
 ·(try simp only[sd,se] at c);omega
 (try simp only[sd,se] at c);refine Aq (An As 3 [1,1,0] O (Ar (Ap As 2 [2,0] O (Al O (Bq [4] O (.inl ⟨O,O,O⟩) (PQ s sb ds a2 a3 t h1 h2 h3) ⟨_,_,O,O,O⟩ Ag O (.inl O)) (Ap As 4 [] O (A5 O (Az Lx O) fun b8=>Al O (Bo (i:=0) Il O O O AZ AR (IS _)) (Ak As 2 [] O (Am (Am (BO [2,3,4,8,10] 33 (fun y=>y= .p (.bool ((!((Ci ds t).isSome))&&true))) ?_ ?_))))))))))
 ·refine Au (Ap As 3 [] O (BE 30 O (fun g=>?_) (fun g=>?_)))
  ·(try simp only[sd,se] at g);exact Ak As 3 [] O (⟨O,O,AG,AF,⟨O,O,O,O,O,Aj⟩⟩)
  (try simp only[sd,se] at g);exact Ak As 3 [] O (⟨O,O,AG,AF,⟨O,O,O,O,O,Aj⟩⟩)
 rintro _ rfl;refine Ao O (fun c1=>?_) (fun c1=>?_)
 ·(try simp only[sd,se] at c1);refine An As 3 [] O (Av (⟨O,_,_,⟨_,_,O,O,⟨_,_,O,O,O⟩⟩,(CM (is:=[2,3,4,5]) O),?_⟩))
  all_goals exact⟨rfl,rfl⟩
 (try simp only[sd,se] at c1);exfalso;simp[hd2] at c1
set_option maxHeartbeats 2000000 in
theorem WM:∀(bl bs bi bx s sb:Nat) (a2 a3:AV) (ds:List Bx) (n idx:Int) (t:Tm) (nm cm:ByteArray) (ls:List CB),(C3 ds)→(okB t=true)→(Dh ds)→(1≤n∧n≤100000000)→(Ci ds t=some ⟨nm,cm,ls,[Cn idx]⟩)→(0≤idx∧idx<1000)→Bb Tryz.prog 181 [.agg ((BQ t).map .p),.ptr bl 0,.ptr bs 0,.ptr bi 0,.ptr bx 0] [.box bl [.p (I n)],.box bs [.ptr s 0],.box bi [.p (I idx)],.box s [.ptr sb 0,.p (.lst (List.map Br ds)),a2,a3]] (Dz (.tup [.p (.bool true),.p (I 0)]) [.box bl [.p (I (n - 1))],.box bs [.ptr s 0],.box bi [.p (I idx)],.box s [.ptr sb 0,.p (.lst (List.map Br ds)),a2,a3]]):=by
 intro bl bs bi bx s sb a2 a3 ds n idx t nm cm ls h1 h2 h3 h4 h5 h6;have hd1:(Ci ds t).getD Ms=⟨nm,cm,ls,[Cn idx]⟩:=by rw[h5];rfl
 have hd2:(Ci ds t).isSome=true:=by rw[h5];rfl
 refine Aw Tryz.func181 O Yi (n:=81) O O (Ar (A5 O (BF O) fun b5=>Ak As 2 [] O (Am (An As 2 [1] O (Ao O (fun c=>?_) (fun c=>?_))))))
 ·(try simp only[sd,se] at c);omega
 (try simp only[sd,se] at c);refine Aq (An As 3 [1,1,0] O (Ar (Ap As 2 [2,0] O (Al O (Bq [4] O (.inl ⟨O,O,O⟩) (PQ s sb ds a2 a3 t h1 h2 h3) ⟨_,_,O,O,O⟩ Ag O (.inl O)) (Ap As 4 [] O (A5 O (Az Lx O) fun b8=>Al O (Bo (i:=0) Il O O O AZ AR (IS _)) (Ak As 2 [] O (Am (Am (BO [2,3,4,8,10] 33 (fun y=>y= .p (.bool ((!((Ci ds t).isSome))&&true))) ?_ ?_))))))))))
 ·refine Au (Ap As 3 [] O (BE 30 O (fun g=>?_) (fun g=>?_)))
  ·(try simp only[sd,se] at g);exact Ak As 3 [] O (⟨O,O,AG,AF,⟨O,O,O,O,O,Aj⟩⟩)
  (try simp only[sd,se] at g);exact Ak As 3 [] O (⟨O,O,AG,AF,⟨O,O,O,O,O,Aj⟩⟩)
 rintro _ rfl;refine Ao O (fun c1=>?_) (fun c1=>?_)
 ·(try simp only[sd,se] at c1);exfalso;simp[hd2] at c1
 (try simp only[sd,se] at c1);refine Aq (Am (Ar (Al O (A2 Ie O O) ?_)));generalize hz:(Ci ds t).getD Ms=z;obtain⟨zn,zc,zl,zf⟩:=z;obtain⟨rfl,rfl,rfl,hzf⟩:zn=nm∧zc=cm∧zl=ls∧zf=[Cn idx]:=by rw[hd1] at hz;injection hz with e1 e2 e3 e4;exact⟨e1.symm,e2.symm,e3.symm,e4.symm⟩
 have hzl:zf.length=1:=by rw[hzf];rfl
 refine Al O (Bd (i:=0) NK O O O) (Al O (BB BP O (A8 _)) (Ak As 1 [] O (A1 (BZ (α:=Nat) (fun k2=>⟨81,mk [(2,.ptr bs 0),(3,.ptr bi 0),(4,.ptr bx 0),(36,.p (.lst (Ay zf))),(37,.p (I (zf.length:Nat))),(38,.p (I 0))],[.box bl [.p (I ((n:Int) - (1:Int)))],.box bs [.ptr s 0],.box bi [.p (I idx)],.box s [.ptr sb 0,.p (.lst (List.map Br ds)),a2,a3]],[]⟩) (fun k2=>k2) (fun k2=>True) 0 AK ?_ ?_))))
 ·exact BM ⟨we O,we O,we O,we O,we O,we O,Aj⟩ (leH (is:=[2,3,4,5]) O (wl (oe O) (wl (oe O) (wl (oe O) (wl (oe O) (C8))))))
 rintro k2 hC
 try simp only at hC
 refine An As 1 [] O (Am (Ao O (fun c2=>?_) (fun c2=>?_)))
 ·(try simp only[sd,se] at c2);refine Aq (Am (A1 (Ar ?_)));obtain⟨x,hx⟩:=A0 (l:=zf) (i:=0) Ah;have hxe:x=Cn idx:=by rw[hzf] at hx;simpa using hx.symm
  have hxo:MN idx x=true:=by rw[hxe];exact W8 h6
  have hxi:Tn ds x:=by rw[hxe];exact⟨(G6 ds h6).ok,(G6 ds h6).len,.inl (G6 ds h6)⟩
  have hxs:size x<1000:=by rw[hxe];simp[Cn,size,BC]
  refine Al O (A3 BP O O Ah (Be hx) (A7 _)) (Al O (BL Bf O (A7 _)) (A5 O (Az Bj O) fun b12=>Ak As 1 [0,1] O (Am (Ar (Ap As 2 [0,3] O (Al O (BA O O (IA x idx hxi.nd Ah h6.1) O) (Ak As 1 [] O (Ao O (fun c3=>?_) (fun c3=>?_)))))))))
  ·(try simp only[sd,se] at c3);exfalso;simp[hxo] at c3
  (try simp only[sd,se] at c3);refine Aq (Am (Sm [.val (.ptr s 0),.val (.ptr s 0),.val (.ptr s (0+1)),.val (.p (.lst (List.map Br ds))),.val (.agg ((BQ x).map .p)),.val (.tup [.agg ((BQ x).map .p),.p (I 0)]),.val (.tup [.agg ((BQ x).map .p),.p (I 0)]),.val (.agg ((BQ x).map .p)),.val (.p (I 0)),.new [.p (I 0),.p (I 0),.p (.str ⟨#[]⟩),.p (.nils),.p (.nils)]] [.p .any,.p (I 0)] [8] Eg O Ad Ad Ad ?_ ?_))
  ·exact Aj
  refine DD O (fun Bs=>Bd (i:=Bs.length+2) cw O (Du O) O) (DD O (fun Bs=>Cs O) (DD O (fun Bs=>A2 Ng O O) (DD O (fun Bs=>Bd (i:=Bs.length+4) cY O (Du O) O) (DD O (fun Bs=>Ba (i:=Bs.length+0) Bf O (Du O) Aa) (DD O (fun Bs=>BA O O (Sk ds x h1 hxi) O) (DD O (fun Bs=>CF O) (DD O (fun Bs=>FI O O) (DD O (fun Bs=>FI O O) (UY O (fun Bs=>Az Bj O) fun b13=>Uc (LH [.box b13 ((BQ x).map .p)] O (Bo (i:=0) Bf O O O Aa (by first | rfl | simp[A7]) (Gf _)) (LH [.box b13 ((BQ x).map .p)] O (Fy O) (Ur (Am (An As 2 [] O ?_))))))))))))));refine Ao O (fun c4=>by cases c4) (fun c4=>?_);refine Aq (Am (Am ?_));obtain⟨xk,xi,xn,xl,xs⟩:=x;injection hxe with q1 q2 q3 q4 q5;refine BO [2,3,4,13,36,37,38] 66 (fun y=>y= .p (.bool (((xk:Int)==(0:Int))&&((xi:Int)==(idx:Int))))) ?_ ?_
  ·refine Au (Ap As 4 [0] O (BE 61 O (fun g=>?_) (fun g=>?_)))
   ·(try simp only[sd,se] at g);exact Ak As 5 [0,4] O (⟨O,O,AG,AF,⟨O,O,O,O,O,O,O,Aj⟩⟩)
   (try simp only[sd,se] at g);exact Ak As 5 [] O (⟨O,O,AG,AF,⟨O,O,O,O,O,O,O,Aj⟩⟩)
  rintro _ rfl;refine Ao O (fun c5=>?_) (fun c5=>?_)
  ·(try simp only[sd,se] at c5);refine An As 2 [] O (Av (⟨O,_,_,⟨_,_,O,O,⟨_,_,O,O,O⟩⟩,(CM (is:=[2,3,4,5]) O),?_⟩))
   all_goals exact⟨rfl,rfl⟩
  (try simp only[sd,se] at c5);exfalso;simp[q1,q2] at c5
 (try simp only[sd,se] at c2);exfalso;omega
theorem Y8:∀(s sb:Nat) (a2 a3:AV) (ds:List Bx) (idx:Int) (t:Tm),(C3 ds)→(okB t=true)→(Dh ds)→(Ci ds t=none)→Bb Tryz.prog 150 [.ptr s 0,.p (I idx),.agg ((BQ t).map .p)] [.box s [.ptr sb 0,.p (.lst (List.map Br ds)),a2,a3]] (Dz (.tup [.p (.bool false),.p (I 0)]) [.box s [.ptr sb 0,.p (.lst (List.map Br ds)),a2,a3]]):=by
 intro s sb a2 a3 ds idx t h1 h2 h3 h4;refine Aw Tryz.func150 O YS (n:=16) O O (Ar (A5 O (BF O) fun b3=>A5 O (BF O) fun b4=>A5 O (BF O) fun b5=>Ak As 2 [] O (Ar (A5 O (Az dR O) fun b8=>Ak As 1 [0,0] O (Ar (A5 O (Az YM O) fun b9=>BR O (An As 2 [0,0] O (Ar (Ap As 2 [0,2] O (Al O (Bq [1,4,3,5] O (.inr O) (W5 b8 b3 b4 b9 s sb a2 a3 ds 100000 idx t h1 h2 h3 Ah h4) ⟨_,_,O,O,⟨_,_,O,O,⟨_,_,O,O,⟨_,_,O,O,O⟩⟩⟩⟩ Ag O (.inl O)) (Ak As 4 [] O (Av (⟨O,_,_,⟨_,_,O,O,⟨_,_,O,O,O⟩⟩,(CM (is:=[5]) O),?_⟩)))))))))))))
 all_goals exact⟨rfl,rfl⟩
theorem Yz:∀(s sb:Nat) (a2 a3:AV) (ds:List Bx) (idx:Int) (t:Tm) (nm cm:ByteArray) (ls:List CB),(C3 ds)→(okB t=true)→(Dh ds)→(Ci ds t=some ⟨nm,cm,ls,[Cn idx]⟩)→(0≤idx∧idx<1000)→Bb Tryz.prog 150 [.ptr s 0,.p (I idx),.agg ((BQ t).map .p)] [.box s [.ptr sb 0,.p (.lst (List.map Br ds)),a2,a3]] (Dz (.tup [.p (.bool true),.p (I 0)]) [.box s [.ptr sb 0,.p (.lst (List.map Br ds)),a2,a3]]):=by
 intro s sb a2 a3 ds idx t nm cm ls h1 h2 h3 h4 h5;refine Aw Tryz.func150 O YS (n:=16) O O (Ar (A5 O (BF O) fun b3=>A5 O (BF O) fun b4=>A5 O (BF O) fun b5=>Ak As 2 [] O (Ar (A5 O (Az dR O) fun b8=>Ak As 1 [0,0] O (Ar (A5 O (Az YM O) fun b9=>BR O (An As 2 [0,0] O (Ar (Ap As 2 [0,2] O (Al O (Bq [1,4,3,5] O (.inr O) (WM b8 b3 b4 b9 s sb a2 a3 ds 100000 idx t nm cm ls h1 h2 h3 Ah h4 h5) ⟨_,_,O,O,⟨_,_,O,O,⟨_,_,O,O,⟨_,_,O,O,O⟩⟩⟩⟩ Ag O (.inl O)) (Ak As 4 [] O (Av (⟨O,_,_,⟨_,_,O,O,⟨_,_,O,O,O⟩⟩,(CM (is:=[5]) O),?_⟩)))))))))))))
 all_goals exact⟨rfl,rfl⟩
theorem ZR:∀(s sb:Nat) (ds:List Bx) (ok ov:Option Nat) (ck cv:Nat) (kn:List Bool) (vs:List Tm) (idx:Int) (t:Tm),(C3 ds)→(okB t=true)→(Dh ds)→(0≤idx∧idx<1000)→(MN idx t=true)→(Ci ds t=none)→Bb Tryz.prog 126 [.ptr s 0,.p (I idx),.agg ((BQ t).map .p)] [.box s [.ptr sb 0,.p (.lst (List.map Br ds)),.vs ok (List.map Bp kn).length ck,.vs ov (Ay vs).length cv],.vec ok 1 (List.map Bp kn) ck,.vec ov 5 (Ay vs) cv] (Dz (.p (I 19)) [.box s [.ptr sb 0,.p (.lst (List.map Br ds)),.vs ok (List.map Bp kn).length ck,.vs ov (Ay vs).length cv],.vec ok 1 (List.map Bp kn) ck,.vec ov 5 (Ay vs) cv]):=by
 intro s sb ds ok ov ck cv kn vs idx t h1 h2 h3 h4 h5 h6;have hst:=Ke h2;have hnt:=(Da.1 h2).nd;refine Aw Tryz.func126 O UP (n:=121) O O (Ar (A5 O (BF O) fun b5=>Ak As 1 [] O (Am (Ar (Ap As 2 [0] O (Al O (BA O O (IA t idx hnt Ah h4.1) O) (BR O (Ao O (fun c=>?_) (fun c=>?_)))))))))
 ·(try simp only[sd,se] at c);refine Ar (Ap As 3 [0] O (Al O (Bq [1] O (.inl ⟨O,O,O⟩) (Y8 s sb (.vs ok (List.map Bp kn).length ck) (.vs ov (Ay vs).length cv) ds idx t h1 h2 h3 h6) ⟨_,_,O,O,O⟩ Ag O (.inl O)) (Ak As 5 [] O (Am (A1 (An As 3 [] O ?_))))));refine Ao O (fun c1=>by cases c1) (fun c1=>?_);refine An As 2 [] O ?_;refine Ao O (fun c2=>by cases c2) (fun c2=>?_);refine Aq (An As 1 [] O (Av (⟨O,_,_,⟨_,_,O,O,O⟩,(CM (is:=[1,2,3]) O),?_⟩)))
  all_goals exact⟨rfl,rfl⟩
 (try simp only[sd,se] at c);exfalso;simp[h5] at c
theorem ZQ:∀(s sb:Nat) (ds:List Bx) (ok ov:Option Nat) (ck cv:Nat) (kn:List Bool) (vs:List Tm) (idx:Int) (t:Tm) (nm cm:ByteArray) (ls:List CB),(C3 ds)→(okB t=true)→(Dh ds)→(0≤idx∧idx<1000)→(MN idx t=true)→(Ci ds t=some ⟨nm,cm,ls,[Cn idx]⟩)→Bb Tryz.prog 126 [.ptr s 0,.p (I idx),.agg ((BQ t).map .p)] [.box s [.ptr sb 0,.p (.lst (List.map Br ds)),.vs ok (List.map Bp kn).length ck,.vs ov (Ay vs).length cv],.vec ok 1 (List.map Bp kn) ck,.vec ov 5 (Ay vs) cv] (Dz (.p (I 20)) [.box s [.ptr sb 0,.p (.lst (List.map Br ds)),.vs ok (List.map Bp kn).length ck,.vs ov (Ay vs).length cv],.vec ok 1 (List.map Bp kn) ck,.vec ov 5 (Ay vs) cv]):=by
 intro s sb ds ok ov ck cv kn vs idx t nm cm ls h1 h2 h3 h4 h5 h6;have hst:=Ke h2;have hnt:=(Da.1 h2).nd;refine Aw Tryz.func126 O UP (n:=121) O O (Ar (A5 O (BF O) fun b5=>Ak As 1 [] O (Am (Ar (Ap As 2 [0] O (Al O (BA O O (IA t idx hnt Ah h4.1) O) (BR O (Ao O (fun c=>?_) (fun c=>?_)))))))))
 ·(try simp only[sd,se] at c);refine Ar (Ap As 3 [0] O (Al O (Bq [1] O (.inl ⟨O,O,O⟩) (Yz s sb (.vs ok (List.map Bp kn).length ck) (.vs ov (Ay vs).length cv) ds idx t nm cm ls h1 h2 h3 h6 h4) ⟨_,_,O,O,O⟩ Ag O (.inl O)) (Ak As 5 [] O (Am (A1 (An As 3 [] O ?_))))));refine Ao O (fun c1=>by cases c1) (fun c1=>?_);refine An As 2 [] O ?_;refine Ao O (fun c2=>?_) (fun c2=>by cases c2);refine An As 1 [] O (Av (⟨O,_,_,⟨_,_,O,O,O⟩,(CM (is:=[1,2,3]) O),?_⟩))
  all_goals exact⟨rfl,rfl⟩
 (try simp only[sd,se] at c);exfalso;simp[h5] at c
end Go.Proofs.YtifphifongokcaaGreat
namespace Go.Abs
section
variable {P:Program}{H:List Ax}{dst:Option Tmp}{ty:TypeId}{pos:String}{aft:Array Edge}{g:Option (Nat×Bool)}{ρ:Operand→AV}{x y:Operand}
theorem KN {T e:TypeId}{sz bytes:Nat}(hT:DY P T=some (e,sz,bytes)):Co P ⟨dst,.buildSlice T 0 #[],ty,pos,aft,g⟩ ρ H (.p (.lstc [])) H :=
 F3 fun F w E hH hE=>by
  obtain⟨hu,i,hi,hs,hby⟩:=DF hT;refine⟨.slice (some ⟨w.heap.size,0,none⟩) 0 0,_,.p (.lstc []),H,F,?_,⟨O,O⟩,K6 H (.cells ⟨[]⟩ e (0,0)),MR hH _,by simp only[Bl,Bt];exact .inl ⟨trivial,_,rfl⟩⟩;have hszr:(sizeOf e).run P w= .ok sz w:=by simp[sizeOf,typeInfo,hi,hs]
  simp only[execOp,Instr.buildSlice,Sem.run_bind,run_underlying hu,Result.andThen_ok,hszr];rw[if_neg Ah];simp only[Sem.run_pure,Result.andThen_ok,Sem.run_bind,pure_bind,Nat.zero_mul,if_true];have e0:(Array.map (fun x=>(#[]:Array Value)[x % (#[]:Array Value).size]!) (Array.range 0))=(⟨[]⟩:Array Value):=by simp
  rw[e0];simp only[Array.map_empty,Instr.fill,newRow,newObj,Sem.run_bind,Sem.run,Result.andThen,Sem.run_pure];rfl
end
inductive Yc where
 | val (v:AV)
 | skip
 | new (cs:List AV)
 | newv (sz:Nat) (rows:List (List PV))
 | dep (j:Nat) (f:Nat×Nat→AV)
def Yc.v (b:Nat×Nat):Yc→AV
 | .val v=>v
 | .skip=> .tup []
 | .new _=> .ptr b.1 0
 | .newv _ rows=> .vs (some b.1) rows.length b.2
 | .dep _ _=> .tup []
def Ln (β:Nat→Nat×Nat) (k:Nat) (b:Nat×Nat):Nat→Nat×Nat:=fun j=>if j=k then b else β j
def Yc.w (β:Nat→Nat×Nat) (k:Nat):Yc→AV
 | .dep j f=>f (β j)
 | e=>e.v (β k)
def Yc.box (b:Nat×Nat):Yc→List Ax
 | .new cs=>[.box b.1 cs]
 | .newv sz rows=>[.vec (some b.1) sz rows b.2]
 | _=>[]
def XD (P:Program) (ops:Array Oper) (H₀:List Ax) (β:Nat→Nat×Nat) (o:Oper) (τ:Nat→AV):Yc→Prop
 | .val v=>CL ops ⟨0,τ,[],[]⟩ o∧∀Bs,Co P o (ev τ) (Bs++H₀) v (Bs++H₀)
 | .skip=>∃j want d,o.guard=some (j,want)∧(ops[j]?).bind (·.dst)=some d∧WA (τ d) want
 | .new cs=>o.guard=none∧∀Bs,CW P o (ev τ) (Bs++H₀) (FK cs (Bs++H₀))
 | .newv sz rows=>o.guard=none∧∀Bs,CW P o (ev τ) (Bs++H₀) (Ga sz rows (Bs++H₀))
 | .dep j f=>j∈Cx o∧CL ops ⟨0,τ,[],[]⟩ o∧∀Bs,Co P o (ev τ) (Bs++H₀) (f (β j)) (Bs++H₀)
def YW (P:Program) (ops:Array Oper) (H₀:List Ax):(Nat→Nat×Nat)→Nat→(Nat→AV)→List Yc→((Nat→AV)→List Ax→Prop)→Prop
 | _,_,τ,[],K=>K τ []
 | β,k,τ,e::r,K=>∃o,ops[k]?=some o∧XD P ops H₀ β o τ e∧∀b,YW P ops H₀ (Ln β k b) (k+1) (put τ o.dst (e.w (Ln β k b) k)) r (fun τ' Hs=>K τ' (e.box b++Hs))
def J4 (β:Nat→Nat×Nat):Nat→List Yc→List Sp
 | _,[]=>[]
 | k,e::r=> .free (e.w β k)::J4 β (k+1) r
def UQ (β:Nat→Nat×Nat):Nat→List Yc→List Ax
 | _,[]=>[]
 | k,e::r=>e.box (β k)++UQ β (k+1) r
def IY (β:Nat→Nat×Nat) (l:Nat→Bool):Nat→List Yc→List Ax
 | _,[]=>[]
 | k,e::r=>(if l k=true then e.box (β k) else [])++IY β l (k+1) r
theorem Ld (β:Nat→Nat×Nat):∀(r:List Yc) (k j:Nat),j<r.length→(J4 β k r).getD j .skip= .free ((r.getD j .skip).w β (k+j))
 | [],k,j,h=>by simp at h
 | e::r,k,0,h=>by simp[J4]
 | e::r,k,j+1,h=>by
  have:=Ld β r (k+1) j (by simpa using h);simp only[J4,List.getD_cons_succ];rw[this,show k+1+j=k+(j+1) by omega]
theorem Ry (β:Nat→Nat×Nat):∀(r:List Yc) (k:Nat),(J4 β k r).length=r.length
 | [],k=>rfl
 | e::r,k=>by simp[J4,Ry β r (k+1)]
theorem Sq (β:Nat→Nat×Nat) {r:List Yc}{k j:Nat}(h:r.length≤j):(J4 β k r).getD j .skip= .skip:=by
 rw[List.getD_eq_getElem?_getD,List.getElem?_eq_none (by rw[Ry];exact h)];rfl
theorem WV (β:Nat→Nat×Nat) (r:List Yc) (k j:Nat):((J4 β k r).getD j .skip).isEff=false:=by
 rcases Nat.lt_or_ge j r.length with h | h
 ·rw[Ld β r k j h];rfl
 rw[Sq β h];rfl
theorem Va (β:Nat→Nat×Nat) (r:List Yc) (k j:Nat) (ob:List Ax) (v:AV):(J4 β k r).getD j .skip≠ .read ob v:=by
 rcases Nat.lt_or_ge j r.length with h | h
 ·rw[Ld β r k j h];simp
 rw[Sq β h];simp
theorem LX (β:Nat→Nat×Nat) {r:List Yc}{j:Nat}(h:j<r.length):((J4 β 0 r).getD j .skip).val=(r.getD j .skip).w β j:=by
 rw[Ld β r 0 j h,Nat.zero_add];rfl
theorem Sv {β β':Nat→Nat×Nat}{k:Nat}{e:Yc}(hk:β k=β' k) (hd:∀j f,e= .dep j f→β j=β' j):e.w β k=e.w β' k:=by
 cases e with
 | dep j f=>simp only[Yc.w];rw[hd j f rfl]
 | _=>simp only[Yc.w,hk]
theorem YW.facts {P:Program}{ops:Array Oper}{H₀:List Ax}{τ:Nat→AV}{base:List Yc}(hb0:∀i o j,ops[i]?=some o→j∈Cx o→j<i) (β:Nat→Nat×Nat):∀(r:List Yc) (k:Nat) (βk:Nat→Nat×Nat) (τk:Nat→AV) (K:(Nat→AV)→List Ax→Prop),(∀i,i<k→βk i=β i)→base.drop k=r→k+r.length=base.length→τk=τS ops (J4 β 0 base) τ k→YW P ops H₀ βk k τk r K →
  (∀j,k≤j→j<base.length→∃o,ops[j]?=some o∧XD P ops H₀ β o (τS ops (J4 β 0 base) τ j) (base.getD j .skip))∧K (τS ops (J4 β 0 base) τ base.length) (UQ β k r)
 | [],k,βk,τk,K,hβ,hd,hk,ht,h=>by
  simp only[List.length_nil,Nat.add_zero] at hk;subst hk;exact⟨fun j h1 h2=>by omega,by rw[←ht];exact h⟩
 | e::r,k,βk,τk,K,hβ,hd,hk,ht,h=>by
  obtain⟨o,ho,hok,hn⟩:=h;simp only[List.length_cons] at hk;have hb:base.getD k .skip=e:=by
   have:(base.drop k)[0]?=some e:=by rw[hd];rfl
   rw[List.getElem?_drop] at this;rw[List.getD_eq_getElem?_getD,show k=k+0 by omega,this];rfl
  have hd2:base.drop (k+1)=r:=by
   rw[←List.drop_drop,hd];rfl
  have hu:∀i,i<k+1→Ln βk k (β k) i=β i:=by
   intro i hi;unfold Ln;split
   ·rename_i e1;rw[e1]
   exact hβ i Ah
  have hdj:∀j f,e= .dep j f→j<k:=by
   intro j f e1;subst e1;exact hb0 k o j ho hok.1
  have hw:e.w (Ln βk k (β k)) k=e.w β k:=Sv (hu k Ah) fun j f e1=>hu j (by have:=hdj j f e1;omega);have hok2:XD P ops H₀ β o τk e:=by
   cases e with
   | dep j f=>obtain⟨a,b,c⟩:=hok;exact⟨a,b,by rw[←hβ j (hdj j f rfl)];exact c⟩
   | _=>exact hok
  obtain⟨h1,h2⟩:=YW.facts (τ:=τ) (base:=base) hb0 β r (k+1) _ _ _ hu hd2 Ah (by simp only[τS,ho,Option.bind_some];rw[LX β Ah,hb,←ht,hw]) (hn (β k));refine⟨fun j hj hl=>?_,h2⟩;by_cases e2:j=k
  ·subst e2;exact⟨o,ho,by rw[hb,←ht];exact hok2⟩
  exact h1 j Ah hl
theorem JF {β β':Nat→Nat×Nat}{l l':Nat→Bool}:∀(r:List Yc) (k:Nat),(∀j,k≤j→l j=l' j∧(l j=true→β j=β' j))→IY β l k r=IY β' l' k r
 | [],k,h=>rfl
 | e::r,k,h=>by
  simp only[IY];obtain⟨h1,h2⟩:=h k (Nat.le_refl _);rw[JF r (k+1) fun j hj=>h j Ah,←h1];cases hl:l k
  ·rfl
  rw[h2 hl]
theorem QL {β:Nat→Nat×Nat}{l:Nat→Bool}{i:Nat}{b:Nat×Nat}(hi:l i=false):∀(r:List Yc) (k:Nat),k≤i→i<k+r.length→((r.getD (i - k) .skip).box b++IY β l k r).Perm (IY (fun j=>if j=i then b else β j) (fun j=>l j||j==i) k r)
 | [],k,h1,h2=>by simp at h2;omega
 | e::r,k,h1,h2=>by
  simp only[IY];by_cases hk:k=i
  ·subst hk;simp only[hi,Bool.false_eq_true,if_false,List.nil_append,Nat.sub_self,List.getD_cons_zero,beq_self_eq_true,Bool.or_true,if_true];rw[JF (β':=fun j=>if j=k then b else β j) (l':=fun j=>l j||j==k) r (k+1) fun j hj=>⟨by simp[show (j==k)=false by simp;omega],fun _=>by rw[if_neg Ah]⟩]
  have hp:=QL (β:=β) hi r (k+1) (b:=b) Ah (by simp only[List.length_cons] at h2;omega);have e1:(e::r).getD (i - k) .skip=r.getD (i - (k+1)) .skip:=by
   rw[show i - k=(i - (k+1))+1 by omega];rfl
  have e2:(if (l k||k==i)=true then e.box (if k=i then b else β k) else [])=(if l k=true then e.box (β k) else []):=by
   rw[if_neg hk];simp[hk]
  rw[e1,e2];refine List.Perm.trans ?_ (hp.append_left _);rw[←List.append_assoc,←List.append_assoc];exact List.perm_append_comm.append_right _
theorem QF {β:Nat→Nat×Nat}{l:Nat→Bool}:∀(r:List Yc) (k:Nat),(∀j,k≤j→j<k+r.length→l j=true)→IY β l k r=UQ β k r
 | [],k,h=>rfl
 | e::r,k,h=>by
  simp only[IY,UQ];rw[if_pos (h k (Nat.le_refl _) Ai),QF r (k+1) fun j h1 h2=>h j Ah (by simp only[List.length_cons];omega)]
theorem Nc {β:Nat→Nat×Nat}{l:Nat→Bool}:∀(r:List Yc) (k:Nat),(∀j,l j=false)→IY β l k r=[]
 | [],k,h=>rfl
 | e::r,k,h=>by simp only[IY];rw[Nc r (k+1) h,h k];rfl
theorem Sl {P:Program}{r:Option Nat}{ops:Array Oper}{id n:Nat}{τ:Nat→AV}{H:List Ax}{D:List Cu}{Q:B7→BJ→Prop}(base:List Yc) (hm:P.follows .mixedOrders=true)
  (he:Nat.ble base.length ops.size=true) (chk:Jt ops n []=true) (late:VP ops base.length=true) (h:YW P ops H (fun _=>(0,0)) 0 τ base (fun τ' Hs=>AL P r ops base.length ⟨n,τ',Hs++H,D⟩ Q)):FJ P r (.region id ops true) ⟨n,τ,H,D⟩ Q:=by
 intro F₀ a₀ w₀ hs₀;rw[Nat.ble_eq] at he;refine wpIn_region_any hm ?_;have same:Cd F₀ w₀ F₀ { w₀ with drawn:=w₀.drawn+1 }:=⟨Nat.le_refl _,fun _ _ _=>rfl,fun _ h _=>h⟩;have t₀:Trans F₀ H w₀ F₀ H { w₀ with drawn:=w₀.drawn+1 } :=
  ⟨Nat.le_refl _,fun _ _ _=>rfl,fun _ h _=>h,fun _ h=> .inl h,fun o ho b hb=> .inl ⟨o,ho,hb⟩,rfl,rfl,rfl⟩
 have hs₁:Ck F₀ ⟨n,τ,H,D⟩ a₀ { w₀ with drawn:=w₀.drawn+1 } :=
  ⟨hs₀.size,fun t=>Bl.mono same _ _ (hs₀.tmp t),hs₀.heap.stable' same (fun _ h=>h) (fun _ _ _ _=>rfl) hs₀.heap.bd,DW.mono same _ _ hs₀.defs⟩
 obtain⟨hdst,c0,c1,c2,_⟩:=IQ chk;have hd:∀β,Kp P ops n (fun _=>False) τ H (J4 β 0 base):=fun β =>
  ⟨hdst,fun _ _ _ h=>h.elim,c0,c1,c2,fun i k _ _ h _=>(by rw[WV] at h;cases h),fun i e ob v _ _ _ h _ _=>absurd h (Va β base 0 i ob v)⟩
 have hE:∀β,(∀j,j<base.length→∃o,ops[j]?=some o∧XD P ops H β o (τS ops (J4 β 0 base) τ j) (base.getD j .skip))∧AL P r ops base.length ⟨n,τS ops (J4 β 0 base) τ base.length,UQ β 0 base++H,D⟩ Q:=fun β=>by
  obtain⟨h1,h2⟩:=YW.facts (base:=base) c0 β base 0 _ τ _ (fun i hi=>by omega) Ai Ai rfl h;exact⟨fun j hj=>h1 j (Nat.zero_le _) hj,h2⟩
 -- where all of the first part has been carried out,the rest goes in the order of the text
 have conv:∀{l:Array Bool} {a w β τ' F Hb},(∀j,j<base.length→l.getD j false=true)→(∀k,base.length≤k→l.getD k false=false)→Dv ops (J4 β 0 base) τ (fun i=>l.getD i false=true) τ'→Hb.Perm (IY β (fun k=>l.getD k false) 0 base)→Ck F ⟨n,τ',Hb++H,D⟩ a w→Trans F₀ H w₀ F (Hb++H) w →
   wpOpsIn (W r) 0 P ops (post F₀ H w₀ Q) (List.range' base.length (ops.size - base.length)) a w:=by
  intro l a w β τ' F Hb hall hno hτ hp hs ht;have hτe:τ'=τS ops (J4 β 0 base) τ base.length:=by
   funext t;have h2:=IB (hd β) base.length he t;by_cases hw:∃(k:Nat) (o':Oper),ops[k]?=some o'∧o'.dst=some t∧k<base.length
   ·obtain⟨k,o',ho',hk,hlt⟩:=hw;rw[(hτ t).1 k o' ho' hk (hall k hlt),h2.1 k o' ho' hk hlt]
   have hw':∀(k:Nat) o',ops[k]?=some o'→o'.dst=some t→¬k<base.length:=fun k o' h1 h2 h3=>hw ⟨k,o',h1,h2,h3⟩;rw[(hτ t).2 fun k o' h1 h2 h3=>(by have h4:l.getD k false=true:=h3;have:=hno k (by have:=hw' k o' h1 h2;omega);rw[this] at h4;cases h4),h2.2 fun k o' h1 h2 h3=>hw' k o' h1 h2 h3]
  rw[QF base 0 fun j _ hj=>hall j Ah] at hp;have hp2:=hp.append_right H;have:=(hE β).2 F a w (by rw[←hτe];exact⟨hs.size,hs.tmp,hs.heap.perm hp2,hs.defs⟩);refine C2 (fun e a' w' hq=>?_) _ _ _ this;exact Dw hs₀.heap.bd { ht with keys:=fun o ho=>ht.keys o (hp2.mem_iff.2 ho) } hq
 refine IH (I:=fun l a w=>l.size=ops.size∧((∃β τ' F Hb,Down ops (fun i=>l.getD i false=true)∧(∀k,base.length≤k→l.getD k false=false)∧Dv ops (J4 β 0 base) τ (fun i=>l.getD i false=true) τ'∧Hb.Perm (IY β (fun k=>l.getD k false) 0 base)∧Ck F ⟨n,τ',Hb++H,D⟩ a w∧Trans F₀ H w₀ F (Hb++H) w) ∨
  (∃m,base.length≤m∧m≤ops.size∧(∀k,k<ops.size→(l.getD k false=true↔k<m))∧wpOpsIn (W r) 0 P ops (post F₀ H w₀ Q) (List.range' m (ops.size - m)) a w))) (fun l a w h=>h.1) ?_ ?_ _ _ _ _ ?_ ?_
 ·rintro l a w ⟨hsz,hI⟩ i hi;obtain⟨hun,o,ho,hall⟩:=mem_ready.1 hi;have hlt:i<ops.size:=by
   rcases Nat.lt_or_ge i ops.size with h | h
   ·exact h
   simp[Array.getElem?_eq_none h] at ho
  have hil:i<l.size:=by omega
  have hnot:l.getD i false=false:=by
   have:l[i]=false:=by simpa [hil] using hun
   simp[hil,this]
  have hr:∀j∈Cx o,l.getD j false=true:=by
   intro j hj;simp only[Cx,List.mem_map,List.mem_filter] at hj;obtain⟨e,⟨he,hb⟩,rfl⟩:=hj;exact hall e (by simpa using he) hb
  have hset:∀k,(l.setIfInBounds i true).getD k false=true↔(l.getD k false=true∨k=i):=by
   intro k;by_cases hk:k=i
   ·subst hk;simp[hil]
   simp[Array.getElem?_setIfInBounds_ne (Ne.symm hk),hk]
  have hset2:∀k,(l.setIfInBounds i true).getD k false=(l.getD k false||k==i):=by
   intro k;by_cases hk:k=i
   ·subst hk;simp[hil]
   simp[Array.getElem?_setIfInBounds_ne (Ne.symm hk),hk]
  have hsz':(l.setIfInBounds i true).size=ops.size:=by simp[hsz]
  have goLate:∀m,i=m→base.length≤m→m≤ops.size→(∀k,k<ops.size→(l.getD k false=true↔k<m))→wpOpsIn (W r) 0 P ops (post F₀ H w₀ Q) (List.range' m (ops.size - m)) a w →
    wpOpIn (W r) 0 P ops (post F₀ H w₀ Q) i (fun a w=>(l.setIfInBounds i true).size=ops.size∧((∃β τ' F Hb,Down ops (fun k=>(l.setIfInBounds i true).getD k false=true)∧(∀k,base.length≤k→(l.setIfInBounds i true).getD k false=false)∧Dv ops (J4 β 0 base) τ (fun k=>(l.setIfInBounds i true).getD k false=true) τ'∧Hb.Perm (IY β (fun k=>(l.setIfInBounds i true).getD k false) 0 base)∧Ck F ⟨n,τ',Hb++H,D⟩ a w∧Trans F₀ H w₀ F (Hb++H) w) ∨
     (∃m,base.length≤m∧m≤ops.size∧(∀k,k<ops.size→((l.setIfInBounds i true).getD k false=true↔k<m))∧wpOpsIn (W r) 0 P ops (post F₀ H w₀ Q) (List.range' m (ops.size - m)) a w))) a w:=by
   intro m him h1 h2 h3 hw;subst him;rw[Fo hlt,wpOpsIn_cons] at hw;refine wpOpIn_mono (fun a' w' h'=>⟨hsz',.inr ⟨i+1,by omega,by omega,fun k hk=>?_,h'⟩⟩) hw;rw[hset k,h3 k hk];omega
  rcases hI with ⟨β,τ',F,Hb,hdown,hno,hτ,hp,hs,ht⟩ | ⟨m,hm1,hm2,hm3,hw⟩
  ·rcases Nat.lt_or_ge i base.length with hib | hib
   ·-- of the first part
    obtain⟨o',ho',hok⟩:=(hE β).1 i hib;rw[ho] at ho';injection ho' with ho';subst ho';have hlook:∀t∈looks ops o,τ' t=τS ops (J4 β 0 base) τ i t:=fun t ht=>II (hd β) hdown hτ ho (by rw[hnot];decide) hr ht;have hops:∀x∈o.op.operands.toList,ev τ' x=ev (τS ops (J4 β 0 base) τ i) x:=by
     intro x hx;cases x with
     | tmp t=>exact hlook t (List.mem_append_left _ (List.mem_filterMap.2 ⟨.tmp t,hx,rfl⟩))
     | _=>rfl
    have hguard:∀j want d,o.guard=some (j,want)→(ops[j]?).bind (·.dst)=some d→τ' d=τS ops (J4 β 0 base) τ i d:=by
     intro j want d hg hj;refine hlook d (List.mem_append_right _ ?_);simp[hg,hj]
    have hdown':Down ops (fun k=>(l.setIfInBounds i true).getD k false=true):=by
     intro k o' j ho' hk hj;rcases (hset k).1 hk with h | h
     ·exact(hset j).2 (.inl (hdown k o' j ho' h hj))
     subst h;rw[ho] at ho';injection ho' with ho';subst ho';exact(hset j).2 (.inl (hr j hj))
    have hno':∀k,base.length≤k→(l.setIfInBounds i true).getD k false=false:=by
     intro k hk;rw[hset2 k,hno k hk];simp;omega
    generalize hbe:base.getD i .skip=e at hok;have close:∀{a' w' F' b H'},H'=e.box b++(Hb++H)→Ck F' ⟨n,put τ' o.dst (e.w (Ln β i b) i),H',D⟩ a' w'→Trans F (Hb++H) w F' H' w' →
      (l.setIfInBounds i true).size=ops.size∧((∃β τ' F Hb,Down ops (fun k=>(l.setIfInBounds i true).getD k false=true)∧(∀k,base.length≤k→(l.setIfInBounds i true).getD k false=false)∧Dv ops (J4 β 0 base) τ (fun k=>(l.setIfInBounds i true).getD k false=true) τ'∧Hb.Perm (IY β (fun k=>(l.setIfInBounds i true).getD k false) 0 base)∧Ck F ⟨n,τ',Hb++H,D⟩ a' w'∧Trans F₀ H w₀ F (Hb++H) w') ∨
       (∃m,base.length≤m∧m≤ops.size∧(∀k,k<ops.size→((l.setIfInBounds i true).getD k false=true↔k<m))∧wpOpsIn (W r) 0 P ops (post F₀ H w₀ Q) (List.range' m (ops.size - m)) a' w')):=by
     intro a' w' F' b H' hH h3 h4;subst hH;refine⟨hsz',.inl ⟨Ln β i b,put τ' o.dst (e.w (Ln β i b) i),F',e.box b++Hb,hdown',hno',?_,?_,by rw[List.append_assoc];exact h3,by rw[List.append_assoc];exact ht.trans hs₀.heap.bd h4⟩⟩
     ·have hτ2:Dv ops (J4 (Ln β i b) 0 base) τ (fun k=>l.getD k false=true) τ':=by
       intro t;refine⟨fun k o' a1 a2 a3=>?_,(hτ t).2⟩;have a4:l.getD k false=true:=a3;have hki:k≠i:=fun e=>by subst e;rw[hnot] at a4;cases a4
       rw[(hτ t).1 k o' a1 a2 a3];rcases Nat.lt_or_ge k base.length with hk | hk
       ·rw[LX _ hk,LX _ hk];refine Sv (by simp[Ln,hki]) fun j f e1=>?_;obtain⟨o2,ho2,hok2⟩:=(hE β).1 k hk;rw[e1] at hok2;have hj:l.getD j false=true:=hdown k o2 j ho2 a4 hok2.1;have hji:j≠i:=fun e=>by subst e;rw[hnot] at hj;cases hj
        simp[Ln,hji]
       have:=hno k hk;rw[this] at a4;cases a4
      have hτ3:=hτ2.put (hd _) ho;rw[LX _ hib,hbe] at hτ3;intro t;exact⟨fun k o' a1 a2 a3=>(hτ3 t).1 k o' a1 a2 ((hset k).1 a3),fun hn=>(hτ3 t).2 fun k o' a1 a2 a3=>hn k o' a1 a2 ((hset k).2 a3)⟩
     have h1:=QL (β:=β) (l:=fun k=>l.getD k false) (i:=i) (b:=b) hnot base 0 (Nat.zero_le _) Ah;rw[Nat.sub_zero,hbe] at h1;refine(hp.append_left _).trans (h1.trans (List.Perm.of_eq ?_));exact JF base 0 fun j _=>⟨(hset2 j).symm,fun _=>O⟩
    have wants:CL ops ⟨0,τS ops (J4 β 0 base) τ i,[],[]⟩ o→CL ops ⟨n,τ',Hb++H,D⟩ o:=by
     intro h;unfold CL at *;cases hg:o.guard with
     | none=>simp[hg]
     | some jw =>
      obtain⟨j,want⟩:=jw;simp only[hg] at h ⊢;obtain⟨d,h1,h2⟩:=h;exact⟨d,h1,by rw[←h2];exact hguard j want d hg h1⟩
    have yields:CL ops ⟨n,τ',Hb++H,D⟩ o→CW P o (ev (τS ops (J4 β 0 base) τ i)) (Hb++H) (fun r H'=>match r with | .val v=>∃b,v=e.w (Ln β i b) i∧H'=e.box b++(Hb++H) | .panic _=>False)→wpOpIn (W r) 0 P ops (post F₀ H w₀ Q) i (fun a' w'=>(l.setIfInBounds i true).size=ops.size∧((∃β τ' F Hb,Down ops (fun k=>(l.setIfInBounds i true).getD k false=true)∧(∀k,base.length≤k→(l.setIfInBounds i true).getD k false=false)∧Dv ops (J4 β 0 base) τ (fun k=>(l.setIfInBounds i true).getD k false=true) τ'∧Hb.Perm (IY β (fun k=>(l.setIfInBounds i true).getD k false) 0 base)∧Ck F ⟨n,τ',Hb++H,D⟩ a' w'∧Trans F₀ H w₀ F (Hb++H) w') ∨
       (∃m,base.length≤m∧m≤ops.size∧(∀k,k<ops.size→((l.setIfInBounds i true).getD k false=true↔k<m))∧wpOpsIn (W r) 0 P ops (post F₀ H w₀ Q) (List.range' m (ops.size - m)) a' w'))) a w:=by
     intro hwant hop;unfold wpOpIn;simp only[ho,Fj hs hwant,if_true];have hw:=hop r F _ a w hs rfl (fun x hx=>hops x hx) (fun t ht=>hdst i o t ho ht);unfold Oper.wpIn at *;refine⟨hw.1,?_⟩;replace hw:=hw.2;generalize (o.semAt (W r).round a.eval).run P w=rr at *;cases rr with
     | ok nx w' =>
      cases nx<;>simp only[Oper.uponIn] at hw ⊢
      case value u=>obtain⟨v',H'',F',⟨b,h1,h2⟩,h3,h4⟩:=hw;subst h1;exact close h2 h3 h4
      case skip=>obtain⟨v',H'',F',⟨b,h1,h2⟩,h3,h4⟩:=hw;subst h1;exact close h2 h3 h4
      case defer d=>obtain⟨v',H'',F',⟨b,h1,h2⟩,h3,h4⟩:=hw;subst h1;exact close h2 h3 h4
      case enter f args =>
       refine⟨hw.1,hw.2.mono fun e w'' he=>?_⟩;cases e with
       | returned u=>obtain⟨v',H'',F',⟨b,h1,h2⟩,h3,h4⟩:=he;subst h1;exact close h2 h3 h4
       | panicked c=>obtain⟨_,_,_,_,h,_⟩:=he;exact h.elim
       | outgrown=>obtain⟨_,_,_,_,_,_,h,_⟩:=he;exact h.elim
      case row row args=>exact⟨hw.1,hw.2.mono fun u w'' h=>by obtain⟨v',H'',F',⟨b,h1,h2⟩,h3,h4⟩:=h;subst h1;exact close h2 h3 h4⟩
      case round l' f tmps assign body =>
       refine⟨hw.1,hw.2.mono fun e w'' he=>?_⟩;cases e with
       | returned u=>obtain⟨v',H'',F',⟨b,h1,h2⟩,h3,h4⟩:=he;subst h1;exact close h2 h3 h4
       | panicked c=>obtain⟨_,_,_,_,h,_⟩:=he;exact h.elim
       | outgrown=>obtain⟨_,_,_,_,_,_,h,_⟩:=he;exact h.elim
     | halt x w' =>
      cases x<;>simp only[Oper.uponIn] at hw ⊢
      case panic u=>obtain⟨_,_,_,_,h,_⟩:=hw;exact h.elim
    cases e with
    | val v=>exact yields (wants hok.1) ((hok.2 Hb).mono (by
      intro r H' hR;cases r with
      | val v'=>obtain⟨rfl,rfl⟩:=hR;exact⟨(0,0),rfl,rfl⟩
      | panic v'=>exact hR.elim))
    | dep j f=>exact yields (wants hok.2.1) ((hok.2.2 Hb).mono (by
      intro r H' hR;cases r with
      | val v' =>
       obtain⟨rfl,rfl⟩:=hR;have hji:j≠i:=fun e=>by have:=c0 i o j ho hok.1;omega
       exact⟨(0,0),by simp[Yc.w,Ln,hji],rfl⟩
      | panic v'=>exact hR.elim))
    | new cs =>
     refine yields (by unfold CL;rw[hok.1];trivial) ((hok.2 _).mono ?_);intro r H' hR;cases r with
     | val v'=>obtain⟨b,rfl,rfl⟩:=hR;exact⟨(b,0),by simp[Yc.w,Yc.v,Ln],rfl⟩
     | panic v'=>exact hR.elim
    | newv sz rows =>
     refine yields (by unfold CL;rw[hok.1];trivial) ((hok.2 _).mono ?_);intro r H' hR;cases r with
     | val v'=>obtain⟨b,c,rfl,rfl⟩:=hR;exact⟨(b,c),by simp[Yc.w,Yc.v,Ln],rfl⟩
     | panic v'=>exact hR.elim
    | skip =>
     obtain⟨j,want,d,hg,hj,hb⟩:=hok;have hw:Region.wanted o (yielded ops a.tmps)=false:=HY (S:=⟨n,τ',Hb++H,D⟩) hs hg hj (by show WA (τ' d) want;rw[hguard j want d hg hj];exact hb);unfold wpOpIn;simp only[ho,hw,Bool.false_eq_true,if_false];refine⟨fun _ _=>Aj,close (b:=(0,0)) O ?_ .refl⟩;exact hs.put (fun t ht=>hdst i o t ho ht) ⟨Nat.le_refl _,fun _ _ _=>O,fun _ h _=>h⟩ hs.heap (by simp only[Yc.w,Yc.v,Bl,BY,undef];exact⟨[],rfl,rfl⟩)
   -- the first of the rest
   have hpre:∀j,j<i→l.getD j false=true:=by
    intro j hj;have hpi:=HM late hib hlt hj;have:∀{a b},Pred ops a b→b=i→l.getD a false=true:=by
     intro a b hab
     induction hab with
     | base ho' hj=>intro e;subst e;rw[ho] at ho';injection ho' with ho';subst ho';exact hr _ hj
     | trans p1 _ _ ih2=>intro e;exact hdown.pred p1 (ih2 e)
    exact this hpi O
   have hie:i=base.length:=by
    rcases Nat.lt_or_ge base.length i with h | h
    ·have h1:=hpre base.length h;rw[hno base.length (Nat.le_refl _)] at h1;cases h1
    omega
   refine goLate base.length hie (Nat.le_refl _) he (fun k hk=>⟨fun h=>?_,fun h=>hpre k Ah⟩) (conv (fun j hj=>hpre j Ah) hno hτ hp hs ht);rcases Nat.lt_or_ge k base.length with h' | h'
   ·exact h'
   rw[hno k h'] at h;cases h
  have hmi:m≤i:=by
   rcases Nat.lt_or_ge i m with h | h
   ·have:=(hm3 i hlt).2 h;rw[hnot] at this;cases this
   exact h
  have him:i=m:=by
   rcases Nat.lt_or_ge m i with h | h
   ·have hpi:=HM late (by omega:base.length≤i) hlt h;have hdown:∀{a b},Pred ops a b→b=i→l.getD a false=true:=by
     intro a b hab
     induction hab with
     | base ho' hj=>intro e;subst e;rw[ho] at ho';injection ho' with ho';subst ho';exact hr _ hj
     | @trans a k b p1 p2 _ ih2 =>
      intro e;have hk:=ih2 e;have hks:k<ops.size:=by
       rcases Nat.lt_or_ge k ops.size with h | h
       ·exact h
       have:l.getD k false=false:=by
        have:¬k<l.size:=by omega
        simp[this]
       rw[this] at hk;cases hk
      have hkm:=(hm3 k hks).1 hk;have hak:a<k:=Pred.lt (hd fun _=>(0,0)) p1;exact(hm3 a Ah).2 Ah
    have:=(hm3 m Ah).1 (hdown hpi rfl);omega
   omega
  exact goLate m him hm1 hm2 hm3 hw
 ·rintro l a w ⟨hsz,hI⟩ hr;have hall:∀i,i<ops.size→l.getD i false=true:=by
   intro i
   induction i using Nat.strongRecOn with
   | _ i ih =>
    intro hi;cases hq:l.getD i false with
    | true=>rfl
    | false =>
     have ho:ops[i]?=some ops[i]:=Array.getElem?_eq_getElem hi;have:i∈Region.ready .any ops l:=by
      refine mem_ready.2 ⟨?_,ops[i],ho,?_⟩
      ·have:i<l.size:=by omega
       simp[this] at hq ⊢;exact hq
      intro e he hb;have hj:e.on∈Cx ops[i]:=by
       simp only[Cx,List.mem_map,List.mem_filter];exact⟨e,⟨by simpa using he,hb⟩,rfl⟩
      have hlt:=c0 i _ _ ho hj;exact ih e.on hlt Ah
     rw[hr] at this;cases this
  rcases hI with ⟨β,τ',F,Hb,hdown,hno,hτ,hp,hs,ht⟩ | ⟨m,hm1,hm2,hm3,hw⟩
  ·have hbs:base.length=ops.size:=by
    rcases Nat.lt_or_ge base.length ops.size with h | h
    ·have:=hall base.length h;rw[hno base.length (Nat.le_refl _)] at this;cases this
    omega
   have:=conv (fun j hj=>hall j Ah) hno hτ hp hs ht;rw[hbs,Nat.sub_self] at this;exact this
  have hms:m=ops.size:=by
   rcases Nat.lt_or_ge m ops.size with h | h
   ·have:=(hm3 m h).1 (hall m h);omega
   omega
  rw[hms,Nat.sub_self] at hw;exact hw
 ·refine⟨by simp,.inl ⟨fun _=>(0,0),τ,F₀,[],?_,?_,?_,?_,hs₁,t₀⟩⟩
  ·intro i o j ho hi;by_cases h:i<ops.size<;>simp[h] at hi
  ·intro k _;by_cases h:k<ops.size<;>simp[h]
  ·intro t;refine⟨fun k o ho hk hl=>?_,fun _=>O⟩;by_cases h:k<ops.size<;>simp[h] at hl
  rw[Nc base 0 fun j=>by by_cases h:j<ops.size<;>simp[h]]
 have:=List.length_filter_le (fun b:Bool=> !b) (Array.replicate ops.size false).toList;simp at this ⊢
section
variable {P:Program}{ops:Array Oper}{H₀:List Ax}{β:Nat→Nat×Nat}{k:Nat}{τ:Nat→AV}{r:List Yc}{K:(Nat→AV)→List Ax→Prop}{dst:Option Tmp}{op:Op}{ty:TypeId}{pos:String}{aft:Array Edge}{v:AV}
theorem D5 (ho:ops[k]?=some ⟨dst,op,ty,pos,aft,none⟩) (h:∀Bs,Co P ⟨dst,op,ty,pos,aft,none⟩ (ev τ) (Bs++H₀) v (Bs++H₀)) (next:∀b,YW P ops H₀ (Ln β k b) (k+1) (put τ dst v) r K):YW P ops H₀ β k τ (.val v::r) K :=
 ⟨_,ho,⟨trivial,h⟩,fun b=>next b⟩
theorem aL {cs:List AV}(ho:ops[k]?=some ⟨dst,op,ty,pos,aft,none⟩) (h:∀Bs,CW P ⟨dst,op,ty,pos,aft,none⟩ (ev τ) (Bs++H₀) (FK cs (Bs++H₀))) (next:∀b:Nat×Nat,YW P ops H₀ (Ln β k b) (k+1) (put τ dst (.ptr b.1 0)) r (fun τ' Hs=>K τ' (.box b.1 cs::Hs))):YW P ops H₀ β k τ (.new cs::r) K :=
 ⟨_,ho,⟨rfl,h⟩,fun b=>by have:=next b;simpa [Yc.w,Yc.v,Yc.box,Ln] using this⟩
theorem LQ {sz:Nat}{rows:List (List PV)}(ho:ops[k]?=some ⟨dst,op,ty,pos,aft,none⟩) (h:∀Bs,CW P ⟨dst,op,ty,pos,aft,none⟩ (ev τ) (Bs++H₀) (Ga sz rows (Bs++H₀))) (next:∀b:Nat×Nat,YW P ops H₀ (Ln β k b) (k+1) (put τ dst (.vs (some b.1) rows.length b.2)) r (fun τ' Hs=>K τ' (.vec (some b.1) sz rows b.2::Hs))):YW P ops H₀ β k τ (.newv sz rows::r) K :=
 ⟨_,ho,⟨rfl,h⟩,fun b=>by have:=next b;simpa [Yc.w,Yc.v,Yc.box,Ln] using this⟩
theorem Z9 {j:Nat}{f:Nat×Nat→AV}(ho:ops[k]?=some ⟨dst,op,ty,pos,aft,none⟩) (hj:(Cx ⟨dst,op,ty,pos,aft,none⟩).contains j=true) (hk:Nat.blt j k=true) (hv:f (β j)=v) (h:∀Bs,Co P ⟨dst,op,ty,pos,aft,none⟩ (ev τ) (Bs++H₀) v (Bs++H₀)) (next:∀b,YW P ops H₀ (Ln β k b) (k+1) (put τ dst v) r K):YW P ops H₀ β k τ (.dep j f::r) K :=
 ⟨_,ho,⟨by simpa using hj,trivial,by rw[hv];exact h⟩,fun b=>by
  rw[Nat.blt_eq] at hk;have:=next b;simp only[Yc.w,Yc.box,List.nil_append];rw[show Ln β k b j=β j by simp[Ln];omega,hv];exact this⟩
theorem UI (h:K τ []):YW P ops H₀ β k τ [] K:=h
end
end Go.Abs
namespace Go.Proofs.YtifphifongokcaaGreat
open Go.Abs Go.Eu
set_option maxHeartbeats 2000000 in
theorem ZP:∀(s sb:Nat) (ds:List Bx) (ok ov:Option Nat) (ck cv:Nat) (kn:List Bool) (vs:List Tm) (idx:Int) (t:Tm),(Kt kn vs idx t)→Bb Tryz.prog 126 [.ptr s 0,.p (I idx),.agg ((BQ t).map .p)] [.box s [.ptr sb 0,.p (.lst (List.map Br ds)),.vs ok (List.map Bp kn).length ck,.vs ov (Ay vs).length cv],.vec ok 1 (List.map Bp kn) ck,.vec ov 5 (Ay vs) cv] (Dz (.p (I 0)) [.box s [.ptr sb 0,.p (.lst (List.map Br ds)),.vs ok (List.map Bp (kn.set ((kn.length:Nat) - 1 - idx:Int).toNat true)).length ck,.vs ov (Ay (vs.set ((kn.length:Nat) - 1 - idx:Int).toNat t)).length cv],.vec ok 1 (List.map Bp (kn.set ((kn.length:Nat) - 1 - idx:Int).toNat true)) ck,.vec ov 5 (Ay (vs.set ((kn.length:Nat) - 1 - idx:Int).toNat t)) cv]):=by
 intro s sb ds ok ov ck cv kn vs idx t h1;have hl1:=h1.len;have hl2:=h1.few;have hl3:=h1.lo;have hl4:=h1.hi;refine Aw Tryz.func126 O UP (n:=121) O O (Ar (A5 O (BF O) fun b5=>Ak As 1 [] O (Am (Ar (Ap As 2 [0] O (Al O (BA O O (IA t idx h1.nd h1.sz h1.lo) O) (BR O (Ao O (fun c=>?_) (fun c=>?_)))))))))
 ·(try simp only[sd,se] at c);exfalso;simp[h1.oc] at c
 (try simp only[sd,se] at c);refine Aq (Ar (Ap As 4 [1] O (Al O (DP FC O (List.length_map _)) (Ak As 4 [] O (Am (Sl [.val (.ptr s 0),.val (.ptr s 0),.val (.ptr s (0+2)),.val (.vs ok (List.map Bp kn).length ck),.val (.p (I (kn.length:Nat))),.newv 1 (List.map Bp (List.replicate (((kn.length:Nat):Int).toNat) false)),.val (.ptr s 0),.val (.ptr s 0),.val (.ptr s (0+2)),.val (.vs ok (List.map Bp kn).length ck),.val (.p (I (kn.length:Nat))),.newv 5 (Ay (List.replicate (((kn.length:Nat):Int).toNat) (.mk 0 0 ⟨#[]⟩ [] []:Tm))),.dep 5 (fun q=> .vs (some q.1) (List.map Bp (List.replicate (((kn.length:Nat):Int).toNat) false)).length q.2)] Eg Ad Ad Ad (D5 O (fun Bs=>CF O) fun _=>D5 O (fun Bs=>Cs O) fun _=>D5 O (fun Bs=>A2 Ng O O) fun _=>?_)))))));refine D5 O (fun Bs=>Bd (i:=Bs.length+1) VZ O (Du O) O) fun _=>D5 O (fun Bs=>DP FC O (List.length_map _)) fun _=>LQ O (fun Bs=>Cf FC bD O O Ag O O O Ah Ah Ah (RA (f:=Bp) (((kn.length:Nat):Int).toNat) false)) fun B=>?_;obtain⟨b46,cp⟩:=B;refine D5 O (fun Bs=>CF O) fun _=>D5 O (fun Bs=>Cs O) fun _=>D5 O (fun Bs=>A2 Ng O O) fun _=>D5 O (fun Bs=>Bd (i:=Bs.length+1) VZ O (Du O) O) fun _=>D5 O (fun Bs=>DP FC O (List.length_map _)) fun _=>LQ O (fun Bs=>Cf BP Bj O O Ag O O O Ah Ah Ah (OP (((kn.length:Nat):Int).toNat) (.mk 0 0 ⟨#[]⟩ [] []:Tm))) fun B=>?_;obtain⟨b52,cp1⟩:=B;refine Z9 O Ad Ag O (fun Bs=>Fy O) fun _=>UI ?_
 change AL _ _ _ 13 ⟨121,_,[.vec (some b46) 1 (List.map Bp (List.replicate (((kn.length:Nat):Int).toNat) false)) cp,.vec (some b52) 5 (Ay (List.replicate (((kn.length:Nat):Int).toNat) (.mk 0 0 ⟨#[]⟩ [] []:Tm))) cp1,.box b5 ((BQ t).map .p),.box s [.ptr sb 0,.p (.lst (List.map Br ds)),.vs ok (List.map Bp kn).length ck,.vs ov (Ay vs).length cv],.vec ok 1 (List.map Bp kn) ck,.vec ov 5 (Ay vs) cv],[]⟩ _
 refine Ak As 1 [] O (Am (Ar (Ap As 3 [2] O (Al O (Bq [0,1] O (.inl ⟨O,O,O⟩) (L6 (some b46) (some b52) cp cp1 (List.replicate (kn.length) false) (List.replicate (kn.length) (.mk 0 0 ⟨#[]⟩ [] []:Tm)) t (X5 h1.ok h1.sm h1.few)) ⟨_,_,O,O,⟨_,_,O,O,O⟩⟩ Ag O (.inl O)) (Ap As 3 [] O (A5 O (Az Bj O) fun b12=>Ak As 2 [0,1] O (An As 2 [] O (Ao O (fun c1=>?_) (fun c1=>?_)))))))))
 ·(try simp only[sd,se] at c1);exact absurd h1.un c1
 (try simp only[sd,se] at c1);refine Aq (Am (By (fun k=>false) Eg (BU As 5 [3] O (BG O (fun _=>B0 FC O O Ah AT) Aj (Eo O O (CA (i:=1) (j:=(((((kn.length:Nat):Int) - (1:Int):Int) - (idx:Int):Int).toNat)) Y7 O O O AT O O O O (Q8 (f:=Bp) (List.replicate (kn.length) false) (((((kn.length:Nat):Int) - (1:Int):Int) - (idx:Int):Int).toNat) true)) AB Aj (BG O (fun _=>B0 BP O O Ah AT) Aj (Eo O O (CA (i:=2) (j:=(((((kn.length:Nat):Int) - (1:Int):Int) - (idx:Int):Int).toNat)) Bf O O O AT O (F5 _) (A7 _) (Gf _) (Iv (List.replicate (kn.length) (.mk 0 0 ⟨#[]⟩ [] []:Tm)) (((((kn.length:Nat):Int) - (1:Int):Int) - (idx:Int):Int).toNat) t)) AB Aj (El O Ad (Am (Ar (Ap As 4 [4] O (Al O (DP BP O (A8 _)) ?_))))))))))));refine Ak As 1 [] O (A1 ?_);refine BZ (α:=Nat) (fun i=>⟨121,mk [(0,.ptr s 0),(5,.ptr b5 0),(9,.p (I ((((kn.length:Nat):Int) - (1:Int):Int) - (idx:Int)))),(10,.vs (some b46) (List.map Bp (List.replicate (kn.length) false)).length cp),(11,.vs (some b52) (Ay (List.replicate (kn.length) (.mk 0 0 ⟨#[]⟩ [] []:Tm))).length cp1),(73,.p (I (vs.length:Nat))),(74,.p (I (i:Int)))],[.vec (some b46) 1 (List.map Bp (((List.replicate (kn.length) false)).set (((((kn.length:Nat):Int) - (1:Int):Int) - (idx:Int):Int).toNat) true)) cp,.vec (some b52) 5 (Ay (((List.replicate (kn.length) (.mk 0 0 ⟨#[]⟩ [] []:Tm))).set (((((kn.length:Nat):Int) - (1:Int):Int) - (idx:Int):Int).toNat) t)) cp1,.box b5 ((BQ t).map .p),.box s [.ptr sb 0,.p (.lst (List.map Br ds)),.vs ok (List.map Bp kn).length ck,.vs ov (Ay vs).length cv],.vec ok 1 (List.map Bp kn) ck,.vec ov 5 (Ay vs) cv],[]⟩) (fun i=>vs.length - i) (fun i=>i≤vs.length) 0 AK ?_ ?_
 ·exact BM ⟨we O,we O,we O,we (KI (f:=Bp) (List.replicate (kn.length) false) Ai),we (DU (List.replicate (kn.length) (.mk 0 0 ⟨#[]⟩ [] []:Tm)) Ai),we O,we O,Aj⟩ (leH (is:=[1,2,3,4,5,6]) O (wl (oe O) (wl (oe O) (wl (oe O) (wl (oe O) (wl (oe O) (wl (oe O) (C8))))))))
 rintro i hC
 try simp only at hC
 have hi:=hC;refine An As 1 [] O (Am (Ao O (fun c2=>?_) (fun c2=>?_)))
 ·(try simp only[sd,se] at c2);refine Aq (Am (A1 (An As 2 [] O (Am (Ar (Ap As 5 [3] O (GO (i:=4) O AT fun b hb=>?_)))))));subst hb;refine Al O (B0 FC O O Ah AT) ?_;obtain⟨y,hy⟩:=A0 (l:=kn) (i:=i) AI;refine Al O (Ik (i:=4) Y7 O O (Gh hy)) (Ak As 1 [] O (Ao O (fun c3=>?_) (fun c3=>?_)))
  ·(try simp only[sd,se] at c3);refine Bc (Au (Ak As 2 [] O ?_));refine⟨(i+1),AN,by omega,BM ⟨we rfl,we rfl,we rfl,we (KI (f:=Bp) (List.replicate (kn.length) false) Ai),we (DU (List.replicate (kn.length) (.mk 0 0 ⟨#[]⟩ [] []:Tm)) Ai),we rfl,we rfl,trivial⟩ (leH (is:=[0,1,2,3,4,5]) rfl (wl (oe rfl) (wl (oe rfl) (wl (oe rfl) (wl (oe rfl) (wl (oe rfl) (wl (oe rfl) (C8))))))))⟩
  (try simp only[sd,se] at c3);exfalso;have:=h1.no _ (List.mem_of_getElem? hy);simp_all
 (try simp only[sd,se] at c2);refine Bc (Am (H4 (i:=4) O AT fun b hb=>?_));subst hb;refine H4 (i:=5) O AT fun b1 hb1=>?_;subst hb1;refine By (fun k=>false) Eg (BU As 11 [3,3,2] O (BG O (fun _=>B0 FC O O Ah AT) Aj (Eo O O (CA (i:=4) (j:=(((((kn.length:Nat):Int) - (1:Int):Int) - (idx:Int):Int).toNat)) Y7 O O O AT O O O O (Q8 (f:=Bp) kn (((((kn.length:Nat):Int) - (1:Int):Int) - (idx:Int):Int).toNat) true)) AB Aj (BG O (fun _=>B0 BP O O Ah AT) Aj (Eo O O (CA (i:=5) (j:=(((((kn.length:Nat):Int) - (1:Int):Int) - (idx:Int):Int).toNat)) Bf O O O AT O (F5 _) (A7 _) (Gf _) (Iv vs (((((kn.length:Nat):Int) - (1:Int):Int) - (idx:Int):Int).toNat) t)) AB Aj (El O Ad (An As 1 [] O (Av (⟨O,_,_,⟨_,_,O,O,O⟩,(CM (is:=[3,4,5]) O),?_⟩)))))))));refine⟨O,?_⟩;show ([.box s [.ptr sb 0,.p (.lst (List.map Br ds)),.vs (some b) (List.map Bp kn).length ck,.vs (some b1) (Ay vs).length cv],.vec (some b) 1 (List.map Bp ((kn).set (((((kn.length:Nat):Int) - (1:Int):Int) - (idx:Int):Int).toNat) true)) ck,.vec (some b1) 5 (Ay ((vs).set (((((kn.length:Nat):Int) - (1:Int):Int) - (idx:Int):Int).toNat) t)) cv]:List Ax)=_;simp[A8]
def Q7 (ds:List Bx) (kn:List Bool) (vs:List Tm) (idx:Int) (t:Tm) (e:Int) (kn2:List Bool) (vs2:List Tm):Prop:=∀(s sb:Nat) (ok ov:Option Nat) (ck cv:Nat),Bb Tryz.prog 126 [.ptr s 0,.p (I idx),TV t] [.box s [.ptr sb 0,.p (.lst (List.map Br ds)),.vs ok (List.map Bp kn).length ck,.vs ov (Ay vs).length cv],.vec ok 1 (List.map Bp kn) ck,.vec ov 5 (Ay vs) cv] (Dz (.p (I e)) [.box s [.ptr sb 0,.p (.lst (List.map Br ds)),.vs ok (List.map Bp kn2).length ck,.vs ov (Ay vs2).length cv],.vec ok 1 (List.map Bp kn2) ck,.vec ov 5 (Ay vs2) cv])
theorem LK (s sb:Nat) (ds:List Bx) (a2 a3:AV) (t:Tm) (d:RJ) (h1:C3 ds) (h2:okB t=true) (h3:Dh ds) (h4:Ci ds t=some d):Bb Tryz.prog 127 [.ptr s 0,TV t] [.box s [.ptr sb 0,.p (.lst (List.map Br ds)),a2,a3]] (Dz (.tup [.agg ((HN d).map .p),.p (.bool true),.p (I 0)]) [.box s [.ptr sb 0,.p (.lst (List.map Br ds)),a2,a3]]):=by
 have:=PQ s sb ds a2 a3 t h1 h2 h3;rw[h4] at this;exact this
theorem Ks (s sb:Nat) (ds:List Bx) (ok ov:Option Nat) (ck cv:Nat) (kn:List Bool) (vs:List Tm) (t a:Tm) (h1:C3 ds) (h2:Ev ds kn vs t a):Bb Tryz.prog 125 [.ptr s 0,TV t] [.box s [.ptr sb 0,.p (.lst (List.map Br ds)),.vs ok (List.map Bp kn).length ck,.vs ov (Ay vs).length cv],.vec ok 1 (List.map Bp kn) ck,.vec ov 5 (Ay vs) cv] (Dz (.tup [TV a,.p (I 0)]) [.box s [.ptr sb 0,.p (.lst (List.map Br ds)),.vs ok (List.map Bp kn).length ck,.vs ov (Ay vs).length cv],.vec ok 1 (List.map Bp kn) ck,.vec ov 5 (Ay vs) cv]):=by
 obtain⟨q1,q2,rfl,q3⟩:=h2;exact Wu s sb ds ok ov ck cv kn vs t q1 q2 h1 q3
set_option maxHeartbeats 2000000 in
theorem ZZ:∀(s sb:Nat) (ds:List Bx) (o0 ok ov:Option Nat) (c0 ck cv:Nat) (kn:List Bool) (vs:List Tm) (x:Tm×Tm) (a b:Tm) (e:Int) (kn2:List Bool) (vs2:List Tm),(C3 ds)→(Dh ds)→(Ev ds kn vs x.1 a)→(Ev ds kn vs x.2 b)→(E9 a b=false)→(a.kind=0∧(b.kind≠0∨a.index<b.index))→(Q7 ds kn vs a.index b e kn2 vs2)→Bb Tryz.prog 102 [.ptr s 0,.agg ((Bg x).map .p)] [.box s [.ptr sb 0,.p (.lst (List.map Br ds)),.vs ok (List.map Bp kn).length ck,.vs ov (Ay vs).length cv],.box sb [.vs o0 (List.map Bg ([]:List (Tm×Tm))).length c0],.vec o0 10 (List.map Bg ([]:List (Tm×Tm))) c0,.vec ok 1 (List.map Bp kn) ck,.vec ov 5 (Ay vs) cv] (Dz (.p (I e)) [.box s [.ptr sb 0,.p (.lst (List.map Br ds)),.vs ok (List.map Bp kn2).length ck,.vs ov (Ay vs2).length cv],.box sb [.vs o0 (List.map Bg ([]:List (Tm×Tm))).length c0],.vec o0 10 (List.map Bg ([]:List (Tm×Tm))) c0,.vec ok 1 (List.map Bp kn2) ck,.vec ov 5 (Ay vs2) cv]):=by
 intro s sb ds o0 ok ov c0 ck cv kn vs x a b e kn2 vs2 h1 h2 h3 h4 h5 h6 h7;refine Aw Tryz.func102 O R9 (n:=157) O O (Ar (A5 O (BF O) fun b3=>Ak As 1 [] O (Ar (Ap As 2 [] O (Al O (CT (i:=0) Bf O O (Jb _) (A7 _)) (Al O (Bq [1,4,5] O (.inl ⟨O,O,O⟩) (Ks s sb ds ok ov ck cv kn vs x.1 a h1 h3) ⟨_,_,O,O,⟨_,_,O,O,⟨_,_,O,O,O⟩⟩⟩ Ag O (.inl O)) (Ap As 3 [] O (A5 O (Az Bj O) fun b5=>Ak As 2 [0,1] O (Am (An As 2 [] O ?_))))))))));refine Ao O (fun c=>by cases c) (fun c=>?_);refine Aq (Ar (Ap As 2 [] O (Al O (CT (i:=1) Bf O O (JV _) (A7 _)) (Al O (Bq [2,5,6] O (.inl ⟨O,O,O⟩) (Ks s sb ds ok ov ck cv kn vs x.2 b h1 h4) ⟨_,_,O,O,⟨_,_,O,O,⟨_,_,O,O,O⟩⟩⟩ Ag O (.inl O)) (Ap As 3 [] O (A5 O (Az Bj O) fun b7=>Ak As 2 [0,1] O (Am (An As 2 [] O ?_))))))));refine Ao O (fun c1=>by cases c1) (fun c1=>?_);refine Aq (Am (Ar (Ap As 2 [1,0] O (Al O (BA O O (GW _ a b (Nat.le_refl _) (Da.1 h3.ok).nd) O) (BR O (Ao O (fun c2=>?_) (fun c2=>?_)))))))
 ·(try simp only[sd,se] at c2);exfalso;simp_all
 (try simp only[sd,se] at c2);refine Aq (Am (Am (BO [0,5,7] 53 (fun y=>y= .p (.bool (((a.kind:Int)==(0:Int))&&(((b.kind:Int) !=(0:Int))||(decide ((a.index:Int)<(b.index:Int))))))) ?_ ?_)))
 ·refine Au (Al O (A2 D0 O O) (Al O (A6 (i:=1) FW O O (Cv _)) (Ap As 2 [] O (BE 42 O (fun g=>?_) (fun g=>?_)))))
  ·(try simp only[sd,se] at g);refine BI O (A2 D0 O O) (BI O (A6 (i:=0) FW O O (Cv _)) (Ap As 2 [] O (BE 46 O (fun g1=>?_) (fun g1=>?_))))
   ·(try simp only[sd,se] at g1);exact Ak As 7 [] O (⟨O,O,AG,AF,⟨O,O,O,Aj⟩⟩)
   (try simp only[sd,se] at g1);exact BI O (A2 D0 O O) (BI O (A6 (i:=1) FW O O (Cq _)) (BI O (A2 D0 O O) (BI O (A6 (i:=0) FW O O (Cq _)) (Ak As 3 [] O (⟨O,O,AG,AF,⟨O,O,O,Aj⟩⟩)))))
  (try simp only[sd,se] at g);exact Ak As 11 [] O (⟨O,O,AG,AF,⟨O,O,O,Aj⟩⟩)
 rintro _ rfl;refine Ao O (fun c3=>?_) (fun c3=>?_)
 ·(try simp only[sd,se] at c3);refine Ar (Ap As 2 [] O (Al O (A6 (i:=1) FW O O (Cq _)) (Al O (Ba (i:=0) Bf O O Aa) (Al O (Bq [3,6,7] O (.inl ⟨O,O,O⟩) (h7 s sb ok ov ck cv) ⟨_,_,O,O,⟨_,_,O,O,⟨_,_,O,O,O⟩⟩⟩ Ag O (.inl O)) (Ak As 1 [] O (Av (⟨O,_,_,⟨_,_,O,O,O⟩,(CM (is:=[3,4,5,6,7]) O),?_⟩)))))))
  all_goals exact⟨rfl,rfl⟩
 (try simp only[sd,se] at c3);exfalso;(try simp at c3);omega
set_option maxHeartbeats 2000000 in
theorem ZA:∀(s sb:Nat) (ds:List Bx) (o0 ok ov:Option Nat) (c0 ck cv:Nat) (kn:List Bool) (vs:List Tm) (x:Tm×Tm) (a b:Tm) (e:Int) (kn2:List Bool) (vs2:List Tm),(C3 ds)→(Dh ds)→(Ev ds kn vs x.1 a)→(Ev ds kn vs x.2 b)→(E9 a b=false)→(b.kind=0∧(a.kind≠0∨b.index≤a.index))→(Q7 ds kn vs b.index a e kn2 vs2)→Bb Tryz.prog 102 [.ptr s 0,.agg ((Bg x).map .p)] [.box s [.ptr sb 0,.p (.lst (List.map Br ds)),.vs ok (List.map Bp kn).length ck,.vs ov (Ay vs).length cv],.box sb [.vs o0 (List.map Bg ([]:List (Tm×Tm))).length c0],.vec o0 10 (List.map Bg ([]:List (Tm×Tm))) c0,.vec ok 1 (List.map Bp kn) ck,.vec ov 5 (Ay vs) cv] (Dz (.p (I e)) [.box s [.ptr sb 0,.p (.lst (List.map Br ds)),.vs ok (List.map Bp kn2).length ck,.vs ov (Ay vs2).length cv],.box sb [.vs o0 (List.map Bg ([]:List (Tm×Tm))).length c0],.vec o0 10 (List.map Bg ([]:List (Tm×Tm))) c0,.vec ok 1 (List.map Bp kn2) ck,.vec ov 5 (Ay vs2) cv]):=by
 intro s sb ds o0 ok ov c0 ck cv kn vs x a b e kn2 vs2 h1 h2 h3 h4 h5 h6 h7;refine Aw Tryz.func102 O R9 (n:=157) O O (Ar (A5 O (BF O) fun b3=>Ak As 1 [] O (Ar (Ap As 2 [] O (Al O (CT (i:=0) Bf O O (Jb _) (A7 _)) (Al O (Bq [1,4,5] O (.inl ⟨O,O,O⟩) (Ks s sb ds ok ov ck cv kn vs x.1 a h1 h3) ⟨_,_,O,O,⟨_,_,O,O,⟨_,_,O,O,O⟩⟩⟩ Ag O (.inl O)) (Ap As 3 [] O (A5 O (Az Bj O) fun b5=>Ak As 2 [0,1] O (Am (An As 2 [] O ?_))))))))));refine Ao O (fun c=>by cases c) (fun c=>?_);refine Aq (Ar (Ap As 2 [] O (Al O (CT (i:=1) Bf O O (JV _) (A7 _)) (Al O (Bq [2,5,6] O (.inl ⟨O,O,O⟩) (Ks s sb ds ok ov ck cv kn vs x.2 b h1 h4) ⟨_,_,O,O,⟨_,_,O,O,⟨_,_,O,O,O⟩⟩⟩ Ag O (.inl O)) (Ap As 3 [] O (A5 O (Az Bj O) fun b7=>Ak As 2 [0,1] O (Am (An As 2 [] O ?_))))))));refine Ao O (fun c1=>by cases c1) (fun c1=>?_);refine Aq (Am (Ar (Ap As 2 [1,0] O (Al O (BA O O (GW _ a b (Nat.le_refl _) (Da.1 h3.ok).nd) O) (BR O (Ao O (fun c2=>?_) (fun c2=>?_)))))))
 ·(try simp only[sd,se] at c2);exfalso;simp_all
 (try simp only[sd,se] at c2);refine Aq (Am (Am (BO [0,5,7] 53 (fun y=>y= .p (.bool (((a.kind:Int)==(0:Int))&&(((b.kind:Int) !=(0:Int))||(decide ((a.index:Int)<(b.index:Int))))))) ?_ ?_)))
 ·refine Au (Al O (A2 D0 O O) (Al O (A6 (i:=1) FW O O (Cv _)) (Ap As 2 [] O (BE 42 O (fun g=>?_) (fun g=>?_)))))
  ·(try simp only[sd,se] at g);refine BI O (A2 D0 O O) (BI O (A6 (i:=0) FW O O (Cv _)) (Ap As 2 [] O (BE 46 O (fun g1=>?_) (fun g1=>?_))))
   ·(try simp only[sd,se] at g1);exact Ak As 7 [] O (⟨O,O,AG,AF,⟨O,O,O,Aj⟩⟩)
   (try simp only[sd,se] at g1);exact BI O (A2 D0 O O) (BI O (A6 (i:=1) FW O O (Cq _)) (BI O (A2 D0 O O) (BI O (A6 (i:=0) FW O O (Cq _)) (Ak As 3 [] O (⟨O,O,AG,AF,⟨O,O,O,Aj⟩⟩)))))
  (try simp only[sd,se] at g);exact Ak As 11 [] O (⟨O,O,AG,AF,⟨O,O,O,Aj⟩⟩)
 rintro _ rfl;refine Ao O (fun c3=>?_) (fun c3=>?_)
 ·(try simp only[sd,se] at c3);exfalso;(try simp at c3);omega
 (try simp only[sd,se] at c3);refine Aq (Am (Ar (Al O (A2 D0 O O) (Al O (A6 (i:=0) FW O O (Cv _)) (Ak As 1 [] O (Ao O (fun c4=>?_) (fun c4=>?_)))))))
 ·(try simp only[sd,se] at c4);refine Ar (Ap As 2 [] O (Al O (A6 (i:=0) FW O O (Cq _)) (Al O (Ba (i:=1) Bf O O Aa) (Al O (Bq [3,6,7] O (.inl ⟨O,O,O⟩) (h7 s sb ok ov ck cv) ⟨_,_,O,O,⟨_,_,O,O,⟨_,_,O,O,O⟩⟩⟩ Ag O (.inl O)) (Ak As 1 [] O (Av (⟨O,_,_,⟨_,_,O,O,O⟩,(CM (is:=[3,4,5,6,7]) O),?_⟩)))))))
  all_goals exact⟨rfl,rfl⟩
 (try simp only[sd,se] at c4);exfalso;omega
set_option maxHeartbeats 2000000 in
theorem Zr:∀(s sb:Nat) (ds:List Bx) (o0 ok ov:Option Nat) (c0 ck cv:Nat) (kn:List Bool) (vs:List Tm) (x:Tm×Tm) (a b:Tm) (d q:RJ),(C3 ds)→(Dh ds)→(Ev ds kn vs x.1 a)→(Ev ds kn vs x.2 b)→(E9 a b=false)→(a.kind≠0)→(b.kind≠0)→(Ci ds a=some d)→(Ci ds b=some q)→(d.levels=[])→(q.levels=[])→(d.name.toList=q.name.toList)→(¬d.ctor.toList=q.ctor.toList)→Bb Tryz.prog 102 [.ptr s 0,.agg ((Bg x).map .p)] [.box s [.ptr sb 0,.p (.lst (List.map Br ds)),.vs ok (List.map Bp kn).length ck,.vs ov (Ay vs).length cv],.box sb [.vs o0 (List.map Bg ([]:List (Tm×Tm))).length c0],.vec o0 10 (List.map Bg ([]:List (Tm×Tm))) c0,.vec ok 1 (List.map Bp kn) ck,.vec ov 5 (Ay vs) cv] (Dz (.p (I 20)) [.box s [.ptr sb 0,.p (.lst (List.map Br ds)),.vs ok (List.map Bp kn).length ck,.vs ov (Ay vs).length cv],.box sb [.vs o0 (List.map Bg ([]:List (Tm×Tm))).length c0],.vec o0 10 (List.map Bg ([]:List (Tm×Tm))) c0,.vec ok 1 (List.map Bp kn) ck,.vec ov 5 (Ay vs) cv]):=by
 intro s sb ds o0 ok ov c0 ck cv kn vs x a b d q h1 h2 h3 h4 h5 h6 h7 h8 h9 h10 h11 h12 h13;refine Aw Tryz.func102 O R9 (n:=157) O O (Ar (A5 O (BF O) fun b3=>Ak As 1 [] O (Ar (Ap As 2 [] O (Al O (CT (i:=0) Bf O O (Jb _) (A7 _)) (Al O (Bq [1,4,5] O (.inl ⟨O,O,O⟩) (Ks s sb ds ok ov ck cv kn vs x.1 a h1 h3) ⟨_,_,O,O,⟨_,_,O,O,⟨_,_,O,O,O⟩⟩⟩ Ag O (.inl O)) (Ap As 3 [] O (A5 O (Az Bj O) fun b5=>Ak As 2 [0,1] O (Am (An As 2 [] O ?_))))))))));refine Ao O (fun c=>by cases c) (fun c=>?_);refine Aq (Ar (Ap As 2 [] O (Al O (CT (i:=1) Bf O O (JV _) (A7 _)) (Al O (Bq [2,5,6] O (.inl ⟨O,O,O⟩) (Ks s sb ds ok ov ck cv kn vs x.2 b h1 h4) ⟨_,_,O,O,⟨_,_,O,O,⟨_,_,O,O,O⟩⟩⟩ Ag O (.inl O)) (Ap As 3 [] O (A5 O (Az Bj O) fun b7=>Ak As 2 [0,1] O (Am (An As 2 [] O ?_))))))));refine Ao O (fun c1=>by cases c1) (fun c1=>?_);refine Aq (Am (Ar (Ap As 2 [1,0] O (Al O (BA O O (GW _ a b (Nat.le_refl _) (Da.1 h3.ok).nd) O) (BR O (Ao O (fun c2=>?_) (fun c2=>?_)))))))
 ·(try simp only[sd,se] at c2);exfalso;simp_all
 (try simp only[sd,se] at c2);refine Aq (Am (Am (BO [0,5,7] 53 (fun y=>y= .p (.bool (((a.kind:Int)==(0:Int))&&(((b.kind:Int) !=(0:Int))||(decide ((a.index:Int)<(b.index:Int))))))) ?_ ?_)))
 ·refine Au (Al O (A2 D0 O O) (Al O (A6 (i:=1) FW O O (Cv _)) (Ap As 2 [] O (BE 42 O (fun g=>?_) (fun g=>?_)))))
  ·(try simp only[sd,se] at g);refine BI O (A2 D0 O O) (BI O (A6 (i:=0) FW O O (Cv _)) (Ap As 2 [] O (BE 46 O (fun g1=>?_) (fun g1=>?_))))
   ·(try simp only[sd,se] at g1);exact Ak As 7 [] O (⟨O,O,AG,AF,⟨O,O,O,Aj⟩⟩)
   (try simp only[sd,se] at g1);exact BI O (A2 D0 O O) (BI O (A6 (i:=1) FW O O (Cq _)) (BI O (A2 D0 O O) (BI O (A6 (i:=0) FW O O (Cq _)) (Ak As 3 [] O (⟨O,O,AG,AF,⟨O,O,O,Aj⟩⟩)))))
  (try simp only[sd,se] at g);exact Ak As 11 [] O (⟨O,O,AG,AF,⟨O,O,O,Aj⟩⟩)
 rintro _ rfl;refine Ao O (fun c3=>?_) (fun c3=>?_)
 ·(try simp only[sd,se] at c3);exfalso;(try simp at c3);omega
 (try simp only[sd,se] at c3);refine Aq (Am (Ar (Al O (A2 D0 O O) (Al O (A6 (i:=0) FW O O (Cv _)) (Ak As 1 [] O (Ao O (fun c4=>?_) (fun c4=>?_)))))))
 ·(try simp only[sd,se] at c4);exfalso;omega
 (try simp only[sd,se] at c4);refine Aq (Ar (Ap As 2 [1] O (Al O (Bq [3] O (.inl ⟨O,O,O⟩) (LK s sb ds (.vs ok (List.map Bp kn).length ck) (.vs ov (Ay vs).length cv) a d h1 h3.ok h2 h8) ⟨_,_,O,O,O⟩ Ag O (.inl O)) (Ap As 4 [] O (A5 O (Az Lx O) fun b8=>Al O (Bo (i:=0) Il O O O AZ AR (IS _)) (Ak As 2 [] O (Am (An As 2 [] O ?_))))))));refine Ao O (fun c5=>by cases c5) (fun c5=>?_);refine Aq (Ar (Ap As 2 [1] O (Al O (Bq [4] O (.inl ⟨O,O,O⟩) (LK s sb ds (.vs ok (List.map Bp kn).length ck) (.vs ov (Ay vs).length cv) b q h1 h4.ok h2 h9) ⟨_,_,O,O,O⟩ Ag O (.inl O)) (Ap As 4 [] O (A5 O (Az Lx O) fun b10=>Al O (Bo (i:=0) Il O O O AZ AR (IS _)) (Ak As 2 [] O (Am (An As 2 [] O ?_))))))));refine Ao O (fun c6=>by cases c6) (fun c6=>?_);refine Aq (Ar (Al O (A2 Ie O O) (Al O (A6 (i:=1) WN O O (EY _)) (Ap As 2 [] O (Al O (A6 (i:=0) WN O O (EY _)) (Al O (B5 D0 Bj O) (Al O (Jy O O (GW _ (.mk 3 0 ⟨#[]⟩ d.levels []:Tm) (.mk 3 0 ⟨#[]⟩ q.levels []:Tm) (Nat.le_refl _) (Pw h10)) (aw (Fl O) (aw (Fl O) (HX)))) (Ak As 1 [] O (Am (Am (BO [0,5,7,8,10] 107 (fun y=>y= .p (.bool (((true&&true)&&(d.name.toList==q.name.toList))&&(E9 (.mk 3 0 ⟨#[]⟩ d.levels []:Tm) (.mk 3 0 ⟨#[]⟩ q.levels []:Tm))))) ?_ ?_)))))))))))
 ·refine Au (Ap As 6 [] O (BI O (A6 (i:=1) P3 O O (Fe _)) (BI O (A2 Ie O O) (BI O (A6 (i:=0) P3 O O (Fe _)) (BI O (Gr O O) (Ap As 2 [] O (BE 105 O (fun g=>?_) (fun g=>?_))))))))
  ·(try simp only[sd,se] at g);exact Ak As 2 [] O (⟨O,O,AG,AF,⟨O,O,O,O,O,Aj⟩⟩)
  (try simp only[sd,se] at g);exact Ak As 2 [] O (⟨O,O,AG,AF,⟨O,O,O,O,O,Aj⟩⟩)
 rintro _ rfl;refine Ao O (fun c7=>?_) (fun c7=>?_)
 ·(try simp only[sd,se] at c7);refine Am (Ar (Al O (A2 Ie O O) (Al O (A6 (i:=1) P3 O O (Fa _)) (Al O (A2 Ie O O) (Al O (A6 (i:=0) P3 O O (Fa _)) (Al O (Gs O O) (BR O (Ao O (fun c8=>?_) (fun c8=>?_)))))))))
  ·(try simp only[sd,se] at c8);refine An As 1 [] O (Av (⟨O,_,_,⟨_,_,O,O,O⟩,(CM (is:=[5,6,7,8,9]) O),?_⟩))
   all_goals exact⟨rfl,rfl⟩
  (try simp only[sd,se] at c8);exfalso;simp_all
 (try simp only[sd,se] at c7);exfalso;simp_all [CR]
set_option maxHeartbeats 2000000 in
theorem Zm:∀(s sb:Nat) (ds:List Bx) (o0 ok ov:Option Nat) (c0 ck cv:Nat) (kn:List Bool) (vs:List Tm) (x:Tm×Tm) (a b:Tm) (d q:RJ) (f g:Tm),(C3 ds)→(Dh ds)→(Ev ds kn vs x.1 a)→(Ev ds kn vs x.2 b)→(E9 a b=false)→(a.kind≠0)→(b.kind≠0)→(Ci ds a=some d)→(Ci ds b=some q)→(d.levels=[])→(q.levels=[])→(d.name.toList=q.name.toList)→(d.ctor.toList=q.ctor.toList)→(d.fields=[f])→(q.fields=[g])→Bb Tryz.prog 102 [.ptr s 0,.agg ((Bg x).map .p)] [.box s [.ptr sb 0,.p (.lst (List.map Br ds)),.vs ok (List.map Bp kn).length ck,.vs ov (Ay vs).length cv],.box sb [.vs o0 (List.map Bg ([]:List (Tm×Tm))).length c0],.vec o0 10 (List.map Bg ([]:List (Tm×Tm))) c0,.vec ok 1 (List.map Bp kn) ck,.vec ov 5 (Ay vs) cv] (fun r H'=>∃o c,r= .val (.p (I 0))∧H'=[.box s [.ptr sb 0,.p (.lst (List.map Br ds)),.vs ok (List.map Bp kn).length ck,.vs ov (Ay vs).length cv],.box sb [.vs o (List.map Bg [(f,g)]).length c],.vec o 10 (List.map Bg [(f,g)]) c,.vec ok 1 (List.map Bp kn) ck,.vec ov 5 (Ay vs) cv]):=by
 intro s sb ds o0 ok ov c0 ck cv kn vs x a b d q f g h1 h2 h3 h4 h5 h6 h7 h8 h9 h10 h11 h12 h13 h14 h15;have hf1:d.fields.length=1:=by rw[h14];rfl
 have hg1:q.fields.length=1:=by rw[h15];rfl
 refine Aw Tryz.func102 O R9 (n:=157) O O (Ar (A5 O (BF O) fun b3=>Ak As 1 [] O (Ar (Ap As 2 [] O (Al O (CT (i:=0) Bf O O (Jb _) (A7 _)) (Al O (Bq [1,4,5] O (.inl ⟨O,O,O⟩) (Ks s sb ds ok ov ck cv kn vs x.1 a h1 h3) ⟨_,_,O,O,⟨_,_,O,O,⟨_,_,O,O,O⟩⟩⟩ Ag O (.inl O)) (Ap As 3 [] O (A5 O (Az Bj O) fun b5=>Ak As 2 [0,1] O (Am (An As 2 [] O ?_))))))))));refine Ao O (fun c=>by cases c) (fun c=>?_);refine Aq (Ar (Ap As 2 [] O (Al O (CT (i:=1) Bf O O (JV _) (A7 _)) (Al O (Bq [2,5,6] O (.inl ⟨O,O,O⟩) (Ks s sb ds ok ov ck cv kn vs x.2 b h1 h4) ⟨_,_,O,O,⟨_,_,O,O,⟨_,_,O,O,O⟩⟩⟩ Ag O (.inl O)) (Ap As 3 [] O (A5 O (Az Bj O) fun b7=>Ak As 2 [0,1] O (Am (An As 2 [] O ?_))))))));refine Ao O (fun c1=>by cases c1) (fun c1=>?_);refine Aq (Am (Ar (Ap As 2 [1,0] O (Al O (BA O O (GW _ a b (Nat.le_refl _) (Da.1 h3.ok).nd) O) (BR O (Ao O (fun c2=>?_) (fun c2=>?_)))))))
 ·(try simp only[sd,se] at c2);exfalso;simp_all
 (try simp only[sd,se] at c2);refine Aq (Am (Am (BO [0,5,7] 53 (fun y=>y= .p (.bool (((a.kind:Int)==(0:Int))&&(((b.kind:Int) !=(0:Int))||(decide ((a.index:Int)<(b.index:Int))))))) ?_ ?_)))
 ·refine Au (Al O (A2 D0 O O) (Al O (A6 (i:=1) FW O O (Cv _)) (Ap As 2 [] O (BE 42 O (fun g1=>?_) (fun g1=>?_)))))
  ·(try simp only[sd,se] at g1);refine BI O (A2 D0 O O) (BI O (A6 (i:=0) FW O O (Cv _)) (Ap As 2 [] O (BE 46 O (fun g2=>?_) (fun g2=>?_))))
   ·(try simp only[sd,se] at g2);exact Ak As 7 [] O (⟨O,O,AG,AF,⟨O,O,O,Aj⟩⟩)
   (try simp only[sd,se] at g2);exact BI O (A2 D0 O O) (BI O (A6 (i:=1) FW O O (Cq _)) (BI O (A2 D0 O O) (BI O (A6 (i:=0) FW O O (Cq _)) (Ak As 3 [] O (⟨O,O,AG,AF,⟨O,O,O,Aj⟩⟩)))))
  (try simp only[sd,se] at g1);exact Ak As 11 [] O (⟨O,O,AG,AF,⟨O,O,O,Aj⟩⟩)
 rintro _ rfl;refine Ao O (fun c3=>?_) (fun c3=>?_)
 ·(try simp only[sd,se] at c3);exfalso;(try simp at c3);omega
 (try simp only[sd,se] at c3);refine Aq (Am (Ar (Al O (A2 D0 O O) (Al O (A6 (i:=0) FW O O (Cv _)) (Ak As 1 [] O (Ao O (fun c4=>?_) (fun c4=>?_)))))))
 ·(try simp only[sd,se] at c4);exfalso;omega
 (try simp only[sd,se] at c4);refine Aq (Ar (Ap As 2 [1] O (Al O (Bq [3] O (.inl ⟨O,O,O⟩) (LK s sb ds (.vs ok (List.map Bp kn).length ck) (.vs ov (Ay vs).length cv) a d h1 h3.ok h2 h8) ⟨_,_,O,O,O⟩ Ag O (.inl O)) (Ap As 4 [] O (A5 O (Az Lx O) fun b8=>Al O (Bo (i:=0) Il O O O AZ AR (IS _)) (Ak As 2 [] O (Am (An As 2 [] O ?_))))))));refine Ao O (fun c5=>by cases c5) (fun c5=>?_);refine Aq (Ar (Ap As 2 [1] O (Al O (Bq [4] O (.inl ⟨O,O,O⟩) (LK s sb ds (.vs ok (List.map Bp kn).length ck) (.vs ov (Ay vs).length cv) b q h1 h4.ok h2 h9) ⟨_,_,O,O,O⟩ Ag O (.inl O)) (Ap As 4 [] O (A5 O (Az Lx O) fun b10=>Al O (Bo (i:=0) Il O O O AZ AR (IS _)) (Ak As 2 [] O (Am (An As 2 [] O ?_))))))));refine Ao O (fun c6=>by cases c6) (fun c6=>?_);refine Aq (Ar (Al O (A2 Ie O O) (Al O (A6 (i:=1) WN O O (EY _)) (Ap As 2 [] O (Al O (A6 (i:=0) WN O O (EY _)) (Al O (B5 D0 Bj O) (Al O (Jy O O (GW _ (.mk 3 0 ⟨#[]⟩ d.levels []:Tm) (.mk 3 0 ⟨#[]⟩ q.levels []:Tm) (Nat.le_refl _) (Pw h10)) (aw (Fl O) (aw (Fl O) (HX)))) (Ak As 1 [] O (Am (Am (BO [0,5,7,8,10] 107 (fun y=>y= .p (.bool (((true&&true)&&(d.name.toList==q.name.toList))&&(E9 (.mk 3 0 ⟨#[]⟩ d.levels []:Tm) (.mk 3 0 ⟨#[]⟩ q.levels []:Tm))))) ?_ ?_)))))))))))
 ·refine Au (Ap As 6 [] O (BI O (A6 (i:=1) P3 O O (Fe _)) (BI O (A2 Ie O O) (BI O (A6 (i:=0) P3 O O (Fe _)) (BI O (Gr O O) (Ap As 2 [] O (BE 105 O (fun g1=>?_) (fun g1=>?_))))))))
  ·(try simp only[sd,se] at g1);exact Ak As 2 [] O (⟨O,O,AG,AF,⟨O,O,O,O,O,Aj⟩⟩)
  (try simp only[sd,se] at g1);exact Ak As 2 [] O (⟨O,O,AG,AF,⟨O,O,O,O,O,Aj⟩⟩)
 rintro _ rfl;refine Ao O (fun c7=>?_) (fun c7=>?_)
 ·(try simp only[sd,se] at c7);refine Am (Ar (Al O (A2 Ie O O) (Al O (A6 (i:=1) P3 O O (Fa _)) (Al O (A2 Ie O O) (Al O (A6 (i:=0) P3 O O (Fa _)) (Al O (Gs O O) (BR O (Ao O (fun c8=>?_) (fun c8=>?_)))))))))
  ·(try simp only[sd,se] at c8);exfalso;simp_all
  (try simp only[sd,se] at c8);refine Aq (An As 1 [] O (Am (Ar (Al O (A2 Ie O O) (Al O (A6 (i:=1) NK O O (GB _)) (Al O (BB BP O (A8 _)) (Ak As 1 [] O (A1 (BK (EM (t:=13) (sz:=10) O) ?_)))))))));refine BZ (α:=Nat×Option Nat×Nat) (fun(i,o,cp)=>⟨157,mk [(0,.ptr s 0),(8,.ptr b8 0),(10,.ptr b10 0),(13,.vs o (List.map Bg ((d.fields.take i).zip (q.fields.take i))).length cp),(115,.p (I (d.fields.length:Nat))),(116,.p (I (i:Int)))],[.vec o 10 (List.map Bg ((d.fields.take i).zip (q.fields.take i))) cp,.box b10 ((HN q).map .p),.box b8 ((HN d).map .p),.box s [.ptr sb 0,.p (.lst (List.map Br ds)),(.vs ok (List.map Bp kn).length ck),(.vs ov (Ay vs).length cv)],.box sb [.vs o0 (List.map Bg ([]:List (Tm×Tm))).length c0],.vec o0 10 (List.map Bg ([]:List (Tm×Tm))) c0,.vec ok 1 (List.map Bp kn) ck,.vec ov 5 (Ay vs) cv],[]⟩) (fun(i,o,cp)=>d.fields.length - i) (fun(i,o,cp)=>i≤d.fields.length) ⟨0,none,0⟩ AK ?_ ?_
  ·exact BM ⟨we O,we O,we O,we (HC (f:=Bg) [] Ai),we O,we O,Aj⟩ (leH (is:=[0,1,2,6,7,8,9,10]) O (wl (GR (f:=Bg) [] Ai) (wl (oe O) (wl (oe O) (wl (oe O) (wl (oe O) (wl (oe O) (wl (oe O) (wl (oe O) (C8))))))))))
  rintro⟨i,o,cp⟩ hC
  try simp only at hC
  have hi:=hC;refine An As 1 [] O (Am (Ao O (fun c9=>?_) (fun c9=>?_)))
  ·(try simp only[sd,se] at c9);refine Aq (Am (A1 (An As 2 [] O (By (fun k=>Nat.beq k 13) Eg (BU As 2 [] O (DC (j:=2) O O O (fun H i hi=>A6 (i:=i) NK O hi (GB _)) AB Aj (BG O (fun _=>CF O) Aj ?_)))))));obtain⟨y,hy⟩:=A0 (l:=d.fields) (i:=i) Ah;refine BG O (fun _=>A3 BP O O Ah (Be hy) (A7 _)) Aj (BU As 2 [] O (DC (j:=1) O O O (fun H i hi=>A6 (i:=i) NK O hi (GB _)) AB Aj (BG O (fun _=>CF O) Aj ?_)));obtain⟨y1,hy1⟩:=A0 (l:=q.fields) (i:=i) Ah;refine BG O (fun _=>A3 BP O O Ah (Be hy1) (A7 _)) Aj (BU As 1 [] O ?_);obtain⟨yk,yi,yn,yl,ys⟩:=y;obtain⟨y1k,y1i,y1n,y1l,y1s⟩:=y1;refine BG O (fun _=>B5 YB GG O) Aj (BG O (fun _=>Bi (rows:=List.map Bg [((.mk yk yi yn yl ys:Tm),(.mk y1k y1i y1n y1l y1s:Tm))]) Km GG O O O O (CP (FH _)) (R2 _)) Aj (KU [] O O (Cb (i:=0) (rows':=List.map Bg [((.mk yk yi yn yl ys:Tm),(.mk y1k y1i y1n y1l y1s:Tm))]) Km Km GG O O O O O O (FH _) Ac (I2 (f:=Bg) ((d.fields.take i).zip (q.fields.take i)) [((.mk yk yi yn yl ys:Tm),(.mk y1k y1i y1n y1l y1s:Tm))])) Ad fun o1 cp1=>⟨AB,Aj,?_⟩));refine B1 As 1 [] O (Au (Ak As 2 [] O ?_));refine⟨⟨i+1,o1,cp1⟩,AN,by omega,BM ⟨we rfl,we rfl,we rfl,we (HC (f:=Bg) (((d.fields.take i).zip (q.fields.take i))++[((.mk yk yi yn yl ys:Tm),(.mk y1k y1i y1n y1l y1s:Tm))]) (Jg hy hy1)),we rfl,we rfl,trivial⟩ (leH (is:=[0,1,2,3,4,5,6,7]) rfl (wl (GR (f:=Bg) (((d.fields.take i).zip (q.fields.take i))++[((.mk yk yi yn yl ys:Tm),(.mk y1k y1i y1n y1l y1s:Tm))]) (Jg hy hy1)) (wl (oe rfl) (wl (oe rfl) (wl (oe rfl) (wl (oe rfl) (wl (oe rfl) (wl (oe rfl) (wl (oe rfl) (C8))))))))))⟩
  (try simp only[sd,se] at c9);generalize hK:((d.fields.take i).zip (q.fields.take i))=K;obtain rfl:K=[(f,g)]:=by rw[←hK];rw[show i=d.fields.length by omega,List.take_length,hf1,←hg1,List.take_length,h14,h15];rfl
  refine Bc (Ar (Ap As 5 [3] O (CJ (CX (i:=0) [13,138] O (DV ⟨O,O,Aj⟩)) ?_)));refine JY [3,4] O O O (.inl ⟨O,O,O⟩) (XB sb o0 c0 (f,g)) ⟨_,_,O,O,⟨_,_,O,O,O⟩⟩ Ag (aw (we O) (aw (we O) HX)) ?_ (fun _ _ ⟨_,_,h,_⟩=>by cases h);rintro _ _ ⟨on,cn,h,rfl⟩;cases h;refine⟨O,?_⟩;refine BR O (An As 1 [] O (Av (⟨O,_,_,⟨_,_,O,O,O⟩,(CM (is:=[2,3,4,5,6]) O),?_⟩)));exact⟨_,_,O,O⟩
 (try simp only[sd,se] at c7);exfalso;simp_all [CR]
def Kx (ds:List Bx) (x:Tm×Tm) (kn:List Bool) (vs:List Tm) (e:Int) (es:List (Tm×Tm)) (kn2:List Bool) (vs2:List Tm):Prop:=∀(s sb:Nat) (o0 ok ov:Option Nat) (c0 ck cv:Nat),Bb Tryz.prog 102 [.ptr s 0,.agg ((Bg x).map .p)] [.box s [.ptr sb 0,.p (.lst (List.map Br ds)),.vs ok (List.map Bp kn).length ck,.vs ov (Ay vs).length cv],.box sb [.vs o0 (List.map Bg ([]:List (Tm×Tm))).length c0],.vec o0 10 (List.map Bg ([]:List (Tm×Tm))) c0,.vec ok 1 (List.map Bp kn) ck,.vec ov 5 (Ay vs) cv] (fun r H'=>∃o c,r= .val (.p (I e))∧H'=[.box s [.ptr sb 0,.p (.lst (List.map Br ds)),.vs ok (List.map Bp kn2).length ck,.vs ov (Ay vs2).length cv],.box sb [.vs o (List.map Bg es).length c],.vec o 10 (List.map Bg es) c,.vec ok 1 (List.map Bp kn2) ck,.vec ov 5 (Ay vs2) cv])
theorem SK {ds:List Bx}{kn:List Bool}{vs:List Tm}{x:Tm×Tm}{a b:Tm}{e:Int}{kn2:List Bool}{vs2:List Tm}(h1:C3 ds) (h2:Dh ds) (h3:Ev ds kn vs x.1 a) (h4:Ev ds kn vs x.2 b) (h5:E9 a b=false) (h6:a.kind=0∧(b.kind≠0∨a.index<b.index)) (h7:Q7 ds kn vs a.index b e kn2 vs2):Kx ds x kn vs e [] kn2 vs2:=fun s sb o0 ok ov c0 ck cv =>
 (ZZ s sb ds o0 ok ov c0 ck cv kn vs x a b e kn2 vs2 h1 h2 h3 h4 h5 h6 h7).mono (by rintro(v | v) H' h<;>first | exact h.elim | (obtain⟨rfl,rfl⟩:=h;exact⟨o0,c0,rfl,rfl⟩))
theorem Sr {ds:List Bx}{kn:List Bool}{vs:List Tm}{x:Tm×Tm}{a b:Tm}{e:Int}{kn2:List Bool}{vs2:List Tm}(h1:C3 ds) (h2:Dh ds) (h3:Ev ds kn vs x.1 a) (h4:Ev ds kn vs x.2 b) (h5:E9 a b=false) (h6:b.kind=0∧(a.kind≠0∨b.index≤a.index)) (h7:Q7 ds kn vs b.index a e kn2 vs2):Kx ds x kn vs e [] kn2 vs2:=fun s sb o0 ok ov c0 ck cv =>
 (ZA s sb ds o0 ok ov c0 ck cv kn vs x a b e kn2 vs2 h1 h2 h3 h4 h5 h6 h7).mono (by rintro(v | v) H' h<;>first | exact h.elim | (obtain⟨rfl,rfl⟩:=h;exact⟨o0,c0,rfl,rfl⟩))
theorem WJ {ds:List Bx}{kn:List Bool}{vs:List Tm}{x:Tm×Tm}{a b:Tm}{d q:RJ}(h1:C3 ds) (h2:Dh ds) (h3:Ev ds kn vs x.1 a) (h4:Ev ds kn vs x.2 b) (h5:E9 a b=false) (h6:a.kind≠0) (h7:b.kind≠0) (h8:Ci ds a=some d) (h9:Ci ds b=some q) (h10:d.levels=[]) (h11:q.levels=[]) (h12:d.name.toList=q.name.toList) (h13:¬d.ctor.toList=q.ctor.toList):Kx ds x kn vs 20 [] kn vs:=fun s sb o0 ok ov c0 ck cv =>
 (Zr s sb ds o0 ok ov c0 ck cv kn vs x a b d q h1 h2 h3 h4 h5 h6 h7 h8 h9 h10 h11 h12 h13).mono (by rintro(v | v) H' h<;>first | exact h.elim | (obtain⟨rfl,rfl⟩:=h;exact⟨o0,c0,rfl,rfl⟩))
theorem Xp {ds:List Bx}{kn:List Bool}{vs:List Tm}{x:Tm×Tm}{a b:Tm}{d q:RJ}{f g:Tm}(h1:C3 ds) (h2:Dh ds) (h3:Ev ds kn vs x.1 a) (h4:Ev ds kn vs x.2 b) (h5:E9 a b=false) (h6:a.kind≠0) (h7:b.kind≠0) (h8:Ci ds a=some d) (h9:Ci ds b=some q) (h10:d.levels=[]) (h11:q.levels=[]) (h12:d.name.toList=q.name.toList) (h13:d.ctor.toList=q.ctor.toList) (h14:d.fields=[f]) (h15:q.fields=[g]):Kx ds x kn vs 0 [(f,g)] kn vs:=fun s sb o0 ok ov c0 ck cv =>
 Zm s sb ds o0 ok ov c0 ck cv kn vs x a b d q f g h1 h2 h3 h4 h5 h6 h7 h8 h9 h10 h11 h12 h13 h14 h15
theorem VN {ds:List Bx}{kn:List Bool}{vs:List Tm}{idx:Int}{t:Tm}(h1:Kt kn vs idx t):Q7 ds kn vs idx t 0 (kn.set ((kn.length:Nat) - 1 - idx:Int).toNat true) (vs.set ((kn.length:Nat) - 1 - idx:Int).toNat t):=fun s sb ok ov ck cv=>ZP s sb ds ok ov ck cv kn vs idx t h1
theorem Y9 {ds:List Bx}{kn:List Bool}{vs:List Tm}{idx:Int}{t:Tm}(h1:C3 ds) (h2:okB t=true) (h3:Dh ds) (h4:0≤idx∧idx<1000) (h5:MN idx t=true) (h6:Ci ds t=none):Q7 ds kn vs idx t 19 kn vs:=fun s sb ok ov ck cv=>ZR s sb ds ok ov ck cv kn vs idx t h1 h2 h3 h4 h5 h6
theorem ZX {ds:List Bx}{kn:List Bool}{vs:List Tm}{idx:Int}{t:Tm}{nm cm:ByteArray}{ls:List CB}(h1:C3 ds) (h2:okB t=true) (h3:Dh ds) (h4:0≤idx∧idx<1000) (h5:MN idx t=true) (h6:Ci ds t=some ⟨nm,cm,ls,[Cn idx]⟩):Q7 ds kn vs idx t 20 kn vs:=fun s sb ok ov ck cv=>ZQ s sb ds ok ov ck cv kn vs idx t nm cm ls h1 h2 h3 h4 h5 h6
inductive Ib (ds:List Bx):Nat→List (Tm×Tm)→List Bool→List Tm→Int→List Bool→List Tm→Prop
 | done (n:Nat) (kn:List Bool) (vs:List Tm):Ib ds n [] kn vs 0 kn vs
 | fail (n:Nat) (x:Tm×Tm) (kn:List Bool) (vs:List Tm) (e:Int) (es:List (Tm×Tm)) (kn2:List Bool) (vs2:List Tm) (h:Kx ds x kn vs e es kn2 vs2) (he:e≠0):Ib ds (n+1) [x] kn vs e [] []
 | go (n:Nat) (x:Tm×Tm) (kn:List Bool) (vs:List Tm) (es:List (Tm×Tm)) (kn2:List Bool) (vs2:List Tm) (e:Int) (kn3:List Bool) (vs3:List Tm) (h:Kx ds x kn vs 0 es kn2 vs2) (r:Ib ds n es kn2 vs2 e kn3 vs3):Ib ds (n+1) [x] kn vs e kn3 vs3
theorem Ib.cons {ds:List Bx}{n:Nat}{es:List (Tm×Tm)}{kn:List Bool}{vs:List Tm}{e:Int}{kn3:List Bool}{vs3:List Tm}(h:Ib ds n es kn vs e kn3 vs3) (hl:0<es.length):∃m x,n=m+1∧es=[x]∧((∃es2 kn2 vs2,Kx ds x kn vs e es2 kn2 vs2∧e≠0∧kn3=[]∧vs3=[])∨(∃es2 kn2 vs2,Kx ds x kn vs 0 es2 kn2 vs2∧Ib ds m es2 kn2 vs2 e kn3 vs3)):=by
 cases h with
 | done=>simp at hl
 | fail n x _ _ _ es kn2 vs2 h he=>exact⟨_,_,rfl,rfl,.inl ⟨_,_,_,h,he,rfl,rfl⟩⟩
 | go n x _ _ es kn2 vs2 _ _ _ h r=>exact⟨_,_,rfl,rfl,.inr ⟨_,_,_,h,r⟩⟩
theorem Ib.nil {ds:List Bx}{n:Nat}{es:List (Tm×Tm)}{kn:List Bool}{vs:List Tm}{e:Int}{kn3:List Bool}{vs3:List Tm}(h:Ib ds n es kn vs e kn3 vs3) (hl:¬0<es.length):e=0∧kn=kn3∧vs=vs3:=by
 cases h with
 | done=>exact⟨rfl,rfl,rfl⟩
 | fail n x _ _ _ es kn2 vs2 h he=>simp at hl
 | go n x _ _ es kn2 vs2 _ _ _ h r=>simp at hl
end Go.Proofs.YtifphifongokcaaGreat
