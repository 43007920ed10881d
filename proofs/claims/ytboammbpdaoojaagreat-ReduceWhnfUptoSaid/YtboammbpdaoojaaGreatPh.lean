/- Part of the proofs: an abstract program logic, plain models and contracts of functions. -/
import Derived.Test.YtboammbpdaoojaaGreatPg
import Derived.Test.YtboammbpdaoojaaGreatPd
import Derived.Test.YtboammbpdaoojaaGreatPc
import Derived.Test.YtboammbpdaoojaaGreatPe
import Derived.Test.YtboammbpdaoojaaGreatPb
set_option linter.unusedVariables false
set_option linter.unusedSimpArgs false
set_option maxRecDepth 100000
namespace Go.Proofs.YtboammbpdaoojaaGreat
open Go.Abs Go.Eu
theorem kF:∀(l b1 b2:Nat) (d:Cc) (at_:Int) (nm:ByteArray) (TA:Gf→List BU) (T0:List BU),(d.kind=0∨Nn d)→(∀s e,(s,e)∈Fg d at_→L7 Tryz.prog l [.p (.str s),.agg ((Dp e).map .p)] T0 (WL (.p (.bool (!decide (s=nm)))) (fun T=>T=if s=nm then TA e else T0)))→B4 Tryz.prog 170 [.fn (.yield l) [] [],.ptr b2 0,.ptr b1 0] (.box b1 ((Bw d).map .p):: .box b2 [.p (I at_)]::T0) (WL (.tup []) (fun H=>∃T,T=Iy TA T0 nm (Fg d at_)∧H= .box b1 ((Bw d).map .p):: .box b2 [.p (I at_)]::T)):=by
 intro l b1 b2 d at_ nm TA T0 h1 h2;refine BD Tryz.func170 O nC (n:=98) O O (A4 (A5 BA 2 [1] O (Ay O (A9 (i:=0) C0 O O (C6 _)) (Ay O (Ax Cv O O) (Ay O (CC (i:=0) Bd O O (FO _) (BL _)) (Ay O (CB FG IA (fc O O O)) (BP O (BF IA O) fun b4=>Az BA 1 [0,1] O (A4 (Ay O (Ax Cv O O) (Ay O (A9 (i:=1) C0 O O (EK _)) (Bt O (BH (A1 (A2 BA 2 [] O (Bi [0,1,2,4,16] 17 (fun y=>y= .p (.bool (decide (d.kind=0∨d.kind=1∨d.kind=2)))) ?_ ?_)))))))))))))))
 ·refine A3 O (fun c=>?_) (fun c=>?_)
  ·(try simp only[sd,se] at c);exact A7 (⟨O,O,(List.Sublist.refl _),(by refine pB (Bool.eq_iff_iff.2 ?_);simp only[beq_iff_eq,decide_eq_true_eq];omega),⟨O,O,O,O,O,Aw⟩⟩)
  (try simp only[sd,se] at c);refine A2 BA 2 [] O (A3 O (fun c1=>?_) (fun c1=>?_))
  ·(try simp only[sd,se] at c1);exact A7 (⟨O,O,(List.Sublist.refl _),(by refine pB (Bool.eq_iff_iff.2 ?_);simp only[beq_iff_eq,decide_eq_true_eq];omega),⟨O,O,O,O,O,Aw⟩⟩)
  (try simp only[sd,se] at c1);exact A8 (Az BA 2 [] O (⟨O,O,(List.Sublist.refl _),(by refine pB (Bool.eq_iff_iff.2 ?_);simp only[beq_iff_eq,decide_eq_true_eq];omega),⟨O,O,O,O,O,Aw⟩⟩))
 rintro _ rfl;refine A3 O (fun c=>?_) (fun c=>?_)
 ·(try simp only[sd,se] at c);have hx0:([0,1,2]:List Int)[d.kind.toNat]?=some d.kind:=by
   have:d.kind=0∨d.kind=1∨d.kind=2:=by simpa using c
   rcases this with e | e | e<;>rw[e]<;>rfl
  have hk0:0≤d.kind∧d.kind<3:=by
   have:d.kind=0∨d.kind=1∨d.kind=2:=by simpa using c
   omega
  refine A4 (Ay O (B0 Hp hY O O O O O) (Ay O (Ax Cv O O) (Ay O (A9 (i:=1) C0 O O (EK _)) (Ay O (BC Hp O O Au (MB hx0) (O)) (A5 BA 2 [] O (Ay O (EG (i:=0) (ds:=(Dp (Gf.mk d.kind at_ 0 d.params d.type)).map .p) C0 O O O O O O O) (Bt O (A8 (A5 BA 2 [] O (Ay O (A9 (i:=1) Lm O O (Db _)) (Ay O (BI (i:=0) IL O O Ak) (JI [_,_,_] O O O O (h2 _ _ (cc (by simpa using c))) O ?_ (fun _ _ h=>h.elim)))))))))))));rintro _ T ⟨rfl,hT⟩;refine Bt O ⟨O,_,_,O,(Gz [1,2] [_,_,_] O),?_⟩;exact⟨O,_,(hT.trans (XY (by simpa using c)).symm),O⟩
 (try simp only[sd,se] at c);have hD:Nn d:=by
  rcases h1 with h | h
  ·exact absurd (show d.kind=0∨d.kind=1∨d.kind=2 from .inl h) (by simpa using c)
  exact h
 have hcl:=hD.cl;have hfl:=hD.fl;refine A2 BA 2 [] O (A3 O (fun c1=>?_) (fun c1=>?_))
 ·(try simp only[sd,se] at c1);refine A4 (Ay O (Ax FG O O) (Ay O (EG (i:=0) (ds:=(Dp (Gf.mk 3 at_ 0 d.params d.type)).map .p) C0 O O O O O O O) (Bt O (A1 (A4 (A5 BA 2 [] O (Ay O (A9 (i:=1) Lm O O (Db _)) (Ay O (BI (i:=0) IL O O Ak) (JI [_,_,_] O O O O (h2 _ _ (gM (by simpa using c1))) O ?_ (fun _ _ h=>h.elim))))))))));rintro _ T ⟨rfl,hT⟩;refine Az BA 1 [] O (A3 O (fun c2=>?_) (fun c2=>?_))
  ·(try simp only[sd,se] at c2);refine A6 ⟨O,_,_,O,(Gz [1,2] [_,_,_] O),?_⟩;exact⟨O,_,(hT.trans ((if_pos (by simpa using c2)).trans (aW (by simpa using c1) (by simpa using c2)).symm)),O⟩
  (try simp only[sd,se] at c2);have qc2:¬(d.name=nm):=by simpa using c2
  rw[if_neg qc2] at hT;have hT:=hT.symm;subst hT;refine A7 (A1 (A4 (Ay O (Ax Cv O O) (Ay O (A9 (i:=1) Hk O O (CN _)) (Ay O (BZ HY O (List.length_map _)) (Az BA 1 [] O (BH ?_)))))));refine Bo (α:=Nat) (fun i=>⟨98,mk [(0,.fn (.yield l) [] []),(1,.ptr b2 0),(2,.ptr b1 0),(42,.p (.lst (List.map G0 d.ctors))),(43,.p (I (d.ctors.length:Nat))),(44,.p (I (i:Int)))],(.box b1 ((Bw d).map .p):: .box b2 [.p (I at_)]::T0),[]⟩) (fun i=>d.ctors.length - i) (fun i=>i≤d.ctors.length∧(∀j,j<i→∀y,d.ctors[j]?=some y→y.name≠nm)) 0 (⟨by omega,fun j h=>by omega⟩) ?_ ?_
  ·exact Bk ⟨we O,we O,we O,we O,we O,we O,Aw⟩ (Yx [1,2] [_,_,_] (l':=[_,_]) O (wl (oe O) (wl (oe O) (DN))))
  rintro i hC
  try simp only at hC
  obtain⟨hi,hC⟩:=hC;refine A2 BA 1 [] O (A1 (A3 O (fun c3=>?_) (fun c3=>?_)))
  ·(try simp only[sd,se] at c3);refine A7 (A1 (BH (A4 (B6 O ?_))));obtain⟨x,hx⟩:=BE (l:=d.ctors) (i:=i) Au;refine Ay O (BC HY O O Au (Ek hx) (EN _)) (Ay O (BQ mf O (EN _)) (BP O (BF Yv O) fun b6=>Az BA 2 [0,1] O (A4 (A5 BA 2 [] O (Ay O (A9 (i:=0) Lm O O (Fx _)) (A5 BA 3 [2] O (Ay O (A9 (i:=1) C0 O O (C6 _)) (Ay O (Ax I0 O O) (Ay O (CC (i:=0) Bd O O (FJ _) (BL _)) (Ay O (CB FG IA (Om O O O O O)) (JI [_,_,_] O O O O (h2 _ _ (bV (by simpa using c1) hx)) O ?_ (fun _ _ h=>h.elim))))))))))));rintro _ T1 ⟨rfl,hT1⟩;refine Az BA 1 [] O (A3 O (fun c4=>?_) (fun c4=>?_))
   ·(try simp only[sd,se] at c4);refine A6 ⟨O,_,_,O,(Gz [1,2] [_,_,_] O),?_⟩;exact⟨O,_,(hT1.trans ((if_pos (by simpa using c4)).trans (Xa (by simpa using c1) qc2 hx (by simpa using c4) hC).symm)),O⟩
   (try simp only[sd,se] at c4);have qc4:¬(x.name=nm):=by simpa using c4
   rw[if_neg qc4] at hT1;have hT1:=hT1.symm;subst hT1;refine A7 (A8 (Az BA 2 [] O (⟨(i+1),AU,⟨by omega,DD (p:=fun _ (y:Im)=>y.name≠nm) hC hx qc4⟩,Bk ⟨we rfl,we rfl,we rfl,we rfl,we rfl,we rfl,trivial⟩ (Yx [1,2] [_,_,_] (l':=[_,_]) rfl (wl (oe rfl) (wl (oe rfl) (DN))))⟩)))
  (try simp only[sd,se] at c3);refine Br (A8 (A5 BA 2 [] O (Ay O (A9 (i:=0) Lm O O (Db _)) (Ay O (Rk O O (by have:(⟨#[46,114,101,99]⟩:ByteArray).size=4:=rfl;have:=hD.nm;omega)) (A5 BA 3 [1] O (Ay O (A9 (i:=0) C0 O O (Dv _)) (A5 BA 2 [] O (Ay O (CC (i:=0) Bd O O (FM _) (BL _)) (Ay O (CB FG IA (Yw O O O O)) (JI [_,_] O O O O (h2 _ _ (jA (by simpa using c1))) O ?_ (fun _ _ h=>h.elim)))))))))));rintro _ T1 ⟨rfl,hT1⟩;refine Bt O ⟨O,_,_,O,(Gz [0,1] [_,_] O),?_⟩;exact⟨O,_,(hT1.trans (bC (by simpa using c1) qc2 fun j hj=>hC j Au).symm),O⟩
 (try simp only[sd,se] at c1);refine A2 BA 2 [] O (A3 O (fun c2=>?_) (fun c2=>?_))
 ·(try simp only[sd,se] at c2);refine A4 (Ay O (Ax Cv O O) (Ay O (A9 (i:=1) Hn O O (CV _)) (Ay O (BZ HW O (List.length_map _)) (Az BA 1 [] O (BH ?_)))));refine Bo (α:=Nat) (fun i=>⟨98,mk [(0,.fn (.yield l) [] []),(1,.ptr b2 0),(2,.ptr b1 0),(78,.p (.lst (List.map Fa d.funs))),(79,.p (I (d.funs.length:Nat))),(80,.p (I (i:Int)))],(.box b1 ((Bw d).map .p):: .box b2 [.p (I at_)]::T0),[]⟩) (fun i=>d.funs.length - i) (fun i=>i≤d.funs.length∧(∀j,j<i→∀y,d.funs[j]?=some y→y.name≠nm)) 0 (⟨by omega,fun j h=>by omega⟩) ?_ ?_
  ·exact Bk ⟨we O,we O,we O,we O,we O,we O,Aw⟩ (Yx [1,2] [_,_,_] (l':=[_,_]) O (wl (oe O) (wl (oe O) (DN))))
  rintro i hC
  try simp only at hC
  obtain⟨hi,hC⟩:=hC;refine A2 BA 1 [] O (A1 (A3 O (fun c3=>?_) (fun c3=>?_)))
  ·(try simp only[sd,se] at c3);refine A7 (A1 (BH (A4 (B6 O ?_))));obtain⟨x,hx⟩:=BE (l:=d.funs) (i:=i) Au;refine Ay O (BC HW O O Au (Es hx) (Dd _)) (Ay O (BQ aN O (Dd _)) (BP O (BF X2 O) fun b8=>Az BA 2 [0,1] O (A4 (A5 BA 2 [] O (Ay O (A9 (i:=0) Lm O O (I9 _)) (A5 BA 3 [2] O (Ay O (A9 (i:=1) C0 O O (C6 _)) (Ay O (Ax Gu O O) (Ay O (CC (i:=0) Bd O O (I4 _) (BL _)) (Ay O (CB FG IA (Om O O O O O)) (JI [_,_,_] rfl rfl rfl rfl (h2 _ _ (gw (by simpa using c2) hx)) rfl ?_ (fun _ _ h=>h.elim))))))))))));rintro _ T ⟨rfl,hT⟩;refine Az BA 1 [] O (A3 O (fun c4=>?_) (fun c4=>?_))
   ·(try simp only[sd,se] at c4);refine A6 ⟨O,_,_,O,(Gz [1,2] [_,_,_] O),?_⟩;exact⟨O,_,(hT.trans ((if_pos (by simpa using c4)).trans (Zq (by simpa using c2) hx (by simpa using c4) hC).symm)),O⟩
   (try simp only[sd,se] at c4);have qc4:¬(x.name=nm):=by simpa using c4
   rw[if_neg qc4] at hT;have hT:=hT.symm;subst hT;refine A7 (A8 (Az BA 2 [] O (⟨(i+1),AU,⟨by omega,DD (p:=fun _ (y:Hj)=>y.name≠nm) hC hx qc4⟩,Bk ⟨we rfl,we rfl,we rfl,we rfl,we rfl,we rfl,trivial⟩ (Yx [1,2] [_,_,_] (l':=[_,_]) rfl (wl (oe rfl) (wl (oe rfl) (DN))))⟩)))
  (try simp only[sd,se] at c3);refine Br ⟨O,_,_,O,(Gz [0,1] [_,_] O),?_⟩;exact⟨O,_,(Xi (by simpa using c2) fun j hj=>hC j Au).symm,O⟩
 (try simp only[sd,se] at c2);refine A7 ⟨O,_,_,O,(Gz [1,2] [_,_,_] O),?_⟩;exact⟨O,_,(XX (by simpa using c) (by simpa using c1) (by simpa using c2)).symm,O⟩
theorem lH:∀(d:Cc) (at_:Int),B4 Tryz.prog 144 [.agg ((Bw d).map .p),.p (I at_)] [] (fun r H'=>∃b1 b2,r= .val (.fn (.func 170) [] [.ptr b2 0,.ptr b1 0])∧H'=[.box b2 [.p (I at_)],.box b1 ((Bw d).map .p)]):=by
 intro d at_;refine BD Tryz.func144 O mB (n:=6) O O (A4 (BP O (Bf O) fun b2=>BP O (Bf O) fun b3=>Az BA 1 [] O (A2 BA 2 [] O (A6 (⟨O,_,_,⟨_,_,O,O,O⟩,(CJ (is:=[0,1]) O),?_⟩)))));exact⟨_,_,O,O⟩
theorem Yi:∀(ds:List Cc) (nm:ByteArray),(ds.length<Dt)→(pz ds)→Et Tryz.prog 116 [.p (.lst (List.map Bw ds)),.p (.str nm)] (.tup [.agg ((Dp ((B3 ds nm).1)).map .p),.p (I ((B3 ds nm).2))]):=by
 intro ds nm h1 h2;simp only[Dt] at h1;refine Fs Tryz.func116 O oc (n:=28) O O (A4 (BP O (Bf O) fun b3=>BP O (BF IA O) fun b4=>BP O (BF bj O) fun b5=>Bt O (A1 (A4 (B6 O (Ay O (BZ Hv O (List.length_map _)) (Az BA 1 [] O (BH ?_))))))));refine Bo (α:=Nat×List Nat) (fun(i,U)=>⟨28,mk [(3,.ptr b3 0),(4,.ptr b4 0),(5,.ptr b5 0),(10,.p (.lst (List.map Bw ds))),(11,.p (I (ds.length:Nat))),(12,.p (I (i:Int)))],(.box b5 [.p (I 0)]:: .box b4 [.p (I 0),.p (I 0),.p (I 0),.p (I 0),.p (I 0),.p (I 0),.p (.str ⟨#[]⟩),.p (.nils),.p (.nils)]:: .box b3 [.p (.str nm)]::(U.map BU.dfr)),(U.map Ej.mark)⟩) (fun(i,U)=>ds.length - i) (fun(i,U)=>i≤ds.length∧(∀j,j<i→∀y,ds[j]?=some y→DA nm (Fg y j)=none)) ⟨0,[]⟩ (⟨by omega,fun j h=>by omega⟩) ?_ ?_
 ·exact Bk ⟨we O,we O,we O,we O,we O,we O,Aw⟩ (Yx [0,1,2] [_,_,_] (l':=[_,_,_]) O (wl (oe O) (wl (oe O) (wl (oe O) (DN)))))
 rintro⟨i,U⟩ hC
 try simp only at hC
 obtain⟨hi,hC⟩:=hC;refine A2 BA 1 [] O (A1 (A3 O (fun c=>?_) (fun c=>?_)))
 ·(try simp only[sd,se] at c);refine A7 (A1 (BH (A4 (B6 O ?_))));obtain⟨x,hx⟩:=BE (l:=ds) (i:=i) Au;have hx0:=h2 _ (List.mem_of_getElem? hx);refine Ay O (BC Hv O O Au (EX hx) (Cw _)) (Ay O (BQ EJ O (Cw _)) (BP O (BF Je O) fun b7=>Az BA 2 [0,1] O (A4 (A5 BA 2 [0] O ?_))));refine JA (Hs:=[]) O O O (.inl ⟨O,O,O⟩) (List.Perm.refl _) ((lH x ((i:Int))).args (aw (we O) (aw (we O) FH))) (.inl O) ?_ (fun _ _ ⟨_,_,h,_⟩=>by cases h);rintro _ _ ⟨bd,ba,h,rfl⟩;cases h;refine Bt O (BH (Rn (.inr O) fun dd l L hL=>⟨_,_,Sb (is:=[3,2,0,4,5,6,7]) (base:=[_,_,_,_,_,_,_,_]) (rest:=[.dfr dd]) As ⟨_,_,O,O,⟨_,_,O,O,⟨_,_,O,O,⟨_,_,O,O,⟨_,_,O,O,⟨_,_,O,O,⟨_,_,O,O,O⟩⟩⟩⟩⟩⟩⟩ O,?_⟩));have hy:∀(sn:ByteArray) (en:Gf),(sn,en)∈Fg x ((i:Int))→L7 Tryz.prog l [.p (.str sn),.agg ((Dp en).map .p)] [.loop l L,.box b7 ((Bw x).map .p),.box b5 [.p (I 0)],.box b4 [.p (I 0),.p (I 0),.p (I 0),.p (I 0),.p (I 0),.p (I 0),.p (.str ⟨#[]⟩),.p (.nils),.p (.nils)],.box b3 [.p (.str nm)]] (WL (.p (.bool (!decide (sn=nm)))) (fun T:List BU=>T=if sn=nm then [.loop l { L with state:= .done,pending:=some .ret },.box b7 ((Bw x).map .p),.box b5 [.p (I 0)],.box b4 ((Dp en).map .p),.box b3 [.p (.str nm)]] else [.loop l L,.box b7 ((Bw x).map .p),.box b5 [.p (I 0)],.box b4 [.p (I 0),.p (I 0),.p (I 0),.p (I 0),.p (I 0),.p (I 0),.p (.str ⟨#[]⟩),.p (.nils),.p (.nils)],.box b3 [.p (.str nm)]])):=by
   intro sn en hm;obtain⟨LB,hLB⟩:∃x,x=BU.loop l { L with state:= .busy }:=⟨_,rfl⟩;subst hL;refine TJ (i:=0) O O O O (A2 BA 1 [] O (A8 (BP O (BF IA O) fun b9=>Az BA 1 [0,1] O ⟨O,1,O,?_⟩)));rw[←hLB];refine BH (A4 (A5 BA 2 [5] O (Ay O (GF O O) (Bt O (A3 O (fun c1=>?_) (fun c1=>?_))))))
   ·(try simp only[sd,se] at c1);refine A2 BA 3 [0,4,1,3,0] O (A6 ?_);subst hLB;refine⟨1,_,O,CJ (is:=[1,2,3,4,5]) O,?_⟩;have hcc:sn=nm:=G3 (by simpa using c1);exact⟨by simp[hcc],(if_pos hcc).symm⟩
   (try simp only[sd,se] at c1);refine A7 ?_;subst hLB;refine⟨1,_,O,CJ (is:=[1,2,3,4,5]) O,?_⟩;have hcc:¬(sn=nm):=fun h=>by simp[h] at c1
   exact⟨by simp[hcc],(if_neg hcc).symm⟩
  refine(kF l bd ba x ((i:Int)) nm (fun en=>[.loop l { L with state:= .done,pending:=some .ret },.box b7 ((Bw x).map .p),.box b5 [.p (I 0)],.box b4 ((Dp en).map .p),.box b3 [.p (.str nm)]]) _ (hx0) hy).mono ?_;rintro(v | v) H' hR
  rotate_left
  ·exact hR.elim
  obtain⟨rfl,_,hT,rfl⟩:=hR;subst hL;unfold Iy at hT;cases hF:DA nm (Fg x ((i:Int))) with
  | some en =>
   rw[hF] at hT;simp only at hT;subst hT;refine YG (i:=2) (.box bd ((Bw x).map .p):: .box ba [.p (I (i:Int))]:: .box b7 ((Bw x).map .p):: .box b5 [.p (I 0)]:: .box b4 ((Dp en).map .p):: .box b3 [.p (.str nm)]::(.dfr dd::U.map BU.dfr)) O Av O O (A6 (Po (dd::U) (Hs:=[_,_,_,_,_,_]) (⟨_,_,⟨_,_,O,(BJ (i:=4) IL O O Ak),⟨_,_,O,(G7 (i:=3) SP O O),O⟩⟩,(List.nil_sublist _),?_⟩)))
   all_goals exact⟨by show (.tup [.agg ((Dp en).map .p),.p (I 0)]:AV)=_;rw[cU hx hC hF],rfl⟩
  | none =>
   rw[hF] at hT;simp only at hT;subst hT;refine WT (i:=2) (.box bd ((Bw x).map .p):: .box ba [.p (I (i:Int))]:: .box b7 ((Bw x).map .p):: .box b5 [.p (I 0)]:: .box b4 [.p (I 0),.p (I 0),.p (I 0),.p (I 0),.p (I 0),.p (I 0),.p (.str ⟨#[]⟩),.p (.nils),.p (.nils)]:: .box b3 [.p (.str nm)]::(.dfr dd::U.map BU.dfr)) O Av O O (A8 (Az BA 2 [] O (⟨⟨i+1,dd::U⟩,AU,⟨by omega,DD (p:=fun j (y:Cc)=>DA nm (Fg y j)=none) hC hx hF⟩,Bk ⟨we rfl,we rfl,we rfl,we rfl,we rfl,we rfl,trivial⟩ (Yx [3,4,5] [_,_,_,_,_,_] (l':=[_,_,_]) rfl (wl (oe rfl) (wl (oe rfl) (wl (oe rfl) (DN)))))⟩)))
 (try simp only[sd,se] at c);refine Br (A2 BA 3 [1,0,0,0] O (BS (Bj (i:=1) O) (A6 (Po U (Hs:=[_,_,_]) (⟨_,_,⟨_,_,O,(BJ (i:=1) IL O O O),⟨_,_,O,(G7 (i:=0) SP O O),O⟩⟩,(List.nil_sublist _),?_⟩)))))
 all_goals exact⟨by show (.tup [.agg [.p (I 0),.p (I 0),.p (I 0),.p (I 0),.p (I 0),.p (I 0),.p (.str ⟨#[]⟩),.p (.lst []),.p (.lst [])],.p (I 9)]:AV)=_;rw[dv fun j hj=>hC j Au];rfl,rfl⟩
theorem aa:∀(ds:List Cc) (nm:ByteArray),(Hd ds)→Et Tryz.prog 127 [.p (.lst (List.map Bw ds)),.p (.str nm)] (.tup [.agg ((Bw ((Ct ds nm).1)).map .p),.p (I ((Ct ds nm).2.1)),.p (.bool ((Ct ds nm).2.2))]):=by
 intro ds nm h1;have hl:=h1.len;refine BD Tryz.func127 O ly (n:=44) O O (A4 (BP O (BF Je O) fun b4=>Az BA 2 [] O (A4 (A5 BA 2 [] O (Ay rfl (BN rfl rfl (Yi ds nm Ad (fun d hd=> .inr (h1.all d hd))) rfl) (A5 BA 3 [] O (BP O (BF IA O) fun b7=>Az BA 2 [0,1] O (A1 (A2 BA 2 [] O (A3 O (fun c=>?_) (fun c=>?_)))))))))))
 ·(try simp only[sd,se] at c);refine A2 BA 4 [1,0] O (BS (Bj (i:=1) O) (A6 (⟨O,_,_,⟨_,_,O,(BJ (i:=1) EJ O O O),⟨_,_,O,O,⟨_,_,O,O,O⟩⟩⟩,(List.nil_sublist _),?_⟩)))
  all_goals exact⟨by show (.tup [.agg [.p (I 0),.p (.str ⟨#[]⟩),.p (I 0),.p (I 0),.p (I 0),.p (.str ⟨#[]⟩),.p (.lst []),.p (.lst []),.p (I 0),.p (I 0),.p (.str ⟨#[]⟩),.p (.lst []),.p (.lst []),.p (I 0),.p (.lst []),.p (I 0),.p (I 0),.p (I 0),.p (.str ⟨#[]⟩),.p (.lst []),.p (.lst []),.p (.lst []),.p (.lst [])],.p (I 0),.p (.bool false)]:AV)=_;rw[Y7 Au];rfl,rfl⟩
 (try simp only[sd,se] at c);obtain⟨fi,fd,hfi,hfo⟩:=Oa (ds:=ds) (nm:=nm) Au;have hdl:=hfo.decl;have hfl:=(List.getElem?_eq_some_iff.1 hfi).1;refine A7 (A1 (A4 (Ay O (Ax FG O O) (Ay O (A9 (i:=0) C0 O O (Dq _)) (Bt O (BH (A2 BA 2 [] O (A3 O (fun c1=>?_) (fun c1=>?_)))))))))
 ·(try simp only[sd,se] at c1);refine A4 (A5 BA 2 [] O (Ay O (A9 (i:=0) C0 O O (Ds _)) ?_));obtain⟨x,hx⟩:=BE (l:=ds) (i:=(((B3 ds nm).1).decl:Int).toNat) Au;refine Ay O (BC Hv O O Au (EX hx) (Cw _)) (Az BA 4 [1,1] O (A6 (⟨O,_,_,⟨_,_,O,(BJ (i:=1) EJ O O Aj),⟨_,_,O,O,⟨_,_,O,O,O⟩⟩⟩,(List.nil_sublist _),?_⟩)))
  all_goals exact⟨by show (.tup [.agg ((Bw x).map .p),.p (I (-1)),.p (.bool true)]:AV)=_;rw[jd Au Au hx],rfl⟩
 (try simp only[sd,se] at c1);refine A2 BA 2 [] O (A3 O (fun c2=>?_) (fun c2=>?_))
 ·(try simp only[sd,se] at c2);refine A1 (B7 (fun k=>false) D7 (A0 O (fun _=>BB O) Aw (A0 O (fun _=>Ax FG O O) Aw (BT (j:=0) O O O (fun H i hi=>A9 (i:=i) C0 O hi (Ds _)) AB Aw ?_))));obtain⟨x,hx⟩:=BE (l:=ds) (i:=(((B3 ds nm).1).decl:Int).toNat) Au;refine A0 O (fun _=>BC Hv O O Au (EX hx) (Cw _)) Aw (A0 O (fun _=>BQ EJ O (Cw _)) Aw (A0 O (fun _=>Ax FG O O) Aw (BT (j:=0) O O O (fun H i hi=>A9 (i:=i) C0 O hi (F6 _)) AB Aw (CF O O (Bc (i:=1) EJ O O O Aj AZ (Jt _)) AB Aw (A0 O (fun _=>Bb O) Aw (A0 O (fun _=>Bb O) Aw (Bv O Ap (A6 (⟨O,_,_,⟨_,_,O,(BJ (i:=1) EJ O O Aj),⟨_,_,O,O,⟨_,_,O,O,O⟩⟩⟩,(List.nil_sublist _),?_⟩)))))))))
  all_goals exact⟨by show (.tup [.agg ((Bw x).map .p),.p (I (((B3 ds nm).1).item)),.p (.bool true)]:AV)=_;rw[ji Au Au hx],rfl⟩
 (try simp only[sd,se] at c2);refine A2 BA 2 [] O (A3 O (fun c3=>?_) (fun c3=>?_))
 ·(try simp only[sd,se] at c3);refine A4 (A5 BA 2 [] O (Ay O (A9 (i:=0) C0 O O (Ds _)) ?_));obtain⟨x,hx⟩:=BE (l:=ds) (i:=(((B3 ds nm).1).decl:Int).toNat) Au;refine Ay O (BC Hv O O Au (EX hx) (Cw _)) (Az BA 4 [1,1] O (A6 (⟨O,_,_,⟨_,_,O,(BJ (i:=1) EJ O O Aj),⟨_,_,O,O,⟨_,_,O,O,O⟩⟩⟩,(List.nil_sublist _),?_⟩)))
  all_goals exact⟨by show (.tup [.agg ((Bw x).map .p),.p (I (-2)),.p (.bool true)]:AV)=_;rw[fJ Au Au hx],rfl⟩
 (try simp only[sd,se] at c3);refine A7 (A2 BA 4 [1,0] O (BS (Bj (i:=1) O) (A6 (⟨O,_,_,⟨_,_,O,(BJ (i:=1) EJ O O O),⟨_,_,O,O,⟨_,_,O,O,O⟩⟩⟩,(List.nil_sublist _),?_⟩))))
 all_goals exact⟨by show (.tup [.agg [.p (I 0),.p (.str ⟨#[]⟩),.p (I 0),.p (I 0),.p (I 0),.p (.str ⟨#[]⟩),.p (.lst []),.p (.lst []),.p (I 0),.p (I 0),.p (.str ⟨#[]⟩),.p (.lst []),.p (.lst []),.p (I 0),.p (.lst []),.p (I 0),.p (I 0),.p (I 0),.p (.str ⟨#[]⟩),.p (.lst []),.p (.lst []),.p (.lst []),.p (.lst [])],.p (I 0),.p (.bool false)]:AV)=_;rw[fI Au Au Au];rfl,rfl⟩
theorem O3:∀(m:Nat) (ds:List Cc) (n:Int) (h:Tm),(Hd ds)→B4 Tryz.prog 89 [.ptr m 0,.agg ((Bg h).map .p)] [.box m [.p (.lst (List.map Bw ds)),.p (I n)]] (Gx (.tup [.agg ((Dp ((B3 ds h.name).1)).map .p),.p (.bool (Sv ds h))]) [.box m [.p (.lst (List.map Bw ds)),.p (I n)]]):=by
 intro m ds n h h1;have hel:=h1.len;obtain⟨hk,hi,hn,hl,hs⟩:=h;refine BD Tryz.func89 O pq (n:=29) O O (A4 (BP O (Bf O) fun b3=>BP O (BF IA O) fun b4=>Az BA 1 [] O (A1 (B7 (fun k=>Nat.beq k 10) D7 (A0 O (fun _=>BB O) Aw (A0 O (fun _=>CW O) Aw (A0 O (fun _=>Ax R6 O O) Aw (BT (j:=2) O O O (fun H i hi=>BG (i:=i) Rg O hi O) AB Aw (A0 O (fun _=>Ax DV O O) Aw (BT (j:=1) O O O (fun H i hi=>BG (i:=i) Lm O hi O) AB Aw (A0 rfl (fun _=>BN rfl rfl (Yi ds hn Ad (fun d hd=> .inr (h1.all d hd))) rfl) trivial (A0 O (fun _=>BB O) Aw (A0 O (fun _=>By O O) Aw (A0 O (fun _=>By O O) Aw (HJ [] O O (BF IA O) Ap fun b6=>⟨AB,Aw,?_⟩)))))))))))))));refine CF O O (Bc (i:=0) IL O O O Ak AY (Jx _)) AB Aw (A0 O (fun _=>Bb O) Aw (Bv O Ap (A1 (B7 (fun k=>false) D7 (BT (j:=0) O O O (fun H i hi=>BI (i:=i) IL O hi Ak) AB Aw (A0 O (fun _=>BB O) Aw (A0 O (fun _=>C4 O O O) Aw (A0 O (fun _=>BB O) Aw (EB 21 O (fun g=>?_) (fun g=>?_))))))))))
 ·(try simp only[sd,se] at g);refine Be O (fun _=>Ax DV O O) Aw (Co (i:=2) O O O O O (fun H i hi=>BG (i:=i) UO O hi O) AB Aw (Be O (fun _=>BZ En O (List.length_map _)) Aw (Be O (fun _=>Ax FG O O) Aw (Co (i:=0) O O O O O (fun H i hi=>A9 (i:=i) C0 O hi (Hc _)) AB Aw (Be O (fun _=>C4 O O O) Aw (A0 O (fun _=>B2 O O) Aw (CF O O (Bc (i:=1) IL O O O Ak AY (Jx _)) AB Aw (A0 O (fun _=>Bb O) Aw (Bv O Ap (A6 (⟨O,_,_,⟨_,_,O,(BJ (i:=1) IL O O Ak),⟨_,_,O,O,O⟩⟩,(CJ (is:=[3]) O),?_⟩)))))))))))
  all_goals exact⟨by show (.tup [.agg ((Dp ((B3 ds hn).1)).map .p),.p (.bool (((hl.length:Nat):Int)==(((B3 ds hn).1).params:Int)))]:AV)=_;rw[eH (k:=hk) (i:=hi) (ks:=hs) (by first | exact g | omega)];rfl,rfl⟩
 (try simp only[sd,se] at g);refine BR O Aw (BR O Aw (BR O Aw (BR O Aw (BR O Aw (BR O Aw (A0 O (fun _=>B2 O O) Aw (CF O O (Bc (i:=1) IL O O O Ak AY (Jx _)) AB Aw (A0 O (fun _=>Bb O) Aw (Bv O Ap (A6 (⟨O,_,_,⟨_,_,O,(BJ (i:=1) IL O O Ak),⟨_,_,O,O,O⟩⟩,(CJ (is:=[3]) O),?_⟩)))))))))))
 all_goals exact⟨by show (.tup [.agg ((Dp ((B3 ds hn).1)).map .p),.p (.bool false)]:AV)=_;rw[j6 (k:=hk) (i:=hi) (ls:=hl) (ks:=hs) (by first | exact g | omega)];rfl,rfl⟩
theorem Qg:∀(m:Nat) (ds:List Cc) (n:Int) (t:Tm),(J7 ds)→(okB t=true)→B4 Tryz.prog 96 [.ptr m 0,.agg ((Bg t).map .p)] [.box m [.p (.lst (List.map Bw ds)),.p (I n)]] (Gx (.tup [.agg ((Bw ((CY ds t).1)).map .p),.p (I ((CY ds t).2.1)),.p (.lst (BO ((CY ds t).2.2.1))),.p (.bool ((CY ds t).2.2.2))]) [.box m [.p (.lst (List.map Bw ds)),.p (I n)]]):=by
 intro m ds n t h1 h2;have ho:=Cd.1 h2;have hosz:=ho.sz;have hoss:=HO t;have hosl:=PG t;have hosp:=IE h2;refine BD Tryz.func96 O rO (n:=67) O O (A4 (BP O (Bf O) fun b3=>BP O (BF Je O) fun b4=>Az BA 3 [] O (A4 (Ay O (BI (i:=1) Bd O O Am) (Ay O (BN O O (MF t ho.nd Ad) O) (A5 BA 3 [] O (BP O (BF B8 O) fun b8=>Az BA 2 [0,1] O (A1 (A4 (Ay O (Ax DV O O) ?_))))))))));generalize hz:(BK t).1=z;obtain⟨zk,zi,zn,zl,zs⟩:=z;refine Az BA 2 [0] O (A3 O (fun c=>?_) (fun c=>?_))
 ·(try simp only[sd,se] at c);refine A2 BA 5 [1,0] O (BS (Bj (i:=1) O) (BS (ER 6) (A6 (⟨O,_,_,⟨_,_,O,(BJ (i:=1) EJ O O O),⟨_,_,O,O,⟨_,_,O,O,⟨_,_,O,O,O⟩⟩⟩⟩,(CJ (is:=[3]) O),?_⟩))))
  all_goals exact⟨by show (.tup [.agg [.p (I 0),.p (.str ⟨#[]⟩),.p (I 0),.p (I 0),.p (I 0),.p (.str ⟨#[]⟩),.p (.lst []),.p (.lst []),.p (I 0),.p (I 0),.p (.str ⟨#[]⟩),.p (.lst []),.p (.lst []),.p (I 0),.p (.lst []),.p (I 0),.p (I 0),.p (I 0),.p (.str ⟨#[]⟩),.p (.lst []),.p (.lst []),.p (.lst []),.p (.lst [])],.p (I 0),.p (.lst (BO [])),.p (.bool false)]:AV)=_;rw[Ms (Y1 hz c)];rfl,rfl⟩
 (try simp only[sd,se] at c);refine A7 (A1 (B7 (fun k=>Nat.beq k 11) D7 (A0 O (fun _=>BB O) Aw (A0 O (fun _=>CW O) Aw (A0 O (fun _=>Ax R6 O O) Aw (BT (j:=3) O O O (fun H i hi=>BG (i:=i) Rg O hi O) AB Aw (A0 O (fun _=>Ax DV O O) Aw (BT (j:=0) O O O (fun H i hi=>BG (i:=i) Lm O hi O) AB Aw (A0 O (fun _=>BN O O (aa ds zn h1.env) O) Aw (A0 O (fun _=>BB O) Aw (A0 O (fun _=>By O O) Aw (A0 O (fun _=>By O O) Aw (A0 O (fun _=>By O O) Aw (HJ [] O O (BF Je O) Ap fun b10=>⟨AB,Aw,?_⟩))))))))))))));refine CF O O (Bc (i:=0) EJ O O O Aj AZ (Jt _)) AB Aw (A0 O (fun _=>Bb O) Aw (A0 O (fun _=>Bb O) Aw (Bv O Ap (A1 (A1 (Bi [4,9,10,11] 40 (fun y=>y= .p (.bool ((!((Ct ds zn).2.2))||(decide (((Ct ds zn).2.1:Int)<(0:Int)))))) ?_ ?_))))))
 ·refine A8 (A5 BA 3 [] O (Ba 37 O (fun g=>?_) (fun g=>?_)))
  ·(try simp only[sd,se] at g);exact Az BA 3 [] O (⟨O,O,AM,AJ,⟨O,O,O,O,Aw⟩⟩)
  (try simp only[sd,se] at g);exact Az BA 3 [] O (⟨O,O,AM,AJ,⟨O,O,O,O,Aw⟩⟩)
 rintro _ rfl;refine A3 O (fun c1=>?_) (fun c1=>?_)
 ·(try simp only[sd,se] at c1);have hcc:=c1;refine A2 BA 5 [2,0] O (BS (Bj (i:=2) O) (BS (ER 6) (A6 (⟨O,_,_,⟨_,_,O,(BJ (i:=2) EJ O O O),⟨_,_,O,O,⟨_,_,O,O,⟨_,_,O,O,O⟩⟩⟩⟩,(CJ (is:=[4]) O),?_⟩))))
  all_goals exact⟨by show (.tup [.agg [.p (I 0),.p (.str ⟨#[]⟩),.p (I 0),.p (I 0),.p (I 0),.p (.str ⟨#[]⟩),.p (.lst []),.p (.lst []),.p (I 0),.p (I 0),.p (.str ⟨#[]⟩),.p (.lst []),.p (.lst []),.p (I 0),.p (.lst []),.p (I 0),.p (I 0),.p (I 0),.p (.str ⟨#[]⟩),.p (.lst []),.p (.lst []),.p (.lst []),.p (.lst [])],.p (I 0),.p (.lst (BO [])),.p (.bool false)]:AV)=_;rw[Ms (Yz hz (by simpa using c) hcc)];rfl,rfl⟩
 (try simp only[sd,se] at c1);have hcc:(Ct ds zn).2.2=true∧¬(Ct ds zn).2.1<0:=⟨c1.1,by omega⟩;have hfd:=XW h1 hcc.1 hcc.2;have hfr:=NM hfd.1 hfd.2.2.1 hfd.2.2.2 hfd.2.1.1;have hfx:=hfd.2.1;refine A7 (A4 (Ay O (Ax Cv O O) (Ay O (A9 (i:=0) Hk O O (CN _)) (B6 O ?_))));obtain⟨x,hx⟩:=BE (l:=((Ct ds zn).1).ctors) (i:=((Ct ds zn).2.1:Int).toNat) Au;have hal:=Ih x.type;have hxs:=(hfd.1.cs _ (List.mem_of_getElem? hx)).ty;refine Ay O (BC HY O O Au (Ek hx) (EN _)) (Ay O (Bp I0 O O) (Ay O (DX Bd O (FJ _) (BL _)) (Ay O (BN O O (ZI x.type hxs.nd hxs.sz) O) (A5 BA 3 [] O (BP O (BF B8 O) fun b14=>Az BA 2 [0,1] O (A1 (A4 (B6 O (Ay O (BZ Bq O (Bh _)) (Ay O (Ax Cv O O) (Ay O (A9 (i:=1) C0 O O (C3 _)) (B6 O (Ay O (BZ Bq O (Bh _)) (Ay O (Ff O O) (Az BA 1 [] O (A3 O (fun c2=>?_) (fun c2=>?_)))))))))))))))))
 ·(try simp only[sd,se] at c2);refine A2 BA 5 [3,0] O (BS (Bj (i:=3) O) (BS (ER 6) (A6 (⟨O,_,_,⟨_,_,O,(BJ (i:=3) EJ O O O),⟨_,_,O,O,⟨_,_,O,O,⟨_,_,O,O,O⟩⟩⟩⟩,(CJ (is:=[5]) O),?_⟩))))
  all_goals exact⟨by show (.tup [.agg [.p (I 0),.p (.str ⟨#[]⟩),.p (I 0),.p (I 0),.p (I 0),.p (.str ⟨#[]⟩),.p (.lst []),.p (.lst []),.p (I 0),.p (I 0),.p (.str ⟨#[]⟩),.p (.lst []),.p (.lst []),.p (I 0),.p (.lst []),.p (I 0),.p (I 0),.p (I 0),.p (.str ⟨#[]⟩),.p (.lst []),.p (.lst []),.p (.lst []),.p (.lst [])],.p (I 0),.p (.lst (BO [])),.p (.bool false)]:AV)=_;rw[Ms (ZN hz (by simpa using c) hcc.1 hcc.2 (by rw[Qp hx hfx.1];exact c2))];rfl,rfl⟩
 (try simp only[sd,se] at c2);have hl3:=c2;refine A7 (A1 (B7 (fun k=>false) D7 (BT (j:=1) O O O (fun H i hi=>BI (i:=i) EJ O hi Aj) AB Aw (A0 O (fun _=>BB O) Aw (A0 O (fun _=>BB O) Aw (A0 O (fun _=>Ax Cv O O) Aw (BT (j:=1) O O O (fun H i hi=>A9 (i:=i) C0 O hi (C3 _)) AB Aw (A0 O (fun _=>Cp (lo:=(((Ct ds zn).1).fixed:Int).toNat) Bq O (CT (B9 _)) ⟨_,pI Au⟩ O AR (Nat.le_refl _) (Jo ((BK t).2) ((((Ct ds zn).1).fixed:Int).toNat))) Aw (CF O O (Bc (i:=3) EJ O O O Aj AZ (Jt _)) AB Aw (A0 O (fun _=>Bb O) Aw (A0 O (fun _=>Bb O) Aw (A0 O (fun _=>Bb O) Aw (Bv O Ap (A6 (⟨O,_,_,⟨_,_,O,(BJ (i:=3) EJ O O Aj),⟨_,_,O,O,⟨_,_,O,O,⟨_,_,O,O,O⟩⟩⟩⟩,(CJ (is:=[5]) O),?_⟩)))))))))))))))
 all_goals exact⟨by show (.tup [.agg ((Bw ((Ct ds zn).1)).map .p),.p (I ((Ct ds zn).2.1)),.p (.lst (BO (((BK t).2).drop ((((Ct ds zn).1).fixed:Int).toNat)))),.p (.bool true)]:AV)=_;rw[QN (ed hz (by simpa using c) hcc.1 hcc.2 (by rw[Qp hx hfx.1];exact c2))],rfl⟩
theorem ie:∀(b0:Nat) (x:GP) (nm:ByteArray),B4 Tryz.prog 129 [.agg ((G4 x).map .p),.ptr b0 0] [.box b0 [.p (.str nm)]] (Gx (.p (.bool (x.ctor.toList==nm.toList))) [.box b0 [.p (.str nm)]]):=by
 intro b0 x nm;refine BD Tryz.func129 O pN (n:=8) O O (A4 (BP O (Bf O) fun b2=>Az BA 1 [] O (A4 (Ay O (Ax Hq O O) (Ay O (A9 (i:=0) Lm O O (Gk _)) (Ay O (BG (i:=1) Lm O O O) (Ay O (GF O O) (Az BA 1 [] O (A6 (⟨O,_,_,⟨_,_,O,O,O⟩,(CJ (is:=[1]) O),?_⟩))))))))))
 all_goals exact⟨rfl,rfl⟩
theorem ku:∀(b0:Nat) (nm:ByteArray) (l:List GP),(l.length<2000000)→B4 Tryz.prog 128 [.p (.lst (LX l)),.fn (.func 129) [] [.ptr b0 0]] [.box b0 [.p (.str nm)]] (Gx (.p (I (Mt nm l 0))) [.box b0 [.p (.str nm)]]):=by
 intro b0 nm l h1;refine BD Tryz.func128 O oq (n:=19) O O (A2 BA 1 [] O (A1 (A4 (B6 O (Ay O (BZ Jf O (GG _)) (Az BA 1 [] O (BH (Bo (α:=Nat) (fun i=>⟨19,mk [(0,.p (.lst (LX l))),(1,.fn (.func 129) [] [.ptr b0 0]),(7,.p (I (l.length:Nat))),(8,.p (I (i:Int)))],[.box b0 [.p (.str nm)]],[]⟩) (fun i=>l.length - i) (fun i=>i≤l.length∧(Mt nm (l.drop i) (i:Int)=Mt nm l 0)) 0 (⟨by omega,rfl⟩) ?_ ?_))))))))
 ·exact Bk ⟨we O,we O,we O,we O,Aw⟩ (leH (is:=[0]) O (wl (oe O) (DN)))
 rintro i hC
 try simp only at hC
 obtain⟨hi,hC⟩:=hC;refine A2 BA 1 [] O (A1 (A3 O (fun c=>?_) (fun c=>?_)))
 ·(try simp only[sd,se] at c);refine A7 (A1 (BH (A2 BA 2 [] O (A4 (A5 BA 3 [] O ?_)))));obtain⟨x,hx⟩:=BE (l:=l) (i:=i) Au;refine Ay O (BC Jf O O Au (Fk hx) (Dg _)) (Ay O (BQ Ts O (Dg _)) (Ay O (CS [0] O (.inr O) (ie b0 x nm) ⟨_,_,O,O,O⟩ As O (.inl O)) (Bt O (A3 O (fun c1=>?_) (fun c1=>?_)))))
  ·(try simp only[sd,se] at c1);refine A2 BA 2 [] O (A6 (⟨O,_,_,⟨_,_,O,O,O⟩,(CJ (is:=[0]) O),?_⟩))
   all_goals exact⟨pI (by rw[←hC,jK hx (by simpa using c1)]),rfl⟩
  (try simp only[sd,se] at c1);refine A7 (A8 (Az BA 2 [] O ?_));refine⟨(i+1),AU,⟨by omega,by rw[←hC,kq hx (by simpa using c1)];rfl⟩,Bk ⟨we rfl,we rfl,we rfl,we rfl,trivial⟩ (leH (is:=[0]) rfl (wl (oe rfl) (DN)))⟩
 (try simp only[sd,se] at c);refine Br (A2 BA 1 [] O (A6 (⟨O,_,_,⟨_,_,O,O,O⟩,(CJ (is:=[0]) O),?_⟩)))
 all_goals exact⟨pI (by rw[←hC,List.drop_eq_nil_of_le Au];rfl),rfl⟩
theorem _root_.Go.Af {α:Prop}(h:α:=by simp[C7]):α:=h
theorem T3:∀(t:Fl) (nm:ByteArray),(t.branches.length<2000000)→Et Tryz.prog 97 [.agg ((DF t).map .p),.p (.str nm)] (.tup [.agg ((DF ((bL nm t.branches).1)).map .p),.p (.bool ((bL nm t.branches).2))]):=by
 intro t nm h1;refine BD Tryz.func97 O qc (n:=28) O O (A4 (BP O (Bf O) fun b2=>BP O (Bf O) fun b3=>BP O (BF VE O) fun b4=>Az BA 1 [] O (A4 (Ay O (Ax Fc O O) (Ay O (A9 (i:=2) KP O O (CU _)) (Ay O (E0 O O) (Ay O (CS [1] O (.inl ⟨O,O,O⟩) (ku b3 nm t.branches h1) ⟨_,_,O,O,O⟩ As O (.inl O)) (Az BA 1 [] O (A1 (A4 (A5 BA 3 [] O (Ba 13 O (fun g=>?_) (fun g=>?_)))))))))))))
 ·(try simp only[sd,se] at g);have hbn:=ck (by simpa using g);refine Az BA 7 [] O ?_;refine A3 O (fun c=>?_) (fun c=>by cases c);refine A2 BA 3 [0,0] O (BS (Bj (i:=0) O) (A6 (⟨O,_,_,⟨_,_,O,(BJ (i:=0) HM O O O),⟨_,_,O,O,O⟩⟩,(List.nil_sublist _),?_⟩)))
  all_goals exact⟨by show (.tup [.agg [.p (I 0),.p (I 0),.p (I 0),.p (.str ⟨#[]⟩),.p (.lst []),.p (.lst []),.p (I 0),.p (.lst [])],.p (.bool false)]:AV)=_;rw[cj hbn];rfl,rfl⟩
 (try simp only[sd,se] at g);obtain⟨bx,hbx,hbr⟩:=kO (nm:=nm) (l:=t.branches) (by simpa using g);refine BM O (Ax Fc O O) (BM O (A9 (i:=2) KP O O (CU _)) (BM O (BB O) (BM O (BC Jf O O Au (Fk hbx) (Dg _)) (BM O (Bp Hq O O) (BM O (DP jv O (GZ _)) (Az BA 1 [] O (A3 O (fun c=>?_) (fun c=>?_))))))))
 ·(try simp only[sd,se] at c);refine A2 BA 3 [0,0] O (BS (Bj (i:=0) O) (A6 (⟨O,_,_,⟨_,_,O,(BJ (i:=0) HM O O O),⟨_,_,O,O,O⟩⟩,(List.nil_sublist _),?_⟩)))
  all_goals exact⟨by show (.tup [.agg [.p (I 0),.p (I 0),.p (I 0),.p (.str ⟨#[]⟩),.p (.lst []),.p (.lst []),.p (I 0),.p (.lst [])],.p (.bool false)]:AV)=_;rw[cj (by rw[hbr,if_pos (by simpa using c)])];rfl,rfl⟩
 (try simp only[sd,se] at c);refine A7 (A4 (Ay O (Ax Fc O O) (Ay O (A9 (i:=2) KP O O (CU _)) (B6 O (Ay O (BC Jf O O Au (Fk hbx) (Dg _)) (Ay O (Bp Hq O O) (Ay O (DX HM O (Fz _) (C7 _)) (Az BA 2 [0,1] O (A6 (⟨O,_,_,⟨_,_,O,(BJ (i:=0) HM O O Af),⟨_,_,O,O,O⟩⟩,(List.nil_sublist _),?_⟩))))))))))
 all_goals exact⟨by show (.tup [.agg ((DF bx.tree).map .p),.p (.bool true)]:AV)=_;rw[cW (by rw[hbr,if_neg (by simpa using c)])],rfl⟩
theorem _root_.Go.AX {α:Prop}(h:α:=by first | rfl | simp[C7]):α:=h
theorem aP:∀(t:Fl) (nm:ByteArray),(t.branches.length<2000000)→Et Tryz.prog 87 [.agg ((DF t).map .p),.p (.str nm)] (.tup [.agg ((DF ((Xb nm t.branches).1)).map .p),.p (.bool ((Xb nm t.branches).2))]):=by
 intro t nm h1;refine BD Tryz.func87 O p8 (n:=36) O O (A4 (BP O (Bf O) fun b2=>BP O (BF VE O) fun b4=>Az BA 1 [] O (A1 (A2 BA 1 [] O (BH (Bo (α:=Nat) (fun i=>⟨36,mk [(1,.p (.str nm)),(2,.ptr b2 0),(4,.ptr b4 0),(6,.p (I (i:Int)))],[.box b4 [.p (I 0),.p (I 0),.p (I 0),.p (.str ⟨#[]⟩),.p (.nils),.p (.nils),.p (I 0),.p (.nils)],.box b2 ((DF t).map .p)],[]⟩) (fun i=>t.branches.length - i) (fun i=>i≤t.branches.length∧(Xb nm (t.branches.drop i)=Xb nm t.branches)) 0 (⟨by omega,rfl⟩) ?_ ?_))))))
 ·exact Bk ⟨we O,we O,we O,we O,Aw⟩ (leH (is:=[0,1]) O (wl (oe O) (wl (oe O) (DN))))
 rintro i hC
 try simp only at hC
 obtain⟨hi,hC⟩:=hC;refine A1 (A4 (A5 BA 2 [] O (Ay O (A9 (i:=1) KP O O (CU _)) (Ay O (BZ Jf O (GG _)) (Az BA 1 [] O (A3 O (fun c=>?_) (fun c=>?_)))))))
 ·(try simp only[sd,se] at c);refine A7 (A1 (BH (A4 (Ay O (Ax Fc O O) (Ay O (A9 (i:=1) KP O O (CU _)) (B6 O ?_))))));obtain⟨x,hx⟩:=BE (l:=t.branches) (i:=i) Au;refine Ay O (BC Jf O O Au (Fk hx) (Dg _)) (Ay O (Bp Hq O O) (Ay O (DP Lm O (Gk _)) (B6 O (Ay O (GF O O) (Bt O (A3 O (fun c1=>?_) (fun c1=>?_)))))))
  ·(try simp only[sd,se] at c1);refine A1 (B7 (fun k=>false) D7 (A0 O (fun _=>Ax Fc O O) Aw (BT (j:=1) O O O (fun H i hi=>A9 (i:=i) KP O hi (CU _)) AB Aw (A0 O (fun _=>BB O) Aw (A0 O (fun _=>BC Jf O O Au (Fk hx) (Dg _)) Aw (A0 O (fun _=>Bp Hq O O) Aw (A0 O (fun _=>DX HM O (Fz _) (C7 _)) Aw (A0 O (fun _=>Ax Fc O O) Aw (BT (j:=1) O O O (fun H i hi=>A9 (i:=i) KP O hi (CU _)) AB Aw (A0 O (fun _=>BB O) Aw (A0 O (fun _=>BC Jf O O Au (Fk hx) (Dg _)) Aw (A0 O (fun _=>Bp Hq O O) Aw (A0 O (fun _=>DP jv O (GZ _)) Aw (A0 O (fun _=>MT O) Aw ?_))))))))))))));refine CF O O (Bc (i:=0) HM O O O Af AX (N8 _)) AB Aw (A0 O (fun _=>Bb O) Aw (Bv O Ap (A6 (⟨O,_,_,⟨_,_,O,(BJ (i:=0) HM O O Af),⟨_,_,O,O,O⟩⟩,(List.nil_sublist _),?_⟩))))
   all_goals exact⟨by show (.tup [.agg ((DF x.tree).map .p),.p (.bool (!x.absurd))]:AV)=_;rw[←hC,eD hx,if_pos (G3 (by simpa using c1))],rfl⟩
  (try simp only[sd,se] at c1);refine A7 (A8 (Az BA 3 [] O ?_));refine⟨(i+1),AU,⟨by omega,by rw[←hC,eD hx,if_neg (fun e=>by simp[e] at c1)]⟩,Bk ⟨we rfl,we rfl,we rfl,we rfl,trivial⟩ (leH (is:=[0,1]) rfl (wl (oe rfl) (wl (oe rfl) (DN))))⟩
 (try simp only[sd,se] at c);refine Br (A2 BA 3 [0,0] O (BS (Bj (i:=0) O) (A6 (⟨O,_,_,⟨_,_,O,(BJ (i:=0) HM O O O),⟨_,_,O,O,O⟩⟩,(List.nil_sublist _),?_⟩))))
 all_goals exact⟨by show (.tup [.agg [.p (I 0),.p (I 0),.p (I 0),.p (.str ⟨#[]⟩),.p (.lst []),.p (.lst []),.p (I 0),.p (.lst [])],.p (.bool false)]:AV)=_;rw[←hC,List.drop_eq_nil_of_le Au];rfl,rfl⟩
theorem IG:∀(b:Nat) (c:Ev) (t:Tm) (e:Int),(Nd t)→B4 Tryz.prog 40 [.ptr b 0,.agg ((Bg t).map .p),.p (I e)] [.box b ((I5 c).map .p)] (Gx (.agg ((Bg t).map .p)) [.box b ((I5 (c.result t e)).map .p)]):=by
 intro b c t e h1;refine BD Tryz.func40 O qz (n:=28) O O (A4 (BP O (Bf O) fun b4=>BP O (BF B8 O) fun b6=>Bt O (A4 (A5 BA 4 [2] O (Ay O (EU O O) (Az BA 3 [2,0] O (A1 (B7 (fun k=>false) D7 (A0 O (fun _=>BB O) Aw (A0 O (fun _=>CW O) Aw (A0 O (fun _=>Ax Q2 O O) Aw (BT (j:=2) O O O (fun H i hi=>BG (i:=i) C0 O hi O) AB Aw (BT (j:=1) O O O (fun H i hi=>BI (i:=i) Bd O hi Am) AB Aw (A0 O (fun _=>BN O O (Mn _ t (Nat.le_refl _) h1) O) Aw (A0 O (fun _=>EU O O) Aw (A0 O (fun _=>CW O) Aw (A0 O (fun _=>Ax Q2 O O) Aw (CF O O (CO (i:=2) C0 O O O O O O) AB Aw (Bv O Ap (A4 (A5 BA 3 [1] O ?_)))))))))))))))))))));refine Ay O (CS [2] O (.inl ⟨O,O,O⟩) (fp b (Ev.mk (wr ((c.steps:Int)+(1:Int))) (wr ((c.nodes:Int)+(FC t:Int))) c.forms c.limit c.over) t e h1) ⟨_,_,O,O,O⟩ As O (.inl O)) (Bt O (A2 BA 2 [1,0,1] O (A6 (⟨O,_,_,⟨_,_,O,(BJ (i:=0) Bd O O Am),O⟩,(CJ (is:=[2]) O),?_⟩))))
 all_goals exact⟨rfl,rfl⟩
def r5 (ds:List Cc) (n:Nat):Prop:=∀(b:Nat) (t:Tm) (c c2:Ev) (r:Tm),D6 ds Du n c t= .ok (r,c2)→B4 Tryz.prog 14 [.p (.lst (List.map Bw ds)),.agg ((Bg t).map .p),.ptr b 0] [.box b ((I5 c).map .p)] (Gx (.agg ((Bg r).map .p)) [.box b ((I5 c2).map .p)])
theorem _root_.Go.AP {α:Prop}(h:α:=by first | omega | (simp_all;done) | (simp_all;omega)):α:=h
theorem _root_.Go.AI {α:Prop}(h:α:=by first | (simp only[List.length_map,Bh];omega) | (simp_all;done) | (simp_all;omega)):α:=h
theorem cQ:∀(n k:Nat) (ds:List Cc) (t:Fl) (vs:List Tm) (b:Nat) (c c2:Ev) (q:Option (Tm×List Tm)×Tm),(r5 ds n)→(J7 ds)→(SQ t vs)→(EE ds Du (D6 ds Du n) k t vs Bu c= .ok (q,c2))→B4 Tryz.prog 54 [.p (.lst (List.map Bw ds)),.agg ((DF t).map .p),.p (.lst (BO vs)),.ptr b 0] [.box b ((I5 c).map .p)] (Gx (.tup [.agg ((Bg (KR q)).map .p),.p (.lst (BO (Nl q))),.p (.bool q.1.isSome),.agg ((Bg q.2).map .p)]) [.box b ((I5 c2).map .p)]):=by
 intro n k ds t vs b c c2 q hW h2 h3 h4;have h3l:=h3.len;refine BD Tryz.func54 O rX (n:=87) O O (A4 (BP O (Bf O) fun b5=>BP O (BF B8 O) fun b8=>A5 BA 2 [] O (BP O (BF B8 O) fun b11=>Bt O (A4 (Va O (CH (EY (t:=12) (sz:=5) O) (Bt O (A4 (A5 BA 2 [] O (FV O O (Cb (i:=0) (rows':=BO vs) Bq Bq B8 O O O O O O (B9 _) (by simp only[Bh,List.length_nil];omega) (Jj [] vs)) fun o cp=>Az BA 1 [] O (A4 (Ay O (CB DV B8 O) (BP O (BF B8 O) fun b13=>Az BA 1 [0,0] O (A1 (BH ?_)))))))))))))));refine Bo (α:=Nat×Fl×List Tm×Tm×Ev×Option Nat×Nat) (fun(m,w,us,l,d,o1,cp1)=>⟨87,mk [(0,.p (.lst (List.map Bw ds))),(3,.ptr b 0),(5,.ptr b5 0),(8,.ptr b8 0),(11,.ptr b11 0),(12,.vs o1 (BO us).length cp1),(13,.ptr b13 0)],[.box b13 ((Bg l).map .p),.vec o1 5 (BO us) cp1,.box b11 [.p (I 0),.p (I 0),.p (.str ⟨#[]⟩),.p (.nils),.p (.nils)],.box b8 [.p (I 0),.p (I 0),.p (.str ⟨#[]⟩),.p (.nils),.p (.nils)],.box b5 ((DF w).map .p),.box b ((I5 d).map .p)],[]⟩) (fun(m,w,us,l,d,o1,cp1)=>m) (fun(m,w,us,l,d,o1,cp1)=>EE ds Du (D6 ds Du n) m w us l d= .ok (q,c2)∧SQ w us) ⟨k,t,vs,Bu,c,o,cp⟩ (⟨h4,h3⟩) ?_ ?_
 ·exact Bk ⟨we O,we O,we O,we O,we O,we O,we O,Aw⟩ (leH (is:=[0,1,2,3,4,5]) O (wl (on (O)) (wl (oe O) (wl (oe O) (wl (oe O) (wl (oe O) (wl (oe O) (DN))))))))
 rintro⟨m,w,us,l,d,o1,cp1⟩ hC
 try simp only at hC
 obtain⟨hC,hL⟩:=hC;obtain⟨k1,rfl⟩:=S6 hC Av;refine A1 (A4 (Ay O (Ax Fc O O) (Ay O (A9 (i:=4) C0 O O (Gh _)) (Az BA 1 [] O (A3 O (fun c1=>?_) (fun c1=>?_))))))
 ·(try simp only[sd,se] at c1);have hk1:=c1;refine A7 (BH (A1 (A1 (Bi [0,3,5,8,11,12,13] 41 (fun y=>y= .p (.bool (((decide ((w.var:Int)<(0:Int)))||(decide ((w.var:Int)≥((us.length:Nat):Int))))||d.over))) ?_ ?_))))
  ·refine A8 (Ay O (Ax Fc O O) (Ay O (A9 (i:=4) C0 O O (DZ _)) (A5 BA 2 [] O (Ba 29 O (fun g=>?_) (fun g=>?_)))))
   ·(try simp only[sd,se] at g);exact Az BA 12 [] O (⟨O,O,AM,AJ,⟨O,O,O,O,O,O,O,Aw⟩⟩)
   (try simp only[sd,se] at g);refine BM O (Ax Fc O O) (BM O (A9 (i:=4) C0 O O (DZ _)) (BM O (BB O) (BM O (KH Bq O (Bh _)) (A5 BA 3 [] O (Ba 36 O (fun g1=>?_) (fun g1=>?_))))))
   ·(try simp only[sd,se] at g1);exact Az BA 5 [] O (⟨O,O,AM,AJ,⟨O,O,O,O,O,O,O,Aw⟩⟩)
   (try simp only[sd,se] at g1);exact Az BA 5 [5] O (⟨O,O,AM,AJ,⟨O,O,O,O,O,O,O,Aw⟩⟩)
  rintro _ rfl;refine A3 O (fun c3=>?_) (fun c3=>?_)
  ·(try simp only[sd,se] at c3);have hb:=(JM hk1 (by simpa [or_assoc,Du] using c3)).symm.trans hC;cases hb;refine A1 (B7 (fun k=>false) D7 (A0 O (fun _=>CB DV B8 O) Aw (BT (j:=0) O O O (fun H i hi=>BI (i:=i) Bd O hi Am) AB Aw (CF O O (CO (i:=3) Bd O O O O O O) AB Aw (A0 O (fun _=>Bb O) Aw (A0 O (fun _=>Bb O) Aw (CF O O (Bc (i:=2) Bd O O O Am Aa (C5 _)) AB Aw (Bv O Ap (BS (Bj (i:=3) O) (BS (ER 9) (A6 (⟨O,_,_,⟨_,_,O,(BJ (i:=3) Bd O O O),⟨_,_,O,O,⟨_,_,O,O,⟨_,_,O,(BJ (i:=2) Bd O O Am),O⟩⟩⟩⟩,(CJ (is:=[5]) O),?_⟩))))))))))))
   all_goals exact⟨rfl,rfl⟩
  (try simp only[sd,se] at c3);have hcb:=c3;refine A7 (A4 (A5 BA 3 [] O (Ay O (A9 (i:=4) C0 O O (DZ _)) (MZ (i:=1) O Ac fun b1 hb=>?_))));subst hb;refine Ay O (DE Bq O O Au AI) ?_;obtain⟨y,hy⟩:=BE (l:=us) (i:=(w.var:Int).toNat) AP;refine Ay O (E1 (i:=1) Bd O O (Bn hy)) (B6 O ?_);obtain⟨⟨r,d2⟩,hr1,hr2,hr3⟩:=J8 ((K2 hk1 (by simpa [or_assoc,and_assoc,Du] using hcb) hy).symm.trans hC);refine Ay O (CS [5] O (.inl ⟨O,O,O⟩) (hW b y (Ev.mk d.steps d.nodes d.forms d.limit d.over) d2 r hr1) ⟨_,_,O,O,O⟩ As O (.inl O)) (Az BA 1 [0,1] O (A4 (A5 BA 2 [0] O (Ay O (BN O O (VY ds r h2 hr2) O) (A5 BA 5 [] O (BP O (BF Je O) fun b14=>Az BA 4 [0,1] O (A1 (A2 BA 2 [] O (A3 O (fun c4=>?_) (fun c4=>?_))))))))))
  ·(try simp only[sd,se] at c4);have hcn:=N9 c4;rw[GQ hcn] at hr3;cases hr3;refine A1 (B7 (fun k=>false) D7 (A0 O (fun _=>CB DV B8 O) Aw (BT (j:=1) O O O (fun H i hi=>BI (i:=i) Bd O hi Am) AB Aw (CF O O (CO (i:=4) Bd O O O O O O) AB Aw (A0 O (fun _=>Bb O) Aw (A0 O (fun _=>Bb O) Aw (CF O O (Bc (i:=3) Bd O O O Am Aa (C5 _)) AB Aw (Bv O Ap (BS (Bj (i:=4) O) (BS (ER 9) (A6 (⟨O,_,_,⟨_,_,O,(BJ (i:=4) Bd O O O),⟨_,_,O,O,⟨_,_,O,O,⟨_,_,O,(BJ (i:=3) Bd O O Am),O⟩⟩⟩⟩,(CJ (is:=[6]) O),?_⟩))))))))))))
   all_goals exact⟨rfl,rfl⟩
  (try simp only[sd,se] at c4);have hcs:=Me c4;have hcf:=F4 hcs;have hlo:=hcf.lo;have hhi:=hcf.hi;have hfl:=JS h2 hcs;refine A7 (A1 (B7 (fun k=>Nat.beq k 11) D7 (BT (j:=5) O O O (fun H i hi=>BI (i:=i) HM O hi Af) AB Aw (A0 O (fun _=>Ax Cv O O) Aw (BT (j:=0) O O O (fun H i hi=>A9 (i:=i) Hk O hi (CN _)) AB Aw (A0 O (fun _=>BB O) Aw ?_))))));obtain⟨x,hx⟩:=BE (l:=((CY ds r).1).ctors) (i:=((CY ds r).2.1:Int).toNat) Au;refine A0 O (fun _=>BC HY O O Au (Ek hx) (EN _)) Aw (A0 O (fun _=>Bp I0 O O) Aw (A0 O (fun _=>DP Lm O (Fx _)) Aw (A0 O (fun _=>BN O O (aP w x.name hL.tin.bl) O) Aw (A0 O (fun _=>BB O) Aw (A0 O (fun _=>By O O) Aw (A0 O (fun _=>By O O) Aw (HJ [] O O (BF VE O) Ap fun b18=>⟨AB,Aw,?_⟩)))))));refine CF O O (Bc (i:=0) HM O O O Af AX (N8 _)) AB Aw (A0 O (fun _=>Bb O) Aw (Bv O Ap (A1 (A2 BA 2 [] O (A3 O (fun c5=>?_) (fun c5=>?_))))))
  ·(try simp only[sd,se] at c5);have hbn:=cK c5;rw[Ic hcs (by rw[FD,Cm hx];exact hbn)] at hr3;cases hr3;refine A1 (B7 (fun k=>false) D7 (A0 O (fun _=>CB DV B8 O) Aw (BT (j:=2) O O O (fun H i hi=>BI (i:=i) Bd O hi Am) AB Aw (CF O O (CO (i:=5) Bd O O O O O O) AB Aw (A0 O (fun _=>Bb O) Aw (A0 O (fun _=>Bb O) Aw (CF O O (Bc (i:=4) Bd O O O Am Aa (C5 _)) AB Aw (Bv O Ap (BS (Bj (i:=5) O) (BS (ER 9) (A6 (⟨O,_,_,⟨_,_,O,(BJ (i:=5) Bd O O O),⟨_,_,O,O,⟨_,_,O,O,⟨_,_,O,(BJ (i:=4) Bd O O Am),O⟩⟩⟩⟩,(CJ (is:=[7]) O),?_⟩))))))))))))
   all_goals exact⟨rfl,rfl⟩
  (try simp only[sd,se] at c5);have hbs:=bW c5;rw[IY hcs (by rw[FD,Cm hx];exact hbs)] at hr3;refine A7 (A2 BA 2 [0,6,1] O (A8 (A5 BA 2 [] O (FV O O (Cb (i:=3) (rows':=BO ((CY ds r).2.2.1)) Bq Bq B8 O O O O O O (B9 _) (by have:=hL.len;simp only[Bh,List.length_append];omega) (Jj us ((CY ds r).2.2.1))) fun o2 cp2=>Az BA 1 [] O (⟨⟨k1,(Xb x.name w.branches).1,us++(CY ds r).2.2.1,r,d2,o2,cp2⟩,AU,⟨hr3,hL.next h2 hr2 hcs hbs⟩,Bk ⟨we O,we O,we O,we O,we O,we O,we O,Aw⟩ (leH (is:=[2,3,4,5,6,7]) O (wl (oe O) (wl (oe O) (wl (oe O) (wl (oe O) (wl (oe O) (wl (oe O) (DN))))))))⟩)))))
 (try simp only[sd,se] at c1);have hk1:=c1;rw[H6 hk1] at hC;cases hC;refine Br (A4 (Ay O (Ax Fc O O) (Ay O (CC (i:=4) Bd O O (FL _) (BL _)) (Az BA 6 [3,1,2,0] O (BS (Cx (i:=1) [12,85,9] O (EH ⟨O,O,O,Aw⟩)) (BS (Bj (i:=1) O) (A6 (⟨O,_,_,⟨_,_,O,(BJ (i:=2) Bd O O Am),⟨_,_,O,O,⟨_,_,O,O,⟨_,_,O,(BJ (i:=1) Bd O O O),O⟩⟩⟩⟩,(CJ (is:=[4]) O),?_⟩))))))))
 all_goals exact⟨rfl,rfl⟩
end Go.Proofs.YtboammbpdaoojaaGreat
namespace Go.Eu
open Go.Abs
section
variable {E:List Cc}{σ:Type}{S:Sys σ}{W:σ→Tm→Out (Tm×σ)}{n:Nat}{h m:Tm}{a:List Tm}{s:σ}{d:Cc}{x:Gf}
theorem Zi {a b:ByteArray}(h:¬a.toList=b.toList):a≠b:=fun e=>h (by rw[e])
theorem WU (hc:((CY E m).2.2.2=false∨¬(CY E m).1.name.toList=d.name.toList)∨(d.recs.rules.length:Int)≤(CY E m).2.1):FQ E S d h a m s= .ok (none,s):=by
 cases hk:(CY E m).2.2.2 with
 | false=>exact Mm (N9 hk)
 | true =>
  refine QV (Me hk) ?_;rcases hc with (hc | hc) | hc
  ·rw[hk] at hc;cases hc
  ·exact .inl (Zi hc)
  exact .inr hc
theorem Tn (hc:((CY E m).2.2.2=true∧(CY E m).1.name.toList=d.name.toList)∧(CY E m).2.1<(d.recs.rules.length:Int)):DW E m=some ((CY E m).1,(CY E m).2.1,(CY E m).2.2.1)∧¬((CY E m).1.name≠d.name∨(CY E m).2.1≥(d.recs.rules.length:Int))∧0≤(CY E m).2.1:=by
 have h1:=Me hc.1.1;refine⟨h1,fun h=>?_,(F4 h1).lo⟩;rcases h with h | h
 ·exact h (G3 hc.1.2)
 omega
end
theorem IX {d:Cc}(h:DG d):0≤d.fixed∧d.fixed+1+d.ctors.length≤Cj d∧Cj d≤4000001:=by
 have h1:=GX h.din h.fx;have h2:=h.fx;have h3:=h.din.cl;unfold Cj;omega
section
variable {E:List Cc}{σ:Type}{S:Sys σ}{W:σ→Tm→Out (Tm×σ)}{n:Nat}{h m:Tm}{a:List Tm}{s:σ}{d:Cc}{x:Gf}
theorem JX {f:Hj}{q:Option (Tm×List Tm)×Tm}(hq:q.1.isSome=false∨S.over s=true):Pb S f h a (q,s)= .ok (none,s):=by
 unfold Pb;obtain⟨q1,q2⟩:=q;cases q1 with
 | none=>rfl
 | some bv =>
  obtain⟨b,v⟩:=bv;rcases hq with hq | hq
  ·cases hq
  simp only[hq,if_true]
theorem Kv {f:Hj}{q:Option (Tm×List Tm)×Tm}(hq:q.1.isSome=true) (ho:S.over s=false):Pb S f h a (q,s)=HR S h (KR q) (Nl q) (a.drop f.arity.toNat) s:=by
 unfold Pb;obtain⟨q1,q2⟩:=q;cases q1 with
 | none=>cases hq
 | some bv=>obtain⟨b,v⟩:=bv;simp only[ho,Bool.false_eq_true,if_false];rfl
theorem RB (hE:J7 E):∀(k:Nat) (t:Fl) (vs:List Tm) (l:Tm) (s s':σ) (q:Option (Tm×List Tm)×Tm),SQ t vs→EE E S W k t vs l s= .ok (q,s')→okB (KR q)=true∧(∀v∈Nl q,okB v=true)∧(Nl q).length≤100000000
 | 0,t,vs,l,s,s',q,hl,h=>by rw[EE] at h;cases h
 | k+1,t,vs,l,s,s',q,hl,h=>by
  have hnone:∀l',okB (KR (none,l'))=true∧(∀v∈Nl (none,l'),okB v=true)∧(Nl (none,l')).length≤100000000:=fun l'=>⟨Kj,fun v hv=>by simp[Nl] at hv,Nat.zero_le _⟩;by_cases hk:t.kind=1
  ·by_cases hb:t.var<0∨t.var≥(vs.length:Int)∨S.over s=true
   ·rw[JM hk hb] at h;cases h;exact hnone _
   have hlt:t.var.toNat<vs.length:=by omega
   rw[K2 hk hb (List.getElem?_eq_getElem hlt)] at h;obtain⟨⟨r,s1⟩,h1,h2,h3⟩:=J8 h;cases hc:DW E r with
   | none=>rw[GQ hc] at h3;cases h3;exact hnone _
   | some p =>
    obtain⟨d,j,f⟩:=p;cases hbr:C8 (FD d j).name t.branches with
    | none=>rw[Ic hc hbr] at h3;cases h3;exact hnone _
    | some t'=>rw[IY hc hbr] at h3;exact RB hE k t' _ _ _ _ _ (hl.next hE h2 hc hbr) h3
  rw[H6 hk] at h;cases h;obtain⟨kk,b,v,l2⟩:=t;have:=hl.tok;simp only[GA] at this;exact⟨this.1,hl.ok,by have:=hl.len;show vs.length≤_;omega⟩
end
theorem Su:∀(l:List Tm),Bl l.reverse=Bl l
 | []=>rfl
 | a::l=>by rw[List.reverse_cons,I8,Su l];simp only[Bl];omega
theorem cz {l:List Tm}(h:∀v∈l,okB v=true):∀v∈l.reverse,okB v=true:=fun v hv=>h v (List.mem_reverse.1 hv)
theorem Pz {E:List Cc}{d:Cc}{f:Hj}{a:List Tm}(hE:Ha E) (hd:d∈E) (hf:f∈d.funs) (ha:∀x∈a,okB x=true):SQ f.tree (a.take f.arity.toNat):=by
 have h1:=hE.g.all d hd;have h2:=h1.fu f hf;have h3:=hE.fu d hd f hf;exact⟨(h1.din.fs f hf).tr,h2.2.2,by rw[List.length_take];omega,fun v hv=>ha v (List.mem_of_mem_take hv)⟩
theorem kE {E:List Cc}{nm:ByteArray}{x:Cc}(h:(B3 E nm).2=0) (h3:(B3 E nm).1.kind=5) (hx:E[(B3 E nm).1.decl.toNat]?=some x):(Ct E nm).1=x:=by rw[fJ h h3 hx]
theorem jM {E:List Cc}{h:Tm}(hu:Sv E h=true):(B3 E h.name).2=0:=by
 simp only[Sv,Bool.and_eq_true,decide_eq_true_eq] at hu;exact hu.1
end Go.Eu
namespace Go.Proofs.YtboammbpdaoojaaGreat
open Go.Abs Go.Eu
theorem YX:∀(a b:Cl),(M6 a)→(M6 b)→Et Tryz.prog 189 [.agg ((CE a).map .p),.agg ((CE b).map .p)] (.agg ((CE (I2 a b)).map .p)):=by
 intro a b h1 h2;have hl:=h1.vars;have hl2:=h2.vars;simp only[Dt] at hl hl2;refine BD Tryz.func189 O oC (n:=138) O O (A4 (BP O (Bf O) fun b2=>BP O (Bf O) fun b3=>BP O (BF Ef O) fun b4=>Bt O (A4 (A5 BA 4 [2,1] O (Ay O (Ff O O) (Ay O (CB Ea Ef O) (BP O (BF Ef O) fun b5=>Az BA 1 [0,0] O (A4 (CH (Hw (i:=0) O (YA (aw (we O) (aw (JJ) (FH))))) (CH (H8 (sz:=2)) (Az BA 2 [] O (A2 BA 1 [] O (A1 (BH ?_))))))))))))));refine Bo (α:=Nat×Nat×List CR×Int×Option Nat×Nat) (fun(i,k,vs,m,o,cp)=>⟨138,mk [(2,.ptr b2 0),(3,.ptr b3 0),(4,.ptr b4 0),(5,.ptr b5 0),(6,.p (I (i:Int))),(7,.p (I (k:Int))),(8,.p (I m))],[.vec o 2 (List.map EF vs) cp,.box b5 [.p (I (max (a.const:Int) (b.const:Int))),.vs o (List.map EF vs).length cp],.box b4 [.p (I 0),.p (.nils)],.box b3 [.p (I b.const),.p (.lst (List.map EF b.vars))],.box b2 [.p (I a.const),.p (.lst (List.map EF a.vars))]],[]⟩) (fun(i,k,vs,m,o,cp)=>(a.vars.length - i)+(b.vars.length - k)) (fun(i,k,vs,m,o,cp)=>Nc a.vars b.vars i k vs m) ⟨0,0,[],0,none,0⟩ (Nc.zero) ?_ ?_
 ·exact Bk ⟨we O,we O,we O,we O,we O,we O,we O,Aw⟩ (leH (is:=[0,1,2,3,4]) O (wl (oe O) (wl (oe O) (wl (oe O) (wl (oe O) (wl (oe O) (DN)))))))
 rintro⟨i,k,vs,m,o,cp⟩ hC
 try simp only at hC
 have hi0:=hC.hi;have hk0:=hC.hk;refine A1 (A1 (Bi [2,3,4,5,6,7,8] 27 (fun y=>y= .p (.bool ((decide (((i:Int):Int)<((a.vars.length:Nat):Int)))||(decide (((k:Int):Int)<((b.vars.length:Nat):Int)))))) ?_ ?_))
 ·refine A8 (A5 BA 3 [4] O (Ay O (BZ Ck O (List.length_map _)) (A5 BA 2 [] O (Ba 21 O (fun g=>?_) (fun g=>?_)))))
  ·(try simp only[sd,se] at g);exact Az BA 6 [] O (⟨O,O,AM,AJ,⟨O,O,O,O,O,O,O,Aw⟩⟩)
  (try simp only[sd,se] at g);exact A5 BA 3 [3] O (BM O (BZ Ck O (List.length_map _)) (Az BA 2 [] O (⟨O,O,AM,AJ,⟨O,O,O,O,O,O,O,Aw⟩⟩)))
 rintro _ rfl;refine A3 O (fun c=>?_) (fun c=>?_)
 ·(try simp only[sd,se] at c);refine A7 (BH (A4 (Ay O (CB Ep FZ O) (BP O (BF FZ O) fun b9=>Az BA 1 [0,0] O (A1 (BH (A1 (Bi [2,3,4,5,6,7,8,9] 53 (fun y=>y= .p (.bool (QF a.vars b.vars i k))) ?_ ?_))))))))
  ·refine B7 (fun k=>false) D7 (A0 O (fun _=>BB O) Aw (A0 O (fun _=>Ax Ea O O) Aw (BT (j:=4) O O O (fun H i hi=>BG (i:=i) Fp O hi O) AB Aw (A0 O (fun _=>BZ Ck O (List.length_map _)) Aw (A0 O (fun _=>C4 O O O) Aw (A0 O (fun _=>BB O) Aw (EB 59 O (fun g=>?_) (fun g=>?_))))))))
   ·(try simp only[sd,se] at g);exact BR O Aw (BR O Aw (BR O Aw (BR O Aw (BR O Aw (BR O Aw (CM O O O O Aw (CM O O O O Aw (CM O O O O Aw (CM O O O O Aw (CM O O O O Aw (CM O O O O Aw (CM O O O O Aw (CM O O O O Aw (CM O O O O Aw (CM O O O O Aw (CM O O O O Aw (CM O O O O Aw (CM O O O O Aw (BR O Aw (A0 O (fun _=>B2 O O) Aw (A0 O (fun _=>Bb O) Aw (Bv O Ap (⟨O,O,AM,(by first | exact pB (OK Au) | exact pB (Qb Au Au) | exact pB (N4 hx hx1)),⟨O,O,O,O,O,O,O,O,Aw⟩⟩)))))))))))))))))))))))
   (try simp only[sd,se] at g);refine Be O (fun _=>BB O) Aw (Be O (fun _=>Ax Ea O O) Aw (Co (i:=5) O O O O O (fun H i hi=>BG (i:=i) Fp O hi O) AB Aw (Be O (fun _=>BZ Ck O (List.length_map _)) Aw (Be O (fun _=>C4 O O O) Aw (Be O (fun _=>BB O) Aw (EB 65 O (fun g1=>?_) (fun g1=>?_)))))))
   ·(try simp only[sd,se] at g1);refine Be O (fun _=>Ax Ea O O) Aw (Co (i:=5) O O O O O (fun H i hi=>BG (i:=i) Fp O hi O) AB Aw (Be O (fun _=>BB O) Aw ?_));obtain⟨x,hx⟩:=BE (l:=a.vars) (i:=i) Au;refine Be O (fun _=>BC Ck O O Au (Cz hx) (O)) Aw (Be O (fun _=>Bp Ep O O) Aw (Be O (fun _=>Ci C0 O) Aw (Be O (fun _=>Ax Ea O O) Aw (Co (i:=4) O O O O O (fun H i hi=>BG (i:=i) Fp O hi O) AB Aw (Be O (fun _=>BB O) Aw ?_)))));obtain⟨x1,hx1⟩:=BE (l:=b.vars) (i:=k) Au;exact Be O (fun _=>BC Ck O O Au (Cz hx1) (O)) Aw (Be O (fun _=>Bp Ep O O) Aw (Be O (fun _=>Ci C0 O) Aw (Be O (fun _=>C4 O O O) Aw (Be O (fun _=>B2 O O) Aw (A0 O (fun _=>B2 O O) Aw (A0 O (fun _=>Bb O) Aw (Bv O Ap (⟨O,O,AM,(by first | exact pB (OK Au) | exact pB (Qb Au Au) | exact pB (N4 hx hx1)),⟨O,O,O,O,O,O,O,O,Aw⟩⟩))))))))
   (try simp only[sd,se] at g1);exact BR O Aw (BR O Aw (BR O Aw (BR O Aw (BR O Aw (BR O Aw (BR O Aw (BR O Aw (BR O Aw (BR O Aw (BR O Aw (BR O Aw (BR O Aw (Be O (fun _=>B2 O O) Aw (A0 O (fun _=>B2 O O) Aw (A0 O (fun _=>Bb O) Aw (Bv O Ap (⟨O,O,AM,(by first | exact pB (OK Au) | exact pB (Qb Au Au) | exact pB (N4 hx hx1)),⟨O,O,O,O,O,O,O,O,Aw⟩⟩)))))))))))))))))
  rintro _ rfl;refine A3 O (fun c1=>?_) (fun c1=>?_)
  ·(try simp only[sd,se] at c1);have hi:=gP c1 (by simpa using c);refine A4 (A5 BA 3 [5] O ?_);obtain⟨x,hx⟩:=BE (l:=a.vars) (i:=i) Au;refine Ay O (BC Ck O O Au (Cz hx) (O)) (Az BA 2 [0,1] O (A8 (Az BA 3 [] O (A4 (A5 BA 3 [0] O (Ay O (Ff O O) (Az BA 1 [] O (A8 (A5 BA 3 [2,0] O (Ay O (B0 Ck FZ O O O O O) (FV O O (Cb (i:=1) (rows':=List.map EF [(CR.mk x.index x.plus)]) Ck Ck FZ O O O O O O (Ga _) (by have:=hC.ln;have:=hC.hi;have:=hC.hk;simp only[List.length_map,List.length_append,List.length_cons,List.length_nil];omega) (GW (f:=EF) vs [(CR.mk x.index x.plus)])) fun o1 cp1=>Az BA 2 [2,0] O ?_)))))))))));refine⟨⟨i+1,k,vs++[(CR.mk x.index x.plus)],max (m:Int) (x.plus:Int),o1,cp1⟩,AU,(by first | exact hC.left hx c1 | exact hC.right hx c1 c2 | exact hC.both hx hx1 c1 c2),Bk ⟨we O,we O,we O,we O,we O,we O,we O,Aw⟩ (leH (is:=[1,2,3,4,5]) O (wl (oe O) (wl (oe O) (wl (oe O) (wl (oe O) (wl (oe O) (DN)))))))⟩
  (try simp only[sd,se] at c1);have hk:=gv c1 hC.hk;refine A1 (Bi [2,3,4,5,6,7,8,9] 88 (fun y=>y= .p (.bool (V9 a.vars b.vars i k))) ?_ ?_)
  ·refine B7 (fun k=>false) D7 (A0 O (fun _=>BB O) Aw (A0 O (fun _=>Ax Ea O O) Aw (BT (j:=5) O O O (fun H i hi=>BG (i:=i) Fp O hi O) AB Aw (A0 O (fun _=>BZ Ck O (List.length_map _)) Aw (A0 O (fun _=>C4 O O O) Aw (A0 O (fun _=>BB O) Aw (EB 94 O (fun g=>?_) (fun g=>?_))))))))
   ·(try simp only[sd,se] at g);exact BR O Aw (BR O Aw (BR O Aw (BR O Aw (BR O Aw (BR O Aw (BR O Aw (BR O Aw (BR O Aw (BR O Aw (BR O Aw (BR O Aw (BR O Aw (A0 O (fun _=>B2 O O) Aw (A0 O (fun _=>Bb O) Aw (Bv O Ap (⟨O,O,AM,(by first | exact pB (Rj Au) | exact pB (Mj hx1 hx) | exact pB (Mj hx hx1)),⟨O,O,O,O,O,O,O,O,Aw⟩⟩))))))))))))))))
   (try simp only[sd,se] at g);refine Be O (fun _=>Ax Ea O O) Aw (Co (i:=4) O O O O O (fun H i hi=>BG (i:=i) Fp O hi O) AB Aw (Be O (fun _=>BB O) Aw ?_));obtain⟨x,hx⟩:=BE (l:=b.vars) (i:=k) Au;refine Be O (fun _=>BC Ck O O Au (Cz hx) (O)) Aw (Be O (fun _=>Bp Ep O O) Aw (Be O (fun _=>Ci C0 O) Aw (Be O (fun _=>Ax Ea O O) Aw (Co (i:=5) O O O O O (fun H i hi=>BG (i:=i) Fp O hi O) AB Aw (Be O (fun _=>BB O) Aw ?_)))));obtain⟨x1,hx1⟩:=BE (l:=a.vars) (i:=i) Au;exact Be O (fun _=>BC Ck O O Au (Cz hx1) (O)) Aw (Be O (fun _=>Bp Ep O O) Aw (Be O (fun _=>Ci C0 O) Aw (Be O (fun _=>C4 O O O) Aw (A0 O (fun _=>B2 O O) Aw (A0 O (fun _=>Bb O) Aw (Bv O Ap (⟨O,O,AM,(by first | exact pB (Rj Au) | exact pB (Mj hx1 hx) | exact pB (Mj hx hx1)),⟨O,O,O,O,O,O,O,O,Aw⟩⟩)))))))
  rintro _ rfl;refine A3 O (fun c2=>?_) (fun c2=>?_)
  ·(try simp only[sd,se] at c2);refine A4 (A5 BA 3 [4] O ?_);obtain⟨x,hx⟩:=BE (l:=b.vars) (i:=k) Au;refine Ay O (BC Ck O O Au (Cz hx) (O)) (Az BA 2 [0,1] O (A8 (Az BA 3 [] O (A4 (A5 BA 3 [0] O (Ay O (Ff O O) (Az BA 1 [] O (A8 (A5 BA 3 [2,0] O (Ay O (B0 Ck FZ O O O O O) (FV O O (Cb (i:=1) (rows':=List.map EF [(CR.mk x.index x.plus)]) Ck Ck FZ O O O O O O (Ga _) (by have:=hC.ln;have:=hC.hi;have:=hC.hk;simp only[List.length_map,List.length_append,List.length_cons,List.length_nil];omega) (GW (f:=EF) vs [(CR.mk x.index x.plus)])) fun o1 cp1=>Az BA 2 [2,0] O ?_)))))))))));refine⟨⟨i,k+1,vs++[(CR.mk x.index x.plus)],max (m:Int) (x.plus:Int),o1,cp1⟩,AU,(by first | exact hC.left hx c1 | exact hC.right hx c1 c2 | exact hC.both hx hx1 c1 c2),Bk ⟨we O,we O,we O,we O,we O,we O,we O,Aw⟩ (leH (is:=[1,2,3,4,5]) O (wl (oe O) (wl (oe O) (wl (oe O) (wl (oe O) (wl (oe O) (DN)))))))⟩
  (try simp only[sd,se] at c2);have hi:=iO c2 hC.hi;refine A1 (B7 (fun k=>false) D7 (A0 O (fun _=>Ax Ea O O) Aw (BT (j:=5) O O O (fun H i hi=>BG (i:=i) Fp O hi O) AB Aw (A0 O (fun _=>BB O) Aw ?_))));obtain⟨x,hx⟩:=BE (l:=a.vars) (i:=i) Au;refine A0 O (fun _=>BC Ck O O Au (Cz hx) (O)) Aw (A0 O (fun _=>Bp Ep O O) Aw (A0 O (fun _=>Ci C0 O) Aw (A0 O (fun _=>Ax Ea O O) Aw (BT (j:=5) O O O (fun H i hi=>BG (i:=i) Fp O hi O) AB Aw (A0 O (fun _=>BB O) Aw (A0 O (fun _=>BC Ck O O Au (Cz hx) (O)) Aw (A0 O (fun _=>Bp Ep O O) Aw (A0 O (fun _=>Ci C0 O) Aw (A0 O (fun _=>Ax Ea O O) Aw (BT (j:=4) O O O (fun H i hi=>BG (i:=i) Fp O hi O) AB Aw (A0 O (fun _=>BB O) Aw ?_)))))))))));obtain⟨x1,hx1⟩:=BE (l:=b.vars) (i:=k) Au;refine A0 O (fun _=>BC Ck O O Au (Cz hx1) (O)) Aw (A0 O (fun _=>Bp Ep O O) Aw (A0 O (fun _=>Ci C0 O) Aw (A0 O (fun _=>Ff O O) Aw (A0 O (fun _=>CB Ep FZ O) Aw (CF O O (CO (i:=0) Ld O O O O O O) AB Aw (Bv O Ap (A2 BA 3 [] O (A8 (Az BA 3 [] O (A4 (A5 BA 3 [0] O (Ay O (Ff O O) (Az BA 1 [] O (A8 (A5 BA 3 [2,0] O (Ay O (B0 Ck FZ O O O O O) ?_))))))))))))))));refine FV O O (Cb (i:=1) (rows':=List.map EF [(CR.mk x.index (max (x.plus:Int) (x1.plus:Int)))]) Ck Ck FZ O O O O O O (Ga _) (by have:=hC.ln;have:=hC.hi;have:=hC.hk;simp only[List.length_map,List.length_append,List.length_cons,List.length_nil];omega) (GW (f:=EF) vs [(CR.mk x.index (max (x.plus:Int) (x1.plus:Int)))])) fun o1 cp1=>Az BA 2 [2,0] O (⟨⟨i+1,k+1,vs++[(CR.mk x.index (max (x.plus:Int) (x1.plus:Int)))],max (m:Int) (max (x.plus:Int) (x1.plus:Int):Int),o1,cp1⟩,AU,(by first | exact hC.left hx c1 | exact hC.right hx c1 c2 | exact hC.both hx hx1 c1 c2),Bk ⟨we O,we O,we O,we O,we O,we O,we O,Aw⟩ (leH (is:=[1,2,3,4,5]) O (wl (oe O) (wl (oe O) (wl (oe O) (wl (oe O) (wl (oe O) (DN)))))))⟩)
 (try simp only[sd,se] at c);refine Br (A1 (A1 (Bi [4,5] 135 (fun y=>y= .p (.bool ((decide (((vs.length:Nat):Int) > (0:Int)))&&(decide ((max (a.const:Int) (b.const:Int):Int)≤(m:Int)))))) ?_ ?_)))
 ·refine A8 (A5 BA 2 [1] O (Ay O (KH Ck O (List.length_map _)) (A5 BA 2 [] O (Ba 130 O (fun g=>?_) (fun g=>?_)))))
  ·(try simp only[sd,se] at g);exact Az BA 5 [1] O (⟨O,O,AM,AJ,⟨O,O,Aw⟩⟩)
  (try simp only[sd,se] at g);exact Az BA 5 [] O (⟨O,O,AM,AJ,⟨O,O,Aw⟩⟩)
 rintro _ rfl;refine A3 O (fun c1=>?_) (fun c1=>?_)
 ·(try simp only[sd,se] at c1);refine A8 (CH (Df (i:=0) (j:=1) (q:=1) [] O O O (EH Aw)) (Az BA 2 [0,0] O (A2 BA 2 [0,1,0] O (A6 (⟨O,_,_,⟨_,_,O,(BJ (i:=1) DY O O O),O⟩,(List.nil_sublist _),?_⟩)))))
  all_goals exact⟨by show (.agg [.p (I 0),.p (.lst (List.map EF vs))]:AV)=_;rw[tO (hC.fin Au) Au c1.2];rfl,rfl⟩
 (try simp only[sd,se] at c1);refine A7 (A4 (CH (Df (i:=0) (j:=1) (q:=1) [] O O O (EH Aw)) (Az BA 2 [0,1,0] O (A6 (⟨O,_,_,⟨_,_,O,(BJ (i:=1) DY O O O),O⟩,(List.nil_sublist _),?_⟩)))))
 all_goals exact⟨by show (.agg [.p (I (max (a.const:Int) (b.const:Int))),.p (.lst (List.map EF vs))]:AV)=_;rw[sj (hC.fin Au) Au];rfl,rfl⟩
theorem ik:∀(l:Cl) (ps:List Cl),(CK l=true)→(ps.length<Dt)→(∀p∈ps,CK p=true)→Et Tryz.prog 169 [.agg ((CE l).map .p),.p (.lst (List.map CE ps)),.p (.bool false)] (.tup [.agg ((CE ((GN ps ⟨l.const,[]⟩ l.vars).1)).map .p),.p (I ((GN ps ⟨l.const,[]⟩ l.vars).2))]):=by
 intro l ps h1 h2 h3;have hL:=JG.of h1;have hl:=hL.len;simp only[Dt] at h2;refine BD Tryz.func169 O oV (n:=69) O O (A4 (BP O (Bf O) fun b3=>BP O (BF Ef O) fun b6=>Az BA 1 [] O (A4 (A5 BA 2 [1] O (Ay O (BN O O (aO l.const) O) (BP O (BF Ef O) fun b8=>Az BA 1 [0,1] O (A1 (A2 BA 1 [] O (BH (Bo (α:=Nat×Cl) (fun(i,q)=>⟨69,mk [(1,.p (.lst (List.map CE ps))),(2,.p (.bool false)),(3,.ptr b3 0),(6,.ptr b6 0),(8,.ptr b8 0),(9,.p (I (i:Int)))],[.box b8 ((CE q).map .p),.box b6 [.p (I 0),.p (.nils)],.box b3 [.p (I l.const),.p (.lst (List.map EF l.vars))]],[]⟩) (fun(i,q)=>l.vars.length - i) (fun(i,q)=>i≤l.vars.length∧(JG q∧GN ps q (l.vars.drop i)=GN ps ⟨l.const,[]⟩ l.vars)) ⟨0,(⟨l.const,[]⟩:Cl)⟩ (⟨by omega,JG.num hL.c,rfl⟩) ?_ ?_))))))))))
 ·exact Bk ⟨we O,we O,we O,we O,we O,we O,Aw⟩ (leH (is:=[0,1,2]) O (wl (oe O) (wl (oe O) (wl (oe O) (DN)))))
 rintro⟨i,q⟩ hC
 try simp only at hC
 obtain⟨hi,hC⟩:=hC;refine A1 (A4 (A5 BA 3 [2] O (Ay O (BZ Ck O (List.length_map _)) (Az BA 1 [] O (A3 O (fun c=>?_) (fun c=>?_))))))
 ·(try simp only[sd,se] at c);refine A7 (A1 (BH (A4 (A5 BA 3 [2] O ?_))));obtain⟨x,hx⟩:=BE (l:=l.vars) (i:=i) Au;have hv:=LI h1 hx;refine Ay O (BC Ck O O Au (Cz hx) (O)) (Ay O (BQ Ld O (O)) (BP O (BF FZ O) fun b10=>Az BA 1 [0,1] O (A2 BA 3 [0] O (A1 (A2 BA 1 [] O ?_)))));refine A3 O (fun c1=>by cases c1) (fun c1=>?_);refine A7 (A4 (Ay O (BI (i:=0) Ld O O O) (Ay O (B0 Ck FZ O O O O O) (Ay O (CB Ea Ef O) (BP O (BF Ef O) fun b12=>Az BA 1 [0,0] O (A1 (A1 (Bi [1,2,3,6,8,9,10,11,12] 49 (fun y=>y= .p (.bool (((decide ((x.index:Int)<(0:Int)))==false)&&(decide ((x.index:Int)<((ps.length:Nat):Int)))))) ?_ ?_))))))))
  ·refine A8 (A5 BA 4 [1] O (Ay O (X6 sR O O) (B6 O (Ba 44 O (fun g=>?_) (fun g=>?_)))))
   ·(try simp only[sd,se] at g);exact A5 BA 2 [] O (BM O (BZ En O (List.length_map _)) (Az BA 2 [] O (⟨O,O,AM,AJ,⟨O,O,O,O,O,O,O,O,O,Aw⟩⟩)))
   (try simp only[sd,se] at g);exact Az BA 5 [] O (⟨O,O,AM,AJ,⟨O,O,O,O,O,O,O,O,O,Aw⟩⟩)
  rintro _ rfl;refine A3 O (fun c2=>?_) (fun c2=>?_)
  ·(try simp only[sd,se] at c2);refine A1 (B7 (fun k=>Nat.beq k 10) D7 (A0 O (fun _=>BB O) Aw (A0 O (fun _=>BB O) Aw ?_)));obtain⟨x1,hx1⟩:=BE (l:=ps) (i:=(x.index:Int).toNat) Au;have hv:=LI h1 hx;refine A0 O (fun _=>BC En O O Au (GC hx1) (DT _)) Aw (A0 O (fun _=>BQ DY O (DT _)) Aw (A0 O (fun _=>Ax Ep O O) Aw (BT (j:=1) O O O (fun H i hi=>BG (i:=i) C0 O hi O) AB Aw (A0 O (fun _=>BN O O (iF x1 x.plus (JG.of (h3 _ (List.mem_of_getElem? hx1))).nd) O) Aw (A0 O (fun _=>BB O) Aw (A0 O (fun _=>By O O) Aw (A0 O (fun _=>By O O) Aw (HJ [] O O (BF Ef O) Ap fun b13=>⟨AB,Aw,?_⟩))))))));refine CF O O (Bc (i:=0) DY O O O Al (by first | rfl | simp[DT]) (ZH _)) AB Aw (A0 O (fun _=>Bb O) Aw (Bv O Ap (A1 (A2 BA 2 [] O (A3 O (fun c3=>?_) (fun c3=>?_))))))
   ·(try simp only[sd,se] at c3);refine A2 BA 4 [4,0] O (BS (Bj (i:=4) O) (A6 (⟨O,_,_,⟨_,_,O,(BJ (i:=4) DY O O O),⟨_,_,O,O,O⟩⟩,(List.nil_sublist _),?_⟩)))
    all_goals exact⟨by show (.tup [.agg [.p (I 0),.p (.lst [])],.p (I ((FK x1 x.plus).2))]:AV)=_;rw[show GN ps ⟨l.const,[]⟩ l.vars=_ from hC.2.symm.trans (s9 hx c2.1 c2.2 hx1 c3)];rfl,rfl⟩
   (try simp only[sd,se] at c3);refine A7 (A8 (Az BA 2 [0,1,1] O (A8 (A5 BA 2 [3,1] O (Ay O (BN O O (YX q ((FK x1 x.plus).1) hC.1.nd (by first | exact(JG.one hv).nd | exact(JG.plus (h3 _ (List.mem_of_getElem? hx1)) hv.1.1 hv.1.2 c3).nd)) O) (Az BA 1 [3,1] O (A8 (Az BA 3 [] O ?_))))))));refine⟨⟨i+1,I2 q ((FK x1 x.plus).1)⟩,AU,⟨by omega,(by first | exact⟨hC.1.join (JG.plus (h3 _ (List.mem_of_getElem? hx1)) hv.1.1 hv.1.2 c3),(sN hx c2.1 c2.2 hx1 c3).symm.trans hC.2⟩ | exact⟨hC.1.join (JG.one hv),(pY hx Au).symm.trans hC.2⟩ | exact⟨hC.1.join (JG.one hv),(pY hx (fun hh=>by have:=c2 hh.1;omega)).symm.trans hC.2⟩)⟩,Bk ⟨we rfl,we rfl,we rfl,we rfl,we rfl,we rfl,trivial⟩ (leH (is:=[3,4,5]) rfl (wl (oe rfl) (wl (oe rfl) (wl (oe rfl) (DN)))))⟩
  (try simp only[sd,se] at c2);refine A7 (A8 (A5 BA 2 [2,0] O (Ay O (BN O O (YX q (Cl.mk 0 [(CR.mk x.index x.plus)]) hC.1.nd (by first | exact(JG.one hv).nd | exact(JG.plus (h3 _ (List.mem_of_getElem? hx1)) hv.1.1 hv.1.2 c3).nd)) O) (Az BA 1 [2,1] O (A8 (Az BA 3 [] O ?_))))));refine⟨⟨i+1,I2 q (Cl.mk 0 [(CR.mk x.index x.plus)])⟩,AU,⟨by omega,(by first | exact⟨hC.1.join (JG.plus (h3 _ (List.mem_of_getElem? hx1)) hv.1.1 hv.1.2 c3),(sN hx c2.1 c2.2 hx1 c3).symm.trans hC.2⟩ | exact⟨hC.1.join (JG.one hv),(pY hx Au).symm.trans hC.2⟩ | exact⟨hC.1.join (JG.one hv),(pY hx (fun hh=>by have:=c2 hh.1;omega)).symm.trans hC.2⟩)⟩,Bk ⟨we rfl,we rfl,we rfl,we rfl,we rfl,we rfl,trivial⟩ (leH (is:=[2,3,4]) rfl (wl (oe rfl) (wl (oe rfl) (wl (oe rfl) (DN)))))⟩
 (try simp only[sd,se] at c);refine Br (A2 BA 3 [0,1,1] O (A6 (⟨O,_,_,⟨_,_,O,(BJ (i:=1) DY O O Al),⟨_,_,O,O,O⟩⟩,(List.nil_sublist _),?_⟩)))
 all_goals exact⟨by show (.tup [.agg ((CE q).map .p),.p (I 0)]:AV)=_;rw[←hC.2,List.drop_eq_nil_of_le Au];rfl,rfl⟩
theorem dF:∀(l:Cl) (ps:List Cl),(M6 l)→(ps.length<Dt)→(∀p∈ps,M6 p)→Et Tryz.prog 139 [.agg ((CE l).map .p),.p (.lst (List.map CE ps))] (.tup [.agg ((CE ((DB l ps).1)).map .p),.p (I ((DB l ps).2))]):=by
 intro l ps h1 h2 h3;have hl:=h1.vars;have hl2:=h2;simp only[Dt] at hl hl2;refine BD Tryz.func139 O oN (n:=26) O O (A4 (BP O (Bf O) fun b2=>BP O (BF Ef O) fun b4=>Az BA 1 [] O (A1 (A1 (Bi [1,2,4] 13 (fun y=>y= .p (.bool ((!(CK l))||(!(ps.all CK))))) ?_ ?_)))))
 ·refine A8 (Ay O (BI (i:=1) DY O O Al) (Ay O (BN O O (On l h1) O) (A5 BA 2 [] O (Ba 9 O (fun g=>?_) (fun g=>?_)))))
  ·(try simp only[sd,se] at g);exact Az BA 4 [] O (⟨O,O,AM,AJ,⟨O,O,O,Aw⟩⟩)
  (try simp only[sd,se] at g);exact BM O (BB O) (BM O (BN O O (WZ ps h2 h3) O) (Az BA 2 [] O (⟨O,O,AM,AJ,⟨O,O,O,Aw⟩⟩)))
 rintro _ rfl;refine A3 O (fun c=>?_) (fun c=>?_)
 ·(try simp only[sd,se] at c);refine A2 BA 3 [0,0] O (BS (Bj (i:=0) O) (A6 (⟨O,_,_,⟨_,_,O,(BJ (i:=0) DY O O O),⟨_,_,O,O,O⟩⟩,(List.nil_sublist _),?_⟩)))
  all_goals exact⟨by show (.tup [.agg [.p (I 0),.p (.lst [])],.p (I 3)]:AV)=_;rw[show DB l ps=(Fq,3) by rw[DB,if_pos (by simpa using c)]];rfl,rfl⟩
 (try simp only[sd,se] at c);have hv:CK l=true∧ps.all CK=true:=by simpa using c
 refine A7 (A1 (A4 (Ay O (BI (i:=1) DY O O Al) (Ay O (BN O O (Z2 l h1) O) (B6 O (Ay O (BZ En O (List.length_map _)) (Az BA 1 [] O (A3 O (fun c1=>?_) (fun c1=>?_)))))))))
 ·(try simp only[sd,se] at c1);refine A2 BA 3 [0,0] O (BS (Bj (i:=0) O) (A6 (⟨O,_,_,⟨_,_,O,(BJ (i:=0) DY O O O),⟨_,_,O,O,O⟩⟩,(List.nil_sublist _),?_⟩)))
  all_goals exact⟨by show (.tup [.agg [.p (I 0),.p (.lst [])],.p (I 24)]:AV)=_;rw[show DB l ps=(Fq,24) by rw[DB,if_neg (by simp[hv]),if_pos c1]];rfl,rfl⟩
 (try simp only[sd,se] at c1);refine A7 (A4 (A5 BA 2 [1] O (Ay O (BN O O (ik l ps hv.1 h2 (List.all_eq_true.1 hv.2)) O) (Az BA 4 [0,1] O (A6 (⟨O,_,_,⟨_,_,O,(BJ (i:=0) DY O O Al),⟨_,_,O,O,O⟩⟩,(List.nil_sublist _),?_⟩))))))
 all_goals exact⟨by show (.tup [.agg ((CE ((GN ps ⟨l.const,[]⟩ l.vars).1)).map .p),.p (I ((GN ps ⟨l.const,[]⟩ l.vars).2))]:AV)=_;rw[show DB l ps=GN ps ⟨l.const,[]⟩ l.vars by rw[DB,if_neg (by simp[hv]),if_neg Au]],rfl⟩
theorem ay:∀(n:Nat) (t:Tm) (ps:List Cl) (b:Nat) (er nd:Int),(size t≤n)→(Nd t)→(ps.length<Dt)→(∀p∈ps,M6 p)→B4 Tryz.prog 109 [.ptr b 0,.agg ((Bg t).map .p),.p (.lst (List.map CE ps)),.p (.bool false)] [.box b [.p (I er),.p (I nd)]] (Gx (.agg ((Bg ((Ho ps er t).1)).map .p)) [.box b [.p (I ((Ho ps er t).2)),.p (I nd)]]):=by
 intro n
 induction n with
 | zero=>intro t ps b er nd h;cases t;simp[size] at h
 | succ n ih =>
  intro t ps b er nd h1 h2 h3 h4;obtain⟨tk,ti,tn,tl,ts⟩:=t;simp only[size] at h1;have h2n:=h2;simp only[Nd,Dt] at h2;refine BD Tryz.func109 O pO (n:=76) O O (A4 (BP O (Bf O) fun b5=>BP O (BF B8 O) fun b8=>Bt O (A2 BA 1 [] O (A1 (A2 BA 1 [] O (BH (BS (EY (t:=9) (sz:=2) O) ?_)))))));refine Bo (α:=Nat×List Cl×Int×Option Nat×Nat) (fun(i,ys,e,o,cp)=>⟨76,mk [(0,.ptr b 0),(2,.p (.lst (List.map CE ps))),(3,.p (.bool false)),(5,.ptr b5 0),(8,.ptr b8 0),(9,.vs o (List.map CE ys).length cp),(10,.p (I (i:Int)))],[.vec o 2 (List.map CE ys) cp,.box b8 [.p (I 0),.p (I 0),.p (.str ⟨#[]⟩),.p (.nils),.p (.nils)],.box b5 [.p (I tk),.p (I ti),.p (.str tn),.p (.lst (List.map CE tl)),.p (.lst (BO ts))],.box b [.p (I e),.p (I nd)]],[]⟩) (fun(i,ys,e,o,cp)=>tl.length - i) (fun(i,ys,e,o,cp)=>i≤tl.length∧(ys.length=i∧(ys++(FY ps e (tl.drop i)).1,(FY ps e (tl.drop i)).2)=FY ps er tl)) ⟨0,[],er,none,0⟩ (⟨by omega,by simp⟩) ?_ ?_
  ·exact Bk ⟨we O,we O,we O,we O,we O,we O,we O,Aw⟩ (leH (is:=[0,1,2,3]) O (wl (oe O) (wl (oe O) (wl (oe O) (wl (oe O) (DN))))))
  rintro⟨i,ys,e,o,cp⟩ hC
  try simp only at hC
  obtain⟨hi,hl,hC⟩:=hC;refine A1 (A4 (A5 BA 3 [2] O (Ay O (BZ En O (List.length_map _)) (Az BA 1 [] O (A3 O (fun c=>?_) (fun c=>?_))))))
  ·(try simp only[sd,se] at c);refine A7 (A1 (BH (A4 (A5 BA 3 [2] O ?_))));obtain⟨x,hx⟩:=BE (l:=tl) (i:=i) Au;refine Ay O (BC En O O Au (GC hx) (DT _)) (A5 BA 2 [] O (Ay O (BN O O (dF x ps (h2.2.2.1 _ (List.mem_of_getElem? hx)) h3 h4) O) (A5 BA 3 [] O (BP O (BF Ef O) fun b11=>Az BA 2 [0,1] O (A1 (A2 BA 1 [] O ?_))))));refine A3 O (fun c1=>by cases c1) (fun c1=>?_);refine A7 (A1 (A2 BA 2 [] O (A3 O (fun c2=>?_) (fun c2=>?_))))
   ·(try simp only[sd,se] at c2);refine A8 (A5 BA 2 [] O (Ay O (CS [4] O (.inl ⟨O,O,O⟩) (YF b e nd ((DB x ps).2)) ⟨_,_,O,O,O⟩ As O (.inl O)) (Bt O (A8 (A5 BA 2 [0] O (Ay O (B0 En Ef O O O O O) (FV O O (Cb (i:=1) (rows':=List.map CE [(Cl.mk (((DB x ps).1).const) (((DB x ps).1).vars))]) En En Ef O O O O O O (Mh _) AE (GW (f:=CE) ys [(Cl.mk (((DB x ps).1).const) (((DB x ps).1).vars))])) fun o1 cp1=>Az BA 1 [] O (A8 (Az BA 3 [] O ?_)))))))));refine⟨⟨i+1,ys++[(DB x ps).1],Gs e ((DB x ps).2),o1,cp1⟩,AU,⟨by omega,⟨by simp[hl],by rw[←hC,Cy hx];first | (simp[FY];done) | (simp[FY,XE,c2];done)⟩⟩,Bk ⟨we rfl,we rfl,we rfl,we rfl,we rfl,we rfl,we rfl,trivial⟩ (leH (is:=[1,2,3,4]) rfl (wl (oe rfl) (wl (oe rfl) (wl (oe rfl) (wl (oe rfl) (DN))))))⟩
   (try simp only[sd,se] at c2);refine A7 (A8 (A5 BA 2 [0] O (Ay O (B0 En Ef O O O O O) (FV O O (Cb (i:=1) (rows':=List.map CE [(Cl.mk (((DB x ps).1).const) (((DB x ps).1).vars))]) En En Ef O O O O O O (Mh _) AE (GW (f:=CE) ys [(Cl.mk (((DB x ps).1).const) (((DB x ps).1).vars))])) fun o1 cp1=>Az BA 1 [] O (A8 (Az BA 3 [] O ?_))))));refine⟨⟨i+1,ys++[(DB x ps).1],e,o1,cp1⟩,AU,⟨by omega,⟨by simp[hl],by rw[←hC,Cy hx];first | (simp[FY];done) | (simp[FY,XE,c2];done)⟩⟩,Bk ⟨we rfl,we rfl,we rfl,we rfl,we rfl,we rfl,we rfl,trivial⟩ (leH (is:=[1,2,3,4]) rfl (wl (oe rfl) (wl (oe rfl) (wl (oe rfl) (wl (oe rfl) (DN))))))⟩
  (try simp only[sd,se] at c);refine Br (A4 (A5 BA 2 [] O (CH (Cx (i:=0) [9,52] O (EH ⟨O,O,Aw⟩)) (Az BA 1 [1,0] O (A2 BA 1 [] O (A1 (A2 BA 1 [] O (BH (BS (EY (t:=13) (sz:=5) O) ?_)))))))));refine Bo (α:=Nat×List Tm×Int×Option Nat×Nat) (fun(i,zs,e2,o1,cp1)=>⟨76,mk [(0,.ptr b 0),(2,.p (.lst (List.map CE ps))),(3,.p (.bool false)),(5,.ptr b5 0),(8,.ptr b8 0),(13,.vs o1 (BO zs).length cp1),(14,.p (I (i:Int)))],[.vec o1 5 (BO zs) cp1,.box b8 [.p (I 0),.p (I 0),.p (.str ⟨#[]⟩),.p (.nils),.p (.nils)],.box b5 [.p (I tk),.p (I ti),.p (.str tn),.p (.lst (List.map CE ys)),.p (.lst (BO ts))],.box b [.p (I e2),.p (I nd)]],[]⟩) (fun(i,zs,e2,o1,cp1)=>ts.length - i) (fun(i,zs,e2,o1,cp1)=>i≤ts.length∧(zs.length=i∧(zs++(Gp ps e2 (ts.drop i)).1,(Gp ps e2 (ts.drop i)).2)=Gp ps e ts)) ⟨0,[],e,none,0⟩ (⟨by omega,by simp⟩) ?_ ?_
  ·exact Bk ⟨we O,we O,we O,we O,we O,we O,we O,Aw⟩ (leH (is:=[0,1,2,3]) O (wl (oe O) (wl (oe O) (wl (oe O) (wl (oe O) (DN))))))
  rintro⟨i,zs,e2,o1,cp1⟩ hC1
  try simp only at hC1
  obtain⟨hi,hl2,hC2⟩:=hC1;refine A1 (A4 (A5 BA 3 [2] O (Ay O (BZ Bq O (Bh _)) (Az BA 1 [] O (A3 O (fun c1=>?_) (fun c1=>?_))))))
  ·(try simp only[sd,se] at c1);refine A7 (A1 (BH (A8 (A5 BA 5 [2] O ?_))));obtain⟨x,hx⟩:=BE (l:=ts) (i:=i) Au;refine Ay O (BC Bq O O Au (Bn hx) (BL _)) (A5 BA 3 [] O (Ay O (CS [3] O (.inl ⟨O,O,O⟩) (ih x ps b e2 nd (by have:=Cs hx;omega) (Di h2.2.2.2.2.1 hx) h3 h4) ⟨_,_,O,O,O⟩ As O (.inl O)) ?_));generalize hz:(Ho ps e2 x).1=z;obtain⟨zk,zi,zn,zl,zs1⟩:=z;refine Ay O (B0 Bq B8 O O O O O) (FV O O (Cb (i:=0) (rows':=BO [(.mk zk zi zn zl zs1:Tm)]) Bq Bq B8 O O O O O O (B9 _) AE (Jj zs [(.mk zk zi zn zl zs1:Tm)])) fun o2 cp2=>Az BA 1 [] O (A8 (Az BA 3 [] O ?_)));refine⟨⟨i+1,zs++[(Ho ps e2 x).1],(Ho ps e2 x).2,o2,cp2⟩,AU,⟨by omega,⟨by simp[hl2],by rw[←hC2,Cy hx];simp[Gp]⟩⟩,Bk ⟨we rfl,we rfl,we rfl,we rfl,we rfl,we (L1 (zs++[(.mk zk zi zn zl zs1:Tm)]) (by rw[hz])),we rfl,trivial⟩ (leH (is:=[0,1,2,3]) rfl (wl (KA (zs++[(.mk zk zi zn zl zs1:Tm)]) (by rw[hz])) (wl (oe rfl) (wl (oe rfl) (wl (oe rfl) (DN))))))⟩
  (try simp only[sd,se] at c1);refine Br (A4 (A5 BA 2 [] O (CH (Cx (i:=0) [13,73] O (EH ⟨O,O,Aw⟩)) (Az BA 1 [1,0] O (A2 BA 2 [1,0,0] O (A6 (⟨O,_,_,⟨_,_,O,(BJ (i:=0) Bd O O O),O⟩,(CJ (is:=[2]) O),?_⟩)))))));refine⟨by show (.agg [.p (I tk),.p (I ti),.p (.str tn),.p (.lst (List.map CE ys)),.p (.lst (BO zs))]:AV)=_;rw[Y5 (dc hC Au) (dI hC2 Au)];rfl,?_⟩;show ([.box b [.p (I e2),.p (I nd)]]:List BU)=_;rw[Y5 (dc hC Au) (dI hC2 Au)]
theorem NR:∀(t:Tm) (ps:List Cl),(Nd t)→(ps.length<Dt)→(∀p∈ps,M6 p)→Et Tryz.prog 79 [.agg ((Bg t).map .p),.p (.lst (List.map CE ps))] (.tup [.agg ((Bg ((B1 t ps).1)).map .p),.p (I ((B1 t ps).2))]):=by
 intro t ps h1 h2 h3;refine BD Tryz.func79 O rB (n:=25) O O (A4 (BP O (Bf O) fun b2=>BP O (BF B8 O) fun b4=>Az BA 1 [] O (A4 (Ay O (CB P2 eR O) (BP O (Bf O) fun b9=>Az BA 1 [] O (A4 (A5 BA 3 [2] O (Ay O (CS [0] O (.inl ⟨O,O,O⟩) (ay _ t ps b9 0 0 (Nat.le_refl _) h1 h2 h3) ⟨_,_,O,O,O⟩ As O (.inl O)) (BP O (BF B8 O) fun b7=>Az BA 1 [0,1] O (A1 (A2 BA 5 [1] O (A3 O (fun c=>?_) (fun c=>?_)))))))))))))
 ·(try simp only[sd,se] at c);refine A1 (B7 (fun k=>false) D7 (A0 O (fun _=>CB DV B8 O) Aw (A0 O (fun _=>BB O) Aw (A0 O (fun _=>CW O) Aw (A0 O (fun _=>Ax P2 O O) Aw (BT (j:=1) O O O (fun H i hi=>BG (i:=i) C0 O hi O) AB Aw (CF O O (CO (i:=2) Bd O O O O O O) AB Aw (A0 O (fun _=>Bb O) Aw (Bv O Ap (BS (Bj (i:=2) O) (A6 (⟨O,_,_,⟨_,_,O,(BJ (i:=2) Bd O O O),⟨_,_,O,O,O⟩⟩,(List.nil_sublist _),?_⟩))))))))))))
  all_goals exact⟨by show (.tup [.agg [.p (I 0),.p (I 0),.p (.str ⟨#[]⟩),.p (.lst []),.p (.lst [])],.p (I ((Ho ps 0 t).2))]:AV)=_;rw[show B1 t ps=(Bu,(Ho ps 0 t).2) by rw[B1,if_pos c]];rfl,rfl⟩
 (try simp only[sd,se] at c);refine A7 (A2 BA 3 [0,2,1] O (A6 (⟨O,_,_,⟨_,_,O,(BJ (i:=2) Bd O O Am),⟨_,_,O,O,O⟩⟩,(List.nil_sublist _),?_⟩)))
 all_goals exact⟨by show (.tup [.agg ((Bg ((Ho ps 0 t).1)).map .p),.p (I 0)]:AV)=_;rw[show B1 t ps=((Ho ps 0 t).1,0) by rw[B1,if_neg Au]],rfl⟩
theorem _root_.Go.AS {α:Prop}(h:α:=by simp only[Dt,List.length_drop];omega):α:=h
theorem db:∀(ds:List Cc) (g:Tm) (a:List Tm) (m:Tm) (b:Nat) (c c2:Ev) (q:Option Tm),(J7 ds)→((Ct ds g.name).1∈ds)→(okB g=true)→(okB m=true)→(Cj (Ct ds g.name).1<a.length)→(a.length<549755813888)→(FQ ds Du (Ct ds g.name).1 g a m c= .ok (q,c2))→B4 Tryz.prog 50 [.p (.lst (List.map Bw ds)),.agg ((Bg g).map .p),.p (.lst (BO a)),.agg ((Bg m).map .p),.ptr b 0] [.box b ((I5 c).map .p)] (Gx (.tup [.agg ((Bg (q.getD Bu)).map .p),.p (.bool q.isSome)]) [.box b ((I5 c2).map .p)]):=by
 intro ds g a m b c c2 q h1 h2 h3 h4 h5 h6 h7;obtain⟨gk,gi,gn,gl,gs⟩:=g;simp only[Tm.name] at h2 h5 h7;have hdg:=h1.all _ h2;have hnr:=IX hdg;have hgo:=Cd.1 h3;have hgl:=hgo.nd;simp only[Nd,Dt] at hgl;have hcl:=hdg.din.cl;have hrl:=hdg.din.rl;have hfx:=hdg.fx;have hir:=GX hdg.din hdg.fx;refine BD Tryz.func50 O qa (n:=93) O O (A4 (BP O (Bf O) fun b6=>BP O (Bf O) fun b8=>BP O (BF B8 O) fun b10=>Az BA 1 [] O (A4 (A5 BA 3 [2] O (Ay O (BN O O (RD ds gn h1.env) O) (A5 BA 4 [] O (BP O (BF Je O) fun b12=>Az BA 3 [0,1] O (A4 (A5 BA 2 [2] O (Ay O (BN O O (VY ds m h1 h4) O) (A5 BA 5 [] O (BP O (BF Je O) fun b15=>Az BA 4 [0,1] O (A1 (A1 (Bi [2,4,6,10,12,16,17] 54 (fun y=>y= .p (.bool (((!((CY ds m).2.2.2))||(!((((CY ds m).1).name).toList==(((Ct ds gn).1).name).toList)))||(decide (((CY ds m).2.1:Int)≥(((((Ct ds gn).1).recs.rules).length:Nat):Int)))))) ?_ ?_)))))))))))))))
 ·refine A8 (A5 BA 3 [] O (Ba 40 O (fun g1=>?_) (fun g1=>?_)))
  ·(try simp only[sd,se] at g1);exact Az BA 14 [] O (⟨O,O,AM,AJ,⟨O,O,O,O,O,O,O,Aw⟩⟩)
  (try simp only[sd,se] at g1);refine BM O (Ax Cv O O) (BM O (A9 (i:=0) Lm O O (Db _)) (BM O (Ax Cv O O) (BM O (A9 (i:=1) Lm O O (Db _)) (BM O (JE O O) (A5 BA 2 [] O (Ba 47 O (fun g2=>?_) (fun g2=>?_)))))))
  ·(try simp only[sd,se] at g2);exact Az BA 7 [] O (⟨O,O,AM,AJ,⟨O,O,O,O,O,O,O,Aw⟩⟩)
  (try simp only[sd,se] at g2);exact A5 BA 3 [] O (BM O (A9 (i:=1) E9 O O (C2 _)) (BM O (BZ Bq O (Bh _)) (Az BA 2 [] O (⟨O,O,AM,AJ,⟨O,O,O,O,O,O,O,Aw⟩⟩))))
 rintro _ rfl;refine A3 O (fun c1=>?_) (fun c1=>?_)
 ·(try simp only[sd,se] at c1);have hq:=(WU (S:=Du) (h:= .mk gk gi gn gl gs) (a:=a) (s:=c) c1).symm.trans h7;cases hq;refine A2 BA 3 [2,0] O (BS (Bj (i:=2) O) (A6 (⟨O,_,_,⟨_,_,O,(BJ (i:=2) Bd O O O),⟨_,_,O,O,O⟩⟩,(CJ (is:=[5]) O),?_⟩)))
  all_goals exact⟨rfl,rfl⟩
 (try simp only[sd,se] at c1);obtain⟨hg1,hg2,hg3⟩:=Tn c1;have hg4:=c1.2;have hfl:=JS h1 hg1;refine A7 (A1 (B7 (fun k=>Nat.beq k 12) D7 (A0 O (fun _=>Ax Cv O O) Aw (A0 O (fun _=>Ax iw O O) Aw (BT (j:=1) O O O (fun H i hi=>A9 (i:=i) E9 O hi (C2 _)) AB Aw (A0 O (fun _=>BB O) Aw ?_))))));obtain⟨x,hx⟩:=BE (l:=((Ct ds gn).1).recs.rules) (i:=((CY ds m).2.1:Int).toNat) Au;have hro:=Cd.1 (hdg.ru _ (List.mem_of_getElem? hx));refine A0 O (fun _=>BC Bq O O Au (Bn hx) (BL _)) Aw (A0 O (fun _=>BQ Bd O (BL _)) Aw (A0 O (fun _=>Ax DV O O) Aw (BT (j:=4) O O O (fun H i hi=>BG (i:=i) UO O hi O) AB Aw (A0 O (fun _=>BN O O (NR x gl hro.nd hgl.2.1 hgl.2.2.1) O) Aw (A0 O (fun _=>BB O) Aw (A0 O (fun _=>By O O) Aw (A0 O (fun _=>By O O) Aw (HJ [] O O (BF B8 O) Ap fun b19=>⟨AB,Aw,?_⟩))))))));refine CF O O (Bc (i:=0) Bd O O O Am Aa (C5 _)) AB Aw (A0 O (fun _=>Bb O) Aw (Bv O Ap (A1 (A2 BA 2 [] O (A3 O (fun c3=>?_) (fun c3=>?_))))))
 ·(try simp only[sd,se] at c3);have hq:=(MK (S:=Du) (h:= .mk gk gi gn gl gs) (a:=a) (s:=c) hg1 hg2 hx c3).symm.trans h7;cases hq;refine A2 BA 3 [3,0] O (BS (Bj (i:=3) O) (A6 (⟨O,_,_,⟨_,_,O,(BJ (i:=3) Bd O O O),⟨_,_,O,O,O⟩⟩,(CJ (is:=[6]) O),?_⟩)))
  all_goals exact⟨rfl,rfl⟩
 (try simp only[sd,se] at c3);have hq:=(MO (S:=Du) (h:= .mk gk gi gn gl gs) (a:=a) (s:=c) hg1 hg2 hx c3).symm.trans h7;obtain⟨hpo,hpe⟩:=LO (h:=(by rw[hq];simp));rw[hpe] at hq;cases hq;refine A7 (A1 (B7 (fun k=>Nat.beq k 11) D7 (BT (j:=0) O O O (fun H i hi=>BI (i:=i) Bd O hi Am) AB Aw (A0 O (fun _=>BB O) Aw (A0 O (fun _=>Ax Cv O O) Aw (BT (j:=2) O O O (fun H i hi=>A9 (i:=i) C0 O hi (C3 _)) AB Aw (A0 O (fun _=>ET O O Au Au) Aw (A0 O (fun _=>Ax Cv O O) Aw (BT (j:=2) O O O (fun H i hi=>A9 (i:=i) Hk O hi (CN _)) AB Aw (A0 O (fun _=>BZ HY O (List.length_map _)) Aw (A0 O (fun _=>ET O O Au Au) Aw ?_)))))))))));refine A0 O (fun _=>Cp (lo:=0) (hi:=(((((Ct ds gn).1).fixed:Int)+(1:Int):Int)+(((((Ct ds gn).1).ctors).length:Nat):Int):Int).toNat) Bq O (CT (B9 _)) O ⟨_,pI Au⟩ (Nat.zero_le _) AR (Oo a ((((((Ct ds gn).1).fixed:Int)+(1:Int):Int)+(((((Ct ds gn).1).ctors).length:Nat):Int):Int).toNat))) Aw (A0 O (fun _=>BN O O (GS ((B1 x gl).1) (a.take ((((((Ct ds gn).1).fixed:Int)+(1:Int):Int)+(((((Ct ds gn).1).ctors).length:Nat):Int):Int).toNat)) (by simp only[Dt,List.length_take];omega)) O) Aw (HJ [] O O (BF B8 O) Ap fun b21=>⟨AB,Aw,?_⟩));refine CF O O (Bc (i:=0) Bd O O O Am Aa (C5 _)) AB Aw (Bv O Ap (A1 (B7 (fun k=>false) D7 (A0 O (fun _=>BB O) Aw (BT (j:=0) O O O (fun H i hi=>BI (i:=i) Bd O hi Am) AB Aw (A0 O (fun _=>BB O) Aw (A0 O (fun _=>BN O O (GS (apply ((B1 x gl).1) (a.take ((((((Ct ds gn).1).fixed:Int)+(1:Int):Int)+(((((Ct ds gn).1).ctors).length:Nat):Int):Int).toNat))) ((CY ds m).2.2.1) Ad) O) Aw (CF O O (CS [7] O (.inl ⟨O,O,O⟩) (IG b c (apply (apply ((B1 x gl).1) (a.take ((((((Ct ds gn).1).fixed:Int)+(1:Int):Int)+(((((Ct ds gn).1).ctors).length:Nat):Int):Int).toNat))) ((CY ds m).2.2.1)) 0 (Cd.1 hpo).nd) ⟨_,_,O,O,O⟩ As O (.inl O)) AB Aw (A0 O (fun _=>BB O) Aw ?_)))))))))
 refine BT (j:=3) O O O (fun H i hi=>BI (i:=i) EJ O hi Aj) AB Aw (A0 O (fun _=>BN O O (RW ((Ct ds gn).1) hdg.din hdg.fx) O) Aw (A0 O (fun _=>ET O O Au Au) Aw (A0 O (fun _=>Cp (lo:=((Cj ((Ct ds gn).1):Int)+(1:Int):Int).toNat) Bq O (CT (B9 _)) ⟨_,pI Au⟩ O AR (Nat.le_refl _) (Jo a (((Cj ((Ct ds gn).1):Int)+(1:Int):Int).toNat))) Aw (A0 O (fun _=>BN O O (GS (apply (apply ((B1 x gl).1) (a.take ((((((Ct ds gn).1).fixed:Int)+(1:Int):Int)+(((((Ct ds gn).1).ctors).length:Nat):Int):Int).toNat))) ((CY ds m).2.2.1)) (a.drop (((Cj ((Ct ds gn).1):Int)+(1:Int):Int).toNat)) AS) O) Aw (CF O O (Bc (i:=4) Bd O O O Am Aa (C5 _)) AB Aw (A0 O (fun _=>Bb O) Aw (Bv O Ap (A6 ?_))))))));refine⟨O,_,_,⟨_,_,O,(BJ (i:=4) Bd O O Am),⟨_,_,O,O,O⟩⟩,(CJ (is:=[7]) O),?_⟩
 all_goals exact⟨rfl,rfl⟩
theorem Zb:∀(n:Nat) (ds:List Cc) (g:Tm) (a:List Tm) (b:Nat) (c c2:Ev) (q:Option Tm),(r5 ds n)→(Ha ds)→(okB g=true)→(∀x∈a,okB x=true)→(a.length<549755813888)→(Eo ds Du (D6 ds Du n) n g a c= .ok (q,c2))→B4 Tryz.prog 41 [.p (.lst (List.map Bw ds)),.agg ((Bg g).map .p),.p (.lst (BO a)),.ptr b 0] [.box b ((I5 c).map .p)] (Gx (.tup [.agg ((Bg (q.getD Bu)).map .p),.p (.bool q.isSome)]) [.box b ((I5 c2).map .p)]):=by
 intro n ds g a b c c2 q hW h2 h3 h4 h5 h6;obtain⟨gk,gi,gn,gl,gs⟩:=g;have hgo:=Cd.1 h3;have hgl:=hgo.nd;simp only[Nd,Dt] at hgl;refine BD Tryz.func41 O qJ (n:=143) O O (A4 (BP O (Bf O) fun b5=>BP O (BF B8 O) fun b8=>Az BA 1 [] O (A4 (A5 BA 2 [1] O (Ay O (BN O O (Xk ds (.mk gk gi gn gl gs:Tm) h2.g.env) O) (A5 BA 3 [] O (BP O (BF IA O) fun b10=>Az BA 2 [0,1] O (A1 (A2 BA 2 [] O (A3 O (fun c1=>?_) (fun c1=>?_)))))))))))
 ·(try simp only[sd,se] at c1);have hq:=(Jd (E:=ds) (S:=Du) (W:=D6 ds Du n) (n:=n) (h:=(.mk gk gi gn gl gs:Tm)) (a:=a) (s:=c) c1).symm.trans h6;cases hq;refine A2 BA 3 [1,0] O (BS (Bj (i:=1) O) (A6 (⟨O,_,_,⟨_,_,O,(BJ (i:=1) Bd O O O),⟨_,_,O,O,O⟩⟩,(CJ (is:=[3]) O),?_⟩)))
  all_goals exact⟨rfl,rfl⟩
 (try simp only[sd,se] at c1);have hu:=c1;obtain⟨ix,dd,e1,e2,e3,e4⟩:=KW hu;have hde:=e2.decl;have hdg:=h2.g.all _ e3;have hel:=h2.g.env.len;have hil:=(List.getElem?_eq_some_iff.1 e1).1;have hfx:=hdg.fx;have hnr:=IX hdg;have hcl:=hdg.din.cl;have hfl:=hdg.din.fl;refine A7 (A4 (A5 BA 2 [] O (Ay O (A9 (i:=0) C0 O O (Ds _)) (Ay O (BC Hv O O Au (EX e4) (Cw _)) (Ay O (BQ EJ O (Cw _)) (BP O (BF Je O) fun b12=>Az BA 1 [0,1] O (A1 (A4 (Ay O (Ax FG O O) (Ay O (A9 (i:=1) C0 O O (Dq _)) (Bt O (BH (A2 BA 2 [] O (A3 O (fun c3=>?_) (fun c3=>?_)))))))))))))))
 ·(try simp only[sd,se] at c3);have hk1:=c3;refine A4 (Ay O (Ax Cv O O) (Ay O (CC (i:=0) Bd O O (FW _) (BL _)) (A5 BA 2 [3] O (Ay O (BN O O (NR dd.value gl (Cd.1 hdg.vl).nd hgl.2.1 hgl.2.2.1) O) (A5 BA 3 [] O (BP O (BF B8 O) fun b13=>Az BA 2 [0,1] O (A1 (A2 BA 2 [] O (A3 O (fun c4=>?_) (fun c4=>?_))))))))))
  ·(try simp only[sd,se] at c4);have hq:=((JF (E:=ds) (S:=Du) (W:=D6 ds Du n) (n:=n) (h:=(.mk gk gi gn gl gs:Tm)) (a:=a) (s:=c) (d:=dd) hu e4 hk1).trans (KG (h:=(.mk gk gi gn gl gs:Tm)) c4)).symm.trans h6;cases hq;refine A2 BA 3 [3,0] O (BS (Bj (i:=3) O) (A6 (⟨O,_,_,⟨_,_,O,(BJ (i:=3) Bd O O O),⟨_,_,O,O,O⟩⟩,(CJ (is:=[5]) O),?_⟩)))
   all_goals exact⟨rfl,rfl⟩
  (try simp only[sd,se] at c4);have hq:=((JF (E:=ds) (S:=Du) (W:=D6 ds Du n) (n:=n) (h:=(.mk gk gi gn gl gs:Tm)) (a:=a) (s:=c) (d:=dd) hu e4 hk1).trans (Ki (h:=(.mk gk gi gn gl gs:Tm)) c4)).symm.trans h6;obtain⟨hpo,hpe⟩:=LO (h:=(by rw[hq];simp));rw[hpe] at hq;cases hq;refine A7 (A4 (A5 BA 2 [0] O (Ay O (CS [5] O (.inl ⟨O,O,O⟩) (IG b c ((B1 dd.value gl).1) 0 (Cd.1 hpo).nd) ⟨_,_,O,O,O⟩ As O (.inl O)) (B6 O (Ay O (BN O O (GS ((B1 dd.value gl).1) a Ad) O) (Az BA 2 [3,1] O (A6 (⟨O,_,_,⟨_,_,O,(BJ (i:=3) Bd O O Am),⟨_,_,O,O,O⟩⟩,(CJ (is:=[5]) O),?_⟩))))))))
  all_goals exact⟨rfl,rfl⟩
 (try simp only[sd,se] at c3);have hk1:=c3;refine A2 BA 2 [] O (A3 O (fun c4=>?_) (fun c4=>?_))
 ·(try simp only[sd,se] at c4);have hk5:=c4;refine A1 (A4 (B6 O (Ay O (BZ Bq O (Bh _)) (Ay O (BI (i:=0) EJ O O Aj) (Ay O (BN O O (RW dd hdg.din hdg.fx) O) (Az BA 1 [] O (A3 O (fun c5=>?_) (fun c5=>?_))))))))
  ·(try simp only[sd,se] at c5);have hq:=((IJ (E:=ds) (S:=Du) (W:=D6 ds Du n) (n:=n) (h:=(.mk gk gi gn gl gs:Tm)) (a:=a) (s:=c) (d:=dd) hu e4 hk5).trans (Nx Au)).symm.trans h6;cases hq;refine A2 BA 3 [2,0] O (BS (Bj (i:=2) O) (A6 (⟨O,_,_,⟨_,_,O,(BJ (i:=2) Bd O O O),⟨_,_,O,O,O⟩⟩,(CJ (is:=[4]) O),?_⟩)))
   all_goals exact⟨rfl,rfl⟩
  (try simp only[sd,se] at c5);refine A7 (A1 (B7 (fun k=>false) D7 (A0 O (fun _=>BB O) Aw (BT (j:=3) O O O (fun H i hi=>BI (i:=i) Bd O hi O) AB Aw (A0 O (fun _=>BB O) Aw (A0 O (fun _=>BB O) Aw (A0 O (fun _=>BB O) Aw (BT (j:=0) O O O (fun H i hi=>BI (i:=i) EJ O hi Aj) AB Aw (A0 O (fun _=>BN O O (RW dd hdg.din hdg.fx) O) Aw ?_)))))))));obtain⟨x,hx⟩:=BE (l:=a) (i:=(Cj dd:Int).toNat) Au;obtain⟨⟨r,d2⟩,hr1,hr2,hr3⟩:=J8 (((IJ (E:=ds) (S:=Du) (W:=D6 ds Du n) (n:=n) (h:=(.mk gk gi gn gl gs:Tm)) (a:=a) (s:=c) (d:=dd) hu e4 hk5).trans (Rp Au hx)).symm.trans h6);have hfd:=kE (jM hu) hk5 e4;refine A0 O (fun _=>BC Bq O O Au (Bn hx) (BL _)) Aw (A0 O (fun _=>BQ Bd O (BL _)) Aw (A0 O (fun _=>BB O) Aw (CF O O (CS [4] O (.inl ⟨O,O,O⟩) (hW b x c d2 r hr1) ⟨_,_,O,O,O⟩ As O (.inl O)) AB Aw (A0 O (fun _=>BB O) Aw (CF O O (CS [4] O (.inl ⟨O,O,O⟩) (db ds (.mk gk gi gn gl gs:Tm) a r b d2 c2 q h2.g (hfd▸e3) h3 hr2 (by rw[hfd];omega) h5 (by rw[hfd];exact hr3)) ⟨_,_,O,O,O⟩ As O (.inl O)) AB Aw (A0 O (fun _=>By O O) Aw (A0 O (fun _=>By O O) Aw (CF O O (Bc (i:=2) Bd O O O Am Aa (C5 _)) AB Aw (A0 O (fun _=>Bb O) Aw (Bv O Ap (A6 (⟨O,_,_,⟨_,_,O,(BJ (i:=2) Bd O O Am),⟨_,_,O,O,O⟩⟩,(CJ (is:=[4]) O),?_⟩))))))))))))
  all_goals exact⟨rfl,rfl⟩
 (try simp only[sd,se] at c4);have hk5:=c4;refine A2 BA 2 [] O (A3 O (fun c5=>?_) (fun c5=>?_))
 ·(try simp only[sd,se] at c5);have hk6:=c5;obtain⟨fk,ff,f1,f2⟩:=e2.func hk6;have hfi:=(List.getElem?_eq_some_iff.1 f1).1;have hff:dd.funs[(B3 ds (Tm.mk gk gi gn gl gs).name).1.item.toNat]?=some ff:=by rw[f2];simpa using f1
  have hfm:=List.mem_of_getElem? f1;have hfa:=hdg.fu ff hfm;refine A4 (Ay O (Ax Cv O O) (Ay O (A9 (i:=0) Hn O O (CV _)) (Ay O (Ax FG O O) (Ay O (A9 (i:=1) C0 O O (F6 _)) (Ay O (BC HW O O Au (Es hff) (Dd _)) (Ay O (BQ aN O (Dd _)) (BP O (BF X2 O) fun b15=>Az BA 1 [0,1] O (A1 (A4 (B6 O (Ay O (BZ Bq O (Bh _)) (Ay O (Ax Gu O O) (Ay O (A9 (i:=0) C0 O O (Ch _)) (Az BA 1 [] O (A3 O (fun c6=>?_) (fun c6=>?_))))))))))))))))
  ·(try simp only[sd,se] at c6);have hq:=((HT (E:=ds) (S:=Du) (W:=D6 ds Du n) (n:=n) (h:=(.mk gk gi gn gl gs:Tm)) (a:=a) (s:=c) (d:=dd) (f:=ff) hu e4 hk6 hff).trans (KS Au)).symm.trans h6;cases hq;refine A2 BA 3 [3,0] O (BS (Bj (i:=3) O) (A6 (⟨O,_,_,⟨_,_,O,(BJ (i:=3) Bd O O O),⟨_,_,O,O,O⟩⟩,(CJ (is:=[5]) O),?_⟩)))
   all_goals exact⟨rfl,rfl⟩
  (try simp only[sd,se] at c6);have hl0:¬(a.length:Int)<ff.arity:=by omega
  refine A7 (A1 ?_);obtain⟨⟨lq,d2⟩,hl1,hl2⟩:=LG (((HT (E:=ds) (S:=Du) (W:=D6 ds Du n) (n:=n) (h:=(.mk gk gi gn gl gs:Tm)) (a:=a) (s:=c) (d:=dd) (f:=ff) hu e4 hk6 hff).trans (KI hl0)).symm.trans h6);have hlo:=RB h2.g _ _ _ _ _ _ _ (Pz h2 e3 hfm h4) hl1;refine IN [.box b15 ((Fa ff).map .p),.box b12 ((Bw dd).map .p),.box b10 ((Dp ((B3 ds (.mk gk gi gn gl gs:Tm).name).1)).map .p),.box b8 [.p (I 0),.p (I 0),.p (.str ⟨#[]⟩),.p (.nils),.p (.nils)],.box b5 [.p (I gk),.p (I gi),.p (.str gn),.p (.lst (List.map CE gl)),.p (.lst (BO gs))],.box b ((I5 d2).map .p)] 8 [.val (.p (.lst (List.map Bw ds))),.val (.ptr b15 (0+7)),.val (.agg ((DF ff.tree).map .p)),.val (.p (.lst (BO a))),.val (.ptr b15 (0+6)),.val (.p (I ff.arity)),.val (.p (.lst (BO (a.take ((ff.arity:Int).toNat))))),.val (.ptr b 0),.val (.tup [.agg ((Bg (KR lq)).map .p),.p (.lst (BO (Nl lq))),.p (.bool lq.1.isSome),.agg ((Bg lq.2).map .p)]),.val (.tup [.agg ((Bg (KR lq)).map .p),.p (.lst (BO (Nl lq))),.p (.bool lq.1.isSome),.agg ((Bg lq.2).map .p)]),.val (.agg ((Bg (KR lq)).map .p)),.val (.p (.lst (BO (Nl lq)))),.val (.p (.bool lq.1.isSome)),.val (.agg ((Bg lq.2).map .p)),.new [.p (I 0),.p (I 0),.p (.str ⟨#[]⟩),.p (.nils),.p (.nils)],.new [.p (I 0),.p (I 0),.p (.str ⟨#[]⟩),.p (.nils),.p (.nils)]] [.p .any,.p (.lst (BO (Nl lq))),.p (.bool lq.1.isSome),.p .any] [11,12,13] D7 O Ap Ap Ap O ?_ ?_
  ·exact Aw
  refine Bz O O (fun Bs=>BB O) (Bz O O (fun Bs=>Ax Gu O O) (GH O O O (fun Bs=>CC (i:=Bs.length+0) HM O (Cn O) (EI _) (C7 _)) (fun Bs=>CC (i:=Bs.length+0) HM O (Cn O) (EI _) (C7 _)) (Bz O O (fun Bs=>BB O) (Bz O O (fun Bs=>Ax Gu O O) (GH O O O (fun Bs=>A9 (i:=Bs.length+0) C0 O (Cn O) (Ch _)) (fun Bs=>A9 (i:=Bs.length+0) C0 O (Cn O) (Ch _)) (Bz O O (fun Bs=>Cp (lo:=0) (hi:=(ff.arity:Int).toNat) Bq O (CT (B9 _)) O ⟨_,pI Au⟩ (Nat.zero_le _) AR (Oo a ((ff.arity:Int).toNat))) (Bz O O (fun Bs=>BB O) ?_)))))));refine J5 O (fun Bs=>G2 [5] O (.inl ⟨O,O,O⟩) (cQ n n ds ff.tree (a.take ((ff.arity:Int).toNat)) b c d2 lq hW h2.g (Pz h2 e3 hfm h4) hl1) ⟨_,_,O,O,O⟩ As O (aw (we O) (aw (we O) (aw (we O) (aw (we O) (FH)))))) (Bz O O (fun Bs=>BB O) (Bz O O (fun Bs=>By O O) (Bz O O (fun Bs=>By O O) (Bz O O (fun Bs=>By O O) (Bz O O (fun Bs=>By O O) (Pd O O (fun Bs=>BF B8 O) fun b16=>Pd O O (fun Bs=>BF B8 O) fun b19=>J6 ?_))))));refine EA [.box b16 ((Bg (KR lq)).map .p),.box b19 [.p (I 0),.p (I 0),.p (.str ⟨#[]⟩),.p (.nils),.p (.nils)],.box b15 ((Fa ff).map .p),.box b12 ((Bw dd).map .p),.box b10 ((Dp ((B3 ds (.mk gk gi gn gl gs:Tm).name).1)).map .p),.box b8 [.p (I 0),.p (I 0),.p (.str ⟨#[]⟩),.p (.nils),.p (.nils)],.box b5 [.p (I gk),.p (I gi),.p (.str gn),.p (.lst (List.map CE gl)),.p (.lst (BO gs))],.box b ((I5 d2).map .p)] O (Bc (i:=0) Bd O O O Am Aa (C5 _)) ?_;refine EA [.box b16 ((Bg (KR lq)).map .p),.box b19 [.p (I 0),.p (I 0),.p (.str ⟨#[]⟩),.p (.nils),.p (.nils)],.box b15 ((Fa ff).map .p),.box b12 ((Bw dd).map .p),.box b10 ((Dp ((B3 ds (.mk gk gi gn gl gs:Tm).name).1)).map .p),.box b8 [.p (I 0),.p (I 0),.p (.str ⟨#[]⟩),.p (.nils),.p (.nils)],.box b5 [.p (I gk),.p (I gi),.p (.str gn),.p (.lst (List.map CE gl)),.p (.lst (BO gs))],.box b ((I5 d2).map .p)] O (Bb O) ?_;refine EA [.box b16 ((Bg (KR lq)).map .p),.box b19 [.p (I 0),.p (I 0),.p (.str ⟨#[]⟩),.p (.nils),.p (.nils)],.box b15 ((Fa ff).map .p),.box b12 ((Bw dd).map .p),.box b10 ((Dp ((B3 ds (.mk gk gi gn gl gs:Tm).name).1)).map .p),.box b8 [.p (I 0),.p (I 0),.p (.str ⟨#[]⟩),.p (.nils),.p (.nils)],.box b5 [.p (I gk),.p (I gi),.p (.str gn),.p (.lst (List.map CE gl)),.p (.lst (BO gs))],.box b ((I5 d2).map .p)] O (Bb O) ?_
  refine EA [.box b16 ((Bg (KR lq)).map .p),.box b19 ((Bg lq.2).map .p),.box b15 ((Fa ff).map .p),.box b12 ((Bw dd).map .p),.box b10 ((Dp ((B3 ds (.mk gk gi gn gl gs:Tm).name).1)).map .p),.box b8 [.p (I 0),.p (I 0),.p (.str ⟨#[]⟩),.p (.nils),.p (.nils)],.box b5 [.p (I gk),.p (I gi),.p (.str gn),.p (.lst (List.map CE gl)),.p (.lst (BO gs))],.box b ((I5 d2).map .p)] O (Bc (i:=1) Bd O O O Am Aa (C5 _)) (KC (A1 (A1 (Bi [2,3,5,8,15,16,17] 114 (fun y=>y= .p (.bool ((!lq.1.isSome)||d2.over))) ?_ ?_))))
  ·refine A8 (A5 BA 3 [] O (Ba 109 O (fun g1=>?_) (fun g1=>?_)))
   ·(try simp only[sd,se] at g1);exact Az BA 5 [] O (⟨O,O,AM,AJ,⟨O,O,O,O,O,O,O,Aw⟩⟩)
   (try simp only[sd,se] at g1);exact Az BA 5 [7] O (⟨O,O,AM,AJ,⟨O,O,O,O,O,O,O,Aw⟩⟩)
  rintro _ rfl;refine A3 O (fun c7=>?_) (fun c7=>?_)
  ·(try simp only[sd,se] at c7);rw[JX (by simpa [Du] using c7)] at hl2;cases hl2;refine A2 BA 3 [5,0] O (BS (Bj (i:=5) O) (A6 (⟨O,_,_,⟨_,_,O,(BJ (i:=5) Bd O O O),⟨_,_,O,O,O⟩⟩,(CJ (is:=[7]) O),?_⟩)))
   all_goals exact⟨rfl,rfl⟩
  (try simp only[sd,se] at c7);rw[Kv (by simpa using c7.1) (by simpa [Du] using c7.2)] at hl2;refine A7 (A4 (A5 BA 3 [0,6] O (Ay O (BN O O (NR (KR lq) gl (Cd.1 hlo.1).nd hgl.2.1 hgl.2.2.1) O) (A5 BA 3 [] O (BP O (BF B8 O) fun b20=>Az BA 2 [0,1] O (A1 (A2 BA 2 [] O (A3 O (fun c8=>?_) (fun c8=>?_)))))))))
  ·(try simp only[sd,se] at c8);rw[Kl (h:=(.mk gk gi gn gl gs:Tm)) c8] at hl2;cases hl2;refine A2 BA 3 [6,0] O (BS (Bj (i:=6) O) (A6 (⟨O,_,_,⟨_,_,O,(BJ (i:=6) Bd O O O),⟨_,_,O,O,O⟩⟩,(CJ (is:=[8]) O),?_⟩)))
   all_goals exact⟨rfl,rfl⟩
  (try simp only[sd,se] at c8);obtain⟨hb1,hb2,hb3,hb4⟩:=UR (by rw[hl2];simp) c8;rw[hb4] at hl2;obtain⟨hpo,hpe⟩:=LO (h:=(by rw[hl2];simp));rw[hpe] at hl2;cases hl2;refine A7 (A1 (B7 (fun k=>false) D7 (BT (j:=0) O O O (fun H i hi=>BI (i:=i) Bd O hi Am) AB Aw (A0 O (fun _=>BB O) Aw (A0 O (fun _=>BN O O (Ut (Nl lq) Ad) O) Aw ?_)))));refine A0 O (fun _=>BN O O (Q4 ((B1 (KR lq) gl).1) ((Nl lq).reverse) (by have:=F8 (t:=(B1 (KR lq) gl).1) hb1;omega) (Cd.1 hb1).nd (FR (cz hb2)).1 (by rw[Su];omega)) O) Aw ?_;refine A0 O (fun _=>BB O) Aw (A0 O (fun _=>By O O) Aw (A0 O (fun _=>By O O) Aw (CF O O (Bc (i:=0) Bd O O O Am Aa (C5 _)) AB Aw (A0 O (fun _=>Bb O) Aw (Bv O Ap (A1 (B7 (fun k=>false) D7 (A0 O (fun _=>BB O) Aw (BT (j:=0) O O O (fun H i hi=>BI (i:=i) Bd O hi Am) AB Aw (A0 O (fun _=>BB O) Aw (CF O O (CS [8] O (.inl ⟨O,O,O⟩) (IG b (Ev.mk d2.steps d2.nodes d2.forms d2.limit d2.over) ((Ce ((B1 (KR lq) gl).1) ((Nl lq).reverse) 0).1) ((Ce ((B1 (KR lq) gl).1) ((Nl lq).reverse) 0).2) (Cd.1 hpo).nd) ⟨_,_,O,O,O⟩ As O (.inl O)) AB Aw (A0 O (fun _=>BB O) Aw (A0 O (fun _=>Ax Gu O O) Aw ?_)))))))))))));refine BT (j:=3) O O O (fun H i hi=>A9 (i:=i) C0 O hi (Ch _)) AB Aw (A0 O (fun _=>Cp (lo:=(ff.arity:Int).toNat) Bq O (CT (B9 _)) ⟨_,pI Au⟩ O AR (Nat.le_refl _) (Jo a ((ff.arity:Int).toNat))) Aw (A0 O (fun _=>BN O O (GS ((Ce ((B1 (KR lq) gl).1) ((Nl lq).reverse) 0).1) (a.drop ((ff.arity:Int).toNat)) AS) O) Aw (CF O O (Bc (i:=6) Bd O O O Am Aa (C5 _)) AB Aw (A0 O (fun _=>Bb O) Aw (Bv O Ap (A6 (⟨O,_,_,⟨_,_,O,(BJ (i:=6) Bd O O Am),⟨_,_,O,O,O⟩⟩,(CJ (is:=[8]) O),?_⟩)))))))
  all_goals exact⟨rfl,rfl⟩
 (try simp only[sd,se] at c5);have hq:=(Ig (E:=ds) (S:=Du) (W:=D6 ds Du n) (n:=n) (h:=(.mk gk gi gn gl gs:Tm)) (a:=a) (s:=c) hu hk1 hk5 c5).symm.trans h6;cases hq;refine A7 (A2 BA 3 [2,0] O (BS (Bj (i:=2) O) (A6 (⟨O,_,_,⟨_,_,O,(BJ (i:=2) Bd O O O),⟨_,_,O,O,O⟩⟩,(CJ (is:=[4]) O),?_⟩))))
 all_goals exact⟨rfl,rfl⟩
end Go.Proofs.YtboammbpdaoojaaGreat
namespace Go.Eu
open Go.Abs
theorem JT {k i:Int}{n:ByteArray}{l:List Cl}{ks:List Tm}(h:okB (.mk k i n l ks)=true):(k=5→ks.length=2)∧(k=11→ks.length=3)∧(k=9∨k=10→ks.length=1)∧(k=8→ks.length=3):=by
 have hw:=(Cd.1 h).wt;simp only[Wt] at hw;have h1:=hw.1;unfold arity at h1;refine⟨fun e=>?_,fun e=>?_,fun e=>?_,fun e=>?_⟩
 ·rw[if_pos Au] at h1;omega
 ·rw[if_neg Au,if_pos Au] at h1;omega
 ·rw[if_neg Au,if_neg Au,if_pos Au] at h1;omega
 rw[if_neg Au,if_pos Au] at h1;omega
theorem W0 {l:List Tm}{v:Tm}(h:l[1]?=some v):(l.take 2).drop 1=[v]:=by
 cases l with
 | nil=>simp at h
 | cons a l =>
  cases l with
  | nil=>simp at h
  | cons b l=>simp at h;subst h;rfl
section
variable {E:List Cc}{σ:Type}{S:Sys σ}{n:Nat}{t:Tm}{s:σ}
theorem Qr {q:Option Tm}(h:q.isSome=false):Yj E S n t (q,s)= .ok (t,s):=by
 cases q with
 | none=>rfl
 | some x=>cases h
theorem Qz {q:Option Tm}(h:q.isSome=true):Yj E S n t (q,s)=D6 E S n s (q.getD Bu):=by
 cases q with
 | none=>cases h
 | some x=>rfl
end
structure mM (w:Tm):Prop where
 ok:okB w=true
 nd:Nd w
 sz:size w<549755813888
 len:(BK w).2.length<549755813888
 head:okB (BK w).1=true
 args:∀x∈(BK w).2,okB x=true
 asz:Bl (BK w).2+(BK w).2.length<size w
theorem V8 {w:Tm}(h:okB w=true):mM w:=by
 have h1:=F8 h;have h2:=HO w;have h3:=size_pos (BK w).1;exact⟨h,(Cd.1 h).nd,h1,by omega,(IE h).1,(IE h).2,by omega⟩
theorem Z9 {l:List Tm}(h:∀x∈l,okB x=true):Lo (l.take 1):=(FR fun v hv=>h v (List.mem_of_mem_take hv)).1
end Go.Eu
namespace Go.Proofs.YtboammbpdaoojaaGreat
open Go.Abs Go.Eu
set_option maxHeartbeats 4000000 in
theorem eC:∀(ds:List Cc) (hE:Ha ds) (n:Nat),r5 ds n:=by
 intro ds hE n
 induction n using Nat.strongRecOn with
 | ind n ih =>
  intro b t c c2 r h1;refine BD Tryz.func14 O p6 (n:=118) O O (A4 (BP O (Bf O) fun b4=>BP O (BF B8 O) fun b6=>Bt O (A1 (BH (Bo (α:=Nat×Tm×Ev) (fun(m,w,d)=>⟨118,mk [(0,.p (.lst (List.map Bw ds))),(2,.ptr b 0),(4,.ptr b4 0),(6,.ptr b6 0)],[.box b6 [.p (I 0),.p (I 0),.p (.str ⟨#[]⟩),.p (.nils),.p (.nils)],.box b4 ((Bg w).map .p),.box b ((I5 d).map .p)],[]⟩) (fun(m,w,d)=>m) (fun(m,w,d)=>D6 ds Du m d w= .ok (r,c2)∧m≤n) ⟨n,t,c⟩ (⟨h1,Nat.le_refl _⟩) ?_ ?_)))))
  ·exact Bk ⟨we O,we O,we O,we O,Aw⟩ (leH (is:=[0,1,2]) O (wl (oe O) (wl (oe O) (wl (oe O) (DN)))))
  rintro⟨m,w,d⟩ hC
  try simp only at hC
  obtain⟨hC,hmn⟩:=hC;obtain⟨k,rfl⟩:=Yd hC Av;have hwo:=XS hC Av;have hsp:=V8 hwo;have hsl:=hsp.len;have hss:=hsp.sz;have hsa:=hsp.asz;refine A1 (A2 BA 5 [2] O (A3 O (fun c1=>?_) (fun c1=>?_)))
  ·(try simp only[sd,se] at c1);have hov:Du.over d=false:=by simpa [Du] using c1
   refine A7 (BH (A4 (Ay O (BI (i:=1) Bd O O Am) (Ay O (BN O O (WN _ w (Nat.le_refl _) Ad) O) (A5 BA 3 [] O (BP O (BF B8 O) fun b7=>Az BA 2 [0,1] O (A4 (Ay O (Ax DV O O) ?_))))))));generalize hz:(BK w).1=z;obtain⟨zk,zi,zn,zl,zs⟩:=z;have hzo:okB (.mk zk zi zn zl zs)=true:=hz▸hsp.head;have hzl:=JT hzo;have hzn:=(Cd.1 hzo).nd;refine Az BA 1 [0] O (BH (A2 BA 2 [] O (A3 O (fun c3=>?_) (fun c3=>?_))))
   ·(try simp only[sd,se] at c3);have hk:=(congrArg Tm.kind hz).trans c3;refine A1 (A4 (B6 O (Ay O (BZ Bq O (Bh _)) (Az BA 1 [] O (A3 O (fun c4=>?_) (fun c4=>?_))))))
    ·(try simp only[sd,se] at c4);have hq:=(OB hwo hov rfl hk Au).symm.trans hC;cases hq;refine A2 BA 2 [2,1,1] O (A6 (⟨O,_,_,⟨_,_,O,(BJ (i:=1) Bd O O Am),O⟩,(CJ (is:=[3]) O),?_⟩))
     all_goals exact⟨rfl,rfl⟩
    (try simp only[sd,se] at c4);refine A7 (A1 (B7 (fun k=>Nat.beq k 10) D7 (A0 O (fun _=>Ax DV O O) Aw (BT (j:=0) O O O (fun H i hi=>BG (i:=i) E9 O hi O) AB Aw ?_))));obtain⟨x,hx⟩:=BE (l:=zs) (i:=1) Au;have hxo:=GJ hzo (i:=1) hx;have hq:=(R2 hwo hov rfl hk Au (by rw[hz];exact hx)).symm.trans hC;obtain⟨hpo,hpe⟩:=LO (h:=(by rw[hq];simp));rw[hpe] at hq;refine A0 O (fun _=>BC Bq O O Au (Bn hx) (BL _)) Aw (A0 O (fun _=>BQ Bd O (BL _)) Aw (A0 O (fun _=>BB O) Aw (A0 O (fun _=>Cp (lo:=0) (hi:=1) Bq O (CT (B9 _)) O ⟨_,O⟩ (Nat.zero_le _) AR (Oo ((BK w).2) 1)) Aw (A0 O (fun _=>BN O O (Q4 x (((BK w).2).take 1) (by have:=F8 hxo;omega) (Cd.1 hxo).nd (Z9 hsp.args) (by have:=D4 (BK w).2 1;omega)) O) Aw (A0 O (fun _=>BB O) Aw (A0 O (fun _=>By O O) Aw (A0 O (fun _=>By O O) Aw (HJ [] O O (BF B8 O) Ap fun b9=>⟨AB,Aw,?_⟩))))))));refine CF O O (Bc (i:=0) Bd O O O Am Aa (C5 _)) AB Aw (A0 O (fun _=>Bb O) Aw (Bv O Ap (B7 (fun k=>false) D7 (A0 O (fun _=>BB O) Aw (BT (j:=0) O O O (fun H i hi=>BI (i:=i) Bd O hi Am) AB Aw (A0 O (fun _=>BB O) Aw (CF O O (CS [4] O (.inl ⟨O,O,O⟩) (IG b (Ev.mk d.steps d.nodes d.forms d.limit d.over) ((Ce x (((BK w).2).take 1) 0).1) ((Ce x (((BK w).2).take 1) 0).2) (Cd.1 hpo).nd) ⟨_,_,O,O,O⟩ As O (.inl O)) AB Aw (A0 O (fun _=>BB O) Aw (A0 O (fun _=>Cp (lo:=1) Bq O (CT (B9 _)) ⟨_,O⟩ O AR (Nat.le_refl _) (Jo ((BK w).2) 1)) Aw (A0 O (fun _=>BN O O (GS ((Ce x (((BK w).2).take 1) 0).1) (((BK w).2).drop 1) AS) O) Aw ?_))))))))));refine CF O O (Bc (i:=3) Bd O O O Am Aa (C5 _)) AB Aw (Bv O Ap ?_);refine⟨⟨k,(apply ((Ce x (((BK w).2).take 1) 0).1) (((BK w).2).drop 1)),((Ev.mk d.steps d.nodes d.forms d.limit d.over).result ((Ce x (((BK w).2).take 1) 0).1) ((Ce x (((BK w).2).take 1) 0).2))⟩,AU,⟨hq,by omega⟩,Bk ⟨we rfl,we rfl,we rfl,we rfl,trivial⟩ (leH (is:=[2,3,4]) rfl (wl (oe rfl) (wl (oe rfl) (wl (oe rfl) (DN)))))⟩
   (try simp only[sd,se] at c3);refine A2 BA 2 [] O (A3 O (fun c4=>?_) (fun c4=>?_))
   ·(try simp only[sd,se] at c4);have hk:=(congrArg Tm.kind hz).trans c4;refine A1 (B7 (fun k=>Nat.beq k 11) D7 (A0 O (fun _=>Ax DV O O) Aw (BT (j:=0) O O O (fun H i hi=>BG (i:=i) E9 O hi O) AB Aw ?_)));obtain⟨x,hx⟩:=BE (l:=zs) (i:=2) Au;have hxo:=GJ hzo (i:=2) hx;obtain⟨v,hv⟩:=BE (l:=zs) (i:=1) Au;have hvo:=GJ hzo (i:=1) hv;have hq:=(Rs hwo hov rfl hk (by rw[hz];exact hv) (by rw[hz];exact hx)).symm.trans hC;rw[←W0 hv] at hq;obtain⟨hpo,hpe⟩:=LO (h:=(by rw[hq];simp));rw[hpe] at hq;refine A0 O (fun _=>BC Bq O O Au (Bn hx) (BL _)) Aw (A0 O (fun _=>BQ Bd O (BL _)) Aw (A0 O (fun _=>Ax DV O O) Aw (BT (j:=0) O O O (fun H i hi=>BG (i:=i) E9 O hi O) AB Aw (A0 O (fun _=>Cp (lo:=1) (hi:=2) Bq O (CT (B9 _)) ⟨_,O⟩ ⟨_,O⟩ (by first | decide | (simp only[Bh];omega)) (by first | decide | (simp only[Bh];omega)) (kv zs 1 2)) Aw (A0 O (fun _=>BN O O (Q4 x ((zs.take 2).drop 1) (by have:=F8 hxo;omega) (Cd.1 hxo).nd (by rw[W0 hv];exact⟨(Cd.1 hvo).nd,trivial⟩) (by rw[W0 hv];have:=F8 hvo;simp only[Bl];omega)) O) Aw (A0 O (fun _=>BB O) Aw (A0 O (fun _=>By O O) Aw (A0 O (fun _=>By O O) Aw ?_))))))));refine HJ [] O O (BF B8 O) Ap fun b11=>⟨AB,Aw,?_⟩;refine CF O O (Bc (i:=0) Bd O O O Am Aa (C5 _)) AB Aw (A0 O (fun _=>Bb O) Aw (Bv O Ap (A8 (A5 BA 3 [0] O (Ay O (CS [4] O (.inl ⟨O,O,O⟩) (IG b (Ev.mk d.steps d.nodes d.forms d.limit d.over) ((Ce x ((zs.take 2).drop 1) 0).1) ((Ce x ((zs.take 2).drop 1) 0).2) (Cd.1 hpo).nd) ⟨_,_,O,O,O⟩ As O (.inl O)) (B6 O (Ay O (BN O O (GS ((Ce x ((zs.take 2).drop 1) 0).1) ((BK w).2) AS) O) (Az BA 1 [3,1] O ?_))))))));refine⟨⟨k,(apply ((Ce x ((zs.take 2).drop 1) 0).1) ((BK w).2)),((Ev.mk d.steps d.nodes d.forms d.limit d.over).result ((Ce x ((zs.take 2).drop 1) 0).1) ((Ce x ((zs.take 2).drop 1) 0).2))⟩,AU,⟨hq,by omega⟩,Bk ⟨we rfl,we rfl,we rfl,we rfl,trivial⟩ (leH (is:=[2,3,4]) rfl (wl (oe rfl) (wl (oe rfl) (wl (oe rfl) (DN)))))⟩
   (try simp only[sd,se] at c4);refine A1 (A2 BA 2 [] O (Bi [0,2,4,6,7,8,27] 71 (fun y=>y= .p (.bool (decide (zk=9∨zk=10)))) ?_ ?_))
   ·refine A3 O (fun c5=>?_) (fun c5=>?_)
    ·(try simp only[sd,se] at c5);exact A7 (⟨O,O,(List.Sublist.refl _),(by refine pB (Bool.eq_iff_iff.2 ?_);simp only[beq_iff_eq,decide_eq_true_eq];omega),⟨O,O,O,O,O,O,O,Aw⟩⟩)
    (try simp only[sd,se] at c5);exact A8 (Az BA 2 [] O (⟨O,O,(List.Sublist.refl _),(by refine pB (Bool.eq_iff_iff.2 ?_);simp only[beq_iff_eq,decide_eq_true_eq];omega),⟨O,O,O,O,O,O,O,Aw⟩⟩))
   rintro _ rfl;refine A3 O (fun c5=>?_) (fun c5=>?_)
   ·(try simp only[sd,se] at c5);have hk9:zk=9∨zk=10:=by simpa using c5
    refine A4 (A5 BA 3 [0] O ?_);obtain⟨x,hx⟩:=BE (l:=zs) (i:=0) Au;obtain⟨⟨pr,d2⟩,hr1,hr2,hr3⟩:=J8 ((Of hwo hov rfl (by rw[hz];exact hk9) (by rw[hz];exact hx)).symm.trans hC);refine Ay O (BC Bq O O Au (Bn hx) (BL _)) (A5 BA 2 [] O (Ay O (CS [3] O (.inl ⟨O,O,O⟩) (ih k Au b x (Ev.mk d.steps d.nodes d.forms d.limit d.over) d2 pr hr1) ⟨_,_,O,O,O⟩ As O (.inl O)) (BP O (BF B8 O) fun b13=>Az BA 1 [0,1] O (A1 (A4 (Ay O (Ax DV O O) ?_))))));obtain⟨prk,pri,prn,prl,prs⟩:=pr;have hprl:=JT hr2;refine Az BA 2 [0] O (A3 O (fun c6=>?_) (fun c6=>?_))
    ·(try simp only[sd,se] at c6);rw[Lu (r:=(Tm.mk prk pri prn prl prs,d2)) c6] at hr3;cases hr3;refine A4 (A5 BA 3 [1,0] O (Ay O (B0 Bq B8 O O O O O) (A5 BA 2 [] O (Ay O (G6 O O (GS (.mk zk 0 ⟨#[]⟩ [] [(.mk prk pri prn prl prs:Tm)]:Tm) ((BK w).2) AS) (aw (D9 O) (aw (we O) (FH)))) (Az BA 1 [2,1] O (A6 (⟨O,_,_,⟨_,_,O,(BJ (i:=2) Bd O O Am),O⟩,(CJ (is:=[4]) O),?_⟩)))))))
     all_goals exact⟨by show (.agg ((Bg (apply (.mk zk 0 ⟨#[]⟩ [] [(.mk prk pri prn prl prs:Tm)]:Tm) ((BK w).2))).map .p):AV)=_;rw[hz];rfl,rfl⟩
    (try simp only[sd,se] at c6);have hp8:=c6;refine A7 (A8 (A5 BA 7 [0,1] O ?_));obtain⟨x1,hx1⟩:=BE (l:=prs) (i:=(((1:Int)+(zk:Int):Int) - (9:Int):Int).toNat) Au;have hxo:=GJ hr2 (i:=(1+zk - 9).toNat) hx1;have hq:=(OL (r:=(Tm.mk prk pri prn prl prs,d2)) (h:=(BK w).1) hp8 (by rw[hz];exact hx1)).symm.trans hr3;obtain⟨hpo,hpe⟩:=LO (h:=(by rw[hq];simp));rw[hpe] at hq;refine Ay O (BC Bq O O Au (Bn hx1) (BL _)) (Ay O (BQ Bd O (BL _)) (Ay O (CS [4] O (.inl ⟨O,O,O⟩) (IG b d2 x1 0 (Cd.1 hpo).nd) ⟨_,_,O,O,O⟩ As O (.inl O)) (B6 O (Ay O (BN O O (GS x1 ((BK w).2) AS) O) (Az BA 1 [3,1] O ?_)))));refine⟨⟨k,(apply x1 ((BK w).2)),(d2.result x1 0)⟩,AU,⟨hq,by omega⟩,Bk ⟨we rfl,we rfl,we rfl,we rfl,trivial⟩ (leH (is:=[2,3,4]) rfl (wl (oe rfl) (wl (oe rfl) (wl (oe rfl) (DN)))))⟩
   (try simp only[sd,se] at c5);refine A2 BA 2 [] O (A3 O (fun c6=>?_) (fun c6=>?_))
   ·(try simp only[sd,se] at c6);have hk:=(congrArg Tm.kind hz).trans c6;refine A4 (A5 BA 4 [0] O ?_);obtain⟨⟨q,d2⟩,hc1,hc2⟩:=LG ((KV hwo hov rfl hk).symm.trans hC);refine Ay O (CS [3] O (.inl ⟨O,O,O⟩) (Zb k ds (.mk zk zi zn zl zs:Tm) ((BK w).2) b (Ev.mk d.steps d.nodes d.forms d.limit d.over) d2 q (ih k Au) hE hzo hsp.args Au (by rw[←hz];exact hc1)) ⟨_,_,O,O,O⟩ As O (.inl O)) (A5 BA 3 [] O (BP O (BF B8 O) fun b14=>Az BA 2 [0,1] O (A1 (A2 BA 2 [] O (A3 O (fun c7=>?_) (fun c7=>?_))))))
    ·(try simp only[sd,se] at c7);rw[Qr (by simpa using c7)] at hc2;cases hc2;refine A2 BA 2 [3,2,1] O (A6 (⟨O,_,_,⟨_,_,O,(BJ (i:=2) Bd O O Am),O⟩,(CJ (is:=[4]) O),?_⟩))
     all_goals exact⟨rfl,rfl⟩
    (try simp only[sd,se] at c7);rw[Qz (by simpa using c7)] at hc2;have hq:=hc2;refine A7 (A8 (Az BA 2 [0,3,1] O ?_));refine⟨⟨k,(q.getD Bu),d2⟩,AU,⟨hq,by omega⟩,Bk ⟨we rfl,we rfl,we rfl,we rfl,trivial⟩ (leH (is:=[2,3,4]) rfl (wl (oe rfl) (wl (oe rfl) (wl (oe rfl) (DN)))))⟩
   (try simp only[sd,se] at c6);have hq:=(Vw hwo hov rfl (by rw[hz];assumption) (by rw[hz];assumption) (by rw[hz];show ¬zk=9;omega) (by rw[hz];show ¬zk=10;omega) (by rw[hz];assumption)).symm.trans hC;cases hq;refine A2 BA 2 [2,1,1] O (A6 (⟨O,_,_,⟨_,_,O,(BJ (i:=1) Bd O O Am),O⟩,(CJ (is:=[3]) O),?_⟩))
   all_goals exact⟨rfl,rfl⟩
  (try simp only[sd,se] at c1);have hq:=(YK (S:=Du) (E:=ds) (n:=k) hwo (by simpa [Du] using c1)).symm.trans hC;cases hq;refine Br (A2 BA 2 [1,0,1] O (A6 (⟨O,_,_,⟨_,_,O,(BJ (i:=0) Bd O O Am),O⟩,(CJ (is:=[2]) O),?_⟩)))
  all_goals exact⟨rfl,rfl⟩
end Go.Proofs.YtboammbpdaoojaaGreat
namespace Go.Eu
open Go.Abs
section
variable {E:List Cc}{σ:Type}{S:Sys σ}{R:σ→σ→Prop}
structure et (S:Sys σ) (R:σ→σ→Prop):Prop where
 rf:∀s,R s s
 tr:∀{a b c},R a b→R b c→R a c
 rs:∀{s t e s'},S.res s t e=some s'→R s s'
variable (h:et S R)
include h
theorem Kw {α:Type}{s:σ}{x:Tm×Int}{k:Tm→σ→Out (α×σ)}{q:α×σ}(hk:∀t s' q,k t s'= .ok q→R s' q.2) (hq:S.put s x k= .ok q):R s q.2:=by
 unfold Sys.put at hq;split at hq
 ·cases hs:S.res s x.1 x.2 with
  | none=>rw[hs] at hq;cases hq
  | some s'=>rw[hs] at hq;exact h.tr (h.rs hs) (hk _ _ _ hq)
 cases hq
theorem OF {W:σ→Tm→Out (Tm×σ)}(hW:∀s t q,W s t= .ok q→R s q.2):∀(k:Nat) (t:Fl) (vs:List Tm) (l:Tm) (s:σ) (q:(Option (Tm×List Tm)×Tm)×σ),EE E S W k t vs l s= .ok q→R s q.2
 | 0,t,vs,l,s,q,hq=>by rw[EE] at hq;cases hq
 | k+1,t,vs,l,s,q,hq=>by
  by_cases hk:t.kind=1
  ·by_cases hb:t.var<0∨t.var≥(vs.length:Int)∨S.over s=true
   ·rw[JM hk hb] at hq;cases hq;exact h.rf _
   have hlt:t.var.toNat<vs.length:=by omega
   rw[K2 hk hb (List.getElem?_eq_getElem hlt)] at hq;obtain⟨r,h1,h2,h3⟩:=J8 hq;have hr:=hW _ _ _ h1;cases hc:DW E r.1 with
   | none=>rw[GQ hc] at h3;cases h3;exact hr
   | some p =>
    obtain⟨d,j,f⟩:=p;cases hbr:C8 (FD d j).name t.branches with
    | none=>rw[Ic hc hbr] at h3;cases h3;exact hr
    | some t'=>rw[IY hc hbr] at h3;exact h.tr hr (OF hW k t' _ _ _ _ h3)
  rw[H6 hk] at hq;cases hq;exact h.rf _
theorem WC {d:Cc}{g m:Tm}{a:List Tm}{s:σ}{q:Option Tm×σ}(hq:FQ E S d g a m s= .ok q):R s q.2:=by
 unfold FQ at hq;split at hq
 ·cases hq;exact h.rf _
 split at hq
 ·cases hq;exact h.rf _
 split at hq
 ·cases hq;exact h.rf _
 exact Kw h (fun t s' q e=>by cases e;exact h.rf _) hq
theorem di {g b:Tm}{vs rest:List Tm}{s:σ}{q:Option Tm×σ}(hq:HR S g b vs rest s= .ok q):R s q.2:=by
 unfold HR at hq;split at hq
 ·cases hq;exact h.rf _
 split at hq
 ·cases hq
 exact Kw h (fun t s' q e=>by cases e;exact h.rf _) hq
theorem aK {d:Cc}{g:Tm}{a:List Tm}{s:σ}{q:Option Tm×σ}(hq:FF S d g a s= .ok q):R s q.2:=by
 unfold FF at hq;split at hq
 ·cases hq;exact h.rf _
 exact Kw h (fun t s' q e=>by cases e;exact h.rf _) hq
theorem TK {W:σ→Tm→Out (Tm×σ)}(hW:∀s t q,W s t= .ok q→R s q.2) {n:Nat}{g:Tm}{a:List Tm}{s:σ}{q:Option Tm×σ}(hq:Eo E S W n g a s= .ok q):R s q.2:=by
 unfold Eo at hq;split at hq
 ·cases hq;exact h.rf _
 split at hq
 ·exact aK h hq
 split at hq
 ·unfold RA at hq;split at hq
  ·cases hq;exact h.rf _
  obtain⟨r,h1,h2,h3⟩:=J8 hq;exact h.tr (hW _ _ _ h1) (WC h h3)
 split at hq
 ·unfold JP at hq;split at hq
  ·cases hq;exact h.rf _
  obtain⟨r,h1,h2⟩:=LG hq;have hr:=OF h hW _ _ _ _ _ _ h1;split at h2
  ·cases h2;exact hr
  split at h2
  ·cases h2;exact hr
  exact h.tr hr (di h h2)
 cases hq;exact h.rf _
theorem RC:∀(n:Nat) (s:σ) (t:Tm) (q:Tm×σ),D6 E S n s t= .ok q→R s q.2
 | 0,s,t,q,hq=>by rw[D6] at hq;cases hq
 | n+1,s,t,q,hq=>by
  have ih:=RC n;rw[D6] at hq;split at hq
  ·cases hq
  split at hq
  ·cases hq;exact h.rf _
  split at hq
  ·cases hq
  split at hq
  ·split at hq
   ·cases hq;exact h.rf _
   unfold Oq at hq;split at hq
   ·cases hq
   exact Kw h (fun t s' q e=>ih _ _ _ e) hq
  split at hq
  ·unfold Un at hq;split at hq
   ·exact Kw h (fun t s' q e=>ih _ _ _ e) hq
   cases hq
  split at hq
  ·split at hq
   ·cases hq
   obtain⟨r,h1,h2,h3⟩:=J8 hq;have hr:=ih _ _ _ h1;split at h3
   ·cases h3;exact hr
   unfold Mx at h3;split at h3
   ·cases h3
   exact h.tr hr (Kw h (fun t s' q e=>ih _ _ _ e) h3)
  split at hq
  ·obtain⟨r,h1,h2⟩:=LG hq;have hr:=TK h ih h1;split at h2
   ·cases h2;exact hr
   exact h.tr hr (ih _ _ _ h2)
  cases hq;exact h.rf _
end
theorem KT:et CI (fun a b=>b≤a∧(0≤a→0≤b)):=by
 refine⟨fun s=>⟨Int.le_refl _,fun h=>h⟩,fun h1 h2=>⟨by omega,fun h=>h2.2 (h1.2 h)⟩,fun h=>?_⟩;simp only[CI] at h;split at h
 ·cases h
 cases h;omega
theorem QY {E:List Cc}{n:Nat}{s s':Int}{t r:Tm}(h:HF s) (hq:D6 E CI n s t= .ok (r,s')):HF s':=by
 have h1:=RC KT n s t _ hq;have h2:=h.1;have h3:=h.2;exact⟨h1.2 h2,by have:=h1.1;simp only at this;omega⟩
def ME (n:Int):Except Int Unit:=if n - 1<0 then .error 0 else .ok ()
def JW (n:Int) (x:Tm×Int):Except Int (Tm×Int):=if n - 1<0∨x.2≠0 then .error 0 else .ok (x.1,n - 1)
theorem pW {n:Int}(h:0≤n - 1):ME n= .ok ():=by rw[ME,if_neg Au]
theorem nZ {n:Int}(h:n - 1<0):ME n= .error 0:=by rw[ME,if_pos h]
end Go.Eu
namespace Go.Eu
theorem WM {t:Tm}{vs:List Tm}(ht:okB t=true) (hv:∀v∈vs,okB v=true) (hl:vs.length<549755813888):GI t vs 0=Ce t vs 0 :=
 bB (Y0 hv hl) (Cd.1 ht).wt (Cd.1 ht).vp (by have:=F8 ht;omega)
theorem fH {n e:Int}{x:Tm×Int}(h:ME n= .error e):JW n x= .error e:=by
 unfold ME at h;split at h
 ·rename_i hn;cases h;rw[JW,if_pos (.inl hn)]
 cases h
theorem mq {n:Int}{t:Tm}{vs:List Tm}(hn:0≤n) (ht:okB t=true) (hv:∀v∈vs,okB v=true) (hl:vs.length<549755813888) (he:(GI t vs 0).2≠0):JW n (Ce t vs 0)= .error 0:=by
 rw[WM ht hv hl] at he;rw[JW,if_pos (.inr he)]
theorem ny {n:Int}{t:Tm}{vs:List Tm}{u:Unit}(hn:ME n= .ok u) (ht:okB t=true) (hv:∀v∈vs,okB v=true) (hl:vs.length<549755813888) (he:(GI t vs 0).2=0):JW n (Ce t vs 0)= .ok ((GI t vs 0).1,n - 1):=by
 rw[WM ht hv hl] at he ⊢;unfold ME at hn;split at hn
 ·cases hn
 rw[JW,if_neg Au]
end Go.Eu
namespace Go.Eu
open Go.Abs
section
variable {α:Type}{n n2 e:Int}{x:Tm×Int}{z t:Tm}{k:Tm→Int→Out α}{u:Unit}
theorem Kz (hs:CI.put n x k≠ .stuck) (h:JW n x= .ok (z,n2)):CI.put n x k=k z n2:=by
 rw[(YN hs).2];unfold JW at h;split at h
 ·cases h
 rename_i hn;cases h;rw[if_neg hn]
theorem LF (hs:CI.put n x k≠ .stuck) (h:JW n x= .error e):(CI.put n x k).ex= .error e:=by
 rw[(YN hs).2];unfold JW at h;split at h
 ·rename_i hn;cases h;rw[if_pos hn];rfl
 cases h
theorem mU (h:ME n= .ok u):JW n (t,0)= .ok (t,n - 1):=by
 unfold ME at h;split at h
 ·cases h
 rw[JW,if_neg Au]
theorem bO (hs:CI.put n (t,0) k≠ .stuck) (h:ME n= .ok u):CI.put n (t,0) k=k t (n - 1):=Kz hs (mU h)
theorem eQ (hs:CI.put n (t,0) k≠ .stuck) (h:ME n= .error e):(CI.put n (t,0) k).ex= .error e:=LF hs (fH h)
end
theorem Qs {n n2:Int}{x:Tm×Int}{z:Tm}(h:HF n) (hp:JW n x= .ok (z,n2)):HF n2∧z=x.1:=by
 have h1:=h.1;have h2:=h.2;unfold JW at hp;split at hp
 ·cases hp
 cases hp;exact⟨⟨by omega,by omega⟩,rfl⟩
section
variable {E:List Cc}{g m:Tm}{a:List Tm}{s e:Int}{d:Cc}{u:Unit}
theorem eL (hs:FF CI d g a s≠ .stuck) (he:(B1 d.value g.levels).2=0) (hn:ME s= .ok u):FF CI d g a s= .ok (some (apply (B1 d.value g.levels).1 a),s - 1):=by
 rw[Ki he] at hs ⊢;exact bO hs hn
theorem dA (hs:FF CI d g a s≠ .stuck) (he:(B1 d.value g.levels).2=0) (hn:ME s= .error e):(FF CI d g a s).ex= .error e:=by
 rw[Ki he] at hs ⊢;exact eQ hs hn
theorem iT {c:Cc}{j:Int}{f:List Tm}{r:Tm}(hs:FQ E CI d g a m s≠ .stuck) (hc:DW E m=some (c,j,f)) (hn:¬(c.name≠d.name∨j≥(d.recs.rules.length:Int))) (hr:d.recs.rules[j.toNat]?=some r) (he:(B1 r g.levels).2=0) (hk:ME s= .ok u) :
  FQ E CI d g a m s= .ok (some (apply (apply (apply (B1 r g.levels).1 (a.take (d.fixed+1+d.ctors.length).toNat)) f) (a.drop (Cj d+1).toNat)),s - 1):=by
 rw[MO hc hn hr he] at hs ⊢;exact bO hs hk
theorem gm {c:Cc}{j:Int}{f:List Tm}{r:Tm}(hs:FQ E CI d g a m s≠ .stuck) (hc:DW E m=some (c,j,f)) (hn:¬(c.name≠d.name∨j≥(d.recs.rules.length:Int))) (hr:d.recs.rules[j.toNat]?=some r) (he:(B1 r g.levels).2=0) (hk:ME s= .error e) :
  (FQ E CI d g a m s).ex= .error e:=by
 rw[MO hc hn hr he] at hs ⊢;exact eQ hs hk
end
theorem Ss {E:List Cc}{n k:Nat}{s s':Int}{t:Fl}{vs:List Tm}{l:Tm}{q:Option (Tm×List Tm)×Tm}(h:HF s) (hq:EE E CI (D6 E CI n) k t vs l s= .ok (q,s')):HF s':=by
 have h1:=OF KT (fun s t q=>RC KT n s t q) k t vs l s _ hq;have h2:=h.1;have h3:=h.2;exact⟨h1.2 h2,by have:=h1.1;simp only at this;omega⟩
theorem W9 {E:List Cc}{n:Nat}{s s':Int}{g:Tm}{a:List Tm}{q:Option Tm}(h:HF s) (hq:Eo E CI (D6 E CI n) n g a s= .ok (q,s')):HF s':=by
 have h1:=TK KT (fun s t q=>RC KT n s t q) hq;have h2:=h.1;have h3:=h.2;exact⟨h1.2 h2,by have:=h1.1;simp only at this;omega⟩
end Go.Eu
namespace Go.Eu
theorem jx {l:List Tm}{x:Tm}(h:l[0]?=some x):l.take 1=[x]:=by
 cases l with
 | nil=>simp at h
 | cons a l=>simp at h;subst h;rfl
theorem ok_one {x:Tm}(h:okB x=true):∀v∈[x],okB v=true:=fun v hv=>by rw[List.mem_singleton.1 hv];exact h
theorem Jn {x:Tm}:[x].length<549755813888:=by simp
end Go.Eu
namespace Go.Proofs.YtboammbpdaoojaaGreat
open Go.Abs Go.Eu
theorem YS:∀(fid:Nat) (caps:List AV),B4 Tryz.prog 159 [.fn (.func fid) [] caps] [] (eZ (fun b=> .agg [.fn (.func 176) [] [.ptr b 0]]) [.fn (.func fid) [] caps]):=by
 intro fid caps;refine BD Tryz.func159 O nJ (n:=5) O O (A4 (BP O (Bf O) fun b1=>BP O (BF pJ O) fun b2=>Bt O (A2 BA 3 [0,0] O (A6 (⟨O,_,_,⟨_,_,O,(BJ (i:=0) j5 O O O),O⟩,(CJ (is:=[1]) O),?_⟩)))));exact⟨_,O,O⟩
theorem Wi:∀(rep:Tm→Int→Except Int Tm) (fid:Nat) (caps:List AV) (T:List BU) (hr:∀(t:Tm) (d:Int),Nd t→Vp t→t.kind=0→0≤d→d<Dt→B4 Tryz.prog fid ([TV t,.p (I d)]++caps) T (LK (fun(r:Tm)=>TV r) (fun e=> .p (.iface 223 (I e))) (fun r H'=>H'=T) (rep t d))) (bR:Nat) (s:Unit) (t:Tm) (d:Int),Nd t→Vp t→0≤d→d<Dt→B4 Tryz.prog 176 [TV t,.p (I d),.ptr bR 0] (.box bR [.fn (.func fid) [] caps]::T) (LK (fun(r:(Tm×Bool)×Unit)=> .tup [TV r.1.1,.p (.bool r.1.2)]) (fun e=> .p (.iface 223 (I e))) (fun r H'=>H'= .box bR [.fn (.func fid) [] caps]::T) (KK rep s t d)):=by
 intro rep fid caps T hr bR s t d h1 h2 h3 h4;refine BD Tryz.func176 O oH (n:=16) O O (A4 (BP O (Bf O) fun b3=>BP O (BF B8 O) fun b5=>Az BA 1 [] O (A1 (A4 (Ay O (Ax DV O O) ?_)))));obtain⟨tk,ti,tn,tl,ts⟩:=t;refine Az BA 2 [1] O (A3 O (fun c=>?_) (fun c=>?_))
 ·(try simp only[sd,se] at c);refine A4 (A5 BA 3 [2,1] O (jg [_,_,_] O O O (.inr O) (hr (.mk tk ti tn tl ts) d h1 h2 c h3 h4) (Dm _) ?_ ?_))
  rotate_left
  ·intro e _ he;exact⟨O,_,List.nil_sublist _,⟨_,ON c he,O⟩⟩
  rintro z _ hz rfl;refine Az BA 2 [0,1] O (A6 (⟨O,_,_,⟨_,_,O,(BJ (i:=0) Bd O O Am),⟨_,_,O,O,O⟩⟩,(Gz [2] [_,_,_] O),?_⟩));exact⟨⟨⟨z,true⟩,()⟩,MU c hz,O,O⟩
 (try simp only[sd,se] at c);refine A7 (A4 (Ay O (BI (i:=1) Bd O O O) (Ay O (BN O O (Qy (.mk tk ti tn tl ts:Tm) h1) O) (Az BA 2 [0,1] O (A6 (⟨O,_,_,⟨_,_,O,(BJ (i:=0) Bd O O Am),⟨_,_,O,O,O⟩⟩,(Gz [2] [_,_,_] O),?_⟩))))));exact⟨⟨⟨.mk tk ti tn tl [],false⟩,()⟩,OR c,O,O⟩
theorem aj:∀(t:Tm) (d:Int) (bf bb:Nat) (fr b:Int),(Nd t)→(Vp t)→(t.kind=0)→(0≤d)→(d<Dt)→(-4611686018427387904≤b∧b≤4611686018427387904)→(-2305843009213693952≤fr∧fr≤2305843009213693952)→B4 Tryz.prog 177 [.agg ((Bg t).map .p),.p (I d),.ptr bf 0,.ptr bb 0] [.box bf [.p (I fr)],.box bb [.p (I b)]] (LK (fun(r:Tm)=>TV r) (fun e=> .p (.iface 223 (I e))) (fun r H'=>H'=[.box bf [.p (I fr)],.box bb [.p (I b)]]) (ZP b fr t d)):=by
 intro t d bf bb fr b h1 h2 h3 h4 h5 h6 h7;obtain⟨tk,ti,tn,tl,ts⟩:=t;have hi:=h2.1 h3;simp only[Dt] at h5;refine BD Tryz.func177 O mv (n:=32) O O (A4 (BP O (Bf O) fun b4=>BP O (BF B8 O) fun b6=>Bt O (A2 BA 5 [1] O (A1 (A2 BA 3 [2] O (A3 O (fun c=>?_) (fun c=>?_)))))))
 ·(try simp only[sd,se] at c);refine A4 (Ay O (BI (i:=1) Bd O O O) (Ay O (BN O O (Qy (.mk tk ti tn tl ts:Tm) h1) O) (Az BA 1 [0,1] O (A6 (⟨O,_,_,⟨_,_,O,(BJ (i:=0) Bd O O Am),O⟩,(CJ (is:=[2,3]) O),?_⟩)))));exact⟨(.mk tk ti tn tl []),YZ c,O,O⟩
 (try simp only[sd,se] at c);refine A7 (A1 (A1 (Bi [3,4,6] 25 (fun y=>y= .p (.bool ((decide ((b:Int)<(0:Int)))&&(decide (((ti:Int) - (d:Int):Int)<((fr:Int) - (b:Int):Int)))))) ?_ ?_)))
 ·refine A8 (A5 BA 3 [3] O (Ba 19 O (fun g=>?_) (fun g=>?_)))
  ·(try simp only[sd,se] at g);exact Az BA 6 [2,3] O (⟨O,O,AM,AJ,⟨O,O,O,Aw⟩⟩)
  (try simp only[sd,se] at g);exact Az BA 6 [] O (⟨O,O,AM,AJ,⟨O,O,O,Aw⟩⟩)
 rintro _ rfl;refine A3 O (fun c1=>?_) (fun c1=>?_)
 ·(try simp only[sd,se] at c1);exact A8 (OX O O O (.inl ⟨O,O,O⟩) (QL 24) (aw (we O) (FH)) (⟨O,_,List.nil_sublist _,⟨_,gB Au Au Au,O⟩⟩))
 (try simp only[sd,se] at c1);refine A7 (A4 (A5 BA 4 [1,3] O (D8 [] O O O (.inl ⟨O,O,O⟩) (WK ((ti:Int)+(b:Int))) O As (aw (we O) (FH)) (fun _ _ h=>(congrArg List.length h).trans O) ?_ ?_)))
 rotate_left
 ·intro e _ he;exact⟨O,_,List.nil_sublist _,⟨_,by rw[Xu Au Au,he],rfl⟩⟩
 rintro z _ hz rfl;refine Az BA 1 [0,1] O (A6 (⟨O,_,_,⟨_,_,O,(BJ (i:=0) Bd O O Am),O⟩,(CJ (is:=[2,3]) O),?_⟩));exact⟨z,by rw[Xu Au Au,hz],rfl,rfl⟩
theorem _root_.Go.AO {α:Prop}(h:α:=by repeat' first | exact trivial | rfl | refine And.intro ?_ ?_):α:=h
theorem XV:∀(t:Tm) (b fr:Int),(Nd t)→(Vp t)→(size t<Dt)→(-4611686018427387904≤b∧b≤4611686018427387904)→(-2305843009213693952≤fr∧fr≤2305843009213693952)→B4 Tryz.prog 161 [.agg ((Bg t).map .p),.p (I b),.p (I fr)] [] (LK (fun(r:Tm)=>TV r) (fun e=> .p (.iface 223 (I e))) (fun r H'=>H'=[]) (LD b fr t)):=by
 intro t b fr h1 h2 h3 h4 h5;refine BD Tryz.func161 O oT (n:=11) O O (A4 (BP O (Bf O) fun b3=>BP O (Bf O) fun b4=>BP O (Bf O) fun b5=>BP O (BF B8 O) fun b6=>Bt O (A1 (B7 (fun k=>Nat.beq k 1||Nat.beq k 3) D7 (A0 O (fun _=>E0 O O) Aw (ZF [(2,.read [.box b3 ((Bg t).map .p)] (.agg ((Bg t).map .p)))] O O O (.inl ⟨O,O,O⟩) (YS 177 [.ptr b5 0,.ptr b4 0]) (.inl O) Ap fun bn=>⟨AB,Aw,?_⟩))))));refine BT (j:=4) O O O (fun H i hi=>BI (i:=i) Bd O hi Am) AB AO ?_;refine PC [0,2,3] O O O (.inl ⟨O,O,O⟩) (N7 (KK (ZP b fr)) (fun _ T=>T=[.box bn [.fn (.func 177) [] [.ptr b5 0,.ptr b4 0]],.box b5 [.p (I fr)],.box b4 [.p (I b)]]) 176 [.ptr bn 0] (fun s t d T hn hp h0 hb hT=>by subst hT;exact Wi (ZP b fr) 177 [.ptr b5 0,.ptr b4 0] _ (fun t d g1 g2 g3 g4 g5=>aj t d b5 b4 fr b g1 g2 g3 g4 g5 h4 h5) bn s t d hn hp h0 hb) _ t 0 () _ (Nat.le_refl _) h1 h2 Au Au rfl) ⟨_,_,rfl,rfl,⟨_,_,rfl,rfl,⟨_,_,rfl,rfl,rfl⟩⟩⟩ As (Dm _) (fun _ _ h=>(congrArg List.length h).trans rfl) Ap Ap rfl AB ?_ ?_
 rotate_left
 ·intro e he _ _ hτ;exact⟨O,_,List.nil_sublist _,⟨_,O9 he,O⟩⟩
 rintro⟨z,_⟩ _ hz rfl;refine⟨AB,AO,?_⟩;refine CF O O (Bc (i:=1) Bd O O O Am Aa (C5 _)) AB AO (Bv O Ap (A6 (⟨O,_,_,⟨_,_,O,(BJ (i:=1) Bd O O Am),O⟩,(List.nil_sublist _),?_⟩)));exact⟨z,RE hz,O,O⟩
theorem Ty:∀(bo be:Nat) (co ce:List AV),E8 Tryz.prog 153 [.ptr bo 0,.ptr be 0] (.ret) [.box bo co,.box be ce] (fun H'=>H'=[.box bo co,.box be ce]):=by
 intro bo be co ce;refine H7 (ty2:=0) Tryz.func153 O j3 (n:=9) O O O O O O (A4 (B6 O (Ay O (HU aM O O O) (Bt O ?_))));refine A3 O (fun c=>by cases c) (fun c=>?_);exact A7 ⟨.inl O,O,_,(CJ (is:=[0,1]) O),O⟩
theorem TQ:∀(bo be:Nat) (e:Int),E8 Tryz.prog 153 [.ptr bo 0,.ptr be 0] (.pan (.p (.iface 223 (I e)))) [.box bo [.p (I 0),.p (I 0),.p (.str ⟨#[]⟩),.p (.nils),.p (.nils)],.box be [.p (I 0)]] (fun H'=>H'=[.box bo [.p (I 0),.p (I 0),.p (.str ⟨#[]⟩),.p (.lst []),.p (.lst [])],.box be [.p (I e)]]):=by
 intro bo be e;refine H7 (ty2:=0) Tryz.func153 O j3 (n:=9) O O O O O O (A4 (B6 O (Ay O (HU aM O O O) (CH (Bj (i:=0) O) (Bt O ?_)))));refine A3 O (fun c=>?_) (fun c=>by cases c);exact A8 (A5 BA 2 [] O (Ay O (BN O O (S1 _) O) (A5 BA 2 [0,0,1,0] O (CH (Bj (i:=0) O) (Bt O ⟨.inl O,O,_,(CJ (is:=[0,1]) O),O⟩)))))
theorem S8:∀(t:Tm) (d:Int) (bd bv:Nat) (dp:Int) (vs:List Tm),B4 Tryz.prog 155 [.agg ((Bg t).map .p),.p (I d),.ptr bd 0,.ptr bv 0] [.box bd [.p (I dp)],.box bv [.p (.lst (BO vs))]] (Gx (.p (I (JU vs dp t.index d))) [.box bd [.p (I dp)],.box bv [.p (.lst (BO vs))]]):=by
 intro t d bd bv dp vs;obtain⟨tk,ti,tn,tl,ts⟩:=t;refine BD Tryz.func155 O pM (n:=23) O O (A4 (BP O (Bf O) fun b4=>Az BA 1 [] O (A1 (A4 (A5 BA 3 [0] O (Ay O (Ja O O) (Ay O (BG (i:=1) C0 O O O) (Ay O (Ja O O) (Az BA 1 [] O (A1 (Bi [7] 21 (fun y=>y= .p (.bool ((decide ((wr ((wr ((ti:Int) - (d:Int)):Int) - (dp:Int)):Int)≥(0:Int)))&&(decide ((wr ((wr ((ti:Int) - (d:Int)):Int) - (dp:Int)):Int)<((vs.length:Nat):Int)))))) ?_ ?_)))))))))))
 ·refine A8 (A5 BA 3 [] O (Ba 16 O (fun g=>?_) (fun g=>?_)))
  ·(try simp only[sd,se] at g);exact A5 BA 2 [2] O (BM O (BZ Bq O (Bh _)) (Az BA 2 [] O (⟨O,O,AM,AJ,⟨O,Aw⟩⟩)))
  (try simp only[sd,se] at g);exact Az BA 5 [] O (⟨O,O,AM,AJ,⟨O,Aw⟩⟩)
 rintro _ rfl;refine A3 O (fun c=>?_) (fun c=>?_)
 ·(try simp only[sd,se] at c);refine A2 BA 2 [] O (A6 (⟨O,_,_,⟨_,_,O,O,O⟩,(CJ (is:=[1,2]) O),?_⟩))
  all_goals exact⟨pI (bX Au Au).symm,rfl⟩
 (try simp only[sd,se] at c);refine A7 (A2 BA 1 [] O (A6 (⟨O,_,_,⟨_,_,O,O,O⟩,(CJ (is:=[1,2]) O),?_⟩)))
 all_goals exact⟨pI (iW (ti:=ti) Au).symm,rfl⟩
theorem bJ:∀(t:Tm) (d:Int) (bv bc bs bd bvs cb:Nat) (dp n:Int) (vs:List Tm) (sz:List Int),(sz.length=vs.length)→B4 Tryz.prog 156 [.agg ((Bg t).map .p),.p (I d),.ptr bv 0,.ptr bc 0,.ptr bs 0] [.box bv [.fn (.func 155) [] [.ptr bd 0,.ptr bvs 0]],.box bc [.ptr cb 0],.box bs [.p (.lst (List.map Gv sz))],.box bd [.p (I dp)],.box bvs [.p (.lst (BO vs))],.box cb [.p (I n)]] (LK (fun(r:(Tm×Bool)×Int)=> .tup [TV r.1.1,.p (.bool r.1.2)]) (fun e=> .p (.iface 223 (I e))) (fun r H'=>H'=[.box bv [.fn (.func 155) [] [.ptr bd 0,.ptr bvs 0]],.box bc [.ptr cb 0],.box bs [.p (.lst (List.map Gv sz))],.box bd [.p (I dp)],.box bvs [.p (.lst (BO vs))],.box cb [.p (I r.2)]]) (RP vs sz dp n t d)):=by
 intro t d bv bc bs bd bvs cb dp n vs sz h1;obtain⟨tk,ti,tn,tl,ts⟩:=t;refine BD Tryz.func156 O oM (n:=33) O O (A4 (BP O (Bf O) fun b5=>BP O (BF B8 O) fun b7=>Az BA 1 [] O (A1 (A4 (A5 BA 3 [2,1] O (Ay O (CS [5,6] O (.inr O) (S8 (.mk tk ti tn tl ts:Tm) d bd bvs dp vs) ⟨_,_,O,O,⟨_,_,O,O,O⟩⟩ As O (.inl O)) (Az BA 1 [] O (A1 (Bi [3,4,5,7,9] 20 (fun y=>y= .p (.bool (((tk:Int)==(0:Int))&&(decide ((JU vs dp (.mk tk ti tn tl ts:Tm).index d:Int)≥(0:Int)))))) ?_ ?_)))))))))
 ·refine A8 (A5 BA 4 [1] O (Ba 17 O (fun g=>?_) (fun g=>?_)))
  ·(try simp only[sd,se] at g);exact Az BA 3 [] O (⟨O,O,AM,AJ,⟨O,O,O,O,O,Aw⟩⟩)
  (try simp only[sd,se] at g);exact Az BA 3 [] O (⟨O,O,AM,AJ,⟨O,O,O,O,O,Aw⟩⟩)
 rintro _ rfl;refine A3 O (fun c=>?_) (fun c=>?_)
 ·(try simp only[sd,se] at c);have hvl:=UJ (vs:=vs) (dp:=dp) (ti:=(Tm.mk tk ti tn tl ts).index) (d:=d) c.2;refine B7 (fun k=>Nat.beq k 5) D7 (BT (j:=3) O O O (fun H i hi=>BG (i:=i) jh O hi O) AB Aw (BT (j:=4) O O O (fun H i hi=>BG (i:=i) Ye O hi O) AB Aw (A0 O (fun _=>BB O) Aw ?_)));obtain⟨x,hx⟩:=BE (l:=sz) (i:=(JU vs dp (.mk tk ti tn tl ts:Tm).index d:Int).toNat) Au;refine A0 O (fun _=>BC Hp O O Au (MB hx) (O)) Aw (A0 O (fun _=>Ci C0 O) Aw (PC [7] O O O (.inl ⟨O,O,O⟩) (ea cb n x) ⟨_,_,O,O,O⟩ As (aw (we O) (aw (we O) (FH))) (fun _ _ h=>(congrArg List.length h).trans O) Ap Ap O AB ?_ ?_))
  rotate_left
  ·intro e he _ _ hτ;exact⟨O,_,List.nil_sublist _,⟨_,OY (R9 c hx) he,O⟩⟩
  rintro r _ hz rfl;refine⟨AB,Aw,?_⟩;refine Bv O Ap (A1 (B7 (fun k=>false) D7 (A0 O (fun _=>CB DV B8 O) Aw (A0 O (fun _=>Ax DV O O) Aw (BT (j:=1) O O O (fun H i hi=>BG (i:=i) C0 O hi O) AB Aw (A0 O (fun _=>C4 O O O) Aw (CF O O (CO (i:=0) Bd O O O O O O) AB Aw (A0 O (fun _=>Bb O) Aw (Bv O Ap (BS (Bj (i:=0) O) (A6 (⟨O,_,_,⟨_,_,O,(BJ (i:=0) Bd O O O),⟨_,_,O,O,O⟩⟩,(CJ (is:=[2,3,4,5,6,7]) O),?_⟩))))))))))));exact⟨⟨⟨Bu,decide (tk=0)⟩,r⟩,Qe (R9 c hx) hz,O,O⟩
 (try simp only[sd,se] at c);refine A8 (Ay O (BG (i:=3) jh O O O) (D8 [7] O O O (.inl ⟨O,O,O⟩) (ea cb n 1) ⟨_,_,O,O,O⟩ As (aw (we O) (aw (we O) (FH))) (fun _ _ h=>(congrArg List.length h).trans O) ?_ ?_))
 rotate_left
 ·intro e _ he;exact⟨O,_,List.nil_sublist _,⟨_,OY (QQ (by simp_all [Tm.index])) he,O⟩⟩
 rintro r _ hz rfl;refine Bt O (A1 (B7 (fun k=>false) D7 (A0 O (fun _=>CB DV B8 O) Aw (A0 O (fun _=>Ax DV O O) Aw (BT (j:=1) O O O (fun H i hi=>BG (i:=i) C0 O hi O) AB Aw (A0 O (fun _=>C4 O O O) Aw (CF O O (CO (i:=0) Bd O O O O O O) AB Aw (A0 O (fun _=>Bb O) Aw (Bv O Ap (BS (Bj (i:=0) O) (A6 (⟨O,_,_,⟨_,_,O,(BJ (i:=0) Bd O O O),⟨_,_,O,O,O⟩⟩,(CJ (is:=[2,3,4,5,6,7]) O),?_⟩))))))))))));exact⟨⟨⟨Bu,decide (tk=0)⟩,r⟩,Qe (QQ (by simp_all [Tm.index])) hz,O,O⟩
theorem Zw:∀(t:Tm) (d:Int) (bv bvs bd:Nat) (dp:Int) (vs:List Tm),(Nd t)→(Vp t)→(t.kind=0)→(0≤d)→(d<Dt)→(Lo vs)→(TE vs)→(∀v∈vs,size v<Dt)→(0≤dp∧dp≤65536)→(vs.length<Dt)→B4 Tryz.prog 160 [.agg ((Bg t).map .p),.p (I d),.ptr bv 0,.ptr bvs 0,.ptr bd 0] [.box bv [.fn (.func 155) [] [.ptr bd 0,.ptr bvs 0]],.box bvs [.p (.lst (BO vs))],.box bd [.p (I dp)]] (LK (fun(r:Tm)=>TV r) (fun e=> .p (.iface 223 (I e))) (fun r H'=>H'=[.box bv [.fn (.func 155) [] [.ptr bd 0,.ptr bvs 0]],.box bvs [.p (.lst (BO vs))],.box bd [.p (I dp)]]) (LR vs dp t d)):=by
 intro t d bv bvs bd dp vs h1 h2 h3 h4 h5 h6 h7 h8 h9 h10;obtain⟨tk,ti,tn,tl,ts⟩:=t;have hti:=h2.1 h3;simp only[Dt] at h5;have hw:wr (dp+d)=dp+d:=Er (by unfold I3;omega);refine BD Tryz.func160 O nH (n:=37) O O (A4 (BP O (Bf O) fun b5=>BP O (BF B8 O) fun b7=>Bt O (A1 (A4 (A5 BA 3 [2,1] O (Ay O (CS [4,3] O (.inr O) (S8 (.mk tk ti tn tl ts:Tm) d bd bvs dp vs) ⟨_,_,O,O,⟨_,_,O,O,O⟩⟩ As O (.inl O)) (Az BA 1 [] O (A2 BA 2 [] O (A3 O (fun c=>?_) (fun c=>?_))))))))))
 ·(try simp only[sd,se] at c);have hvl:=UJ (vs:=vs) (dp:=dp) (ti:=(Tm.mk tk ti tn tl ts).index) (d:=d) c;refine A1 (B7 (fun k=>Nat.beq k 7) D7 (BT (j:=3) O O O (fun H i hi=>BG (i:=i) E9 O hi O) AB Aw (A0 O (fun _=>BB O) Aw ?_)));obtain⟨x,hx⟩:=BE (l:=vs) (i:=(JU vs dp (.mk tk ti tn tl ts:Tm).index d:Int).toNat) Au;refine A0 O (fun _=>BC Bq O O Au (Bn hx) (BL _)) Aw (A0 O (fun _=>BQ Bd O (BL _)) Aw (BT (j:=4) O O O (fun H i hi=>BG (i:=i) C0 O hi O) AB Aw (A0 O (fun _=>BB O) Aw (A0 O (fun _=>EU O O) Aw (PC [] O O O (.inl ⟨O,O,O⟩) (XV x (wr ((dp:Int)+(d:Int))) 0 (Di h6 hx) (Mr h7 hx) (h8 x (List.mem_of_getElem? hx)) (by rw[hw];omega) Au) O As (aw (we O) (aw (we O) (aw (we O) (FH)))) (fun _ _ h=>(congrArg List.length h).trans O) Ap Ap O AB ?_ ?_)))))
  rotate_left
  ·intro e he _ _ hτ;exact⟨O,_,List.nil_sublist _,⟨_,(RH (i:=ti) c hx).trans he,O⟩⟩
  rintro z _ hz rfl;refine⟨AB,Aw,?_⟩;refine CF O O (Bc (i:=0) Bd O O O Am Aa (C5 _)) AB Aw (Bv O Ap (A6 (⟨O,_,_,⟨_,_,O,(BJ (i:=0) Bd O O Am),O⟩,(CJ (is:=[2,3,4]) O),?_⟩)));exact⟨z,(RH (i:=ti) c hx).trans hz,O,O⟩
 (try simp only[sd,se] at c);refine A7 (A1 (A4 (A5 BA 3 [1] O (Ay O (Ja O O) (Az BA 2 [4] O (A3 O (fun c1=>?_) (fun c1=>?_)))))))
 ·(try simp only[sd,se] at c1);refine A4 (Ay O (BI (i:=1) Bd O O O) (Ay O (BN O O (Qy (.mk tk ti tn tl ts:Tm) h1) O) (Az BA 1 [0,1] O (A6 (⟨O,_,_,⟨_,_,O,(BJ (i:=0) Bd O O Am),O⟩,(CJ (is:=[2,3,4]) O),?_⟩)))));exact⟨(.mk tk ti tn tl []),WO (by simpa [Tm.index] using c) Au,O,O⟩
 (try simp only[sd,se] at c1);refine A7 (A4 (A5 BA 3 [1,3] O (Ay O (BZ Bq O (Bh _)) (Ay O (Ja O O) (D8 [] O O O (.inl ⟨O,O,O⟩) (WK (wr ((ti:Int) - ((vs.length:Nat):Int)))) O As (aw (we O) (FH)) (fun _ _ h=>(congrArg List.length h).trans O) ?_ ?_)))))
 rotate_left
 ·intro e _ he;exact⟨O,_,List.nil_sublist _,⟨_,by rw[T9 (by simpa [Tm.index] using c) Au,he],rfl⟩⟩
 rintro z _ hz rfl;refine Az BA 1 [0,1] O (A6 (⟨O,_,_,⟨_,_,O,(BJ (i:=0) Bd O O Am),O⟩,(CJ (is:=[2,3,4]) O),?_⟩));exact⟨z,by rw[T9 (by simpa [Tm.index] using c) Au,hz],rfl,rfl⟩
theorem _root_.Go.AH {α:Prop}(h:α:=by simp only[List.length_append,List.length_map,List.length_take,List.length_replicate];omega):α:=h
set_option maxHeartbeats 2000000 in
theorem ZY:∀(t:Tm) (vs:List Tm) (dp:Int),(Nd t)→(Vp t)→(size t<1099511627776)→(Lo vs)→(TE vs)→(∀v∈vs,size v<Dt)→(0≤dp∧dp≤65536)→(vs.length<Dt)→Et Tryz.prog 137 [.agg ((Bg t).map .p),.p (.lst (BO vs)),.p (I dp)] (.tup [.agg ((Bg ((GI t vs dp).1)).map .p),.p (I ((GI t vs dp).2))]):=by
 intro t vs dp h1 h2 h3 h4 h5 h6 h7 h8;have h8b:=h8;simp only[Dt] at h8b;refine Fs Tryz.func137 O me (n:=49) O O (A4 (BP O (Bf O) fun b3=>BP O (Bf O) fun b4=>BP O (Bf O) fun b5=>BP O (BF B8 O) fun b6=>BP O (BF bj O) fun b7=>Bt O (A1 (A2 BA 2 [2] O (A3 O (fun c=>?_) (fun c=>?_))))))
 ·(try simp only[sd,se] at c);exact absurd c Au
 (try simp only[sd,se] at c);refine A7 (A4 (Ay O (E0 O O) (OV O O O O (Bt O (A4 (Ay O (E0 O O) (BP O (BF nF O) fun b8=>Az BA 1 [0,0] O (A4 (Ay O (BG (i:=4) E9 O O O) (Ay O (BZ Bq O (Bh _)) (SI O O (L3 Hp hY O O As O O O Au Au Au (lF (f:=Gv) (((vs.length:Nat):Int).toNat) 0)) fun b20 cp=>BP O (BF ng O) fun b9=>Az BA 1 [0,0] O (A1 (A4 (Ay O (BG (i:=6) E9 O O O) (Ay O (BZ Bq O (Bh _)) (Az BA 1 [] O (BH ?_)))))))))))))))));refine Bo (α:=Nat×Option Nat×Nat) (fun(i,o,cp1)=>⟨49,mk [(3,.ptr b3 0),(4,.ptr b4 0),(5,.ptr b5 0),(6,.ptr b6 0),(7,.ptr b7 0),(8,.ptr b8 0),(9,.ptr b9 0),(21,.p (.lst (BO vs))),(22,.p (I (vs.length:Nat))),(23,.p (I (i:Int)))],[.box b9 [.vs o (List.map Gv (((vs.take i).map fun v=>(size v:Int))++List.replicate (vs.length - i) 0)).length cp1],.vec o 1 (List.map Gv (((vs.take i).map fun v=>(size v:Int))++List.replicate (vs.length - i) 0)) cp1,.box b8 [.fn (.func 155) [] [.ptr b5 0,.ptr b4 0]],.box b7 [.p (I 0)],.box b6 [.p (I 0),.p (I 0),.p (.str ⟨#[]⟩),.p (.nils),.p (.nils)],.box b5 [.p (I dp)],.box b4 [.p (.lst (BO vs))],.box b3 ((Bg t).map .p)],[.clo (.func 153) [.ptr b6 0,.ptr b7 0]]⟩) (fun(i,o,cp1)=>vs.length - i) (fun(i,o,cp1)=>i≤vs.length) ⟨0,(some b20),cp⟩ AQ ?_ ?_
 ·exact Bk ⟨we O,we O,we O,we O,we O,we O,we O,we O,we O,we O,Aw⟩ (leH (is:=[0,1,2,3,4,5,6,7]) O (wl (YA (aw (we (Gg (f:=Gv) (List.replicate (((vs.length:Nat):Int).toNat) 0) Av)) (FH))) (wl (F5 (f:=Gv) (List.replicate (((vs.length:Nat):Int).toNat) 0) Av) (wl (oe O) (wl (oe O) (wl (oe O) (wl (oe O) (wl (oe O) (wl (oe O) (DN))))))))))
 rintro⟨i,o,cp1⟩ hC
 try simp only at hC
 have hi:=hC;refine A2 BA 1 [] O (A1 (A3 O (fun c1=>?_) (fun c1=>?_)))
 ·(try simp only[sd,se] at c1);refine A7 (A1 (BH (A4 (B6 O ?_))));obtain⟨x,hx⟩:=BE (l:=vs) (i:=i) Au;refine Ay O (BC Bq O O Au (Bn hx) (BL _)) (Ay O (BQ Bd O (BL _)) (BP O (BF B8 O) fun b11=>Az BA 2 [0,1] O (MJ (i:=2) O Ac fun b hb=>?_)));subst hb;refine B7 (fun k=>false) D7 (BT (j:=1) O O O (fun H i hi=>BG (i:=i) Ye O hi O) AB Aw (A0 O (fun _=>BB O) Aw (BT (j:=0) O O O (fun H i hi=>BI (i:=i) Bd O hi Am) AB Aw (A0 O (fun _=>BN O O (ZQ x (Di h4 hx) (by have:=h6 x (List.mem_of_getElem? hx);simp only[Dt] at this;omega)) O) Aw (A0 O (fun _=>DE Hp O O Au AH) Aw (CF O O (Eh (i:=2) (j:=i) C0 O O O AH O O O O (dO (f:=Gv) (((vs.take i).map fun v=>(size v:Int))++List.replicate (vs.length - i) 0) i (size x:Nat))) AB Aw (Bv O Ap (A8 (Az BA 2 [] O ?_)))))))));refine⟨⟨i+1,(some b),cp1⟩,AU,by omega,Bk ⟨we rfl,we rfl,we rfl,we rfl,we rfl,we rfl,we rfl,we rfl,we rfl,we rfl,trivial⟩ (leH (is:=[1,2,3,4,5,6,7,8]) rfl (wl (YA (aw (we (Sn (f:=Gv) (((vs.take i).map fun v=>(size v:Int))++List.replicate (vs.length - i) 0) Ao)) (FH))) (wl (F5 (f:=Gv) ((((vs.take i).map fun v=>(size v:Int))++List.replicate (vs.length - i) 0).set i (size x:Nat)) (kz hx)) (wl (oe rfl) (wl (oe rfl) (wl (oe rfl) (wl (oe rfl) (wl (oe rfl) (wl (oe rfl) (DN))))))))))⟩
 (try simp only[sd,se] at c1);refine Br (A4 ?_);rw[pD (vs:=vs) (i:=i) Au];refine CH (Df (i:=1) (j:=0) (q:=0) [] O O O (EH Aw)) (Ay O (CB ml mF O) (BP O (Bf O) fun b35=>BP O (BF pQ O) fun b12=>Az BA 1 [0,0] O (A4 (A5 BA 3 [8] O ?_))));refine D8 [3,0,2,6,7,1] O O O (.inl ⟨O,O,O⟩) (N7 (RP vs (vs.map fun v=>(size v:Int)) dp) (fun n T=>T=[.box b8 [.fn (.func 155) [] [.ptr b5 0,.ptr b4 0]],.box b12 [.ptr b35 0],.box b9 [.p (.lst (List.map Gv (vs.map fun v=>(size v:Int))))],.box b5 [.p (I dp)],.box b4 [.p (.lst (BO vs))],.box b35 [.p (I n)]]) 156 [.ptr b8 0,.ptr b12 0,.ptr b9 0] (fun n t d T hn hp h0 hb hT=>by subst hT;exact bJ t d b8 b12 b9 b5 b4 b35 dp n vs (vs.map fun v=>(size v:Int)) Av) _ t 0 0 _ (Nat.le_refl _) h1 h2 Au Ad rfl) ⟨_,_,rfl,rfl,⟨_,_,rfl,rfl,⟨_,_,rfl,rfl,⟨_,_,rfl,rfl,⟨_,_,rfl,rfl,⟨_,_,rfl,rfl,rfl⟩⟩⟩⟩⟩⟩ As (Dm _) (fun _ _ h=>(congrArg List.length h).trans rfl) ?_ ?_
 rotate_left
 ·intro e _ he;refine⟨_,_,_,O,MW (is:=[1,0]) _ As ⟨_,_,O,O,⟨_,_,O,O,O⟩⟩,E8.eq (TQ b6 b7 _) ?_⟩;refine⟨_,[],⟨_,_,O,(BJ (i:=0) Bd O O O),⟨_,_,O,(G7 (i:=1) SP O O),O⟩⟩,(List.nil_sublist _),?_⟩;rw[JB (Pj he)];exact⟨O,O⟩
 rintro⟨z,n1⟩ _ hz rfl;refine Bt O (A1 (B7 (fun k=>Nat.beq k 1||Nat.beq k 3) D7 (A0 O (fun _=>E0 O O) Aw (ZF [(2,.read [.box b3 ((Bg t).map .p)] (.agg ((Bg t).map .p)))] O O O (.inl ⟨O,O,O⟩) (YS 160 [.ptr b8 0,.ptr b4 0,.ptr b5 0]) (.inl O) Ap fun bn=>⟨AB,Aw,?_⟩))));refine BT (j:=9) O O O (fun H i hi=>BI (i:=i) Bd O hi Am) AB AO ?_;refine PC [0,4,8,7] O O O (.inl ⟨O,O,O⟩) (N7 (KK (LR vs dp)) (fun _ T=>T=[.box bn [.fn (.func 160) [] [.ptr b8 0,.ptr b4 0,.ptr b5 0]],.box b8 [.fn (.func 155) [] [.ptr b5 0,.ptr b4 0]],.box b4 [.p (.lst (BO vs))],.box b5 [.p (I dp)]]) 176 [.ptr bn 0] (fun s t d T hn hp h0 hb hT=>by subst hT;exact Wi (LR vs dp) 160 [.ptr b8 0,.ptr b4 0,.ptr b5 0] [.box b8 [.fn (.func 155) [] [.ptr b5 0,.ptr b4 0]],.box b4 [.p (.lst (BO vs))],.box b5 [.p (I dp)]] (fun t d g1 g2 g3 g4 g5=>Zw t d b8 b4 b5 dp vs g1 g2 g3 g4 g5 h4 h5 h6 h7 h8) bn s t d hn hp h0 hb) _ t 0 () _ (Nat.le_refl _) h1 h2 Au Ad rfl) ⟨_,_,rfl,rfl,⟨_,_,rfl,rfl,⟨_,_,rfl,rfl,⟨_,_,rfl,rfl,rfl⟩⟩⟩⟩ As (Dm _) (fun _ _ h=>(congrArg List.length h).trans rfl) Ap Ap rfl AB ?_ ?_
 rotate_left
 ·intro e he _ _ hτ;refine⟨_,_,_,O,MW (is:=[4,3]) _ As ⟨_,_,O,O,⟨_,_,O,O,O⟩⟩,E8.eq (TQ b6 b7 _) ?_⟩;refine⟨_,[],⟨_,_,O,(BJ (i:=0) Bd (hτ 6 (R3 Ap)) O O),⟨_,_,O,(G7 (i:=1) SP (hτ 7 (R3 Ap)) O),O⟩⟩,(List.nil_sublist _),?_⟩;rw[JB (Pv hz he)];exact⟨O,O⟩
 rintro⟨z1,_⟩ _ hz1 rfl;refine⟨AB,AO,?_⟩;refine CF O O (Bc (i:=6) Bd O O O Am Aa (C5 _)) AB AO (Bv O Ap (A1 (A4 (Ay O (BI (i:=6) Bd O O Am) (Ay O (BN O O (Vm _ z1 (Nat.le_refl _) (iG h4 h5 h1 h2 hz1)) O) (Az BA 1 [] O (A3 O (fun c2=>?_) (fun c2=>?_))))))))
 ·(try simp only[sd,se] at c2);refine A4 (Ay O (CB DV B8 O) ?_);obtain⟨z1k,z1i,z1n,z1l,z1s⟩:=z1;refine Az BA 2 [6,0,5,0] O (BS (Bj (i:=6) O) (A6 (⟨_,_,_,O,Dj (is:=[6,5]) As ⟨_,_,O,O,⟨_,_,O,O,O⟩⟩,E8.eq (Ty b6 b7 _ _) ?_⟩)));refine⟨_,_,⟨_,_,O,(BJ (i:=0) Bd O O O),⟨_,_,O,(G7 (i:=1) SP O O),O⟩⟩,(List.nil_sublist _),?_⟩;rw[P9 (Ml hz hz1) Au]
  all_goals exact⟨rfl,rfl⟩
 (try simp only[sd,se] at c2);refine A7 (A2 BA 3 [6,6,1,5,0] O (A6 (⟨_,_,_,O,Dj (is:=[6,5]) As ⟨_,_,O,O,⟨_,_,O,O,O⟩⟩,E8.eq (Ty b6 b7 _ _) ?_⟩)));refine⟨_,_,⟨_,_,O,(BJ (i:=0) Bd O O Am),⟨_,_,O,(G7 (i:=1) SP O O),O⟩⟩,(List.nil_sublist _),?_⟩;rw[Tv (Ml hz hz1) Au]
 all_goals exact⟨rfl,rfl⟩
theorem Z1:∀(t:Tm) (vs:List Tm),(Nd t)→(Vp t)→(size t<1099511627776)→(Lo vs)→(TE vs)→(∀v∈vs,size v<Dt)→(vs.length<Dt)→Et Tryz.prog 105 [.agg ((Bg t).map .p),.p (.lst (BO vs))] (.tup [.agg ((Bg ((GI t vs 0).1)).map .p),.p (I ((GI t vs 0).2))]):=by
 intro t vs h1 h2 h3 h4 h5 h6 h7;refine BD Tryz.func105 O nT (n:=11) O O (A4 (BP O (Bf O) fun b2=>BP O (BF B8 O) fun b4=>Az BA 1 [] O (A4 (A5 BA 2 [1] O (Ay O (BN O O (ZY t vs 0 h1 h2 h3 h4 h5 h6 Au h7) O) (Az BA 4 [0,1] O (A6 (⟨O,_,_,⟨_,_,O,(BJ (i:=0) Bd O O Am),⟨_,_,O,O,O⟩⟩,(List.nil_sublist _),?_⟩))))))))
 all_goals exact⟨rfl,rfl⟩
theorem OS:∀(m:Nat) (ds:List Cc) (n:Int),(HF n)→B4 Tryz.prog 104 [.ptr m 0] [.box m [.p (.lst (List.map Bw ds)),.p (I n)]] (LK (fun(r:Unit)=> .tup []) (fun _=> .p (.iface 122 .unit)) (fun r H'=>H'=[.box m [.p (.lst (List.map Bw ds)),.p (I (n - 1))]]) (ME n)):=by
 intro m ds n h1;have hn:=h1.1;have hn2:=h1.2;refine BD Tryz.func104 O l5 (n:=16) O O (A2 BA 8 [0,0,0] O (A2 BA 5 [0] O (A3 O (fun c=>?_) (fun c=>?_))))
 ·(try simp only[sd,se] at c);exact A8 (Ay O (CB cE Y8 O) (Ay O (JR Ap O) (Oe O O (MX O) (⟨O,_,List.nil_sublist _,⟨_,nZ Au,O⟩⟩))))
 (try simp only[sd,se] at c);refine A7 ⟨O,_,_,O,(CJ (is:=[0]) O),?_⟩;exact⟨(),pW Au,O,O⟩
theorem K6:∀(m:Nat) (ds:List Cc) (n:Int) (t:Tm) (vs:List Tm),(HF n)→(okB t=true)→(∀v∈vs,okB v=true)→(vs.length<549755813888)→B4 Tryz.prog 74 [.ptr m 0,.agg ((Bg t).map .p),.p (.lst (BO vs))] [.box m [.p (.lst (List.map Bw ds)),.p (I n)]] (LK (fun(r:Tm×Int)=>TV r.1) (fun _=> .p (.iface 122 .unit)) (fun r H'=>H'=[.box m [.p (.lst (List.map Bw ds)),.p (I r.2)]]) (JW n (Ce t vs 0))):=by
 intro m ds n t vs h1 h2 h3 h4;have hn:=h1.1;have hto:=Cd.1 h2;have hts:=hto.sz;have hvo:=FR h3;refine BD Tryz.func74 O re (n:=22) O O (A4 (BP O (Bf O) fun b4=>BP O (BF B8 O) fun b6=>Bt O (A4 (B6 O (D8 [2] O O O (.inl ⟨O,O,O⟩) (OS m ds n h1) ⟨_,_,O,O,O⟩ As (aw (we O) (FH)) (fun _ _ h=>(congrArg List.length h).trans O) ?_ ?_)))))
 rotate_left
 ·intro e _ he;exact⟨O,_,List.nil_sublist _,⟨_,fH he,O⟩⟩
 rintro _ _ hz rfl;refine Bt O (A4 (A5 BA 2 [1] O ?_));refine Ay rfl (BN rfl rfl (Z1 t vs hto.nd hto.vp Au hvo.1 hvo.2.2 (fun v hv=>by have:=F8 (h3 v hv);simp only[Dt];omega) Ad) rfl) ?_;refine A5 BA 3 [] O (BP O (BF B8 O) fun b7=>Az BA 2 [0,1] O (A1 (A2 BA 2 [] O (A3 O (fun c=>?_) (fun c=>?_)))))
 ·(try simp only[sd,se] at c);have hce:=c;exact A8 (Ay O (CB cE Y8 O) (Ay O (JR Ap O) (Oe O O (MX O) (⟨O,_,List.nil_sublist _,⟨_,mq Au h2 h3 h4 hce,O⟩⟩))))
 (try simp only[sd,se] at c);refine A7 (A2 BA 2 [0,1,1] O (A6 (⟨O,_,_,⟨_,_,O,(BJ (i:=1) Bd O O Am),O⟩,(CJ (is:=[3]) O),?_⟩)));exact⟨⟨(GI t vs 0).1,n - 1⟩,ny hz h2 h3 h4 c,O,O⟩
theorem Kg:∀(l:List Tm),(l.length<549755813888)→B4 Tryz.prog 95 [.p (.lst (BO l))] [] (Zd (fun v=>v) 5 (BO l)):=by
 intro l h1;refine BD Tryz.func95 O rZ (n:=8) O O (A2 BA 1 [] O (A1 (A4 (B6 O (D1 O O (Mz Bq O O) ?_)))));rintro _ ⟨q,rfl,hq⟩;refine Bt O (A3 O (fun c=>?_) (fun c=>?_))
 ·(try simp only[sd,se] at c);refine A2 BA 1 [] O (BS (EY (t:=2) (sz:=5) O) (A6 (⟨O,_,_,⟨_,_,O,O,O⟩,(CJ (is:=[0]) O),?_⟩)));rw[show l=[] from List.length_eq_zero_iff.1 (by rw[←Bh,hq c];rfl)]
  all_goals exact⟨_,_,rfl,rfl⟩
 (try simp only[sd,se] at c);refine A7 (A4 (SI O O (Lb Bq) fun b5 cp=>B6 O (FV O O (Cb (i:=0) (rows':=BO l) Bq Bq B8 O O O O O O (B9 _) (by simp only[Bh,List.length_nil];omega) (Jj [] l)) fun o cp1=>Az BA 1 [] O (A6 (⟨O,_,_,⟨_,_,O,O,O⟩,(CJ (is:=[0]) O),?_⟩)))))
 all_goals exact⟨_,_,rfl,rfl⟩
theorem QW:∀(m:Nat) (ds:List Cc) (n:Int) (t:Tm) (vs:List Tm),(HF n)→(okB t=true)→(∀v∈vs,okB v=true)→(vs.length<549755813888)→B4 Tryz.prog 62 [.ptr m 0,.agg ((Bg t).map .p),.p (.lst (BO vs))] [.box m [.p (.lst (List.map Bw ds)),.p (I n)]] (LK (fun(r:Tm×Int)=>TV r.1) (fun _=> .p (.iface 122 .unit)) (fun r H'=>H'=[.box m [.p (.lst (List.map Bw ds)),.p (I r.2)]]) (JW n (Ce t vs.reverse 0))):=by
 intro m ds n t vs h1 h2 h3 h4;refine BD Tryz.func62 O qM (n:=16) O O (A4 (BP O (Bf O) fun b4=>BP O (BF B8 O) fun b6=>Bt O (A4 (B6 O (NI O O O (.inl ⟨O,O,O⟩) (Kg vs h4) (.inl O) fun o cp=>Az BA 1 [] O (A4 (B6 O (Ay O (CS [0] O (.inl ⟨O,O,O⟩) (df vs o cp Ad) ⟨_,_,O,O,O⟩ As O (.inl O)) (Bt O (A4 (A5 BA 3 [2] O (CH (DQ (t:=9) (x:= .vs o (BO vs.reverse).length cp) (Dc vs (l':=vs.reverse) Av)) (CH (DQ (t:=7) (x:= .vs o (BO vs.reverse).length cp) (Dc vs (l':=vs.reverse) Av)) (CH (DQ (t:=10) (x:= .vs o (BO vs.reverse).length cp) (Dc vs (l':=vs.reverse) Av)) (CH (DQ (t:=14) (x:= .vs o (BO vs.reverse).length cp) (Dc vs (l':=vs.reverse) Av)) ?_)))))))))))))));refine CH (Cx (i:=0) [9,7,10,14] O (EH ⟨O,O,O,O,Aw⟩)) (D8 [2] O O O (.inl ⟨O,O,O⟩) (K6 m ds n t vs.reverse h1 h2 (cz h3) (by rw[List.length_reverse];exact h4)) ⟨_,_,O,O,O⟩ As (aw (we O) (aw (we O) (aw (we O) (FH)))) (fun _ _ h=>(congrArg List.length h).trans O) ?_ ?_)
 rotate_left
 ·intro e _ he;exact⟨O,_,List.nil_sublist _,⟨_,he,O⟩⟩
 rintro⟨z,n2⟩ _ hz rfl;refine Az BA 1 [0,1] O (A6 (⟨O,_,_,⟨_,_,O,(BJ (i:=0) Bd O O Am),O⟩,(CJ (is:=[2]) O),?_⟩));exact⟨⟨z,n2⟩,hz,O,O⟩
theorem WX:∀(m:Nat) (ds:List Cc) (s:Int) (x:Gf) (g:Tm) (a:List Tm) (d:Cc),(HF s)→(ds[x.decl.toNat]?=some d)→(0≤x.decl)→(DG d)→(okB g=true)→(a.length<549755813888)→(FF CI d g a s≠ .stuck)→B4 Tryz.prog 106 [.ptr m 0,.agg ((Dp x).map .p),.agg ((Bg g).map .p),.p (.lst (BO a))] [.box m [.p (.lst (List.map Bw ds)),.p (I s)]] (LK (fun(r:Option Tm×Int)=> .tup [TV (r.1.getD Bu),.p (.bool r.1.isSome)]) (fun _=> .p (.iface 122 .unit)) (fun r H'=>H'=[.box m [.p (.lst (List.map Bw ds)),.p (I r.2)]]) ((FF CI d g a s).ex)):=by
 intro m ds s x g a d h1 h2 h3 h4 h5 h6 h7;obtain⟨gk,gi,gn,gl,gs⟩:=g;have hgo:=Cd.1 h5;have hgl:=hgo.nd;simp only[Nd,Dt] at hgl;refine BD Tryz.func106 O pU (n:=35) O O (A4 (BP O (Bf O) fun b5=>BP O (Bf O) fun b6=>BP O (BF B8 O) fun b8=>Az BA 1 [] O (A1 (B7 (fun k=>Nat.beq k 15) D7 (A0 O (fun _=>BB O) Aw (A0 O (fun _=>CW O) Aw (A0 O (fun _=>Ax R6 O O) Aw (BT (j:=3) O O O (fun H i hi=>BG (i:=i) Rg O hi O) AB Aw (A0 O (fun _=>Ax FG O O) Aw (BT (j:=2) O O O (fun H i hi=>A9 (i:=i) C0 O hi (Ds _)) AB Aw (A0 O (fun _=>BC Hv O O Au (EX h2) (Cw _)) Aw (A0 O (fun _=>Bp Cv O O) Aw (A0 O (fun _=>DX Bd O (FW _) (BL _)) Aw (A0 O (fun _=>Ax DV O O) Aw ?_))))))))))))));refine BT (j:=1) O O O (fun H i hi=>BG (i:=i) UO O hi O) AB Aw (A0 O (fun _=>BN O O (MP d.value gl (Cd.1 h4.vl).nd (Cd.1 h4.vl).vp (by have:=F8 h4.vl;omega) hgl.2.1 hgl.2.2.1) O) Aw (A0 O (fun _=>BB O) Aw (A0 O (fun _=>By O O) Aw (A0 O (fun _=>By O O) Aw (HJ [] O O (BF B8 O) Ap fun b10=>⟨AB,Aw,?_⟩)))));refine CF O O (Bc (i:=0) Bd O O O Am Aa (C5 _)) AB Aw (A0 O (fun _=>Bb O) Aw (Bv O Ap (A1 (A2 BA 2 [] O (A3 O (fun c=>?_) (fun c=>?_))))))
 ·(try simp only[sd,se] at c);have hce:=c;refine A2 BA 3 [1,0] O (BS (Bj (i:=1) O) (A6 (⟨O,_,_,⟨_,_,O,(BJ (i:=1) Bd O O O),⟨_,_,O,O,O⟩⟩,(CJ (is:=[4]) O),?_⟩)));exact⟨⟨none,s⟩,De (KG hce),O,O⟩
 (try simp only[sd,se] at c);have hce:=c;refine A7 (A4 (B6 O (D8 [4] O O O (.inl ⟨O,O,O⟩) (OS m ds s h1) ⟨_,_,O,O,O⟩ As (aw (we O) (FH)) (fun _ _ h=>(congrArg List.length h).trans O) ?_ ?_)))
 rotate_left
 ·intro e _ he;exact⟨O,_,List.nil_sublist _,⟨_,dA h7 hce he,O⟩⟩
 rintro _ _ hz rfl;refine Bt O (A4 (A5 BA 2 [0] O (Ay O (BN O O (Ee ((B1 d.value gl).1) a Ad) O) (Az BA 2 [1,1] O (A6 (⟨O,_,_,⟨_,_,O,(BJ (i:=1) Bd O O Am),⟨_,_,O,O,O⟩⟩,(CJ (is:=[4]) O),?_⟩))))));exact⟨⟨some (apply (B1 d.value gl).1 a),s - 1⟩,De (eL h7 hce hz),O,O⟩
theorem UD:∀(m:Nat) (ds:List Cc) (s:Int) (d:Cc) (g:Tm) (a:List Tm) (mm:Tm),(HF s)→(J7 ds)→(DG d)→(okB g=true)→(a.length<549755813888)→(okB mm=true)→(Cj d<a.length)→(FQ ds CI d g a mm s≠ .stuck)→B4 Tryz.prog 110 [.ptr m 0,.agg ((Bw d).map .p),.agg ((Bg g).map .p),.p (.lst (BO a)),.agg ((Bg mm).map .p)] [.box m [.p (.lst (List.map Bw ds)),.p (I s)]] (LK (fun(r:Option Tm×Int)=> .tup [TV (r.1.getD Bu),.p (.bool r.1.isSome)]) (fun _=> .p (.iface 122 .unit)) (fun r H'=>H'=[.box m [.p (.lst (List.map Bw ds)),.p (I r.2)]]) ((FQ ds CI d g a mm s).ex)):=by
 intro m ds s d g a mm h1 h2 h3 h4 h5 h6 h7 h8;obtain⟨gk,gi,gn,gl,gs⟩:=g;have hgo:=Cd.1 h4;have hgl:=hgo.nd;simp only[Nd,Dt] at hgl;have hnr:=IX h3;have hcl:=h3.din.cl;have hrl:=h3.din.rl;have hfx:=h3.fx;have hir:=GX h3.din h3.fx;refine BD Tryz.func110 O oS (n:=82) O O (A4 (BP O (Bf O) fun b6=>BP O (Bf O) fun b7=>BP O (Bf O) fun b9=>BP O (BF B8 O) fun b10=>Az BA 1 [] O (A4 (A5 BA 2 [1] O (Ay O (CS [4] O (.inl ⟨O,O,O⟩) (Qg m ds s mm h2 h6) ⟨_,_,O,O,O⟩ As O (.inl O)) (A5 BA 5 [] O (BP O (BF Je O) fun b12=>Az BA 4 [0,1] O (A1 (A1 (Bi [0,3,6,7,10,13,14] 42 (fun y=>y= .p (.bool (((!((CY ds mm).2.2.2))||(!((((CY ds mm).1).name).toList==d.name.toList)))||(decide (((CY ds mm).2.1:Int)≥((d.recs.rules.length:Nat):Int)))))) ?_ ?_))))))))))
 ·refine A8 (A5 BA 3 [] O (Ba 28 O (fun g1=>?_) (fun g1=>?_)))
  ·(try simp only[sd,se] at g1);exact Az BA 14 [] O (⟨O,O,AM,AJ,⟨O,O,O,O,O,O,O,Aw⟩⟩)
  (try simp only[sd,se] at g1);refine BM O (Ax Cv O O) (BM O (A9 (i:=0) Lm O O (Db _)) (BM O (Ax Cv O O) (BM O (A9 (i:=4) Lm O O (Db _)) (BM O (JE O O) (A5 BA 2 [] O (Ba 35 O (fun g2=>?_) (fun g2=>?_)))))))
  ·(try simp only[sd,se] at g2);exact Az BA 7 [] O (⟨O,O,AM,AJ,⟨O,O,O,O,O,O,O,Aw⟩⟩)
  (try simp only[sd,se] at g2);exact A5 BA 3 [] O (BM O (A9 (i:=4) E9 O O (C2 _)) (BM O (BZ Bq O (Bh _)) (Az BA 2 [] O (⟨O,O,AM,AJ,⟨O,O,O,O,O,O,O,Aw⟩⟩))))
 rintro _ rfl;refine A3 O (fun c=>?_) (fun c=>?_)
 ·(try simp only[sd,se] at c);have hib:=WU (S:=CI) (h:=(.mk gk gi gn gl gs:Tm)) (a:=a) (s:=s) c;refine A2 BA 3 [1,0] O (BS (Bj (i:=1) O) (A6 (⟨O,_,_,⟨_,_,O,(BJ (i:=1) Bd O O O),⟨_,_,O,O,O⟩⟩,(CJ (is:=[5]) O),?_⟩)));exact⟨⟨none,s⟩,De hib,O,O⟩
 (try simp only[sd,se] at c);obtain⟨hg1,hg2,hg3⟩:=Tn c;have hg4:=c.2;have hfl:=JS h2 hg1;refine A7 (A1 (B7 (fun k=>Nat.beq k 12) D7 (A0 O (fun _=>Ax Cv O O) Aw (A0 O (fun _=>Ax iw O O) Aw (BT (j:=4) O O O (fun H i hi=>A9 (i:=i) E9 O hi (C2 _)) AB Aw (A0 O (fun _=>BB O) Aw ?_))))));obtain⟨x,hx⟩:=BE (l:=d.recs.rules) (i:=((CY ds mm).2.1:Int).toNat) Au;have hro:=h3.ru _ (List.mem_of_getElem? hx);refine A0 O (fun _=>BC Bq O O Au (Bn hx) (BL _)) Aw (A0 O (fun _=>BQ Bd O (BL _)) Aw (A0 O (fun _=>Ax DV O O) Aw (BT (j:=3) O O O (fun H i hi=>BG (i:=i) UO O hi O) AB Aw (A0 O (fun _=>BN O O (MP x gl (Cd.1 hro).nd (Cd.1 hro).vp (by have:=F8 hro;omega) hgl.2.1 hgl.2.2.1) O) Aw (A0 O (fun _=>BB O) Aw (A0 O (fun _=>By O O) Aw (A0 O (fun _=>By O O) Aw (HJ [] O O (BF B8 O) Ap fun b16=>⟨AB,Aw,?_⟩))))))));refine CF O O (Bc (i:=0) Bd O O O Am Aa (C5 _)) AB Aw (A0 O (fun _=>Bb O) Aw (Bv O Ap (A1 (A2 BA 2 [] O (A3 O (fun c1=>?_) (fun c1=>?_))))))
 ·(try simp only[sd,se] at c1);have hce:=c1;refine A2 BA 3 [2,0] O (BS (Bj (i:=2) O) (A6 (⟨O,_,_,⟨_,_,O,(BJ (i:=2) Bd O O O),⟨_,_,O,O,O⟩⟩,(CJ (is:=[6]) O),?_⟩)));exact⟨⟨none,s⟩,De (MK (h:=(.mk gk gi gn gl gs:Tm)) hg1 hg2 hx hce),O,O⟩
 (try simp only[sd,se] at c1);have hce:=c1;refine A7 (A4 (B6 O (D8 [6] O O O (.inl ⟨O,O,O⟩) (OS m ds s h1) ⟨_,_,O,O,O⟩ As (aw (we O) (FH)) (fun _ _ h=>(congrArg List.length h).trans O) ?_ ?_)))
 rotate_left
 ·intro e _ he;exact⟨O,_,List.nil_sublist _,⟨_,gm (g:=(.mk gk gi gn gl gs:Tm)) h8 hg1 hg2 hx hce he,O⟩⟩
 rintro _ _ hz rfl;refine Bt O (A1 (B7 (fun k=>false) D7 (BT (j:=0) O O O (fun H i hi=>BI (i:=i) Bd O hi Am) AB Aw (A0 O (fun _=>BB O) Aw (A0 O (fun _=>Ax Cv O O) Aw (BT (j:=5) O O O (fun H i hi=>A9 (i:=i) C0 O hi (C3 _)) AB Aw (A0 O (fun _=>ET O O Au Au) Aw (A0 O (fun _=>Ax Cv O O) Aw (BT (j:=5) O O O (fun H i hi=>A9 (i:=i) Hk O hi (CN _)) AB Aw (A0 O (fun _=>BZ HY O (List.length_map _)) Aw (A0 O (fun _=>ET O O Au Au) Aw (A0 O (fun _=>Cp (lo:=0) (hi:=(((d.fixed:Int)+(1:Int):Int)+((d.ctors.length:Nat):Int):Int).toNat) Bq O (CT (B9 _)) O ⟨_,pI Au⟩ (Nat.zero_le _) AR (Oo a ((((d.fixed:Int)+(1:Int):Int)+((d.ctors.length:Nat):Int):Int).toNat))) Aw ?_))))))))))));refine A0 O (fun _=>BN O O (Ee ((B1 x gl).1) (a.take ((((d.fixed:Int)+(1:Int):Int)+((d.ctors.length:Nat):Int):Int).toNat)) (by simp only[Dt,List.length_take];omega)) O) Aw (CF O O (Bc (i:=0) Bd O O O Am Aa (C5 _)) AB Aw (Bv O Ap (A4 (A5 BA 2 [0] O (Ay O (BN O O (Ee (apply ((B1 x gl).1) (a.take ((((d.fixed:Int)+(1:Int):Int)+((d.ctors.length:Nat):Int):Int).toNat))) ((CY ds mm).2.2.1) Ad) O) (Az BA 1 [0,1] O (A1 (B7 (fun k=>false) D7 (BT (j:=0) O O O (fun H i hi=>BI (i:=i) Bd O hi Am) AB Aw (A0 O (fun _=>BB O) Aw (BT (j:=5) O O O (fun H i hi=>BI (i:=i) EJ O hi Aj) AB Aw (A0 O (fun _=>BN O O (N5 d h3.din h3.fx) O) Aw (A0 O (fun _=>ET O O Au Au) Aw ?_)))))))))))));refine A0 O (fun _=>Cp (lo:=((Cj d:Int)+(1:Int):Int).toNat) Bq O (CT (B9 _)) ⟨_,pI Au⟩ O AR (Nat.le_refl _) (Jo a (((Cj d:Int)+(1:Int):Int).toNat))) Aw (A0 O (fun _=>BN O O (Ee (apply (apply ((B1 x gl).1) (a.take ((((d.fixed:Int)+(1:Int):Int)+((d.ctors.length:Nat):Int):Int).toNat))) ((CY ds mm).2.2.1)) (a.drop (((Cj d:Int)+(1:Int):Int).toNat)) AS) O) Aw (CF O O (Bc (i:=2) Bd O O O Am Aa (C5 _)) AB Aw (A0 O (fun _=>Bb O) Aw (Bv O Ap (A6 (⟨O,_,_,⟨_,_,O,(BJ (i:=2) Bd O O Am),⟨_,_,O,O,O⟩⟩,(CJ (is:=[6]) O),?_⟩))))));exact⟨⟨some _,s - 1⟩,De (iT (g:=(.mk gk gi gn gl gs:Tm)) h8 hg1 hg2 hx hce hz),O,O⟩
def mS (ds:List Cc) (n:Nat):Prop:=∀(m:Nat) (t:Tm) (s:Int),HF s→D6 ds CI n s t≠ .stuck→B4 Tryz.prog 39 [.ptr m 0,.agg ((Bg t).map .p)] [.box m [.p (.lst (List.map Bw ds)),.p (I s)]] (LK (fun(r:Tm×Int)=>TV r.1) (fun _=> .p (.iface 122 .unit)) (fun r H'=>H'=[.box m [.p (.lst (List.map Bw ds)),.p (I r.2)]]) ((D6 ds CI n s t).ex))
theorem QM:∀(n k m:Nat) (ds:List Cc) (t:Fl) (vs:List Tm) (s:Int),(mS ds n)→(J7 ds)→(HF s)→(SQ t vs)→(EE ds CI (D6 ds CI n) k t vs Bu s≠ .stuck)→B4 Tryz.prog 61 [.ptr m 0,.agg ((DF t).map .p),.p (.lst (BO vs))] [.box m [.p (.lst (List.map Bw ds)),.p (I s)]] (LK (fun(r:(Option (Tm×List Tm)×Tm)×Int)=> .tup [TV (KR r.1),.p (.lst (BO (Nl r.1))),.p (.bool r.1.1.isSome),TV r.1.2]) (fun _=> .p (.iface 122 .unit)) (fun r H'=>H'=[.box m [.p (.lst (List.map Bw ds)),.p (I r.2)]]) ((EE ds CI (D6 ds CI n) k t vs Bu s).ex)):=by
 intro n k m ds t vs s hW h2 h3 h4 hns;have h4l:=h4.len;generalize hX:EE ds CI (D6 ds CI n) k t vs Bu s=X at hns ⊢;refine BD Tryz.func61 O qp (n:=76) O O (A4 (BP O (Bf O) fun b4=>BP O (BF B8 O) fun b6=>A5 BA 2 [] O (BP O (BF B8 O) fun b9=>Bt O (A4 (B6 O (NI O O O (.inl ⟨O,O,O⟩) (Kg vs Au) (.inl O) fun o cp=>Az BA 1 [] O (A4 (BP O (BF B8 O) fun b11=>Bt O (A1 (BH ?_))))))))));refine Bo (α:=Nat×Fl×List Tm×Tm×Int×Option Nat×Nat) (fun(k2,w,us,l,d,o1,cp1)=>⟨76,mk [(0,.ptr m 0),(4,.ptr b4 0),(6,.ptr b6 0),(9,.ptr b9 0),(10,.vs o1 (BO us).length cp1),(11,.ptr b11 0)],[.box b11 ((Bg l).map .p),.vec o1 5 (BO us) cp1,.box b9 [.p (I 0),.p (I 0),.p (.str ⟨#[]⟩),.p (.nils),.p (.nils)],.box b6 [.p (I 0),.p (I 0),.p (.str ⟨#[]⟩),.p (.nils),.p (.nils)],.box b4 ((DF w).map .p),.box m [.p (.lst (List.map Bw ds)),.p (I d)]],[]⟩) (fun(k2,w,us,l,d,o1,cp1)=>k2) (fun(k2,w,us,l,d,o1,cp1)=>EE ds CI (D6 ds CI n) k2 w us l d=X∧SQ w us∧HF d) ⟨k,t,vs,Bu,s,o,cp⟩ (⟨hX,h4,h3⟩) ?_ ?_
 ·exact Bk ⟨we O,we O,we O,we O,we O,we O,Aw⟩ (leH (is:=[0,1,2,3,4,5]) O (wl (on (O)) (wl (oe O) (wl (oe O) (wl (oe O) (wl (oe O) (wl (oe O) (DN))))))))
 rintro⟨k2,w,us,l,d,o1,cp1⟩ hC
 try simp only at hC
 obtain⟨hC,hL,hJ⟩:=hC;obtain⟨k1,rfl⟩:=S6 hC hns;refine A1 (A4 (Ay O (Ax Fc O O) (Ay O (A9 (i:=4) C0 O O (Gh _)) (Az BA 1 [] O (A3 O (fun c=>?_) (fun c=>?_))))))
 ·(try simp only[sd,se] at c);have hk1:=c;refine A7 (BH (A1 (A1 (Bi [0,4,6,9,10,11] 31 (fun y=>y= .p (.bool ((decide ((w.var:Int)<(0:Int)))||(decide ((w.var:Int)≥((us.length:Nat):Int)))))) ?_ ?_))))
  ·refine A8 (Ay O (Ax Fc O O) (Ay O (A9 (i:=4) C0 O O (DZ _)) (A5 BA 2 [] O (Ba 25 O (fun g=>?_) (fun g=>?_)))))
   ·(try simp only[sd,se] at g);exact Az BA 6 [] O (⟨O,O,AM,AJ,⟨O,O,O,O,O,O,Aw⟩⟩)
   (try simp only[sd,se] at g);exact BM O (Ax Fc O O) (BM O (A9 (i:=4) C0 O O (DZ _)) (BM O (BB O) (BM O (KH Bq O (Bh _)) (Az BA 2 [] O (⟨O,O,AM,AJ,⟨O,O,O,O,O,O,Aw⟩⟩)))))
  rintro _ rfl;refine A3 O (fun c1=>?_) (fun c1=>?_)
  ·(try simp only[sd,se] at c1);rw[JM hk1 (by simpa [CI] using c1)] at hC;refine A1 (B7 (fun k=>false) D7 (A0 O (fun _=>CB DV B8 O) Aw (BT (j:=0) O O O (fun H i hi=>BI (i:=i) Bd O hi Am) AB Aw (CF O O (CO (i:=3) Bd O O O O O O) AB Aw (A0 O (fun _=>Bb O) Aw (A0 O (fun _=>Bb O) Aw (CF O O (Bc (i:=2) Bd O O O Am Aa (C5 _)) AB Aw (Bv O Ap (BS (Bj (i:=3) O) (BS (ER 7) (A6 (⟨O,_,_,⟨_,_,O,(BJ (i:=3) Bd O O O),⟨_,_,O,O,⟨_,_,O,O,⟨_,_,O,(BJ (i:=2) Bd O O Am),O⟩⟩⟩⟩,(CJ (is:=[5]) O),?_⟩))))))))))));exact⟨⟨(none,l),d⟩,De hC.symm,O,O⟩
  (try simp only[sd,se] at c1);have hcb:=c1;refine A7 (A4 (A5 BA 3 [] O (Ay O (A9 (i:=4) C0 O O (DZ _)) (MZ (i:=1) O Ac fun b hb=>?_))));subst hb;refine Ay O (DE Bq O O Au AI) ?_;obtain⟨y,hy⟩:=BE (l:=us) (i:=(w.var:Int).toNat) AP;refine Ay O (E1 (i:=1) Bd O O (Bn hy)) ?_;rw[K2 hk1 (by simpa [CI] using hcb) hy] at hC;have hn0:=hns;rw[←hC] at hn0;have hn1:=UZ hn0;refine D8 [5] O O O (.inl ⟨O,O,O⟩) (hW m y d hJ hn1) ⟨_,_,O,O,O⟩ As (aw (we O) (aw (we O) (FH))) (fun _ _ h=>(congrArg List.length h).trans O) ?_ ?_
  rotate_left
  ·intro e _ he;exact⟨O,_,List.nil_sublist _,⟨_,by rw[←hC];exact UY hn0 he,rfl⟩⟩
  rintro⟨z,n2⟩ _ hz rfl;obtain⟨hr2,hr3⟩:=Ul hn0 hz;rw[hr3] at hC;have hJ2:=QY hJ (Ii hz);refine Az BA 1 [0,1] O (A4 (A5 BA 2 [0] O (Ay O (CS [5] O (.inl ⟨O,O,O⟩) (Qg m ds n2 z h2 hr2) ⟨_,_,O,O,O⟩ As O (.inl O)) (A5 BA 5 [] O (BP O (BF Je O) fun b12=>Az BA 4 [0,1] O (A1 (A2 BA 2 [] O (A3 O (fun c2=>?_) (fun c2=>?_)))))))))
  ·(try simp only[sd,se] at c2);rw[GQ (N9 c2)] at hC;refine A1 (B7 (fun k=>false) D7 (A0 O (fun _=>CB DV B8 O) Aw (BT (j:=1) O O O (fun H i hi=>BI (i:=i) Bd O hi Am) AB Aw (CF O O (CO (i:=4) Bd O O O O O O) AB Aw (A0 O (fun _=>Bb O) Aw (A0 O (fun _=>Bb O) Aw (CF O O (Bc (i:=3) Bd O O O Am Aa (C5 _)) AB Aw (Bv O Ap (BS (Bj (i:=4) O) (BS (ER 7) (A6 (⟨O,_,_,⟨_,_,O,(BJ (i:=4) Bd O O O),⟨_,_,O,O,⟨_,_,O,O,⟨_,_,O,(BJ (i:=3) Bd O O Am),O⟩⟩⟩⟩,(CJ (is:=[6]) O),?_⟩))))))))))));exact⟨⟨(none,z),n2⟩,De hC.symm,O,O⟩
  (try simp only[sd,se] at c2);have hcs:=Me c2;have hcf:=F4 hcs;have hlo:=hcf.lo;have hhi:=hcf.hi;have hfl:=JS h2 hcs;refine A7 (A1 (B7 (fun k=>Nat.beq k 11) D7 (BT (j:=5) O O O (fun H i hi=>BI (i:=i) HM O hi Af) AB Aw (A0 O (fun _=>Ax Cv O O) Aw (BT (j:=0) O O O (fun H i hi=>A9 (i:=i) Hk O hi (CN _)) AB Aw (A0 O (fun _=>BB O) Aw ?_))))));obtain⟨x,hx⟩:=BE (l:=((CY ds z).1).ctors) (i:=((CY ds z).2.1:Int).toNat) Au;refine A0 O (fun _=>BC HY O O Au (Ek hx) (EN _)) Aw (A0 O (fun _=>Bp I0 O O) Aw (A0 O (fun _=>DP Lm O (Fx _)) Aw (A0 O (fun _=>BN O O (T3 w x.name hL.tin.bl) O) Aw (A0 O (fun _=>BB O) Aw (A0 O (fun _=>By O O) Aw (A0 O (fun _=>By O O) Aw (HJ [] O O (BF VE O) Ap fun b16=>⟨AB,Aw,?_⟩)))))));refine CF O O (Bc (i:=0) HM O O O Af AX (N8 _)) AB Aw (A0 O (fun _=>Bb O) Aw (Bv O Ap (A1 (A2 BA 2 [] O (A3 O (fun c3=>?_) (fun c3=>?_))))))
  ·(try simp only[sd,se] at c3);rw[Ic hcs (by rw[FD,Cm hx];exact V4 c3)] at hC;refine A1 (B7 (fun k=>false) D7 (A0 O (fun _=>CB DV B8 O) Aw (BT (j:=2) O O O (fun H i hi=>BI (i:=i) Bd O hi Am) AB Aw (CF O O (CO (i:=5) Bd O O O O O O) AB Aw (A0 O (fun _=>Bb O) Aw (A0 O (fun _=>Bb O) Aw (CF O O (Bc (i:=4) Bd O O O Am Aa (C5 _)) AB Aw (Bv O Ap (BS (Bj (i:=5) O) (BS (ER 7) (A6 (⟨O,_,_,⟨_,_,O,(BJ (i:=5) Bd O O O),⟨_,_,O,O,⟨_,_,O,O,⟨_,_,O,(BJ (i:=4) Bd O O Am),O⟩⟩⟩⟩,(CJ (is:=[7]) O),?_⟩))))))))))));exact⟨⟨(none,z),n2⟩,De hC.symm,O,O⟩
  (try simp only[sd,se] at c3);have hbs:=Wb c3;rw[IY hcs (by rw[FD,Cm hx];exact hbs)] at hC;refine A7 (A2 BA 2 [0,6,1] O (A8 (A5 BA 2 [] O (FV O O (Cb (i:=3) (rows':=BO ((CY ds z).2.2.1)) Bq Bq B8 O O O O O O (B9 _) (by have:=hL.len;simp only[Bh,List.length_append];omega) (Jj us ((CY ds z).2.2.1))) fun o2 cp2=>Az BA 1 [] O (⟨⟨k1,(bL x.name w.branches).1,us++(CY ds z).2.2.1,z,n2,o2,cp2⟩,AU,⟨hC,hL.next h2 hr2 hcs hbs,hJ2⟩,Bk ⟨we O,we O,we O,we O,we O,we O,Aw⟩ (leH (is:=[2,3,4,5,6,7]) O (wl (oe O) (wl (oe O) (wl (oe O) (wl (oe O) (wl (oe O) (wl (oe O) (DN))))))))⟩)))))
 (try simp only[sd,se] at c);have hk1:=c;rw[H6 hk1] at hC;refine Br (A4 (Ay O (Ax Fc O O) (Ay O (CC (i:=4) Bd O O (FL _) (BL _)) (Az BA 6 [3,1,2,0] O (BS (Cx (i:=1) [10,74,7] O (EH ⟨O,O,O,Aw⟩)) (BS (Bj (i:=1) O) (A6 (⟨O,_,_,⟨_,_,O,(BJ (i:=2) Bd O O Am),⟨_,_,O,O,⟨_,_,O,O,⟨_,_,O,(BJ (i:=1) Bd O O O),O⟩⟩⟩⟩,(CJ (is:=[4]) O),?_⟩))))))));exact⟨⟨(some (w.body,us),Bu),d⟩,De hC.symm,O,O⟩
theorem lI:∀(n m:Nat) (ds:List Cc) (s:Int) (x:Gf) (g:Tm) (a:List Tm) (d:Cc),(mS ds n)→(J7 ds)→(HF s)→(ds[x.decl.toNat]?=some d)→(0≤x.decl)→(DG d)→(okB g=true)→(a.length<549755813888)→(∀y∈a,okB y=true)→(RA ds CI (D6 ds CI n) d g a s≠ .stuck)→B4 Tryz.prog 107 [.ptr m 0,.agg ((Dp x).map .p),.agg ((Bg g).map .p),.p (.lst (BO a))] [.box m [.p (.lst (List.map Bw ds)),.p (I s)]] (LK (fun(r:Option Tm×Int)=> .tup [TV (r.1.getD Bu),.p (.bool r.1.isSome)]) (fun _=> .p (.iface 122 .unit)) (fun r H'=>H'=[.box m [.p (.lst (List.map Bw ds)),.p (I r.2)]]) ((RA ds CI (D6 ds CI n) d g a s).ex)):=by
 intro n m ds s x g a d hW h2 h3 h4 h5 h6 h7 h8 h9 hns;have hnr:=IX h6;generalize hC:RA ds CI (D6 ds CI n) d g a s=X at hns ⊢;refine BD Tryz.func107 O nR (n:=40) O O (A4 (BP O (Bf O) fun b5=>BP O (Bf O) fun b6=>BP O (BF B8 O) fun b8=>Az BA 1 [] O (A1 (B7 (fun k=>Nat.beq k 8) D7 (A0 O (fun _=>BB O) Aw (A0 O (fun _=>CW O) Aw (A0 O (fun _=>Ax R6 O O) Aw (BT (j:=3) O O O (fun H i hi=>BG (i:=i) Rg O hi O) AB Aw (A0 O (fun _=>Ax FG O O) Aw (BT (j:=2) O O O (fun H i hi=>A9 (i:=i) C0 O hi (Ds _)) AB Aw (A0 O (fun _=>BC Hv O O Au (EX h4) (Cw _)) Aw (A0 O (fun _=>BQ EJ O (Cw _)) Aw (HJ [] O O (BF Je O) Ap fun b10=>⟨AB,Aw,?_⟩)))))))))))));refine CF O O (Bc (i:=0) EJ O O O Aj AZ (Jt _)) AB Aw (Bv O Ap (A4 (Ay O (BI (i:=0) EJ O O Aj) (Ay O (BN O O (N5 d h6.din h6.fx) O) (Az BA 1 [] O (A1 (A4 (B6 O (Ay O (BZ Bq O (Bh _)) (Az BA 2 [] O (A3 O (fun c=>?_) (fun c=>?_))))))))))))
 ·(try simp only[sd,se] at c);rw[Nx Au] at hC;refine A2 BA 3 [1,0] O (BS (Bj (i:=1) O) (A6 (⟨O,_,_,⟨_,_,O,(BJ (i:=1) Bd O O O),⟨_,_,O,O,O⟩⟩,(CJ (is:=[4]) O),?_⟩)));exact⟨⟨none,s⟩,De hC.symm,O,O⟩
 (try simp only[sd,se] at c);refine A7 (A1 (B7 (fun k=>Nat.beq k 9||Nat.beq k 10) D7 (A0 O (fun _=>BB O) Aw (BT (j:=0) O O O (fun H i hi=>BI (i:=i) EJ O hi Aj) AB Aw (BT (j:=2) O O O (fun H i hi=>BI (i:=i) Bd O hi Am) AB Aw (A0 O (fun _=>BB O) Aw (A0 O (fun _=>BB O) Aw (A0 O (fun _=>BB O) Aw (A0 O (fun _=>BB O) Aw ?_)))))))));obtain⟨x1,hx1⟩:=BE (l:=a) (i:=(Cj d:Int).toNat) Au;rw[Rp Au hx1] at hC;have hn0:=hns;rw[←hC] at hn0;have hn1:=UZ hn0;refine A0 O (fun _=>BC Bq O O Au (Bn hx1) (BL _)) Aw (A0 O (fun _=>BQ Bd O (BL _)) Aw (PC [4] O O O (.inl ⟨O,O,O⟩) (hW m x1 s h3 hn1) ⟨_,_,O,O,O⟩ As (aw (we O) (aw (we O) (FH))) (fun _ _ h=>(congrArg List.length h).trans O) Ap Ap O AB ?_ ?_))
 rotate_left
 ·intro e he _ _ hτ;exact⟨O,_,List.nil_sublist _,⟨_,by rw[←hC];exact UY hn0 he,rfl⟩⟩
 rintro⟨z,n2⟩ _ hz rfl;refine⟨AB,Aw,?_⟩;obtain⟨hr2,hr3⟩:=Ul hn0 hz;rw[hr3] at hC;simp only at hC;have hJ2:=QY h3 (Ii hz);refine PC [4] O O O (.inl ⟨O,O,O⟩) (UD m ds n2 d g a z hJ2 h2 h6 h7 h8 hr2 Au (by rw[hC];exact hns)) ⟨_,_,O,O,O⟩ As (aw (we O) (aw (we O) (aw (we O) (aw (we O) (aw (we O) (FH)))))) (fun _ _ h=>(congrArg List.length h).trans O) Ap Ap O AB ?_ ?_
 rotate_left
 ·intro e he _ _ hτ;exact⟨O,_,List.nil_sublist _,⟨_,by rw[←hC];exact he,rfl⟩⟩
 rintro⟨q,n21⟩ _ hz1 rfl;refine⟨AB,Aw,?_⟩;have hfin:=hz1;refine A0 O (fun _=>By O O) Aw (A0 O (fun _=>By O O) Aw (CF O O (Bc (i:=1) Bd O O O Am Aa (C5 _)) AB Aw (A0 O (fun _=>Bb O) Aw (Bv O Ap (A6 (⟨O,_,_,⟨_,_,O,(BJ (i:=1) Bd O O Am),⟨_,_,O,O,O⟩⟩,(CJ (is:=[4]) O),?_⟩))))));exact⟨⟨q,n21⟩,by rw[←hC];exact hfin,rfl,rfl⟩
theorem YM:∀(m:Nat) (ds:List Cc) (n:Int) (g p q:Tm),(HF n)→(g.kind=9∨g.kind=10)→(p.kids[(1+g.kind - 9).toNat]?=some q)→B4 Tryz.prog 75 [.ptr m 0,.agg ((Bg g).map .p),.agg ((Bg p).map .p)] [.box m [.p (.lst (List.map Bw ds)),.p (I n)]] (LK (fun(r:Tm×Int)=>TV r.1) (fun _=> .p (.iface 122 .unit)) (fun r H'=>H'=[.box m [.p (.lst (List.map Bw ds)),.p (I r.2)]]) (JW n (q,0))):=by
 intro m ds n g p q h1 h2 h3;obtain⟨gk,gi,gn,gl,gs⟩:=g;obtain⟨pk,pi,pn,pl,ps⟩:=p;simp only[Tm.kind,Tm.kids] at h2 h3;refine BD Tryz.func75 O pt (n:=17) O O (A4 (BP O (Bf O) fun b4=>BP O (Bf O) fun b5=>BP O (BF B8 O) fun b6=>Bt O (A4 (B6 O (D8 [3] O O O (.inl ⟨O,O,O⟩) (OS m ds n h1) ⟨_,_,O,O,O⟩ As (aw (we O) (FH)) (fun _ _ h=>(congrArg List.length h).trans O) ?_ ?_)))))
 rotate_left
 ·intro e _ he;exact⟨O,_,List.nil_sublist _,⟨_,fH he,O⟩⟩
 rintro _ _ hz rfl;refine Bt O (A4 (A5 BA 6 [1,2] O (Ay O (BC Bq O O Au (Bn h3) (BL _)) (Az BA 2 [0,1] O (A6 (⟨O,_,_,⟨_,_,O,(BJ (i:=0) Bd O O Am),O⟩,(CJ (is:=[3]) O),?_⟩))))));exact⟨⟨q,n - 1⟩,mU hz,O,O⟩
end Go.Proofs.YtboammbpdaoojaaGreat
