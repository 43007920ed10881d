/- Part of the proofs: an abstract program logic, plain models and contracts of functions. -/
import Derived.Test.YtajnpndfkbnkoaaGreatPf
import Derived.Test.YtajnpndfkbnkoaaGreatPd
import Derived.Test.YtajnpndfkbnkoaaGreatPe
import Derived.Test.YtajnpndfkbnkoaaGreatPb
import Derived.Test.YtajnpndfkbnkoaaGreatPc
set_option linter.unusedVariables false
set_option linter.unusedSimpArgs false
set_option maxRecDepth 100000
namespace Go.Proofs.YtajnpndfkbnkoaaGreat
open Go.Abs Go.Eu
theorem Ti:∀(n:Nat) (s:Hq) (t:Fv) (vs dp:Int),(Ir t≤n)→(F7 t)→(HA s.env)→(s.own.length<9000000)→(TR s.d)→(0≤dp)→EM Tryz.prog 169 [.agg ((Cs s).map .p),.agg ((DF t).map .p),.p (I vs),.p (I dp)] (J0):=by
 intro n
 induction n with
 | zero=>intro s t vs dp h;have:=Lf t;omega
 | succ n ih =>
  intro s t vs dp h1 h2 h3 h4 h5 h6;have htl:=h2.bl;refine Db Tryz.func169 O (DT [0] O O fun b4=>DT [0] O O fun b5=>?_);refine BH [3] rfl ?_ ?_<;>intro c
  ·refine BF [1] O (B7 [] [] O O ⟨⟨_,O⟩,O⟩)
  refine Ak [1] O (Ai (i:=0) FV O O (Gh _)) ?_;refine BH [2] rfl ?_ ?_<;>intro c1
  ·refine CS [0] 6 [2,4,5] 28 C5 O O ?_ ?_
   ·refine Ak [1] O (Ai (i:=0) FV O O (FC _)) ?_;refine A9 [2] 23 rfl rfl ?_ ?_<;>intro g
    ·exact Bu [5] O (hr:=⟨_,O⟩)
    exact Ak [1] O (Ai (i:=0) IA O O (Bf _)) (CD [0] O O (Ed _) (Bu [2] O (hr:=⟨_,O⟩)))
   rintro _ ⟨q,rfl⟩;refine BH [0] rfl ?_ ?_<;>intro c2
   ·refine BF [1] O (B7 [] [] O O ⟨⟨_,O⟩,O⟩)
   refine Ak [2,1] O (BY (i:=0) Bh O O (Eh _) (An _)) (Ak [3] O (Ai (i:=1) FV O O (Hu _)) (De [0] O (Ci O O (BC O O (E6 s t.body vs s.d.params h2.body h3 h4 h5) (.inl O)) ?_)));rintro _ ⟨e,rfl⟩;refine BT (BF [1] O (B7 [] [] O O ⟨⟨_,O⟩,O⟩))
  refine BH [2] rfl ?_ ?_<;>intro c2
  ·refine Ak [1] O (BY (i:=0) Bh O O (Eh _) (An _)) (Cc [0] O (ID t.body h2.body.nd) ?_);refine BH [1] rfl ?_ ?_<;>intro c3
   ·refine BF [1] O (B7 [] [] O O ⟨⟨_,O⟩,O⟩)
   refine CS [0] 12 [2,3,4,5] 51 C5 O O ?_ ?_
   ·refine Ak [1] O (Ai (i:=0) FV O O (FC _)) ?_;refine A9 [2] 46 rfl rfl ?_ ?_<;>intro g
    ·exact Bu [5] O (hr:=⟨_,O⟩)
    exact Ak [1] O (Ai (i:=0) FV O O (FC _)) (Bu [3] O (hr:=⟨_,O⟩))
   rintro _ ⟨q,rfl⟩;refine BH [0] rfl ?_ ?_<;>intro c4
   ·refine BF [1] O (B7 [] [] O O ⟨⟨_,O⟩,O⟩)
   refine Ak [1] O (Ai (i:=0) IA O O (Bf _)) (CD [0] O O (Ed _) ?_);refine BH [1] rfl ?_ ?_<;>intro c5
   ·refine BF [1] O (B7 [] [] O O ⟨⟨_,O⟩,O⟩)
   refine F3 (α:=Nat) [1] [2,3,4,5] [0,1] (fun i=>[(9,.p (I (i:Int)))]) (fun _=>[]) (fun i=>t.branches.length - i) (fun i=>i≤t.branches.length) 0 O O O AO ?_;rintro i hC
   try simp only at hC
   have hi:=hC;refine Ak [2] O (Ai (i:=0) IA O O (Bf _)) (CD [0] O O (Ed _) ?_);refine BH [1] rfl ?_ ?_<;>intro c6
   ·refine Ak [1] O (Ai (i:=0) IA O O (Bf _)) (Em [1] t.branches i O O O (dF _) (fun x hx=>?_));refine DR [1] O (Am Y3 O) fun b10=>Ak [2,0,1] O (Ai (i:=2) Wp O O (F5 _)) (Ak [1] O (Ai (i:=0) Xm O O (FO _)) (Cc [0] O (OO s.env x.ctor h3) (DR [3] O (Am LA O) fun b11=>CS [2,0,1] 21 [2,3,4,5,9,10,11] 82 (fun y=>∃q:Bool,y= .p (.bool q)∧(q=false→(Cu s.env x.ctor).2=0∧(Cu s.env x.ctor).1.kind=4)) O O ?_ ?_)))
    ·refine A9 [3] 78 rfl rfl ?_ ?_<;>intro g
     ·exact Bu [4] O (hr:=(by refine⟨_,rfl,fun h=>?_⟩;first | (exact absurd h Ae) | exact⟨by simpa using g,by simpa using h⟩))
     refine Ak [1] O (Ai (i:=0) FV O O (KY _)) ?_;exact Bu [2] O (hr:=(by refine⟨_,rfl,fun h=>?_⟩;first | (exact absurd h Ae) | exact⟨by simpa using g,by simpa using h⟩))
    rintro _ ⟨q,rfl,hq⟩;refine BH [0] rfl ?_ ?_<;>intro c7
    ·refine BF [1] O (B7 [] [] O O ⟨⟨_,O⟩,O⟩)
    have ⟨hq1,hq2⟩:=hq (by simpa using c7);have ⟨dd,k1,k2,k3,k4⟩:=T5 hq1 hq2;refine Ak [1] O (Ai (i:=1) gf O O (FF _)) ?_;refine BH [0] rfl ?_ ?_<;>intro c8
    ·refine Ak [1] O (BY (i:=1) OI O O (Ee _) (DD _)) (De [1] O (Ci O O (BC O O (BO.args (RR (Ir x.tree) x.tree (Fv.mk 0 (.mk 0 0 ⟨#[]⟩ [] []:Tm) 0 []) (Nat.le_refl _) (Gu h2.bs hx).tr) (aw (we O) (aw (E9 O) (HY)))) (.inl O)) ?_));rintro _ ⟨q2,rfl⟩;refine BT (BH [1] rfl ?_ ?_)<;>intro c9
     ·refine BF [1] O (B7 [] [] O O ⟨⟨_,O⟩,O⟩)
     exact Fa [3] 2 (i+1) O Af
    refine Jf [0] [12,16] O (DB [2,3] O (Cf (j:=1) O O O (fun H i hi=>BY (i:=i) OI O hi (Ee _) (DD _)) AB Ah (DB [2] O (Cf (j:=3) O O O (fun H i hi=>Ai (i:=i) Wp O hi (F5 _)) AB Ah (DB [1] O (Cf (j:=0) O O O (fun H i hi=>Ai (i:=i) FV O hi (Kw _)) AB Ah ?_))))));have ⟨x1,hx1⟩:=Ap (l:=s.env) (i:=(((Cu s.env x.ctor).1).decl:Int).toNat) (by have:=(List.getElem?_eq_some_iff.1 k2).1;omega);refine Aw O (fun _=>Ao dL O O Af (Sg hx1) (ET _)) Ah (DB [2] O (Cf (j:=0) O O O (fun H i hi=>Ai (i:=i) FV O hi (LM _)) AB Ah (G8 [(14,.free (.p (I dp))),(15,.free (.p (I ((dp:Int)+(1:Int)))))] O O (BC O O (Ub x1 (((Cu s.env x.ctor).1).item) (h3.all _ (List.mem_of_getElem? hx1)) k3 (by have e:=Option.some.inj (k2.symm.trans hx1);subst e;exact k4)) (.inl O)) Ab (⟨_,0,O⟩) AB ?_)));rintro _ ⟨e,rfl⟩;refine⟨Ah,?_⟩;refine Aw O (fun _=>EO O O) AN (DB [2] O (G8 [] O O (BC O O (ih s x.tree (wr ((vs:Int)+(e:Int))) ((dp:Int)+(1:Int)) (by have:=Nq hx;omega) (Gu h2.bs hx).tr h3 h4 h5 Af) (.inl O)) Ab (⟨_,0,O⟩) AB ?_));rintro _ ⟨e1,rfl⟩;refine⟨AN,?_⟩;refine GU [1] rfl (BH [2] rfl ?_ ?_)<;>intro c9
    ·refine BF [2] O (B7 [] [] O O ⟨⟨_,O⟩,O⟩)
    exact Fa [3] 2 (i+1) O Af
   refine C6 [0] O (BF [1] O (B7 [] [] O O ⟨⟨_,O⟩,O⟩))
  refine BF [1] O (B7 [] [] O O ⟨⟨_,O⟩,O⟩)
theorem Vs:∀(ds:List B4) (d:B4),(HA ds)→(TR d)→EM Tryz.prog 127 [.p (.lst (List.map Bn ds)),.agg ((Bn d).map .p)] (J0):=by
 intro ds d h1 h2;have hn:=KE d;have hcl:=h2.cl;have hfl:=h2.fl;have hrl:=h2.rl;refine Db Tryz.func127 O (DT [0] O O fun b3=>Ak [3,0] O (YP gG bj (eV O O O)) (DR [0] O (Am bj O) fun b5=>Ak [2,0,1] O (Ai (i:=1) FV O O (Ch _)) (CS [1] 999999 [3,5] 17 (fun _=>True) O O ?_ ?_)))
 ·refine BH [0] rfl ?_ ?_<;>intro c
  ·refine Ak [2,0] O (BY (i:=1) Bh O O (D8 _) (An _)) (Ak [1] O (Ai (i:=1) FV O O (B3 _)) (De [0] O (Ci O O (BC O O (E6 (Hq.mk ds [] d) d.type 0 d.params h2.ty h1 Ag h2) (.inl O)) ?_)));rintro _ ⟨e,rfl⟩;refine BT (BH [3] rfl ?_ ?_)<;>intro c1
   ·refine BF [2] O (B7 [] [] O O ⟨⟨_,O⟩,O⟩)
   exact Bu [0] O (hr:=Ah)
  exact Bu [0] O (hr:=Ah)
 intro _ _;refine Ak [1] O (Ai (i:=1) FV O O (Ch _)) (CS [2] 999999 [3,5,33] 34 C5 O O ?_ ?_)
 ·refine BH [0] rfl ?_ ?_<;>intro c
  ·exact Bu [0] O (hr:=⟨_,O⟩)
  exact Bu [2] O (hr:=⟨_,O⟩)
 rintro _ ⟨q,rfl⟩;refine BH [0] rfl ?_ ?_<;>intro c
 ·refine Ak [2,0] O (BY (i:=1) Bh O O (Dp _) (An _)) (Ak [1] O (Ai (i:=1) FV O O (B3 _)) (De [0] O (Ci O O (BC O O (E6 (Hq.mk ds [] d) d.value 0 d.params h2.vl h1 Ag h2) (.inl O)) ?_)));rintro _ ⟨e,rfl⟩;refine BT (BF [1] O (B7 [] [] O O ⟨⟨_,O⟩,O⟩))
 refine BH [2] rfl ?_ ?_<;>intro c1
 ·have hn1:=Vk (d:=d) (by simpa using c1);refine Ak [1] O (Ai (i:=1) Xm O O (Ec _)) (Ak [0] O (Ay GW aI O O O O O) (Ak [1] O (DS (i:=0) (ds:=(Cs (Hq.mk ds [d.name] d)).map .p) SX O O O O O O O) (F3 (α:=Nat) [1] [3,5] [0,1] (fun i=>[(7,.p (I (i:Int)))]) (fun _=>[]) (fun i=>d.ctors.length - i) (fun i=>i≤d.ctors.length) 0 O O O AO ?_)));rintro i hC
  try simp only at hC
  have hi:=hC;refine Ak [2] O (Ai (i:=1) HN O O (Bw _)) (CD [0] O O (List.length_map _) ?_);refine BH [1] rfl ?_ ?_<;>intro c2
  ·refine Jf [0] [9] O (DB [2,0] O (Cf (j:=1) O O O (fun H i hi=>Ai (i:=i) HN O hi (Bw _)) AB Ah (Aw O (fun _=>Be O) Ah ?_)));have ⟨x,hx⟩:=Ap (l:=d.ctors) (i:=i) Af;refine Aw O (fun _=>Ao VG O O Af (JZ hx) (FD _)) Ah (Aw O (fun _=>CV Y8 O O) Ah (Aw O (fun _=>Cn Bh O (Ef _) (An _)) Ah (Aw O (fun _=>BL Og O O) Ah (Cf (j:=1) O O O (fun H i hi=>Ai (i:=i) FV O hi (B3 _)) AB Ah (G8 [] O O (BC O O (E6 (Hq.mk ds [d.name] d) x.type 0 d.params (h2.cs _ (List.mem_of_getElem? hx)).ty h1 Ag h2) (.inl O)) Ab (⟨_,0,O⟩) AB ?_)))));rintro _ ⟨e,rfl⟩;refine⟨Ah,?_⟩;refine GU [1] rfl (BH [2] rfl ?_ ?_)<;>intro c3
   ·refine BF [2] O (B7 [] [] O O ⟨⟨_,O⟩,O⟩)
   exact Fa [3] 0 (i+1) O Af
  refine C6 [0] O (Cc [1,1] O (Ja d h2.cl h2.fl h2.nm) (CD [3] O O (List.length_map _) (Ak [1] O (E5 (lo:=0) (hi:=((((CA d).length:Nat):Int) - (1:Int):Int).toNat) GW O (HQ (H4 _)) O ⟨_,pI Af⟩ (Nat.zero_le _) AP (RW (f:=FX) (CA d) (((((CA d).length:Nat):Int) - (1:Int):Int).toNat))) (Ak [1] O (DS (i:=0) (ds:=(Cs (Hq.mk ds ((CA d).take (((((CA d).length:Nat):Int) - (1:Int):Int).toNat)) d)).map .p) SX O O O O O O O) (Ak [3,0] O (BY (i:=1) Bh O O (Dj _) (An _)) (Ak [2] O (Ai (i:=1) FV O O (CO _)) (De [0] O (Ci O O (BC O O (E6 (Hq.mk ds ((CA d).take (((((CA d).length:Nat):Int) - (1:Int):Int).toNat)) d) d.recs.type 0 d.recs.params h2.rt h1 Aa h2) (.inl O)) ?_))))))));rintro _ ⟨e,rfl⟩;refine BT (BH [3] rfl ?_ ?_)<;>intro c3
  ·refine BF [2] O (B7 [] [] O O ⟨⟨_,O⟩,O⟩)
  refine Ak [2] O (DS (i:=0) (ds:=(Cs (Hq.mk ds (CA d) d)).map .p) SX O O O O O O O) (F3 (α:=Nat) [1] [3,5] [0,1] (fun i=>[(11,.p (I (i:Int)))]) (fun _=>[]) (fun i=>d.recs.rules.length - i) (fun i=>i≤d.recs.rules.length) 0 O O O AO ?_);rintro i hC1
  try simp only at hC1
  have hi:=hC1;refine Ak [3] O (Ai (i:=1) Jr O O (CB _)) (CD [0] O O (Av _) ?_);refine BH [1] rfl ?_ ?_<;>intro c4
  ·refine Jf [0] [10] O (DB [3,0] O (Cf (j:=1) O O O (fun H i hi=>Ai (i:=i) Jr O hi (CB _)) AB Ah (Aw O (fun _=>Be O) Ah ?_)));have ⟨x,hx⟩:=Ap (l:=d.recs.rules) (i:=i) Af;refine Aw O (fun _=>Ao Bc O O Af (B9 hx) (An _)) Ah (DB [3] O (Cf (j:=1) O O O (fun H i hi=>Ai (i:=i) FV O hi (CO _)) AB Ah (G8 [] O O (BC O O (E6 (Hq.mk ds (CA d) d) x 0 d.recs.params (h2.rs _ (List.mem_of_getElem? hx)) h1 (by simp only;omega) h2) (.inl O)) Ab (⟨_,0,O⟩) AB ?_)));rintro _ ⟨e1,rfl⟩;refine⟨Ah,?_⟩;refine GU [1] rfl (BH [2] rfl ?_ ?_)<;>intro c5
   ·refine BF [2] O (B7 [] [] O O ⟨⟨_,O⟩,O⟩)
   exact Fa [3] 0 (i+1) O Af
  refine C6 [0] O (BF [1] O (B7 [] [] O O ⟨⟨_,O⟩,O⟩))
 refine BH [2] rfl ?_ ?_<;>intro c2
 ·refine F3 (α:=Nat) [1] [3,5] [0,1] (fun i=>[(13,.p (I (i:Int)))]) (fun _=>[]) (fun i=>d.funs.length - i) (fun i=>i≤d.funs.length) 0 O O O AO ?_;rintro i hC
  try simp only at hC
  have hi:=hC;refine Ak [2] O (Ai (i:=1) FP O O (Bb _)) (CD [0] O O (List.length_map _) ?_);refine BH [1] rfl ?_ ?_<;>intro c3
  ·refine Jf [0] [9] O (DB [2,0] O (Cf (j:=1) O O O (fun H i hi=>Ai (i:=i) FP O hi (Bb _)) AB Ah (Aw O (fun _=>Be O) Ah ?_)));have ⟨x,hx⟩:=Ap (l:=d.funs) (i:=i) Af;refine Aw O (fun _=>Ao OU O O Af (G5 hx) (EW _)) Ah (Aw O (fun _=>CV Uq O O) Ah (Aw O (fun _=>Cn Bh O (Gi _) (An _)) Ah (Aw O (fun _=>BL Og O O) Ah (Cf (j:=1) O O O (fun H i hi=>Ai (i:=i) FV O hi (B3 _)) AB Ah (G8 [] O O (BC O O (E6 (Hq.mk ds [] d) x.type 0 d.params (h2.fs _ (List.mem_of_getElem? hx)).ty h1 Ag h2) (.inl O)) Ab (⟨_,0,O⟩) AB ?_)))));rintro _ ⟨e,rfl⟩;refine⟨Ah,?_⟩;refine GU [1] rfl (BH [2] rfl ?_ ?_)<;>intro c4
   ·refine BF [2] O (B7 [] [] O O ⟨⟨_,O⟩,O⟩)
   exact Fa [3] 0 (i+1) O Af
  refine C6 [0] O (Cc [1,1] O (Ja d h2.cl h2.fl h2.nm) (Ak [1] O (DS (i:=0) (ds:=(Cs (Hq.mk ds (CA d) d)).map .p) SX O O O O O O O) (F3 (α:=Nat) [1] [3,5] [0,1] (fun i=>[(15,.p (I (i:Int)))]) (fun _=>[]) (fun i=>d.funs.length - i) (fun i=>i≤d.funs.length) 0 O O O AO ?_)));rintro i hC1
  try simp only at hC1
  have hi:=hC1;refine Ak [2] O (Ai (i:=1) FP O O (Bb _)) (CD [0] O O (List.length_map _) ?_);refine BH [1] rfl ?_ ?_<;>intro c4
  ·refine Jf [0] [13] O (DB [2,0] O (Cf (j:=1) O O O (fun H i hi=>Ai (i:=i) FP O hi (Bb _)) AB Ah (Aw O (fun _=>Be O) Ah ?_)));have ⟨x,hx⟩:=Ap (l:=d.funs) (i:=i) Af;refine Aw O (fun _=>Ao OU O O Af (G5 hx) (EW _)) Ah (Aw O (fun _=>CV Uq O O) Ah (Aw O (fun _=>Cn OI O (Ih _) (DD _)) Ah (Aw O (fun _=>BL Og O O) Ah (Cf (j:=1) O O O (fun H i hi=>Ai (i:=i) FP O hi (Bb _)) AB Ah (Aw O (fun _=>Be O) Ah (Aw O (fun _=>Ao OU O O Af (G5 hx) (EW _)) Ah (Aw O (fun _=>CV Uq O O) Ah (Aw O (fun _=>EP FV O (Ft _)) Ah (G8 [] O O (BC O O (Ti (Ir x.tree) (Hq.mk ds (CA d) d) x.tree x.arity 0 (Nat.le_refl _) (h2.fs _ (List.mem_of_getElem? hx)).tr h1 (by simp only;omega) h2 Af) (.inl O)) Ab (⟨_,0,O⟩) AB ?_)))))))));rintro _ ⟨e,rfl⟩;refine⟨Ah,?_⟩;refine GU [1] rfl (BH [2] rfl ?_ ?_)<;>intro c5
   ·refine BF [2] O (B7 [] [] O O ⟨⟨_,O⟩,O⟩)
   exact Fa [3] 0 (i+1) O Af
  refine C6 [0] O (BF [1] O (B7 [] [] O O ⟨⟨_,O⟩,O⟩))
 refine BF [1] O (B7 [] [] O O ⟨⟨_,O⟩,O⟩)
theorem Yv:∀(ds:List B4) (d:B4),(HA ds)→(TR d)→EM Tryz.prog 85 [.p (.lst (List.map Bn ds)),.agg ((Bn d).map .p)] (J0):=by
 intro ds d h1 h2;refine Db Tryz.func85 O (DT [0] O O fun b3=>CS [1] 1 [0,3] 14 C5 O O ?_ ?_)
 ·refine Ak [1] O (Ai (i:=0) FV O O (Ch _)) ?_;refine A9 [2] 10 rfl rfl ?_ ?_<;>intro g
  ·exact Bu [4] O (hr:=⟨_,O⟩)
  exact Ak [1] O (Ai (i:=0) FV O O (Ch _)) (Bu [2] O (hr:=⟨_,O⟩))
 rintro _ ⟨q,rfl⟩;refine BH [0] rfl ?_ ?_<;>intro c
 ·refine BF [1] O (B7 [] [] O O ⟨⟨_,O⟩,O⟩)
 refine De [1,0] O (Ci O O (BC O O (Tc d h2) (.inl O)) ?_);rintro _ ⟨q1,rfl⟩;refine BT (BH [1] rfl ?_ ?_)<;>intro c1
 ·refine BF [1] O (B7 [] [] O O ⟨⟨_,O⟩,O⟩)
 refine De [1,0] O (Ci O O (BC O O (Tt d h2) (.inl O)) ?_);rintro _ ⟨e,rfl⟩;refine BT (BH [3] rfl ?_ ?_)<;>intro c2
 ·refine BF [2] O (B7 [] [] O O ⟨⟨_,O⟩,O⟩)
 refine De [2,0] O (Ci O O (BC O O (Pe ds d h1 h2) (.inl O)) ?_);rintro _ ⟨e1,rfl⟩;refine BT (BH [3] rfl ?_ ?_)<;>intro c3
 ·refine BF [2] O (B7 [] [] O O ⟨⟨_,O⟩,O⟩)
 refine De [2,0] O (Ci O O (BC O O (Vs ds d h1 h2) (.inl O)) ?_);rintro _ ⟨e2,rfl⟩;refine BT (BF [1] O (B7 [] [] O O ⟨⟨_,O⟩,O⟩))
theorem UP:∀(ds:List B4),(HA ds)→EM Tryz.prog 48 [.p (.lst (List.map Bn ds))] (fun v=>∃a e:Int,v= .tup [.p (I a),.p (I e)]):=by
 intro ds h1;have hl:=h1.len;refine Db Tryz.func48 O (CD [3] O O (List.length_map _) ?_);refine BH [1] rfl ?_ ?_<;>intro c
 ·refine BF [2] O (B7 [] [] O O ⟨⟨_,_,O⟩,O⟩)
 refine F3 (α:=Nat) [1] [0] [] (fun i=>[(4,.p (I (i:Int)))]) (fun _=>[]) (fun i=>ds.length - i) (fun i=>i≤ds.length) 0 O O O AO ?_;rintro i hC
 try simp only at hC
 have hi:=hC;refine CD [2] O O (List.length_map _) ?_;refine BH [1] rfl ?_ ?_<;>intro c1
 ·refine Jf [0] [7] O (DB [2] O (Aw O (fun _=>E5 (lo:=0) (hi:=i) dL O (HQ (V8 _)) O ⟨_,O⟩ (Nat.zero_le _) AP (RW (f:=Bn) ds i)) Ah (DB [2] O ?_)));have ⟨x,hx⟩:=Ap (l:=ds) (i:=i) Af;refine Aw O (fun _=>Ao dL O O Af (Sg hx) (ET _)) Ah (Aw O (fun _=>Bl cG O (ET _)) Ah (G8 [] O O (BC O O (Yv (ds.take i) x (h1.take _) (h1.all _ (List.mem_of_getElem? hx))) (.inl O)) Ab (⟨_,0,O⟩) AB ?_));rintro _ ⟨e,rfl⟩;refine⟨Ah,?_⟩;refine GU [1] rfl (BH [2] rfl ?_ ?_)<;>intro c2
  ·refine BF [4] O (B7 [] [] O O ⟨⟨_,_,O⟩,O⟩)
  exact Fa [3] 0 (i+1) O Af
 refine C6 [0] O (BF [2] O (B7 [] [] O O ⟨⟨_,_,O⟩,O⟩))
theorem Fm:∀(t:Tm),(TQ t)→EE Tryz.prog 122 [.agg ((BB t).map .p)] (.p (.bool (decide (Ei t≤400)&&decide (DZ t≤150)))):=by
 intro t h1;refine Db Tryz.func122 O (DT [0] O O fun b1=>DM [1] 1 [] 2 ((decide ((Ei t:Int)≤(400:Int)))&&(decide ((DZ t:Int)≤(150:Int)))) O O ?_ ?_)
 ·refine Cc [1,0] O (bB _ t (Nat.le_refl _) h1.nd) ?_;refine A9 [2] 6 rfl rfl ?_ ?_<;>intro g
  ·exact Cc [1,0] O (X0 _ t (Nat.le_refl _) h1.nd) (Bu [3] O)
  exact Bu [5] O
 refine BF [0] O (B7 [] [] O O ⟨O,O⟩)
theorem PQ:∀(n:Nat) (t:Fv) (dp:Int),(Ir t≤n)→(F7 t)→(-1000<dp∧dp<1000)→EM Tryz.prog 123 [.agg ((DF t).map .p),.p (I dp)] (C5):=by
 intro n
 induction n with
 | zero=>intro t dp h;have:=Lf t;omega
 | succ n ih =>
  intro t dp h1 h2 h3;have htl:=h2.bl;refine Db Tryz.func123 O (DT [0] O O fun b2=>CS [1] 1 [1,2] 19 (fun y=>∃q:Bool,y= .p (.bool q)∧(q=false→dp≤40)) O O ?_ ?_)
  ·refine A9 [3] 8 rfl rfl ?_ ?_<;>intro g
   ·exact Bu [11] O (hr:=(by refine⟨_,rfl,fun h=>?_⟩;first | (exact absurd h Ae) | omega))
   refine Ak [1] O (Ai (i:=0) IA O O (Bf _)) (CD [0] O O (Ed _) ?_);refine A9 [3] 14 rfl rfl ?_ ?_<;>intro g1
   ·exact Bu [5] O (hr:=(by refine⟨_,rfl,fun h=>?_⟩;first | (exact absurd h Ae) | omega))
   exact Ak [1] O (BY (i:=0) Bh O O (Eh _) (An _)) (Cc [0] O (Fm t.body h2.body) (Bu [2] O (hr:=(by refine⟨_,rfl,fun h=>?_⟩;first | (exact absurd h Ae) | omega))))
  rintro _ ⟨q,rfl,hq⟩;refine BH [0] rfl ?_ ?_<;>intro c
  ·refine BF [1] O (B7 [] [] O O ⟨⟨_,O⟩,O⟩)
  have hq1:=hq (by simpa using c);refine F3 (α:=Nat) [1] [1,2] [0] (fun i=>[(5,.p (I (i:Int)))]) (fun _=>[]) (fun i=>t.branches.length - i) (fun i=>i≤t.branches.length) 0 O O O AO ?_;rintro i hC
  try simp only at hC
  have hi:=hC;refine Ak [2] O (Ai (i:=0) IA O O (Bf _)) (CD [0] O O (Ed _) ?_);refine BH [1] rfl ?_ ?_<;>intro c1
  ·refine CS [0] 6 [1,2,5] 46 C5 O O ?_ ?_
   ·refine Ak [1] O (Ai (i:=0) IA O O (Bf _)) (Em [1] t.branches i O O O (dF _) (fun x hx=>?_));refine Ak [1] O (Cn OI O (Ee _) (DD _)) (De [2] O (Ci O O (BC O O (ih x.tree ((dp:Int)+(1:Int)) (by have:=Nq hx;omega) (Gu h2.bs hx).tr Af) (.inl O)) ?_));rintro _ ⟨q1,rfl⟩;refine BT (A9 [2] 37 rfl rfl ?_ ?_)<;>intro g
    ·exact Bu [9] O (hr:=⟨_,O⟩)
    exact Ak [1] O (Ai (i:=0) IA O O (Bf _)) (Ak [1] O (Ao XP O O Af (MA hx) (Dy _)) (Ak [1] O (EP Xm O (FO _)) (Ak [0] O (ER bQ O) (Bu [2] O (hr:=⟨_,O⟩)))))
   rintro _ ⟨q1,rfl⟩;refine BH [0] rfl ?_ ?_<;>intro c2
   ·refine BF [1] O (B7 [] [] O O ⟨⟨_,O⟩,O⟩)
   exact Fa [3] 0 (i+1) O Af
  refine C6 [0] O (BF [1] O (B7 [] [] O O ⟨⟨_,O⟩,O⟩))
theorem S0:∀(d:B4),(TR d)→EM Tryz.prog 84 [.agg ((Bn d).map .p)] (C5):=by
 intro d h1;have hcl:=h1.cl;have hfl:=h1.fl;have hrl:=h1.rl;refine Db Tryz.func84 O (DT [0] O O fun b1=>CS [1] 1 [1] 47 C5 O O ?_ ?_)
 ·refine Ak [1] O (Ai (i:=0) Xm O O (Ec _)) (Ak [0] O (ER bQ O) ?_);refine A9 [2] 10 rfl rfl ?_ ?_<;>intro g
  ·exact Bu [37] O (hr:=⟨_,O⟩)
  refine Ak [1] O (BY (i:=0) Bh O O (D8 _) (An _)) (Cc [0] O (Fm d.type h1.ty) ?_);refine A9 [3] 16 rfl rfl ?_ ?_<;>intro g1
  ·exact Bu [31] O (hr:=⟨_,O⟩)
  refine Ak [1] O (BY (i:=0) Bh O O (Dp _) (An _)) (Cc [0] O (Fm d.value h1.vl) ?_);refine A9 [3] 22 rfl rfl ?_ ?_<;>intro g2
  ·exact Bu [25] O (hr:=⟨_,O⟩)
  refine Ak [1] O (Ai (i:=0) HN O O (Bw _)) (CD [0] O O (List.length_map _) ?_);refine A9 [3] 28 rfl rfl ?_ ?_<;>intro g3
  ·exact Bu [19] O (hr:=⟨_,O⟩)
  refine Ak [1] O (Ai (i:=0) FP O O (Bb _)) (CD [0] O O (List.length_map _) ?_);refine A9 [3] 34 rfl rfl ?_ ?_<;>intro g4
  ·exact Bu [13] O (hr:=⟨_,O⟩)
  refine Ak [2] O (BY (i:=0) Bh O O (Dj _) (An _)) (Cc [0] O (Fm d.recs.type h1.rt) ?_);refine A9 [3] 41 rfl rfl ?_ ?_<;>intro g5
  ·exact Bu [6] O (hr:=⟨_,O⟩)
  exact Ak [2] O (Ai (i:=0) Jr O O (CB _)) (CD [0] O O (Av _) (Bu [2] O (hr:=⟨_,O⟩)))
 rintro _ ⟨q,rfl⟩;refine BH [0] rfl ?_ ?_<;>intro c
 ·refine BF [1] O (B7 [] [] O O ⟨⟨_,O⟩,O⟩)
 refine F3 (α:=Nat) [1] [1] [0] (fun i=>[(3,.p (I (i:Int)))]) (fun _=>[]) (fun i=>d.ctors.length - i) (fun i=>i≤d.ctors.length) 0 O O O AO ?_;rintro i hC
 try simp only at hC
 have hi:=hC;refine Ak [2] O (Ai (i:=0) HN O O (Bw _)) (CD [0] O O (List.length_map _) ?_);refine BH [1] rfl ?_ ?_<;>intro c1
 ·refine CS [0] 6 [1,3] 72 C5 O O ?_ ?_
  ·refine Ak [1] O (Ai (i:=0) HN O O (Bw _)) (Em [1] d.ctors i O O O (IK FD) (fun x hx=>?_));refine Ak [1] O (EP Xm O (K5 _)) (Ak [0] O (ER bQ O) ?_);refine A9 [2] 63 rfl rfl ?_ ?_<;>intro g
   ·exact Bu [9] O (hr:=⟨_,O⟩)
   exact Ak [1] O (Ai (i:=0) HN O O (Bw _)) (Ak [1] O (Ao VG O O Af (JZ hx) (FD _)) (Ak [1] O (Cn Bh O (Ef _) (An _)) (Cc [0] O (Fm x.type (h1.cs _ (List.mem_of_getElem? hx)).ty) (Bu [2] O (hr:=⟨_,O⟩)))))
  rintro _ ⟨q1,rfl⟩;refine BH [0] rfl ?_ ?_<;>intro c2
  ·refine BF [1] O (B7 [] [] O O ⟨⟨_,O⟩,O⟩)
  exact Fa [3] 0 (i+1) O Af
 refine C6 [0] O (F3 (α:=Nat) [1] [1] [0] (fun i=>[(4,.p (I (i:Int)))]) (fun _=>[]) (fun i=>d.recs.rules.length - i) (fun i=>i≤d.recs.rules.length) 0 O O O AO ?_);rintro i hC1
 try simp only at hC1
 have hi:=hC1;refine Ak [3] O (Ai (i:=0) Jr O O (CB _)) (CD [0] O O (Av _) ?_);refine BH [1] rfl ?_ ?_<;>intro c2
 ·refine Ak [2] O (Ai (i:=0) Jr O O (CB _)) (Em [1] d.recs.rules i O O O (Jt _) (fun x hx=>?_));refine Cc [1] O (Fm x (h1.rs _ (List.mem_of_getElem? hx))) ?_;refine BH [1] rfl ?_ ?_<;>intro c3
  ·refine BF [1] O (B7 [] [] O O ⟨⟨_,O⟩,O⟩)
  exact Fa [3] 0 (i+1) O Af
 refine C6 [0] O (F3 (α:=Nat) [1] [1] [0] (fun i=>[(5,.p (I (i:Int)))]) (fun _=>[]) (fun i=>d.funs.length - i) (fun i=>i≤d.funs.length) 0 O O O AO ?_);rintro i hC2
 try simp only at hC2
 have hi:=hC2;refine Ak [2] O (Ai (i:=0) FP O O (Bb _)) (CD [0] O O (List.length_map _) ?_);refine BH [1] rfl ?_ ?_<;>intro c3
 ·refine CS [0] 16 [1,5] 123 C5 O O ?_ ?_
  ·refine Ak [1] O (Ai (i:=0) FP O O (Bb _)) (Em [1] d.funs i O O O (IK EW) (fun x hx=>?_));refine Ak [1] O (EP Xm O (KV _)) (Ak [0] O (ER bQ O) ?_);refine A9 [2] 104 rfl rfl ?_ ?_<;>intro g
   ·exact Bu [19] O (hr:=⟨_,O⟩)
   refine Ak [1] O (Ai (i:=0) FP O O (Bb _)) (Ak [1] O (Ao OU O O Af (G5 hx) (EW _)) (Ak [1] O (Cn Bh O (Gi _) (An _)) (Cc [0] O (Fm x.type (h1.fs _ (List.mem_of_getElem? hx)).ty) ?_)));refine A9 [3] 114 rfl rfl ?_ ?_<;>intro g1
   ·exact Bu [9] O (hr:=⟨_,O⟩)
   refine Ak [1] O (Ai (i:=0) FP O O (Bb _)) (Ak [1] O (Ao OU O O Af (G5 hx) (EW _)) (Ak [1] O (Cn OI O (Ih _) (DD _)) (De [0] O (EJ O O O O (BC O O (PQ (Ir x.tree) x.tree 0 (Nat.le_refl _) (h1.fs _ (List.mem_of_getElem? hx)).tr Af) (.inl O)) ?_))));rintro _ ⟨q1,rfl⟩;refine BT (L0 [2] O ?_);exact⟨O,O,AK,⟨_,O⟩,⟨O,O,Ah⟩⟩
  rintro _ ⟨q1,rfl⟩;refine BH [0] rfl ?_ ?_<;>intro c4
  ·refine BF [1] O (B7 [] [] O O ⟨⟨_,O⟩,O⟩)
  exact Fa [3] 0 (i+1) O Af
 refine C6 [0] O (BF [1] O (B7 [] [] O O ⟨⟨_,O⟩,O⟩))
theorem ZU:∀(ds:List B4),(HA ds)→EM Tryz.prog 47 [.p (.lst (List.map Bn ds))] (C5):=by
 intro ds h1;have hl:=h1.len;refine Db Tryz.func47 O (F3 (α:=Nat) [2] [0] [] (fun i=>[(3,.p (I (i:Int)))]) (fun _=>[]) (fun i=>ds.length - i) (fun i=>i≤ds.length) 0 O O O AO ?_);rintro i hC
 try simp only at hC
 have hi:=hC;refine CS [0] 2 [0,3] 11 (fun y=>∃q:Bool,y= .p (.bool q)∧(q=true→i<ds.length)) O O ?_ ?_
 ·refine CD [2] O O (List.length_map _) ?_;refine A9 [2] 8 rfl rfl ?_ ?_<;>intro g
  ·exact Bu [3] O (hr:=(by refine⟨_,rfl,fun h=>?_⟩;first | (exact absurd h Ae) | omega))
  exact Bu [3] O (hr:=(by refine⟨_,rfl,fun h=>?_⟩;first | (exact absurd h Ae) | omega))
 rintro _ ⟨q,rfl,hq⟩;refine BH [0] rfl ?_ ?_<;>intro c
 ·have hq1:=hq (by simpa using c);refine Em [2] ds i O O O (IK ET) (fun x hx=>?_);refine De [1] O (Ci O O (BC O O (S0 x (h1.all _ (List.mem_of_getElem? hx))) (.inl O)) ?_);rintro _ ⟨q1,rfl⟩;refine BT (BH [1] rfl ?_ ?_)<;>intro c1
  ·refine BF [1] O (B7 [] [] O O ⟨⟨_,O⟩,O⟩)
  exact Fa [3] 0 (i+1) O Af
 refine C6 [0] O (CD [1] O O (List.length_map _) (BF [2] O (B7 [] [] O O ⟨⟨_,O⟩,O⟩)))
theorem Wn:∀(ds:List B4),(HA ds)→EM Tryz.prog 17 [.p (.lst (List.map Bn ds))] (C5):=by
 intro ds h1;refine Db Tryz.func17 O (De [2] O (Ci O O (BC O O (ZU ds h1) (.inl O)) ?_));rintro _ ⟨q,rfl⟩;refine BT (BH [1] rfl ?_ ?_)<;>intro c
 ·refine BF [1] O (B7 [] [] O O ⟨⟨_,O⟩,O⟩)
 refine De [1] O (Ci O O (BC O O (UP ds h1) (.inl O)) ?_);rintro _ ⟨a,e,rfl⟩;refine BT (BF [8] O (B7 [] [] O O ⟨⟨_,O⟩,O⟩))
theorem XO:∀(a b:List Mv),(a.length<C7)→(∀m∈a,Nd m.type∧Nd m.value)→EE Tryz.prog 39 [.p (.lst (List.map B5 a)),.p (.lst (List.map B5 b)),.p (.fn 40)] (.p (.bool (PO a b))):=by
 intro a b h1 h2;simp only[C7] at h1;refine Db Tryz.func39 O (CD [2] O O (List.length_map _) (CD [1] O O (List.length_map _) ?_));refine BH [1] rfl ?_ ?_<;>intro c
 ·refine BF [1] O (B7 [] [] O O ⟨pB (ED (fun h=>by subst h;omega)).symm,rfl⟩)
 refine CD [1] O O (List.length_map _) (F3 (α:=Nat) [1] [1,2,15,16] [] (fun i=>[(17,.p (I (i:Int)))]) (fun _=>[]) (fun i=>a.length - i) (fun i=>i≤a.length∧(agree a b i)) 0 O O O (⟨by omega,Gy _ _⟩) ?_);rintro i hC
 try simp only at hC
 have ⟨hi,hC⟩:=hC;refine BH [1] rfl ?_ ?_<;>intro c1
 ·refine Em [1] a i O O O (IK DH) (fun x hx=>?_);refine DR [1] O (Am UD O) fun b8=>Ak [1] O (Cm (i:=0) dg O O O (by simp[DH]) (by first | rfl | simp[DH]) (Qz _)) (Em [2] b i O O O (IK DH) (fun x1 hx1=>?_));refine DR [1] O (Am UD O) fun b9=>Ak [0] O (Cm (i:=0) dg O O O (by simp[DH]) (by first | rfl | simp[DH]) (Qz _)) (Cc [3,1,0] O (Tu x x1 (h2 x (List.mem_of_getElem? hx)).1 (h2 x (List.mem_of_getElem? hx)).2) ?_);refine BH [1] rfl ?_ ?_<;>intro c2
  ·refine BF [1] O (B7 [] [] O O ⟨pB (ED (fun h=>by subst h;rw[hx] at hx1;injection hx1 with e;subst e;simp[A2] at c2)).symm,rfl⟩)
  exact Fa [2] 2 (i+1) O (⟨by omega,HB hC hx (by rw[hx1,Ga.1 c2])⟩)
 refine C6 [0] O (BF [1] O (B7 [] [] O O ⟨pB (A2 (H9 hC Af Af)).symm,O⟩))
end Go.Proofs.YtajnpndfkbnkoaaGreat
namespace Go.Eu
open Go.Abs
theorem ON {m v dd k i:Int}{n:ByteArray}{l:List DK}{ks:List Tm}(h:wf v m dd (.mk k i n l ks)) (hc:Cw (.mk k i n l ks)) (hk:k=0):0≤i∧i - dd<v∧Tm.mk k i n l ks=Dc i:=by
 have ⟨a1,a2,a3,a4,a5,a6⟩:=h;have ⟨⟨c1,c2,c3,c4⟩,c5⟩:=hc;have hks:ks=[]:=by subst hk;simp[arity] at a3;exact a3
 have hn:n=⟨#[]⟩:=by apply Classical.byContradiction;intro hn;have:=c2 hn;omega
 have hl:l=[]:=List.length_eq_zero_iff.1 (c4 Af Af);have ⟨b1,b2⟩:=a4 hk;subst hk hn hl hks;exact⟨b1,b2,rfl⟩
theorem Fk {c d i:Int}(h:0≤i∧i≤60000) (hd:0≤d∧d≤60000) (hc:0≤c∧i+c≤65000):BU c 0 d 0 (Dc i)=if i<d then (Dc i,0) else (Dc (i+c),0):=by
 have e1:wr (0+d)=d:=by rw[DC ⟨by omega,by omega⟩];omega
 have e2:wr (i+c)=i+c:=by rw[DC ⟨by omega,by omega⟩]
 unfold Dc BU;simp only[if_true,e1,e2];split
 ·rfl
 rw[if_neg Af];simp only[Dc,Lp,if_neg (show ¬i+c > 65535 by omega)]
mutual
theorem Oz {m v:Int}(hv:0≤v∧v≤1000):∀(t:Tm) (d dd:Int),wf v m dd t→Cw t→0≤d→d+size t≤50000→0≤dd→dd+size t≤50000→BU 0 0 d 0 t=(t,0)
 | .mk k i n l ks,d,dd,h,hc,h0,h1,h2,h3=>by
  simp only[size] at h1 h3;by_cases hk:k=0
  ·have ⟨b1,b2,e⟩:=ON h hc hk;rw[e,Fk ⟨b1,by omega⟩ ⟨h0,by omega⟩ Af];simp
  unfold BU;rw[if_neg hk,ML hv ks k d dd 0 h.2.2.2.2.2 hc.2 h0 Af h2 Af]
theorem ML {m v:Int}(hv:0≤v∧v≤1000):∀(ts:List Tm) (k d dd:Int) (j:Nat),UW v m k dd j ts→Wi ts→0≤d→d+1+Aq ts≤50000→0≤dd→dd+1+Aq ts≤50000→Bj 0 0 k d j 0 ts=(ts,0)
 | [],k,d,dd,j,h,hc,h0,h1,h2,h3=>by simp[Bj]
 | t::ts,k,d,dd,j,h,hc,h0,h1,h2,h3=>by
  simp only[Aq] at h1 h3;have hb:=CK k j;unfold Bj;rw[Oz hv t _ _ h.1 hc.1 Af Af Af Af];simp only;rw[ML hv ts k d dd (j+1) h.2 hc.2 h0 Af h2 Af]
end
mutual
theorem Kv {m c:Int}(hc:0≤c∧c≤1000):∀(t:Tm) (d:Int),wf 0 m d t→Cw t→0≤d→d+size t≤50000→BU c 0 d 0 t=(t,0)
 | .mk k i n l ks,d,h,hw,h0,h1=>by
  simp only[size] at h1;by_cases hk:k=0
  ·have ⟨b1,b2,e⟩:=ON h hw hk;rw[e,Fk ⟨b1,by omega⟩ ⟨h0,by omega⟩ Af,if_pos Af]
  unfold BU;rw[if_neg hk,Jw hc ks k d 0 h.2.2.2.2.2 hw.2 h0 Af]
theorem Jw {m c:Int}(hc:0≤c∧c≤1000):∀(ts:List Tm) (k d:Int) (j:Nat),UW 0 m k d j ts→Wi ts→0≤d→d+1+Aq ts≤50000→Bj c 0 k d j 0 ts=(ts,0)
 | [],k,d,j,h,hw,h0,h1=>by simp[Bj]
 | t::ts,k,d,j,h,hw,h0,h1=>by
  simp only[Aq] at h1;have hb:=CK k j;unfold Bj;rw[Kv hc t _ h.1 hw.1 Af Af];simp only;rw[Jw hc ts k d (j+1) h.2 hw.2 h0 Af]
end
theorem Nw {vs:List Tm}{d nd i:Int}(h:nd≤4096):BR vs d 0 nd (Dc i)=if i≥d∧i - d<(vs.length:Int) then ((BU d 0 0 0 (vs.getD (i - d).toNat A3)).1,(BU d 0 0 0 (vs.getD (i - d).toNat A3)).2,wr (nd+Ei (vs.getD (i - d).toNat A3))) else if i≥d then (Dc (wr (i - vs.length)),Lp 0 (wr (i - vs.length)),wr (nd+1)) else (Dc i,0,wr (nd+1)):=by
 unfold Dc BR;rw[if_neg Af];simp only[true_and,if_true,Dc]
theorem WW {c d i nd:Int}(h:0≤i∧i≤60000) (hd:0≤d∧d≤50000) (hc:0≤c∧c≤1000) (hn:0≤nd∧nd≤4096):BR [Dc c] d 0 nd (BU (c+1) 0 (d+1) 0 (Dc i)).1=((BU c 0 d 0 (Dc i)).1,0,nd+1):=by
 have hz:Ei (Dc c)=1:=by simp[Dc,Ei,Hc,wr]
 have hw1:wr (nd+1)=nd+1:=DC ⟨by omega,by omega⟩;rw[Fk (c:=c+1) (d:=d+1) h Af Af,Fk h Af Af];split
 ·rename_i g;rw[Nw Af];by_cases e:i=d
  ·subst e;rw[if_pos Ag];simp only[Int.sub_self,Int.toNat_zero,List.getD_cons_zero,Int.lt_irrefl,if_false];rw[Fk (c:=i) (d:=0) (i:=c) Af Af Af,if_neg Af,hz,hw1,Int.add_comm]
  rw[if_neg Aa,if_neg Af,if_pos Af,hw1]
 rename_i g;have hw2:wr (i+(c+1) - 1)=i+c:=by rw[DC ⟨by omega,by omega⟩];omega
 rw[Nw Af,if_neg Aa,if_pos Af,if_neg Af];simp only[List.length_cons,List.length_nil,Int.natCast_add,Int.natCast_zero,Int.natCast_one,Int.zero_add,Nat.zero_add,hw2,hw1,Lp,if_neg (show ¬i+c > 65535 by omega)]
mutual
theorem JL {m v c:Int}(hv:0≤v∧v≤1000) (hc:0≤c∧c≤1000):∀(t:Tm) (d dd nd:Int),wf v m dd t→Cw t→0≤d→d+size t≤50000→0≤dd→dd+size t≤50000→0≤nd→nd+size t≤4096 →
  BR [Dc c] d 0 nd (BU (c+1) 0 (d+1) 0 t).1=((BU c 0 d 0 t).1,0,nd+size t)∧(BU (c+1) 0 (d+1) 0 t).2=0∧(BU c 0 d 0 t).2=0
 | .mk k i n l ks,d,dd,nd,h,hw,h0,h1,h2,h3,h4,h5=>by
  simp only[size] at h1 h3 h5;by_cases hk:k=0
  ·have ⟨b1,b2,e⟩:=ON h hw hk;rw[e,WW ⟨b1,by omega⟩ ⟨h0,by omega⟩ hc ⟨h4,by omega⟩,Fk (c:=c+1) (d:=d+1) ⟨b1,by omega⟩ Af Af,Fk (c:=c) (d:=d) ⟨b1,by omega⟩ Af Af];refine⟨by simp[Dc,size,Aq],?_,?_⟩<;>split<;>rfl
  have ⟨g1,g2,g3⟩:=LG hv hc ks k d dd (nd+1) 0 h.2.2.2.2.2 hw.2 h0 Af h2 Af Af Af;have hw1:wr (nd+1)=nd+1:=DC ⟨by omega,by omega⟩;unfold BU;simp only[if_neg hk];unfold BR;rw[if_neg Af,if_neg (by simp[hk]),if_neg hk,hw1,g1];simp only[size];exact⟨by rw[show nd+1+(Aq ks:Int)=nd+((1+Aq ks:Nat):Int) by omega],g2,g3⟩
theorem LG {m v c:Int}(hv:0≤v∧v≤1000) (hc:0≤c∧c≤1000):∀(ts:List Tm) (k d dd nd:Int) (j:Nat),UW v m k dd j ts→Wi ts→0≤d→d+1+Aq ts≤50000→0≤dd→dd+1+Aq ts≤50000→0≤nd→nd+Aq ts≤4096 →
  Bg [Dc c] k d j 0 nd (Bj (c+1) 0 k (d+1) j 0 ts).1=((Bj c 0 k d j 0 ts).1,0,nd+Aq ts)∧(Bj (c+1) 0 k (d+1) j 0 ts).2=0∧(Bj c 0 k d j 0 ts).2=0
 | [],k,d,dd,nd,j,h,hw,h0,h1,h2,h3,h4,h5=>by simp[Bj,Bg,Aq]
 | t::ts,k,d,dd,nd,j,h,hw,h0,h1,h2,h3,h4,h5=>by
  simp only[Aq] at h1 h3 h5;have hb:=CK k j;have ⟨g1,g2,g3⟩:=JL hv hc t (d+below k j) (dd+below k j) nd h.1 hw.1 Af Af Af Af h4 Af;have ⟨f1,f2,f3⟩:=LG hv hc ts k d dd (nd+size t) (j+1) h.2 hw.2 h0 Af h2 Af Af Af;unfold Bj;rw[show d+1+below k j=d+below k j+1 by omega,g2,g3];unfold Bg;rw[g1];simp only;rw[f1];exact⟨by simp only[Aq];rw[show nd+(size t:Int)+Aq ts=nd+((size t+Aq ts:Nat):Int) by omega],f2,f3⟩
end
def typeOf (ms:List Mv) (i:Int):Tm:=match ms[i.toNat]? with | some m=>m.type | none=>A3
inductive Jp (ms:List Mv):Tm→Tm→Prop
 | hd {i:Int}:0≤i→i<(ms.length:Int)→TP (Uf ms) (typeOf ms i)→Ok 1000 (typeOf ms i)→Jp ms (.mk 12 i ⟨#[]⟩ [] []) (typeOf ms i)
 | app {f a x b:Tm}:Jp ms f (.mk 6 0 ⟨#[]⟩ [] [x,b])→Ok 4096 a→Ok 4096 b→Jp ms (.mk 4 0 ⟨#[]⟩ [] [f,a]) (Bo b [a] 0).1
theorem Jp.ok {ms:List Mv}{t y:Tm}(h:Jp ms t y):Ok 4096 y:=by
 cases h with
 | hd h1 h2 h3 h4=>exact h4.mono Af
 | app h1 h2 h3=>obtain⟨a,b,c,d⟩:=LL h3 h2;exact⟨a,b,c,d⟩
def FW (ms:List Mv) (N:Nat):Tm→EN→Int→Except Int (Tm×EN×Int)
 | .mk k i n l [f,a],st,w=>if w+1 > 8192000 then .error 11 else
  CC (FW ms N f st (w+1)) fun r=>El (fun y=>(y,r.2)) (HX (Bo (r.1.kids.getD 1 A3) [a] 0).1 (Bo (r.1.kids.getD 1 A3) [a] 0).2)
 | .mk k i n l _,st,w=>if w+1 > 8192000 then .error 11 else El (fun q=>(q.1,q.2,w+1)) (B0 ms N st (typeOf ms i))
theorem Qh {ms:List Mv}{N:Nat}(hm:∀m∈ms,Ok 1000 m.value) {t y:Tm}(h:Jp ms t y):∀(st:EN) (w:Int),NH ms st→0≤w→w≤8192000 →
  FW ms N t st w= .error 11∨∃st' w',FW ms N t st w= .ok (y,st',w')∧NH ms st'∧0≤w'∧w'≤8192000:=by
 induction h with
 | @hd i h1 h2 h3 h4 =>
  intro st w hs h0 hw;unfold FW;split
  ·exact .inl O
  ·rename_i g;rcases IL N st _ h3 with e | ⟨st',e⟩
   ·exact .inl (by rw[e];rfl)
   ·exact .inr ⟨st',w+1,by rw[e];rfl,(Dn Af hm N _ _ _ h4 hs e).2.1,by omega,by omega⟩
 | @app f a x b hf ha hb ih =>
  intro st w hs h0 hw;unfold FW;split
  ·exact .inl O
  rename_i g;rcases ih st (w+1) hs Af Af with e | ⟨st',w',e,hs',a1,a2⟩
  ·exact .inl (by rw[e];rfl)
  rw[e];simp only[CC,Tm.kids];show El _ (HX (Bo b [a] 0).1 _)=_∨∃st' w',El _ (HX (Bo b [a] 0).1 _)=_∧_;unfold HX;split
  ·exact .inl O
  exact .inr ⟨st',w',O,hs',a1,a2⟩
def Dt (ms:List Mv) (N:Nat) (t:Tm):Tm×Int :=
 match B0 ms N ⟨[],[],0⟩ t with
 | .error e=>(A3,e)
 | .ok r=>match FW ms N r.1 r.2 0 with
  | .error e=>(A3,e)
  | .ok q=>(q.1,0)
theorem MH {ms:List Mv}{N:Nat}{t y:Tm}(hm:∀m∈ms,Ok 1000 m.value) (h:Jp ms t y) (ht:TP (Uf ms) t) (h1:Ok 1000 t):Dt ms N t=(A3,11)∨Dt ms N t=(y,0):=by
 unfold Dt;rcases IL N ⟨[],[],0⟩ t ht with e | ⟨st',e⟩
 ·exact .inl (by rw[e])
 rw[e];simp only;rcases Qh hm h (N:=N) st' 0 (Dn Af hm N _ _ _ h1 (JI ms) e).2.1 Af Af with e | ⟨_,_,e,_⟩
 ·exact .inl (by rw[e])
 exact .inr (by rw[e])
mutual
theorem cE {m v:Int}:∀(t:Tm) (d:Int),wf (v+1) m d t→wf v m (d+1) t
 | .mk k i n l ks,d,⟨a1,a2,a3,a4,a5,a6⟩=>⟨a1,a2,a3,fun e=>by have:=a4 e;omega,a5,Yl ks k d 0 a6⟩
theorem Yl {m v:Int}:∀(ts:List Tm) (k d:Int) (j:Nat),UW (v+1) m k d j ts→UW v m k (d+1) j ts
 | [],k,d,j,h=>trivial
 | t::ts,k,d,j,h=>⟨by have:=cE t _ h.1;rw[show d+1+below k j=d+below k j+1 by omega];exact this,Yl ts k d (j+1) h.2⟩
end
theorem Ni {m:Int}{t:Tm}:∀(ctx:List Tm) (v:Int),(∀(i:Nat) (x:Tm),ctx[i]?=some x→wf (v+i) m 0 x)→wf (v+ctx.length) m 0 t→wf v m 0 (Bi 6 ctx t)
 | [],v,h,ht=>by simpa [Bi] using ht
 | a::ctx,v,h,ht=>by
  refine⟨by decide,by decide,rfl,fun e=>absurd e Ae,fun e=>absurd e Ae,?_,?_,trivial⟩
  ·have:=h 0 a rfl;simpa [below] using this
  have:=Ni (t:=t) ctx (v+1) (fun i x hx=>by have:=h (i+1) x hx;rw[show v+1+(i:Int)=v+((i+1:Nat):Int) by omega];exact this) (by rw[show v+1+(ctx.length:Int)=v+(((a::ctx).length:Nat):Int) by simp;omega];exact ht);have:=cE _ _ this;show wf v m (0+below 6 ((0+1:Nat):Int)) (Bi 6 ctx t);simpa [below] using this
theorem XQ {ctx:List Tm}{t:Tm}(h:Wi ctx) (ht:Cw t):Cw (Bi 6 ctx t):=by
 induction ctx with
 | nil=>exact ht
 | cons a ctx ih=>exact⟨⟨by simp,by simp,by decide,by simp⟩,h.1,ih h.2,trivial⟩
theorem Td (c:Nat) (h:c<1000):Ok 4096 (Dc c):=⟨⟨by decide,by decide,by simp,by decide,trivial,⟨by decide,by decide⟩,⟨by omega,by omega⟩⟩,⟨fun _=>⟨by omega,by omega⟩,trivial⟩,UI _,by simp[Dc,size,Aq]⟩
theorem Vy {m v:Int}{b:Tm}{c:Nat}(hv:0≤v∧v≤999) (hc:c<1000) (h:wf (v+1) m 0 b) (hw:Cw b) (hn:Nd b) (hs:size b≤200) :
  Ok 4096 (BU (c+1) 0 1 0 b).1∧(Bo (BU (c+1) 0 1 0 b).1 [Dc c] 0).1=(BU c 0 0 0 b).1:=by
 have ⟨g1,g2,g3⟩:=JL (m:=m) (v:=v+1) (c:=c) Af Af b 0 0 0 h hw Af Af Af Af Af Af;have hwt:=XW b 0 h;have hvp:=Xr Af b 0 h Af Af;have hk:Ok 4096 (BU (c+1) 0 1 0 b).1:=⟨L4 _ _ _ _ _ hn,L3 _ Af Af _ _ hvp Af Af g2,ME _ _ _ _ _ hwt,by rw[HR _ _ _ _ _ (.inr hwt)];omega⟩;refine⟨hk,?_⟩;have hd:=Fu (BU c 0 0 0 b).1;have hz:=HR c 0 b 0 0 (.inr hwt);rw[Qg (TL (Td c hc)) hk.wt hk.vp (by have:=hk.sz;omega)];unfold EY;rw[show min (0:Int) 65536=0 by rfl,show (0:Int)+1=1 by rfl] at *;simp only[g1];rw[if_neg Af,if_neg Af,QK Af,if_neg Af]
theorem Y4 {b fr d er k i:Int}{n:ByteArray}{l:List DK}{ks:List Tm}(hk:k≠0):BU b fr d er (.mk k i n l ks)=(.mk k i n l (Bj b fr k d 0 er ks).1,(Bj b fr k d 0 er ks).2):=by rw[BU,if_neg hk]
theorem QG {ms:List Mv}{m:Int}{t:Tm}:∀(ctx:List Tm) (v:Int) (f:Tm),0≤v→v+ctx.length≤900→(∀(i:Nat) (x:Tm),ctx[i]?=some x→wf (v+i) m 0 x)→wf (v+ctx.length) m 0 t→Cw (Bi 6 ctx t)→Nd (Bi 6 ctx t)→size (Bi 6 ctx t)≤200 →
  Jp ms f (BU ctx.length 0 0 0 (Bi 6 ctx t)).1→Jp ms (apply f (EK 0 0 ctx.length)) t
 | [],v,f,h0,h1,h2,ht,h3,h4,h5,h=>by
  rw[List.length_nil,show ((0:Nat):Int)=0 by rfl,show Bi 6 [] t=t by rfl] at *;rw[Oz (m:=m) (v:=v+0) Af t 0 0 ht h3 Af Af Af Af] at h;exact h
 | a::ctx,v,f,h0,h1,h2,ht,h3,h4,h5,h=>by
  have hz:size (Bi 6 ctx t)<size (Bi 6 (a::ctx) t):=by simp only[Bi,List.foldr,size,Aq];omega
  have hl:((a::ctx).length:Int)=(ctx.length:Int)+1:=by simp
  rw[hl] at h1 ht h;have hc:∀(i:Nat) (x:Tm),ctx[i]?=some x→wf (v+1+i) m 0 x:=fun i x hx=>by have:=h2 (i+1) x hx;rw[show v+1+(i:Int)=v+((i+1:Nat):Int) by omega];exact this
  have ht':wf (v+1+ctx.length) m 0 t:=by rw[show v+1+(ctx.length:Int)=v+((ctx.length:Int)+1) by omega];exact ht
  have ⟨g1,g2⟩:=Vy (c:=ctx.length) (v:=v) Af Af (Ni ctx (v+1) hc ht') h3.2.2.1 h4.2.2.2.2.1.2.1 Af;refine QG ctx (v+1) _ Af Af hc ht' h3.2.2.1 h4.2.2.2.2.1.2.1 Af ?_;have e:(BU ((ctx.length:Int)+1) 0 0 0 (Bi 6 (a::ctx) t)).1= .mk 6 0 ⟨#[]⟩ [] [(BU ((ctx.length:Int)+1) 0 0 0 a).1,(BU ((ctx.length:Int)+1) 0 1 (BU ((ctx.length:Int)+1) 0 0 0 a).2 (Bi 6 ctx t)).1]:=by
   show (BU _ 0 0 0 (.mk 6 0 ⟨#[]⟩ [] [a,Bi 6 ctx t])).1=_;rw[Y4 Ae];simp[Bj,below]
  have ea:(BU ((ctx.length:Int)+1) 0 0 0 a).2=0:=by
   have hs:size a≤200:=by simp only[Bi,List.foldr,size,Aq] at h5;omega
   exact(JL (m:=m) (v:=v) (c:=(ctx.length:Int)+1) Af Af a 0 0 0 (by have:=h2 0 a rfl;simpa using this) h3.2.1 Af Af Af Af Af Af).2.2
  rw[e,ea] at h;have:=Jp.app h (Td ctx.length Af) g1;rw[g2] at this;simpa [Dc,EK,apply,K7] using this
mutual
theorem To:∀(t:Tm) (l:List Int) (x:Int),x∈l→x∈Cx l t
 | .mk k i n ls ks,l,x,h=>by
  unfold Cx;split
  ·split
   ·exact h
   exact GD ks _ x (by simp[h])
  exact GD ks l x h
theorem GD:∀(ts:List Tm) (l:List Int) (x:Int),x∈l→x∈DQ l ts
 | [],l,x,h=>by unfold DQ;exact h
 | t::ts,l,x,h=>by unfold DQ;exact GD ts _ x (To t l x h)
end
def gv (q:Int→Prop) (k i:Int) (n:ByteArray) (l:List DK):Prop:=(k=12→q i)∧(k=4→i=0∧n=⟨#[]⟩∧l=[])
mutual
theorem Pq {q:Int→Prop}{v m:Int}:∀(t:Tm) (l:List Int) (d:Int),wf v m d t→Cw t→(∀x∈Cx l t,q x)→TP (gv q) t
 | .mk k i n ls ks,l,d,hw,hc,h=>by
  have ⟨⟨c1,c2,c3,c4⟩,c5⟩:=hc;have hk:ks=[]∨k≠12:=by
   by_cases e:k=12
   ·have:=hw.2.2.1;rw[e] at this;simp[arity] at this;exact .inl this
   exact .inr e
  unfold Cx at h;refine⟨⟨fun e=>?_,fun e=>?_⟩,?_⟩
  ·rw[if_pos e] at h;split at h
   ·exact h i Ac
   exact h i (GD ks _ i Ag)
  ·refine⟨?_,?_,List.length_eq_zero_iff.1 (c4 Af Af)⟩
   ·apply Classical.byContradiction;intro g;have:=c1 g;omega
   apply Classical.byContradiction;intro g;have:=c2 g;omega
  rcases hk with hk | hk
  ·subst hk;trivial
  rw[if_neg hk] at h;exact Nn ks l k d 0 hw.2.2.2.2.2 c5 h
theorem Nn {q:Int→Prop}{v m:Int}:∀(ts:List Tm) (l:List Int) (k d:Int) (j:Nat),UW v m k d j ts→Wi ts→(∀x∈DQ l ts,q x)→PH (gv q) ts
 | [],l,k,d,j,hw,hc,h=>trivial
 | t::ts,l,k,d,j,hw,hc,h=>by
  unfold DQ at h;exact⟨Pq t l _ hw.1 hc.1 fun x hx=>h x (GD ts _ x hx),Nn ts _ k d (j+1) hw.2 hc.2 h⟩
end
def RN (ms:List Mv) (i:Int):Prop:=0≤i∧i<(ms.length:Int)∧∀m,ms[i.toNat]?=some m→m.known=false
def Rh (ms:List Mv) (ts:List Tm):Prop:=∀t∈ts,∀x∈Cx [] t,RN ms x
theorem UK {ms:List Mv}{y:Mv}{i:Int}{n:ByteArray}{l:List DK}(h:RN ms i):known (ms++[y]) (.mk 12 i n l [])=false:=by
 have ⟨h1,h2,h3⟩:=h;have hi:i.toNat<ms.length:=by omega
 simp only[known,List.getElem?_append_left hi];rw[List.getElem?_eq_getElem hi] at h3 ⊢;simp[h3 _ rfl]
theorem QH {ms:List Mv}{y:Mv}{v m:Int}{t:Tm}(hw:wf v m 0 t) (hc:Cw t) (h:∀x∈Cx [] t,RN ms x):TP (Uf (ms++[y])) t :=
 TP.imp (p:=gv (RN ms)) (fun k i n l hp=>⟨fun e=>⟨(hp.1 e).1,by have:=(hp.1 e).2.1;simp;omega,by subst e;exact UK (hp.1 rfl)⟩,hp.2⟩) t (Pq t [] 0 hw hc h)
theorem Xk {p:Int→Int→ByteArray→List DK→Prop}(h6:p 6 0 ⟨#[]⟩ []) {ctx:List Tm}{t:Tm}(h:PH p ctx) (ht:TP p t):TP p (Bi 6 ctx t):=by
 induction ctx with
 | nil=>exact ht
 | cons a ctx ih=>exact⟨h6,h.1,ih h.2,trivial⟩
structure KS (m:Nat) (ctx terms:List Tm):Prop where
 sm:dr m ctx terms
 c1:Wi ctx
 c2:Wi terms
structure fZ (l:List Mv) (ctx:List Tm) (t x u:Tm):Prop where
 new:Lh l ctx t false=(l++[⟨x,false,A3,false⟩],u,0)
 vals:∀m∈l++[⟨x,false,A3,false⟩],Ok 1000 m.value
 tps:∀m∈l++[(⟨x,false,A3,false⟩:Mv)],Nd m.type∧Nd m.value
 use:Jp (l++[⟨x,false,A3,false⟩]) u t
 st:TP (Uf (l++[⟨x,false,A3,false⟩])) u
 ok:Ok 1000 u
 nt:Nd t
 pat:Jq u=((l.length:Int),(Jq u).2.1,true)∧(Jq u).2.1.length=ctx.length
theorem QP:∀(k:Nat) (l:List Int),(∀x∈l,(k:Int)≤x)→∃l',N6 l (EK 0 0 k)=some l'∧l'.length=l.length+k
 | 0,l,h=>⟨l,rfl,by simp⟩
 | k+1,l,h=>by
  have ⟨l',e1,e2⟩:=QP k (l++[(k:Int)]) fun x hx=>by
   rcases List.mem_append.1 hx with hx | hx
   ·have:=h x hx;omega
   simp at hx;omega
  refine⟨l',?_,by rw[e2];simp;omega⟩;have hn:¬(k:Int)∈l:=fun hm=>by have:=h _ hm;omega
  simp[EK,Dc,N6,hn,e1]
theorem SI:∀(k:Nat),k≤6→G3 (EK 0 0 k)∧Hi (EK 0 0 k)∧MG (EK 0 0 k)∧Aq (EK 0 0 k)=k∧∀p:Int→Int→ByteArray→List DK→Prop,(∀i,p 0 i ⟨#[]⟩ [])→PH p (EK 0 0 k)
 | 0,_=>⟨trivial,trivial,trivial,rfl,fun _ _=>trivial⟩
 | k+1,h=>by
  have ⟨a,b,c,d,e⟩:=SI k Af;have hv:=Td k Af;have hq:Dc (0+((0+k:Nat):Int))=Dc k:=by simp
  simp only[EK,hq];exact⟨⟨hv.nd,a⟩,⟨hv.wt,b⟩,⟨hv.vp,c⟩,by simp only[Aq,d,Dc,size];omega,fun p hp=>⟨⟨hp _,trivial⟩,e p hp⟩⟩
theorem V9 {h:Tm}(hh:Al h=(h,[])) (xs:List Tm):Al (apply h xs)=(h,xs):=by
 have key:∀(xs:List Tm) (f:Tm) (ys:List Tm),Al f=(h,ys)→Al (apply f xs)=(h,ys++xs):=by
  intro xs
  induction xs with
  | nil=>intro f ys e;simpa [apply] using e
  | cons x xs ih=>intro f ys e;have:=ih (K7 f x) (ys++[x]) (by simp[K7,Al,e]);simpa [apply] using this
 simpa using key xs h [] hh
theorem Zg {l:List Mv}{ctx:List Tm}{t:Tm}(hg:MY l) (hs:KS l.length ctx [t]) (hf:Rh l (t::ctx)):∃x u,fZ l ctx t x u:=by
 have hs0:=hs.sm;have hlen:=hs0.len;have hgl:=hg.len;have h1:=hs0.s1;have h2:=hs0.s2;simp only[Aq] at h2;have hwt:=hs0.w2 t Ag;have hx:=O3 6 ctx t;have hxn:Nd (Bi 6 ctx t):=Jl hs0.n1 hs0.n2.1;have hxw:wf 0 l.length 0 (Bi 6 ctx t):=Ni ctx 0 (fun i y hy=>by have:=hs0.w1 i y hy;simpa using this) (by simpa using hwt);have hxc:Cw (Bi 6 ctx t):=XQ hs.c1 hs.c2.1;have hd:=Fu (Bi 6 ctx t);have hok:Ok 1000 (Bi 6 ctx t):=(bX (B:=200) Af hxw hxn Af Af).mono Af;have hvw:HW ctx.length 0=EK 0 0 ctx.length:=by
  unfold HW;split
  ·have:ctx.length=0:=by omega
   rw[this];rfl
  simp
 have ⟨v1,v2,v3,v4,v5⟩:=SI ctx.length hlen;have hst:∀y:Mv,TP (Uf (l++[y])) (Bi 6 ctx t):=fun y=>Xk ⟨fun e=>absurd e Ae,fun e=>absurd e Ae⟩
  (XR fun a ha=>by obtain⟨i,hi⟩:=Dl ha;exact QH (hs0.w1 i a hi) (Uo hs.c1 a ha) (hf a (by simp[ha]))) (QH hwt hs.c2.1 (hf t Ag))
 have hty:typeOf (l++[⟨Bi 6 ctx t,false,A3,false⟩]) l.length=Bi 6 ctx t:=by simp[typeOf]
 have hmn:Nd (.mk 12 l.length ⟨#[]⟩ [] []):=⟨by decide,by decide,by simp,by decide,trivial,⟨by decide,by decide⟩,⟨by omega,by omega⟩⟩;have hmw:Wt (.mk 12 l.length ⟨#[]⟩ [] []):=⟨rfl,fun _=>by omega,trivial⟩;refine⟨Bi 6 ctx t,apply (.mk 12 l.length ⟨#[]⟩ [] []) (EK 0 0 ctx.length),?_,?_,?_,?_,?_,?_,hs0.n2.1,?_⟩
 ·rw[U3 Af (by rw[IF Af];omega) (by rw[QK Af];omega),hvw]
 ·intro m hm;rcases List.mem_append.1 hm with hm | hm
  ·exact(Zx hg m hm).mono Af
  simp at hm;subst hm;exact LO Af
 ·intro m hm;rcases List.mem_append.1 hm with hm | hm
  ·exact ZF hg m hm
  simp at hm;subst hm;exact⟨hxn,KX⟩
 ·refine QG (m:=l.length) ctx 0 _ Af Af (fun i y hy=>by have:=hs0.w1 i y hy;simpa using this) (by simpa using hwt) hxc hxn Af ?_;rw[Kv (m:=l.length) Af _ 0 hxw hxc Af Af];have:=Jp.hd (ms:=l++[⟨Bi 6 ctx t,false,A3,false⟩]) (i:=l.length) Af Aa (by rw[hty];exact hst _) (by rw[hty];exact hok)
  rwa [hty] at this
 ·refine SR (aD _) _ _ ⟨⟨fun _=>⟨by omega,by simp;omega,?_⟩,fun e=>absurd e Ae⟩,trivial⟩ (v5 _ fun i=>ZY _ i);simp[known]
 ·refine⟨Hv hmn v1,SK ⟨fun e=>absurd e Ae,Ah⟩ v3,Rz hmw v2,?_⟩;rw[NY,v4,Gj];simp only[size,Aq];omega
 have ⟨l',e1,e2⟩:=QP ctx.length [] Ag;have hsp:Al (apply (.mk 12 l.length ⟨#[]⟩ [] []) (EK 0 0 ctx.length))=(.mk 12 l.length ⟨#[]⟩ [] [],EK 0 0 ctx.length):=V9 rfl _;rw[QQ (l:=l') (by rw[hsp];rfl) (by rw[hsp];exact e1),hsp];exact⟨O,by simpa using e2⟩
theorem Vc {ctx terms:List Tm}{m:Nat}(h1:ctx.length≤6) (h2:Ck ctx 60 0≤60) (h3:Ck terms 60 0≤60) (h4:Q8 ctx) (h5:Q8 terms) (ht:∀(j:Nat) (t:Tm),terms[j]?=some t→wf (max (ctx.length:Int) 0) m 0 t∧Cw t) (hc:∀(i:Nat) (t:Tm),ctx[i]?=some t→wf (max ((0:Int)+i) 0) m 0 t∧Cw t):KS m ctx terms:=by
 refine⟨⟨h1,by have:=JK h4 Af h2;omega,by have:=JK h5 Af h3;omega,h4.nd,h5.nd,fun t h=>?_,fun i t h=>?_⟩,G4 fun t h=>?_,G4 fun t h=>?_⟩
 ·have ⟨j,hj⟩:=Dl h;have:=(ht j t hj).1
  rwa [show max (ctx.length:Int) 0=ctx.length by omega] at this
 ·have:=(hc i t h).1
  rwa [show max ((0:Int)+i) 0=i by omega] at this
 ·have ⟨j,hj⟩:=Dl h;exact(hc j t hj).2
 have ⟨j,hj⟩:=Dl h;exact(ht j t hj).2
variable {ms:List Mv}{N:Nat}{st:EN}{w i:Int}{f a z:Tm}
theorem Zs (ms:List Mv) (op:List Int):free ms op≤ms.length:=by
 unfold free;exact Nat.le_trans (List.length_filter_le ..) Ag
theorem P3 {t:Tm}(h:w+1 > 8192000):FW ms N t st w= .error 11:=by
 unfold FW;split<;>rw[if_pos h]
theorem Zj {st':EN}(h:¬w+1 > 8192000) (hz:B0 ms N st (typeOf ms i)= .ok (z,st')):FW ms N (.mk 12 i ⟨#[]⟩ [] []) st w= .ok (z,st',w+1):=by
 unfold FW;rw[if_neg h,hz];rfl
theorem YW {e:Int}(h:¬w+1 > 8192000) (hz:B0 ms N st (typeOf ms i)= .error e):FW ms N (.mk 12 i ⟨#[]⟩ [] []) st w= .error e:=by
 unfold FW;rw[if_neg h,hz];rfl
end Go.Eu
namespace Go.Eu
open Go.Abs
variable {ms:List Mv}{N:Nat}{st st':EN}{w w' i e:Int}{f a x b z y:Tm}
theorem aA {t:Tm}(hm:∀m∈ms,Ok 1000 m.value) (h:Jp ms t y) (hs:NH ms st) (h0:0≤w) (hw:w≤8192000) (e:FW ms N t st w= .ok (z,st',w')):z=y:=by
 rcases Qh hm h (N:=N) st w hs h0 hw with g | ⟨s1,w1,g,_⟩<;>rw[g] at e<;>cases e;rfl
theorem Yd (h:¬w+1 > 8192000) (hz:FW ms N f st (w+1)= .ok (.mk 6 0 ⟨#[]⟩ [] [x,b],st',w')) (hy:HX (Bo b [a] 0).1 (Bo b [a] 0).2= .ok y):FW ms N (.mk 4 0 ⟨#[]⟩ [] [f,a]) st w= .ok (y,st',w'):=by
 unfold FW;rw[if_neg h,hz];show El _ (HX (Bo b [a] 0).1 _)=_;rw[show (Bo ((Tm.mk 6 0 ⟨#[]⟩ [] [x,b]).kids.getD 1 A3) [a] 0).2=(Bo b [a] 0).2 from rfl,hy];rfl
theorem Wl (h:¬w+1 > 8192000) (hz:FW ms N f st (w+1)= .error e):FW ms N (.mk 4 0 ⟨#[]⟩ [] [f,a]) st w= .error e:=by
 unfold FW;rw[if_neg h,hz];rfl
theorem Wj (h:¬w+1 > 8192000) (hz:FW ms N f st (w+1)= .ok (.mk 6 0 ⟨#[]⟩ [] [x,b],st',w')) (hy:HX (Bo b [a] 0).1 (Bo b [a] 0).2= .error e):FW ms N (.mk 4 0 ⟨#[]⟩ [] [f,a]) st w= .error e:=by
 unfold FW;rw[if_neg h,hz];show El _ (HX (Bo b [a] 0).1 _)=_;rw[show (Bo ((Tm.mk 6 0 ⟨#[]⟩ [] [x,b]).kids.getD 1 A3) [a] 0).2=(Bo b [a] 0).2 from rfl,hy];rfl
end Go.Eu
namespace Go.Eu
open Go.Abs
variable {ms:List Mv}{N:Nat}{st st':EN}{w w' e:Int}{t y z:Tm}
theorem XS (ht:TP (Uf ms) t) (h:B0 ms N st t= .ok (z,st')):z=t:=by
 rcases IL N st t ht with g | ⟨s1,g⟩<;>rw[g] at h<;>cases h;rfl
theorem UB (h:B0 ms N ⟨[],[],0⟩ t= .error e):Dt ms N t=(A3,e):=by unfold Dt;rw[h]
theorem UF (h:B0 ms N ⟨[],[],0⟩ t= .ok (z,st)) (h2:FW ms N z st 0= .error e):Dt ms N t=(A3,e):=by unfold Dt;rw[h];simp only;rw[h2]
theorem UU (h:B0 ms N ⟨[],[],0⟩ t= .ok (z,st)) (h2:FW ms N z st 0= .ok (y,st',w')):Dt ms N t=(y,0):=by unfold Dt;rw[h];simp only;rw[h2]
end Go.Eu
namespace Go.Proofs.YtajnpndfkbnkoaaGreat
open Go.Abs Go.Eu
theorem YF:∀(l:List Mv),(l.length<wide)→(∀x∈l,ff x)→EM Tryz.prog 15 [.p (.lst (List.map B5 l))] (fun v=>∃b:Bool,v= .p (.bool b)∧(b=true→MY l)):=by
 intro l h1 h2;simp only[wide] at h1;refine Db Tryz.func15 O (CD [2] O O (List.length_map _) (Cr [1] O O (fun c=>?_) (fun c=>?_)))
 ·have cR:=c;(try simp only[sd,se] at c);refine BF [1] O (⟨O,_,[],Bq O,List.nil_sublist _,⟨⟨_,O,?_⟩,O⟩⟩);exact fun h=>absurd h Ae
 have cR:=c;(try simp only[sd,se] at c);refine CD [1] O O (List.length_map _) ?_;refine F3 (α:=Nat) [1] [0,8,9] [] (fun i=>[(10,.p (I (i:Int)))]) (fun _=>[]) (fun i=>l.length - i) (fun i=>i≤l.length∧(∀j,j<i→∀x,l[j]?=some x→bY l.length x)) 0 O O O (⟨by omega,fun j h=>by omega⟩) ?_;rintro i hC
 try simp only at hC
 have ⟨hi,hC⟩:=hC;refine Cr [1] O O (fun c1=>?_) (fun c1=>?_)
 ·have c1R:=c1;(try simp only[sd,se] at c1);refine Em [0] l i O O O (IK DH) (fun m hm=>?_);refine DR [1] O (Am UD O) fun b4=>Ak [0] O (Cm (i:=0) dg O O O (by simp[DH]) (by first | rfl | simp[DH]) (Qz _)) ?_;obtain⟨my,mn,mv,mc⟩:=m;obtain⟨myk,myi,myn,myl,mys⟩:=my;obtain⟨mvk,mvi,mvn,mvl,mvs⟩:=mv;have hmw:=h2 _ (List.mem_of_getElem? hm);have hY:=hmw.w1;have hV:=hmw.w2;simp only at hY hV;refine CS [0] 6 [0,4,8,9,10] 37 (fun y=>∃b:Bool,y= .p (.bool b)∧(b=false→Ck [(.mk myk myi myn myl mys:Tm),(.mk mvk mvi mvn mvl mvs:Tm)] 40 0≤40∧Q8 [(.mk myk myi myn myl mys:Tm),(.mk mvk mvi mvn mvl mvs:Tm)]∧wf 0 l.length 0 (.mk myk myi myn myl mys:Tm))) O O ?_ ?_
  ·refine Ak [1] O (Bm (i:=0) Bh O O O O) (Ak [1] O (Bm (i:=0) Bh O O O O) (Ak [0] O (Ay Bc Bx O O O O O) (Cc [0] O (Kc _ [(.mk myk myi myn myl mys:Tm),(.mk mvk mvi mvn mvl mvs:Tm)] 40 (Nat.le_refl _) ⟨hY,hV,Ah⟩ (by simp[wide])) ?_)));refine A9 [2] 21 rfl rfl ?_ ?_<;>intro g
   ·exact Bu [16] O (hr:=(by first | exact⟨_,rfl,fun h=>absurd h Ae⟩ | exact⟨_,rfl,fun h=>⟨by omega,hF,(he (by simpa using h)).1⟩⟩))
   refine Ak [1] O (Bm (i:=0) Bh O O O O) (Ak [1] O (Bm (i:=0) Bh O O O O) (Ak [0] O (Ay Bc Bx O O O O O) (De [0] O (EJ O O O O (BC O O (W3 _ [(.mk myk myi myn myl mys:Tm),(.mk mvk mvi mvn mvl mvs:Tm)] (Nat.le_refl _) ⟨hY,hV,Ah⟩ (by simp[wide])) (.inl O)) ?_))));rintro _ ⟨b,rfl,hb⟩;refine BT (A9 [3] 30 rfl rfl ?_ ?_)<;>intro g1
   ·exact Bu [7] O (hr:=(by first | exact⟨_,rfl,fun h=>absurd h Ae⟩ | exact⟨_,rfl,fun h=>⟨by omega,hF,(he (by simpa using h)).1⟩⟩))
   have hF:=hb (by simpa using g1);refine Ak [1] O (Bm (i:=0) Bh O O O O) (CD [1] O O (List.length_map _) (De [0] O ?_));refine EJ O O O O (BC O O (H6 (.mk myk myi myn myl mys:Tm) 0 8 (l.length:Nat) 65536 (F4 hF Ag).1 (by have:=(F4 hF (t:=(.mk myk myi myn myl mys:Tm)) Ag).2;omega)) (.inl O)) ?_;rintro _ ⟨e,rfl,he⟩;refine BT (L0 [2] O ?_);exact⟨O,O,AK,(by first | exact⟨_,rfl,fun h=>absurd h Ae⟩ | exact⟨_,rfl,fun h=>⟨by omega,hF,(he (by simpa using h)).1⟩⟩),⟨O,O,O,O,O,Ah⟩⟩
  rintro _ ⟨q,rfl,hq⟩;refine Cr [0] O O (fun c2=>?_) (fun c2=>?_)
  ·have c2R:=c2;(try simp only[sd,se] at c2);refine BF [1] O (⟨O,_,[],Bq O,List.nil_sublist _,⟨⟨_,O,?_⟩,O⟩⟩);exact fun h=>absurd h Ae
  have c2R:=c2;(try simp only[sd,se] at c2);have ⟨hq1,hF,hq3⟩:=hq (by simpa using c2);refine CS [0] 8 [0,8,9,10] 59 (fun y=>∃b:Bool,y= .p (.bool b)∧(b=false→(mn=true→wf 0 l.length 0 (.mk mvk mvi mvn mvl mvs:Tm))∧(mn=false→(.mk mvk mvi mvn mvl mvs:Tm)=A3))) O O ?_ ?_
  ·refine A9 [3,0] 40 rfl rfl ?_ ?_<;>intro g
   ·refine Ak [1] O (Bm (i:=0) Bh O O O O) (CD [1] O O (List.length_map _) (De [0] O ?_));refine EJ O O O O (BC O O (H6 (.mk mvk mvi mvn mvl mvs:Tm) 0 8 (l.length:Nat) 65536 (F4 hF Ag).1 (by have:=(F4 hF (t:=(.mk mvk mvi mvn mvl mvs:Tm)) Ag).2;omega)) (.inl O)) ?_;rintro _ ⟨e,rfl,he⟩;refine BT (A9 [3] 48 rfl rfl ?_ ?_)<;>intro g1
    ·exact Bu [11] O (hr:=(by first | exact⟨_,rfl,fun h=>absurd h Ae⟩ | exact⟨_,rfl,fun h=>⟨fun k=>by first | exact(he Ad).1 | simp_all,fun k=>by first | (simp_all;done) | exact(Ga (b:=(.mk 0 0 ⟨#[]⟩ [] []:Tm))).1 (by simpa using h)⟩⟩))
    refine A9 [4,0] 52 rfl rfl ?_ ?_<;>intro g2
    ·refine Ak [1] O (Bm (i:=0) Bh O O O O) (Ak [1] O (Hz O O (Hn _ (.mk mvk mvi mvn mvl mvs:Tm) (.mk 0 0 ⟨#[]⟩ [] []:Tm) (Nat.le_refl _) (F4 hF (t:=(.mk mvk mvi mvn mvl mvs:Tm)) Ag).1) (aw (we O) (aw (E9 O) (HY)))) ?_);exact Bu [3] O (hr:=(by first | exact⟨_,rfl,fun h=>absurd h Ae⟩ | exact⟨_,rfl,fun h=>⟨fun k=>by first | exact(he Ad).1 | simp_all,fun k=>by first | (simp_all;done) | exact(Ga (b:=(.mk 0 0 ⟨#[]⟩ [] []:Tm))).1 (by simpa using h)⟩⟩))
    exact Bu [7] O (hr:=(by first | exact⟨_,rfl,fun h=>absurd h Ae⟩ | exact⟨_,rfl,fun h=>⟨fun k=>by first | exact(he Ad).1 | simp_all,fun k=>by first | (simp_all;done) | exact(Ga (b:=(.mk 0 0 ⟨#[]⟩ [] []:Tm))).1 (by simpa using h)⟩⟩))
   refine A9 [12,0] 52 rfl rfl ?_ ?_<;>intro g1
   ·refine Ak [1] O (Bm (i:=0) Bh O O O O) (Ak [1] O (Hz O O (Hn _ (.mk mvk mvi mvn mvl mvs:Tm) (.mk 0 0 ⟨#[]⟩ [] []:Tm) (Nat.le_refl _) (F4 hF (t:=(.mk mvk mvi mvn mvl mvs:Tm)) Ag).1) (aw (we O) (aw (E9 O) (HY)))) ?_);exact Bu [3] O (hr:=(by first | exact⟨_,rfl,fun h=>absurd h Ae⟩ | exact⟨_,rfl,fun h=>⟨fun k=>by first | exact(he Ad).1 | simp_all,fun k=>by first | (simp_all;done) | exact(Ga (b:=(.mk 0 0 ⟨#[]⟩ [] []:Tm))).1 (by simpa using h)⟩⟩))
   exact Bu [7] O (hr:=(by first | exact⟨_,rfl,fun h=>absurd h Ae⟩ | exact⟨_,rfl,fun h=>⟨fun k=>by first | exact(he Ad).1 | simp_all,fun k=>by first | (simp_all;done) | exact(Ga (b:=(.mk 0 0 ⟨#[]⟩ [] []:Tm))).1 (by simpa using h)⟩⟩))
  rintro _ ⟨r,rfl,hr⟩;refine Cr [0] O O (fun c3=>?_) (fun c3=>?_)
  ·have c3R:=c3;(try simp only[sd,se] at c3);refine BF [1] O (⟨O,_,[],Bq O,List.nil_sublist _,⟨⟨_,O,?_⟩,O⟩⟩);exact fun h=>absurd h Ae
  have c3R:=c3;(try simp only[sd,se] at c3);have ⟨hr1,hr2⟩:=hr (by simpa using c3);exact Fa [2] 1 (i+1) O (⟨by omega,Dg hC hm ⟨(F4 hF Ag).1,(F4 hF Ag).1,(by have:=JK hF Af hq1;simp only[Aq] at this;simp only;omega),hq3,hr1,hr2⟩⟩)
 have c1R:=c1;(try simp only[sd,se] at c1);refine C6 [0] O (BF [1] O (⟨O,_,[],Bq O,List.nil_sublist _,⟨⟨_,O,?_⟩,O⟩⟩));exact fun _=>⟨by omega,fun m hm=>by obtain⟨j,hj⟩:=Dl hm;exact hC j (by have:=(List.getElem?_eq_some_iff.1 hj).1;omega) m hj⟩
theorem Vl:∀(ctx:List Tm) (vars params metas levels:Int),(G3 ctx)→(Aq ctx<1000000)→(0≤vars∧vars≤1000)→EM Tryz.prog 46 [.p (.lst (A0 ctx)),.p (I vars),.p (I params),.p (I metas),.p (I levels)] (fun v=>∃e:Int,v= .p (I e)∧(e=0→∀(i:Nat) (t:Tm),ctx[i]?=some t→wf (max (vars+i) 0) metas 0 t∧Cw t)):=by
 intro ctx vars params metas levels h1 h2 h3;have hcl:=DN ctx;refine Db Tryz.func46 O ?_;refine F3 (α:=Nat) [2] [0,1,2,3,4] [] (fun i=>[(11,.p (I (i:Int)))]) (fun _=>[]) (fun i=>ctx.length - i) (fun i=>i≤ctx.length∧(∀j,j<i→∀t,ctx[j]?=some t→wf (max (vars+j) 0) metas 0 t∧Cw t)) 0 O O O (⟨by omega,fun j h=>by omega⟩) ?_;rintro i hC
 try simp only at hC
 have ⟨hi,hC⟩:=hC;refine CD [2] O O (Av _) ?_;refine BH [1] rfl ?_ ?_<;>intro c
 ·refine Em [2] ctx i O O O (Jt _) (fun x hx=>?_);refine De [7] O (Ci O O (BC O O (H6 x ((vars:Int)+((i:Int):Int)) params metas levels (CE h1 hx) (by have:=BW hx;omega)) (.inl O)) ?_);rintro _ ⟨e,rfl,he⟩;refine BT (BH [3] rfl ?_ ?_)<;>intro c1
  ·refine BF [2] O (⟨O,_,[],Bq O,List.nil_sublist _,⟨⟨_,O,?_⟩,O⟩⟩);exact fun h=>absurd h Ac
  exact Fa [3] 0 (i+1) O (⟨by omega,Dg hC hx (he Af)⟩)
 refine C6 [0] O (BF [1] O (⟨O,_,[],Bq O,List.nil_sublist _,⟨⟨_,O,?_⟩,O⟩⟩));exact fun _ j t hj=>hC j (by have:=(List.getElem?_eq_some_iff.1 hj).1;omega) t hj
theorem WZ:∀(l:List Mv) (ctx terms:List Tm),(l.length≤8)→(ctx.length<wide)→(XJ ctx)→(terms.length<wide)→(XJ terms)→EM Tryz.prog 16 [.p (.lst (List.map B5 l)),.p (.lst (A0 ctx)),.p (.lst (A0 terms))] (fun v=>∃b:Bool,v= .p (.bool b)∧(b=true→KS l.length ctx terms)):=by
 intro l ctx terms h1 h2 h3 h4 h5;simp only[wide] at h2 h4;refine Db Tryz.func16 O (CS [1] 1 [0,1,2] 31 (fun y=>∃b:Bool,y= .p (.bool b)∧(b=false→ctx.length≤6∧Ck ctx 60 0≤60∧Ck terms 60 0≤60∧Q8 ctx∧Q8 terms)) O O ?_ ?_)
 ·refine CD [1] O O (Av _) ?_;refine A9 [2] 12 rfl rfl ?_ ?_<;>intro g
  ·exact Bu [19] O (hr:=(by first | exact⟨_,rfl,fun h=>absurd h Ae⟩ | exact⟨_,rfl,fun h=>⟨by omega,by omega,by omega,hb Ad,hb1 (by simpa using h)⟩⟩))
  refine Cc [1] O (Kc _ ctx 60 (Nat.le_refl _) h3 h2) ?_;refine A9 [3] 17 rfl rfl ?_ ?_<;>intro g1
  ·exact Bu [14] O (hr:=(by first | exact⟨_,rfl,fun h=>absurd h Ae⟩ | exact⟨_,rfl,fun h=>⟨by omega,by omega,by omega,hb Ad,hb1 (by simpa using h)⟩⟩))
  refine Cc [1] O (Kc _ terms 60 (Nat.le_refl _) h5 h4) ?_;refine A9 [3] 22 rfl rfl ?_ ?_<;>intro g2
  ·exact Bu [9] O (hr:=(by first | exact⟨_,rfl,fun h=>absurd h Ae⟩ | exact⟨_,rfl,fun h=>⟨by omega,by omega,by omega,hb Ad,hb1 (by simpa using h)⟩⟩))
  refine De [1] O (EJ O O O O (BC O O (W3 _ ctx (Nat.le_refl _) h3 h2) (.inl O)) ?_);rintro _ ⟨b,rfl,hb⟩;refine BT (A9 [3] 27 rfl rfl ?_ ?_)<;>intro g3
  ·exact Bu [4] O (hr:=(by first | exact⟨_,rfl,fun h=>absurd h Ae⟩ | exact⟨_,rfl,fun h=>⟨by omega,by omega,by omega,hb Ad,hb1 (by simpa using h)⟩⟩))
  refine De [1] O (EJ O O O O (BC O O (W3 _ terms (Nat.le_refl _) h5 h4) (.inl O)) ?_);rintro _ ⟨b1,rfl,hb1⟩;refine BT (L0 [2] O ?_);exact⟨O,O,AK,(by first | exact⟨_,rfl,fun h=>absurd h Ae⟩ | exact⟨_,rfl,fun h=>⟨by omega,by omega,by omega,hb Ad,hb1 (by simpa using h)⟩⟩),⟨O,O,O,Ah⟩⟩
 rintro _ ⟨q,rfl,hq⟩;refine Cr [0] O O (fun c=>?_) (fun c=>?_)
 ·have cR:=c;(try simp only[sd,se] at c);refine BF [1] O (⟨O,_,[],Bq O,List.nil_sublist _,⟨⟨_,O,?_⟩,O⟩⟩);exact fun h=>absurd h Ae
 have cR:=c;(try simp only[sd,se] at c);have ⟨hq1,hq2,hq3,hq4,hq5⟩:=hq (by simpa using c);refine CD [1] O O (Av _) ?_;refine F3 (α:=Nat) [1] [0,1,32,33] [] (fun i=>[(34,.p (I (i:Int)))]) (fun _=>[]) (fun i=>terms.length - i) (fun i=>i≤terms.length∧(∀j,j<i→∀x,terms[j]?=some x→wf (max (ctx.length:Int) 0) l.length 0 x∧Cw x)) 0 O O O (⟨by omega,fun j h=>by omega⟩) ?_;rintro i hC
 try simp only at hC
 have ⟨hi,hC⟩:=hC;refine Cr [1] O O (fun c1=>?_) (fun c1=>?_)
 ·have c1R:=c1;(try simp only[sd,se] at c1);refine Em [0] terms i O O O (Jt _) (fun x hx=>?_);refine DR [1] O (Am Bx O) fun b8=>CD [3,0,1,0] O O (Av _) (CD [1] O O (List.length_map _) (De [0] O (Ci O O (BC O O (H6 x (ctx.length:Nat) 8 (l.length:Nat) 65536 (CE hq5.nd hx) (by have:=BW hx;have:=hq5.sz;omega)) (.inl O)) ?_)));rintro _ ⟨e,rfl,he⟩;refine BT (Cr [1] O O (fun c2=>?_) (fun c2=>?_))
  ·have c2R:=c2;(try simp only[sd,se] at c2);refine BF [1] O (⟨O,_,[],Bq O,List.nil_sublist _,⟨⟨_,O,?_⟩,O⟩⟩);exact fun h=>absurd h Ae
  have c2R:=c2;(try simp only[sd,se] at c2);exact Fa [2] 1 (i+1) O (⟨by omega,Dg hC hx (he Af)⟩)
 have c1R:=c1;(try simp only[sd,se] at c1);refine C6 [0] O (CD [2] O O (List.length_map _) (De [0] O (Ci O O (BC O O (Vl ctx 0 8 (l.length:Nat) 65536 hq4.nd (by have:=hq4.sz;omega) Af) (.inl O)) ?_)));rintro _ ⟨e,rfl,he⟩;refine BT (BF [2] O ?_);refine⟨O,_,[],Bq O,List.nil_sublist _,⟨⟨_,O,?_⟩,O⟩⟩;exact fun h=>Vc hq1 hq2 hq3 hq4 hq5 (fun j t hj=>hC j (by have:=(List.getElem?_eq_some_iff.1 hj).1;omega) t hj) (he (by simpa using h))
set_option maxHeartbeats 2000000 in
theorem Ye:∀(m:Nat) (ds:List B4) (s:Int) (t:Tm),(t.kind=6)→(Nd t)→(size t<1000000)→BO Tryz.prog 147 [.ptr m 0,.agg ((BB t).map .p)] [.box m [.p (.lst (List.map Bn ds)),.p (I s)]] (Pa (.agg ((BB t).map .p)) [.box m [.p (.lst (List.map Bn ds)),.p (I s)]]):=by
 intro m ds s t h1 h2 h3;have hsp:Al t=(t,[]):=by obtain⟨k,i,n,l,ks⟩:=t;exact Ow (.inl (by simp only[Tm.kind] at h1;omega))
 have hsl:(Al t).2.length=0:=by rw[hsp];rfl
 have hsk:(Al t).1.kind=6:=by rw[hsp];exact h1
 refine Bv Tryz.func147 O eU (n:=95) O O (A4 (Bz O (CJ O) fun b3=>Bz O (Am Bx O) fun b4=>Ba O (BG (C4 (α:=Nat) (fun k2=>⟨95,mk [(0,.ptr m 0),(3,.ptr b3 0),(4,.ptr b4 0)],[.box b4 [.p (I 0),.p (I 0),.p (.str ⟨#[]⟩),.p (.nils),.p (.nils)],.box b3 ((BB t).map .p),.box m [.p (.lst (List.map Bn ds)),.p (I s)]],[]⟩) (fun k2=>k2) (fun k2=>True) 0 AO ?_ ?_))))
 ·exact C3 ⟨we O,we O,we O,Ah⟩ (leH (is:=[0,1,2]) O (wl (oe O) (wl (oe O) (wl (oe O) (Js)))))
 rintro k2 hC
 try simp only at hC
 refine BG (A4 (Au O (B1 (i:=1) Bh O O AY) (Au O (BM O O (NU t h2 AU) O) (Az tab 3 [] O (Bz O (Am Bx O) fun b5=>Ar tab 2 [0,1] O (Ax (A4 (B6 O (Au O (Bp Bc O (Av _)) (Ar tab 1 [] O (A5 O (fun c=>?_) (fun c=>?_))))))))))))
 ·(try simp only[sd,se] at c);exfalso;omega
 (try simp only[sd,se] at c);refine BJ (A4 (Au O (BL aB O O) ?_));generalize hz:(Al t).1=z;obtain⟨zk,zi,zn,zl,zs⟩:=z;rw[hz] at hsk;have hd0:zk=6:=hsk;refine Ar tab 1 [0] O (BG (BD tab 2 [] O (A5 O (fun c1=>?_) (fun c1=>?_))))
 ·(try simp only[sd,se] at c1);exfalso;omega
 (try simp only[sd,se] at c1);refine BD tab 2 [] O (A5 O (fun c2=>?_) (fun c2=>?_))
 ·(try simp only[sd,se] at c2);exfalso;omega
 (try simp only[sd,se] at c2);refine Ax (BD tab 2 [] O (DV [0,3,4,5,6,21] 57 (fun y=>y= .p (.bool (decide (zk=9∨zk=10)))) ?_ ?_))
 ·refine A5 O (fun c3=>?_) (fun c3=>?_)
  ·(try simp only[sd,se] at c3);exact BJ (⟨O,O,(List.Sublist.refl _),AH,⟨O,O,O,O,O,O,Ah⟩⟩)
  (try simp only[sd,se] at c3);exact A1 (Ar tab 2 [] O (⟨O,O,(List.Sublist.refl _),AH,⟨O,O,O,O,O,O,Ah⟩⟩))
 rintro _ rfl;refine A5 O (fun c3=>?_) (fun c3=>?_)
 ·(try simp only[sd,se] at c3);exfalso;omega
 (try simp only[sd,se] at c3);refine BD tab 2 [] O (A5 O (fun c4=>?_) (fun c4=>?_))
 ·(try simp only[sd,se] at c4);exfalso;omega
 (try simp only[sd,se] at c4);refine BD tab 2 [2,1,1] O (Bk (⟨O,_,_,⟨_,_,O,(CT (i:=1) Bh O O AY),O⟩,(Fe (is:=[3]) O),?_⟩))
 all_goals exact⟨rfl,rfl⟩
theorem ZE:∀(be:Nat) (ce:List AV),Cp Tryz.prog 185 [.ptr be 0] (.ret) [.box be ce] (fun H'=>H'=[.box be ce]):=by
 intro be ce;refine E2 (ty2:=0) Tryz.func185 O fN (n:=14) O O O O O O (A4 (B6 O (Au O (Ea UM O O O) (Ba O ?_))));refine A5 O (fun c=>by cases c) (fun c=>?_);exact BJ ⟨.inl O,O,_,(Fe (is:=[0]) O),O⟩
theorem cZ:∀(ds:List B4) (cn:Int) (fid:Nat) (caps:List AV) (T G:List Aj) (hf:∀m,BO Tryz.prog fid ([.ptr m 0]++caps) (.box m [.p (.lst (List.map Bn ds)),.p (I 20000)]::T) (Pa (.tup []) (.box m [.p (.lst (List.map Bn ds)),.p (I cn)]::G))),BO Tryz.prog 145 [.p (.lst (List.map Bn ds)),.fn (.func fid) [] caps] T (Pa (.p (I 0)) G):=by
 intro ds cn fid caps T G hf;refine DW Tryz.func145 O fm (n:=11) O O (A4 (Bz O (Am aG O) fun b4=>Ba O (A4 (Au O (Dh O O) (Ks O O O O (Ba O (A4 (Az tab 3 [] O (Bz O (CJ O) fun b9=>JS (List.Perm.swap _ _ _) (G9 [_] O O O (.inr O) (hf b9) (B2 _) ?_ (fun _ _ h=>h.elim)))))))))));rintro v T2 ⟨rfl,rfl⟩;refine Ba O (BD tab 1 [0,0] O (Bk ⟨_,[_],_,O,List.Perm.refl _,Cp.eq (ZE b4 _) ?_⟩));refine⟨_,_,⟨_,_,O,(Er (i:=0) PR O O),O⟩,(Gs [] [_,_] O),?_⟩
 all_goals exact⟨rfl,rfl⟩
theorem YL:∀(m bt bo:Nat) (ds:List B4) (t:Tm),(t.kind=6)→(Nd t)→(size t<1000000)→BO Tryz.prog 146 [.ptr m 0,.ptr bt 0,.ptr bo 0] [.box m [.p (.lst (List.map Bn ds)),.p (I 20000)],.box bt ((BB t).map .p),.box bo [.p (I 0),.p (I 0),.p (.str ⟨#[]⟩),.p (.nils),.p (.nils)]] (Pa (.tup []) [.box m [.p (.lst (List.map Bn ds)),.p (I 20000)],.box bt ((BB t).map .p),.box bo ((BB t).map .p)]):=by
 intro m bt bo ds t h1 h2 h3;refine Bv Tryz.func146 O ec (n:=7) O O (A1 (Az tab 2 [1] O (Au O (Gp [0] O (.inl ⟨O,O,O⟩) (Ye m ds 20000 t h1 h2 h3) ⟨_,_,O,O,O⟩ Ae O (.inl O)) (Ar tab 1 [2,1] O ⟨O,_,_,O,(Fe (is:=[0,1,2]) O),?_⟩))))
 all_goals exact⟨rfl,rfl⟩
theorem Wz:∀(ds:List B4) (t:Tm),(t.kind=6)→(Nd t)→(size t<1000000)→EE Tryz.prog 93 [.p (.lst (List.map Bn ds)),.agg ((BB t).map .p)] (.tup [.agg ((BB t).map .p),.p (I 0)]):=by
 intro ds t h1 h2 h3;refine Bv Tryz.func93 O gy (n:=16) O O (A4 (Bz O (CJ O) fun b3=>Bz O (Am Bx O) fun b4=>Ar tab 1 [] O (A4 (Bz O (Am Bx O) fun b6=>Ba O (A4 (Az tab 2 [] O (Au O (Gp [2,0] O (.inl ⟨O,O,O⟩) (cZ ds 20000 146 [.ptr b3 0,.ptr b6 0] [.box b3 ((BB t).map .p),.box b6 [.p (I 0),.p (I 0),.p (.str ⟨#[]⟩),.p (.nils),.p (.nils)]] [.box b3 ((BB t).map .p),.box b6 ((BB t).map .p)] (fun m=>YL m b3 b6 ds t h1 h2 h3)) ⟨_,_,O,O,⟨_,_,O,O,O⟩⟩ Ae O (.inl O)) (Ar tab 1 [] O (Ax (BD tab 2 [] O ?_))))))))));refine A5 O (fun c=>by cases c) (fun c=>?_);refine BJ (BD tab 3 [0,1,1] O (Bk (⟨O,_,_,⟨_,_,O,(CT (i:=1) Bh O O AY),⟨_,_,O,O,O⟩⟩,(List.nil_sublist _),?_⟩)))
 all_goals exact⟨rfl,rfl⟩
theorem au:∀(q:Nat) (ds:List B4) (ms:List Mv) (bw bm bv bf:Nat) (w:Int) (t:Tm) (e:Int) (kinds:List Int),(t.kind=6)→(Nd t)→(size t<1000000)→(6∈kinds)→(kinds.length<C7)→BO Tryz.prog 59 [.ptr q 0,.agg ((BB t).map .p),.p (I e),.p (.lst (List.map CX kinds))] [.box q [.p (.lst (List.map Bn ds)),.p (.lst (List.map B5 ms)),.fn (.func 53) [] [.ptr bw 0,.ptr bm 0,.ptr bv 0,.ptr bf 0],.p (I w)]] (Pa (.agg ((BB t).map .p)) [.box q [.p (.lst (List.map Bn ds)),.p (.lst (List.map B5 ms)),.fn (.func 53) [] [.ptr bw 0,.ptr bm 0,.ptr bv 0,.ptr bf 0],.p (I w)]]):=by
 intro q ds ms bw bm bv bf w t e kinds h1 h2 h3 h4 h5;refine Bv Tryz.func59 O iP (n:=52) O O (A4 (Bz O (CJ O) fun b5=>Bz O (Am Bx O) fun b8=>Ba O (Ax (GS (fun k=>Nat.beq k 9) Y0 (E1 tab 5 [2,1] O (Aw O (fun _=>BM O O (Wz ds t h1 h2 h3) O) Ah (E1 tab 3 [] O (Nk [] O O (Am Bx O) Ab fun b9=>⟨AB,Ah,?_⟩))))))));refine GH tab 2 [0,1] O (Ax (BD tab 2 [] O ?_));refine A5 O (fun c=>by cases c) (fun c=>?_);refine BJ (Ax (A4 (Az tab 2 [] O ?_)));obtain⟨tk,ti,tn,tl,ts⟩:=t;refine Au O (BQ (i:=0) FV O O O) (Au O (BM O O (Md kinds tk h5) O) (Ba O (A5 O (fun c1=>?_) (fun c1=>?_))))
 ·(try simp only[sd,se] at c1);refine BD tab 2 [0,1,0] O (Bk (⟨O,_,_,⟨_,_,O,(CT (i:=1) Bh O O O),O⟩,(Fe (is:=[3]) O),?_⟩))
  all_goals exact⟨rfl,rfl⟩
 (try simp only[sd,se] at c1);exact absurd h4 (by have hk6:tk=6:=h1;subst hk6;simpa [Nx] using c1)
set_option maxHeartbeats 4000000 in
theorem Z6:∀(ds:List B4) (ms:List Mv) (ctx:List Tm) (N:Nat) (q:Nat) (bd md bo mo bw bm bv bf:Nat) (dn:List (Int×Tm)) (op:List Int) (wk w i:Int),NH ms ⟨dn,op,wk⟩→0≤w→w≤8192000→0≤i→i<(ms.length:Int)→ms.length≤9→(∀m∈ms,Ok 1000 m.value)→Ok 1000 (typeOf ms i)→20000≤N→BO Tryz.prog 28 [.ptr q 0,.p (.lst (A0 ctx)),TV (.mk 12 i ⟨#[]⟩ [] [])] [.box q [.p (.lst (List.map Bn ds)),.p (.lst (List.map B5 ms)),.fn (.func 53) [] [.ptr bw 0,.ptr bm 0,.ptr bv 0,.ptr bf 0],.p (I w)],.box bd [.map md],.map md (B8 (J9 dn)),.box bo [.map mo],.map mo (B8 (Jo op)),.box bw [.p (I wk)],.box bm [.p (.lst (List.map B5 ms))],.box bv [.fn (.func 51) [] [.ptr bd 0,.ptr bo 0,.ptr bf 0,.ptr bm 0]],.box bf [.fn (.func 53) [] [.ptr bw 0,.ptr bm 0,.ptr bv 0,.ptr bf 0]]] (M7 (fun(r:Tm×EN×Int)=>TV r.1) (fun e=> .p (.iface 32 (I e))) (fun r H'=>H'=[.box q [.p (.lst (List.map Bn ds)),.p (.lst (List.map B5 ms)),.fn (.func 53) [] [.ptr bw 0,.ptr bm 0,.ptr bv 0,.ptr bf 0],.p (I r.2.2)],.box bd [.map md],.map md (B8 (J9 r.2.1.dn)),.box bo [.map mo],.map mo (B8 (Jo r.2.1.op)),.box bw [.p (I r.2.1.wk)],.box bm [.p (.lst (List.map B5 ms))],.box bv [.fn (.func 51) [] [.ptr bd 0,.ptr bo 0,.ptr bf 0,.ptr bm 0]],.box bf [.fn (.func 53) [] [.ptr bw 0,.ptr bm 0,.ptr bv 0,.ptr bf 0]]]) (FW ms N (.mk 12 i ⟨#[]⟩ [] []) ⟨dn,op,wk⟩ w)):=by
 intro ds ms ctx N q bd md bo mo bw bm bv bf dn op wk w i h1 h2 h3 h4 h5 h6 h7 h8 h9;refine Db Tryz.func28 O (DT [0] O O fun b5=>DR [0] O (Am Bx O) fun b6=>Cr [13,2,2,0,2] O O (fun c=>?_) (fun c=>?_))
 ·have cR:=c;(try simp only[sd,se] at c);exact De [0] O (F9 O O O (.inl ⟨O,O,O⟩) (Kl 11) (aw (we O) (HY)) (⟨O,_,List.nil_sublist _,⟨_,P3 Af,O⟩⟩))
 have cR:=c;(try simp only[sd,se] at c);have hnw:¬w+1 > 8192000:=by omega
 refine Cr [4,1] O O (fun c1=>by cases c1) (fun c1=>?_);refine Cr [2] O O (fun c2=>by cases c2) (fun c2=>?_);refine Cr [2] O O (fun c3=>by cases c3) (fun c3=>?_);refine Cr [2] O O (fun c4=>by cases c4) (fun c4=>?_);refine Cr [2] O O (fun c5=>by cases c5) (fun c5=>?_);refine Cr [2] O O (fun c6=>by cases c6) (fun c6=>?_);refine Cr [2] O O (fun c7=>by cases c7) (fun c7=>?_);refine Cr [2] O O (fun c8=>by cases c8) (fun c8=>?_);refine Cr [2] O O (fun c9=>by cases c9) (fun c9=>?_);refine Cr [2] O O (fun c10=>by cases c10) (fun c10=>?_);refine Cr [2] O O (fun c11=>by cases c11) (fun c11=>?_);refine Cr [2] O O (fun c12=>by cases c12) (fun c12=>?_);refine CS [0] 40 [0,5,6] 216 (fun y=>y= .p (.bool false)) O O ?_ ?_
 ·refine Jf [0] [] O (DB [4,1] O (HV 207 O (fun g=>?_) (fun g=>?_)))
  ·(try simp only[sd,se] at g);exact GH tab 9 [] O (I8 (Bu [0] O (hr:=(by refine pB ?_;simp only[Bool.or_eq_false_iff,decide_eq_false_iff_not] at *;omega))))
  (try simp only[sd,se] at g);exact DB [6,1,2] O (BZ O (fun _=>Bp IB O (List.length_map _)) Ah (GH tab 2 [] O (I8 (Bu [0] O (hr:=(by refine pB ?_;simp only[Bool.or_eq_false_iff,decide_eq_false_iff_not] at *;omega))))))
 rintro _ rfl;refine Cr [0] O O (fun c13=>by cases c13) (fun c13=>?_);refine Jf [0] [13] O (DB [10,2,2,1] O ?_);have ⟨x,hx⟩:=Ap (l:=ms) (i:=(i:Int).toNat) Af;refine Aw O (fun _=>Ao IB O O Af (Kt hx) (DH _)) Ah ?_;obtain⟨xy,xn,xv,xc⟩:=x;obtain⟨xyk,xyi,xyn,xyl,xys⟩:=xy;obtain⟨xvk,xvi,xvn,xvl,xvs⟩:=xv;refine Aw O (fun _=>CV dq O O) Ah (Aw O (fun _=>EA (cs:=[I xyk,I xyi,.str xyn,.lst (List.map Dd xyl),.lst (A0 xys)]) Bh O O O) Ah ?_);have hty:typeOf ms i= .mk xyk xyi xyn xyl xys:=by unfold typeOf;rw[hx]
 refine IT [3,4,5,6,7,8,9,10] O O O (.inr O) (RL ms 1000 bd md bo mo bw bm bv bf Af Af h7 Af N dn op wk _ h8 h1 (by have:=Zs ms op;have:=h8.sz;omega)) ⟨_,_,O,O,⟨_,_,O,O,⟨_,_,O,O,⟨_,_,O,O,⟨_,_,O,O,⟨_,_,O,O,⟨_,_,O,O,⟨_,_,O,O,O⟩⟩⟩⟩⟩⟩⟩⟩ Ae (by rw[hty];exact B2 _) (fun _ _ h=>(congrArg List.length h).trans O) Ab Ab O AB ?_ ?_
 rotate_left
 ·intro e he _ _ hτ;exact⟨O,_,List.nil_sublist _,⟨_,YW hnw he,O⟩⟩
 rintro⟨z,⟨dn1,op1,wk1⟩⟩ _ hz rfl;refine⟨AB,Ah,?_⟩;refine GU [1,0,1] O (BF [0] O (B7 [0] [2,3,4,5,6,7,8,9,10] O O ⟨⟨z,⟨dn1,op1,wk1⟩,w+1⟩,Zj hnw hz,O,O⟩))
set_option maxHeartbeats 4000000 in
theorem XY:∀(ds:List B4) (ms:List Mv) (ctx:List Tm) (N:Nat) (q:Nat) (bd md bo mo bw bm bv bf:Nat) (f a x b:Tm) (hf:Jp ms f (.mk 6 0 ⟨#[]⟩ [] [x,b])) (ih:∀(dn:List (Int×Tm)) (op:List Int) (wk w:Int),NH ms ⟨dn,op,wk⟩→0≤w→w≤8192000→BO Tryz.prog 28 [.ptr q 0,.p (.lst (A0 ctx)),TV f] [.box q [.p (.lst (List.map Bn ds)),.p (.lst (List.map B5 ms)),.fn (.func 53) [] [.ptr bw 0,.ptr bm 0,.ptr bv 0,.ptr bf 0],.p (I w)],.box bd [.map md],.map md (B8 (J9 dn)),.box bo [.map mo],.map mo (B8 (Jo op)),.box bw [.p (I wk)],.box bm [.p (.lst (List.map B5 ms))],.box bv [.fn (.func 51) [] [.ptr bd 0,.ptr bo 0,.ptr bf 0,.ptr bm 0]],.box bf [.fn (.func 53) [] [.ptr bw 0,.ptr bm 0,.ptr bv 0,.ptr bf 0]]] (M7 (fun(r:Tm×EN×Int)=>TV r.1) (fun e=> .p (.iface 32 (I e))) (fun r H'=>H'=[.box q [.p (.lst (List.map Bn ds)),.p (.lst (List.map B5 ms)),.fn (.func 53) [] [.ptr bw 0,.ptr bm 0,.ptr bv 0,.ptr bf 0],.p (I r.2.2)],.box bd [.map md],.map md (B8 (J9 r.2.1.dn)),.box bo [.map mo],.map mo (B8 (Jo r.2.1.op)),.box bw [.p (I r.2.1.wk)],.box bm [.p (.lst (List.map B5 ms))],.box bv [.fn (.func 51) [] [.ptr bd 0,.ptr bo 0,.ptr bf 0,.ptr bm 0]],.box bf [.fn (.func 53) [] [.ptr bw 0,.ptr bm 0,.ptr bv 0,.ptr bf 0]]]) (FW ms N f ⟨dn,op,wk⟩ w))) (ha:Ok 4096 a) (hb:Ok 4096 b) (hm:∀m∈ms,Ok 1000 m.value) (dn:List (Int×Tm)) (op:List Int) (wk w:Int),NH ms ⟨dn,op,wk⟩→0≤w→w≤8192000→BO Tryz.prog 28 [.ptr q 0,.p (.lst (A0 ctx)),TV (.mk 4 0 ⟨#[]⟩ [] [f,a])] [.box q [.p (.lst (List.map Bn ds)),.p (.lst (List.map B5 ms)),.fn (.func 53) [] [.ptr bw 0,.ptr bm 0,.ptr bv 0,.ptr bf 0],.p (I w)],.box bd [.map md],.map md (B8 (J9 dn)),.box bo [.map mo],.map mo (B8 (Jo op)),.box bw [.p (I wk)],.box bm [.p (.lst (List.map B5 ms))],.box bv [.fn (.func 51) [] [.ptr bd 0,.ptr bo 0,.ptr bf 0,.ptr bm 0]],.box bf [.fn (.func 53) [] [.ptr bw 0,.ptr bm 0,.ptr bv 0,.ptr bf 0]]] (M7 (fun(r:Tm×EN×Int)=>TV r.1) (fun e=> .p (.iface 32 (I e))) (fun r H'=>H'=[.box q [.p (.lst (List.map Bn ds)),.p (.lst (List.map B5 ms)),.fn (.func 53) [] [.ptr bw 0,.ptr bm 0,.ptr bv 0,.ptr bf 0],.p (I r.2.2)],.box bd [.map md],.map md (B8 (J9 r.2.1.dn)),.box bo [.map mo],.map mo (B8 (Jo r.2.1.op)),.box bw [.p (I r.2.1.wk)],.box bm [.p (.lst (List.map B5 ms))],.box bv [.fn (.func 51) [] [.ptr bd 0,.ptr bo 0,.ptr bf 0,.ptr bm 0]],.box bf [.fn (.func 53) [] [.ptr bw 0,.ptr bm 0,.ptr bv 0,.ptr bf 0]]]) (FW ms N (.mk 4 0 ⟨#[]⟩ [] [f,a]) ⟨dn,op,wk⟩ w)):=by
 intro ds ms ctx N q bd md bo mo bw bm bv bf f a x b hf ih ha hb hm dn op wk w h1 h2 h3;have ⟨u1,u2,u3,u4⟩:=LL hb ha;have hfl:[f,a].length=2:=rfl;refine Db Tryz.func28 O (DT [0] O O fun b5=>DR [0] O (Am Bx O) fun b6=>Cr [13,2,2,0,2] O O (fun c=>?_) (fun c=>?_))
 ·have cR:=c;(try simp only[sd,se] at c);exact De [0] O (F9 O O O (.inl ⟨O,O,O⟩) (Kl 11) (aw (we O) (HY)) (⟨O,_,List.nil_sublist _,⟨_,P3 Af,O⟩⟩))
 have cR:=c;(try simp only[sd,se] at c);have hnw:¬w+1 > 8192000:=by omega
 refine Cr [4,1] O O (fun c1=>by cases c1) (fun c1=>?_);refine Cr [2] O O (fun c2=>by cases c2) (fun c2=>?_);refine Cr [2] O O (fun c3=>by cases c3) (fun c3=>?_);refine Cr [2] O O (fun c4=>by cases c4) (fun c4=>?_);refine Cr [2] O O (fun c5=>?_) (fun c5=>by cases c5);refine Ak [5,1] O (Ao Bc O O Af (B9 O) (An _)) (De [1] O (E4 [2,3,4,5,6,7,8,9,10] O O O (.inl ⟨O,O,O⟩) (ih dn op wk (w+1) h1 Af Af) ⟨_,_,O,O,⟨_,_,O,O,⟨_,_,O,O,⟨_,_,O,O,⟨_,_,O,O,⟨_,_,O,O,⟨_,_,O,O,⟨_,_,O,O,⟨_,_,O,O,O⟩⟩⟩⟩⟩⟩⟩⟩⟩ Ae (B2 _) (fun _ _ h=>(congrArg List.length h).trans O) ?_ ?_))
 rotate_left
 ·intro e _ he;exact⟨O,_,List.nil_sublist _,⟨_,Wl hnw he,O⟩⟩
 rintro⟨z,⟨dn1,op1,wk1⟩,w1⟩ _ hz rfl;obtain rfl:=aA hm hf h1 Af Af hz;have hpo:=hf.ok;refine BT (Ak [0] O (Ay Hg Wf O O O O O) ?_);refine Ak [0] O (Gp [2] O (.inl ⟨O,O,O⟩) (au q ds ms bw bm bv bf w1 (.mk 6 0 ⟨#[]⟩ [] [x,b]) 13 [6] O hpo.nd (by have:=hpo.sz;omega) Ag (by simp[C7])) ⟨_,_,O,O,O⟩ Ae O (.inl O)) (DR [0] O (Am Bx O) fun b13=>Jf [1,0,0] [10] O (DB [2,0] O (Aw O (fun _=>Ao Bc O O Af (B9 O) (An _)) Ah (DB [3,2] O (Aw O (fun _=>E5 (lo:=1) (hi:=2) Bc O (HQ (G1 _)) ⟨_,O⟩ ⟨_,O⟩ Ae (Nat.le_refl 2) (dG [f,a] 1 2)) Ah ?_)))));refine Aw O (fun _=>BM O O (Qi b [a] hb.nd hb.vp (by have:=hb.sz;omega) ⟨ha.nd,Ah⟩ ⟨ha.vp,Ah⟩ (fun v hv=>by simp at hv;subst hv;have:=ha.sz;simp only[C7];omega) (by simp[C7])) rfl) trivial ?_;refine DB [2] O (IT [] O O O (.inl ⟨O,O,O⟩) (Gm ((Bo b [a] 0).1) ((Bo b [a] 0).2) u1 (Nat.lt_of_le_of_lt u4 Ae)) O Ae (aw (we O) (aw (we O) (HY))) (fun _ _ h=>(congrArg List.length h).trans O) Ab Ab O AB ?_ ?_)
 rotate_left
 ·intro e he _ _ hτ;exact⟨O,_,List.nil_sublist _,⟨_,Wj hnw hz he,O⟩⟩
 rintro y _ hz1 rfl;refine⟨AB,Ah,?_⟩;refine GU [1,1,1] O (BF [0] O (B7 [1] [3,4,5,6,7,8,9,10,11] O O ⟨⟨y,⟨dn1,op1,wk1⟩,w1⟩,Yd hnw hz hz1,O,O⟩))
theorem Xg (ds:List B4) (ms:List Mv) (ctx:List Tm) (N:Nat) (q bd md bo mo bw bm bv bf:Nat) (hl:ms.length≤9) (hm:∀m∈ms,Ok 1000 m.value) (hN:20000≤N) {t y:Tm}(h:Jp ms t y):∀(dn:List (Int×Tm)) (op:List Int) (wk w:Int),NH ms ⟨dn,op,wk⟩→0≤w→w≤8192000→BO Tryz.prog 28 [.ptr q 0,.p (.lst (A0 ctx)),TV t] [.box q [.p (.lst (List.map Bn ds)),.p (.lst (List.map B5 ms)),.fn (.func 53) [] [.ptr bw 0,.ptr bm 0,.ptr bv 0,.ptr bf 0],.p (I w)],.box bd [.map md],.map md (B8 (J9 dn)),.box bo [.map mo],.map mo (B8 (Jo op)),.box bw [.p (I wk)],.box bm [.p (.lst (List.map B5 ms))],.box bv [.fn (.func 51) [] [.ptr bd 0,.ptr bo 0,.ptr bf 0,.ptr bm 0]],.box bf [.fn (.func 53) [] [.ptr bw 0,.ptr bm 0,.ptr bv 0,.ptr bf 0]]] (M7 (fun(r:Tm×EN×Int)=>TV r.1) (fun e=> .p (.iface 32 (I e))) (fun r H'=>H'=[.box q [.p (.lst (List.map Bn ds)),.p (.lst (List.map B5 ms)),.fn (.func 53) [] [.ptr bw 0,.ptr bm 0,.ptr bv 0,.ptr bf 0],.p (I r.2.2)],.box bd [.map md],.map md (B8 (J9 r.2.1.dn)),.box bo [.map mo],.map mo (B8 (Jo r.2.1.op)),.box bw [.p (I r.2.1.wk)],.box bm [.p (.lst (List.map B5 ms))],.box bv [.fn (.func 51) [] [.ptr bd 0,.ptr bo 0,.ptr bf 0,.ptr bm 0]],.box bf [.fn (.func 53) [] [.ptr bw 0,.ptr bm 0,.ptr bv 0,.ptr bf 0]]]) (FW ms N t ⟨dn,op,wk⟩ w)):=by
 induction h with
 | hd a b c d=>intro dn op wk w g1 g2 g3;exact Z6 ds ms ctx N q bd md bo mo bw bm bv bf dn op wk w _ g1 g2 g3 a b hl hm d hN
 | app hf ha hb ih=>exact XY ds ms ctx N q bd md bo mo bw bm bv bf _ _ _ _ hf ih ha hb hm
theorem WC:∀(bo be:Nat) (co ce:List AV),Cp Tryz.prog 25 [.ptr bo 0,.ptr be 0] (.ret) [.box bo co,.box be ce] (fun H'=>H'=[.box bo co,.box be ce]):=by
 intro bo be co ce;refine E2 (ty2:=0) Tryz.func25 O eo (n:=9) O O O O O O (A4 (B6 O (Au O (Ea UM O O O) (Ba O ?_))));refine A5 O (fun c=>by cases c) (fun c=>?_);exact BJ ⟨.inl O,O,_,(Fe (is:=[0,1]) O),O⟩
theorem Pm:∀(bo be:Nat) (e:Int),Cp Tryz.prog 25 [.ptr bo 0,.ptr be 0] (.pan (.p (.iface 32 (I e)))) [.box bo [.p (I 0),.p (I 0),.p (.str ⟨#[]⟩),.p (.nils),.p (.nils)],.box be [.p (I 0)]] (fun H'=>H'=[.box bo [.p (I 0),.p (I 0),.p (.str ⟨#[]⟩),.p (.lst []),.p (.lst [])],.box be [.p (I e)]]):=by
 intro bo be e;refine E2 (ty2:=0) Tryz.func25 O eo (n:=9) O O O O O O (A4 (B6 O (Au O (Ea UM O O O) (CZ (CI (i:=0) O) (Ba O ?_)))));refine A5 O (fun c=>?_) (fun c=>by cases c);exact A1 (Az tab 2 [] O (Au O (BM O O (Pr _) O) (Az tab 2 [0,0,1,0] O (CZ (CI (i:=0) O) (Ba O ⟨.inl O,O,_,(Fe (is:=[0,1]) O),O⟩)))))
set_option maxHeartbeats 2000000 in
theorem YU:∀(ds:List B4) (ms:List Mv) (ctx:List Tm) (t:Tm) (N:Nat) (y:Tm),(ms.length≤9)→(∀m∈ms,Ok 1000 m.value)→(20000≤N)→(Jp ms t y)→(Ok 1000 t)→(TP (Uf ms) t)→EE Tryz.prog 7 [.p (.lst (List.map Bn ds)),.p (.lst (List.map B5 ms)),.p (.lst (A0 ctx)),.agg ((BB t).map .p)] (.tup [.agg ((BB ((Dt ms N t).1)).map .p),.p (I ((Dt ms N t).2))]):=by
 intro ds ms ctx t N y h1 h2 h3 h4 h5 h6;refine DW Tryz.func7 O jo (n:=26) O O (A4 (Bz O (CJ O) fun b7=>Bz O (Am Bx O) fun b8=>Bz O (Am aG O) fun b9=>Ba O (A4 (Au O (Dh O O) (Ks O O O O (Ba O (A4 (B6 O (aH O O O (.inl ⟨O,O,O⟩) (Pv ms) (B2 _) fun⟨bd,md,bo,mo,bw,bm,bv,bf⟩=>Ar tab 1 [] O (A4 (Az tab 4 [] O (Bz O (CJ O) fun b19=>Ar tab 1 [] O (A4 (Az tab 4 [11] O (E4 [5,7,4,6,3,8,1,2] O O O (.inr O) (RL ms 1000 bd md bo mo bw bm bv bf Af Af h2 Af N [] [] 0 t h5 (JI ms) (by rw[SB];have:=h5.sz;omega)) ⟨_,_,O,O,⟨_,_,O,O,⟨_,_,O,O,⟨_,_,O,O,⟨_,_,O,O,⟨_,_,O,O,⟨_,_,O,O,⟨_,_,O,O,O⟩⟩⟩⟩⟩⟩⟩⟩ Ae (B2 _) (fun _ _ h=>(congrArg List.length h).trans O) ?_ ?_)))))))))))))))
 rotate_left
 ·intro e _ he;refine⟨_,_,_,O,Hr (is:=[2,1]) _ Ae ⟨_,_,O,O,⟨_,_,O,O,O⟩⟩,Cp.eq (Pm b8 b9 _) ?_⟩;refine⟨_,[],⟨_,_,O,(CT (i:=0) Bh O O O),⟨_,_,O,(Er (i:=1) PR O O),O⟩⟩,(List.nil_sublist _),?_⟩;rw[UB he];exact⟨O,O⟩
 rintro⟨z,⟨dn1,op1,wk1⟩⟩ _ hz rfl;obtain rfl:=XS h6 hz;have hs1:=(Dn Af h2 N _ _ _ h5 (JI ms) hz).2.1;refine E4 [0,5,7,4,6,3,8,1,2] O O O (.inl ⟨O,O,O⟩) (Xg ds ms ctx N b19 bd md bo mo bw bm bv bf h1 h2 h3 h4 dn1 op1 wk1 0 hs1 Af Af) ⟨_,_,O,O,⟨_,_,O,O,⟨_,_,O,O,⟨_,_,O,O,⟨_,_,O,O,⟨_,_,O,O,⟨_,_,O,O,⟨_,_,O,O,⟨_,_,O,O,O⟩⟩⟩⟩⟩⟩⟩⟩⟩ Ae (B2 _) (fun _ _ h=>(congrArg List.length h).trans O) ?_ ?_
 rotate_left
 ·intro e _ he;refine⟨_,_,_,O,Hr (is:=[1,0]) _ Ae ⟨_,_,O,O,⟨_,_,O,O,O⟩⟩,Cp.eq (Pm b8 b9 _) ?_⟩;refine⟨_,[],⟨_,_,O,(CT (i:=0) Bh O O O),⟨_,_,O,(Er (i:=1) PR O O),O⟩⟩,(List.nil_sublist _),?_⟩;rw[UF hz he];exact⟨O,O⟩
 rintro⟨y1,⟨dn2,op2,wk2⟩,w2⟩ _ hz1 rfl;refine Ar tab 2 [10,1,9,0] O (Bk (⟨_,_,_,O,CR (is:=[10,9]) Ae ⟨_,_,O,O,⟨_,_,O,O,O⟩⟩,Cp.eq (WC b8 b9 _ _) ?_⟩));refine⟨_,_,⟨_,_,O,(CT (i:=0) Bh O O AY),⟨_,_,O,(Er (i:=1) PR O O),O⟩⟩,(List.nil_sublist _),?_⟩;rw[UU hz hz1]
 all_goals exact⟨rfl,rfl⟩
theorem UE:∀(l:List Mv) (terms:List Tm),(l.length≤8)→(G3 terms)→(Aq terms<1000)→EM Tryz.prog 11 [.p (.lst (List.map B5 l)),.p (.lst (A0 terms))] (fun v=>∃b:Bool,v= .p (.bool b)∧(b=true→Rh l terms)):=by
 intro l terms h1 h2 h3;have htl:=DN terms;refine Db Tryz.func11 O (CD [2] O O (Av _) ?_);refine F3 (α:=Nat) [1] [0,9,10] [] (fun i=>[(11,.p (I (i:Int)))]) (fun _=>[]) (fun i=>terms.length - i) (fun i=>i≤terms.length∧(∀j,j<i→∀t,terms[j]?=some t→∀z∈Cx [] t,RN l z)) 0 O O O (⟨by omega,fun j h=>by omega⟩) ?_;rintro i hC
 try simp only at hC
 have ⟨hi,hC⟩:=hC;refine Cr [1] O O (fun c=>?_) (fun c=>?_)
 ·have cR:=c;(try simp only[sd,se] at c);refine Em [0] terms i O O O (Jt _) (fun x hx=>?_);refine DR [1] O (Am Bx O) fun b6=>Cc [2,0,1,0] O (YN x (CE h2 hx) (by have:=BW hx;simp only[C7];omega)) (CD [0] O O (List.length_map _) ?_);refine F3 (α:=Nat) [1] [0,9,10,11,16,17] [] (fun j=>[(18,.p (I (j:Int)))]) (fun _=>[]) (fun j=>(Cx [] x).length - j) (fun j=>j≤(Cx [] x).length∧(∀k,k<j→∀z,(Cx [] x)[k]?=some z→RN l z)) 0 O O O (⟨by omega,fun j h=>by omega⟩) ?_;rintro j hC1
  try simp only at hC1
  have ⟨hi,hC1⟩:=hC1;have hml:=Ii x [];simp only[List.length_nil] at hml;have hxs:=BW hx;refine Cr [1] O O (fun c1=>?_) (fun c1=>?_)
  ·have c1R:=c1;(try simp only[sd,se] at c1);refine Em [0] (Cx [] x) j O O O (IK (f:=CX) fun _=>O) (fun x1 hx1=>?_);refine CS [2] 7 [0,9,10,11,16,17,18] 36 (fun y=>∃b:Bool,y= .p (.bool b)∧(b=false→RN l x1)) O O ?_ ?_
   ·refine A9 [3] 24 rfl rfl ?_ ?_<;>intro g
    ·exact Bu [12] O (hr:=(by refine⟨_,rfl,fun h=>?_⟩;first | (exact absurd h Ae) | exact⟨by omega,by omega,fun m1 hm1=>by rw[hm] at hm1;cases hm1;exact h⟩))
    refine CD [2] O O (List.length_map _) ?_;refine A9 [3] 30 rfl rfl ?_ ?_<;>intro g1
    ·exact Bu [6] O (hr:=(by refine⟨_,rfl,fun h=>?_⟩;first | (exact absurd h Ae) | exact⟨by omega,by omega,fun m1 hm1=>by rw[hm] at hm1;cases hm1;exact h⟩))
    refine Em [2] l ((x1:Int).toNat) O O O (IK DH) (fun m hm=>?_);obtain⟨my,mn,mv,mc⟩:=m;obtain⟨myk,myi,myn,myl,mys⟩:=my;obtain⟨mvk,mvi,mvn,mvl,mvs⟩:=mv;exact Bu [3] O (hr:=(by refine⟨_,rfl,fun h=>?_⟩;first | (exact absurd h Ae) | exact⟨by omega,by omega,fun m1 hm1=>by rw[hm] at hm1;cases hm1;exact h⟩))
   rintro _ ⟨r,rfl,hr⟩;refine Cr [0] O O (fun c2=>?_) (fun c2=>?_)
   ·have c2R:=c2;(try simp only[sd,se] at c2);refine BF [1] O (⟨O,_,[],Bq O,List.nil_sublist _,⟨⟨_,O,?_⟩,O⟩⟩);exact fun h=>absurd h Ae
   have c2R:=c2;(try simp only[sd,se] at c2);exact Fa [2] 0 (j+1) O (⟨by omega,Dg (p:=fun _ (z:Int)=>RN l z) hC1 hx1 (hr (by simpa using c2))⟩)
  have c1R:=c1;(try simp only[sd,se] at c1);refine C6 [0] O ?_;exact Fa [2] 0 (i+1) rfl (⟨by omega,Dg (p:=fun _ (t:Tm)=>∀z∈Cx [] t,RN l z) hC hx (fun z hz=>by obtain⟨j,hj⟩:=List.mem_iff_getElem?.1 hz;exact hC1 j (by have:=(List.getElem?_eq_some_iff.1 hj).1;omega) z hj)⟩)
 have cR:=c;(try simp only[sd,se] at c);refine C6 [0] O (BF [1] O (⟨O,_,[],Bq O,List.nil_sublist _,⟨⟨_,O,?_⟩,O⟩⟩));exact fun _ t ht=>by obtain⟨j,hj⟩:=Dl ht;exact hC j (by have:=(List.getElem?_eq_some_iff.1 hj).1;omega) t hj
theorem az:∀(x:eL) (t:Tm),(Yp x)→(Wd t)→EM Tryz.prog 5 [.agg [.p (.lst (List.map Bn x.env)),.p (.lst (List.map B5 x.metas)),.p (.lst (A0 x.ctx))],.agg ((BB t).map .p)] (fun v=>∃b:Bool,v= .p (.bool b)∧(b=true→MY x.metas∧KS x.metas.length x.ctx [t])):=by
 intro x t h1 h2;refine Db Tryz.func5 O (DT [0] O O fun b2=>DT [0] O O fun b3=>CS [1] 1 [] 4 (fun y=>∃b:Bool,y= .p (.bool b)∧(b=true→MY x.metas∧KS x.metas.length x.ctx [t])) O O ?_ ?_)
 ·refine De [2,1] O (Ci O O (BC O O (YF x.metas h1.ml h1.ms) (.inl O)) ?_);rintro _ ⟨b,rfl,hb⟩;refine BT (A9 [1] 8 rfl rfl ?_ ?_)<;>intro g
  ·obtain⟨tk,ti,tn,tl,ts⟩:=t;refine Ak [5,1,1,0] O (Ay Bc Bx O O O O O) (De [0] O (EJ O O O O (BC O O (WZ x.metas x.ctx [(.mk tk ti tn tl ts:Tm)] (hb (by simpa using @g)).len h1.cl h1.cs (by simp[wide]) ⟨h2,Ah⟩) (.inl O)) ?_));rintro _ ⟨b1,rfl,hb1⟩;refine BT (A9 [2] 17 rfl rfl ?_ ?_)<;>intro g1
   ·refine De [2,1] O (EJ O O O O (BC O O (Wn x.env h1.env) (.inl O)) ?_);rintro _ ⟨q,rfl⟩;refine BT (L0 [2] O ?_);exact⟨O,O,AK,(by refine⟨_,rfl,fun h=>?_⟩;first | (exact absurd h Ae) | exact⟨hb Ad,hb1 Ad⟩),Ah⟩
   exact Bu [5] O (hr:=(by refine⟨_,rfl,fun h=>?_⟩;first | (exact absurd h Ae) | exact⟨hb Ad,hb1 Ad⟩))
  exact Bu [14] O (hr:=(by refine⟨_,rfl,fun h=>?_⟩;first | (exact absurd h Ae) | exact⟨hb Ad,hb1 Ad⟩))
 rintro _ ⟨q,rfl,hq⟩;refine BF [0] O (⟨O,_,[],Bq O,List.nil_sublist _,⟨⟨_,O,?_⟩,O⟩⟩);exact hq
theorem Xc:∀(a b:List Mv),(a.length<C7)→(∀m∈a,Nd m.type∧Nd m.value)→EE Tryz.prog 13 [.p (.lst (List.map B5 a)),.p (.lst (List.map B5 b))] (.p (.bool (PO a b))):=by
 intro a b h1 h2;refine Db Tryz.func13 O (Cc [3] O (XO a b h1 h2) (BF [1] O (B7 [] [] O O ⟨O,O⟩)))
end Go.Proofs.YtajnpndfkbnkoaaGreat
namespace Go.Abs
variable {P:Program}{ops:Array Oper}{n:Nat}{τ₀:Nat→AV}{D:List Cb}{Q:Bd→As→Prop}{opn:Nat→Bool}{k:Nat}{τ:Nat→AV}{H:List Aj}{rd:Ot}{ef:O7}{effs:List Bool}{fx:List (Nat×Sp)}{dst:Option Tmp}{op:Op}{ty:TypeId}{pos:String}{aft:Array Edge}
theorem bA {sz j d:Nat}{want:Bool}{rows:List (List PV)}(fx':List (Nat×Sp)) (ho:ops[k]?=some ⟨dst,op,ty,pos,aft,some (j,want)⟩) (hn:opn k=true) (hj:(ops[j]?).bind (·.dst)=some d) (hb:τ d= .p (.bool want)) (h:CL P ⟨dst,op,ty,pos,aft,some (j,want)⟩ (ev τ) H (HZ sz rows H)) (haft:Ct ops k (fx'.map (·.1))=true)
  (next:∀b c,GJ ops k H (.vec (some b) sz rows c::H) rd∧D6 k (.eff (.vs (some b) rows.length c) (.vec (some b) sz rows c::H)) fx∧Dr P ops n τ₀ D Q opn (k+1) (put τ dst (.vs (some b) rows.length c)) (.vec (some b) sz rows c::H) rd ((k,H,.vec (some b) sz rows c::H)::ef) (true::effs) (fx'++fx)):Dr P ops n τ₀ D Q opn k τ H rd ef effs fx :=
 .opn (HZ sz rows H) fx' ho hn ⟨d,hj,hb⟩ h haft ⟨_,_,0,0,rfl,rfl⟩ (fun v H' ⟨b,c,h1,h2⟩=>by subst h1;subst h2;exact(next b c).1) (fun v H' ⟨b,c,h1,h2⟩=>by subst h1;subst h2;exact(next b c).2.1) (fun v H' ⟨b,c,h1,h2⟩=>by subst h1;subst h2;exact(next b c).2.2) (fun _ _ h=>h.elim)
end Go.Abs
namespace Go.Proofs.YtajnpndfkbnkoaaGreat
open Go.Abs Go.Eu
theorem js (t : Tm) : ∀ c ∈ BB t, c ≠ .nils := by obtain ⟨k, i, n, l, s⟩ := t; simp [BB]
theorem ft (l : List Tm) : ∀ r ∈ A0 l, ∀ c ∈ r, c ≠ .nils := by
 intro r hr
 rw [Cl] at hr
 obtain ⟨t, _, rfl⟩ := List.mem_map.1 hr
 exact js t
theorem dY:∀(x:eL) (t X u:Tm),(fZ x.metas x.ctx t X u)→(MY x.metas)→(KS x.metas.length x.ctx [t])→EE Tryz.prog 12 [.p (.lst (List.map B5 x.metas)),.p (.lst (A0 x.ctx)),.agg ((BB t).map .p),.p (.bool false)] (.tup [.p (.lst (List.map B5 (x.metas++[Mv.mk X false A3 false]))),.agg ((BB u).map .p),.p (I 0)]):=fun x t X u hU hg hs=>by have h:=YC x.metas x.ctx t false (by have:=hg.len;omega) hs.sm.n1 hs.sm.n2.1 (by have:=hs.sm.len;simp only[C7];omega) (by rw[O3];have:=hs.sm.len;have:=hs.sm.s1;have:=hs.sm.s2;simp only[Aq] at this;omega);rw[hU.new] at h;exact h
set_option maxHeartbeats 2000000 in
theorem Zn : ∀ (x : eL) (t : Tm), (Yp x) → (Wd t) → EE Tryz.prog 4 [.agg [.p (.lst (List.map Bn x.env)), .p (.lst (List.map B5 x.metas)), .p (.lst (A0 x.ctx))], .agg ((BB t).map .p)] (.p (.bool true)) := by
 intro x t h1 h2
 refine Bv Tryz.func4 O jR (n := 109) O O ?_
 refine A4 ?_
 refine Bz O (CJ O) fun b2 => ?_
 refine Bz O (CJ O) fun b3 => ?_
 refine FY O ?_
 refine Ba O ?_
 refine Ax ?_
 refine Ax ?_
 refine DV [2, 3] 27 (fun y => ∃ b : Bool, y = .p (.bool b) ∧ (b = false → (MY x.metas ∧ KS x.metas.length x.ctx [t]) ∧ Rh x.metas (t :: x.ctx))) ?_ ?_
 ·refine GS (fun k => Nat.beq k 2 || Nat.beq k 8 || Nat.beq k 12) Y0 ?_
  refine Cf (j := 1) O O O (fun H i hi => B1 (i := i) hP O hi O) AB Ah ?_
  refine Cf (j := 0) O O O (fun H i hi => B1 (i := i) Bh O hi AY) AB Ah ?_
  refine G8 [] O O (BC O O (az _ t h1 h2) (.inl O)) Ab (⟨_, false, O, fun h => absurd h Ae⟩) AB ?_
  rintro _ ⟨b, rfl, hb⟩
  refine ⟨Ah, ?_⟩
  refine Aw O (fun _ => NC O) Ah ?_
  refine Aw O (fun _ => Be O) Ah ?_
  refine HV 17 O (fun g => ?_) (fun g => ?_)
  ·(try simp only [sd, se] at g)
   refine Ej O Ah ?_
   refine Ej O Ah ?_
   refine Ej O Ah ?_
   refine PA O O O O Ah ?_
   refine Ej O Ah ?_
   refine Ej O Ah ?_
   refine Ej O Ah ?_
   refine PA O O O O Ah ?_
   refine Ej O Ah ?_
   refine Aw O (fun _ => FG O O) Ah ?_
   refine Fj O Ab ?_
   exact ⟨O, O, AK, (by refine ⟨_, rfl, fun h => ?_⟩; first | (exact absurd h Ae) | exact ⟨hG, hb1 (by simpa using h)⟩), ⟨O, O, Ah⟩⟩
  (try simp only [sd, se] at g)
  have hG := hb (by simpa using g)
  have hgc := hG.2.sm.len
  have hg1 := hG.2.sm.s1
  have hg2 := hG.2.sm.s2
  simp only [Aq] at hg2
  refine BZ O (fun _ => BL L2 O O) Ah ?_
  refine Fz (i := 1) O O O O O (fun H i hi => BQ (i := i) Ud O hi O) AB Ah ?_
  refine Fz (i := 0) O O O O O (fun H i hi => B1 (i := i) Bh O hi AY) AB Ah ?_
  refine bA [(9, .free (.ptr b2 2)), (10, .read [.box b2 [.p (.lst (List.map Bn x.env)), .p (.lst (List.map B5 x.metas)), .p (.lst (A0 x.ctx))]] (.p (.lst (A0 x.ctx))))] O O O O (Lk (rows := A0 [t]) Bc Bx O O O O (HQ (G1 _)) (ft _)) Ab fun b21 cp => ⟨AB, Ah, ?_⟩
  refine BZ O (fun _ => BL L2 O O) AN ?_
  refine Fz (i := 2) O O O O O (fun H i hi => BQ (i := i) Jr O hi O) AB AN ?_
  refine aF O O O O (Ry (i := 0) (rows' := A0 x.ctx) Bc Bc Bx O O O O O O (G1 _) AD (XT [t] x.ctx)) AB AN ?_
  refine U2 [] O O O O (BC O O (UE x.metas ([t] ++ x.ctx) hG.1.len ⟨hG.2.sm.n2.1, hG.2.sm.n1⟩ (by simp only [List.cons_append, List.nil_append, Aq]; omega)) (.inl O)) Ab (⟨_, false, O, fun h => absurd h Ae⟩) AB ?_
  rintro _ ⟨b1, rfl, hb1⟩
  refine ⟨AN, ?_⟩
  refine BZ O (fun _ => NC O) AN ?_
  refine Aw O (fun _ => FG O O) AN ?_
  refine Fj O Ab ?_
  exact ⟨O, O, AK, (by refine ⟨_, rfl, fun h => ?_⟩; first | (exact absurd h Ae) | exact ⟨hG, hb1 (by simpa using h)⟩), ⟨O, O, Ah⟩⟩
 rintro _ ⟨q, rfl, hq⟩
 refine A5 O (fun c => ?_) (fun c => ?_)
 ·have cR := c
  (try simp only [sd, se] at c)
  refine A4 ?_
  refine Au O (BM O O (Qv ) O) ?_
  refine FY O ?_
  refine Ba O ?_
  refine Bk ?_
  refine ⟨O, _, _, ⟨_, _, O, O, O⟩, (List.nil_sublist _), ?_⟩
  all_goals exact ⟨rfl, rfl⟩
 have cR := c
 (try simp only [sd, se] at c)
 obtain ⟨⟨hg, hs⟩, hf⟩ := hq (by simpa using c)
 obtain ⟨X, u, hU⟩ := Zg hg hs hf
 have hI : (Dt (x.metas ++ [Mv.mk X false A3 false]) 20000 u).2 = 11 ∨ (Dt (x.metas ++ [Mv.mk X false A3 false]) 20000 u).2 = 0 ∧ (Dt (x.metas ++ [Mv.mk X false A3 false]) 20000 u).1 = t := by rcases MH hU.vals hU.use hU.st hU.ok (N := 20000) with e | e <;> rw [e]; exact .inl rfl; exact .inr ⟨rfl, rfl⟩
 obtain ⟨hp1, hp2⟩ := hU.pat
 have hq1 : (Jq u).1 = (x.metas.length : Int) := by rw [hp1]
 have hq2 : (Jq u).2.2 = true := by rw [hp1]
 clear hp1
 have hgl := hg.len
 have hcl := hs.sm.len
 have htk : (x.metas ++ [Mv.mk X false A3 false]).take x.metas.length = x.metas := List.take_left
 have hNI : Nd (Dt (x.metas ++ [Mv.mk X false A3 false]) 20000 u).1 := by rcases MH hU.vals hU.use hU.st hU.ok (N := 20000) with e | e <;> rw [e]; exact KX; exact hU.nt
 refine BJ ?_
 refine A4 ?_
 refine Au O (BL L2 O O) ?_
 refine Au O (BQ (i := 1) Ud O O O) ?_
 refine Au O (BL L2 O O) ?_
 refine Au O (BQ (i := 1) Jr O O O) ?_
 refine Au O (B1 (i := 0) Bh O O AY) ?_
 refine Au O (BM O O (dY _ t X u hU hg hs) O) ?_
 refine B6 O ?_
 refine Mh O ?_
 refine Mh O ?_
 refine Mh O ?_
 refine Bz O (Am Bx O) fun b6 => ?_
 refine FY O ?_
 refine Au O (Cm (i := 0) Bh O O O AY (by first | rfl | simp [An]) (Hd _)) ?_
 refine FY O ?_
 refine Ba O ?_
 refine Ax ?_
 refine Ax ?_
 refine DV [2, 3, 5, 6] 60 (fun y => y = .p (.bool false)) ?_ ?_
 ·refine GS (fun k => false) Y0 ?_
  refine Aw O (fun _ => Be O) Ah ?_
  refine Aw O (fun _ => Ge O O O) Ah ?_
  refine Aw O (fun _ => Be O) Ah ?_
  refine BZ O (fun _ => Be O) Ah ?_
  refine BZ O (fun _ => Bp IB O (List.length_map _)) Ah ?_
  refine BZ O (fun _ => BL L2 O O) Ah ?_
  refine Fz (i := 2) O O O O O (fun H i hi => BQ (i := i) Ud O hi O) AB Ah ?_
  refine BZ O (fun _ => Bp IB O (List.length_map _)) Ah ?_
  refine BZ O (fun _ => U7 O O Af Af) Ah ?_
  refine BZ O (fun _ => Ge O O O) Ah ?_
  refine Aw O (fun _ => FG O O) Ah ?_
  refine Aw O (fun _ => Be O) Ah ?_
  refine HV 50 O (fun g => ?_) (fun g => ?_)
  ·(try simp only [sd, se] at g)
   refine Ej O Ah ?_
   refine Ej O Ah ?_
   refine Ej O Ah ?_
   refine Ej O Ah ?_
   refine Ej O Ah ?_
   refine Ej O Ah ?_
   refine Ej O Ah ?_
   refine Ej O Ah ?_
   refine Ej O Ah ?_
   refine Aw O (fun _ => FG O O) Ah ?_
   refine Fj O Ab ?_
   exact ⟨O, O, AK, (by first | rfl | exact pB (by rw [htk, A2 rfl]; rfl) | (refine absurd g ?_; simp; done) | (refine absurd g1 ?_; simp; done)), ⟨O, O, O, O, Ah⟩⟩
  (try simp only [sd, se] at g)
  refine BZ O (fun _ => Be O) Ah ?_
  refine BZ O (fun _ => BL L2 O O) Ah ?_
  refine Fz (i := 2) O O O O O (fun H i hi => BQ (i := i) Ud O hi O) AB Ah ?_
  refine BZ O (fun _ => Bp IB O (List.length_map _)) Ah ?_
  refine BZ O (fun _ => E5 (lo := 0) (hi := x.metas.length) IB O (HQ (Nv _)) O ⟨_, O⟩ (Nat.zero_le _) AP (RW (f := B5) (x.metas ++ [Mv.mk X false A3 false]) x.metas.length)) Ah ?_
  refine BZ O (fun _ => BL L2 O O) Ah ?_
  refine Fz (i := 2) O O O O O (fun H i hi => BQ (i := i) Ud O hi O) AB Ah ?_
  refine BZ O (fun _ => BM O O (Xc ((x.metas ++ [Mv.mk X false A3 false]).take x.metas.length) x.metas (by simp only [C7, List.length_take]; have := hg.len; omega) (fun m hm => hU.tps m (List.mem_of_mem_take hm))) O) Ah ?_
  refine BZ O (fun _ => NC O) Ah ?_
  refine Aw O (fun _ => FG O O) Ah ?_
  refine Fj O Ab ?_
  exact ⟨O, O, AK, (by first | rfl | exact pB (by rw [htk, A2 rfl]; rfl) | (refine absurd g ?_; simp; done) | (refine absurd g1 ?_; simp; done)), ⟨O, O, O, O, Ah⟩⟩
 rintro _ rfl
 refine A5 O (fun c1 => by cases c1) (fun c1 => ?_)
 refine BJ ?_
 refine A4 ?_
 refine Au O (BL L2 O O) ?_
 refine Au O (BQ (i := 2) Wp O O O) ?_
 refine B6 O ?_
 refine Au O (BL L2 O O) ?_
 refine Au O (BQ (i := 2) Jr O O O) ?_
 refine Au O (B1 (i := 0) Bh O O AY) ?_
 refine Au O (BM O O (YU x.env (x.metas ++ [Mv.mk X false A3 false]) x.ctx u 20000 t (by simp; have := hg.len; omega) hU.vals Ae hU.use hU.ok hU.st) O) ?_
 refine B6 O ?_
 refine Mh O ?_
 refine Mh O ?_
 refine Bz O (Am Bx O) fun b8 => ?_
 refine Au O (Cm (i := 0) Bh O O O AY (by first | rfl | simp [An]) (Hd _)) ?_
 refine FY O ?_
 refine Ba O ?_
 refine A4 ?_
 refine Au O (B1 (i := 1) Bh O O AY) ?_
 refine Au O (BM O O (KP u hU.ok.nd (by have := hU.ok.sz; simp only [C7]; omega)) O) ?_
 refine B6 O ?_
 refine Mh O ?_
 refine Mh O ?_
 refine Mh O ?_
 refine FY O ?_
 refine FY O ?_
 refine FY O ?_
 refine Ba O ?_
 refine Ax ?_
 refine DV [] 4 (fun y => y = .p (.bool true)) ?_ ?_
 ·refine A1 ?_
  refine B6 O ?_
  refine Au O (Ge O O O) ?_
  refine B6 O ?_
  refine Br 79 O (fun g => ?_) (fun g => ?_)
  ·(try simp only [sd, se] at g)
   refine BK O ?_
   refine BK O ?_
   refine BK O ?_
   refine JO O O O O ?_
   refine JO O O O O ?_
   refine JO O O O O ?_
   refine BK O ?_
   refine DX O ?_
   refine B6 O ?_
   refine A8 O (Be O) ?_
   refine DX O ?_
   refine B6 O ?_
   refine Br 91 O (fun g1 => ?_) (fun g1 => ?_)
   ·(try simp only [sd, se] at g1)
    refine A8 O (Be O) ?_
    refine A8 O (BL L2 O O) ?_
    refine A8 O (BQ (i := 3) Ud O O O) ?_
    refine A8 O (Bp IB O (List.length_map _)) ?_
    refine A8 O (Ge O O O) ?_
    refine DX O ?_
    refine B6 O ?_
    refine Br 98 O (fun g2 => ?_) (fun g2 => ?_)
    ·(try simp only [sd, se] at g2)
     refine A8 O (Be O) ?_
     refine A8 O (Bp Hg O (List.length_map _)) ?_
     refine A8 O (BL L2 O O) ?_
     refine A8 O (BQ (i := 3) Jr O O O) ?_
     refine A8 O (Bp Bc O (Av _)) ?_
     refine A8 O (Ge O O O) ?_
     refine DX O ?_
     refine B6 O ?_
     refine Br 106 O (fun g3 => ?_) (fun g3 => ?_)
     ·(try simp only [sd, se] at g3)
      refine A8 O (BM O O (Qv ) O) ?_
      refine DX O ?_
      refine FY O ?_
      refine Ba O ?_
      exact ⟨rfl, rfl, AK, (by first | rfl | (exfalso; rcases hI with e | ⟨e, e1⟩ <;> (first | (simp [e, A2, hq1, hq2, hp2, *] at g; done) | (simp [e, A2, hq1, hq2, hp2, *] at g1; done) | (simp [e, A2, hq1, hq2, hp2, *] at g2; done) | (simp [e, A2, hq1, hq2, hp2, *] at g3; done) | (simp [e, A2, hq1, hq2, hp2, *] at g4; done) | omega))), trivial⟩
     (try simp only [sd, se] at g3)
     refine BK O ?_
     refine DX O ?_
     refine FY O ?_
     refine Ba O ?_
     exact ⟨rfl, rfl, AK, (by first | rfl | (exfalso; rcases hI with e | ⟨e, e1⟩ <;> (first | (simp [e, A2, hq1, hq2, hp2, *] at g; done) | (simp [e, A2, hq1, hq2, hp2, *] at g1; done) | (simp [e, A2, hq1, hq2, hp2, *] at g2; done) | (simp [e, A2, hq1, hq2, hp2, *] at g3; done) | (simp [e, A2, hq1, hq2, hp2, *] at g4; done) | omega))), trivial⟩
    (try simp only [sd, se] at g2)
    refine BK O ?_
    refine BK O ?_
    refine BK O ?_
    refine BK O ?_
    refine BK O ?_
    refine BK O ?_
    refine DX O ?_
    refine B6 O ?_
    refine BK O ?_
    refine DX O ?_
    refine FY O ?_
    refine Ba O ?_
    exact ⟨rfl, rfl, AK, (by first | rfl | (exfalso; rcases hI with e | ⟨e, e1⟩ <;> (first | (simp [e, A2, hq1, hq2, hp2, *] at g; done) | (simp [e, A2, hq1, hq2, hp2, *] at g1; done) | (simp [e, A2, hq1, hq2, hp2, *] at g2; done) | (simp [e, A2, hq1, hq2, hp2, *] at g3; done) | (simp [e, A2, hq1, hq2, hp2, *] at g4; done) | omega))), trivial⟩
   (try simp only [sd, se] at g1)
   refine BK O ?_
   refine BK O ?_
   refine BK O ?_
   refine BK O ?_
   refine BK O ?_
   refine DX O ?_
   refine B6 O ?_
   refine BK O ?_
   refine BK O ?_
   refine BK O ?_
   refine BK O ?_
   refine BK O ?_
   refine BK O ?_
   refine DX O ?_
   refine B6 O ?_
   refine BK O ?_
   refine DX O ?_
   refine FY O ?_
   refine Ba O ?_
   exact ⟨rfl, rfl, AK, (by first | rfl | (exfalso; rcases hI with e | ⟨e, e1⟩ <;> (first | (simp [e, A2, hq1, hq2, hp2, *] at g; done) | (simp [e, A2, hq1, hq2, hp2, *] at g1; done) | (simp [e, A2, hq1, hq2, hp2, *] at g2; done) | (simp [e, A2, hq1, hq2, hp2, *] at g3; done) | (simp [e, A2, hq1, hq2, hp2, *] at g4; done) | omega))), trivial⟩
  (try simp only [sd, se] at g)
  refine A8 O (Be O) ?_
  refine A8 O (Ge O O O) ?_
  refine A8 O (Be O) ?_
  refine Br 82 O (fun g1 => ?_) (fun g1 => ?_)
  ·(try simp only [sd, se] at g1)
   refine A8 O (B1 (i := 0) Bh O O AY) ?_
   refine A8 O (B1 (i := 2) Bh O O AY) ?_
   refine A8 O (BM O O (Hn _ ((Dt (x.metas ++ [Mv.mk X false A3 false]) 20000 u).1) t (Nat.le_refl _) hNI) O) ?_
   refine A8 O (FG O O) ?_
   refine DX O ?_
   refine B6 O ?_
   refine Br 88 O (fun g2 => ?_) (fun g2 => ?_)
   ·(try simp only [sd, se] at g2)
    refine A8 O (Be O) ?_
    refine DX O ?_
    refine B6 O ?_
    refine Br 91 O (fun g3 => ?_) (fun g3 => ?_)
    ·(try simp only [sd, se] at g3)
     refine A8 O (Be O) ?_
     refine A8 O (BL L2 O O) ?_
     refine A8 O (BQ (i := 3) Ud O O O) ?_
     refine A8 O (Bp IB O (List.length_map _)) ?_
     refine A8 O (Ge O O O) ?_
     refine DX O ?_
     refine B6 O ?_
     refine Br 98 O (fun g4 => ?_) (fun g4 => ?_)
     ·(try simp only [sd, se] at g4)
      refine A8 O (Be O) ?_
      refine A8 O (Bp Hg O (List.length_map _)) ?_
      refine A8 O (BL L2 O O) ?_
      refine A8 O (BQ (i := 3) Jr O O O) ?_
      refine A8 O (Bp Bc O (Av _)) ?_
      refine A8 O (Ge O O O) ?_
      refine DX O ?_
      refine B6 O ?_
      refine Br 106 O (fun g5 => ?_) (fun g5 => ?_)
      ·(try simp only [sd, se] at g5)
       refine A8 O (BM O O (Qv ) O) ?_
       refine DX O ?_
       refine FY O ?_
       refine Ba O ?_
       exact ⟨rfl, rfl, AK, (by first | rfl | (exfalso; rcases hI with e | ⟨e, e1⟩ <;> (first | (simp [e, A2, hq1, hq2, hp2, *] at g; done) | (simp [e, A2, hq1, hq2, hp2, *] at g1; done) | (simp [e, A2, hq1, hq2, hp2, *] at g2; done) | (simp [e, A2, hq1, hq2, hp2, *] at g3; done) | (simp [e, A2, hq1, hq2, hp2, *] at g4; done) | omega))), trivial⟩
      (try simp only [sd, se] at g5)
      refine BK O ?_
      refine DX O ?_
      refine FY O ?_
      refine Ba O ?_
      exact ⟨rfl, rfl, AK, (by first | rfl | (exfalso; rcases hI with e | ⟨e, e1⟩ <;> (first | (simp [e, A2, hq1, hq2, hp2, *] at g; done) | (simp [e, A2, hq1, hq2, hp2, *] at g1; done) | (simp [e, A2, hq1, hq2, hp2, *] at g2; done) | (simp [e, A2, hq1, hq2, hp2, *] at g3; done) | (simp [e, A2, hq1, hq2, hp2, *] at g4; done) | omega))), trivial⟩
     (try simp only [sd, se] at g4)
     refine BK O ?_
     refine BK O ?_
     refine BK O ?_
     refine BK O ?_
     refine BK O ?_
     refine BK O ?_
     refine DX O ?_
     refine B6 O ?_
     refine BK O ?_
     refine DX O ?_
     refine FY O ?_
     refine Ba O ?_
     exact ⟨rfl, rfl, AK, (by first | rfl | (exfalso; rcases hI with e | ⟨e, e1⟩ <;> (first | (simp [e, A2, hq1, hq2, hp2, *] at g; done) | (simp [e, A2, hq1, hq2, hp2, *] at g1; done) | (simp [e, A2, hq1, hq2, hp2, *] at g2; done) | (simp [e, A2, hq1, hq2, hp2, *] at g3; done) | (simp [e, A2, hq1, hq2, hp2, *] at g4; done) | omega))), trivial⟩
    (try simp only [sd, se] at g3)
    refine BK O ?_
    refine BK O ?_
    refine BK O ?_
    refine BK O ?_
    refine BK O ?_
    refine DX O ?_
    refine B6 O ?_
    refine BK O ?_
    refine BK O ?_
    refine BK O ?_
    refine BK O ?_
    refine BK O ?_
    refine BK O ?_
    refine DX O ?_
    refine B6 O ?_
    refine BK O ?_
    refine DX O ?_
    refine FY O ?_
    refine Ba O ?_
    exact ⟨rfl, rfl, AK, (by first | rfl | (exfalso; rcases hI with e | ⟨e, e1⟩ <;> (first | (simp [e, A2, hq1, hq2, hp2, *] at g; done) | (simp [e, A2, hq1, hq2, hp2, *] at g1; done) | (simp [e, A2, hq1, hq2, hp2, *] at g2; done) | (simp [e, A2, hq1, hq2, hp2, *] at g3; done) | (simp [e, A2, hq1, hq2, hp2, *] at g4; done) | omega))), trivial⟩
   (try simp only [sd, se] at g2)
   refine BK O ?_
   refine DX O ?_
   refine B6 O ?_
   refine BK O ?_
   refine BK O ?_
   refine BK O ?_
   refine BK O ?_
   refine BK O ?_
   refine DX O ?_
   refine B6 O ?_
   refine BK O ?_
   refine BK O ?_
   refine BK O ?_
   refine BK O ?_
   refine BK O ?_
   refine BK O ?_
   refine DX O ?_
   refine B6 O ?_
   refine BK O ?_
   refine DX O ?_
   refine FY O ?_
   refine Ba O ?_
   exact ⟨rfl, rfl, AK, (by first | rfl | (exfalso; rcases hI with e | ⟨e, e1⟩ <;> (first | (simp [e, A2, hq1, hq2, hp2, *] at g; done) | (simp [e, A2, hq1, hq2, hp2, *] at g1; done) | (simp [e, A2, hq1, hq2, hp2, *] at g2; done) | (simp [e, A2, hq1, hq2, hp2, *] at g3; done) | (simp [e, A2, hq1, hq2, hp2, *] at g4; done) | omega))), trivial⟩
  (try simp only [sd, se] at g1)
  refine BK O ?_
  refine BK O ?_
  refine BK O ?_
  refine A8 O (FG O O) ?_
  refine DX O ?_
  refine B6 O ?_
  refine BK O ?_
  refine DX O ?_
  refine B6 O ?_
  refine BK O ?_
  refine BK O ?_
  refine BK O ?_
  refine BK O ?_
  refine BK O ?_
  refine DX O ?_
  refine B6 O ?_
  refine BK O ?_
  refine BK O ?_
  refine BK O ?_
  refine BK O ?_
  refine BK O ?_
  refine BK O ?_
  refine DX O ?_
  refine B6 O ?_
  refine BK O ?_
  refine DX O ?_
  refine FY O ?_
  refine Ba O ?_
  exact ⟨rfl, rfl, AK, (by first | rfl | (exfalso; rcases hI with e | ⟨e, e1⟩ <;> (first | (simp [e, A2, hq1, hq2, hp2, *] at g; done) | (simp [e, A2, hq1, hq2, hp2, *] at g1; done) | (simp [e, A2, hq1, hq2, hp2, *] at g2; done) | (simp [e, A2, hq1, hq2, hp2, *] at g3; done) | (simp [e, A2, hq1, hq2, hp2, *] at g4; done) | omega))), trivial⟩
 rintro _ rfl
 refine Bk ?_
 refine ⟨O, _, _, ⟨_, _, O, O, O⟩, (List.nil_sublist _), ?_⟩
 all_goals exact ⟨rfl, rfl⟩
end Go.Proofs.YtajnpndfkbnkoaaGreat
