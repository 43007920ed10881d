/- Part of the proofs: an abstract program logic, plain models and contracts of functions. -/
import Derived.Test.YtboammbpdaoojaaGreatPh
import Derived.Test.YtboammbpdaoojaaGreatPd
set_option linter.unusedVariables false
set_option linter.unusedSimpArgs false
set_option maxRecDepth 100000
namespace Go.Proofs.YtboammbpdaoojaaGreat
open Go.Abs Go.Eu
theorem dj:∀(n m:Nat) (ds:List CM) (s:Int) (x:Fu) (g:Tm) (a:List Tm) (d:CM) (f:HB),(nW ds n)→(HD ds)→(GH s)→(ds[x.decl.toNat]?=some d)→(0≤x.decl)→(d.funs[x.item.toNat]?=some f)→(0≤x.item)→(okB g=true)→(a.length<549755813888)→(∀y∈a,okB y=true)→(Iw ds Bq (DJ ds Bq n) n f g a s≠ .stuck)→Bu Tryz.prog 108 [.ptr m 0,.agg ((Dj x).map .p),.agg ((BU g).map .p),.p (.lst (BK a))] [.box m [.p (.lst (List.map Bo ds)),.p (I s)]] (KQ (fun(r:Option Tm×Int)=> .tup [TV (r.1.getD Be),.p (.bool r.1.isSome)]) (fun _=> .p (.iface 122 .unit)) (fun r H'=>H'=[.box m [.p (.lst (List.map Bo ds)),.p (I r.2)]]) ((Iw ds Bq (DJ ds Bq n) n f g a s).ex)):=by
 intro n m ds s x g a d f hW h2 h3 h4 h5 h6 h7 h8 h9 h10 hns;obtain⟨gk,gi,gn,gl,gs⟩:=g;have hgo:=Ch.1 h8;have hgl:=hgo.nd;simp only[Nd,Dv] at hgl;have hdm:=List.mem_of_getElem? h4;have hfm:=List.mem_of_getElem? h6;have hfa:=(h2.g.all _ hdm).fu _ hfm;generalize hC:Iw ds Bq (DJ ds Bq n) n f (.mk gk gi gn gl gs:Tm) a s=X at hns ⊢;refine A9 Tryz.func108 O lQ (n:=70) O O (A3 (BP O (BY O) fun b5=>BP O (BY O) fun b6=>BP O (BE B8 O) fun b8=>Ax A8 1 [] O (Az (CG (fun k=>Nat.beq k 13) Eg (A1 O (fun _=>BC O) Au (A1 O (fun _=>DB O) Au (A1 O (fun _=>Aw Q4 O O) Au (BT (j:=3) O O O (fun H i hi=>BG (i:=i) Qu O hi O) AB Au (A1 O (fun _=>Aw E8 O O) Au (BT (j:=2) O O O (fun H i hi=>A6 (i:=i) C7 O hi (ER _)) AB Au (A1 O (fun _=>BA Iv O O Ar (En h4) (Cp _)) Au (A1 O (fun _=>B3 Cm O O) Au (A1 O (fun _=>DW HS O (CI _)) Au (A1 O (fun _=>Aw E8 O O) Au ?_))))))))))))));refine BT (j:=2) O O O (fun H i hi=>A6 (i:=i) C7 O hi (Gt _)) AB Au (A1 O (fun _=>BA G9 O O Ar (Ec h6) (DQ _)) Au (A1 O (fun _=>BO Z6 O (DQ _)) Au (KB [] O O (BE Zl O) An fun b10=>⟨AB,Au,?_⟩)));refine Cd O O (Bd (i:=0) Z6 O O O (by simp[DQ]) (by first | rfl | simp[DQ]) (XI _)) AB Au (B6 O An (Az (A3 (B0 O (Av O (BS Br O (Bc _)) (Av O (Aw G2 O O) (Av O (A6 (i:=0) C7 O O (Cb _)) (Ax A8 1 [] O (A0 O (fun c=>?_) (fun c=>?_))))))))))
 ·(try simp only[sd,se] at c);rw[Sz Ar] at hC;refine Ay A8 3 [1,0] O (BZ (Bl (i:=1) O) (A4 (⟨O,_,_,⟨_,_,O,(BN (i:=1) Ba O O O),⟨_,_,O,O,O⟩⟩,(CO (is:=[4]) O),?_⟩)));exact⟨⟨none,s⟩,DC hC.symm,O,O⟩
 (try simp only[sd,se] at c);have hl0:¬(a.length:Int)<f.arity:=by omega
 refine A5 (Az ?_);rw[Uo hl0] at hC;have hn0:=hns;rw[←hC] at hn0;have hn1:=JI hn0;obtain⟨e,he⟩ | ⟨⟨q,n2⟩,hz⟩:=FY ((EH ds Bq (DJ ds Bq n) n f.tree (a.take ((f.arity:Int).toNat)) Be s).ex)
 ·refine IJ ((fun _=> .p (.iface 122 .unit)) e) 7 [.val (.ptr m 0),.val (.ptr b10 (0+7)),.val (.agg ((DA f.tree).map .p)),.val (.p (.lst (BK a))),.val (.ptr b10 (0+6)),.val (.p (I f.arity)),.val (.p (.lst (BK (a.take ((f.arity:Int).toNat))))),.val (.p .any),.val (.p .any),.val (.p .any),.val (.p .any),.val (.p .any),.val (.p .any),.new [.p (I 0),.p (I 0),.p (.str ⟨#[]⟩),.p (.nils),.p (.nils)],.new [.p (I 0),.p (I 0),.p (.str ⟨#[]⟩),.p (.nils),.p (.nils)],.val (.p .any),.val (.p .any),.val (.p .any),.val (.p .any)] Eg O An O Au (fun _ _=>by exact⟨rfl,_,List.nil_sublist _,⟨_,by rw[←hC];exact J8 hn0 he,rfl⟩⟩) ?_;refine CA O O (fun Bs=>BC O) (CA O O (fun Bs=>Aw G2 O O) (CA O O (fun Bs=>B4 (i:=Bs.length+0) It O (CX O) (ET _) (Cq _)) (CA O O (fun Bs=>BC O) (CA O O (fun Bs=>Aw G2 O O) (CA O O (fun Bs=>A6 (i:=Bs.length+0) C7 O (CX O) (Cb _)) (CA O O (fun Bs=>Cz (lo:=0) (hi:=(f.arity:Int).toNat) Br O (CQ (B9 _)) O ⟨_,pI Ar⟩ (Nat.zero_le _) AQ (Sa a ((f.arity:Int).toNat))) (Jz (mkp:=(fun _=> .p (.iface 122 .unit))) (e:=e) [4] he O O (.inl ⟨O,O,O⟩) (Ph n n m ds f.tree (a.take ((f.arity:Int).toNat)) s hW h2.g h3 (S5 h2 hdm hfm h10) hn1) ⟨_,_,O,O,O⟩ Aq (aw (we O) (aw (we O) (aw (we O) (FB)))) (C8 O O An (C8 O O An (C8 O O An (C8 O O An (C8 O O An ?_))))))))))));exact Tl O O (fun Bs=>BE B8 O) fun _=>Tl O O (fun Bs=>BE B8 O) fun _=>C8 O O An (C8 O O An (C8 O O An (C8 O O An J5)))
 rw[Lv hz] at hC;have hlo:=Vg h2.g _ _ _ _ _ _ _ (S5 h2 hdm hfm h10) (Hj hz);have hJ2:=Sl h3 (Hj hz);refine IH [.box b10 ((Fe f).map .p),.box b8 [.p (I 0),.p (I 0),.p (.str ⟨#[]⟩),.p (.nils),.p (.nils)],.box b6 [.p (I gk),.p (I gi),.p (.str gn),.p (.lst (List.map CD gl)),.p (.lst (BK gs))],.box b5 ((Dj x).map .p),.box m [.p (.lst (List.map Bo ds)),.p (I n2)]] 7 [.val (.ptr m 0),.val (.ptr b10 (0+7)),.val (.agg ((DA f.tree).map .p)),.val (.p (.lst (BK a))),.val (.ptr b10 (0+6)),.val (.p (I f.arity)),.val (.p (.lst (BK (a.take ((f.arity:Int).toNat))))),.val (.tup [.agg ((BU (Nz q)).map .p),.p (.lst (BK (Sb q))),.p (.bool q.1.isSome),.agg ((BU q.2).map .p)]),.val (.tup [.agg ((BU (Nz q)).map .p),.p (.lst (BK (Sb q))),.p (.bool q.1.isSome),.agg ((BU q.2).map .p)]),.val (.agg ((BU (Nz q)).map .p)),.val (.p (.lst (BK (Sb q)))),.val (.p (.bool q.1.isSome)),.val (.agg ((BU q.2).map .p)),.new [.p (I 0),.p (I 0),.p (.str ⟨#[]⟩),.p (.nils),.p (.nils)],.new [.p (I 0),.p (I 0),.p (.str ⟨#[]⟩),.p (.nils),.p (.nils)]] [.p .any,.p (.lst (BK (Sb q))),.p (.bool q.1.isSome),.p .any] [10,11,12] Eg O An An An O ?_ ?_
 ·exact Au
 refine Bv O O (fun Bs=>BC O) (Bv O O (fun Bs=>Aw G2 O O) (GB O O O (fun Bs=>B4 (i:=Bs.length+0) It O (CX O) (ET _) (Cq _)) (fun Bs=>B4 (i:=Bs.length+0) It O (CX O) (ET _) (Cq _)) (Bv O O (fun Bs=>BC O) (Bv O O (fun Bs=>Aw G2 O O) (GB O O O (fun Bs=>A6 (i:=Bs.length+0) C7 O (CX O) (Cb _)) (fun Bs=>A6 (i:=Bs.length+0) C7 O (CX O) (Cb _)) (Bv O O (fun Bs=>Cz (lo:=0) (hi:=(f.arity:Int).toNat) Br O (CQ (B9 _)) O ⟨_,pI Ar⟩ (Nat.zero_le _) AQ (Sa a ((f.arity:Int).toNat))) ?_))))));refine KD O (fun Bs=>G6 [4] O (.inl ⟨O,O,O⟩) (J4 hz (Ph n n m ds f.tree (a.take ((f.arity:Int).toNat)) s hW h2.g h3 (S5 h2 hdm hfm h10) hn1)) ⟨_,_,O,O,O⟩ Aq O (aw (we O) (aw (we O) (aw (we O) (FB))))) (Bv O O (fun Bs=>BC O) (Bv O O (fun Bs=>CB O O) (Bv O O (fun Bs=>CB O O) (Bv O O (fun Bs=>CB O O) (Bv O O (fun Bs=>CB O O) (Ti O O (fun Bs=>BE B8 O) fun b11=>Ti O O (fun Bs=>BE B8 O) fun b14=>KA ?_))))));refine EJ [.box b11 ((BU (Nz q)).map .p),.box b14 [.p (I 0),.p (I 0),.p (.str ⟨#[]⟩),.p (.nils),.p (.nils)],.box b10 ((Fe f).map .p),.box b8 [.p (I 0),.p (I 0),.p (.str ⟨#[]⟩),.p (.nils),.p (.nils)],.box b6 [.p (I gk),.p (I gi),.p (.str gn),.p (.lst (List.map CD gl)),.p (.lst (BK gs))],.box b5 ((Dj x).map .p),.box m [.p (.lst (List.map Bo ds)),.p (I n2)]] O (Bd (i:=0) Ba O O O Ak AX (DR _)) (EJ [.box b11 ((BU (Nz q)).map .p),.box b14 [.p (I 0),.p (I 0),.p (.str ⟨#[]⟩),.p (.nils),.p (.nils)],.box b10 ((Fe f).map .p),.box b8 [.p (I 0),.p (I 0),.p (.str ⟨#[]⟩),.p (.nils),.p (.nils)],.box b6 [.p (I gk),.p (I gi),.p (.str gn),.p (.lst (List.map CD gl)),.p (.lst (BK gs))],.box b5 ((Dj x).map .p),.box m [.p (.lst (List.map Bo ds)),.p (I n2)]] O (Bf O) ?_)
 refine EJ [.box b11 ((BU (Nz q)).map .p),.box b14 [.p (I 0),.p (I 0),.p (.str ⟨#[]⟩),.p (.nils),.p (.nils)],.box b10 ((Fe f).map .p),.box b8 [.p (I 0),.p (I 0),.p (.str ⟨#[]⟩),.p (.nils),.p (.nils)],.box b6 [.p (I gk),.p (I gi),.p (.str gn),.p (.lst (List.map CD gl)),.p (.lst (BK gs))],.box b5 ((Dj x).map .p),.box m [.p (.lst (List.map Bo ds)),.p (I n2)]] O (Bf O) (EJ [.box b11 ((BU (Nz q)).map .p),.box b14 ((BU q.2).map .p),.box b10 ((Fe f).map .p),.box b8 [.p (I 0),.p (I 0),.p (.str ⟨#[]⟩),.p (.nils),.p (.nils)],.box b6 [.p (I gk),.p (I gi),.p (.str gn),.p (.lst (List.map CD gl)),.p (.lst (BK gs))],.box b5 ((Dj x).map .p),.box m [.p (.lst (List.map Bo ds)),.p (I n2)]] O (Bd (i:=1) Ba O O O Ak AX (DR _)) (J2 (Az (Ay A8 2 [] O (A0 O (fun c1=>?_) (fun c1=>?_))))))
 ·(try simp only[sd,se] at c1);rw[Wk (.inl (by simpa using c1))] at hC;refine Ay A8 3 [3,0] O (BZ (Bl (i:=3) O) (A4 (⟨O,_,_,⟨_,_,O,(BN (i:=3) Ba O O O),⟨_,_,O,O,O⟩⟩,(CO (is:=[6]) O),?_⟩)));exact⟨⟨none,n2⟩,DC hC.symm,O,O⟩
 (try simp only[sd,se] at c1);rw[Wp (by simpa using c1) rfl] at hC;refine A5 (A3 (A2 A8 3 [0,4] O (Av O (BM O O (Lr (Nz q) gl (Ch.1 hlo.1).nd (Ch.1 hlo.1).vp (by have:=G3 hlo.1;omega) hgl.2.1 hgl.2.2.1) O) (Ax A8 5 [0,1] O (Az (Ay A8 2 [] O (A0 O (fun c2=>?_) (fun c2=>?_))))))))
 ·(try simp only[sd,se] at c2);rw[Pu (h:=(.mk gk gi gn gl gs:Tm)) c2] at hC;refine Ay A8 3 [3,0] O (BZ (Bl (i:=3) O) (A4 (⟨O,_,_,⟨_,_,O,(BN (i:=3) Ba O O O),⟨_,_,O,O,O⟩⟩,(CO (is:=[6]) O),?_⟩)));exact⟨⟨none,n2⟩,DC hC.symm,O,O⟩
 (try simp only[sd,se] at c2);obtain⟨hb1,hb2,hb3,hb4⟩:=XY (by rw[hC];exact hns) c2;rw[hb4] at hC;have hn3:=hns;rw[←hC] at hn3;refine A5 (Az ?_);obtain⟨e,he⟩ | ⟨⟨z,n21⟩,hz1⟩:=FY (Is n2 (Cv ((B5 (Nz q) gl).1) (Sb q).reverse 0))
 ·refine IJ ((fun _=> .p (.iface 122 .unit)) e) 3 [.val (.ptr m 0),.val (.agg ((BU ((B5 (Nz q) gl).1)).map .p)),.val (.p (.lst (BK (Sb q)))),.val (.p .any),.val (.p (.lst (BK a))),.val (.ptr b10 (0+6)),.val (.p (I f.arity)),.val (.p (.lst (BK (a.drop ((f.arity:Int).toNat))))),.val (.p .any),.val (.p .any),.val (.p .any)] Eg O An O Au (fun _ _=>by exact⟨rfl,_,List.nil_sublist _,⟨_,by rw[←hC];exact KS hn3 he,rfl⟩⟩) ?_;exact CA O O (fun Bs=>BC O) (CA O O (fun Bs=>BI (i:=Bs.length+0) Ba O (CX O) Ak) (CA O O (fun Bs=>BC O) (Jz (mkp:=(fun _=> .p (.iface 122 .unit))) (e:=e) [6] he O O (.inl ⟨O,O,O⟩) (Pc m ds n2 ((B5 (Nz q) gl).1) (Sb q) hJ2 hb1 hb2 Ar) ⟨_,_,O,O,O⟩ Aq (aw (we O) (aw (we O) (aw (we O) (FB)))) (CA O O (fun Bs=>BC O) (CA O O (fun Bs=>Aw G2 O O) (CA O O (fun Bs=>A6 (i:=Bs.length+2) C7 O (CX O) (Cb _)) (CA O O (fun Bs=>Cz (lo:=(f.arity:Int).toNat) Br O (CQ (B9 _)) ⟨_,pI Ar⟩ O AQ (Nat.le_refl _) (L8 a ((f.arity:Int).toNat))) (C8 O O An (C8 O O An (C8 O O An J5))))))))))
 rw[KC hn3 hz1] at hC;refine IH [.box b11 ((BU ((B5 (Nz q) gl).1)).map .p),.box b14 ((BU q.2).map .p),.box b10 ((Fe f).map .p),.box b8 [.p (I 0),.p (I 0),.p (.str ⟨#[]⟩),.p (.nils),.p (.nils)],.box b6 [.p (I gk),.p (I gi),.p (.str gn),.p (.lst (List.map CD gl)),.p (.lst (BK gs))],.box b5 ((Dj x).map .p),.box m [.p (.lst (List.map Bo ds)),.p (I n21)]] 3 [.val (.ptr m 0),.val (.agg ((BU ((B5 (Nz q) gl).1)).map .p)),.val (.p (.lst (BK (Sb q)))),.val (.agg ((BU z).map .p)),.val (.p (.lst (BK a))),.val (.ptr b10 (0+6)),.val (.p (I f.arity)),.val (.p (.lst (BK (a.drop ((f.arity:Int).toNat))))),.val (.agg ((BU (apply z (a.drop ((f.arity:Int).toNat)))).map .p))] [.p .any,.p (.bool true)] [] Eg O An An An O ?_ ?_
 ·exact Au
 refine Bv O O (fun Bs=>BC O) (GB O O O (fun Bs=>BI (i:=Bs.length+0) Ba O (CX O) Ak) (fun Bs=>BI (i:=Bs.length+0) Ba O (CX O) Ak) (Bv O O (fun Bs=>BC O) (KD O (fun Bs=>G6 [6] O (.inl ⟨O,O,O⟩) (J4 hz1 (Pc m ds n2 ((B5 (Nz q) gl).1) (Sb q) hJ2 hb1 hb2 Ar)) ⟨_,_,O,O,O⟩ Aq O (aw (we O) (aw (we O) (aw (we O) (FB))))) (Bv O O (fun Bs=>BC O) (Bv O O (fun Bs=>Aw G2 O O) (GB O O O (fun Bs=>A6 (i:=Bs.length+2) C7 O (CX O) (Cb _)) (fun Bs=>A6 (i:=Bs.length+2) C7 O (CX O) (Cb _)) (Bv O O (fun Bs=>Cz (lo:=(f.arity:Int).toNat) Br O (CQ (B9 _)) ⟨_,pI Ar⟩ O AQ (Nat.le_refl _) (L8 a ((f.arity:Int).toNat))) ?_)))))));refine Bv O O (fun Bs=>BM O O (ED z (a.drop ((f.arity:Int).toNat)) AR) O) (KA (EJ [.box b11 ((BU ((B5 (Nz q) gl).1)).map .p),.box b14 ((BU q.2).map .p),.box b10 ((Fe f).map .p),.box b8 ((BU (apply z (a.drop ((f.arity:Int).toNat)))).map .p),.box b6 [.p (I gk),.p (I gi),.p (.str gn),.p (.lst (List.map CD gl)),.p (.lst (BK gs))],.box b5 ((Dj x).map .p),.box m [.p (.lst (List.map Bo ds)),.p (I n21)]] O (Bd (i:=3) Ba O O O Ak AX (DR _)) ?_));refine EJ [.box b11 ((BU ((B5 (Nz q) gl).1)).map .p),.box b14 ((BU q.2).map .p),.box b10 ((Fe f).map .p),.box b8 ((BU (apply z (a.drop ((f.arity:Int).toNat)))).map .p),.box b6 [.p (I gk),.p (I gi),.p (.str gn),.p (.lst (List.map CD gl)),.p (.lst (BK gs))],.box b5 ((Dj x).map .p),.box m [.p (.lst (List.map Bo ds)),.p (I n21)]] O (Bf O) (J2 (A4 (⟨O,_,_,⟨_,_,O,(BN (i:=3) Ba O O Ak),⟨_,_,O,O,O⟩⟩,(CO (is:=[6]) O),?_⟩)));exact⟨⟨some _,_⟩,DC hC.symm,O,O⟩
set_option maxHeartbeats 4000000 in
theorem bU:∀(n m:Nat) (ds:List CM) (s:Int) (g:Tm) (a:List Tm),(nW ds n)→(HD ds)→(GH s)→(okB g=true)→(a.length<549755813888)→(∀y∈a,okB y=true)→(Ed ds Bq (DJ ds Bq n) n g a s≠ .stuck)→Bu Tryz.prog 76 [.ptr m 0,.agg ((BU g).map .p),.p (.lst (BK a))] [.box m [.p (.lst (List.map Bo ds)),.p (I s)]] (KQ (fun(r:Option Tm×Int)=> .tup [TV (r.1.getD Be),.p (.bool r.1.isSome)]) (fun _=> .p (.iface 122 .unit)) (fun r H'=>H'=[.box m [.p (.lst (List.map Bo ds)),.p (I r.2)]]) ((Ed ds Bq (DJ ds Bq n) n g a s).ex)):=by
 intro n m ds s g a hW h2 h3 h4 h5 h6 hns;obtain⟨gk,gi,gn,gl,gs⟩:=g;have hgo:=Ch.1 h4;have hgl:=hgo.nd;simp only[Nd,Dv] at hgl;generalize hC:Ed ds Bq (DJ ds Bq n) n (.mk gk gi gn gl gs:Tm) a s=X at hns ⊢;refine A9 Tryz.func76 O nv (n:=40) O O (A3 (BP O (BY O) fun b4=>BP O (BE B8 O) fun b6=>Ax A8 1 [] O (A3 (A2 A8 2 [1] O (Av O (Co [2] O (.inl ⟨O,O,O⟩) (OP m ds s (.mk gk gi gn gl gs:Tm) h2.g.env) ⟨_,_,O,O,O⟩ Aq O (.inl O)) (A2 A8 3 [] O (BP O (BE IK O) fun b8=>Ax A8 2 [0,1] O (Az (Ay A8 2 [] O (A0 O (fun c=>?_) (fun c=>?_)))))))))))
 ·(try simp only[sd,se] at c);rw[P0 c] at hC;refine Ay A8 3 [1,0] O (BZ (Bl (i:=1) O) (A4 (⟨O,_,_,⟨_,_,O,(BN (i:=1) Ba O O O),⟨_,_,O,O,O⟩⟩,(CO (is:=[3]) O),?_⟩)));exact⟨⟨none,s⟩,DC hC.symm,O,O⟩
 (try simp only[sd,se] at c);have hu:=c;obtain⟨ix,dd,e1,e2,e3,e4⟩:=LD hu;have hde:=e2.decl;have hdg:=h2.g.all _ e3;have hel:=h2.g.env.len;have hil:=(List.getElem?_eq_some_iff.1 e1).1;have hfx:=hdg.fx;have hnr:=LI hdg;have hcl:=hdg.din.cl;have hfl:=hdg.din.fl;have hki:=e2.kind;have hkp:(Bw ds (Tm.mk gk gi gn gl gs).name).1.kind=0∨(Bw ds (Tm.mk gk gi gn gl gs).name).1.kind=1∨(Bw ds (Tm.mk gk gi gn gl gs).name).1.kind=2∨(Bw ds (Tm.mk gk gi gn gl gs).name).1.kind=3∨(Bw ds (Tm.mk gk gi gn gl gs).name).1.kind=4∨(Bw ds (Tm.mk gk gi gn gl gs).name).1.kind=5∨(Bw ds (Tm.mk gk gi gn gl gs).name).1.kind=6:=by omega
 refine A5 (Az ?_);rcases hkp with hkk | hkk | hkk | hkk | hkk | hkk | hkk
 ·refine A7 (A2 A8 6 [] O (Av O (EC JF JH Qm O) (Av O (Aw E8 O O) (Av O (A6 (i:=0) C7 O O (DP _)) (Av O (Er (j:=0) JF JH O O (hkk) O Aq) (Ax A8 1 [] O (Az (A3 (B0 O (Av O (Gg An (.inl ⟨O,O⟩) O) (Bk O ?_)))))))))));refine A0 O (fun c1=>?_) (fun c1=>by cases c1);refine A3 ?_;rw[Kx hu Ar Ar Ar] at hC;refine Ax A8 3 [1,0] O (BZ (Bl (i:=1) O) (A4 (⟨O,_,_,⟨_,_,O,(BN (i:=1) Ba O O O),⟨_,_,O,O,O⟩⟩,(CO (is:=[3]) O),?_⟩)));exact⟨⟨none,s⟩,DC hC.symm,O,O⟩
 ·refine A7 (A2 A8 6 [] O (Av O (EC JF JH Qm O) (Av O (Aw E8 O O) (Av O (A6 (i:=0) C7 O O (DP _)) (Av O (Er (j:=1) JF JH O O (hkk) O Aq) (Ax A8 1 [] O (Az (A3 (B0 O (Av O (Gg An (.inr ⟨⟨_,_,_,O⟩,O⟩) O) (Bk O ?_)))))))))));refine A0 O (fun c1=>by cases c1) (fun c1=>?_);refine A5 (A3 (A2 A8 4 [0,2] O ?_));rw[OT hu e4 hkk] at hC;refine Dg [3] O O O (.inr O) (Vf m ds s ((Bw ds (.mk gk gi gn gl gs:Tm).name).1) (.mk gk gi gn gl gs:Tm) a dd h3 e4 Ar hdg h4 h5 (by rw[hC];exact hns)) ⟨_,_,O,O,O⟩ Aq (aw (we O) (aw (we O) (aw (we O) (aw (we O) (FB))))) (fun _ _ h=>(congrArg List.length h).trans O) ?_ ?_
  rotate_left
  ·intro e _ he;exact⟨O,_,List.nil_sublist _,⟨_,by rw[←hC];exact he,rfl⟩⟩
  rintro⟨q,n2⟩ _ hz rfl;have hfin:=hz;refine Ax A8 4 [1,1] O (A4 (⟨O,_,_,⟨_,_,O,(BN (i:=1) Ba O O Ak),⟨_,_,O,O,O⟩⟩,(CO (is:=[3]) O),?_⟩));exact⟨⟨q,n2⟩,by rw[←hC];exact hfin,rfl,rfl⟩
 ·refine A7 (A2 A8 6 [] O (Av O (EC JF JH Qm O) (Av O (Aw E8 O O) (Av O (A6 (i:=0) C7 O O (DP _)) (Av O (Er (j:=2) JF JH O O (hkk) O Aq) (Ax A8 1 [] O (Az (A3 (B0 O (Av O (Gg An (.inl ⟨O,O⟩) O) (Bk O ?_)))))))))));refine A0 O (fun c1=>?_) (fun c1=>by cases c1);refine A3 ?_;rw[Kx hu Ar Ar Ar] at hC;refine Ax A8 3 [1,0] O (BZ (Bl (i:=1) O) (A4 (⟨O,_,_,⟨_,_,O,(BN (i:=1) Ba O O O),⟨_,_,O,O,O⟩⟩,(CO (is:=[3]) O),?_⟩)));exact⟨⟨none,s⟩,DC hC.symm,O,O⟩
 ·refine A7 (A2 A8 6 [] O (Av O (EC JF JH Qm O) (Av O (Aw E8 O O) (Av O (A6 (i:=0) C7 O O (DP _)) (Av O (Er (j:=3) JF JH O O (hkk) O Aq) (Ax A8 1 [] O (Az (A3 (B0 O (Av O (Gg An (.inl ⟨O,O⟩) O) (Bk O ?_)))))))))));refine A0 O (fun c1=>?_) (fun c1=>by cases c1);refine A3 ?_;rw[Kx hu Ar Ar Ar] at hC;refine Ax A8 3 [1,0] O (BZ (Bl (i:=1) O) (A4 (⟨O,_,_,⟨_,_,O,(BN (i:=1) Ba O O O),⟨_,_,O,O,O⟩⟩,(CO (is:=[3]) O),?_⟩)));exact⟨⟨none,s⟩,DC hC.symm,O,O⟩
 ·refine A7 (A2 A8 6 [] O (Av O (EC JF JH Qm O) (Av O (Aw E8 O O) (Av O (A6 (i:=0) C7 O O (DP _)) (Av O (Er (j:=4) JF JH O O (hkk) O Aq) (Ax A8 1 [] O (Az (A3 (B0 O (Av O (Gg An (.inl ⟨O,O⟩) O) (Bk O ?_)))))))))));refine A0 O (fun c1=>?_) (fun c1=>by cases c1);refine A3 ?_;rw[Kx hu Ar Ar Ar] at hC;refine Ax A8 3 [1,0] O (BZ (Bl (i:=1) O) (A4 (⟨O,_,_,⟨_,_,O,(BN (i:=1) Ba O O O),⟨_,_,O,O,O⟩⟩,(CO (is:=[3]) O),?_⟩)));exact⟨⟨none,s⟩,DC hC.symm,O,O⟩
 ·refine A7 (A2 A8 6 [] O (Av O (EC JF JH Qm O) (Av O (Aw E8 O O) (Av O (A6 (i:=0) C7 O O (DP _)) (Av O (Er (j:=5) JF JH O O (hkk) O Aq) (Ax A8 1 [] O (Az (A3 (B0 O (Av O (Gg An (.inr ⟨⟨_,_,_,O⟩,O⟩) O) (Bk O ?_)))))))))));refine A0 O (fun c1=>by cases c1) (fun c1=>?_);refine A5 (A3 (A2 A8 4 [0,2] O ?_));rw[Sd hu e4 hkk] at hC;refine Dg [3] O O O (.inr O) (jW n m ds s ((Bw ds (.mk gk gi gn gl gs:Tm).name).1) (.mk gk gi gn gl gs:Tm) a dd hW h2.g h3 e4 Ar hdg h4 h5 h6 (by rw[hC];exact hns)) ⟨_,_,O,O,O⟩ Aq (aw (we O) (aw (we O) (aw (we O) (aw (we O) (FB))))) (fun _ _ h=>(congrArg List.length h).trans O) ?_ ?_
  rotate_left
  ·intro e _ he;exact⟨O,_,List.nil_sublist _,⟨_,by rw[←hC];exact he,rfl⟩⟩
  rintro⟨q,n2⟩ _ hz rfl;have hfin:=hz;refine Ax A8 4 [1,1] O (A4 (⟨O,_,_,⟨_,_,O,(BN (i:=1) Ba O O Ak),⟨_,_,O,O,O⟩⟩,(CO (is:=[3]) O),?_⟩));exact⟨⟨q,n2⟩,by rw[←hC];exact hfin,rfl,rfl⟩
 refine A7 (A2 A8 6 [] O (Av O (EC JF JH Qm O) (Av O (Aw E8 O O) (Av O (A6 (i:=0) C7 O O (DP _)) (Av O (Er (j:=6) JF JH O O (hkk) O Aq) (Ax A8 1 [] O (Az (A3 (B0 O (Av O (Gg An (.inr ⟨⟨_,_,_,O⟩,O⟩) O) (Bk O ?_)))))))))));refine A0 O (fun c1=>by cases c1) (fun c1=>?_);refine A5 (A3 (A2 A8 4 [0,2] O ?_));obtain⟨fk,ff,f1,f2⟩:=e2.func hkk;have hff:dd.funs[(Bw ds (Tm.mk gk gi gn gl gs).name).1.item.toNat]?=some ff:=by rw[f2];simpa using f1
 rw[R3 hu e4 hkk hff] at hC;refine Dg [3] O O O (.inr O) (dj n m ds s ((Bw ds (.mk gk gi gn gl gs:Tm).name).1) (.mk gk gi gn gl gs:Tm) a dd ff hW h2 h3 e4 Ar hff Ar h4 h5 h6 (by rw[hC];exact hns)) ⟨_,_,O,O,O⟩ Aq (aw (we O) (aw (we O) (aw (we O) (aw (we O) (FB))))) (fun _ _ h=>(congrArg List.length h).trans O) ?_ ?_
 rotate_left
 ·intro e _ he;exact⟨O,_,List.nil_sublist _,⟨_,by rw[←hC];exact he,rfl⟩⟩
 rintro⟨q,n2⟩ _ hz rfl;have hfin:=hz;refine Ax A8 4 [1,1] O (A4 (⟨O,_,_,⟨_,_,O,(BN (i:=1) Ba O O Ak),⟨_,_,O,O,O⟩⟩,(CO (is:=[3]) O),?_⟩));exact⟨⟨q,n2⟩,by rw[←hC];exact hfin,rfl,rfl⟩
theorem pz (t:Tm):∀c∈BU t,c≠ .nils:=by obtain⟨k,i,n,l,s⟩:=t;simp[BU]
theorem Eo (l:List Tm):∀r∈BK l,∀c∈r,c≠ .nils:=by
 intro r hr;rw[Ea] at hr;obtain⟨t,_,rfl⟩:=List.mem_map.1 hr;exact pz t
set_option maxHeartbeats 4000000 in
theorem Mx:∀(ds:List CM) (hE:HD ds) (n:Nat),nW ds n:=by
 intro ds hE n
 induction n using Nat.strongRecOn with
 | ind n ih =>
  intro m t s h1 hns;generalize hX:DJ ds Bq n s t=X at hns ⊢;refine A9 Tryz.func39 O ny (n:=95) O O (A3 (BP O (BY O) fun b3=>BP O (BE B8 O) fun b4=>Bk O (BH (Bn (α:=Nat×Tm×Int) (fun(k2,w,d)=>⟨95,mk [(0,.ptr m 0),(3,.ptr b3 0),(4,.ptr b4 0)],[.box b4 [.p (I 0),.p (I 0),.p (.str ⟨#[]⟩),.p (.nils),.p (.nils)],.box b3 ((BU w).map .p),.box m [.p (.lst (List.map Bo ds)),.p (I d)]],[]⟩) (fun(k2,w,d)=>k2) (fun(k2,w,d)=>DJ ds Bq k2 d w=X∧GH d∧k2≤n) ⟨n,t,s⟩ (⟨hX,h1,Nat.le_refl _⟩) ?_ ?_))))
  ·exact Bh ⟨we O,we O,we O,Au⟩ (leH (is:=[0,1,2]) O (wl (oe O) (wl (oe O) (wl (oe O) (Dd)))))
  rintro⟨k2,w,d⟩ hC
  try simp only at hC
  obtain⟨hC,hJ,hmn⟩:=hC;obtain⟨k,rfl⟩:=eO hC hns;have hwo:=dD hC hns;have hsp:=Xy hwo;have hsl:=hsp.len;have hss:=hsp.sz;have hsa:=hsp.asz;refine BH (A3 (Av O (BI (i:=1) Ba O O Ak) (Av O (BM O O (LL w hsp.nd Ab) O) (A2 A8 3 [] O (BP O (BE B8 O) fun b5=>Ax A8 2 [0,1] O (Az (A3 (B0 O (Av O (BS Br O (Bc _)) (Ax A8 1 [] O (A0 O (fun c=>?_) (fun c=>?_))))))))))))
  ·(try simp only[sd,se] at c);exact A7 (Av O (CE dG YF O) (Av O (Ic An O) (M7 O O (La O) (⟨O,_,List.nil_sublist _,⟨_,gH (hC.symm.trans (Tb hwo O (by simp only[Bq];exact decide_eq_true Ar))),O⟩⟩))))
  (try simp only[sd,se] at c);have hmany:Bq.many (BD w).2.length=false:=by simp only[Bq];exact decide_eq_false Ar
  refine A5 (A3 (Av O (Aw Dq O O) ?_));generalize hz:(BD w).1=z;obtain⟨zk,zi,zn,zl,zs⟩:=z;have hzo:okB (.mk zk zi zn zl zs)=true:=hz▸hsp.head;have hzq:=hz;have hzl:=K3 hzo;have hzn:=(Ch.1 hzo).nd;refine Ax A8 1 [0] O (BH (Ay A8 2 [] O (A0 O (fun c1=>?_) (fun c1=>?_))))
  ·(try simp only[sd,se] at c1);have hk:=(congrArg Tm.kind hzq).trans c1;refine Az (A3 (B0 O (Av O (BS Br O (Bc _)) (Ax A8 1 [] O (A0 O (fun c2=>?_) (fun c2=>?_))))))
   ·(try simp only[sd,se] at c2);rw[Pj hwo rfl hmany hk Ar] at hC;refine Ay A8 2 [2,1,1] O (A4 (⟨O,_,_,⟨_,_,O,(BN (i:=1) Ba O O Ak),O⟩,(CO (is:=[3]) O),?_⟩));exact⟨⟨_,_⟩,DC hC.symm,O,O⟩
   (try simp only[sd,se] at c2);refine A5 ?_;obtain⟨x,hx⟩:=BB (l:=zs) (i:=1) Ar;obtain⟨x1,hx1⟩:=BB (l:=(BD w).2) (i:=0) Ar;have hxo:=HZ hzo (i:=1) hx;have hx1o:=hsp.args _ (List.mem_of_getElem? hx1);rw[Vw hwo rfl hmany hk Ar (by rw[hzq];exact hx),iS hx1] at hC;have hn3:=hns;rw[←hC] at hn3;obtain⟨e,he⟩ | ⟨⟨z1,n2⟩,hz⟩:=FY (Is d (Cv x [x1] 0))
   ·refine IJ ((fun _=> .p (.iface 122 .unit)) e) 9 [.val (.ptr m 0),.val (.ptr b5 (0+4)),.val (.p (.lst (BK zs))),.val (.ref (BU x)),.val (.agg ((BU x).map .p)),.val (.p (.lst (BK ((BD w).2)))),.val (.ref (BU x1)),.val (.agg ((BU x1).map .p)),.val (.p (.lst (BK [x1]))),.val (.p .any),.val (.p (.lst (BK ((BD w).2)))),.val (.p (.lst (BK (((BD w).2).drop 1)))),.val (.p .any),.val (.p .any)] Eg O An O Au (fun _ _=>by exact⟨rfl,_,List.nil_sublist _,⟨_,by rw[←hC];exact KS hn3 he,rfl⟩⟩) ?_;refine CA O O (fun Bs=>BC O) (CA O O (fun Bs=>Aw Dq O O) (CA O O (fun Bs=>BG (i:=Bs.length+0) E3 O (CX O) O) (CA O O (fun Bs=>BA Br O O Ar (Bj hx) (BJ _)) (CA O O (fun Bs=>BO Ba O (BJ _)) (CA O O (fun Bs=>BC O) (CA O O (fun Bs=>BA Br O O Ar (Bj hx1) (BJ _)) (CA O O (fun Bs=>BO Ba O (BJ _)) (CA O O (fun Bs=>Bx (rows:=BK [x1]) Br B8 O O O O (CQ (B9 _)) (Eo _)) (Jz (mkp:=(fun _=> .p (.iface 122 .unit))) (e:=e) [3] he O O (.inl ⟨O,O,O⟩) (KU m ds d x [x1] hJ hxo (ok_one hx1o) I3) ⟨_,_,O,O,O⟩ Aq (aw (we O) (aw (we O) (aw (we O) (FB)))) (CA O O (fun Bs=>BC O) ?_))))))))));exact CA O O (fun Bs=>Cz (lo:=1) Br O (CQ (B9 _)) ⟨_,O⟩ O AQ (Nat.le_refl _) (L8 ((BD w).2) 1)) (C8 O O An (C8 O O An J5))
   rw[KC hn3 hz] at hC;have hJ3:=(QZ hJ hz).1;refine IH [.box b5 [.p (I zk),.p (I zi),.p (.str zn),.p (.lst (List.map CD zl)),.p (.lst (BK zs))],.box b4 [.p (I 0),.p (I 0),.p (.str ⟨#[]⟩),.p (.nils),.p (.nils)],.box b3 ((BU w).map .p),.box m [.p (.lst (List.map Bo ds)),.p (I n2)]] 9 [.val (.ptr m 0),.val (.ptr b5 (0+4)),.val (.p (.lst (BK zs))),.val (.ref (BU x)),.val (.agg ((BU x).map .p)),.val (.p (.lst (BK ((BD w).2)))),.val (.ref (BU x1)),.val (.agg ((BU x1).map .p)),.val (.p (.lst (BK [x1]))),.val (.agg ((BU z1).map .p)),.val (.p (.lst (BK ((BD w).2)))),.val (.p (.lst (BK (((BD w).2).drop 1)))),.val (.agg ((BU (apply z1 (((BD w).2).drop 1))).map .p))] [.p .any] [] Eg O An An An O ?_ ?_
   ·exact Au
   refine Bv O O (fun Bs=>BC O) (Bv O O (fun Bs=>Aw Dq O O) (GB O O O (fun Bs=>BG (i:=Bs.length+0) E3 O (CX O) O) (fun Bs=>BG (i:=Bs.length+0) E3 O (CX O) O) (Bv O O (fun Bs=>BA Br O O Ar (Bj hx) (BJ _)) (Bv O O (fun Bs=>BO Ba O (BJ _)) (Bv O O (fun Bs=>BC O) (Bv O O (fun Bs=>BA Br O O Ar (Bj hx1) (BJ _)) (Bv O O (fun Bs=>BO Ba O (BJ _)) (Bv O O (fun Bs=>Bx (rows:=BK [x1]) Br B8 O O O O (CQ (B9 _)) (Eo _)) (KD O (fun Bs=>G6 [3] O (.inl ⟨O,O,O⟩) (J4 hz (KU m ds d x [x1] hJ hxo (ok_one hx1o) I3)) ⟨_,_,O,O,O⟩ Aq O (aw (we O) (aw (we O) (aw (we O) (FB))))) (Bv O O (fun Bs=>BC O) ?_))))))))));refine Bv O O (fun Bs=>Cz (lo:=1) Br O (CQ (B9 _)) ⟨_,O⟩ O AQ (Nat.le_refl _) (L8 ((BD w).2) 1)) (Bv O O (fun Bs=>BM O O (ED z1 (((BD w).2).drop 1) AR) O) (KA (EJ [.box b5 [.p (I zk),.p (I zi),.p (.str zn),.p (.lst (List.map CD zl)),.p (.lst (BK zs))],.box b4 [.p (I 0),.p (I 0),.p (.str ⟨#[]⟩),.p (.nils),.p (.nils)],.box b3 ((BU (apply z1 (((BD w).2).drop 1))).map .p),.box m [.p (.lst (List.map Bo ds)),.p (I n2)]] O (Bd (i:=2) Ba O O O Ak AX (DR _)) (J2 ?_))));refine⟨⟨k,(apply z1 (((BD w).2).drop 1)),n2⟩,AT,⟨hC,by assumption,by omega⟩,Bh ⟨we rfl,we rfl,we rfl,trivial⟩ (leH (is:=[1,2,3]) rfl (wl (oe rfl) (wl (oe rfl) (wl (oe rfl) (Dd)))))⟩
  (try simp only[sd,se] at c1);refine Ay A8 2 [] O (A0 O (fun c2=>?_) (fun c2=>?_))
  ·(try simp only[sd,se] at c2);have hk:=(congrArg Tm.kind hzq).trans c2;obtain⟨x,hx⟩:=BB (l:=zs) (i:=2) Ar;obtain⟨x1,hx1⟩:=BB (l:=zs) (i:=1) Ar;have hxo:=HZ hzo (i:=2) hx;have hx1o:=HZ hzo (i:=1) hx1;rw[Ws hwo rfl hmany hk (by rw[hzq];exact hx1) (by rw[hzq];exact hx)] at hC;have hn3:=hns;rw[←hC] at hn3;obtain⟨e,he⟩ | ⟨⟨z1,n2⟩,hz⟩:=FY (Is d (Cv x [x1] 0))
   ·refine IJ ((fun _=> .p (.iface 122 .unit)) e) 10 [.val (.ptr m 0),.val (.ptr b5 (0+4)),.val (.p (.lst (BK zs))),.val (.ref (BU x)),.val (.agg ((BU x).map .p)),.val (.ptr b5 (0+4)),.val (.p (.lst (BK zs))),.val (.ref (BU x1)),.val (.agg ((BU x1).map .p)),.val (.p (.lst (BK [x1]))),.val (.p .any),.val (.p (.lst (BK ((BD w).2)))),.val (.p .any),.val (.p .any)] Eg O An O Au (fun _ _=>by exact⟨rfl,_,List.nil_sublist _,⟨_,by rw[←hC];exact KS hn3 he,rfl⟩⟩) ?_;refine CA O O (fun Bs=>BC O) (CA O O (fun Bs=>Aw Dq O O) (CA O O (fun Bs=>BG (i:=Bs.length+0) E3 O (CX O) O) (CA O O (fun Bs=>BA Br O O Ar (Bj hx) (BJ _)) (CA O O (fun Bs=>BO Ba O (BJ _)) (CA O O (fun Bs=>Aw Dq O O) (CA O O (fun Bs=>BG (i:=Bs.length+0) E3 O (CX O) O) (CA O O (fun Bs=>BA Br O O Ar (Bj hx1) (BJ _)) (CA O O (fun Bs=>BO Ba O (BJ _)) (CA O O (fun Bs=>Bx (rows:=BK [x1]) Br B8 O O O O (CQ (B9 _)) (Eo _)) (Jz (mkp:=(fun _=> .p (.iface 122 .unit))) (e:=e) [3] he O O (.inl ⟨O,O,O⟩) (KU m ds d x [x1] hJ hxo (ok_one hx1o) I3) ⟨_,_,O,O,O⟩ Aq (aw (we O) (aw (we O) (aw (we O) (FB)))) ?_))))))))));exact CA O O (fun Bs=>BC O) (C8 O O An (C8 O O An J5))
   rw[KC hn3 hz] at hC;have hJ3:=(QZ hJ hz).1;refine IH [.box b5 [.p (I zk),.p (I zi),.p (.str zn),.p (.lst (List.map CD zl)),.p (.lst (BK zs))],.box b4 [.p (I 0),.p (I 0),.p (.str ⟨#[]⟩),.p (.nils),.p (.nils)],.box b3 ((BU w).map .p),.box m [.p (.lst (List.map Bo ds)),.p (I n2)]] 10 [.val (.ptr m 0),.val (.ptr b5 (0+4)),.val (.p (.lst (BK zs))),.val (.ref (BU x)),.val (.agg ((BU x).map .p)),.val (.ptr b5 (0+4)),.val (.p (.lst (BK zs))),.val (.ref (BU x1)),.val (.agg ((BU x1).map .p)),.val (.p (.lst (BK [x1]))),.val (.agg ((BU z1).map .p)),.val (.p (.lst (BK ((BD w).2)))),.val (.agg ((BU (apply z1 ((BD w).2))).map .p))] [.p .any] [] Eg O An An An O ?_ ?_
   ·exact Au
   refine Bv O O (fun Bs=>BC O) (Bv O O (fun Bs=>Aw Dq O O) (GB O O O (fun Bs=>BG (i:=Bs.length+0) E3 O (CX O) O) (fun Bs=>BG (i:=Bs.length+0) E3 O (CX O) O) (Bv O O (fun Bs=>BA Br O O Ar (Bj hx) (BJ _)) (Bv O O (fun Bs=>BO Ba O (BJ _)) (Bv O O (fun Bs=>Aw Dq O O) (GB O O O (fun Bs=>BG (i:=Bs.length+0) E3 O (CX O) O) (fun Bs=>BG (i:=Bs.length+0) E3 O (CX O) O) (Bv O O (fun Bs=>BA Br O O Ar (Bj hx1) (BJ _)) (Bv O O (fun Bs=>BO Ba O (BJ _)) (Bv O O (fun Bs=>Bx (rows:=BK [x1]) Br B8 O O O O (CQ (B9 _)) (Eo _)) ?_)))))))));refine KD O (fun Bs=>G6 [3] O (.inl ⟨O,O,O⟩) (J4 hz (KU m ds d x [x1] hJ hxo (ok_one hx1o) I3)) ⟨_,_,O,O,O⟩ Aq O (aw (we O) (aw (we O) (aw (we O) (FB))))) (Bv O O (fun Bs=>BC O) (Bv O O (fun Bs=>BM O O (ED z1 ((BD w).2) AR) O) (KA (EJ [.box b5 [.p (I zk),.p (I zi),.p (.str zn),.p (.lst (List.map CD zl)),.p (.lst (BK zs))],.box b4 [.p (I 0),.p (I 0),.p (.str ⟨#[]⟩),.p (.nils),.p (.nils)],.box b3 ((BU (apply z1 ((BD w).2))).map .p),.box m [.p (.lst (List.map Bo ds)),.p (I n2)]] O (Bd (i:=2) Ba O O O Ak AX (DR _)) (J2 ?_)))));refine⟨⟨k,(apply z1 ((BD w).2)),n2⟩,AT,⟨hC,by assumption,by omega⟩,Bh ⟨we rfl,we rfl,we rfl,trivial⟩ (leH (is:=[1,2,3]) rfl (wl (oe rfl) (wl (oe rfl) (wl (oe rfl) (Dd)))))⟩
  (try simp only[sd,se] at c2);refine Az (Ay A8 2 [] O (Bb [0,3,4,5,6,21] 57 (fun y=>y= .p (.bool (decide (zk=9∨zk=10)))) ?_ ?_))
  ·refine A0 O (fun c3=>?_) (fun c3=>?_)
   ·(try simp only[sd,se] at c3);exact A5 (⟨O,O,(List.Sublist.refl _),(by refine pB (Bool.eq_iff_iff.2 ?_);simp only[beq_iff_eq,decide_eq_true_eq];omega),⟨O,O,O,O,O,O,Au⟩⟩)
   (try simp only[sd,se] at c3);exact A7 (Ax A8 2 [] O (⟨O,O,(List.Sublist.refl _),(by refine pB (Bool.eq_iff_iff.2 ?_);simp only[beq_iff_eq,decide_eq_true_eq];omega),⟨O,O,O,O,O,O,Au⟩⟩))
  rintro _ rfl;refine A0 O (fun c3=>?_) (fun c3=>?_)
  ·(try simp only[sd,se] at c3);have hk9:zk=9∨zk=10:=by simpa using c3
   refine A3 (A2 A8 3 [0] O ?_);obtain⟨x,hx⟩:=BB (l:=zs) (i:=0) Ar;rw[Pp hwo rfl hmany (by rw[hzq];exact hk9) (by rw[hzq];exact hx)] at hC;have hn0:=hns;rw[←hC] at hn0;have hn1:=UF hn0;refine Av O (BA Br O O Ar (Bj hx) (BJ _)) (Av O (BO Ba O (BJ _)) (Dg [3] O O O (.inl ⟨O,O,O⟩) (ih k Ar m x d hJ hn1) ⟨_,_,O,O,O⟩ Aq (aw (we O) (aw (we O) (FB))) (fun _ _ h=>(congrArg List.length h).trans O) ?_ ?_))
   rotate_left
   ·intro e _ he;exact⟨O,_,List.nil_sublist _,⟨_,by rw[←hC];exact TO hn0 he,rfl⟩⟩
   rintro⟨pr,n2⟩ _ hz rfl;obtain⟨hr2,hr3⟩:=Tc hn0 hz;rw[hr3] at hC;have hJ2:=PX hJ (Hj hz);refine BP O (BE B8 O) fun b7=>Ax A8 1 [0,1] O (Az (A3 (Av O (Aw Dq O O) ?_)));obtain⟨prk,pri,prn,prl,prs⟩:=pr;have hprl:=K3 hr2;refine Ax A8 2 [0] O (A0 O (fun c4=>?_) (fun c4=>?_))
   ·(try simp only[sd,se] at c4);rw[Mw (r:=(Tm.mk prk pri prn prl prs,n2)) c4,hzq] at hC;refine A3 (A2 A8 3 [1,0] O (Av O (Bx (rows:=BK [(.mk prk pri prn prl prs:Tm)]) Br B8 O O O O (CQ (B9 _)) (Eo _)) (A2 A8 2 [] O (Av O (G1 O O (ED (.mk zk 0 ⟨#[]⟩ [] [(.mk prk pri prn prl prs:Tm)]:Tm) ((BD w).2) AR) (aw (Dz O) (aw (we O) (FB)))) (Ax A8 1 [2,1] O (A4 (⟨O,_,_,⟨_,_,O,(BN (i:=2) Ba O O Ak),O⟩,(CO (is:=[4]) O),?_⟩)))))));exact⟨⟨_,_⟩,DC hC.symm,O,O⟩
   (try simp only[sd,se] at c4);have hp8:=c4;refine A5 (A7 (A2 A8 3 [1,0] O ?_));obtain⟨cq,hcq⟩:=BB (l:=prs) (i:=(1+zk - 9).toNat) (by have:=hprl.2.2.2 hp8;omega);have hcqo:=HZ hr2 (i:=(1+zk - 9).toNat) hcq;rw[VR (r:=(Tm.mk prk pri prn prl prs,n2)) (h:=(BD w).1) hp8 (by rw[hzq];exact hcq)] at hC;have hn3:=hns;rw[←hC] at hn3;refine Dg [4] O O O (.inl ⟨O,O,O⟩) (Xo m ds n2 (.mk zk zi zn zl zs:Tm) (.mk prk pri prn prl prs:Tm) cq hJ2 hk9 hcq) ⟨_,_,O,O,O⟩ Aq (aw (we O) (aw (we O) (aw (we O) (FB)))) (fun _ _ h=>(congrArg List.length h).trans O) ?_ ?_
   rotate_left
   ·intro e _ he;exact⟨O,_,List.nil_sublist _,⟨_,by rw[←hC];exact KS hn3 he,rfl⟩⟩
   rintro⟨z1,n21⟩ _ hz1 rfl;rw[KC hn3 hz1] at hC;have hJ3:=(QZ hJ2 hz1).1;refine B0 O (Av O (BM O O (ED z1 ((BD w).2) AR) O) (Ax A8 1 [3,1] O ?_));refine⟨⟨k,(apply z1 ((BD w).2)),n21⟩,AT,⟨hC,by assumption,by omega⟩,Bh ⟨we rfl,we rfl,we rfl,trivial⟩ (leH (is:=[2,3,4]) rfl (wl (oe rfl) (wl (oe rfl) (wl (oe rfl) (Dd)))))⟩
  (try simp only[sd,se] at c3);refine Ay A8 2 [] O (A0 O (fun c4=>?_) (fun c4=>?_))
  ·(try simp only[sd,se] at c4);have hk:=(congrArg Tm.kind hzq).trans c4;refine A3 (A2 A8 3 [0] O ?_);rw[NZ hwo rfl hmany hk,hzq] at hC;have hn0:=hns;rw[←hC] at hn0;have hn1:=JI hn0;refine Dg [3] O O O (.inl ⟨O,O,O⟩) (bU k m ds d (.mk zk zi zn zl zs:Tm) ((BD w).2) (ih k Ar) hE hJ hzo Ar hsp.args hn1) ⟨_,_,O,O,O⟩ Aq (aw (we O) (aw (we O) (aw (we O) (FB)))) (fun _ _ h=>(congrArg List.length h).trans O) ?_ ?_
   rotate_left
   ·intro e _ he;exact⟨O,_,List.nil_sublist _,⟨_,by rw[←hC];exact J8 hn0 he,rfl⟩⟩
   rintro⟨q,n2⟩ _ hz rfl;rw[Lv hz] at hC;have hJ2:=XB hJ (Hj hz);refine A2 A8 3 [] O (BP O (BE B8 O) fun b8=>Ax A8 2 [0,1] O (Az (Ay A8 2 [] O (A0 O (fun c5=>?_) (fun c5=>?_)))))
   ·(try simp only[sd,se] at c5);rw[Z9 (by simpa using c5)] at hC;refine Ay A8 2 [3,2,1] O (A4 (⟨O,_,_,⟨_,_,O,(BN (i:=2) Ba O O Ak),O⟩,(CO (is:=[4]) O),?_⟩));exact⟨⟨_,_⟩,DC hC.symm,O,O⟩
   (try simp only[sd,se] at c5);rw[dP (by simpa using c5)] at hC;refine A5 (A7 (Ax A8 2 [0,3,1] O ?_));refine⟨⟨k,(q.getD Be),n2⟩,AT,⟨hC,by assumption,by omega⟩,Bh ⟨we rfl,we rfl,we rfl,trivial⟩ (leH (is:=[2,3,4]) rfl (wl (oe rfl) (wl (oe rfl) (wl (oe rfl) (Dd)))))⟩
  (try simp only[sd,se] at c4);rw[Xt hwo rfl hmany (by rw[hzq];assumption) (by rw[hzq];assumption) (by rw[hzq];show ¬zk=9;omega) (by rw[hzq];show ¬zk=10;omega) (by rw[hzq];assumption)] at hC;refine Ay A8 2 [2,1,1] O (A4 (⟨O,_,_,⟨_,_,O,(BN (i:=1) Ba O O Ak),O⟩,(CO (is:=[3]) O),?_⟩));exact⟨⟨_,_⟩,DC hC.symm,O,O⟩
theorem fm:∀(be:Nat) (ce:List AV),ES Tryz.prog 71 [.ptr be 0] (.ret) [.box be ce] (fun H'=>H'=[.box be ce]):=by
 intro be ce;refine HH (ty2:=0) Tryz.func71 O kp (n:=14) O O O O O O (A3 (B0 O (Av O (Gl Y3 O O O) (Bk O ?_))));refine A0 O (fun c=>by cases c) (fun c=>?_);exact A5 ⟨.inl O,O,_,(CO (is:=[0]) O),O⟩
theorem dw:∀(be:Nat),ES Tryz.prog 71 [.ptr be 0] (.pan (.p (.iface 122 (.unit)))) [.box be [.p (I 0)]] (fun H'=>H'=[.box be [.p (I 11)]]):=by
 intro be;refine HH (ty2:=0) Tryz.func71 O kp (n:=14) O O O O O O (A3 (B0 O (Av O (Gl Y3 O O O) (Bk O ?_))));refine A0 O (fun c=>?_) (fun c=>by cases c);refine Ay A8 1 [0,0] O (A3 (B0 O (Av O (Vm An O) (A2 A8 3 [] O (BP O (BE YF O) fun b2=>Av O (RF kn O O) (Ax A8 1 [] O (Ay A8 2 [] O ?_)))))));refine A0 O (fun c1=>by cases c1) (fun c1=>?_);exact A5 ⟨.inl O,O,_,(CO (is:=[1]) O),O⟩
theorem UC:∀{α:Type}(x:Except Int α) (a:α) (hx:x= .ok a) (cn:α→Int) (G:α→List BL) (fid:Nat) (caps:List AV) (T:List BL) (ds:List CM) (hf:∀m,Bu Tryz.prog fid ([.ptr m 0]++caps) (.box m [.p (.lst (List.map Bo ds)),.p (I 20000)]::T) (KQ (fun _=> .tup []) (fun _=> .p (.iface 122 .unit)) (fun a H'=>H'= .box m [.p (.lst (List.map Bo ds)),.p (I (cn a))]::G a) x)),Bu Tryz.prog 37 [.p (.lst (List.map Bo ds)),.fn (.func fid) [] caps] T (HM (.p (I 0)) (G a)):=by
 intro α x a hx cn G fid caps T ds hf;refine E2 Tryz.func37 O ly (n:=11) O O (A3 (BP O (BE aK O) fun b4=>Bk O (A3 (Av O (EU O O) (Mz O O O O (Bk O (A3 (A2 A8 3 [] O (BP O (BY O) fun b9=>K4 (List.Perm.swap _ _ _) (Hg [_] O O O (.inr O) (hf b9) (DS _) ?_ ?_))))))))))
 rotate_left
 ·rintro v T2 ⟨e2,h1,_⟩;rw[hx] at h1;cases h1
 rintro v T2 ⟨a2,h1,rfl,rfl⟩;rw[hx] at h1;cases h1;refine Bk O (Ay A8 1 [0,0] O (A4 ⟨_,[_],_,O,List.Perm.refl _,ES.eq (fm b4 _) ?_⟩));refine⟨_,_,⟨_,_,O,(GP (i:=0) Rc O O),O⟩,(GM [] [_,_] O),?_⟩
 all_goals exact⟨rfl,rfl⟩
theorem RK:∀{α:Type}(x:Except Int α) (e:Int) (hx:x= .error e) (cn:α→Int) (G:α→List BL) (fid:Nat) (caps:List AV) (T:List BL) (ds:List CM) (hf:∀m,Bu Tryz.prog fid ([.ptr m 0]++caps) (.box m [.p (.lst (List.map Bo ds)),.p (I 20000)]::T) (KQ (fun _=> .tup []) (fun _=> .p (.iface 122 .unit)) (fun a H'=>H'= .box m [.p (.lst (List.map Bo ds)),.p (I (cn a))]::G a) x)),Bu Tryz.prog 37 [.p (.lst (List.map Bo ds)),.fn (.func fid) [] caps] T (HM (.p (I 11)) []):=by
 intro α x e hx cn G fid caps T ds hf;refine E2 Tryz.func37 O ly (n:=11) O O (A3 (BP O (BE aK O) fun b4=>Bk O (A3 (Av O (EU O O) (Mz O O O O (Bk O (A3 (A2 A8 3 [] O (BP O (BY O) fun b9=>K4 (List.Perm.swap _ _ _) (Hg [_] O O O (.inr O) (hf b9) (DS _) ?_ ?_))))))))))
 ·rintro v T2 ⟨a2,h1,_⟩;rw[hx] at h1;cases h1
 rintro v T2 ⟨e2,h1,rfl⟩;refine⟨_,_,_,O,Lg (is:=[0]) _ Aq ⟨_,_,O,O,O⟩,ES.eq (dw b4) ?_⟩;refine⟨_,[],⟨_,_,O,(GP (i:=0) Rc O O),O⟩,(List.nil_sublist _),?_⟩;exact⟨O,O⟩
end Go.Proofs.YtboammbpdaoojaaGreat
namespace Go.Eu
open Go.Abs
structure Lt (c:Ik):Prop where
 ov:c.over=false
 lm:c.limit=1000
 s0:0≤c.steps
 s1:c.steps≤1000
 n0:0≤c.nodes
 n1:c.nodes≤2000
section
variable {E:List CM}
structure pM (c c':Ik) (z z':Nat):Prop where
 lt:Lt c'
 st:c.steps≤c'.steps
 nd:c.nodes≤c'.nodes
 sz:(z':Int)≤z+(c'.nodes - c.nodes)
def SW (n:Nat) (W:Ik→Tm→Out (Tm×Ik)) (V:Int→Tm→Out (Tm×Int)):Prop:=∀c t r c',Lt c→W c t= .ok (r,c')→c'.over=false→(size t:Int)≤30000+c.nodes →
 pM c c' (size t) (size r)∧∀l:Int,1000 - c.steps≤l→V l t= .ok (r,l - (c'.steps - c.steps))
variable {n:Nat}{W:Ik→Tm→Out (Tm×Ik)}{V:Int→Tm→Out (Tm×Int)}
structure qX (c c':Ik) (z:Nat) (q:Option Tm):Prop where
 lt:Lt c'
 st:c.steps≤c'.steps
 nd:c.nodes≤c'.nodes
 sz:∀x,q=some x→(size x:Int)≤z+(c'.nodes - c.nodes)
end
section
variable {E:List CM}{n:Nat}
end
section
variable {E:List CM}
def py {α:Type}(c:Ik) (o:Int→Out (α×Int)) (q:α):Prop:=∀l:Int,1000 - c.steps≤l→∃l',o l= .ok (q,l')
end
section
variable {E:List CM}
end
section
variable {E:List CM}
def LW (W:Int→Tm→Out (Tm×Int)):Prop:=∀l t r l' k,0≤k→W l t= .ok (r,l')→W (l+k) t= .ok (r,l'+k)
theorem Ju {α:Type}{l l' k:Int}{x:Tm×Int}{f:Tm→Int→Out (α×Int)}{q:α}(hk:0≤k) (hf:∀t s q s',f t s= .ok (q,s')→f t (s+k)= .ok (q,s'+k)) (h:Bq.put l x f= .ok (q,l')):Bq.put (l+k) x f= .ok (q,l'+k):=by
 unfold Sys.put at h ⊢;split at h
 ·rename_i ho;rw[if_pos ho];simp only[Bq] at h ⊢;by_cases c:l - 1<0∨x.2≠0
  ·rw[if_pos c] at h;cases h
  rw[if_neg c] at h;rw[if_neg Ar];have:=hf _ _ _ _ h;rw[show l+k - 1=l - 1+k by omega];exact this
 cases h
theorem OO {f:Tm→Tm}{k:Int}:∀(t:Tm) (s:Int) (q:Option Tm) (s':Int),(Out.ok (some (f t),s):Out (Option Tm×Int))= .ok (q,s')→(Out.ok (some (f t),s+k):Out (Option Tm×Int))= .ok (q,s'+k):=fun t s q s' h=>by cases h;rfl
theorem Ss {W:Int→Tm→Out (Tm×Int)}(hW:LW W) {k:Int}(hk:0≤k):∀(m:Nat) (t:FE) (vs:List Tm) (la:Tm) (l l':Int) (q:Option (Tm×List Tm)×Tm),EH E Bq W m t vs la l= .ok (q,l')→EH E Bq W m t vs la (l+k)= .ok (q,l'+k)
 | 0,t,vs,la,l,l',q,h=>by rw[EH] at h;cases h
 | m+1,t,vs,la,l,l',q,h=>by
  by_cases h1:t.kind=1
  ·by_cases hb:t.var<0∨t.var≥(vs.length:Int)
   ·rw[Kt h1 (by rcases hb with h | h;exact .inl h;exact .inr (.inl h))] at h ⊢;cases h;rfl
   have hb2:∀l,¬(t.var<0∨t.var≥(vs.length:Int)∨Bq.over l=true):=fun l=>by simp[Bq];omega
   have hx:=List.getElem?_eq_getElem (show t.var.toNat<vs.length by omega);rw[Mt h1 (hb2 _) hx] at h ⊢;obtain⟨⟨r,l1⟩,e1,e2,e3⟩:=Kv h;rw[hW _ _ _ _ k hk e1];simp only[Out.chk,Out.bind];rw[if_pos e2];cases hc:DL E r with
   | none=>rw[Io hc] at e3 ⊢;cases e3;rfl
   | some p =>
    obtain⟨d,j,f⟩:=p;cases hbr:C3 (FU d j).name t.branches with
    | none=>rw[LN hc hbr] at e3 ⊢;cases e3;rfl
    | some t'=>rw[Ks hc hbr] at e3 ⊢;exact Ss hW hk m t' _ _ _ _ _ e3
  rw[Jn h1] at h ⊢;cases h;rfl
theorem Zf {d:CM}{g m:Tm}{a:List Tm}{l l' k:Int}{q:Option Tm}(hk:0≤k) (h:FA E Bq d g a m l= .ok (q,l')):FA E Bq d g a m (l+k)= .ok (q,l'+k):=by
 unfold FA at h ⊢;split at h
 ·cases h;rfl
 split at h
 ·rename_i c;rw[if_pos c];cases h;rfl
 rename_i c;rw[if_neg c];split at h
 ·rename_i c2;rw[if_pos c2];cases h;rfl
 rename_i c2;rw[if_neg c2];exact Ju hk (OO (f:=fun t=>apply t (a.drop (Cc d+1).toNat))) h
theorem Zd {g b:Tm}{vs a:List Tm}{l l' k:Int}{q:Option Tm}(hk:0≤k) (h:Hk Bq g b vs a l= .ok (q,l')):Hk Bq g b vs a (l+k)= .ok (q,l'+k):=by
 unfold Hk at h ⊢;split at h
 ·rename_i c;rw[if_pos c];cases h;rfl
 rename_i c;rw[if_neg c];split at h
 ·cases h
 rename_i c2;rw[if_neg c2];exact Ju hk (OO (f:=fun t=>apply t a)) h
theorem W5 {d:CM}{g:Tm}{a:List Tm}{l l' k:Int}{q:Option Tm}(hk:0≤k) (h:Es Bq d g a l= .ok (q,l')):Es Bq d g a (l+k)= .ok (q,l'+k):=by
 unfold Es at h ⊢;split at h
 ·rename_i c;rw[if_pos c];cases h;rfl
 rename_i c;rw[if_neg c];exact Ju hk (OO (f:=fun t=>apply t a)) h
theorem WU {W:Int→Tm→Out (Tm×Int)}(hW:LW W) {n:Nat}{g:Tm}{a:List Tm}{l l' k:Int}{q:Option Tm}(hk:0≤k) (h:Ed E Bq W n g a l= .ok (q,l')):Ed E Bq W n g a (l+k)= .ok (q,l'+k):=by
 unfold Ed at h ⊢;split at h
 ·cases h;rfl
 split at h
 ·rename_i c;rw[if_pos c];exact W5 hk h
 rename_i c;rw[if_neg c];split at h
 ·rename_i c;rw[if_pos c];unfold RG at h ⊢;split at h
  ·rename_i c;rw[if_pos c];cases h;rfl
  rename_i c;rw[if_neg c];obtain⟨⟨r,l1⟩,e1,e2,e3⟩:=Kv h;rw[hW _ _ _ _ k hk e1];simp only[Out.chk,Out.bind];rw[if_pos e2];exact Zf hk e3
 rename_i c;rw[if_neg c];split at h
 ·rename_i c;rw[if_pos c];unfold Iw at h ⊢;split at h
  ·rename_i c;rw[if_pos c];cases h;rfl
  rename_i c;rw[if_neg c];obtain⟨⟨r,l1⟩,e1,e2⟩:=Lh h;rw[Ss hW hk _ _ _ _ _ _ _ e1];simp only[Out.bind];simp only at e2;split at e2
  ·cases e2;rfl
  split at e2
  ·rename_i c;simp[Bq] at c
  rw[if_neg (by simp[Bq])];exact Zd hk e2
 rename_i c;rw[if_neg c];cases h;rfl
theorem XL:∀n,LW (DJ E Bq n)
 | 0=>fun l t r l' k _ h=>by rw[DJ] at h;cases h
 | n+1=>fun l t r l' k hk h=>by
  have ih:=XL n;have hf:∀(f:Tm→Tm) (t:Tm) (s:Int) (q:Tm) (s':Int),DJ E Bq n s (f t)= .ok (q,s')→DJ E Bq n (s+k) (f t)= .ok (q,s'+k):=fun f t s q s' e=>ih _ _ _ _ k hk e;rw[DJ] at h ⊢;split at h
  ·cases h
  rename_i c;rw[if_neg c];split at h
  ·rename_i c;simp[Bq] at c
  rw[if_neg (by simp[Bq])];split at h
  ·cases h
  rename_i c;rw[if_neg c];split at h
  ·rename_i c;rw[if_pos c];split at h
   ·rename_i c;rw[if_pos c];cases h;rfl
   rename_i c;rw[if_neg c];unfold Mu at h ⊢;split at h
   ·cases h
   exact Ju hk (hf fun x=>apply x ((BD t).2.drop 1)) h
  rename_i c;rw[if_neg c];split at h
  ·rename_i c;rw[if_pos c];unfold Tw at h ⊢;split at h
   ·exact Ju hk (hf fun x=>apply x (BD t).2) h
   cases h
  rename_i c;rw[if_neg c];split at h
  ·rename_i c;rw[if_pos c];split at h
   ·cases h
   obtain⟨⟨r1,l1⟩,e1,e2,e3⟩:=Kv h;rw[ih _ _ _ _ k hk e1];simp only[Out.chk,Out.bind];rw[if_pos e2];simp only at e3;split at e3
   ·rename_i c;rw[if_pos c];cases e3;rfl
   rename_i c;rw[if_neg c];unfold MF at e3 ⊢;split at e3
   ·cases e3
   exact Ju hk (hf fun x=>apply x (BD t).2) e3
  rename_i c;rw[if_neg c];split at h
  ·rename_i c;rw[if_pos c];obtain⟨⟨q,l1⟩,e1,e2⟩:=Lh h;rw[WU ih hk e1];simp only[Out.bind];simp only at e2;split at e2
   ·cases e2;rfl
   exact ih _ _ _ _ k hk e2
  rename_i c;rw[if_neg c];cases h;rfl
structure Exit (E:List CM) (n:Nat) (l:Int) (a:Tm) (l':Int):Prop where
 many:Bq.many (BD a).2.length=false
 lam:(BD a).1.kind=5→(BD a).2.length=0
 lt:(BD a).1.kind≠11
 proj:(BD a).1.kind=9∨(BD a).1.kind=10→∃p,(BD a).1=I6 (BD a).1.kind p∧okB p=true∧p.kind≠8∧DJ E Bq n l p= .ok (p,l')∧a=apply (BD a).1 (BD a).2
 con:(BD a).1.kind=3→Ed E Bq (DJ E Bq n) n (BD a).1 (BD a).2 l= .ok (none,l')
 oth:(BD a).1.kind≠9→(BD a).1.kind≠10→(BD a).1.kind≠3→l'=l
theorem X9 {n:Nat}{l l':Int}{a:Tm}(ho:okB a=true) (h:Exit E n l a l'):DJ E Bq (n+1) l a= .ok (a,l'):=by
 have hov:Bq.over l=false:=rfl;by_cases k5:(BD a).1.kind=5
 ·rw[Pj ho hov h.many k5 (h.lam k5),h.oth Ar Ar Ar]
 by_cases k9:(BD a).1.kind=9∨(BD a).1.kind=10
 ·obtain⟨p,h1,h2,h3,h4,h5⟩:=h.proj k9;have hk:(BD a).1.kids[0]?=some p:=by rw[h1];rfl
  rw[Pp ho hov h.many k9 hk,h4];simp only[Out.chk,Out.bind];rw[if_pos h2,Mw (r:=(p,l')) h3];simp only;rw[←h1,←h5]
 by_cases k3:(BD a).1.kind=3
 ·rw[NZ ho hov h.many k3,h.con k3];rfl
 rw[Xt ho hov h.many k5 h.lt (fun e=>k9 (.inl e)) (fun e=>k9 (.inr e)) k3,h.oth (fun e=>k9 (.inl e)) (fun e=>k9 (.inr e)) k3]
theorem N0 {h:Tm}(hk:h.kind≠4):∀(xs:List Tm),BD (apply h xs)=(h,xs):=by
 have key:∀(xs:List Tm) (f:Tm) (ys:List Tm),BD f=(h,ys)→BD (apply f xs)=(h,ys++xs):=by
  intro xs
  induction xs with
  | nil=>intro f ys e;simpa [apply] using e
  | cons x xs ih =>
   intro f ys e;have:BD (TJ f x)=(h,ys++[x]):=by simp[TJ,BD,e]
   have:=ih (TJ f x) (ys++[x]) this;simpa [apply] using this
 intro xs;have h0:BD h=(h,[]):=by
  obtain⟨k,i,n,l,s⟩:=h;exact MJ (.inl hk)
 simpa using key xs h [] h0
theorem TR:∀(n:Nat) (l l':Int) (t a:Tm),DJ E Bq n l t= .ok (a,l')→∃n' l1 l2,l1≤l∧Exit E n' l1 a l2
 | 0,l,l',t,a,h=>by rw[DJ] at h;cases h
 | n+1,l,l',t,a,h=>by
  have ih:=TR n;have ho:=dD h As;have hov:Bq.over l=false:=rfl;obtain⟨oh,oa⟩:=IY ho;cases hm:Bq.many (BD t).2.length with
  | true=>rw[Tb ho hov hm] at h;cases h
  | false =>
   have step:∀{x:Tm×Int} {f:Tm→Tm},Bq.put l x (fun y s=>DJ E Bq n s (f y))= .ok (a,l')→∃n' l1 l2,l1≤l∧Exit E n' l1 a l2:=fun {x f} e=>by
    obtain⟨g1,g2⟩:=Nf (s:=l) (x:=x) (k:=fun y s=>DJ E Bq n s (f y)) (by rw[e];simp);rw[g2] at e;split at e
    ·cases e
    obtain⟨n',l1,l2,q1,q2⟩:=ih _ _ _ _ e;exact⟨n',l1,l2,by omega,q2⟩
   by_cases k5:(BD t).1.kind=5
   ·by_cases hl:(BD t).2.length=0
    ·rw[Pj ho hov hm k5 hl] at h;cases h;exact⟨n,l,l,Int.le_refl _,⟨hm,fun _=>hl,by omega,fun e=>by omega,fun e=>by omega,fun _ _ _=>rfl⟩⟩
    obtain⟨b,hb,_⟩:=Fv oh (i:=1) (by rw[k5];decide);rw[Vw ho hov hm k5 hl hb] at h;exact step (f:=fun x=>apply x ((BD t).2.drop 1)) h
   by_cases k11:(BD t).1.kind=11
   ·obtain⟨v,hvk,_⟩:=Fv oh (i:=1) (by rw[k11];decide);obtain⟨b,hb,_⟩:=Fv oh (i:=2) (by rw[k11];decide);rw[Ws ho hov hm k11 hvk hb] at h;exact step (f:=fun x=>apply x (BD t).2) h
   by_cases k9:(BD t).1.kind=9∨(BD t).1.kind=10
   ·obtain⟨p,hpk,op,sp⟩:=Fv oh (i:=0) (by rcases k9 with h | h<;>rw[h]<;>decide);rw[Pp ho hov hm k9 hpk] at h;obtain⟨⟨r1,l1⟩,h1,h2,h3⟩:=Kv h;have hd:=(N6 Gh n l p _ h1).1;by_cases k8:r1.kind=8
    ·have har:arity 8=3:=rfl;obtain⟨y,hy,oy,sy⟩:=Fv h2 (i:=(1+(BD t).1.kind - 9).toNat) (by show _<arity r1.kind;rw[k8,har];omega);rw[VR (r:=(r1,l1)) k8 hy] at h3;obtain⟨g1,g2⟩:=Nf (s:=l1) (x:=(y,0)) (k:=fun y s=>DJ E Bq n s (apply y (BD t).2)) (by rw[h3];simp);simp only at h3 hd;rw[g2] at h3;split at h3
     ·cases h3
     obtain⟨n',l3,l2,q1,q2⟩:=ih _ _ _ _ h3;exact⟨n',l3,l2,by omega,q2⟩
    rw[Mw (r:=(r1,l1)) k8] at h3;cases h3;obtain⟨n',l3,l2,q1,q2⟩:=ih _ _ _ _ h1;have hw:=X9 h2 q2;have hsp:=N0 (h:=I6 (BD t).1.kind r1) (by show (BD t).1.kind≠4;omega) (BD t).2;refine⟨n'+1,l3,l2,q1,?_⟩;simp only;refine⟨by rw[hsp];exact hm,fun e=>?_,?_,fun _=>?_,fun e=>?_,fun e1 e2=>?_⟩
    ·rw[hsp] at e;exact absurd e k5
    ·rw[hsp];exact k11
    ·rw[hsp];exact⟨r1,rfl,h2,k8,hw,rfl⟩
    ·rw[hsp] at e;have e':(BD t).1.kind=3:=e;omega
    rw[hsp] at e1 e2;have e1':(BD t).1.kind≠9:=e1;have e2':(BD t).1.kind≠10:=e2;omega
   by_cases k3:(BD t).1.kind=3
   ·rw[NZ ho hov hm k3] at h;obtain⟨⟨q,l1⟩,h1,h2⟩:=Lh h;have hd:=(OJ Gh (fun s t q=>N6 Gh n s t q) h1).1;cases hq:q.isSome with
    | false =>
     rw[Z9 hq] at h2;cases h2;cases q with
     | some x=>cases hq
     | none=>exact⟨n,l,_,Int.le_refl _,⟨hm,fun e=>absurd e k5,k11,fun e=>absurd e k9,fun _=>h1,fun _ _ e=>absurd k3 e⟩⟩
    | true =>
     rw[dP hq] at h2;obtain⟨n',l3,l2,q1,q2⟩:=ih _ _ _ _ h2;simp only at hd;exact⟨n',l3,l2,by omega,q2⟩
   rw[Xt ho hov hm k5 k11 (fun e=>k9 (.inl e)) (fun e=>k9 (.inr e)) k3] at h;cases h;exact⟨n,l,l,Int.le_refl _,⟨hm,fun e=>absurd e k5,k11,fun e=>absurd e k9,fun e=>absurd e k3,fun _ _ _=>O⟩⟩
theorem eG {n:Nat}{l l':Int}{t a:Tm}(h1:DJ E Bq n l t= .ok (a,l')) (hp:¬((BD a).1.kind=9∨(BD a).1.kind=10)) (hc:(BD a).1.kind=3→(Bw E (BD a).1.name).1.kind≠5∧(Bw E (BD a).1.name).1.kind≠6) (ho:okB a=true) (m:Nat) (s:Int):EN E Bq (m+1) s a= .ok (none,s):=by
 obtain⟨n',l1,l2,q1,q2⟩:=TR n l l' t a h1;rw[EN,if_neg (by simp[ho])];by_cases k5:(BD a).1.kind=5
 ·rw[if_pos k5,if_pos (q2.lam k5)]
 rw[if_neg k5,if_neg q2.lt,if_neg hp];by_cases k3:(BD a).1.kind=3
 ·rw[if_pos k3];have hcon:=q2.con k3;obtain⟨c5,c6⟩:=hc k3;cases hu:U0 E (BD a).1 with
  | false=>rw[Cs,hu];rfl
  | true =>
   obtain⟨i,d,e1,e2,hd,e4⟩:=LD hu;rw[Cs,hu,if_pos rfl];simp only;by_cases k1:(Bw E (BD a).1.name).1.kind=1
   ·rw[OT hu e4 k1] at hcon;have hda:CY E (Bw E (BD a).1.name).1.decl=d:=CZ e4;rw[if_pos k1,hda];by_cases he:(B5 d.value (BD a).1.levels).2=0
    ·rw[Mr he] at hcon;have:=(Nf (s:=l1) (x:=((B5 d.value (BD a).1.levels).1,0)) (k:=fun t s'=>Out.ok (some (apply t (BD a).2),s')) (by rw[hcon];simp)).2;rw[this] at hcon;split at hcon
     ·cases hcon
     cases hcon
    exact OB he
   rw[if_neg k1,if_neg (fun e=>c5 e.1),if_neg (fun e=>c6 e.1)]
 rw[if_neg k3]
end
def Iz {α:Type}:Out α→Int
 | .ok _=>0
 | _=>11
def G8 {α:Type}(z:α):Out (α×Int)→α
 | .ok (a,_)=>a
 | _=>z
section
variable {α:Type}{o:Out (α×Int)}{a:α×Int}{z:α}{e:Int}
theorem ij (h:o.ex= .ok a):Iz o=0:=by rw[Hj h];rfl
theorem jc (h:o.ex= .error e):Iz o=11:=by cases o<;>first | rfl | cases h
theorem jo (h:o.ex= .ok a):G8 z o=a.1:=by rw[Hj h];rfl
theorem je (h:o.ex= .error e):G8 z o=z:=by cases o<;>first | rfl | cases h
end
theorem LS:GH 20000:=⟨by omega,by omega⟩
end Go.Eu
namespace Go.Proofs.YtboammbpdaoojaaGreat
open Go.Abs Go.Eu
theorem aD:∀(ds:List CM) (N m bt bo:Nat) (t:Tm) (s:Int),(HD ds)→(GH s)→(DJ ds Bq N s t≠ .stuck)→Bu Tryz.prog 38 [.ptr m 0,.ptr bt 0,.ptr bo 0] [.box m [.p (.lst (List.map Bo ds)),.p (I s)],.box bt ((BU t).map .p),.box bo [.p (I 0),.p (I 0),.p (.str ⟨#[]⟩),.p (.nils),.p (.nils)]] (KQ (fun(r:Tm×Int)=> .tup []) (fun _=> .p (.iface 122 .unit)) (fun r H'=>H'=[.box m [.p (.lst (List.map Bo ds)),.p (I r.2)],.box bt ((BU t).map .p),.box bo ((BU r.1).map .p)]) ((DJ ds Bq N s t).ex)):=by
 intro ds N m bt bo t s h1 h2 h3;refine A9 Tryz.func38 O pT (n:=7) O O (A7 (A2 A8 2 [1] O (Dg [0] O O O (.inl ⟨O,O,O⟩) (Mx ds h1 N m t s h2 h3) ⟨_,_,O,O,O⟩ Aq (aw (we O) (aw (we O) (FB))) (fun _ _ h=>(congrArg List.length h).trans O) ?_ ?_)))
 rotate_left
 ·intro e _ he;exact⟨O,_,List.nil_sublist _,⟨_,he,O⟩⟩
 rintro⟨z,n2⟩ _ hz rfl;refine Ax A8 1 [2,1] O ⟨O,_,_,O,(CO (is:=[0,1,2]) O),?_⟩;exact⟨⟨z,n2⟩,hz,O,O⟩
theorem Nr:∀(ds:List CM) (N:Nat) (t:Tm),(HD ds)→(DJ ds Bq N 20000 t≠ .stuck)→FF Tryz.prog 12 [.p (.lst (List.map Bo ds)),.agg ((BU t).map .p)] (.tup [.agg ((BU (G8 Be (DJ ds Bq N 20000 t))).map .p),.p (I (Iz (DJ ds Bq N 20000 t)))]):=by
 intro ds N t h1 h2;refine A9 Tryz.func12 O oC (n:=16) O O (A3 (BP O (BY O) fun b3=>BP O (BE B8 O) fun b4=>Ax A8 1 [] O (A3 (BP O (BE B8 O) fun b6=>Bk O (Az ?_)))));obtain⟨e,he⟩ | ⟨⟨z,n2⟩,ha⟩:=FY ((DJ ds Bq N 20000 t).ex)
 ·refine A7 (A2 A8 2 [] O (UK [2,0] O O O (.inl ⟨O,O,O⟩) (RK _ _ he (fun r=>r.2) (fun r=>[.box b3 ((BU t).map .p),.box b6 ((BU r.1).map .p)]) 38 [.ptr b3 0,.ptr b6 0] [.box b3 ((BU t).map .p),.box b6 [.p (I 0),.p (I 0),.p (.str ⟨#[]⟩),.p (.nils),.p (.nils)]] ds (fun m=>aD ds N m b3 b6 t 20000 h1 LS h2)) ⟨_,_,O,O,⟨_,_,O,O,O⟩⟩ Aq (DS _) (Ax A8 1 [] O (Az (Ay A8 2 [] O ?_)))));refine A0 O (fun c=>?_) (fun c=>by cases c);refine Ay A8 4 [0,0] O (BZ (Bl (i:=0) O) (A4 (⟨O,_,_,⟨_,_,O,(BN (i:=0) Ba O O O),⟨_,_,O,O,O⟩⟩,(List.nil_sublist _),?_⟩)))
  all_goals exact⟨by show (.tup [.agg [.p (I 0),.p (I 0),.p (.str ⟨#[]⟩),.p (.lst []),.p (.lst [])],.p (I 11)]:AV)=_;rw[je he,jc he];rfl,rfl⟩
 refine A7 (A2 A8 2 [] O (Av O (Co [2,0] O (.inl ⟨O,O,O⟩) (UC _ _ ha (fun r=>r.2) (fun r=>[.box b3 ((BU t).map .p),.box b6 ((BU r.1).map .p)]) 38 [.ptr b3 0,.ptr b6 0] [.box b3 ((BU t).map .p),.box b6 [.p (I 0),.p (I 0),.p (.str ⟨#[]⟩),.p (.nils),.p (.nils)]] ds (fun m=>aD ds N m b3 b6 t 20000 h1 LS h2)) ⟨_,_,O,O,⟨_,_,O,O,O⟩⟩ Aq O (.inl O)) (Ax A8 1 [] O (Az (Ay A8 2 [] O ?_)))));refine A0 O (fun c=>by cases c) (fun c=>?_);refine A5 (Ay A8 3 [0,1,1] O (A4 (⟨O,_,_,⟨_,_,O,(BN (i:=1) Ba O O Ak),⟨_,_,O,O,O⟩⟩,(List.nil_sublist _),?_⟩)))
 all_goals exact⟨by show (.tup [.agg ((BU z).map .p),.p (I 0)]:AV)=_;rw[jo ha,ij ha],rfl⟩
end Go.Proofs.YtboammbpdaoojaaGreat
namespace Go.Eu
open Go.Abs
def E4 (p:Int×List Int):List PV:=[I p.1,.lst (p.2.map GC)]
theorem ea (p:Int×List Int):EB 2 (E4 p):=⟨rfl,by simp[E4]⟩
theorem R6 (l:List (Int×List Int)):∀r∈l.map E4,EB 2 r:=Gi ea l
theorem Vh {t x z:Tm}{ps:List Int}{p:Int}(h:I5 t ps x=some z) (hp:ps[0]?=some p):p.toNat<(BD t).2.length:=by
 cases ps with
 | nil=>simp at hp
 | cons q qs =>
  simp at hp;subst hp;rw[I5] at h;rcases Nat.lt_or_ge q.toNat (BD t).2.length with hl | hl
  ·exact hl
  rw[List.getElem?_eq_none hl] at h;cases h
theorem ZT {t x z y:Tm}{ps:List Int}{p:Int}(h:I5 t ps x=some z) (hp:ps[0]?=some p) (hy:(BD t).2[p.toNat]?=some y):∃w,I5 y (ps.drop 1) x=some w∧apply (BD t).1 ((BD t).2.set p.toNat w)=z:=by
 cases ps with
 | nil=>simp at hp
 | cons q qs =>
  simp at hp;subst hp;rw[I5,hy] at h;simp only[Option.map_eq_some_iff] at h;obtain⟨w,h1,h2⟩:=h;exact⟨w,h1,h2⟩
theorem aU {t x z:Tm}{ps:List Int}(h:I5 t ps x=some z) (hp:ps.length=0):x=z:=by
 cases ps with
 | nil=>rw[I5] at h;cases h;rfl
 | cons q qs=>simp at hp
theorem Yg {t x z:Tm}{ps:List Int}(h:I5 t ps x=some z) (hp:ps.length≠0):0<(BD t).2.length:=by
 cases ps with
 | nil=>simp at hp
 | cons q qs=>have:=Vh (p:=q) h rfl;omega
end Go.Eu
namespace Go.Proofs.YtboammbpdaoojaaGreat
open Go.Abs Go.Eu
theorem dZ:∀(l:List Int),(l.length<549755813888)→Bu Tryz.prog 143 [.p (.lst (List.map GC l))] [] (Ya (fun v=>v) 1 (List.map GC l)):=by
 intro l h1;refine A9 Tryz.func143 O lO (n:=8) O O (Ay A8 1 [] O (Az (A3 (B0 O (DO O O (MB HE O O) ?_)))));rintro _ ⟨q,rfl,hq⟩;refine Bk O (A0 O (fun c=>?_) (fun c=>?_))
 ·(try simp only[sd,se] at c);refine Ay A8 1 [] O (BZ (F3 (t:=2) (sz:=1) O) (A4 (⟨O,_,_,⟨_,_,O,O,O⟩,(CO (is:=[0]) O),?_⟩)));rw[show l=[] by simpa using hq c]
  all_goals exact⟨_,_,rfl,rfl⟩
 (try simp only[sd,se] at c);refine A5 (A3 (P1 O O (Kc HE) fun b5 cp=>B0 O (Il O O (C4 (i:=0) (rows':=List.map GC l) HE HE fj O O O O O O (OZ _) (by simp only[List.length_map,List.length_nil];omega) (JS (f:=GC) [] l)) fun o cp1=>Ax A8 1 [] O (A4 (⟨O,_,_,⟨_,_,O,O,O⟩,(CO (is:=[0]) O),?_⟩)))))
 all_goals exact⟨_,_,rfl,rfl⟩
theorem _root_.Go.AS {α:Prop}(h:α:=by simp only[Dv,List.length_set];omega):α:=h
theorem eQ:∀(n:Nat) (ps:List Int) (t x z:Tm),(ps.length≤n)→(okB t=true)→(∀p∈ps,0≤p)→(ps.length<1000000)→(I5 t ps x=some z)→FF Tryz.prog 142 [.agg ((BU t).map .p),.p (.lst (List.map GC ps)),.agg ((BU x).map .p)] (.agg ((BU z).map .p)):=by
 intro n
 induction n using Nat.strongRecOn with
 | ind n ih =>
  intro ps t x z h0 h1 h3 h4 h5;have hsp:=Xy h1;have hsl:=hsp.len;have hss:=hsp.sz;refine A9 Tryz.func142 O nG (n:=39) O O (A3 (BP O (BY O) fun b3=>BP O (BY O) fun b5=>BP O (BE B8 O) fun b6=>Bk O (Az (A3 (B0 O (Av O (BS HE O (List.length_map _)) (Ax A8 1 [] O (A0 O (fun c=>?_) (fun c=>?_)))))))))
  ·(try simp only[sd,se] at c);refine Ay A8 2 [1,0,1] O (A4 (⟨O,_,_,⟨_,_,O,(BN (i:=0) Ba O O Ak),O⟩,(List.nil_sublist _),?_⟩))
   all_goals exact⟨by show (.agg ((BU x).map .p):AV)=_;rw[aU h5 Ar],rfl⟩
  (try simp only[sd,se] at c);refine A5 (A3 (Av O (BI (i:=2) Ba O O Ak) (Av O (BM O O (LL t hsp.nd Ab) O) (A2 A8 3 [] O (BP O (BE B8 O) fun b7=>Ax A8 2 [0,1] O (A3 (B0 O (MU O O O (.inl ⟨O,O,O⟩) (Jp ((BD t).2) hsp.len) (.inl O) fun o cp=>Ax A8 1 [] O (Az (Kn (i:=0) O (by have hxl:=Yg h5 Ar;rw[Bc];omega) fun b hb=>?_))))))))));subst hb;refine CG (fun k=>false) Eg (A1 O (fun _=>BC O) Au (A1 O (fun _=>BC O) Au ?_));obtain⟨x1,hx1⟩:=BB (l:=ps) (i:=0) Ar;have hx0:=h3 _ (List.mem_of_getElem? hx1);have hxl:=Vh h5 hx1;refine A1 O (fun _=>BA HE O O Ar (K1 hx1) (O)) Au (A1 O (fun _=>Dt C7 O) Au (A1 O (fun _=>BC O) Au (A1 O (fun _=>BC O) Au (A1 O (fun _=>BA HE O O Ar (K1 hx1) (O)) Au (A1 O (fun _=>Dt C7 O) Au (A1 O (fun _=>Cx Br O O Ar AZ) Au ?_))))));obtain⟨y,hy⟩:=BB (l:=((BD t).2)) (i:=(x1:Int).toNat) (by first | omega | assumption);refine BT (j:=0) O O O (fun H i hi=>Ek (i:=i) Ba O hi (Bj hy)) AB Au (A1 O (fun _=>BC O) Au (A1 O (fun _=>Cz (lo:=1) HE O (CQ (OZ _)) ⟨_,O⟩ O AQ (Nat.le_refl _) (iq (f:=GC) ps 1)) Au (BT (j:=3) O O O (fun H i hi=>BI (i:=i) Ba O hi Ak) AB Au ?_)));obtain⟨z1,e1,e2⟩:=ZT h5 hx1 hy;refine A1 rfl (fun _=>BM rfl rfl (ih (n - 1) Ar (ps.drop 1) y x z1 (by simp only[List.length_drop];omega) (hsp.args _ (List.mem_of_getElem? hy)) (fun p hp=>h3 p (List.mem_of_mem_drop hp)) (by simp only[List.length_drop];omega) e1) rfl) trivial (A1 O (fun _=>Cx Br O O Ar AZ) Au (Cd O O (EE (i:=0) (j:=((x1:Int).toNat)) Ba O O O AZ O (JY _) (BJ _) (DR _) (Ru ((BD t).2) ((x1:Int).toNat) z1)) AB Au (B6 O An (A3 (A2 A8 2 [1] O (CN (C5 (t:=20) (x:= .vs (some b) (BK ((((BD t).2)).set ((x1:Int).toNat) z1)).length cp) (DF ((BD t).2) (l':=(((BD t).2)).set ((x1:Int).toNat) z1) As)) ?_))))))
  refine CN (C5 (t:=9) (x:= .vs (some b) (BK ((((BD t).2)).set ((x1:Int).toNat) z1)).length cp) (DF ((BD t).2) (l':=(((BD t).2)).set ((x1:Int).toNat) z1) As)) (CN (C5 (t:=21) (x:= .vs (some b) (BK ((((BD t).2)).set ((x1:Int).toNat) z1)).length cp) (DF ((BD t).2) (l':=(((BD t).2)).set ((x1:Int).toNat) z1) As)) (CN (C5 (t:=25) (x:= .vs (some b) (BK ((((BD t).2)).set ((x1:Int).toNat) z1)).length cp) (DF ((BD t).2) (l':=(((BD t).2)).set ((x1:Int).toNat) z1) As)) (CN (C5 (t:=37) (x:= .vs (some b) (BK ((((BD t).2)).set ((x1:Int).toNat) z1)).length cp) (DF ((BD t).2) (l':=(((BD t).2)).set ((x1:Int).toNat) z1) As)) (CN (DE (i:=0) [20,9,21,25,37] O (FQ ⟨O,O,O,O,O,Au⟩)) ?_))));refine Av O (BM O O (ED ((BD t).1) ((((BD t).2)).set ((x1:Int).toNat) z1) AS) O) (Ax A8 1 [1,1] O (A4 (⟨O,_,_,⟨_,_,O,(BN (i:=1) Ba O O Ak),O⟩,(List.nil_sublist _),?_⟩)))
  all_goals exact⟨by show (.agg ((BU (apply ((BD t).1) ((((BD t).2)).set ((x1:Int).toNat) z1))).map .p):AV)=_;rw[e2],rfl⟩
end Go.Proofs.YtboammbpdaoojaaGreat
namespace Go.Eu
open Go.Abs
def UH (n:Nat):List (Int×List Int):=(List.range n).map fun i:Nat=>((i:Int),[])
theorem U2 (n:Nat):UH (n+1)=UH n++[((n:Int),[])]:=by simp[UH,List.range_succ]
theorem PT (n:Nat):(UH n).length=n:=by simp[UH]
theorem M4 (a:Int×List Int) (fx:Int):EY a fx 0=[]:=rfl
theorem M1 (a:Int×List Int) (fx:Int) (n:Nat):EY a fx (n+1)=EY a fx n++[(a.1,a.2++[fx+(n:Int)])]:=by simp[EY,List.range_succ]
theorem Q0 {α:Type}{l:List α}{i:Nat}{x:α}(h:l[i]?=some x):l.take (i+1)=l.take i++[x]:=by rw[List.take_add_one,h];rfl
theorem Vb {α:Type}{l:List α}{i:Nat}(h:l.length≤i):l.take i=l:=List.take_of_length_le h
theorem MR {w:FE}(h:FJ w):okB w.body=true:=by
 obtain⟨k,b,v,l⟩:=w;simp only[FJ] at h;exact h.1
structure eZ (a us:List Tm) (pl:List (Int×List Int)) (w:FE):Prop where
 ok:bD a us pl
 nn:∀p∈pl,0≤p.1∧(∀q∈p.2,0≤q)∧p.2.length+Dn w≤1000
theorem eZ.len {a us:List Tm}{pl:List (Int×List Int)}{w:FE}(h:eZ a us pl w):pl.length=us.length:=h.ok.len
theorem bK (a:List Tm) (n:Nat) (w:FE) (hn:n≤a.length) (hd:Dn w≤1000):eZ a (a.take n) (UH n) w:=by
 refine⟨Yl a n hn,fun p hp=>?_⟩;obtain⟨i,_,rfl⟩:=List.mem_map.1 hp;exact⟨by simp,by simp,by simp;omega⟩
theorem eZ.next {E:List CM}{a us f:List Tm}{pl:List (Int×List Int)}{w q:FE}(h:eZ a us pl w) (hE:L3 E) {i:Nat}{v:Tm}{p:Int×List Int}{d:CM}{j:Int}{nm:ByteArray}(hv:us[i]?=some v) (hp:pl[i]?=some p) (hc:DL E v=some (d,j,f)) (hb:C3 nm w.branches=some q) (ho:FJ w):eZ a (us++f) (pl++EY p d.fixed f.length) q:=by
 have hcf:=Gd hc;obtain⟨b1,b2⟩:=Vx hb ho;have hfx:=(hE.all d hcf.mem).fx.1;have hmore:=h.ok.more hv hp hfx;rw[←hcf.fs] at hmore;obtain⟨n1,n2,n3⟩:=h.nn p (List.mem_of_getElem? hp);refine⟨hmore,fun r hr=>?_⟩;rcases List.mem_append.1 hr with hr | hr
 ·obtain⟨m1,m2,m3⟩:=h.nn r hr;exact⟨m1,m2,by omega⟩
 obtain⟨k,_,rfl⟩:=List.mem_map.1 hr;refine⟨n1,fun q hq=>?_,by simp only[List.length_append,List.length_cons,List.length_nil];omega⟩;rcases List.mem_append.1 hq with hq | hq
 ·exact n2 q hq
 have:=List.mem_singleton.1 hq;omega
theorem eZ.at_ {a us:List Tm}{pl:List (Int×List Int)}{w:FE}(h:eZ a us pl w) {i:Nat}{v:Tm}{p:Int×List Int}(hv:us[i]?=some v) (hp:pl[i]?=some p):0≤p.1∧(∀q∈p.2,0≤q)∧p.2.length≤1000∧p.1.toNat<a.length:=by
 obtain⟨n1,n2,n3⟩:=h.nn p (List.mem_of_getElem? hp);obtain⟨j,path,y,h1,h2,h3⟩:=h.ok.at_ i v hv;rw[hp] at h1;cases h1;exact⟨n1,n2,by omega,(List.getElem?_eq_some_iff.1 h2).1⟩
section
variable {E:List CM}{σ:Type}{S:Sys σ}{T:σ→Tm→Out (Option Tm×σ)}{h:Tm}{ar:Int}{a us:List Tm}{n:Nat}{t:FE}{pl:List (Int×List Int)}{s:σ}{x:Tm}{p:Int×List Int}
def bj (h:Tm) (a:List Tm) (p:Int×List Int) (r:Option Tm×σ):Out (Option Tm×σ):=match r.1 with
 | none=> .ok (none,r.2)
 | some x=>match I5 (a.getD p.1.toNat default) p.2 x with
  | none=> .stuck
  | some y=> .ok (some (apply h (a.set p.1.toNat y)),r.2)
theorem aB {X:Out (Option Tm×σ)}(e:JO E S T h ar a n t us pl s=X) (hX:X≠ .stuck):∃k,n=k+1:=by
 cases n with
 | zero=>rw[JO] at e;exact absurd e.symm hX
 | succ k=>exact⟨k,rfl⟩
theorem dW (hk:t.kind≠1):JO E S T h ar a (n+1) t us pl s=Hk S h t.body us (a.drop ar.toNat) s:=by rw[JO,if_neg hk]
theorem fZ (hk:t.kind=1) (hb:t.var<0∨t.var≥(us.length:Int)):JO E S T h ar a (n+1) t us pl s= .ok (none,s):=by rw[JO,if_pos hk,if_pos hb]
theorem aW (hk:t.kind=1) (hb:¬(t.var<0∨t.var≥(us.length:Int))) (hx:us[t.var.toNat]?=some x) (hp:pl[t.var.toNat]?=some p) (hc:DL E x=none):JO E S T h ar a (n+1) t us pl s=(T s x).bind (bj h a p):=by
 rw[JO,if_pos hk,if_neg hb,CZ hx,CZ hp,hc];rfl
theorem jM {d:CM}{j:Int}{f:List Tm}(hk:t.kind=1) (hb:¬(t.var<0∨t.var≥(us.length:Int))) (hx:us[t.var.toNat]?=some x) (hp:pl[t.var.toNat]?=some p) (hc:DL E x=some (d,j,f)) (hbr:C3 (FU d j).name t.branches=none):JO E S T h ar a (n+1) t us pl s= .ok (none,s):=by
 rw[JO,if_pos hk,if_neg hb,CZ hx,CZ hp,hc];simp only[hbr]
theorem ia {d:CM}{j:Int}{f:List Tm}{t':FE}(hk:t.kind=1) (hb:¬(t.var<0∨t.var≥(us.length:Int))) (hx:us[t.var.toNat]?=some x) (hp:pl[t.var.toNat]?=some p) (hc:DL E x=some (d,j,f)) (hbr:C3 (FU d j).name t.branches=some t'):JO E S T h ar a (n+1) t us pl s=JO E S T h ar a n t' (us++f) (pl++EY p d.fixed f.length) s:=by
 rw[JO,if_pos hk,if_neg hb,CZ hx,CZ hp,hc];simp only[hbr]
theorem Yj {r:Option Tm×σ}(hr:r.1.isSome=false):bj h a p r= .ok (none,r.2):=by
 obtain⟨q,s⟩:=r;cases q with
 | none=>rfl
 | some x=>cases hr
theorem Zi {r:Option Tm×σ}{y:Tm}(hs:bj h a p r≠ .stuck) (hr:r.1.isSome=true) (hy:a[p.1.toNat]?=some y):∃z,I5 y p.2 (r.1.getD Be)=some z∧bj h a p r= .ok (some (apply h (a.set p.1.toNat z)),r.2):=by
 obtain⟨q,s⟩:=r;cases q with
 | none=>cases hr
 | some x =>
  unfold bj at hs ⊢;simp only at hs ⊢;rw[CZ hy] at hs ⊢;cases hz:I5 y p.2 x with
  | none=>rw[hz] at hs;exact absurd rfl hs
  | some z=>exact⟨z,hz,rfl⟩
end
end Go.Eu
namespace Go.Proofs.YtboammbpdaoojaaGreat
open Go.Abs Go.Eu
def pW (ds:List CM) (n:Nat):Prop:=∀(m:Nat) (t:Tm) (s:Int),GH s→EN ds Bq n s t≠ .stuck→Bu Tryz.prog 44 [.ptr m 0,.agg ((BU t).map .p)] [.box m [.p (.lst (List.map Bo ds)),.p (I s)]] (KQ (fun(r:Option Tm×Int)=> .tup [TV (r.1.getD Be),.p (.bool r.1.isSome)]) (fun _=> .p (.iface 122 .unit)) (fun r H'=>H'=[.box m [.p (.lst (List.map Bo ds)),.p (I r.2)]]) ((EN ds Bq n s t).ex))
set_option maxHeartbeats 4000000 in
theorem WG:∀(n m:Nat) (ds:List CM) (s:Int) (g:Tm) (a:List Tm) (d:CM) (f:HB),(pW ds n)→(HD ds)→(GH s)→(d∈ds)→(f∈d.funs)→(f.arity≤a.length)→(okB g=true)→(a.length<549755813888)→(∀y∈a,okB y=true)→(JO ds Bq (EN ds Bq n) g f.arity a n f.tree (a.take f.arity.toNat) (UH f.arity.toNat) s≠ .stuck)→Bu Tryz.prog 111 [.ptr m 0,.agg ((BU g).map .p),.agg ((Fe f).map .p),.p (.lst (BK a))] [.box m [.p (.lst (List.map Bo ds)),.p (I s)]] (KQ (fun(r:Option Tm×Int)=> .tup [TV (r.1.getD Be),.p (.bool r.1.isSome)]) (fun _=> .p (.iface 122 .unit)) (fun r H'=>H'=[.box m [.p (.lst (List.map Bo ds)),.p (I r.2)]]) ((JO ds Bq (EN ds Bq n) g f.arity a n f.tree (a.take f.arity.toNat) (UH f.arity.toNat) s).ex)):=by
 intro n m ds s g a d f hT h2 h3 h4 h5 h6 h7 h8 h9 hns;obtain⟨gk,gi,gn,gl,gs⟩:=g;have hgo:=Ch.1 h7;have hgl:=hgo.nd;simp only[Nd,Dv] at hgl;have hfu:=(h2.g.all _ h4).fu _ h5;have hdp:=h2.fu _ h4 _ h5;have hlf:=S5 h2 h4 h5 h9;have htl:(a.take f.arity.toNat).length=f.arity.toNat:=by rw[List.length_take];omega
 have hpw:=bK a f.arity.toNat f.tree Ar Ar;generalize hX:JO ds Bq (EN ds Bq n) (.mk gk gi gn gl gs:Tm) f.arity a n f.tree (a.take f.arity.toNat) (UH f.arity.toNat) s=X at hns ⊢;refine A9 Tryz.func111 O mv (n:=169) O O (A3 (BP O (BY O) fun b5=>BP O (BY O) fun b6=>BP O (BE B8 O) fun b8=>Ax A8 1 [] O (A3 (A2 A8 2 [] O (Av O (A6 (i:=1) C7 O O (Cb _)) (Av O (Cz (lo:=0) (hi:=(f.arity:Int).toNat) Br O (CQ (B9 _)) O ⟨_,pI Ar⟩ (Nat.zero_le _) AQ (Sa a ((f.arity:Int).toNat))) (MU O O O (.inl ⟨O,O,O⟩) (Jp (a.take ((f.arity:Int).toNat)) (by simp only[List.length_take];omega)) (.inl O) fun o cp=>Ax A8 1 [] O (A3 (aG O (CN (F3 (t:=11) (sz:=2) O) (Bk O (Az (A3 (B0 O (Av O (Mo Br O (Bc _)) (Ax A8 1 [] O (BH ?_)))))))))))))))));refine Bn (α:=Nat×Option Nat×Nat) (fun(i,o1,cp1)=>⟨169,mk [(0,.ptr m 0),(3,.p (.lst (BK a))),(5,.ptr b5 0),(6,.ptr b6 0),(8,.ptr b8 0),(10,.vs o (BK (a.take ((f.arity:Int).toNat))).length cp),(11,.vs o1 (List.map E4 (UH i)).length cp1),(32,.p (I ((a.take ((f.arity:Int).toNat)).length:Nat))),(33,.p (I (i:Int)))],[.vec o1 2 (List.map E4 (UH i)) cp1,.vec o 5 (BK (a.take ((f.arity:Int).toNat))) cp,.box b8 [.p (I 0),.p (I 0),.p (.str ⟨#[]⟩),.p (.nils),.p (.nils)],.box b6 ((Fe f).map .p),.box b5 [.p (I gk),.p (I gi),.p (.str gn),.p (.lst (List.map CD gl)),.p (.lst (BK gs))],.box m [.p (.lst (List.map Bo ds)),.p (I s)]],[]⟩) (fun(i,o1,cp1)=>(a.take f.arity.toNat).length - i) (fun(i,o1,cp1)=>i≤(a.take f.arity.toNat).length) ⟨0,none,0⟩ AP ?_ ?_
 ·exact Bh ⟨we O,we O,we O,we O,we O,we O,we O,we O,we O,Au⟩ (leH (is:=[0,1,2,3,4,5]) O (wl (oe O) (wl (oe O) (wl (oe O) (wl (oe O) (wl (oe O) (wl (oe O) (Dd))))))))
 rintro⟨i,o1,cp1⟩ hC
 try simp only at hC
 have hi:=hC;refine Ay A8 1 [] O (Az (A0 O (fun c=>?_) (fun c=>?_)))
 ·(try simp only[sd,se] at c);refine A5 (Az (BH (Ay A8 2 [] O (A7 (A2 A8 3 [] O (Av O (CC Q8 SD O O O O O) (Il O O (C4 (i:=0) (rows':=List.map E4 ([((i:Int),[])])) Q8 Q8 SD O O O O O O (R6 _) (by simp only[List.length_map,PT,List.length_cons,List.length_nil];omega) (JS (f:=E4) (UH i) ([((i:Int),[])]))) fun o2 cp2=>Ax A8 1 [] O (A7 (Ax A8 2 [] O ?_)))))))));refine⟨⟨i+1,o2,cp2⟩,AT,by omega,Bh ⟨we rfl,we rfl,we rfl,we rfl,we rfl,we rfl,we (Gq (f:=E4) (UH i++([((i:Int),[])])) ((U2 i).symm)),we rfl,we rfl,trivial⟩ (leH (is:=[0,1,2,3,4,5]) rfl (wl (F6 (f:=E4) (UH i++([((i:Int),[])])) ((U2 i).symm)) (wl (oe rfl) (wl (oe rfl) (wl (oe rfl) (wl (oe rfl) (wl (oe rfl) (Dd))))))))⟩
 (try simp only[sd,se] at c);refine Bp (A3 (Av O (Aw G2 O O) (Av O (B4 (i:=3) It O O (ET _) (Cq _)) (BP O (BE Ye O) fun b13=>Ax A8 1 [0,1] O (Az (BH ?_))))));refine Bn (α:=Nat×FE×List Tm×List (Int×List Int)×Option Nat×Nat×Option Nat×Nat) (fun(k2,w,us,pl,o2,cp2,o3,cp3)=>⟨169,mk [(0,.ptr m 0),(3,.p (.lst (BK a))),(5,.ptr b5 0),(6,.ptr b6 0),(8,.ptr b8 0),(10,.vs o2 (BK us).length cp2),(11,.vs o3 (List.map E4 pl).length cp3),(13,.ptr b13 0)],[.box b13 ((DA w).map .p),.vec o3 2 (List.map E4 pl) cp3,.vec o2 5 (BK us) cp2,.box b8 [.p (I 0),.p (I 0),.p (.str ⟨#[]⟩),.p (.nils),.p (.nils)],.box b6 ((Fe f).map .p),.box b5 [.p (I gk),.p (I gi),.p (.str gn),.p (.lst (List.map CD gl)),.p (.lst (BK gs))],.box m [.p (.lst (List.map Bo ds)),.p (I s)]],[]⟩) (fun(k2,w,us,pl,o2,cp2,o3,cp3)=>k2) (fun(k2,w,us,pl,o2,cp2,o3,cp3)=>JO ds Bq (EN ds Bq n) (.mk gk gi gn gl gs:Tm) f.arity a k2 w us pl s=X∧Ug w us∧eZ a us pl w) ⟨n,f.tree,a.take f.arity.toNat,UH f.arity.toNat,o,cp,o1,cp1⟩ (⟨hX,hlf,hpw⟩) ?_ ?_
 ·exact Bh ⟨we O,we O,we O,we O,we O,we O,we (Gq (f:=E4) (UH i) (by rw[show i=f.arity.toNat from by omega])),we O,Au⟩ (leH (is:=[0,1,2,3,4,5,6]) O (wl (oe O) (wl (F6 (f:=E4) (UH i) (by rw[show i=f.arity.toNat from by omega])) (wl (oe O) (wl (oe O) (wl (oe O) (wl (oe O) (wl (oe O) (Dd)))))))))
 rintro⟨k2,w,us,pl,o2,cp2,o3,cp3⟩ hC1
 try simp only at hC1
 obtain⟨hC1,hL,hW⟩:=hC1;obtain⟨k1,rfl⟩:=aB hC1 hns;refine Az (A3 (Av O (Aw Fs O O) (Av O (A6 (i:=0) C7 O O (Gs _)) (Ax A8 1 [] O (A0 O (fun c1=>?_) (fun c1=>?_))))))
 ·(try simp only[sd,se] at c1);have hk1:=c1;refine A5 (BH (Az (Az (Bb [0,3,5,6,8,10,11,13] 56 (fun y=>y= .p (.bool ((decide ((w.var:Int)<(0:Int)))||(decide ((w.var:Int)≥((us.length:Nat):Int)))))) ?_ ?_))))
  ·refine A7 (Av O (Aw Fs O O) (Av O (A6 (i:=0) C7 O O (Dk _)) (A2 A8 2 [] O (BQ 50 O (fun g1=>?_) (fun g1=>?_)))))
   ·(try simp only[sd,se] at g1);exact Ax A8 6 [] O (⟨O,O,AK,AI,⟨O,O,O,O,O,O,O,O,Au⟩⟩)
   (try simp only[sd,se] at g1);exact BF O (Aw Fs O O) (BF O (A6 (i:=0) C7 O O (Dk _)) (BF O (BC O) (BF O (Mo Br O (Bc _)) (Ax A8 2 [] O (⟨O,O,AK,AI,⟨O,O,O,O,O,O,O,O,Au⟩⟩)))))
  rintro _ rfl;refine A0 O (fun c2=>?_) (fun c2=>?_)
  ·(try simp only[sd,se] at c2);rw[fZ hk1 (by simpa using c2)] at hC1;refine Ay A8 3 [3,0] O (BZ (Bl (i:=3) O) (A4 (⟨O,_,_,⟨_,_,O,(BN (i:=3) Ba O O O),⟨_,_,O,O,O⟩⟩,(CO (is:=[6]) O),?_⟩)));exact⟨⟨_,_⟩,DC hC1.symm,O,O⟩
  (try simp only[sd,se] at c2);have hcb:¬(w.var<0∨w.var≥(us.length:Int)):=by simpa using c2
  have hWl:=hW.len;have hLl:=hL.len;refine A5 (A3 (A2 A8 2 [] O (Av O (A6 (i:=0) C7 O O (Dk _)) (NG (i:=1) O Aa fun b hb=>?_))));subst hb;refine Av O (Cx Q8 O O Ar AH) ?_;obtain⟨y,hy⟩:=BB (l:=pl) (i:=(w.var:Int).toNat) AO;refine Av O (Ek (i:=1) lr O O (Pn hy)) (BP O (BE SD O) fun b14=>Ax A8 1 [0,1] O (A3 (A2 A8 3 [] O (Av O (A6 (i:=1) C7 O O (Dk _)) (NG (i:=3) O Aa fun b1 hb1=>?_)))));subst hb1;refine Av O (Cx Br O O Ar AH) ?_;obtain⟨y1,hy1⟩:=BB (l:=us) (i:=(w.var:Int).toNat) AO;refine Av O (Ek (i:=3) Ba O O (Bj hy1)) (Av O (Co [7] O (.inl ⟨O,O,O⟩) (PR m ds s y1 h2.g (hL.ok _ (List.mem_of_getElem? hy1))) ⟨_,_,O,O,O⟩ Aq O (.inl O)) (A2 A8 5 [] O (BP O (BE MY O) fun b15=>Ax A8 4 [0,1] O (Az (Ay A8 2 [] O (A0 O (fun c3=>?_) (fun c3=>?_)))))))
  ·(try simp only[sd,se] at c3);have hcn:=Pd c3;obtain⟨ha1,ha2,ha3,ha4⟩:=hW.at_ hy1 hy;obtain⟨ya,hya⟩:=BB ha4;refine A3 (A2 A8 3 [] O (Av O (A6 (i:=2) C7 O O (Dk _)) (Av O (Cx Br O O Ar AH) ?_)));obtain⟨y2,hy2⟩:=BB (l:=us) (i:=(w.var:Int).toNat) AO;refine Av O (Ek (i:=4) Ba O O (Bj hy2)) ?_;have hyy:y2=y1:=Option.some.inj (hy2.symm.trans hy1);rw[aW hk1 hcb hy2 hy (by rw[hyy];exact hcn)] at hC1;have hn0:=hns;rw[←hC1] at hn0;have hn1:=JI hn0;refine Dg [8] O O O (.inl ⟨O,O,O⟩) (hT m y2 s h3 hn1) ⟨_,_,O,O,O⟩ Aq (aw (we O) (aw (we O) (FB))) (fun _ _ h=>(congrArg List.length h).trans O) ?_ ?_
   rotate_left
   ·intro e _ he;exact⟨O,_,List.nil_sublist _,⟨_,by rw[←hC1];exact J8 hn0 he,rfl⟩⟩
   rintro⟨q,n2⟩ _ hz rfl;rw[Lv hz] at hC1;refine A2 A8 3 [] O (BP O (BE B8 O) fun b19=>Ax A8 2 [0,1] O (Az (Ay A8 2 [] O (A0 O (fun c4=>?_) (fun c4=>?_)))))
   ·(try simp only[sd,se] at c4);rw[Yj c4] at hC1;refine Ay A8 3 [6,0] O (BZ (Bl (i:=6) O) (A4 (⟨O,_,_,⟨_,_,O,(BN (i:=6) Ba O O O),⟨_,_,O,O,O⟩⟩,(CO (is:=[9]) O),?_⟩)));exact⟨⟨_,_⟩,DC hC1.symm,O,O⟩
   (try simp only[sd,se] at c4);obtain⟨z1,hz1,hz2⟩:=Zi (by rw[hC1];exact hns) c4 hya;rw[hz2] at hC1;refine A5 (A3 (B0 O (MU O O O (.inl ⟨O,O,O⟩) (Jp a h8) (.inl O) fun o4 cp4=>Ax A8 1 [] O (Az (Kn (i:=0) O Aa fun b2 hb2=>?_)))));subst hb2;refine CG (fun k=>false) Eg (A1 O (fun _=>BC O) Au (A1 O (fun _=>Aw SQ O O) Au (BT (j:=3) O O O (fun H i hi=>BG (i:=i) C7 O hi O) AB Au (A1 O (fun _=>BC O) Au (A1 O (fun _=>Aw SQ O O) Au (BT (j:=3) O O O (fun H i hi=>BG (i:=i) C7 O hi O) AB Au (A1 O (fun _=>Cx Br O O Ar AH) Au ?_)))))));obtain⟨y3,hy3⟩:=BB (l:=a) (i:=(y.1:Int).toNat) AO;refine BT (j:=0) O O O (fun H i hi=>Ek (i:=i) Ba O hi (Bj hy3)) AB Au (A1 O (fun _=>Aw SQ O O) Au (BT (j:=3) O O O (fun H i hi=>BG (i:=i) Xs O hi O) AB Au (BT (j:=1) O O O (fun H i hi=>BI (i:=i) Ba O hi Ak) AB Au ?_)));have hyy:=Option.some.inj (hy3.symm.trans hya);refine A1 O (fun _=>BM O O (eQ y.2.length y.2 y3 (q.getD Be) z1 (Nat.le_refl _) (h9 _ (List.mem_of_getElem? hy3)) ha2 Ar (by rw[hyy];exact hz1)) O) Au (A1 O (fun _=>Cx Br O O Ar AH) Au (Cd O O (EE (i:=0) (j:=((y.1:Int).toNat)) Ba O O O AM O (JY _) (BJ _) (DR _) (Ru a ((y.1:Int).toNat) z1)) AB Au (B6 O An (A3 (A2 A8 2 [9] O (CN (C5 (t:=91) (x:= .vs (some b2) (BK ((a).set ((y.1:Int).toNat) z1)).length cp4) (DF a (l':=(a).set ((y.1:Int).toNat) z1) As)) (CN (C5 (t:=21) (x:= .vs (some b2) (BK ((a).set ((y.1:Int).toNat) z1)).length cp4) (DF a (l':=(a).set ((y.1:Int).toNat) z1) As)) ?_)))))));refine CN (C5 (t:=92) (x:= .vs (some b2) (BK ((a).set ((y.1:Int).toNat) z1)).length cp4) (DF a (l':=(a).set ((y.1:Int).toNat) z1) As)) (CN (C5 (t:=95) (x:= .vs (some b2) (BK ((a).set ((y.1:Int).toNat) z1)).length cp4) (DF a (l':=(a).set ((y.1:Int).toNat) z1) As)) (CN (C5 (t:=106) (x:= .vs (some b2) (BK ((a).set ((y.1:Int).toNat) z1)).length cp4) (DF a (l':=(a).set ((y.1:Int).toNat) z1) As)) (CN (DE (i:=0) [91,21,92,95,106] O (FQ ⟨O,O,O,O,O,Au⟩)) (Av O (BM O O (ED (.mk gk gi gn gl gs:Tm) ((a).set ((y.1:Int).toNat) z1) AS) O) (Ax A8 2 [6,1] O (A4 (⟨O,_,_,⟨_,_,O,(BN (i:=6) Ba O O Ak),⟨_,_,O,O,O⟩⟩,(CO (is:=[9]) O),?_⟩)))))));exact⟨⟨_,_⟩,DC hC1.symm,O,O⟩
  (try simp only[sd,se] at c3);obtain⟨ha1,ha2,ha3,ha4⟩:=hW.at_ hy1 hy;have hcs:=M3 c3;have hcf:=Gd hcs;have hlo:=hcf.lo;have hhi:=hcf.hi;have hfl:=Kq h2.g hcs;have hdf:=(h2.g.all _ hcf.mem).fx;refine A5 (Az (Az (CG (fun k=>false) Eg (BT (j:=2) O O O (fun H i hi=>BI (i:=i) It O hi Ad) AB Au (A1 O (fun _=>Aw Cm O O) Au (BT (j:=0) O O O (fun H i hi=>A6 (i:=i) IM O hi (CJ _)) AB Au (A1 O (fun _=>BC O) Au ?_)))))));obtain⟨x,hx⟩:=BB (l:=((CV ds y1).1).ctors) (i:=((CV ds y1).2.1:Int).toNat) Ar;refine A1 O (fun _=>BA Hu O O Ar (Eh hx) (EI _)) Au (A1 O (fun _=>B3 I8 O O) Au (A1 O (fun _=>DW Lz O (Fy _)) Au (A1 O (fun _=>BM O O (SH w x.name hL.tin.bl) O) Au (A1 O (fun _=>BC O) Au (A1 O (fun _=>CB O O) Au (A1 O (fun _=>CB O O) Au (Cd O O (Bd (i:=2) It O O O Ad (by first | rfl | simp[Cq]) (UI _)) AB Au (A1 O (fun _=>Bf O) Au (B6 O An (Ay A8 2 [] O (A0 O (fun c4=>?_) (fun c4=>?_))))))))))))
  ·(try simp only[sd,se] at c4);rw[jM hk1 hcb hy1 hy hcs (by rw[FU,CZ hx];exact Up c4)] at hC1;refine Ay A8 3 [5,0] O (BZ (Bl (i:=5) O) (A4 (⟨O,_,_,⟨_,_,O,(BN (i:=5) Ba O O O),⟨_,_,O,O,O⟩⟩,(CO (is:=[8]) O),?_⟩)));exact⟨⟨_,_⟩,DC hC1.symm,O,O⟩
  (try simp only[sd,se] at c4);have hbs:=U6 c4;rw[ia hk1 hcb hy1 hy hcs (by rw[FU,CZ hx];exact hbs)] at hC1;refine A5 (A3 (B0 O (Av O (BS Br O (Bc _)) (Ax A8 1 [] O (BH ?_)))));refine Bn (α:=Nat×Option Nat×Nat×Option Nat×Nat) (fun(i,o4,cp4,o5,cp5)=>⟨169,mk [(0,.ptr m 0),(3,.p (.lst (BK a))),(5,.ptr b5 0),(6,.ptr b6 0),(8,.ptr b8 0),(10,.vs o4 (BK (us++(CV ds y1).2.2.1.take i)).length cp4),(11,.vs o5 (List.map E4 (pl++EY y (CV ds y1).1.fixed i)).length cp5),(13,.ptr b13 0),(14,.ptr b14 0),(15,.ptr b15 0),(122,.p (.lst (BK ((CV ds y1).2.2.1)))),(123,.p (I (((CV ds y1).2.2.1).length:Nat))),(124,.p (I (i:Int)))],[.box b15 ((Bo ((CV ds y1).1)).map .p),.box b14 ((E4 y).map .p),.box b13 ((DA ((Zu x.name w.branches).1)).map .p),.vec o5 2 (List.map E4 (pl++EY y (CV ds y1).1.fixed i)) cp5,.vec o4 5 (BK (us++(CV ds y1).2.2.1.take i)) cp4,.box b8 [.p (I 0),.p (I 0),.p (.str ⟨#[]⟩),.p (.nils),.p (.nils)],.box b6 ((Fe f).map .p),.box b5 [.p (I gk),.p (I gi),.p (.str gn),.p (.lst (List.map CD gl)),.p (.lst (BK gs))],.box m [.p (.lst (List.map Bo ds)),.p (I s)]],[]⟩) (fun(i,o4,cp4,o5,cp5)=>(CV ds y1).2.2.1.length - i) (fun(i,o4,cp4,o5,cp5)=>i≤(CV ds y1).2.2.1.length) ⟨0,(some b1),cp2,(some b),cp3⟩ AP ?_ ?_
  ·exact Bh ⟨we O,we O,we O,we O,we O,we (T4 us As),we (Gq (f:=E4) pl (by simp[M4])),we O,we O,we O,we O,we O,we O,Au⟩ (leH (is:=[0,1,2,3,4,5,6,7,8]) O (wl (oe O) (wl (oe O) (wl (oe O) (wl (F6 (f:=E4) pl (by simp[M4])) (wl (Oh us As) (wl (oe O) (wl (oe O) (wl (oe O) (wl (oe O) (Dd)))))))))))
  rintro⟨i,o4,cp4,o5,cp5⟩ hC2
  try simp only at hC2
  have hi:=hC2;refine Ay A8 1 [] O (Az (A0 O (fun c5=>?_) (fun c5=>?_)))
  ·(try simp only[sd,se] at c5);refine A5 (Az (BH (A3 (B0 O ?_))));obtain⟨x1,hx1⟩:=BB (l:=(CV ds y1).2.2.1) (i:=i) Ar;refine Av O (BA Br O O Ar (Bj hx1) (BJ _)) (Av O (BO Ba O (BJ _)) (BP O (BE B8 O) fun b23=>Ax A8 2 [0,1] O (A3 (A2 A8 2 [0] O ?_))));obtain⟨x1k,x1i,x1n,x1l,x1s⟩:=x1;refine Av O (CC Br B8 O O O O O) (Il O O (C4 (i:=5) (rows':=BK [(.mk x1k x1i x1n x1l x1s:Tm)]) Br Br B8 O O O O O O (B9 _) (by have:=hL.len;have:=hW.len;simp only[Bc,PT,KF,List.length_take,List.length_map,List.length_cons,List.length_nil,List.length_append];omega) (O7 (us++(CV ds y1).2.2.1.take i) [(.mk x1k x1i x1n x1l x1s:Tm)])) fun o6 cp6=>Ax A8 1 [] O (CG (fun k=>Nat.beq k 5||Nat.beq k 14) Eg (A1 O (fun _=>BC O) Au (A1 O (fun _=>Aw SQ O O) Au (BT (j:=2) O O O (fun H i hi=>BG (i:=i) C7 O hi O) AB Au (A1 O (fun _=>Aw SQ O O) Au (BT (j:=2) O O O (fun H i hi=>BG (i:=i) Xs O hi O) AB Au ?_)))))));refine jJ [(6,.free (.ptr b15 13)),(7,.read [.box b15 ((Bo ((CV ds y1).1)).map .p)] (.p (I (((CV ds y1).1).fixed)))),(8,.free (.p (I (i:Int)))),(9,.free (.p (I ((((CV ds y1).1).fixed:Int)+((i:Int):Int))))),(10,.free (.p (.lst (List.map GC [((((CV ds y1).1).fixed:Int)+((i:Int):Int))]))))] O O O (.inl ⟨O,O,O⟩) (dZ y.2 Ar) (.inl O) An fun o7 cp7=>⟨AB,Au,?_⟩;refine A1 O (fun _=>Aw Cm O O) AN (BT (j:=2) O O O (fun H i hi=>A6 (i:=i) C7 O hi (DY _)) AB AN (A1 O (fun _=>BC O) AN (A1 O (fun _=>Ga O O Ar Ar) AN (A1 O (fun _=>CC HE fj O O O O O) AN (Cd O O (Uy (i:=0) (rows':=List.map GC [((((CV ds y1).1).fixed:Int)+((i:Int):Int))]) HE HE fj O O O O O O (OZ _) (by have:=hL.len;have:=hW.len;simp only[Bc,PT,KF,List.length_take,List.length_map,List.length_cons,List.length_nil,List.length_append];omega) (JS (f:=GC) y.2 [((((CV ds y1).1).fixed:Int)+((i:Int):Int))])) AB AN (A1 O (fun _=>CE SQ SD O) AN (A1 O (fun _=>CC Q8 SD O O O O O) AN ?_)))))))
   refine OI [] O O (C4 (i:=4) (rows':=List.map E4 ([(y.1,(y.2++[((((CV ds y1).1).fixed:Int)+((i:Int):Int))]))])) Q8 Q8 SD O O O O O O (R6 _) (by have:=hL.len;have:=hW.len;simp only[Bc,PT,KF,List.length_take,List.length_map,List.length_cons,List.length_nil,List.length_append];omega) (JS (f:=E4) (pl++EY y (CV ds y1).1.fixed i) ([(y.1,(y.2++[((((CV ds y1).1).fixed:Int)+((i:Int):Int))]))]))) An fun o8 cp8=>⟨AB,AN,?_⟩;refine A1 O (fun _=>Bf O) AN (B6 O An (A7 (Ax A8 2 [] O ?_)));refine⟨⟨i+1,o6,cp6,o8,cp8⟩,AT,by omega,Bh ⟨we rfl,we rfl,we rfl,we rfl,we rfl,we (T4 (us++(CV ds y1).2.2.1.take i++[(.mk x1k x1i x1n x1l x1s:Tm)]) (by rw[Q0 hx1,List.append_assoc])),we (Gq (f:=E4) (pl++EY y (CV ds y1).1.fixed i++([(y.1,(y.2++[((((CV ds y1).1).fixed:Int)+((i:Int):Int))]))])) (by rw[M1,List.append_assoc])),we rfl,we rfl,we rfl,we rfl,we rfl,we rfl,trivial⟩ (leH (is:=[1,2,3,4,5,6,7,8,9]) rfl (wl (oe rfl) (wl (oe rfl) (wl (oe rfl) (wl (F6 (f:=E4) (pl++EY y (CV ds y1).1.fixed i++([(y.1,(y.2++[((((CV ds y1).1).fixed:Int)+((i:Int):Int))]))])) (by rw[M1,List.append_assoc])) (wl (Oh (us++(CV ds y1).2.2.1.take i++[(.mk x1k x1i x1n x1l x1s:Tm)]) (by rw[Q0 hx1,List.append_assoc])) (wl (oe rfl) (wl (oe rfl) (wl (oe rfl) (wl (oe rfl) (Dd)))))))))))⟩
  (try simp only[sd,se] at c5);refine Bp ?_;refine⟨⟨k1,(Zu x.name w.branches).1,us++(CV ds y1).2.2.1,pl++EY y (CV ds y1).1.fixed (CV ds y1).2.2.1.length,o4,cp4,o5,cp5⟩,AT,⟨hC1,hL.next h2.g (hL.ok _ (List.mem_of_getElem? hy1)) hcs hbs,hW.next h2.g hy1 hy hcs hbs hL.tok⟩,Bh ⟨we O,we O,we O,we O,we O,we (T4 (us++(CV ds y1).2.2.1.take i) (by rw[Vb Ar])),we (Gq (f:=E4) (pl++EY y (CV ds y1).1.fixed i) (by rw[show i=(CV ds y1).2.2.1.length from by omega])),we O,Au⟩ (leH (is:=[2,3,4,5,6,7,8]) O (wl (oe O) (wl (F6 (f:=E4) (pl++EY y (CV ds y1).1.fixed i) (by rw[show i=(CV ds y1).2.2.1.length from by omega])) (wl (Oh (us++(CV ds y1).2.2.1.take i) (by rw[Vb Ar])) (wl (oe O) (wl (oe O) (wl (oe O) (wl (oe O) (Dd)))))))))⟩
 (try simp only[sd,se] at c1);have hk1:=c1;have hLl:=hL.len;rw[dW hk1] at hC1;refine Bp (A3 (Av O (Aw Fs O O) (Av O (B4 (i:=0) Ba O O (FT _) (BJ _)) (A2 A8 2 [5] O (Av O (BM O O (Lr w.body gl (Ch.1 (MR hL.tok)).nd (Ch.1 (MR hL.tok)).vp (by have:=G3 (MR hL.tok);omega) hgl.2.1 hgl.2.2.1) O) (A2 A8 3 [] O (BP O (BE B8 O) fun b24=>Ax A8 2 [0,1] O (Az (Ay A8 2 [] O (A0 O (fun c2=>?_) (fun c2=>?_)))))))))))
 ·(try simp only[sd,se] at c2);rw[Pu (h:=(.mk gk gi gn gl gs:Tm)) c2] at hC1;refine Ay A8 3 [4,0] O (BZ (Bl (i:=4) O) (A4 (⟨O,_,_,⟨_,_,O,(BN (i:=4) Ba O O O),⟨_,_,O,O,O⟩⟩,(CO (is:=[7]) O),?_⟩)));exact⟨⟨_,_⟩,DC hC1.symm,O,O⟩
 (try simp only[sd,se] at c2);obtain⟨hb1,hb2,hb3,hb4⟩:=XY (by rw[hC1];exact hns) c2;rw[hb4] at hC1;have hn3:=hns;rw[←hC1] at hn3;refine A5 (Az (BZ (DE (i:=3) [10] O (FQ ⟨O,Au⟩)) ?_));obtain⟨e,he⟩ | ⟨⟨z,n2⟩,hz⟩:=FY (Is s (Cv ((B5 w.body gl).1) us.reverse 0))
 ·refine IJ ((fun _=> .p (.iface 122 .unit)) e) 3 [.val (.ptr m 0),.val (.agg ((BU ((B5 w.body gl).1)).map .p)),.val (.p (.lst (BK us))),.val (.p .any),.val (.p (.lst (BK a))),.val (.ptr b6 (0+6)),.val (.p (I f.arity)),.val (.p (.lst (BK (a.drop ((f.arity:Int).toNat))))),.val (.p .any),.val (.p .any),.val (.p .any)] Eg O An O Au (fun _ _=>by exact⟨rfl,_,List.nil_sublist _,⟨_,by rw[←hC1];exact KS hn3 he,rfl⟩⟩) ?_;exact CA O O (fun Bs=>BC O) (CA O O (fun Bs=>BI (i:=Bs.length+0) Ba O (CX O) Ak) (CA O O (fun Bs=>BC O) (Jz (mkp:=(fun _=> .p (.iface 122 .unit))) (e:=e) [6] he O O (.inl ⟨O,O,O⟩) (Pc m ds s ((B5 w.body gl).1) us h3 hb1 hb2 Ar) ⟨_,_,O,O,O⟩ Aq (aw (we O) (aw (we O) (aw (we O) (FB)))) (CA O O (fun Bs=>BC O) (CA O O (fun Bs=>Aw G2 O O) (CA O O (fun Bs=>A6 (i:=Bs.length+4) C7 O (CX O) (Cb _)) (CA O O (fun Bs=>Cz (lo:=(f.arity:Int).toNat) Br O (CQ (B9 _)) ⟨_,pI Ar⟩ O AQ (Nat.le_refl _) (L8 a ((f.arity:Int).toNat))) (C8 O O An (C8 O O An (C8 O O An J5))))))))))
 rw[KC hn3 hz] at hC1;refine IH [.box b24 ((BU ((B5 w.body gl).1)).map .p),.box b13 ((DA w).map .p),.vec o3 2 (List.map E4 pl) cp3,.box b8 [.p (I 0),.p (I 0),.p (.str ⟨#[]⟩),.p (.nils),.p (.nils)],.box b6 ((Fe f).map .p),.box b5 [.p (I gk),.p (I gi),.p (.str gn),.p (.lst (List.map CD gl)),.p (.lst (BK gs))],.box m [.p (.lst (List.map Bo ds)),.p (I n2)]] 3 [.val (.ptr m 0),.val (.agg ((BU ((B5 w.body gl).1)).map .p)),.val (.p (.lst (BK us))),.val (.agg ((BU z).map .p)),.val (.p (.lst (BK a))),.val (.ptr b6 (0+6)),.val (.p (I f.arity)),.val (.p (.lst (BK (a.drop ((f.arity:Int).toNat))))),.val (.agg ((BU (apply z (a.drop ((f.arity:Int).toNat)))).map .p))] [.p .any,.p (.bool true)] [] Eg O An An An O ?_ ?_
 ·exact Au
 refine Bv O O (fun Bs=>BC O) (GB O O O (fun Bs=>BI (i:=Bs.length+0) Ba O (CX O) Ak) (fun Bs=>BI (i:=Bs.length+0) Ba O (CX O) Ak) (Bv O O (fun Bs=>BC O) (KD O (fun Bs=>G6 [6] O (.inl ⟨O,O,O⟩) (J4 hz (Pc m ds s ((B5 w.body gl).1) us h3 hb1 hb2 Ar)) ⟨_,_,O,O,O⟩ Aq O (aw (we O) (aw (we O) (aw (we O) (FB))))) (Bv O O (fun Bs=>BC O) (Bv O O (fun Bs=>Aw G2 O O) (GB O O O (fun Bs=>A6 (i:=Bs.length+4) C7 O (CX O) (Cb _)) (fun Bs=>A6 (i:=Bs.length+4) C7 O (CX O) (Cb _)) (Bv O O (fun Bs=>Cz (lo:=(f.arity:Int).toNat) Br O (CQ (B9 _)) ⟨_,pI Ar⟩ O AQ (Nat.le_refl _) (L8 a ((f.arity:Int).toNat))) ?_)))))));refine Bv O O (fun Bs=>BM O O (ED z (a.drop ((f.arity:Int).toNat)) AR) O) (KA (EJ [.box b24 ((BU ((B5 w.body gl).1)).map .p),.box b13 ((DA w).map .p),.vec o3 2 (List.map E4 pl) cp3,.box b8 ((BU (apply z (a.drop ((f.arity:Int).toNat)))).map .p),.box b6 ((Fe f).map .p),.box b5 [.p (I gk),.p (I gi),.p (.str gn),.p (.lst (List.map CD gl)),.p (.lst (BK gs))],.box m [.p (.lst (List.map Bo ds)),.p (I n2)]] O (Bd (i:=3) Ba O O O Ak AX (DR _)) ?_));refine EJ [.box b24 ((BU ((B5 w.body gl).1)).map .p),.box b13 ((DA w).map .p),.vec o3 2 (List.map E4 pl) cp3,.box b8 ((BU (apply z (a.drop ((f.arity:Int).toNat)))).map .p),.box b6 ((Fe f).map .p),.box b5 [.p (I gk),.p (I gi),.p (.str gn),.p (.lst (List.map CD gl)),.p (.lst (BK gs))],.box m [.p (.lst (List.map Bo ds)),.p (I n2)]] O (Bf O) (J2 (A4 (⟨O,_,_,⟨_,_,O,(BN (i:=3) Ba O O Ak),⟨_,_,O,O,O⟩⟩,(CO (is:=[6]) O),?_⟩)));exact⟨⟨_,_⟩,DC hC1.symm,O,O⟩
end Go.Proofs.YtboammbpdaoojaaGreat
namespace Go.Eu
open Go.Abs
def JZ (E:List CM) {σ:Type}(S:Sys σ) (n:Nat) (h:Tm) (a:List Tm) (s:σ):Out (Option Tm×σ):=match J0 E h with
 | none=> .ok (none,s)
 | some x =>
  if x.kind=1 then Es S (CY E x.decl) h a s
  else if x.kind=5∧(a.length:Int) > Cc (CY E x.decl) then match DL E (a.getD (Cc (CY E x.decl)).toNat default) with
   | some _=>FA E S (CY E x.decl) h a (a.getD (Cc (CY E x.decl)).toNat default) s
   | none=>(EN E S n s (a.getD (Cc (CY E x.decl)).toNat default)).bind fun r=>match r.1 with
    | none=> .ok (none,r.2)
    | some y=> .ok (some (apply h (a.set (Cc (CY E x.decl)).toNat y)),r.2)
  else if x.kind=6∧(a.length:Int)≥(F8 (CY E x.decl) x.item).arity then
   JO E S (EN E S n) h (F8 (CY E x.decl) x.item).arity a n (F8 (CY E x.decl) x.item).tree (a.take (F8 (CY E x.decl) x.item).arity.toNat) (UH (F8 (CY E x.decl) x.item).arity.toNat) s
  else .ok (none,s)
section
variable {E:List CM}{σ:Type}{S:Sys σ}{n:Nat}{h:Tm}{a:List Tm}{s:σ}{d:CM}{x:Tm}
def j1 (h:Tm) (a:List Tm) (k:Nat) (r:Option Tm×σ):Out (Option Tm×σ):=match r.1 with
 | none=> .ok (none,r.2)
 | some y=> .ok (some (apply h (a.set k y)),r.2)
theorem kA {k:Nat}{r:Option Tm×σ}(hr:r.1.isSome=false):j1 h a k r= .ok (none,r.2):=by
 obtain⟨q,s⟩:=r;cases q with
 | none=>rfl
 | some x=>cases hr
theorem jy {k:Nat}{r:Option Tm×σ}(hr:r.1.isSome=true):j1 h a k r= .ok (some (apply h (a.set k (r.1.getD Be))),r.2):=by
 obtain⟨q,s⟩:=r;cases q with
 | none=>cases hr
 | some x=>rfl
theorem dC (hu:U0 E h=false):JZ E S n h a s= .ok (none,s):=by
 unfold JZ;rw[Cs,hu];simp
section
variable (hu:U0 E h=true) (hd:E[(Bw E h.name).1.decl.toNat]?=some d)
include hu hd
theorem ec (hk:(Bw E h.name).1.kind=1):JZ E S n h a s=Es S d h a s:=by
 unfold JZ;rw[Cs,hu,if_pos rfl];simp only[if_pos hk,CY,CZ hd]
theorem cz (hk:(Bw E h.name).1.kind=5) (hl:(a.length:Int)≤Cc d):JZ E S n h a s= .ok (none,s):=by
 unfold JZ;rw[Cs,hu,if_pos rfl];simp only[CY,CZ hd];rw[if_neg Ar,if_neg Ar,if_neg Ar]
theorem cO (hk:(Bw E h.name).1.kind=5) (hl:¬(a.length:Int)≤Cc d) (hx:a[(Cc d).toNat]?=some x) {q:CM×Int×List Tm}(hc:DL E x=some q):JZ E S n h a s=FA E S d h a x s:=by
 unfold JZ;rw[Cs,hu,if_pos rfl];simp only[CY,CZ hd];rw[if_neg Ar,if_pos ⟨hk,by omega⟩,CZ hx];simp only[hc]
theorem dA (hk:(Bw E h.name).1.kind=5) (hl:¬(a.length:Int)≤Cc d) (hx:a[(Cc d).toNat]?=some x) (hc:DL E x=none):JZ E S n h a s=(EN E S n s x).bind (j1 h a (Cc d).toNat):=by
 unfold JZ;rw[Cs,hu,if_pos rfl];simp only[CY,CZ hd];rw[if_neg Ar,if_pos ⟨hk,by omega⟩,CZ hx];simp only[hc];rfl
theorem gC {f:HB}(hk:(Bw E h.name).1.kind=6) (hf:d.funs[(Bw E h.name).1.item.toNat]?=some f) (hl:f.arity≤(a.length:Int)):JZ E S n h a s=JO E S (EN E S n) h f.arity a n f.tree (a.take f.arity.toNat) (UH f.arity.toNat) s:=by
 unfold JZ;rw[Cs,hu,if_pos rfl];simp only[CY,CZ hd,F8,CZ hf];rw[if_neg Ar,if_neg Ar,if_pos ⟨hk,by omega⟩]
theorem aV {f:HB}(hk:(Bw E h.name).1.kind=6) (hf:d.funs[(Bw E h.name).1.item.toNat]?=some f) (hl:¬f.arity≤(a.length:Int)):JZ E S n h a s= .ok (none,s):=by
 unfold JZ;rw[Cs,hu,if_pos rfl];simp only[CY,CZ hd,F8,CZ hf];rw[if_neg Ar,if_neg Ar,if_neg Ar]
omit hd
theorem j2 (h1:(Bw E h.name).1.kind≠1) (h5:(Bw E h.name).1.kind≠5) (h6:(Bw E h.name).1.kind≠6):JZ E S n h a s= .ok (none,s):=by
 unfold JZ;rw[Cs,hu,if_pos rfl];simp only;rw[if_neg h1,if_neg Ar,if_neg Ar]
end
end
section
variable {E:List CM}{σ:Type}{S:Sys σ}{n:Nat}{t:Tm}{s:σ}{X:Out (Option Tm×σ)}
theorem aH (h:EN E S n s t=X) (hX:X≠ .stuck):∃k,n=k+1:=by
 cases n with
 | zero=>rw[EN] at h;exact absurd h.symm hX
 | succ k=>exact⟨k,rfl⟩
theorem eE (h:EN E S (n+1) s t=X) (hX:X≠ .stuck):okB t=true:=by
 rw[EN] at h;split at h
 ·exact absurd h.symm hX
 rename_i hc;simpa using hc
section
variable (ho:okB t=true)
include ho
theorem Z1 (hk:(BD t).1.kind=5) (hl:(BD t).2.length=0):EN E S (n+1) s t= .ok (none,s):=by
 rw[EN,if_neg (by simp[ho]),if_pos hk,if_pos hl]
theorem eH {b:Tm}(hk:(BD t).1.kind=5) (hl:(BD t).2.length≠0) (hb:(BD t).1.kids[1]?=some b) :
  EN E S (n+1) s t=S.put s (Cv b ((BD t).2.take 1) 0) fun x s'=> .ok (some (apply x ((BD t).2.drop 1)),s'):=by
 rw[EN,if_neg (by simp[ho]),if_pos hk,if_neg hl,Mu,hb]
theorem gV {v b:Tm}(hk:(BD t).1.kind=11) (hv:(BD t).1.kids[1]?=some v) (hb:(BD t).1.kids[2]?=some b) :
  EN E S (n+1) s t=S.put s (Cv b [v] 0) fun x s'=> .ok (some (apply x (BD t).2),s'):=by
 rw[EN,if_neg (by simp[ho]),if_neg Ar,if_pos hk,Tw,hv,hb]
def im (h:Tm) (a:List Tm) (r:Option Tm×σ):Out (Option Tm×σ):=match r.1 with
 | none=> .ok (none,r.2)
 | some x=> .ok (some (apply (I6 h.kind x) a),r.2)
theorem aj {p q:Tm}(hk:(BD t).1.kind=9∨(BD t).1.kind=10) (hp:(BD t).1.kids[0]?=some p) (h8:p.kind=8) (hq:p.kids[(1+(BD t).1.kind - 9).toNat]?=some q) :
  EN E S (n+1) s t=S.put s (q,0) fun x s'=> .ok (some (apply x (BD t).2),s'):=by
 rw[EN,if_neg (by simp[ho]),if_neg Ar,if_neg Ar,if_pos hk,hp];simp only;rw[if_pos h8,MF,hq]
theorem dO {p:Tm}(hk:(BD t).1.kind=9∨(BD t).1.kind=10) (hp:(BD t).1.kids[0]?=some p) (h8:p.kind≠8) :
  EN E S (n+1) s t=(EN E S n s p).bind (im (BD t).1 (BD t).2):=by
 rw[EN,if_neg (by simp[ho]),if_neg Ar,if_neg Ar,if_pos hk,hp];simp only;rw[if_neg h8];rfl
theorem YT (hk:(BD t).1.kind=3):EN E S (n+1) s t=JZ E S n (BD t).1 (BD t).2 s:=by
 rw[EN,if_neg (by simp[ho]),if_neg Ar,if_neg Ar,if_neg Ar,if_pos hk];rfl
theorem j0 (h1:(BD t).1.kind≠5) (h2:(BD t).1.kind≠11) (h3:(BD t).1.kind≠9) (h4:(BD t).1.kind≠10) (h5:(BD t).1.kind≠3):EN E S (n+1) s t= .ok (none,s):=by
 rw[EN,if_neg (by simp[ho]),if_neg h1,if_neg h2,if_neg Ar,if_neg h5]
end
theorem jf {h:Tm}{a:List Tm}{r:Option Tm×σ}(hr:r.1.isSome=false):im h a r= .ok (none,r.2):=by
 obtain⟨q,s⟩:=r;cases q with
 | none=>rfl
 | some x=>cases hr
theorem iw {h:Tm}{a:List Tm}{r:Option Tm×σ}(hr:r.1.isSome=true):im h a r= .ok (some (apply (I6 h.kind (r.1.getD Be)) a),r.2):=by
 obtain⟨q,s⟩:=r;cases q with
 | none=>cases hr
 | some x=>rfl
end
section
variable {E:List CM}{σ:Type}{S:Sys σ}{n:Nat}{t:Tm}{s:σ}{r:Tm×σ}{d:CM}{X:Out (Option Int×σ)}
noncomputable def VM (E:List CM) (S:Sys σ) (n:Nat) (q:(Option (Tm×List Tm)×Tm)×σ):Out (Option Int×σ):=match q.1.1 with
 | some _=> .ok (none,q.2)
 | none=>if S.over q.2=false∧NQ q.1.2 Be=false then HJ E S n q.2 q.1.2 else .ok (none,q.2)
noncomputable def I0 (E:List CM) (S:Sys σ) (n:Nat) (r:Tm×σ):Out (Option Int×σ) :=
 if (BD r.1).1.kind=12 then .ok (some (BD r.1).1.index,r.2)
  else if (BD r.1).1.kind=9∨(BD r.1).1.kind=10 then match (BD r.1).1.kids[0]? with
   | none=> .stuck
   | some p=>HJ E S n r.2 p
  else if (BD r.1).1.kind=3 then match J0 E (BD r.1).1 with
   | none=> .ok (none,r.2)
   | some x =>
    if S.over r.2=true then .ok (none,r.2)
    else if x.kind=5∧((BD r.1).2.length:Int) > Cc (CY E x.decl) then HJ E S n r.2 ((BD r.1).2.getD (Cc (CY E x.decl)).toNat default)
    else if x.kind=6∧((BD r.1).2.length:Int)≥(F8 (CY E x.decl) x.item).arity then
     (EH E S (DJ E S n) n (F8 (CY E x.decl) x.item).tree ((BD r.1).2.take (F8 (CY E x.decl) x.item).arity.toNat) Be r.2).bind (VM E S n)
    else .ok (none,r.2)
  else .ok (none,r.2)
theorem aI (h:HJ E S n s t=X) (hX:X≠ .stuck):∃k,n=k+1:=by
 cases n with
 | zero=>rw[HJ] at h;exact absurd h.symm hX
 | succ k=>exact⟨k,rfl⟩
theorem T6:HJ E S (n+1) s t=(DJ E S n s t).chk (I0 E S n):=by
 rw[HJ];rfl
theorem SX (hk:(BD r.1).1.kind=12):I0 E S n r= .ok (some (BD r.1).1.index,r.2):=by rw[I0,if_pos hk]
theorem YU {p:Tm}(hk:(BD r.1).1.kind=9∨(BD r.1).1.kind=10) (hp:(BD r.1).1.kids[0]?=some p):I0 E S n r=HJ E S n r.2 p:=by
 rw[I0,if_neg Ar,if_pos hk,hp]
theorem gq (h1:(BD r.1).1.kind≠12) (h2:(BD r.1).1.kind≠9) (h3:(BD r.1).1.kind≠10) (h4:(BD r.1).1.kind≠3):I0 E S n r= .ok (none,r.2):=by
 rw[I0,if_neg h1,if_neg Ar,if_neg h4]
theorem Yu (hk:(BD r.1).1.kind=3) (hu:U0 E (BD r.1).1=false∨S.over r.2=true):I0 E S n r= .ok (none,r.2):=by
 rw[I0,if_neg Ar,if_neg Ar,if_pos hk,Cs];rcases hu with hu | hu
 ·rw[hu];simp
 split
 ·rfl
 rw[if_pos hu]
section
variable (hk:(BD r.1).1.kind=3) (hu:U0 E (BD r.1).1=true) (ho:S.over r.2=false) (hd:E[(Bw E (BD r.1).1.name).1.decl.toNat]?=some d)
include hk hu ho
theorem Qx (h5:(Bw E (BD r.1).1.name).1.kind≠5) (h6:(Bw E (BD r.1).1.name).1.kind≠6):I0 E S n r= .ok (none,r.2):=by
 rw[I0,if_neg Ar,if_neg Ar,if_pos hk,Cs,hu,if_pos rfl];simp only;rw[if_neg (by simp[ho]),if_neg Ar,if_neg Ar]
include hd
theorem Yb (h5:(Bw E (BD r.1).1.name).1.kind=5) (hl:((BD r.1).2.length:Int)≤Cc d):I0 E S n r= .ok (none,r.2):=by
 rw[I0,if_neg Ar,if_neg Ar,if_pos hk,Cs,hu,if_pos rfl];simp only[CY,CZ hd];rw[if_neg (by simp[ho]),if_neg Ar,if_neg Ar]
theorem aa {x:Tm}(h5:(Bw E (BD r.1).1.name).1.kind=5) (hl:Cc d<((BD r.1).2.length:Int)) (hx:(BD r.1).2[(Cc d).toNat]?=some x):I0 E S n r=HJ E S n r.2 x:=by
 rw[I0,if_neg Ar,if_neg Ar,if_pos hk,Cs,hu,if_pos rfl];simp only[CY,CZ hd];rw[if_neg (by simp[ho]),if_pos ⟨h5,by omega⟩,CZ hx]
theorem Y1 {f:HB}(h6:(Bw E (BD r.1).1.name).1.kind=6) (hf:d.funs[(Bw E (BD r.1).1.name).1.item.toNat]?=some f) (hl:¬f.arity≤((BD r.1).2.length:Int)):I0 E S n r= .ok (none,r.2):=by
 rw[I0,if_neg Ar,if_neg Ar,if_pos hk,Cs,hu,if_pos rfl];simp only[CY,CZ hd,F8,CZ hf];rw[if_neg (by simp[ho]),if_neg Ar,if_neg Ar]
theorem Uv {f:HB}(h6:(Bw E (BD r.1).1.name).1.kind=6) (hf:d.funs[(Bw E (BD r.1).1.name).1.item.toNat]?=some f) (hl:f.arity≤((BD r.1).2.length:Int)):I0 E S n r=(EH E S (DJ E S n) n f.tree ((BD r.1).2.take f.arity.toNat) Be r.2).bind (VM E S n):=by
 rw[I0,if_neg Ar,if_neg Ar,if_pos hk,Cs,hu,if_pos rfl];simp only[CY,CZ hd,F8,CZ hf];rw[if_neg (by simp[ho]),if_neg Ar,if_pos ⟨h6,by omega⟩]
end
theorem ZR {q:(Option (Tm×List Tm)×Tm)×σ}(h:q.1.1.isSome=true∨S.over q.2=true∨NQ q.1.2 Be=true):VM E S n q= .ok (none,q.2):=by
 obtain⟨⟨o,l⟩,s⟩:=q;unfold VM;cases o with
 | some x=>rfl
 | none =>
  simp only at h ⊢;rw[if_neg];rintro⟨h1,h2⟩;rcases h with h | h | h
  ·cases h
  ·rw[h1] at h;cases h
  rw[h2] at h;cases h
theorem X5 {q:(Option (Tm×List Tm)×Tm)×σ}(h1:q.1.1.isSome=false) (h2:S.over q.2=false) (h3:NQ q.1.2 Be=false):VM E S n q=HJ E S n q.2 q.1.2:=by
 obtain⟨⟨o,l⟩,s⟩:=q;unfold VM;cases o with
 | some x=>cases h1
 | none=>simp only at h2 h3 ⊢;rw[if_pos ⟨h2,h3⟩]
end
section
variable {E:List CM}{σ:Type}{S:Sys σ}{n:Nat}{t:FE}{a:List Tm}{s:σ}
def qu (S:Sys σ) (q:(Option (Tm×List Tm)×Tm)×σ):Out (Option Tm×σ):=match q.1.1 with
 | none=> .ok (none,q.2)
 | some (b,vars)=>if okB b=false∨vars.all okB=false∨1125899906842624≤Bg vars then .stuck else S.put q.2 (Cv b vars.reverse 0) fun x s'=> .ok (some x,s')
end
end Go.Eu
namespace Go.Proofs.YtboammbpdaoojaaGreat
open Go.Abs Go.Eu
set_option maxHeartbeats 4000000 in
theorem Te:∀(n m:Nat) (ds:List CM) (s:Int) (g:Tm) (a:List Tm),(pW ds n)→(HD ds)→(GH s)→(okB g=true)→(a.length<549755813888)→(∀y∈a,okB y=true)→(JZ ds Bq n g a s≠ .stuck)→Bu Tryz.prog 81 [.ptr m 0,.agg ((BU g).map .p),.p (.lst (BK a))] [.box m [.p (.lst (List.map Bo ds)),.p (I s)]] (KQ (fun(r:Option Tm×Int)=> .tup [TV (r.1.getD Be),.p (.bool r.1.isSome)]) (fun _=> .p (.iface 122 .unit)) (fun r H'=>H'=[.box m [.p (.lst (List.map Bo ds)),.p (I r.2)]]) ((JZ ds Bq n g a s).ex)):=by
 intro n m ds s g a hT h2 h3 h4 h5 h6 hns;obtain⟨gk,gi,gn,gl,gs⟩:=g;have hgo:=Ch.1 h4;have hgl:=hgo.nd;simp only[Nd,Dv] at hgl;generalize hC:JZ ds Bq n (.mk gk gi gn gl gs:Tm) a s=X at hns ⊢;refine A9 Tryz.func81 O pv (n:=122) O O (A3 (BP O (BY O) fun b4=>BP O (BE B8 O) fun b6=>Ax A8 1 [] O (A3 (A2 A8 2 [1] O (Av O (Co [2] O (.inl ⟨O,O,O⟩) (OP m ds s (.mk gk gi gn gl gs:Tm) h2.g.env) ⟨_,_,O,O,O⟩ Aq O (.inl O)) (A2 A8 3 [] O (BP O (BE IK O) fun b8=>Ax A8 2 [0,1] O (Az (Ay A8 2 [] O (A0 O (fun c=>?_) (fun c=>?_)))))))))))
 ·(try simp only[sd,se] at c);rw[dC c] at hC;refine Ay A8 3 [1,0] O (BZ (Bl (i:=1) O) (A4 (⟨O,_,_,⟨_,_,O,(BN (i:=1) Ba O O O),⟨_,_,O,O,O⟩⟩,(CO (is:=[3]) O),?_⟩)));exact⟨⟨_,_⟩,DC hC.symm,O,O⟩
 (try simp only[sd,se] at c);have hu:=c;obtain⟨ix,dd,e1,e2,e3,e4⟩:=LD hu;have hde:=e2.decl;have hdg:=h2.g.all _ e3;have hel:=h2.g.env.len;have hil:=(List.getElem?_eq_some_iff.1 e1).1;have hfx:=hdg.fx;have hnr:=LI hdg;have hcl:=hdg.din.cl;have hfl:=hdg.din.fl;refine A5 (Az (CG (fun k=>Nat.beq k 8) Eg (A1 O (fun _=>BC O) Au (A1 O (fun _=>DB O) Au (A1 O (fun _=>Aw Q4 O O) Au (BT (j:=3) O O O (fun H i hi=>BG (i:=i) Qu O hi O) AB Au (A1 O (fun _=>Aw E8 O O) Au (BT (j:=0) O O O (fun H i hi=>A6 (i:=i) C7 O hi (ER _)) AB Au (A1 O (fun _=>BA Iv O O Ar (En e4) (Cp _)) Au (A1 O (fun _=>BO Ew O (Cp _)) Au (KB [] O O (BE MY O) An fun b10=>⟨AB,Au,?_⟩)))))))))));refine Cd O O (Bd (i:=0) Ew O O O Ah AY (Lc _)) AB Au (B6 O An (Az (A3 (Av O (Aw E8 O O) (Av O (A6 (i:=1) C7 O O (DP _)) (Bk O (BH (Ay A8 2 [] O (A0 O (fun c1=>?_) (fun c1=>?_))))))))))
 ·(try simp only[sd,se] at c1);have hk1:=c1;refine A3 (A2 A8 4 [1,3] O ?_);rw[ec hu e4 hk1] at hC;refine Dg [4] O O O (.inl ⟨O,O,O⟩) (Vf m ds s ((Bw ds (.mk gk gi gn gl gs:Tm).name).1) (.mk gk gi gn gl gs:Tm) a dd h3 e4 Ar hdg h4 h5 (by rw[hC];exact hns)) ⟨_,_,O,O,O⟩ Aq (aw (we O) (aw (we O) (aw (we O) (aw (we O) (FB))))) (fun _ _ h=>(congrArg List.length h).trans O) ?_ ?_
  rotate_left
  ·intro e _ he;exact⟨O,_,List.nil_sublist _,⟨_,by rw[←hC];exact he,rfl⟩⟩
  rintro⟨q,n2⟩ _ hz rfl;have hfin:=hz;refine Ax A8 4 [2,1] O (A4 (⟨O,_,_,⟨_,_,O,(BN (i:=2) Ba O O Ak),⟨_,_,O,O,O⟩⟩,(CO (is:=[4]) O),?_⟩));exact⟨⟨q,n2⟩,by rw[←hC];exact hfin,rfl,rfl⟩
 (try simp only[sd,se] at c1);have hk1:=c1;refine Ay A8 2 [] O (A0 O (fun c2=>?_) (fun c2=>?_))
 ·(try simp only[sd,se] at c2);have hk5:=c2;refine A3 (Av O (BI (i:=0) Ew O O Ah) (Av O (BM O O (Nj dd hdg.din hdg.fx) O) (Ax A8 1 [] O (Az (A3 (B0 O (Av O (BS Br O (Bc _)) (Ax A8 2 [] O (A0 O (fun c3=>?_) (fun c3=>?_))))))))))
  ·(try simp only[sd,se] at c3);rw[cz hu e4 hk5 Ar] at hC;refine Ay A8 3 [2,0] O (BZ (Bl (i:=2) O) (A4 (⟨O,_,_,⟨_,_,O,(BN (i:=2) Ba O O O),⟨_,_,O,O,O⟩⟩,(CO (is:=[4]) O),?_⟩)));exact⟨⟨_,_⟩,DC hC.symm,O,O⟩
  (try simp only[sd,se] at c3);have hfew:¬(a.length:Int)≤Cc dd:=by omega
  refine A5 (Az (A3 (A2 A8 3 [] O ?_)));obtain⟨x,hx⟩:=BB (l:=a) (i:=(Cc dd:Int).toNat) Ar;have hxo:=h6 _ (List.mem_of_getElem? hx);refine Av O (BA Br O O Ar (Bj hx) (BJ _)) (Av O (BO Ba O (BJ _)) (Av O (Co [4] O (.inl ⟨O,O,O⟩) (PR m ds s x h2.g hxo) ⟨_,_,O,O,O⟩ Aq O (.inl O)) (A2 A8 5 [] O (BP O (BE MY O) fun b12=>Ax A8 4 [0,1] O (Ay A8 1 [] O (A0 O (fun c4=>?_) (fun c4=>?_)))))))
  ·(try simp only[sd,se] at c4);have hcs:=M3 c4;rw[cO hu e4 hk5 hfew hx hcs] at hC;refine Az ?_;obtain⟨e,he⟩ | ⟨⟨q,n2⟩,hz⟩:=FY ((FA ds Bq dd (.mk gk gi gn gl gs:Tm) a x s).ex)
   ·refine IJ ((fun _=> .p (.iface 122 .unit)) e) 8 [.val (.ptr m 0),.val (.agg ((Bo dd).map .p)),.val (.agg [.p (I gk),.p (I gi),.p (.str gn),.p (.lst (List.map CD gl)),.p (.lst (BK gs))]),.val (.p (.lst (BK a))),.val (.p (.lst (BK a))),.val (.p (I (Cc dd))),.val (.ref (BU x)),.val (.agg ((BU x).map .p)),.val (.p .any),.val (.p .any),.val (.p .any),.val (.p .any),.val (.p .any)] Eg O An O Au (fun _ _=>by exact⟨rfl,_,List.nil_sublist _,⟨_,by rw[←hC];exact he,rfl⟩⟩) ?_;exact CA O O (fun Bs=>BC O) (CA O O (fun Bs=>BI (i:=Bs.length+1) Ew O (CX O) Ah) (CA O O (fun Bs=>BI (i:=Bs.length+4) Ba O (CX O) O) (CA O O (fun Bs=>BC O) (CA O O (fun Bs=>BC O) (CA O O (fun Bs=>BC O) (CA O O (fun Bs=>BA Br O O Ar (Bj hx) (BJ _)) (CA O O (fun Bs=>BO Ba O (BJ _)) (Jz (mkp:=(fun _=> .p (.iface 122 .unit))) (e:=e) [5] he O O (.inl ⟨O,O,O⟩) (UD m ds s dd (.mk gk gi gn gl gs:Tm) a x h3 h2.g hdg h4 h5 hxo Ar (by rw[hC];exact hns)) ⟨_,_,O,O,O⟩ Aq (aw (we O) (aw (we O) (aw (we O) (aw (we O) (aw (we O) (FB)))))) (C8 O O An (C8 O O An (C8 O O An (C8 O O An J5))))))))))))
   have hfin:=hz;refine IH [.box b12 ((Bo ((CV ds x).1)).map .p),.box b10 ((Bo dd).map .p),.box b8 ((Dj ((Bw ds (.mk gk gi gn gl gs:Tm).name).1)).map .p),.box b6 [.p (I 0),.p (I 0),.p (.str ⟨#[]⟩),.p (.nils),.p (.nils)],.box b4 [.p (I gk),.p (I gi),.p (.str gn),.p (.lst (List.map CD gl)),.p (.lst (BK gs))],.box m [.p (.lst (List.map Bo ds)),.p (I n2)]] 8 [.val (.ptr m 0),.val (.agg ((Bo dd).map .p)),.val (.agg [.p (I gk),.p (I gi),.p (.str gn),.p (.lst (List.map CD gl)),.p (.lst (BK gs))]),.val (.p (.lst (BK a))),.val (.p (.lst (BK a))),.val (.p (I (Cc dd))),.val (.ref (BU x)),.val (.agg ((BU x).map .p)),.val (.tup [.agg ((BU (q.getD Be)).map .p),.p (.bool q.isSome)]),.val (.agg ((BU (q.getD Be)).map .p)),.val (.p (.bool q.isSome))] [.p .any,.p (.bool q.isSome)] [] Eg O An An An O ?_ ?_
   ·exact Au
   refine Bv O O (fun Bs=>BC O) (GB O O O (fun Bs=>BI (i:=Bs.length+1) Ew O (CX O) Ah) (fun Bs=>BI (i:=Bs.length+1) Ew O (CX O) Ah) (GB O O O (fun Bs=>BI (i:=Bs.length+4) Ba O (CX O) O) (fun Bs=>BI (i:=Bs.length+4) Ba O (CX O) O) (Bv O O (fun Bs=>BC O) (Bv O O (fun Bs=>BC O) (Bv O O (fun Bs=>BC O) (Bv O O (fun Bs=>BA Br O O Ar (Bj hx) (BJ _)) (Bv O O (fun Bs=>BO Ba O (BJ _)) (KD O (fun Bs=>G6 [5] O (.inl ⟨O,O,O⟩) (J4 hz (UD m ds s dd (.mk gk gi gn gl gs:Tm) a x h3 h2.g hdg h4 h5 hxo Ar (by rw[hC];exact hns))) ⟨_,_,O,O,O⟩ Aq O (aw (we O) (aw (we O) (aw (we O) (aw (we O) (aw (we O) (FB))))))) (Bv O O (fun Bs=>CB O O) ?_)))))))));refine Bv O O (fun Bs=>CB O O) (KA (EJ [.box b12 ((Bo ((CV ds x).1)).map .p),.box b10 ((Bo dd).map .p),.box b8 ((Dj ((Bw ds (.mk gk gi gn gl gs:Tm).name).1)).map .p),.box b6 ((BU (q.getD Be)).map .p),.box b4 [.p (I gk),.p (I gi),.p (.str gn),.p (.lst (List.map CD gl)),.p (.lst (BK gs))],.box m [.p (.lst (List.map Bo ds)),.p (I n2)]] O (Bd (i:=3) Ba O O O Ak AX (DR _)) (EJ [.box b12 ((Bo ((CV ds x).1)).map .p),.box b10 ((Bo dd).map .p),.box b8 ((Dj ((Bw ds (.mk gk gi gn gl gs:Tm).name).1)).map .p),.box b6 ((BU (q.getD Be)).map .p),.box b4 [.p (I gk),.p (I gi),.p (.str gn),.p (.lst (List.map CD gl)),.p (.lst (BK gs))],.box m [.p (.lst (List.map Bo ds)),.p (I n2)]] O (Bf O) (J2 (A4 ?_)))));refine⟨O,_,_,⟨_,_,O,(BN (i:=3) Ba O O Ak),⟨_,_,O,O,O⟩⟩,(CO (is:=[5]) O),?_⟩;exact⟨⟨q,n2⟩,by rw[←hC];exact hfin,rfl,rfl⟩
  (try simp only[sd,se] at c4);have hcn:=Pd c4;refine A5 (A3 (A2 A8 3 [] O (Av O (BA Br O O Ar (Bj hx) (BJ _)) (Av O (BO Ba O (BJ _)) ?_))));rw[dA hu e4 hk5 hfew hx hcn] at hC;have hn0:=hns;rw[←hC] at hn0;have hn1:=JI hn0;refine Dg [5] O O O (.inl ⟨O,O,O⟩) (hT m x s h3 hn1) ⟨_,_,O,O,O⟩ Aq (aw (we O) (aw (we O) (FB))) (fun _ _ h=>(congrArg List.length h).trans O) ?_ ?_
  rotate_left
  ·intro e _ he;exact⟨O,_,List.nil_sublist _,⟨_,by rw[←hC];exact J8 hn0 he,rfl⟩⟩
  rintro⟨q,n2⟩ _ hz rfl;rw[Lv hz] at hC;refine A2 A8 3 [] O (BP O (BE B8 O) fun b16=>Ax A8 2 [0,1] O (Az (Ay A8 2 [] O (A0 O (fun c5=>?_) (fun c5=>?_)))))
  ·(try simp only[sd,se] at c5);rw[kA c5] at hC;refine Ay A8 3 [4,0] O (BZ (Bl (i:=4) O) (A4 (⟨O,_,_,⟨_,_,O,(BN (i:=4) Ba O O O),⟨_,_,O,O,O⟩⟩,(CO (is:=[6]) O),?_⟩)));exact⟨⟨_,_⟩,DC hC.symm,O,O⟩
  (try simp only[sd,se] at c5);rw[jy c5] at hC;refine A5 (A3 (B0 O (MU O O O (.inl ⟨O,O,O⟩) (Jp a h5) (.inl O) fun o cp=>Ax A8 1 [] O (A3 (A2 A8 3 [1] O (NG (i:=0) O (by rw[Bc];omega) fun b hb=>?_))))));subst hb;refine Av O (Cx Br O O Ar AZ) (Av O (EE (i:=0) (j:=((Cc dd:Int).toNat)) Ba O O O AZ O (JY _) (BJ _) (DR _) (Ru a ((Cc dd:Int).toNat) (q.getD Be))) (Bk O (A3 (A2 A8 2 [6] O (CN (C5 (t:=93) (x:= .vs (some b) (BK ((a).set ((Cc dd:Int).toNat) (q.getD Be))).length cp) (DF a (l':=(a).set ((Cc dd:Int).toNat) (q.getD Be)) As)) (CN (C5 (t:=18) (x:= .vs (some b) (BK ((a).set ((Cc dd:Int).toNat) (q.getD Be))).length cp) (DF a (l':=(a).set ((Cc dd:Int).toNat) (q.getD Be)) As)) (CN (C5 (t:=94) (x:= .vs (some b) (BK ((a).set ((Cc dd:Int).toNat) (q.getD Be))).length cp) (DF a (l':=(a).set ((Cc dd:Int).toNat) (q.getD Be)) As)) ?_)))))));refine CN (C5 (t:=99) (x:= .vs (some b) (BK ((a).set ((Cc dd:Int).toNat) (q.getD Be))).length cp) (DF a (l':=(a).set ((Cc dd:Int).toNat) (q.getD Be)) As)) (CN (DE (i:=0) [93,18,94,99] O (FQ ⟨O,O,O,O,Au⟩)) (Av O (BM O O (ED (.mk gk gi gn gl gs:Tm) ((a).set ((Cc dd:Int).toNat) (q.getD Be)) AS) O) (Ax A8 2 [4,1] O (A4 (⟨O,_,_,⟨_,_,O,(BN (i:=4) Ba O O Ak),⟨_,_,O,O,O⟩⟩,(CO (is:=[6]) O),?_⟩)))));exact⟨⟨_,_⟩,DC hC.symm,O,O⟩
 (try simp only[sd,se] at c2);have hk5:=c2;refine Ay A8 2 [] O (A0 O (fun c3=>?_) (fun c3=>?_))
 ·(try simp only[sd,se] at c3);have hk6:=c3;obtain⟨fk,ff,f1,f2⟩:=e2.func hk6;have hff:dd.funs[(Bw ds (Tm.mk gk gi gn gl gs).name).1.item.toNat]?=some ff:=by rw[f2];simpa using f1
  have hfm:=List.mem_of_getElem? hff;have hfa:=hdg.fu ff hfm;have hfi:=(List.getElem?_eq_some_iff.1 f1).1;refine A3 (Av O (Aw Cm O O) (Av O (A6 (i:=0) HS O O (CI _)) (Av O (Aw E8 O O) (Av O (A6 (i:=1) C7 O O (Gt _)) (Av O (BA G9 O O Ar (Ec hff) (DQ _)) (Av O (BO Z6 O (DQ _)) (BP O (BE Zl O) fun b19=>Ax A8 1 [0,1] O (A3 (B0 O (Av O (BS Br O (Bc _)) (Av O (Aw G2 O O) (Av O (A6 (i:=0) C7 O O (Cb _)) (Ax A8 1 [] O (A0 O (fun c4=>?_) (fun c4=>?_)))))))))))))))
  ·(try simp only[sd,se] at c4);refine A3 (A2 A8 4 [4,0] O ?_);rw[gC hu e4 hk6 hff Ar] at hC;refine Dg [5] O O O (.inl ⟨O,O,O⟩) (WG n m ds s (.mk gk gi gn gl gs:Tm) a dd ff hT h2 h3 e3 hfm Ar h4 h5 h6 (by rw[hC];exact hns)) ⟨_,_,O,O,O⟩ Aq (aw (we O) (aw (we O) (aw (we O) (aw (we O) (FB))))) (fun _ _ h=>(congrArg List.length h).trans O) ?_ ?_
   rotate_left
   ·intro e _ he;exact⟨O,_,List.nil_sublist _,⟨_,by rw[←hC];exact he,rfl⟩⟩
   rintro⟨q,n2⟩ _ hz rfl;have hfin:=hz;refine Ax A8 4 [3,1] O (A4 (⟨O,_,_,⟨_,_,O,(BN (i:=3) Ba O O Ak),⟨_,_,O,O,O⟩⟩,(CO (is:=[5]) O),?_⟩));exact⟨⟨q,n2⟩,by rw[←hC];exact hfin,rfl,rfl⟩
  (try simp only[sd,se] at c4);rw[aV hu e4 hk6 hff Ar] at hC;refine A5 (Ay A8 3 [3,0] O (BZ (Bl (i:=3) O) (A4 (⟨O,_,_,⟨_,_,O,(BN (i:=3) Ba O O O),⟨_,_,O,O,O⟩⟩,(CO (is:=[5]) O),?_⟩))));exact⟨⟨_,_⟩,DC hC.symm,O,O⟩
 (try simp only[sd,se] at c3);have hk6:=c3;rw[j2 hu hk1 hk5 hk6] at hC;refine A5 (Ay A8 3 [2,0] O (BZ (Bl (i:=2) O) (A4 (⟨O,_,_,⟨_,_,O,(BN (i:=2) Ba O O O),⟨_,_,O,O,O⟩⟩,(CO (is:=[4]) O),?_⟩))));exact⟨⟨_,_⟩,DC hC.symm,O,O⟩
set_option maxHeartbeats 4000000 in
theorem br:∀(ds:List CM) (hE:HD ds) (n:Nat),pW ds n:=by
 intro ds hE n
 induction n using Nat.strongRecOn with
 | ind n ih =>
  intro m t s hJ hns;obtain⟨k,rfl⟩:=aH rfl hns;generalize hC:EN ds Bq (k+1) s t=X at hns ⊢;have hwo:=eE hC hns;have hsp:=Xy hwo;have hsl:=hsp.len;have hss:=hsp.sz;have hsa:=hsp.asz;refine A9 Tryz.func44 O oP (n:=90) O O (A3 (BP O (BY O) fun b3=>BP O (BE B8 O) fun b4=>Ax A8 1 [] O (A3 (Av O (BI (i:=1) Ba O O Ak) (Av O (BM O O (LL t hsp.nd Ab) O) (A2 A8 3 [] O (BP O (BE B8 O) fun b6=>Ax A8 2 [0,1] O (Az (A3 (Av O (Aw Dq O O) ?_))))))))));generalize hz:(BD t).1=z;obtain⟨zk,zi,zn,zl,zs⟩:=z;have hzo:okB (.mk zk zi zn zl zs)=true:=hz▸hsp.head;have hzq:=hz;have hzl:=K3 hzo;have hzn:=(Ch.1 hzo).nd;refine Ax A8 1 [0] O (BH (Ay A8 2 [] O (A0 O (fun c=>?_) (fun c=>?_))))
  ·(try simp only[sd,se] at c);have hk:=(congrArg Tm.kind hzq).trans c;refine A3 (B0 O (Av O (BS Br O (Bc _)) (Ax A8 1 [] O (A0 O (fun c1=>?_) (fun c1=>?_)))))
   ·(try simp only[sd,se] at c1);refine Az ?_;obtain⟨x,hx⟩:=BB (l:=zs) (i:=1) Ar;obtain⟨x1,hx1⟩:=BB (l:=(BD t).2) (i:=0) Ar;have hxo:=HZ hzo (i:=1) hx;have hx1o:=hsp.args _ (List.mem_of_getElem? hx1);rw[eH hwo hk Ar (by rw[hzq];exact hx),iS hx1] at hC;have hn3:=hns;rw[←hC] at hn3;obtain⟨e,he⟩ | ⟨⟨z1,n2⟩,hz⟩:=FY (Is s (Cv x [x1] 0))
    ·refine IJ ((fun _=> .p (.iface 122 .unit)) e) 9 [.val (.ptr m 0),.val (.ptr b6 (0+4)),.val (.p (.lst (BK zs))),.val (.ref (BU x)),.val (.agg ((BU x).map .p)),.val (.p (.lst (BK ((BD t).2)))),.val (.ref (BU x1)),.val (.agg ((BU x1).map .p)),.val (.p (.lst (BK [x1]))),.val (.p .any),.val (.p (.lst (BK ((BD t).2)))),.val (.p (.lst (BK (((BD t).2).drop 1)))),.val (.p .any),.val (.p .any),.val (.p .any)] Eg O An O Au (fun _ _=>by exact⟨rfl,_,List.nil_sublist _,⟨_,by rw[←hC];exact KS hn3 he,rfl⟩⟩) ?_;refine CA O O (fun Bs=>BC O) (CA O O (fun Bs=>Aw Dq O O) (CA O O (fun Bs=>BG (i:=Bs.length+0) E3 O (CX O) O) (CA O O (fun Bs=>BA Br O O Ar (Bj hx) (BJ _)) (CA O O (fun Bs=>BO Ba O (BJ _)) (CA O O (fun Bs=>BC O) (CA O O (fun Bs=>BA Br O O Ar (Bj hx1) (BJ _)) (CA O O (fun Bs=>BO Ba O (BJ _)) (CA O O (fun Bs=>Bx (rows:=BK [x1]) Br B8 O O O O (CQ (B9 _)) (Eo _)) (Jz (mkp:=(fun _=> .p (.iface 122 .unit))) (e:=e) [3] he O O (.inl ⟨O,O,O⟩) (KU m ds s x [x1] hJ hxo (ok_one hx1o) I3) ⟨_,_,O,O,O⟩ Aq (aw (we O) (aw (we O) (aw (we O) (FB)))) (CA O O (fun Bs=>BC O) ?_))))))))));exact CA O O (fun Bs=>Cz (lo:=1) Br O (CQ (B9 _)) ⟨_,O⟩ O AQ (Nat.le_refl _) (L8 ((BD t).2) 1)) (C8 O O An (C8 O O An (C8 O O An J5)))
    rw[KC hn3 hz] at hC;have hJ3:=(QZ hJ hz).1;refine IH [.box b6 [.p (I zk),.p (I zi),.p (.str zn),.p (.lst (List.map CD zl)),.p (.lst (BK zs))],.box b4 [.p (I 0),.p (I 0),.p (.str ⟨#[]⟩),.p (.nils),.p (.nils)],.box b3 ((BU t).map .p),.box m [.p (.lst (List.map Bo ds)),.p (I n2)]] 9 [.val (.ptr m 0),.val (.ptr b6 (0+4)),.val (.p (.lst (BK zs))),.val (.ref (BU x)),.val (.agg ((BU x).map .p)),.val (.p (.lst (BK ((BD t).2)))),.val (.ref (BU x1)),.val (.agg ((BU x1).map .p)),.val (.p (.lst (BK [x1]))),.val (.agg ((BU z1).map .p)),.val (.p (.lst (BK ((BD t).2)))),.val (.p (.lst (BK (((BD t).2).drop 1)))),.val (.agg ((BU (apply z1 (((BD t).2).drop 1))).map .p))] [.p .any,.p (.bool true)] [] Eg O An An An O ?_ ?_
    ·exact Au
    refine Bv O O (fun Bs=>BC O) (Bv O O (fun Bs=>Aw Dq O O) (GB O O O (fun Bs=>BG (i:=Bs.length+0) E3 O (CX O) O) (fun Bs=>BG (i:=Bs.length+0) E3 O (CX O) O) (Bv O O (fun Bs=>BA Br O O Ar (Bj hx) (BJ _)) (Bv O O (fun Bs=>BO Ba O (BJ _)) (Bv O O (fun Bs=>BC O) (Bv O O (fun Bs=>BA Br O O Ar (Bj hx1) (BJ _)) (Bv O O (fun Bs=>BO Ba O (BJ _)) (Bv O O (fun Bs=>Bx (rows:=BK [x1]) Br B8 O O O O (CQ (B9 _)) (Eo _)) (KD O (fun Bs=>G6 [3] O (.inl ⟨O,O,O⟩) (J4 hz (KU m ds s x [x1] hJ hxo (ok_one hx1o) I3)) ⟨_,_,O,O,O⟩ Aq O (aw (we O) (aw (we O) (aw (we O) (FB))))) (Bv O O (fun Bs=>BC O) ?_))))))))));refine Bv O O (fun Bs=>Cz (lo:=1) Br O (CQ (B9 _)) ⟨_,O⟩ O AQ (Nat.le_refl _) (L8 ((BD t).2) 1)) (Bv O O (fun Bs=>BM O O (ED z1 (((BD t).2).drop 1) AR) O) (KA (EJ [.box b6 [.p (I zk),.p (I zi),.p (.str zn),.p (.lst (List.map CD zl)),.p (.lst (BK zs))],.box b4 ((BU (apply z1 (((BD t).2).drop 1))).map .p),.box b3 ((BU t).map .p),.box m [.p (.lst (List.map Bo ds)),.p (I n2)]] O (Bd (i:=1) Ba O O O Ak AX (DR _)) (EJ [.box b6 [.p (I zk),.p (I zi),.p (.str zn),.p (.lst (List.map CD zl)),.p (.lst (BK zs))],.box b4 ((BU (apply z1 (((BD t).2).drop 1))).map .p),.box b3 ((BU t).map .p),.box m [.p (.lst (List.map Bo ds)),.p (I n2)]] O (Bf O) (J2 (A4 (⟨O,_,_,⟨_,_,O,(BN (i:=1) Ba O O Ak),⟨_,_,O,O,O⟩⟩,(CO (is:=[3]) O),?_⟩)))))));exact⟨⟨_,_⟩,DC hC.symm,O,O⟩
   (try simp only[sd,se] at c1);rw[Z1 hwo hk Ar] at hC;refine A5 (Ay A8 3 [1,0] O (BZ (Bl (i:=1) O) (A4 (⟨O,_,_,⟨_,_,O,(BN (i:=1) Ba O O O),⟨_,_,O,O,O⟩⟩,(CO (is:=[3]) O),?_⟩))));exact⟨⟨_,_⟩,DC hC.symm,O,O⟩
  (try simp only[sd,se] at c);refine Ay A8 2 [] O (A0 O (fun c1=>?_) (fun c1=>?_))
  ·(try simp only[sd,se] at c1);have hk:=(congrArg Tm.kind hzq).trans c1;refine Az ?_;obtain⟨x,hx⟩:=BB (l:=zs) (i:=2) Ar;obtain⟨x1,hx1⟩:=BB (l:=zs) (i:=1) Ar;have hxo:=HZ hzo (i:=2) hx;have hx1o:=HZ hzo (i:=1) hx1;rw[gV hwo hk (by rw[hzq];exact hx1) (by rw[hzq];exact hx)] at hC;have hn3:=hns;rw[←hC] at hn3;obtain⟨e,he⟩ | ⟨⟨z1,n2⟩,hz⟩:=FY (Is s (Cv x [x1] 0))
   ·refine IJ ((fun _=> .p (.iface 122 .unit)) e) 10 [.val (.ptr m 0),.val (.ptr b6 (0+4)),.val (.p (.lst (BK zs))),.val (.ref (BU x)),.val (.agg ((BU x).map .p)),.val (.ptr b6 (0+4)),.val (.p (.lst (BK zs))),.val (.ref (BU x1)),.val (.agg ((BU x1).map .p)),.val (.p (.lst (BK [x1]))),.val (.p .any),.val (.p (.lst (BK ((BD t).2)))),.val (.p .any),.val (.p .any),.val (.p .any)] Eg O An O Au (fun _ _=>by exact⟨rfl,_,List.nil_sublist _,⟨_,by rw[←hC];exact KS hn3 he,rfl⟩⟩) ?_;refine CA O O (fun Bs=>BC O) (CA O O (fun Bs=>Aw Dq O O) (CA O O (fun Bs=>BG (i:=Bs.length+0) E3 O (CX O) O) (CA O O (fun Bs=>BA Br O O Ar (Bj hx) (BJ _)) (CA O O (fun Bs=>BO Ba O (BJ _)) (CA O O (fun Bs=>Aw Dq O O) (CA O O (fun Bs=>BG (i:=Bs.length+0) E3 O (CX O) O) (CA O O (fun Bs=>BA Br O O Ar (Bj hx1) (BJ _)) (CA O O (fun Bs=>BO Ba O (BJ _)) (CA O O (fun Bs=>Bx (rows:=BK [x1]) Br B8 O O O O (CQ (B9 _)) (Eo _)) (Jz (mkp:=(fun _=> .p (.iface 122 .unit))) (e:=e) [3] he O O (.inl ⟨O,O,O⟩) (KU m ds s x [x1] hJ hxo (ok_one hx1o) I3) ⟨_,_,O,O,O⟩ Aq (aw (we O) (aw (we O) (aw (we O) (FB)))) ?_))))))))));exact CA O O (fun Bs=>BC O) (C8 O O An (C8 O O An (C8 O O An J5)))
   rw[KC hn3 hz] at hC;have hJ3:=(QZ hJ hz).1;refine IH [.box b6 [.p (I zk),.p (I zi),.p (.str zn),.p (.lst (List.map CD zl)),.p (.lst (BK zs))],.box b4 [.p (I 0),.p (I 0),.p (.str ⟨#[]⟩),.p (.nils),.p (.nils)],.box b3 ((BU t).map .p),.box m [.p (.lst (List.map Bo ds)),.p (I n2)]] 10 [.val (.ptr m 0),.val (.ptr b6 (0+4)),.val (.p (.lst (BK zs))),.val (.ref (BU x)),.val (.agg ((BU x).map .p)),.val (.ptr b6 (0+4)),.val (.p (.lst (BK zs))),.val (.ref (BU x1)),.val (.agg ((BU x1).map .p)),.val (.p (.lst (BK [x1]))),.val (.agg ((BU z1).map .p)),.val (.p (.lst (BK ((BD t).2)))),.val (.agg ((BU (apply z1 ((BD t).2))).map .p))] [.p .any,.p (.bool true)] [] Eg O An An An O ?_ ?_
   ·exact Au
   refine Bv O O (fun Bs=>BC O) (Bv O O (fun Bs=>Aw Dq O O) (GB O O O (fun Bs=>BG (i:=Bs.length+0) E3 O (CX O) O) (fun Bs=>BG (i:=Bs.length+0) E3 O (CX O) O) (Bv O O (fun Bs=>BA Br O O Ar (Bj hx) (BJ _)) (Bv O O (fun Bs=>BO Ba O (BJ _)) (Bv O O (fun Bs=>Aw Dq O O) (GB O O O (fun Bs=>BG (i:=Bs.length+0) E3 O (CX O) O) (fun Bs=>BG (i:=Bs.length+0) E3 O (CX O) O) (Bv O O (fun Bs=>BA Br O O Ar (Bj hx1) (BJ _)) (Bv O O (fun Bs=>BO Ba O (BJ _)) (Bv O O (fun Bs=>Bx (rows:=BK [x1]) Br B8 O O O O (CQ (B9 _)) (Eo _)) ?_)))))))));refine KD O (fun Bs=>G6 [3] O (.inl ⟨O,O,O⟩) (J4 hz (KU m ds s x [x1] hJ hxo (ok_one hx1o) I3)) ⟨_,_,O,O,O⟩ Aq O (aw (we O) (aw (we O) (aw (we O) (FB))))) (Bv O O (fun Bs=>BC O) (Bv O O (fun Bs=>BM O O (ED z1 ((BD t).2) AR) O) (KA (EJ [.box b6 [.p (I zk),.p (I zi),.p (.str zn),.p (.lst (List.map CD zl)),.p (.lst (BK zs))],.box b4 ((BU (apply z1 ((BD t).2))).map .p),.box b3 ((BU t).map .p),.box m [.p (.lst (List.map Bo ds)),.p (I n2)]] O (Bd (i:=1) Ba O O O Ak AX (DR _)) (EJ [.box b6 [.p (I zk),.p (I zi),.p (.str zn),.p (.lst (List.map CD zl)),.p (.lst (BK zs))],.box b4 ((BU (apply z1 ((BD t).2))).map .p),.box b3 ((BU t).map .p),.box m [.p (.lst (List.map Bo ds)),.p (I n2)]] O (Bf O) (J2 (A4 ?_)))))));refine⟨O,_,_,⟨_,_,O,(BN (i:=1) Ba O O Ak),⟨_,_,O,O,O⟩⟩,(CO (is:=[3]) O),?_⟩;exact⟨⟨_,_⟩,DC hC.symm,O,O⟩
  (try simp only[sd,se] at c1);refine Az (Ay A8 2 [] O (Bb [0,4,6,7,17] 51 (fun y=>y= .p (.bool (decide (zk=9∨zk=10)))) ?_ ?_))
  ·refine A0 O (fun c2=>?_) (fun c2=>?_)
   ·(try simp only[sd,se] at c2);exact A5 (⟨O,O,(List.Sublist.refl _),(by refine pB (Bool.eq_iff_iff.2 ?_);simp only[beq_iff_eq,decide_eq_true_eq];omega),⟨O,O,O,O,O,Au⟩⟩)
   (try simp only[sd,se] at c2);exact A7 (Ax A8 2 [] O (⟨O,O,(List.Sublist.refl _),(by refine pB (Bool.eq_iff_iff.2 ?_);simp only[beq_iff_eq,decide_eq_true_eq];omega),⟨O,O,O,O,O,Au⟩⟩))
  rintro _ rfl;refine A0 O (fun c2=>?_) (fun c2=>?_)
  ·(try simp only[sd,se] at c2);have hk9:zk=9∨zk=10:=by simpa using c2
   refine A3 (A2 A8 2 [0] O ?_);obtain⟨p,hp⟩:=BB (l:=zs) (i:=0) Ar;refine Av O (BA Br O O Ar (Bj hp) (BJ _)) (Av O (BO Ba O (BJ _)) (BP O (BE B8 O) fun b8=>Ax A8 1 [0,1] O (Az (A3 (Av O (Aw Dq O O) ?_)))));obtain⟨pk,pi,pn,pl,ps⟩:=p;have hpo:=HZ hzo (i:=0) hp;have hpl:=K3 hpo;refine Ax A8 2 [0] O (A0 O (fun c3=>?_) (fun c3=>?_))
   ·(try simp only[sd,se] at c3);have hp8:=c3;refine A3 (A2 A8 3 [1,0] O ?_);obtain⟨cq,hcq⟩:=BB (l:=ps) (i:=(1+zk - 9).toNat) (by have:=hpl.2.2.2 hp8;omega);have hcqo:=HZ hpo (i:=(1+zk - 9).toNat) hcq;rw[aj hwo (by rw[hzq];exact hk9) (by rw[hzq];exact hp) (p:= .mk pk pi pn pl ps) hp8 (by rw[hzq];exact hcq)] at hC;have hn3:=hns;rw[←hC] at hn3;refine Dg [4] O O O (.inl ⟨O,O,O⟩) (Xo m ds s (.mk zk zi zn zl zs:Tm) (.mk pk pi pn pl ps:Tm) cq hJ hk9 hcq) ⟨_,_,O,O,O⟩ Aq (aw (we O) (aw (we O) (aw (we O) (FB)))) (fun _ _ h=>(congrArg List.length h).trans O) ?_ ?_
    rotate_left
    ·intro e _ he;exact⟨O,_,List.nil_sublist _,⟨_,by rw[←hC];exact KS hn3 he,rfl⟩⟩
    rintro⟨z1,n2⟩ _ hz rfl;rw[KC hn3 hz] at hC;refine B0 O (Av O (BM O O (ED z1 ((BD t).2) AR) O) (Ax A8 2 [2,1] O (A4 (⟨O,_,_,⟨_,_,O,(BN (i:=2) Ba O O Ak),⟨_,_,O,O,O⟩⟩,(CO (is:=[4]) O),?_⟩))));exact⟨⟨_,_⟩,DC hC.symm,O,O⟩
   (try simp only[sd,se] at c3);have hp8:=c3;refine A5 (A3 (A2 A8 2 [0] O ?_));rw[dO hwo (by rw[hzq];exact hk9) (by rw[hzq];exact hp) (p:= .mk pk pi pn pl ps) hp8] at hC;have hn0:=hns;rw[←hC] at hn0;have hn1:=JI hn0;refine Dg [4] O O O (.inl ⟨O,O,O⟩) (ih k Ar m (.mk pk pi pn pl ps:Tm) s hJ hn1) ⟨_,_,O,O,O⟩ Aq (aw (we O) (aw (we O) (FB))) (fun _ _ h=>(congrArg List.length h).trans O) ?_ ?_
   rotate_left
   ·intro e _ he;exact⟨O,_,List.nil_sublist _,⟨_,by rw[←hC];exact J8 hn0 he,rfl⟩⟩
   rintro⟨q,n2⟩ _ hz rfl;rw[Lv hz] at hC;refine A2 A8 3 [] O (BP O (BE B8 O) fun b9=>Ax A8 2 [0,1] O (Ay A8 1 [] O (A0 O (fun c4=>?_) (fun c4=>?_))))
   ·(try simp only[sd,se] at c4);rw[iw c4,hzq] at hC;refine A3 (A2 A8 3 [2,0] O (Av O (Bx (rows:=BK [(q.getD Be)]) Br B8 O O O O (CQ (B9 _)) (Eo _)) (A2 A8 2 [] O (Av O (G1 O O (ED (.mk zk 0 ⟨#[]⟩ [] [(q.getD Be)]:Tm) ((BD t).2) AR) (aw (Dz O) (aw (we O) (FB)))) (Ax A8 2 [3,1] O (A4 (⟨O,_,_,⟨_,_,O,(BN (i:=3) Ba O O Ak),⟨_,_,O,O,O⟩⟩,(CO (is:=[5]) O),?_⟩)))))));exact⟨⟨_,_⟩,DC hC.symm,O,O⟩
   (try simp only[sd,se] at c4);rw[jf c4] at hC;refine A5 (Ay A8 3 [3,0] O (BZ (Bl (i:=3) O) (A4 (⟨O,_,_,⟨_,_,O,(BN (i:=3) Ba O O O),⟨_,_,O,O,O⟩⟩,(CO (is:=[5]) O),?_⟩))));exact⟨⟨_,_⟩,DC hC.symm,O,O⟩
  (try simp only[sd,se] at c2);refine Ay A8 2 [] O (A0 O (fun c3=>?_) (fun c3=>?_))
  ·(try simp only[sd,se] at c3);have hk:=(congrArg Tm.kind hzq).trans c3;refine A3 (A2 A8 3 [0] O ?_);rw[YT hwo hk,hzq] at hC;refine Dg [3] O O O (.inl ⟨O,O,O⟩) (Te k m ds s (.mk zk zi zn zl zs:Tm) ((BD t).2) (ih k Ar) hE hJ hzo Ar hsp.args (by rw[hC];exact hns)) ⟨_,_,O,O,O⟩ Aq (aw (we O) (aw (we O) (aw (we O) (FB)))) (fun _ _ h=>(congrArg List.length h).trans O) ?_ ?_
   rotate_left
   ·intro e _ he;exact⟨O,_,List.nil_sublist _,⟨_,by rw[←hC];exact he,rfl⟩⟩
   rintro⟨q,n2⟩ _ hz rfl;have hfin:=hz;refine Ax A8 4 [1,1] O (A4 (⟨O,_,_,⟨_,_,O,(BN (i:=1) Ba O O Ak),⟨_,_,O,O,O⟩⟩,(CO (is:=[3]) O),?_⟩));exact⟨⟨q,n2⟩,by rw[←hC];exact hfin,rfl,rfl⟩
  (try simp only[sd,se] at c3);rw[j0 hwo (by rw[hzq];assumption) (by rw[hzq];assumption) (by rw[hzq];show ¬zk=9;omega) (by rw[hzq];show ¬zk=10;omega) (by rw[hzq];assumption)] at hC;refine A5 (Ay A8 3 [1,0] O (BZ (Bl (i:=1) O) (A4 (⟨O,_,_,⟨_,_,O,(BN (i:=1) Ba O O O),⟨_,_,O,O,O⟩⟩,(CO (is:=[3]) O),?_⟩))));exact⟨⟨_,_⟩,DC hC.symm,O,O⟩
end Go.Proofs.YtboammbpdaoojaaGreat
namespace Go.Eu
open Go.Abs
def dX (q:Tm):Bool:= !(decide ((size q:Int) > 4096)||decide (Ep q > 200))
def OV:Out (Option Tm×Int)→Tm×Bool×Int
 | .ok (some q,_)=>if dX q=true then (q,true,0) else (Be,false,11)
 | .ok (none,_)=>(Be,false,0)
 | _=>(Be,false,11)
def qk:Out (Option Tm×Int)→Tm×Bool×Int
 | .ok (q,_)=>(q.getD Be,q.isSome,0)
 | _=>(Be,false,11)
def bE:Out (Option Int×Int)→Int×Bool×Int
 | .ok (q,_)=>(q.getD 0,q.isSome,0)
 | _=>(0,false,11)
def my (o:Out (Option Tm×Int)):Prop:=∀q c,o= .ok (some q,c)→okB q=true
theorem qY {ak ai bk bi:Int}{an bn:ByteArray}{al bl:List Cf}{a b:List Tm}(hl:bl.length=0) (hs:b.length=0):NQ (Tm.mk ak ai an al a) (.mk bk bi bn bl b)=(((((ak==bk)&&(ai==bi))&&(an.toList==bn.toList))&&(decide (al.length=0)))&&(decide (a.length=0))):=by
 rw[List.length_eq_zero_iff] at hl hs;subst hl hs;rw[Bool.eq_iff_iff,HY];simp only[Tm.mk.injEq,Bool.and_eq_true,decide_eq_true_eq,beq_iff_eq,List.length_eq_zero_iff];constructor
 ·rintro⟨rfl,rfl,rfl,rfl,rfl⟩;exact⟨⟨⟨⟨rfl,rfl⟩,rfl⟩,rfl⟩,rfl⟩
 rintro⟨⟨⟨⟨h1,h2⟩,h3⟩,h4⟩,h5⟩;exact⟨h1,h2,G4 h3,h4,h5⟩
section
variable {o:Out (Option Tm×Int)}{q:Option Tm}{c e:Int}
theorem QN (h:my o) (hx:o.ex= .ok (q,c)):okB (q.getD Be)=true:=by
 have h1:=Hj hx;cases q with
 | none=>decide
 | some x=>exact h x c h1
theorem Q7 (h:o.ex= .error e):OV o=(Be,false,11):=by cases o<;>first | rfl | cases h
theorem ND (h:o.ex= .ok (q,c)) (hq:q.isSome=false):OV o=(q.getD Be,q.isSome,0):=by
 rw[Hj h];cases q with
 | none=>rfl
 | some x=>cases hq
theorem K6 (h:o.ex= .ok (q,c)) (hq:q.isSome=true) (hf:(size (q.getD Be):Int) > 4096∨Ep (q.getD Be) > 200):OV o=(Be,false,11):=by
 rw[Hj h];cases q with
 | none=>cases hq
 | some x =>
  have:dX x=false:=by
   simp only[Option.getD_some] at hf;unfold dX;simp only[Bool.not_eq_false',Bool.or_eq_true,decide_eq_true_eq];exact hf
  simp only[OV,this,Bool.false_eq_true,if_false]
theorem Qj (h:o.ex= .ok (q,c)) (hf:¬(q.isSome=true∧((size (q.getD Be):Int) > 4096∨Ep (q.getD Be) > 200))):OV o=(q.getD Be,q.isSome,0):=by
 rw[Hj h];cases q with
 | none=>rfl
 | some x =>
  have:dX x=true:=by
   unfold dX;simp only[Option.isSome_some,Option.getD_some,true_and,not_or] at hf;simp only[Bool.not_eq_true',Bool.or_eq_false_iff,decide_eq_false_iff_not];exact hf
  simp only[OV,this,if_true,Option.getD_some,Option.isSome_some]
end
section
variable {o:Out (Option Int×Int)}{q:Option Int}{c e:Int}
theorem j8 (h:o.ex= .error e):bE o=(0,false,11):=by cases o<;>first | rfl | cases h
theorem ju (h:o.ex= .ok (q,c)):bE o=(q.getD 0,q.isSome,0):=by rw[Hj h];rfl
end
section
variable {E:List CM}{σ:Type}{S:Sys σ}{W:σ→Tm→Out (Tm×σ)}
end
end Go.Eu
namespace Go.Proofs.YtboammbpdaoojaaGreat
open Go.Abs Go.Eu
theorem YN:∀(ds:List CM) (N m bt bo bk:Nat) (t:Tm) (s:Int),(HD ds)→(GH s)→(EN ds Bq N s t≠ .stuck)→Bu Tryz.prog 43 [.ptr m 0,.ptr bt 0,.ptr bo 0,.ptr bk 0] [.box m [.p (.lst (List.map Bo ds)),.p (I s)],.box bt ((BU t).map .p),.box bo [.p (I 0),.p (I 0),.p (.str ⟨#[]⟩),.p (.nils),.p (.nils)],.box bk [.p (.bool false)]] (KQ (fun(r:Option Tm×Int)=> .tup []) (fun _=> .p (.iface 122 .unit)) (fun r H'=>H'=[.box m [.p (.lst (List.map Bo ds)),.p (I r.2)],.box bt ((BU t).map .p),.box bo ((BU (r.1.getD Be)).map .p),.box bk [.p (.bool r.1.isSome)]]) ((EN ds Bq N s t).ex)):=by
 intro ds N m bt bo bk t s h1 h2 h3;refine A9 Tryz.func43 O oB (n:=11) O O (A7 (A2 A8 2 [1] O (Dg [0] O O O (.inl ⟨O,O,O⟩) (br ds h1 N m t s h2 h3) ⟨_,_,O,O,O⟩ Aq (aw (we O) (aw (we O) (FB))) (fun _ _ h=>(congrArg List.length h).trans O) ?_ ?_)))
 rotate_left
 ·intro e _ he;exact⟨O,_,List.nil_sublist _,⟨_,he,O⟩⟩
 rintro⟨q,n2⟩ _ hz rfl;refine Ax A8 5 [2,1,3,0] O ⟨O,_,_,O,(CO (is:=[0,1,2,3]) O),?_⟩;exact⟨⟨q,n2⟩,hz,O,O⟩
theorem Xz:∀(ds:List CM) (N:Nat) (t:Tm),(HD ds)→(EN ds Bq N 20000 t≠ .stuck)→(my (EN ds Bq N 20000 t))→FF Tryz.prog 16 [.p (.lst (List.map Bo ds)),.agg ((BU t).map .p)] (.tup [.agg ((BU ((OV (EN ds Bq N 20000 t)).1)).map .p),.p (.bool ((OV (EN ds Bq N 20000 t)).2.1)),.p (I ((OV (EN ds Bq N 20000 t)).2.2))]):=by
 intro ds N t h1 h2 h3;refine A9 Tryz.func16 O oA (n:=34) O O (A3 (BP O (BY O) fun b3=>BP O (BE B8 O) fun b4=>Ax A8 2 [] O (A3 (BP O (BE B8 O) fun b7=>Bk O (A3 (BP O (BE qC O) fun b8=>Ax A8 1 [0,0] O (Az ?_)))))));obtain⟨e,he⟩ | ⟨⟨q,n2⟩,ha⟩:=FY ((EN ds Bq N 20000 t).ex)
 ·refine A7 (A2 A8 2 [] O (UK [3,1,0] O O O (.inl ⟨O,O,O⟩) (RK _ _ he (fun r=>r.2) (fun r=>[.box b3 ((BU t).map .p),.box b7 ((BU (r.1.getD Be)).map .p),.box b8 [.p (.bool r.1.isSome)]]) 43 [.ptr b3 0,.ptr b7 0,.ptr b8 0] [.box b3 ((BU t).map .p),.box b7 [.p (I 0),.p (I 0),.p (.str ⟨#[]⟩),.p (.nils),.p (.nils)],.box b8 [.p (.bool false)]] ds (fun m=>YN ds N m b3 b7 b8 t 20000 h1 LS h2)) ⟨_,_,O,O,⟨_,_,O,O,⟨_,_,O,O,O⟩⟩⟩ Aq (DS _) (Ax A8 1 [] O (Az (Ay A8 15 [] O ?_)))));refine A0 O (fun c=>by cases c) (fun c=>?_);refine A5 (Az (Ay A8 2 [] O ?_));refine A0 O (fun c1=>?_) (fun c1=>by cases c1);refine Ay A8 5 [0,0] O (BZ (Bl (i:=0) O) (A4 (⟨O,_,_,⟨_,_,O,(BN (i:=0) Ba O O O),⟨_,_,O,O,⟨_,_,O,O,O⟩⟩⟩,(List.nil_sublist _),?_⟩)))
  all_goals exact⟨by show (.tup [.agg [.p (I 0),.p (I 0),.p (.str ⟨#[]⟩),.p (.lst []),.p (.lst [])],.p (.bool false),.p (I 11)]:AV)=_;first | (rw[Q7 he]<;>rfl) | (rw[ND ha g]<;>rfl) | (rw[K6 ha g]<;>first | rfl | omega) | (rw[Qj ha]<;>first | rfl | (rintro⟨_,_ | _⟩<;>omega)),rfl⟩
 refine A7 (A2 A8 2 [] O (Av O (Co [3,1,0] O (.inl ⟨O,O,O⟩) (UC _ _ ha (fun r=>r.2) (fun r=>[.box b3 ((BU t).map .p),.box b7 ((BU (r.1.getD Be)).map .p),.box b8 [.p (.bool r.1.isSome)]]) 43 [.ptr b3 0,.ptr b7 0,.ptr b8 0] [.box b3 ((BU t).map .p),.box b7 [.p (I 0),.p (I 0),.p (.str ⟨#[]⟩),.p (.nils),.p (.nils)],.box b8 [.p (.bool false)]] ds (fun m=>YN ds N m b3 b7 b8 t 20000 h1 LS h2)) ⟨_,_,O,O,⟨_,_,O,O,⟨_,_,O,O,O⟩⟩⟩ Aq O (.inl O)) (Ax A8 1 [] O (Az (A3 (A2 A8 6 [0] O (BQ 18 O (fun g=>?_) (fun g=>?_))))))))
 ·(try simp only[sd,se] at g);refine BF O (BI (i:=1) Ba O O Ak) (BF O (BM O O (XQ (q.getD Be) (Ch.1 (QN h3 ha)).nd (by have:=G3 (QN h3 ha);omega)) O) (A2 A8 2 [] O (BQ 22 O (fun g1=>?_) (fun g1=>?_))))
  ·(try simp only[sd,se] at g1);refine Ax A8 5 [] O ?_;refine A0 O (fun c=>?_) (fun c=>by cases c);refine A7 (Ax A8 1 [] O (Az (Ay A8 2 [] O ?_)));refine A0 O (fun c1=>?_) (fun c1=>by cases c1);refine Ay A8 5 [2,0] O (BZ (Bl (i:=2) O) (A4 (⟨O,_,_,⟨_,_,O,(BN (i:=2) Ba O O O),⟨_,_,O,O,⟨_,_,O,O,O⟩⟩⟩,(List.nil_sublist _),?_⟩)))
   all_goals exact⟨by show (.tup [.agg [.p (I 0),.p (I 0),.p (.str ⟨#[]⟩),.p (.lst []),.p (.lst [])],.p (.bool false),.p (I 11)]:AV)=_;first | (rw[Q7 he]<;>rfl) | (rw[ND ha g]<;>rfl) | (rw[K6 ha g]<;>first | rfl | omega) | (rw[Qj ha]<;>first | rfl | (rintro⟨_,_ | _⟩<;>omega)),rfl⟩
  (try simp only[sd,se] at g1);refine BF O (BI (i:=1) Ba O O Ak) (BF O (BM O O (Us _ (q.getD Be) (Nat.le_refl _) (Ch.1 (QN h3 ha)).nd) O) (Ax A8 3 [] O (A0 O (fun c=>?_) (fun c=>?_))))
  ·(try simp only[sd,se] at c);refine A7 (Ax A8 1 [] O (Az (Ay A8 2 [] O ?_)));refine A0 O (fun c1=>?_) (fun c1=>by cases c1);refine Ay A8 5 [2,0] O (BZ (Bl (i:=2) O) (A4 (⟨O,_,_,⟨_,_,O,(BN (i:=2) Ba O O O),⟨_,_,O,O,⟨_,_,O,O,O⟩⟩⟩,(List.nil_sublist _),?_⟩)))
   all_goals exact⟨by show (.tup [.agg [.p (I 0),.p (I 0),.p (.str ⟨#[]⟩),.p (.lst []),.p (.lst [])],.p (.bool false),.p (I 11)]:AV)=_;first | (rw[Q7 he]<;>rfl) | (rw[ND ha g]<;>rfl) | (rw[K6 ha g]<;>first | rfl | omega) | (rw[Qj ha]<;>first | rfl | (rintro⟨_,_ | _⟩<;>omega)),rfl⟩
  (try simp only[sd,se] at c);refine A5 (Az (Ay A8 2 [] O ?_));refine A0 O (fun c1=>by cases c1) (fun c1=>?_);refine A5 (Az (CG (fun k=>false) Eg (BT (j:=1) O O O (fun H i hi=>BI (i:=i) Ba O hi Ak) AB Au (BT (j:=0) O O O (fun H i hi=>BG (i:=i) iY O hi O) AB Au (Cd O O (Bd (i:=2) Ba O O O Ak AX (DR _)) AB Au (A1 O (fun _=>Bf O) Au (A1 O (fun _=>Bf O) Au (B6 O An (A4 (⟨O,_,_,⟨_,_,O,(BN (i:=2) Ba O O Ak),⟨_,_,O,O,⟨_,_,O,O,O⟩⟩⟩,(List.nil_sublist _),?_⟩))))))))))
  all_goals exact⟨by show (.tup [.agg ((BU (q.getD Be)).map .p),.p (.bool q.isSome),.p (I 0)]:AV)=_;first | (rw[Q7 he]<;>rfl) | (rw[ND ha g]<;>rfl) | (rw[K6 ha g]<;>first | rfl | omega) | (rw[Qj ha]<;>first | rfl | (rintro⟨_,_ | _⟩<;>omega)),rfl⟩
 (try simp only[sd,se] at g);refine Ax A8 9 [] O ?_;refine A0 O (fun c=>by cases c) (fun c=>?_);refine A5 (Az (Ay A8 2 [] O ?_));refine A0 O (fun c1=>by cases c1) (fun c1=>?_);refine A5 (Az (CG (fun k=>false) Eg (BT (j:=1) O O O (fun H i hi=>BI (i:=i) Ba O hi Ak) AB Au (BT (j:=0) O O O (fun H i hi=>BG (i:=i) iY O hi O) AB Au (Cd O O (Bd (i:=2) Ba O O O Ak AX (DR _)) AB Au (A1 O (fun _=>Bf O) Au (A1 O (fun _=>Bf O) Au (B6 O An (A4 (⟨O,_,_,⟨_,_,O,(BN (i:=2) Ba O O Ak),⟨_,_,O,O,⟨_,_,O,O,O⟩⟩⟩,(List.nil_sublist _),?_⟩))))))))))
 all_goals exact⟨by show (.tup [.agg ((BU (q.getD Be)).map .p),.p (.bool q.isSome),.p (I 0)]:AV)=_;first | (rw[Q7 he]<;>rfl) | (rw[ND ha g]<;>rfl) | (rw[K6 ha g]<;>first | rfl | omega) | (rw[Qj ha]<;>first | rfl | (rintro⟨_,_ | _⟩<;>omega)),rfl⟩
theorem fQ:∀(a b:List Cf),(b.length=0)→FF Tryz.prog 118 [.p (.lst (List.map CD a)),.p (.lst (List.map CD b)),.p (.fn 119)] (.p (.bool (decide (a.length=0)))):=by
 intro a b h1;refine A9 Tryz.func118 O lE (n:=32) O O (Ay A8 1 [] O (Az (A3 (B0 O (Av O (BS Fb O (List.length_map _)) (B0 O (Av O (BS Fb O (List.length_map _)) (Ax A8 1 [] O (A0 O (fun c=>?_) (fun c=>?_))))))))))
 ·(try simp only[sd,se] at c);refine Ay A8 1 [] O (A4 (⟨O,_,_,⟨_,_,O,O,O⟩,(List.nil_sublist _),?_⟩))
  all_goals exact⟨pB (decide_eq_false Ar).symm,rfl⟩
 (try simp only[sd,se] at c);refine A5 (Az (A3 (B0 O (Av O (BS Fb O (List.length_map _)) (Ax A8 1 [] O (BH (Bn (α:=Nat) (fun i=>⟨32,mk [(1,.p (.lst (List.map CD b))),(2,.p (.fn 119)),(15,.p (.lst (List.map CD a))),(16,.p (I (a.length:Nat))),(17,.p (I (i:Int)))],[],[]⟩) (fun i=>a.length - i) (fun i=>i≤a.length) 0 AP ?_ ?_)))))))
 ·exact Bh ⟨we O,we O,we O,we O,we O,Au⟩ (leH (is:=[]) O (Dd))
 rintro i hC
 try simp only at hC
 have hi:=hC;refine Ay A8 1 [] O (Az (A0 O (fun c1=>?_) (fun c1=>?_)))
 ·(try simp only[sd,se] at c1);omega
 (try simp only[sd,se] at c1);refine Bp (Ay A8 1 [] O (A4 (⟨O,_,_,⟨_,_,O,O,O⟩,(List.nil_sublist _),?_⟩)))
 all_goals exact⟨pB (decide_eq_true Ar).symm,rfl⟩
theorem gW:∀(a b:List Tm),(b.length=0)→FF Tryz.prog 120 [.p (.lst (BK a)),.p (.lst (BK b)),.p (.fn 91)] (.p (.bool (decide (a.length=0)))):=by
 intro a b h1;refine A9 Tryz.func120 O mT (n:=32) O O (Ay A8 1 [] O (Az (A3 (B0 O (Av O (BS Br O (Bc _)) (B0 O (Av O (BS Br O (Bc _)) (Ax A8 1 [] O (A0 O (fun c=>?_) (fun c=>?_))))))))))
 ·(try simp only[sd,se] at c);refine Ay A8 1 [] O (A4 (⟨O,_,_,⟨_,_,O,O,O⟩,(List.nil_sublist _),?_⟩))
  all_goals exact⟨pB (decide_eq_false Ar).symm,rfl⟩
 (try simp only[sd,se] at c);refine A5 (Az (A3 (B0 O (Av O (BS Br O (Bc _)) (Ax A8 1 [] O (BH (Bn (α:=Nat) (fun i=>⟨32,mk [(1,.p (.lst (BK b))),(2,.p (.fn 91)),(15,.p (.lst (BK a))),(16,.p (I (a.length:Nat))),(17,.p (I (i:Int)))],[],[]⟩) (fun i=>a.length - i) (fun i=>i≤a.length) 0 AP ?_ ?_)))))))
 ·exact Bh ⟨we O,we O,we O,we O,we O,Au⟩ (leH (is:=[]) O (Dd))
 rintro i hC
 try simp only at hC
 have hi:=hC;refine Ay A8 1 [] O (Az (A0 O (fun c1=>?_) (fun c1=>?_)))
 ·(try simp only[sd,se] at c1);omega
 (try simp only[sd,se] at c1);refine Bp (Ay A8 1 [] O (A4 (⟨O,_,_,⟨_,_,O,O,O⟩,(List.nil_sublist _),?_⟩)))
 all_goals exact⟨pB (decide_eq_true Ar).symm,rfl⟩
theorem eX:∀(a b:Tm),(b.levels.length=0)→(b.kids.length=0)→FF Tryz.prog 91 [.agg ((BU a).map .p),.agg ((BU b).map .p)] (.p (.bool (NQ a b))):=by
 intro a b h1 h2;obtain⟨ak,ai,an,al,as1⟩:=a;obtain⟨bk,bi,bn,bl,bs⟩:=b;simp only[Tm.levels,Tm.kids] at h1 h2;refine A9 Tryz.func91 O oF (n:=38) O O (A3 (BP O (BY O) fun b2=>BP O (BY O) fun b3=>Ax A8 1 [] O (Az (Bb [] 4 (fun y=>y= .p (.bool ((((((ak:Int)==(bk:Int))&&((ai:Int)==(bi:Int)))&&(an.toList==bn.toList))&&(decide (al.length=0)))&&(decide (as1.length=0))))) ?_ ?_))))
 ·refine A7 (A2 A8 6 [1,0] O (BQ 10 O (fun g=>?_) (fun g=>?_)))
  ·(try simp only[sd,se] at g);refine A2 A8 7 [1,0] O (BQ 17 O (fun g1=>?_) (fun g1=>?_))
   ·(try simp only[sd,se] at g1);refine A2 A8 4 [1,0] O (BF O (F4 O O) (A2 A8 2 [] O (BQ 24 O (fun g2=>?_) (fun g2=>?_))))
    ·(try simp only[sd,se] at g2);refine A2 A8 4 [1,0] O (BF O (BM O O (fQ al bl h1) O) (A2 A8 2 [] O (BQ 31 O (fun g3=>?_) (fun g3=>?_))))
     ·(try simp only[sd,se] at g3);exact A2 A8 4 [1,0] O (BF O (BM O O (gW as1 bs h2) O) (Ax A8 2 [] O ⟨O,O,AK,AI,Au⟩))
     (try simp only[sd,se] at g3);exact Ax A8 7 [] O ⟨O,O,AK,AI,Au⟩
    (try simp only[sd,se] at g2);exact Ax A8 14 [] O ⟨O,O,AK,AI,Au⟩
   (try simp only[sd,se] at g1);exact Ax A8 21 [] O ⟨O,O,AK,AI,Au⟩
  (try simp only[sd,se] at g);exact Ax A8 28 [] O ⟨O,O,AK,AI,Au⟩
 rintro _ rfl;refine A4 (⟨O,_,_,⟨_,_,O,O,O⟩,(List.nil_sublist _),?_⟩)
 all_goals exact⟨by show (.p (.bool ((((((ak:Int)==(bk:Int))&&((ai:Int)==(bi:Int)))&&(an.toList==bn.toList))&&(decide (al.length=0)))&&(decide (as1.length=0)))):AV)=_;rw[qY h1 h2],rfl⟩
def qt (ds:List CM) (n:Nat):Prop:=∀(m:Nat) (t:Tm) (s:Int),GH s→HJ ds Bq n s t≠ .stuck→Bu Tryz.prog 53 [.ptr m 0,.agg ((BU t).map .p)] [.box m [.p (.lst (List.map Bo ds)),.p (I s)]] (KQ (fun(r:Option Int×Int)=> .tup [.p (I (r.1.getD 0)),.p (.bool r.1.isSome)]) (fun _=> .p (.iface 122 .unit)) (fun r H'=>H'=[.box m [.p (.lst (List.map Bo ds)),.p (I r.2)]]) ((HJ ds Bq n s t).ex))
set_option maxHeartbeats 4000000 in
theorem Wc:∀(ds:List CM) (hE:HD ds) (n:Nat),qt ds n:=by
 intro ds hE n
 induction n using Nat.strongRecOn with
 | ind n ih =>
  intro m t s hJ hns;have h2:=hE;obtain⟨k,rfl⟩:=aI rfl hns;generalize hC:HJ ds Bq (k+1) s t=X at hns ⊢;rw[T6] at hC;have hn0:=hns;rw[←hC] at hn0;have hn1:=UF hn0;refine A9 Tryz.func53 O oQ (n:=116) O O (A3 (BP O (BY O) fun b3=>Ax A8 2 [] O (A3 (A2 A8 2 [0] O (Dg [1] O O O (.inl ⟨O,O,O⟩) (Mx ds hE k m t s hJ hn1) ⟨_,_,O,O,O⟩ Aq (aw (we O) (aw (we O) (FB))) (fun _ _ h=>(congrArg List.length h).trans O) ?_ ?_)))))
  rotate_left
  ·intro e _ he;exact⟨O,_,List.nil_sublist _,⟨_,by rw[←hC];exact TO hn0 he,rfl⟩⟩
  rintro⟨pr,n2⟩ _ hz rfl;obtain⟨hr2,hr3⟩:=Tc hn0 hz;rw[hr3] at hC;have hJ2:=PX hJ (Hj hz);have hsp:m7 pr:=Xy hr2;have hsl:=hsp.len;have hss:=hsp.sz;have hsa:=hsp.asz;refine Av O (BM O O (LL pr hsp.nd Ab) O) (A2 A8 3 [] O (BP O (BE B8 O) fun b6=>Ax A8 2 [0,1] O (Az (A3 (Av O (Aw Dq O O) ?_)))));generalize hz:(BD pr).1=z;obtain⟨zk,zi,zn,zl,zs⟩:=z;have hzo:okB (.mk zk zi zn zl zs)=true:=hz▸hsp.head;have hzq:=hz;have hzl:=K3 hzo;have hzn:=(Ch.1 hzo).nd;refine Ax A8 1 [0] O (BH (Ay A8 2 [] O (A0 O (fun c=>?_) (fun c=>?_))))
  ·(try simp only[sd,se] at c);have hk:=(congrArg Tm.kind hzq).trans c;rw[SX (r:=(pr,n2)) hk,hzq] at hC;refine Ay A8 4 [0] O (A4 (⟨O,_,_,⟨_,_,O,O,⟨_,_,O,O,O⟩⟩,(CO (is:=[2]) O),?_⟩));exact⟨⟨_,_⟩,DC hC.symm,O,O⟩
  (try simp only[sd,se] at c);refine Az (Ay A8 2 [] O (Bb [0,6,7,25] 30 (fun y=>y= .p (.bool (decide (zk=9∨zk=10)))) ?_ ?_))
  ·refine A0 O (fun c1=>?_) (fun c1=>?_)
   ·(try simp only[sd,se] at c1);exact A5 (⟨O,O,(List.Sublist.refl _),(by refine pB (Bool.eq_iff_iff.2 ?_);simp only[beq_iff_eq,decide_eq_true_eq];omega),⟨O,O,O,O,Au⟩⟩)
   (try simp only[sd,se] at c1);exact A7 (Ax A8 2 [] O (⟨O,O,(List.Sublist.refl _),(by refine pB (Bool.eq_iff_iff.2 ?_);simp only[beq_iff_eq,decide_eq_true_eq];omega),⟨O,O,O,O,Au⟩⟩))
  rintro _ rfl;refine A0 O (fun c1=>?_) (fun c1=>?_)
  ·(try simp only[sd,se] at c1);have hk9:zk=9∨zk=10:=by simpa using c1
   refine A3 (A2 A8 3 [0] O ?_);obtain⟨x,hx⟩:=BB (l:=zs) (i:=0) Ar;rw[YU (r:=(pr,n2)) (by rw[hzq];exact hk9) (by rw[hzq];exact hx)] at hC;refine Av O (BA Br O O Ar (Bj hx) (BJ _)) (Av O (BO Ba O (BJ _)) (Dg [2] O O O (.inl ⟨O,O,O⟩) (ih k Ar m x n2 hJ2 (by rw[hC];exact hns)) ⟨_,_,O,O,O⟩ Aq (aw (we O) (aw (we O) (FB))) (fun _ _ h=>(congrArg List.length h).trans O) ?_ ?_))
   rotate_left
   ·intro e _ he;exact⟨O,_,List.nil_sublist _,⟨_,by rw[←hC];exact he,rfl⟩⟩
   rintro⟨q,n21⟩ _ hz1 rfl;have hfin:=hz1;refine Ax A8 4 [] O (A4 (⟨O,_,_,⟨_,_,O,O,⟨_,_,O,O,O⟩⟩,(CO (is:=[2]) O),?_⟩));exact⟨⟨q,n21⟩,by rw[←hC];exact hfin,rfl,rfl⟩
  (try simp only[sd,se] at c1);refine Ay A8 2 [] O (A0 O (fun c2=>?_) (fun c2=>?_))
  ·(try simp only[sd,se] at c2);have hk:=(congrArg Tm.kind hzq).trans c2;refine A3 (A2 A8 2 [0] O (Av O (Co [2] O (.inl ⟨O,O,O⟩) (OP m ds n2 (.mk zk zi zn zl zs:Tm) hE.g.env) ⟨_,_,O,O,O⟩ Aq O (.inl O)) (A2 A8 3 [] O (BP O (BE IK O) fun b8=>Ax A8 2 [0,1] O (Az (Ay A8 2 [] O (A0 O (fun c3=>?_) (fun c3=>?_))))))))
   ·(try simp only[sd,se] at c3);rw[Yu (r:=(pr,n2)) hk (.inl (by rw[hzq];exact c3))] at hC;refine Ay A8 2 [] O (A4 (⟨O,_,_,⟨_,_,O,O,⟨_,_,O,O,O⟩⟩,(CO (is:=[3]) O),?_⟩));exact⟨⟨_,_⟩,DC hC.symm,O,O⟩
   (try simp only[sd,se] at c3);have hu:=c3;obtain⟨ix,dd,e1,e2,e3,e4⟩:=LD hu;have hde:=e2.decl;have hdg:=h2.g.all _ e3;have hel:=h2.g.env.len;have hil:=(List.getElem?_eq_some_iff.1 e1).1;have hfx:=hdg.fx;have hnr:=LI hdg;have hcl:=hdg.din.cl;have hfl:=hdg.din.fl;refine A5 (Az (Tp [.val (.ptr m 0),.val (.ptr m 0),.val (.ptr m (0+0)),.val (.p (.lst (List.map Bo ds))),.val (.ptr b8 (0+1)),.val (.p (I (((Bw ds (.mk zk zi zn zl zs:Tm).name).1).decl))),.val (.ref (Bo dd)),.val (.agg ((Bo dd).map .p)),.new [.p (I 0),.p (.str ⟨#[]⟩),.p (I 0),.p (I 0),.p (I 0),.p (.str ⟨#[]⟩),.p (.nils),.p (.nils),.p (I 0),.p (I 0),.p (.str ⟨#[]⟩),.p (.nils),.p (.nils),.p (I 0),.p (.nils),.p (I 0),.p (I 0),.p (I 0),.p (.str ⟨#[]⟩),.p (.nils),.p (.nils),.p (.nils),.p (.nils)]] Eg O An An (Df O (fun Bs=>BC O) (Df O (fun Bs=>DB O) (Df O (fun Bs=>Aw Q4 O O) (Df O (fun Bs=>BG (i:=Bs.length+3) Qu O (CX O) O) (Df O (fun Bs=>Aw E8 O O) ?_)))))));refine Df O (fun Bs=>A6 (i:=Bs.length+0) C7 O (CX O) (ER _)) (Df O (fun Bs=>BA Iv O O Ar (En e4) (Cp _)) (Df O (fun Bs=>BO Ew O (Cp _)) (Vt O (fun Bs=>BE MY O) fun b10=>XE ?_)))
   change AL _ _ _ 9 ⟨116,_,[.box b10 [.p (I 0),.p (.str ⟨#[]⟩),.p (I 0),.p (I 0),.p (I 0),.p (.str ⟨#[]⟩),.p (.nils),.p (.nils),.p (I 0),.p (I 0),.p (.str ⟨#[]⟩),.p (.nils),.p (.nils),.p (I 0),.p (.nils),.p (I 0),.p (I 0),.p (I 0),.p (.str ⟨#[]⟩),.p (.nils),.p (.nils),.p (.nils),.p (.nils)],.box b8 ((Dj ((Bw ds (.mk zk zi zn zl zs:Tm).name).1)).map .p),.box b6 [.p (I zk),.p (I zi),.p (.str zn),.p (.lst (List.map CD zl)),.p (.lst (BK zs))],.box b3 ((BU t).map .p),.box m [.p (.lst (List.map Bo ds)),.p (I n2)]],[]⟩ _
   refine Ax A8 1 [0,1] O (A3 (Av O (Aw E8 O O) (Av O (A6 (i:=1) C7 O O (DP _)) (Bk O (BH (Ay A8 2 [] O (A0 O (fun c4=>?_) (fun c4=>?_))))))))
   ·(try simp only[sd,se] at c4);have hk5:=c4;refine A3 (Av O (BI (i:=0) Ew O O Ah) (Av O (BM O O (Nj dd hdg.din hdg.fx) O) (Ax A8 1 [] O (A3 (B0 O (Av O (BS Br O (Bc _)) (Ax A8 2 [] O (A0 O (fun c5=>?_) (fun c5=>?_)))))))))
    ·(try simp only[sd,se] at c5);refine A3 (A2 A8 3 [] O ?_);obtain⟨x,hx⟩:=BB (l:=(BD pr).2) (i:=(Cc dd:Int).toNat) Ar;rw[aa (r:=(pr,n2)) hk (by rw[hzq];exact hu) rfl (by rw[hzq];exact e4) (by rw[hzq];exact hk5) Ar hx] at hC;refine Av O (BA Br O O Ar (Bj hx) (BJ _)) (Av O (BO Ba O (BJ _)) (Dg [4] O O O (.inl ⟨O,O,O⟩) (ih k Ar m x n2 hJ2 (by rw[hC];exact hns)) ⟨_,_,O,O,O⟩ Aq (aw (we O) (aw (we O) (FB))) (fun _ _ h=>(congrArg List.length h).trans O) ?_ ?_))
     rotate_left
     ·intro e _ he;exact⟨O,_,List.nil_sublist _,⟨_,by rw[←hC];exact he,rfl⟩⟩
     rintro⟨q,n21⟩ _ hz1 rfl;have hfin:=hz1;refine Ax A8 4 [] O (A4 (⟨O,_,_,⟨_,_,O,O,⟨_,_,O,O,O⟩⟩,(CO (is:=[4]) O),?_⟩));exact⟨⟨q,n21⟩,by rw[←hC];exact hfin,rfl,rfl⟩
    (try simp only[sd,se] at c5);rw[Yb (r:=(pr,n2)) hk (by rw[hzq];exact hu) rfl (by rw[hzq];exact e4) (by rw[hzq];exact hk5) Ar] at hC;refine A5 (Ay A8 2 [] O (A4 (⟨O,_,_,⟨_,_,O,O,⟨_,_,O,O,O⟩⟩,(CO (is:=[4]) O),?_⟩)));exact⟨⟨_,_⟩,DC hC.symm,O,O⟩
   (try simp only[sd,se] at c4);have hk5:=c4;refine Ay A8 2 [] O (A0 O (fun c5=>?_) (fun c5=>?_))
   ·(try simp only[sd,se] at c5);have hk6:=c5;obtain⟨fk,ff,f1,f2⟩:=e2.func hk6;have hff:dd.funs[(Bw ds (Tm.mk zk zi zn zl zs).name).1.item.toNat]?=some ff:=by rw[f2];simpa using f1
    have hfm:=List.mem_of_getElem? hff;have hfa:=hdg.fu ff hfm;have hfi:=(List.getElem?_eq_some_iff.1 f1).1;refine A3 (Av O (Aw Cm O O) (Av O (A6 (i:=0) HS O O (CI _)) (Av O (Aw E8 O O) (Av O (A6 (i:=1) C7 O O (Gt _)) (Av O (BA G9 O O Ar (Ec hff) (DQ _)) (Av O (BO Z6 O (DQ _)) (BP O (BE Zl O) fun b12=>Ax A8 1 [0,1] O (Az (A3 (B0 O (Av O (BS Br O (Bc _)) (Av O (Aw G2 O O) (Av O (A6 (i:=0) C7 O O (Cb _)) (Ax A8 1 [] O (A0 O (fun c6=>?_) (fun c6=>?_))))))))))))))))
    ·(try simp only[sd,se] at c6);rw[Y1 (r:=(pr,n2)) hk (by rw[hzq];exact hu) rfl (by rw[hzq];exact e4) (by rw[hzq];exact hk6) (by rw[hzq];exact hff) (by show ¬ff.arity≤((BD pr).2.length:Int);omega)] at hC;refine Ay A8 2 [] O (A4 (⟨O,_,_,⟨_,_,O,O,⟨_,_,O,O,O⟩⟩,(CO (is:=[5]) O),?_⟩));exact⟨⟨_,_⟩,DC hC.symm,O,O⟩
    (try simp only[sd,se] at c6);refine A5 (Az ?_);rw[Uv (r:=(pr,n2)) hk (by rw[hzq];exact hu) rfl (by rw[hzq];exact e4) (by rw[hzq];exact hk6) (by rw[hzq];exact hff) (by show ff.arity≤((BD pr).2.length:Int);omega)] at hC;have hn0b:=hns;rw[←hC] at hn0b;have hn2:=JI hn0b;obtain⟨e,he⟩ | ⟨⟨q,n21⟩,hz1⟩:=FY ((EH ds Bq (DJ ds Bq k) k ff.tree (((BD pr).2).take ((ff.arity:Int).toNat)) Be n2).ex)
    ·refine IJ ((fun _=> .p (.iface 122 .unit)) e) 7 [.val (.ptr m 0),.val (.ptr b12 (0+7)),.val (.agg ((DA ff.tree).map .p)),.val (.p (.lst (BK ((BD pr).2)))),.val (.ptr b12 (0+6)),.val (.p (I ff.arity)),.val (.p (.lst (BK (((BD pr).2).take ((ff.arity:Int).toNat))))),.val (.p .any),.val (.p .any),.val (.p .any),.val (.p .any),.val (.p .any),.val (.p .any),.new [.p (I 0),.p (I 0),.p (.str ⟨#[]⟩),.p (.nils),.p (.nils)],.new [.p (I 0),.p (I 0),.p (.str ⟨#[]⟩),.p (.nils),.p (.nils)],.val (.p .any),.val (.p .any),.val (.p .any),.val (.p .any)] Eg O An O Au (fun _ _=>by exact⟨rfl,_,List.nil_sublist _,⟨_,by rw[←hC];exact J8 hn0b he,rfl⟩⟩) ?_;refine CA O O (fun Bs=>BC O) (CA O O (fun Bs=>Aw G2 O O) (CA O O (fun Bs=>B4 (i:=Bs.length+0) It O (CX O) (ET _) (Cq _)) (CA O O (fun Bs=>BC O) (CA O O (fun Bs=>Aw G2 O O) (CA O O (fun Bs=>A6 (i:=Bs.length+0) C7 O (CX O) (Cb _)) (CA O O (fun Bs=>Cz (lo:=0) (hi:=(ff.arity:Int).toNat) Br O (CQ (B9 _)) O ⟨_,pI Ar⟩ (Nat.zero_le _) AQ (Sa ((BD pr).2) ((ff.arity:Int).toNat))) (Jz (mkp:=(fun _=> .p (.iface 122 .unit))) (e:=e) [5] he O O (.inl ⟨O,O,O⟩) (Ph k k m ds ff.tree (((BD pr).2).take ((ff.arity:Int).toNat)) n2 (Mx ds hE k) hE.g hJ2 (S5 hE e3 hfm hsp.args) hn2) ⟨_,_,O,O,O⟩ Aq (aw (we O) (aw (we O) (aw (we O) (FB)))) (C8 O O An (C8 O O An (C8 O O An ?_))))))))));exact C8 O O An (C8 O O An (Tl O O (fun Bs=>BE B8 O) fun _=>Tl O O (fun Bs=>BE B8 O) fun _=>C8 O O An (C8 O O An (C8 O O An (C8 O O An J5)))))
    rw[Lv hz1] at hC;have hJ3:=Sl hJ2 (Hj hz1);refine IH [.box b12 ((Fe ff).map .p),.box b10 ((Bo dd).map .p),.box b8 ((Dj ((Bw ds (.mk zk zi zn zl zs:Tm).name).1)).map .p),.box b6 [.p (I zk),.p (I zi),.p (.str zn),.p (.lst (List.map CD zl)),.p (.lst (BK zs))],.box b3 ((BU t).map .p),.box m [.p (.lst (List.map Bo ds)),.p (I n21)]] 7 [.val (.ptr m 0),.val (.ptr b12 (0+7)),.val (.agg ((DA ff.tree).map .p)),.val (.p (.lst (BK ((BD pr).2)))),.val (.ptr b12 (0+6)),.val (.p (I ff.arity)),.val (.p (.lst (BK (((BD pr).2).take ((ff.arity:Int).toNat))))),.val (.tup [.agg ((BU (Nz q)).map .p),.p (.lst (BK (Sb q))),.p (.bool q.1.isSome),.agg ((BU q.2).map .p)]),.val (.tup [.agg ((BU (Nz q)).map .p),.p (.lst (BK (Sb q))),.p (.bool q.1.isSome),.agg ((BU q.2).map .p)]),.val (.agg ((BU (Nz q)).map .p)),.val (.p (.lst (BK (Sb q)))),.val (.p (.bool q.1.isSome)),.val (.agg ((BU q.2).map .p)),.new [.p (I 0),.p (I 0),.p (.str ⟨#[]⟩),.p (.nils),.p (.nils)],.new [.p (I 0),.p (I 0),.p (.str ⟨#[]⟩),.p (.nils),.p (.nils)]] [.p .any,.p (.lst (BK (Sb q))),.p (.bool q.1.isSome),.p .any] [10,11,12] Eg O An An An O ?_ ?_
    ·exact Au
    refine Bv O O (fun Bs=>BC O) (Bv O O (fun Bs=>Aw G2 O O) (GB O O O (fun Bs=>B4 (i:=Bs.length+0) It O (CX O) (ET _) (Cq _)) (fun Bs=>B4 (i:=Bs.length+0) It O (CX O) (ET _) (Cq _)) (Bv O O (fun Bs=>BC O) (Bv O O (fun Bs=>Aw G2 O O) (GB O O O (fun Bs=>A6 (i:=Bs.length+0) C7 O (CX O) (Cb _)) (fun Bs=>A6 (i:=Bs.length+0) C7 O (CX O) (Cb _)) (Bv O O (fun Bs=>Cz (lo:=0) (hi:=(ff.arity:Int).toNat) Br O (CQ (B9 _)) O ⟨_,pI Ar⟩ (Nat.zero_le _) AQ (Sa ((BD pr).2) ((ff.arity:Int).toNat))) ?_))))));refine KD O (fun Bs=>G6 [5] O (.inl ⟨O,O,O⟩) (J4 hz1 (Ph k k m ds ff.tree (((BD pr).2).take ((ff.arity:Int).toNat)) n2 (Mx ds hE k) hE.g hJ2 (S5 hE e3 hfm hsp.args) hn2)) ⟨_,_,O,O,O⟩ Aq O (aw (we O) (aw (we O) (aw (we O) (FB))))) (Bv O O (fun Bs=>BC O) (Bv O O (fun Bs=>CB O O) (Bv O O (fun Bs=>CB O O) (Bv O O (fun Bs=>CB O O) (Bv O O (fun Bs=>CB O O) (Ti O O (fun Bs=>BE B8 O) fun b13=>Ti O O (fun Bs=>BE B8 O) fun b16=>KA ?_))))));refine EJ [.box b13 ((BU (Nz q)).map .p),.box b16 [.p (I 0),.p (I 0),.p (.str ⟨#[]⟩),.p (.nils),.p (.nils)],.box b12 ((Fe ff).map .p),.box b10 ((Bo dd).map .p),.box b8 ((Dj ((Bw ds (.mk zk zi zn zl zs:Tm).name).1)).map .p),.box b6 [.p (I zk),.p (I zi),.p (.str zn),.p (.lst (List.map CD zl)),.p (.lst (BK zs))],.box b3 ((BU t).map .p),.box m [.p (.lst (List.map Bo ds)),.p (I n21)]] O (Bd (i:=0) Ba O O O Ak AX (DR _)) ?_;refine EJ [.box b13 ((BU (Nz q)).map .p),.box b16 [.p (I 0),.p (I 0),.p (.str ⟨#[]⟩),.p (.nils),.p (.nils)],.box b12 ((Fe ff).map .p),.box b10 ((Bo dd).map .p),.box b8 ((Dj ((Bw ds (.mk zk zi zn zl zs:Tm).name).1)).map .p),.box b6 [.p (I zk),.p (I zi),.p (.str zn),.p (.lst (List.map CD zl)),.p (.lst (BK zs))],.box b3 ((BU t).map .p),.box m [.p (.lst (List.map Bo ds)),.p (I n21)]] O (Bf O) (EJ [.box b13 ((BU (Nz q)).map .p),.box b16 [.p (I 0),.p (I 0),.p (.str ⟨#[]⟩),.p (.nils),.p (.nils)],.box b12 ((Fe ff).map .p),.box b10 ((Bo dd).map .p),.box b8 ((Dj ((Bw ds (.mk zk zi zn zl zs:Tm).name).1)).map .p),.box b6 [.p (I zk),.p (I zi),.p (.str zn),.p (.lst (List.map CD zl)),.p (.lst (BK zs))],.box b3 ((BU t).map .p),.box m [.p (.lst (List.map Bo ds)),.p (I n21)]] O (Bf O) ?_)
    refine EJ [.box b13 ((BU (Nz q)).map .p),.box b16 ((BU q.2).map .p),.box b12 ((Fe ff).map .p),.box b10 ((Bo dd).map .p),.box b8 ((Dj ((Bw ds (.mk zk zi zn zl zs:Tm).name).1)).map .p),.box b6 [.p (I zk),.p (I zi),.p (.str zn),.p (.lst (List.map CD zl)),.p (.lst (BK zs))],.box b3 ((BU t).map .p),.box m [.p (.lst (List.map Bo ds)),.p (I n21)]] O (Bd (i:=1) Ba O O O Ak AX (DR _)) (J2 (Az (Bb [0,16] 110 (fun y=>y= .p (.bool ((!q.1.isSome)&&(!(NQ q.2 Be))))) ?_ ?_)))
    ·refine A7 (A2 A8 3 [] O (BQ 105 O (fun g=>?_) (fun g=>?_)))
     ·(try simp only[sd,se] at g);exact A2 A8 2 [1] O (BF O (G1 O O (eX q.2 (.mk 0 0 ⟨#[]⟩ [] []:Tm) O O) (aw (we O) (aw (Dz O) (FB)))) (Ax A8 2 [] O (⟨O,O,AK,(by first | rfl | (refine pB ?_;rw[g];rfl)),⟨O,O,Au⟩⟩)))
     (try simp only[sd,se] at g);exact Ax A8 5 [] O (⟨O,O,AK,(by first | rfl | (refine pB ?_;rw[g];rfl)),⟨O,O,Au⟩⟩)
    rintro _ rfl;refine A0 O (fun c7=>?_) (fun c7=>?_)
    ·(try simp only[sd,se] at c7);rw[X5 (by simpa using c7.1) rfl (by simpa using c7.2)] at hC;refine A3 (A2 A8 2 [1] O (Dg [7] O O O (.inl ⟨O,O,O⟩) (ih k Ar m q.2 n21 hJ3 (by rw[hC];exact hns)) ⟨_,_,O,O,O⟩ Aq (aw (we O) (aw (we O) (FB))) (fun _ _ h=>(congrArg List.length h).trans O) ?_ ?_))
     rotate_left
     ·intro e _ he;exact⟨O,_,List.nil_sublist _,⟨_,by rw[←hC];exact he,rfl⟩⟩
     rintro⟨q1,n22⟩ _ hz2 rfl;have hfin:=hz2;refine Ax A8 4 [] O (A4 (⟨O,_,_,⟨_,_,O,O,⟨_,_,O,O,O⟩⟩,(CO (is:=[7]) O),?_⟩));exact⟨⟨q1,n22⟩,by rw[←hC];exact hfin,rfl,rfl⟩
    (try simp only[sd,se] at c7);rw[ZR (by by_cases hqs:q.1.isSome=true;exact .inl hqs;exact .inr (.inr (by simpa [hqs] using c7)))] at hC;refine A5 (Ay A8 2 [] O (A4 (⟨O,_,_,⟨_,_,O,O,⟨_,_,O,O,O⟩⟩,(CO (is:=[7]) O),?_⟩)));exact⟨⟨_,_⟩,DC hC.symm,O,O⟩
   (try simp only[sd,se] at c5);rw[Qx (r:=(pr,n2)) hk (by rw[hzq];exact hu) rfl (by rw[hzq];exact hk5) (by rw[hzq];exact c5)] at hC;refine A5 (Ay A8 2 [] O (A4 (⟨O,_,_,⟨_,_,O,O,⟨_,_,O,O,O⟩⟩,(CO (is:=[4]) O),?_⟩)));exact⟨⟨_,_⟩,DC hC.symm,O,O⟩
  (try simp only[sd,se] at c2);rw[gq (r:=(pr,n2)) (by rw[hzq];assumption) (by rw[hzq];show ¬zk=9;omega) (by rw[hzq];show ¬zk=10;omega) (by rw[hzq];assumption)] at hC;refine A5 (Ay A8 2 [] O (A4 (⟨O,_,_,⟨_,_,O,O,⟨_,_,O,O,O⟩⟩,(CO (is:=[2]) O),?_⟩)));exact⟨⟨_,_⟩,DC hC.symm,O,O⟩
theorem bW:∀(ds:List CM) (N m bt bo bk:Nat) (t:Tm) (s:Int),(HD ds)→(GH s)→(HJ ds Bq N s t≠ .stuck)→Bu Tryz.prog 52 [.ptr m 0,.ptr bt 0,.ptr bo 0,.ptr bk 0] [.box m [.p (.lst (List.map Bo ds)),.p (I s)],.box bt ((BU t).map .p),.box bo [.p (I 0)],.box bk [.p (.bool false)]] (KQ (fun(r:Option Int×Int)=> .tup []) (fun _=> .p (.iface 122 .unit)) (fun r H'=>H'=[.box m [.p (.lst (List.map Bo ds)),.p (I r.2)],.box bt ((BU t).map .p),.box bo [.p (I (r.1.getD 0))],.box bk [.p (.bool r.1.isSome)]]) ((HJ ds Bq N s t).ex)):=by
 intro ds N m bt bo bk t s h1 h2 h3;refine A9 Tryz.func52 O pc (n:=11) O O (A7 (A2 A8 2 [1] O (Dg [0] O O O (.inl ⟨O,O,O⟩) (Wc ds h1 N m t s h2 h3) ⟨_,_,O,O,O⟩ Aq (aw (we O) (aw (we O) (FB))) (fun _ _ h=>(congrArg List.length h).trans O) ?_ ?_)))
 rotate_left
 ·intro e _ he;exact⟨O,_,List.nil_sublist _,⟨_,he,O⟩⟩
 rintro⟨q,n2⟩ _ hz rfl;refine Ax A8 5 [2,0,3,0] O ⟨O,_,_,O,(CO (is:=[0,1,2,3]) O),?_⟩;exact⟨⟨q,n2⟩,hz,O,O⟩
theorem Z4:∀(ds:List CM) (N:Nat) (t:Tm),(HD ds)→(HJ ds Bq N 20000 t≠ .stuck)→FF Tryz.prog 18 [.p (.lst (List.map Bo ds)),.agg ((BU t).map .p)] (.tup [.p (I ((bE (HJ ds Bq N 20000 t)).1)),.p (.bool ((bE (HJ ds Bq N 20000 t)).2.1)),.p (I ((bE (HJ ds Bq N 20000 t)).2.2))]):=by
 intro ds N t h1 h2;refine A9 Tryz.func18 O oZ (n:=18) O O (A3 (BP O (BY O) fun b3=>Ax A8 3 [] O (A3 (BP O (BE fj O) fun b7=>BP O (BE qC O) fun b8=>Ax A8 2 [1,0,0,0] O (Az ?_)))));obtain⟨e,he⟩ | ⟨⟨q,n2⟩,ha⟩:=FY ((HJ ds Bq N 20000 t).ex)
 ·refine A7 (A2 A8 2 [] O (UK [2,1,0] O O O (.inl ⟨O,O,O⟩) (RK _ _ he (fun r=>r.2) (fun r=>[.box b3 ((BU t).map .p),.box b7 [.p (I (r.1.getD 0))],.box b8 [.p (.bool r.1.isSome)]]) 52 [.ptr b3 0,.ptr b7 0,.ptr b8 0] [.box b3 ((BU t).map .p),.box b7 [.p (I 0)],.box b8 [.p (.bool false)]] ds (fun m=>bW ds N m b3 b7 b8 t 20000 h1 LS h2)) ⟨_,_,O,O,⟨_,_,O,O,⟨_,_,O,O,O⟩⟩⟩ Aq (DS _) (Ax A8 1 [] O (Az (Ay A8 2 [] O ?_)))));refine A0 O (fun c=>?_) (fun c=>by cases c);refine Ay A8 4 [] O (A4 (⟨O,_,_,⟨_,_,O,O,⟨_,_,O,O,⟨_,_,O,O,O⟩⟩⟩,(List.nil_sublist _),?_⟩))
  all_goals exact⟨by show (.tup [.p (I 0),.p (.bool false),.p (I 11)]:AV)=_;rw[j8 he],rfl⟩
 refine A7 (A2 A8 2 [] O (Av O (Co [2,1,0] O (.inl ⟨O,O,O⟩) (UC _ _ ha (fun r=>r.2) (fun r=>[.box b3 ((BU t).map .p),.box b7 [.p (I (r.1.getD 0))],.box b8 [.p (.bool r.1.isSome)]]) 52 [.ptr b3 0,.ptr b7 0,.ptr b8 0] [.box b3 ((BU t).map .p),.box b7 [.p (I 0)],.box b8 [.p (.bool false)]] ds (fun m=>bW ds N m b3 b7 b8 t 20000 h1 LS h2)) ⟨_,_,O,O,⟨_,_,O,O,⟨_,_,O,O,O⟩⟩⟩ Aq O (.inl O)) (Ax A8 1 [] O (Az (Ay A8 2 [] O ?_)))));refine A0 O (fun c=>by cases c) (fun c=>?_);refine A5 (Az (CG (fun k=>false) Eg (BT (j:=1) O O O (fun H i hi=>BG (i:=i) C7 O hi O) AB Au (BT (j:=0) O O O (fun H i hi=>BG (i:=i) iY O hi O) AB Au (A1 O (fun _=>Bf O) Au (A1 O (fun _=>Bf O) Au (A1 O (fun _=>Bf O) Au (B6 O An (A4 (⟨O,_,_,⟨_,_,O,O,⟨_,_,O,O,⟨_,_,O,O,O⟩⟩⟩,(List.nil_sublist _),?_⟩))))))))))
 all_goals exact⟨by show (.tup [.p (I (q.getD 0)),.p (.bool q.isSome),.p (I 0)]:AV)=_;rw[ju ha],rfl⟩
end Go.Proofs.YtboammbpdaoojaaGreat
