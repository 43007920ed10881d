/- Part of the proofs: an abstract program logic, plain models and contracts of functions. -/
import Derived.Test.YtboammbpdaoojaaGreatPh
import Derived.Test.YtboammbpdaoojaaGreatPd
set_option linter.unusedVariables false
set_option linter.unusedSimpArgs false
set_option maxRecDepth 100000
namespace Go.Proofs.YtboammbpdaoojaaGreat
open Go.Abs Go.Eu
theorem cu:∀(n m:Nat) (ds:List Cc) (s:Int) (x:Gf) (g:Tm) (a:List Tm) (d:Cc) (f:Hj),(mS ds n)→(Ha ds)→(HF s)→(ds[x.decl.toNat]?=some d)→(0≤x.decl)→(d.funs[x.item.toNat]?=some f)→(0≤x.item)→(okB g=true)→(a.length<549755813888)→(∀y∈a,okB y=true)→(JP ds CI (D6 ds CI n) n f g a s≠ .stuck)→B4 Tryz.prog 108 [.ptr m 0,.agg ((Dp x).map .p),.agg ((Bg g).map .p),.p (.lst (BO a))] [.box m [.p (.lst (List.map Bw ds)),.p (I s)]] (LK (fun(r:Option Tm×Int)=> .tup [TV (r.1.getD Bu),.p (.bool r.1.isSome)]) (fun _=> .p (.iface 122 .unit)) (fun r H'=>H'=[.box m [.p (.lst (List.map Bw ds)),.p (I r.2)]]) ((JP ds CI (D6 ds CI n) n f g a s).ex)):=by
 intro n m ds s x g a d f hW h2 h3 h4 h5 h6 h7 h8 h9 h10 hns;obtain⟨gk,gi,gn,gl,gs⟩:=g;have hgo:=Cd.1 h8;have hgl:=hgo.nd;simp only[Nd,Dt] at hgl;have hdm:=List.mem_of_getElem? h4;have hfm:=List.mem_of_getElem? h6;have hfa:=(h2.g.all _ hdm).fu _ hfm;generalize hC:JP ds CI (D6 ds CI n) n f (.mk gk gi gn gl gs:Tm) a s=X at hns ⊢;refine BD Tryz.func108 O mL (n:=70) O O (A4 (BP O (Bf O) fun b5=>BP O (Bf O) fun b6=>BP O (BF B8 O) fun b8=>Az BA 1 [] O (A1 (B7 (fun k=>Nat.beq k 13) D7 (A0 O (fun _=>BB O) Aw (A0 O (fun _=>CW O) Aw (A0 O (fun _=>Ax R6 O O) Aw (BT (j:=3) O O O (fun H i hi=>BG (i:=i) Rg O hi O) AB Aw (A0 O (fun _=>Ax FG O O) Aw (BT (j:=2) O O O (fun H i hi=>A9 (i:=i) C0 O hi (Ds _)) AB Aw (A0 O (fun _=>BC Hv O O Au (EX h4) (Cw _)) Aw (A0 O (fun _=>Bp Cv O O) Aw (A0 O (fun _=>DP Hn O (CV _)) Aw (A0 O (fun _=>Ax FG O O) Aw ?_))))))))))))));refine BT (j:=2) O O O (fun H i hi=>A9 (i:=i) C0 O hi (F6 _)) AB Aw (A0 O (fun _=>BC HW O O Au (Es h6) (Dd _)) Aw (A0 O (fun _=>BQ aN O (Dd _)) Aw (HJ [] O O (BF X2 O) Ap fun b10=>⟨AB,Aw,?_⟩)));refine CF O O (Bc (i:=0) aN O O O (by simp[Dd]) (by first | rfl | simp[Dd]) (YQ _)) AB Aw (Bv O Ap (A1 (A4 (B6 O (Ay O (BZ Bq O (Bh _)) (Ay O (Ax Gu O O) (Ay O (A9 (i:=0) C0 O O (Ch _)) (Az BA 1 [] O (A3 O (fun c=>?_) (fun c=>?_))))))))))
 ·(try simp only[sd,se] at c);rw[KS Au] at hC;refine A2 BA 3 [1,0] O (BS (Bj (i:=1) O) (A6 (⟨O,_,_,⟨_,_,O,(BJ (i:=1) Bd O O O),⟨_,_,O,O,O⟩⟩,(CJ (is:=[4]) O),?_⟩)));exact⟨⟨none,s⟩,De hC.symm,O,O⟩
 (try simp only[sd,se] at c);have hl0:¬(a.length:Int)<f.arity:=by omega
 refine A7 (A1 ?_);rw[KI hl0] at hC;have hn0:=hns;rw[←hC] at hn0;have hn1:=Jz hn0;obtain⟨e,he⟩ | ⟨⟨q,n2⟩,hz⟩:=GD ((EE ds CI (D6 ds CI n) n f.tree (a.take ((f.arity:Int).toNat)) Bu s).ex)
 ·refine I7 ((fun _=> .p (.iface 122 .unit)) e) 7 [.val (.ptr m 0),.val (.ptr b10 (0+7)),.val (.agg ((DF f.tree).map .p)),.val (.p (.lst (BO a))),.val (.ptr b10 (0+6)),.val (.p (I f.arity)),.val (.p (.lst (BO (a.take ((f.arity:Int).toNat))))),.val (.p .any),.val (.p .any),.val (.p .any),.val (.p .any),.val (.p .any),.val (.p .any),.new [.p (I 0),.p (I 0),.p (.str ⟨#[]⟩),.p (.nils),.p (.nils)],.new [.p (I 0),.p (I 0),.p (.str ⟨#[]⟩),.p (.nils),.p (.nils)],.val (.p .any),.val (.p .any),.val (.p .any),.val (.p .any)] D7 O Ap O Aw (fun _ _=>by exact⟨rfl,_,List.nil_sublist _,⟨_,by rw[←hC];exact Kx hn0 he,rfl⟩⟩) ?_;refine CL O O (fun Bs=>BB O) (CL O O (fun Bs=>Ax Gu O O) (CL O O (fun Bs=>CC (i:=Bs.length+0) HM O (Cn O) (EI _) (C7 _)) (CL O O (fun Bs=>BB O) (CL O O (fun Bs=>Ax Gu O O) (CL O O (fun Bs=>A9 (i:=Bs.length+0) C0 O (Cn O) (Ch _)) (CL O O (fun Bs=>Cp (lo:=0) (hi:=(f.arity:Int).toNat) Bq O (CT (B9 _)) O ⟨_,pI Au⟩ (Nat.zero_le _) AR (Oo a ((f.arity:Int).toNat))) (K0 (mkp:=(fun _=> .p (.iface 122 .unit))) (e:=e) [4] he O O (.inl ⟨O,O,O⟩) (QM n n m ds f.tree (a.take ((f.arity:Int).toNat)) s hW h2.g h3 (Pz h2 hdm hfm h10) hn1) ⟨_,_,O,O,O⟩ As (aw (we O) (aw (we O) (aw (we O) (FH)))) (DS O O Ap (DS O O Ap (DS O O Ap (DS O O Ap (DS O O Ap ?_))))))))))));exact U3 O O (fun Bs=>BF B8 O) fun _=>U3 O O (fun Bs=>BF B8 O) fun _=>DS O O Ap (DS O O Ap (DS O O Ap (DS O O Ap Kq)))
 rw[MR hz] at hC;have hlo:=RB h2.g _ _ _ _ _ _ _ (Pz h2 hdm hfm h10) (Ii hz);have hJ2:=Ss h3 (Ii hz);refine IN [.box b10 ((Fa f).map .p),.box b8 [.p (I 0),.p (I 0),.p (.str ⟨#[]⟩),.p (.nils),.p (.nils)],.box b6 [.p (I gk),.p (I gi),.p (.str gn),.p (.lst (List.map CE gl)),.p (.lst (BO gs))],.box b5 ((Dp x).map .p),.box m [.p (.lst (List.map Bw ds)),.p (I n2)]] 7 [.val (.ptr m 0),.val (.ptr b10 (0+7)),.val (.agg ((DF f.tree).map .p)),.val (.p (.lst (BO a))),.val (.ptr b10 (0+6)),.val (.p (I f.arity)),.val (.p (.lst (BO (a.take ((f.arity:Int).toNat))))),.val (.tup [.agg ((Bg (KR q)).map .p),.p (.lst (BO (Nl q))),.p (.bool q.1.isSome),.agg ((Bg q.2).map .p)]),.val (.tup [.agg ((Bg (KR q)).map .p),.p (.lst (BO (Nl q))),.p (.bool q.1.isSome),.agg ((Bg q.2).map .p)]),.val (.agg ((Bg (KR q)).map .p)),.val (.p (.lst (BO (Nl q)))),.val (.p (.bool q.1.isSome)),.val (.agg ((Bg q.2).map .p)),.new [.p (I 0),.p (I 0),.p (.str ⟨#[]⟩),.p (.nils),.p (.nils)],.new [.p (I 0),.p (I 0),.p (.str ⟨#[]⟩),.p (.nils),.p (.nils)]] [.p .any,.p (.lst (BO (Nl q))),.p (.bool q.1.isSome),.p .any] [10,11,12] D7 O Ap Ap Ap O ?_ ?_
 ·exact Aw
 refine Bz O O (fun Bs=>BB O) (Bz O O (fun Bs=>Ax Gu O O) (GH O O O (fun Bs=>CC (i:=Bs.length+0) HM O (Cn O) (EI _) (C7 _)) (fun Bs=>CC (i:=Bs.length+0) HM O (Cn O) (EI _) (C7 _)) (Bz O O (fun Bs=>BB O) (Bz O O (fun Bs=>Ax Gu O O) (GH O O O (fun Bs=>A9 (i:=Bs.length+0) C0 O (Cn O) (Ch _)) (fun Bs=>A9 (i:=Bs.length+0) C0 O (Cn O) (Ch _)) (Bz O O (fun Bs=>Cp (lo:=0) (hi:=(f.arity:Int).toNat) Bq O (CT (B9 _)) O ⟨_,pI Au⟩ (Nat.zero_le _) AR (Oo a ((f.arity:Int).toNat))) ?_))))));refine J5 O (fun Bs=>G2 [4] O (.inl ⟨O,O,O⟩) (K1 hz (QM n n m ds f.tree (a.take ((f.arity:Int).toNat)) s hW h2.g h3 (Pz h2 hdm hfm h10) hn1)) ⟨_,_,O,O,O⟩ As O (aw (we O) (aw (we O) (aw (we O) (FH))))) (Bz O O (fun Bs=>BB O) (Bz O O (fun Bs=>By O O) (Bz O O (fun Bs=>By O O) (Bz O O (fun Bs=>By O O) (Bz O O (fun Bs=>By O O) (Pd O O (fun Bs=>BF B8 O) fun b11=>Pd O O (fun Bs=>BF B8 O) fun b14=>J6 ?_))))));refine EA [.box b11 ((Bg (KR q)).map .p),.box b14 [.p (I 0),.p (I 0),.p (.str ⟨#[]⟩),.p (.nils),.p (.nils)],.box b10 ((Fa f).map .p),.box b8 [.p (I 0),.p (I 0),.p (.str ⟨#[]⟩),.p (.nils),.p (.nils)],.box b6 [.p (I gk),.p (I gi),.p (.str gn),.p (.lst (List.map CE gl)),.p (.lst (BO gs))],.box b5 ((Dp x).map .p),.box m [.p (.lst (List.map Bw ds)),.p (I n2)]] O (Bc (i:=0) Bd O O O Am Aa (C5 _)) (EA [.box b11 ((Bg (KR q)).map .p),.box b14 [.p (I 0),.p (I 0),.p (.str ⟨#[]⟩),.p (.nils),.p (.nils)],.box b10 ((Fa f).map .p),.box b8 [.p (I 0),.p (I 0),.p (.str ⟨#[]⟩),.p (.nils),.p (.nils)],.box b6 [.p (I gk),.p (I gi),.p (.str gn),.p (.lst (List.map CE gl)),.p (.lst (BO gs))],.box b5 ((Dp x).map .p),.box m [.p (.lst (List.map Bw ds)),.p (I n2)]] O (Bb O) ?_)
 refine EA [.box b11 ((Bg (KR q)).map .p),.box b14 [.p (I 0),.p (I 0),.p (.str ⟨#[]⟩),.p (.nils),.p (.nils)],.box b10 ((Fa f).map .p),.box b8 [.p (I 0),.p (I 0),.p (.str ⟨#[]⟩),.p (.nils),.p (.nils)],.box b6 [.p (I gk),.p (I gi),.p (.str gn),.p (.lst (List.map CE gl)),.p (.lst (BO gs))],.box b5 ((Dp x).map .p),.box m [.p (.lst (List.map Bw ds)),.p (I n2)]] O (Bb O) (EA [.box b11 ((Bg (KR q)).map .p),.box b14 ((Bg q.2).map .p),.box b10 ((Fa f).map .p),.box b8 [.p (I 0),.p (I 0),.p (.str ⟨#[]⟩),.p (.nils),.p (.nils)],.box b6 [.p (I gk),.p (I gi),.p (.str gn),.p (.lst (List.map CE gl)),.p (.lst (BO gs))],.box b5 ((Dp x).map .p),.box m [.p (.lst (List.map Bw ds)),.p (I n2)]] O (Bc (i:=1) Bd O O O Am Aa (C5 _)) (KC (A1 (A2 BA 2 [] O (A3 O (fun c1=>?_) (fun c1=>?_))))))
 ·(try simp only[sd,se] at c1);rw[JX (.inl (by simpa using c1))] at hC;refine A2 BA 3 [3,0] O (BS (Bj (i:=3) O) (A6 (⟨O,_,_,⟨_,_,O,(BJ (i:=3) Bd O O O),⟨_,_,O,O,O⟩⟩,(CJ (is:=[6]) O),?_⟩)));exact⟨⟨none,n2⟩,De hC.symm,O,O⟩
 (try simp only[sd,se] at c1);rw[Kv (by simpa using c1) rfl] at hC;refine A7 (A4 (A5 BA 3 [0,4] O (Ay O (BN O O (MP (KR q) gl (Cd.1 hlo.1).nd (Cd.1 hlo.1).vp (by have:=F8 hlo.1;omega) hgl.2.1 hgl.2.2.1) O) (Az BA 5 [0,1] O (A1 (A2 BA 2 [] O (A3 O (fun c2=>?_) (fun c2=>?_))))))))
 ·(try simp only[sd,se] at c2);rw[Kl (h:=(.mk gk gi gn gl gs:Tm)) c2] at hC;refine A2 BA 3 [3,0] O (BS (Bj (i:=3) O) (A6 (⟨O,_,_,⟨_,_,O,(BJ (i:=3) Bd O O O),⟨_,_,O,O,O⟩⟩,(CJ (is:=[6]) O),?_⟩)));exact⟨⟨none,n2⟩,De hC.symm,O,O⟩
 (try simp only[sd,se] at c2);obtain⟨hb1,hb2,hb3,hb4⟩:=UR (by rw[hC];exact hns) c2;rw[hb4] at hC;have hn3:=hns;rw[←hC] at hn3;refine A7 (A1 ?_);obtain⟨e,he⟩ | ⟨⟨z,n21⟩,hz1⟩:=GD (JW n2 (Ce ((B1 (KR q) gl).1) (Nl q).reverse 0))
 ·refine I7 ((fun _=> .p (.iface 122 .unit)) e) 3 [.val (.ptr m 0),.val (.agg ((Bg ((B1 (KR q) gl).1)).map .p)),.val (.p (.lst (BO (Nl q)))),.val (.p .any),.val (.p (.lst (BO a))),.val (.ptr b10 (0+6)),.val (.p (I f.arity)),.val (.p (.lst (BO (a.drop ((f.arity:Int).toNat))))),.val (.p .any),.val (.p .any),.val (.p .any)] D7 O Ap O Aw (fun _ _=>by exact⟨rfl,_,List.nil_sublist _,⟨_,by rw[←hC];exact LF hn3 he,rfl⟩⟩) ?_;exact CL O O (fun Bs=>BB O) (CL O O (fun Bs=>BI (i:=Bs.length+0) Bd O (Cn O) Am) (CL O O (fun Bs=>BB O) (K0 (mkp:=(fun _=> .p (.iface 122 .unit))) (e:=e) [6] he O O (.inl ⟨O,O,O⟩) (QW m ds n2 ((B1 (KR q) gl).1) (Nl q) hJ2 hb1 hb2 Au) ⟨_,_,O,O,O⟩ As (aw (we O) (aw (we O) (aw (we O) (FH)))) (CL O O (fun Bs=>BB O) (CL O O (fun Bs=>Ax Gu O O) (CL O O (fun Bs=>A9 (i:=Bs.length+2) C0 O (Cn O) (Ch _)) (CL O O (fun Bs=>Cp (lo:=(f.arity:Int).toNat) Bq O (CT (B9 _)) ⟨_,pI Au⟩ O AR (Nat.le_refl _) (Jo a ((f.arity:Int).toNat))) (DS O O Ap (DS O O Ap (DS O O Ap Kq))))))))))
 rw[Kz hn3 hz1] at hC;refine IN [.box b11 ((Bg ((B1 (KR q) gl).1)).map .p),.box b14 ((Bg q.2).map .p),.box b10 ((Fa f).map .p),.box b8 [.p (I 0),.p (I 0),.p (.str ⟨#[]⟩),.p (.nils),.p (.nils)],.box b6 [.p (I gk),.p (I gi),.p (.str gn),.p (.lst (List.map CE gl)),.p (.lst (BO gs))],.box b5 ((Dp x).map .p),.box m [.p (.lst (List.map Bw ds)),.p (I n21)]] 3 [.val (.ptr m 0),.val (.agg ((Bg ((B1 (KR q) gl).1)).map .p)),.val (.p (.lst (BO (Nl q)))),.val (.agg ((Bg z).map .p)),.val (.p (.lst (BO a))),.val (.ptr b10 (0+6)),.val (.p (I f.arity)),.val (.p (.lst (BO (a.drop ((f.arity:Int).toNat))))),.val (.agg ((Bg (apply z (a.drop ((f.arity:Int).toNat)))).map .p))] [.p .any,.p (.bool true)] [] D7 O Ap Ap Ap O ?_ ?_
 ·exact Aw
 refine Bz O O (fun Bs=>BB O) (GH O O O (fun Bs=>BI (i:=Bs.length+0) Bd O (Cn O) Am) (fun Bs=>BI (i:=Bs.length+0) Bd O (Cn O) Am) (Bz O O (fun Bs=>BB O) (J5 O (fun Bs=>G2 [6] O (.inl ⟨O,O,O⟩) (K1 hz1 (QW m ds n2 ((B1 (KR q) gl).1) (Nl q) hJ2 hb1 hb2 Au)) ⟨_,_,O,O,O⟩ As O (aw (we O) (aw (we O) (aw (we O) (FH))))) (Bz O O (fun Bs=>BB O) (Bz O O (fun Bs=>Ax Gu O O) (GH O O O (fun Bs=>A9 (i:=Bs.length+2) C0 O (Cn O) (Ch _)) (fun Bs=>A9 (i:=Bs.length+2) C0 O (Cn O) (Ch _)) (Bz O O (fun Bs=>Cp (lo:=(f.arity:Int).toNat) Bq O (CT (B9 _)) ⟨_,pI Au⟩ O AR (Nat.le_refl _) (Jo a ((f.arity:Int).toNat))) ?_)))))));refine Bz O O (fun Bs=>BN O O (Ee z (a.drop ((f.arity:Int).toNat)) AS) O) (J6 (EA [.box b11 ((Bg ((B1 (KR q) gl).1)).map .p),.box b14 ((Bg q.2).map .p),.box b10 ((Fa f).map .p),.box b8 ((Bg (apply z (a.drop ((f.arity:Int).toNat)))).map .p),.box b6 [.p (I gk),.p (I gi),.p (.str gn),.p (.lst (List.map CE gl)),.p (.lst (BO gs))],.box b5 ((Dp x).map .p),.box m [.p (.lst (List.map Bw ds)),.p (I n21)]] O (Bc (i:=3) Bd O O O Am Aa (C5 _)) ?_));refine EA [.box b11 ((Bg ((B1 (KR q) gl).1)).map .p),.box b14 ((Bg q.2).map .p),.box b10 ((Fa f).map .p),.box b8 ((Bg (apply z (a.drop ((f.arity:Int).toNat)))).map .p),.box b6 [.p (I gk),.p (I gi),.p (.str gn),.p (.lst (List.map CE gl)),.p (.lst (BO gs))],.box b5 ((Dp x).map .p),.box m [.p (.lst (List.map Bw ds)),.p (I n21)]] O (Bb O) (KC (A6 (⟨O,_,_,⟨_,_,O,(BJ (i:=3) Bd O O Am),⟨_,_,O,O,O⟩⟩,(CJ (is:=[6]) O),?_⟩)));exact⟨⟨some _,_⟩,De hC.symm,O,O⟩
set_option maxHeartbeats 4000000 in
theorem dS:∀(n m:Nat) (ds:List Cc) (s:Int) (g:Tm) (a:List Tm),(mS ds n)→(Ha ds)→(HF s)→(okB g=true)→(a.length<549755813888)→(∀y∈a,okB y=true)→(Eo ds CI (D6 ds CI n) n g a s≠ .stuck)→B4 Tryz.prog 76 [.ptr m 0,.agg ((Bg g).map .p),.p (.lst (BO a))] [.box m [.p (.lst (List.map Bw ds)),.p (I s)]] (LK (fun(r:Option Tm×Int)=> .tup [TV (r.1.getD Bu),.p (.bool r.1.isSome)]) (fun _=> .p (.iface 122 .unit)) (fun r H'=>H'=[.box m [.p (.lst (List.map Bw ds)),.p (I r.2)]]) ((Eo ds CI (D6 ds CI n) n g a s).ex)):=by
 intro n m ds s g a hW h2 h3 h4 h5 h6 hns;obtain⟨gk,gi,gn,gl,gs⟩:=g;have hgo:=Cd.1 h4;have hgl:=hgo.nd;simp only[Nd,Dt] at hgl;generalize hC:Eo ds CI (D6 ds CI n) n (.mk gk gi gn gl gs:Tm) a s=X at hns ⊢;refine BD Tryz.func76 O qV (n:=40) O O (A4 (BP O (Bf O) fun b4=>BP O (BF B8 O) fun b6=>Az BA 1 [] O (A4 (A5 BA 2 [1] O (Ay O (CS [2] O (.inl ⟨O,O,O⟩) (O3 m ds s (.mk gk gi gn gl gs:Tm) h2.g.env) ⟨_,_,O,O,O⟩ As O (.inl O)) (A5 BA 3 [] O (BP O (BF IA O) fun b8=>Az BA 2 [0,1] O (A1 (A2 BA 2 [] O (A3 O (fun c=>?_) (fun c=>?_)))))))))))
 ·(try simp only[sd,se] at c);rw[Jd c] at hC;refine A2 BA 3 [1,0] O (BS (Bj (i:=1) O) (A6 (⟨O,_,_,⟨_,_,O,(BJ (i:=1) Bd O O O),⟨_,_,O,O,O⟩⟩,(CJ (is:=[3]) O),?_⟩)));exact⟨⟨none,s⟩,De hC.symm,O,O⟩
 (try simp only[sd,se] at c);have hu:=c;obtain⟨ix,dd,e1,e2,e3,e4⟩:=KW hu;have hde:=e2.decl;have hdg:=h2.g.all _ e3;have hel:=h2.g.env.len;have hil:=(List.getElem?_eq_some_iff.1 e1).1;have hfx:=hdg.fx;have hnr:=IX hdg;have hcl:=hdg.din.cl;have hfl:=hdg.din.fl;have hki:=e2.kind;have hkp:(B3 ds (Tm.mk gk gi gn gl gs).name).1.kind=0∨(B3 ds (Tm.mk gk gi gn gl gs).name).1.kind=1∨(B3 ds (Tm.mk gk gi gn gl gs).name).1.kind=2∨(B3 ds (Tm.mk gk gi gn gl gs).name).1.kind=3∨(B3 ds (Tm.mk gk gi gn gl gs).name).1.kind=4∨(B3 ds (Tm.mk gk gi gn gl gs).name).1.kind=5∨(B3 ds (Tm.mk gk gi gn gl gs).name).1.kind=6:=by omega
 refine A7 (A1 ?_);rcases hkp with hkk | hkk | hkk | hkk | hkk | hkk | hkk
 ·refine A8 (A5 BA 6 [] O (Ay O (Eg J1 Jm Qu O) (Ay O (Ax FG O O) (Ay O (A9 (i:=0) C0 O O (Dq _)) (Ay O (FT (j:=0) J1 Jm O O (hkk) O As) (Az BA 1 [] O (A1 (A4 (B6 O (Ay O (HI Ap (.inl ⟨O,O⟩) O) (Bt O ?_)))))))))));refine A3 O (fun c1=>?_) (fun c1=>by cases c1);refine A4 ?_;rw[Ig hu Au Au Au] at hC;refine Az BA 3 [1,0] O (BS (Bj (i:=1) O) (A6 (⟨O,_,_,⟨_,_,O,(BJ (i:=1) Bd O O O),⟨_,_,O,O,O⟩⟩,(CJ (is:=[3]) O),?_⟩)));exact⟨⟨none,s⟩,De hC.symm,O,O⟩
 ·refine A8 (A5 BA 6 [] O (Ay O (Eg J1 Jm Qu O) (Ay O (Ax FG O O) (Ay O (A9 (i:=0) C0 O O (Dq _)) (Ay O (FT (j:=1) J1 Jm O O (hkk) O As) (Az BA 1 [] O (A1 (A4 (B6 O (Ay O (HI Ap (.inr ⟨⟨_,_,_,O⟩,O⟩) O) (Bt O ?_)))))))))));refine A3 O (fun c1=>by cases c1) (fun c1=>?_);refine A7 (A4 (A5 BA 4 [0,2] O ?_));rw[JF hu e4 hkk] at hC;refine D8 [3] O O O (.inr O) (WX m ds s ((B3 ds (.mk gk gi gn gl gs:Tm).name).1) (.mk gk gi gn gl gs:Tm) a dd h3 e4 Au hdg h4 h5 (by rw[hC];exact hns)) ⟨_,_,O,O,O⟩ As (aw (we O) (aw (we O) (aw (we O) (aw (we O) (FH))))) (fun _ _ h=>(congrArg List.length h).trans O) ?_ ?_
  rotate_left
  ·intro e _ he;exact⟨O,_,List.nil_sublist _,⟨_,by rw[←hC];exact he,rfl⟩⟩
  rintro⟨q,n2⟩ _ hz rfl;have hfin:=hz;refine Az BA 4 [1,1] O (A6 (⟨O,_,_,⟨_,_,O,(BJ (i:=1) Bd O O Am),⟨_,_,O,O,O⟩⟩,(CJ (is:=[3]) O),?_⟩));exact⟨⟨q,n2⟩,by rw[←hC];exact hfin,rfl,rfl⟩
 ·refine A8 (A5 BA 6 [] O (Ay O (Eg J1 Jm Qu O) (Ay O (Ax FG O O) (Ay O (A9 (i:=0) C0 O O (Dq _)) (Ay O (FT (j:=2) J1 Jm O O (hkk) O As) (Az BA 1 [] O (A1 (A4 (B6 O (Ay O (HI Ap (.inl ⟨O,O⟩) O) (Bt O ?_)))))))))));refine A3 O (fun c1=>?_) (fun c1=>by cases c1);refine A4 ?_;rw[Ig hu Au Au Au] at hC;refine Az BA 3 [1,0] O (BS (Bj (i:=1) O) (A6 (⟨O,_,_,⟨_,_,O,(BJ (i:=1) Bd O O O),⟨_,_,O,O,O⟩⟩,(CJ (is:=[3]) O),?_⟩)));exact⟨⟨none,s⟩,De hC.symm,O,O⟩
 ·refine A8 (A5 BA 6 [] O (Ay O (Eg J1 Jm Qu O) (Ay O (Ax FG O O) (Ay O (A9 (i:=0) C0 O O (Dq _)) (Ay O (FT (j:=3) J1 Jm O O (hkk) O As) (Az BA 1 [] O (A1 (A4 (B6 O (Ay O (HI Ap (.inl ⟨O,O⟩) O) (Bt O ?_)))))))))));refine A3 O (fun c1=>?_) (fun c1=>by cases c1);refine A4 ?_;rw[Ig hu Au Au Au] at hC;refine Az BA 3 [1,0] O (BS (Bj (i:=1) O) (A6 (⟨O,_,_,⟨_,_,O,(BJ (i:=1) Bd O O O),⟨_,_,O,O,O⟩⟩,(CJ (is:=[3]) O),?_⟩)));exact⟨⟨none,s⟩,De hC.symm,O,O⟩
 ·refine A8 (A5 BA 6 [] O (Ay O (Eg J1 Jm Qu O) (Ay O (Ax FG O O) (Ay O (A9 (i:=0) C0 O O (Dq _)) (Ay O (FT (j:=4) J1 Jm O O (hkk) O As) (Az BA 1 [] O (A1 (A4 (B6 O (Ay O (HI Ap (.inl ⟨O,O⟩) O) (Bt O ?_)))))))))));refine A3 O (fun c1=>?_) (fun c1=>by cases c1);refine A4 ?_;rw[Ig hu Au Au Au] at hC;refine Az BA 3 [1,0] O (BS (Bj (i:=1) O) (A6 (⟨O,_,_,⟨_,_,O,(BJ (i:=1) Bd O O O),⟨_,_,O,O,O⟩⟩,(CJ (is:=[3]) O),?_⟩)));exact⟨⟨none,s⟩,De hC.symm,O,O⟩
 ·refine A8 (A5 BA 6 [] O (Ay O (Eg J1 Jm Qu O) (Ay O (Ax FG O O) (Ay O (A9 (i:=0) C0 O O (Dq _)) (Ay O (FT (j:=5) J1 Jm O O (hkk) O As) (Az BA 1 [] O (A1 (A4 (B6 O (Ay O (HI Ap (.inr ⟨⟨_,_,_,O⟩,O⟩) O) (Bt O ?_)))))))))));refine A3 O (fun c1=>by cases c1) (fun c1=>?_);refine A7 (A4 (A5 BA 4 [0,2] O ?_));rw[IJ hu e4 hkk] at hC;refine D8 [3] O O O (.inr O) (lI n m ds s ((B3 ds (.mk gk gi gn gl gs:Tm).name).1) (.mk gk gi gn gl gs:Tm) a dd hW h2.g h3 e4 Au hdg h4 h5 h6 (by rw[hC];exact hns)) ⟨_,_,O,O,O⟩ As (aw (we O) (aw (we O) (aw (we O) (aw (we O) (FH))))) (fun _ _ h=>(congrArg List.length h).trans O) ?_ ?_
  rotate_left
  ·intro e _ he;exact⟨O,_,List.nil_sublist _,⟨_,by rw[←hC];exact he,rfl⟩⟩
  rintro⟨q,n2⟩ _ hz rfl;have hfin:=hz;refine Az BA 4 [1,1] O (A6 (⟨O,_,_,⟨_,_,O,(BJ (i:=1) Bd O O Am),⟨_,_,O,O,O⟩⟩,(CJ (is:=[3]) O),?_⟩));exact⟨⟨q,n2⟩,by rw[←hC];exact hfin,rfl,rfl⟩
 refine A8 (A5 BA 6 [] O (Ay O (Eg J1 Jm Qu O) (Ay O (Ax FG O O) (Ay O (A9 (i:=0) C0 O O (Dq _)) (Ay O (FT (j:=6) J1 Jm O O (hkk) O As) (Az BA 1 [] O (A1 (A4 (B6 O (Ay O (HI Ap (.inr ⟨⟨_,_,_,O⟩,O⟩) O) (Bt O ?_)))))))))));refine A3 O (fun c1=>by cases c1) (fun c1=>?_);refine A7 (A4 (A5 BA 4 [0,2] O ?_));obtain⟨fk,ff,f1,f2⟩:=e2.func hkk;have hff:dd.funs[(B3 ds (Tm.mk gk gi gn gl gs).name).1.item.toNat]?=some ff:=by rw[f2];simpa using f1
 rw[HT hu e4 hkk hff] at hC;refine D8 [3] O O O (.inr O) (cu n m ds s ((B3 ds (.mk gk gi gn gl gs:Tm).name).1) (.mk gk gi gn gl gs:Tm) a dd ff hW h2 h3 e4 Au hff Au h4 h5 h6 (by rw[hC];exact hns)) ⟨_,_,O,O,O⟩ As (aw (we O) (aw (we O) (aw (we O) (aw (we O) (FH))))) (fun _ _ h=>(congrArg List.length h).trans O) ?_ ?_
 rotate_left
 ·intro e _ he;exact⟨O,_,List.nil_sublist _,⟨_,by rw[←hC];exact he,rfl⟩⟩
 rintro⟨q,n2⟩ _ hz rfl;have hfin:=hz;refine Az BA 4 [1,1] O (A6 (⟨O,_,_,⟨_,_,O,(BJ (i:=1) Bd O O Am),⟨_,_,O,O,O⟩⟩,(CJ (is:=[3]) O),?_⟩));exact⟨⟨q,n2⟩,by rw[←hC];exact hfin,rfl,rfl⟩
theorem sD (t:Tm):∀c∈Bg t,c≠ .nils:=by obtain⟨k,i,n,l,s⟩:=t;simp[Bg]
theorem FP (l:List Tm):∀r∈BO l,∀c∈r,c≠ .nils:=by
 intro r hr;rw[El] at hr;obtain⟨t,_,rfl⟩:=List.mem_map.1 hr;exact sD t
set_option maxHeartbeats 4000000 in
theorem Ob:∀(ds:List Cc) (hE:Ha ds) (n:Nat),mS ds n:=by
 intro ds hE n
 induction n using Nat.strongRecOn with
 | ind n ih =>
  intro m t s h1 hns;generalize hX:D6 ds CI n s t=X at hns ⊢;refine BD Tryz.func39 O qt (n:=95) O O (A4 (BP O (Bf O) fun b3=>BP O (BF B8 O) fun b4=>Bt O (BH (Bo (α:=Nat×Tm×Int) (fun(k2,w,d)=>⟨95,mk [(0,.ptr m 0),(3,.ptr b3 0),(4,.ptr b4 0)],[.box b4 [.p (I 0),.p (I 0),.p (.str ⟨#[]⟩),.p (.nils),.p (.nils)],.box b3 ((Bg w).map .p),.box m [.p (.lst (List.map Bw ds)),.p (I d)]],[]⟩) (fun(k2,w,d)=>k2) (fun(k2,w,d)=>D6 ds CI k2 d w=X∧HF d∧k2≤n) ⟨n,t,s⟩ (⟨hX,h1,Nat.le_refl _⟩) ?_ ?_))))
  ·exact Bk ⟨we O,we O,we O,Aw⟩ (leH (is:=[0,1,2]) O (wl (oe O) (wl (oe O) (wl (oe O) (DN)))))
  rintro⟨k2,w,d⟩ hC
  try simp only at hC
  obtain⟨hC,hJ,hmn⟩:=hC;obtain⟨k,rfl⟩:=Yd hC hns;have hwo:=XS hC hns;have hsp:=V8 hwo;have hsl:=hsp.len;have hss:=hsp.sz;have hsa:=hsp.asz;refine BH (A4 (Ay O (BI (i:=1) Bd O O Am) (Ay O (BN O O (MF w hsp.nd Ad) O) (A5 BA 3 [] O (BP O (BF B8 O) fun b5=>Az BA 2 [0,1] O (A1 (A4 (B6 O (Ay O (BZ Bq O (Bh _)) (Az BA 1 [] O (A3 O (fun c=>?_) (fun c=>?_))))))))))))
  ·(try simp only[sd,se] at c);exact A8 (Ay O (CB cE Y8 O) (Ay O (JR Ap O) (Oe O O (MX O) (⟨O,_,List.nil_sublist _,⟨_,fq (hC.symm.trans (Y9 hwo O (by simp only[CI];exact decide_eq_true Au))),O⟩⟩))))
  (try simp only[sd,se] at c);have hmany:CI.many (BK w).2.length=false:=by simp only[CI];exact decide_eq_false Au
  refine A7 (A4 (Ay O (Ax DV O O) ?_));generalize hz:(BK w).1=z;obtain⟨zk,zi,zn,zl,zs⟩:=z;have hzo:okB (.mk zk zi zn zl zs)=true:=hz▸hsp.head;have hzq:=hz;have hzl:=JT hzo;have hzn:=(Cd.1 hzo).nd;refine Az BA 1 [0] O (BH (A2 BA 2 [] O (A3 O (fun c1=>?_) (fun c1=>?_))))
  ·(try simp only[sd,se] at c1);have hk:=(congrArg Tm.kind hzq).trans c1;refine A1 (A4 (B6 O (Ay O (BZ Bq O (Bh _)) (Az BA 1 [] O (A3 O (fun c2=>?_) (fun c2=>?_))))))
   ·(try simp only[sd,se] at c2);rw[OB hwo rfl hmany hk Au] at hC;refine A2 BA 2 [2,1,1] O (A6 (⟨O,_,_,⟨_,_,O,(BJ (i:=1) Bd O O Am),O⟩,(CJ (is:=[3]) O),?_⟩));exact⟨⟨_,_⟩,De hC.symm,O,O⟩
   (try simp only[sd,se] at c2);refine A7 ?_;obtain⟨x,hx⟩:=BE (l:=zs) (i:=1) Au;obtain⟨x1,hx1⟩:=BE (l:=(BK w).2) (i:=0) Au;have hxo:=GJ hzo (i:=1) hx;have hx1o:=hsp.args _ (List.mem_of_getElem? hx1);rw[R2 hwo rfl hmany hk Au (by rw[hzq];exact hx),jx hx1] at hC;have hn3:=hns;rw[←hC] at hn3;obtain⟨e,he⟩ | ⟨⟨z1,n2⟩,hz⟩:=GD (JW d (Ce x [x1] 0))
   ·refine I7 ((fun _=> .p (.iface 122 .unit)) e) 9 [.val (.ptr m 0),.val (.ptr b5 (0+4)),.val (.p (.lst (BO zs))),.val (.ref (Bg x)),.val (.agg ((Bg x).map .p)),.val (.p (.lst (BO ((BK w).2)))),.val (.ref (Bg x1)),.val (.agg ((Bg x1).map .p)),.val (.p (.lst (BO [x1]))),.val (.p .any),.val (.p (.lst (BO ((BK w).2)))),.val (.p (.lst (BO (((BK w).2).drop 1)))),.val (.p .any),.val (.p .any)] D7 O Ap O Aw (fun _ _=>by exact⟨rfl,_,List.nil_sublist _,⟨_,by rw[←hC];exact LF hn3 he,rfl⟩⟩) ?_;refine CL O O (fun Bs=>BB O) (CL O O (fun Bs=>Ax DV O O) (CL O O (fun Bs=>BG (i:=Bs.length+0) E9 O (Cn O) O) (CL O O (fun Bs=>BC Bq O O Au (Bn hx) (BL _)) (CL O O (fun Bs=>BQ Bd O (BL _)) (CL O O (fun Bs=>BB O) (CL O O (fun Bs=>BC Bq O O Au (Bn hx1) (BL _)) (CL O O (fun Bs=>BQ Bd O (BL _)) (CL O O (fun Bs=>CA (rows:=BO [x1]) Bq B8 O O O O (CT (B9 _)) (FP _)) (K0 (mkp:=(fun _=> .p (.iface 122 .unit))) (e:=e) [3] he O O (.inl ⟨O,O,O⟩) (K6 m ds d x [x1] hJ hxo (ok_one hx1o) Jn) ⟨_,_,O,O,O⟩ As (aw (we O) (aw (we O) (aw (we O) (FH)))) (CL O O (fun Bs=>BB O) ?_))))))))));exact CL O O (fun Bs=>Cp (lo:=1) Bq O (CT (B9 _)) ⟨_,O⟩ O AR (Nat.le_refl _) (Jo ((BK w).2) 1)) (DS O O Ap (DS O O Ap Kq))
   rw[Kz hn3 hz] at hC;have hJ3:=(Qs hJ hz).1;refine IN [.box b5 [.p (I zk),.p (I zi),.p (.str zn),.p (.lst (List.map CE zl)),.p (.lst (BO zs))],.box b4 [.p (I 0),.p (I 0),.p (.str ⟨#[]⟩),.p (.nils),.p (.nils)],.box b3 ((Bg w).map .p),.box m [.p (.lst (List.map Bw ds)),.p (I n2)]] 9 [.val (.ptr m 0),.val (.ptr b5 (0+4)),.val (.p (.lst (BO zs))),.val (.ref (Bg x)),.val (.agg ((Bg x).map .p)),.val (.p (.lst (BO ((BK w).2)))),.val (.ref (Bg x1)),.val (.agg ((Bg x1).map .p)),.val (.p (.lst (BO [x1]))),.val (.agg ((Bg z1).map .p)),.val (.p (.lst (BO ((BK w).2)))),.val (.p (.lst (BO (((BK w).2).drop 1)))),.val (.agg ((Bg (apply z1 (((BK w).2).drop 1))).map .p))] [.p .any] [] D7 O Ap Ap Ap O ?_ ?_
   ·exact Aw
   refine Bz O O (fun Bs=>BB O) (Bz O O (fun Bs=>Ax DV O O) (GH O O O (fun Bs=>BG (i:=Bs.length+0) E9 O (Cn O) O) (fun Bs=>BG (i:=Bs.length+0) E9 O (Cn O) O) (Bz O O (fun Bs=>BC Bq O O Au (Bn hx) (BL _)) (Bz O O (fun Bs=>BQ Bd O (BL _)) (Bz O O (fun Bs=>BB O) (Bz O O (fun Bs=>BC Bq O O Au (Bn hx1) (BL _)) (Bz O O (fun Bs=>BQ Bd O (BL _)) (Bz O O (fun Bs=>CA (rows:=BO [x1]) Bq B8 O O O O (CT (B9 _)) (FP _)) (J5 O (fun Bs=>G2 [3] O (.inl ⟨O,O,O⟩) (K1 hz (K6 m ds d x [x1] hJ hxo (ok_one hx1o) Jn)) ⟨_,_,O,O,O⟩ As O (aw (we O) (aw (we O) (aw (we O) (FH))))) (Bz O O (fun Bs=>BB O) ?_))))))))));refine Bz O O (fun Bs=>Cp (lo:=1) Bq O (CT (B9 _)) ⟨_,O⟩ O AR (Nat.le_refl _) (Jo ((BK w).2) 1)) (Bz O O (fun Bs=>BN O O (Ee z1 (((BK w).2).drop 1) AS) O) (J6 (EA [.box b5 [.p (I zk),.p (I zi),.p (.str zn),.p (.lst (List.map CE zl)),.p (.lst (BO zs))],.box b4 [.p (I 0),.p (I 0),.p (.str ⟨#[]⟩),.p (.nils),.p (.nils)],.box b3 ((Bg (apply z1 (((BK w).2).drop 1))).map .p),.box m [.p (.lst (List.map Bw ds)),.p (I n2)]] O (Bc (i:=2) Bd O O O Am Aa (C5 _)) (KC ?_))));refine⟨⟨k,(apply z1 (((BK w).2).drop 1)),n2⟩,AU,⟨hC,by assumption,by omega⟩,Bk ⟨we rfl,we rfl,we rfl,trivial⟩ (leH (is:=[1,2,3]) rfl (wl (oe rfl) (wl (oe rfl) (wl (oe rfl) (DN)))))⟩
  (try simp only[sd,se] at c1);refine A2 BA 2 [] O (A3 O (fun c2=>?_) (fun c2=>?_))
  ·(try simp only[sd,se] at c2);have hk:=(congrArg Tm.kind hzq).trans c2;obtain⟨x,hx⟩:=BE (l:=zs) (i:=2) Au;obtain⟨x1,hx1⟩:=BE (l:=zs) (i:=1) Au;have hxo:=GJ hzo (i:=2) hx;have hx1o:=GJ hzo (i:=1) hx1;rw[Rs hwo rfl hmany hk (by rw[hzq];exact hx1) (by rw[hzq];exact hx)] at hC;have hn3:=hns;rw[←hC] at hn3;obtain⟨e,he⟩ | ⟨⟨z1,n2⟩,hz⟩:=GD (JW d (Ce x [x1] 0))
   ·refine I7 ((fun _=> .p (.iface 122 .unit)) e) 10 [.val (.ptr m 0),.val (.ptr b5 (0+4)),.val (.p (.lst (BO zs))),.val (.ref (Bg x)),.val (.agg ((Bg x).map .p)),.val (.ptr b5 (0+4)),.val (.p (.lst (BO zs))),.val (.ref (Bg x1)),.val (.agg ((Bg x1).map .p)),.val (.p (.lst (BO [x1]))),.val (.p .any),.val (.p (.lst (BO ((BK w).2)))),.val (.p .any),.val (.p .any)] D7 O Ap O Aw (fun _ _=>by exact⟨rfl,_,List.nil_sublist _,⟨_,by rw[←hC];exact LF hn3 he,rfl⟩⟩) ?_;refine CL O O (fun Bs=>BB O) (CL O O (fun Bs=>Ax DV O O) (CL O O (fun Bs=>BG (i:=Bs.length+0) E9 O (Cn O) O) (CL O O (fun Bs=>BC Bq O O Au (Bn hx) (BL _)) (CL O O (fun Bs=>BQ Bd O (BL _)) (CL O O (fun Bs=>Ax DV O O) (CL O O (fun Bs=>BG (i:=Bs.length+0) E9 O (Cn O) O) (CL O O (fun Bs=>BC Bq O O Au (Bn hx1) (BL _)) (CL O O (fun Bs=>BQ Bd O (BL _)) (CL O O (fun Bs=>CA (rows:=BO [x1]) Bq B8 O O O O (CT (B9 _)) (FP _)) (K0 (mkp:=(fun _=> .p (.iface 122 .unit))) (e:=e) [3] he O O (.inl ⟨O,O,O⟩) (K6 m ds d x [x1] hJ hxo (ok_one hx1o) Jn) ⟨_,_,O,O,O⟩ As (aw (we O) (aw (we O) (aw (we O) (FH)))) ?_))))))))));exact CL O O (fun Bs=>BB O) (DS O O Ap (DS O O Ap Kq))
   rw[Kz hn3 hz] at hC;have hJ3:=(Qs hJ hz).1;refine IN [.box b5 [.p (I zk),.p (I zi),.p (.str zn),.p (.lst (List.map CE zl)),.p (.lst (BO zs))],.box b4 [.p (I 0),.p (I 0),.p (.str ⟨#[]⟩),.p (.nils),.p (.nils)],.box b3 ((Bg w).map .p),.box m [.p (.lst (List.map Bw ds)),.p (I n2)]] 10 [.val (.ptr m 0),.val (.ptr b5 (0+4)),.val (.p (.lst (BO zs))),.val (.ref (Bg x)),.val (.agg ((Bg x).map .p)),.val (.ptr b5 (0+4)),.val (.p (.lst (BO zs))),.val (.ref (Bg x1)),.val (.agg ((Bg x1).map .p)),.val (.p (.lst (BO [x1]))),.val (.agg ((Bg z1).map .p)),.val (.p (.lst (BO ((BK w).2)))),.val (.agg ((Bg (apply z1 ((BK w).2))).map .p))] [.p .any] [] D7 O Ap Ap Ap O ?_ ?_
   ·exact Aw
   refine Bz O O (fun Bs=>BB O) (Bz O O (fun Bs=>Ax DV O O) (GH O O O (fun Bs=>BG (i:=Bs.length+0) E9 O (Cn O) O) (fun Bs=>BG (i:=Bs.length+0) E9 O (Cn O) O) (Bz O O (fun Bs=>BC Bq O O Au (Bn hx) (BL _)) (Bz O O (fun Bs=>BQ Bd O (BL _)) (Bz O O (fun Bs=>Ax DV O O) (GH O O O (fun Bs=>BG (i:=Bs.length+0) E9 O (Cn O) O) (fun Bs=>BG (i:=Bs.length+0) E9 O (Cn O) O) (Bz O O (fun Bs=>BC Bq O O Au (Bn hx1) (BL _)) (Bz O O (fun Bs=>BQ Bd O (BL _)) (Bz O O (fun Bs=>CA (rows:=BO [x1]) Bq B8 O O O O (CT (B9 _)) (FP _)) ?_)))))))));refine J5 O (fun Bs=>G2 [3] O (.inl ⟨O,O,O⟩) (K1 hz (K6 m ds d x [x1] hJ hxo (ok_one hx1o) Jn)) ⟨_,_,O,O,O⟩ As O (aw (we O) (aw (we O) (aw (we O) (FH))))) (Bz O O (fun Bs=>BB O) (Bz O O (fun Bs=>BN O O (Ee z1 ((BK w).2) AS) O) (J6 (EA [.box b5 [.p (I zk),.p (I zi),.p (.str zn),.p (.lst (List.map CE zl)),.p (.lst (BO zs))],.box b4 [.p (I 0),.p (I 0),.p (.str ⟨#[]⟩),.p (.nils),.p (.nils)],.box b3 ((Bg (apply z1 ((BK w).2))).map .p),.box m [.p (.lst (List.map Bw ds)),.p (I n2)]] O (Bc (i:=2) Bd O O O Am Aa (C5 _)) (KC ?_)))));refine⟨⟨k,(apply z1 ((BK w).2)),n2⟩,AU,⟨hC,by assumption,by omega⟩,Bk ⟨we rfl,we rfl,we rfl,trivial⟩ (leH (is:=[1,2,3]) rfl (wl (oe rfl) (wl (oe rfl) (wl (oe rfl) (DN)))))⟩
  (try simp only[sd,se] at c2);refine A1 (A2 BA 2 [] O (Bi [0,3,4,5,6,21] 57 (fun y=>y= .p (.bool (decide (zk=9∨zk=10)))) ?_ ?_))
  ·refine A3 O (fun c3=>?_) (fun c3=>?_)
   ·(try simp only[sd,se] at c3);exact A7 (⟨O,O,(List.Sublist.refl _),(by refine pB (Bool.eq_iff_iff.2 ?_);simp only[beq_iff_eq,decide_eq_true_eq];omega),⟨O,O,O,O,O,O,Aw⟩⟩)
   (try simp only[sd,se] at c3);exact A8 (Az BA 2 [] O (⟨O,O,(List.Sublist.refl _),(by refine pB (Bool.eq_iff_iff.2 ?_);simp only[beq_iff_eq,decide_eq_true_eq];omega),⟨O,O,O,O,O,O,Aw⟩⟩))
  rintro _ rfl;refine A3 O (fun c3=>?_) (fun c3=>?_)
  ·(try simp only[sd,se] at c3);have hk9:zk=9∨zk=10:=by simpa using c3
   refine A4 (A5 BA 3 [0] O ?_);obtain⟨x,hx⟩:=BE (l:=zs) (i:=0) Au;rw[Of hwo rfl hmany (by rw[hzq];exact hk9) (by rw[hzq];exact hx)] at hC;have hn0:=hns;rw[←hC] at hn0;have hn1:=UZ hn0;refine Ay O (BC Bq O O Au (Bn hx) (BL _)) (Ay O (BQ Bd O (BL _)) (D8 [3] O O O (.inl ⟨O,O,O⟩) (ih k Au m x d hJ hn1) ⟨_,_,O,O,O⟩ As (aw (we O) (aw (we O) (FH))) (fun _ _ h=>(congrArg List.length h).trans O) ?_ ?_))
   rotate_left
   ·intro e _ he;exact⟨O,_,List.nil_sublist _,⟨_,by rw[←hC];exact UY hn0 he,rfl⟩⟩
   rintro⟨pr,n2⟩ _ hz rfl;obtain⟨hr2,hr3⟩:=Ul hn0 hz;rw[hr3] at hC;have hJ2:=QY hJ (Ii hz);refine BP O (BF B8 O) fun b7=>Az BA 1 [0,1] O (A1 (A4 (Ay O (Ax DV O O) ?_)));obtain⟨prk,pri,prn,prl,prs⟩:=pr;have hprl:=JT hr2;refine Az BA 2 [0] O (A3 O (fun c4=>?_) (fun c4=>?_))
   ·(try simp only[sd,se] at c4);rw[Lu (r:=(Tm.mk prk pri prn prl prs,n2)) c4,hzq] at hC;refine A4 (A5 BA 3 [1,0] O (Ay O (CA (rows:=BO [(.mk prk pri prn prl prs:Tm)]) Bq B8 O O O O (CT (B9 _)) (FP _)) (A5 BA 2 [] O (Ay O (G6 O O (Ee (.mk zk 0 ⟨#[]⟩ [] [(.mk prk pri prn prl prs:Tm)]:Tm) ((BK w).2) AS) (aw (D9 O) (aw (we O) (FH)))) (Az BA 1 [2,1] O (A6 (⟨O,_,_,⟨_,_,O,(BJ (i:=2) Bd O O Am),O⟩,(CJ (is:=[4]) O),?_⟩)))))));exact⟨⟨_,_⟩,De hC.symm,O,O⟩
   (try simp only[sd,se] at c4);have hp8:=c4;refine A7 (A8 (A5 BA 3 [1,0] O ?_));obtain⟨cq,hcq⟩:=BE (l:=prs) (i:=(1+zk - 9).toNat) (by have:=hprl.2.2.2 hp8;omega);have hcqo:=GJ hr2 (i:=(1+zk - 9).toNat) hcq;rw[OL (r:=(Tm.mk prk pri prn prl prs,n2)) (h:=(BK w).1) hp8 (by rw[hzq];exact hcq)] at hC;have hn3:=hns;rw[←hC] at hn3;refine D8 [4] O O O (.inl ⟨O,O,O⟩) (YM m ds n2 (.mk zk zi zn zl zs:Tm) (.mk prk pri prn prl prs:Tm) cq hJ2 hk9 hcq) ⟨_,_,O,O,O⟩ As (aw (we O) (aw (we O) (aw (we O) (FH)))) (fun _ _ h=>(congrArg List.length h).trans O) ?_ ?_
   rotate_left
   ·intro e _ he;exact⟨O,_,List.nil_sublist _,⟨_,by rw[←hC];exact LF hn3 he,rfl⟩⟩
   rintro⟨z1,n21⟩ _ hz1 rfl;rw[Kz hn3 hz1] at hC;have hJ3:=(Qs hJ2 hz1).1;refine B6 O (Ay O (BN O O (Ee z1 ((BK w).2) AS) O) (Az BA 1 [3,1] O ?_));refine⟨⟨k,(apply z1 ((BK w).2)),n21⟩,AU,⟨hC,by assumption,by omega⟩,Bk ⟨we rfl,we rfl,we rfl,trivial⟩ (leH (is:=[2,3,4]) rfl (wl (oe rfl) (wl (oe rfl) (wl (oe rfl) (DN)))))⟩
  (try simp only[sd,se] at c3);refine A2 BA 2 [] O (A3 O (fun c4=>?_) (fun c4=>?_))
  ·(try simp only[sd,se] at c4);have hk:=(congrArg Tm.kind hzq).trans c4;refine A4 (A5 BA 3 [0] O ?_);rw[KV hwo rfl hmany hk,hzq] at hC;have hn0:=hns;rw[←hC] at hn0;have hn1:=Jz hn0;refine D8 [3] O O O (.inl ⟨O,O,O⟩) (dS k m ds d (.mk zk zi zn zl zs:Tm) ((BK w).2) (ih k Au) hE hJ hzo Au hsp.args hn1) ⟨_,_,O,O,O⟩ As (aw (we O) (aw (we O) (aw (we O) (FH)))) (fun _ _ h=>(congrArg List.length h).trans O) ?_ ?_
   rotate_left
   ·intro e _ he;exact⟨O,_,List.nil_sublist _,⟨_,by rw[←hC];exact Kx hn0 he,rfl⟩⟩
   rintro⟨q,n2⟩ _ hz rfl;rw[MR hz] at hC;have hJ2:=W9 hJ (Ii hz);refine A5 BA 3 [] O (BP O (BF B8 O) fun b8=>Az BA 2 [0,1] O (A1 (A2 BA 2 [] O (A3 O (fun c5=>?_) (fun c5=>?_)))))
   ·(try simp only[sd,se] at c5);rw[Qr (by simpa using c5)] at hC;refine A2 BA 2 [3,2,1] O (A6 (⟨O,_,_,⟨_,_,O,(BJ (i:=2) Bd O O Am),O⟩,(CJ (is:=[4]) O),?_⟩));exact⟨⟨_,_⟩,De hC.symm,O,O⟩
   (try simp only[sd,se] at c5);rw[Qz (by simpa using c5)] at hC;refine A7 (A8 (Az BA 2 [0,3,1] O ?_));refine⟨⟨k,(q.getD Bu),n2⟩,AU,⟨hC,by assumption,by omega⟩,Bk ⟨we rfl,we rfl,we rfl,trivial⟩ (leH (is:=[2,3,4]) rfl (wl (oe rfl) (wl (oe rfl) (wl (oe rfl) (DN)))))⟩
  (try simp only[sd,se] at c4);rw[Vw hwo rfl hmany (by rw[hzq];assumption) (by rw[hzq];assumption) (by rw[hzq];show ¬zk=9;omega) (by rw[hzq];show ¬zk=10;omega) (by rw[hzq];assumption)] at hC;refine A2 BA 2 [2,1,1] O (A6 (⟨O,_,_,⟨_,_,O,(BJ (i:=1) Bd O O Am),O⟩,(CJ (is:=[3]) O),?_⟩));exact⟨⟨_,_⟩,De hC.symm,O,O⟩
theorem jZ:∀(be:Nat) (ce:List AV),E8 Tryz.prog 71 [.ptr be 0] (.ret) [.box be ce] (fun H'=>H'=[.box be ce]):=by
 intro be ce;refine H7 (ty2:=0) Tryz.func71 O pL (n:=14) O O O O O O (A4 (B6 O (Ay O (HU aM O O O) (Bt O ?_))));refine A3 O (fun c=>by cases c) (fun c=>?_);exact A7 ⟨.inl O,O,_,(CJ (is:=[0]) O),O⟩
theorem gT:∀(be:Nat),E8 Tryz.prog 71 [.ptr be 0] (.pan (.p (.iface 122 (.unit)))) [.box be [.p (I 0)]] (fun H'=>H'=[.box be [.p (I 11)]]):=by
 intro be;refine H7 (ty2:=0) Tryz.func71 O pL (n:=14) O O O O O O (A4 (B6 O (Ay O (HU aM O O O) (Bt O ?_))));refine A3 O (fun c=>?_) (fun c=>by cases c);refine A2 BA 1 [0,0] O (A4 (B6 O (Ay O (Vr Ap O) (A5 BA 3 [] O (BP O (BF Y8 O) fun b2=>Ay O (Q9 nt O O) (Az BA 1 [] O (A2 BA 2 [] O ?_)))))));refine A3 O (fun c1=>by cases c1) (fun c1=>?_);exact A7 ⟨.inl O,O,_,(CJ (is:=[1]) O),O⟩
theorem Uc:∀{α:Type}(x:Except Int α) (a:α) (hx:x= .ok a) (cn:α→Int) (G:α→List BU) (fid:Nat) (caps:List AV) (T:List BU) (ds:List Cc) (hf:∀m,B4 Tryz.prog fid ([.ptr m 0]++caps) (.box m [.p (.lst (List.map Bw ds)),.p (I 20000)]::T) (LK (fun _=> .tup []) (fun _=> .p (.iface 122 .unit)) (fun a H'=>H'= .box m [.p (.lst (List.map Bw ds)),.p (I (cn a))]::G a) x)),B4 Tryz.prog 37 [.p (.lst (List.map Bw ds)),.fn (.func fid) [] caps] T (Gx (.p (I 0)) (G a)):=by
 intro α x a hx cn G fid caps T ds hf;refine Fs Tryz.func37 O nN (n:=11) O O (A4 (BP O (BF bj O) fun b4=>Bt O (A4 (Ay O (E0 O O) (OV O O O O (Bt O (A4 (A5 BA 3 [] O (BP O (Bf O) fun b9=>MN (List.Perm.swap _ _ _) (IV [_] O O O (.inr O) (hf b9) (Dm _) ?_ ?_))))))))))
 rotate_left
 ·rintro v T2 ⟨e2,h1,_⟩;rw[hx] at h1;cases h1
 rintro v T2 ⟨a2,h1,rfl,rfl⟩;rw[hx] at h1;cases h1;refine Bt O (A2 BA 1 [0,0] O (A6 ⟨_,[_],_,O,List.Perm.refl _,E8.eq (jZ b4 _) ?_⟩));refine⟨_,_,⟨_,_,O,(G7 (i:=0) SP O O),O⟩,(Gz [] [_,_] O),?_⟩
 all_goals exact⟨rfl,rfl⟩
theorem SM:∀{α:Type}(x:Except Int α) (e:Int) (hx:x= .error e) (cn:α→Int) (G:α→List BU) (fid:Nat) (caps:List AV) (T:List BU) (ds:List Cc) (hf:∀m,B4 Tryz.prog fid ([.ptr m 0]++caps) (.box m [.p (.lst (List.map Bw ds)),.p (I 20000)]::T) (LK (fun _=> .tup []) (fun _=> .p (.iface 122 .unit)) (fun a H'=>H'= .box m [.p (.lst (List.map Bw ds)),.p (I (cn a))]::G a) x)),B4 Tryz.prog 37 [.p (.lst (List.map Bw ds)),.fn (.func fid) [] caps] T (Gx (.p (I 11)) []):=by
 intro α x e hx cn G fid caps T ds hf;refine Fs Tryz.func37 O nN (n:=11) O O (A4 (BP O (BF bj O) fun b4=>Bt O (A4 (Ay O (E0 O O) (OV O O O O (Bt O (A4 (A5 BA 3 [] O (BP O (Bf O) fun b9=>MN (List.Perm.swap _ _ _) (IV [_] O O O (.inr O) (hf b9) (Dm _) ?_ ?_))))))))))
 ·rintro v T2 ⟨a2,h1,_⟩;rw[hx] at h1;cases h1
 rintro v T2 ⟨e2,h1,rfl⟩;refine⟨_,_,_,O,MW (is:=[0]) _ As ⟨_,_,O,O,O⟩,E8.eq (gT b4) ?_⟩;refine⟨_,[],⟨_,_,O,(G7 (i:=0) SP O O),O⟩,(List.nil_sublist _),?_⟩;exact⟨O,O⟩
end Go.Proofs.YtboammbpdaoojaaGreat
namespace Go.Eu
open Go.Abs
structure Lt (c:Ev):Prop where
 ov:c.over=false
 lm:c.limit=1000
 s0:0≤c.steps
 s1:c.steps≤1000
 n0:0≤c.nodes
 n1:c.nodes≤2000
theorem bQ:Lt Lf:=⟨rfl,rfl,by decide,by decide,by decide,by decide⟩
theorem LN:et Du (fun a b=>b.over=false→a.over=false):=by
 refine⟨fun s h=>h,fun h1 h2 h=>h1 (h2 h),fun h hb=>?_⟩;simp only[Du,Option.some.injEq] at h;subst h;simp only[Ev.result,Ev.form,Bool.or_eq_false_iff] at hb;exact hb.1
theorem lT {c:Ev}{t:Tm}{e:Int}(h:Lt c) (ho:okB t=true) (hv:(c.result t e).over=false):e=0∧Lt (c.result t e)∧(c.result t e).steps=c.steps+1∧(c.result t e).nodes=c.nodes+size t:=by
 have hs:=F8 ho;have h1:=h.s0;have h2:=h.s1;have h3:=h.n0;have h4:=h.n1;have h5:=h.lm;have hw:wr (c.steps+1)=c.steps+1:=Er (by unfold I3;omega);have hz:FC t=size t:=OQ Au;have hw2:wr (c.nodes+size t)=c.nodes+size t:=Er (by unfold I3;omega);have hw3:wr (2*1000)=2000:=Er (by unfold I3;omega);have hv':=hv;simp only[Ev.result,Ev.form,hw,hz,hw2,h5,hw3,Bool.or_eq_false_iff,decide_eq_false_iff_not,bne_eq_false_iff_eq] at hv';have hst:(c.result t e).steps=c.steps+1:=by simp only[Ev.result,Ev.form,hw]
 have hnd:(c.result t e).nodes=c.nodes+size t:=by simp only[Ev.result,Ev.form,hz,hw2]
 exact⟨by omega,⟨hv,by simp only[Ev.result,Ev.form,h5],by omega,by omega,by omega,by omega⟩,hst,hnd⟩
theorem KY {α:Type}{c:Ev}{x:Tm×Int}{k:Tm→Ev→Out (α×Ev)}{k':Tm→Int→Out (α×Int)}{q:α}{c':Ev}(hL:Lt c) (hk:∀t c1 q c2,k t c1= .ok (q,c2)→c2.over=false→c1.over=false) (hq:Du.put c x k= .ok (q,c')) (hv:c'.over=false) :
  okB x.1=true∧Lt (c.result x.1 x.2)∧(c.result x.1 x.2).steps=c.steps+1∧(c.result x.1 x.2).nodes=c.nodes+size x.1∧k x.1 (c.result x.1 x.2)= .ok (q,c')∧∀l:Int,1000 - c.steps≤l→CI.put l x k'=k' x.1 (l - 1):=by
 obtain⟨h1,h2⟩:=LO (h:=(by rw[hq];simp));rw[h2] at hq;obtain⟨h3,h4,h5,h6⟩:=lT hL h1 (hk _ _ _ _ hq hv);refine⟨h1,h4,h5,h6,hq,fun l hl=>?_⟩;have:=h4.s1;unfold Sys.put;rw[if_pos h1];simp only[CI];rw[if_neg Au]
section
variable {E:List Cc}
structure aG (c c':Ev) (z z':Nat):Prop where
 lt:Lt c'
 st:c.steps≤c'.steps
 nd:c.nodes≤c'.nodes
 sz:(z':Int)≤z+(c'.nodes - c.nodes)
def SW (n:Nat) (W:Ev→Tm→Out (Tm×Ev)) (V:Int→Tm→Out (Tm×Int)):Prop:=∀c t r c',Lt c→W c t= .ok (r,c')→c'.over=false→(size t:Int)≤30000+c.nodes →
 aG c c' (size t) (size r)∧∀l:Int,1000 - c.steps≤l→V l t= .ok (r,l - (c'.steps - c.steps))
variable {n:Nat}{W:Ev→Tm→Out (Tm×Ev)}{V:Int→Tm→Out (Tm×Int)}
theorem Tx (hW:SW n W V) (hO:∀c t r c',W c t= .ok (r,c')→c'.over=false→c.over=false):∀(k:Nat) (t:Fl) (vs:List Tm) (la:Tm) (c c':Ev) (q:Option (Tm×List Tm)×Tm),Lt c→EE E Du W k t vs la c= .ok (q,c')→c'.over=false→(∀v∈vs,(size v:Int)≤30000+c.nodes)→(size la:Int)≤30000+c.nodes →
  aG c c' 0 0∧(q.1=none→(size q.2:Int)≤30000+c'.nodes)∧∀l:Int,1000 - c.steps≤l→EE E CI V k t vs la l= .ok (q,l - (c'.steps - c.steps))
 | 0,t,vs,la,c,c',q,hL,h,hv,hz,hla=>by rw[EE] at h;cases h
 | k+1,t,vs,la,c,c',q,hL,h,hv,hz,hla=>by
  have self:aG c c 0 0:=⟨hL,Int.le_refl _,Int.le_refl _,by simp⟩;by_cases hk:t.kind=1
  ·by_cases hb:t.var<0∨t.var≥(vs.length:Int)
   ·have hb1:t.var<0∨t.var≥(vs.length:Int)∨Du.over c=true:=by rcases hb with h | h;exact .inl h;exact .inr (.inl h)
    rw[JM hk hb1] at h;cases h;refine⟨self,fun _=>hla,fun l hl=>?_⟩;rw[JM hk (by rcases hb with h | h;exact .inl h;exact .inr (.inl h)),Int.sub_self,Int.sub_zero]
   have hb1:¬(t.var<0∨t.var≥(vs.length:Int)∨Du.over c=true):=by
    have:Du.over c=false:=hL.ov;rw[this];simp;omega
   have hb2:∀l,¬(t.var<0∨t.var≥(vs.length:Int)∨CI.over l=true):=fun l=>by simp[CI];omega
   have hlt:t.var.toNat<vs.length:=by omega
   have hx:=List.getElem?_eq_getElem hlt;have hxm:=List.getElem_mem hlt;rw[K2 hk hb1 hx] at h;obtain⟨⟨r,c1⟩,h1,h2,h3⟩:=J8 h;have hv1:c1.over=false:=by
    cases hc:DW E r with
    | none=>rw[GQ hc] at h3;cases h3;exact hv
    | some p =>
     obtain⟨d,j,f⟩:=p;cases hbr:C8 (FD d j).name t.branches with
     | none=>rw[Ic hc hbr] at h3;cases h3;exact hv
     | some t' =>
      rw[IY hc hbr] at h3;exact OF LN (fun s t q e=>by obtain⟨r',c''⟩:=q;exact hO _ _ _ _ e) _ _ _ _ _ _ h3 hv
   obtain⟨p1,p2⟩:=hW _ _ _ _ hL h1 hv1 (hz _ hxm);have q1:=p1.st;have q2:=p1.nd;have q3:=p1.sz;have q4:=hz _ hxm;have hr:(size r:Int)≤30000+c1.nodes:=by omega
   have hone:aG c c1 0 0:=⟨p1.lt,p1.st,p1.nd,by simp;omega⟩;have hg:∀l:Int,1000 - c.steps≤l→EE E CI V (k+1) t vs la l=Pl E CI V k t vs (r,l - (c1.steps - c.steps)):=fun l hl=>by
    rw[K2 hk (hb2 l) hx,p2 l hl];simp only[Out.chk,Out.bind];rw[if_pos h2]
   cases hc:DW E r with
   | none =>
    rw[GQ hc] at h3;cases h3;exact⟨hone,fun _=>hr,fun l hl=>by rw[hg l hl,GQ hc]⟩
   | some p =>
    obtain⟨d,j,f⟩:=p;cases hbr:C8 (FD d j).name t.branches with
    | none =>
     rw[Ic hc hbr] at h3;cases h3;exact⟨hone,fun _=>hr,fun l hl=>by rw[hg l hl,Ic hc hbr]⟩
    | some t' =>
     rw[IY hc hbr] at h3;obtain⟨hf,_⟩:=Jw hc h2;obtain⟨s1,s2,s3⟩:=Tx hW hO k t' (vs++f) r c1 c' q p1.lt h3 hv (fun v hm=>by
      rcases List.mem_append.1 hm with hm | hm
      ·have:=hz v hm;omega
      have:=(hf v hm).2;omega) hr
     have e1:=s1.st;have e2:=s1.nd;refine⟨⟨s1.lt,by omega,by omega,by simp;omega⟩,s2,fun l hl=>?_⟩;rw[hg l hl,IY hc hbr];have:=s3 (l - (c1.steps - c.steps)) Au;simp only;rw[this];congr 2;omega
  rw[H6 hk] at h;cases h;exact⟨self,(fun e=>by cases e),fun l hl=>by rw[H6 hk,Int.sub_self,Int.sub_zero]⟩
structure Zy (c c':Ev) (z:Nat) (q:Option Tm):Prop where
 lt:Lt c'
 st:c.steps≤c'.steps
 nd:c.nodes≤c'.nodes
 sz:∀x,q=some x→(size x:Int)≤z+(c'.nodes - c.nodes)
theorem aH {d:Cc}{g m:Tm}{a:List Tm}{c c':Ev}{q:Option Tm}(hL:Lt c) (h:FQ E Du d g a m c= .ok (q,c')) (hv:c'.over=false):Zy c c' (Bl a+a.length) q∧∀l:Int,1000 - c.steps≤l→FQ E CI d g a m l= .ok (q,l - (c'.steps - c.steps)):=by
 have self:Zy c c (Bl a+a.length) none:=⟨hL,Int.le_refl _,Int.le_refl _,fun x e=>by cases e⟩;cases hc:DW E m with
 | none=>rw[Mm hc] at h;cases h;exact⟨self,fun l hl=>by rw[Mm hc,Int.sub_self,Int.sub_zero]⟩
 | some p =>
  obtain⟨e,j,f⟩:=p;by_cases hn:e.name≠d.name∨j≥(d.recs.rules.length:Int)
  ·rw[QV hc hn] at h;cases h;exact⟨self,fun l hl=>by rw[QV hc hn,Int.sub_self,Int.sub_zero]⟩
  have hlo:=(F4 hc).lo;have hlt:j.toNat<d.recs.rules.length:=by omega
  have hr:=List.getElem?_eq_getElem hlt;by_cases he:(B1 d.recs.rules[j.toNat] g.levels).2=0
  ·rw[MO hc hn hr he] at h;obtain⟨h1,h2,h3,h4,h5,h6⟩:=KY hL (fun t c1 q c2 e hv=>by cases e;exact hv) h hv (k':=fun t s'=> .ok (some (apply t (a.drop (Cj d+1).toNat)),s'));simp only at h3 h4 h5;cases h5;have u:=Da (a.drop (Cj d+1).toNat) (apply (apply (B1 d.recs.rules[j.toNat] g.levels).1 (a.take (d.fixed+1+d.ctors.length).toNat)) f);have u2:=D4 a (Cj d+1).toNat;have u3:(a.drop (Cj d+1).toNat).length≤a.length:=by rw[List.length_drop];omega
   refine⟨⟨h2,by omega,by omega,fun x e=>?_⟩,fun l hl=>?_⟩
   ·cases e;have:((Bl a+a.length:Nat):Int)=Bl a+a.length:=by omega
    omega
   rw[MO hc hn hr he,h6 l hl];congr 2;omega
  rw[MK hc hn hr he] at h;cases h;exact⟨self,fun l hl=>by rw[MK hc hn hr he,Int.sub_self,Int.sub_zero]⟩
theorem Xw {d:Cc}{g:Tm}{a:List Tm}{c c':Ev}{q:Option Tm}(hL:Lt c) (h:FF Du d g a c= .ok (q,c')) (hv:c'.over=false):Zy c c' (Bl a+a.length) q∧∀l:Int,1000 - c.steps≤l→FF CI d g a l= .ok (q,l - (c'.steps - c.steps)):=by
 by_cases he:(B1 d.value g.levels).2=0
 ·rw[Ki he] at h;obtain⟨h1,h2,h3,h4,h5,h6⟩:=KY hL (fun t c1 q c2 e hv=>by cases e;exact hv) h hv (k':=fun t s'=> .ok (some (apply t a),s'));simp only at h3 h4 h5;cases h5;have u:=Da a (B1 d.value g.levels).1;refine⟨⟨h2,by omega,by omega,fun x e=>by cases e;omega⟩,fun l hl=>?_⟩;rw[Ki he,h6 l hl];congr 2;omega
 rw[KG he] at h;cases h;exact⟨⟨hL,Int.le_refl _,Int.le_refl _,fun x e=>by cases e⟩,fun l hl=>by rw[KG he,Int.sub_self,Int.sub_zero]⟩
theorem aS {g b:Tm}{vs a:List Tm}{c c':Ev}{q:Option Tm}(hL:Lt c) (h:HR Du g b vs a c= .ok (q,c')) (hv:c'.over=false):Zy c c' (Bl a+a.length) q∧∀l:Int,1000 - c.steps≤l→HR CI g b vs a l= .ok (q,l - (c'.steps - c.steps)):=by
 by_cases he:(B1 b g.levels).2=0
 ·have hg:∀{σ:Type} (S:Sys σ) (s:σ),HR S g b vs a s=if okB (B1 b g.levels).1=false∨vs.all okB=false∨1125899906842624≤Bl vs then .stuck else S.put s (Ce (B1 b g.levels).1 vs.reverse 0) fun t s'=> .ok (some (apply t a),s'):=fun S s=>by rw[HR,if_neg Au]
  rw[hg] at h;split at h
  ·cases h
  rename_i hn;obtain⟨h1,h2,h3,h4,h5,h6⟩:=KY hL (fun t c1 q c2 e hv=>by cases e;exact hv) h hv (k':=fun t s'=> .ok (some (apply t a),s'));cases h5;have u:=Da a (Ce (B1 b g.levels).1 vs.reverse 0).1;refine⟨⟨h2,by omega,by omega,fun x e=>by cases e;omega⟩,fun l hl=>?_⟩;rw[hg,if_neg hn,h6 l hl];congr 2;omega
 rw[Kl he] at h;cases h;exact⟨⟨hL,Int.le_refl _,Int.le_refl _,fun x e=>by cases e⟩,fun l hl=>by rw[Kl he,Int.sub_self,Int.sub_zero]⟩
end
section
variable {E:List Cc}{n:Nat}
theorem QX {c:Ev}{z:Nat}(hL:Lt c):Zy c c z none:=⟨hL,Int.le_refl _,Int.le_refl _,fun x e=>by cases e⟩
theorem XN (hE:J7 E) {W:Ev→Tm→Out (Tm×Ev)}{V:Int→Tm→Out (Tm×Int)}(hW:SW n W V) (hO:∀c t r c',W c t= .ok (r,c')→c'.over=false→c.over=false) {g:Tm}{a:List Tm}{c c':Ev}{q:Option Tm}(hL:Lt c) (h:Eo E Du W n g a c= .ok (q,c')) (hv:c'.over=false) (hz:(Bl a+a.length:Int)≤30000+c.nodes) (h1z:1≤30000+c.nodes) :
  Zy c c' (Bl a+a.length) q∧∀l:Int,1000 - c.steps≤l→Eo E CI V n g a l= .ok (q,l - (c'.steps - c.steps)):=by
 cases hu:Sv E g with
 | false=>rw[Jd hu] at h;cases h;exact⟨QX hL,fun l hl=>by rw[Jd hu,Int.sub_self,Int.sub_zero]⟩
 | true =>
  obtain⟨i,d,e1,e2,hd,e4⟩:=KW hu;have hg:=hE.all d hd;have hnr:=IX hg;by_cases k1:(B3 E g.name).1.kind=1
  ·rw[JF hu e4 k1] at h;obtain⟨s1,s2⟩:=Xw hL h hv;exact⟨s1,fun l hl=>by rw[JF hu e4 k1];exact s2 l hl⟩
  by_cases k5:(B3 E g.name).1.kind=5
  ·rw[IJ hu e4 k5] at h;by_cases hl:(a.length:Int)≤Cj d
   ·rw[Nx hl] at h;cases h;exact⟨QX hL,fun l hl2=>by rw[IJ hu e4 k5,Nx hl,Int.sub_self,Int.sub_zero]⟩
   have hlt:(Cj d).toNat<a.length:=by omega
   have hy:=List.getElem?_eq_getElem hlt;have hys:=HS (List.getElem_mem hlt);rw[Rp hl hy] at h;obtain⟨⟨r,c1⟩,h1,h2,h3⟩:=J8 h;have hv1:c1.over=false:=WC LN h3 hv;obtain⟨p1,p2⟩:=hW _ _ _ _ hL h1 hv1 Au;obtain⟨s1,s2⟩:=aH p1.lt h3 hv;have a1:=p1.st;have a2:=p1.nd;have a3:=s1.st;have a4:=s1.nd;refine⟨⟨s1.lt,by omega,by omega,fun x e=>by have:=s1.sz x e;omega⟩,fun l hl2=>?_⟩;rw[IJ hu e4 k5,Rp hl hy,p2 l hl2];simp only[Out.chk,Out.bind];rw[if_pos h2,s2 _ Au];congr 2;omega
  by_cases k6:(B3 E g.name).1.kind=6
  ·obtain⟨k,f,h4,h5⟩:=e2.func k6;have hff:d.funs[(B3 E g.name).1.item.toNat]?=some f:=by rw[h5];simpa using h4
   rw[HT hu e4 k6 hff] at h;by_cases hl:(a.length:Int)<f.arity
   ·rw[KS hl] at h;cases h;exact⟨QX hL,fun l hl2=>by rw[HT hu e4 k6 hff,KS hl,Int.sub_self,Int.sub_zero]⟩
   rw[KI hl] at h;obtain⟨⟨lq,c1⟩,h1,h2⟩:=LG h;have hts:=D4 a f.arity.toNat;have hdl:(a.drop f.arity.toNat).length≤a.length:=by rw[List.length_drop];omega
   have hz0:size Bu=1:=rfl;have hv1:c1.over=false:=by
    cases ho:c1.over with
    | false=>rfl
    | true=>rw[JX (.inr ho)] at h2;cases h2;rw[ho] at hv;cases hv
   obtain⟨p1,p2,p3⟩:=Tx hW hO n f.tree (a.take f.arity.toNat) Bu c c1 lq hL h1 hv1 (fun v hm=>by have:=HS (List.mem_of_mem_take hm);omega) Au;have a1:=p1.st;have a2:=p1.nd;cases hs:lq.1.isSome with
   | false =>
    rw[JX (.inl hs)] at h2;cases h2;refine⟨⟨p1.lt,a1,a2,fun x e=>by cases e⟩,fun l hl2=>?_⟩;rw[HT hu e4 k6 hff,KI hl,p3 l hl2];simp only[Out.bind];rw[JX (.inl hs)]
   | true =>
    rw[Kv hs hv1] at h2;obtain⟨s1,s2⟩:=aS p1.lt h2 hv;have a3:=s1.st;have a4:=s1.nd;refine⟨⟨s1.lt,by omega,by omega,fun x e=>by have:=s1.sz x e;omega⟩,fun l hl2=>?_⟩;rw[HT hu e4 k6 hff,KI hl,p3 l hl2];simp only[Out.bind];rw[Kv hs rfl,s2 _ Au];congr 2;omega
  rw[Ig hu k1 k5 k6] at h;cases h;exact⟨QX hL,fun l hl=>by rw[Ig hu k1 k5 k6,Int.sub_self,Int.sub_zero]⟩
theorem Gi {n:Nat}{c c':Ev}{t r:Tm}(h:D6 E Du n c t= .ok (r,c')) (hv:c'.over=false):c.over=false:=RC LN n c t _ h hv
theorem Y6 (hE:J7 E):∀n,SW n (D6 E Du n) (D6 E CI n)
 | 0=>fun c t r c' hL h _ _=>by rw[D6] at h;cases h
 | n+1=>fun c t r c' hL h hv hz=>by
  have ih:=Y6 hE n;have ho:=XS h Av;have hov:Du.over c=false:=hL.ov;have hov2:∀l,CI.over l=false:=fun _=>rfl;have hmr:Du.many (BK t).2.length=false:=rfl;have hss:=HO t;have hsp:=size_pos (BK t).1;have n0:=hL.n0;have n1:=hL.n1;have hmp:CI.many (BK t).2.length=false:=by simp only[CI];exact decide_eq_false Au
  obtain⟨oh,oa⟩:=IE ho;have self:aG c c (size t) (size t):=⟨hL,Int.le_refl _,Int.le_refl _,by omega⟩
  -- what follows a contraction
  have cont:∀(x:Tm) (c1:Ev) (k':Int→Out (Tm×Int)),Lt c1→c.steps+1≤c1.steps→c.nodes≤c1.nodes→(size x:Int)≤size t+(c1.nodes - c.nodes)→D6 E Du n c1 x= .ok (r,c')→(∀l:Int,1000 - c.steps≤l→k' l=D6 E CI n (l - (c1.steps - c.steps)) x)→aG c c' (size t) (size r)∧∀l:Int,1000 - c.steps≤l→k' l= .ok (r,l - (c'.steps - c.steps)):=by
   intro x c1 k' g1 g2 g3 g4 g5 g6;obtain⟨p1,p2⟩:=ih _ _ _ _ g1 g5 hv Au;have a1:=p1.st;have a2:=p1.nd;have a3:=p1.sz;refine⟨⟨p1.lt,by omega,by omega,by omega⟩,fun l hl=>?_⟩;rw[g6 l hl,p2 _ Au];congr 2;omega
  by_cases k5:(BK t).1.kind=5
  ·by_cases hl:(BK t).2.length=0
   ·rw[OB ho hov hmr k5 hl] at h;cases h;exact⟨self,fun l _=>by rw[OB ho (hov2 l) hmp k5 hl,Int.sub_self,Int.sub_zero]⟩
   obtain⟨b,hb,_⟩:=Gl oh (i:=1) (by rw[k5];decide);rw[R2 ho hov hmr k5 hl hb] at h;obtain⟨h1,h2,h3,h4,h5,h6⟩:=KY hL (fun t c1 q c2 e hv=>Gi e hv) h hv (k':=fun x s'=>D6 E CI n s' (apply x ((BK t).2.drop 1)));have u:=Da ((BK t).2.drop 1) (Ce b ((BK t).2.take 1) 0).1;have u2:=D4 (BK t).2 1;have u3:((BK t).2.drop 1).length≤(BK t).2.length:=by rw[List.length_drop];omega
   refine cont _ _ _ h2 Au Au Au h5 fun l hl2=>?_;rw[R2 ho (hov2 l) hmp k5 hl hb,h6 l hl2];congr 1;omega
  by_cases k11:(BK t).1.kind=11
  ·obtain⟨v,hvk,_⟩:=Gl oh (i:=1) (by rw[k11];decide);obtain⟨b,hb,_⟩:=Gl oh (i:=2) (by rw[k11];decide);rw[Rs ho hov hmr k11 hvk hb] at h;obtain⟨h1,h2,h3,h4,h5,h6⟩:=KY hL (fun t c1 q c2 e hv=>Gi e hv) h hv (k':=fun x s'=>D6 E CI n s' (apply x (BK t).2));have u:=Da (BK t).2 (Ce b [v] 0).1;refine cont _ _ _ h2 Au Au Au h5 fun l hl2=>?_;rw[Rs ho (hov2 l) hmp k11 hvk hb,h6 l hl2];congr 1;omega
  by_cases k9:(BK t).1.kind=9∨(BK t).1.kind=10
  ·obtain⟨p,hpk,op,sp⟩:=Gl oh (i:=0) (by rcases k9 with h | h<;>rw[h]<;>decide);rw[Of ho hov hmr k9 hpk] at h;obtain⟨⟨r1,c1⟩,h1,h2,h3⟩:=J8 h;have hg:∀l:Int,1000 - c.steps≤l→c1.over=false→D6 E CI (n+1) l t=Pw E CI n (BK t).1 (BK t).2 (r1,l - (c1.steps - c.steps)):=fun l hl hv1=>by
    obtain⟨p1,p2⟩:=ih _ _ _ _ hL h1 hv1 Au;rw[Of ho (hov2 l) hmp k9 hpk,p2 l hl];simp only[Out.chk,Out.bind];rw[if_pos h2]
   by_cases k8:r1.kind=8
   ·have har:arity 8=3:=rfl;obtain⟨y,hy,oy,sy⟩:=Gl h2 (i:=(1+(BK t).1.kind - 9).toNat) (by show _<arity r1.kind;rw[k8,har];omega);rw[OL (r:=(r1,c1)) k8 hy] at h3;have hv1:c1.over=false:=by
     have:=Kw LN (s:=c1) (fun t c1 q e hv=>Gi e hv) h3;exact this hv
    obtain⟨p1,p2⟩:=ih _ _ _ _ hL h1 hv1 Au;obtain⟨q1,q2,q3,q4,q5,q6⟩:=KY p1.lt (fun t c1 q c2 e hv=>Gi e hv) h3 hv (k':=fun x s'=>D6 E CI n s' (apply x (BK t).2));have u:=Da (BK t).2 y;have a1:=p1.st;have a2:=p1.nd;have a3:=p1.sz;simp only at q3 q4 q5 sy;refine cont (apply y (BK t).2) (c1.result y 0) _ q2 Au Au Au q5 fun l hl2=>?_;rw[hg l hl2 hv1,OL (r:=(r1,l - (c1.steps - c.steps))) k8 hy,q6 _ Au];congr 1;simp only;omega
   rw[Lu (r:=(r1,c1)) k8] at h3;cases h3;obtain⟨p1,p2⟩:=ih _ _ _ _ hL h1 hv Au;have a1:=p1.st;have a2:=p1.nd;have a3:=p1.sz;have u:=Da (BK t).2 (Iz (BK t).1.kind r1);have u2:size (Iz (BK t).1.kind r1)=1+size r1:=by simp only[Iz,size,Bl];omega
   refine⟨⟨p1.lt,a1,a2,by simp only;omega⟩,fun l hl=>?_⟩;rw[hg l hl hv,Lu (r:=(r1,l - (c1.steps - c.steps))) k8]
  by_cases k3:(BK t).1.kind=3
  ·rw[KV ho hov hmr k3] at h;obtain⟨⟨q,c1⟩,h1,h2⟩:=LG h;have hv1:c1.over=false:=by
    cases hq:q.isSome with
    | false=>rw[Qr hq] at h2;cases h2;exact hv
    | true=>rw[Qz hq] at h2;exact Gi h2 hv
   obtain⟨s1,s2⟩:=XN hE ih (fun c t r c' e hv=>Gi e hv) hL h1 hv1 Au Au;have a1:=s1.st;have a2:=s1.nd;cases hq:q.isSome with
   | false =>
    rw[Qr hq] at h2;cases h2;refine⟨⟨s1.lt,a1,a2,by omega⟩,fun l hl=>?_⟩;rw[KV ho (hov2 l) hmp k3,s2 l hl];simp only[Out.bind];rw[Qr hq]
   | true =>
    rw[Qz hq] at h2;obtain⟨x,rfl⟩:=Option.isSome_iff_exists.1 hq;have a3:=s1.sz x rfl;simp only[Option.getD_some] at h2;obtain⟨p1,p2⟩:=ih _ _ _ _ s1.lt h2 hv Au;have b1:=p1.st;have b2:=p1.nd;have b3:=p1.sz;refine⟨⟨p1.lt,by omega,by omega,by omega⟩,fun l hl=>?_⟩;rw[KV ho (hov2 l) hmp k3,s2 l hl];simp only[Out.bind];rw[Qz rfl];simp only[Option.getD_some];rw[p2 _ Au];congr 2;omega
  have k9a:(BK t).1.kind≠9:=fun e=>k9 (.inl e);have k9b:(BK t).1.kind≠10:=fun e=>k9 (.inr e);rw[Vw ho hov hmr k5 k11 k9a k9b k3] at h;cases h;exact⟨self,fun l _=>by rw[Vw ho (hov2 l) hmp k5 k11 k9a k9b k3,Int.sub_self,Int.sub_zero]⟩
end
section
variable {E:List Cc}
def sQ {α:Type}(c:Ev) (o:Int→Out (α×Int)) (q:α):Prop:=∀l:Int,1000 - c.steps≤l→∃l',o l= .ok (q,l')
end
section
variable {E:List Cc}
end
section
variable {E:List Cc}
def LW (W:Int→Tm→Out (Tm×Int)):Prop:=∀l t r l' k,0≤k→W l t= .ok (r,l')→W (l+k) t= .ok (r,l'+k)
structure Exit (E:List Cc) (n:Nat) (l:Int) (a:Tm) (l':Int):Prop where
 many:CI.many (BK a).2.length=false
 lam:(BK a).1.kind=5→(BK a).2.length=0
 lt:(BK a).1.kind≠11
 proj:(BK a).1.kind=9∨(BK a).1.kind=10→∃p,(BK a).1=Iz (BK a).1.kind p∧okB p=true∧p.kind≠8∧D6 E CI n l p= .ok (p,l')∧a=apply (BK a).1 (BK a).2
 con:(BK a).1.kind=3→Eo E CI (D6 E CI n) n (BK a).1 (BK a).2 l= .ok (none,l')
 oth:(BK a).1.kind≠9→(BK a).1.kind≠10→(BK a).1.kind≠3→l'=l
end
def QA {α:Type}:Out α→Int
 | .ok _=>0
 | _=>11
def Xq {α:Type}(z:α):Out (α×Int)→α
 | .ok (a,_)=>a
 | _=>z
section
variable {α:Type}{o:Out (α×Int)}{a:α×Int}{z:α}{e:Int}
theorem lh (h:o.ex= .ok a):QA o=0:=by rw[Ii h];rfl
theorem kg (h:o.ex= .error e):QA o=11:=by cases o<;>first | rfl | cases h
theorem kX (h:o.ex= .ok a):Xq z o=a.1:=by rw[Ii h];rfl
theorem kN (h:o.ex= .error e):Xq z o=z:=by cases o<;>first | rfl | cases h
end
theorem Nb:HF 20000:=⟨by omega,by omega⟩
end Go.Eu
namespace Go.Proofs.YtboammbpdaoojaaGreat
open Go.Abs Go.Eu
theorem eP:∀(ds:List Cc) (N m bt bo:Nat) (t:Tm) (s:Int),(Ha ds)→(HF s)→(D6 ds CI N s t≠ .stuck)→B4 Tryz.prog 38 [.ptr m 0,.ptr bt 0,.ptr bo 0] [.box m [.p (.lst (List.map Bw ds)),.p (I s)],.box bt ((Bg t).map .p),.box bo [.p (I 0),.p (I 0),.p (.str ⟨#[]⟩),.p (.nils),.p (.nils)]] (LK (fun(r:Tm×Int)=> .tup []) (fun _=> .p (.iface 122 .unit)) (fun r H'=>H'=[.box m [.p (.lst (List.map Bw ds)),.p (I r.2)],.box bt ((Bg t).map .p),.box bo ((Bg r.1).map .p)]) ((D6 ds CI N s t).ex)):=by
 intro ds N m bt bo t s h1 h2 h3;refine BD Tryz.func38 O qj (n:=7) O O (A8 (A5 BA 2 [1] O (D8 [0] O O O (.inl ⟨O,O,O⟩) (Ob ds h1 N m t s h2 h3) ⟨_,_,O,O,O⟩ As (aw (we O) (aw (we O) (FH))) (fun _ _ h=>(congrArg List.length h).trans O) ?_ ?_)))
 rotate_left
 ·intro e _ he;exact⟨O,_,List.nil_sublist _,⟨_,he,O⟩⟩
 rintro⟨z,n2⟩ _ hz rfl;refine Az BA 1 [2,1] O ⟨O,_,_,O,(CJ (is:=[0,1,2]) O),?_⟩;exact⟨⟨z,n2⟩,hz,O,O⟩
theorem QT:∀(ds:List Cc) (N:Nat) (t:Tm),(Ha ds)→(D6 ds CI N 20000 t≠ .stuck)→Et Tryz.prog 12 [.p (.lst (List.map Bw ds)),.agg ((Bg t).map .p)] (.tup [.agg ((Bg (Xq Bu (D6 ds CI N 20000 t))).map .p),.p (I (QA (D6 ds CI N 20000 t)))]):=by
 intro ds N t h1 h2;refine BD Tryz.func12 O qG (n:=16) O O (A4 (BP O (Bf O) fun b3=>BP O (BF B8 O) fun b4=>Az BA 1 [] O (A4 (BP O (BF B8 O) fun b6=>Bt O (A1 ?_)))));obtain⟨e,he⟩ | ⟨⟨z,n2⟩,ha⟩:=GD ((D6 ds CI N 20000 t).ex)
 ·refine A8 (A5 BA 2 [] O (UU [2,0] O O O (.inl ⟨O,O,O⟩) (SM _ _ he (fun r=>r.2) (fun r=>[.box b3 ((Bg t).map .p),.box b6 ((Bg r.1).map .p)]) 38 [.ptr b3 0,.ptr b6 0] [.box b3 ((Bg t).map .p),.box b6 [.p (I 0),.p (I 0),.p (.str ⟨#[]⟩),.p (.nils),.p (.nils)]] ds (fun m=>eP ds N m b3 b6 t 20000 h1 Nb h2)) ⟨_,_,O,O,⟨_,_,O,O,O⟩⟩ As (Dm _) (Az BA 1 [] O (A1 (A2 BA 2 [] O ?_)))));refine A3 O (fun c=>?_) (fun c=>by cases c);refine A2 BA 4 [0,0] O (BS (Bj (i:=0) O) (A6 (⟨O,_,_,⟨_,_,O,(BJ (i:=0) Bd O O O),⟨_,_,O,O,O⟩⟩,(List.nil_sublist _),?_⟩)))
  all_goals exact⟨by show (.tup [.agg [.p (I 0),.p (I 0),.p (.str ⟨#[]⟩),.p (.lst []),.p (.lst [])],.p (I 11)]:AV)=_;rw[kN he,kg he];rfl,rfl⟩
 refine A8 (A5 BA 2 [] O (Ay O (CS [2,0] O (.inl ⟨O,O,O⟩) (Uc _ _ ha (fun r=>r.2) (fun r=>[.box b3 ((Bg t).map .p),.box b6 ((Bg r.1).map .p)]) 38 [.ptr b3 0,.ptr b6 0] [.box b3 ((Bg t).map .p),.box b6 [.p (I 0),.p (I 0),.p (.str ⟨#[]⟩),.p (.nils),.p (.nils)]] ds (fun m=>eP ds N m b3 b6 t 20000 h1 Nb h2)) ⟨_,_,O,O,⟨_,_,O,O,O⟩⟩ As O (.inl O)) (Az BA 1 [] O (A1 (A2 BA 2 [] O ?_)))));refine A3 O (fun c=>by cases c) (fun c=>?_);refine A7 (A2 BA 3 [0,1,1] O (A6 (⟨O,_,_,⟨_,_,O,(BJ (i:=1) Bd O O Am),⟨_,_,O,O,O⟩⟩,(List.nil_sublist _),?_⟩)))
 all_goals exact⟨by show (.tup [.agg ((Bg z).map .p),.p (I 0)]:AV)=_;rw[kX ha,lh ha],rfl⟩
end Go.Proofs.YtboammbpdaoojaaGreat
namespace Go.Eu
open Go.Abs
def Fj (p:Int×List Int):List PV:=[I p.1,.lst (p.2.map Gv)]
theorem gr (p:Int×List Int):Ed 2 (Fj p):=⟨rfl,by simp[Fj]⟩
theorem Tw (l:List (Int×List Int)):∀r∈l.map Fj,Ed 2 r:=HQ gr l
theorem V2 {t x z:Tm}{ps:List Int}{p:Int}(h:Jq t ps x=some z) (hp:ps[0]?=some p):p.toNat<(BK t).2.length:=by
 cases ps with
 | nil=>simp at hp
 | cons q qs =>
  simp at hp;subst hp;rw[Jq] at h;rcases Nat.lt_or_ge q.toNat (BK t).2.length with hl | hl
  ·exact hl
  rw[List.getElem?_eq_none hl] at h;cases h
theorem bI {t x z y:Tm}{ps:List Int}{p:Int}(h:Jq t ps x=some z) (hp:ps[0]?=some p) (hy:(BK t).2[p.toNat]?=some y):∃w,Jq y (ps.drop 1) x=some w∧apply (BK t).1 ((BK t).2.set p.toNat w)=z:=by
 cases ps with
 | nil=>simp at hp
 | cons q qs =>
  simp at hp;subst hp;rw[Jq,hy] at h;simp only[Option.map_eq_some_iff] at h;obtain⟨w,h1,h2⟩:=h;exact⟨w,h1,h2⟩
theorem cY {t x z:Tm}{ps:List Int}(h:Jq t ps x=some z) (hp:ps.length=0):x=z:=by
 cases ps with
 | nil=>rw[Jq] at h;cases h;rfl
 | cons q qs=>simp at hp
theorem Zx {t x z:Tm}{ps:List Int}(h:Jq t ps x=some z) (hp:ps.length≠0):0<(BK t).2.length:=by
 cases ps with
 | nil=>simp at hp
 | cons q qs=>have:=V2 (p:=q) h rfl;omega
end Go.Eu
namespace Go.Proofs.YtboammbpdaoojaaGreat
open Go.Abs Go.Eu
theorem dg:∀(l:List Int),(l.length<549755813888)→B4 Tryz.prog 143 [.p (.lst (List.map Gv l))] [] (Zd (fun v=>v) 1 (List.map Gv l)):=by
 intro l h1;refine BD Tryz.func143 O nG (n:=8) O O (A2 BA 1 [] O (A1 (A4 (B6 O (D1 O O (Mz Hp O O) ?_)))));rintro _ ⟨q,rfl,hq⟩;refine Bt O (A3 O (fun c=>?_) (fun c=>?_))
 ·(try simp only[sd,se] at c);refine A2 BA 1 [] O (BS (EY (t:=2) (sz:=1) O) (A6 (⟨O,_,_,⟨_,_,O,O,O⟩,(CJ (is:=[0]) O),?_⟩)));rw[show l=[] by simpa using hq c]
  all_goals exact⟨_,_,rfl,rfl⟩
 (try simp only[sd,se] at c);refine A7 (A4 (SI O O (Lb Hp) fun b5 cp=>B6 O (FV O O (Cb (i:=0) (rows':=List.map Gv l) Hp Hp hY O O O O O O (O6 _) (by simp only[List.length_map,List.length_nil];omega) (GW (f:=Gv) [] l)) fun o cp1=>Az BA 1 [] O (A6 (⟨O,_,_,⟨_,_,O,O,O⟩,(CJ (is:=[0]) O),?_⟩)))))
 all_goals exact⟨_,_,rfl,rfl⟩
theorem _root_.Go.AT {α:Prop}(h:α:=by simp only[Dt,List.length_set];omega):α:=h
theorem gK:∀(n:Nat) (ps:List Int) (t x z:Tm),(ps.length≤n)→(okB t=true)→(∀p∈ps,0≤p)→(ps.length<1000000)→(Jq t ps x=some z)→Et Tryz.prog 142 [.agg ((Bg t).map .p),.p (.lst (List.map Gv ps)),.agg ((Bg x).map .p)] (.agg ((Bg z).map .p)):=by
 intro n
 induction n using Nat.strongRecOn with
 | ind n ih =>
  intro ps t x z h0 h1 h3 h4 h5;have hsp:=V8 h1;have hsl:=hsp.len;have hss:=hsp.sz;refine BD Tryz.func142 O mD (n:=39) O O (A4 (BP O (Bf O) fun b3=>BP O (Bf O) fun b5=>BP O (BF B8 O) fun b6=>Bt O (A1 (A4 (B6 O (Ay O (BZ Hp O (List.length_map _)) (Az BA 1 [] O (A3 O (fun c=>?_) (fun c=>?_)))))))))
  ·(try simp only[sd,se] at c);refine A2 BA 2 [1,0,1] O (A6 (⟨O,_,_,⟨_,_,O,(BJ (i:=0) Bd O O Am),O⟩,(List.nil_sublist _),?_⟩))
   all_goals exact⟨by show (.agg ((Bg x).map .p):AV)=_;rw[cY h5 Au],rfl⟩
  (try simp only[sd,se] at c);refine A7 (A4 (Ay O (BI (i:=2) Bd O O Am) (Ay O (BN O O (MF t hsp.nd Ad) O) (A5 BA 3 [] O (BP O (BF B8 O) fun b7=>Az BA 2 [0,1] O (A4 (B6 O (NI O O O (.inl ⟨O,O,O⟩) (Kg ((BK t).2) hsp.len) (.inl O) fun o cp=>Az BA 1 [] O (A1 (MJ (i:=0) O (by have hxl:=Zx h5 Au;rw[Bh];omega) fun b hb=>?_))))))))));subst hb;refine B7 (fun k=>false) D7 (A0 O (fun _=>BB O) Aw (A0 O (fun _=>BB O) Aw ?_));obtain⟨x1,hx1⟩:=BE (l:=ps) (i:=0) Au;have hx0:=h3 _ (List.mem_of_getElem? hx1);have hxl:=V2 h5 hx1;refine A0 O (fun _=>BC Hp O O Au (MB hx1) (O)) Aw (A0 O (fun _=>Ci C0 O) Aw (A0 O (fun _=>BB O) Aw (A0 O (fun _=>BB O) Aw (A0 O (fun _=>BC Hp O O Au (MB hx1) (O)) Aw (A0 O (fun _=>Ci C0 O) Aw (A0 O (fun _=>DE Bq O O Au Ab) Aw ?_))))));obtain⟨y,hy⟩:=BE (l:=((BK t).2)) (i:=(x1:Int).toNat) (by first | omega | assumption);refine BT (j:=0) O O O (fun H i hi=>E1 (i:=i) Bd O hi (Bn hy)) AB Aw (A0 O (fun _=>BB O) Aw (A0 O (fun _=>Cp (lo:=1) Hp O (CT (O6 _)) ⟨_,O⟩ O AR (Nat.le_refl _) (lN (f:=Gv) ps 1)) Aw (BT (j:=3) O O O (fun H i hi=>BI (i:=i) Bd O hi Am) AB Aw ?_)));obtain⟨z1,e1,e2⟩:=bI h5 hx1 hy;refine A0 rfl (fun _=>BN rfl rfl (ih (n - 1) Au (ps.drop 1) y x z1 (by simp only[List.length_drop];omega) (hsp.args _ (List.mem_of_getElem? hy)) (fun p hp=>h3 p (List.mem_of_mem_drop hp)) (by simp only[List.length_drop];omega) e1) rfl) trivial (A0 O (fun _=>DE Bq O O Au Ab) Aw (CF O O (Eh (i:=0) (j:=((x1:Int).toNat)) Bd O O O Ab O (Ka _) (BL _) (C5 _) (TF ((BK t).2) ((x1:Int).toNat) z1)) AB Aw (Bv O Ap (A4 (A5 BA 2 [1] O (CH (DQ (t:=20) (x:= .vs (some b) (BO ((((BK t).2)).set ((x1:Int).toNat) z1)).length cp) (Dc ((BK t).2) (l':=(((BK t).2)).set ((x1:Int).toNat) z1) Av)) ?_))))))
  refine CH (DQ (t:=9) (x:= .vs (some b) (BO ((((BK t).2)).set ((x1:Int).toNat) z1)).length cp) (Dc ((BK t).2) (l':=(((BK t).2)).set ((x1:Int).toNat) z1) Av)) (CH (DQ (t:=21) (x:= .vs (some b) (BO ((((BK t).2)).set ((x1:Int).toNat) z1)).length cp) (Dc ((BK t).2) (l':=(((BK t).2)).set ((x1:Int).toNat) z1) Av)) (CH (DQ (t:=25) (x:= .vs (some b) (BO ((((BK t).2)).set ((x1:Int).toNat) z1)).length cp) (Dc ((BK t).2) (l':=(((BK t).2)).set ((x1:Int).toNat) z1) Av)) (CH (DQ (t:=37) (x:= .vs (some b) (BO ((((BK t).2)).set ((x1:Int).toNat) z1)).length cp) (Dc ((BK t).2) (l':=(((BK t).2)).set ((x1:Int).toNat) z1) Av)) (CH (Cx (i:=0) [20,9,21,25,37] O (EH ⟨O,O,O,O,O,Aw⟩)) ?_))));refine Ay O (BN O O (Ee ((BK t).1) ((((BK t).2)).set ((x1:Int).toNat) z1) AT) O) (Az BA 1 [1,1] O (A6 (⟨O,_,_,⟨_,_,O,(BJ (i:=1) Bd O O Am),O⟩,(List.nil_sublist _),?_⟩)))
  all_goals exact⟨by show (.agg ((Bg (apply ((BK t).1) ((((BK t).2)).set ((x1:Int).toNat) z1))).map .p):AV)=_;rw[e2],rfl⟩
end Go.Proofs.YtboammbpdaoojaaGreat
namespace Go.Eu
open Go.Abs
def UW (n:Nat):List (Int×List Int):=(List.range n).map fun i:Nat=>((i:Int),[])
theorem VO (n:Nat):UW (n+1)=UW n++[((n:Int),[])]:=by simp[UW,List.range_succ]
theorem QS (n:Nat):(UW n).length=n:=by simp[UW]
theorem OI (a:Int×List Int) (fx:Int):E6 a fx 0=[]:=rfl
theorem Ol (a:Int×List Int) (fx:Int) (n:Nat):E6 a fx (n+1)=E6 a fx n++[(a.1,a.2++[fx+(n:Int)])]:=by simp[E6,List.range_succ]
theorem Rc {α:Type}{l:List α}{i:Nat}{x:α}(h:l[i]?=some x):l.take (i+1)=l.take i++[x]:=by rw[List.take_add_one,h];rfl
theorem Wo {α:Type}{l:List α}{i:Nat}(h:l.length≤i):l.take i=l:=List.take_of_length_le h
theorem NQ {w:Fl}(h:GA w):okB w.body=true:=by
 obtain⟨k,b,v,l⟩:=w;simp only[GA] at h;exact h.1
structure jJ (a us:List Tm) (pl:List (Int×List Int)) (w:Fl):Prop where
 ok:cO a us pl
 nn:∀p∈pl,0≤p.1∧(∀q∈p.2,0≤q)∧p.2.length+EM w≤1000
theorem jJ.len {a us:List Tm}{pl:List (Int×List Int)}{w:Fl}(h:jJ a us pl w):pl.length=us.length:=h.ok.len
theorem ei (a:List Tm) (n:Nat) (w:Fl) (hn:n≤a.length) (hd:EM w≤1000):jJ a (a.take n) (UW n) w:=by
 refine⟨au a n hn,fun p hp=>?_⟩;obtain⟨i,_,rfl⟩:=List.mem_map.1 hp;exact⟨by simp,by simp,by simp;omega⟩
theorem jJ.next {E:List Cc}{a us f:List Tm}{pl:List (Int×List Int)}{w q:Fl}(h:jJ a us pl w) (hE:J7 E) {i:Nat}{v:Tm}{p:Int×List Int}{d:Cc}{j:Int}{nm:ByteArray}(hv:us[i]?=some v) (hp:pl[i]?=some p) (hc:DW E v=some (d,j,f)) (hb:C8 nm w.branches=some q) (ho:GA w):jJ a (us++f) (pl++E6 p d.fixed f.length) q:=by
 have hcf:=F4 hc;obtain⟨b1,b2⟩:=W3 hb ho;have hfx:=(hE.all d hcf.mem).fx.1;have hmore:=h.ok.more hv hp hfx;rw[←hcf.fs] at hmore;obtain⟨n1,n2,n3⟩:=h.nn p (List.mem_of_getElem? hp);refine⟨hmore,fun r hr=>?_⟩;rcases List.mem_append.1 hr with hr | hr
 ·obtain⟨m1,m2,m3⟩:=h.nn r hr;exact⟨m1,m2,by omega⟩
 obtain⟨k,_,rfl⟩:=List.mem_map.1 hr;refine⟨n1,fun q hq=>?_,by simp only[List.length_append,List.length_cons,List.length_nil];omega⟩;rcases List.mem_append.1 hq with hq | hq
 ·exact n2 q hq
 have:=List.mem_singleton.1 hq;omega
theorem jJ.at_ {a us:List Tm}{pl:List (Int×List Int)}{w:Fl}(h:jJ a us pl w) {i:Nat}{v:Tm}{p:Int×List Int}(hv:us[i]?=some v) (hp:pl[i]?=some p):0≤p.1∧(∀q∈p.2,0≤q)∧p.2.length≤1000∧p.1.toNat<a.length:=by
 obtain⟨n1,n2,n3⟩:=h.nn p (List.mem_of_getElem? hp);obtain⟨j,path,y,h1,h2,h3⟩:=h.ok.at_ i v hv;rw[hp] at h1;cases h1;exact⟨n1,n2,by omega,(List.getElem?_eq_some_iff.1 h2).1⟩
section
variable {E:List Cc}{σ:Type}{S:Sys σ}{T:σ→Tm→Out (Option Tm×σ)}{h:Tm}{ar:Int}{a us:List Tm}{n:Nat}{t:Fl}{pl:List (Int×List Int)}{s:σ}{x:Tm}{p:Int×List Int}
def fW (h:Tm) (a:List Tm) (p:Int×List Int) (r:Option Tm×σ):Out (Option Tm×σ):=match r.1 with
 | none=> .ok (none,r.2)
 | some x=>match Jq (a.getD p.1.toNat default) p.2 x with
  | none=> .stuck
  | some y=> .ok (some (apply h (a.set p.1.toNat y)),r.2)
theorem fG {X:Out (Option Tm×σ)}(e:J4 E S T h ar a n t us pl s=X) (hX:X≠ .stuck):∃k,n=k+1:=by
 cases n with
 | zero=>rw[J4] at e;exact absurd e.symm hX
 | succ k=>exact⟨k,rfl⟩
theorem eu (hk:t.kind≠1):J4 E S T h ar a (n+1) t us pl s=HR S h t.body us (a.drop ar.toNat) s:=by rw[J4,if_neg hk]
theorem gb (hk:t.kind=1) (hb:t.var<0∨t.var≥(us.length:Int)):J4 E S T h ar a (n+1) t us pl s= .ok (none,s):=by rw[J4,if_pos hk,if_pos hb]
theorem eF (hk:t.kind=1) (hb:¬(t.var<0∨t.var≥(us.length:Int))) (hx:us[t.var.toNat]?=some x) (hp:pl[t.var.toNat]?=some p) (hc:DW E x=none):J4 E S T h ar a (n+1) t us pl s=(T s x).bind (fW h a p):=by
 rw[J4,if_pos hk,if_neg hb,Cm hx,Cm hp,hc];rfl
theorem ky {d:Cc}{j:Int}{f:List Tm}(hk:t.kind=1) (hb:¬(t.var<0∨t.var≥(us.length:Int))) (hx:us[t.var.toNat]?=some x) (hp:pl[t.var.toNat]?=some p) (hc:DW E x=some (d,j,f)) (hbr:C8 (FD d j).name t.branches=none):J4 E S T h ar a (n+1) t us pl s= .ok (none,s):=by
 rw[J4,if_pos hk,if_neg hb,Cm hx,Cm hp,hc];simp only[hbr]
theorem kL {d:Cc}{j:Int}{f:List Tm}{t':Fl}(hk:t.kind=1) (hb:¬(t.var<0∨t.var≥(us.length:Int))) (hx:us[t.var.toNat]?=some x) (hp:pl[t.var.toNat]?=some p) (hc:DW E x=some (d,j,f)) (hbr:C8 (FD d j).name t.branches=some t'):J4 E S T h ar a (n+1) t us pl s=J4 E S T h ar a n t' (us++f) (pl++E6 p d.fixed f.length) s:=by
 rw[J4,if_pos hk,if_neg hb,Cm hx,Cm hp,hc];simp only[hbr]
theorem ao {r:Option Tm×σ}(hr:r.1.isSome=false):fW h a p r= .ok (none,r.2):=by
 obtain⟨q,s⟩:=r;cases q with
 | none=>rfl
 | some x=>cases hr
theorem aD {r:Option Tm×σ}{y:Tm}(hs:fW h a p r≠ .stuck) (hr:r.1.isSome=true) (hy:a[p.1.toNat]?=some y):∃z,Jq y p.2 (r.1.getD Bu)=some z∧fW h a p r= .ok (some (apply h (a.set p.1.toNat z)),r.2):=by
 obtain⟨q,s⟩:=r;cases q with
 | none=>cases hr
 | some x =>
  unfold fW at hs ⊢;simp only at hs ⊢;rw[Cm hy] at hs ⊢;cases hz:Jq y p.2 x with
  | none=>rw[hz] at hs;exact absurd rfl hs
  | some z=>exact⟨z,hz,rfl⟩
end
end Go.Eu
namespace Go.Proofs.YtboammbpdaoojaaGreat
open Go.Abs Go.Eu
def rC (ds:List Cc) (n:Nat):Prop:=∀(m:Nat) (t:Tm) (s:Int),HF s→FU ds CI n s t≠ .stuck→B4 Tryz.prog 44 [.ptr m 0,.agg ((Bg t).map .p)] [.box m [.p (.lst (List.map Bw ds)),.p (I s)]] (LK (fun(r:Option Tm×Int)=> .tup [TV (r.1.getD Bu),.p (.bool r.1.isSome)]) (fun _=> .p (.iface 122 .unit)) (fun r H'=>H'=[.box m [.p (.lst (List.map Bw ds)),.p (I r.2)]]) ((FU ds CI n s t).ex))
set_option maxHeartbeats 4000000 in
theorem X1:∀(n m:Nat) (ds:List Cc) (s:Int) (g:Tm) (a:List Tm) (d:Cc) (f:Hj),(rC ds n)→(Ha ds)→(HF s)→(d∈ds)→(f∈d.funs)→(f.arity≤a.length)→(okB g=true)→(a.length<549755813888)→(∀y∈a,okB y=true)→(J4 ds CI (FU ds CI n) g f.arity a n f.tree (a.take f.arity.toNat) (UW f.arity.toNat) s≠ .stuck)→B4 Tryz.prog 111 [.ptr m 0,.agg ((Bg g).map .p),.agg ((Fa f).map .p),.p (.lst (BO a))] [.box m [.p (.lst (List.map Bw ds)),.p (I s)]] (LK (fun(r:Option Tm×Int)=> .tup [TV (r.1.getD Bu),.p (.bool r.1.isSome)]) (fun _=> .p (.iface 122 .unit)) (fun r H'=>H'=[.box m [.p (.lst (List.map Bw ds)),.p (I r.2)]]) ((J4 ds CI (FU ds CI n) g f.arity a n f.tree (a.take f.arity.toNat) (UW f.arity.toNat) s).ex)):=by
 intro n m ds s g a d f hT h2 h3 h4 h5 h6 h7 h8 h9 hns;obtain⟨gk,gi,gn,gl,gs⟩:=g;have hgo:=Cd.1 h7;have hgl:=hgo.nd;simp only[Nd,Dt] at hgl;have hfu:=(h2.g.all _ h4).fu _ h5;have hdp:=h2.fu _ h4 _ h5;have hlf:=Pz h2 h4 h5 h9;have htl:(a.take f.arity.toNat).length=f.arity.toNat:=by rw[List.length_take];omega
 have hpw:=ei a f.arity.toNat f.tree Au Au;generalize hX:J4 ds CI (FU ds CI n) (.mk gk gi gn gl gs:Tm) f.arity a n f.tree (a.take f.arity.toNat) (UW f.arity.toNat) s=X at hns ⊢;refine BD Tryz.func111 O mQ (n:=169) O O (A4 (BP O (Bf O) fun b5=>BP O (Bf O) fun b6=>BP O (BF B8 O) fun b8=>Az BA 1 [] O (A4 (A5 BA 2 [] O (Ay O (A9 (i:=1) C0 O O (Ch _)) (Ay O (Cp (lo:=0) (hi:=(f.arity:Int).toNat) Bq O (CT (B9 _)) O ⟨_,pI Au⟩ (Nat.zero_le _) AR (Oo a ((f.arity:Int).toNat))) (NI O O O (.inl ⟨O,O,O⟩) (Kg (a.take ((f.arity:Int).toNat)) (by simp only[List.length_take];omega)) (.inl O) fun o cp=>Az BA 1 [] O (A4 (Va O (CH (EY (t:=11) (sz:=2) O) (Bt O (A1 (A4 (B6 O (Ay O (KH Bq O (Bh _)) (Az BA 1 [] O (BH ?_)))))))))))))))));refine Bo (α:=Nat×Option Nat×Nat) (fun(i,o1,cp1)=>⟨169,mk [(0,.ptr m 0),(3,.p (.lst (BO a))),(5,.ptr b5 0),(6,.ptr b6 0),(8,.ptr b8 0),(10,.vs o (BO (a.take ((f.arity:Int).toNat))).length cp),(11,.vs o1 (List.map Fj (UW i)).length cp1),(32,.p (I ((a.take ((f.arity:Int).toNat)).length:Nat))),(33,.p (I (i:Int)))],[.vec o1 2 (List.map Fj (UW i)) cp1,.vec o 5 (BO (a.take ((f.arity:Int).toNat))) cp,.box b8 [.p (I 0),.p (I 0),.p (.str ⟨#[]⟩),.p (.nils),.p (.nils)],.box b6 ((Fa f).map .p),.box b5 [.p (I gk),.p (I gi),.p (.str gn),.p (.lst (List.map CE gl)),.p (.lst (BO gs))],.box m [.p (.lst (List.map Bw ds)),.p (I s)]],[]⟩) (fun(i,o1,cp1)=>(a.take f.arity.toNat).length - i) (fun(i,o1,cp1)=>i≤(a.take f.arity.toNat).length) ⟨0,none,0⟩ AQ ?_ ?_
 ·exact Bk ⟨we O,we O,we O,we O,we O,we O,we O,we O,we O,Aw⟩ (leH (is:=[0,1,2,3,4,5]) O (wl (oe O) (wl (oe O) (wl (oe O) (wl (oe O) (wl (oe O) (wl (oe O) (DN))))))))
 rintro⟨i,o1,cp1⟩ hC
 try simp only at hC
 have hi:=hC;refine A2 BA 1 [] O (A1 (A3 O (fun c=>?_) (fun c=>?_)))
 ·(try simp only[sd,se] at c);refine A7 (A1 (BH (A2 BA 2 [] O (A8 (A5 BA 3 [] O (Ay O (B0 Qq TL O O O O O) (FV O O (Cb (i:=0) (rows':=List.map Fj ([((i:Int),[])])) Qq Qq TL O O O O O O (Tw _) (by simp only[List.length_map,QS,List.length_cons,List.length_nil];omega) (GW (f:=Fj) (UW i) ([((i:Int),[])]))) fun o2 cp2=>Az BA 1 [] O (A8 (Az BA 2 [] O ?_)))))))));refine⟨⟨i+1,o2,cp2⟩,AU,by omega,Bk ⟨we rfl,we rfl,we rfl,we rfl,we rfl,we rfl,we (Gg (f:=Fj) (UW i++([((i:Int),[])])) ((VO i).symm)),we rfl,we rfl,trivial⟩ (leH (is:=[0,1,2,3,4,5]) rfl (wl (F5 (f:=Fj) (UW i++([((i:Int),[])])) ((VO i).symm)) (wl (oe rfl) (wl (oe rfl) (wl (oe rfl) (wl (oe rfl) (wl (oe rfl) (DN))))))))⟩
 (try simp only[sd,se] at c);refine Br (A4 (Ay O (Ax Gu O O) (Ay O (CC (i:=3) HM O O (EI _) (C7 _)) (BP O (BF VE O) fun b13=>Az BA 1 [0,1] O (A1 (BH ?_))))));refine Bo (α:=Nat×Fl×List Tm×List (Int×List Int)×Option Nat×Nat×Option Nat×Nat) (fun(k2,w,us,pl,o2,cp2,o3,cp3)=>⟨169,mk [(0,.ptr m 0),(3,.p (.lst (BO a))),(5,.ptr b5 0),(6,.ptr b6 0),(8,.ptr b8 0),(10,.vs o2 (BO us).length cp2),(11,.vs o3 (List.map Fj pl).length cp3),(13,.ptr b13 0)],[.box b13 ((DF w).map .p),.vec o3 2 (List.map Fj pl) cp3,.vec o2 5 (BO us) cp2,.box b8 [.p (I 0),.p (I 0),.p (.str ⟨#[]⟩),.p (.nils),.p (.nils)],.box b6 ((Fa f).map .p),.box b5 [.p (I gk),.p (I gi),.p (.str gn),.p (.lst (List.map CE gl)),.p (.lst (BO gs))],.box m [.p (.lst (List.map Bw ds)),.p (I s)]],[]⟩) (fun(k2,w,us,pl,o2,cp2,o3,cp3)=>k2) (fun(k2,w,us,pl,o2,cp2,o3,cp3)=>J4 ds CI (FU ds CI n) (.mk gk gi gn gl gs:Tm) f.arity a k2 w us pl s=X∧SQ w us∧jJ a us pl w) ⟨n,f.tree,a.take f.arity.toNat,UW f.arity.toNat,o,cp,o1,cp1⟩ (⟨hX,hlf,hpw⟩) ?_ ?_
 ·exact Bk ⟨we O,we O,we O,we O,we O,we O,we (Gg (f:=Fj) (UW i) (by rw[show i=f.arity.toNat from by omega])),we O,Aw⟩ (leH (is:=[0,1,2,3,4,5,6]) O (wl (oe O) (wl (F5 (f:=Fj) (UW i) (by rw[show i=f.arity.toNat from by omega])) (wl (oe O) (wl (oe O) (wl (oe O) (wl (oe O) (wl (oe O) (DN)))))))))
 rintro⟨k2,w,us,pl,o2,cp2,o3,cp3⟩ hC1
 try simp only at hC1
 obtain⟨hC1,hL,hW⟩:=hC1;obtain⟨k1,rfl⟩:=fG hC1 hns;refine A1 (A4 (Ay O (Ax Fc O O) (Ay O (A9 (i:=0) C0 O O (Gh _)) (Az BA 1 [] O (A3 O (fun c1=>?_) (fun c1=>?_))))))
 ·(try simp only[sd,se] at c1);have hk1:=c1;refine A7 (BH (A1 (A1 (Bi [0,3,5,6,8,10,11,13] 56 (fun y=>y= .p (.bool ((decide ((w.var:Int)<(0:Int)))||(decide ((w.var:Int)≥((us.length:Nat):Int)))))) ?_ ?_))))
  ·refine A8 (Ay O (Ax Fc O O) (Ay O (A9 (i:=0) C0 O O (DZ _)) (A5 BA 2 [] O (Ba 50 O (fun g1=>?_) (fun g1=>?_)))))
   ·(try simp only[sd,se] at g1);exact Az BA 6 [] O (⟨O,O,AM,AJ,⟨O,O,O,O,O,O,O,O,Aw⟩⟩)
   (try simp only[sd,se] at g1);exact BM O (Ax Fc O O) (BM O (A9 (i:=0) C0 O O (DZ _)) (BM O (BB O) (BM O (KH Bq O (Bh _)) (Az BA 2 [] O (⟨O,O,AM,AJ,⟨O,O,O,O,O,O,O,O,Aw⟩⟩)))))
  rintro _ rfl;refine A3 O (fun c2=>?_) (fun c2=>?_)
  ·(try simp only[sd,se] at c2);rw[gb hk1 (by simpa using c2)] at hC1;refine A2 BA 3 [3,0] O (BS (Bj (i:=3) O) (A6 (⟨O,_,_,⟨_,_,O,(BJ (i:=3) Bd O O O),⟨_,_,O,O,O⟩⟩,(CJ (is:=[6]) O),?_⟩)));exact⟨⟨_,_⟩,De hC1.symm,O,O⟩
  (try simp only[sd,se] at c2);have hcb:¬(w.var<0∨w.var≥(us.length:Int)):=by simpa using c2
  have hWl:=hW.len;have hLl:=hL.len;refine A7 (A4 (A5 BA 2 [] O (Ay O (A9 (i:=0) C0 O O (DZ _)) (MZ (i:=1) O Ac fun b hb=>?_))));subst hb;refine Ay O (DE Qq O O Au AI) ?_;obtain⟨y,hy⟩:=BE (l:=pl) (i:=(w.var:Int).toNat) AP;refine Ay O (E1 (i:=1) oF O O (Qh hy)) (BP O (BF TL O) fun b14=>Az BA 1 [0,1] O (A4 (A5 BA 3 [] O (Ay O (A9 (i:=1) C0 O O (DZ _)) (MZ (i:=3) O Ac fun b1 hb1=>?_)))));subst hb1;refine Ay O (DE Bq O O Au AI) ?_;obtain⟨y1,hy1⟩:=BE (l:=us) (i:=(w.var:Int).toNat) AP;refine Ay O (E1 (i:=3) Bd O O (Bn hy1)) (Ay O (CS [7] O (.inl ⟨O,O,O⟩) (Qg m ds s y1 h2.g (hL.ok _ (List.mem_of_getElem? hy1))) ⟨_,_,O,O,O⟩ As O (.inl O)) (A5 BA 5 [] O (BP O (BF Je O) fun b15=>Az BA 4 [0,1] O (A1 (A2 BA 2 [] O (A3 O (fun c3=>?_) (fun c3=>?_)))))))
  ·(try simp only[sd,se] at c3);have hcn:=N9 c3;obtain⟨ha1,ha2,ha3,ha4⟩:=hW.at_ hy1 hy;obtain⟨ya,hya⟩:=BE ha4;refine A4 (A5 BA 3 [] O (Ay O (A9 (i:=2) C0 O O (DZ _)) (Ay O (DE Bq O O Au AI) ?_)));obtain⟨y2,hy2⟩:=BE (l:=us) (i:=(w.var:Int).toNat) AP;refine Ay O (E1 (i:=4) Bd O O (Bn hy2)) ?_;have hyy:y2=y1:=Option.some.inj (hy2.symm.trans hy1);rw[eF hk1 hcb hy2 hy (by rw[hyy];exact hcn)] at hC1;have hn0:=hns;rw[←hC1] at hn0;have hn1:=Jz hn0;refine D8 [8] O O O (.inl ⟨O,O,O⟩) (hT m y2 s h3 hn1) ⟨_,_,O,O,O⟩ As (aw (we O) (aw (we O) (FH))) (fun _ _ h=>(congrArg List.length h).trans O) ?_ ?_
   rotate_left
   ·intro e _ he;exact⟨O,_,List.nil_sublist _,⟨_,by rw[←hC1];exact Kx hn0 he,rfl⟩⟩
   rintro⟨q,n2⟩ _ hz rfl;rw[MR hz] at hC1;refine A5 BA 3 [] O (BP O (BF B8 O) fun b19=>Az BA 2 [0,1] O (A1 (A2 BA 2 [] O (A3 O (fun c4=>?_) (fun c4=>?_)))))
   ·(try simp only[sd,se] at c4);rw[ao c4] at hC1;refine A2 BA 3 [6,0] O (BS (Bj (i:=6) O) (A6 (⟨O,_,_,⟨_,_,O,(BJ (i:=6) Bd O O O),⟨_,_,O,O,O⟩⟩,(CJ (is:=[9]) O),?_⟩)));exact⟨⟨_,_⟩,De hC1.symm,O,O⟩
   (try simp only[sd,se] at c4);obtain⟨z1,hz1,hz2⟩:=aD (by rw[hC1];exact hns) c4 hya;rw[hz2] at hC1;refine A7 (A4 (B6 O (NI O O O (.inl ⟨O,O,O⟩) (Kg a h8) (.inl O) fun o4 cp4=>Az BA 1 [] O (A1 (MJ (i:=0) O Ac fun b2 hb2=>?_)))));subst hb2;refine B7 (fun k=>false) D7 (A0 O (fun _=>BB O) Aw (A0 O (fun _=>Ax TT O O) Aw (BT (j:=3) O O O (fun H i hi=>BG (i:=i) C0 O hi O) AB Aw (A0 O (fun _=>BB O) Aw (A0 O (fun _=>Ax TT O O) Aw (BT (j:=3) O O O (fun H i hi=>BG (i:=i) C0 O hi O) AB Aw (A0 O (fun _=>DE Bq O O Au AI) Aw ?_)))))));obtain⟨y3,hy3⟩:=BE (l:=a) (i:=(y.1:Int).toNat) AP;refine BT (j:=0) O O O (fun H i hi=>E1 (i:=i) Bd O hi (Bn hy3)) AB Aw (A0 O (fun _=>Ax TT O O) Aw (BT (j:=3) O O O (fun H i hi=>BG (i:=i) Ye O hi O) AB Aw (BT (j:=1) O O O (fun H i hi=>BI (i:=i) Bd O hi Am) AB Aw ?_)));have hyy:=Option.some.inj (hy3.symm.trans hya);refine A0 O (fun _=>BN O O (gK y.2.length y.2 y3 (q.getD Bu) z1 (Nat.le_refl _) (h9 _ (List.mem_of_getElem? hy3)) ha2 Au (by rw[hyy];exact hz1)) O) Aw (A0 O (fun _=>DE Bq O O Au AI) Aw (CF O O (Eh (i:=0) (j:=((y.1:Int).toNat)) Bd O O O AN O (Ka _) (BL _) (C5 _) (TF a ((y.1:Int).toNat) z1)) AB Aw (Bv O Ap (A4 (A5 BA 2 [9] O (CH (DQ (t:=91) (x:= .vs (some b2) (BO ((a).set ((y.1:Int).toNat) z1)).length cp4) (Dc a (l':=(a).set ((y.1:Int).toNat) z1) Av)) (CH (DQ (t:=21) (x:= .vs (some b2) (BO ((a).set ((y.1:Int).toNat) z1)).length cp4) (Dc a (l':=(a).set ((y.1:Int).toNat) z1) Av)) ?_)))))));refine CH (DQ (t:=92) (x:= .vs (some b2) (BO ((a).set ((y.1:Int).toNat) z1)).length cp4) (Dc a (l':=(a).set ((y.1:Int).toNat) z1) Av)) (CH (DQ (t:=95) (x:= .vs (some b2) (BO ((a).set ((y.1:Int).toNat) z1)).length cp4) (Dc a (l':=(a).set ((y.1:Int).toNat) z1) Av)) (CH (DQ (t:=106) (x:= .vs (some b2) (BO ((a).set ((y.1:Int).toNat) z1)).length cp4) (Dc a (l':=(a).set ((y.1:Int).toNat) z1) Av)) (CH (Cx (i:=0) [91,21,92,95,106] O (EH ⟨O,O,O,O,O,Aw⟩)) (Ay O (BN O O (Ee (.mk gk gi gn gl gs:Tm) ((a).set ((y.1:Int).toNat) z1) AT) O) (Az BA 2 [6,1] O (A6 (⟨O,_,_,⟨_,_,O,(BJ (i:=6) Bd O O Am),⟨_,_,O,O,O⟩⟩,(CJ (is:=[9]) O),?_⟩)))))));exact⟨⟨_,_⟩,De hC1.symm,O,O⟩
  (try simp only[sd,se] at c3);obtain⟨ha1,ha2,ha3,ha4⟩:=hW.at_ hy1 hy;have hcs:=Me c3;have hcf:=F4 hcs;have hlo:=hcf.lo;have hhi:=hcf.hi;have hfl:=JS h2.g hcs;have hdf:=(h2.g.all _ hcf.mem).fx;refine A7 (A1 (A1 (B7 (fun k=>false) D7 (BT (j:=2) O O O (fun H i hi=>BI (i:=i) HM O hi Af) AB Aw (A0 O (fun _=>Ax Cv O O) Aw (BT (j:=0) O O O (fun H i hi=>A9 (i:=i) Hk O hi (CN _)) AB Aw (A0 O (fun _=>BB O) Aw ?_)))))));obtain⟨x,hx⟩:=BE (l:=((CY ds y1).1).ctors) (i:=((CY ds y1).2.1:Int).toNat) Au;refine A0 O (fun _=>BC HY O O Au (Ek hx) (EN _)) Aw (A0 O (fun _=>Bp I0 O O) Aw (A0 O (fun _=>DP Lm O (Fx _)) Aw (A0 O (fun _=>BN O O (T3 w x.name hL.tin.bl) O) Aw (A0 O (fun _=>BB O) Aw (A0 O (fun _=>By O O) Aw (A0 O (fun _=>By O O) Aw (CF O O (Bc (i:=2) HM O O O Af AX (N8 _)) AB Aw (A0 O (fun _=>Bb O) Aw (Bv O Ap (A2 BA 2 [] O (A3 O (fun c4=>?_) (fun c4=>?_))))))))))))
  ·(try simp only[sd,se] at c4);rw[ky hk1 hcb hy1 hy hcs (by rw[FD,Cm hx];exact V4 c4)] at hC1;refine A2 BA 3 [5,0] O (BS (Bj (i:=5) O) (A6 (⟨O,_,_,⟨_,_,O,(BJ (i:=5) Bd O O O),⟨_,_,O,O,O⟩⟩,(CJ (is:=[8]) O),?_⟩)));exact⟨⟨_,_⟩,De hC1.symm,O,O⟩
  (try simp only[sd,se] at c4);have hbs:=Wb c4;rw[kL hk1 hcb hy1 hy hcs (by rw[FD,Cm hx];exact hbs)] at hC1;refine A7 (A4 (B6 O (Ay O (BZ Bq O (Bh _)) (Az BA 1 [] O (BH ?_)))));refine Bo (α:=Nat×Option Nat×Nat×Option Nat×Nat) (fun(i,o4,cp4,o5,cp5)=>⟨169,mk [(0,.ptr m 0),(3,.p (.lst (BO a))),(5,.ptr b5 0),(6,.ptr b6 0),(8,.ptr b8 0),(10,.vs o4 (BO (us++(CY ds y1).2.2.1.take i)).length cp4),(11,.vs o5 (List.map Fj (pl++E6 y (CY ds y1).1.fixed i)).length cp5),(13,.ptr b13 0),(14,.ptr b14 0),(15,.ptr b15 0),(122,.p (.lst (BO ((CY ds y1).2.2.1)))),(123,.p (I (((CY ds y1).2.2.1).length:Nat))),(124,.p (I (i:Int)))],[.box b15 ((Bw ((CY ds y1).1)).map .p),.box b14 ((Fj y).map .p),.box b13 ((DF ((bL x.name w.branches).1)).map .p),.vec o5 2 (List.map Fj (pl++E6 y (CY ds y1).1.fixed i)) cp5,.vec o4 5 (BO (us++(CY ds y1).2.2.1.take i)) cp4,.box b8 [.p (I 0),.p (I 0),.p (.str ⟨#[]⟩),.p (.nils),.p (.nils)],.box b6 ((Fa f).map .p),.box b5 [.p (I gk),.p (I gi),.p (.str gn),.p (.lst (List.map CE gl)),.p (.lst (BO gs))],.box m [.p (.lst (List.map Bw ds)),.p (I s)]],[]⟩) (fun(i,o4,cp4,o5,cp5)=>(CY ds y1).2.2.1.length - i) (fun(i,o4,cp4,o5,cp5)=>i≤(CY ds y1).2.2.1.length) ⟨0,(some b1),cp2,(some b),cp3⟩ AQ ?_ ?_
  ·exact Bk ⟨we O,we O,we O,we O,we O,we (L1 us Av),we (Gg (f:=Fj) pl (by simp[OI])),we O,we O,we O,we O,we O,we O,Aw⟩ (leH (is:=[0,1,2,3,4,5,6,7,8]) O (wl (oe O) (wl (oe O) (wl (oe O) (wl (F5 (f:=Fj) pl (by simp[OI])) (wl (KA us Av) (wl (oe O) (wl (oe O) (wl (oe O) (wl (oe O) (DN)))))))))))
  rintro⟨i,o4,cp4,o5,cp5⟩ hC2
  try simp only at hC2
  have hi:=hC2;refine A2 BA 1 [] O (A1 (A3 O (fun c5=>?_) (fun c5=>?_)))
  ·(try simp only[sd,se] at c5);refine A7 (A1 (BH (A4 (B6 O ?_))));obtain⟨x1,hx1⟩:=BE (l:=(CY ds y1).2.2.1) (i:=i) Au;refine Ay O (BC Bq O O Au (Bn hx1) (BL _)) (Ay O (BQ Bd O (BL _)) (BP O (BF B8 O) fun b23=>Az BA 2 [0,1] O (A4 (A5 BA 2 [0] O ?_))));obtain⟨x1k,x1i,x1n,x1l,x1s⟩:=x1;refine Ay O (B0 Bq B8 O O O O O) (FV O O (Cb (i:=5) (rows':=BO [(.mk x1k x1i x1n x1l x1s:Tm)]) Bq Bq B8 O O O O O O (B9 _) (by have:=hL.len;have:=hW.len;simp only[Bh,QS,Kp,List.length_take,List.length_map,List.length_cons,List.length_nil,List.length_append];omega) (Jj (us++(CY ds y1).2.2.1.take i) [(.mk x1k x1i x1n x1l x1s:Tm)])) fun o6 cp6=>Az BA 1 [] O (B7 (fun k=>Nat.beq k 5||Nat.beq k 14) D7 (A0 O (fun _=>BB O) Aw (A0 O (fun _=>Ax TT O O) Aw (BT (j:=2) O O O (fun H i hi=>BG (i:=i) C0 O hi O) AB Aw (A0 O (fun _=>Ax TT O O) Aw (BT (j:=2) O O O (fun H i hi=>BG (i:=i) Ye O hi O) AB Aw ?_)))))));refine kG [(6,.free (.ptr b15 13)),(7,.read [.box b15 ((Bw ((CY ds y1).1)).map .p)] (.p (I (((CY ds y1).1).fixed)))),(8,.free (.p (I (i:Int)))),(9,.free (.p (I ((((CY ds y1).1).fixed:Int)+((i:Int):Int))))),(10,.free (.p (.lst (List.map Gv [((((CY ds y1).1).fixed:Int)+((i:Int):Int))]))))] O O O (.inl ⟨O,O,O⟩) (dg y.2 Au) (.inl O) Ap fun o7 cp7=>⟨AB,Aw,?_⟩;refine A0 O (fun _=>Ax Cv O O) AO (BT (j:=2) O O O (fun H i hi=>A9 (i:=i) C0 O hi (C3 _)) AB AO (A0 O (fun _=>BB O) AO (A0 O (fun _=>ET O O Au Au) AO (A0 O (fun _=>B0 Hp hY O O O O O) AO (CF O O (WS (i:=0) (rows':=List.map Gv [((((CY ds y1).1).fixed:Int)+((i:Int):Int))]) Hp Hp hY O O O O O O (O6 _) (by have:=hL.len;have:=hW.len;simp only[Bh,QS,Kp,List.length_take,List.length_map,List.length_cons,List.length_nil,List.length_append];omega) (GW (f:=Gv) y.2 [((((CY ds y1).1).fixed:Int)+((i:Int):Int))])) AB AO (A0 O (fun _=>CB TT TL O) AO (A0 O (fun _=>B0 Qq TL O O O O O) AO ?_)))))))
   refine LS [] O O (Cb (i:=4) (rows':=List.map Fj ([(y.1,(y.2++[((((CY ds y1).1).fixed:Int)+((i:Int):Int))]))])) Qq Qq TL O O O O O O (Tw _) (by have:=hL.len;have:=hW.len;simp only[Bh,QS,Kp,List.length_take,List.length_map,List.length_cons,List.length_nil,List.length_append];omega) (GW (f:=Fj) (pl++E6 y (CY ds y1).1.fixed i) ([(y.1,(y.2++[((((CY ds y1).1).fixed:Int)+((i:Int):Int))]))]))) Ap fun o8 cp8=>⟨AB,AO,?_⟩;refine A0 O (fun _=>Bb O) AO (Bv O Ap (A8 (Az BA 2 [] O ?_)));refine⟨⟨i+1,o6,cp6,o8,cp8⟩,AU,by omega,Bk ⟨we rfl,we rfl,we rfl,we rfl,we rfl,we (L1 (us++(CY ds y1).2.2.1.take i++[(.mk x1k x1i x1n x1l x1s:Tm)]) (by rw[Rc hx1,List.append_assoc])),we (Gg (f:=Fj) (pl++E6 y (CY ds y1).1.fixed i++([(y.1,(y.2++[((((CY ds y1).1).fixed:Int)+((i:Int):Int))]))])) (by rw[Ol,List.append_assoc])),we rfl,we rfl,we rfl,we rfl,we rfl,we rfl,trivial⟩ (leH (is:=[1,2,3,4,5,6,7,8,9]) rfl (wl (oe rfl) (wl (oe rfl) (wl (oe rfl) (wl (F5 (f:=Fj) (pl++E6 y (CY ds y1).1.fixed i++([(y.1,(y.2++[((((CY ds y1).1).fixed:Int)+((i:Int):Int))]))])) (by rw[Ol,List.append_assoc])) (wl (KA (us++(CY ds y1).2.2.1.take i++[(.mk x1k x1i x1n x1l x1s:Tm)]) (by rw[Rc hx1,List.append_assoc])) (wl (oe rfl) (wl (oe rfl) (wl (oe rfl) (wl (oe rfl) (DN)))))))))))⟩
  (try simp only[sd,se] at c5);refine Br ?_;refine⟨⟨k1,(bL x.name w.branches).1,us++(CY ds y1).2.2.1,pl++E6 y (CY ds y1).1.fixed (CY ds y1).2.2.1.length,o4,cp4,o5,cp5⟩,AU,⟨hC1,hL.next h2.g (hL.ok _ (List.mem_of_getElem? hy1)) hcs hbs,hW.next h2.g hy1 hy hcs hbs hL.tok⟩,Bk ⟨we O,we O,we O,we O,we O,we (L1 (us++(CY ds y1).2.2.1.take i) (by rw[Wo Au])),we (Gg (f:=Fj) (pl++E6 y (CY ds y1).1.fixed i) (by rw[show i=(CY ds y1).2.2.1.length from by omega])),we O,Aw⟩ (leH (is:=[2,3,4,5,6,7,8]) O (wl (oe O) (wl (F5 (f:=Fj) (pl++E6 y (CY ds y1).1.fixed i) (by rw[show i=(CY ds y1).2.2.1.length from by omega])) (wl (KA (us++(CY ds y1).2.2.1.take i) (by rw[Wo Au])) (wl (oe O) (wl (oe O) (wl (oe O) (wl (oe O) (DN)))))))))⟩
 (try simp only[sd,se] at c1);have hk1:=c1;have hLl:=hL.len;rw[eu hk1] at hC1;refine Br (A4 (Ay O (Ax Fc O O) (Ay O (CC (i:=0) Bd O O (FL _) (BL _)) (A5 BA 2 [5] O (Ay O (BN O O (MP w.body gl (Cd.1 (NQ hL.tok)).nd (Cd.1 (NQ hL.tok)).vp (by have:=F8 (NQ hL.tok);omega) hgl.2.1 hgl.2.2.1) O) (A5 BA 3 [] O (BP O (BF B8 O) fun b24=>Az BA 2 [0,1] O (A1 (A2 BA 2 [] O (A3 O (fun c2=>?_) (fun c2=>?_)))))))))))
 ·(try simp only[sd,se] at c2);rw[Kl (h:=(.mk gk gi gn gl gs:Tm)) c2] at hC1;refine A2 BA 3 [4,0] O (BS (Bj (i:=4) O) (A6 (⟨O,_,_,⟨_,_,O,(BJ (i:=4) Bd O O O),⟨_,_,O,O,O⟩⟩,(CJ (is:=[7]) O),?_⟩)));exact⟨⟨_,_⟩,De hC1.symm,O,O⟩
 (try simp only[sd,se] at c2);obtain⟨hb1,hb2,hb3,hb4⟩:=UR (by rw[hC1];exact hns) c2;rw[hb4] at hC1;have hn3:=hns;rw[←hC1] at hn3;refine A7 (A1 (BS (Cx (i:=3) [10] O (EH ⟨O,Aw⟩)) ?_));obtain⟨e,he⟩ | ⟨⟨z,n2⟩,hz⟩:=GD (JW s (Ce ((B1 w.body gl).1) us.reverse 0))
 ·refine I7 ((fun _=> .p (.iface 122 .unit)) e) 3 [.val (.ptr m 0),.val (.agg ((Bg ((B1 w.body gl).1)).map .p)),.val (.p (.lst (BO us))),.val (.p .any),.val (.p (.lst (BO a))),.val (.ptr b6 (0+6)),.val (.p (I f.arity)),.val (.p (.lst (BO (a.drop ((f.arity:Int).toNat))))),.val (.p .any),.val (.p .any),.val (.p .any)] D7 O Ap O Aw (fun _ _=>by exact⟨rfl,_,List.nil_sublist _,⟨_,by rw[←hC1];exact LF hn3 he,rfl⟩⟩) ?_;exact CL O O (fun Bs=>BB O) (CL O O (fun Bs=>BI (i:=Bs.length+0) Bd O (Cn O) Am) (CL O O (fun Bs=>BB O) (K0 (mkp:=(fun _=> .p (.iface 122 .unit))) (e:=e) [6] he O O (.inl ⟨O,O,O⟩) (QW m ds s ((B1 w.body gl).1) us h3 hb1 hb2 Au) ⟨_,_,O,O,O⟩ As (aw (we O) (aw (we O) (aw (we O) (FH)))) (CL O O (fun Bs=>BB O) (CL O O (fun Bs=>Ax Gu O O) (CL O O (fun Bs=>A9 (i:=Bs.length+4) C0 O (Cn O) (Ch _)) (CL O O (fun Bs=>Cp (lo:=(f.arity:Int).toNat) Bq O (CT (B9 _)) ⟨_,pI Au⟩ O AR (Nat.le_refl _) (Jo a ((f.arity:Int).toNat))) (DS O O Ap (DS O O Ap (DS O O Ap Kq))))))))))
 rw[Kz hn3 hz] at hC1;refine IN [.box b24 ((Bg ((B1 w.body gl).1)).map .p),.box b13 ((DF w).map .p),.vec o3 2 (List.map Fj pl) cp3,.box b8 [.p (I 0),.p (I 0),.p (.str ⟨#[]⟩),.p (.nils),.p (.nils)],.box b6 ((Fa f).map .p),.box b5 [.p (I gk),.p (I gi),.p (.str gn),.p (.lst (List.map CE gl)),.p (.lst (BO gs))],.box m [.p (.lst (List.map Bw ds)),.p (I n2)]] 3 [.val (.ptr m 0),.val (.agg ((Bg ((B1 w.body gl).1)).map .p)),.val (.p (.lst (BO us))),.val (.agg ((Bg z).map .p)),.val (.p (.lst (BO a))),.val (.ptr b6 (0+6)),.val (.p (I f.arity)),.val (.p (.lst (BO (a.drop ((f.arity:Int).toNat))))),.val (.agg ((Bg (apply z (a.drop ((f.arity:Int).toNat)))).map .p))] [.p .any,.p (.bool true)] [] D7 O Ap Ap Ap O ?_ ?_
 ·exact Aw
 refine Bz O O (fun Bs=>BB O) (GH O O O (fun Bs=>BI (i:=Bs.length+0) Bd O (Cn O) Am) (fun Bs=>BI (i:=Bs.length+0) Bd O (Cn O) Am) (Bz O O (fun Bs=>BB O) (J5 O (fun Bs=>G2 [6] O (.inl ⟨O,O,O⟩) (K1 hz (QW m ds s ((B1 w.body gl).1) us h3 hb1 hb2 Au)) ⟨_,_,O,O,O⟩ As O (aw (we O) (aw (we O) (aw (we O) (FH))))) (Bz O O (fun Bs=>BB O) (Bz O O (fun Bs=>Ax Gu O O) (GH O O O (fun Bs=>A9 (i:=Bs.length+4) C0 O (Cn O) (Ch _)) (fun Bs=>A9 (i:=Bs.length+4) C0 O (Cn O) (Ch _)) (Bz O O (fun Bs=>Cp (lo:=(f.arity:Int).toNat) Bq O (CT (B9 _)) ⟨_,pI Au⟩ O AR (Nat.le_refl _) (Jo a ((f.arity:Int).toNat))) ?_)))))));refine Bz O O (fun Bs=>BN O O (Ee z (a.drop ((f.arity:Int).toNat)) AS) O) (J6 (EA [.box b24 ((Bg ((B1 w.body gl).1)).map .p),.box b13 ((DF w).map .p),.vec o3 2 (List.map Fj pl) cp3,.box b8 ((Bg (apply z (a.drop ((f.arity:Int).toNat)))).map .p),.box b6 ((Fa f).map .p),.box b5 [.p (I gk),.p (I gi),.p (.str gn),.p (.lst (List.map CE gl)),.p (.lst (BO gs))],.box m [.p (.lst (List.map Bw ds)),.p (I n2)]] O (Bc (i:=3) Bd O O O Am Aa (C5 _)) ?_));refine EA [.box b24 ((Bg ((B1 w.body gl).1)).map .p),.box b13 ((DF w).map .p),.vec o3 2 (List.map Fj pl) cp3,.box b8 ((Bg (apply z (a.drop ((f.arity:Int).toNat)))).map .p),.box b6 ((Fa f).map .p),.box b5 [.p (I gk),.p (I gi),.p (.str gn),.p (.lst (List.map CE gl)),.p (.lst (BO gs))],.box m [.p (.lst (List.map Bw ds)),.p (I n2)]] O (Bb O) (KC (A6 (⟨O,_,_,⟨_,_,O,(BJ (i:=3) Bd O O Am),⟨_,_,O,O,O⟩⟩,(CJ (is:=[6]) O),?_⟩)));exact⟨⟨_,_⟩,De hC1.symm,O,O⟩
end Go.Proofs.YtboammbpdaoojaaGreat
namespace Go.Eu
open Go.Abs
def Kn (E:List Cc) {σ:Type}(S:Sys σ) (n:Nat) (h:Tm) (a:List Tm) (s:σ):Out (Option Tm×σ):=match K7 E h with
 | none=> .ok (none,s)
 | some x =>
  if x.kind=1 then FF S (Cr E x.decl) h a s
  else if x.kind=5∧(a.length:Int) > Cj (Cr E x.decl) then match DW E (a.getD (Cj (Cr E x.decl)).toNat default) with
   | some _=>FQ E S (Cr E x.decl) h a (a.getD (Cj (Cr E x.decl)).toNat default) s
   | none=>(FU E S n s (a.getD (Cj (Cr E x.decl)).toNat default)).bind fun r=>match r.1 with
    | none=> .ok (none,r.2)
    | some y=> .ok (some (apply h (a.set (Cj (Cr E x.decl)).toNat y)),r.2)
  else if x.kind=6∧(a.length:Int)≥(Gm (Cr E x.decl) x.item).arity then
   J4 E S (FU E S n) h (Gm (Cr E x.decl) x.item).arity a n (Gm (Cr E x.decl) x.item).tree (a.take (Gm (Cr E x.decl) x.item).arity.toNat) (UW (Gm (Cr E x.decl) x.item).arity.toNat) s
  else .ok (none,s)
section
variable {E:List Cc}{σ:Type}{S:Sys σ}{n:Nat}{h:Tm}{a:List Tm}{s:σ}{d:Cc}{x:Tm}
def lB (h:Tm) (a:List Tm) (k:Nat) (r:Option Tm×σ):Out (Option Tm×σ):=match r.1 with
 | none=> .ok (none,r.2)
 | some y=> .ok (some (apply h (a.set k y)),r.2)
theorem kj {k:Nat}{r:Option Tm×σ}(hr:r.1.isSome=false):lB h a k r= .ok (none,r.2):=by
 obtain⟨q,s⟩:=r;cases q with
 | none=>rfl
 | some x=>cases hr
theorem kB {k:Nat}{r:Option Tm×σ}(hr:r.1.isSome=true):lB h a k r= .ok (some (apply h (a.set k (r.1.getD Bu))),r.2):=by
 obtain⟨q,s⟩:=r;cases q with
 | none=>cases hr
 | some x=>rfl
theorem dJ (hu:Sv E h=false):Kn E S n h a s= .ok (none,s):=by
 unfold Kn;rw[DR,hu];simp
section
variable (hu:Sv E h=true) (hd:E[(B3 E h.name).1.decl.toNat]?=some d)
include hu hd
theorem gL (hk:(B3 E h.name).1.kind=1):Kn E S n h a s=FF S d h a s:=by
 unfold Kn;rw[DR,hu,if_pos rfl];simp only[if_pos hk,Cr,Cm hd]
theorem cf (hk:(B3 E h.name).1.kind=5) (hl:(a.length:Int)≤Cj d):Kn E S n h a s= .ok (none,s):=by
 unfold Kn;rw[DR,hu,if_pos rfl];simp only[Cr,Cm hd];rw[if_neg Au,if_neg Au,if_neg Au]
theorem e6 (hk:(B3 E h.name).1.kind=5) (hl:¬(a.length:Int)≤Cj d) (hx:a[(Cj d).toNat]?=some x) {q:Cc×Int×List Tm}(hc:DW E x=some q):Kn E S n h a s=FQ E S d h a x s:=by
 unfold Kn;rw[DR,hu,if_pos rfl];simp only[Cr,Cm hd];rw[if_neg Au,if_pos ⟨hk,by omega⟩,Cm hx];simp only[hc]
theorem bN (hk:(B3 E h.name).1.kind=5) (hl:¬(a.length:Int)≤Cj d) (hx:a[(Cj d).toNat]?=some x) (hc:DW E x=none):Kn E S n h a s=(FU E S n s x).bind (lB h a (Cj d).toNat):=by
 unfold Kn;rw[DR,hu,if_pos rfl];simp only[Cr,Cm hd];rw[if_neg Au,if_pos ⟨hk,by omega⟩,Cm hx];simp only[hc];rfl
theorem jS {f:Hj}(hk:(B3 E h.name).1.kind=6) (hf:d.funs[(B3 E h.name).1.item.toNat]?=some f) (hl:f.arity≤(a.length:Int)):Kn E S n h a s=J4 E S (FU E S n) h f.arity a n f.tree (a.take f.arity.toNat) (UW f.arity.toNat) s:=by
 unfold Kn;rw[DR,hu,if_pos rfl];simp only[Cr,Cm hd,Gm,Cm hf];rw[if_neg Au,if_neg Au,if_pos ⟨hk,by omega⟩]
theorem dr {f:Hj}(hk:(B3 E h.name).1.kind=6) (hf:d.funs[(B3 E h.name).1.item.toNat]?=some f) (hl:¬f.arity≤(a.length:Int)):Kn E S n h a s= .ok (none,s):=by
 unfold Kn;rw[DR,hu,if_pos rfl];simp only[Cr,Cm hd,Gm,Cm hf];rw[if_neg Au,if_neg Au,if_neg Au]
omit hd
theorem lC (h1:(B3 E h.name).1.kind≠1) (h5:(B3 E h.name).1.kind≠5) (h6:(B3 E h.name).1.kind≠6):Kn E S n h a s= .ok (none,s):=by
 unfold Kn;rw[DR,hu,if_pos rfl];simp only;rw[if_neg h1,if_neg Au,if_neg Au]
end
end
section
variable {E:List Cc}{σ:Type}{S:Sys σ}{n:Nat}{t:Tm}{s:σ}{X:Out (Option Tm×σ)}
theorem fA (h:FU E S n s t=X) (hX:X≠ .stuck):∃k,n=k+1:=by
 cases n with
 | zero=>rw[FU] at h;exact absurd h.symm hX
 | succ k=>exact⟨k,rfl⟩
theorem ir (h:FU E S (n+1) s t=X) (hX:X≠ .stuck):okB t=true:=by
 rw[FU] at h;split at h
 ·exact absurd h.symm hX
 rename_i hc;simpa using hc
section
variable (ho:okB t=true)
include ho
theorem dR (hk:(BK t).1.kind=5) (hl:(BK t).2.length=0):FU E S (n+1) s t= .ok (none,s):=by
 rw[FU,if_neg (by simp[ho]),if_pos hk,if_pos hl]
theorem jD {b:Tm}(hk:(BK t).1.kind=5) (hl:(BK t).2.length≠0) (hb:(BK t).1.kids[1]?=some b) :
  FU E S (n+1) s t=S.put s (Ce b ((BK t).2.take 1) 0) fun x s'=> .ok (some (apply x ((BK t).2.drop 1)),s'):=by
 rw[FU,if_neg (by simp[ho]),if_pos hk,if_neg hl,Oq,hb]
theorem gO {v b:Tm}(hk:(BK t).1.kind=11) (hv:(BK t).1.kids[1]?=some v) (hb:(BK t).1.kids[2]?=some b) :
  FU E S (n+1) s t=S.put s (Ce b [v] 0) fun x s'=> .ok (some (apply x (BK t).2),s'):=by
 rw[FU,if_neg (by simp[ho]),if_neg Au,if_pos hk,Un,hv,hb]
def lJ (h:Tm) (a:List Tm) (r:Option Tm×σ):Out (Option Tm×σ):=match r.1 with
 | none=> .ok (none,r.2)
 | some x=> .ok (some (apply (Iz h.kind x) a),r.2)
theorem bP {p q:Tm}(hk:(BK t).1.kind=9∨(BK t).1.kind=10) (hp:(BK t).1.kids[0]?=some p) (h8:p.kind=8) (hq:p.kids[(1+(BK t).1.kind - 9).toNat]?=some q) :
  FU E S (n+1) s t=S.put s (q,0) fun x s'=> .ok (some (apply x (BK t).2),s'):=by
 rw[FU,if_neg (by simp[ho]),if_neg Au,if_neg Au,if_pos hk,hp];simp only;rw[if_pos h8,Mx,hq]
theorem cw {p:Tm}(hk:(BK t).1.kind=9∨(BK t).1.kind=10) (hp:(BK t).1.kids[0]?=some p) (h8:p.kind≠8) :
  FU E S (n+1) s t=(FU E S n s p).bind (lJ (BK t).1 (BK t).2):=by
 rw[FU,if_neg (by simp[ho]),if_neg Au,if_neg Au,if_pos hk,hp];simp only;rw[if_neg h8];rfl
theorem Zc (hk:(BK t).1.kind=3):FU E S (n+1) s t=Kn E S n (BK t).1 (BK t).2 s:=by
 rw[FU,if_neg (by simp[ho]),if_neg Au,if_neg Au,if_neg Au,if_pos hk];rfl
theorem ka (h1:(BK t).1.kind≠5) (h2:(BK t).1.kind≠11) (h3:(BK t).1.kind≠9) (h4:(BK t).1.kind≠10) (h5:(BK t).1.kind≠3):FU E S (n+1) s t= .ok (none,s):=by
 rw[FU,if_neg (by simp[ho]),if_neg h1,if_neg h2,if_neg Au,if_neg h5]
end
theorem lk {h:Tm}{a:List Tm}{r:Option Tm×σ}(hr:r.1.isSome=false):lJ h a r= .ok (none,r.2):=by
 obtain⟨q,s⟩:=r;cases q with
 | none=>rfl
 | some x=>cases hr
theorem kI {h:Tm}{a:List Tm}{r:Option Tm×σ}(hr:r.1.isSome=true):lJ h a r= .ok (some (apply (Iz h.kind (r.1.getD Bu)) a),r.2):=by
 obtain⟨q,s⟩:=r;cases q with
 | none=>cases hr
 | some x=>rfl
end
section
variable {E:List Cc}{σ:Type}{S:Sys σ}{n:Nat}{t:Tm}{s:σ}{r:Tm×σ}{d:Cc}{X:Out (Option Int×σ)}
noncomputable def WV (E:List Cc) (S:Sys σ) (n:Nat) (q:(Option (Tm×List Tm)×Tm)×σ):Out (Option Int×σ):=match q.1.1 with
 | some _=> .ok (none,q.2)
 | none=>if S.over q.2=false∧Ng q.1.2 Bu=false then Ib E S n q.2 q.1.2 else .ok (none,q.2)
noncomputable def Jg (E:List Cc) (S:Sys σ) (n:Nat) (r:Tm×σ):Out (Option Int×σ) :=
 if (BK r.1).1.kind=12 then .ok (some (BK r.1).1.index,r.2)
  else if (BK r.1).1.kind=9∨(BK r.1).1.kind=10 then match (BK r.1).1.kids[0]? with
   | none=> .stuck
   | some p=>Ib E S n r.2 p
  else if (BK r.1).1.kind=3 then match K7 E (BK r.1).1 with
   | none=> .ok (none,r.2)
   | some x =>
    if S.over r.2=true then .ok (none,r.2)
    else if x.kind=5∧((BK r.1).2.length:Int) > Cj (Cr E x.decl) then Ib E S n r.2 ((BK r.1).2.getD (Cj (Cr E x.decl)).toNat default)
    else if x.kind=6∧((BK r.1).2.length:Int)≥(Gm (Cr E x.decl) x.item).arity then
     (EE E S (D6 E S n) n (Gm (Cr E x.decl) x.item).tree ((BK r.1).2.take (Gm (Cr E x.decl) x.item).arity.toNat) Bu r.2).bind (WV E S n)
    else .ok (none,r.2)
  else .ok (none,r.2)
theorem fX (h:Ib E S n s t=X) (hX:X≠ .stuck):∃k,n=k+1:=by
 cases n with
 | zero=>rw[Ib] at h;exact absurd h.symm hX
 | succ k=>exact⟨k,rfl⟩
theorem US:Ib E S (n+1) s t=(D6 E S n s t).chk (Jg E S n):=by
 rw[Ib];rfl
theorem Sz (hk:(BK r.1).1.kind=12):Jg E S n r= .ok (some (BK r.1).1.index,r.2):=by rw[Jg,if_pos hk]
theorem bA {p:Tm}(hk:(BK r.1).1.kind=9∨(BK r.1).1.kind=10) (hp:(BK r.1).1.kids[0]?=some p):Jg E S n r=Ib E S n r.2 p:=by
 rw[Jg,if_neg Au,if_pos hk,hp]
theorem jH (h1:(BK r.1).1.kind≠12) (h2:(BK r.1).1.kind≠9) (h3:(BK r.1).1.kind≠10) (h4:(BK r.1).1.kind≠3):Jg E S n r= .ok (none,r.2):=by
 rw[Jg,if_neg h1,if_neg Au,if_neg h4]
theorem Zv (hk:(BK r.1).1.kind=3) (hu:Sv E (BK r.1).1=false∨S.over r.2=true):Jg E S n r= .ok (none,r.2):=by
 rw[Jg,if_neg Au,if_neg Au,if_pos hk,DR];rcases hu with hu | hu
 ·rw[hu];simp
 split
 ·rfl
 rw[if_pos hu]
section
variable (hk:(BK r.1).1.kind=3) (hu:Sv E (BK r.1).1=true) (ho:S.over r.2=false) (hd:E[(B3 E (BK r.1).1.name).1.decl.toNat]?=some d)
include hk hu ho
theorem RG (h5:(B3 E (BK r.1).1.name).1.kind≠5) (h6:(B3 E (BK r.1).1.name).1.kind≠6):Jg E S n r= .ok (none,r.2):=by
 rw[Jg,if_neg Au,if_neg Au,if_pos hk,DR,hu,if_pos rfl];simp only;rw[if_neg (by simp[ho]),if_neg Au,if_neg Au]
include hd
theorem Z6 (h5:(B3 E (BK r.1).1.name).1.kind=5) (hl:((BK r.1).2.length:Int)≤Cj d):Jg E S n r= .ok (none,r.2):=by
 rw[Jg,if_neg Au,if_neg Au,if_pos hk,DR,hu,if_pos rfl];simp only[Cr,Cm hd];rw[if_neg (by simp[ho]),if_neg Au,if_neg Au]
theorem dq {x:Tm}(h5:(B3 E (BK r.1).1.name).1.kind=5) (hl:Cj d<((BK r.1).2.length:Int)) (hx:(BK r.1).2[(Cj d).toNat]?=some x):Jg E S n r=Ib E S n r.2 x:=by
 rw[Jg,if_neg Au,if_neg Au,if_pos hk,DR,hu,if_pos rfl];simp only[Cr,Cm hd];rw[if_neg (by simp[ho]),if_pos ⟨h5,by omega⟩,Cm hx]
theorem bE {f:Hj}(h6:(B3 E (BK r.1).1.name).1.kind=6) (hf:d.funs[(B3 E (BK r.1).1.name).1.item.toNat]?=some f) (hl:¬f.arity≤((BK r.1).2.length:Int)):Jg E S n r= .ok (none,r.2):=by
 rw[Jg,if_neg Au,if_neg Au,if_pos hk,DR,hu,if_pos rfl];simp only[Cr,Cm hd,Gm,Cm hf];rw[if_neg (by simp[ho]),if_neg Au,if_neg Au]
theorem WD {f:Hj}(h6:(B3 E (BK r.1).1.name).1.kind=6) (hf:d.funs[(B3 E (BK r.1).1.name).1.item.toNat]?=some f) (hl:f.arity≤((BK r.1).2.length:Int)):Jg E S n r=(EE E S (D6 E S n) n f.tree ((BK r.1).2.take f.arity.toNat) Bu r.2).bind (WV E S n):=by
 rw[Jg,if_neg Au,if_neg Au,if_pos hk,DR,hu,if_pos rfl];simp only[Cr,Cm hd,Gm,Cm hf];rw[if_neg (by simp[ho]),if_neg Au,if_pos ⟨h6,by omega⟩]
end
theorem bF {q:(Option (Tm×List Tm)×Tm)×σ}(h:q.1.1.isSome=true∨S.over q.2=true∨Ng q.1.2 Bu=true):WV E S n q= .ok (none,q.2):=by
 obtain⟨⟨o,l⟩,s⟩:=q;unfold WV;cases o with
 | some x=>rfl
 | none =>
  simp only at h ⊢;rw[if_neg];rintro⟨h1,h2⟩;rcases h with h | h | h
  ·cases h
  ·rw[h1] at h;cases h
  rw[h2] at h;cases h
theorem Yb {q:(Option (Tm×List Tm)×Tm)×σ}(h1:q.1.1.isSome=false) (h2:S.over q.2=false) (h3:Ng q.1.2 Bu=false):WV E S n q=Ib E S n q.2 q.1.2:=by
 obtain⟨⟨o,l⟩,s⟩:=q;unfold WV;cases o with
 | some x=>cases h1
 | none=>simp only at h2 h3 ⊢;rw[if_pos ⟨h2,h3⟩]
end
section
variable {E:List Cc}{σ:Type}{S:Sys σ}{n:Nat}{t:Fl}{a:List Tm}{s:σ}
def sX (S:Sys σ) (q:(Option (Tm×List Tm)×Tm)×σ):Out (Option Tm×σ):=match q.1.1 with
 | none=> .ok (none,q.2)
 | some (b,vars)=>if okB b=false∨vars.all okB=false∨1125899906842624≤Bl vars then .stuck else S.put q.2 (Ce b vars.reverse 0) fun x s'=> .ok (some x,s')
end
end Go.Eu
namespace Go.Proofs.YtboammbpdaoojaaGreat
open Go.Abs Go.Eu
set_option maxHeartbeats 4000000 in
theorem U4:∀(n m:Nat) (ds:List Cc) (s:Int) (g:Tm) (a:List Tm),(rC ds n)→(Ha ds)→(HF s)→(okB g=true)→(a.length<549755813888)→(∀y∈a,okB y=true)→(Kn ds CI n g a s≠ .stuck)→B4 Tryz.prog 81 [.ptr m 0,.agg ((Bg g).map .p),.p (.lst (BO a))] [.box m [.p (.lst (List.map Bw ds)),.p (I s)]] (LK (fun(r:Option Tm×Int)=> .tup [TV (r.1.getD Bu),.p (.bool r.1.isSome)]) (fun _=> .p (.iface 122 .unit)) (fun r H'=>H'=[.box m [.p (.lst (List.map Bw ds)),.p (I r.2)]]) ((Kn ds CI n g a s).ex)):=by
 intro n m ds s g a hT h2 h3 h4 h5 h6 hns;obtain⟨gk,gi,gn,gl,gs⟩:=g;have hgo:=Cd.1 h4;have hgl:=hgo.nd;simp only[Nd,Dt] at hgl;generalize hC:Kn ds CI n (.mk gk gi gn gl gs:Tm) a s=X at hns ⊢;refine BD Tryz.func81 O rm (n:=122) O O (A4 (BP O (Bf O) fun b4=>BP O (BF B8 O) fun b6=>Az BA 1 [] O (A4 (A5 BA 2 [1] O (Ay O (CS [2] O (.inl ⟨O,O,O⟩) (O3 m ds s (.mk gk gi gn gl gs:Tm) h2.g.env) ⟨_,_,O,O,O⟩ As O (.inl O)) (A5 BA 3 [] O (BP O (BF IA O) fun b8=>Az BA 2 [0,1] O (A1 (A2 BA 2 [] O (A3 O (fun c=>?_) (fun c=>?_)))))))))))
 ·(try simp only[sd,se] at c);rw[dJ c] at hC;refine A2 BA 3 [1,0] O (BS (Bj (i:=1) O) (A6 (⟨O,_,_,⟨_,_,O,(BJ (i:=1) Bd O O O),⟨_,_,O,O,O⟩⟩,(CJ (is:=[3]) O),?_⟩)));exact⟨⟨_,_⟩,De hC.symm,O,O⟩
 (try simp only[sd,se] at c);have hu:=c;obtain⟨ix,dd,e1,e2,e3,e4⟩:=KW hu;have hde:=e2.decl;have hdg:=h2.g.all _ e3;have hel:=h2.g.env.len;have hil:=(List.getElem?_eq_some_iff.1 e1).1;have hfx:=hdg.fx;have hnr:=IX hdg;have hcl:=hdg.din.cl;have hfl:=hdg.din.fl;refine A7 (A1 (B7 (fun k=>Nat.beq k 8) D7 (A0 O (fun _=>BB O) Aw (A0 O (fun _=>CW O) Aw (A0 O (fun _=>Ax R6 O O) Aw (BT (j:=3) O O O (fun H i hi=>BG (i:=i) Rg O hi O) AB Aw (A0 O (fun _=>Ax FG O O) Aw (BT (j:=0) O O O (fun H i hi=>A9 (i:=i) C0 O hi (Ds _)) AB Aw (A0 O (fun _=>BC Hv O O Au (EX e4) (Cw _)) Aw (A0 O (fun _=>BQ EJ O (Cw _)) Aw (HJ [] O O (BF Je O) Ap fun b10=>⟨AB,Aw,?_⟩)))))))))));refine CF O O (Bc (i:=0) EJ O O O Aj AZ (Jt _)) AB Aw (Bv O Ap (A1 (A4 (Ay O (Ax FG O O) (Ay O (A9 (i:=1) C0 O O (Dq _)) (Bt O (BH (A2 BA 2 [] O (A3 O (fun c1=>?_) (fun c1=>?_))))))))))
 ·(try simp only[sd,se] at c1);have hk1:=c1;refine A4 (A5 BA 4 [1,3] O ?_);rw[gL hu e4 hk1] at hC;refine D8 [4] O O O (.inl ⟨O,O,O⟩) (WX m ds s ((B3 ds (.mk gk gi gn gl gs:Tm).name).1) (.mk gk gi gn gl gs:Tm) a dd h3 e4 Au hdg h4 h5 (by rw[hC];exact hns)) ⟨_,_,O,O,O⟩ As (aw (we O) (aw (we O) (aw (we O) (aw (we O) (FH))))) (fun _ _ h=>(congrArg List.length h).trans O) ?_ ?_
  rotate_left
  ·intro e _ he;exact⟨O,_,List.nil_sublist _,⟨_,by rw[←hC];exact he,rfl⟩⟩
  rintro⟨q,n2⟩ _ hz rfl;have hfin:=hz;refine Az BA 4 [2,1] O (A6 (⟨O,_,_,⟨_,_,O,(BJ (i:=2) Bd O O Am),⟨_,_,O,O,O⟩⟩,(CJ (is:=[4]) O),?_⟩));exact⟨⟨q,n2⟩,by rw[←hC];exact hfin,rfl,rfl⟩
 (try simp only[sd,se] at c1);have hk1:=c1;refine A2 BA 2 [] O (A3 O (fun c2=>?_) (fun c2=>?_))
 ·(try simp only[sd,se] at c2);have hk5:=c2;refine A4 (Ay O (BI (i:=0) EJ O O Aj) (Ay O (BN O O (N5 dd hdg.din hdg.fx) O) (Az BA 1 [] O (A1 (A4 (B6 O (Ay O (BZ Bq O (Bh _)) (Az BA 2 [] O (A3 O (fun c3=>?_) (fun c3=>?_))))))))))
  ·(try simp only[sd,se] at c3);rw[cf hu e4 hk5 Au] at hC;refine A2 BA 3 [2,0] O (BS (Bj (i:=2) O) (A6 (⟨O,_,_,⟨_,_,O,(BJ (i:=2) Bd O O O),⟨_,_,O,O,O⟩⟩,(CJ (is:=[4]) O),?_⟩)));exact⟨⟨_,_⟩,De hC.symm,O,O⟩
  (try simp only[sd,se] at c3);have hfew:¬(a.length:Int)≤Cj dd:=by omega
  refine A7 (A1 (A4 (A5 BA 3 [] O ?_)));obtain⟨x,hx⟩:=BE (l:=a) (i:=(Cj dd:Int).toNat) Au;have hxo:=h6 _ (List.mem_of_getElem? hx);refine Ay O (BC Bq O O Au (Bn hx) (BL _)) (Ay O (BQ Bd O (BL _)) (Ay O (CS [4] O (.inl ⟨O,O,O⟩) (Qg m ds s x h2.g hxo) ⟨_,_,O,O,O⟩ As O (.inl O)) (A5 BA 5 [] O (BP O (BF Je O) fun b12=>Az BA 4 [0,1] O (A2 BA 1 [] O (A3 O (fun c4=>?_) (fun c4=>?_)))))))
  ·(try simp only[sd,se] at c4);have hcs:=Me c4;rw[e6 hu e4 hk5 hfew hx hcs] at hC;refine A1 ?_;obtain⟨e,he⟩ | ⟨⟨q,n2⟩,hz⟩:=GD ((FQ ds CI dd (.mk gk gi gn gl gs:Tm) a x s).ex)
   ·refine I7 ((fun _=> .p (.iface 122 .unit)) e) 8 [.val (.ptr m 0),.val (.agg ((Bw dd).map .p)),.val (.agg [.p (I gk),.p (I gi),.p (.str gn),.p (.lst (List.map CE gl)),.p (.lst (BO gs))]),.val (.p (.lst (BO a))),.val (.p (.lst (BO a))),.val (.p (I (Cj dd))),.val (.ref (Bg x)),.val (.agg ((Bg x).map .p)),.val (.p .any),.val (.p .any),.val (.p .any),.val (.p .any),.val (.p .any)] D7 O Ap O Aw (fun _ _=>by exact⟨rfl,_,List.nil_sublist _,⟨_,by rw[←hC];exact he,rfl⟩⟩) ?_;exact CL O O (fun Bs=>BB O) (CL O O (fun Bs=>BI (i:=Bs.length+1) EJ O (Cn O) Aj) (CL O O (fun Bs=>BI (i:=Bs.length+4) Bd O (Cn O) O) (CL O O (fun Bs=>BB O) (CL O O (fun Bs=>BB O) (CL O O (fun Bs=>BB O) (CL O O (fun Bs=>BC Bq O O Au (Bn hx) (BL _)) (CL O O (fun Bs=>BQ Bd O (BL _)) (K0 (mkp:=(fun _=> .p (.iface 122 .unit))) (e:=e) [5] he O O (.inl ⟨O,O,O⟩) (UD m ds s dd (.mk gk gi gn gl gs:Tm) a x h3 h2.g hdg h4 h5 hxo Au (by rw[hC];exact hns)) ⟨_,_,O,O,O⟩ As (aw (we O) (aw (we O) (aw (we O) (aw (we O) (aw (we O) (FH)))))) (DS O O Ap (DS O O Ap (DS O O Ap (DS O O Ap Kq))))))))))))
   have hfin:=hz;refine IN [.box b12 ((Bw ((CY ds x).1)).map .p),.box b10 ((Bw dd).map .p),.box b8 ((Dp ((B3 ds (.mk gk gi gn gl gs:Tm).name).1)).map .p),.box b6 [.p (I 0),.p (I 0),.p (.str ⟨#[]⟩),.p (.nils),.p (.nils)],.box b4 [.p (I gk),.p (I gi),.p (.str gn),.p (.lst (List.map CE gl)),.p (.lst (BO gs))],.box m [.p (.lst (List.map Bw ds)),.p (I n2)]] 8 [.val (.ptr m 0),.val (.agg ((Bw dd).map .p)),.val (.agg [.p (I gk),.p (I gi),.p (.str gn),.p (.lst (List.map CE gl)),.p (.lst (BO gs))]),.val (.p (.lst (BO a))),.val (.p (.lst (BO a))),.val (.p (I (Cj dd))),.val (.ref (Bg x)),.val (.agg ((Bg x).map .p)),.val (.tup [.agg ((Bg (q.getD Bu)).map .p),.p (.bool q.isSome)]),.val (.agg ((Bg (q.getD Bu)).map .p)),.val (.p (.bool q.isSome))] [.p .any,.p (.bool q.isSome)] [] D7 O Ap Ap Ap O ?_ ?_
   ·exact Aw
   refine Bz O O (fun Bs=>BB O) (GH O O O (fun Bs=>BI (i:=Bs.length+1) EJ O (Cn O) Aj) (fun Bs=>BI (i:=Bs.length+1) EJ O (Cn O) Aj) (GH O O O (fun Bs=>BI (i:=Bs.length+4) Bd O (Cn O) O) (fun Bs=>BI (i:=Bs.length+4) Bd O (Cn O) O) (Bz O O (fun Bs=>BB O) (Bz O O (fun Bs=>BB O) (Bz O O (fun Bs=>BB O) (Bz O O (fun Bs=>BC Bq O O Au (Bn hx) (BL _)) (Bz O O (fun Bs=>BQ Bd O (BL _)) (J5 O (fun Bs=>G2 [5] O (.inl ⟨O,O,O⟩) (K1 hz (UD m ds s dd (.mk gk gi gn gl gs:Tm) a x h3 h2.g hdg h4 h5 hxo Au (by rw[hC];exact hns))) ⟨_,_,O,O,O⟩ As O (aw (we O) (aw (we O) (aw (we O) (aw (we O) (aw (we O) (FH))))))) (Bz O O (fun Bs=>By O O) ?_)))))))));refine Bz O O (fun Bs=>By O O) (J6 (EA [.box b12 ((Bw ((CY ds x).1)).map .p),.box b10 ((Bw dd).map .p),.box b8 ((Dp ((B3 ds (.mk gk gi gn gl gs:Tm).name).1)).map .p),.box b6 ((Bg (q.getD Bu)).map .p),.box b4 [.p (I gk),.p (I gi),.p (.str gn),.p (.lst (List.map CE gl)),.p (.lst (BO gs))],.box m [.p (.lst (List.map Bw ds)),.p (I n2)]] O (Bc (i:=3) Bd O O O Am Aa (C5 _)) (EA [.box b12 ((Bw ((CY ds x).1)).map .p),.box b10 ((Bw dd).map .p),.box b8 ((Dp ((B3 ds (.mk gk gi gn gl gs:Tm).name).1)).map .p),.box b6 ((Bg (q.getD Bu)).map .p),.box b4 [.p (I gk),.p (I gi),.p (.str gn),.p (.lst (List.map CE gl)),.p (.lst (BO gs))],.box m [.p (.lst (List.map Bw ds)),.p (I n2)]] O (Bb O) (KC (A6 ?_)))));refine⟨O,_,_,⟨_,_,O,(BJ (i:=3) Bd O O Am),⟨_,_,O,O,O⟩⟩,(CJ (is:=[5]) O),?_⟩;exact⟨⟨q,n2⟩,by rw[←hC];exact hfin,rfl,rfl⟩
  (try simp only[sd,se] at c4);have hcn:=N9 c4;refine A7 (A4 (A5 BA 3 [] O (Ay O (BC Bq O O Au (Bn hx) (BL _)) (Ay O (BQ Bd O (BL _)) ?_))));rw[bN hu e4 hk5 hfew hx hcn] at hC;have hn0:=hns;rw[←hC] at hn0;have hn1:=Jz hn0;refine D8 [5] O O O (.inl ⟨O,O,O⟩) (hT m x s h3 hn1) ⟨_,_,O,O,O⟩ As (aw (we O) (aw (we O) (FH))) (fun _ _ h=>(congrArg List.length h).trans O) ?_ ?_
  rotate_left
  ·intro e _ he;exact⟨O,_,List.nil_sublist _,⟨_,by rw[←hC];exact Kx hn0 he,rfl⟩⟩
  rintro⟨q,n2⟩ _ hz rfl;rw[MR hz] at hC;refine A5 BA 3 [] O (BP O (BF B8 O) fun b16=>Az BA 2 [0,1] O (A1 (A2 BA 2 [] O (A3 O (fun c5=>?_) (fun c5=>?_)))))
  ·(try simp only[sd,se] at c5);rw[kj c5] at hC;refine A2 BA 3 [4,0] O (BS (Bj (i:=4) O) (A6 (⟨O,_,_,⟨_,_,O,(BJ (i:=4) Bd O O O),⟨_,_,O,O,O⟩⟩,(CJ (is:=[6]) O),?_⟩)));exact⟨⟨_,_⟩,De hC.symm,O,O⟩
  (try simp only[sd,se] at c5);rw[kB c5] at hC;refine A7 (A4 (B6 O (NI O O O (.inl ⟨O,O,O⟩) (Kg a h5) (.inl O) fun o cp=>Az BA 1 [] O (A4 (A5 BA 3 [1] O (MZ (i:=0) O (by rw[Bh];omega) fun b hb=>?_))))));subst hb;refine Ay O (DE Bq O O Au Ab) (Ay O (Eh (i:=0) (j:=((Cj dd:Int).toNat)) Bd O O O Ab O (Ka _) (BL _) (C5 _) (TF a ((Cj dd:Int).toNat) (q.getD Bu))) (Bt O (A4 (A5 BA 2 [6] O (CH (DQ (t:=93) (x:= .vs (some b) (BO ((a).set ((Cj dd:Int).toNat) (q.getD Bu))).length cp) (Dc a (l':=(a).set ((Cj dd:Int).toNat) (q.getD Bu)) Av)) (CH (DQ (t:=18) (x:= .vs (some b) (BO ((a).set ((Cj dd:Int).toNat) (q.getD Bu))).length cp) (Dc a (l':=(a).set ((Cj dd:Int).toNat) (q.getD Bu)) Av)) (CH (DQ (t:=94) (x:= .vs (some b) (BO ((a).set ((Cj dd:Int).toNat) (q.getD Bu))).length cp) (Dc a (l':=(a).set ((Cj dd:Int).toNat) (q.getD Bu)) Av)) ?_)))))));refine CH (DQ (t:=99) (x:= .vs (some b) (BO ((a).set ((Cj dd:Int).toNat) (q.getD Bu))).length cp) (Dc a (l':=(a).set ((Cj dd:Int).toNat) (q.getD Bu)) Av)) (CH (Cx (i:=0) [93,18,94,99] O (EH ⟨O,O,O,O,Aw⟩)) (Ay O (BN O O (Ee (.mk gk gi gn gl gs:Tm) ((a).set ((Cj dd:Int).toNat) (q.getD Bu)) AT) O) (Az BA 2 [4,1] O (A6 (⟨O,_,_,⟨_,_,O,(BJ (i:=4) Bd O O Am),⟨_,_,O,O,O⟩⟩,(CJ (is:=[6]) O),?_⟩)))));exact⟨⟨_,_⟩,De hC.symm,O,O⟩
 (try simp only[sd,se] at c2);have hk5:=c2;refine A2 BA 2 [] O (A3 O (fun c3=>?_) (fun c3=>?_))
 ·(try simp only[sd,se] at c3);have hk6:=c3;obtain⟨fk,ff,f1,f2⟩:=e2.func hk6;have hff:dd.funs[(B3 ds (Tm.mk gk gi gn gl gs).name).1.item.toNat]?=some ff:=by rw[f2];simpa using f1
  have hfm:=List.mem_of_getElem? hff;have hfa:=hdg.fu ff hfm;have hfi:=(List.getElem?_eq_some_iff.1 f1).1;refine A4 (Ay O (Ax Cv O O) (Ay O (A9 (i:=0) Hn O O (CV _)) (Ay O (Ax FG O O) (Ay O (A9 (i:=1) C0 O O (F6 _)) (Ay O (BC HW O O Au (Es hff) (Dd _)) (Ay O (BQ aN O (Dd _)) (BP O (BF X2 O) fun b19=>Az BA 1 [0,1] O (A4 (B6 O (Ay O (BZ Bq O (Bh _)) (Ay O (Ax Gu O O) (Ay O (A9 (i:=0) C0 O O (Ch _)) (Az BA 1 [] O (A3 O (fun c4=>?_) (fun c4=>?_)))))))))))))))
  ·(try simp only[sd,se] at c4);refine A4 (A5 BA 4 [4,0] O ?_);rw[jS hu e4 hk6 hff Au] at hC;refine D8 [5] O O O (.inl ⟨O,O,O⟩) (X1 n m ds s (.mk gk gi gn gl gs:Tm) a dd ff hT h2 h3 e3 hfm Au h4 h5 h6 (by rw[hC];exact hns)) ⟨_,_,O,O,O⟩ As (aw (we O) (aw (we O) (aw (we O) (aw (we O) (FH))))) (fun _ _ h=>(congrArg List.length h).trans O) ?_ ?_
   rotate_left
   ·intro e _ he;exact⟨O,_,List.nil_sublist _,⟨_,by rw[←hC];exact he,rfl⟩⟩
   rintro⟨q,n2⟩ _ hz rfl;have hfin:=hz;refine Az BA 4 [3,1] O (A6 (⟨O,_,_,⟨_,_,O,(BJ (i:=3) Bd O O Am),⟨_,_,O,O,O⟩⟩,(CJ (is:=[5]) O),?_⟩));exact⟨⟨q,n2⟩,by rw[←hC];exact hfin,rfl,rfl⟩
  (try simp only[sd,se] at c4);rw[dr hu e4 hk6 hff Au] at hC;refine A7 (A2 BA 3 [3,0] O (BS (Bj (i:=3) O) (A6 (⟨O,_,_,⟨_,_,O,(BJ (i:=3) Bd O O O),⟨_,_,O,O,O⟩⟩,(CJ (is:=[5]) O),?_⟩))));exact⟨⟨_,_⟩,De hC.symm,O,O⟩
 (try simp only[sd,se] at c3);have hk6:=c3;rw[lC hu hk1 hk5 hk6] at hC;refine A7 (A2 BA 3 [2,0] O (BS (Bj (i:=2) O) (A6 (⟨O,_,_,⟨_,_,O,(BJ (i:=2) Bd O O O),⟨_,_,O,O,O⟩⟩,(CJ (is:=[4]) O),?_⟩))));exact⟨⟨_,_⟩,De hC.symm,O,O⟩
set_option maxHeartbeats 4000000 in
theorem dh:∀(ds:List Cc) (hE:Ha ds) (n:Nat),rC ds n:=by
 intro ds hE n
 induction n using Nat.strongRecOn with
 | ind n ih =>
  intro m t s hJ hns;obtain⟨k,rfl⟩:=fA rfl hns;generalize hC:FU ds CI (k+1) s t=X at hns ⊢;have hwo:=ir hC hns;have hsp:=V8 hwo;have hsl:=hsp.len;have hss:=hsp.sz;have hsa:=hsp.asz;refine BD Tryz.func44 O rQ (n:=90) O O (A4 (BP O (Bf O) fun b3=>BP O (BF B8 O) fun b4=>Az BA 1 [] O (A4 (Ay O (BI (i:=1) Bd O O Am) (Ay O (BN O O (MF t hsp.nd Ad) O) (A5 BA 3 [] O (BP O (BF B8 O) fun b6=>Az BA 2 [0,1] O (A1 (A4 (Ay O (Ax DV O O) ?_))))))))));generalize hz:(BK t).1=z;obtain⟨zk,zi,zn,zl,zs⟩:=z;have hzo:okB (.mk zk zi zn zl zs)=true:=hz▸hsp.head;have hzq:=hz;have hzl:=JT hzo;have hzn:=(Cd.1 hzo).nd;refine Az BA 1 [0] O (BH (A2 BA 2 [] O (A3 O (fun c=>?_) (fun c=>?_))))
  ·(try simp only[sd,se] at c);have hk:=(congrArg Tm.kind hzq).trans c;refine A4 (B6 O (Ay O (BZ Bq O (Bh _)) (Az BA 1 [] O (A3 O (fun c1=>?_) (fun c1=>?_)))))
   ·(try simp only[sd,se] at c1);refine A1 ?_;obtain⟨x,hx⟩:=BE (l:=zs) (i:=1) Au;obtain⟨x1,hx1⟩:=BE (l:=(BK t).2) (i:=0) Au;have hxo:=GJ hzo (i:=1) hx;have hx1o:=hsp.args _ (List.mem_of_getElem? hx1);rw[jD hwo hk Au (by rw[hzq];exact hx),jx hx1] at hC;have hn3:=hns;rw[←hC] at hn3;obtain⟨e,he⟩ | ⟨⟨z1,n2⟩,hz⟩:=GD (JW s (Ce x [x1] 0))
    ·refine I7 ((fun _=> .p (.iface 122 .unit)) e) 9 [.val (.ptr m 0),.val (.ptr b6 (0+4)),.val (.p (.lst (BO zs))),.val (.ref (Bg x)),.val (.agg ((Bg x).map .p)),.val (.p (.lst (BO ((BK t).2)))),.val (.ref (Bg x1)),.val (.agg ((Bg x1).map .p)),.val (.p (.lst (BO [x1]))),.val (.p .any),.val (.p (.lst (BO ((BK t).2)))),.val (.p (.lst (BO (((BK t).2).drop 1)))),.val (.p .any),.val (.p .any),.val (.p .any)] D7 O Ap O Aw (fun _ _=>by exact⟨rfl,_,List.nil_sublist _,⟨_,by rw[←hC];exact LF hn3 he,rfl⟩⟩) ?_;refine CL O O (fun Bs=>BB O) (CL O O (fun Bs=>Ax DV O O) (CL O O (fun Bs=>BG (i:=Bs.length+0) E9 O (Cn O) O) (CL O O (fun Bs=>BC Bq O O Au (Bn hx) (BL _)) (CL O O (fun Bs=>BQ Bd O (BL _)) (CL O O (fun Bs=>BB O) (CL O O (fun Bs=>BC Bq O O Au (Bn hx1) (BL _)) (CL O O (fun Bs=>BQ Bd O (BL _)) (CL O O (fun Bs=>CA (rows:=BO [x1]) Bq B8 O O O O (CT (B9 _)) (FP _)) (K0 (mkp:=(fun _=> .p (.iface 122 .unit))) (e:=e) [3] he O O (.inl ⟨O,O,O⟩) (K6 m ds s x [x1] hJ hxo (ok_one hx1o) Jn) ⟨_,_,O,O,O⟩ As (aw (we O) (aw (we O) (aw (we O) (FH)))) (CL O O (fun Bs=>BB O) ?_))))))))));exact CL O O (fun Bs=>Cp (lo:=1) Bq O (CT (B9 _)) ⟨_,O⟩ O AR (Nat.le_refl _) (Jo ((BK t).2) 1)) (DS O O Ap (DS O O Ap (DS O O Ap Kq)))
    rw[Kz hn3 hz] at hC;have hJ3:=(Qs hJ hz).1;refine IN [.box b6 [.p (I zk),.p (I zi),.p (.str zn),.p (.lst (List.map CE zl)),.p (.lst (BO zs))],.box b4 [.p (I 0),.p (I 0),.p (.str ⟨#[]⟩),.p (.nils),.p (.nils)],.box b3 ((Bg t).map .p),.box m [.p (.lst (List.map Bw ds)),.p (I n2)]] 9 [.val (.ptr m 0),.val (.ptr b6 (0+4)),.val (.p (.lst (BO zs))),.val (.ref (Bg x)),.val (.agg ((Bg x).map .p)),.val (.p (.lst (BO ((BK t).2)))),.val (.ref (Bg x1)),.val (.agg ((Bg x1).map .p)),.val (.p (.lst (BO [x1]))),.val (.agg ((Bg z1).map .p)),.val (.p (.lst (BO ((BK t).2)))),.val (.p (.lst (BO (((BK t).2).drop 1)))),.val (.agg ((Bg (apply z1 (((BK t).2).drop 1))).map .p))] [.p .any,.p (.bool true)] [] D7 O Ap Ap Ap O ?_ ?_
    ·exact Aw
    refine Bz O O (fun Bs=>BB O) (Bz O O (fun Bs=>Ax DV O O) (GH O O O (fun Bs=>BG (i:=Bs.length+0) E9 O (Cn O) O) (fun Bs=>BG (i:=Bs.length+0) E9 O (Cn O) O) (Bz O O (fun Bs=>BC Bq O O Au (Bn hx) (BL _)) (Bz O O (fun Bs=>BQ Bd O (BL _)) (Bz O O (fun Bs=>BB O) (Bz O O (fun Bs=>BC Bq O O Au (Bn hx1) (BL _)) (Bz O O (fun Bs=>BQ Bd O (BL _)) (Bz O O (fun Bs=>CA (rows:=BO [x1]) Bq B8 O O O O (CT (B9 _)) (FP _)) (J5 O (fun Bs=>G2 [3] O (.inl ⟨O,O,O⟩) (K1 hz (K6 m ds s x [x1] hJ hxo (ok_one hx1o) Jn)) ⟨_,_,O,O,O⟩ As O (aw (we O) (aw (we O) (aw (we O) (FH))))) (Bz O O (fun Bs=>BB O) ?_))))))))));refine Bz O O (fun Bs=>Cp (lo:=1) Bq O (CT (B9 _)) ⟨_,O⟩ O AR (Nat.le_refl _) (Jo ((BK t).2) 1)) (Bz O O (fun Bs=>BN O O (Ee z1 (((BK t).2).drop 1) AS) O) (J6 (EA [.box b6 [.p (I zk),.p (I zi),.p (.str zn),.p (.lst (List.map CE zl)),.p (.lst (BO zs))],.box b4 ((Bg (apply z1 (((BK t).2).drop 1))).map .p),.box b3 ((Bg t).map .p),.box m [.p (.lst (List.map Bw ds)),.p (I n2)]] O (Bc (i:=1) Bd O O O Am Aa (C5 _)) (EA [.box b6 [.p (I zk),.p (I zi),.p (.str zn),.p (.lst (List.map CE zl)),.p (.lst (BO zs))],.box b4 ((Bg (apply z1 (((BK t).2).drop 1))).map .p),.box b3 ((Bg t).map .p),.box m [.p (.lst (List.map Bw ds)),.p (I n2)]] O (Bb O) (KC (A6 (⟨O,_,_,⟨_,_,O,(BJ (i:=1) Bd O O Am),⟨_,_,O,O,O⟩⟩,(CJ (is:=[3]) O),?_⟩)))))));exact⟨⟨_,_⟩,De hC.symm,O,O⟩
   (try simp only[sd,se] at c1);rw[dR hwo hk Au] at hC;refine A7 (A2 BA 3 [1,0] O (BS (Bj (i:=1) O) (A6 (⟨O,_,_,⟨_,_,O,(BJ (i:=1) Bd O O O),⟨_,_,O,O,O⟩⟩,(CJ (is:=[3]) O),?_⟩))));exact⟨⟨_,_⟩,De hC.symm,O,O⟩
  (try simp only[sd,se] at c);refine A2 BA 2 [] O (A3 O (fun c1=>?_) (fun c1=>?_))
  ·(try simp only[sd,se] at c1);have hk:=(congrArg Tm.kind hzq).trans c1;refine A1 ?_;obtain⟨x,hx⟩:=BE (l:=zs) (i:=2) Au;obtain⟨x1,hx1⟩:=BE (l:=zs) (i:=1) Au;have hxo:=GJ hzo (i:=2) hx;have hx1o:=GJ hzo (i:=1) hx1;rw[gO hwo hk (by rw[hzq];exact hx1) (by rw[hzq];exact hx)] at hC;have hn3:=hns;rw[←hC] at hn3;obtain⟨e,he⟩ | ⟨⟨z1,n2⟩,hz⟩:=GD (JW s (Ce x [x1] 0))
   ·refine I7 ((fun _=> .p (.iface 122 .unit)) e) 10 [.val (.ptr m 0),.val (.ptr b6 (0+4)),.val (.p (.lst (BO zs))),.val (.ref (Bg x)),.val (.agg ((Bg x).map .p)),.val (.ptr b6 (0+4)),.val (.p (.lst (BO zs))),.val (.ref (Bg x1)),.val (.agg ((Bg x1).map .p)),.val (.p (.lst (BO [x1]))),.val (.p .any),.val (.p (.lst (BO ((BK t).2)))),.val (.p .any),.val (.p .any),.val (.p .any)] D7 O Ap O Aw (fun _ _=>by exact⟨rfl,_,List.nil_sublist _,⟨_,by rw[←hC];exact LF hn3 he,rfl⟩⟩) ?_;refine CL O O (fun Bs=>BB O) (CL O O (fun Bs=>Ax DV O O) (CL O O (fun Bs=>BG (i:=Bs.length+0) E9 O (Cn O) O) (CL O O (fun Bs=>BC Bq O O Au (Bn hx) (BL _)) (CL O O (fun Bs=>BQ Bd O (BL _)) (CL O O (fun Bs=>Ax DV O O) (CL O O (fun Bs=>BG (i:=Bs.length+0) E9 O (Cn O) O) (CL O O (fun Bs=>BC Bq O O Au (Bn hx1) (BL _)) (CL O O (fun Bs=>BQ Bd O (BL _)) (CL O O (fun Bs=>CA (rows:=BO [x1]) Bq B8 O O O O (CT (B9 _)) (FP _)) (K0 (mkp:=(fun _=> .p (.iface 122 .unit))) (e:=e) [3] he O O (.inl ⟨O,O,O⟩) (K6 m ds s x [x1] hJ hxo (ok_one hx1o) Jn) ⟨_,_,O,O,O⟩ As (aw (we O) (aw (we O) (aw (we O) (FH)))) ?_))))))))));exact CL O O (fun Bs=>BB O) (DS O O Ap (DS O O Ap (DS O O Ap Kq)))
   rw[Kz hn3 hz] at hC;have hJ3:=(Qs hJ hz).1;refine IN [.box b6 [.p (I zk),.p (I zi),.p (.str zn),.p (.lst (List.map CE zl)),.p (.lst (BO zs))],.box b4 [.p (I 0),.p (I 0),.p (.str ⟨#[]⟩),.p (.nils),.p (.nils)],.box b3 ((Bg t).map .p),.box m [.p (.lst (List.map Bw ds)),.p (I n2)]] 10 [.val (.ptr m 0),.val (.ptr b6 (0+4)),.val (.p (.lst (BO zs))),.val (.ref (Bg x)),.val (.agg ((Bg x).map .p)),.val (.ptr b6 (0+4)),.val (.p (.lst (BO zs))),.val (.ref (Bg x1)),.val (.agg ((Bg x1).map .p)),.val (.p (.lst (BO [x1]))),.val (.agg ((Bg z1).map .p)),.val (.p (.lst (BO ((BK t).2)))),.val (.agg ((Bg (apply z1 ((BK t).2))).map .p))] [.p .any,.p (.bool true)] [] D7 O Ap Ap Ap O ?_ ?_
   ·exact Aw
   refine Bz O O (fun Bs=>BB O) (Bz O O (fun Bs=>Ax DV O O) (GH O O O (fun Bs=>BG (i:=Bs.length+0) E9 O (Cn O) O) (fun Bs=>BG (i:=Bs.length+0) E9 O (Cn O) O) (Bz O O (fun Bs=>BC Bq O O Au (Bn hx) (BL _)) (Bz O O (fun Bs=>BQ Bd O (BL _)) (Bz O O (fun Bs=>Ax DV O O) (GH O O O (fun Bs=>BG (i:=Bs.length+0) E9 O (Cn O) O) (fun Bs=>BG (i:=Bs.length+0) E9 O (Cn O) O) (Bz O O (fun Bs=>BC Bq O O Au (Bn hx1) (BL _)) (Bz O O (fun Bs=>BQ Bd O (BL _)) (Bz O O (fun Bs=>CA (rows:=BO [x1]) Bq B8 O O O O (CT (B9 _)) (FP _)) ?_)))))))));refine J5 O (fun Bs=>G2 [3] O (.inl ⟨O,O,O⟩) (K1 hz (K6 m ds s x [x1] hJ hxo (ok_one hx1o) Jn)) ⟨_,_,O,O,O⟩ As O (aw (we O) (aw (we O) (aw (we O) (FH))))) (Bz O O (fun Bs=>BB O) (Bz O O (fun Bs=>BN O O (Ee z1 ((BK t).2) AS) O) (J6 (EA [.box b6 [.p (I zk),.p (I zi),.p (.str zn),.p (.lst (List.map CE zl)),.p (.lst (BO zs))],.box b4 ((Bg (apply z1 ((BK t).2))).map .p),.box b3 ((Bg t).map .p),.box m [.p (.lst (List.map Bw ds)),.p (I n2)]] O (Bc (i:=1) Bd O O O Am Aa (C5 _)) (EA [.box b6 [.p (I zk),.p (I zi),.p (.str zn),.p (.lst (List.map CE zl)),.p (.lst (BO zs))],.box b4 ((Bg (apply z1 ((BK t).2))).map .p),.box b3 ((Bg t).map .p),.box m [.p (.lst (List.map Bw ds)),.p (I n2)]] O (Bb O) (KC (A6 ?_)))))));refine⟨O,_,_,⟨_,_,O,(BJ (i:=1) Bd O O Am),⟨_,_,O,O,O⟩⟩,(CJ (is:=[3]) O),?_⟩;exact⟨⟨_,_⟩,De hC.symm,O,O⟩
  (try simp only[sd,se] at c1);refine A1 (A2 BA 2 [] O (Bi [0,4,6,7,17] 51 (fun y=>y= .p (.bool (decide (zk=9∨zk=10)))) ?_ ?_))
  ·refine A3 O (fun c2=>?_) (fun c2=>?_)
   ·(try simp only[sd,se] at c2);exact A7 (⟨O,O,(List.Sublist.refl _),(by refine pB (Bool.eq_iff_iff.2 ?_);simp only[beq_iff_eq,decide_eq_true_eq];omega),⟨O,O,O,O,O,Aw⟩⟩)
   (try simp only[sd,se] at c2);exact A8 (Az BA 2 [] O (⟨O,O,(List.Sublist.refl _),(by refine pB (Bool.eq_iff_iff.2 ?_);simp only[beq_iff_eq,decide_eq_true_eq];omega),⟨O,O,O,O,O,Aw⟩⟩))
  rintro _ rfl;refine A3 O (fun c2=>?_) (fun c2=>?_)
  ·(try simp only[sd,se] at c2);have hk9:zk=9∨zk=10:=by simpa using c2
   refine A4 (A5 BA 2 [0] O ?_);obtain⟨p,hp⟩:=BE (l:=zs) (i:=0) Au;refine Ay O (BC Bq O O Au (Bn hp) (BL _)) (Ay O (BQ Bd O (BL _)) (BP O (BF B8 O) fun b8=>Az BA 1 [0,1] O (A1 (A4 (Ay O (Ax DV O O) ?_)))));obtain⟨pk,pi,pn,pl,ps⟩:=p;have hpo:=GJ hzo (i:=0) hp;have hpl:=JT hpo;refine Az BA 2 [0] O (A3 O (fun c3=>?_) (fun c3=>?_))
   ·(try simp only[sd,se] at c3);have hp8:=c3;refine A4 (A5 BA 3 [1,0] O ?_);obtain⟨cq,hcq⟩:=BE (l:=ps) (i:=(1+zk - 9).toNat) (by have:=hpl.2.2.2 hp8;omega);have hcqo:=GJ hpo (i:=(1+zk - 9).toNat) hcq;rw[bP hwo (by rw[hzq];exact hk9) (by rw[hzq];exact hp) (p:= .mk pk pi pn pl ps) hp8 (by rw[hzq];exact hcq)] at hC;have hn3:=hns;rw[←hC] at hn3;refine D8 [4] O O O (.inl ⟨O,O,O⟩) (YM m ds s (.mk zk zi zn zl zs:Tm) (.mk pk pi pn pl ps:Tm) cq hJ hk9 hcq) ⟨_,_,O,O,O⟩ As (aw (we O) (aw (we O) (aw (we O) (FH)))) (fun _ _ h=>(congrArg List.length h).trans O) ?_ ?_
    rotate_left
    ·intro e _ he;exact⟨O,_,List.nil_sublist _,⟨_,by rw[←hC];exact LF hn3 he,rfl⟩⟩
    rintro⟨z1,n2⟩ _ hz rfl;rw[Kz hn3 hz] at hC;refine B6 O (Ay O (BN O O (Ee z1 ((BK t).2) AS) O) (Az BA 2 [2,1] O (A6 (⟨O,_,_,⟨_,_,O,(BJ (i:=2) Bd O O Am),⟨_,_,O,O,O⟩⟩,(CJ (is:=[4]) O),?_⟩))));exact⟨⟨_,_⟩,De hC.symm,O,O⟩
   (try simp only[sd,se] at c3);have hp8:=c3;refine A7 (A4 (A5 BA 2 [0] O ?_));rw[cw hwo (by rw[hzq];exact hk9) (by rw[hzq];exact hp) (p:= .mk pk pi pn pl ps) hp8] at hC;have hn0:=hns;rw[←hC] at hn0;have hn1:=Jz hn0;refine D8 [4] O O O (.inl ⟨O,O,O⟩) (ih k Au m (.mk pk pi pn pl ps:Tm) s hJ hn1) ⟨_,_,O,O,O⟩ As (aw (we O) (aw (we O) (FH))) (fun _ _ h=>(congrArg List.length h).trans O) ?_ ?_
   rotate_left
   ·intro e _ he;exact⟨O,_,List.nil_sublist _,⟨_,by rw[←hC];exact Kx hn0 he,rfl⟩⟩
   rintro⟨q,n2⟩ _ hz rfl;rw[MR hz] at hC;refine A5 BA 3 [] O (BP O (BF B8 O) fun b9=>Az BA 2 [0,1] O (A2 BA 1 [] O (A3 O (fun c4=>?_) (fun c4=>?_))))
   ·(try simp only[sd,se] at c4);rw[kI c4,hzq] at hC;refine A4 (A5 BA 3 [2,0] O (Ay O (CA (rows:=BO [(q.getD Bu)]) Bq B8 O O O O (CT (B9 _)) (FP _)) (A5 BA 2 [] O (Ay O (G6 O O (Ee (.mk zk 0 ⟨#[]⟩ [] [(q.getD Bu)]:Tm) ((BK t).2) AS) (aw (D9 O) (aw (we O) (FH)))) (Az BA 2 [3,1] O (A6 (⟨O,_,_,⟨_,_,O,(BJ (i:=3) Bd O O Am),⟨_,_,O,O,O⟩⟩,(CJ (is:=[5]) O),?_⟩)))))));exact⟨⟨_,_⟩,De hC.symm,O,O⟩
   (try simp only[sd,se] at c4);rw[lk c4] at hC;refine A7 (A2 BA 3 [3,0] O (BS (Bj (i:=3) O) (A6 (⟨O,_,_,⟨_,_,O,(BJ (i:=3) Bd O O O),⟨_,_,O,O,O⟩⟩,(CJ (is:=[5]) O),?_⟩))));exact⟨⟨_,_⟩,De hC.symm,O,O⟩
  (try simp only[sd,se] at c2);refine A2 BA 2 [] O (A3 O (fun c3=>?_) (fun c3=>?_))
  ·(try simp only[sd,se] at c3);have hk:=(congrArg Tm.kind hzq).trans c3;refine A4 (A5 BA 3 [0] O ?_);rw[Zc hwo hk,hzq] at hC;refine D8 [3] O O O (.inl ⟨O,O,O⟩) (U4 k m ds s (.mk zk zi zn zl zs:Tm) ((BK t).2) (ih k Au) hE hJ hzo Au hsp.args (by rw[hC];exact hns)) ⟨_,_,O,O,O⟩ As (aw (we O) (aw (we O) (aw (we O) (FH)))) (fun _ _ h=>(congrArg List.length h).trans O) ?_ ?_
   rotate_left
   ·intro e _ he;exact⟨O,_,List.nil_sublist _,⟨_,by rw[←hC];exact he,rfl⟩⟩
   rintro⟨q,n2⟩ _ hz rfl;have hfin:=hz;refine Az BA 4 [1,1] O (A6 (⟨O,_,_,⟨_,_,O,(BJ (i:=1) Bd O O Am),⟨_,_,O,O,O⟩⟩,(CJ (is:=[3]) O),?_⟩));exact⟨⟨q,n2⟩,by rw[←hC];exact hfin,rfl,rfl⟩
  (try simp only[sd,se] at c3);rw[ka hwo (by rw[hzq];assumption) (by rw[hzq];assumption) (by rw[hzq];show ¬zk=9;omega) (by rw[hzq];show ¬zk=10;omega) (by rw[hzq];assumption)] at hC;refine A7 (A2 BA 3 [1,0] O (BS (Bj (i:=1) O) (A6 (⟨O,_,_,⟨_,_,O,(BJ (i:=1) Bd O O O),⟨_,_,O,O,O⟩⟩,(CJ (is:=[3]) O),?_⟩))));exact⟨⟨_,_⟩,De hC.symm,O,O⟩
end Go.Proofs.YtboammbpdaoojaaGreat
namespace Go.Eu
open Go.Abs
def dW (q:Tm):Bool:= !(decide ((size q:Int) > 4096)||decide (FE q > 200))
def Um:Out (Option Tm×Int)→Tm×Bool×Int
 | .ok (some q,_)=>if dW q=true then (q,true,0) else (Bu,false,11)
 | .ok (none,_)=>(Bu,false,0)
 | _=>(Bu,false,11)
def sb:Out (Option Tm×Int)→Tm×Bool×Int
 | .ok (q,_)=>(q.getD Bu,q.isSome,0)
 | _=>(Bu,false,11)
def bT:Out (Option Int×Int)→Int×Bool×Int
 | .ok (q,_)=>(q.getD 0,q.isSome,0)
 | _=>(0,false,11)
def nq (o:Out (Option Tm×Int)):Prop:=∀q c,o= .ok (some q,c)→okB q=true
theorem sw {ak ai bk bi:Int}{an bn:ByteArray}{al bl:List Cl}{a b:List Tm}(hl:bl.length=0) (hs:b.length=0):Ng (Tm.mk ak ai an al a) (.mk bk bi bn bl b)=(((((ak==bk)&&(ai==bi))&&(an.toList==bn.toList))&&(decide (al.length=0)))&&(decide (a.length=0))):=by
 rw[List.length_eq_zero_iff] at hl hs;subst hl hs;rw[Bool.eq_iff_iff,IT];simp only[Tm.mk.injEq,Bool.and_eq_true,decide_eq_true_eq,beq_iff_eq,List.length_eq_zero_iff];constructor
 ·rintro⟨rfl,rfl,rfl,rfl,rfl⟩;exact⟨⟨⟨⟨rfl,rfl⟩,rfl⟩,rfl⟩,rfl⟩
 rintro⟨⟨⟨⟨h1,h2⟩,h3⟩,h4⟩,h5⟩;exact⟨h1,h2,G3 h3,h4,h5⟩
section
variable {o:Out (Option Tm×Int)}{q:Option Tm}{c e:Int}
theorem R1 (h:nq o) (hx:o.ex= .ok (q,c)):okB (q.getD Bu)=true:=by
 have h1:=Ii hx;cases q with
 | none=>decide
 | some x=>exact h x c h1
theorem Rm (h:o.ex= .error e):Um o=(Bu,false,11):=by cases o<;>first | rfl | cases h
theorem Og (h:o.ex= .ok (q,c)) (hq:q.isSome=false):Um o=(q.getD Bu,q.isSome,0):=by
 rw[Ii h];cases q with
 | none=>rfl
 | some x=>cases hq
theorem MC (h:o.ex= .ok (q,c)) (hq:q.isSome=true) (hf:(size (q.getD Bu):Int) > 4096∨FE (q.getD Bu) > 200):Um o=(Bu,false,11):=by
 rw[Ii h];cases q with
 | none=>cases hq
 | some x =>
  have:dW x=false:=by
   simp only[Option.getD_some] at hf;unfold dW;simp only[Bool.not_eq_false',Bool.or_eq_true,decide_eq_true_eq];exact hf
  simp only[Um,this,Bool.false_eq_true,if_false]
theorem Ry (h:o.ex= .ok (q,c)) (hf:¬(q.isSome=true∧((size (q.getD Bu):Int) > 4096∨FE (q.getD Bu) > 200))):Um o=(q.getD Bu,q.isSome,0):=by
 rw[Ii h];cases q with
 | none=>rfl
 | some x =>
  have:dW x=true:=by
   unfold dW;simp only[Option.isSome_some,Option.getD_some,true_and,not_or] at hf;simp only[Bool.not_eq_true',Bool.or_eq_false_iff,decide_eq_false_iff_not];exact hf
  simp only[Um,this,if_true,Option.getD_some,Option.isSome_some]
end
section
variable {o:Out (Option Int×Int)}{q:Option Int}{c e:Int}
theorem lE (h:o.ex= .error e):bT o=(0,false,11):=by cases o<;>first | rfl | cases h
theorem lD (h:o.ex= .ok (q,c)):bT o=(q.getD 0,q.isSome,0):=by rw[Ii h];rfl
end
section
variable {E:List Cc}{σ:Type}{S:Sys σ}{W:σ→Tm→Out (Tm×σ)}
end
end Go.Eu
namespace Go.Proofs.YtboammbpdaoojaaGreat
open Go.Abs Go.Eu
theorem ZR:∀(ds:List Cc) (N m bt bo bk:Nat) (t:Tm) (s:Int),(Ha ds)→(HF s)→(FU ds CI N s t≠ .stuck)→B4 Tryz.prog 43 [.ptr m 0,.ptr bt 0,.ptr bo 0,.ptr bk 0] [.box m [.p (.lst (List.map Bw ds)),.p (I s)],.box bt ((Bg t).map .p),.box bo [.p (I 0),.p (I 0),.p (.str ⟨#[]⟩),.p (.nils),.p (.nils)],.box bk [.p (.bool false)]] (LK (fun(r:Option Tm×Int)=> .tup []) (fun _=> .p (.iface 122 .unit)) (fun r H'=>H'=[.box m [.p (.lst (List.map Bw ds)),.p (I r.2)],.box bt ((Bg t).map .p),.box bo ((Bg (r.1.getD Bu)).map .p),.box bk [.p (.bool r.1.isSome)]]) ((FU ds CI N s t).ex)):=by
 intro ds N m bt bo bk t s h1 h2 h3;refine BD Tryz.func43 O qI (n:=11) O O (A8 (A5 BA 2 [1] O (D8 [0] O O O (.inl ⟨O,O,O⟩) (dh ds h1 N m t s h2 h3) ⟨_,_,O,O,O⟩ As (aw (we O) (aw (we O) (FH))) (fun _ _ h=>(congrArg List.length h).trans O) ?_ ?_)))
 rotate_left
 ·intro e _ he;exact⟨O,_,List.nil_sublist _,⟨_,he,O⟩⟩
 rintro⟨q,n2⟩ _ hz rfl;refine Az BA 5 [2,1,3,0] O ⟨O,_,_,O,(CJ (is:=[0,1,2,3]) O),?_⟩;exact⟨⟨q,n2⟩,hz,O,O⟩
theorem jE:∀(ds:List Cc) (N:Nat) (t:Tm),(Ha ds)→(FU ds CI N 20000 t≠ .stuck)→(nq (FU ds CI N 20000 t))→Et Tryz.prog 16 [.p (.lst (List.map Bw ds)),.agg ((Bg t).map .p)] (.tup [.agg ((Bg ((Um (FU ds CI N 20000 t)).1)).map .p),.p (.bool ((Um (FU ds CI N 20000 t)).2.1)),.p (I ((Um (FU ds CI N 20000 t)).2.2))]):=by
 intro ds N t h1 h2 h3;refine BD Tryz.func16 O px (n:=34) O O (A4 (BP O (Bf O) fun b3=>BP O (BF B8 O) fun b4=>Az BA 2 [] O (A4 (BP O (BF B8 O) fun b7=>Bt O (A4 (BP O (BF sO O) fun b8=>Az BA 1 [0,0] O (A1 ?_)))))));obtain⟨e,he⟩ | ⟨⟨q,n2⟩,ha⟩:=GD ((FU ds CI N 20000 t).ex)
 ·refine A8 (A5 BA 2 [] O (UU [3,1,0] O O O (.inl ⟨O,O,O⟩) (SM _ _ he (fun r=>r.2) (fun r=>[.box b3 ((Bg t).map .p),.box b7 ((Bg (r.1.getD Bu)).map .p),.box b8 [.p (.bool r.1.isSome)]]) 43 [.ptr b3 0,.ptr b7 0,.ptr b8 0] [.box b3 ((Bg t).map .p),.box b7 [.p (I 0),.p (I 0),.p (.str ⟨#[]⟩),.p (.nils),.p (.nils)],.box b8 [.p (.bool false)]] ds (fun m=>ZR ds N m b3 b7 b8 t 20000 h1 Nb h2)) ⟨_,_,O,O,⟨_,_,O,O,⟨_,_,O,O,O⟩⟩⟩ As (Dm _) (Az BA 1 [] O (A1 (A2 BA 15 [] O ?_)))));refine A3 O (fun c=>by cases c) (fun c=>?_);refine A7 (A1 (A2 BA 2 [] O ?_));refine A3 O (fun c1=>?_) (fun c1=>by cases c1);refine A2 BA 5 [0,0] O (BS (Bj (i:=0) O) (A6 (⟨O,_,_,⟨_,_,O,(BJ (i:=0) Bd O O O),⟨_,_,O,O,⟨_,_,O,O,O⟩⟩⟩,(List.nil_sublist _),?_⟩)))
  all_goals exact⟨by show (.tup [.agg [.p (I 0),.p (I 0),.p (.str ⟨#[]⟩),.p (.lst []),.p (.lst [])],.p (.bool false),.p (I 11)]:AV)=_;first | (rw[Rm he]<;>rfl) | (rw[Og ha g]<;>rfl) | (rw[MC ha g]<;>first | rfl | omega) | (rw[Ry ha]<;>first | rfl | (rintro⟨_,_ | _⟩<;>omega)),rfl⟩
 refine A8 (A5 BA 2 [] O (Ay O (CS [3,1,0] O (.inl ⟨O,O,O⟩) (Uc _ _ ha (fun r=>r.2) (fun r=>[.box b3 ((Bg t).map .p),.box b7 ((Bg (r.1.getD Bu)).map .p),.box b8 [.p (.bool r.1.isSome)]]) 43 [.ptr b3 0,.ptr b7 0,.ptr b8 0] [.box b3 ((Bg t).map .p),.box b7 [.p (I 0),.p (I 0),.p (.str ⟨#[]⟩),.p (.nils),.p (.nils)],.box b8 [.p (.bool false)]] ds (fun m=>ZR ds N m b3 b7 b8 t 20000 h1 Nb h2)) ⟨_,_,O,O,⟨_,_,O,O,⟨_,_,O,O,O⟩⟩⟩ As O (.inl O)) (Az BA 1 [] O (A1 (A4 (A5 BA 6 [0] O (Ba 18 O (fun g=>?_) (fun g=>?_))))))))
 ·(try simp only[sd,se] at g);refine BM O (BI (i:=1) Bd O O Am) (BM O (BN O O (ZQ (q.getD Bu) (Cd.1 (R1 h3 ha)).nd (by have:=F8 (R1 h3 ha);omega)) O) (A5 BA 2 [] O (Ba 22 O (fun g1=>?_) (fun g1=>?_))))
  ·(try simp only[sd,se] at g1);refine Az BA 5 [] O ?_;refine A3 O (fun c=>?_) (fun c=>by cases c);refine A8 (Az BA 1 [] O (A1 (A2 BA 2 [] O ?_)));refine A3 O (fun c1=>?_) (fun c1=>by cases c1);refine A2 BA 5 [2,0] O (BS (Bj (i:=2) O) (A6 (⟨O,_,_,⟨_,_,O,(BJ (i:=2) Bd O O O),⟨_,_,O,O,⟨_,_,O,O,O⟩⟩⟩,(List.nil_sublist _),?_⟩)))
   all_goals exact⟨by show (.tup [.agg [.p (I 0),.p (I 0),.p (.str ⟨#[]⟩),.p (.lst []),.p (.lst [])],.p (.bool false),.p (I 11)]:AV)=_;first | (rw[Rm he]<;>rfl) | (rw[Og ha g]<;>rfl) | (rw[MC ha g]<;>first | rfl | omega) | (rw[Ry ha]<;>first | rfl | (rintro⟨_,_ | _⟩<;>omega)),rfl⟩
  (try simp only[sd,se] at g1);refine BM O (BI (i:=1) Bd O O Am) (BM O (BN O O (Vm _ (q.getD Bu) (Nat.le_refl _) (Cd.1 (R1 h3 ha)).nd) O) (Az BA 3 [] O (A3 O (fun c=>?_) (fun c=>?_))))
  ·(try simp only[sd,se] at c);refine A8 (Az BA 1 [] O (A1 (A2 BA 2 [] O ?_)));refine A3 O (fun c1=>?_) (fun c1=>by cases c1);refine A2 BA 5 [2,0] O (BS (Bj (i:=2) O) (A6 (⟨O,_,_,⟨_,_,O,(BJ (i:=2) Bd O O O),⟨_,_,O,O,⟨_,_,O,O,O⟩⟩⟩,(List.nil_sublist _),?_⟩)))
   all_goals exact⟨by show (.tup [.agg [.p (I 0),.p (I 0),.p (.str ⟨#[]⟩),.p (.lst []),.p (.lst [])],.p (.bool false),.p (I 11)]:AV)=_;first | (rw[Rm he]<;>rfl) | (rw[Og ha g]<;>rfl) | (rw[MC ha g]<;>first | rfl | omega) | (rw[Ry ha]<;>first | rfl | (rintro⟨_,_ | _⟩<;>omega)),rfl⟩
  (try simp only[sd,se] at c);refine A7 (A1 (A2 BA 2 [] O ?_));refine A3 O (fun c1=>by cases c1) (fun c1=>?_);refine A7 (A1 (B7 (fun k=>false) D7 (BT (j:=1) O O O (fun H i hi=>BI (i:=i) Bd O hi Am) AB Aw (BT (j:=0) O O O (fun H i hi=>BG (i:=i) jv O hi O) AB Aw (CF O O (Bc (i:=2) Bd O O O Am Aa (C5 _)) AB Aw (A0 O (fun _=>Bb O) Aw (A0 O (fun _=>Bb O) Aw (Bv O Ap (A6 (⟨O,_,_,⟨_,_,O,(BJ (i:=2) Bd O O Am),⟨_,_,O,O,⟨_,_,O,O,O⟩⟩⟩,(List.nil_sublist _),?_⟩))))))))))
  all_goals exact⟨by show (.tup [.agg ((Bg (q.getD Bu)).map .p),.p (.bool q.isSome),.p (I 0)]:AV)=_;first | (rw[Rm he]<;>rfl) | (rw[Og ha g]<;>rfl) | (rw[MC ha g]<;>first | rfl | omega) | (rw[Ry ha]<;>first | rfl | (rintro⟨_,_ | _⟩<;>omega)),rfl⟩
 (try simp only[sd,se] at g);refine Az BA 9 [] O ?_;refine A3 O (fun c=>by cases c) (fun c=>?_);refine A7 (A1 (A2 BA 2 [] O ?_));refine A3 O (fun c1=>by cases c1) (fun c1=>?_);refine A7 (A1 (B7 (fun k=>false) D7 (BT (j:=1) O O O (fun H i hi=>BI (i:=i) Bd O hi Am) AB Aw (BT (j:=0) O O O (fun H i hi=>BG (i:=i) jv O hi O) AB Aw (CF O O (Bc (i:=2) Bd O O O Am Aa (C5 _)) AB Aw (A0 O (fun _=>Bb O) Aw (A0 O (fun _=>Bb O) Aw (Bv O Ap (A6 (⟨O,_,_,⟨_,_,O,(BJ (i:=2) Bd O O Am),⟨_,_,O,O,⟨_,_,O,O,O⟩⟩⟩,(List.nil_sublist _),?_⟩))))))))))
 all_goals exact⟨by show (.tup [.agg ((Bg (q.getD Bu)).map .p),.p (.bool q.isSome),.p (I 0)]:AV)=_;first | (rw[Rm he]<;>rfl) | (rw[Og ha g]<;>rfl) | (rw[MC ha g]<;>first | rfl | omega) | (rw[Ry ha]<;>first | rfl | (rintro⟨_,_ | _⟩<;>omega)),rfl⟩
theorem jO:∀(a b:List Cl),(b.length=0)→Et Tryz.prog 118 [.p (.lst (List.map CE a)),.p (.lst (List.map CE b)),.p (.fn 119)] (.p (.bool (decide (a.length=0)))):=by
 intro a b h1;refine BD Tryz.func118 O mX (n:=32) O O (A2 BA 1 [] O (A1 (A4 (B6 O (Ay O (BZ En O (List.length_map _)) (B6 O (Ay O (BZ En O (List.length_map _)) (Az BA 1 [] O (A3 O (fun c=>?_) (fun c=>?_))))))))))
 ·(try simp only[sd,se] at c);refine A2 BA 1 [] O (A6 (⟨O,_,_,⟨_,_,O,O,O⟩,(List.nil_sublist _),?_⟩))
  all_goals exact⟨pB (decide_eq_false Au).symm,rfl⟩
 (try simp only[sd,se] at c);refine A7 (A1 (A4 (B6 O (Ay O (BZ En O (List.length_map _)) (Az BA 1 [] O (BH (Bo (α:=Nat) (fun i=>⟨32,mk [(1,.p (.lst (List.map CE b))),(2,.p (.fn 119)),(15,.p (.lst (List.map CE a))),(16,.p (I (a.length:Nat))),(17,.p (I (i:Int)))],[],[]⟩) (fun i=>a.length - i) (fun i=>i≤a.length) 0 AQ ?_ ?_)))))))
 ·exact Bk ⟨we O,we O,we O,we O,we O,Aw⟩ (leH (is:=[]) O (DN))
 rintro i hC
 try simp only at hC
 have hi:=hC;refine A2 BA 1 [] O (A1 (A3 O (fun c1=>?_) (fun c1=>?_)))
 ·(try simp only[sd,se] at c1);omega
 (try simp only[sd,se] at c1);refine Br (A2 BA 1 [] O (A6 (⟨O,_,_,⟨_,_,O,O,O⟩,(List.nil_sublist _),?_⟩)))
 all_goals exact⟨pB (decide_eq_true Au).symm,rfl⟩
theorem ig:∀(a b:List Tm),(b.length=0)→Et Tryz.prog 120 [.p (.lst (BO a)),.p (.lst (BO b)),.p (.fn 91)] (.p (.bool (decide (a.length=0)))):=by
 intro a b h1;refine BD Tryz.func120 O pV (n:=32) O O (A2 BA 1 [] O (A1 (A4 (B6 O (Ay O (BZ Bq O (Bh _)) (B6 O (Ay O (BZ Bq O (Bh _)) (Az BA 1 [] O (A3 O (fun c=>?_) (fun c=>?_))))))))))
 ·(try simp only[sd,se] at c);refine A2 BA 1 [] O (A6 (⟨O,_,_,⟨_,_,O,O,O⟩,(List.nil_sublist _),?_⟩))
  all_goals exact⟨pB (decide_eq_false Au).symm,rfl⟩
 (try simp only[sd,se] at c);refine A7 (A1 (A4 (B6 O (Ay O (BZ Bq O (Bh _)) (Az BA 1 [] O (BH (Bo (α:=Nat) (fun i=>⟨32,mk [(1,.p (.lst (BO b))),(2,.p (.fn 91)),(15,.p (.lst (BO a))),(16,.p (I (a.length:Nat))),(17,.p (I (i:Int)))],[],[]⟩) (fun i=>a.length - i) (fun i=>i≤a.length) 0 AQ ?_ ?_)))))))
 ·exact Bk ⟨we O,we O,we O,we O,we O,Aw⟩ (leH (is:=[]) O (DN))
 rintro i hC
 try simp only at hC
 have hi:=hC;refine A2 BA 1 [] O (A1 (A3 O (fun c1=>?_) (fun c1=>?_)))
 ·(try simp only[sd,se] at c1);omega
 (try simp only[sd,se] at c1);refine Br (A2 BA 1 [] O (A6 (⟨O,_,_,⟨_,_,O,O,O⟩,(List.nil_sublist _),?_⟩)))
 all_goals exact⟨pB (decide_eq_true Au).symm,rfl⟩
theorem jG:∀(a b:Tm),(b.levels.length=0)→(b.kids.length=0)→Et Tryz.prog 91 [.agg ((Bg a).map .p),.agg ((Bg b).map .p)] (.p (.bool (Ng a b))):=by
 intro a b h1 h2;obtain⟨ak,ai,an,al,as1⟩:=a;obtain⟨bk,bi,bn,bl,bs⟩:=b;simp only[Tm.levels,Tm.kids] at h1 h2;refine BD Tryz.func91 O qL (n:=38) O O (A4 (BP O (Bf O) fun b2=>BP O (Bf O) fun b3=>Az BA 1 [] O (A1 (Bi [] 4 (fun y=>y= .p (.bool ((((((ak:Int)==(bk:Int))&&((ai:Int)==(bi:Int)))&&(an.toList==bn.toList))&&(decide (al.length=0)))&&(decide (as1.length=0))))) ?_ ?_))))
 ·refine A8 (A5 BA 6 [1,0] O (Ba 10 O (fun g=>?_) (fun g=>?_)))
  ·(try simp only[sd,se] at g);refine A5 BA 7 [1,0] O (Ba 17 O (fun g1=>?_) (fun g1=>?_))
   ·(try simp only[sd,se] at g1);refine A5 BA 4 [1,0] O (BM O (GF O O) (A5 BA 2 [] O (Ba 24 O (fun g2=>?_) (fun g2=>?_))))
    ·(try simp only[sd,se] at g2);refine A5 BA 4 [1,0] O (BM O (BN O O (jO al bl h1) O) (A5 BA 2 [] O (Ba 31 O (fun g3=>?_) (fun g3=>?_))))
     ·(try simp only[sd,se] at g3);exact A5 BA 4 [1,0] O (BM O (BN O O (ig as1 bs h2) O) (Az BA 2 [] O ⟨O,O,AM,AJ,Aw⟩))
     (try simp only[sd,se] at g3);exact Az BA 7 [] O ⟨O,O,AM,AJ,Aw⟩
    (try simp only[sd,se] at g2);exact Az BA 14 [] O ⟨O,O,AM,AJ,Aw⟩
   (try simp only[sd,se] at g1);exact Az BA 21 [] O ⟨O,O,AM,AJ,Aw⟩
  (try simp only[sd,se] at g);exact Az BA 28 [] O ⟨O,O,AM,AJ,Aw⟩
 rintro _ rfl;refine A6 (⟨O,_,_,⟨_,_,O,O,O⟩,(List.nil_sublist _),?_⟩)
 all_goals exact⟨by show (.p (.bool ((((((ak:Int)==(bk:Int))&&((ai:Int)==(bi:Int)))&&(an.toList==bn.toList))&&(decide (al.length=0)))&&(decide (as1.length=0)))):AV)=_;rw[sw h1 h2],rfl⟩
def su (ds:List Cc) (n:Nat):Prop:=∀(m:Nat) (t:Tm) (s:Int),HF s→Ib ds CI n s t≠ .stuck→B4 Tryz.prog 53 [.ptr m 0,.agg ((Bg t).map .p)] [.box m [.p (.lst (List.map Bw ds)),.p (I s)]] (LK (fun(r:Option Int×Int)=> .tup [.p (I (r.1.getD 0)),.p (.bool r.1.isSome)]) (fun _=> .p (.iface 122 .unit)) (fun r H'=>H'=[.box m [.p (.lst (List.map Bw ds)),.p (I r.2)]]) ((Ib ds CI n s t).ex))
set_option maxHeartbeats 4000000 in
theorem Wx:∀(ds:List Cc) (hE:Ha ds) (n:Nat),su ds n:=by
 intro ds hE n
 induction n using Nat.strongRecOn with
 | ind n ih =>
  intro m t s hJ hns;have h2:=hE;obtain⟨k,rfl⟩:=fX rfl hns;generalize hC:Ib ds CI (k+1) s t=X at hns ⊢;rw[US] at hC;have hn0:=hns;rw[←hC] at hn0;have hn1:=UZ hn0;refine BD Tryz.func53 O qi (n:=116) O O (A4 (BP O (Bf O) fun b3=>Az BA 2 [] O (A4 (A5 BA 2 [0] O (D8 [1] O O O (.inl ⟨O,O,O⟩) (Ob ds hE k m t s hJ hn1) ⟨_,_,O,O,O⟩ As (aw (we O) (aw (we O) (FH))) (fun _ _ h=>(congrArg List.length h).trans O) ?_ ?_)))))
  rotate_left
  ·intro e _ he;exact⟨O,_,List.nil_sublist _,⟨_,by rw[←hC];exact UY hn0 he,rfl⟩⟩
  rintro⟨pr,n2⟩ _ hz rfl;obtain⟨hr2,hr3⟩:=Ul hn0 hz;rw[hr3] at hC;have hJ2:=QY hJ (Ii hz);have hsp:mM pr:=V8 hr2;have hsl:=hsp.len;have hss:=hsp.sz;have hsa:=hsp.asz;refine Ay O (BN O O (MF pr hsp.nd Ad) O) (A5 BA 3 [] O (BP O (BF B8 O) fun b6=>Az BA 2 [0,1] O (A1 (A4 (Ay O (Ax DV O O) ?_)))));generalize hz:(BK pr).1=z;obtain⟨zk,zi,zn,zl,zs⟩:=z;have hzo:okB (.mk zk zi zn zl zs)=true:=hz▸hsp.head;have hzq:=hz;have hzl:=JT hzo;have hzn:=(Cd.1 hzo).nd;refine Az BA 1 [0] O (BH (A2 BA 2 [] O (A3 O (fun c=>?_) (fun c=>?_))))
  ·(try simp only[sd,se] at c);have hk:=(congrArg Tm.kind hzq).trans c;rw[Sz (r:=(pr,n2)) hk,hzq] at hC;refine A2 BA 4 [0] O (A6 (⟨O,_,_,⟨_,_,O,O,⟨_,_,O,O,O⟩⟩,(CJ (is:=[2]) O),?_⟩));exact⟨⟨_,_⟩,De hC.symm,O,O⟩
  (try simp only[sd,se] at c);refine A1 (A2 BA 2 [] O (Bi [0,6,7,25] 30 (fun y=>y= .p (.bool (decide (zk=9∨zk=10)))) ?_ ?_))
  ·refine A3 O (fun c1=>?_) (fun c1=>?_)
   ·(try simp only[sd,se] at c1);exact A7 (⟨O,O,(List.Sublist.refl _),(by refine pB (Bool.eq_iff_iff.2 ?_);simp only[beq_iff_eq,decide_eq_true_eq];omega),⟨O,O,O,O,Aw⟩⟩)
   (try simp only[sd,se] at c1);exact A8 (Az BA 2 [] O (⟨O,O,(List.Sublist.refl _),(by refine pB (Bool.eq_iff_iff.2 ?_);simp only[beq_iff_eq,decide_eq_true_eq];omega),⟨O,O,O,O,Aw⟩⟩))
  rintro _ rfl;refine A3 O (fun c1=>?_) (fun c1=>?_)
  ·(try simp only[sd,se] at c1);have hk9:zk=9∨zk=10:=by simpa using c1
   refine A4 (A5 BA 3 [0] O ?_);obtain⟨x,hx⟩:=BE (l:=zs) (i:=0) Au;rw[bA (r:=(pr,n2)) (by rw[hzq];exact hk9) (by rw[hzq];exact hx)] at hC;refine Ay O (BC Bq O O Au (Bn hx) (BL _)) (Ay O (BQ Bd O (BL _)) (D8 [2] O O O (.inl ⟨O,O,O⟩) (ih k Au m x n2 hJ2 (by rw[hC];exact hns)) ⟨_,_,O,O,O⟩ As (aw (we O) (aw (we O) (FH))) (fun _ _ h=>(congrArg List.length h).trans O) ?_ ?_))
   rotate_left
   ·intro e _ he;exact⟨O,_,List.nil_sublist _,⟨_,by rw[←hC];exact he,rfl⟩⟩
   rintro⟨q,n21⟩ _ hz1 rfl;have hfin:=hz1;refine Az BA 4 [] O (A6 (⟨O,_,_,⟨_,_,O,O,⟨_,_,O,O,O⟩⟩,(CJ (is:=[2]) O),?_⟩));exact⟨⟨q,n21⟩,by rw[←hC];exact hfin,rfl,rfl⟩
  (try simp only[sd,se] at c1);refine A2 BA 2 [] O (A3 O (fun c2=>?_) (fun c2=>?_))
  ·(try simp only[sd,se] at c2);have hk:=(congrArg Tm.kind hzq).trans c2;refine A4 (A5 BA 2 [0] O (Ay O (CS [2] O (.inl ⟨O,O,O⟩) (O3 m ds n2 (.mk zk zi zn zl zs:Tm) hE.g.env) ⟨_,_,O,O,O⟩ As O (.inl O)) (A5 BA 3 [] O (BP O (BF IA O) fun b8=>Az BA 2 [0,1] O (A1 (A2 BA 2 [] O (A3 O (fun c3=>?_) (fun c3=>?_))))))))
   ·(try simp only[sd,se] at c3);rw[Zv (r:=(pr,n2)) hk (.inl (by rw[hzq];exact c3))] at hC;refine A2 BA 2 [] O (A6 (⟨O,_,_,⟨_,_,O,O,⟨_,_,O,O,O⟩⟩,(CJ (is:=[3]) O),?_⟩));exact⟨⟨_,_⟩,De hC.symm,O,O⟩
   (try simp only[sd,se] at c3);have hu:=c3;obtain⟨ix,dd,e1,e2,e3,e4⟩:=KW hu;have hde:=e2.decl;have hdg:=h2.g.all _ e3;have hel:=h2.g.env.len;have hil:=(List.getElem?_eq_some_iff.1 e1).1;have hfx:=hdg.fx;have hnr:=IX hdg;have hcl:=hdg.din.cl;have hfl:=hdg.din.fl;refine A7 (A1 (Ur [.val (.ptr m 0),.val (.ptr m 0),.val (.ptr m (0+0)),.val (.p (.lst (List.map Bw ds))),.val (.ptr b8 (0+1)),.val (.p (I (((B3 ds (.mk zk zi zn zl zs:Tm).name).1).decl))),.val (.ref (Bw dd)),.val (.agg ((Bw dd).map .p)),.new [.p (I 0),.p (.str ⟨#[]⟩),.p (I 0),.p (I 0),.p (I 0),.p (.str ⟨#[]⟩),.p (.nils),.p (.nils),.p (I 0),.p (I 0),.p (.str ⟨#[]⟩),.p (.nils),.p (.nils),.p (I 0),.p (.nils),.p (I 0),.p (I 0),.p (I 0),.p (.str ⟨#[]⟩),.p (.nils),.p (.nils),.p (.nils),.p (.nils)]] D7 O Ap Ap (D5 O (fun Bs=>BB O) (D5 O (fun Bs=>CW O) (D5 O (fun Bs=>Ax R6 O O) (D5 O (fun Bs=>BG (i:=Bs.length+3) Rg O (Cn O) O) (D5 O (fun Bs=>Ax FG O O) ?_)))))));refine D5 O (fun Bs=>A9 (i:=Bs.length+0) C0 O (Cn O) (Ds _)) (D5 O (fun Bs=>BC Hv O O Au (EX e4) (Cw _)) (D5 O (fun Bs=>BQ EJ O (Cw _)) (Xv O (fun Bs=>BF Je O) fun b10=>XO ?_)))
   change AL _ _ _ 9 ⟨116,_,[.box b10 [.p (I 0),.p (.str ⟨#[]⟩),.p (I 0),.p (I 0),.p (I 0),.p (.str ⟨#[]⟩),.p (.nils),.p (.nils),.p (I 0),.p (I 0),.p (.str ⟨#[]⟩),.p (.nils),.p (.nils),.p (I 0),.p (.nils),.p (I 0),.p (I 0),.p (I 0),.p (.str ⟨#[]⟩),.p (.nils),.p (.nils),.p (.nils),.p (.nils)],.box b8 ((Dp ((B3 ds (.mk zk zi zn zl zs:Tm).name).1)).map .p),.box b6 [.p (I zk),.p (I zi),.p (.str zn),.p (.lst (List.map CE zl)),.p (.lst (BO zs))],.box b3 ((Bg t).map .p),.box m [.p (.lst (List.map Bw ds)),.p (I n2)]],[]⟩ _
   refine Az BA 1 [0,1] O (A4 (Ay O (Ax FG O O) (Ay O (A9 (i:=1) C0 O O (Dq _)) (Bt O (BH (A2 BA 2 [] O (A3 O (fun c4=>?_) (fun c4=>?_))))))))
   ·(try simp only[sd,se] at c4);have hk5:=c4;refine A4 (Ay O (BI (i:=0) EJ O O Aj) (Ay O (BN O O (N5 dd hdg.din hdg.fx) O) (Az BA 1 [] O (A4 (B6 O (Ay O (BZ Bq O (Bh _)) (Az BA 2 [] O (A3 O (fun c5=>?_) (fun c5=>?_)))))))))
    ·(try simp only[sd,se] at c5);refine A4 (A5 BA 3 [] O ?_);obtain⟨x,hx⟩:=BE (l:=(BK pr).2) (i:=(Cj dd:Int).toNat) Au;rw[dq (r:=(pr,n2)) hk (by rw[hzq];exact hu) rfl (by rw[hzq];exact e4) (by rw[hzq];exact hk5) Au hx] at hC;refine Ay O (BC Bq O O Au (Bn hx) (BL _)) (Ay O (BQ Bd O (BL _)) (D8 [4] O O O (.inl ⟨O,O,O⟩) (ih k Au m x n2 hJ2 (by rw[hC];exact hns)) ⟨_,_,O,O,O⟩ As (aw (we O) (aw (we O) (FH))) (fun _ _ h=>(congrArg List.length h).trans O) ?_ ?_))
     rotate_left
     ·intro e _ he;exact⟨O,_,List.nil_sublist _,⟨_,by rw[←hC];exact he,rfl⟩⟩
     rintro⟨q,n21⟩ _ hz1 rfl;have hfin:=hz1;refine Az BA 4 [] O (A6 (⟨O,_,_,⟨_,_,O,O,⟨_,_,O,O,O⟩⟩,(CJ (is:=[4]) O),?_⟩));exact⟨⟨q,n21⟩,by rw[←hC];exact hfin,rfl,rfl⟩
    (try simp only[sd,se] at c5);rw[Z6 (r:=(pr,n2)) hk (by rw[hzq];exact hu) rfl (by rw[hzq];exact e4) (by rw[hzq];exact hk5) Au] at hC;refine A7 (A2 BA 2 [] O (A6 (⟨O,_,_,⟨_,_,O,O,⟨_,_,O,O,O⟩⟩,(CJ (is:=[4]) O),?_⟩)));exact⟨⟨_,_⟩,De hC.symm,O,O⟩
   (try simp only[sd,se] at c4);have hk5:=c4;refine A2 BA 2 [] O (A3 O (fun c5=>?_) (fun c5=>?_))
   ·(try simp only[sd,se] at c5);have hk6:=c5;obtain⟨fk,ff,f1,f2⟩:=e2.func hk6;have hff:dd.funs[(B3 ds (Tm.mk zk zi zn zl zs).name).1.item.toNat]?=some ff:=by rw[f2];simpa using f1
    have hfm:=List.mem_of_getElem? hff;have hfa:=hdg.fu ff hfm;have hfi:=(List.getElem?_eq_some_iff.1 f1).1;refine A4 (Ay O (Ax Cv O O) (Ay O (A9 (i:=0) Hn O O (CV _)) (Ay O (Ax FG O O) (Ay O (A9 (i:=1) C0 O O (F6 _)) (Ay O (BC HW O O Au (Es hff) (Dd _)) (Ay O (BQ aN O (Dd _)) (BP O (BF X2 O) fun b12=>Az BA 1 [0,1] O (A1 (A4 (B6 O (Ay O (BZ Bq O (Bh _)) (Ay O (Ax Gu O O) (Ay O (A9 (i:=0) C0 O O (Ch _)) (Az BA 1 [] O (A3 O (fun c6=>?_) (fun c6=>?_))))))))))))))))
    ·(try simp only[sd,se] at c6);rw[bE (r:=(pr,n2)) hk (by rw[hzq];exact hu) rfl (by rw[hzq];exact e4) (by rw[hzq];exact hk6) (by rw[hzq];exact hff) (by show ¬ff.arity≤((BK pr).2.length:Int);omega)] at hC;refine A2 BA 2 [] O (A6 (⟨O,_,_,⟨_,_,O,O,⟨_,_,O,O,O⟩⟩,(CJ (is:=[5]) O),?_⟩));exact⟨⟨_,_⟩,De hC.symm,O,O⟩
    (try simp only[sd,se] at c6);refine A7 (A1 ?_);rw[WD (r:=(pr,n2)) hk (by rw[hzq];exact hu) rfl (by rw[hzq];exact e4) (by rw[hzq];exact hk6) (by rw[hzq];exact hff) (by show ff.arity≤((BK pr).2.length:Int);omega)] at hC;have hn0b:=hns;rw[←hC] at hn0b;have hn2:=Jz hn0b;obtain⟨e,he⟩ | ⟨⟨q,n21⟩,hz1⟩:=GD ((EE ds CI (D6 ds CI k) k ff.tree (((BK pr).2).take ((ff.arity:Int).toNat)) Bu n2).ex)
    ·refine I7 ((fun _=> .p (.iface 122 .unit)) e) 7 [.val (.ptr m 0),.val (.ptr b12 (0+7)),.val (.agg ((DF ff.tree).map .p)),.val (.p (.lst (BO ((BK pr).2)))),.val (.ptr b12 (0+6)),.val (.p (I ff.arity)),.val (.p (.lst (BO (((BK pr).2).take ((ff.arity:Int).toNat))))),.val (.p .any),.val (.p .any),.val (.p .any),.val (.p .any),.val (.p .any),.val (.p .any),.new [.p (I 0),.p (I 0),.p (.str ⟨#[]⟩),.p (.nils),.p (.nils)],.new [.p (I 0),.p (I 0),.p (.str ⟨#[]⟩),.p (.nils),.p (.nils)],.val (.p .any),.val (.p .any),.val (.p .any),.val (.p .any)] D7 O Ap O Aw (fun _ _=>by exact⟨rfl,_,List.nil_sublist _,⟨_,by rw[←hC];exact Kx hn0b he,rfl⟩⟩) ?_;refine CL O O (fun Bs=>BB O) (CL O O (fun Bs=>Ax Gu O O) (CL O O (fun Bs=>CC (i:=Bs.length+0) HM O (Cn O) (EI _) (C7 _)) (CL O O (fun Bs=>BB O) (CL O O (fun Bs=>Ax Gu O O) (CL O O (fun Bs=>A9 (i:=Bs.length+0) C0 O (Cn O) (Ch _)) (CL O O (fun Bs=>Cp (lo:=0) (hi:=(ff.arity:Int).toNat) Bq O (CT (B9 _)) O ⟨_,pI Au⟩ (Nat.zero_le _) AR (Oo ((BK pr).2) ((ff.arity:Int).toNat))) (K0 (mkp:=(fun _=> .p (.iface 122 .unit))) (e:=e) [5] he O O (.inl ⟨O,O,O⟩) (QM k k m ds ff.tree (((BK pr).2).take ((ff.arity:Int).toNat)) n2 (Ob ds hE k) hE.g hJ2 (Pz hE e3 hfm hsp.args) hn2) ⟨_,_,O,O,O⟩ As (aw (we O) (aw (we O) (aw (we O) (FH)))) (DS O O Ap (DS O O Ap (DS O O Ap ?_))))))))));exact DS O O Ap (DS O O Ap (U3 O O (fun Bs=>BF B8 O) fun _=>U3 O O (fun Bs=>BF B8 O) fun _=>DS O O Ap (DS O O Ap (DS O O Ap (DS O O Ap Kq)))))
    rw[MR hz1] at hC;have hJ3:=Ss hJ2 (Ii hz1);refine IN [.box b12 ((Fa ff).map .p),.box b10 ((Bw dd).map .p),.box b8 ((Dp ((B3 ds (.mk zk zi zn zl zs:Tm).name).1)).map .p),.box b6 [.p (I zk),.p (I zi),.p (.str zn),.p (.lst (List.map CE zl)),.p (.lst (BO zs))],.box b3 ((Bg t).map .p),.box m [.p (.lst (List.map Bw ds)),.p (I n21)]] 7 [.val (.ptr m 0),.val (.ptr b12 (0+7)),.val (.agg ((DF ff.tree).map .p)),.val (.p (.lst (BO ((BK pr).2)))),.val (.ptr b12 (0+6)),.val (.p (I ff.arity)),.val (.p (.lst (BO (((BK pr).2).take ((ff.arity:Int).toNat))))),.val (.tup [.agg ((Bg (KR q)).map .p),.p (.lst (BO (Nl q))),.p (.bool q.1.isSome),.agg ((Bg q.2).map .p)]),.val (.tup [.agg ((Bg (KR q)).map .p),.p (.lst (BO (Nl q))),.p (.bool q.1.isSome),.agg ((Bg q.2).map .p)]),.val (.agg ((Bg (KR q)).map .p)),.val (.p (.lst (BO (Nl q)))),.val (.p (.bool q.1.isSome)),.val (.agg ((Bg q.2).map .p)),.new [.p (I 0),.p (I 0),.p (.str ⟨#[]⟩),.p (.nils),.p (.nils)],.new [.p (I 0),.p (I 0),.p (.str ⟨#[]⟩),.p (.nils),.p (.nils)]] [.p .any,.p (.lst (BO (Nl q))),.p (.bool q.1.isSome),.p .any] [10,11,12] D7 O Ap Ap Ap O ?_ ?_
    ·exact Aw
    refine Bz O O (fun Bs=>BB O) (Bz O O (fun Bs=>Ax Gu O O) (GH O O O (fun Bs=>CC (i:=Bs.length+0) HM O (Cn O) (EI _) (C7 _)) (fun Bs=>CC (i:=Bs.length+0) HM O (Cn O) (EI _) (C7 _)) (Bz O O (fun Bs=>BB O) (Bz O O (fun Bs=>Ax Gu O O) (GH O O O (fun Bs=>A9 (i:=Bs.length+0) C0 O (Cn O) (Ch _)) (fun Bs=>A9 (i:=Bs.length+0) C0 O (Cn O) (Ch _)) (Bz O O (fun Bs=>Cp (lo:=0) (hi:=(ff.arity:Int).toNat) Bq O (CT (B9 _)) O ⟨_,pI Au⟩ (Nat.zero_le _) AR (Oo ((BK pr).2) ((ff.arity:Int).toNat))) ?_))))));refine J5 O (fun Bs=>G2 [5] O (.inl ⟨O,O,O⟩) (K1 hz1 (QM k k m ds ff.tree (((BK pr).2).take ((ff.arity:Int).toNat)) n2 (Ob ds hE k) hE.g hJ2 (Pz hE e3 hfm hsp.args) hn2)) ⟨_,_,O,O,O⟩ As O (aw (we O) (aw (we O) (aw (we O) (FH))))) (Bz O O (fun Bs=>BB O) (Bz O O (fun Bs=>By O O) (Bz O O (fun Bs=>By O O) (Bz O O (fun Bs=>By O O) (Bz O O (fun Bs=>By O O) (Pd O O (fun Bs=>BF B8 O) fun b13=>Pd O O (fun Bs=>BF B8 O) fun b16=>J6 ?_))))));refine EA [.box b13 ((Bg (KR q)).map .p),.box b16 [.p (I 0),.p (I 0),.p (.str ⟨#[]⟩),.p (.nils),.p (.nils)],.box b12 ((Fa ff).map .p),.box b10 ((Bw dd).map .p),.box b8 ((Dp ((B3 ds (.mk zk zi zn zl zs:Tm).name).1)).map .p),.box b6 [.p (I zk),.p (I zi),.p (.str zn),.p (.lst (List.map CE zl)),.p (.lst (BO zs))],.box b3 ((Bg t).map .p),.box m [.p (.lst (List.map Bw ds)),.p (I n21)]] O (Bc (i:=0) Bd O O O Am Aa (C5 _)) ?_;refine EA [.box b13 ((Bg (KR q)).map .p),.box b16 [.p (I 0),.p (I 0),.p (.str ⟨#[]⟩),.p (.nils),.p (.nils)],.box b12 ((Fa ff).map .p),.box b10 ((Bw dd).map .p),.box b8 ((Dp ((B3 ds (.mk zk zi zn zl zs:Tm).name).1)).map .p),.box b6 [.p (I zk),.p (I zi),.p (.str zn),.p (.lst (List.map CE zl)),.p (.lst (BO zs))],.box b3 ((Bg t).map .p),.box m [.p (.lst (List.map Bw ds)),.p (I n21)]] O (Bb O) (EA [.box b13 ((Bg (KR q)).map .p),.box b16 [.p (I 0),.p (I 0),.p (.str ⟨#[]⟩),.p (.nils),.p (.nils)],.box b12 ((Fa ff).map .p),.box b10 ((Bw dd).map .p),.box b8 ((Dp ((B3 ds (.mk zk zi zn zl zs:Tm).name).1)).map .p),.box b6 [.p (I zk),.p (I zi),.p (.str zn),.p (.lst (List.map CE zl)),.p (.lst (BO zs))],.box b3 ((Bg t).map .p),.box m [.p (.lst (List.map Bw ds)),.p (I n21)]] O (Bb O) ?_)
    refine EA [.box b13 ((Bg (KR q)).map .p),.box b16 ((Bg q.2).map .p),.box b12 ((Fa ff).map .p),.box b10 ((Bw dd).map .p),.box b8 ((Dp ((B3 ds (.mk zk zi zn zl zs:Tm).name).1)).map .p),.box b6 [.p (I zk),.p (I zi),.p (.str zn),.p (.lst (List.map CE zl)),.p (.lst (BO zs))],.box b3 ((Bg t).map .p),.box m [.p (.lst (List.map Bw ds)),.p (I n21)]] O (Bc (i:=1) Bd O O O Am Aa (C5 _)) (KC (A1 (Bi [0,16] 110 (fun y=>y= .p (.bool ((!q.1.isSome)&&(!(Ng q.2 Bu))))) ?_ ?_)))
    ·refine A8 (A5 BA 3 [] O (Ba 105 O (fun g=>?_) (fun g=>?_)))
     ·(try simp only[sd,se] at g);exact A5 BA 2 [1] O (BM O (G6 O O (jG q.2 (.mk 0 0 ⟨#[]⟩ [] []:Tm) O O) (aw (we O) (aw (D9 O) (FH)))) (Az BA 2 [] O (⟨O,O,AM,(by first | rfl | (refine pB ?_;rw[g];rfl)),⟨O,O,Aw⟩⟩)))
     (try simp only[sd,se] at g);exact Az BA 5 [] O (⟨O,O,AM,(by first | rfl | (refine pB ?_;rw[g];rfl)),⟨O,O,Aw⟩⟩)
    rintro _ rfl;refine A3 O (fun c7=>?_) (fun c7=>?_)
    ·(try simp only[sd,se] at c7);rw[Yb (by simpa using c7.1) rfl (by simpa using c7.2)] at hC;refine A4 (A5 BA 2 [1] O (D8 [7] O O O (.inl ⟨O,O,O⟩) (ih k Au m q.2 n21 hJ3 (by rw[hC];exact hns)) ⟨_,_,O,O,O⟩ As (aw (we O) (aw (we O) (FH))) (fun _ _ h=>(congrArg List.length h).trans O) ?_ ?_))
     rotate_left
     ·intro e _ he;exact⟨O,_,List.nil_sublist _,⟨_,by rw[←hC];exact he,rfl⟩⟩
     rintro⟨q1,n22⟩ _ hz2 rfl;have hfin:=hz2;refine Az BA 4 [] O (A6 (⟨O,_,_,⟨_,_,O,O,⟨_,_,O,O,O⟩⟩,(CJ (is:=[7]) O),?_⟩));exact⟨⟨q1,n22⟩,by rw[←hC];exact hfin,rfl,rfl⟩
    (try simp only[sd,se] at c7);rw[bF (by by_cases hqs:q.1.isSome=true;exact .inl hqs;exact .inr (.inr (by simpa [hqs] using c7)))] at hC;refine A7 (A2 BA 2 [] O (A6 (⟨O,_,_,⟨_,_,O,O,⟨_,_,O,O,O⟩⟩,(CJ (is:=[7]) O),?_⟩)));exact⟨⟨_,_⟩,De hC.symm,O,O⟩
   (try simp only[sd,se] at c5);rw[RG (r:=(pr,n2)) hk (by rw[hzq];exact hu) rfl (by rw[hzq];exact hk5) (by rw[hzq];exact c5)] at hC;refine A7 (A2 BA 2 [] O (A6 (⟨O,_,_,⟨_,_,O,O,⟨_,_,O,O,O⟩⟩,(CJ (is:=[4]) O),?_⟩)));exact⟨⟨_,_⟩,De hC.symm,O,O⟩
  (try simp only[sd,se] at c2);rw[jH (r:=(pr,n2)) (by rw[hzq];assumption) (by rw[hzq];show ¬zk=9;omega) (by rw[hzq];show ¬zk=10;omega) (by rw[hzq];assumption)] at hC;refine A7 (A2 BA 2 [] O (A6 (⟨O,_,_,⟨_,_,O,O,⟨_,_,O,O,O⟩⟩,(CJ (is:=[2]) O),?_⟩)));exact⟨⟨_,_⟩,De hC.symm,O,O⟩
theorem bY:∀(ds:List Cc) (N m bt bo bk:Nat) (t:Tm) (s:Int),(Ha ds)→(HF s)→(Ib ds CI N s t≠ .stuck)→B4 Tryz.prog 52 [.ptr m 0,.ptr bt 0,.ptr bo 0,.ptr bk 0] [.box m [.p (.lst (List.map Bw ds)),.p (I s)],.box bt ((Bg t).map .p),.box bo [.p (I 0)],.box bk [.p (.bool false)]] (LK (fun(r:Option Int×Int)=> .tup []) (fun _=> .p (.iface 122 .unit)) (fun r H'=>H'=[.box m [.p (.lst (List.map Bw ds)),.p (I r.2)],.box bt ((Bg t).map .p),.box bo [.p (I (r.1.getD 0))],.box bk [.p (.bool r.1.isSome)]]) ((Ib ds CI N s t).ex)):=by
 intro ds N m bt bo bk t s h1 h2 h3;refine BD Tryz.func52 O py (n:=11) O O (A8 (A5 BA 2 [1] O (D8 [0] O O O (.inl ⟨O,O,O⟩) (Wx ds h1 N m t s h2 h3) ⟨_,_,O,O,O⟩ As (aw (we O) (aw (we O) (FH))) (fun _ _ h=>(congrArg List.length h).trans O) ?_ ?_)))
 rotate_left
 ·intro e _ he;exact⟨O,_,List.nil_sublist _,⟨_,he,O⟩⟩
 rintro⟨q,n2⟩ _ hz rfl;refine Az BA 5 [2,0,3,0] O ⟨O,_,_,O,(CJ (is:=[0,1,2,3]) O),?_⟩;exact⟨⟨q,n2⟩,hz,O,O⟩
theorem dG:∀(ds:List Cc) (N:Nat) (t:Tm),(Ha ds)→(Ib ds CI N 20000 t≠ .stuck)→Et Tryz.prog 18 [.p (.lst (List.map Bw ds)),.agg ((Bg t).map .p)] (.tup [.p (I ((bT (Ib ds CI N 20000 t)).1)),.p (.bool ((bT (Ib ds CI N 20000 t)).2.1)),.p (I ((bT (Ib ds CI N 20000 t)).2.2))]):=by
 intro ds N t h1 h2;refine BD Tryz.func18 O rR (n:=18) O O (A4 (BP O (Bf O) fun b3=>Az BA 3 [] O (A4 (BP O (BF hY O) fun b7=>BP O (BF sO O) fun b8=>Az BA 2 [1,0,0,0] O (A1 ?_)))));obtain⟨e,he⟩ | ⟨⟨q,n2⟩,ha⟩:=GD ((Ib ds CI N 20000 t).ex)
 ·refine A8 (A5 BA 2 [] O (UU [2,1,0] O O O (.inl ⟨O,O,O⟩) (SM _ _ he (fun r=>r.2) (fun r=>[.box b3 ((Bg t).map .p),.box b7 [.p (I (r.1.getD 0))],.box b8 [.p (.bool r.1.isSome)]]) 52 [.ptr b3 0,.ptr b7 0,.ptr b8 0] [.box b3 ((Bg t).map .p),.box b7 [.p (I 0)],.box b8 [.p (.bool false)]] ds (fun m=>bY ds N m b3 b7 b8 t 20000 h1 Nb h2)) ⟨_,_,O,O,⟨_,_,O,O,⟨_,_,O,O,O⟩⟩⟩ As (Dm _) (Az BA 1 [] O (A1 (A2 BA 2 [] O ?_)))));refine A3 O (fun c=>?_) (fun c=>by cases c);refine A2 BA 4 [] O (A6 (⟨O,_,_,⟨_,_,O,O,⟨_,_,O,O,⟨_,_,O,O,O⟩⟩⟩,(List.nil_sublist _),?_⟩))
  all_goals exact⟨by show (.tup [.p (I 0),.p (.bool false),.p (I 11)]:AV)=_;rw[lE he],rfl⟩
 refine A8 (A5 BA 2 [] O (Ay O (CS [2,1,0] O (.inl ⟨O,O,O⟩) (Uc _ _ ha (fun r=>r.2) (fun r=>[.box b3 ((Bg t).map .p),.box b7 [.p (I (r.1.getD 0))],.box b8 [.p (.bool r.1.isSome)]]) 52 [.ptr b3 0,.ptr b7 0,.ptr b8 0] [.box b3 ((Bg t).map .p),.box b7 [.p (I 0)],.box b8 [.p (.bool false)]] ds (fun m=>bY ds N m b3 b7 b8 t 20000 h1 Nb h2)) ⟨_,_,O,O,⟨_,_,O,O,⟨_,_,O,O,O⟩⟩⟩ As O (.inl O)) (Az BA 1 [] O (A1 (A2 BA 2 [] O ?_)))));refine A3 O (fun c=>by cases c) (fun c=>?_);refine A7 (A1 (B7 (fun k=>false) D7 (BT (j:=1) O O O (fun H i hi=>BG (i:=i) C0 O hi O) AB Aw (BT (j:=0) O O O (fun H i hi=>BG (i:=i) jv O hi O) AB Aw (A0 O (fun _=>Bb O) Aw (A0 O (fun _=>Bb O) Aw (A0 O (fun _=>Bb O) Aw (Bv O Ap (A6 (⟨O,_,_,⟨_,_,O,O,⟨_,_,O,O,⟨_,_,O,O,O⟩⟩⟩,(List.nil_sublist _),?_⟩))))))))))
 all_goals exact⟨by show (.tup [.p (I (q.getD 0)),.p (.bool q.isSome),.p (I 0)]:AV)=_;rw[lD ha],rfl⟩
end Go.Proofs.YtboammbpdaoojaaGreat
