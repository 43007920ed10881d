/- Part of the proofs: an abstract program logic, plain models and contracts of functions. -/
import Derived.Test.YtldfmjoncbjldaaGreatPi
import Derived.Test.YtldfmjoncbjldaaGreatPd
import Derived.Test.YtldfmjoncbjldaaGreatPb
import Derived.Test.YtldfmjoncbjldaaGreatPf
import Derived.Test.YtldfmjoncbjldaaGreatPe
set_option linter.unusedVariables false
set_option linter.unusedSimpArgs false
set_option maxRecDepth 100000
namespace Go.Proofs.YtldfmjoncbjldaaGreat
open Go.Abs Go.Eu
set_option maxHeartbeats 4000000 in
theorem X1:∀(n m:Nat) (ds:List B8) (s:Int) (g:Tm) (a:List Tm),(xF ds n)→(G2 ds)→(N1 s)→(okB g=true)→(a.length<549755813888)→(∀y∈a,okB y=true)→(Hz ds CE n g a s≠ .stuck)→BL Tryz.prog 115 [.ptr m 0,.agg ((BD g).map .p),.p (.lst (A6 a))] [.box m [.p (.lst (List.map B0 ds)),.p (I s)]] (Oa (fun(r:Option Tm×Int)=> .tup [TV (r.1.getD BN),.p (.bool r.1.isSome)]) (fun _=> .p (.iface 178 .unit)) (fun r H'=>H'=[.box m [.p (.lst (List.map B0 ds)),.p (I r.2)]]) ((Hz ds CE n g a s).ex)):=by
 intro n m ds s g a hT h2 h3 h4 h5 h6 hns;obtain⟨gk,gi,gn,gl,gs⟩:=g;have hgo:=Bu.1 h4;have hgl:=hgo.nd;simp only[Nd,DZ] at hgl;generalize hC:Hz ds CE n (.mk gk gi gn gl gs:Tm) a s=X at hns ⊢;refine DJ Tryz.func115 (CG [0] O O fun b4=>Bp [0] O (Az Ba O) fun b6=>A2 [3,1] O (Bi [2] O (.inl ⟨O,O,O⟩) (fy m ds s (.mk gk gi gn gl gs:Tm) h2.g.env) ⟨_,_,O,O,O⟩ As O (.inl O)) (Bp [3] O (Az GK O) fun b8=>?_));refine BC [4,0,1] rfl ?_ ?_<;>intro c
 ·rw[YL c] at hC;refine CK [3,1,0] O (A5 (BE (i:=1) O) (BP (A9 [0] O (Bg [1] [3] O O ⟨⟨_,_⟩,G1 hC.symm,O,O⟩))))
 have hu:=c;obtain⟨ix,dd,e1,e2,e3,e4⟩:=KF hu;have hde:=e2.decl;have hdg:=h2.g.all _ e3;have hel:=h2.g.env.len;have hil:=(List.getElem?_eq_some_iff.1 e1).1;have hfx:=hdg.fx;have hnr:=KI hdg;have hcl:=hdg.din.cl;have hfl:=hdg.din.fl;refine E2 [0] [8] O (Bb [5,3] O (CF (j:=0) O O O (fun H i hi=>Ax (i:=i) Dz O hi (EO _)) AB Aw (A3 O (fun _=>A0 QV O O Au (HI e4) (DF _)) Aw (A3 O (fun _=>Bk TF O (DF _)) Aw (Gf [] O O (Az Ih O) Ap fun b10=>⟨AB,Aw,?_⟩)))));refine Dj [1,0,1] O (A2 [1] O (Ax (i:=1) Dz O O (Fb _)) ?_);refine BC [2] rfl ?_ ?_<;>intro c1
 ·have hk1:=c1;rw[ek hu e4 hk1] at hC;refine DT [4,1,3] O (GR [4] O O O (.inl ⟨O,O,O⟩) (l5 m ds s ((BY ds (.mk gk gi gn gl gs:Tm).name).1) (.mk gk gi gn gl gs:Tm) a dd h3 e4 Au hdg h4 h5 (by rw[hC];exact hns)) ⟨_,_,O,O,O⟩ As (aw (we O) (aw (we O) (aw (we O) (aw (we O) (HW))))) (fun _ _ h=>(congrArg List.length h).trans O) ?_ ?_)
  rotate_left
  ·intro e _ he;exact⟨O,_,List.nil_sublist _,⟨_,by rw[←hC];exact he,rfl⟩⟩
  rintro⟨q,n2⟩ _ hz rfl;have hfin:=hz;refine BW (A9 [4,2,1] O (Bg [2] [4] O O ⟨⟨q,n2⟩,by rw[←hC];exact hfin,rfl,rfl⟩))
 have hk1:=c1;refine BC [2] rfl ?_ ?_<;>intro c2
 ·have hk5:=c2;refine CQ [1,0] O (Y9 dd hdg.din hdg.fx) (B9 [2] O O (A8 _) ?_);refine BC [2] rfl ?_ ?_<;>intro c3
  ·rw[jy hu e4 hk5 Au] at hC;refine CK [3,2,0] O (A5 (BE (i:=2) O) (BP (A9 [0] O (Bg [2] [4] O O ⟨⟨_,_⟩,G1 hC.symm,O,O⟩))))
  have hfew:¬(a.length:Int)≤Bv dd:=by omega
  obtain⟨x,hx⟩:=A1 (l:=a) (i:=(Bv dd:Int).toNat) Au;have hxo:=h6 _ (List.mem_of_getElem? hx);refine A2 [3] O (A0 BT O O Au (BO hx) (A7 _)) (A2 [1] O (Bi [4] O (.inl ⟨O,O,O⟩) (W0 m ds s x h2.g hxo) ⟨_,_,O,O,O⟩ As O (.inl O)) (Bp [5] O (Az Ih O) fun b12=>?_));refine BC [5,0,1] rfl ?_ ?_<;>intro c4
  ·have hcs:=Lc c4;rw[Z6 hu e4 hk5 hfew hx hcs] at hC;obtain⟨e,he⟩ | ⟨⟨q,n2⟩,hz⟩:=NC ((ES ds CE dd (.mk gk gi gn gl gs:Tm) a x s).ex)
   ·refine CK [0] O ?_;refine SD ((fun _=> .p (.iface 178 .unit)) e) 8 [.val (.ptr m 0),.val (.agg ((B0 dd).map .p)),.val (.agg [.p (I gk),.p (I gi),.p (.str gn),.p (.lst (List.map B4 gl)),.p (.lst (A6 gs))]),.val (.p (.lst (A6 a))),.val (.p (.lst (A6 a))),.val (.p (I (Bv dd))),.val (.ref (BD x)),.val (.agg ((BD x).map .p)),.val (.p .any),.val (.p .any),.val (.p .any),.val (.p .any),.val (.p .any)] Oq O Ap O Aw (fun _ _=>by exact⟨rfl,_,List.nil_sublist _,⟨_,by rw[←hC];exact he,rfl⟩⟩) ?_;refine DY O O (fun Bs=>Bj O) (DY O O (fun Bs=>Cy (i:=Bs.length+1) TF O (EB O) (by simp[DF])) (DY O O (fun Bs=>Cy (i:=Bs.length+4) CN O (EB O) O) (DY O O (fun Bs=>Bj O) (DY O O (fun Bs=>Bj O) (DY O O (fun Bs=>Bj O) (DY O O (fun Bs=>A0 BT O O Au (BO hx) (A7 _)) (DY O O (fun Bs=>Bk CN O (A7 _)) (Xg (mkp:=(fun _=> .p (.iface 178 .unit))) (e:=e) [5] he O O (.inl ⟨O,O,O⟩) (dW m ds s dd (.mk gk gi gn gl gs:Tm) a x h3 h2.g hdg h4 h5 hxo Au (by rw[hC];exact hns)) ⟨_,_,O,O,O⟩ As (aw (we O) (aw (we O) (aw (we O) (aw (we O) (aw (we O) (HW)))))) (Iz O O Ap (Iz O O Ap (Iz O O Ap ?_)))))))))));exact Iz O O Ap XE
   have hfin:=hz;refine CK [0] O (Pp [.box b12 ((B0 ((Bo ds x).1)).map .p),.box b10 ((B0 dd).map .p),.box b8 ((GJ ((BY ds (.mk gk gi gn gl gs:Tm).name).1)).map .p),.box b6 [.p (I 0),.p (I 0),.p (.str ⟨#[]⟩),.p (.nils),.p (.nils)],.box b4 [.p (I gk),.p (I gi),.p (.str gn),.p (.lst (List.map B4 gl)),.p (.lst (A6 gs))],.box m [.p (.lst (List.map B0 ds)),.p (I n2)]] 8 [.val (.ptr m 0),.val (.agg ((B0 dd).map .p)),.val (.agg [.p (I gk),.p (I gi),.p (.str gn),.p (.lst (List.map B4 gl)),.p (.lst (A6 gs))]),.val (.p (.lst (A6 a))),.val (.p (.lst (A6 a))),.val (.p (I (Bv dd))),.val (.ref (BD x)),.val (.agg ((BD x).map .p)),.val (.tup [.agg ((BD (q.getD BN)).map .p),.p (.bool q.isSome)]),.val (.agg ((BD (q.getD BN)).map .p)),.val (.p (.bool q.isSome))] [.p .any,.p (.bool q.isSome)] [] Oq O Ap Ap Ap O ?_);refine Ca O O (fun Bs=>Bj O) (MC O O O (fun Bs=>Cy (i:=Bs.length+1) TF O (EB O) (by simp[DF])) (fun _ Bs=>Cy (i:=Bs.length+1) TF O (EB O) (by simp[DF])) (MC O O O (fun Bs=>Cy (i:=Bs.length+4) CN O (EB O) O) (fun _ Bs=>Cy (i:=Bs.length+4) CN O (EB O) O) (Ca O O (fun Bs=>Bj O) (Ca O O (fun Bs=>Bj O) (Ca O O (fun Bs=>Bj O) (Ca O O (fun Bs=>A0 BT O O Au (BO hx) (A7 _)) (Ca O O (fun Bs=>Bk CN O (A7 _)) (Ts O O (fun Bs=>Mu [5] O (.inl ⟨O,O,O⟩) (Wl hz (dW m ds s dd (.mk gk gi gn gl gs:Tm) a x h3 h2.g hdg h4 h5 hxo Au (by rw[hC];exact hns))) ⟨_,_,O,O,O⟩ As O (aw (we O) (aw (we O) (aw (we O) (aw (we O) (aw (we O) (HW))))))) ?_))))))));refine Ca O O (fun Bs=>HN O O) (Ca O O (fun Bs=>HN O O) (KQ (Ht [.box b12 ((B0 ((Bo ds x).1)).map .p),.box b10 ((B0 dd).map .p),.box b8 ((GJ ((BY ds (.mk gk gi gn gl gs:Tm).name).1)).map .p),.box b6 ((BD (q.getD BN)).map .p),.box b4 [.p (I gk),.p (I gi),.p (.str gn),.p (.lst (List.map B4 gl)),.p (.lst (A6 gs))],.box m [.p (.lst (List.map B0 ds)),.p (I n2)]] O (DX (i:=3) CN O O O Am Ag (Gc _)) (Ht [.box b12 ((B0 ((Bo ds x).1)).map .p),.box b10 ((B0 dd).map .p),.box b8 ((GJ ((BY ds (.mk gk gi gn gl gs:Tm).name).1)).map .p),.box b6 ((BD (q.getD BN)).map .p),.box b4 [.p (I gk),.p (I gi),.p (.str gn),.p (.lst (List.map B4 gl)),.p (.lst (A6 gs))],.box m [.p (.lst (List.map B0 ds)),.p (I n2)]] O (H6 O) (Ob ?_)))));refine Cu (A9 [0] O (Bg [3] [5] O O ⟨⟨q,n2⟩,by rw[←hC];exact hfin,rfl,rfl⟩))
  have hcn:=Nu c4;refine A2 [3] O (A0 BT O O Au (BO hx) (A7 _)) ?_;rw[Ym hu e4 hk5 hfew hx hcn] at hC;have hn0:=hns;rw[←hC] at hn0;have hn1:=Rv hn0;refine DT [1] O (GR [5] O O O (.inl ⟨O,O,O⟩) (hT m x s h3 hn1) ⟨_,_,O,O,O⟩ As (aw (we O) (aw (we O) (HW))) (fun _ _ h=>(congrArg List.length h).trans O) ?_ ?_)
  rotate_left
  ·intro e _ he;exact⟨O,_,List.nil_sublist _,⟨_,by rw[←hC];exact XA hn0 he,rfl⟩⟩
  rintro⟨q,n2⟩ _ hz rfl;rw[W3 hz] at hC;refine BW (Bp [3] O (Az Ba O) fun b16=>?_);refine BC [4,0,1] rfl ?_ ?_<;>intro c5
  ·rw[ja c5] at hC;refine CK [3,4,0] O (A5 (BE (i:=4) O) (BP (A9 [0] O (Bg [4] [6] O O ⟨⟨_,_⟩,G1 hC.symm,O,O⟩))))
  rw[kh c5] at hC;refine DT [1] O (NP O O O (.inl ⟨O,O,O⟩) (M3 a h5) (.inl O) fun o cp=>BW (DT [4,1] O ?_));refine I2 (i:=0) O (by rw[A8];omega) fun b hb=>?_;subst hb;refine BW (A2 [0] O (CI BT O O Au Ah) ?_);refine A2 [0] O (C6 (i:=0) (j:=((Bv dd:Int).toNat)) CN O O O Ah O (Hj _) (A7 _) (Gc _) (MV a ((Bv dd:Int).toNat) (q.getD BN))) (DT [2,6] O (BJ (CV (t:=93) (x:= .vs (some b) (A6 ((a).set ((Bv dd:Int).toNat) (q.getD BN))).length cp) (CZ a (l':=(a).set ((Bv dd:Int).toNat) (q.getD BN)) Av)) (BJ (CV (t:=18) (x:= .vs (some b) (A6 ((a).set ((Bv dd:Int).toNat) (q.getD BN))).length cp) (CZ a (l':=(a).set ((Bv dd:Int).toNat) (q.getD BN)) Av)) (BJ (CV (t:=94) (x:= .vs (some b) (A6 ((a).set ((Bv dd:Int).toNat) (q.getD BN))).length cp) (CZ a (l':=(a).set ((Bv dd:Int).toNat) (q.getD BN)) Av)) ?_))));refine BJ (CV (t:=99) (x:= .vs (some b) (A6 ((a).set ((Bv dd:Int).toNat) (q.getD BN))).length cp) (CZ a (l':=(a).set ((Bv dd:Int).toNat) (q.getD BN)) Av)) (BJ (CM (i:=0) [93,18,94,99] O (DA ⟨O,O,O,O,Aw⟩)) (BW (CQ [0] O (Fj (.mk gk gi gn gl gs:Tm) ((a).set ((Bv dd:Int).toNat) (q.getD BN)) Ac) ?_)));refine A9 [2,4,1] O (Bg [4] [6] O O ⟨⟨_,_⟩,G1 hC.symm,O,O⟩)
 have hk5:=c2;refine BC [2] rfl ?_ ?_<;>intro c3
 ·have hk6:=c3;obtain⟨fk,ff,f1,f2⟩:=e2.func hk6;have hff:dd.funs[(BY ds (Tm.mk gk gi gn gl gs).name).1.item.toNat]?=some ff:=by rw[f2];simpa using f1
  have hfm:=List.mem_of_getElem? hff;have hfa:=hdg.fu ff hfm;have hfi:=(List.getElem?_eq_some_iff.1 f1).1;refine A2 [1] O (Ax (i:=0) F4 O O (CD _)) (A2 [1] O (Ax (i:=1) Dz O O (Gb _)) (A2 [0] O (A0 J4 O O Au (Fh hff) (Ee _)) (Bp [1] O (Az kK O) fun b19=>B9 [2,0,1] O O (A8 _) (A2 [1] O (Ax (i:=0) Dz O O (C9 _)) ?_))));refine BC [1] rfl ?_ ?_<;>intro c4
  ·rw[da hu e4 hk6 hff Au] at hC;refine DT [4,4,0] O (GR [5] O O O (.inl ⟨O,O,O⟩) (bj n m ds s (.mk gk gi gn gl gs:Tm) a dd ff hT h2 h3 e3 hfm Au h4 h5 h6 (by rw[hC];exact hns)) ⟨_,_,O,O,O⟩ As (aw (we O) (aw (we O) (aw (we O) (aw (we O) (HW))))) (fun _ _ h=>(congrArg List.length h).trans O) ?_ ?_)
   rotate_left
   ·intro e _ he;exact⟨O,_,List.nil_sublist _,⟨_,by rw[←hC];exact he,rfl⟩⟩
   rintro⟨q,n2⟩ _ hz rfl;have hfin:=hz;refine BW (A9 [4,3,1] O (Bg [3] [5] O O ⟨⟨q,n2⟩,by rw[←hC];exact hfin,rfl,rfl⟩))
  rw[kO hu e4 hk6 hff Au] at hC;refine CK [3,3,0] O (A5 (BE (i:=3) O) (BP (A9 [0] O (Bg [3] [5] O O ⟨⟨_,_⟩,G1 hC.symm,O,O⟩))))
 have hk6:=c3;rw[uY hu hk1 hk5 hk6] at hC;refine CK [3,2,0] O (A5 (BE (i:=2) O) (BP (A9 [0] O (Bg [2] [4] O O ⟨⟨_,_⟩,G1 hC.symm,O,O⟩))))
set_option maxHeartbeats 4000000 in
theorem nL:∀(ds:List B8) (hE:G2 ds) (n:Nat),xF ds n:=by
 intro ds hE n
 induction n using Nat.strongRecOn with
 | ind n ih =>
  intro m t s hJ hns;obtain⟨k,rfl⟩:=S9 rfl hns;generalize hC:Dg ds CE (k+1) s t=X at hns ⊢;have hwo:=fJ hC hns;have hsp:=Q7 hwo;have hsl:=hsp.len;have hss:=hsp.sz;have hsa:=hsp.asz;refine DJ Tryz.func67 (CG [0] O O fun b3=>Bp [0] O (Az Ba O) fun b4=>CQ [2,1] O (O4 t hsp.nd Ak) (Bp [3] O (Az Ba O) fun b6=>?_));generalize hz:(Ay t).1=z;obtain⟨zk,zi,zn,zl,zs⟩:=z;have hzo:okB (.mk zk zi zn zl zs)=true:=hz▸hsp.head;have hzq:=hz;have hzl:=KK hzo;have hzn:=(Bu.1 hzo).nd;refine BC [6,0,1,0] rfl ?_ ?_<;>intro c
  ·have hk:=(congrArg Tm.kind hzq).trans c;refine B9 [1] O O (A8 _) ?_;refine BC [1] rfl ?_ ?_<;>intro c1
   ·obtain⟨x,hx⟩:=A1 (l:=zs) (i:=1) Au;obtain⟨x1,hx1⟩:=A1 (l:=(Ay t).2) (i:=0) Au;have hxo:=Fg hzo (i:=1) hx;have hx1o:=hsp.args _ (List.mem_of_getElem? hx1);rw[W7 hwo hk Au (by rw[hzq];exact hx),wZ hx1] at hC;have hn3:=hns;rw[←hC] at hn3;obtain⟨e,he⟩ | ⟨⟨z1,n2⟩,hz⟩:=NC (K7 s (CA x [x1] 0))
    ·refine CK [0] O ?_;refine SD ((fun _=> .p (.iface 178 .unit)) e) 9 [.val (.ptr m 0),.val (.ptr b6 (0+4)),.val (.p (.lst (A6 zs))),.val (.ref (BD x)),.val (.agg ((BD x).map .p)),.val (.p (.lst (A6 ((Ay t).2)))),.val (.ref (BD x1)),.val (.agg ((BD x1).map .p)),.val (.p (.lst (A6 [x1]))),.val (.p .any),.val (.p (.lst (A6 ((Ay t).2)))),.val (.p (.lst (A6 (((Ay t).2).drop 1)))),.val (.p .any),.val (.p .any),.val (.p .any)] Oq O Ap O Aw (fun _ _=>by exact⟨rfl,_,List.nil_sublist _,⟨_,by rw[←hC];exact S4 hn3 he,rfl⟩⟩) ?_;refine DY O O (fun Bs=>Bj O) (DY O O (fun Bs=>BG TD O O) (DY O O (fun Bs=>Bt (i:=Bs.length+0) JX O (EB O) O) (DY O O (fun Bs=>A0 BT O O Au (BO hx) (A7 _)) (DY O O (fun Bs=>Bk CN O (A7 _)) (DY O O (fun Bs=>Bj O) (DY O O (fun Bs=>A0 BT O O Au (BO hx1) (A7 _)) (DY O O (fun Bs=>Bk CN O (A7 _)) (DY O O (fun Bs=>By (rows:=A6 [x1]) BT Ba O O O O (CX (Bd _)) (Gg _)) (Xg (mkp:=(fun _=> .p (.iface 178 .unit))) (e:=e) [3] he O O (.inl ⟨O,O,O⟩) (TG m ds s x [x1] hJ hxo (ok_one hx1o) SG) ⟨_,_,O,O,O⟩ As (aw (we O) (aw (we O) (aw (we O) (HW)))) (DY O O (fun Bs=>Bj O) ?_))))))))));exact DY O O (fun Bs=>Cn (lo:=1) BT O (CX (Bd _)) ⟨_,O⟩ O AZ (Nat.le_refl _) (ML ((Ay t).2) 1)) (Iz O O Ap (Iz O O Ap (Iz O O Ap XE)))
    rw[S8 hn3 hz] at hC;have hJ3:=(kr hJ hz).1;refine CK [0] O (Pp [.box b6 [.p (I zk),.p (I zi),.p (.str zn),.p (.lst (List.map B4 zl)),.p (.lst (A6 zs))],.box b4 [.p (I 0),.p (I 0),.p (.str ⟨#[]⟩),.p (.nils),.p (.nils)],.box b3 ((BD t).map .p),.box m [.p (.lst (List.map B0 ds)),.p (I n2)]] 9 [.val (.ptr m 0),.val (.ptr b6 (0+4)),.val (.p (.lst (A6 zs))),.val (.ref (BD x)),.val (.agg ((BD x).map .p)),.val (.p (.lst (A6 ((Ay t).2)))),.val (.ref (BD x1)),.val (.agg ((BD x1).map .p)),.val (.p (.lst (A6 [x1]))),.val (.agg ((BD z1).map .p)),.val (.p (.lst (A6 ((Ay t).2)))),.val (.p (.lst (A6 (((Ay t).2).drop 1)))),.val (.agg ((BD (apply z1 (((Ay t).2).drop 1))).map .p))] [.p .any,.p (.bool true)] [] Oq O Ap Ap Ap O (Ca O O (fun Bs=>Bj O) (Ca O O (fun Bs=>BG TD O O) ?_)));refine MC O O O (fun Bs=>Bt (i:=Bs.length+0) JX O (EB O) O) (fun _ Bs=>Bt (i:=Bs.length+0) JX O (EB O) O) (Ca O O (fun Bs=>A0 BT O O Au (BO hx) (A7 _)) (Ca O O (fun Bs=>Bk CN O (A7 _)) (Ca O O (fun Bs=>Bj O) (Ca O O (fun Bs=>A0 BT O O Au (BO hx1) (A7 _)) (Ca O O (fun Bs=>Bk CN O (A7 _)) (Ca O O (fun Bs=>By (rows:=A6 [x1]) BT Ba O O O O (CX (Bd _)) (Gg _)) (Ts O O (fun Bs=>Mu [3] O (.inl ⟨O,O,O⟩) (Wl hz (TG m ds s x [x1] hJ hxo (ok_one hx1o) SG)) ⟨_,_,O,O,O⟩ As O (aw (we O) (aw (we O) (aw (we O) (HW))))) (Ca O O (fun Bs=>Bj O) ?_))))))));refine Ca O O (fun Bs=>Cn (lo:=1) BT O (CX (Bd _)) ⟨_,O⟩ O AZ (Nat.le_refl _) (ML ((Ay t).2) 1)) (Ca O O (fun Bs=>BF O O (Fj z1 (((Ay t).2).drop 1) Ab) O) (KQ (Ht [.box b6 [.p (I zk),.p (I zi),.p (.str zn),.p (.lst (List.map B4 zl)),.p (.lst (A6 zs))],.box b4 ((BD (apply z1 (((Ay t).2).drop 1))).map .p),.box b3 ((BD t).map .p),.box m [.p (.lst (List.map B0 ds)),.p (I n2)]] O (DX (i:=1) CN O O O Am Ag (Gc _)) (Ht [.box b6 [.p (I zk),.p (I zi),.p (.str zn),.p (.lst (List.map B4 zl)),.p (.lst (A6 zs))],.box b4 ((BD (apply z1 (((Ay t).2).drop 1))).map .p),.box b3 ((BD t).map .p),.box m [.p (.lst (List.map B0 ds)),.p (I n2)]] O (H6 O) (Ob (Cu (A9 [0] O (Bg [1] [3] O O ⟨⟨_,_⟩,G1 hC.symm,O,O⟩))))))))
   rw[Sa hwo hk Au] at hC;refine CK [3,1,0] O (A5 (BE (i:=1) O) (BP (A9 [0] O (Bg [1] [3] O O ⟨⟨_,_⟩,G1 hC.symm,O,O⟩))))
  refine BC [2] rfl ?_ ?_<;>intro c1
  ·have hk:=(congrArg Tm.kind hzq).trans c1;obtain⟨x,hx⟩:=A1 (l:=zs) (i:=2) Au;obtain⟨x1,hx1⟩:=A1 (l:=zs) (i:=1) Au;have hxo:=Fg hzo (i:=2) hx;have hx1o:=Fg hzo (i:=1) hx1;rw[XV hwo hk (by rw[hzq];exact hx1) (by rw[hzq];exact hx)] at hC;have hn3:=hns;rw[←hC] at hn3;obtain⟨e,he⟩ | ⟨⟨z1,n2⟩,hz⟩:=NC (K7 s (CA x [x1] 0))
   ·refine CK [0] O ?_;refine SD ((fun _=> .p (.iface 178 .unit)) e) 10 [.val (.ptr m 0),.val (.ptr b6 (0+4)),.val (.p (.lst (A6 zs))),.val (.ref (BD x)),.val (.agg ((BD x).map .p)),.val (.ptr b6 (0+4)),.val (.p (.lst (A6 zs))),.val (.ref (BD x1)),.val (.agg ((BD x1).map .p)),.val (.p (.lst (A6 [x1]))),.val (.p .any),.val (.p (.lst (A6 ((Ay t).2)))),.val (.p .any),.val (.p .any),.val (.p .any)] Oq O Ap O Aw (fun _ _=>by exact⟨rfl,_,List.nil_sublist _,⟨_,by rw[←hC];exact S4 hn3 he,rfl⟩⟩) ?_;refine DY O O (fun Bs=>Bj O) (DY O O (fun Bs=>BG TD O O) (DY O O (fun Bs=>Bt (i:=Bs.length+0) JX O (EB O) O) (DY O O (fun Bs=>A0 BT O O Au (BO hx) (A7 _)) (DY O O (fun Bs=>Bk CN O (A7 _)) (DY O O (fun Bs=>BG TD O O) (DY O O (fun Bs=>Bt (i:=Bs.length+0) JX O (EB O) O) (DY O O (fun Bs=>A0 BT O O Au (BO hx1) (A7 _)) (DY O O (fun Bs=>Bk CN O (A7 _)) (DY O O (fun Bs=>By (rows:=A6 [x1]) BT Ba O O O O (CX (Bd _)) (Gg _)) (Xg (mkp:=(fun _=> .p (.iface 178 .unit))) (e:=e) [3] he O O (.inl ⟨O,O,O⟩) (TG m ds s x [x1] hJ hxo (ok_one hx1o) SG) ⟨_,_,O,O,O⟩ As (aw (we O) (aw (we O) (aw (we O) (HW)))) ?_))))))))));exact DY O O (fun Bs=>Bj O) (Iz O O Ap (Iz O O Ap (Iz O O Ap XE)))
   rw[S8 hn3 hz] at hC;have hJ3:=(kr hJ hz).1;refine CK [0] O (Pp [.box b6 [.p (I zk),.p (I zi),.p (.str zn),.p (.lst (List.map B4 zl)),.p (.lst (A6 zs))],.box b4 [.p (I 0),.p (I 0),.p (.str ⟨#[]⟩),.p (.nils),.p (.nils)],.box b3 ((BD t).map .p),.box m [.p (.lst (List.map B0 ds)),.p (I n2)]] 10 [.val (.ptr m 0),.val (.ptr b6 (0+4)),.val (.p (.lst (A6 zs))),.val (.ref (BD x)),.val (.agg ((BD x).map .p)),.val (.ptr b6 (0+4)),.val (.p (.lst (A6 zs))),.val (.ref (BD x1)),.val (.agg ((BD x1).map .p)),.val (.p (.lst (A6 [x1]))),.val (.agg ((BD z1).map .p)),.val (.p (.lst (A6 ((Ay t).2)))),.val (.agg ((BD (apply z1 ((Ay t).2))).map .p))] [.p .any,.p (.bool true)] [] Oq O Ap Ap Ap O (Ca O O (fun Bs=>Bj O) (Ca O O (fun Bs=>BG TD O O) ?_)));refine MC O O O (fun Bs=>Bt (i:=Bs.length+0) JX O (EB O) O) (fun _ Bs=>Bt (i:=Bs.length+0) JX O (EB O) O) (Ca O O (fun Bs=>A0 BT O O Au (BO hx) (A7 _)) (Ca O O (fun Bs=>Bk CN O (A7 _)) (Ca O O (fun Bs=>BG TD O O) (MC O O O (fun Bs=>Bt (i:=Bs.length+0) JX O (EB O) O) (fun _ Bs=>Bt (i:=Bs.length+0) JX O (EB O) O) (Ca O O (fun Bs=>A0 BT O O Au (BO hx1) (A7 _)) (Ca O O (fun Bs=>Bk CN O (A7 _)) (Ca O O (fun Bs=>By (rows:=A6 [x1]) BT Ba O O O O (CX (Bd _)) (Gg _)) ?_)))))));refine Ts O O (fun Bs=>Mu [3] O (.inl ⟨O,O,O⟩) (Wl hz (TG m ds s x [x1] hJ hxo (ok_one hx1o) SG)) ⟨_,_,O,O,O⟩ As O (aw (we O) (aw (we O) (aw (we O) (HW))))) (Ca O O (fun Bs=>Bj O) (Ca O O (fun Bs=>BF O O (Fj z1 ((Ay t).2) Ab) O) (KQ (Ht [.box b6 [.p (I zk),.p (I zi),.p (.str zn),.p (.lst (List.map B4 zl)),.p (.lst (A6 zs))],.box b4 ((BD (apply z1 ((Ay t).2))).map .p),.box b3 ((BD t).map .p),.box m [.p (.lst (List.map B0 ds)),.p (I n2)]] O (DX (i:=1) CN O O O Am Ag (Gc _)) (Ht [.box b6 [.p (I zk),.p (I zi),.p (.str zn),.p (.lst (List.map B4 zl)),.p (.lst (A6 zs))],.box b4 ((BD (apply z1 ((Ay t).2))).map .p),.box b3 ((BD t).map .p),.box m [.p (.lst (List.map B0 ds)),.p (I n2)]] O (H6 O) (Ob ?_))))));refine Cu (A9 [0] O (Bg [1] [3] O O ⟨⟨_,_⟩,G1 hC.symm,O,O⟩))
  refine CJ [2] 999999 [0,4,6,7,17] 51 (decide (zk=9∨zk=10)) O O ?_ ?_
  ·refine BC [0] rfl ?_ ?_<;>intro c2
   ·exact CT [0] O (hr:=(by refine pB (Bool.eq_iff_iff.2 ?_);simp only[beq_iff_eq,decide_eq_true_eq];omega))
   exact CT [2] O (hr:=(by refine pB (Bool.eq_iff_iff.2 ?_);simp only[beq_iff_eq,decide_eq_true_eq];omega))
  refine BC [0] rfl ?_ ?_<;>intro c2
  ·have hk9:zk=9∨zk=10:=by simpa using c2
   refine D6 [2,0] zs 0 O O O (IH _) (fun p hp=>?_);refine Bp [1] O (Az Ba O) fun b8=>?_;obtain⟨pk,pi,pn,pl,ps⟩:=p;have hpo:=Fg hzo (i:=0) hp;have hpl:=KK hpo;refine BC [4,0,1,0] rfl ?_ ?_<;>intro c3
   ·have hp8:=c3;obtain⟨cq,hcq⟩:=A1 (l:=ps) (i:=(1+zk - 9).toNat) (by have:=hpl.2.2.2 hp8;omega);have hcqo:=Fg hpo (i:=(1+zk - 9).toNat) hcq;rw[TT hwo (by rw[hzq];exact hk9) (by rw[hzq];exact hp) (p:= .mk pk pi pn pl ps) hp8 (by rw[hzq];exact hcq)] at hC;have hn3:=hns;rw[←hC] at hn3;refine DT [3,1,0] O (GR [4] O O O (.inl ⟨O,O,O⟩) (oF m ds s (.mk zk zi zn zl zs:Tm) (.mk pk pi pn pl ps:Tm) cq hJ hk9 hcq) ⟨_,_,O,O,O⟩ As (aw (we O) (aw (we O) (aw (we O) (HW)))) (fun _ _ h=>(congrArg List.length h).trans O) ?_ ?_)
    rotate_left
    ·intro e _ he;exact⟨O,_,List.nil_sublist _,⟨_,by rw[←hC];exact S4 hn3 he,rfl⟩⟩
    rintro⟨z1,n2⟩ _ hz rfl;rw[S8 hn3 hz] at hC;refine BW (CQ [1] O (Fj z1 ((Ay t).2) Ab) ?_);refine A9 [2,2,1] O (Bg [2] [4] O O ⟨⟨_,_⟩,G1 hC.symm,O,O⟩)
   have hp8:=c3;rw[UE hwo (by rw[hzq];exact hk9) (by rw[hzq];exact hp) (p:= .mk pk pi pn pl ps) hp8] at hC;have hn0:=hns;rw[←hC] at hn0;have hn1:=Rv hn0;refine DT [2,0] O (GR [4] O O O (.inl ⟨O,O,O⟩) (ih k Au m (.mk pk pi pn pl ps:Tm) s hJ hn1) ⟨_,_,O,O,O⟩ As (aw (we O) (aw (we O) (HW))) (fun _ _ h=>(congrArg List.length h).trans O) ?_ ?_)
   rotate_left
   ·intro e _ he;exact⟨O,_,List.nil_sublist _,⟨_,by rw[←hC];exact XA hn0 he,rfl⟩⟩
   rintro⟨q,n2⟩ _ hz rfl;rw[W3 hz] at hC;refine BW (Bp [3] O (Az Ba O) fun b9=>?_);refine BC [3,0,1] rfl ?_ ?_<;>intro c4
   ·rw[jr c4,hzq] at hC;refine A2 [3,2,0] O (By (rows:=A6 [(q.getD BN)]) BT Ba O O O O (CX (Bd _)) (Gg _)) (A2 [2] O (Ia O O (Fj (.mk zk 0 ⟨#[]⟩ [] [(q.getD BN)]:Tm) ((Ay t).2) Ab) (aw (FY O) (aw (we O) (HW)))) (A9 [2,3,1] O (Bg [3] [5] O O ⟨⟨_,_⟩,G1 hC.symm,O,O⟩)))
   rw[mi c4] at hC;refine CK [3,3,0] O (A5 (BE (i:=3) O) (BP (A9 [0] O (Bg [3] [5] O O ⟨⟨_,_⟩,G1 hC.symm,O,O⟩))))
  refine BC [2] rfl ?_ ?_<;>intro c3
  ·have hk:=(congrArg Tm.kind hzq).trans c3;rw[Nv hwo hk,hzq] at hC;refine DT [3,0] O (GR [3] O O O (.inl ⟨O,O,O⟩) (X1 k m ds s (.mk zk zi zn zl zs:Tm) ((Ay t).2) (ih k Au) hE hJ hzo Au hsp.args (by rw[hC];exact hns)) ⟨_,_,O,O,O⟩ As (aw (we O) (aw (we O) (aw (we O) (HW)))) (fun _ _ h=>(congrArg List.length h).trans O) ?_ ?_)
   rotate_left
   ·intro e _ he;exact⟨O,_,List.nil_sublist _,⟨_,by rw[←hC];exact he,rfl⟩⟩
   rintro⟨q,n2⟩ _ hz rfl;have hfin:=hz;refine BW (A9 [4,1,1] O (Bg [1] [3] O O ⟨⟨q,n2⟩,by rw[←hC];exact hfin,rfl,rfl⟩))
  rw[ay hwo (by rw[hzq];assumption) (by rw[hzq];assumption) (by rw[hzq];show ¬zk=9;omega) (by rw[hzq];show ¬zk=10;omega) (by rw[hzq];assumption)] at hC;refine CK [3,1,0] O (A5 (BE (i:=1) O) (BP (A9 [0] O (Bg [1] [3] O O ⟨⟨_,_⟩,G1 hC.symm,O,O⟩))))
end Go.Proofs.YtldfmjoncbjldaaGreat
namespace Go.Eu
open Go.Abs
def lY (q:Tm):Bool:= !(decide ((size q:Int) > 4096)||decide (FU q > 200))
def Pq:Out (Option Tm×Int)→Tm×Bool×Int
 | .ok (some q,_)=>if lY q=true then (q,true,0) else (BN,false,11)
 | .ok (none,_)=>(BN,false,0)
 | _=>(BN,false,11)
def tO (o:Out (Option Tm×Int)):Prop:=∀q c,o= .ok (some q,c)→okB q=true
section
variable {o:Out (Option Tm×Int)}{q:Option Tm}{c e:Int}
theorem Sc (h:tO o) (hx:o.ex= .ok (q,c)):okB (q.getD BN)=true:=by
 have h1:=ZY hx;cases q with
 | none=>decide
 | some x=>exact h x c h1
theorem Tv (h:o.ex= .error e):Pq o=(BN,false,11):=by cases o<;>first | rfl | cases h
theorem Pt (h:o.ex= .ok (q,c)) (hq:q.isSome=false):Pq o=(q.getD BN,q.isSome,0):=by
 rw[ZY h];cases q with
 | none=>rfl
 | some x=>cases hq
theorem M7 (h:o.ex= .ok (q,c)) (hq:q.isSome=true) (hf:(size (q.getD BN):Int) > 4096∨FU (q.getD BN) > 200):Pq o=(BN,false,11):=by
 rw[ZY h];cases q with
 | none=>cases hq
 | some x =>
  have:lY x=false:=by
   simp only[Option.getD_some] at hf;unfold lY;simp only[Bool.not_eq_false',Bool.or_eq_true,decide_eq_true_eq];exact hf
  simp only[Pq,this,Bool.false_eq_true,if_false]
theorem Tx (h:o.ex= .ok (q,c)) (hf:¬(q.isSome=true∧((size (q.getD BN):Int) > 4096∨FU (q.getD BN) > 200))):Pq o=(q.getD BN,q.isSome,0):=by
 rw[ZY h];cases q with
 | none=>rfl
 | some x =>
  have:lY x=true:=by
   unfold lY;simp only[Option.isSome_some,Option.getD_some,true_and,not_or] at hf;simp only[Bool.not_eq_true',Bool.or_eq_false_iff,decide_eq_false_iff_not];exact hf
  simp only[Pq,this,if_true,Option.getD_some,Option.isSome_some]
end
section
variable {o:Out (Option Int×Int)}{q:Option Int}{c e:Int}
end
section
variable {E:List B8}{σ:Type}{S:Sys σ}{W:σ→Tm→Out (Tm×σ)}
end
end Go.Eu
namespace Go.Proofs.YtldfmjoncbjldaaGreat
open Go.Abs Go.Eu
theorem fP:∀(ds:List B8) (N m bt bo bk:Nat) (t:Tm) (s:Int),(G2 ds)→(N1 s)→(Dg ds CE N s t≠ .stuck)→BL Tryz.prog 66 [.ptr m 0,.ptr bt 0,.ptr bo 0,.ptr bk 0] [.box m [.p (.lst (List.map B0 ds)),.p (I s)],.box bt ((BD t).map .p),.box bo [.p (I 0),.p (I 0),.p (.str ⟨#[]⟩),.p (.nils),.p (.nils)],.box bk [.p (.bool false)]] (Oa (fun(r:Option Tm×Int)=> .tup []) (fun _=> .p (.iface 178 .unit)) (fun r H'=>H'=[.box m [.p (.lst (List.map B0 ds)),.p (I r.2)],.box bt ((BD t).map .p),.box bo ((BD (r.1.getD BN)).map .p),.box bk [.p (.bool r.1.isSome)]]) ((Dg ds CE N s t).ex)):=by
 intro ds N m bt bo bk t s h1 h2 h3;refine DJ Tryz.func66 (DT [2,1] O (GR [0] O O O (.inl ⟨O,O,O⟩) (nL ds h1 N m t s h2 h3) ⟨_,_,O,O,O⟩ As (aw (we O) (aw (we O) (HW))) (fun _ _ h=>(congrArg List.length h).trans O) ?_ ?_))
 rotate_left
 ·intro e _ he;exact⟨O,_,List.nil_sublist _,⟨_,he,O⟩⟩
 rintro⟨q,n2⟩ _ hz rfl;refine BW (Ku [5,2,1,3,0] O ?_);refine⟨O,_,_,O,(G7 (is:=[0,1,2,3]) O),?_⟩;exact⟨⟨q,n2⟩,hz,O,O⟩
theorem qN:∀(ds:List B8) (N:Nat) (t:Tm),(G2 ds)→(Dg ds CE N 20000 t≠ .stuck)→(tO (Dg ds CE N 20000 t))→En Tryz.prog 37 [.p (.lst (List.map B0 ds)),.agg ((BD t).map .p)] (.tup [.agg ((BD ((Pq (Dg ds CE N 20000 t)).1)).map .p),.p (.bool ((Pq (Dg ds CE N 20000 t)).2.1)),.p (I ((Pq (Dg ds CE N 20000 t)).2.2))]):=by
 intro ds N t h1 h2 h3;refine DJ Tryz.func37 (CG [0] O O fun b3=>Bp [0] O (Az Ba O) fun b4=>Bp [2] O (Az Ba O) fun b7=>Bp [0] O (Az yc O) fun b8=>?_);obtain⟨e,he⟩ | ⟨⟨q,n2⟩,ha⟩:=NC ((Dg ds CE N 20000 t).ex)
 ·refine DT [3,0,0] O (rC [3,1,0] O O O (.inl ⟨O,O,O⟩) (mQ _ _ he (fun r=>r.2) (fun r=>[.box b3 ((BD t).map .p),.box b7 ((BD (r.1.getD BN)).map .p),.box b8 [.p (.bool r.1.isSome)]]) 66 [.ptr b3 0,.ptr b7 0,.ptr b8 0] [.box b3 ((BD t).map .p),.box b7 [.p (I 0),.p (I 0),.p (.str ⟨#[]⟩),.p (.nils),.p (.nils)],.box b8 [.p (.bool false)]] ds (fun m=>fP ds N m b3 b7 b8 t 20000 h1 bz h2)) ⟨_,_,O,O,⟨_,_,O,O,⟨_,_,O,O,O⟩⟩⟩ As (Ds _) ?_);refine BW (IC [16] O O (fun c=>by cases c) (fun c=>?_));refine IC [2] O O (fun c1=>?_) (fun c1=>by cases c1);refine CK [5,0,0] O (A5 (BE (i:=0) O) ?_);refine BP (A9 [0] rfl (Bg [0] [] rfl rfl ⟨by first | (rw[Tv he]<;>rfl) | (rw[Pt ha g]<;>rfl) | (rw[M7 ha g]<;>first | rfl | omega) | (rw[Tx ha]<;>first | rfl | (rintro⟨_,_ | _⟩<;>omega)),rfl⟩))
 refine A2 [3,0,0] O (Bi [3,1,0] O (.inl ⟨O,O,O⟩) (ot _ _ ha (fun r=>r.2) (fun r=>[.box b3 ((BD t).map .p),.box b7 ((BD (r.1.getD BN)).map .p),.box b8 [.p (.bool r.1.isSome)]]) 66 [.ptr b3 0,.ptr b7 0,.ptr b8 0] [.box b3 ((BD t).map .p),.box b7 [.p (I 0),.p (I 0),.p (.str ⟨#[]⟩),.p (.nils),.p (.nils)],.box b8 [.p (.bool false)]] ds (fun m=>fP ds N m b3 b7 b8 t 20000 h1 bz h2)) ⟨_,_,O,O,⟨_,_,O,O,⟨_,_,O,O,O⟩⟩⟩ As O (.inl O)) ?_;refine Bc [7,0] 18 rfl rfl ?_ ?_<;>intro g
 ·refine CQ [1,1] O (fB (q.getD BN) (Bu.1 (Sc h3 ha)).nd (by have:=Fs (Sc h3 ha);omega)) ?_;refine Bc [2] 22 rfl rfl ?_ ?_<;>intro g1
  ·refine IC [5] O O (fun c=>?_) (fun c=>by cases c);refine IC [3] O O (fun c1=>?_) (fun c1=>by cases c1);refine CK [5,2,0] O (A5 (BE (i:=2) O) ?_);refine BP (A9 [0] rfl (Bg [2] [] rfl rfl ⟨by first | (rw[Tv he]<;>rfl) | (rw[Pt ha g]<;>rfl) | (rw[M7 ha g]<;>first | rfl | omega) | (rw[Tx ha]<;>first | rfl | (rintro⟨_,_ | _⟩<;>omega)),rfl⟩))
  refine CQ [1,1] O (YT _ (q.getD BN) (Nat.le_refl _) (Bu.1 (Sc h3 ha)).nd) ?_;refine BC [3] rfl ?_ ?_<;>intro c
  ·refine IC [3] O O (fun c1=>?_) (fun c1=>by cases c1);refine CK [5,2,0] O (A5 (BE (i:=2) O) ?_);refine BP (A9 [0] rfl (Bg [2] [] rfl rfl ⟨by first | (rw[Tv he]<;>rfl) | (rw[Pt ha g]<;>rfl) | (rw[M7 ha g]<;>first | rfl | omega) | (rw[Tx ha]<;>first | rfl | (rintro⟨_,_ | _⟩<;>omega)),rfl⟩))
  refine IC [2] O O (fun c1=>by cases c1) (fun c1=>?_);refine E2 [0] [] O ?_;refine Dj [5,1,0,2,1] rfl (A9 [0] rfl (Bg [2] [] rfl rfl ⟨by first | (rw[Tv he]<;>rfl) | (rw[Pt ha g]<;>rfl) | (rw[M7 ha g]<;>first | rfl | omega) | (rw[Tx ha]<;>first | rfl | (rintro⟨_,_ | _⟩<;>omega)),rfl⟩))
 refine IC [9] O O (fun c=>by cases c) (fun c=>?_);refine IC [2] O O (fun c1=>by cases c1) (fun c1=>?_);refine E2 [0] [] O ?_;refine Dj [5,1,0,2,1] rfl (A9 [0] rfl (Bg [2] [] rfl rfl ⟨by first | (rw[Tv he]<;>rfl) | (rw[Pt ha g]<;>rfl) | (rw[M7 ha g]<;>first | rfl | omega) | (rw[Tx ha]<;>first | rfl | (rintro⟨_,_ | _⟩<;>omega)),rfl⟩))
theorem _root_.Go.AN {α:Prop}(h:α:=by simp only[A8,List.length_append,List.nil_append,List.length_nil];omega):α:=h
theorem jb:∀(n:Nat) (ps:List Int) (t x z:Tm),(ps.length≤n)→(okB t=true)→(∀p∈ps,0≤p)→(ps.length<1000000)→(Ig t ps x=some z)→En Tryz.prog 125 [.agg ((BD t).map .p),.p (.lst (List.map Fy ps)),.agg ((BD x).map .p)] (.agg ((BD z).map .p)):=by
 intro n
 induction n using Nat.strongRecOn with
 | ind n ih =>
  intro ps t x z h0 h1 h3 h4 h5;have hsp:=Q7 h1;have hsl:=hsp.len;have hss:=hsp.sz;refine DJ Tryz.func125 (CG [0] O O fun b3=>CG [0] O O fun b5=>Bp [0] O (Az Ba O) fun b6=>B9 [1] O O (List.length_map _) ?_);refine BC [1] rfl ?_ ?_<;>intro c
  ·refine A9 [2,1,0,1] O (Bg [0] [] O O ⟨by rw[ZW h5 Au];try rfl,rfl⟩)
  refine CQ [1,2] O (LG _ t (Nat.le_refl _) Ak) (Bp [3] O (Az Ba O) fun b7=>DT [3,0,1] O (BJ (DK (t:=9) (sz:=5) O) (BW (DT [2] O ?_))));refine ET O O (Bh (i:=0) (rows':=A6 ((Ay t).2)) BT BT Ba O O O O O O (Bd _) Aa (Hl [] ((Ay t).2))) fun o cp=>BW (CK [1] O ?_);refine JE (i:=0) O (by have hxl:=VQ h5 Au;simp only[A8,List.length_append,List.nil_append,List.length_nil];omega) fun b hb=>?_;subst hb;refine BP (E2 [0] [] O ?_);refine Bb [2] O ?_;obtain⟨x1,hx1⟩:=A1 (l:=ps) (i:=0) Au;have hx0:=h3 _ (List.mem_of_getElem? hx1);have hxl:=TY h5 hx1;refine A3 O (fun _=>A0 HE O O Au (LR hx1) (O)) Aw (Bb [3] O (A3 O (fun _=>A0 HE O O Au (LR hx1) (O)) Aw (A3 O (fun _=>Gs Dz O) Aw (A3 O (fun _=>CI BT O O Au AN) Aw ?_))));obtain⟨y,hy⟩:=A1 (l:=((Ay t).2)) (i:=(x1:Int).toNat) Ai;refine CF (j:=0) O O O (fun H i hi=>Dk (i:=i) CN O hi (BO hy)) AB Aw (A3 O (fun _=>Bj O) Aw (A3 O (fun _=>Cn (lo:=1) HE O (CX (Jp _)) ⟨_,O⟩ O AZ (Nat.le_refl _) (jl (f:=Fy) ps 1)) Aw (Bb [1,3] O ?_)));obtain⟨z1,e1,e2⟩:=Vo h5 hx1 hy;refine A3 rfl (fun _=>BF rfl rfl (ih (n - 1) Au (ps.drop 1) y x z1 Ad (hsp.args _ (List.mem_of_getElem? hy)) (fun p hp=>h3 p (List.mem_of_mem_drop hp)) Ad e1) rfl) trivial (A3 O (fun _=>CI BT O O Au AN) Aw (FB O O (C6 (i:=0) (j:=((x1:Int).toNat)) CN O O O AN O (Hj _) (A7 _) (Gc _) (MV ((Ay t).2) ((x1:Int).toNat) z1)) AB Aw (HM O Ap (Cu (DT [2,1] O ?_)))));refine BJ (CV (t:=9) (x:= .vs (some b) (A6 ((((Ay t).2)).set ((x1:Int).toNat) z1)).length cp) (CZ ((Ay t).2) (l':=(((Ay t).2)).set ((x1:Int).toNat) z1) Av)) (BJ (CV (t:=21) (x:= .vs (some b) (A6 ((((Ay t).2)).set ((x1:Int).toNat) z1)).length cp) (CZ ((Ay t).2) (l':=(((Ay t).2)).set ((x1:Int).toNat) z1) Av)) (BJ (CV (t:=22) (x:= .vs (some b) (A6 ((((Ay t).2)).set ((x1:Int).toNat) z1)).length cp) (CZ ((Ay t).2) (l':=(((Ay t).2)).set ((x1:Int).toNat) z1) Av)) (BJ (CV (t:=26) (x:= .vs (some b) (A6 ((((Ay t).2)).set ((x1:Int).toNat) z1)).length cp) (CZ ((Ay t).2) (l':=(((Ay t).2)).set ((x1:Int).toNat) z1) Av)) ?_)))
  refine BJ (CV (t:=38) (x:= .vs (some b) (A6 ((((Ay t).2)).set ((x1:Int).toNat) z1)).length cp) (CZ ((Ay t).2) (l':=(((Ay t).2)).set ((x1:Int).toNat) z1) Av)) (BJ (CM (i:=0) [9,21,22,26,38] O (DA ⟨O,O,O,O,O,Aw⟩)) (BW (CQ [0] O (Ef ((Ay t).1) ((((Ay t).2)).set ((x1:Int).toNat) z1) Ac) ?_)));refine A9 [1,1,1] O (Bg [1] [] O O ⟨by rw[e2];try rfl,rfl⟩)
theorem _root_.Go.AK {α:Prop}(h:α:=by simp only[List.length_map,List.length_nil,List.length_cons,List.length_append];omega):α:=h
theorem lO:∀(l:List Int) (n:Int),(l.length<549755813888)→En Tryz.prog 127 [.p (.lst (List.map Fy l)),.p (I n)] (.p (.lst (List.map Fy (l++[n])))):=by
 intro l n h1;refine DJ Tryz.func127 (DT [2] O (BJ (DK (t:=5) (sz:=1) O) (BW (DT [2] O ?_))));refine ET O O (Bh (i:=0) (rows':=List.map Fy l) HE HE jR O O O O O O (Jp _) AK (Fz (f:=Fy) [] l)) fun o cp=>BW (A2 [1] O (BH HE jR O O O O O) ?_);refine DT [0] O (ET O O (Bh (i:=0) (rows':=List.map Fy [n]) HE HE jR O O O O O O (Jp _) AK (Fz (f:=Fy) l [n])) fun o1 cp1=>BW (CK [1] O ?_));refine A5 (CM (i:=0) [4,11] O (DA ⟨O,O,Aw⟩)) (BP (A9 [0] O (Bg [] [] O O ⟨O,O⟩)))
def yF (ds:List B8) (n:Nat):Prop:=∀(b:Nat) (t:Tm) (c c2:Dm) (q:Option Tm),Dg ds DI n c t= .ok (q,c2)→BL Tryz.prog 40 [.p (.lst (List.map B0 ds)),.agg ((BD t).map .p),.ptr b 0] [.box b ((HQ c).map .p)] (Gh (.tup [TV (q.getD BN),.p (.bool q.isSome)]) [.box b ((HQ c2).map .p)])
theorem _root_.Go.AG {α:Prop}(h:α:=by simp only[A8,List.length_append,List.nil_append,List.length_nil,List.length_map];omega):α:=h
set_option maxHeartbeats 4000000 in
theorem ZG:∀(n:Nat) (ds:List B8) (g:Tm) (f:I9) (a:List Tm) (d:B8) (b:Nat) (c c2:Dm) (q:Option Tm),(yF ds n)→(G2 ds)→(d∈ds)→(f∈d.funs)→(f.arity≤a.length)→(okB g=true)→(a.length<549755813888)→(∀y∈a,okB y=true)→(Fq ds DI (Dg ds DI n) g f.arity a n f.tree (a.take f.arity.toNat) (P1 f.arity.toNat) c= .ok (q,c2))→BL Tryz.prog 78 [.p (.lst (List.map B0 ds)),.agg ((BD g).map .p),.agg ((Iy f).map .p),.p (.lst (A6 a)),.ptr b 0] [.box b ((HQ c).map .p)] (Gh (.tup [.agg ((BD (q.getD BN)).map .p),.p (.bool q.isSome)]) [.box b ((HQ c2).map .p)]):=by
 intro n ds g f a d b c c2 q hT h2 h4 h5 h6 h7 h8 h9 hX;obtain⟨gk,gi,gn,gl,gs⟩:=g;have hgo:=Bu.1 h7;have hgl:=hgo.nd;simp only[Nd,DZ] at hgl;have hfu:=(h2.g.all _ h4).fu _ h5;have hdp:=h2.fu _ h4 _ h5;have hlf:=fZ h2 h4 h5 h9;have htl:(a.take f.arity.toNat).length=f.arity.toNat:=by rw[List.length_take];omega
 have hpw:=aK a f.arity.toNat f.tree Au Au;refine DJ Tryz.func78 (CG [0] O O fun b6=>CG [0] O O fun b7=>Bp [0] O (Az Ba O) fun b10=>DT [2] O (BJ (DK (t:=12) (sz:=5) O) (BW (DT [1] O ?_))));refine BJ (DK (t:=13) (sz:=2) O) (BW (GG (α:=Nat×Option Nat×Nat×Option Nat×Nat) [1] [0,3,4,6,7,10] [0,1,2,3,4,5] (fun(i,o,cp,o1,cp1)=>[(12,.vs o (A6 (a.take i)).length cp),(13,.vs o1 (List.map Dd (P1 i)).length cp1),(14,.p (I (i:Int)))]) (fun(i,o,cp,o1,cp1)=>[(0,.vec o1 2 (List.map Dd (P1 i)) cp1),(1,.vec o 5 (A6 (a.take i)) cp)]) (fun(i,o,cp,o1,cp1)=>(a.take f.arity.toNat).length - i) (fun(i,o,cp,o1,cp1)=>i≤(a.take f.arity.toNat).length) ⟨0,none,0,none,0⟩ O O O AY ?_));rintro⟨i,o,cp,o1,cp1⟩ hC
 try simp only at hC
 have hi:=hC;refine A2 [2] O (Ax (i:=3) Dz O O (C9 _)) ?_;refine BC [1] rfl ?_ ?_<;>intro c1
 ·refine D6 [3] a i O O O (IH _) (fun x hx=>?_);obtain⟨xk,xi,xn,xl,xs⟩:=x;refine A2 [1] O (BH BT Ba O O O O O) (DT [0] O (ET O O (Bh (i:=1) (rows':=A6 [(.mk xk xi xn xl xs:Tm)]) BT BT Ba O O O O O O (Bd _) (by simp only[A8,List.length_take,List.length_cons,List.length_nil];omega) (Hl (a.take i) [(.mk xk xi xn xl xs:Tm)])) fun o2 cp2=>BW (A2 [3] O (BH Tp Zl O O O O O) ?_)));exact DT [0] O (ET O O (Bh (i:=0) (rows':=List.map Dd ([((i:Int),[])])) Tp Tp Zl O O O O O O (Vr _) AO (Fz (f:=Dd) (P1 i) ([((i:Int),[])]))) fun o3 cp3=>BW (FR [5] 0 ⟨i+1,o2,cp2,o3,cp3⟩ O Au (e1:=⟨we (H9 (a.take i++[(.mk xk xi xn xl xs:Tm)]) ((Iu hx).symm)),we (FQ (f:=Dd) (P1 i++([((i:Int),[])])) ((Pj i).symm)),we O,Aw⟩) (e2:=wl (Eo (f:=Dd) (P1 i++([((i:Int),[])])) ((Pj i).symm)) (wl (Gw (a.take i++[(.mk xk xi xn xl xs:Tm)]) ((Iu hx).symm)) (wl (oe O) (wl (oe O) (wl (oe O) (wl (oe O) (Ie)))))))))
 refine DH [0] O (A2 [1] O (Bq (i:=3) LI O O (HR _) (Dt _)) (Bp [0] O (Az Vm O) fun b15=>?_));refine GG (α:=Nat×FV×List Tm×List (Int×List Int)×Option Nat×Nat×Option Nat×Nat) [1,0,1] [0,3,4,6,7,10,15] [0,1,2,3,4,5,6] (fun(k2,w,us,pl,o2,cp2,o3,cp3)=>[(12,.vs o2 (A6 us).length cp2),(13,.vs o3 (List.map Dd pl).length cp3)]) (fun(k2,w,us,pl,o2,cp2,o3,cp3)=>[(0,.box b15 ((EC w).map .p)),(1,.vec o3 2 (List.map Dd pl) cp3),(2,.vec o2 5 (A6 us) cp2)]) (fun(k2,w,us,pl,o2,cp2,o3,cp3)=>k2) (fun(k2,w,us,pl,o2,cp2,o3,cp3)=>Fq ds DI (Dg ds DI n) (.mk gk gi gn gl gs:Tm) f.arity a k2 w us pl c= .ok (q,c2)∧XW w us∧ng a us pl w) ⟨n,f.tree,a.take f.arity.toNat,P1 f.arity.toNat,o,cp,o1,cp1⟩ O O O (⟨hX,hlf,hpw⟩) ?_ (e0:=⟨we (H9 (a.take i) (by rw[show i=f.arity.toNat from by omega])),we (FQ (f:=Dd) (P1 i) (by rw[show i=f.arity.toNat from by omega])),Aw⟩) (e1:=wl (oe O) (wl (Eo (f:=Dd) (P1 i) (by rw[show i=f.arity.toNat from by omega])) (wl (Gw (a.take i) (by rw[show i=f.arity.toNat from by omega])) (wl (oe O) (wl (oe O) (wl (oe O) (wl (oe O) (Ie))))))));rintro⟨k2,w,us,pl,o2,cp2,o3,cp3⟩ hC1
 try simp only at hC1
 obtain⟨hC1,hL,hW⟩:=hC1;obtain⟨k1,rfl⟩:=ZP hC1 Av;refine A2 [1] O (Ax (i:=0) Dz O O (HT _)) ?_;refine BC [1] rfl ?_ ?_<;>intro c3
 ·have hk1:=c3;refine CJ [0] 9 [0,3,4,6,7,10,12,13,15] 61 ((decide ((w.var:Int)<(0:Int)))||(decide ((w.var:Int)≥((us.length:Nat):Int)))) O O ?_ ?_
  ·refine A2 [1] O (Ax (i:=0) Dz O O (DD _)) ?_;refine Bc [2] 55 rfl rfl ?_ ?_<;>intro g1
   ·exact CT [6] O
   exact A2 [1] O (Ax (i:=0) Dz O O (DD _)) (A2 [1] O (JP BT O (A8 _)) (CT [2] O))
  refine BC [0] rfl ?_ ?_<;>intro c4
  ·have hq:=(ei hk1 (by simpa using c4)).symm.trans hC1;cases hq;refine CK [3,3,0] O (A5 (BE (i:=3) O) (BP (A9 [0] O (Bg [3] [6] O O ⟨O,O⟩))))
  have hcb:¬(w.var<0∨w.var≥(us.length:Int)):=by simpa using c4
  have hWl:=hW.len;have hLl:=hL.len;refine A2 [2] O (Ax (i:=0) Dz O O (DD _)) (DT [0] O (I2 (i:=1) O AG fun b1 hb=>?_));subst hb;refine BW (A2 [0] O (CI Tp O O Au AG) ?_);obtain⟨y,hy⟩:=A1 (l:=pl) (i:=(w.var:Int).toNat) Ai;refine A2 [0] O (Dk (i:=1) vD O O (PY hy)) (Bp [0] O (Az Zl O) fun b16=>A2 [4,0,1] O (Ax (i:=1) Dz O O (DD _)) (DT [0] O (I2 (i:=3) O AG fun b2 hb1=>?_)));subst hb1;refine BW (A2 [0] O (CI BT O O Au AG) ?_);obtain⟨y1,hy1⟩:=A1 (l:=us) (i:=(w.var:Int).toNat) Ai;refine A2 [0] O (Dk (i:=3) CN O O (BO hy1)) (CQ [0] O (Ox ds y1 h2.g (hL.ok _ (List.mem_of_getElem? hy1))) (Bp [5] O (Az Ih O) fun b17=>?_));refine BC [6,0,1] rfl ?_ ?_<;>intro c5
  ·have hcn:=Nu c5;obtain⟨ha1,ha2,ha3,ha4⟩:=hW.at_ hy1 hy;obtain⟨ya,hya⟩:=A1 ha4;refine A2 [3] O (Ax (i:=2) Dz O O (DD _)) (A2 [0] O (CI BT O O Au AG) ?_);obtain⟨y2,hy2⟩:=A1 (l:=us) (i:=(w.var:Int).toNat) Ai;refine A2 [0] O (Dk (i:=4) CN O O (BO hy2)) ?_;have hyy:y2=y1:=Option.some.inj (hy2.symm.trans hy1);obtain⟨⟨sq,d2⟩,hs1,hs2⟩:=D8 ((Ze hk1 hcb hy2 hy (by rw[hyy];exact hcn)).symm.trans hC1);refine A2 [1] O (Bi [8] O (.inl ⟨O,O,O⟩) (hT b y2 c d2 sq hs1) ⟨_,_,O,O,O⟩ As O (.inl O)) (Bp [3] O (Az Ba O) fun b21=>?_);refine BC [4,0,1] rfl ?_ ?_<;>intro c6
   ·rw[VG c6] at hs2;cases hs2;refine CK [3,6,0] O (A5 (BE (i:=6) O) (BP (A9 [0] O (Bg [6] [9] O O ⟨O,O⟩))))
   obtain⟨z1,hz1,hz2⟩:=WL (by rw[hs2];simp) c6 hya;rw[hz2] at hs2;cases hs2;refine DT [1] O (BJ (DK (t:=23) (sz:=5) O) (BW (DT [2] O ?_)));refine ET O O (Bh (i:=0) (rows':=A6 a) BT BT Ba O O O O O O (Bd _) Aa (Hl [] a)) fun o4 cp4=>BW (CK [1] O ?_);refine JE (i:=0) O AG fun b3 hb2=>?_;subst hb2;refine BP (E2 [0] [] O ?_);refine Bb [6,3,3] O (A3 O (fun _=>CI BT O O Au AG) Aw ?_);obtain⟨y3,hy3⟩:=A1 (l:=a) (i:=(y.1:Int).toNat) Ai;refine CF (j:=0) O O O (fun H i hi=>Dk (i:=i) CN O hi (BO hy3)) AB Aw (Bb [3,3,1] O ?_);have hyy:=Option.some.inj (hy3.symm.trans hya);refine A3 O (fun _=>BF O O (jb y.2.length y.2 y3 (sq.getD BN) z1 (Nat.le_refl _) (h9 _ (List.mem_of_getElem? hy3)) ha2 Au (by rw[hyy];exact hz1)) O) Aw (A3 O (fun _=>CI BT O O Au AG) Aw (FB O O (C6 (i:=0) (j:=((y.1:Int).toNat)) CN O O O AN O (Hj _) (A7 _) (Gc _) (MV a ((y.1:Int).toNat) z1)) AB Aw (HM O Ap (Cu (DT [2,9] O ?_)))));refine BJ (CV (t:=23) (x:= .vs (some b3) (A6 ((a).set ((y.1:Int).toNat) z1)).length cp4) (CZ a (l':=(a).set ((y.1:Int).toNat) z1) Av)) (BJ (CV (t:=98) (x:= .vs (some b3) (A6 ((a).set ((y.1:Int).toNat) z1)).length cp4) (CZ a (l':=(a).set ((y.1:Int).toNat) z1) Av)) (BJ (CV (t:=99) (x:= .vs (some b3) (A6 ((a).set ((y.1:Int).toNat) z1)).length cp4) (CZ a (l':=(a).set ((y.1:Int).toNat) z1) Av)) (BJ (CV (t:=102) (x:= .vs (some b3) (A6 ((a).set ((y.1:Int).toNat) z1)).length cp4) (CZ a (l':=(a).set ((y.1:Int).toNat) z1) Av)) (BJ (CV (t:=113) (x:= .vs (some b3) (A6 ((a).set ((y.1:Int).toNat) z1)).length cp4) (CZ a (l':=(a).set ((y.1:Int).toNat) z1) Av)) (BJ (CM (i:=0) [23,98,99,102,113] O (DA ⟨O,O,O,O,O,Aw⟩)) ?_)))));refine BW (CQ [0] O (Ef (.mk gk gi gn gl gs:Tm) ((a).set ((y.1:Int).toNat) z1) Ac) ?_);refine A9 [2,6,1] O (Bg [6] [9] O O ⟨O,O⟩)
  obtain⟨ha1,ha2,ha3,ha4⟩:=hW.at_ hy1 hy;have hcs:=Lc c5;have hcf:=Fv hcs;have hlo:=hcf.lo;have hhi:=hcf.hi;have hfl:=JN h2.g hcs;have hdf:=(h2.g.all _ hcf.mem).fx;refine E2 [0] [11] O (Bb [2,2] O (CF (j:=0) O O O (fun H i hi=>Ax (i:=i) GB O hi (B5 _)) AB Aw (A3 O (fun _=>Bj O) Aw ?_)));obtain⟨x,hx⟩:=A1 (l:=((Bo ds y1).1).ctors) (i:=((Bo ds y1).2.1:Int).toNat) Au;refine A3 O (fun _=>A0 Kb O O Au (Gq hx) (Ei _)) Aw (A3 O (fun _=>DM US O O) Aw (A3 O (fun _=>DR OB O (GZ _)) Aw (A3 O (fun _=>BF O O (WM w x.name hL.tin.bl) O) Aw (Bb [3] O (Gf [] O O (Az Vm O) Ap fun b24=>⟨AB,Aw,?_⟩)))));refine Dj [2,0,1] rfl (BC [2] rfl ?_ ?_)<;>intro c6
  ·have hq:=(jt hk1 hcb hy1 hy hcs (by rw[EJ,CO hx];exact Z2 c6)).symm.trans hC1;cases hq;refine CK [3,6,0] O (A5 (BE (i:=6) O) (BP (A9 [0] O (Bg [6] [9] O O ⟨O,O⟩))))
  have hbs:=Yq c6;rw[nN hk1 hcb hy1 hy hcs (by rw[EJ,CO hx];exact hbs)] at hC1;refine GG (α:=Nat×Option Nat×Nat×Option Nat×Nat) [3,0,3,1] [0,3,4,6,7,10,15,16,17,19] [1,2,3,4,5,6,7,8,9] (fun(i,o4,cp4,o5,cp5)=>[(12,.vs o4 (A6 (us++(Bo ds y1).2.2.1.take i)).length cp4),(13,.vs o5 (List.map Dd (pl++De y (Bo ds y1).1.fixed i)).length cp5),(25,.p (I (i:Int)))]) (fun(i,o4,cp4,o5,cp5)=>[(3,.vec o5 2 (List.map Dd (pl++De y (Bo ds y1).1.fixed i)) cp5),(4,.vec o4 5 (A6 (us++(Bo ds y1).2.2.1.take i)) cp4)]) (fun(i,o4,cp4,o5,cp5)=>(Bo ds y1).2.2.1.length - i) (fun(i,o4,cp4,o5,cp5)=>i≤(Bo ds y1).2.2.1.length) ⟨0,(some b2),cp2,(some b1),cp3⟩ O O O AY ?_ (e0:=⟨we (H9 us Av),we (FQ (f:=Dd) pl (by simp[Jo])),we O,Aw⟩) (e1:=wl (oe O) (wl (oe O) (wl (oe O) (wl (Eo (f:=Dd) pl (by simp[Jo])) (wl (Gw us Av) (wl (oe O) (wl (oe O) (wl (oe O) (wl (oe O) (Ie))))))))));rintro⟨i,o4,cp4,o5,cp5⟩ hC2
  try simp only at hC2
  have hi:=hC2;refine B9 [2] O O (A8 _) ?_;refine BC [1] rfl ?_ ?_<;>intro c7
  ·refine E2 [0] [6,19] O (Bb [3] O ?_);obtain⟨x1,hx1⟩:=A1 (l:=(Bo ds y1).2.2.1) (i:=i) Au;refine A3 O (fun _=>A0 BT O O Au (BO hx1) (A7 _)) Aw (Bb [1] O ?_);obtain⟨x1k,x1i,x1n,x1l,x1s⟩:=x1;refine A3 O (fun _=>BH BT Ba O O O O O) Aw ?_;refine JT [(7,.free (.vs o5 (List.map Dd (pl++De y (Bo ds y1).1.fixed i)).length cp5)),(8,.free (.ptr b16 0)),(9,.read [.box b16 [.p (I y.1),.p (.lst (List.map Fy y.2))]] (.p (I y.1))),(10,.free (.ptr b16 1)),(11,.read [.box b16 [.p (I y.1),.p (.lst (List.map Fy y.2))]] (.p (.lst (List.map Fy y.2)))),(12,.free (.ptr b17 13)),(13,.read [.box b17 ((B0 ((Bo ds y1).1)).map .p)] (.p (I (((Bo ds y1).1).fixed)))),(14,.free (.p (I (i:Int)))),(15,.free (.p (I ((((Bo ds y1).1).fixed:Int)+((i:Int):Int)))))] O O (Bh (i:=4) (rows':=A6 [(.mk x1k x1i x1n x1l x1s:Tm)]) BT BT Ba O O O O O O (Bd _) (by have:=hL.len;have:=hW.len;simp only[A8,Nn,Ik,List.length_take,List.length_map,List.length_cons,List.length_nil,List.length_append];omega) (Hl (us++(Bo ds y1).2.2.1.take i) [(.mk x1k x1i x1n x1l x1s:Tm)])) Ap fun o6 cp6=>⟨AB,Aw,?_⟩;refine Bb [6,1,1] O (CF (j:=0) O O O (fun H i hi=>Ax (i:=i) Dz O hi (Cr _)) AB AS (Bb [2] O (A3 O (fun _=>BF O O (lO y.2 ((((Bo ds y1).1).fixed:Int)+((i:Int):Int)) Au) O) AS (Bb [1] O (A3 O (fun _=>BH Tp Zl O O O O O) AS (JT [] O O (Bh (i:=3) (rows':=List.map Dd ([(y.1,(y.2++[((((Bo ds y1).1).fixed:Int)+((i:Int):Int))]))])) Tp Tp Zl O O O O O O (Vr _) (by have:=hL.len;have:=hW.len;simp only[A8,Nn,Ik,List.length_take,List.length_map,List.length_cons,List.length_nil,List.length_append];omega) (Fz (f:=Dd) (pl++De y (Bo ds y1).1.fixed i) ([(y.1,(y.2++[((((Bo ds y1).1).fixed:Int)+((i:Int):Int))]))]))) Ap fun o7 cp7=>⟨AB,AS,?_⟩))))))
   exact CY tab 2 [] O (Cu (FR [3] 0 ⟨i+1,o6,cp6,o7,cp7⟩ O Au (e1:=⟨we (H9 (us++(Bo ds y1).2.2.1.take i++[(.mk x1k x1i x1n x1l x1s:Tm)]) (by rw[Iu hx1,List.append_assoc])),we (FQ (f:=Dd) (pl++De y (Bo ds y1).1.fixed i++([(y.1,(y.2++[((((Bo ds y1).1).fixed:Int)+((i:Int):Int))]))])) (by rw[Jl,List.append_assoc])),we O,Aw⟩) (e2:=wl (oe O) (wl (oe O) (wl (oe O) (wl (Eo (f:=Dd) (pl++De y (Bo ds y1).1.fixed i++([(y.1,(y.2++[((((Bo ds y1).1).fixed:Int)+((i:Int):Int))]))])) (by rw[Jl,List.append_assoc])) (wl (Gw (us++(Bo ds y1).2.2.1.take i++[(.mk x1k x1i x1n x1l x1s:Tm)]) (by rw[Iu hx1,List.append_assoc])) (wl (oe O) (wl (oe O) (wl (oe O) (wl (oe O) (Ie))))))))))))
  refine DH [0] O ?_;exact FR [0] 2 ⟨k1,(aP x.name w.branches).1,us++(Bo ds y1).2.2.1,pl++De y (Bo ds y1).1.fixed (Bo ds y1).2.2.1.length,o4,cp4,o5,cp5⟩ O (⟨hC1,hL.next h2.g (hL.ok _ (List.mem_of_getElem? hy1)) hcs hbs,hW.next h2.g hy1 hy hcs hbs hL.tok⟩) (e1:=⟨we (H9 (us++(Bo ds y1).2.2.1.take i) (by rw[O5 Au])),we (FQ (f:=Dd) (pl++De y (Bo ds y1).1.fixed i) (by rw[show i=(Bo ds y1).2.2.1.length from by omega])),Aw⟩) (e2:=wl (oe O) (wl (Eo (f:=Dd) (pl++De y (Bo ds y1).1.fixed i) (by rw[show i=(Bo ds y1).2.2.1.length from by omega])) (wl (Gw (us++(Bo ds y1).2.2.1.take i) (by rw[O5 Au])) (wl (oe O) (wl (oe O) (wl (oe O) (wl (oe O) (Ie))))))))
 have hk1:=c3;have hLl:=hL.len;rw[aJ hk1] at hC1;refine DH [0] O (A2 [1] O (Bq (i:=0) CN O O (Fo _) (A7 _)) (CQ [2,5] O (Lw w.body gl (Bu.1 (L7 hL.tok)).nd hgl.2.1 hgl.2.2.1) (Bp [3] O (Az Ba O) fun b26=>?_)));refine BC [4,0,1] rfl ?_ ?_<;>intro c4
 ·have hq:=(J0 (h:=(.mk gk gi gn gl gs:Tm)) c4).symm.trans hC1;cases hq;refine CK [3,4,0] O (A5 (BE (i:=4) O) (BP (A9 [0] O (Bg [4] [7] O O ⟨O,O⟩))))
 obtain⟨hb1,hb2,hb3,hb4⟩:=Xc (by rw[hC1];simp) c4;rw[hb4] at hC1;obtain⟨hpo,hpe⟩:=IL (h:=(by rw[hC1];simp));rw[hpe] at hC1;cases hC1;refine CK [0] O (A5 (CM (i:=3) [12] O (DA ⟨O,Aw⟩)) (BP (E2 [0] [7] O ?_)));refine Bb [2,0] O (A3 O (fun _=>BF O O (Py us Ak) O) Aw (A3 O (fun _=>BF O O (LU ((BU w.body gl).1) us.reverse (by have:=Fs (t:=(BU w.body gl).1) hb1;omega) (Bu.1 hb1).nd (FG (bB hb2)).1 (by rw[QW];omega)) O) Aw (Bb [3] O (Gf [] O O (Az Ba O) Ap fun b28=>⟨AB,Aw,?_⟩))));refine Dj [2,0,1] O (E2 [0] [] O ?_);refine Bb [3,0] O (FB O O (Bi [7] O (.inl ⟨O,O,O⟩) (Fu b c ((CA ((BU w.body gl).1) us.reverse 0).1) ((CA ((BU w.body gl).1) us.reverse 0).2) (Bu.1 hpo).nd) ⟨_,_,O,O,O⟩ As O (.inl O)) AB Aw (Bb [2] O (CF (j:=5) O O O (fun H i hi=>Ax (i:=i) Dz O hi (C9 _)) AB Aw (A3 O (fun _=>Cn (lo:=(f.arity:Int).toNat) BT O (CX (Bd _)) ⟨_,pI Au⟩ O AZ (Nat.le_refl _) (ML a ((f.arity:Int).toNat))) Aw (A3 O (fun _=>BF O O (Ef ((CA ((BU w.body gl).1) us.reverse 0).1) (a.drop ((f.arity:Int).toNat)) Ab) O) Aw (Dj [2,4,1] O (A9 [0] O (Bg [4] [7] O O ⟨O,O⟩))))))))
theorem _root_.Go.AU {α:Prop}(h:α:=by simp only[DZ,List.length_drop,List.length_set];omega):α:=h
set_option maxHeartbeats 4000000 in
theorem m7:∀(ds:List B8) (hE:G2 ds) (n:Nat),yF ds n:=by
 intro ds hE n
 induction n using Nat.strongRecOn with
 | ind n ih =>
  intro b t c c2 q hC;have h2:=hE;obtain⟨k,rfl⟩:=S9 hC Av;have hwo:=fJ hC Av;have hsp:=Q7 hwo;have hsl:=hsp.len;have hss:=hsp.sz;have hsa:=hsp.asz;refine DJ Tryz.func40 (CG [0] O O fun b4=>Bp [0] O (Az Ba O) fun b6=>CQ [2,1] O (LG _ t (Nat.le_refl _) Ak) (Bp [3] O (Az Ba O) fun b8=>?_));generalize hz:(Ay t).1=z;obtain⟨zk,zi,zn,zl,zs⟩:=z;have hzo:okB (.mk zk zi zn zl zs)=true:=hz▸hsp.head;have hzq:=hz;have hzl:=KK hzo;have hzn:=(Bu.1 hzo).nd;refine CJ [6,0,1,0] 999999 [0,2,6,8,9,34] 35 (decide (zk=5∨zk=11)) O O ?_ ?_
  ·refine BC [0] rfl ?_ ?_<;>intro c1
   ·exact CT [0] O (hr:=(by refine pB (Bool.eq_iff_iff.2 ?_);simp only[beq_iff_eq,decide_eq_true_eq];omega))
   exact CT [2] O (hr:=(by refine pB (Bool.eq_iff_iff.2 ?_);simp only[beq_iff_eq,decide_eq_true_eq];omega))
  refine BC [0] rfl ?_ ?_<;>intro c1
  ·have hk511:zk=5∨zk=11:=by simpa using c1
   refine CJ [0] 5 [2,6,8,9] 45 (((zk:Int)==(5:Int))&&(((((Ay t).2).length:Nat):Int)==(0:Int))) O O ?_ ?_
   ·refine Bc [4,0] 41 rfl rfl ?_ ?_<;>intro g
    ·exact B9 [1] O O (A8 _) (CT [2] O)
    exact CT [4] O
   refine BC [0] rfl ?_ ?_<;>intro c3
   ·have hc2:zk=5∧(Ay t).2.length=0:=by simpa using c3
    have hq:=(Sa hwo (by rw[hzq];exact hc2.1) Au).symm.trans hC;cases hq;refine CK [3,1,0] O (A5 (BE (i:=1) O) (BP (A9 [0] O (Bg [1] [3] O O ⟨O,O⟩))))
   have hc2:¬(zk=5∧(Ay t).2.length=0):=by simpa using c3
   refine BC [3,0] rfl ?_ ?_<;>intro c4
   ·have hk:(Ay t).1.kind=5:=by rw[hzq];exact c4
    refine E2 [0] [10] O (Bb [2,0] O ?_);obtain⟨x,hx⟩:=A1 (l:=zs) (i:=1) Au;have hxo:=Fg hzo (i:=1) hx;have hq:=(W7 hwo hk Au (by rw[hzq];exact hx)).symm.trans hC;obtain⟨hpo,hpe⟩:=IL (h:=(by rw[hq];simp));rw[hpe] at hq;cases hq;refine A3 O (fun _=>A0 BT O O Au (BO hx) (A7 _)) Aw (Bb [2] O (A3 O (fun _=>Cn (lo:=0) (hi:=1) BT O (CX (Bd _)) O ⟨_,O⟩ (Nat.zero_le _) AZ (WD ((Ay t).2) 1)) Aw (A3 O (fun _=>BF O O (LU x (((Ay t).2).take 1) (by have:=Fs hxo;omega) (Bu.1 hxo).nd (Vw hsp.args) (by have:=DE (Ay t).2 1;omega)) O) Aw (Bb [3] O (Gf [] O O (Az Ba O) Ap fun b10=>⟨AB,Aw,?_⟩)))));refine Dj [2,0,1] O (E2 [0] [] O ?_);refine Bb [3,0] O (FB O O (Bi [4] O (.inl ⟨O,O,O⟩) (Fu b c ((CA x (((Ay t).2).take 1) 0).1) ((CA x (((Ay t).2).take 1) 0).2) (Bu.1 hpo).nd) ⟨_,_,O,O,O⟩ As O (.inl O)) AB Aw (A3 O (fun _=>Bj O) Aw (A3 O (fun _=>Cn (lo:=1) BT O (CX (Bd _)) ⟨_,O⟩ O AZ (Nat.le_refl _) (ML ((Ay t).2) 1)) Aw (A3 O (fun _=>BF O O (Ef ((CA x (((Ay t).2).take 1) 0).1) (((Ay t).2).drop 1) AU) O) Aw (Dj [2,2,1] O (A9 [0] O (Bg [2] [4] O O ⟨O,O⟩)))))))
   have hk:(Ay t).1.kind=11:=by rw[hzq];show zk=11;omega
   refine E2 [0] [11] O (Bb [2,0] O ?_);obtain⟨x,hx⟩:=A1 (l:=zs) (i:=2) Au;have hxo:=Fg hzo (i:=2) hx;obtain⟨v,hv⟩:=A1 (l:=zs) (i:=1) Au;have hvo:=Fg hzo (i:=1) hv;have hq:=(XV hwo hk (by rw[hzq];exact hv) (by rw[hzq];exact hx)).symm.trans hC;rw[←Qm hv] at hq;obtain⟨hpo,hpe⟩:=IL (h:=(by rw[hq];simp));rw[hpe] at hq;cases hq;refine A3 O (fun _=>A0 BT O O Au (BO hx) (A7 _)) Aw (Bb [3,0] O (A3 O (fun _=>Cn (lo:=1) (hi:=2) BT O (CX (Bd _)) ⟨_,O⟩ ⟨_,O⟩ AX AX (kR zs 1 2)) Aw (A3 O (fun _=>BF O O (LU x ((zs.take 2).drop 1) (by have:=Fs hxo;omega) (Bu.1 hxo).nd (by rw[Qm hv];exact⟨(Bu.1 hvo).nd,trivial⟩) (by rw[Qm hv];have:=Fs hvo;simp only[BB];omega)) O) Aw (Bb [3] O (Gf [] O O (Az Ba O) Ap fun b12=>⟨AB,Aw,?_⟩)))));refine Dj [2,0,1] O (A2 [3,0] O (Bi [4] O (.inl ⟨O,O,O⟩) (Fu b c ((CA x ((zs.take 2).drop 1) 0).1) ((CA x ((zs.take 2).drop 1) 0).2) (Bu.1 hpo).nd) ⟨_,_,O,O,O⟩ As O (.inl O)) ?_);refine CQ [1] O (Ef ((CA x ((zs.take 2).drop 1) 0).1) ((Ay t).2) AU) (A9 [2,2,1] O (Bg [2] [4] O O ⟨O,O⟩))
  have hk511:¬(zk=5∨zk=11):=by simpa using c1
  refine CJ [2] 999999 [0,2,6,8,9,34] 84 (decide (zk=9∨zk=10)) O O ?_ ?_
  ·refine BC [0] rfl ?_ ?_<;>intro c3
   ·exact CT [0] O (hr:=(by refine pB (Bool.eq_iff_iff.2 ?_);simp only[beq_iff_eq,decide_eq_true_eq];omega))
   exact CT [2] O (hr:=(by refine pB (Bool.eq_iff_iff.2 ?_);simp only[beq_iff_eq,decide_eq_true_eq];omega))
  refine BC [0] rfl ?_ ?_<;>intro c3
  ·have hk9:zk=9∨zk=10:=by simpa using c3
   refine D6 [2,0] zs 0 O O O (IH _) (fun p hp=>?_);refine Bp [1] O (Az Ba O) fun b14=>?_;obtain⟨pk,pi,pn,pl,ps⟩:=p;have hpo8:=Fg hzo (i:=0) hp;have hpl:=KK hpo8;refine BC [4,0,1,0] rfl ?_ ?_<;>intro c4
   ·have hp8:=c4;obtain⟨x,hx⟩:=A1 (l:=ps) (i:=(((1:Int)+(zk:Int):Int) - (9:Int):Int).toNat) (by have:=hpl.2.2.2 hp8;omega);have hxo:=Fg hpo8 (i:=(1+zk - 9).toNat) hx;have hq:=(TT hwo (by rw[hzq];exact hk9) (by rw[hzq];exact hp) (p:= .mk pk pi pn pl ps) hp8 (by rw[hzq];exact hx)).symm.trans hC;obtain⟨hpo,hpe⟩:=IL (h:=(by rw[hq];simp));rw[hpe] at hq;cases hq;refine A2 [7,0,1] O (A0 BT O O Au (BO hx) (A7 _)) (A2 [1] O (Bi [4] O (.inl ⟨O,O,O⟩) (Fu b c x 0 (Bu.1 hpo).nd) ⟨_,_,O,O,O⟩ As O (.inl O)) (CQ [1] O (Ef x ((Ay t).2) AU) (A9 [2,2,1] O (Bg [2] [4] O O ⟨O,O⟩))))
   have hp8:=c4;obtain⟨⟨sq,d2⟩,hs1,hs2⟩:=D8 ((UE hwo (by rw[hzq];exact hk9) (by rw[hzq];exact hp) (p:= .mk pk pi pn pl ps) hp8).symm.trans hC);refine A2 [3,0] O (Bi [4] O (.inl ⟨O,O,O⟩) (ih k Au b (.mk pk pi pn pl ps:Tm) c d2 sq hs1) ⟨_,_,O,O,O⟩ As O (.inl O)) (Bp [3] O (Az Ba O) fun b15=>?_);refine BC [4,0,1] rfl ?_ ?_<;>intro c5
   ·rw[mi c5] at hs2;cases hs2;refine CK [3,3,0] O (A5 (BE (i:=3) O) (BP (A9 [0] O (Bg [3] [5] O O ⟨O,O⟩))))
   rw[jr c5,hzq] at hs2;cases hs2;generalize hz1:sq.getD BN=z1;obtain⟨z1k,z1i,z1n,z1l,z1s⟩:=z1;refine A2 [3,2,0] O (BH BT Ba O O O O O) (A2 [2] O (Ia O O (Ef (.mk zk 0 ⟨#[]⟩ [] [(.mk z1k z1i z1n z1l z1s:Tm)]:Tm) ((Ay t).2) AU) (aw (FY O) (aw (we O) (HW)))) (A9 [2,3,1] O (Bg [3] [5] O O ⟨O,O⟩)))
  have hk9:¬(zk=9∨zk=10):=by simpa using c3
  refine BC [2] rfl ?_ ?_<;>intro c4
  ·have hk:(Ay t).1.kind=3:=by rw[hzq];exact c4
   rw[Nv hwo hk,hzq] at hC;refine CQ [2,0] O (Tl ds (.mk zk zi zn zl zs:Tm) hE.g.env) (Bp [3] O (Az GK O) fun b17=>?_);refine BC [4,0,1] rfl ?_ ?_<;>intro c5
   ·have hq:=(YL c5).symm.trans hC;cases hq;refine CK [3,2,0] O (A5 (BE (i:=2) O) (BP (A9 [0] O (Bg [2] [4] O O ⟨O,O⟩))))
   have hu:=c5;obtain⟨ix,dd,e1,e2,e3,e4⟩:=KF hu;have hde:=e2.decl;have hdg:=h2.g.all _ e3;have hel:=h2.g.env.len;have hil:=(List.getElem?_eq_some_iff.1 e1).1;have hfx:=hdg.fx;have hnr:=KI hdg;have hcl:=hdg.din.cl;have hfl:=hdg.din.fl;refine A2 [2] O (Ax (i:=0) Dz O O (EO _)) (A2 [0] O (A0 QV O O Au (HI e4) (DF _)) (Bp [1] O (Az Ih O) fun b19=>A2 [2,0,1] O (Ax (i:=1) Dz O O (Fb _)) ?_));refine BC [1] rfl ?_ ?_<;>intro c6
   ·have hk1:=c6;have hq2:=(Jx (E:=ds) (S:=DI) (W:=FM ds DI 0) (n:=0) hu e4 hk1).trans ((ek (n:=k) hu e4 hk1).symm.trans hC);refine A2 [4,2] O (Bi [5] O (.inl ⟨O,O,O⟩) (V0 0 ds (.mk zk zi zn zl zs:Tm) ((Ay t).2) b c c2 q (ZQ ds hE 0) hE hzo hsp.args Au hq2) ⟨_,_,O,O,O⟩ As O (.inl O)) (A9 [4,3,1] O (Bg [3] [5] O O ⟨O,O⟩))
   have hk1:=c6;refine CJ [0] 28 [0,2,6,8,9,17,19] 158 (((((BY ds (.mk zk zi zn zl zs:Tm).name).1).kind:Int)==(5:Int))&&(decide (((((Ay t).2).length:Nat):Int) > (Bv dd:Int)))) O O ?_ ?_
   ·refine A2 [1] O (Ax (i:=1) Dz O O (Fb _)) ?_;refine Bc [2] 152 rfl rfl ?_ ?_<;>intro g
    ·exact B9 [1] O O (A8 _) (CQ [1,0] O (LM dd hdg.din hdg.fx) (CT [2] O))
    exact CT [6] O
   refine BC [0] rfl ?_ ?_<;>intro c7
   ·have hk5:(BY ds (Tm.mk zk zi zn zl zs).name).1.kind=5∧Bv dd<((Ay t).2.length:Int):=by simpa using c7
    refine CQ [2,0] O (LM dd hdg.din hdg.fx) ?_;obtain⟨x,hx⟩:=A1 (l:=(Ay t).2) (i:=(Bv dd:Int).toNat) Au;have hxo:=hsp.args _ (List.mem_of_getElem? hx);refine A2 [0] O (A0 BT O O Au (BO hx) (A7 _)) (Bp [1] O (Az Ba O) fun b20=>CQ [3,0,1,0] O (Ox ds x hE.g hxo) (Bp [5] O (Az Ih O) fun b21=>?_));refine BC [5,0,1] rfl ?_ ?_<;>intro c8
    ·have hcs:=Lc c8;have hfd:=kn (dq hu) hk5.1 e4;refine A2 [5,4,1] O (Bi [7] O (.inl ⟨O,O,O⟩) (ZL ds (.mk zk zi zn zl zs:Tm) ((Ay t).2) x b c c2 q hE.g (hfd▸e3) hzo hxo (by rw[hfd];omega) Au (by rw[hfd];exact(Z6 hu e4 hk5.1 Au hx hcs).symm.trans hC)) ⟨_,_,O,O,O⟩ As O (.inl O)) (A9 [4,5,1] O (Bg [5] [7] O O ⟨O,O⟩))
    have hcn:=Nu c8;obtain⟨⟨sq,d2⟩,hs1,hs2⟩:=D8 ((Ym hu e4 hk5.1 Au hx hcn).symm.trans hC);refine A2 [3,1] O (Bi [7] O (.inl ⟨O,O,O⟩) (ih k Au b x c d2 sq hs1) ⟨_,_,O,O,O⟩ As O (.inl O)) (Bp [3] O (Az Ba O) fun b25=>?_);refine BC [4,0,1] rfl ?_ ?_<;>intro c9
    ·rw[ja c9] at hs2;cases hs2;refine CK [3,6,0] O (A5 (BE (i:=6) O) (BP (A9 [0] O (Bg [6] [8] O O ⟨O,O⟩))))
    rw[kh c9] at hs2;cases hs2;refine DT [1] O (BJ (DK (t:=27) (sz:=5) O) (BW (DT [2] O ?_)));refine ET O O (Bh (i:=0) (rows':=A6 ((Ay t).2)) BT BT Ba O O O O O O (Bd _) Aa (Hl [] ((Ay t).2))) fun o cp=>BW (CK [1] O ?_);refine JE (i:=0) O AN fun b1 hb=>?_;subst hb;refine BP (E2 [0] [] O ?_);refine Bb [2,4] O (A3 O (fun _=>BF O O (LM dd hdg.din hdg.fx) O) Aw (Bb [1,1] O (A3 O (fun _=>CI BT O O Au AN) Aw (FB O O (C6 (i:=0) (j:=((Bv dd:Int).toNat)) CN O O O AN O (Hj _) (A7 _) (Gc _) (MV ((Ay t).2) ((Bv dd:Int).toNat) (sq.getD BN))) AB Aw (HM O Ap (Cu (DT [2,6] O ?_)))))));refine BJ (CV (t:=27) (x:= .vs (some b1) (A6 ((((Ay t).2)).set ((Bv dd:Int).toNat) (sq.getD BN))).length cp) (CZ ((Ay t).2) (l':=(((Ay t).2)).set ((Bv dd:Int).toNat) (sq.getD BN)) Av)) (BJ (CV (t:=193) (x:= .vs (some b1) (A6 ((((Ay t).2)).set ((Bv dd:Int).toNat) (sq.getD BN))).length cp) (CZ ((Ay t).2) (l':=(((Ay t).2)).set ((Bv dd:Int).toNat) (sq.getD BN)) Av)) (BJ (CV (t:=194) (x:= .vs (some b1) (A6 ((((Ay t).2)).set ((Bv dd:Int).toNat) (sq.getD BN))).length cp) (CZ ((Ay t).2) (l':=(((Ay t).2)).set ((Bv dd:Int).toNat) (sq.getD BN)) Av)) ?_));refine BJ (CV (t:=200) (x:= .vs (some b1) (A6 ((((Ay t).2)).set ((Bv dd:Int).toNat) (sq.getD BN))).length cp) (CZ ((Ay t).2) (l':=(((Ay t).2)).set ((Bv dd:Int).toNat) (sq.getD BN)) Av)) (BJ (CM (i:=0) [27,193,194,200] O (DA ⟨O,O,O,O,Aw⟩)) (BW (CQ [0] O (Ef (.mk zk zi zn zl zs:Tm) ((((Ay t).2)).set ((Bv dd:Int).toNat) (sq.getD BN)) AU) ?_)));refine A9 [2,6,1] O (Bg [6] [8] O O ⟨O,O⟩)
   have hk5:¬((BY ds (Tm.mk zk zi zn zl zs).name).1.kind=5∧((Ay t).2.length:Int) > Bv dd):=by simpa using c7
   refine CJ [0] 40 [0,2,6,8,9,17,19] 216 (((((BY ds (.mk zk zi zn zl zs:Tm).name).1).kind:Int)==(6:Int))&&(decide (((((Ay t).2).length:Nat):Int)≥((Gk dd (BY ds (Tm.mk zk zi zn zl zs).name).1.item).arity:Int)))) O O ?_ ?_
   ·refine A2 [1] O (Ax (i:=1) Dz O O (Fb _)) ?_;refine Bc [2] 205 rfl rfl ?_ ?_<;>intro g
    ·have hk6:=g;obtain⟨fk,ff,f1,f2⟩:=e2.func hk6;have hff:dd.funs[(BY ds (Tm.mk zk zi zn zl zs).name).1.item.toNat]?=some ff:=by rw[f2];simpa using f1
     have hfm:=List.mem_of_getElem? hff;have hfa:=hdg.fu ff hfm;have hfi:=(List.getElem?_eq_some_iff.1 f1).1;have hfat:Gk dd (BY ds (Tm.mk zk zi zn zl zs).name).1.item=ff:=CO hff;exact B9 [1] O O (A8 _) (A2 [1] O (Ax (i:=0) F4 O O (CD _)) (A2 [1] O (Ax (i:=1) Dz O O (Gb _)) (A2 [0] O (A0 J4 O O Au (Fh hff) (Ee _)) (A2 [1] O (DR Dz O (C9 _)) (CT [2] O (hr:=(by first | rfl | (refine pB ?_;simp[hk6,hfat];done) | (refine pB ?_;simp_all;done))))))))
    exact CT [11] O (hr:=(by first | rfl | (refine pB ?_;simp[hk6,hfat];done) | (refine pB ?_;simp_all;done)))
   refine BC [0] rfl ?_ ?_<;>intro c8
   ·have hk66:(BY ds (Tm.mk zk zi zn zl zs).name).1.kind=6∧(Gk dd (BY ds (Tm.mk zk zi zn zl zs).name).1.item).arity≤((Ay t).2.length:Int):=by simpa using c8
    obtain⟨hk6,hl6⟩:=hk66;obtain⟨fk,ff,f1,f2⟩:=e2.func hk6;have hff:dd.funs[(BY ds (Tm.mk zk zi zn zl zs).name).1.item.toNat]?=some ff:=by rw[f2];simpa using f1
    have hfm:=List.mem_of_getElem? hff;have hfa:=hdg.fu ff hfm;have hfi:=(List.getElem?_eq_some_iff.1 f1).1;have hfat:Gk dd (BY ds (Tm.mk zk zi zn zl zs).name).1.item=ff:=CO hff;rw[hfat] at hl6;refine E2 [0] [] O (Bb [3,2] O (CF (j:=0) O O O (fun H i hi=>Ax (i:=i) F4 O hi (CD _)) AB Aw (A3 O (fun _=>BG MS O O) Aw (CF (j:=1) O O O (fun H i hi=>Ax (i:=i) Dz O hi (Gb _)) AB Aw (A3 O (fun _=>A0 J4 O O Au (Fh hff) (Ee _)) Aw (Bb [3] O (FB O O (Bi [5] O (.inl ⟨O,O,O⟩) (ZG k ds (.mk zk zi zn zl zs:Tm) ff ((Ay t).2) dd b c c2 q (ih k Au) hE e3 hfm Au hzo Au hsp.args ((da hu e4 hk6 hff Au).symm.trans hC)) ⟨_,_,O,O,O⟩ As O (.inl O)) AB Aw (Dj [4,3,1] O (A9 [0] O (Bg [3] [5] O O ⟨O,O⟩))))))))))
   have hk6:¬((BY ds (Tm.mk zk zi zn zl zs).name).1.kind=6∧((Ay t).2.length:Int)≥(Gk dd (BY ds (Tm.mk zk zi zn zl zs).name).1.item).arity):=by simpa using c8
   have hq:=(l6 hu e4 hk1 hk5 hk6).symm.trans hC;cases hq;refine CK [3,3,0] O (A5 (BE (i:=3) O) (BP (A9 [0] O (Bg [3] [5] O O ⟨O,O⟩))))
  have hq:=(ay hwo (by rw[hzq];show ¬zk=5;omega) (by rw[hzq];show ¬zk=11;omega) (by rw[hzq];show ¬zk=9;omega) (by rw[hzq];show ¬zk=10;omega) (by rw[hzq];assumption)).symm.trans hC;cases hq;refine CK [3,1,0] O (A5 (BE (i:=1) O) (BP (A9 [0] O (Bg [1] [3] O O ⟨O,O⟩))))
theorem WB:BL Tryz.prog 34 [] [] (Wz (fun b=> .ptr b 0) ((HQ Gz).map .p)):=by
 refine DJ Tryz.func34 (CG [2] O O fun b2=>A9 [1] O (Bg [] [0] O O ⟨_,O,O⟩))
end Go.Proofs.YtldfmjoncbjldaaGreat
namespace Go.Eu
open Go.Abs
mutual
theorem lx {vars m:Int}(hv:vars≤549755813888):∀(t:Tm) (d:Int),wf vars m d t→0≤d→d+size t≤1073741824→Vp t
 | .mk k i n l ks,d,h,h0,h1=>by
  simp only[wf,size] at h h1;exact⟨fun e=>by have:=h.2.2.2.1 e;omega,du hv ks k d 0 h.2.2.2.2.2 h0 Au⟩
theorem du {vars m:Int}(hv:vars≤549755813888):∀(ts:List Tm) (k d:Int) (j:Nat),pL vars m k d j ts→0≤d→d+1+BB ts≤1073741824→Uh ts
 | [],k,d,j,h,h0,h1=>trivial
 | t::ts,k,d,j,h,h0,h1=>by
  have:=Ct k j;simp only[pL,BB] at h h1;have:=size_pos t;exact⟨lx hv t _ h.1 Au Au,du hv ts k d (j+1) h.2 h0 Au⟩
end
mutual
theorem rW:∀(t:Tm),Cw t→Ci t
 | .mk k i n l ks,h=>by
  obtain⟨⟨f1,f2,_,f4⟩,h2⟩:=h;refine⟨?_,l9 ks h2⟩;simp only[uc,Bool.and_eq_true,Bool.or_eq_true,decide_eq_true_eq];refine⟨⟨?_,?_⟩,?_⟩
  ·by_cases e:i=0
   ·exact .inl (.inl e)
   rcases f1 e with h | h
   ·exact .inl (.inr h)
   exact .inr h
  ·by_cases e:n=⟨#[]⟩
   ·subst e;exact .inl rfl
   exact .inr (f2 e)
  by_cases e:k=2
  ·exact .inl (.inr e)
  by_cases e3:k=3
  ·exact .inr e3
  exact .inl (.inl (f4 e e3))
theorem l9:∀(ts:List Tm),w6 ts→dL ts
 | [],_=>trivial
 | t::ts,h=>⟨rW t h.1,l9 ts h.2⟩
end
theorem lM {t:Tm}{vars m:Int}(hn:Nd t) (hs:size t<1000000) (hv:vars≤549755813888) (h:wf (max vars 0) m 0 t∧Cw t):okB t=true :=
 Bu.2 ⟨hn,rO t 0 h.1,lx Au t 0 h.1 Au Au,rW t h.2,by omega⟩
def ew (d:B8):Prop:=(d.kind≠1→d.kind≠2→d.value=BN)∧(d.kind≠3→d.recs.rules.length=0∧d.fixed=0)∧(d.kind≠4→d.funs.length=0)
def Xf (d:B8):Prop:=0≤d.fixed∧(∀f∈d.funs,1≤f.arity∧f.arity≤16)∧(d.kind=3→d.fixed≤1000000)
def uh (v:Int) (t:Tm):Prop:=∃m,wf (max v 0) m 0 t
inductive Um (E:List B8):Int→FV→Prop
 | leaf {v:Int} {t:FV} (hk:t.kind≠1) (h:uh v t.body):Um E v t
 | split {v:Int} {t:FV} (hk:t.kind=1) (h0:∀b∈t.branches,b.absurd=false→(BY E b.ctor).2=0∧(BY E b.ctor).1.kind=4) (h:∀b∈t.branches,b.absurd=false→Um E (v+Ed (CR E (BY E b.ctor).1.decl) (BY E b.ctor).1.item) b.tree):Um E v t
def uL (E:List B8) (v:Int) (b:G3):Prop:=b.absurd=false→((BY E b.ctor).2=0∧(BY E b.ctor).1.kind=4)∧Um E (v+Ed (CR E (BY E b.ctor).1.decl) (BY E b.ctor).1.item) b.tree
theorem p9 {E:List B8}{v:Int}{t:FV}(hk:t.kind=1) (h:∀b∈t.branches,FD b.tree∧uL E v b):Um E v t:= .split hk (fun b hb ha=>((h b hb).2 ha).1) fun b hb ha=>((h b hb).2 ha).2
theorem s6 {E:List B8}{v:Int}{b:G3}{d:B8}(h1:(BY E b.ctor).2=0) (h2:(BY E b.ctor).1.kind=4) (hd:E[(BY E b.ctor).1.decl.toNat]?=some d) (h:FD b.tree∧Um E (v+Ed d (BY E b.ctor).1.item) b.tree):FD b.tree∧uL E v b :=
 ⟨h.1,fun _=>⟨⟨h1,h2⟩,by rw[show CR E (BY E b.ctor).1.decl=d from CO hd];exact h.2⟩⟩
def QB (E:List B8) (d:B8):Prop:=(d.kind=1∨d.kind=2→okB d.value=true∧uh 0 d.value)∧(d.kind=3→∀t∈d.recs.rules,okB t=true∧uh 0 t)∧(d.kind=4→∀f∈d.funs,FD f.tree∧Um E f.arity f.tree)
def qW (E:List B8):Prop:=∀i d,E[i]?=some d→QB (E.take i) d
theorem vB {E:List B8}{d:B8}(h:QP d) (hk:0≤d.kind∧d.kind≤4) (hu:ew d) (hc:Xf d) (ht:QB E d):DG d:=by
 obtain⟨u1,u2,u3⟩:=hu;obtain⟨c1,c2,c3⟩:=hc;obtain⟨t1,t2,t3⟩:=ht;refine⟨h,⟨c1,?_⟩,?_,?_,fun f hf=>⟨(c2 f hf).1,(c2 f hf).2,?_⟩⟩
 ·by_cases h3:d.kind=3
  ·exact c3 h3
  rw[(u2 h3).2];omega
 ·by_cases h1:d.kind=1∨d.kind=2
  ·exact(t1 h1).1
  rw[u1 Au Au];exact J7
 ·by_cases h3:d.kind=3
  ·exact fun t ht=>(t2 h3 t ht).1
  intro t ht;rw[List.length_eq_zero_iff.1 (u2 h3).1] at ht;cases ht
 by_cases h4:d.kind=4
 ·exact(t3 h4 f hf).1
 rw[List.length_eq_zero_iff.1 (u3 h4)] at hf;cases hf
def VF (d:B8):Prop:=size d.value≤400∧(∀t∈d.recs.rules,size t≤400)∧∀f∈d.funs,Dq f.tree≤50
theorem pJ {ds:List B8}(h:Lb ds) (hf:∀d∈ds,VF d):G2 ds:=⟨h,fun d hd=>(hf d hd).1,fun d hd=>(hf d hd).2.1,fun d hd=>(hf d hd).2.2⟩
theorem TL {n:Nat}:∀{l:List G3},(∀x∈l,Dq x.tree≤n)→MI l≤n
 | [],_=>by simp[MI]
 | .mk c a t::l,h=>by
  have h1:=h (.mk c a t) Av;have h2:=TL (n:=n) (l:=l) fun x hx=>h x (by simp[hx]);simp only[MI,bJ,G3.tree] at *;omega
theorem iw {n:Nat}{t:FV}(h:∀x∈t.branches,Dq x.tree≤n):Dq t≤n+1:=by
 obtain⟨k,b,v,l⟩:=t;have h1:=TL (n:=n) (l:=l) h;simp only[Dq];omega
theorem VH:∀{l:List G3},(∀x∈l,FD x.tree)→T3 l
 | [],_=>trivial
 | .mk c a t::l,h=>⟨h (.mk c a t) Av,VH fun x hx=>h x (by simp[hx])⟩
theorem Tk {t:FV}(h0:okB t.body=true) (h:∀x∈t.branches,FD x.tree):FD t:=by
 obtain⟨k,b,v,l⟩:=t;exact⟨h0,VH h⟩
theorem dC {t:FV}(h0:MN t.body BN=true) (h:t.branches.length=0):FD t :=
 Tk (by rw[Ge.1 h0];exact J7) (fun x hx=>by rw[List.length_eq_zero_iff.1 h] at hx;cases hx)
theorem IP {α:Type}{p:α→Prop}{l:List α}{n:Nat}(hn:l.length≤n) (h:∀j,j<n→∀x,l[j]?=some x→p x):∀x∈l,p x:=fun x hx=>by
 obtain⟨j,hj⟩:=List.mem_iff_getElem?.1 hx;exact h j (by have:=(List.getElem?_eq_some_iff.1 hj).1;omega) x hj
theorem iU {ds:List B8}{i:Nat}(h:IQ ds) (hC:∀j,j<i→∀x,ds[j]?=some x→DG x):Lb (ds.take i) :=
 ⟨h.take i,fun d hd=>by
  obtain⟨j,hj⟩:=List.mem_iff_getElem?.1 hd;have hlt:=(List.getElem?_eq_some_iff.1 hj).1;rw[List.length_take] at hlt;rw[List.getElem?_take_of_lt Au] at hj;exact hC j Au d hj⟩
theorem sT {α:Type}{l:List α}(h:l.length=0) {p:α→Prop}:∀x∈l,p x:=fun x hx=>by
 rw[List.length_eq_zero_iff.1 h] at hx;cases hx
theorem oX {t:FV}{dp:Int}(hd:dp≤40) (h:∀x∈t.branches,(Dq x.tree:Int)≤42 - (dp+1)):(Dq t:Int)≤42 - dp:=by
 have:=iw (n:=(42 - (dp+1)).toNat) (t:=t) fun x hx=>by have:=h x hx;omega
 omega
theorem RR {t:Tm}(h:ZO t) (hs:FF t≤400):size t≤400:=by
 have h1:=PZ (t:=t) (by have:=h.sz;omega);omega
theorem jP {d:B8}(h:QP d) (hv:FF d.value≤400) (hr:∀t∈d.recs.rules,FF t≤400) (hf:∀f∈d.funs,(Dq f.tree:Int)≤42 - 0):VF d :=
 ⟨RR h.vl hv,fun t ht=>RR (h.rs t ht) (hr t ht),fun f hm=>by have:=hf f hm;omega⟩
structure lj (ds:List B8) (l:List Tm):Prop where
 env:G2 ds
 cl:qW ds
 ok:∀t∈l,okB t=true
 sz:BB l≤60
 few:ds.length≤70
theorem kX {ds:List B8}{l:List Tm}(hn:E1 l 60 0≤60) (hg:ao l∧∀t∈l,okB t=true) (he:(G2 ds∧qW ds)∧ds.length≤70):lj ds l :=
 ⟨he.1.1,he.1.2,hg.2,by have:=Y8 hg.1 Au hn;omega,he.2⟩
theorem gw {l:List Tm}(h:ao l):l.length<1000000:=by
 have:=h.sz;have:=Fk l;omega
theorem aS {l:List Tm}(h:ao l∧∀t∈l,okB t=true):∀x∈l,okB x=true∧size x<1000000:=fun x hx =>
 ⟨h.2 x hx,by have:=h.1.sz;have:=FI hx;omega⟩
end Go.Eu
namespace Go.Proofs.YtldfmjoncbjldaaGreat
open Go.Abs Go.Eu
theorem cr:∀(d:B8),(QP d)→(0≤d.kind∧d.kind≤4)→Hg Tryz.prog 140 [.agg ((B0 d).map .p)] (fun v=>∃bb:Bool,v= .p (.bool bb)∧(bb=true→ew d)):=by
 intro d h1 h2;refine DJ Tryz.func140 (CG [0] O O fun b1=>CJ [1] 1 [1] 3 ((((d.recs.params:Int)==(0:Int))&&(MN d.recs.type BN))&&(((d.recs.rules.length:Nat):Int)==(0:Int))) O O ?_ ?_)
 ·refine A2 [2] O (Ax (i:=0) Dz O O (Du _)) ?_;refine Bc [2] 9 rfl rfl ?_ ?_<;>intro g
  ·refine A2 [2] O (Bq (i:=0) CN O O (Fc _) (A7 _)) (CQ [0] O (LA d.recs.type (by first | exact h1.rt.nd | exact h1.vl.nd | exact h1.ty.nd)) ?_);refine Bc [2] 15 rfl rfl ?_ ?_<;>intro g1
   ·exact A2 [2] O (Ax (i:=0) JX O O (Co _)) (B9 [0] O O (A8 _) (CT [3] O))
   exact CT [7] O
  exact CT [13] O
 refine CJ [0] 2 [1] 4 ((((d.fixed:Int)==(0:Int))&&(((d.ctors.length:Nat):Int)==(0:Int)))&&((((d.recs.params:Int)==(0:Int))&&(MN d.recs.type BN))&&(((d.recs.rules.length:Nat):Int)==(0:Int)))) O O ?_ ?_
 ·refine A2 [1] O (Ax (i:=0) Dz O O (Cr _)) ?_;refine Bc [2] 25 rfl rfl ?_ ?_<;>intro g
  ·refine A2 [1] O (Ax (i:=0) GB O O (B5 _)) (B9 [0] O O (List.length_map _) ?_);refine Bc [3] 31 rfl rfl ?_ ?_<;>intro g1
   ·exact CT [3] O
   exact CT [3] O
  exact CT [9] O
 refine A2 [1] O (Ax (i:=0) Dz O O (EN _)) ?_;refine BC [2] rfl ?_ ?_<;>intro c
 ·refine CJ [0] 5 [] 2 (((MN d.value BN)&&((((d.fixed:Int)==(0:Int))&&(((d.ctors.length:Nat):Int)==(0:Int)))&&((((d.recs.params:Int)==(0:Int))&&(MN d.recs.type BN))&&(((d.recs.rules.length:Nat):Int)==(0:Int)))))&&(((d.funs.length:Nat):Int)==(0:Int))) O O ?_ ?_
  ·refine A2 [1] O (Bq (i:=0) CN O O (Ft _) (A7 _)) (CQ [0] O (LA d.value (by first | exact h1.rt.nd | exact h1.vl.nd | exact h1.ty.nd)) ?_);refine Bc [1] 41 rfl rfl ?_ ?_<;>intro g
   ·refine Bc [3] 44 rfl rfl ?_ ?_<;>intro g1
    ·exact A2 [1] O (Ax (i:=0) F4 O O (CD _)) (B9 [0] O O (List.length_map _) (CT [3] O))
    exact CT [6] O
   exact CT [9] O
  refine A9 [0] rfl (Bg [] [] rfl rfl ⟨⟨_,rfl,fun h=>by simp only[Bool.and_eq_true,beq_iff_eq,decide_eq_true_eq,Ge] at h;refine⟨fun _ _=>?_,fun _=>⟨?_,?_⟩,fun _=>?_⟩<;>first | omega | (simp_all;done)⟩,rfl⟩)
 refine CJ [2] 999999 [1,4,35] 50 (decide (d.kind=1∨d.kind=2)) O O ?_ ?_
 ·refine BC [0] rfl ?_ ?_<;>intro c1
  ·exact CT [0] O (hr:=(by refine pB (Bool.eq_iff_iff.2 ?_);simp only[beq_iff_eq,decide_eq_true_eq];omega))
  exact CT [2] O (hr:=(by refine pB (Bool.eq_iff_iff.2 ?_);simp only[beq_iff_eq,decide_eq_true_eq];omega))
 refine BC [0] rfl ?_ ?_<;>intro c1
 ·refine CJ [0] 8 [] 2 (((((d.fixed:Int)==(0:Int))&&(((d.ctors.length:Nat):Int)==(0:Int)))&&((((d.recs.params:Int)==(0:Int))&&(MN d.recs.type BN))&&(((d.recs.rules.length:Nat):Int)==(0:Int))))&&(((d.funs.length:Nat):Int)==(0:Int))) O O ?_ ?_
  ·refine Bc [2] 54 rfl rfl ?_ ?_<;>intro g
   ·exact A2 [1] O (Ax (i:=0) F4 O O (CD _)) (B9 [0] O O (List.length_map _) (CT [3] O))
   exact CT [6] O
  refine A9 [0] rfl (Bg [] [] rfl rfl ⟨⟨_,rfl,fun h=>by simp only[Bool.and_eq_true,beq_iff_eq,decide_eq_true_eq,Ge] at h;refine⟨fun _ _=>?_,fun _=>⟨?_,?_⟩,fun _=>?_⟩<;>first | omega | (simp_all;done)⟩,rfl⟩)
 refine BC [2] rfl ?_ ?_<;>intro c2
 ·refine CJ [0] 10 [] 2 ((MN d.value BN)&&(((d.funs.length:Nat):Int)==(0:Int))) O O ?_ ?_
  ·refine A2 [1] O (Bq (i:=0) CN O O (Ft _) (A7 _)) (CQ [0] O (LA d.value (by first | exact h1.rt.nd | exact h1.vl.nd | exact h1.ty.nd)) ?_);refine Bc [1] 65 rfl rfl ?_ ?_<;>intro g
   ·exact A2 [1] O (Ax (i:=0) F4 O O (CD _)) (B9 [0] O O (List.length_map _) (CT [3] O))
   exact CT [6] O
  refine A9 [0] rfl (Bg [] [] rfl rfl ⟨⟨_,rfl,fun h=>by simp only[Bool.and_eq_true,beq_iff_eq,decide_eq_true_eq,Ge] at h;refine⟨fun _ _=>?_,fun _=>⟨?_,?_⟩,fun _=>?_⟩<;>first | omega | (simp_all;done)⟩,rfl⟩)
 refine Fl [0] 11 [] 2 (fun y=>∃q:Bool,y= .p (.bool q)∧(q=true→MN d.value BN=true∧d.fixed=0∧d.recs.rules.length=0)) O O ?_ ?_
 ·refine A2 [1] O (Ax (i:=0) OB O O (Da _)) (A2 [0] O (Gt O O) ?_);refine Bc [1] 74 rfl rfl ?_ ?_<;>intro g
  ·refine A2 [1] O (Bq (i:=0) CN O O (Fi _) (A7 _)) (CQ [0] O (LA d.type (by first | exact h1.rt.nd | exact h1.vl.nd | exact h1.ty.nd)) ?_);refine Bc [2] 79 rfl rfl ?_ ?_<;>intro g1
   ·refine A2 [1] O (Bq (i:=0) CN O O (Ft _) (A7 _)) (CQ [0] O (LA d.value (by first | exact h1.rt.nd | exact h1.vl.nd | exact h1.ty.nd)) ?_);refine Bc [2] 84 rfl rfl ?_ ?_<;>intro g2
    ·exact CT [3] rfl (hr:=(by refine⟨_,rfl,fun h=>?_⟩;first | (exact absurd h As) | (refine⟨by simpa using Aq,?_,?_⟩<;>(simp only[Bool.and_eq_true,beq_iff_eq,decide_eq_true_eq] at h;omega))))
    exact CT [3] rfl (hr:=(by refine⟨_,rfl,fun h=>?_⟩;first | (exact absurd h As) | (refine⟨by simpa using Aq,?_,?_⟩<;>(simp only[Bool.and_eq_true,beq_iff_eq,decide_eq_true_eq] at h;omega))))
   exact CT [8] rfl (hr:=(by refine⟨_,rfl,fun h=>?_⟩;first | (exact absurd h As) | (refine⟨by simpa using Aq,?_,?_⟩<;>(simp only[Bool.and_eq_true,beq_iff_eq,decide_eq_true_eq] at h;omega))))
  exact CT [13] rfl (hr:=(by refine⟨_,rfl,fun h=>?_⟩;first | (exact absurd h As) | (refine⟨by simpa using Aq,?_,?_⟩<;>(simp only[Bool.and_eq_true,beq_iff_eq,decide_eq_true_eq] at h;omega))))
 rintro _ ⟨q,rfl,hq⟩;refine A9 [0] rfl (Bg [] [] rfl rfl ⟨⟨_,rfl,fun h=>by obtain⟨q1,q2,q3⟩:=hq h;rw[Ge] at q1;exact⟨fun _ _=>q1,fun _=>⟨q3,q2⟩,fun _=>by omega⟩⟩,rfl⟩)
theorem RN:∀(t:Tm),(ZO t)→Hg Tryz.prog 190 [.agg ((BD t).map .p)] (fun v=>∃e:Int,v= .p (I e)∧0≤e∧e≤size t):=by
 intro t h1;have hsz:=h1.sz;refine DJ Tryz.func190 (CG [0] O O fun b1=>?_);refine GG (α:=Tm×Int) [2] [1] [0] (fun(y,m)=>[(3,.p (I m))]) (fun(y,m)=>[(0,.box b1 ((BD y).map .p))]) (fun(y,m)=>size y) (fun(y,m)=>Nd y∧0≤m∧m+size y≤size t) ⟨t,0⟩ O O O (⟨h1.nd,by omega,by omega⟩) ?_;rintro⟨y,m⟩ hC
 try simp only at hC
 obtain⟨hC,hm0,hm1⟩:=hC;obtain⟨yk,yi,yn,yl,ys⟩:=y;refine CJ [0] 2 [1,3] 12 (((yk:Int)==(6:Int))&&(((ys.length:Nat):Int)==(2:Int))) O O ?_ ?_
 ·refine Bc [4,0] 7 rfl rfl ?_ ?_<;>intro g
  ·exact B9 [2,0] O O (A8 _) (CT [2] O)
  exact CT [5] O
 refine BC [0] rfl ?_ ?_<;>intro c
 ·refine D6 [5,0] ys 1 O O O (IH _) (fun x hx=>?_) (hj:=⟨Au,by first | rfl | omega,(by first | omega | (simp at c;omega))⟩);exact FR [2,0,1] 0 ⟨x,(m:Int)+(1:Int)⟩ O (⟨DU hC.2.2.2.2.1 hx,by omega,by have:=CU hx;simp only[size] at hm1;omega⟩) (hμ:=(by have:=CU hx;simp only[size];omega))
 refine DH [0] O ?_;refine A9 [2] O (Bg [] [] O O ⟨⟨_,O,by omega,by simp only[size] at hm1;omega⟩,rfl⟩)
theorem WO:∀(d:B8),(QP d)→Hg Tryz.prog 169 [.agg ((B0 d).map .p)] (fun v=>∃bb:Bool,v= .p (.bool bb)∧(bb=true→d.fixed≤1000000)):=by
 intro d h1;have hcl:=h1.cl;have hts:=h1.ty.sz;refine DJ Tryz.func169 (CG [0] O O fun b1=>E2 [1] [2] O (A3 O (fun _=>BG Kn O O) Aw (CF (j:=0) O O O (fun H i hi=>Bq (i:=i) CN O hi (Fi _) (A7 _)) AB Aw ?_)));refine Ls [(3,.free (.ptr b1 13)),(4,.read [.box b1 ((B0 d).map .p)] (.p (I d.fixed)))] O O (B7 O O (RN d.type h1.ty) (.inl O)) Ap (⟨_,0,O,by omega,by omega⟩) AB ?_;rintro _ ⟨e,rfl,he0,he1⟩;refine⟨Aw,?_⟩;refine Bb [1] O (CF (j:=0) O O O (fun H i hi=>Ax (i:=i) Dz O hi (Cr _)) AB AS ?_);refine Dj [2] O (GG (α:=Nat×Bool) [1] [1] [0] (fun(i,b)=>[(3,.p (.bool b)),(4,.p (I (i:Int)))]) (fun _=>[]) (fun(i,b)=>d.ctors.length - i) (fun(i,b)=>i≤d.ctors.length∧(b=true→d.fixed≤1000000)) ⟨0,(decide ((e:Int)≥(d.fixed:Int)))⟩ O O O (⟨by omega,fun h=>by simp only[decide_eq_true_eq] at h;omega⟩) ?_);rintro⟨i,b⟩ hC
 try simp only at hC
 obtain⟨hi,hC⟩:=hC;refine A2 [2] O (Ax (i:=0) GB O O (B5 _)) (B9 [0] O O (List.length_map _) ?_);refine BC [1] rfl ?_ ?_<;>intro c
 ·refine Fl [0] 5 [1,4] 3 (fun y=>∃q:Bool,y= .p (.bool q)∧(q=true→b=true)) O O ?_ ?_
  ·refine E2 [0] [8] O (Bb [2] O (Db 19 O (fun g=>?_) (fun g=>?_)))
   ·(try simp only[sd,se] at g);refine Bx O (fun _=>BG Kn O O) Aw (Mi (i:=0) O O O O O (fun H i hi=>Ax (i:=i) GB O hi (B5 _)) AB Aw (Bx O (fun _=>Bj O) Aw ?_));obtain⟨x,hx⟩:=A1 (l:=d.ctors) (i:=i) Au;refine Bx O (fun _=>A0 Kb O O Au (Gq hx) (Ei _)) Aw (Bx O (fun _=>DM US O O) Aw (Bx O (fun _=>Dh CN O (GY _) (A7 _)) Aw ?_));refine di [(9,.free (.ptr b1 13)),(10,.read [.box b1 ((B0 d).map .p)] (.p (I d.fixed)))] O O O O (B7 O O (RN x.type (h1.cs _ (List.mem_of_getElem? hx)).ty) (.inl O)) Ap (⟨_,0,O,by omega,by omega⟩) AB ?_;rintro _ ⟨e1,rfl,he01,he11⟩;refine⟨Aw,?_⟩;exact Bb [1] O (Mi (i:=0) O O O O O (fun H i hi=>Ax (i:=i) Dz O hi (Cr _)) AB AS (CY tab 3 [] O (Cu (CT [0] O (hr:=(by refine⟨_,rfl,fun h=>?_⟩;first | (exact absurd h As) | assumption))))))
   (try simp only[sd,se] at g);exact Bb [6] O (Zq O O O O AS (CY tab 5 [] O (Cu (CT [0] O (hr:=(by refine⟨_,rfl,fun h=>?_⟩;first | (exact absurd h As) | assumption))))))
  rintro _ ⟨q,rfl,hq⟩;exact FR [3] 0 ⟨i+1,q⟩ O (⟨by omega,fun h=>hC (hq h)⟩)
 refine DH [0] O (A9 [2] O (Bg [] [] O O ⟨⟨_,O,hC⟩,O⟩))
theorem P6:∀(t:Tm) (vars params metas levels:Int),(Nd t)→(size t<1000000)→Hg Tryz.prog 51 [.agg ((BD t).map .p),.p (I vars),.p (I params),.p (I metas),.p (I levels)] (fun v=>∃e:Int,v= .p (I e)∧(e=0→wf (max vars 0) metas 0 t∧Cw t)):=by
 intro t vars params metas levels h1 h2;refine DJ Tryz.func51 (CG [0] O O fun b5=>A2 [3,0] O (F7 O O) (DT [3] O (EF O O (B7 O O (pW _ t 0 (max (vars:Int) (0:Int)) params metas levels (Nat.le_refl _) h1 Au Ak) (.inl O)) ?_)));rintro _ ⟨e,rfl,he⟩;refine BW (BC [3] rfl ?_ ?_)<;>intro c
 ·refine A9 [2] O (⟨O,_,[],Dw O,List.nil_sublist _,⟨⟨_,O,?_⟩,O⟩⟩);exact fun h=>absurd h Aq
 refine CQ [1,0] O (sS _ t (Nat.le_refl _) Au) ?_;refine BC [1] rfl ?_ ?_<;>intro c1
 ·refine A9 [1] O (⟨O,_,[],Dw O,List.nil_sublist _,⟨⟨_,O,?_⟩,O⟩⟩);exact fun h=>absurd h As
 refine CQ [1,0] O (oE _ t (Nat.le_refl _) Au) ?_;refine BC [1] rfl ?_ ?_<;>intro c2
 ·refine A9 [1] O (⟨O,_,[],Dw O,List.nil_sublist _,⟨⟨_,O,?_⟩,O⟩⟩);exact fun h=>absurd h As
 refine A9 [1] O (⟨O,_,[],Dw O,List.nil_sublist _,⟨⟨_,O,?_⟩,O⟩⟩);exact fun _=>he Au
theorem Uz:∀(ds:List B8) (d:B8),(IQ ds)→(QP d)→Hg Tryz.prog 142 [.p (.lst (List.map B0 ds)),.agg ((B0 d).map .p)] (df):=by
 intro ds d h1 h2;have hn:=Om d;have hcl:=h2.cl;have hfl:=h2.fl;refine DJ Tryz.func142 (CG [0] O O fun b3=>CQ [2,0] O (Ni d h2.cl h2.fl h2.nm) (GG (α:=Nat) [2] [0,5] [] (fun i=>[(6,.p (I (i:Int)))]) (fun _=>[]) (fun i=>(DW d).length - i) (fun i=>i≤(DW d).length) 0 O O O AY ?_));rintro i hC
 try simp only at hC
 have hi:=hC;refine B9 [2] O O (List.length_map _) ?_;refine BC [1] rfl ?_ ?_<;>intro c
 ·refine D6 [2] (DW d) i O O O (H5 (f:=Ib) fun _=>O) (fun x hx=>?_);refine DT [1] O (EF O O (B7 O O (kS x (gW h2 hx)) (.inl O)) ?_);rintro _ ⟨q,rfl⟩;refine BW (BC [1] rfl ?_ ?_)<;>intro c1
  ·refine A9 [1] O (Bg [] [] O O ⟨⟨_,O⟩,O⟩)
  refine A2 [3] O (A0 Jf O O Au (ZJ hx) (O)) (CQ [1] O (Mp ds x h1) (Bp [3] O (Az GK O) fun b7=>Fl [2,0,1] 8 [0,5,6] 43 LS O O ?_ ?_))
  ·refine E2 [0] [] O (Bb [3] O (Db 34 O (fun g=>?_) (fun g=>?_)))
   ·(try simp only[sd,se] at g);exact CY tab 9 [] O (Cu (CT [0] O (hr:=⟨_,O⟩)))
   (try simp only[sd,se] at g);exact Bb [2] O (Bx O (fun _=>Cn (lo:=0) (hi:=i) Jf O (CX (K4 _)) O ⟨_,O⟩ (Nat.zero_le _) AZ (bW (f:=Ib) (DW d) i)) Aw (Bb [2] O (Bx O (fun _=>A0 Jf O O Au (ZJ hx) (O)) Aw (Bx O (fun _=>Gs OB O) Aw (Bx O (fun _=>BF O O (X2 ((DW d).take i) x Ao) O) Aw (CY tab 1 [] O (Cu (CT [0] O (hr:=⟨_,O⟩)))))))))
  rintro _ ⟨q1,rfl⟩;refine BC [0] rfl ?_ ?_<;>intro c2
  ·refine A9 [1] O (Bg [] [] O O ⟨⟨_,O⟩,O⟩)
  exact FR [3] 1 (i+1) O Au
 refine DH [0] O (A9 [1] O (Bg [] [] O O ⟨⟨_,O⟩,O⟩))
theorem U6:∀(n:Nat) (s:Ui) (t:Tm),(size t≤n)→(Nd t)→(IQ s.env)→(s.own.length<9000000)→(QP s.d)→Hg Tryz.prog 191 [.agg ((JK s).map .p),.agg ((BD t).map .p)] (df):=by
 intro n
 induction n with
 | zero=>intro s t h;cases t;simp[size] at h
 | succ n ih =>
  intro s t h1 h2 h3 h4 h5;have h3l:=h3.len;obtain⟨tk,ti,tn,tl,ts⟩:=t;have hk:=h2.2.2.2.2.1;have hkl:=h2.2.2.2.1;simp only[DZ] at hkl;simp only[size] at h1;refine DJ Tryz.func191 (CG [0] O O fun b2=>CG [0] O O fun b3=>Fl [4,0] 999999 [2,3] 12 (fun _=>True) O O ?_ ?_)
  ·refine BC [0] rfl ?_ ?_<;>intro c
   ·refine A2 [1] O (Ax (i:=1) qA O O (Ka _)) (CQ [2,0] O (Mp s.env tn h3) (Bp [3] O (Az GK O) fun b5=>?_));refine BC [4,0,1] rfl ?_ ?_<;>intro c1
    ·refine A2 [1] O (Ax (i:=2) YR O O (ZA _)) (CQ [2,1] O (X2 s.own tn h4) ?_);refine BC [1] rfl ?_ ?_<;>intro c2
     ·refine A9 [1] O (Bg [] [] O O ⟨⟨_,O⟩,O⟩)
     refine A2 [1] O (Bq (i:=2) TF O O (V8 _) (DF _)) (A2 [1] O (Ax (i:=2) qA O O (Ka _)) (B9 [0] O O (List.length_map _) (CQ [2,1] O (V9 s.d (s.env.length:Nat) tn h5.cl h5.fl) (B9 [3,0,1,1] O O (List.length_map _) (A2 [1] O (Ax (i:=0) Dz O O (IX _)) ?_)))));refine BC [1] rfl ?_ ?_<;>intro c3
     ·refine A9 [1] O (Bg [] [] O O ⟨⟨_,O⟩,O⟩)
     exact CT [0] O (hr:=Aw) (hs:=(G7 (is:=[1,2]) O))
    refine B9 [2,1] O O (List.length_map _) (A2 [1] O (Ax (i:=0) Dz O O (IX _)) ?_);refine BC [1] rfl ?_ ?_<;>intro c2
    ·refine A9 [1] O (Bg [] [] O O ⟨⟨_,O⟩,O⟩)
    exact CT [0] O (hr:=Aw) (hs:=(G7 (is:=[1,2]) O))
   exact CT [0] O (hr:=Aw)
  intro _ _;refine GG (α:=Nat) [1] [2,3] [0,1] (fun i=>[(7,.p (I (i:Int)))]) (fun _=>[]) (fun i=>ts.length - i) (fun i=>i≤ts.length) 0 O O O AY ?_;rintro i hC
  try simp only at hC
  have hi:=hC;refine B9 [3,0] O O (A8 _) ?_;refine BC [1] rfl ?_ ?_<;>intro c
  ·refine E2 [0] [6] O (Bb [4,1,0] O ?_);obtain⟨x,hx⟩:=A1 (l:=ts) (i:=i) Au;refine A3 O (fun _=>A0 BT O O Au (BO hx) (A7 _)) Aw (A3 O (fun _=>Bk CN O (A7 _)) Aw (Ls [] O O (B7 O O (ih s x (by have:=CU hx;omega) (DU hk hx) h3 h4 h5) (.inl O)) Ap (⟨_,0,O⟩) AB ?_));rintro _ ⟨e,rfl⟩;refine⟨Aw,?_⟩;refine Dj [1] rfl (BC [2] rfl ?_ ?_)<;>intro c1
   ·refine A9 [2] O (Bg [] [] O O ⟨⟨_,O⟩,O⟩)
   exact FR [3] 0 (i+1) O Au
  refine DH [0] O (A9 [1] O (Bg [] [] O O ⟨⟨_,O⟩,O⟩))
theorem dF:∀(d:B8),(QP d)→Hg Tryz.prog 141 [.agg ((B0 d).map .p)] (fun v=>∃ee:Int,v= .p (I ee)∧(ee=0→Xf d)):=by
 intro d h1;have hfl:=h1.fl;have hcl:=h1.cl;have hrl:=h1.rl;refine DJ Tryz.func141 (CG [0] O O fun b1=>CJ [1] 1 [1] 16 (((decide ((d.params:Int)<(0:Int)))||(decide ((d.params:Int) > (8:Int))))||(decide ((d.fixed:Int)<(0:Int)))) O O ?_ ?_)
 ·refine A2 [1] O (Ax (i:=0) Dz O O (Cv _)) ?_;refine Bc [2] 7 rfl rfl ?_ ?_<;>intro g
  ·exact CT [9] O
  refine A2 [1] O (Ax (i:=0) Dz O O (Cv _)) ?_;refine Bc [3] 12 rfl rfl ?_ ?_<;>intro g1
  ·exact CT [4] O
  exact A2 [1] O (Ax (i:=0) Dz O O (Cr _)) (CT [2] O)
 refine BC [0] rfl ?_ ?_<;>intro c
 ·refine A9 [1] O (Bg [] [] O O ⟨⟨_,O,fun h=>absurd h As⟩,O⟩)
 have hf0:0≤d.fixed:=by omega
 refine Fl [0] 3 [1] 37 LS O O ?_ ?_
 ·refine A2 [1] O (Ax (i:=0) GB O O (B5 _)) (B9 [0] O O (List.length_map _) ?_);refine Bc [2] 21 rfl rfl ?_ ?_<;>intro g
  ·exact CT [16] O (hr:=⟨_,O⟩)
  refine A2 [1] O (Ax (i:=0) Dz O O (EN _)) ?_;refine Bc [2] 25 rfl rfl ?_ ?_<;>intro g1
  ·refine A2 [1] O (Ax (i:=0) F4 O O (CD _)) (B9 [0] O O (List.length_map _) ?_);refine Bc [2] 30 rfl rfl ?_ ?_<;>intro g2
   ·exact CT [7] O (hr:=⟨_,O⟩)
   exact A2 [1] O (Ax (i:=0) F4 O O (CD _)) (B9 [0] O O (List.length_map _) (CT [4] O (hr:=⟨_,O⟩)))
  exact CT [12] O (hr:=⟨_,O⟩)
 rintro _ ⟨q,rfl⟩;refine BC [0] rfl ?_ ?_<;>intro c1
 ·refine A9 [1] O (Bg [] [] O O ⟨⟨_,O,fun h=>absurd h As⟩,O⟩)
 refine GG (α:=Nat) [1] [1] [0] (fun i=>[(3,.p (I (i:Int)))]) (fun _=>[]) (fun i=>d.funs.length - i) (fun i=>i≤d.funs.length∧(∀j,j<i→∀x,d.funs[j]?=some x→1≤x.arity∧x.arity≤16)) 0 O O O (⟨by omega,fun j h=>by omega⟩) ?_;rintro i hC
 try simp only at hC
 obtain⟨hi,hC⟩:=hC;refine A2 [2] O (Ax (i:=0) F4 O O (CD _)) (B9 [0] O O (List.length_map _) ?_);refine BC [1] rfl ?_ ?_<;>intro c2
 ·obtain⟨x,hx⟩:=A1 (l:=d.funs) (i:=i) Au;refine Fl [0] 8 [1,3] 60 (fun y=>∃q:Bool,y= .p (.bool q)∧(q=false→1≤x.arity∧x.arity≤16)) O O ?_ ?_
  ·refine A2 [1] O (Ax (i:=0) F4 O O (CD _)) (A2 [1] O (A0 J4 O O Au (Fh hx) (Ee _)) (A2 [1] O (DR Dz O (C9 _)) ?_));refine Bc [2] 52 rfl rfl ?_ ?_<;>intro g
   ·exact CT [8] O (hr:=(by refine⟨_,rfl,fun h=>?_⟩;first | (exact absurd h As) | (simp only[decide_eq_false_iff_not] at h;omega) | omega))
   exact A2 [1] O (Ax (i:=0) F4 O O (CD _)) (A2 [1] O (A0 J4 O O Au (Fh hx) (Ee _)) (A2 [1] O (DR Dz O (C9 _)) (CT [2] O (hr:=(by refine⟨_,rfl,fun h=>?_⟩;first | (exact absurd h As) | (simp only[decide_eq_false_iff_not] at h;omega) | omega)))))
  rintro _ ⟨q,rfl,hq⟩;refine BC [0] rfl ?_ ?_<;>intro c3
  ·refine A9 [1] O (Bg [] [] O O ⟨⟨_,O,fun h=>absurd h As⟩,O⟩)
  have hq3:=hq (by simpa using c3);exact FR [3] 0 (i+1) O (⟨by omega,Cg (p:=fun _ (x:I9)=>1≤x.arity∧x.arity≤16) hC hx hq3⟩)
 refine DH [0] O (Fl [0] 10 [] 95 (fun y=>∃q:Bool,y= .p (.bool q)∧(q=false→d.kind=3→d.fixed≤1000000)) O O ?_ ?_)
 ·refine A2 [1] O (Ax (i:=0) Dz O O (EN _)) ?_;refine Bc [2] 64 rfl rfl ?_ ?_<;>intro g
  ·refine A2 [2] O (Ax (i:=0) Dz O O (Du _)) (A2 [1] O (Ax (i:=0) Dz O O (Cv _)) ?_);refine Bc [2] 71 rfl rfl ?_ ?_<;>intro g1
   ·refine A2 [2] O (Ax (i:=0) Dz O O (Du _)) (A2 [1] O (Ax (i:=0) Dz O O (Cv _)) (A2 [0] O (Eg O O) ?_));refine Bc [3] 80 rfl rfl ?_ ?_<;>intro g2
    ·exact CT [15] O (hr:=(by refine⟨_,rfl,fun h h3=>?_⟩;first | (exact absurd h As) | omega | exact hq (by simpa using h)))
    refine A2 [2] O (Ax (i:=0) JX O O (Co _)) (B9 [0] O O (A8 _) (A2 [1] O (Ax (i:=0) GB O O (B5 _)) (B9 [0] O O (List.length_map _) ?_)));refine Bc [3] 90 rfl rfl ?_ ?_<;>intro g3
    ·exact CT [5] O (hr:=(by refine⟨_,rfl,fun h h3=>?_⟩;first | (exact absurd h As) | omega | exact hq (by simpa using h)))
    refine DT [1,0] O (I8 O O O O (B7 O O (WO d h1) (.inl O)) ?_);rintro _ ⟨q1,rfl,hq⟩;refine BW (Ku [3] O ?_);exact⟨O,O,AQ,(by refine⟨_,rfl,fun h h3=>?_⟩;first | (exact absurd h As) | omega | exact hq (by simpa using h)),Aw⟩
   refine A2 [11] O (Ax (i:=0) JX O O (Co _)) (B9 [0] O O (A8 _) (A2 [1] O (Ax (i:=0) GB O O (B5 _)) (B9 [0] O O (List.length_map _) ?_)));refine Bc [3] 90 rfl rfl ?_ ?_<;>intro g2
   ·exact CT [5] O (hr:=(by refine⟨_,rfl,fun h h3=>?_⟩;first | (exact absurd h As) | omega | exact hq (by simpa using h)))
   refine DT [1,0] O (I8 O O O O (B7 O O (WO d h1) (.inl O)) ?_);rintro _ ⟨q1,rfl,hq⟩;refine BW (Ku [3] O ?_);exact⟨O,O,AQ,(by refine⟨_,rfl,fun h h3=>?_⟩;first | (exact absurd h As) | omega | exact hq (by simpa using h)),Aw⟩
  exact CT [31] O (hr:=(by refine⟨_,rfl,fun h h3=>?_⟩;first | (exact absurd h As) | omega | exact hq (by simpa using h)))
 rintro _ ⟨q,rfl,hq⟩;refine BC [0] rfl ?_ ?_<;>intro c3
 ·refine A9 [1] O (Bg [] [] O O ⟨⟨_,O,fun h=>absurd h As⟩,O⟩)
 have hq4:=hq (by simpa using c3);refine A9 [1] O (Bg [] [] O O ⟨⟨_,O,fun _=>⟨hf0,IP Au hC,hq4⟩⟩,O⟩)
theorem IA:∀(s:Ui) (t:Tm) (vs ps:Int),(ZO t)→(IQ s.env)→(s.own.length<9000000)→(QP s.d)→(vs≤549755813888)→Hg Tryz.prog 170 [.agg ((JK s).map .p),.agg ((BD t).map .p),.p (I vs),.p (I ps)] (fun v=>∃ee:Int,v= .p (I ee)∧(ee=0→okB t=true∧uh vs t)):=by
 intro s t vs ps h1 h2 h3 h4 h5;refine DJ Tryz.func170 (CG [0] O O fun b4=>CG [0] O O fun b5=>DT [4,0] O (EF O O (B7 O O (P6 t vs ps 0 0 h1.nd h1.sz) (.inl O)) ?_));rintro _ ⟨e,rfl,he⟩;refine BW (BC [3] rfl ?_ ?_)<;>intro c
 ·refine A9 [2] O (Bg [] [] O O ⟨⟨_,O,fun h=>absurd h Aq⟩,O⟩)
 refine DT [2,1,0] O (EF O O (B7 O O (U6 (size t) s t (Nat.le_refl _) h1.nd h2 h3 h4) (.inl O)) ?_);rintro _ ⟨e1,rfl⟩;refine BW (A9 [1] O (Bg [] [] O O ⟨⟨_,O,fun _=>⟨lM h1.nd h1.sz h5 (he Au),_,(he Au).1⟩⟩,O⟩))
theorem Wi:∀(n:Nat) (a b:FV),(MK a≤n)→(JR a)→Hg Tryz.prog 192 [.agg ((EC a).map .p),.agg ((EC b).map .p)] (fun v=>∃bb:Bool,v= .p (.bool bb)∧(bb=true→MN a.body b.body=true∧a.branches.length=b.branches.length)):=by
 intro n
 induction n with
 | zero=>intro a b h;have:=QE a;omega
 | succ n ih =>
  intro a b h1 h2;have hal:=h2.bl;refine DJ Tryz.func192 (CG [0] O O fun b2=>CG [0] O O fun b3=>Fl [1] 1 [2,3] 36 (fun y=>∃q:Bool,y= .p (.bool q)∧(q=false→a.branches.length=b.branches.length∧MN a.body b.body=true)) O O ?_ ?_)
  ·refine A2 [1] O (Ax (i:=1) Dz O O (HT _)) (A2 [1] O (Ax (i:=0) Dz O O (HT _)) ?_);refine Bc [2] 13 rfl rfl ?_ ?_<;>intro g
   ·exact CT [23] O (hr:=(by refine⟨_,rfl,fun h=>?_⟩;first | (exact absurd h As) | (simp_all;done) | (simp_all;omega)))
   refine A2 [1] O (Ax (i:=1) Dz O O (DD _)) (A2 [1] O (Ax (i:=0) Dz O O (DD _)) ?_);refine Bc [3] 20 rfl rfl ?_ ?_<;>intro g1
   ·exact CT [16] O (hr:=(by refine⟨_,rfl,fun h=>?_⟩;first | (exact absurd h As) | (simp_all;done) | (simp_all;omega)))
   refine A2 [1] O (Bq (i:=1) CN O O (Fo _) (A7 _)) (A2 [1] O (Bq (i:=0) CN O O (Fo _) (A7 _)) (CQ [0] O (Xe _ a.body b.body (Nat.le_refl _) h2.body.nd) ?_));refine Bc [3] 28 rfl rfl ?_ ?_<;>intro g2
   ·exact CT [8] O (hr:=(by refine⟨_,rfl,fun h=>?_⟩;first | (exact absurd h As) | (simp_all;done) | (simp_all;omega)))
   exact A2 [1] O (Ax (i:=1) IB O O (CC _)) (B9 [0] O O (Gp _) (A2 [1] O (Ax (i:=0) IB O O (CC _)) (B9 [0] O O (Gp _) (CT [2] O (hr:=(by refine⟨_,rfl,fun h=>?_⟩;first | (exact absurd h As) | (simp_all;done) | (simp_all;omega)))))))
  rintro _ ⟨q,rfl,hq⟩;refine BC [0] rfl ?_ ?_<;>intro c
  ·refine A9 [1] O (Bg [] [] O O ⟨⟨_,O,fun h=>absurd h As⟩,O⟩)
  obtain⟨hqa,hqb⟩:=hq (by simpa using c);refine GG (α:=Nat) [1] [2,3] [0,1] (fun i=>[(5,.p (I (i:Int)))]) (fun _=>[]) (fun i=>a.branches.length - i) (fun i=>i≤a.branches.length) 0 O O O AY ?_;rintro i hC
  try simp only at hC
  have hi:=hC;refine A2 [2] O (Ax (i:=1) IB O O (CC _)) (B9 [0] O O (Gp _) ?_);refine BC [1] rfl ?_ ?_<;>intro c1
  ·obtain⟨x,hx⟩:=A1 (l:=a.branches) (i:=i) Au;obtain⟨x1,hx1⟩:=A1 (l:=b.branches) (i:=i) Au;refine CK [0] O (eG [.val (.ptr b2 (0+7)),.val (.p (.lst (MW a.branches))),.val (.p (I (i:Int))),.val (.ref (Hc x)),.val (.agg ((Hc x).map .p)),.val (.ptr b3 (0+7)),.val (.p (.lst (MW b.branches))),.val (.p (I (i:Int))),.val (.ref (Hc x1)),.val (.agg ((Hc x1).map .p)),.new [.p (.str ⟨#[]⟩),.p (.bool false),.p (I 0),.p (I 0),.p (I 0),.p (.str ⟨#[]⟩),.p (.nils),.p (.nils),.p (I 0),.p (.nils)],.new [.p (.str ⟨#[]⟩),.p (.bool false),.p (I 0),.p (I 0),.p (I 0),.p (.str ⟨#[]⟩),.p (.nils),.p (.nils),.p (I 0),.p (.nils)]] [.p .any,.p .any] [5,6,7,8,9] Oq O Ap Ap Ap (C3 O (fun Bs=>BG eD O O) (C3 O (fun Bs=>Ax (i:=Bs.length+1) IB O (EB O) (CC _)) (C3 O (fun Bs=>Bj O) (C3 O (fun Bs=>A0 RA O O Au (ID hx) (EY _)) ?_)))));refine C3 O (fun Bs=>Bk eB O (EY _)) (C3 O (fun Bs=>BG eD O O) (C3 O (fun Bs=>Ax (i:=Bs.length+0) IB O (EB O) (CC _)) (C3 O (fun Bs=>Bj O) (C3 O (fun Bs=>A0 RA O O Au (ID hx1) (EY _)) (C3 O (fun Bs=>Bk eB O (EY _)) (NL O (fun Bs=>Az l8 O) fun b6=>NL O (fun Bs=>Az l8 O) fun b7=>KQ (SB [.box b6 ((Hc x).map .p),.box b7 [.p (.str ⟨#[]⟩),.p (.bool false),.p (I 0),.p (I 0),.p (I 0),.p (.str ⟨#[]⟩),.p (.nils),.p (.nils),.p (I 0),.p (.nils)]] O (DX (i:=0) eB O O O (by simp[EY]) (by first | rfl | simp[EY]) (Xn _)) ?_)))))));refine SB [.box b6 ((Hc x).map .p),.box b7 ((Hc x1).map .p)] O (DX (i:=1) eB O O O (by simp[EY]) (by first | rfl | simp[EY]) (Xn _)) (Ob (Cu (Fl [0] 7 [2,3,5] 73 LS O O ?_ ?_)))
   ·refine A2 [1] O (Ax (i:=0) OB O O (HV _)) (A2 [1] O (Ax (i:=1) OB O O (HV _)) (A2 [0] O (Jq O O) ?_));refine Bc [1] 59 rfl rfl ?_ ?_<;>intro g
    ·exact CT [14] O (hr:=⟨_,O⟩)
    refine A2 [1] O (Ax (i:=0) vQ O O (HL _)) (A2 [1] O (Ax (i:=1) vQ O O (HL _)) (A2 [0] O (UW wv O O) ?_));refine Bc [2] 66 rfl rfl ?_ ?_<;>intro g1
    ·exact CT [7] O (hr:=⟨_,O⟩)
    refine A2 [1] O (Bq (i:=0) LI O O (Gd _) (Dt _)) (A2 [1] O (Bq (i:=1) LI O O (Gd _) (Dt _)) (DT [0] O (I8 O O O O (B7 O O (ih x.tree x1.tree (by have:=Tn hx;omega) (J3 h2.bs hx).tr) (.inl O)) ?_)));rintro _ ⟨q1,rfl,hq⟩;refine BW (Ku [2] O ?_);exact⟨O,O,AQ,⟨_,O⟩,⟨O,O,O,Aw⟩⟩
   rintro _ ⟨q1,rfl⟩;refine BC [0] rfl ?_ ?_<;>intro c2
   ·refine A9 [1] O (Bg [] [] O O ⟨⟨_,O,fun h=>absurd h As⟩,O⟩)
   exact FR [3] 2 (i+1) O Au
  refine DH [0] O (A9 [1] O (Bg [] [] O O ⟨⟨_,O,fun _=>⟨hqb,hqa⟩⟩,O⟩))
theorem bU:∀(n:Nat) (s:Ui) (t:FV) (vs dp:Int),(MK t≤n)→(JR t)→(Lb s.env)→(s.own.length<9000000)→(QP s.d)→(0≤dp∧dp≤200)→(0≤vs∧vs+(201 - dp)*1000000≤549755813888)→Hg Tryz.prog 171 [.agg ((JK s).map .p),.agg ((EC t).map .p),.p (I vs),.p (I dp)] (fun v=>∃ee:Int,v= .p (I ee)∧(ee=0→FD t∧Um s.env vs t)):=by
 intro n
 induction n with
 | zero=>intro s t vs dp h;have:=QE t;omega
 | succ n ih =>
  intro s t vs dp h1 h2 h3 h4 h5 h6 h7;have htl:=h2.bl;refine DJ Tryz.func171 (CG [0] O O fun b4=>CG [0] O O fun b5=>?_);refine BC [3] rfl ?_ ?_<;>intro c
  ·refine A9 [1] O (Bg [] [] O O ⟨⟨_,O,fun h=>absurd h As⟩,O⟩)
  refine A2 [1] O (Ax (i:=0) Dz O O (HT _)) ?_;refine BC [2] rfl ?_ ?_<;>intro c1
  ·refine CJ [0] 6 [2,4,5] 28 (((t.var:Int) !=(0:Int))||(decide (((t.branches.length:Nat):Int) > (0:Int)))) O O ?_ ?_
   ·refine A2 [1] O (Ax (i:=0) Dz O O (DD _)) ?_;refine Bc [2] 23 rfl rfl ?_ ?_<;>intro g
    ·exact CT [5] O
    exact A2 [1] O (Ax (i:=0) IB O O (CC _)) (B9 [0] O O (Gp _) (CT [2] O))
   refine BC [0] rfl ?_ ?_<;>intro c2
   ·refine A9 [1] O (Bg [] [] O O ⟨⟨_,O,fun h=>absurd h As⟩,O⟩)
   have hb0:t.branches.length=0:=by omega
   refine A2 [2,1] O (Bq (i:=0) CN O O (Fo _) (A7 _)) (A2 [3] O (Ax (i:=1) Dz O O (Qa _)) (DT [0] O (EF O O (B7 O O (IA s t.body vs s.d.params h2.body h3.env h4 h5 Au) (.inl O)) ?_)));rintro _ ⟨e,rfl,he⟩;refine BW (A9 [1] O (Bg [] [] O O ⟨⟨_,O,fun h=>⟨Tk (he h).1 (sT hb0),.leaf Au (he h).2⟩⟩,O⟩))
  refine BC [2] rfl ?_ ?_<;>intro c2
  ·refine A2 [1] O (Bq (i:=0) CN O O (Fo _) (A7 _)) (CQ [0] O (LA t.body h2.body.nd) ?_);refine BC [1] rfl ?_ ?_<;>intro c3
   ·refine A9 [1] O (Bg [] [] O O ⟨⟨_,O,fun h=>absurd h As⟩,O⟩)
   have hz0:MN t.body BN=true:=by simpa using c3
   refine CJ [0] 12 [2,3,4,5] 51 ((decide ((t.var:Int)<(0:Int)))||(decide ((t.var:Int)≥(vs:Int)))) O O ?_ ?_
   ·refine A2 [1] O (Ax (i:=0) Dz O O (DD _)) ?_;refine Bc [2] 46 rfl rfl ?_ ?_<;>intro g
    ·exact CT [5] O
    exact A2 [1] O (Ax (i:=0) Dz O O (DD _)) (CT [3] O)
   refine BC [0] rfl ?_ ?_<;>intro c4
   ·refine A9 [1] O (Bg [] [] O O ⟨⟨_,O,fun h=>absurd h As⟩,O⟩)
   refine A2 [1] O (Ax (i:=0) IB O O (CC _)) (B9 [0] O O (Gp _) ?_);refine BC [1] rfl ?_ ?_<;>intro c5
   ·refine A9 [1] O (Bg [] [] O O ⟨⟨_,O,fun h=>absurd h As⟩,O⟩)
   refine GG (α:=Nat) [1] [2,3,4,5] [0,1] (fun i=>[(9,.p (I (i:Int)))]) (fun _=>[]) (fun i=>t.branches.length - i) (fun i=>i≤t.branches.length∧(∀j,j<i→∀x,t.branches[j]?=some x→FD x.tree∧uL s.env vs x)) 0 O O O (⟨by omega,fun j h=>by omega⟩) ?_;rintro i hC
   try simp only at hC
   obtain⟨hi,hC⟩:=hC;refine A2 [2] O (Ax (i:=0) IB O O (CC _)) (B9 [0] O O (Gp _) ?_);refine BC [1] rfl ?_ ?_<;>intro c6
   ·refine A2 [1] O (Ax (i:=0) IB O O (CC _)) (D6 [1] t.branches i O O O (s9 _) (fun x hx=>?_));refine Bp [1] O (Az l8 O) fun b10=>A2 [2,0,1] O (Ax (i:=2) qA O O (Ka _)) (A2 [1] O (Ax (i:=0) OB O O (HV _)) (CQ [0] O (Mp s.env x.ctor h3.env) (Bp [3] O (Az GK O) fun b11=>Fl [2,0,1] 21 [2,3,4,5,9,10,11] 82 (fun y=>∃q:Bool,y= .p (.bool q)∧(q=false→(BY s.env x.ctor).2=0∧(BY s.env x.ctor).1.kind=4)) O O ?_ ?_)))
    ·refine Bc [3] 78 rfl rfl ?_ ?_<;>intro g
     ·exact CT [4] O (hr:=(by refine⟨_,rfl,fun h=>?_⟩;first | (exact absurd h As) | exact⟨by simpa using g,by simpa using h⟩))
     refine A2 [1] O (Ax (i:=0) Dz O O (Fb _)) ?_;exact CT [2] O (hr:=(by refine⟨_,rfl,fun h=>?_⟩;first | (exact absurd h As) | exact⟨by simpa using g,by simpa using h⟩))
    rintro _ ⟨q,rfl,hq⟩;refine BC [0] rfl ?_ ?_<;>intro c7
    ·refine A9 [1] O (Bg [] [] O O ⟨⟨_,O,fun h=>absurd h As⟩,O⟩)
    obtain⟨hqc,hqd⟩:=hq (by simpa using c7);obtain⟨dd,k1,k2,k3,k4⟩:=aq hqc hqd;refine A2 [1] O (Ax (i:=1) vQ O O (HL _)) ?_;refine BC [0] rfl ?_ ?_<;>intro c8
    ·have hab:x.absurd=true:=by simpa using c8
     refine A2 [1] O (Bq (i:=1) LI O O (Gd _) (Dt _)) (DT [1] O (EF O O (B7 O O (BL.args (Wi (MK x.tree) x.tree (FV.mk 0 (.mk 0 0 ⟨#[]⟩ [] []:Tm) 0 []) (Nat.le_refl _) (J3 h2.bs hx).tr) (aw (we O) (aw (FY O) (HW)))) (.inl O)) ?_));rintro _ ⟨q1,rfl,hq⟩;refine BW (BC [1] rfl ?_ ?_)<;>intro c9
     ·refine A9 [1] O (Bg [] [] O O ⟨⟨_,O,fun h=>absurd h As⟩,O⟩)
     have hok:FD x.tree∧uL s.env vs x:=⟨dC (hq (by simpa using c9)).1 (hq (by simpa using c9)).2,fun h=>by rw[hab] at h;cases h⟩;exact FR [3] 2 (i+1) O (⟨by omega,Cg (p:=fun _ (y:G3)=>FD y.tree∧uL s.env vs y) hC hx hok⟩)
    have hab:x.absurd=false:=by simpa using c8
    refine E2 [0] [16] O (Bb [2,3] O (CF (j:=1) O O O (fun H i hi=>Bq (i:=i) LI O hi (Gd _) (Dt _)) AB Aw (Bb [2] O (CF (j:=3) O O O (fun H i hi=>Ax (i:=i) qA O hi (Ka _)) AB Aw (Bb [1] O (CF (j:=0) O O O (fun H i hi=>Ax (i:=i) Dz O hi (EO _)) AB Aw ?_))))));obtain⟨x1,hx1⟩:=A1 (l:=s.env) (i:=(((BY s.env x.ctor).1).decl:Int).toNat) (by have:=(List.getElem?_eq_some_iff.1 k2).1;omega);refine A3 O (fun _=>A0 QV O O Au (HI hx1) (DF _)) Aw (Bb [2] O (CF (j:=0) O O O (fun H i hi=>Ax (i:=i) Dz O hi (Gb _)) AB Aw ?_));have hfr:=MB (h3.all _ (List.mem_of_getElem? hx1)).din k3 (by have e:=Option.some.inj (k2.symm.trans hx1);subst e;exact k4) (h3.all _ (List.mem_of_getElem? hx1)).fx.1;refine A3 O (fun _=>BF O O (WJ x1 (((BY s.env x.ctor).1).item) (h3.all _ (List.mem_of_getElem? hx1)).din (h3.all _ (List.mem_of_getElem? hx1)).fx k3 (by have e:=Option.some.inj (k2.symm.trans hx1);subst e;exact k4)) O) Aw (Bb [3] O (Ls [] O O (B7 O O (ih s x.tree ((vs:Int)+(Ed x1 (((BY s.env x.ctor).1).item):Int)) ((dp:Int)+(1:Int)) (by have:=Tn hx;omega) (J3 h2.bs hx).tr h3 h4 h5 Au Au) (.inl O)) Ap (⟨_,1,O,fun h=>absurd h As⟩) AB ?_));rintro _ ⟨e,rfl,he⟩;refine⟨Aw,?_⟩;refine Dj [1] rfl (BC [2] rfl ?_ ?_)<;>intro c9
    ·refine A9 [2] O (Bg [] [] O O ⟨⟨_,O,fun h=>absurd h Aq⟩,O⟩)
    have hok:FD x.tree∧uL s.env vs x:=s6 hqc hqd hx1 (@he Au);exact FR [3] 2 (i+1) O (⟨by omega,Cg (p:=fun _ (y:G3)=>FD y.tree∧uL s.env vs y) hC hx hok⟩)
   refine DH [0] O (A9 [1] O (Bg [] [] O O ⟨⟨_,O,fun _=>⟨Tk (by rw[Ge.1 hz0];exact J7) (fun x hx=>(IP Au hC x hx).1),p9 Au (IP Au hC)⟩⟩,O⟩))
  refine A9 [1] O (Bg [] [] O O ⟨⟨_,O,fun h=>absurd h As⟩,O⟩)
theorem hP:∀(ds:List B8) (d:B8),(Lb ds)→(QP d)→(Xf d)→Hg Tryz.prog 143 [.p (.lst (List.map B0 ds)),.agg ((B0 d).map .p)] (fun v=>∃ee:Int,v= .p (I ee)∧(ee=0→QB ds d)):=by
 intro ds d h1 h2 h3;have hn:=Om d;have hcl:=h2.cl;have hfl:=h2.fl;have hrl:=h2.rl;refine DJ Tryz.func143 (CG [0] O O fun b3=>A2 [3,0] O (nT vU sC (wB O O O)) (Bp [0] O (Az sC O) fun b5=>A2 [2,0,1] O (Ax (i:=1) Dz O O (EN _)) (Fl [1] 999999 [3,5] 17 (fun _=>True) O O ?_ ?_)))
 ·refine BC [0] rfl ?_ ?_<;>intro c
  ·refine A2 [2,0] O (Bq (i:=1) CN O O (Fi _) (A7 _)) (A2 [1] O (Ax (i:=1) Dz O O (Cv _)) (DT [0] O (EF O O (B7 O O (IA (Ui.mk ds [] d) d.type 0 d.params h2.ty h1.env Av h2 Au) (.inl O)) ?_)));rintro _ ⟨e,rfl,he⟩;refine BW (BC [3] rfl ?_ ?_)<;>intro c1
   ·refine A9 [2] O (Bg [] [] O O ⟨⟨_,O,fun h=>absurd h Aq⟩,O⟩)
   exact CT [0] O (hr:=Aw)
  exact CT [0] O (hr:=Aw)
 intro _ _;refine A2 [1] O (Ax (i:=1) Dz O O (EN _)) (CJ [2] 999999 [3,5,33] 34 (decide (d.kind=1∨d.kind=2)) O O ?_ ?_)
 ·refine BC [0] rfl ?_ ?_<;>intro c
  ·exact CT [0] O (hr:=(by refine pB (Bool.eq_iff_iff.2 ?_);simp only[beq_iff_eq,decide_eq_true_eq];omega))
  exact CT [2] O (hr:=(by refine pB (Bool.eq_iff_iff.2 ?_);simp only[beq_iff_eq,decide_eq_true_eq];omega))
 refine BC [0] rfl ?_ ?_<;>intro c
 ·have hk12:d.kind=1∨d.kind=2:=by simpa using c
  refine A2 [2,0] O (Bq (i:=1) CN O O (Ft _) (A7 _)) (A2 [1] O (Ax (i:=1) Dz O O (Cv _)) (DT [0] O (EF O O (B7 O O (IA (Ui.mk ds [] d) d.value 0 d.params h2.vl h1.env Av h2 Au) (.inl O)) ?_)));rintro _ ⟨e,rfl,he⟩;refine BW (A9 [1] O (Bg [] [] O O ⟨⟨_,O,fun h=>⟨fun _=>he h,fun _=>by omega,fun _=>by omega⟩⟩,rfl⟩))
 have hk12:¬(d.kind=1∨d.kind=2):=by simpa using c
 refine BC [2] rfl ?_ ?_<;>intro c1
 ·have hn1:=iB (d:=d) (by simpa using c1);have hk3:=c1;refine A2 [1] O (Ax (i:=1) OB O O (Da _)) (A2 [0] O (BH Jf qm O O O O O) (A2 [1] O (EI (i:=0) (ds:=(JK (Ui.mk ds [d.name] d)).map .p) YR O O O O O O O) (GG (α:=Nat) [1] [3,5] [0,1] (fun i=>[(7,.p (I (i:Int)))]) (fun _=>[]) (fun i=>d.ctors.length - i) (fun i=>i≤d.ctors.length) 0 O O O AY ?_)));rintro i hC
  try simp only at hC
  have hi:=hC;refine A2 [2] O (Ax (i:=1) GB O O (B5 _)) (B9 [0] O O (List.length_map _) ?_);refine BC [1] rfl ?_ ?_<;>intro c2
  ·refine E2 [0] [9] O (Bb [2,0] O (CF (j:=1) O O O (fun H i hi=>Ax (i:=i) GB O hi (B5 _)) AB Aw (A3 O (fun _=>Bj O) Aw ?_)));obtain⟨x,hx⟩:=A1 (l:=d.ctors) (i:=i) Au;refine A3 O (fun _=>A0 Kb O O Au (Gq hx) (Ei _)) Aw (A3 O (fun _=>DM US O O) Aw (A3 O (fun _=>Dh CN O (GY _) (A7 _)) Aw (A3 O (fun _=>BG Kn O O) Aw (CF (j:=1) O O O (fun H i hi=>Ax (i:=i) Dz O hi (Cv _)) AB Aw (Ls [] O O (B7 O O (IA (Ui.mk ds [d.name] d) x.type 0 d.params (h2.cs _ (List.mem_of_getElem? hx)).ty h1.env Av h2 Au) (.inl O)) Ap (⟨_,1,O,fun h=>absurd h As⟩) AB ?_)))));rintro _ ⟨e,rfl,he⟩;refine⟨Aw,?_⟩;refine Dj [1] rfl (BC [2] rfl ?_ ?_)<;>intro c3
   ·refine A9 [2] O (Bg [] [] O O ⟨⟨_,O,fun h=>absurd h Aq⟩,O⟩)
   exact FR [3] 0 (i+1) O Au
  refine DH [0] O (CQ [1,1] O (Ni d h2.cl h2.fl h2.nm) (B9 [3] O O (List.length_map _) (A2 [1] O (Cn (lo:=0) (hi:=((((DW d).length:Nat):Int) - (1:Int):Int).toNat) Jf O (CX (K4 _)) O ⟨_,pI Au⟩ (Nat.zero_le _) AZ (bW (f:=Ib) (DW d) (((((DW d).length:Nat):Int) - (1:Int):Int).toNat))) (A2 [1] O (EI (i:=0) (ds:=(JK (Ui.mk ds ((DW d).take (((((DW d).length:Nat):Int) - (1:Int):Int).toNat)) d)).map .p) YR O O O O O O O) (A2 [3,0] O (Bq (i:=1) CN O O (Fc _) (A7 _)) (A2 [2] O (Ax (i:=1) Dz O O (Du _)) (DT [0] O (EF O O (B7 O O (IA (Ui.mk ds ((DW d).take (((((DW d).length:Nat):Int) - (1:Int):Int).toNat)) d) d.recs.type 0 d.recs.params h2.rt h1.env Ao h2 Au) (.inl O)) ?_))))))));rintro _ ⟨e,rfl,he⟩;refine BW (BC [3] rfl ?_ ?_)<;>intro c3
  ·refine A9 [2] O (Bg [] [] O O ⟨⟨_,O,fun h=>absurd h Aq⟩,O⟩)
  refine A2 [2] O (EI (i:=0) (ds:=(JK (Ui.mk ds (DW d) d)).map .p) YR O O O O O O O) ?_;refine GG (α:=Nat) [1] [3,5] [0,1] (fun i=>[(11,.p (I (i:Int)))]) (fun _=>[]) (fun i=>d.recs.rules.length - i) (fun i=>i≤d.recs.rules.length∧(∀j,j<i→∀x,d.recs.rules[j]?=some x→okB x=true∧uh 0 x)) 0 O O O (⟨by omega,fun j h=>by omega⟩) ?_;rintro i hC1
  try simp only at hC1
  obtain⟨hi,hR⟩:=hC1;refine A2 [3] O (Ax (i:=1) JX O O (Co _)) (B9 [0] O O (A8 _) ?_);refine BC [1] rfl ?_ ?_<;>intro c4
  ·refine E2 [0] [10] O (Bb [3,0] O (CF (j:=1) O O O (fun H i hi=>Ax (i:=i) JX O hi (Co _)) AB Aw (A3 O (fun _=>Bj O) Aw ?_)));obtain⟨x,hx⟩:=A1 (l:=d.recs.rules) (i:=i) Au;refine A3 O (fun _=>A0 BT O O Au (BO hx) (A7 _)) Aw (Bb [3] O (CF (j:=1) O O O (fun H i hi=>Ax (i:=i) Dz O hi (Du _)) AB Aw (Ls [] O O (B7 O O (IA (Ui.mk ds (DW d) d) x 0 d.recs.params (h2.rs _ (List.mem_of_getElem? hx)) h1.env (by simp only;omega) h2 Au) (.inl O)) Ap (⟨_,1,O,fun h=>absurd h As⟩) AB ?_)));rintro _ ⟨e1,rfl,he1⟩;refine⟨Aw,?_⟩;refine Dj [1] rfl (BC [2] rfl ?_ ?_)<;>intro c5
   ·refine A9 [2] O (Bg [] [] O O ⟨⟨_,O,fun h=>absurd h Aq⟩,O⟩)
   exact FR [3] 0 (i+1) O (⟨by omega,Cg (p:=fun _ (y:Tm)=>okB y=true∧uh 0 y) hR hx (he1 Au)⟩)
  refine DH [0] O ?_;refine A9 [1] O (Bg [] [] O O ⟨⟨_,O,fun _=>⟨fun _=>by omega,fun _=>IP Au hR,fun _=>by omega⟩⟩,rfl⟩)
 have hk3:=c1;refine BC [2] rfl ?_ ?_<;>intro c2
 ·refine GG (α:=Nat) [1] [3,5] [0,1] (fun i=>[(13,.p (I (i:Int)))]) (fun _=>[]) (fun i=>d.funs.length - i) (fun i=>i≤d.funs.length) 0 O O O AY ?_;rintro i hC
  try simp only at hC
  have hi:=hC;refine A2 [2] O (Ax (i:=1) F4 O O (CD _)) (B9 [0] O O (List.length_map _) ?_);refine BC [1] rfl ?_ ?_<;>intro c3
  ·refine E2 [0] [9] O (Bb [2,0] O (CF (j:=1) O O O (fun H i hi=>Ax (i:=i) F4 O hi (CD _)) AB Aw (A3 O (fun _=>Bj O) Aw ?_)));obtain⟨x,hx⟩:=A1 (l:=d.funs) (i:=i) Au;refine A3 O (fun _=>A0 J4 O O Au (Fh hx) (Ee _)) Aw (A3 O (fun _=>DM Pd O O) Aw (A3 O (fun _=>Dh CN O (Jg _) (A7 _)) Aw (A3 O (fun _=>BG Kn O O) Aw (CF (j:=1) O O O (fun H i hi=>Ax (i:=i) Dz O hi (Cv _)) AB Aw (Ls [] O O (B7 O O (IA (Ui.mk ds [] d) x.type 0 d.params (h2.fs _ (List.mem_of_getElem? hx)).ty h1.env Av h2 Au) (.inl O)) Ap (⟨_,1,O,fun h=>absurd h As⟩) AB ?_)))));rintro _ ⟨e,rfl,he⟩;refine⟨Aw,?_⟩;refine Dj [1] rfl (BC [2] rfl ?_ ?_)<;>intro c4
   ·refine A9 [2] O (Bg [] [] O O ⟨⟨_,O,fun h=>absurd h Aq⟩,O⟩)
   exact FR [3] 0 (i+1) O Au
  refine DH [0] O (CQ [1,1] O (Ni d h2.cl h2.fl h2.nm) (A2 [1] O (EI (i:=0) (ds:=(JK (Ui.mk ds (DW d) d)).map .p) YR O O O O O O O) ?_));refine GG (α:=Nat) [1] [3,5] [0,1] (fun i=>[(15,.p (I (i:Int)))]) (fun _=>[]) (fun i=>d.funs.length - i) (fun i=>i≤d.funs.length∧(∀j,j<i→∀x,d.funs[j]?=some x→FD x.tree∧Um ds x.arity x.tree)) 0 O O O (⟨by omega,fun j h=>by omega⟩) ?_;rintro i hC1
  try simp only at hC1
  obtain⟨hi,hT⟩:=hC1;refine A2 [2] O (Ax (i:=1) F4 O O (CD _)) (B9 [0] O O (List.length_map _) ?_);refine BC [1] rfl ?_ ?_<;>intro c4
  ·refine E2 [0] [13] O (Bb [2,0] O (CF (j:=1) O O O (fun H i hi=>Ax (i:=i) F4 O hi (CD _)) AB Aw (A3 O (fun _=>Bj O) Aw ?_)));obtain⟨x,hx⟩:=A1 (l:=d.funs) (i:=i) Au;refine A3 O (fun _=>A0 J4 O O Au (Fh hx) (Ee _)) Aw (A3 O (fun _=>DM Pd O O) Aw (A3 O (fun _=>Dh LI O (HR _) (Dt _)) Aw (A3 O (fun _=>BG Kn O O) Aw (CF (j:=1) O O O (fun H i hi=>Ax (i:=i) F4 O hi (CD _)) AB Aw (A3 O (fun _=>Bj O) Aw (A3 O (fun _=>A0 J4 O O Au (Fh hx) (Ee _)) Aw (A3 O (fun _=>DM Pd O O) Aw (A3 O (fun _=>DR Dz O (C9 _)) Aw ?_))))))));have hax:=h3.2.1 _ (List.mem_of_getElem? hx);refine Ls [] O O (B7 O O (bU (MK x.tree) (Ui.mk ds (DW d) d) x.tree x.arity 0 (Nat.le_refl _) (h2.fs _ (List.mem_of_getElem? hx)).tr h1 (by simp only;omega) h2 Au Au) (.inl O)) Ap (⟨_,1,O,fun h=>absurd h As⟩) AB ?_;rintro _ ⟨e,rfl,he⟩;refine⟨Aw,?_⟩;refine Dj [1] rfl (BC [2] rfl ?_ ?_)<;>intro c5
   ·refine A9 [2] O (Bg [] [] O O ⟨⟨_,O,fun h=>absurd h Aq⟩,O⟩)
   exact FR [3] 0 (i+1) O (⟨by omega,Cg (p:=fun _ (y:I9)=>FD y.tree∧Um ds y.arity y.tree) hT hx (he Au)⟩)
  refine DH [0] O ?_;refine A9 [1] O (Bg [] [] O O ⟨⟨_,O,fun _=>⟨fun _=>by omega,fun _=>by omega,fun _=>IP Au hT⟩⟩,rfl⟩)
 refine A9 [1] O (Bg [] [] O O ⟨⟨_,O,fun _=>⟨fun _=>by omega,fun _=>by omega,fun _=>by omega⟩⟩,rfl⟩)
theorem lN:∀(ds:List B8) (d:B8),(Lb ds)→(QP d)→Hg Tryz.prog 104 [.p (.lst (List.map B0 ds)),.agg ((B0 d).map .p)] (fun v=>∃ee:Int,v= .p (I ee)∧(ee=0→DG d∧QB ds d)):=by
 intro ds d h1 h2;refine DJ Tryz.func104 (CG [0] O O fun b3=>CJ [1] 1 [0,3] 14 ((decide ((d.kind:Int)<(0:Int)))||(decide ((d.kind:Int) > (4:Int)))) O O ?_ ?_)
 ·refine A2 [1] O (Ax (i:=0) Dz O O (EN _)) ?_;refine Bc [2] 10 rfl rfl ?_ ?_<;>intro g
  ·exact CT [4] O
  exact A2 [1] O (Ax (i:=0) Dz O O (EN _)) (CT [2] O)
 refine BC [0] rfl ?_ ?_<;>intro c
 ·refine A9 [1] O (Bg [] [] O O ⟨⟨_,O,fun h=>absurd h As⟩,O⟩)
 have hk:0≤d.kind∧d.kind≤4:=by omega
 refine DT [1,0] O (EF O O (B7 O O (cr d h2 hk) (.inl O)) ?_);rintro _ ⟨q,rfl,hq⟩;refine BW (BC [1] rfl ?_ ?_)<;>intro c1
 ·refine A9 [1] O (Bg [] [] O O ⟨⟨_,O,fun h=>absurd h As⟩,O⟩)
 have hu:=hq (by simpa using c1);refine DT [1,0] O (EF O O (B7 O O (dF d h2) (.inl O)) ?_);rintro _ ⟨e,rfl,he⟩;refine BW (BC [3] rfl ?_ ?_)<;>intro c2
 ·refine A9 [2] O (Bg [] [] O O ⟨⟨_,O,fun h=>absurd h Aq⟩,O⟩)
 have hcn:=he Au;refine DT [2,0] O (EF O O (B7 O O (Uz ds d h1.env h2) (.inl O)) ?_);rintro _ ⟨e1,rfl⟩;refine BW (BC [3] rfl ?_ ?_)<;>intro c3
 ·refine A9 [2] O (Bg [] [] O O ⟨⟨_,O,fun h=>absurd h Aq⟩,O⟩)
 refine DT [2,0] O (EF O O (B7 O O (hP ds d h1 h2 hcn) (.inl O)) ?_);rintro _ ⟨e2,rfl,he1⟩;refine BW (A9 [1] O (Bg [] [] O O ⟨⟨_,O,fun h=>⟨vB h2 hk hu hcn (he1 h),he1 h⟩⟩,O⟩))
theorem aR:∀(ds:List B8),(IQ ds)→Hg Tryz.prog 53 [.p (.lst (List.map B0 ds))] (fun v=>∃a e:Int,v= .tup [.p (I a),.p (I e)]∧(e=0→Lb ds∧qW ds)):=by
 intro ds h1;have hl:=h1.len;refine DJ Tryz.func53 (B9 [3] O O (List.length_map _) ?_);refine BC [1] rfl ?_ ?_<;>intro c
 ·refine A9 [2] O (Bg [] [] O O ⟨⟨_,_,O,fun h=>absurd h As⟩,O⟩)
 refine GG (α:=Nat) [1] [0] [] (fun i=>[(4,.p (I (i:Int)))]) (fun _=>[]) (fun i=>ds.length - i) (fun i=>i≤ds.length∧(∀j,j<i→∀x,ds[j]?=some x→DG x∧QB (ds.take j) x)) 0 O O O (⟨by omega,fun j h=>by omega⟩) ?_;rintro i hC
 try simp only at hC
 obtain⟨hi,hC⟩:=hC;refine B9 [2] O O (List.length_map _) ?_;refine BC [1] rfl ?_ ?_<;>intro c1
 ·refine E2 [0] [7] O (Bb [2] O (A3 O (fun _=>Cn (lo:=0) (hi:=i) QV O (CX (gA _)) O ⟨_,O⟩ (Nat.zero_le _) AZ (bW (f:=B0) ds i)) Aw (Bb [2] O ?_)));obtain⟨x,hx⟩:=A1 (l:=ds) (i:=i) Au;refine A3 O (fun _=>A0 QV O O Au (HI hx) (DF _)) Aw (A3 O (fun _=>Bk TF O (DF _)) Aw (Ls [] O O (B7 O O (lN (ds.take i) x (iU h1 fun j hj x hx=>(hC j hj x hx).1) (h1.all _ (List.mem_of_getElem? hx))) (.inl O)) Ap (⟨_,1,O,fun h=>absurd h As⟩) AB ?_));rintro _ ⟨e,rfl,he⟩;refine⟨Aw,?_⟩;refine Dj [1] rfl (BC [2] rfl ?_ ?_)<;>intro c2
  ·refine A9 [4] O (Bg [] [] O O ⟨⟨_,_,O,fun h=>absurd h Aq⟩,O⟩)
  exact FR [3] 0 (i+1) O (⟨by omega,Cg (p:=fun j (y:B8)=>DG y∧QB (ds.take j) y) hC hx (he Au)⟩)
 refine DH [0] O (A9 [2] O (Bg [] [] O O ⟨⟨_,_,O,fun _=>⟨⟨h1,IP Au fun j hj x hx=>(hC j hj x hx).1⟩,fun j x hx=>(hC j (by have:=(List.getElem?_eq_some_iff.1 hx).1;omega) x hx).2⟩⟩,O⟩))
theorem I0:∀(t:Tm),(ZO t)→En Tryz.prog 138 [.agg ((BD t).map .p)] (.p (.bool (decide (FF t≤400)&&decide (FU t≤150)))):=by
 intro t h1;refine DJ Tryz.func138 (CG [0] O O fun b1=>CJ [1] 1 [] 2 ((decide ((FF t:Int)≤(400:Int)))&&(decide ((FU t:Int)≤(150:Int)))) O O ?_ ?_)
 ·refine CQ [1,0] O (Nr _ t (Nat.le_refl _) h1.nd) ?_;refine Bc [2] 6 rfl rfl ?_ ?_<;>intro g
  ·exact CQ [1,0] O (PX _ t (Nat.le_refl _) h1.nd) (CT [3] O)
  exact CT [5] O
 refine A9 [0] O (Bg [] [] O O ⟨O,O⟩)
theorem U9:∀(n:Nat) (t:FV) (dp:Int),(MK t≤n)→(JR t)→(-1000<dp∧dp<1000)→Hg Tryz.prog 139 [.agg ((EC t).map .p),.p (I dp)] (fun v=>∃bb:Bool,v= .p (.bool bb)∧(bb=true→(Dq t:Int)≤42 - dp)):=by
 intro n
 induction n with
 | zero=>intro t dp h;have:=QE t;omega
 | succ n ih =>
  intro t dp h1 h2 h3;have htl:=h2.bl;refine DJ Tryz.func139 (CG [0] O O fun b2=>Fl [1] 1 [1,2] 19 (fun y=>∃q:Bool,y= .p (.bool q)∧(q=false→dp≤40)) O O ?_ ?_)
  ·refine Bc [3] 8 rfl rfl ?_ ?_<;>intro g
   ·exact CT [11] O (hr:=(by refine⟨_,rfl,fun h=>?_⟩;first | (exact absurd h As) | omega))
   refine A2 [1] O (Ax (i:=0) IB O O (CC _)) (B9 [0] O O (Gp _) ?_);refine Bc [3] 14 rfl rfl ?_ ?_<;>intro g1
   ·exact CT [5] O (hr:=(by refine⟨_,rfl,fun h=>?_⟩;first | (exact absurd h As) | omega))
   exact A2 [1] O (Bq (i:=0) CN O O (Fo _) (A7 _)) (CQ [0] O (I0 t.body h2.body) (CT [2] O (hr:=(by refine⟨_,rfl,fun h=>?_⟩;first | (exact absurd h As) | omega))))
  rintro _ ⟨q,rfl,hq⟩;refine BC [0] rfl ?_ ?_<;>intro c
  ·refine A9 [1] O (Bg [] [] O O ⟨⟨_,O,fun h=>absurd h As⟩,O⟩)
  have hq1:=hq (by simpa using c);refine GG (α:=Nat) [1] [1,2] [0] (fun i=>[(5,.p (I (i:Int)))]) (fun _=>[]) (fun i=>t.branches.length - i) (fun i=>i≤t.branches.length∧(∀j,j<i→∀x,t.branches[j]?=some x→(Dq x.tree:Int)≤42 - (dp+1))) 0 O O O (⟨by omega,fun j h=>by omega⟩) ?_;rintro i hC
  try simp only at hC
  obtain⟨hi,hC⟩:=hC;refine A2 [2] O (Ax (i:=0) IB O O (CC _)) (B9 [0] O O (Gp _) ?_);refine BC [1] rfl ?_ ?_<;>intro c1
  ·obtain⟨x,hx⟩:=A1 (l:=t.branches) (i:=i) Au;refine Fl [0] 6 [1,2,5] 46 (fun y=>∃q:Bool,y= .p (.bool q)∧(q=false→(Dq x.tree:Int)≤42 - (dp+1))) O O ?_ ?_
   ·refine A2 [1] O (Ax (i:=0) IB O O (CC _)) (A2 [1] O (A0 RA O O Au (ID hx) (EY _)) (A2 [1] O (Dh LI O (Gd _) (Dt _)) (DT [2] O (EF O O (B7 O O (ih x.tree ((dp:Int)+(1:Int)) (by have:=Tn hx;omega) (J3 h2.bs hx).tr Au) (.inl O)) ?_))));rintro _ ⟨q1,rfl,hq⟩;refine BW (Bc [2] 37 rfl rfl ?_ ?_)<;>intro g
    ·exact CT [9] O (hr:=(by refine⟨_,rfl,fun h=>?_⟩;first | (exact absurd h As) | exact hq (by simpa using g)))
    exact A2 [1] O (Ax (i:=0) IB O O (CC _)) (A2 [1] O (A0 RA O O Au (ID hx) (EY _)) (A2 [1] O (DR OB O (HV _)) (A2 [0] O (HD rz O) (CT [2] O (hr:=(by refine⟨_,rfl,fun h=>?_⟩;first | (exact absurd h As) | exact hq (by simpa using g)))))))
   rintro _ ⟨q,rfl,hqx⟩;refine BC [0] rfl ?_ ?_<;>intro c2
   ·refine A9 [1] O (Bg [] [] O O ⟨⟨_,O,fun h=>absurd h As⟩,O⟩)
   have hok:=hqx (by simpa using c2);exact FR [3] 0 (i+1) O (⟨by omega,Cg (p:=fun _ (y:G3)=>(Dq y.tree:Int)≤42 - (dp+1)) hC hx hok⟩)
  refine DH [0] O (A9 [1] O (Bg [] [] O O ⟨⟨_,O,fun _=>oX hq1 (IP Au hC)⟩,O⟩))
theorem Zt:∀(d:B8),(QP d)→Hg Tryz.prog 103 [.agg ((B0 d).map .p)] (fun v=>∃bb:Bool,v= .p (.bool bb)∧(bb=true→VF d)):=by
 intro d h1;have hcl:=h1.cl;have hfl:=h1.fl;have hrl:=h1.rl;refine DJ Tryz.func103 (CG [0] O O fun b1=>Fl [1] 1 [1] 47 (fun y=>∃q:Bool,y= .p (.bool q)∧(q=false→FF d.value≤400)) O O ?_ ?_)
 ·refine A2 [1] O (Ax (i:=0) OB O O (Da _)) (A2 [0] O (HD rz O) ?_);refine Bc [2] 10 rfl rfl ?_ ?_<;>intro g
  ·exact CT [37] O (hr:=(by refine⟨_,rfl,fun h=>?_⟩;first | (exact absurd h As) | (simp_all;done) | (simp_all;omega)))
  refine A2 [1] O (Bq (i:=0) CN O O (Fi _) (A7 _)) (CQ [0] O (I0 d.type h1.ty) ?_);refine Bc [3] 16 rfl rfl ?_ ?_<;>intro g1
  ·exact CT [31] O (hr:=(by refine⟨_,rfl,fun h=>?_⟩;first | (exact absurd h As) | (simp_all;done) | (simp_all;omega)))
  refine A2 [1] O (Bq (i:=0) CN O O (Ft _) (A7 _)) (CQ [0] O (I0 d.value h1.vl) ?_);refine Bc [3] 22 rfl rfl ?_ ?_<;>intro g2
  ·exact CT [25] O (hr:=(by refine⟨_,rfl,fun h=>?_⟩;first | (exact absurd h As) | (simp_all;done) | (simp_all;omega)))
  refine A2 [1] O (Ax (i:=0) GB O O (B5 _)) (B9 [0] O O (List.length_map _) ?_);refine Bc [3] 28 rfl rfl ?_ ?_<;>intro g3
  ·exact CT [19] O (hr:=(by refine⟨_,rfl,fun h=>?_⟩;first | (exact absurd h As) | (simp_all;done) | (simp_all;omega)))
  refine A2 [1] O (Ax (i:=0) F4 O O (CD _)) (B9 [0] O O (List.length_map _) ?_);refine Bc [3] 34 rfl rfl ?_ ?_<;>intro g4
  ·exact CT [13] O (hr:=(by refine⟨_,rfl,fun h=>?_⟩;first | (exact absurd h As) | (simp_all;done) | (simp_all;omega)))
  refine A2 [2] O (Bq (i:=0) CN O O (Fc _) (A7 _)) (CQ [0] O (I0 d.recs.type h1.rt) ?_);refine Bc [3] 41 rfl rfl ?_ ?_<;>intro g5
  ·exact CT [6] O (hr:=(by refine⟨_,rfl,fun h=>?_⟩;first | (exact absurd h As) | (simp_all;done) | (simp_all;omega)))
  exact A2 [2] O (Ax (i:=0) JX O O (Co _)) (B9 [0] O O (A8 _) (CT [2] O (hr:=(by refine⟨_,rfl,fun h=>?_⟩;first | (exact absurd h As) | (simp_all;done) | (simp_all;omega)))))
 rintro _ ⟨q,rfl,hq⟩;refine BC [0] rfl ?_ ?_<;>intro c
 ·refine A9 [1] O (Bg [] [] O O ⟨⟨_,O,fun h=>absurd h As⟩,O⟩)
 have hq1:=hq (by simpa using c);refine GG (α:=Nat) [1] [1] [0] (fun i=>[(3,.p (I (i:Int)))]) (fun _=>[]) (fun i=>d.ctors.length - i) (fun i=>i≤d.ctors.length) 0 O O O AY ?_;rintro i hC
 try simp only at hC
 have hi:=hC;refine A2 [2] O (Ax (i:=0) GB O O (B5 _)) (B9 [0] O O (List.length_map _) ?_);refine BC [1] rfl ?_ ?_<;>intro c1
 ·refine Fl [0] 6 [1,3] 72 LS O O ?_ ?_
  ·refine A2 [1] O (Ax (i:=0) GB O O (B5 _)) (D6 [1] d.ctors i O O O (H5 Ei) (fun x hx=>?_));refine A2 [1] O (DR OB O (GZ _)) (A2 [0] O (HD rz O) ?_);refine Bc [2] 63 rfl rfl ?_ ?_<;>intro g
   ·exact CT [9] O (hr:=⟨_,O⟩)
   exact A2 [1] O (Ax (i:=0) GB O O (B5 _)) (A2 [1] O (A0 Kb O O Au (Gq hx) (Ei _)) (A2 [1] O (Dh CN O (GY _) (A7 _)) (CQ [0] O (I0 x.type (h1.cs _ (List.mem_of_getElem? hx)).ty) (CT [2] O (hr:=⟨_,O⟩)))))
  rintro _ ⟨q1,rfl⟩;refine BC [0] rfl ?_ ?_<;>intro c2
  ·refine A9 [1] O (Bg [] [] O O ⟨⟨_,O,fun h=>absurd h As⟩,O⟩)
  exact FR [3] 0 (i+1) O Au
 refine DH [0] O ?_;refine GG (α:=Nat) [1] [1] [0] (fun i=>[(4,.p (I (i:Int)))]) (fun _=>[]) (fun i=>d.recs.rules.length - i) (fun i=>i≤d.recs.rules.length∧(∀j,j<i→∀x,d.recs.rules[j]?=some x→FF x≤400)) 0 O O O (⟨by omega,fun j h=>by omega⟩) ?_;rintro i hC1
 try simp only at hC1
 obtain⟨hi,hR⟩:=hC1;refine A2 [3] O (Ax (i:=0) JX O O (Co _)) (B9 [0] O O (A8 _) ?_);refine BC [1] rfl ?_ ?_<;>intro c2
 ·refine A2 [2] O (Ax (i:=0) JX O O (Co _)) (D6 [1] d.recs.rules i O O O (IH _) (fun x hx=>?_));refine CQ [1] O (I0 x (h1.rs _ (List.mem_of_getElem? hx))) ?_;refine BC [1] rfl ?_ ?_<;>intro c3
  ·refine A9 [1] O (Bg [] [] O O ⟨⟨_,O,fun h=>absurd h As⟩,O⟩)
  have hqr:FF x≤400:=by simp_all
  exact FR [3] 0 (i+1) O (⟨by omega,Cg (p:=fun _ (y:Tm)=>FF y≤400) hR hx hqr⟩)
 refine DH [0] O ?_;refine GG (α:=Nat) [1] [1] [0] (fun i=>[(5,.p (I (i:Int)))]) (fun _=>[]) (fun i=>d.funs.length - i) (fun i=>i≤d.funs.length∧(∀j,j<i→∀x,d.funs[j]?=some x→(Dq x.tree:Int)≤42 - 0)) 0 O O O (⟨by omega,fun j h=>by omega⟩) ?_;rintro i hC2
 try simp only at hC2
 obtain⟨hi,hT⟩:=hC2;refine A2 [2] O (Ax (i:=0) F4 O O (CD _)) (B9 [0] O O (List.length_map _) ?_);refine BC [1] rfl ?_ ?_<;>intro c3
 ·obtain⟨x,hx⟩:=A1 (l:=d.funs) (i:=i) Au;refine Fl [0] 16 [1,5] 123 (fun y=>∃q:Bool,y= .p (.bool q)∧(q=false→(Dq x.tree:Int)≤42 - 0)) O O ?_ ?_
  ·refine A2 [1] O (Ax (i:=0) F4 O O (CD _)) (A2 [1] O (A0 J4 O O Au (Fh hx) (Ee _)) (A2 [1] O (DR OB O (Jk _)) (A2 [0] O (HD rz O) ?_)));refine Bc [2] 104 rfl rfl ?_ ?_<;>intro g
   ·exact CT [19] O (hr:=(by refine⟨_,rfl,fun h=>?_⟩;first | (exact absurd h As) | exact hq (by simpa using h)))
   refine A2 [1] O (Ax (i:=0) F4 O O (CD _)) (A2 [1] O (A0 J4 O O Au (Fh hx) (Ee _)) (A2 [1] O (Dh CN O (Jg _) (A7 _)) (CQ [0] O (I0 x.type (h1.fs _ (List.mem_of_getElem? hx)).ty) ?_)));refine Bc [3] 114 rfl rfl ?_ ?_<;>intro g1
   ·exact CT [9] O (hr:=(by refine⟨_,rfl,fun h=>?_⟩;first | (exact absurd h As) | exact hq (by simpa using h)))
   refine A2 [1] O (Ax (i:=0) F4 O O (CD _)) (A2 [1] O (A0 J4 O O Au (Fh hx) (Ee _)) (A2 [1] O (Dh LI O (HR _) (Dt _)) (DT [0] O (I8 O O O O (B7 O O (U9 (MK x.tree) x.tree 0 (Nat.le_refl _) (h1.fs _ (List.mem_of_getElem? hx)).tr Au) (.inl O)) ?_))));rintro _ ⟨q1,rfl,hq⟩;refine BW (Ku [2] O ?_);exact⟨O,O,AQ,(by refine⟨_,rfl,fun h=>?_⟩;first | (exact absurd h As) | exact hq (by simpa using h)),⟨O,O,Aw⟩⟩
  rintro _ ⟨q,rfl,hqx⟩;refine BC [0] rfl ?_ ?_<;>intro c4
  ·refine A9 [1] O (Bg [] [] O O ⟨⟨_,O,fun h=>absurd h As⟩,O⟩)
  have hok:=hqx (by simpa using c4);exact FR [3] 0 (i+1) O (⟨by omega,Cg (p:=fun _ (y:I9)=>(Dq y.tree:Int)≤42 - 0) hT hx hok⟩)
 refine DH [0] O (A9 [1] O (Bg [] [] O O ⟨⟨_,O,fun _=>jP h1 hq1 (IP Au hR) (IP Au hT)⟩,O⟩))
theorem rF:∀(ds:List B8),(IQ ds)→Hg Tryz.prog 52 [.p (.lst (List.map B0 ds))] (fun v=>∃bb:Bool,v= .p (.bool bb)∧(bb=true→(∀d∈ds,VF d)∧ds.length≤70)):=by
 intro ds h1;have hl:=h1.len;refine DJ Tryz.func52 ?_;refine GG (α:=Nat) [2] [0] [] (fun i=>[(3,.p (I (i:Int)))]) (fun _=>[]) (fun i=>ds.length - i) (fun i=>i≤ds.length∧(∀j,j<i→∀x,ds[j]?=some x→VF x)) 0 O O O (⟨by omega,fun j h=>by omega⟩) ?_;rintro i hC
 try simp only at hC
 obtain⟨hi,hC⟩:=hC;refine Fl [0] 2 [0,3] 11 (fun y=>∃q:Bool,y= .p (.bool q)∧(q=true→i<ds.length)∧(q=false→ds.length≤i∨80≤i)) O O ?_ ?_
 ·refine B9 [2] O O (List.length_map _) ?_;refine Bc [2] 8 rfl rfl ?_ ?_<;>intro g
  ·exact CT [3] rfl (hr:=(by refine⟨_,rfl,fun h=>?_,fun h=>?_⟩<;>first | (exact absurd h As) | omega | (simp only[decide_eq_true_eq,decide_eq_false_iff_not] at h;omega)))
  exact CT [3] rfl (hr:=(by refine⟨_,rfl,fun h=>?_,fun h=>?_⟩<;>first | (exact absurd h As) | omega | (simp only[decide_eq_true_eq,decide_eq_false_iff_not] at h;omega)))
 rintro _ ⟨q,rfl,hq,hqn⟩;refine BC [0] rfl ?_ ?_<;>intro c
 ·have hq1:=hq (by simpa using c);refine D6 [2] ds i O O O (H5 DF) (fun x hx=>?_);refine DT [1] O (EF O O (B7 O O (Zt x (h1.all _ (List.mem_of_getElem? hx))) (.inl O)) ?_);rintro _ ⟨q1,rfl,hq⟩;refine BW (BC [1] rfl ?_ ?_)<;>intro c1
  ·refine A9 [1] O (Bg [] [] O O ⟨⟨_,O,fun h=>absurd h As⟩,O⟩)
  have hok:=hq (by simpa using c1);exact FR [3] 0 (i+1) O (⟨by omega,Cg (p:=fun _ (y:B8)=>VF y) hC hx hok⟩)
 have hqe:=hqn (by simpa using c);refine DH [0] O (B9 [1] O O (List.length_map _) ?_);refine A9 [2] O (Bg [] [] O O ⟨⟨_,O,fun h=>⟨IP (by simp only[decide_eq_true_eq] at h;omega) hC,by simp only[decide_eq_true_eq] at h;omega⟩⟩,rfl⟩)
theorem kx:∀(ds:List B8),(IQ ds)→Hg Tryz.prog 29 [.p (.lst (List.map B0 ds))] (fun v=>∃bb:Bool,v= .p (.bool bb)∧(bb=true→(G2 ds∧qW ds)∧ds.length≤70)):=by
 intro ds h1;refine DJ Tryz.func29 (DT [2] O (EF O O (B7 O O (rF ds h1) (.inl O)) ?_));rintro _ ⟨q,rfl,hq⟩;refine BW (BC [1] rfl ?_ ?_)<;>intro c
 ·refine A9 [1] O (Bg [] [] O O ⟨⟨_,O,fun h=>absurd h As⟩,O⟩)
 have hf:=hq (by simpa using c);refine DT [1] O (EF O O (B7 O O (aR ds h1) (.inl O)) ?_);rintro _ ⟨a,e,rfl,he⟩;refine BW (A9 [8] O (Bg [] [] O O ⟨⟨_,O,fun h=>⟨⟨pJ (he (by simpa using h)).1 hf.1,(he (by simpa using h)).2⟩,hf.2⟩⟩,O⟩))
theorem nB:∀(l:List Tm),(nY l)→(l.length<wide)→Hg Tryz.prog 28 [.p (.lst (A6 l))] (fun v=>∃bb:Bool,v= .p (.bool bb)∧(bb=true→ao l∧∀t∈l,okB t=true)):=by
 intro l h1 h2;have h2b:=h2;simp only[wide] at h2b;refine DJ Tryz.func28 (DT [2] O (EF O O (B7 O O (v7 _ l (Nat.le_refl _) h1 h2) (.inl O)) ?_));rintro _ ⟨b,rfl,hb⟩;refine BW (BC [1] rfl ?_ ?_)<;>intro c
 ·refine A9 [1] O (⟨O,_,[],Dw O,List.nil_sublist _,⟨⟨_,O,?_⟩,O⟩⟩);exact fun h=>absurd h As
 have hf:=hb (by simpa using c);refine B9 [1] O O (A8 _) ?_;refine GG (α:=Nat) [1] [8,9] [] (fun i=>[(10,.p (I (i:Int)))]) (fun _=>[]) (fun i=>l.length - i) (fun i=>i≤l.length∧(∀j,j<i→∀x,l[j]?=some x→okB x=true)) 0 O O O (⟨by omega,fun j h=>by omega⟩) ?_;rintro i hC
 try simp only at hC
 obtain⟨hi,hC⟩:=hC;refine BC [1] rfl ?_ ?_<;>intro c1
 ·refine D6 [0] l i O O O (IH _) (fun x hx=>?_);refine Bp [1] O (Az Ba O) fun b4=>DT [2,0,1,0] O (EF O O (B7 O O (P6 x 65536 8 65536 65536 (DU hf.nd hx) (by have:=CU hx;have:=hf.sz;omega)) (.inl O)) ?_);rintro _ ⟨e,rfl,he⟩;refine BW (BC [1] rfl ?_ ?_)<;>intro c2
  ·refine A9 [1] O (⟨O,_,[],Dw O,List.nil_sublist _,⟨⟨_,O,?_⟩,O⟩⟩);exact fun h=>absurd h As
  exact FR [2] 1 (i+1) O (⟨by omega,Cg hC hx (lM (DU hf.nd hx) (by have:=CU hx;have:=hf.sz;omega) Au (he Au))⟩)
 refine DH [0] O (A9 [1] O (⟨O,_,[],Dw O,List.nil_sublist _,⟨⟨_,O,?_⟩,O⟩⟩));exact fun _=>⟨hf,IP Au hC⟩
theorem nk:∀(t:Tm),(okB t=true)→(size t<1000000)→Hg Tryz.prog 31 [.agg ((BD t).map .p)] (LS):=by
 intro t h1 h2;refine DJ Tryz.func31 (CG [0] O O fun b1=>DT [2,0] O (EF O O (B7 O O (P6 t 60000 8 65536 65536 (Bu.1 h1).nd h2) (.inl O)) ?_));rintro _ ⟨e,rfl,he⟩;refine BW (A9 [2] O (Bg [] [] O O ⟨⟨_,O⟩,O⟩))
theorem tQ:∀(l:List Tm),(l.length<1000000)→(∀x∈l,okB x=true∧size x<1000000)→Hg Tryz.prog 54 [.p (.lst (A6 l)),.p (.fn 31)] (df):=by
 intro l h1 h2;refine DJ Tryz.func54 (B9 [2] O O (A8 _) (GG (α:=Nat) [1] [0,1,7] [] (fun i=>[(8,.p (I (i:Int)))]) (fun _=>[]) (fun i=>l.length - i) (fun i=>i≤l.length) 0 O O O AY ?_));rintro i hC
 try simp only at hC
 have hi:=hC;refine BC [1] rfl ?_ ?_<;>intro c
 ·refine D6 [5] l i O O O (IH _) (fun x hx=>?_);refine DT [1] O (EF O O (B7 O O (nk x (h2 _ (List.mem_of_getElem? hx)).1 (h2 _ (List.mem_of_getElem? hx)).2) (.inl O)) ?_);rintro _ ⟨q,rfl⟩;refine BW (BC [0] rfl ?_ ?_)<;>intro c1
  ·refine A9 [2] O (Bg [] [] O O ⟨⟨_,O⟩,O⟩)
  exact FR [2] 0 (i+1) O Au
 refine DH [0] O (A9 [1] O (Bg [] [] O O ⟨⟨_,O⟩,O⟩))
theorem pD:∀(l:List Tm),(l.length<1000000)→(∀x∈l,okB x=true∧size x<1000000)→Hg Tryz.prog 30 [.p (.lst (A6 l)),.p (.fn 31)] (LS):=by
 intro l h1 h2;refine DJ Tryz.func30 (DT [3] O (EF O O (B7 O O (tQ l h1 h2) (.inl O)) ?_));rintro _ ⟨r,rfl⟩;refine BW (A9 [2] O (Bg [] [] O O ⟨⟨_,O⟩,O⟩))
theorem Yc:∀(ds:List B8) (l:List Tm),(IQ ds)→(nY l)→(l.length<wide)→Hg Tryz.prog 10 [.p (.lst (List.map B0 ds)),.p (.lst (A6 l))] (fun v=>∃bb:Bool,v= .p (.bool bb)∧(bb=true→lj ds l)):=by
 intro ds l h1 h2 h3;refine DJ Tryz.func10 (CQ [2] O (Zg _ l 60 (Nat.le_refl _) h2 h3) ?_);refine Bc [2] 8 rfl rfl ?_ ?_<;>intro g
 ·refine DT [1] O (I8 O O O O (B7 O O (nB l h2 h3) (.inl O)) ?_);rintro _ ⟨b,rfl,hb⟩;refine BW (Bc [2] 12 rfl rfl ?_ ?_)<;>intro g1
  ·refine DT [1] O (I8 O O O O (B7 O O (kx ds h1) (.inl O)) ?_);rintro _ ⟨q,rfl,hq⟩;refine BW (Bc [2] 16 rfl rfl ?_ ?_)<;>intro g2
   ·refine DT [1] O (I8 O O O O (B7 O O (pD l (gw (hb Aq).1) (aS (hb Aq))) (.inl O)) ?_);rintro _ ⟨q1,rfl⟩;refine BW (A9 [3] O (Bg [] [] O O ⟨⟨_,O,fun h=>kX Au (hb Aq) (hq Aq)⟩,O⟩))
   refine A9 [5] O (Bg [] [] O O ⟨⟨_,O,fun h=>absurd h As⟩,O⟩)
  refine A9 [9] O (Bg [] [] O O ⟨⟨_,O,fun h=>absurd h As⟩,O⟩)
 refine A9 [13] O (Bg [] [] O O ⟨⟨_,O,fun h=>absurd h As⟩,O⟩)
set_option maxHeartbeats 4000000 in
theorem sF:∀(n:Nat),QC n→∀(m:Nat) (mu:List Nat) (s s':NS) (t:Tm) (a:Nat) (d:Int),mu.length=s.objs.length→Mc (n+1) s (.st a) d= .ok (t,s')→BL Tryz.prog 256 [.p (N2 mu a),.p (.addr m),.p (I d)] (HS xq m mu s) (wA xq m mu t s'):=by
 intro n hQ m mu s s' t a d hl h;obtain⟨hd,args0,hg,hwf,hkl0,hbn,hn1,hn2,hd1,hd2,t1,s1,h2,args,h0,hg1,hwf1,hal,hqa⟩:=wP h;obtain⟨hkw,_⟩:=Yl hwf hg;obtain⟨_,haw⟩:=Yl hwf1 hg1;have hlt:a<mu.length:=by rw[hl];exact sU hg
 rw[←hl] at hkw;obtain⟨hk,hv,⟨gk,gi,gn,gl,gs⟩,hks,hb⟩:=hd;obtain⟨k2,v2,⟨gk2,gi2,gn2,gl2,gs2⟩,ks2,b2⟩:=h2;simp only at hkl0 hbn hkw;subst hbn;refine Cb Tryz.func256 O wm (n:=94) O O (BQ (C8 O (Az Ba O) fun b6=>Ch O (BQ (BS tab 2 [] O (BA O (Bi [1] O (.inl ⟨O,O,O⟩) (ct m s.left s.nodes d hn1 hn2 hd1 hd2) ⟨_,_,O,O,O⟩ As O (.inl O)) (Ch O (BQ (D5 O (BA O (CP O) (BS tab 2 [] O ?_))))))))));refine BA O (FX (i:=s.objs.length - 1 - a+1+1) CN O (show _=some (A4.box _ [.p (I hk),.p (I hv),.p (I gk),.p (I gi),.p (.str gn),.p (.lst (List.map B4 gl)),.p (.lst (A6 gs)),.p (.lst (Ue mu hks)),.p (.nilFn),.p (.lst (Ue mu args0))]) from Fx (s:=({ s with nodes:=s.nodes+1 }:NS)) hl hg) O O) (C8 O (Az Ba O) fun b7=>BK tab 1 [0,0] O (BR (BQ (D5 O (BA O (CP O) (BA O (BG SZ O O) (BA O (FX (i:=s.objs.length - 1 - a+1+1+1) rG O (show _=some (A4.box _ [.p (I hk),.p (I hv),.p (I gk),.p (I gi),.p (.str gn),.p (.lst (List.map B4 gl)),.p (.lst (A6 gs)),.p (.lst (Ue mu hks)),.p (.nilFn),.p (.lst (Ue mu args0))]) from Fx (s:=({ s with nodes:=s.nodes+1 }:NS)) hl hg) O O) (C8 O (Az vR O) fun b8=>?_))))))));refine BK tab 1 [0,0] O (B3 (BZ tab 4 [0] O (BX O (fun c=>?_) (fun c=>?_))))
 ·(try simp only[sd,se] at c);obtain⟨hv1,hv2,rfl,rfl⟩:=tw h0 c;simp only at hv1 hv2;have hawS:∀x∈args,x<mu.length:=by rw[hl];exact haw
  refine Be (BK tab 7 [0,1,0] O (BR (BQ (D5 O (BA O (CP O) (BA O (BG SZ O O) (BA O (Bt (i:=({ s with nodes:=s.nodes+1 }:NS).objs.length - 1 - a+1+1+1+1) dr O (Fx (s:=({ s with nodes:=s.nodes+1 }:NS)) hl hg1) O) (BA O (Cx KA O (Np _ _)) (BK tab 1 [] O (B3 ?_))))))))));refine Ep (α:=Nat×Tm×NS×List Nat) (fun(i,z,S2,MUy)=>⟨94,mk [(1,.p (.addr m)),(2,.p (I d)),(6,.ptr b6 0),(7,.ptr b7 0),(76,.p (.lst (Ue mu args))),(77,.p (I (args.length:Nat))),(78,.p (I (i:Int)))],(.box b7 ((BD z).map .p):: .box b6 [.p (I 0),.p (I 0),.p (.str ⟨#[]⟩),.p (.nils),.p (.nils)]:: .box m [.p (.lst []),.p (I S2.left),.p (I S2.nodes)]::Mm xq m MUy MUy S2.objs),[]⟩) (fun(i,z,S2,MUy)=>args.length - i) (fun(i,z,S2,MUy)=>i≤args.length∧(MUy.length=S2.objs.length∧(∃w,MUy=w++mu)∧YK (Ul (Mc n) n) d (args.drop i) z S2= .ok (t,s'))) ⟨0,(.mk 0 (d - 1 - hv) ⟨#[]⟩ [] []),({ s with nodes:=s.nodes+1 }:NS),mu⟩ (⟨by omega,hl,⟨[],rfl⟩,by rw[List.drop_zero];exact hqa⟩) ?_ ?_
  ·exact Ea ⟨we O,we O,we O,we O,we O,we O,we O,Aw⟩ (Uk [1,2,3] [_,_,_,_] (l':=[_,_,_]) O (wl (on (O)) (wl (oe O) (wl (oe O) (Ie)))))
  rintro⟨i,z,S2,MUy⟩ hC
  try simp only at hC
  obtain⟨hi,⟨hlj,⟨w2,hwf2⟩,hqi⟩⟩:=hC;refine BZ tab 1 [] O (BR (BX O (fun c1=>?_) (fun c1=>?_)))
  ·(try simp only[sd,se] at c1);refine Bn (BR (B3 (BQ ?_)));obtain⟨x,hx⟩:=A1 (l:=args) (i:=i) Au;refine BA O (A0 KA O O Au (Ww hx) O) (BK tab 2 [] O (BQ ?_));obtain⟨hn3,hn4,hn5,hn6,y,sy,hq1,hq2⟩:=Z5 (by rw[←Cd hx];exact hqi);refine BS tab 2 [] O (BA O (Bi [2] O (.inl ⟨O,O,O⟩) (ct m S2.left S2.nodes d hn3 hn4 hn5 hn6) ⟨_,_,O,O,O⟩ As O (.inl O)) (Ch O (Hd (fun k=>Nat.beq k 4) Oq (DO tab 4 [0] O (Kv [] O O (FJ O O (List.perm_append_comm (l₁:=[_,_])) (by have h9:=bC n hQ m MUy { S2 with nodes:=S2.nodes+1 } sy y x d hlj hq1;rw[hwf2,KD (hawS x (List.mem_of_getElem? hx)),←hwf2] at h9;exact h9) (T7)) Ap (nE (s:={ S2 with nodes:=S2.nodes+1 }) hlj (Wy hq1) _) (ZD _) ?_)))));rintro _ _ ⟨_,⟨_,hl1,⟨w,rfl⟩,rfl,rfl⟩,rfl⟩;refine⟨(.box b7 ((BD z).map .p):: .box b6 [.p (I 0),.p (I 0),.p (.str ⟨#[]⟩),.p (.nils),.p (.nils)]:: .box m [.p (.lst []),.p (I sy.left),.p (I sy.nodes)]::Mm xq m (w++MUy) (w++MUy) sy.objs),List.perm_append_comm,AB,Aw,?_⟩;refine A3 O (fun _=>By (rows:=A6 [y]) BT Ba O O O O (CX (Bd _)) (Gg _)) Aw (A3 O (fun _=>BF O O (Fj z [y] (by simp only[DZ,List.length_cons,List.length_nil];decide)) O) Aw (CY tab 1 [0,1] O (Be (BK tab 2 [] O ?_))));refine⟨⟨i+1,(apply z [y]),sy,(w++MUy)⟩,Ae,⟨by omega,⟨by assumption,⟨_,by rw[hwf2,←List.append_assoc]⟩,hq2⟩⟩,Ea ⟨we rfl,we rfl,we rfl,we rfl,we rfl,we rfl,we rfl,trivial⟩ (Uk [0,1,2] [_,_,_] (l':=[_,_,_]) rfl (wl (oe rfl) (wl (oe rfl) (wl (oe rfl) (Ie)))))⟩
  (try simp only[sd,se] at c1);obtain⟨e1,e2⟩:=fH (by have:=hqi;rwa [List.drop_eq_nil_of_le Au] at this);exact EM (BZ tab 2 [0,1,1] O (CB (⟨O,_,_,⟨_,_,O,(DS (i:=1) CN O O Am),O⟩,(Es [] [_,_] O),⟨_,(by rw[e2];exact hlj),⟨w2,hwf2⟩,(by rw[e1]),(by rw[e2];rfl)⟩⟩)))
 (try simp only[sd,se] at c);obtain⟨hkl,_,ts,hqs,rfl⟩:=pj h0 c;simp only at hkl hqs;refine BQ (BS tab 2 [0] O (BA O (Cx KA O (Np _ _)) (BK tab 2 [] O (BX O (fun c1=>?_) (fun c1=>?_)))))
 ·(try simp only[sd,se] at c1);refine BZ tab 4 [0,1,0] O (BR (BQ (BJ (EX (i:=1) O (Up (aw (we O) (aw (we O) (aw (we O) (aw (we O) (aw (I1) (HW)))))))) (BJ (H7 (sz:=5)) (BJ (BE (i:=2) O) (BS tab 2 [1] O (BA O (Cx KA O (Np _ _)) (BK tab 1 [] O (B3 ?_)))))))));refine Ep (α:=Nat×List Tm×NS×List Nat×Option Nat×Nat) (fun(i,ys,S,MUx,o,cp)=>⟨94,mk [(0,.p (.addr (RM mu a))),(1,.p (.addr m)),(2,.p (I d)),(6,.ptr b6 0),(7,.ptr b7 0),(8,.ptr b8 0),(44,.p (.lst (Ue mu hks))),(45,.p (I (hks.length:Nat))),(46,.p (I (i:Int)))],(.vec o 5 (A6 ys) cp:: .box b8 [.p (I hk),.p (I hv),.p (I gk),.p (I gi),.p (.str gn),.p (.lst (List.map B4 gl)),.p (.lst (A6 gs)),.p (.lst (Ue mu hks)),.p (.nilFn)]:: .box b7 [.p (I hk),.p (I 0),.p (.str ⟨#[]⟩),.p (.lst []),.vs o (A6 ys).length cp]:: .box b6 [.p (I 0),.p (I 0),.p (.str ⟨#[]⟩),.p (.nils),.p (.nils)]:: .box m [.p (.lst []),.p (I S.left),.p (I S.nodes)]::Mm xq m MUx MUx S.objs),[]⟩) (fun(i,ys,S,MUx,o,cp)=>hks.length - i) (fun(i,ys,S,MUx,o,cp)=>i≤hks.length∧(ys.length=i∧MUx.length=S.objs.length∧(∃w,MUx=w++mu)∧∃zs,bX (Ul (Mc n) n) d (hks.drop i) S= .ok (zs,s1)∧ts=ys++zs)) ⟨0,[],({ s with nodes:=s.nodes+1 }:NS),mu,none,0⟩ (⟨by omega,rfl,hl,⟨[],rfl⟩,ts,by rw[List.drop_zero];exact hqs,rfl⟩) ?_ ?_
  ·exact Ea ⟨we O,we O,we O,we O,we O,we O,we O,we O,we O,Aw⟩ (Uk [0,1,2,3,4] [_,_,_,_,_] (l':=[_,_,_,_,_]) O (wl (oe O) (wl (oe O) (wl (oe O) (wl (oe O) (wl (oe O) (Ie)))))))
  rintro⟨i,ys,S,MUx,o,cp⟩ hC
  try simp only at hC
  obtain⟨hi,⟨hyl,hli,⟨w,hwe⟩,zs,hqi,htz⟩⟩:=hC;refine BZ tab 1 [] O (BR (BX O (fun c2=>?_) (fun c2=>?_)))
  ·(try simp only[sd,se] at c2);refine Bn (BR (B3 (BQ ?_)));obtain⟨x,hx⟩:=A1 (l:=hks) (i:=i) Au;refine BA O (A0 KA O O Au (Ww hx) O) (BK tab 2 [] O (Hd (fun k=>Nat.beq k 5||Nat.beq k 7) Oq (DO tab 5 [2] O ?_)));obtain⟨y,sy,ys2,hq1,hq2,rfl⟩:=me (by rw[←Cd hx];exact hqi);refine Kv [] O O (FJ O O (List.perm_append_comm (l₁:=[_,_,_,_])) (by have h9:=bC n hQ m MUx S sy y x d hli hq1;rw[hwe,KD (hkw x (List.mem_of_getElem? hx)),←hwe] at h9;exact h9) (T7)) Ap (nE hli (Wy hq1) _) (ZD _) ?_;rintro _ _ ⟨_,⟨_,hl1,⟨w,rfl⟩,rfl,rfl⟩,rfl⟩;refine⟨(.vec o 5 (A6 ys) cp:: .box b8 [.p (I hk),.p (I hv),.p (I gk),.p (I gi),.p (.str gn),.p (.lst (List.map B4 gl)),.p (.lst (A6 gs)),.p (.lst (Ue mu hks)),.p (.nilFn)]:: .box b7 [.p (I hk),.p (I 0),.p (.str ⟨#[]⟩),.p (.lst []),.vs o (A6 ys).length cp]:: .box b6 [.p (I 0),.p (I 0),.p (.str ⟨#[]⟩),.p (.nils),.p (.nils)]:: .box m [.p (.lst []),.p (I sy.left),.p (I sy.nodes)]::Mm xq m (w++MUx) (w++MUx) sy.objs),List.perm_append_comm,AB,Aw,?_⟩;refine A3 O (fun _=>By (rows:=A6 [y]) BT Ba O O O O (CX (Bd _)) (Gg _)) Aw (JT [] O O (Bh (i:=0) (rows':=A6 [y]) BT BT Ba O O O O O O (Bd _) AD (Hl ys [y])) Ap fun o1 cp1=>⟨AB,Aw,?_⟩);refine CY tab 2 [2,0] O (Be (BK tab 2 [] O ?_));refine⟨⟨i+1,(ys++[y]),sy,(w++MUx),o1,cp1⟩,Ae,⟨by omega,⟨by simp[hyl],by assumption,⟨_,by rw[hwe,←List.append_assoc]⟩,ys2,hq2,by rw[htz,List.append_assoc];rfl⟩⟩,Ea ⟨we rfl,we rfl,we rfl,we rfl,we rfl,we rfl,we rfl,we rfl,we rfl,trivial⟩ (Uk [0,1,2,3,4] [_,_,_,_,_] (l':=[_,_,_,_,_]) rfl (wl (oe rfl) (wl (oe rfl) (wl (oe rfl) (wl (oe rfl) (wl (oe rfl) (Ie)))))))⟩
  (try simp only[sd,se] at c2);have hqe:=oW (by have:=hqi;rwa [List.drop_eq_nil_of_le Au] at this);have hts:ts=ys:=by rw[htz,hqe.1,List.append_nil]
  have hs1:=hqe.2;have hgS:=hg1;rw[hs1] at hgS;have hbS:RM MUx a=RM mu a:=by rw[hwe];exact OM hlt
  have hawS:∀x∈args,x<MUx.length:=by rw[hli,←hs1];exact haw
  refine EM (BQ (BS tab 2 [1] O (BA O (gv Ap O O) (Ch O ?_))));refine BX O (fun c3=>by cases c3) (fun c3=>?_);refine Bn (BR (BQ (BJ (Cf (i:=0) (j:=2) (q:=4) [] O O O (DA Aw)) (D5 O (BA O (CP O) (BA O (BG SZ O O) (BA O (Bt (i:=S.objs.length - 1 - a+1+1+1+1) dr O (fU hli hgS hbS) O) (BA O (Cx KA O (Np _ _)) (BK tab 1 [] O (B3 ?_))))))))));refine Ep (α:=Nat×Tm×NS×List Nat) (fun(i,z,S2,MUy)=>⟨94,mk [(1,.p (.addr m)),(2,.p (I d)),(6,.ptr b6 0),(7,.ptr b7 0),(76,.p (.lst (Ue MUx args))),(77,.p (I (args.length:Nat))),(78,.p (I (i:Int)))],(.box b7 ((BD z).map .p):: .box b6 [.p (I 0),.p (I 0),.p (.str ⟨#[]⟩),.p (.nils),.p (.nils)]:: .box m [.p (.lst []),.p (I S2.left),.p (I S2.nodes)]::Mm xq m MUy MUy S2.objs),[]⟩) (fun(i,z,S2,MUy)=>args.length - i) (fun(i,z,S2,MUy)=>i≤args.length∧(MUy.length=S2.objs.length∧(∃w,MUy=w++MUx)∧YK (Ul (Mc n) n) d (args.drop i) z S2= .ok (t,s'))) ⟨0,(.mk hk 0 ⟨#[]⟩ [] ys),S,MUx⟩ (⟨by omega,hli,⟨[],rfl⟩,by rw[List.drop_zero,←hts,←hs1];exact hqa⟩) ?_ ?_
  ·exact Ea ⟨we O,we O,we O,we O,we O,we O,we O,Aw⟩ (Uk [1,2,3] [_,_,_,_] (l':=[_,_,_]) O (wl (oe O) (wl (oe O) (wl (oe O) (Ie)))))
  rintro⟨i,z,S2,MUy⟩ hC1
  try simp only at hC1
  obtain⟨hi,⟨hlj,⟨w2,hwf2⟩,hqi⟩⟩:=hC1;refine BZ tab 1 [] O (BR (BX O (fun c4=>?_) (fun c4=>?_)))
  ·(try simp only[sd,se] at c4);refine Bn (BR (B3 (BQ ?_)));obtain⟨x,hx⟩:=A1 (l:=args) (i:=i) Au;refine BA O (A0 KA O O Au (Ww hx) O) (BK tab 2 [] O (BQ ?_));obtain⟨hn3,hn4,hn5,hn6,y,sy,hq1,hq2⟩:=Z5 (by rw[←Cd hx];exact hqi);refine BS tab 2 [] O (BA O (Bi [2] O (.inl ⟨O,O,O⟩) (ct m S2.left S2.nodes d hn3 hn4 hn5 hn6) ⟨_,_,O,O,O⟩ As O (.inl O)) (Ch O (Hd (fun k=>Nat.beq k 4) Oq (DO tab 4 [0] O (Kv [] O O (FJ O O (List.perm_append_comm (l₁:=[_,_])) (by have h9:=bC n hQ m MUy { S2 with nodes:=S2.nodes+1 } sy y x d hlj hq1;rw[hwf2,KD (hawS x (List.mem_of_getElem? hx)),←hwf2] at h9;exact h9) (T7)) Ap (nE (s:={ S2 with nodes:=S2.nodes+1 }) hlj (Wy hq1) _) (ZD _) ?_)))));rintro _ _ ⟨_,⟨_,hl1,⟨w,rfl⟩,rfl,rfl⟩,rfl⟩;refine⟨(.box b7 ((BD z).map .p):: .box b6 [.p (I 0),.p (I 0),.p (.str ⟨#[]⟩),.p (.nils),.p (.nils)]:: .box m [.p (.lst []),.p (I sy.left),.p (I sy.nodes)]::Mm xq m (w++MUy) (w++MUy) sy.objs),List.perm_append_comm,AB,Aw,?_⟩;refine A3 O (fun _=>By (rows:=A6 [y]) BT Ba O O O O (CX (Bd _)) (Gg _)) Aw (A3 O (fun _=>BF O O (Fj z [y] (by simp only[DZ,List.length_cons,List.length_nil];decide)) O) Aw (CY tab 1 [0,1] O (Be (BK tab 2 [] O ?_))));refine⟨⟨i+1,(apply z [y]),sy,(w++MUy)⟩,Ae,⟨by omega,⟨by assumption,⟨_,by rw[hwf2,←List.append_assoc]⟩,hq2⟩⟩,Ea ⟨we rfl,we rfl,we rfl,we rfl,we rfl,we rfl,we rfl,trivial⟩ (Uk [0,1,2] [_,_,_] (l':=[_,_,_]) rfl (wl (oe rfl) (wl (oe rfl) (wl (oe rfl) (Ie)))))⟩
  (try simp only[sd,se] at c4);obtain⟨e1,e2⟩:=fH (by have:=hqi;rwa [List.drop_eq_nil_of_le Au] at this);refine EM (BZ tab 2 [0,1,1] O (CB ?_));exact⟨O,_,_,⟨_,_,O,(DS (i:=1) CN O O Am),O⟩,(Es [] [_,_] O),⟨_,(by rw[e2];exact hlj),⟨w2++w,by rw[hwf2,hwe,List.append_assoc]⟩,(by rw[e1]),(by rw[e2];rfl)⟩⟩
 (try simp only[sd,se] at c1);exfalso;omega
theorem r8:∀n,QC n
 | 0=>fun m mu s s' t a d hl h=>(by cases h)
 | n+1=>fun m mu s s' t a d hl h=>sF n (r8 n) m mu s s' t a d hl h
theorem pV:∀(bo be:Nat) (co ce:List AV),D7 Tryz.prog 32 [.ptr bo 0,.ptr be 0] (.ret) [.box bo co,.box be ce] (fun H'=>H'=[.box bo co,.box be ce]):=by
 intro bo be co ce;refine GU (ty2:=0) Tryz.func32 O xZ (n:=16) O O O O O O (BQ (D5 O (BA O (Fp XD O O O) (Ch O ?_))));refine BX O (fun c=>by cases c) (fun c=>?_);exact Bn ⟨.inl O,O,_,(G7 (is:=[0,1]) O),O⟩
theorem eH:∀(n:Nat) (t z:Tm) (s2:NS),km n t= .ok (z,s2)→En Tryz.prog 12 [.p (.lst []),TV t] (.tup [TV z,.p (I 0)]):=by
 intro n t z s2 h;obtain⟨⟨v,s1⟩,h1,h2⟩:=MR h;obtain⟨_,a,e⟩:=cE h2;simp only at e;subst e;refine El Tryz.func12 O xY (n:=16) O O (BQ (C8 O (Dl O) fun b3=>C8 O (Az Ba O) fun b4=>C8 O (Az bA O) fun b5=>Ch O (BQ (BA O (EP O O) (LL O O O O (Ch O (BQ (BS tab 2 [] O ?_))))))));refine C8 O (Dl O) fun m=>BK tab 1 [] O (BQ (IN (List.perm_append_comm (l₁:=[_]) (l₂:=[_,_,_])) (BS tab 2 [2] O (M0 O O (FJ O O (List.perm_append_comm (l₁:=[_,_,_])) ((VC n m [] ⟨[],20000,0⟩ s1 (.st a) O).1 t none h1) (T7)) (K6 _) ?_))));rintro _ _ ⟨_,⟨_,hl,⟨w,rfl⟩,rfl,rfl⟩,rfl⟩;refine⟨(.box b5 [.p (I 0)]:: .box b4 [.p (I 0),.p (I 0),.p (.str ⟨#[]⟩),.p (.nils),.p (.nils)]:: .box b3 ((BD t).map .p):: .box m [.p (.lst []),.p (I s1.left),.p (I s1.nodes)]::Mm xq m (w++[]) (w++[]) s1.objs),List.perm_append_comm,?_⟩;refine D5 O (M0 O O (LY O O Ap (List.perm_append_comm (l₁:=[_,_,_])) (r8 n m (w++[]) s1 s2 z a 0 hl h2) (T7)) (ZD _) ?_);rintro _ _ ⟨_,⟨_,hl1,⟨w1,rfl⟩,rfl,rfl⟩,rfl⟩;refine⟨(.box b5 [.p (I 0)]:: .box b4 [.p (I 0),.p (I 0),.p (.str ⟨#[]⟩),.p (.nils),.p (.nils)]:: .box b3 ((BD t).map .p):: .box m [.p (.lst []),.p (I s2.left),.p (I s2.nodes)]::Mm xq m (w1++(w++[])) (w1++(w++[])) s2.objs),List.perm_append_comm,?_⟩;refine BK tab 2 [1,1,0,0] O (CB (⟨_,_,_,O,DQ (is:=[1,0]) As ⟨_,_,O,O,⟨_,_,O,O,O⟩⟩,D7.eq (pV b4 b5 _ _) ?_⟩));refine⟨_,_,⟨_,_,O,(DS (i:=0) CN O O Am),⟨_,_,O,(GD (i:=1) Qz O O),O⟩⟩,(List.nil_sublist _),?_⟩
 all_goals exact⟨rfl,rfl⟩
end Go.Proofs.YtldfmjoncbjldaaGreat
namespace Go.Eu
open Go.Abs
def NF {α:Type}(o:Out α):Prop:=o≠ .fail
section
variable {α β:Type}
theorem EZ (a:α):NF (.ok a):=fun h=>by cases h
theorem EU:NF (.stuck:Out α):=fun h=>by cases h
theorem Nj {o:Out α}{k:α→Out β}(h:NF o) (hk:∀a,NF (k a)):NF (o.bind k):=by
 cases o with
 | stuck=>exact EU
 | fail=>exact absurd rfl h
 | ok a=>exact hk a
theorem cU {σ:Type}{o:Out (Tm×σ)}{k:Tm×σ→Out β}(h:NF o) (hk:∀a,NF (k a)):NF (o.chk k):=by
 unfold Out.chk;refine Nj h fun r=>?_;split
 ·exact hk r
 exact EU
theorem MG {s:Dm}{x:Tm×Int}{k:Tm→Dm→Out α}(hk:∀t s',NF (k t s')):NF (DI.put s x k):=by
 unfold Sys.put;split
 ·exact hk _ _
 exact EU
end
section
variable {E:List B8}{W:Dm→Tm→Out (Tm×Dm)}
theorem dc (hW:∀c t,NF (W c t)):∀(n:Nat) (t:FV) (vs:List Tm) (l:Tm) (c:Dm),NF (EA E DI W n t vs l c)
 | 0,t,vs,l,c=>by rw[EA];exact EU
 | n+1,t,vs,l,c=>by
  rw[EA];split
  ·split
   ·exact EZ _
   refine cU (hW _ _) fun r=>?_;split
   ·exact EZ _
   split
   ·exact EZ _
   exact dc hW n _ _ _ _
  exact EZ _
theorem Yj {d:B8}{h:Tm}{a:List Tm}{c:Dm}:NF (EL DI d h a c):=by
 unfold EL;split
 ·exact EZ _
 exact MG fun _ _=>EZ _
theorem dt {d:B8}{h m:Tm}{a:List Tm}{c:Dm}:NF (ES E DI d h a m c):=by
 unfold ES;split
 ·exact EZ _
 split
 ·exact EZ _
 split
 ·exact EZ _
 exact MG fun _ _=>EZ _
theorem fo {h b:Tm}{vs a:List Tm}{c:Dm}:NF (FE DI h b vs a c):=by
 unfold FE;split
 ·exact EZ _
 split
 ·exact EU
 exact MG fun _ _=>EZ _
theorem ku (hW:∀c t,NF (W c t)) {n:Nat}{h:Tm}{a:List Tm}{c:Dm}:NF (Dc E DI W n h a c):=by
 unfold Dc;split
 ·exact EZ _
 split
 ·exact Yj
 split
 ·unfold Qj;split
  ·exact EZ _
  exact cU (hW _ _) fun r=>dt
 split
 ·unfold Iw;split
  ·exact EZ _
  refine Nj (dc hW _ _ _ _ _) fun q=>?_;split
  ·exact EZ _
  split
  ·exact EZ _
  exact fo
 exact EZ _
theorem ri:∀(n:Nat) (c:Dm) (t:Tm),NF (FM E DI n c t)
 | 0,c,t=>by rw[FM];exact EU
 | n+1,c,t=>by
  have ih:=ri n;rw[FM];split
  ·exact EU
  split
  ·exact EZ _
  split
  ·rename_i h;exact absurd h (by simp[DI])
  split
  ·split
   ·exact EZ _
   unfold KG;split
   ·exact EU
   exact MG fun _ _=>ih _ _
  split
  ·unfold Oj;split
   ·exact MG fun _ _=>ih _ _
   exact EU
  split
  ·split
   ·exact EU
   refine cU (ih _ _) fun r=>?_;split
   ·exact EZ _
   unfold Je;split
   ·exact EU
   exact MG fun _ _=>ih _ _
  split
  ·refine Nj (ku ih) fun r=>?_;split
   ·exact EZ _
   exact ih _ _
  exact EZ _
theorem kW {T:Dm→Tm→Out (Option Tm×Dm)}(hT:∀c t,NF (T c t)) {h:Tm}{ar:Int}{a:List Tm}:∀(n:Nat) (t:FV) (vs:List Tm) (pl:List (Int×List Int)) (c:Dm),NF (Fq E DI T h ar a n t vs pl c)
 | 0,t,vs,pl,c=>by rw[Fq];exact EU
 | n+1,t,vs,pl,c=>by
  rw[Fq];split
  ·split
   ·exact EZ _
   split
   ·refine Nj (hT _ _) fun r=>?_;split
    ·exact EZ _
    split
    ·exact EU
    exact EZ _
   split
   ·exact EZ _
   exact kW hT n _ _ _ _
  exact fo
theorem jV:∀(n:Nat) (c:Dm) (t:Tm),NF (Dg E DI n c t)
 | 0,c,t=>by rw[Dg];exact EU
 | n+1,c,t=>by
  have ih:=jV n;rw[Dg];split
  ·exact EU
  split
  ·split
   ·exact EZ _
   unfold KG;split
   ·exact EU
   exact MG fun _ _=>EZ _
  split
  ·unfold Oj;split
   ·exact MG fun _ _=>EZ _
   exact EU
  split
  ·split
   ·exact EU
   split
   ·unfold Je;split
    ·exact EU
    exact MG fun _ _=>EZ _
   refine Nj (ih _ _) fun r=>?_;split
   ·exact EZ _
   exact EZ _
  split
  ·split
   ·exact EZ _
   split
   ·exact Yj
   split
   ·split
    ·exact dt
    refine Nj (ih _ _) fun r=>?_;split
    ·exact EZ _
    exact EZ _
   split
   ·exact kW ih _ _ _ _ _
   exact EZ _
  exact EZ _
end
theorem ju {α:Type}{o:Out α}{p:α→Prop}(h:C7 o p) (hf:NF o):∃a,o= .ok a∧p a:=by
 cases o with
 | stuck=>exact h.elim
 | fail=>exact absurd rfl hf
 | ok a=>exact⟨a,rfl,h⟩
@[irreducible] def FN:Nat:=1000000000000
theorem Yy:FN=1000000000000:=by unfold FN;rfl
section
variable {E:List B8}{t:Tm}
end
structure Fit (z:Nat) (q:Tm):Prop where
 sz:size q≤2000+z
 dp:depth q≤95+z
def QF (z:Nat) (o:Out (Option Tm×Dm)):Prop:=∀q c',o= .ok (some q,c')→c'.over=false→Fit z q
theorem QF.mono {z z':Nat}{o:Out (Option Tm×Dm)}(h:QF z o) (hz:z≤z'):QF z' o:=fun q c' e hv=>by
 obtain⟨h1,h2⟩:=h q c' e hv;exact⟨by omega,by omega⟩
section
variable {E:List B8}
end
theorem aj:kC Gz:=⟨rfl,by decide,fun _=>by decide⟩
section
variable {E:List B8}{t:Tm}
theorem dO (hE:G2 E) (ho:okB t=true) (hs:size t≤10000):C7 (Dg E CE FN 20000 t) (UC CE N1 (fun n=>(20000 - n).toNat) 20000 (size t)) :=
 Pu pF hE FN 20000 t bz Av ho (by rw[Yy];omega) Au
theorem bE (hE:G2 E) (ho:okB t=true) (hs:size t≤10000):tO (Dg E CE FN 20000 t):=fun q c e=>((dO hE ho hs).get e).ok q rfl |>.1
theorem eJ (hE:G2 E) (ho:okB t=true) (hs:size t≤10000):∃q c,Dg E DI FN Gz t= .ok (q,c)∧okB (q.getD BN)=true:=by
 obtain⟨⟨q,c⟩,h1,h2⟩:=ju (Pu dx hE FN Gz t aj (by simp[Gz]) ho (by rw[Yy];omega) Au) (jV FN Gz t);refine⟨q,c,h1,?_⟩;cases q with
 | none=>exact J7
 | some x=>exact(h2.ok x rfl).1
end
section
variable {E:List B8}{t:FV}{a:List Tm}
structure pa (t:FV) (a:List Tm):Prop where
 tok:FD t
 dep:Dq t≤50
 ok:∀x∈a,okB x=true
 sz:BB a≤60
theorem pa.len (h:pa t a):a.length≤60:=by have:=Fk a;have:=h.sz;omega
theorem pa.all (h:pa t a):∀x∈a,okB x=true∧size x≤100000:=fun x hx=>⟨h.ok x hx,by have:=FI hx;have:=h.sz;omega⟩
end
section
variable {E:List B8}{σ σ':Type}{S:Sys σ}{S':Sys σ'}
theorem Ii {α:Type}{s:σ}{x:Tm×Int}{f:Tm→α}{s1:σ}(h:S.put s x (fun t s'=> .ok (some (f t),s'))= .ok (none,s1)):False:=by
 unfold Sys.put at h;split at h
 ·split at h<;>simp at h
 cases h
theorem Yo {d:B8}{g:Tm}{a:List Tm}{s s1:σ}(h:EL S d g a s= .ok (none,s1)) (s2:σ'):EL S' d g a s2= .ok (none,s2):=by
 unfold EL at h ⊢;split at h
 ·rename_i e;rw[if_pos e]
 exact(Ii h).elim
theorem dJ {d:B8}{g m:Tm}{a:List Tm}{s s1:σ}(h:ES E S d g a m s= .ok (none,s1)) (s2:σ'):ES E S' d g a m s2= .ok (none,s2):=by
 unfold ES at h ⊢;split at h
 ·rfl
 rename_i e j fs hc;split at h
 ·rename_i e;rw[if_pos e]
 rename_i e1;rw[if_neg e1];split at h
 ·rename_i e;rw[if_pos e]
 exact(Ii h).elim
theorem oT {g b:Tm}{vs a:List Tm}{s s1:σ}(h:FE S g b vs a s= .ok (none,s1)) (s2:σ'):FE S' g b vs a s2= .ok (none,s2):=by
 unfold FE at h ⊢;split at h
 ·rename_i e;rw[if_pos e]
 split at h
 ·cases h
 exact(Ii h).elim
theorem kp {T:σ→Tm→Out (Option Tm×σ)}{T':σ'→Tm→Out (Option Tm×σ')}(hT:∀s t s1,T s t= .ok (none,s1)→∀s2,T' s2 t= .ok (none,s2)) {h:Tm}{ar:Int}{a:List Tm} :
  ∀(m:Nat) (t:FV) (vs:List Tm) (pl:List (Int×List Int)) (s s1:σ),Fq E S T h ar a m t vs pl s= .ok (none,s1)→∀s2,Fq E S' T' h ar a m t vs pl s2= .ok (none,s2)
 | 0,t,vs,pl,s,s1,e,s2=>by cases e
 | m+1,t,vs,pl,s,s1,e,s2=>by
  rw[Fq] at e ⊢;split at e
  ·rename_i hk;rw[if_pos hk];split at e
   ·rename_i hv;rw[if_pos hv]
   rename_i hv;rw[if_neg hv];split at e
   ·rename_i hc;obtain⟨r,h1,h2⟩:=D8 e;obtain⟨q,s3⟩:=r;simp only at h2;split at h2
    ·rename_i hq;rw[hT _ _ _ h1 s2];rfl
    split at h2<;>simp at h2
   rename_i d j fs hc;split at e
   ·rfl
   rename_i t' hb;exact kp hT m t' _ _ s s1 e s2
  rename_i hk;rw[if_neg hk];exact oT e s2
theorem NI:∀(n:Nat) (s:σ) (t:Tm) (s1:σ),Dg E S n s t= .ok (none,s1)→∀s2:σ',Dg E S' n s2 t= .ok (none,s2)
 | 0,s,t,s1,h,s2=>by cases h
 | n+1,s,t,s1,h,s2=>by
  rw[Dg] at h ⊢;split at h
  ·cases h
  rename_i ho;rw[if_neg ho];split at h
  ·rename_i hk;rw[if_pos hk];split at h
   ·rename_i hl;rw[if_pos hl]
   unfold KG at h;split at h
   ·cases h
   exact(Ii h).elim
  rename_i h5;rw[if_neg h5];split at h
  ·unfold Oj at h;split at h
   ·exact(Ii h).elim
   cases h
  rename_i h11;rw[if_neg h11];split at h
  ·rename_i h9;rw[if_pos h9];split at h
   ·cases h
   rename_i p hp;split at h
   ·unfold Je at h;split at h
    ·cases h
    exact(Ii h).elim
   rename_i h8;rw[if_neg h8];obtain⟨⟨q,s3⟩,h1,h2⟩:=D8 h;simp only at h2;split at h2
   ·rename_i hq;rw[NI n _ _ _ h1 s2];rfl
   simp at h2
  rename_i h9;rw[if_neg h9];split at h
  ·rename_i h3;rw[if_pos h3];split at h
   ·rfl
   rename_i x hu;split at h
   ·rename_i hx;rw[if_pos hx];exact Yo h s2
   rename_i hx1;rw[if_neg hx1];split at h
   ·rename_i hx5;rw[if_pos hx5];split at h
    ·rename_i q hc;exact dJ h s2
    rename_i hc;obtain⟨⟨q,s3⟩,h1,h2⟩:=D8 h;simp only at h2;split at h2
    ·rename_i hq;rw[NI n _ _ _ h1 s2];rfl
    simp at h2
   rename_i hx5;rw[if_neg hx5];split at h
   ·rename_i hx6;rw[if_pos hx6];exact kp (NI n) _ _ _ _ _ _ h s2
   rename_i hx6;rw[if_neg hx6]
  rename_i h3;rw[if_neg h3]
end
section
variable {E:List B8}{t:Tm}
def KX (E:List B8) (t:Tm):Bool:=match Dg E DI FN Gz t with
 | .ok (q,c)=>q.isSome||c.over
 | _=>true
def Md (E:List B8) (t:Tm):Bool:=(Pq (Dg E CE FN 20000 t)).2.1||decide ((Pq (Dg E CE FN 20000 t)).2.2≠0)
theorem PA:KX E t=false↔Dg E DI FN Gz t= .ok (none,Gz):=by
 unfold KX;constructor
 ·intro h;split at h
  ·rename_i q c e;cases q with
   | some x=>simp at h
   | none=>rw[NI FN _ _ _ e Gz]
  cases h
 intro h;rw[h];rfl
theorem Z0:Md E t=false↔∃l,Dg E CE FN 20000 t= .ok (none,l):=by
 unfold Md;constructor
 ·intro h;simp only[Bool.or_eq_false_iff,decide_eq_false_iff_not,Decidable.not_not] at h;generalize Dg E CE FN 20000 t=o at h;cases o with
  | stuck=>exact absurd h.2 As
  | fail=>exact absurd h.2 As
  | ok a =>
   obtain⟨q,l⟩:=a;cases q with
   | none=>exact⟨l,rfl⟩
   | some x =>
    simp only[Pq] at h;split at h
    ·exact absurd h.1 Av
    exact absurd h.2 Av
 rintro⟨l,h⟩;rw[h];rfl
theorem px:Md E t=KX E t:=by
 cases hp:Md E t with
 | false =>
  obtain⟨l,h⟩:=Z0.1 hp;exact(PA.2 (NI FN _ _ _ h Gz)).symm
 | true =>
  cases hr:KX E t with
  | true=>rfl
  | false =>
   have:=Z0.2 ⟨20000,NI FN _ _ _ (PA.1 hr) (20000:Int)⟩;rw[hp] at this;cases this
def Gv (st:Tm→Bool):Nat→Tm→Bool
 | 0,_=>true
 | n+1,t=> !st t&&((Ay t).1.kids++(Ay t).2).all (Gv st n)
theorem O0:∀(n:Nat) (t:Tm),Gv (Md E) n t=Gv (KX E) n t
 | 0,t=>rfl
 | n+1,t=>by
  rw[Gv,Gv,px];congr 1;have:Gv (Md E) n=Gv (KX E) n:=funext (O0 n);rw[this]
end
def E3 {α β:Type}(R:α→β→Prop):List α→List β→Prop
 | [],[]=>True
 | x::xs,y::ys=>R x y∧E3 R xs ys
 | _,_=>False
section
variable {α β:Type}{R R':α→β→Prop}
theorem E3.len:∀{xs:List α}{ys:List β},E3 R xs ys→ys.length=xs.length
 | [],[],_=>rfl
 | _::_,_::_,h=>congrArg (·+1) (E3.len h.2)
 | [],_::_,h=>h.elim
 | _::_,[],h=>h.elim
theorem E3.get:∀{xs:List α}{ys:List β}{i:Nat}{x:α},E3 R xs ys→xs[i]?=some x→∃y,ys[i]?=some y∧R x y
 | x::xs,y::ys,0,z,h,e=>by cases e;exact⟨y,rfl,h.1⟩
 | x::xs,y::ys,i+1,z,h,e=>E3.get (i:=i) h.2 e
 | [],[],i,z,h,e=>by cases e
 | [],_::_,i,z,h,e=>h.elim
 | _::_,[],i,z,h,e=>h.elim
theorem E3.mono (hR:∀x y,R x y→R' x y):∀{xs:List α}{ys:List β},E3 R xs ys→E3 R' xs ys
 | [],[],_=>trivial
 | _::_,_::_,h=>⟨hR _ _ h.1,E3.mono hR h.2⟩
 | [],_::_,h=>h.elim
 | _::_,[],h=>h.elim
theorem E3.append:∀{xs xs':List α}{ys ys':List β},E3 R xs ys→E3 R xs' ys'→E3 R (xs++xs') (ys++ys')
 | [],_,[],_,_,h=>h
 | _::_,_,_::_,_,h,h'=>⟨h.1,E3.append h.2 h'⟩
 | [],_,_::_,_,h,_=>h.elim
 | _::_,_,[],_,h,_=>h.elim
theorem E3.drop:∀(n:Nat) {xs:List α}{ys:List β},E3 R xs ys→E3 R (xs.drop n) (ys.drop n)
 | 0,_,_,h=>h
 | n+1,[],[],_=>trivial
 | n+1,_::_,_::_,h=>E3.drop n h.2
 | n+1,[],_::_,h=>h.elim
 | n+1,_::_,[],h=>h.elim
theorem E3.take:∀(n:Nat) {xs:List α}{ys:List β},E3 R xs ys→E3 R (xs.take n) (ys.take n)
 | 0,_,_,_=>by rw[List.take_zero,List.take_zero];trivial
 | n+1,[],[],_=>trivial
 | n+1,_::_,_::_,h=>⟨h.1,E3.take n h.2⟩
 | n+1,[],_::_,h=>h.elim
 | n+1,_::_,[],h=>h.elim
theorem E3.of {f:α→β}:∀{xs:List α},(∀x∈xs,R x (f x))→E3 R xs (xs.map f)
 | [],_=>trivial
 | x::xs,h=>⟨h x Av,E3.of fun y hy=>h y (by simp[hy])⟩
theorem E3.eq {R₁ R₂:α→β→Prop}(hR:∀x y z,R₁ x y→R₂ x z→y=z):∀{xs:List α}{ys zs:List β},E3 R₁ xs ys→E3 R₂ xs zs→ys=zs
 | [],[],[],_,_=>rfl
 | _::_,_::_,_::_,h,h'=>by rw[hR _ _ _ h.1 h'.1,E3.eq hR h.2 h'.2]
 | [],_::_,_,h,_=>h.elim
 | _::_,[],_,h,_=>h.elim
 | [],[],_::_,_,h=>h.elim
 | _::_,_::_,[],_,h=>h.elim
end
def R6 (h:Tm) (ks zs:List Tm):Tm:=apply (.mk h.kind h.index h.name h.levels ks) zs
theorem QT {h:Tm}(hk:h.kind≠4) (ks zs:List Tm):Ay (R6 h ks zs)=(.mk h.kind h.index h.name h.levels ks,zs):=LQ (h:= .mk h.kind h.index h.name h.levels ks) hk zs
theorem V1:∀(t:Tm),Wt t→(Ay t).1.kind≠4
 | .mk k i n l [f,a],h=>by
  unfold Ay;split
  ·exact V1 f h.2.2.1
  ·assumption
 | .mk k i n l [],h=>by unfold Ay;intro e;have:=h.1;rw[show k=4 from e] at this;simp[arity] at this
 | .mk k i n l [a],h=>by unfold Ay;intro e;have:=h.1;rw[show k=4 from e] at this;simp[arity] at this
 | .mk k i n l (a::b::c::r),h=>by unfold Ay;intro e;have:=h.1;rw[show k=4 from e] at this;simp[arity] at this;omega
theorem Xm {t:Tm}(ho:okB t=true):(Ay t).1.kind≠4:=V1 t (Bu.1 ho).wt
theorem yN {n:ByteArray}(h:n.size=0):n=⟨#[]⟩:=by
 obtain⟨⟨d⟩⟩:=n;have:d=[]:=List.eq_nil_of_length_eq_zero h;subst this;rfl
theorem rN {k i:Int}{n:ByteArray}{l:List CW}{ks:List Tm}(h:Ci (.mk k i n l ks)):(k≠0→k≠12→i=0)∧(k≠3→n=⟨#[]⟩)∧(k≠2→k≠3→l=[]):=by
 have:=h.1;simp only[uc,Bool.and_eq_true,Bool.or_eq_true,decide_eq_true_eq] at this;exact⟨fun h0 h1=>by omega,fun h3=>yN Au,fun h2 h3=>List.eq_nil_of_length_eq_zero Au⟩
theorem Ru:∀(t:Tm),Ci t→apply (Ay t).1 (Ay t).2=t
 | .mk k i n l [f,a],h=>by
  unfold Ay;split
  ·rename_i hk;obtain⟨c1,c2,c3⟩:=rN h;have:=Ru f h.2.1;simp only[apply,List.foldl_append,List.foldl_cons,List.foldl_nil] at this ⊢;rw[this,c1 Au Au,c2 Au,c3 Au Au,hk];rfl
  ·rfl
 | .mk k i n l [],h=>by unfold Ay;rfl
 | .mk k i n l [a],h=>by unfold Ay;rfl
 | .mk k i n l (a::b::c::r),h=>by unfold Ay;rfl
section
variable {E:List B8}
def Wh (E:List B8) (t w:Tm):Prop:=okB w=true∧∃n l l',FM E CE n l t= .ok (w,l')
theorem Wh.det {t a b:Tm}(h1:Wh E t a) (h2:Wh E t b):a=b:=by
 obtain⟨_,n,l,l',h1⟩:=h1;obtain⟨_,m,k,k',h2⟩:=h2;rcases Int.le_total l k with h | h
 ·exact Y6 h1 h2 h
 exact(Y6 h2 h1 h).symm
def N3 (E:List B8):Nat→Tm→Tm→Prop
 | 0,_,_=>False
 | k+1,t,n=>∃w ks zs,Wh E t w∧n=R6 (Ay w).1 ks zs∧E3 (N3 E k) (Ay w).1.kids ks∧E3 (N3 E k) (Ay w).2 zs
theorem N3.det:∀{k m:Nat}{t a b:Tm},N3 E k t a→N3 E m t b→a=b
 | 0,_,_,_,_,h,_=>h.elim
 | _+1,0,_,_,_,_,h=>h.elim
 | k+1,m+1,t,a,b,h1,h2=>by
  obtain⟨w,ks,zs,h1,rfl,h3,h4⟩:=h1;obtain⟨w2,ks2,as2,g1,rfl,g3,g4⟩:=h2;obtain rfl:=h1.det g1;have e1:ks=ks2:=E3.eq (R₁:=N3 E k) (R₂:=N3 E m) (fun x y z p q=>N3.det p q) h3 g3;have e2:zs=as2:=E3.eq (R₁:=N3 E k) (R₂:=N3 E m) (fun x y z p q=>N3.det p q) h4 g4;rw[e1,e2]
theorem N3.up:∀{k:Nat}{t a:Tm},N3 E k t a→N3 E (k+1) t a
 | 0,_,_,h=>h.elim
 | k+1,t,a,h=>by
  obtain⟨w,ks,zs,h1,h2,h3,h4⟩:=h;exact⟨w,ks,zs,h1,h2,h3.mono fun _ _=>N3.up,h4.mono fun _ _=>N3.up⟩
theorem N3.le {k m:Nat}(h:k≤m) {t a:Tm}(e:N3 E k t a):N3 E m t a:=by
 induction h with
 | refl=>exact e
 | step _ ih=>exact ih.up
def RX (E:List B8) (k:Int) (nm:ByteArray) (a:List Tm):Option (B8×Int×List Tm) :=
 if k≠3 then none
 else match GQ E nm with
  | none=>none
  | some (d,j)=>if j<0 then none else if (a.length:Int)≠d.fixed+Ed d j then none else some (d,j,a.drop d.fixed.toNat)
theorem O7 (t:Tm):Ce E t=RX E (Ay t).1.kind (Ay t).1.name (Ay t).2:=rfl
theorem gC {R:Tm→Tm→Prop}{k:Int}{nm:ByteArray}{a b:List Tm}(h:E3 R a b) :
  (RX E k nm a=none→RX E k nm b=none)∧(∀d j fs,RX E k nm a=some (d,j,fs)→∃fs',RX E k nm b=some (d,j,fs')∧E3 R fs fs'):=by
 unfold RX;rw[h.len];by_cases k3:k≠3
 ·rw[if_pos k3,if_pos k3];exact⟨fun _=>O,fun d j fs e=>by cases e⟩
 rw[if_neg k3,if_neg k3];cases GQ E nm with
 | none=>exact⟨fun _=>rfl,fun d j fs e=>by cases e⟩
 | some q =>
  obtain⟨d,j⟩:=q;simp only;by_cases hj:j<0
  ·rw[if_pos hj,if_pos hj];exact⟨fun _=>O,fun d j fs e=>by cases e⟩
  rw[if_neg hj,if_neg hj];by_cases hl:(a.length:Int)≠d.fixed+Ed d j
  ·rw[if_pos hl,if_pos hl];exact⟨fun _=>O,fun d j fs e=>by cases e⟩
  rw[if_neg hl,if_neg hl];exact⟨fun e=>(by cases e),fun d1 j1 fs e=>(by cases e;exact⟨_,rfl,h.drop _⟩)⟩
theorem l4 {m:Tm}(ho:okB m=true) {R:Tm→Tm→Prop}{ks zs:List Tm}(h:E3 R (Ay m).2 zs) :
  (Ce E m=none→Ce E (R6 (Ay m).1 ks zs)=none)∧(∀d j fs,Ce E m=some (d,j,fs)→∃fs',Ce E (R6 (Ay m).1 ks zs)=some (d,j,fs')∧E3 R fs fs'):=by
 rw[O7,O7,QT (Xm ho)];exact gC h
theorem eC {k:Nat}{v v' m:Tm}(h:N3 E k v v') (hm:Wh E v m):∃j,k=j+1∧(Ce E m=none→Ce E v'=none)∧(∀d i fs,Ce E m=some (d,i,fs)→∃fs',Ce E v'=some (d,i,fs')∧E3 (N3 E j) fs fs'):=by
 cases k with
 | zero=>exact h.elim
 | succ j =>
  obtain⟨w,ks,zs,h1,rfl,h3,h4⟩:=h;obtain rfl:=h1.det hm;exact⟨j,O,l4 hm.1 h4⟩
def Qt (E:List B8) (t:Tm):Prop:=∃M,∀m,M≤m→∀s,Dg E CE m s t= .ok (none,s)
end
section
variable {E:List B8}
theorem qu {R:Tm→Tm→Prop}{d:B8}{g m m':Tm}{a a':List Tm}{s s1:Int}(h:ES E CE d g a m s= .ok (none,s1)) (h0:Ce E m=none→Ce E m'=none)
  (h1:∀e j fs,Ce E m=some (e,j,fs)→∃fs',Ce E m'=some (e,j,fs')∧E3 R fs fs') (s2:Int):ES E CE d g a' m' s2= .ok (none,s2):=by
 unfold ES at h ⊢;split at h
 ·rename_i e;rw[h0 e]
 rename_i e j fs hc;obtain⟨fs',e1,_⟩:=h1 e j fs hc;rw[e1];simp only;split at h
 ·rename_i e;rw[if_pos e]
 rename_i e1;rw[if_neg e1];split at h
 ·rename_i e;rw[if_pos e]
 exact(Ii h).elim
theorem E3.with {α β:Type}{R:α→β→Prop}{p:β→Prop}:∀{xs:List α}{ys:List β},E3 R xs ys→(∀y∈ys,p y)→E3 (fun x y=>R x y∧p y) xs ys
 | [],[],_,_=>trivial
 | _::_,y::_,h,hp=>⟨⟨h.1,hp y Av⟩,E3.with h.2 fun z hz=>hp z (by simp[hz])⟩
 | [],_::_,h,_=>h.elim
 | _::_,[],h,_=>h.elim
theorem YS {v:Tm}{d:B8}{j:Int}{fs:List Tm}(ho:okB v=true) (h:Ce E v=some (d,j,fs)):∀x∈fs,okB x=true:=by
 rw[O7,RX] at h;by_cases k3:(Ay v).1.kind≠3
 ·rw[if_pos k3] at h;cases h
 rw[if_neg k3] at h;cases hf:GQ E (Ay v).1.name with
 | none=>rw[hf] at h;cases h
 | some q =>
  rw[hf] at h;simp only at h;split at h
  ·cases h
  split at h
  ·cases h
  cases h;exact fun x hx=>(DB ho).2 x (List.mem_of_mem_drop hx)
theorem Y5 {k:Nat}(hq:∀j,j<k→∀v v',N3 E j v v'→okB v'=true→Qt E v') {h:Tm}{ar:Int}{a:List Tm}{n:Nat} :
  ∀(m:Nat) (t:FV) (vs vs':List Tm) (la:Tm) (s:Int) (q:(Option (Tm×List Tm)×Tm)×Int),EA E CE (FM E CE n) m t vs la s= .ok q→(∀b us,q.1.1=some (b,us)→(BU b h.levels).2≠0)→E3 (fun v v'=>okB v'=true∧∃j,j<k∧N3 E j v v') vs vs' →
   ∃M,∀m1,M≤m1→∀m2,M≤m2→∀pl s2,Fq E CE (Dg E CE m1) h ar a m2 t vs' pl s2= .ok (none,s2)
 | 0,t,vs,vs',la,s,q,e,hb,hr=>by cases e
 | m+1,t,vs,vs',la,s,q,e,hb,hr=>by
  rw[EA] at e;by_cases hk:t.kind=1
  ·rw[if_pos hk] at e;by_cases hv:t.var<0∨t.var≥(vs.length:Int)
   ·refine⟨1,fun m1 h1 m2 h2 pl s2=>?_⟩;obtain⟨m2,rfl⟩:∃x,m2=x+1:=⟨m2 - 1,by omega⟩;rw[Fq,if_pos hk,if_pos (by rw[hr.len];exact hv)]
   rw[if_neg (fun g=>by
    rcases g with g | g | g
    ·exact hv (.inl g)
    ·exact hv (.inr g)
    cases g)] at e
   obtain⟨⟨w,l1⟩,h1,h2,h3⟩:=HK e;have hx:vs[t.var.toNat]?=some (vs.getD t.var.toNat default):=by
    have:t.var.toNat<vs.length:=by omega
    rw[List.getD_eq_getElem?_getD,List.getElem?_eq_getElem this];rfl
   obtain⟨v',hx',hov,j,hj,hnf⟩:=hr.get hx;have hgd:vs'.getD t.var.toNat default=v':=by rw[List.getD_eq_getElem?_getD,hx'];rfl
   obtain⟨i,hi,hc0,hc1⟩:=eC hnf ⟨h2,n,s,l1,h1⟩;have hv':¬(t.var<0∨t.var≥(vs'.length:Int)):=by rw[hr.len];exact hv
   simp only at h3;cases hcw:Ce E w with
   | none =>
    obtain⟨M,hM⟩:=hq j hj _ _ hnf hov;refine⟨M+1,fun m1 g1 m2 g2 pl s2=>?_⟩;obtain⟨m2,rfl⟩:∃x,m2=x+1:=⟨m2 - 1,by omega⟩;rw[Fq,if_pos hk,if_neg hv',hgd,hc0 hcw];simp only;rw[hM m1 Au s2];rfl
   | some r =>
    obtain⟨d,ci,fs⟩:=r;obtain⟨fs',hc',hfs⟩:=hc1 d ci fs hcw;rw[hcw] at h3;simp only at h3;cases hbr:Cl (EJ d ci).name t.branches with
    | none =>
     refine⟨1,fun m1 g1 m2 g2 pl s2=>?_⟩;obtain⟨m2,rfl⟩:∃x,m2=x+1:=⟨m2 - 1,by omega⟩;rw[Fq,if_pos hk,if_neg hv',hgd,hc'];simp only;rw[hbr]
    | some t' =>
     rw[hbr] at h3;simp only at h3;obtain⟨M,hM⟩:=Y5 hq m t' (vs++fs) (vs'++fs') _ _ q h3 hb (hr.append ((hfs.with (YS hov hc')).mono fun _ _ g=>⟨g.2,i,by omega,g.1⟩));refine⟨M+1,fun m1 g1 m2 g2 pl s2=>?_⟩;obtain⟨m2,rfl⟩:∃x,m2=x+1:=⟨m2 - 1,by omega⟩;rw[Fq,if_pos hk,if_neg hv',hgd,hc'];simp only;rw[hbr];exact hM m1 Au m2 Au _ s2
  rw[if_neg hk] at e;cases e;refine⟨1,fun m1 h1 m2 h2 pl s2=>?_⟩;obtain⟨m2,rfl⟩:∃x,m2=x+1:=⟨m2 - 1,by omega⟩;rw[Fq,if_neg hk,FE,if_pos (hb _ _ rfl)]
theorem j7 {m:Tm}(ho:okB m=true) {R:Tm→Tm→Prop}{ks zs:List Tm}(h:E3 R (Ay m).2 zs):(R6 (Ay m).1 ks zs).kind=m.kind:=by
 have hb:=Ru m (Bu.1 ho).ci;have key:∀(f:Tm) (xs:List Tm),xs≠[]→(apply f xs).kind=4:=by
  intro f xs
  induction xs generalizing f with
  | nil=>intro h;exact absurd rfl h
  | cons x xs ih =>
   intro _;by_cases hx:xs=[]
   ·subst hx;rfl
   exact ih (GI f x) hx
 cases hs:(Ay m).2 with
 | nil =>
  rw[hs] at h hb;cases zs with
  | nil=>conv=>rhs;rw[←hb]
           rfl
  | cons z zs=>exact h.elim
 | cons x xs =>
  rw[hs] at h hb;cases zs with
  | nil=>exact h.elim
  | cons z zs =>
   rw[R6,key _ _ Av,←hb,key _ _ Av]
theorem Sq {l:List Tm}{i:Nat}(h:i<l.length):l[i]?=some (l.getD i default):=by
 rw[List.getD_eq_getElem?_getD,List.getElem?_eq_getElem h];rfl
theorem ry (hN:∀g x,Gy E g=some x→x.kind=5→0≤Bv (CR E x.decl)):∀(k:Nat) (t n:Tm),N3 E k t n→okB n=true→Qt E n
 | 0,t,n,h,ho=>h.elim
 | k+1,t,n,h,ho=>by
  have ih:∀j,j<k+1→∀v v',N3 E j v v'→okB v'=true→Qt E v':=fun j hj v v' g go=>ry hN j v v' g go;obtain⟨w,ks,zs,⟨hw,n1,l,l',hwh⟩,rfl,hks,hzs⟩:=h;obtain⟨n',l1,l2,_,hx⟩:=et n1 l l' t w hwh;have hs:=QT (Xm hw) ks zs;have hsk:(Ay (R6 (Ay w).1 ks zs)).1.kind=(Ay w).1.kind:=by rw[hs];rfl
  have hs2:(Ay (R6 (Ay w).1 ks zs)).2=zs:=by rw[hs]
  have hoz:=(DB ho).2;have hoh:=(DB ho).1;rw[hs2] at hoz;by_cases k5:(Ay w).1.kind=5
  ·refine⟨1,fun m hm s=>?_⟩;obtain⟨m,rfl⟩:∃x,m=x+1:=⟨m - 1,by omega⟩;exact Sa ho (hsk.trans k5) (by rw[hs2,hzs.len];exact hx.lam k5)
  by_cases k9:(Ay w).1.kind=9∨(Ay w).1.kind=10
  ·obtain⟨p,e1,hp,h8,hwp,_⟩:=hx.proj k9;have hkids:(Ay w).1.kids=[p]:=by rw[e1];rfl
   rw[hkids] at hks
   match ks,hks,hs,ho,hsk,hs2,hoh with
   | [p'],hks,hs,ho,hsk,hs2,hoh =>
    have hop:okB p'=true:=Fg (i:=0) hoh (by rw[hs];rfl);obtain⟨M,hM⟩:=ih k Au p p' hks.1 hop;have hk8:p'.kind≠8:=by
     cases k with
     | zero=>exact hks.1.elim
     | succ j =>
      obtain⟨w2,ks2,zs2,hw2,rfl,g1,g2⟩:=hks.1;obtain rfl:=hw2.det ⟨hp,n',l1,l2,hwp⟩;rw[j7 hp g2];exact h8
    refine⟨M+1,fun m hm s=>?_⟩;obtain⟨m,rfl⟩:∃x,m=x+1:=⟨m - 1,by omega⟩;rw[UE ho (by rw[hsk];exact k9) (p:=p') (by rw[hs];rfl) hk8,hM m Au s];rfl
   | [],hks,_,_,_,_,_=>exact hks.elim
   | _::_::_,hks,_,_,_,_,_=>exact hks.2.elim
  by_cases k3:(Ay w).1.kind=3
  ·have hc:=hx.con k3;have hk0:(Ay w).1.kids=[]:=by
    have hw1:=(Bu.1 (DB hw).1).wt;generalize (Ay w).1=g at hw1 k3;obtain⟨gk,gi,gn,gl,gs⟩:=g;have h:=hw1.1;rw[show gk=3 from k3,show arity 3=0 from rfl] at h;exact List.eq_nil_of_length_eq_zero (by show gs.length=0;omega)
   have hks0:ks=[]:=by
    rw[hk0] at hks;cases ks with
    | nil=>rfl
    | cons _ _=>exact hks.elim
   have hh:(Ay (R6 (Ay w).1 ks zs)).1=(Ay w).1:=by
    rw[hs,hks0];generalize (Ay w).1=g at hk0;obtain⟨gk,gi,gn,gl,gs⟩:=g;simp only[Tm.kids] at hk0;subst hk0;rfl
   have go:∀M,(∀m,M≤m→∀s,Hz E CE m (Ay w).1 zs s= .ok (none,s))→Qt E (R6 (Ay w).1 ks zs):=by
    intro M hM;refine⟨M+1,fun m hm s=>?_⟩;obtain⟨m,rfl⟩:∃x,m=x+1:=⟨m - 1,by omega⟩;rw[Nv ho (hsk.trans k3),hh,hs2];exact hM m Au s
   unfold Dc at hc;cases hu:Gy E (Ay w).1 with
   | none=>exact go 0 fun m _ s=>by rw[Hz,hu]
   | some x =>
    rw[hu] at hc;simp only at hc;by_cases x1:x.kind=1
    ·rw[if_pos x1] at hc;exact go 0 fun m _ s=>by
      rw[Hz,hu];simp only;rw[if_pos x1];unfold EL at hc ⊢;split at hc
      ·rename_i e;rw[if_pos e]
      exact(Ii hc).elim
    rw[if_neg x1] at hc;by_cases x5:x.kind=5
    ·rw[if_pos x5] at hc;unfold Qj at hc;by_cases hl:((Ay w).2.length:Int)≤Bv (CR E x.decl)
     ·exact go 0 fun m _ s=>by
       rw[Hz,hu];simp only;rw[if_neg x1,if_neg (by rw[hzs.len];omega),if_neg Au]
     rw[if_neg hl] at hc;obtain⟨⟨m,l3⟩,h1,h2,h3⟩:=HK hc;by_cases hneg:(Bv (CR E x.decl)).toNat<(Ay w).2.length
     ·obtain⟨v',hv',hnf⟩:=hzs.get (Sq hneg);have hgd:zs.getD (Bv (CR E x.decl)).toNat default=v':=by rw[List.getD_eq_getElem?_getD,hv'];rfl
      have hov:=hoz v' (List.mem_of_getElem? hv');obtain⟨i,rfl,hc0,hc1⟩:=eC hnf ⟨h2,n',l1,l3,h1⟩;obtain⟨M,hM⟩:=ih (i+1) Au _ _ hnf hov;exact go M fun m2 hm s=>by
       rw[Hz,hu];simp only;rw[if_neg x1,if_pos ⟨x5,by rw[hzs.len];omega⟩,hgd];cases hcv:Ce E v' with
       | some r=>exact qu h3 hc0 hc1 s
       | none =>
        simp only;rw[hM m2 hm s];rfl
     have:=hN _ _ hu x5;omega
    rw[if_neg x5] at hc;by_cases x6:x.kind=6
    ·rw[if_pos x6] at hc;unfold Iw at hc;by_cases hl:((Ay w).2.length:Int)<(Gk (CR E x.decl) x.item).arity
     ·exact go 0 fun m _ s=>by
       rw[Hz,hu];simp only;rw[if_neg x1,if_neg (fun e=>x5 e.1),if_neg (fun e=>by have:=e.2;rw[hzs.len] at this;omega)]
     rw[if_neg hl] at hc;obtain⟨q,h1,h2⟩:=D8 hc;have hb:∀b us,q.1.1=some (b,us)→(BU b (Ay w).1.levels).2≠0:=by
      intro b us e;rw[e] at h2;simp only at h2;rw[if_neg (by simp[CE]),FE] at h2;split at h2
      ·assumption
      split at h2
      ·cases h2
      exact(Ii h2).elim
     obtain⟨M,hM⟩:=Y5 (k:=k+1) ih (h:=(Ay w).1) (ar:=(Gk (CR E x.decl) x.item).arity) (a:=zs) n' _ _ (zs.take (Gk (CR E x.decl) x.item).arity.toNat) _ _ q h1 hb
      (((hzs.take _).with fun y hy=>hoz y (List.mem_of_mem_take hy)).mono fun _ _ g=>⟨g.2,k,by omega,g.1⟩)
     exact go M fun m hm s=>by
      rw[Hz,hu];simp only;rw[if_neg x1,if_neg (fun e=>x5 e.1),if_pos ⟨x6,by rw[hzs.len];omega⟩];exact hM m hm m hm _ s
    exact go 0 fun m _ s=>by
     rw[Hz,hu];simp only;rw[if_neg x1,if_neg (fun e=>x5 e.1),if_neg (fun e=>x6 e.1)]
  refine⟨1,fun m hm s=>?_⟩;obtain⟨m,rfl⟩:∃x,m=x+1:=⟨m - 1,by omega⟩;exact ay ho (by rw[hsk];exact k5) (by rw[hsk];exact hx.lt) (by rw[hsk];exact fun e=>k9 (.inl e)) (by rw[hsk];exact fun e=>k9 (.inr e)) (by rw[hsk];exact k3)
end
section
variable {E:List B8}
def Nm (E:List B8):Nat→Tm→Prop
 | 0,_=>False
 | k+1,t=>(∃m s s1,Dg E CE m s t= .ok (none,s1))∧∀x∈(Ay t).1.kids++(Ay t).2,Nm E k x
theorem Nm.up:∀{k:Nat}{t:Tm},Nm E k t→Nm E (k+1) t
 | 0,_,h=>h.elim
 | k+1,t,h=>⟨h.1,fun x hx=>(h.2 x hx).up⟩
def SN (E:List B8) (v:Tm):Prop:=∃M,∀m,M≤m→∀l,FM E CE m l v= .ok (v,l)
theorem mM {v:Tm}{d:B8}{j:Int}{fs:List Tm}(h:Ce E v=some (d,j,fs)):∀x∈fs,x∈(Ay v).2:=by
 rw[O7,RX] at h;by_cases k3:(Ay v).1.kind≠3
 ·rw[if_pos k3] at h;cases h
 rw[if_neg k3] at h;cases hf:GQ E (Ay v).1.name with
 | none=>rw[hf] at h;cases h
 | some q =>
  rw[hf] at h;simp only at h;split at h
  ·cases h
  split at h
  ·cases h
  cases h;exact fun x hx=>List.mem_of_mem_drop hx
theorem dV {l:List Tm}{x:Tm}(h:x∈l):size x≤BB l:=by
 obtain⟨i,hi⟩:=List.mem_iff_getElem?.1 h;exact CU hi
theorem D2 {v x:Tm}(h:x∈(Ay v).2):size x+1≤size v:=by
 have h1:=ER v;have h2:=dV h;have h3:=size_pos (Ay v).1;omega
theorem FC {v x:Tm}(h:x∈(Ay v).1.kids):size x+1≤size v:=by
 have h1:=ER v;generalize (Ay v).1=g at h h1;obtain⟨k,i,n,l,ks⟩:=g;have h2:size x≤BB ks:=dV h;simp only[size] at h1;omega
theorem mS {k:Nat}(hq:∀j,j≤k→∀v,Nm E j v→okB v=true→size v≤40000→SN E v) {h:Tm}{ar:Int}{a:List Tm}{T:Int→Tm→Out (Option Tm×Int)} :
  ∀(m:Nat) (t:FV) (vs:List Tm) (pl:List (Int×List Int)) (s s1:Int),Fq E CE T h ar a m t vs pl s= .ok (none,s1)→(∀v∈vs,okB v=true∧size v≤40000∧∃j,j≤k∧Nm E j v) →
   ∃M,∀n,M≤n→∀m2,M≤m2→∀la l,∃q,EA E CE (FM E CE n) m2 t vs la l= .ok (q,l)∧∀b us,q.1=some (b,us)→(BU b h.levels).2≠0
 | 0,t,vs,pl,s,s1,e,hv=>by cases e
 | m+1,t,vs,pl,s,s1,e,hv=>by
  rw[Fq] at e;by_cases hk:t.kind=1
  ·rw[if_pos hk] at e;by_cases hr:t.var<0∨t.var≥(vs.length:Int)
   ·refine⟨1,fun n h1 m2 h2 la l=>⟨(none,la),?_,fun b us e=>by cases e⟩⟩;obtain⟨m2,rfl⟩:∃x,m2=x+1:=⟨m2 - 1,by omega⟩;rw[EA,if_pos hk,if_pos (hr.elim .inl fun g=> .inr (.inl g))]
   rw[if_neg hr] at e;have hx:vs[t.var.toNat]?=some (vs.getD t.var.toNat default):=Sq Au;obtain⟨ho,hz,j,hj,hn⟩:=hv _ (List.mem_of_getElem? hx);generalize vs.getD t.var.toNat default=v at *;have hgd:vs.getD t.var.toNat default=v:=by rw[List.getD_eq_getElem?_getD,hx];rfl
   obtain⟨M,hM⟩:=hq j hj v hn ho hz;have hr':∀l:Int,¬(t.var<0∨t.var≥(vs.length:Int)∨CE.over l=true):=fun l g=>by
    rcases g with g | g | g
    ·exact hr (.inl g)
    ·exact hr (.inr g)
    cases g
   cases hcw:Ce E v with
   | none =>
    refine⟨M+1,fun n h1 m2 h2 la l=>⟨(none,v),?_,fun b us e=>by cases e⟩⟩;obtain⟨m2,rfl⟩:∃x,m2=x+1:=⟨m2 - 1,by omega⟩;rw[EA,if_pos hk,if_neg (hr' l),hgd,hM n Au l];simp only[Out.chk,Out.bind];rw[if_pos ho];rw[hcw]
   | some r =>
    obtain⟨d,ci,fs⟩:=r;rw[hcw] at e;simp only at e;cases hbr:Cl (EJ d ci).name t.branches with
    | none =>
     refine⟨M+1,fun n h1 m2 h2 la l=>⟨(none,v),?_,fun b us e=>by cases e⟩⟩;obtain⟨m2,rfl⟩:∃x,m2=x+1:=⟨m2 - 1,by omega⟩;rw[EA,if_pos hk,if_neg (hr' l),hgd,hM n Au l];simp only[Out.chk,Out.bind];rw[if_pos ho];rw[hcw];simp only;rw[hbr]
    | some t' =>
     rw[hbr] at e;simp only at e;have hfs:∀x∈fs,okB x=true∧size x≤40000∧∃j,j≤k∧Nm E j x:=by
      intro x hxf;have hmem:x∈(Ay v).2:=mM hcw x hxf;refine⟨YS ho hcw x hxf,by have:=D2 hmem;omega,?_⟩;cases j with
      | zero=>exact hn.elim
      | succ j=>exact⟨j,by omega,hn.2 x (List.mem_append_right _ hmem)⟩
     obtain⟨M2,hM2⟩:=mS hq m t' (vs++fs) _ s s1 e (fun x hx=>by
      rcases List.mem_append.1 hx with g | g
      ·exact hv x g
      exact hfs x g)
     refine⟨M+M2+1,fun n h1 m2 h2 la l=>?_⟩;obtain⟨m2,rfl⟩:∃x,m2=x+1:=⟨m2 - 1,by omega⟩;obtain⟨q,g1,g2⟩:=hM2 n Au m2 Au v l;refine⟨q,?_,g2⟩;rw[EA,if_pos hk,if_neg (hr' l),hgd,hM n Au l];simp only[Out.chk,Out.bind];rw[if_pos ho];rw[hcw];simp only;rw[hbr];exact g1
  rw[if_neg hk] at e;refine⟨1,fun n h1 m2 h2 la l=>⟨(some (t.body,vs),BN),?_,?_⟩⟩
  ·obtain⟨m2,rfl⟩:∃x,m2=x+1:=⟨m2 - 1,by omega⟩;rw[EA,if_neg hk]
  intro b us e2;cases e2;rw[FE] at e;split at e
  ·assumption
  split at e
  ·cases e
  exact(Ii e).elim
theorem Qr (l:List Tm):l.length≤BB l:=by
 induction l with
 | nil=>simp[BB]
 | cons x l ih=>have:=size_pos x;simp only[List.length_cons,BB];omega
theorem rZ (hN:∀g x,Gy E g=some x→x.kind=5→0≤Bv (CR E x.decl)):∀(k:Nat) (t:Tm),Nm E k t→okB t=true→size t≤40000→SN E t
 | 0,t,h,_,_=>h.elim
 | k+1,t,h,ho,hz=>by
  have ih:∀j,j≤k→∀v,Nm E j v→okB v=true→size v≤40000→SN E v:=fun j hj v g go gz=>rZ hN j v g go gz;obtain⟨⟨m0,s0,s1,hq⟩,hp⟩:=h;obtain⟨m0,rfl⟩:=S9 hq Av;have hm:CE.many (Ay t).2.length=false:=by
   have:=ER t;have:=Qr (Ay t).2;simp[CE];omega
  have hoh:=(DB ho).1;have hoa:=(DB ho).2;have hv:∀s:Int,CE.over s=false:=fun _=>rfl;by_cases k5:(Ay t).1.kind=5
  ·by_cases hl:(Ay t).2.length=0
   ·refine⟨1,fun m h1 l=>?_⟩;obtain⟨m,rfl⟩:∃x,m=x+1:=⟨m - 1,by omega⟩;exact Lf ho (hv l) hm k5 hl
   obtain⟨b,hb,_⟩:=ED hoh (i:=1) (by rw[k5];decide);rw[W7 ho k5 hl hb] at hq;exact(Ii hq).elim
  by_cases k11:(Ay t).1.kind=11
  ·obtain⟨v,hv1,_⟩:=ED hoh (i:=1) (by rw[k11];decide);obtain⟨b,hb,_⟩:=ED hoh (i:=2) (by rw[k11];decide);rw[XV ho k11 hv1 hb] at hq;exact(Ii hq).elim
  by_cases k9:(Ay t).1.kind=9∨(Ay t).1.kind=10
  ·obtain⟨p,hp0,hpo,hps⟩:=ED hoh (i:=0) (by rcases k9 with g | g<;>(rw[g];decide));by_cases h8:p.kind=8
   ·obtain⟨y,hy,_⟩:=ED hpo (i:=(1+(Ay t).1.kind - 9).toNat) (by rw[h8,show arity 8=3 from rfl];omega);rw[TT ho k9 hp0 h8 hy] at hq;exact(Ii hq).elim
   have hmem:p∈(Ay t).1.kids:=List.mem_of_getElem? hp0;obtain⟨M,hM⟩:=ih k Au p (hp p (List.mem_append_left _ hmem)) hpo (by have:=FC hmem;omega);refine⟨M+1,fun m h1 l=>?_⟩;obtain⟨m,rfl⟩:∃x,m=x+1:=⟨m - 1,by omega⟩;rw[L5 ho (hv l) hm k9 hp0,hM m Au l];simp only[Out.chk,Out.bind];rw[if_pos hpo,KP (r:=(p,l)) h8];have hb:=Ru t (Bu.1 ho).ci;have hh:Ha (Ay t).1.kind p=(Ay t).1:=by
    have hw:=(Bu.1 hoh).wt;have hc:=(Bu.1 hoh).ci;generalize (Ay t).1=g at hw hc hp0 k9;obtain⟨gk,gi,gn,gl,gs⟩:=g;obtain⟨c1,c2,c3⟩:=rN hc;have h1:=hw.1;simp only[Tm.kind] at k9;have hl1:gs.length=1:=by rcases k9 with g | g<;>(rw[g] at h1;simp[arity] at h1;omega)
    match gs,hl1,hp0 with
    | [q],_,hp0 =>
     cases hp0;simp only[Ha,Tm.kind];rw[c1 Au Au,c2 Au,c3 Au Au]
   simp only;rw[hh,hb]
  by_cases k3:(Ay t).1.kind=3
  ·rw[Nv ho k3] at hq;have go:∀M,(∀m,M≤m→∀l,Dc E CE (FM E CE m) m (Ay t).1 (Ay t).2 l= .ok (none,l))→SN E t:=by
    intro M hM;refine⟨M+1,fun m h1 l=>?_⟩;obtain⟨m,rfl⟩:∃x,m=x+1:=⟨m - 1,by omega⟩;rw[JG ho (hv l) hm k3,hM m Au l];rfl
   unfold Hz at hq;cases hu:Gy E (Ay t).1 with
   | none=>exact go 0 fun m _ l=>by rw[Dc,hu]
   | some x =>
    rw[hu] at hq;simp only at hq;by_cases x1:x.kind=1
    ·rw[if_pos x1] at hq;exact go 0 fun m _ l=>by
      rw[Dc,hu];simp only;rw[if_pos x1];exact Yo hq l
    rw[if_neg x1] at hq;by_cases x5:x.kind=5
    ·by_cases hl:((Ay t).2.length:Int)≤Bv (CR E x.decl)
     ·exact go 0 fun m _ l=>by
       rw[Dc,hu];simp only;rw[if_neg x1,if_pos x5,Qj,if_pos hl]
     rw[if_pos ⟨x5,by omega⟩] at hq;by_cases hneg:(Bv (CR E x.decl)).toNat<(Ay t).2.length
     ·have hx:=Sq hneg;have hmem:=List.mem_of_getElem? hx;generalize (Ay t).2.getD (Bv (CR E x.decl)).toNat default=v at *;have hgd:(Ay t).2.getD (Bv (CR E x.decl)).toNat default=v:=by rw[List.getD_eq_getElem?_getD,hx];rfl
      obtain⟨M,hM⟩:=ih k Au v (hp v (List.mem_append_right _ hmem)) (hoa v hmem) (by have:=D2 hmem;omega);refine go M fun m h1 l=>?_;rw[Dc,hu];simp only;rw[if_neg x1,if_pos x5,Qj,if_neg hl,hgd,hM m h1 l];simp only[Out.chk,Out.bind];rw[if_pos (hoa v hmem)];cases hcv:Ce E v with
      | none=>rw[ES,hcv]
      | some r=>rw[hcv] at hq;exact dJ hq l
     have:=hN _ _ hu x5;omega
    by_cases x6:x.kind=6
    ·by_cases hl:((Ay t).2.length:Int)<(Gk (CR E x.decl) x.item).arity
     ·exact go 0 fun m _ l=>by
       rw[Dc,hu];simp only;rw[if_neg x1,if_neg x5,if_pos x6,Iw,if_pos hl]
     rw[if_neg (fun e=>x5 e.1),if_pos ⟨x6,by omega⟩] at hq;obtain⟨M,hM⟩:=mS (k:=k) ih _ _ _ _ _ _ hq (fun v hv=>by
      have hmem:=List.mem_of_mem_take hv;exact⟨hoa v hmem,by have:=D2 hmem;omega,k,by omega,hp v (List.mem_append_right _ hmem)⟩)
     refine go M fun m h1 l=>?_;obtain⟨q,g1,g2⟩:=hM m h1 m h1 BN l;rw[Dc,hu];simp only;rw[if_neg x1,if_neg x5,if_pos x6,Iw,if_neg hl,g1];simp only[Out.bind];cases hq1:q.1 with
     | none=>rfl
     | some r =>
      obtain⟨b,us⟩:=r;simp only;rw[if_neg (by simp[CE]),FE,if_pos (g2 b us hq1)]
    exact go 0 fun m _ l=>by
     rw[Dc,hu];simp only;rw[if_neg x1,if_neg x5,if_neg x6]
  refine⟨1,fun m h1 l=>?_⟩;obtain⟨m,rfl⟩:∃x,m=x+1:=⟨m - 1,by omega⟩;exact Ua ho (hv l) hm k5 k11 (fun e=>k9 (.inl e)) (fun e=>k9 (.inr e)) k3
theorem lV {t:Tm}(hc:Ci t):R6 (Ay t).1 (Ay t).1.kids (Ay t).2=t:=by
 have h:=Ru t hc;have e:∀g:Tm,Tm.mk g.kind g.index g.name g.levels g.kids=g:=fun g=>by cases g;rfl
 rw[R6,e,h]
theorem SL {R:Tm→Tm→Prop}:∀{l:List Tm},(∀x∈l,R x x)→E3 R l l
 | [],_=>trivial
 | x::l,h=>⟨h x Av,SL fun y hy=>h y (by simp[hy])⟩
theorem LO {t x:Tm}(ho:okB t=true) (h:x∈(Ay t).1.kids):okB x=true:=by
 obtain⟨i,hi⟩:=List.mem_iff_getElem?.1 h;exact Fg (DB ho).1 hi
theorem kF (hN:∀g x,Gy E g=some x→x.kind=5→0≤Bv (CR E x.decl)):∀(k:Nat) (t:Tm),Nm E k t→okB t=true→size t≤40000→N3 E k t t
 | 0,t,h,_,_=>h.elim
 | k+1,t,h,ho,hz=>by
  obtain⟨M,hM⟩:=rZ hN (k+1) t h ho hz;refine⟨t,(Ay t).1.kids,(Ay t).2,⟨ho,M,0,0,hM M (Nat.le_refl _) 0⟩,(lV (Bu.1 ho).ci).symm,SL fun x hx=>?_,SL fun x hx=>?_⟩
  ·exact kF hN k x (h.2 x (List.mem_append_left _ hx)) (LO ho hx) (by have:=FC hx;omega)
  exact kF hN k x (h.2 x (List.mem_append_right _ hx)) ((DB ho).2 x hx) (by have:=D2 hx;omega)
theorem lI (hN:∀g x,Gy E g=some x→x.kind=5→0≤Bv (CR E x.decl)):∀(k:Nat) (t n:Tm),N3 E k t n→okB n=true→Nm E k n
 | 0,t,n,h,_=>h.elim
 | k+1,t,n,h,ho=>by
  obtain⟨M,hM⟩:=ry hN (k+1) t n h ho;obtain⟨w,ks,zs,hw,rfl,hks,hzs⟩:=h;refine⟨⟨M,0,0,hM M (Nat.le_refl _) 0⟩,fun x hx=>?_⟩;have hs:=QT (Xm hw.1) ks zs;have key:∀{l:List Tm} {l':List Tm},E3 (N3 E k) l l'→x∈l'→∃y,N3 E k y x:=by
   intro l
   induction l with
   | nil=>intro l' h hx;cases l' with
    | nil=>cases hx
    | cons _ _=>exact h.elim
   | cons y l ih=>intro l' h hx;cases l' with
    | nil=>cases hx
    | cons z l' =>
     rcases List.mem_cons.1 hx with e | e
     ·subst e;exact⟨y,h.1⟩
     exact ih h.2 e
  rcases List.mem_append.1 hx with g | g
  ·have hox:=LO ho g;rw[hs] at g;obtain⟨y,hy⟩:=key hks g;exact lI hN k y x hy hox
  have hox:=(DB ho).2 x g;rw[hs] at g;obtain⟨y,hy⟩:=key hzs g;exact lI hN k y x hy hox
theorem l7:∀(k:Nat) (t:Tm),size t≤k→Gv (KX E) k t=true→Nm E k t
 | 0,t,h,_=>by have:=size_pos t;omega
 | k+1,t,h,e=>by
  rw[Gv,Bool.and_eq_true,Bool.not_eq_true',List.all_eq_true] at e;refine⟨⟨FN,0,0,NI (S':=CE) FN _ _ _ (PA.1 e.1) 0⟩,fun x hx=>l7 k x ?_ (e.2 x hx)⟩;rcases List.mem_append.1 hx with g | g
  ·have:=FC g;omega
  have:=D2 g;omega
theorem vP (hE:G2 E) {k:Nat}{t:Tm}(h:Nm E k t) (ho:okB t=true) (hz:size t≤10000):KX E t=false:=by
 cases k with
 | zero=>exact h.elim
 | succ k =>
  obtain⟨⟨m,s,s1,hq⟩,_⟩:=h;obtain⟨q,c,e,_⟩:=eJ hE ho hz;have h1:=NI (S':=DI) m s t s1 hq Gz;have:q=none∧c=Gz:=by
   rcases Nat.le_total m FN with g | g
   ·rcases cK (E:=E) (S:=DI) m FN g Gz t with x | x
    ·rw[x] at h1;cases h1
    rw[h1,e] at x;cases x;exact⟨rfl,rfl⟩
   rcases cK (E:=E) (S:=DI) FN m g Gz t with x | x
   ·rw[x] at e;cases e
   rw[e,h1] at x;cases x;exact⟨rfl,rfl⟩
  obtain⟨rfl,rfl⟩:=this;exact PA.2 e
theorem cN (hE:G2 E):∀(k j:Nat) (t:Tm),Nm E k t→okB t=true→size t≤10000→Gv (KX E) j t=true
 | 0,_,_,h,_,_=>h.elim
 | _+1,0,_,_,_,_=>rfl
 | k+1,j+1,t,h,ho,hz=>by
  rw[Gv,Bool.and_eq_true,Bool.not_eq_true',List.all_eq_true];refine⟨vP hE h ho hz,fun x hx=>?_⟩;rcases List.mem_append.1 hx with g | g
  ·exact cN hE k j x (h.2 x hx) (LO ho g) (by have:=FC g;omega)
  exact cN hE k j x (h.2 x hx) ((DB ho).2 x g) (by have:=D2 g;omega)
end
end Go.Eu
