/- Part of the proofs: an abstract program logic, plain models and contracts of functions. -/
import Derived.Test.YtboammbpdaoojaaGreatPg
import Derived.Test.YtboammbpdaoojaaGreatPd
import Derived.Test.YtboammbpdaoojaaGreatPe
import Derived.Test.YtboammbpdaoojaaGreatPb
set_option linter.unusedVariables false
set_option linter.unusedSimpArgs false
set_option maxRecDepth 100000
namespace Go.Proofs.YtboammbpdaoojaaGreat
open Go.Abs Go.Eu
theorem TK:∀(t:Es) (nm:ByteArray),(t.branches.length<2000000)→EZ Tryz.prog 97 [.agg ((Ch t).map .p),.p (.str nm)] (.tup [.agg ((Ch ((bT nm t.branches).1)).map .p),.p (.bool ((bT nm t.branches).2))]):=by
 intro t nm h1;refine A5 Tryz.func97 O r5 (n:=28) O O (Aw (BF O (BN O) fun b2=>BF O (BN O) fun b3=>BF O (A7 Wk O) fun b4=>Ar Ay 1 [] O (Aw (Aq O (A0 FF O O) (Aq O (A3 (i:=2) Kf O O (CG _)) (Aq O (Ei O O) (Aq O (B9 [1] O (.inl ⟨O,O,O⟩) (lW b3 nm t.branches h1) ⟨_,_,O,O,O⟩ Am O (.inl O)) (Ar Ay 1 [] O (As (Aw (Ax Ay 3 [] O (BL 13 O (fun g=>?_) (fun g=>?_)))))))))))))
 ·(try simp only[sd,se] at g);have hbn:=dG (by simpa using g);refine Ar Ay 7 [] O ?_;refine Av O (fun c=>?_) (fun c=>by cases c);refine Au Ay 3 [0,0] O (BH (BR (i:=0) O) (Az (⟨O,_,_,⟨_,_,O,(A9 (i:=0) IY O O O),⟨_,_,O,O,O⟩⟩,(List.nil_sublist _),?_⟩)))
  all_goals exact⟨by show (.tup [.agg [.p (I 0),.p (I 0),.p (I 0),.p (.str ⟨#[]⟩),.p (.lst []),.p (.lst []),.p (I 0),.p (.lst [])],.p (.bool false)]:AV)=_;rw[dQ hbn];rfl,rfl⟩
 (try simp only[sd,se] at g);obtain⟨bx,hbx,hbr⟩:=kj (nm:=nm) (l:=t.branches) (by simpa using g);refine BB O (A0 FF O O) (BB O (A3 (i:=2) Kf O O (CG _)) (BB O (BZ O) (BB O (A4 Jd O O An (FX hbx) (DO _)) (BB O (By IJ O O) (BB O (C6 oW O (GM _)) (Ar Ay 1 [] O (Av O (fun c=>?_) (fun c=>?_))))))))
 ·(try simp only[sd,se] at c);refine Au Ay 3 [0,0] O (BH (BR (i:=0) O) (Az (⟨O,_,_,⟨_,_,O,(A9 (i:=0) IY O O O),⟨_,_,O,O,O⟩⟩,(List.nil_sublist _),?_⟩)))
  all_goals exact⟨by show (.tup [.agg [.p (I 0),.p (I 0),.p (I 0),.p (.str ⟨#[]⟩),.p (.lst []),.p (.lst []),.p (I 0),.p (.lst [])],.p (.bool false)]:AV)=_;rw[dQ (by rw[hbr,if_pos (by simpa using c)])];rfl,rfl⟩
 (try simp only[sd,se] at c);refine A1 (Aw (Aq O (A0 FF O O) (Aq O (A3 (i:=2) Kf O O (CG _)) (Bq O (Aq O (A4 Jd O O An (FX hbx) (DO _)) (Aq O (By IJ O O) (Aq O (DC IY O (Fj _) (Cl _)) (Ar Ay 2 [0,1] O (Az (⟨O,_,_,⟨_,_,O,(A9 (i:=0) IY O O (by simp[Cl])),⟨_,_,O,O,O⟩⟩,(List.nil_sublist _),?_⟩))))))))))
 all_goals exact⟨by show (.tup [.agg ((Ch bx.tree).map .p),.p (.bool true)]:AV)=_;rw[fQ (by rw[hbr,if_neg (by simpa using c)])],rfl⟩
theorem Ze:∀(t:Es) (nm:ByteArray),(t.branches.length<2000000)→EZ Tryz.prog 87 [.agg ((Ch t).map .p),.p (.str nm)] (.tup [.agg ((Ch ((YJ nm t.branches).1)).map .p),.p (.bool ((YJ nm t.branches).2))]):=by
 intro t nm h1;refine A5 Tryz.func87 O rD (n:=36) O O (Aw (BF O (BN O) fun b2=>BF O (A7 Wk O) fun b4=>Ar Ay 1 [] O (As (Au Ay 1 [] O (A8 (Bb (α:=Nat) (fun i=>⟨36,mk [(1,.p (.str nm)),(2,.ptr b2 0),(4,.ptr b4 0),(6,.p (I (i:Int)))],[.box b4 [.p (I 0),.p (I 0),.p (I 0),.p (.str ⟨#[]⟩),.p (.nils),.p (.nils),.p (I 0),.p (.nils)],.box b2 ((Ch t).map .p)],[]⟩) (fun i=>t.branches.length - i) (fun i=>i≤t.branches.length∧(YJ nm (t.branches.drop i)=YJ nm t.branches)) 0 (⟨by omega,rfl⟩) ?_ ?_))))))
 ·exact BU ⟨we O,we O,we O,we O,Ap⟩ (leH (is:=[0,1]) O (wl (oe O) (wl (oe O) (C3))))
 rintro i hC
 try simp only at hC
 obtain⟨hi,hC⟩:=hC;refine As (Aw (Ax Ay 2 [] O (Aq O (A3 (i:=1) Kf O O (CG _)) (Aq O (BK Jd O (Fv _)) (Ar Ay 1 [] O (Av O (fun c=>?_) (fun c=>?_)))))))
 ·(try simp only[sd,se] at c);refine A1 (As (A8 (Aw (Aq O (A0 FF O O) (Aq O (A3 (i:=1) Kf O O (CG _)) (Bq O ?_))))));obtain⟨x,hx⟩:=A6 (l:=t.branches) (i:=i) An;refine Aq O (A4 Jd O O An (FX hx) (DO _)) (Aq O (By IJ O O) (Aq O (C6 Ln O (GW _)) (Bq O (Aq O (Fu O O) (Bg O (Av O (fun c1=>?_) (fun c1=>?_)))))))
  ·(try simp only[sd,se] at c1);refine As (Bt (fun k=>false) Dn (BG O (fun _=>A0 FF O O) Ap (CU (j:=1) O O O (fun H i hi=>A3 (i:=i) Kf O hi (CG _)) AB Ap (BG O (fun _=>BZ O) Ap (BG O (fun _=>A4 Jd O O An (FX hx) (DO _)) Ap (BG O (fun _=>By IJ O O) Ap (BG O (fun _=>DC IY O (Fj _) (Cl _)) Ap (BG O (fun _=>A0 FF O O) Ap (CU (j:=1) O O O (fun H i hi=>A3 (i:=i) Kf O hi (CG _)) AB Ap (BG O (fun _=>BZ O) Ap (BG O (fun _=>A4 Jd O O An (FX hx) (DO _)) Ap (BG O (fun _=>By IJ O O) Ap (BG O (fun _=>C6 oW O (GM _)) Ap (Bj Ay 3 [0,1] O (Az ?_)))))))))))))));refine⟨O,_,_,⟨_,_,O,(A9 (i:=0) IY O O (by simp[Cl])),⟨_,_,O,O,O⟩⟩,(List.nil_sublist _),?_⟩
   all_goals exact⟨by show (.tup [.agg ((Ch x.tree).map .p),.p (.bool (!x.absurd))]:AV)=_;rw[←hC,eL hx,if_pos (Gu (by simpa using c1))],rfl⟩
  (try simp only[sd,se] at c1);refine A1 (A2 (Ar Ay 3 [] O ?_));refine⟨(i+1),AT,⟨by omega,by rw[←hC,eL hx,if_neg (fun e=>by simp[e] at c1)]⟩,BU ⟨we rfl,we rfl,we rfl,we rfl,trivial⟩ (leH (is:=[0,1]) rfl (wl (oe rfl) (wl (oe rfl) (C3))))⟩
 (try simp only[sd,se] at c);refine Bf (Au Ay 3 [0,0] O (BH (BR (i:=0) O) (Az (⟨O,_,_,⟨_,_,O,(A9 (i:=0) IY O O O),⟨_,_,O,O,O⟩⟩,(List.nil_sublist _),?_⟩))))
 all_goals exact⟨by show (.tup [.agg [.p (I 0),.p (I 0),.p (I 0),.p (.str ⟨#[]⟩),.p (.lst []),.p (.lst []),.p (I 0),.p (.lst [])],.p (.bool false)]:AV)=_;rw[←hC,List.drop_eq_nil_of_le An];rfl,rfl⟩
theorem HA:∀(b:Nat) (c:EP) (t:Tm) (e:Int),(Nd t)→Bo Tryz.prog 40 [.ptr b 0,.agg ((BO t).map .p),.p (I e)] [.box b ((II c).map .p)] (GU (.agg ((BO t).map .p)) [.box b ((II (c.result t e)).map .p)]):=by
 intro b c t e h1;refine A5 Tryz.func40 O sI (n:=28) O O (Aw (BF O (BN O) fun b4=>BF O (A7 Bw O) fun b6=>Bg O (Aw (Ax Ay 4 [2] O (Aq O (EC O O) (Ar Ay 3 [2,0] O (As (Bt (fun k=>false) Dn (BP Ay 5 [2,1] O (BG O (fun _=>BC O O (Mi _ t (Nat.le_refl _) h1) O) Ap (BG O (fun _=>EC O O) Ap (Bj Ay 3 [2,0] O (Aw (Ax Ay 3 [1] O (Aq O (B9 [2] O (.inl ⟨O,O,O⟩) (jc b (EP.mk (wr ((c.steps:Int)+(1:Int))) (wr ((c.nodes:Int)+(Ek t:Int))) c.forms c.limit c.over) t e h1) ⟨_,_,O,O,O⟩ Am O (.inl O)) (Bg O (Au Ay 2 [1,0,1] O (Az (⟨O,_,_,⟨_,_,O,(A9 (i:=0) BY O O Ag),O⟩,(B4 (is:=[2]) O),?_⟩)))))))))))))))))))
 all_goals exact⟨rfl,rfl⟩
def sE (ds:List CH) (n:Nat):Prop:=∀(b:Nat) (t:Tm) (c c2:EP) (r:Tm),EA ds DU n c t= .ok (r,c2)→Bo Tryz.prog 14 [.p (.lst (List.map Bh ds)),.agg ((BO t).map .p),.ptr b 0] [.box b ((II c).map .p)] (GU (.agg ((BO r).map .p)) [.box b ((II c2).map .p)])
theorem _root_.Go.AO {α:Prop}(h:α:=by first | omega | (simp_all;done) | (simp_all;omega)):α:=h
theorem _root_.Go.AH {α:Prop}(h:α:=by first | (simp only[List.length_map,BQ];omega) | (simp_all;done) | (simp_all;omega)):α:=h
theorem VH:∀(n k:Nat) (ds:List CH) (t:Es) (vs:List Tm) (b:Nat) (c c2:EP) (q:Option (Tm×List Tm)×Tm),(sE ds n)→(Je ds)→(ON t vs)→(Dp ds DU (EA ds DU n) k t vs Bc c= .ok (q,c2))→Bo Tryz.prog 54 [.p (.lst (List.map Bh ds)),.agg ((Ch t).map .p),.p (.lst (BE vs)),.ptr b 0] [.box b ((II c).map .p)] (GU (.tup [.agg ((BO (JB q)).map .p),.p (.lst (BE (LG q))),.p (.bool q.1.isSome),.agg ((BO q.2).map .p)]) [.box b ((II c2).map .p)]):=by
 intro n k ds t vs b c c2 q hW h2 h3 h4;have h3l:=h3.len;refine A5 Tryz.func54 O rQ (n:=87) O O (Aw (BF O (BN O) fun b5=>BF O (A7 Bw O) fun b8=>Ax Ay 2 [] O (BF O (A7 Bw O) fun b11=>Bg O (Aw (TE O (B2 (D4 (t:=12) (sz:=5) O) (Bg O (Aw (Ax Ay 2 [] O (Er O O (CK (i:=0) (rows':=BE vs) Be Be Bw O O O O O O (Bv _) (by simp only[BQ,List.length_nil];omega) (Jf [] vs)) fun o cp=>Ar Ay 1 [] O (Aw (Aq O (CP HO Bw O) (BF O (A7 Bw O) fun b13=>Ar Ay 1 [0,0] O (As (A8 ?_)))))))))))))));refine Bb (α:=Nat×Es×List Tm×Tm×EP×Option Nat×Nat) (fun(m,w,us,l,d,o1,cp1)=>⟨87,mk [(0,.p (.lst (List.map Bh ds))),(3,.ptr b 0),(5,.ptr b5 0),(8,.ptr b8 0),(11,.ptr b11 0),(12,.vs o1 (BE us).length cp1),(13,.ptr b13 0)],[.box b13 ((BO l).map .p),.vec o1 5 (BE us) cp1,.box b11 [.p (I 0),.p (I 0),.p (.str ⟨#[]⟩),.p (.nils),.p (.nils)],.box b8 [.p (I 0),.p (I 0),.p (.str ⟨#[]⟩),.p (.nils),.p (.nils)],.box b5 ((Ch w).map .p),.box b ((II d).map .p)],[]⟩) (fun(m,w,us,l,d,o1,cp1)=>m) (fun(m,w,us,l,d,o1,cp1)=>Dp ds DU (EA ds DU n) m w us l d= .ok (q,c2)∧ON w us) ⟨k,t,vs,Bc,c,o,cp⟩ (⟨h4,h3⟩) ?_ ?_
 ·exact BU ⟨we O,we O,we O,we O,we O,we O,we O,Ap⟩ (leH (is:=[0,1,2,3,4,5]) O (wl (on (O)) (wl (oe O) (wl (oe O) (wl (oe O) (wl (oe O) (wl (oe O) (C3))))))))
 rintro⟨m,w,us,l,d,o1,cp1⟩ hC
 try simp only at hC
 obtain⟨hC,hL⟩:=hC;obtain⟨k1,rfl⟩:=TX hC Ao;refine As (Aw (Aq O (A0 FF O O) (Aq O (A3 (i:=4) DN O O (GZ _)) (Ar Ay 1 [] O (Av O (fun c1=>?_) (fun c1=>?_))))))
 ·(try simp only[sd,se] at c1);have hk1:=c1;refine A1 (A8 (As (As (BS [0,3,5,8,11,12,13] 41 (fun y=>y= .p (.bool (((decide ((w.var:Int)<(0:Int)))||(decide ((w.var:Int)≥((us.length:Nat):Int))))||d.over))) ?_ ?_))))
  ·refine A2 (Aq O (A0 FF O O) (Aq O (A3 (i:=4) DN O O (DE _)) (Ax Ay 2 [] O (BL 29 O (fun g=>?_) (fun g=>?_)))))
   ·(try simp only[sd,se] at g);exact Ar Ay 12 [] O (⟨O,O,AK,AI,⟨O,O,O,O,O,O,O,Ap⟩⟩)
   (try simp only[sd,se] at g);refine BB O (A0 FF O O) (BB O (A3 (i:=4) DN O O (DE _)) (BB O (BZ O) (BB O (KX Be O (BQ _)) (Ax Ay 3 [] O (BL 36 O (fun g1=>?_) (fun g1=>?_))))))
   ·(try simp only[sd,se] at g1);exact Ar Ay 5 [] O (⟨O,O,AK,AI,⟨O,O,O,O,O,O,O,Ap⟩⟩)
   (try simp only[sd,se] at g1);exact Ar Ay 5 [5] O (⟨O,O,AK,AI,⟨O,O,O,O,O,O,O,Ap⟩⟩)
  rintro _ rfl;refine Av O (fun c3=>?_) (fun c3=>?_)
  ·(try simp only[sd,se] at c3);have hb:=(JY hk1 (by simpa [or_assoc,DU] using c3)).symm.trans hC;cases hb;refine As (Bt (fun k=>false) Dn (Bj Ay 6 [0,3,0,2,1] O (BH (BR (i:=3) O) (BH (D7 9) (Az (⟨O,_,_,⟨_,_,O,(A9 (i:=3) BY O O O),⟨_,_,O,O,⟨_,_,O,O,⟨_,_,O,(A9 (i:=2) BY O O Ag),O⟩⟩⟩⟩,(B4 (is:=[5]) O),?_⟩))))))
   all_goals exact⟨rfl,rfl⟩
  (try simp only[sd,se] at c3);have hcb:=c3;refine A1 (Aw (Ax Ay 3 [] O (Aq O (A3 (i:=4) DN O O (DE _)) (Mp (i:=1) O AY fun b1 hb=>?_))));subst hb;refine Aq O (Cv Be O O An AH) ?_;obtain⟨y,hy⟩:=A6 (l:=us) (i:=(w.var:Int).toNat) AO;refine Aq O (Ef (i:=1) BY O O (Bd hy)) (Bq O ?_);obtain⟨⟨r,d2⟩,hr1,hr2,hr3⟩:=J7 ((LC hk1 (by simpa [or_assoc,and_assoc,DU] using hcb) hy).symm.trans hC);refine Aq O (B9 [5] O (.inl ⟨O,O,O⟩) (hW b y (EP.mk d.steps d.nodes d.forms d.limit d.over) d2 r hr1) ⟨_,_,O,O,O⟩ Am O (.inl O)) (Ar Ay 1 [0,1] O (Aw (Ax Ay 2 [0] O (Aq O (BC O O (Vf ds r h2 hr2) O) (Ax Ay 5 [] O (BF O (A7 JP O) fun b14=>Ar Ay 4 [0,1] O (As (Au Ay 2 [] O (Av O (fun c4=>?_) (fun c4=>?_))))))))))
  ·(try simp only[sd,se] at c4);have hcn:=Ot c4;rw[GP hcn] at hr3;cases hr3;refine As (Bt (fun k=>false) Dn (Bj Ay 6 [1,4,0,3,1] O (BH (BR (i:=4) O) (BH (D7 9) (Az (⟨O,_,_,⟨_,_,O,(A9 (i:=4) BY O O O),⟨_,_,O,O,⟨_,_,O,O,⟨_,_,O,(A9 (i:=3) BY O O Ag),O⟩⟩⟩⟩,(B4 (is:=[6]) O),?_⟩))))))
   all_goals exact⟨rfl,rfl⟩
  (try simp only[sd,se] at c4);have hcs:=MT c4;have hcf:=Fi hcs;have hlo:=hcf.lo;have hhi:=hcf.hi;have hfl:=JO h2 hcs;refine A1 (As (Bt (fun k=>Nat.beq k 11) Dn (BP Ay 2 [5] O (CU (j:=0) O O O (fun H i hi=>A3 (i:=i) Hg O hi (B8 _)) AB Ap (BG O (fun _=>BZ O) Ap ?_)))));obtain⟨x,hx⟩:=A6 (l:=((CO ds r).1).ctors) (i:=((CO ds r).2.1:Int).toNat) An;refine BG O (fun _=>A4 HN O O An (ES hx) (D5 _)) Ap (BG O (fun _=>By Ik O O) Ap (BG O (fun _=>C6 Ln O (Fb _)) Ap (BG O (fun _=>BC O O (Ze w x.name hL.tin.bl) O) Ap (BP Ay 3 [] O (Gi [] O O (A7 Wk O) Aj fun b18=>⟨AB,Ap,?_⟩)))));refine Bj Ay 2 [0,1] O (As (Au Ay 2 [] O (Av O (fun c5=>?_) (fun c5=>?_))))
  ·(try simp only[sd,se] at c5);have hbn:=gF c5;rw[IW hcs (by rw[En,CW hx];exact hbn)] at hr3;cases hr3;refine As (Bt (fun k=>false) Dn (Bj Ay 6 [2,5,0,4,1] O (BH (BR (i:=5) O) (BH (D7 9) (Az (⟨O,_,_,⟨_,_,O,(A9 (i:=5) BY O O O),⟨_,_,O,O,⟨_,_,O,O,⟨_,_,O,(A9 (i:=4) BY O O Ag),O⟩⟩⟩⟩,(B4 (is:=[7]) O),?_⟩))))))
   all_goals exact⟨rfl,rfl⟩
  (try simp only[sd,se] at c5);have hbs:=eu c5;rw[IV hcs (by rw[En,CW hx];exact hbs)] at hr3;refine A1 (Au Ay 2 [0,6,1] O (A2 (Ax Ay 2 [] O (Er O O (CK (i:=3) (rows':=BE ((CO ds r).2.2.1)) Be Be Bw O O O O O O (Bv _) (by have:=hL.len;simp only[BQ,List.length_append];omega) (Jf us ((CO ds r).2.2.1))) fun o2 cp2=>Ar Ay 1 [] O (⟨⟨k1,(YJ x.name w.branches).1,us++(CO ds r).2.2.1,r,d2,o2,cp2⟩,AT,⟨hr3,hL.next h2 hr2 hcs hbs⟩,BU ⟨we O,we O,we O,we O,we O,we O,we O,Ap⟩ (leH (is:=[2,3,4,5,6,7]) O (wl (oe O) (wl (oe O) (wl (oe O) (wl (oe O) (wl (oe O) (wl (oe O) (C3))))))))⟩)))))
 (try simp only[sd,se] at c1);have hk1:=c1;rw[Hn hk1] at hC;cases hC;refine Bf (Aw (Aq O (A0 FF O O) (Aq O (Bu (i:=4) BY O O (E1 _) (BD _)) (Ar Ay 6 [3,1,2,0] O (BH (Ce (i:=1) [12,85,9] O (Dx ⟨O,O,O,Ap⟩)) (BH (BR (i:=1) O) (Az (⟨O,_,_,⟨_,_,O,(A9 (i:=2) BY O O Ag),⟨_,_,O,O,⟨_,_,O,O,⟨_,_,O,(A9 (i:=1) BY O O O),O⟩⟩⟩⟩,(B4 (is:=[4]) O),?_⟩))))))))
 all_goals exact⟨rfl,rfl⟩
end Go.Proofs.YtboammbpdaoojaaGreat
namespace Go.Eu
open Go.Abs
section
variable {E:List CH}{σ:Type}{S:Sys σ}{W:σ→Tm→Out (Tm×σ)}{n:Nat}{h m:Tm}{a:List Tm}{s:σ}{d:CH}{x:GR}
theorem Zb {a b:ByteArray}(h:¬a.toList=b.toList):a≠b:=fun e=>h (by rw[e])
theorem WZ (hc:((CO E m).2.2.2=false∨¬(CO E m).1.name.toList=d.name.toList)∨(d.recs.rules.length:Int)≤(CO E m).2.1):Ew E S d h a m s= .ok (none,s):=by
 cases hk:(CO E m).2.2.2 with
 | false=>exact Mg (Ot hk)
 | true =>
  refine Qj (MT hk) ?_;rcases hc with (hc | hc) | hc
  ·rw[hk] at hc;cases hc
  ·exact .inl (Zb hc)
  exact .inr hc
theorem TN (hc:((CO E m).2.2.2=true∧(CO E m).1.name.toList=d.name.toList)∧(CO E m).2.1<(d.recs.rules.length:Int)):DD E m=some ((CO E m).1,(CO E m).2.1,(CO E m).2.2.1)∧¬((CO E m).1.name≠d.name∨(CO E m).2.1≥(d.recs.rules.length:Int))∧0≤(CO E m).2.1:=by
 have h1:=MT hc.1.1;refine⟨h1,fun h=>?_,(Fi h1).lo⟩;rcases h with h | h
 ·exact h (Gu hc.1.2)
 omega
end
theorem IH {d:CH}(h:DG d):0≤d.fixed∧d.fixed+1+d.ctors.length≤CT d∧CT d≤4000001:=by
 have h1:=GK h.din h.fx;have h2:=h.fx;have h3:=h.din.cl;unfold CT;omega
section
variable {E:List CH}{σ:Type}{S:Sys σ}{W:σ→Tm→Out (Tm×σ)}{n:Nat}{h m:Tm}{a:List Tm}{s:σ}{d:CH}{x:GR}
theorem JT {f:G7}{q:Option (Tm×List Tm)×Tm}(hq:q.1.isSome=false∨S.over s=true):PH S f h a (q,s)= .ok (none,s):=by
 unfold PH;obtain⟨q1,q2⟩:=q;cases q1 with
 | none=>rfl
 | some bv =>
  obtain⟨b,v⟩:=bv;rcases hq with hq | hq
  ·cases hq
  simp only[hq,if_true]
theorem LA {f:G7}{q:Option (Tm×List Tm)×Tm}(hq:q.1.isSome=true) (ho:S.over s=false):PH S f h a (q,s)=HM S h (JB q) (LG q) (a.drop f.arity.toNat) s:=by
 unfold PH;obtain⟨q1,q2⟩:=q;cases q1 with
 | none=>cases hq
 | some bv=>obtain⟨b,v⟩:=bv;simp only[ho,Bool.false_eq_true,if_false];rfl
theorem MN (hE:Je E):∀(k:Nat) (t:Es) (vs:List Tm) (l:Tm) (s s':σ) (q:Option (Tm×List Tm)×Tm),ON t vs→Dp E S W k t vs l s= .ok (q,s')→okB (JB q)=true∧(∀v∈LG q,okB v=true)∧(LG q).length≤100000000
 | 0,t,vs,l,s,s',q,hl,h=>by rw[Dp] at h;cases h
 | k+1,t,vs,l,s,s',q,hl,h=>by
  have hnone:∀l',okB (JB (none,l'))=true∧(∀v∈LG (none,l'),okB v=true)∧(LG (none,l')).length≤100000000:=fun l'=>⟨IL,fun v hv=>by simp[LG] at hv,Nat.zero_le _⟩;by_cases hk:t.kind=1
  ·by_cases hb:t.var<0∨t.var≥(vs.length:Int)∨S.over s=true
   ·rw[JY hk hb] at h;cases h;exact hnone _
   have hlt:t.var.toNat<vs.length:=by omega
   rw[LC hk hb (List.getElem?_eq_getElem hlt)] at h;obtain⟨⟨r,s1⟩,h1,h2,h3⟩:=J7 h;cases hc:DD E r with
   | none=>rw[GP hc] at h3;cases h3;exact hnone _
   | some p =>
    obtain⟨d,j,f⟩:=p;cases hbr:Cp (En d j).name t.branches with
    | none=>rw[IW hc hbr] at h3;cases h3;exact hnone _
    | some t'=>rw[IV hc hbr] at h3;exact MN hE k t' _ _ _ _ _ (hl.next hE h2 hc hbr) h3
  rw[Hn hk] at h;cases h;obtain⟨kk,b,v,l2⟩:=t;have:=hl.tok;simp only[FC] at this;exact⟨this.1,hl.ok,by have:=hl.len;show vs.length≤_;omega⟩
end
theorem PS:∀(l:List Tm),Ba l.reverse=Ba l
 | []=>rfl
 | a::l=>by rw[List.reverse_cons,Is,PS l];simp only[Ba];omega
theorem YH {l:List Tm}(h:∀v∈l,okB v=true):∀v∈l.reverse,okB v=true:=fun v hv=>h v (List.mem_reverse.1 hv)
theorem QC {E:List CH}{d:CH}{f:G7}{a:List Tm}(hE:Gh E) (hd:d∈E) (hf:f∈d.funs) (ha:∀x∈a,okB x=true):ON f.tree (a.take f.arity.toNat):=by
 have h1:=hE.g.all d hd;have h2:=h1.fu f hf;have h3:=hE.fu d hd f hf;exact⟨(h1.din.fs f hf).tr,h2.2.2,by rw[List.length_take];omega,fun v hv=>ha v (List.mem_of_mem_take hv)⟩
theorem lk {E:List CH}{nm:ByteArray}{x:CH}(h:(Bp E nm).2=0) (h3:(Bp E nm).1.kind=5) (hx:E[(Bp E nm).1.decl.toNat]?=some x):(Cf E nm).1=x:=by rw[fh h h3 hx]
theorem jq {E:List CH}{h:Tm}(hu:Tj E h=true):(Bp E h.name).2=0:=by
 simp only[Tj,Bool.and_eq_true,decide_eq_true_eq] at hu;exact hu.1
end Go.Eu
namespace Go.Proofs.YtboammbpdaoojaaGreat
open Go.Abs Go.Eu
theorem Yx:∀(a b:CV),(Mw a)→(Mw b)→EZ Tryz.prog 189 [.agg ((Bz a).map .p),.agg ((Bz b).map .p)] (.agg ((Bz (Io a b)).map .p)):=by
 intro a b h1 h2;have hl:=h1.vars;have hl2:=h2.vars;simp only[Dc] at hl hl2;refine A5 Tryz.func189 O ot (n:=138) O O (Aw (BF O (BN O) fun b2=>BF O (BN O) fun b3=>BF O (A7 EK O) fun b4=>Bg O (Aw (Ax Ay 4 [2,1] O (Aq O (FI O O) (Aq O (CP TO EK O) (BF O (A7 EK O) fun b5=>Ar Ay 1 [0,0] O (Aw (B2 (Hr (i:=0) O (YA (aw (we O) (aw (I2) (Eo))))) (B2 (Hq (sz:=2)) (Ar Ay 2 [] O (Au Ay 1 [] O (As (A8 ?_))))))))))))));refine Bb (α:=Nat×Nat×List CC×Int×Option Nat×Nat) (fun(i,k,vs,m,o,cp)=>⟨138,mk [(2,.ptr b2 0),(3,.ptr b3 0),(4,.ptr b4 0),(5,.ptr b5 0),(6,.p (I (i:Int))),(7,.p (I (k:Int))),(8,.p (I m))],[.vec o 2 (List.map Dy vs) cp,.box b5 [.p (I (max (a.const:Int) (b.const:Int))),.vs o (List.map Dy vs).length cp],.box b4 [.p (I 0),.p (.nils)],.box b3 [.p (I b.const),.p (.lst (List.map Dy b.vars))],.box b2 [.p (I a.const),.p (.lst (List.map Dy a.vars))]],[]⟩) (fun(i,k,vs,m,o,cp)=>(a.vars.length - i)+(b.vars.length - k)) (fun(i,k,vs,m,o,cp)=>NY a.vars b.vars i k vs m) ⟨0,0,[],0,none,0⟩ (NY.zero) ?_ ?_
 ·exact BU ⟨we O,we O,we O,we O,we O,we O,we O,Ap⟩ (leH (is:=[0,1,2,3,4]) O (wl (oe O) (wl (oe O) (wl (oe O) (wl (oe O) (wl (oe O) (C3)))))))
 rintro⟨i,k,vs,m,o,cp⟩ hC
 try simp only at hC
 have hi0:=hC.hi;have hk0:=hC.hk;refine As (As (BS [2,3,4,5,6,7,8] 27 (fun y=>y= .p (.bool ((decide (((i:Int):Int)<((a.vars.length:Nat):Int)))||(decide (((k:Int):Int)<((b.vars.length:Nat):Int)))))) ?_ ?_))
 ·refine A2 (Ax Ay 3 [4] O (Aq O (BK CS O (List.length_map _)) (Ax Ay 2 [] O (BL 21 O (fun g=>?_) (fun g=>?_)))))
  ·(try simp only[sd,se] at g);exact Ar Ay 6 [] O (⟨O,O,AK,AI,⟨O,O,O,O,O,O,O,Ap⟩⟩)
  (try simp only[sd,se] at g);exact Ax Ay 3 [3] O (BB O (BK CS O (List.length_map _)) (Ar Ay 2 [] O (⟨O,O,AK,AI,⟨O,O,O,O,O,O,O,Ap⟩⟩)))
 rintro _ rfl;refine Av O (fun c=>?_) (fun c=>?_)
 ·(try simp only[sd,se] at c);refine A1 (A8 (Aw (Aq O (CP j4 Fp O) (BF O (A7 Fp O) fun b9=>Ar Ay 1 [0,0] O (As (A8 (As (BS [2,3,4,5,6,7,8,9] 53 (fun y=>y= .p (.bool (QN a.vars b.vars i k))) ?_ ?_))))))))
  ·refine Bt (fun k=>false) Dn (BP Ay 3 [4] O (BG O (fun _=>BK CS O (List.length_map _)) Ap (BP Ay 2 [] O (Du 59 O (fun g=>?_) (fun g=>?_)))))
   ·(try simp only[sd,se] at g);exact Bj Ay 22 [] O (⟨O,O,AK,(by first | exact pB (Om An) | exact pB (Qm An An) | exact pB (OK hx hx1)),⟨O,O,O,O,O,O,O,O,Ap⟩⟩)
   (try simp only[sd,se] at g);refine BP Ay 3 [5] O (CZ O (fun _=>BK CS O (List.length_map _)) Ap (BP Ay 2 [] O (Du 65 O (fun g1=>?_) (fun g1=>?_))))
   ·(try simp only[sd,se] at g1);refine BP Ay 3 [5] O ?_;obtain⟨x,hx⟩:=A6 (l:=a.vars) (i:=i) An;refine CZ O (fun _=>A4 CS O O An (Ci hx) (O)) Ap (BP Ay 5 [4] O ?_);obtain⟨x1,hx1⟩:=A6 (l:=b.vars) (i:=k) An;exact CZ O (fun _=>A4 CS O O An (Ci hx1) (O)) Ap (Bj Ay 6 [] O (⟨O,O,AK,(by first | exact pB (Om An) | exact pB (Qm An An) | exact pB (OK hx hx1)),⟨O,O,O,O,O,O,O,O,Ap⟩⟩))
   (try simp only[sd,se] at g1);exact Bj Ay 16 [] O (⟨O,O,AK,(by first | exact pB (Om An) | exact pB (Qm An An) | exact pB (OK hx hx1)),⟨O,O,O,O,O,O,O,O,Ap⟩⟩)
  rintro _ rfl;refine Av O (fun c1=>?_) (fun c1=>?_)
  ·(try simp only[sd,se] at c1);have hi:=jL c1 (by simpa using c);refine Aw (Ax Ay 3 [5] O ?_);obtain⟨x,hx⟩:=A6 (l:=a.vars) (i:=i) An;refine Aq O (A4 CS O O An (Ci hx) (O)) (Ar Ay 2 [0,1] O (A2 (Ar Ay 3 [] O (Aw (Ax Ay 3 [0] O (Aq O (FI O O) (Ar Ay 1 [] O (A2 (Ax Ay 3 [2,0] O (Aq O (Bl CS Fp O O O O O) (Er O O (CK (i:=1) (rows':=List.map Dy [(CC.mk x.index x.plus)]) CS CS Fp O O O O O O (GD _) (by have:=hC.ln;have:=hC.hi;have:=hC.hk;simp only[List.length_map,List.length_append,List.length_cons,List.length_nil];omega) (F3 (f:=Dy) vs [(CC.mk x.index x.plus)])) fun o1 cp1=>Ar Ay 2 [2,0] O ?_)))))))))));refine⟨⟨i+1,k,vs++[(CC.mk x.index x.plus)],max (m:Int) (x.plus:Int),o1,cp1⟩,AT,(by first | exact hC.left hx c1 | exact hC.right hx c1 c2 | exact hC.both hx hx1 c1 c2),BU ⟨we O,we O,we O,we O,we O,we O,we O,Ap⟩ (leH (is:=[1,2,3,4,5]) O (wl (oe O) (wl (oe O) (wl (oe O) (wl (oe O) (wl (oe O) (C3)))))))⟩
  (try simp only[sd,se] at c1);have hk:=jg c1 hC.hk;refine As (BS [2,3,4,5,6,7,8,9] 88 (fun y=>y= .p (.bool (Wl a.vars b.vars i k))) ?_ ?_)
  ·refine Bt (fun k=>false) Dn (BP Ay 3 [5] O (BG O (fun _=>BK CS O (List.length_map _)) Ap (BP Ay 2 [] O (Du 94 O (fun g=>?_) (fun g=>?_)))))
   ·(try simp only[sd,se] at g);exact Bj Ay 15 [] O (⟨O,O,AK,(by first | exact pB (RT An) | exact pB (MZ hx1 hx) | exact pB (MZ hx hx1)),⟨O,O,O,O,O,O,O,O,Ap⟩⟩)
   (try simp only[sd,se] at g);refine BP Ay 3 [4] O ?_;obtain⟨x,hx⟩:=A6 (l:=b.vars) (i:=k) An;refine CZ O (fun _=>A4 CS O O An (Ci hx) (O)) Ap (BP Ay 5 [5] O ?_);obtain⟨x1,hx1⟩:=A6 (l:=a.vars) (i:=i) An;exact CZ O (fun _=>A4 CS O O An (Ci hx1) (O)) Ap (Bj Ay 5 [] O (⟨O,O,AK,(by first | exact pB (RT An) | exact pB (MZ hx1 hx) | exact pB (MZ hx hx1)),⟨O,O,O,O,O,O,O,O,Ap⟩⟩))
  rintro _ rfl;refine Av O (fun c2=>?_) (fun c2=>?_)
  ·(try simp only[sd,se] at c2);refine Aw (Ax Ay 3 [4] O ?_);obtain⟨x,hx⟩:=A6 (l:=b.vars) (i:=k) An;refine Aq O (A4 CS O O An (Ci hx) (O)) (Ar Ay 2 [0,1] O (A2 (Ar Ay 3 [] O (Aw (Ax Ay 3 [0] O (Aq O (FI O O) (Ar Ay 1 [] O (A2 (Ax Ay 3 [2,0] O (Aq O (Bl CS Fp O O O O O) (Er O O (CK (i:=1) (rows':=List.map Dy [(CC.mk x.index x.plus)]) CS CS Fp O O O O O O (GD _) (by have:=hC.ln;have:=hC.hi;have:=hC.hk;simp only[List.length_map,List.length_append,List.length_cons,List.length_nil];omega) (F3 (f:=Dy) vs [(CC.mk x.index x.plus)])) fun o1 cp1=>Ar Ay 2 [2,0] O ?_)))))))))));refine⟨⟨i,k+1,vs++[(CC.mk x.index x.plus)],max (m:Int) (x.plus:Int),o1,cp1⟩,AT,(by first | exact hC.left hx c1 | exact hC.right hx c1 c2 | exact hC.both hx hx1 c1 c2),BU ⟨we O,we O,we O,we O,we O,we O,we O,Ap⟩ (leH (is:=[1,2,3,4,5]) O (wl (oe O) (wl (oe O) (wl (oe O) (wl (oe O) (wl (oe O) (C3)))))))⟩
  (try simp only[sd,se] at c2);have hi:=iN c2 hC.hi;refine As (Bt (fun k=>false) Dn (BP Ay 3 [5] O ?_));obtain⟨x,hx⟩:=A6 (l:=a.vars) (i:=i) An;refine BG O (fun _=>A4 CS O O An (Ci hx) (O)) Ap (BP Ay 5 [5] O (BG O (fun _=>A4 CS O O An (Ci hx) (O)) Ap (BP Ay 5 [4] O ?_)));obtain⟨x1,hx1⟩:=A6 (l:=b.vars) (i:=k) An;refine BG O (fun _=>A4 CS O O An (Ci hx1) (O)) Ap (BP Ay 2 [] O (BG O (fun _=>FI O O) Ap (Bj Ay 2 [0,0] O (Au Ay 3 [] O (A2 (Ar Ay 3 [] O (Aw (Ax Ay 3 [0] O (Aq O (FI O O) (Ar Ay 1 [] O (A2 (Ax Ay 3 [2,0] O (Aq O (Bl CS Fp O O O O O) (Er O O (CK (i:=1) (rows':=List.map Dy [(CC.mk x.index (max (x.plus:Int) (x1.plus:Int)))]) CS CS Fp O O O O O O (GD _) (by have:=hC.ln;have:=hC.hi;have:=hC.hk;simp only[List.length_map,List.length_append,List.length_cons,List.length_nil];omega) (F3 (f:=Dy) vs [(CC.mk x.index (max (x.plus:Int) (x1.plus:Int)))])) fun o1 cp1=>Ar Ay 2 [2,0] O ?_))))))))))))));refine⟨⟨i+1,k+1,vs++[(CC.mk x.index (max (x.plus:Int) (x1.plus:Int)))],max (m:Int) (max (x.plus:Int) (x1.plus:Int):Int),o1,cp1⟩,AT,(by first | exact hC.left hx c1 | exact hC.right hx c1 c2 | exact hC.both hx hx1 c1 c2),BU ⟨we O,we O,we O,we O,we O,we O,we O,Ap⟩ (leH (is:=[1,2,3,4,5]) O (wl (oe O) (wl (oe O) (wl (oe O) (wl (oe O) (wl (oe O) (C3)))))))⟩
 (try simp only[sd,se] at c);refine Bf (As (As (BS [4,5] 135 (fun y=>y= .p (.bool ((decide (((vs.length:Nat):Int) > (0:Int)))&&(decide ((max (a.const:Int) (b.const:Int):Int)≤(m:Int)))))) ?_ ?_)))
 ·refine A2 (Ax Ay 2 [1] O (Aq O (KX CS O (List.length_map _)) (Ax Ay 2 [] O (BL 130 O (fun g=>?_) (fun g=>?_)))))
  ·(try simp only[sd,se] at g);exact Ar Ay 5 [1] O (⟨O,O,AK,AI,⟨O,O,Ap⟩⟩)
  (try simp only[sd,se] at g);exact Ar Ay 5 [] O (⟨O,O,AK,AI,⟨O,O,Ap⟩⟩)
 rintro _ rfl;refine Av O (fun c1=>?_) (fun c1=>?_)
 ·(try simp only[sd,se] at c1);refine A2 (B2 (DM (i:=0) (j:=1) (q:=1) [] O O O (Dx Ap)) (Ar Ay 2 [0,0] O (Au Ay 2 [0,1,0] O (Az (⟨O,_,_,⟨_,_,O,(A9 (i:=1) DY O O O),O⟩,(List.nil_sublist _),?_⟩)))))
  all_goals exact⟨by show (.agg [.p (I 0),.p (.lst (List.map Dy vs))]:AV)=_;rw[tQ (hC.fin An) An c1.2];rfl,rfl⟩
 (try simp only[sd,se] at c1);refine A1 (Aw (B2 (DM (i:=0) (j:=1) (q:=1) [] O O O (Dx Ap)) (Ar Ay 2 [0,1,0] O (Az (⟨O,_,_,⟨_,_,O,(A9 (i:=1) DY O O O),O⟩,(List.nil_sublist _),?_⟩)))))
 all_goals exact⟨by show (.agg [.p (I (max (a.const:Int) (b.const:Int))),.p (.lst (List.map Dy vs))]:AV)=_;rw[tp (hC.fin An) An];rfl,rfl⟩
theorem gx:∀(l:CV) (ps:List CV),(B6 l=true)→(ps.length<Dc)→(∀p∈ps,B6 p=true)→EZ Tryz.prog 169 [.agg ((Bz l).map .p),.p (.lst (List.map Bz ps)),.p (.bool false)] (.tup [.agg ((Bz ((GA ps ⟨l.const,[]⟩ l.vars).1)).map .p),.p (I ((GA ps ⟨l.const,[]⟩ l.vars).2))]):=by
 intro l ps h1 h2 h3;have hL:=JA.of h1;have hl:=hL.len;simp only[Dc] at h2;refine A5 Tryz.func169 O pT (n:=69) O O (Aw (BF O (BN O) fun b3=>BF O (A7 EK O) fun b6=>Ar Ay 1 [] O (Aw (Ax Ay 2 [1] O (Aq O (BC O O (Zu l.const) O) (BF O (A7 EK O) fun b8=>Ar Ay 1 [0,1] O (As (Au Ay 1 [] O (A8 (Bb (α:=Nat×CV) (fun(i,q)=>⟨69,mk [(1,.p (.lst (List.map Bz ps))),(2,.p (.bool false)),(3,.ptr b3 0),(6,.ptr b6 0),(8,.ptr b8 0),(9,.p (I (i:Int)))],[.box b8 ((Bz q).map .p),.box b6 [.p (I 0),.p (.nils)],.box b3 [.p (I l.const),.p (.lst (List.map Dy l.vars))]],[]⟩) (fun(i,q)=>l.vars.length - i) (fun(i,q)=>i≤l.vars.length∧(JA q∧GA ps q (l.vars.drop i)=GA ps ⟨l.const,[]⟩ l.vars)) ⟨0,(⟨l.const,[]⟩:CV)⟩ (⟨by omega,JA.num hL.c,rfl⟩) ?_ ?_))))))))))
 ·exact BU ⟨we O,we O,we O,we O,we O,we O,Ap⟩ (leH (is:=[0,1,2]) O (wl (oe O) (wl (oe O) (wl (oe O) (C3)))))
 rintro⟨i,q⟩ hC
 try simp only at hC
 obtain⟨hi,hC⟩:=hC;refine As (Aw (Ax Ay 3 [2] O (Aq O (BK CS O (List.length_map _)) (Ar Ay 1 [] O (Av O (fun c=>?_) (fun c=>?_))))))
 ·(try simp only[sd,se] at c);refine A1 (As (A8 (Aw (Ax Ay 3 [2] O ?_))));obtain⟨x,hx⟩:=A6 (l:=l.vars) (i:=i) An;have hv:=Kv h1 hx;refine Aq O (A4 CS O O An (Ci hx) (O)) (Aq O (BM NA O (O)) (BF O (A7 Fp O) fun b10=>Ar Ay 1 [0,1] O (Au Ay 3 [0] O (As (Au Ay 1 [] O ?_)))));refine Av O (fun c1=>by cases c1) (fun c1=>?_);refine A1 (Aw (Aq O (BT (i:=0) NA O O O) (Aq O (Bl CS Fp O O O O O) (Aq O (CP TO EK O) (BF O (A7 EK O) fun b12=>Ar Ay 1 [0,0] O (As (As (BS [1,2,3,6,8,9,10,11,12] 49 (fun y=>y= .p (.bool (((decide ((x.index:Int)<(0:Int)))==false)&&(decide ((x.index:Int)<((ps.length:Nat):Int)))))) ?_ ?_))))))))
  ·refine A2 (Ax Ay 4 [1] O (Aq O (Q3 sL O O) (Bq O (BL 44 O (fun g=>?_) (fun g=>?_)))))
   ·(try simp only[sd,se] at g);exact Ax Ay 2 [] O (BB O (BK EX O (List.length_map _)) (Ar Ay 2 [] O (⟨O,O,AK,AI,⟨O,O,O,O,O,O,O,O,O,Ap⟩⟩)))
   (try simp only[sd,se] at g);exact Ar Ay 5 [] O (⟨O,O,AK,AI,⟨O,O,O,O,O,O,O,O,O,Ap⟩⟩)
  rintro _ rfl;refine Av O (fun c2=>?_) (fun c2=>?_)
  ·(try simp only[sd,se] at c2);refine As (Bt (fun k=>Nat.beq k 10) Dn (BP Ay 2 [] O ?_));obtain⟨x1,hx1⟩:=A6 (l:=ps) (i:=(x.index:Int).toNat) An;have hv:=Kv h1 hx;refine BG O (fun _=>A4 EX O O An (Fs hx1) (Dg _)) Ap (BP Ay 3 [1] O (BG O (fun _=>BC O O (iI x1 x.plus (JA.of (h3 _ (List.mem_of_getElem? hx1))).nd) O) Ap (BP Ay 3 [] O (Gi [] O O (A7 EK O) Aj fun b13=>⟨AB,Ap,?_⟩))));refine Bj Ay 2 [0,1] O (As (Au Ay 2 [] O (Av O (fun c3=>?_) (fun c3=>?_))))
   ·(try simp only[sd,se] at c3);refine Au Ay 4 [4,0] O (BH (BR (i:=4) O) (Az (⟨O,_,_,⟨_,_,O,(A9 (i:=4) DY O O O),⟨_,_,O,O,O⟩⟩,(List.nil_sublist _),?_⟩)))
    all_goals exact⟨by show (.tup [.agg [.p (I 0),.p (.lst [])],.p (I ((E0 x1 x.plus).2))]:AV)=_;rw[show GA ps ⟨l.const,[]⟩ l.vars=_ from hC.2.symm.trans (tc hx c2.1 c2.2 hx1 c3)];rfl,rfl⟩
   (try simp only[sd,se] at c3);refine A1 (A2 (Ar Ay 2 [0,1,1] O (A2 (Ax Ay 2 [3,1] O (Aq O (BC O O (Yx q ((E0 x1 x.plus).1) hC.1.nd (by first | exact(JA.one hv).nd | exact(JA.plus (h3 _ (List.mem_of_getElem? hx1)) hv.1.1 hv.1.2 c3).nd)) O) (Ar Ay 1 [3,1] O (A2 (Ar Ay 3 [] O ?_))))))));refine⟨⟨i+1,Io q ((E0 x1 x.plus).1)⟩,AT,⟨by omega,(by first | exact⟨hC.1.join (JA.plus (h3 _ (List.mem_of_getElem? hx1)) hv.1.1 hv.1.2 c3),(s7 hx c2.1 c2.2 hx1 c3).symm.trans hC.2⟩ | exact⟨hC.1.join (JA.one hv),(qR hx An).symm.trans hC.2⟩ | exact⟨hC.1.join (JA.one hv),(qR hx (fun hh=>by have:=c2 hh.1;omega)).symm.trans hC.2⟩)⟩,BU ⟨we rfl,we rfl,we rfl,we rfl,we rfl,we rfl,trivial⟩ (leH (is:=[3,4,5]) rfl (wl (oe rfl) (wl (oe rfl) (wl (oe rfl) (C3)))))⟩
  (try simp only[sd,se] at c2);refine A1 (A2 (Ax Ay 2 [2,0] O (Aq O (BC O O (Yx q (CV.mk 0 [(CC.mk x.index x.plus)]) hC.1.nd (by first | exact(JA.one hv).nd | exact(JA.plus (h3 _ (List.mem_of_getElem? hx1)) hv.1.1 hv.1.2 c3).nd)) O) (Ar Ay 1 [2,1] O (A2 (Ar Ay 3 [] O ?_))))));refine⟨⟨i+1,Io q (CV.mk 0 [(CC.mk x.index x.plus)])⟩,AT,⟨by omega,(by first | exact⟨hC.1.join (JA.plus (h3 _ (List.mem_of_getElem? hx1)) hv.1.1 hv.1.2 c3),(s7 hx c2.1 c2.2 hx1 c3).symm.trans hC.2⟩ | exact⟨hC.1.join (JA.one hv),(qR hx An).symm.trans hC.2⟩ | exact⟨hC.1.join (JA.one hv),(qR hx (fun hh=>by have:=c2 hh.1;omega)).symm.trans hC.2⟩)⟩,BU ⟨we rfl,we rfl,we rfl,we rfl,we rfl,we rfl,trivial⟩ (leH (is:=[2,3,4]) rfl (wl (oe rfl) (wl (oe rfl) (wl (oe rfl) (C3)))))⟩
 (try simp only[sd,se] at c);refine Bf (Au Ay 3 [0,1,1] O (Az (⟨O,_,_,⟨_,_,O,(A9 (i:=1) DY O O Af),⟨_,_,O,O,O⟩⟩,(List.nil_sublist _),?_⟩)))
 all_goals exact⟨by show (.tup [.agg ((Bz q).map .p),.p (I 0)]:AV)=_;rw[←hC.2,List.drop_eq_nil_of_le An];rfl,rfl⟩
theorem eP:∀(l:CV) (ps:List CV),(Mw l)→(ps.length<Dc)→(∀p∈ps,Mw p)→EZ Tryz.prog 139 [.agg ((Bz l).map .p),.p (.lst (List.map Bz ps))] (.tup [.agg ((Bz ((Ct l ps).1)).map .p),.p (I ((Ct l ps).2))]):=by
 intro l ps h1 h2 h3;have hl:=h1.vars;have hl2:=h2;simp only[Dc] at hl hl2;refine A5 Tryz.func139 O qC (n:=26) O O (Aw (BF O (BN O) fun b2=>BF O (A7 EK O) fun b4=>Ar Ay 1 [] O (As (As (BS [1,2,4] 13 (fun y=>y= .p (.bool ((!(B6 l))||(!(ps.all B6))))) ?_ ?_)))))
 ·refine A2 (Aq O (BT (i:=1) DY O O Af) (Aq O (BC O O (OG l h1) O) (Ax Ay 2 [] O (BL 9 O (fun g=>?_) (fun g=>?_)))))
  ·(try simp only[sd,se] at g);exact Ar Ay 4 [] O (⟨O,O,AK,AI,⟨O,O,O,Ap⟩⟩)
  (try simp only[sd,se] at g);exact BB O (BZ O) (BB O (BC O O (WC ps h2 h3) O) (Ar Ay 2 [] O (⟨O,O,AK,AI,⟨O,O,O,Ap⟩⟩)))
 rintro _ rfl;refine Av O (fun c=>?_) (fun c=>?_)
 ·(try simp only[sd,se] at c);refine Au Ay 3 [0,0] O (BH (BR (i:=0) O) (Az (⟨O,_,_,⟨_,_,O,(A9 (i:=0) DY O O O),⟨_,_,O,O,O⟩⟩,(List.nil_sublist _),?_⟩)))
  all_goals exact⟨by show (.tup [.agg [.p (I 0),.p (.lst [])],.p (I 3)]:AV)=_;rw[show Ct l ps=(FV,3) by rw[Ct,if_pos (by simpa using c)]];rfl,rfl⟩
 (try simp only[sd,se] at c);have hv:B6 l=true∧ps.all B6=true:=by simpa using c
 refine A1 (As (Aw (Aq O (BT (i:=1) DY O O Af) (Aq O (BC O O (Zl l h1) O) (Bq O (Aq O (BK EX O (List.length_map _)) (Ar Ay 1 [] O (Av O (fun c1=>?_) (fun c1=>?_)))))))))
 ·(try simp only[sd,se] at c1);refine Au Ay 3 [0,0] O (BH (BR (i:=0) O) (Az (⟨O,_,_,⟨_,_,O,(A9 (i:=0) DY O O O),⟨_,_,O,O,O⟩⟩,(List.nil_sublist _),?_⟩)))
  all_goals exact⟨by show (.tup [.agg [.p (I 0),.p (.lst [])],.p (I 24)]:AV)=_;rw[show Ct l ps=(FV,24) by rw[Ct,if_neg (by simp[hv]),if_pos c1]];rfl,rfl⟩
 (try simp only[sd,se] at c1);refine A1 (Aw (Ax Ay 2 [1] O (Aq O (BC O O (gx l ps hv.1 h2 (List.all_eq_true.1 hv.2)) O) (Ar Ay 4 [0,1] O (Az (⟨O,_,_,⟨_,_,O,(A9 (i:=0) DY O O Af),⟨_,_,O,O,O⟩⟩,(List.nil_sublist _),?_⟩))))))
 all_goals exact⟨by show (.tup [.agg ((Bz ((GA ps ⟨l.const,[]⟩ l.vars).1)).map .p),.p (I ((GA ps ⟨l.const,[]⟩ l.vars).2))]:AV)=_;rw[show Ct l ps=GA ps ⟨l.const,[]⟩ l.vars by rw[Ct,if_neg (by simp[hv]),if_neg An]],rfl⟩
theorem bN:∀(n:Nat) (t:Tm) (ps:List CV) (b:Nat) (er nd:Int),(size t≤n)→(Nd t)→(ps.length<Dc)→(∀p∈ps,Mw p)→Bo Tryz.prog 109 [.ptr b 0,.agg ((BO t).map .p),.p (.lst (List.map Bz ps)),.p (.bool false)] [.box b [.p (I er),.p (I nd)]] (GU (.agg ((BO ((He ps er t).1)).map .p)) [.box b [.p (I ((He ps er t).2)),.p (I nd)]]):=by
 intro n
 induction n with
 | zero=>intro t ps b er nd h;cases t;simp[size] at h
 | succ n ih =>
  intro t ps b er nd h1 h2 h3 h4;obtain⟨tk,ti,tn,tl,ts⟩:=t;simp only[size] at h1;have h2n:=h2;simp only[Nd,Dc] at h2;refine A5 Tryz.func109 O nj (n:=76) O O (Aw (BF O (BN O) fun b5=>BF O (A7 Bw O) fun b8=>Bg O (Au Ay 1 [] O (As (Au Ay 1 [] O (A8 (BH (D4 (t:=9) (sz:=2) O) ?_)))))));refine Bb (α:=Nat×List CV×Int×Option Nat×Nat) (fun(i,ys,e,o,cp)=>⟨76,mk [(0,.ptr b 0),(2,.p (.lst (List.map Bz ps))),(3,.p (.bool false)),(5,.ptr b5 0),(8,.ptr b8 0),(9,.vs o (List.map Bz ys).length cp),(10,.p (I (i:Int)))],[.vec o 2 (List.map Bz ys) cp,.box b8 [.p (I 0),.p (I 0),.p (.str ⟨#[]⟩),.p (.nils),.p (.nils)],.box b5 [.p (I tk),.p (I ti),.p (.str tn),.p (.lst (List.map Bz tl)),.p (.lst (BE ts))],.box b [.p (I e),.p (I nd)]],[]⟩) (fun(i,ys,e,o,cp)=>tl.length - i) (fun(i,ys,e,o,cp)=>i≤tl.length∧(ys.length=i∧(ys++(FD ps e (tl.drop i)).1,(FD ps e (tl.drop i)).2)=FD ps er tl)) ⟨0,[],er,none,0⟩ (⟨by omega,by simp⟩) ?_ ?_
  ·exact BU ⟨we O,we O,we O,we O,we O,we O,we O,Ap⟩ (leH (is:=[0,1,2,3]) O (wl (oe O) (wl (oe O) (wl (oe O) (wl (oe O) (C3))))))
  rintro⟨i,ys,e,o,cp⟩ hC
  try simp only at hC
  obtain⟨hi,hl,hC⟩:=hC;refine As (Aw (Ax Ay 3 [2] O (Aq O (BK EX O (List.length_map _)) (Ar Ay 1 [] O (Av O (fun c=>?_) (fun c=>?_))))))
  ·(try simp only[sd,se] at c);refine A1 (As (A8 (Aw (Ax Ay 3 [2] O ?_))));obtain⟨x,hx⟩:=A6 (l:=tl) (i:=i) An;refine Aq O (A4 EX O O An (Fs hx) (Dg _)) (Ax Ay 2 [] O (Aq O (BC O O (eP x ps (h2.2.2.1 _ (List.mem_of_getElem? hx)) h3 h4) O) (Ax Ay 3 [] O (BF O (A7 EK O) fun b11=>Ar Ay 2 [0,1] O (As (Au Ay 1 [] O ?_))))));refine Av O (fun c1=>by cases c1) (fun c1=>?_);refine A1 (As (Au Ay 2 [] O (Av O (fun c2=>?_) (fun c2=>?_))))
   ·(try simp only[sd,se] at c2);refine A2 (Ax Ay 2 [] O (Aq O (B9 [4] O (.inl ⟨O,O,O⟩) (Xw b e nd ((Ct x ps).2)) ⟨_,_,O,O,O⟩ Am O (.inl O)) (Bg O (A2 (Ax Ay 2 [0] O (Aq O (Bl EX EK O O O O O) (Er O O (CK (i:=1) (rows':=List.map Bz [(CV.mk (((Ct x ps).1).const) (((Ct x ps).1).vars))]) EX EX EK O O O O O O (MR _) AD (F3 (f:=Bz) ys [(CV.mk (((Ct x ps).1).const) (((Ct x ps).1).vars))])) fun o1 cp1=>Ar Ay 1 [] O (A2 (Ar Ay 3 [] O ?_)))))))));refine⟨⟨i+1,ys++[(Ct x ps).1],Gf e ((Ct x ps).2),o1,cp1⟩,AT,⟨by omega,⟨by simp[hl],by rw[←hC,Cj hx];first | (simp[FD];done) | (simp[FD,XV,c2];done)⟩⟩,BU ⟨we rfl,we rfl,we rfl,we rfl,we rfl,we rfl,we rfl,trivial⟩ (leH (is:=[1,2,3,4]) rfl (wl (oe rfl) (wl (oe rfl) (wl (oe rfl) (wl (oe rfl) (C3))))))⟩
   (try simp only[sd,se] at c2);refine A1 (A2 (Ax Ay 2 [0] O (Aq O (Bl EX EK O O O O O) (Er O O (CK (i:=1) (rows':=List.map Bz [(CV.mk (((Ct x ps).1).const) (((Ct x ps).1).vars))]) EX EX EK O O O O O O (MR _) AD (F3 (f:=Bz) ys [(CV.mk (((Ct x ps).1).const) (((Ct x ps).1).vars))])) fun o1 cp1=>Ar Ay 1 [] O (A2 (Ar Ay 3 [] O ?_))))));refine⟨⟨i+1,ys++[(Ct x ps).1],e,o1,cp1⟩,AT,⟨by omega,⟨by simp[hl],by rw[←hC,Cj hx];first | (simp[FD];done) | (simp[FD,XV,c2];done)⟩⟩,BU ⟨we rfl,we rfl,we rfl,we rfl,we rfl,we rfl,we rfl,trivial⟩ (leH (is:=[1,2,3,4]) rfl (wl (oe rfl) (wl (oe rfl) (wl (oe rfl) (wl (oe rfl) (C3))))))⟩
  (try simp only[sd,se] at c);refine Bf (Aw (Ax Ay 2 [] O (B2 (Ce (i:=0) [9,52] O (Dx ⟨O,O,Ap⟩)) (Ar Ay 1 [1,0] O (Au Ay 1 [] O (As (Au Ay 1 [] O (A8 (BH (D4 (t:=13) (sz:=5) O) ?_)))))))));refine Bb (α:=Nat×List Tm×Int×Option Nat×Nat) (fun(i,zs,e2,o1,cp1)=>⟨76,mk [(0,.ptr b 0),(2,.p (.lst (List.map Bz ps))),(3,.p (.bool false)),(5,.ptr b5 0),(8,.ptr b8 0),(13,.vs o1 (BE zs).length cp1),(14,.p (I (i:Int)))],[.vec o1 5 (BE zs) cp1,.box b8 [.p (I 0),.p (I 0),.p (.str ⟨#[]⟩),.p (.nils),.p (.nils)],.box b5 [.p (I tk),.p (I ti),.p (.str tn),.p (.lst (List.map Bz ys)),.p (.lst (BE ts))],.box b [.p (I e2),.p (I nd)]],[]⟩) (fun(i,zs,e2,o1,cp1)=>ts.length - i) (fun(i,zs,e2,o1,cp1)=>i≤ts.length∧(zs.length=i∧(zs++(Gd ps e2 (ts.drop i)).1,(Gd ps e2 (ts.drop i)).2)=Gd ps e ts)) ⟨0,[],e,none,0⟩ (⟨by omega,by simp⟩) ?_ ?_
  ·exact BU ⟨we O,we O,we O,we O,we O,we O,we O,Ap⟩ (leH (is:=[0,1,2,3]) O (wl (oe O) (wl (oe O) (wl (oe O) (wl (oe O) (C3))))))
  rintro⟨i,zs,e2,o1,cp1⟩ hC1
  try simp only at hC1
  obtain⟨hi,hl2,hC2⟩:=hC1;refine As (Aw (Ax Ay 3 [2] O (Aq O (BK Be O (BQ _)) (Ar Ay 1 [] O (Av O (fun c1=>?_) (fun c1=>?_))))))
  ·(try simp only[sd,se] at c1);refine A1 (As (A8 (A2 (Ax Ay 5 [2] O ?_))));obtain⟨x,hx⟩:=A6 (l:=ts) (i:=i) An;refine Aq O (A4 Be O O An (Bd hx) (BD _)) (Ax Ay 3 [] O (Aq O (B9 [3] O (.inl ⟨O,O,O⟩) (ih x ps b e2 nd (by have:=Cc hx;omega) (DQ h2.2.2.2.2.1 hx) h3 h4) ⟨_,_,O,O,O⟩ Am O (.inl O)) ?_));generalize hz:(He ps e2 x).1=z;obtain⟨zk,zi,zn,zl,zs1⟩:=z;refine Aq O (Bl Be Bw O O O O O) (Er O O (CK (i:=0) (rows':=BE [(.mk zk zi zn zl zs1:Tm)]) Be Be Bw O O O O O O (Bv _) AD (Jf zs [(.mk zk zi zn zl zs1:Tm)])) fun o2 cp2=>Ar Ay 1 [] O (A2 (Ar Ay 3 [] O ?_)));refine⟨⟨i+1,zs++[(He ps e2 x).1],(He ps e2 x).2,o2,cp2⟩,AT,⟨by omega,⟨by simp[hl2],by rw[←hC2,Cj hx];simp[Gd]⟩⟩,BU ⟨we rfl,we rfl,we rfl,we rfl,we rfl,we (MF (zs++[(.mk zk zi zn zl zs1:Tm)]) (by rw[hz])),we rfl,trivial⟩ (leH (is:=[0,1,2,3]) rfl (wl (KA (zs++[(.mk zk zi zn zl zs1:Tm)]) (by rw[hz])) (wl (oe rfl) (wl (oe rfl) (wl (oe rfl) (C3))))))⟩
  (try simp only[sd,se] at c1);refine Bf (Aw (Ax Ay 2 [] O (B2 (Ce (i:=0) [13,73] O (Dx ⟨O,O,Ap⟩)) (Ar Ay 1 [1,0] O (Au Ay 2 [1,0,0] O (Az (⟨O,_,_,⟨_,_,O,(A9 (i:=0) BY O O O),O⟩,(B4 (is:=[2]) O),?_⟩)))))));refine⟨by show (.agg [.p (I tk),.p (I ti),.p (.str tn),.p (.lst (List.map Bz ys)),.p (.lst (BE zs))]:AV)=_;rw[YW (dE hC An) (de hC2 An)];rfl,?_⟩;show ([.box b [.p (I e2),.p (I nd)]]:List BI)=_;rw[YW (dE hC An) (de hC2 An)]
theorem NN:∀(t:Tm) (ps:List CV),(Nd t)→(ps.length<Dc)→(∀p∈ps,Mw p)→EZ Tryz.prog 79 [.agg ((BO t).map .p),.p (.lst (List.map Bz ps))] (.tup [.agg ((BO ((Bn t ps).1)).map .p),.p (I ((Bn t ps).2))]):=by
 intro t ps h1 h2 h3;refine A5 Tryz.func79 O qV (n:=25) O O (Aw (BF O (BN O) fun b2=>BF O (A7 Bw O) fun b4=>Ar Ay 1 [] O (Aw (Aq O (CP gE eK O) (BF O (BN O) fun b9=>Ar Ay 1 [] O (Aw (Ax Ay 3 [2] O (Aq O (B9 [0] O (.inl ⟨O,O,O⟩) (bN _ t ps b9 0 0 (Nat.le_refl _) h1 h2 h3) ⟨_,_,O,O,O⟩ Am O (.inl O)) (BF O (A7 Bw O) fun b7=>Ar Ay 1 [0,1] O (As (Au Ay 5 [1] O (Av O (fun c=>?_) (fun c=>?_)))))))))))))
 ·(try simp only[sd,se] at c);refine As (Bt (fun k=>false) Dn (Bj Ay 7 [1,2,0] O (BH (BR (i:=2) O) (Az (⟨O,_,_,⟨_,_,O,(A9 (i:=2) BY O O O),⟨_,_,O,O,O⟩⟩,(List.nil_sublist _),?_⟩)))))
  all_goals exact⟨by show (.tup [.agg [.p (I 0),.p (I 0),.p (.str ⟨#[]⟩),.p (.lst []),.p (.lst [])],.p (I ((He ps 0 t).2))]:AV)=_;rw[show Bn t ps=(Bc,(He ps 0 t).2) by rw[Bn,if_pos c]];rfl,rfl⟩
 (try simp only[sd,se] at c);refine A1 (Au Ay 3 [0,2,1] O (Az (⟨O,_,_,⟨_,_,O,(A9 (i:=2) BY O O Ag),⟨_,_,O,O,O⟩⟩,(List.nil_sublist _),?_⟩)))
 all_goals exact⟨by show (.tup [.agg ((BO ((He ps 0 t).1)).map .p),.p (I 0)]:AV)=_;rw[show Bn t ps=((He ps 0 t).1,0) by rw[Bn,if_neg An]],rfl⟩
theorem _root_.Go.AR {α:Prop}(h:α:=by simp only[Dc,List.length_drop];omega):α:=h
theorem fg:∀(ds:List CH) (g:Tm) (a:List Tm) (m:Tm) (b:Nat) (c c2:EP) (q:Option Tm),(Je ds)→((Cf ds g.name).1∈ds)→(okB g=true)→(okB m=true)→(CT (Cf ds g.name).1<a.length)→(a.length<549755813888)→(Ew ds DU (Cf ds g.name).1 g a m c= .ok (q,c2))→Bo Tryz.prog 50 [.p (.lst (List.map Bh ds)),.agg ((BO g).map .p),.p (.lst (BE a)),.agg ((BO m).map .p),.ptr b 0] [.box b ((II c).map .p)] (GU (.tup [.agg ((BO (q.getD Bc)).map .p),.p (.bool q.isSome)]) [.box b ((II c2).map .p)]):=by
 intro ds g a m b c c2 q h1 h2 h3 h4 h5 h6 h7;obtain⟨gk,gi,gn,gl,gs⟩:=g;simp only[Tm.name] at h2 h5 h7;have hdg:=h1.all _ h2;have hnr:=IH hdg;have hgo:=CM.1 h3;have hgl:=hgo.nd;simp only[Nd,Dc] at hgl;have hcl:=hdg.din.cl;have hrl:=hdg.din.rl;have hfx:=hdg.fx;have hir:=GK hdg.din hdg.fx;refine A5 Tryz.func50 O ry (n:=93) O O (Aw (BF O (BN O) fun b6=>BF O (BN O) fun b8=>BF O (A7 Bw O) fun b10=>Ar Ay 1 [] O (Aw (Ax Ay 3 [2] O (Aq O (BC O O (RF ds gn h1.env) O) (Ax Ay 4 [] O (BF O (A7 JP O) fun b12=>Ar Ay 3 [0,1] O (Aw (Ax Ay 2 [2] O (Aq O (BC O O (Vf ds m h1 h4) O) (Ax Ay 5 [] O (BF O (A7 JP O) fun b15=>Ar Ay 4 [0,1] O (As (As (BS [2,4,6,10,12,16,17] 54 (fun y=>y= .p (.bool (((!((CO ds m).2.2.2))||(!((((CO ds m).1).name).toList==(((Cf ds gn).1).name).toList)))||(decide (((CO ds m).2.1:Int)≥(((((Cf ds gn).1).recs.rules).length:Nat):Int)))))) ?_ ?_)))))))))))))))
 ·refine A2 (Ax Ay 3 [] O (BL 40 O (fun g1=>?_) (fun g1=>?_)))
  ·(try simp only[sd,se] at g1);exact Ar Ay 14 [] O (⟨O,O,AK,AI,⟨O,O,O,O,O,O,O,Ap⟩⟩)
  (try simp only[sd,se] at g1);refine BB O (A0 Cz O O) (BB O (A3 (i:=0) Ln O O (DH _)) (BB O (A0 Cz O O) (BB O (A3 (i:=1) Ln O O (DH _)) (BB O (I1 O O) (Ax Ay 2 [] O (BL 47 O (fun g2=>?_) (fun g2=>?_)))))))
  ·(try simp only[sd,se] at g2);exact Ar Ay 7 [] O (⟨O,O,AK,AI,⟨O,O,O,O,O,O,O,Ap⟩⟩)
  (try simp only[sd,se] at g2);exact Ax Ay 3 [] O (BB O (A3 (i:=1) Gj O O (Ck _)) (BB O (BK Be O (BQ _)) (Ar Ay 2 [] O (⟨O,O,AK,AI,⟨O,O,O,O,O,O,O,Ap⟩⟩))))
 rintro _ rfl;refine Av O (fun c1=>?_) (fun c1=>?_)
 ·(try simp only[sd,se] at c1);have hq:=(WZ (S:=DU) (h:= .mk gk gi gn gl gs) (a:=a) (s:=c) c1).symm.trans h7;cases hq;refine Au Ay 3 [2,0] O (BH (BR (i:=2) O) (Az (⟨O,_,_,⟨_,_,O,(A9 (i:=2) BY O O O),⟨_,_,O,O,O⟩⟩,(B4 (is:=[5]) O),?_⟩)))
  all_goals exact⟨rfl,rfl⟩
 (try simp only[sd,se] at c1);obtain⟨hg1,hg2,hg3⟩:=TN c1;have hg4:=c1.2;have hfl:=JO h1 hg1;refine A1 (As (Bt (fun k=>Nat.beq k 12) Dn (BP Ay 2 [] O (CU (j:=1) O O O (fun H i hi=>A3 (i:=i) Gj O hi (Ck _)) AB Ap (BG O (fun _=>BZ O) Ap ?_)))));obtain⟨x,hx⟩:=A6 (l:=((Cf ds gn).1).recs.rules) (i:=((CO ds m).2.1:Int).toNat) An;have hro:=CM.1 (hdg.ru _ (List.mem_of_getElem? hx));refine BG O (fun _=>A4 Be O O An (Bd hx) (BD _)) Ap (BP Ay 3 [4] O (BG O (fun _=>BC O O (NN x gl hro.nd hgl.2.1 hgl.2.2.1) O) Ap (BP Ay 3 [] O (Gi [] O O (A7 Bw O) Aj fun b19=>⟨AB,Ap,?_⟩))));refine Bj Ay 2 [0,1] O (As (Au Ay 2 [] O (Av O (fun c3=>?_) (fun c3=>?_))))
 ·(try simp only[sd,se] at c3);have hq:=(L4 (S:=DU) (h:= .mk gk gi gn gl gs) (a:=a) (s:=c) hg1 hg2 hx c3).symm.trans h7;cases hq;refine Au Ay 3 [3,0] O (BH (BR (i:=3) O) (Az (⟨O,_,_,⟨_,_,O,(A9 (i:=3) BY O O O),⟨_,_,O,O,O⟩⟩,(B4 (is:=[6]) O),?_⟩)))
  all_goals exact⟨rfl,rfl⟩
 (try simp only[sd,se] at c3);have hq:=(Mo (S:=DU) (h:= .mk gk gi gn gl gs) (a:=a) (s:=c) hg1 hg2 hx c3).symm.trans h7;obtain⟨hpo,hpe⟩:=Jz (h:=(by rw[hq];simp));rw[hpe] at hq;cases hq;refine A1 (As (Bt (fun k=>Nat.beq k 11) Dn (BP Ay 3 [0] O (CU (j:=2) O O O (fun H i hi=>A3 (i:=i) DN O hi (Cn _)) AB Ap (BP Ay 2 [] O (CU (j:=2) O O O (fun H i hi=>A3 (i:=i) Hg O hi (B8 _)) AB Ap (BG O (fun _=>BK HN O (List.length_map _)) Ap (BG O (fun _=>K7 O O An An) Ap (BG O (fun _=>CY (lo:=0) (hi:=(((((Cf ds gn).1).fixed:Int)+(1:Int):Int)+(((((Cf ds gn).1).ctors).length:Nat):Int):Int).toNat) Be O (CF (Bv _)) O ⟨_,pI An⟩ (Nat.zero_le _) AQ (Mx a ((((((Cf ds gn).1).fixed:Int)+(1:Int):Int)+(((((Cf ds gn).1).ctors).length:Nat):Int):Int).toNat))) Ap ?_)))))))));refine BG O (fun _=>BC O O (GL ((Bn x gl).1) (a.take ((((((Cf ds gn).1).fixed:Int)+(1:Int):Int)+(((((Cf ds gn).1).ctors).length:Nat):Int):Int).toNat)) (by simp only[Dc,List.length_take];omega)) O) Ap (Gi [] O O (A7 Bw O) Aj fun b21=>⟨AB,Ap,?_⟩);refine Bj Ay 1 [0,1] O (As (Bt (fun k=>false) Dn (BP Ay 3 [0] O (BG O (fun _=>BC O O (GL (apply ((Bn x gl).1) (a.take ((((((Cf ds gn).1).fixed:Int)+(1:Int):Int)+(((((Cf ds gn).1).ctors).length:Nat):Int):Int).toNat))) ((CO ds m).2.2.1) AZ) O) Ap (F9 O O (B9 [7] O (.inl ⟨O,O,O⟩) (HA b c (apply (apply ((Bn x gl).1) (a.take ((((((Cf ds gn).1).fixed:Int)+(1:Int):Int)+(((((Cf ds gn).1).ctors).length:Nat):Int):Int).toNat))) ((CO ds m).2.2.1)) 0 (CM.1 hpo).nd) ⟨_,_,O,O,O⟩ Am O (.inl O)) AB Ap (BP Ay 2 [3] O (BG O (fun _=>BC O O (Q2 ((Cf ds gn).1) hdg.din hdg.fx) O) Ap (BG O (fun _=>K7 O O An An) Ap ?_))))))));refine BG O (fun _=>CY (lo:=((CT ((Cf ds gn).1):Int)+(1:Int):Int).toNat) Be O (CF (Bv _)) ⟨_,pI An⟩ O AQ (Nat.le_refl _) (Jo a (((CT ((Cf ds gn).1):Int)+(1:Int):Int).toNat))) Ap (BG O (fun _=>BC O O (GL (apply (apply ((Bn x gl).1) (a.take ((((((Cf ds gn).1).fixed:Int)+(1:Int):Int)+(((((Cf ds gn).1).ctors).length:Nat):Int):Int).toNat))) ((CO ds m).2.2.1)) (a.drop (((CT ((Cf ds gn).1):Int)+(1:Int):Int).toNat)) AR) O) Ap (Bj Ay 2 [4,1] O (Az (⟨O,_,_,⟨_,_,O,(A9 (i:=4) BY O O Ag),⟨_,_,O,O,O⟩⟩,(B4 (is:=[7]) O),?_⟩))))
 all_goals exact⟨rfl,rfl⟩
theorem _root_.Go.AW {α:Prop}(h:α:=by first | rfl | simp[BD]):α:=h
theorem bC:∀(n:Nat) (ds:List CH) (g:Tm) (a:List Tm) (b:Nat) (c c2:EP) (q:Option Tm),(sE ds n)→(Gh ds)→(okB g=true)→(∀x∈a,okB x=true)→(a.length<549755813888)→(EU ds DU (EA ds DU n) n g a c= .ok (q,c2))→Bo Tryz.prog 41 [.p (.lst (List.map Bh ds)),.agg ((BO g).map .p),.p (.lst (BE a)),.ptr b 0] [.box b ((II c).map .p)] (GU (.tup [.agg ((BO (q.getD Bc)).map .p),.p (.bool q.isSome)]) [.box b ((II c2).map .p)]):=by
 intro n ds g a b c c2 q hW h2 h3 h4 h5 h6;obtain⟨gk,gi,gn,gl,gs⟩:=g;have hgo:=CM.1 h3;have hgl:=hgo.nd;simp only[Nd,Dc] at hgl;refine A5 Tryz.func41 O sV (n:=143) O O (Aw (BF O (BN O) fun b5=>BF O (A7 Bw O) fun b8=>Ar Ay 1 [] O (Aw (Ax Ay 2 [1] O (Aq O (BC O O (YR ds (.mk gk gi gn gl gs:Tm) h2.g.env) O) (Ax Ay 3 [] O (BF O (A7 Hw O) fun b10=>Ar Ay 2 [0,1] O (As (Au Ay 2 [] O (Av O (fun c1=>?_) (fun c1=>?_)))))))))))
 ·(try simp only[sd,se] at c1);have hq:=(JQ (E:=ds) (S:=DU) (W:=EA ds DU n) (n:=n) (h:=(.mk gk gi gn gl gs:Tm)) (a:=a) (s:=c) c1).symm.trans h6;cases hq;refine Au Ay 3 [1,0] O (BH (BR (i:=1) O) (Az (⟨O,_,_,⟨_,_,O,(A9 (i:=1) BY O O O),⟨_,_,O,O,O⟩⟩,(B4 (is:=[3]) O),?_⟩)))
  all_goals exact⟨rfl,rfl⟩
 (try simp only[sd,se] at c1);have hu:=c1;obtain⟨ix,dd,e1,e2,e3,e4⟩:=Kk hu;have hde:=e2.decl;have hdg:=h2.g.all _ e3;have hel:=h2.g.env.len;have hil:=(List.getElem?_eq_some_iff.1 e1).1;have hfx:=hdg.fx;have hnr:=IH hdg;have hcl:=hdg.din.cl;have hfl:=hdg.din.fl;refine A1 (Aw (Ax Ay 2 [] O (Aq O (A3 (i:=0) DN O O (DZ _)) (Aq O (A4 HT O O An (D3 e4) (Cm _)) (Aq O (BM FW O (Cm _)) (BF O (A7 JP O) fun b12=>Ar Ay 1 [0,1] O (As (Aw (Aq O (A0 GH O O) (Aq O (A3 (i:=1) DN O O (Da _)) (Bg O (A8 (Au Ay 2 [] O (Av O (fun c3=>?_) (fun c3=>?_)))))))))))))))
 ·(try simp only[sd,se] at c3);have hk1:=c3;refine Aw (Aq O (A0 Cz O O) (Aq O (Bu (i:=0) BY O O (FA _) (BD _)) (Ax Ay 2 [3] O (Aq O (BC O O (NN dd.value gl (CM.1 hdg.vl).nd hgl.2.1 hgl.2.2.1) O) (Ax Ay 3 [] O (BF O (A7 Bw O) fun b13=>Ar Ay 2 [0,1] O (As (Au Ay 2 [] O (Av O (fun c4=>?_) (fun c4=>?_))))))))))
  ·(try simp only[sd,se] at c4);have hq:=((I5 (E:=ds) (S:=DU) (W:=EA ds DU n) (n:=n) (h:=(.mk gk gi gn gl gs:Tm)) (a:=a) (s:=c) (d:=dd) hu e4 hk1).trans (Kg (h:=(.mk gk gi gn gl gs:Tm)) c4)).symm.trans h6;cases hq;refine Au Ay 3 [3,0] O (BH (BR (i:=3) O) (Az (⟨O,_,_,⟨_,_,O,(A9 (i:=3) BY O O O),⟨_,_,O,O,O⟩⟩,(B4 (is:=[5]) O),?_⟩)))
   all_goals exact⟨rfl,rfl⟩
  (try simp only[sd,se] at c4);have hq:=((I5 (E:=ds) (S:=DU) (W:=EA ds DU n) (n:=n) (h:=(.mk gk gi gn gl gs:Tm)) (a:=a) (s:=c) (d:=dd) hu e4 hk1).trans (KL (h:=(.mk gk gi gn gl gs:Tm)) c4)).symm.trans h6;obtain⟨hpo,hpe⟩:=Jz (h:=(by rw[hq];simp));rw[hpe] at hq;cases hq;refine A1 (Aw (Ax Ay 2 [0] O (Aq O (B9 [5] O (.inl ⟨O,O,O⟩) (HA b c ((Bn dd.value gl).1) 0 (CM.1 hpo).nd) ⟨_,_,O,O,O⟩ Am O (.inl O)) (Bq O (Aq O (BC O O (GL ((Bn dd.value gl).1) a AZ) O) (Ar Ay 2 [3,1] O (Az (⟨O,_,_,⟨_,_,O,(A9 (i:=3) BY O O Ag),⟨_,_,O,O,O⟩⟩,(B4 (is:=[5]) O),?_⟩))))))))
  all_goals exact⟨rfl,rfl⟩
 (try simp only[sd,se] at c3);have hk1:=c3;refine Au Ay 2 [] O (Av O (fun c4=>?_) (fun c4=>?_))
 ·(try simp only[sd,se] at c4);have hk5:=c4;refine As (Aw (Bq O (Aq O (BK Be O (BQ _)) (Aq O (BT (i:=0) FW O O Ad) (Aq O (BC O O (Q2 dd hdg.din hdg.fx) O) (Ar Ay 1 [] O (Av O (fun c5=>?_) (fun c5=>?_))))))))
  ·(try simp only[sd,se] at c5);have hq:=((Hp (E:=ds) (S:=DU) (W:=EA ds DU n) (n:=n) (h:=(.mk gk gi gn gl gs:Tm)) (a:=a) (s:=c) (d:=dd) hu e4 hk5).trans (Ow An)).symm.trans h6;cases hq;refine Au Ay 3 [2,0] O (BH (BR (i:=2) O) (Az (⟨O,_,_,⟨_,_,O,(A9 (i:=2) BY O O O),⟨_,_,O,O,O⟩⟩,(B4 (is:=[4]) O),?_⟩)))
   all_goals exact⟨rfl,rfl⟩
  (try simp only[sd,se] at c5);refine A1 (As (Bt (fun k=>false) Dn (BP Ay 6 [3,0] O (BG O (fun _=>BC O O (Q2 dd hdg.din hdg.fx) O) Ap ?_))));obtain⟨x,hx⟩:=A6 (l:=a) (i:=(CT dd:Int).toNat) An;obtain⟨⟨r,d2⟩,hr1,hr2,hr3⟩:=J7 (((Hp (E:=ds) (S:=DU) (W:=EA ds DU n) (n:=n) (h:=(.mk gk gi gn gl gs:Tm)) (a:=a) (s:=c) (d:=dd) hu e4 hk5).trans (R5 An hx)).symm.trans h6);have hfd:=lk (jq hu) hk5 e4;refine BG O (fun _=>A4 Be O O An (Bd hx) (BD _)) Ap (BP Ay 2 [] O (F9 O O (B9 [4] O (.inl ⟨O,O,O⟩) (hW b x c d2 r hr1) ⟨_,_,O,O,O⟩ Am O (.inl O)) AB Ap (BG O (fun _=>BZ O) Ap (F9 O O (B9 [4] O (.inl ⟨O,O,O⟩) (fg ds (.mk gk gi gn gl gs:Tm) a r b d2 c2 q h2.g (hfd▸e3) h3 hr2 (by rw[hfd];omega) h5 (by rw[hfd];exact hr3)) ⟨_,_,O,O,O⟩ Am O (.inl O)) AB Ap (Bj Ay 4 [2,1] O (Az (⟨O,_,_,⟨_,_,O,(A9 (i:=2) BY O O Ag),⟨_,_,O,O,O⟩⟩,(B4 (is:=[4]) O),?_⟩)))))))
  all_goals exact⟨rfl,rfl⟩
 (try simp only[sd,se] at c4);have hk5:=c4;refine Au Ay 2 [] O (Av O (fun c5=>?_) (fun c5=>?_))
 ·(try simp only[sd,se] at c5);have hk6:=c5;obtain⟨fk,ff,f1,f2⟩:=e2.func hk6;have hfi:=(List.getElem?_eq_some_iff.1 f1).1;have hff:dd.funs[(Bp ds (Tm.mk gk gi gn gl gs).name).1.item.toNat]?=some ff:=by rw[f2];simpa using f1
  have hfm:=List.mem_of_getElem? f1;have hfa:=hdg.fu ff hfm;refine Aw (Aq O (A0 Cz O O) (Aq O (A3 (i:=0) HY O O (CD _)) (Aq O (A0 GH O O) (Aq O (A3 (i:=1) DN O O (Fh _)) (Aq O (A4 GB O O An (EO hff) (DJ _)) (Aq O (BM Zn O (DJ _)) (BF O (A7 Vx O) fun b15=>Ar Ay 1 [0,1] O (As (Aw (Bq O (Aq O (BK Be O (BQ _)) (Aq O (A0 Gv O O) (Aq O (A3 (i:=0) DN O O (CL _)) (Ar Ay 1 [] O (Av O (fun c6=>?_) (fun c6=>?_))))))))))))))))
  ·(try simp only[sd,se] at c6);have hq:=((HH (E:=ds) (S:=DU) (W:=EA ds DU n) (n:=n) (h:=(.mk gk gi gn gl gs:Tm)) (a:=a) (s:=c) (d:=dd) (f:=ff) hu e4 hk6 hff).trans (Ki An)).symm.trans h6;cases hq;refine Au Ay 3 [3,0] O (BH (BR (i:=3) O) (Az (⟨O,_,_,⟨_,_,O,(A9 (i:=3) BY O O O),⟨_,_,O,O,O⟩⟩,(B4 (is:=[5]) O),?_⟩)))
   all_goals exact⟨rfl,rfl⟩
  (try simp only[sd,se] at c6);have hl0:¬(a.length:Int)<ff.arity:=by omega
  refine A1 (As ?_);obtain⟨⟨lq,d2⟩,hl1,hl2⟩:=Iy (((HH (E:=ds) (S:=DU) (W:=EA ds DU n) (n:=n) (h:=(.mk gk gi gn gl gs:Tm)) (a:=a) (s:=c) (d:=dd) (f:=ff) hu e4 hk6 hff).trans (Kj hl0)).symm.trans h6);have hlo:=MN h2.g _ _ _ _ _ _ _ (QC h2 e3 hfm h4) hl1;refine ID [.box b15 ((Ec ff).map .p),.box b12 ((Bh dd).map .p),.box b10 ((DX ((Bp ds (.mk gk gi gn gl gs:Tm).name).1)).map .p),.box b8 [.p (I 0),.p (I 0),.p (.str ⟨#[]⟩),.p (.nils),.p (.nils)],.box b5 [.p (I gk),.p (I gi),.p (.str gn),.p (.lst (List.map Bz gl)),.p (.lst (BE gs))],.box b ((II d2).map .p)] 8 [.val (.p (.lst (List.map Bh ds))),.val (.ptr b15 (0+7)),.val (.agg ((Ch ff.tree).map .p)),.val (.p (.lst (BE a))),.val (.ptr b15 (0+6)),.val (.p (I ff.arity)),.val (.p (.lst (BE (a.take ((ff.arity:Int).toNat))))),.val (.ptr b 0),.val (.tup [.agg ((BO (JB lq)).map .p),.p (.lst (BE (LG lq))),.p (.bool lq.1.isSome),.agg ((BO lq.2).map .p)]),.val (.tup [.agg ((BO (JB lq)).map .p),.p (.lst (BE (LG lq))),.p (.bool lq.1.isSome),.agg ((BO lq.2).map .p)]),.val (.agg ((BO (JB lq)).map .p)),.val (.p (.lst (BE (LG lq)))),.val (.p (.bool lq.1.isSome)),.val (.agg ((BO lq.2).map .p)),.new [.p (I 0),.p (I 0),.p (.str ⟨#[]⟩),.p (.nils),.p (.nils)],.new [.p (I 0),.p (I 0),.p (.str ⟨#[]⟩),.p (.nils),.p (.nils)]] [.p .any,.p (.lst (BE (LG lq))),.p (.bool lq.1.isSome),.p .any] [11,12,13] Dn O Aj Aj Aj O ?_ ?_
  ·exact Ap
  refine Bk O O (fun Bs=>BZ O) (Bk O O (fun Bs=>A0 Gv O O) (Fz O O O (fun Bs=>Bu (i:=Bs.length+0) IY O (CX O) (Db _) (Cl _)) (fun Bs=>Bu (i:=Bs.length+0) IY O (CX O) (Db _) (Cl _)) (Bk O O (fun Bs=>BZ O) (Bk O O (fun Bs=>A0 Gv O O) (Fz O O O (fun Bs=>A3 (i:=Bs.length+0) DN O (CX O) (CL _)) (fun Bs=>A3 (i:=Bs.length+0) DN O (CX O) (CL _)) (Bk O O (fun Bs=>CY (lo:=0) (hi:=(ff.arity:Int).toNat) Be O (CF (Bv _)) O ⟨_,pI An⟩ (Nat.zero_le _) AQ (Mx a ((ff.arity:Int).toNat))) (Bk O O (fun Bs=>BZ O) ?_)))))));refine KB O (fun Bs=>Gx [5] O (.inl ⟨O,O,O⟩) (VH n n ds ff.tree (a.take ((ff.arity:Int).toNat)) b c d2 lq hW h2.g (QC h2 e3 hfm h4) hl1) ⟨_,_,O,O,O⟩ Am O (aw (we O) (aw (we O) (aw (we O) (aw (we O) (Eo)))))) (Bk O O (fun Bs=>BZ O) (Bk O O (fun Bs=>DR O O) (Bk O O (fun Bs=>DR O O) (Bk O O (fun Bs=>DR O O) (Bk O O (fun Bs=>DR O O) (Pk O O (fun Bs=>A7 Bw O) fun b16=>Pk O O (fun Bs=>A7 Bw O) fun b19=>J6 ?_))))));refine Dv [.box b16 ((BO (JB lq)).map .p),.box b19 [.p (I 0),.p (I 0),.p (.str ⟨#[]⟩),.p (.nils),.p (.nils)],.box b15 ((Ec ff).map .p),.box b12 ((Bh dd).map .p),.box b10 ((DX ((Bp ds (.mk gk gi gn gl gs:Tm).name).1)).map .p),.box b8 [.p (I 0),.p (I 0),.p (.str ⟨#[]⟩),.p (.nils),.p (.nils)],.box b5 [.p (I gk),.p (I gi),.p (.str gn),.p (.lst (List.map Bz gl)),.p (.lst (BE gs))],.box b ((II d2).map .p)] O (Cd (i:=0) BY O O O Ag AW (FP _)) ?_;refine Dv [.box b16 ((BO (JB lq)).map .p),.box b19 [.p (I 0),.p (I 0),.p (.str ⟨#[]⟩),.p (.nils),.p (.nils)],.box b15 ((Ec ff).map .p),.box b12 ((Bh dd).map .p),.box b10 ((DX ((Bp ds (.mk gk gi gn gl gs:Tm).name).1)).map .p),.box b8 [.p (I 0),.p (I 0),.p (.str ⟨#[]⟩),.p (.nils),.p (.nils)],.box b5 [.p (I gk),.p (I gi),.p (.str gn),.p (.lst (List.map Bz gl)),.p (.lst (BE gs))],.box b ((II d2).map .p)] O (ED O) ?_;refine Dv [.box b16 ((BO (JB lq)).map .p),.box b19 [.p (I 0),.p (I 0),.p (.str ⟨#[]⟩),.p (.nils),.p (.nils)],.box b15 ((Ec ff).map .p),.box b12 ((Bh dd).map .p),.box b10 ((DX ((Bp ds (.mk gk gi gn gl gs:Tm).name).1)).map .p),.box b8 [.p (I 0),.p (I 0),.p (.str ⟨#[]⟩),.p (.nils),.p (.nils)],.box b5 [.p (I gk),.p (I gi),.p (.str gn),.p (.lst (List.map Bz gl)),.p (.lst (BE gs))],.box b ((II d2).map .p)] O (ED O) ?_
  refine Dv [.box b16 ((BO (JB lq)).map .p),.box b19 ((BO lq.2).map .p),.box b15 ((Ec ff).map .p),.box b12 ((Bh dd).map .p),.box b10 ((DX ((Bp ds (.mk gk gi gn gl gs:Tm).name).1)).map .p),.box b8 [.p (I 0),.p (I 0),.p (.str ⟨#[]⟩),.p (.nils),.p (.nils)],.box b5 [.p (I gk),.p (I gi),.p (.str gn),.p (.lst (List.map Bz gl)),.p (.lst (BE gs))],.box b ((II d2).map .p)] O (Cd (i:=1) BY O O O Ag AW (FP _)) (J0 (As (As (BS [2,3,5,8,15,16,17] 114 (fun y=>y= .p (.bool ((!lq.1.isSome)||d2.over))) ?_ ?_))))
  ·refine A2 (Ax Ay 3 [] O (BL 109 O (fun g1=>?_) (fun g1=>?_)))
   ·(try simp only[sd,se] at g1);exact Ar Ay 5 [] O (⟨O,O,AK,AI,⟨O,O,O,O,O,O,O,Ap⟩⟩)
   (try simp only[sd,se] at g1);exact Ar Ay 5 [7] O (⟨O,O,AK,AI,⟨O,O,O,O,O,O,O,Ap⟩⟩)
  rintro _ rfl;refine Av O (fun c7=>?_) (fun c7=>?_)
  ·(try simp only[sd,se] at c7);rw[JT (by simpa [DU] using c7)] at hl2;cases hl2;refine Au Ay 3 [5,0] O (BH (BR (i:=5) O) (Az (⟨O,_,_,⟨_,_,O,(A9 (i:=5) BY O O O),⟨_,_,O,O,O⟩⟩,(B4 (is:=[7]) O),?_⟩)))
   all_goals exact⟨rfl,rfl⟩
  (try simp only[sd,se] at c7);rw[LA (by simpa using c7.1) (by simpa [DU] using c7.2)] at hl2;refine A1 (Aw (Ax Ay 3 [0,6] O (Aq O (BC O O (NN (JB lq) gl (CM.1 hlo.1).nd hgl.2.1 hgl.2.2.1) O) (Ax Ay 3 [] O (BF O (A7 Bw O) fun b20=>Ar Ay 2 [0,1] O (As (Au Ay 2 [] O (Av O (fun c8=>?_) (fun c8=>?_)))))))))
  ·(try simp only[sd,se] at c8);rw[Kc (h:=(.mk gk gi gn gl gs:Tm)) c8] at hl2;cases hl2;refine Au Ay 3 [6,0] O (BH (BR (i:=6) O) (Az (⟨O,_,_,⟨_,_,O,(A9 (i:=6) BY O O O),⟨_,_,O,O,O⟩⟩,(B4 (is:=[8]) O),?_⟩)))
   all_goals exact⟨rfl,rfl⟩
  (try simp only[sd,se] at c8);obtain⟨hb1,hb2,hb3,hb4⟩:=Ut (by rw[hl2];simp) c8;rw[hb4] at hl2;obtain⟨hpo,hpe⟩:=Jz (h:=(by rw[hl2];simp));rw[hpe] at hl2;cases hl2;refine A1 (As (Bt (fun k=>false) Dn (BP Ay 2 [0] O (BG O (fun _=>BC O O (OF (LG lq) AZ) O) Ap ?_))));refine BG O (fun _=>BC O O (N2 ((Bn (JB lq) gl).1) ((LG lq).reverse) (by have:=Fk (t:=(Bn (JB lq) gl).1) hb1;omega) (CM.1 hb1).nd (Ej (YH hb2)).1 (by rw[PS];omega)) O) Ap ?_;refine Bj Ay 5 [0,1] O (As (Bt (fun k=>false) Dn (BP Ay 3 [0] O (F9 O O (B9 [8] O (.inl ⟨O,O,O⟩) (HA b (EP.mk d2.steps d2.nodes d2.forms d2.limit d2.over) ((CJ ((Bn (JB lq) gl).1) ((LG lq).reverse) 0).1) ((CJ ((Bn (JB lq) gl).1) ((LG lq).reverse) 0).2) (CM.1 hpo).nd) ⟨_,_,O,O,O⟩ Am O (.inl O)) AB Ap (BP Ay 2 [] O (CU (j:=3) O O O (fun H i hi=>A3 (i:=i) DN O hi (CL _)) AB Ap (BG O (fun _=>CY (lo:=(ff.arity:Int).toNat) Be O (CF (Bv _)) ⟨_,pI An⟩ O AQ (Nat.le_refl _) (Jo a ((ff.arity:Int).toNat))) Ap (BG O (fun _=>BC O O (GL ((CJ ((Bn (JB lq) gl).1) ((LG lq).reverse) 0).1) (a.drop ((ff.arity:Int).toNat)) AR) O) Ap (Bj Ay 2 [6,1] O (Az ?_))))))))));refine⟨O,_,_,⟨_,_,O,(A9 (i:=6) BY O O Ag),⟨_,_,O,O,O⟩⟩,(B4 (is:=[8]) O),?_⟩
  all_goals exact⟨rfl,rfl⟩
 (try simp only[sd,se] at c5);have hq:=(IK (E:=ds) (S:=DU) (W:=EA ds DU n) (n:=n) (h:=(.mk gk gi gn gl gs:Tm)) (a:=a) (s:=c) hu hk1 hk5 c5).symm.trans h6;cases hq;refine A1 (Au Ay 3 [2,0] O (BH (BR (i:=2) O) (Az (⟨O,_,_,⟨_,_,O,(A9 (i:=2) BY O O O),⟨_,_,O,O,O⟩⟩,(B4 (is:=[4]) O),?_⟩))))
 all_goals exact⟨rfl,rfl⟩
end Go.Proofs.YtboammbpdaoojaaGreat
namespace Go.Eu
open Go.Abs
theorem JM {k i:Int}{n:ByteArray}{l:List CV}{ks:List Tm}(h:okB (.mk k i n l ks)=true):(k=5→ks.length=2)∧(k=11→ks.length=3)∧(k=9∨k=10→ks.length=1)∧(k=8→ks.length=3):=by
 have hw:=(CM.1 h).wt;simp only[Wt] at hw;have h1:=hw.1;unfold arity at h1;refine⟨fun e=>?_,fun e=>?_,fun e=>?_,fun e=>?_⟩
 ·rw[if_pos An] at h1;omega
 ·rw[if_neg An,if_pos An] at h1;omega
 ·rw[if_neg An,if_neg An,if_pos An] at h1;omega
 rw[if_neg An,if_pos An] at h1;omega
theorem YM {l:List Tm}{v:Tm}(h:l[1]?=some v):(l.take 2).drop 1=[v]:=by
 cases l with
 | nil=>simp at h
 | cons a l =>
  cases l with
  | nil=>simp at h
  | cons b l=>simp at h;subst h;rfl
section
variable {E:List CH}{σ:Type}{S:Sys σ}{n:Nat}{t:Tm}{s:σ}
theorem Rh {q:Option Tm}(h:q.isSome=false):Yo E S n t (q,s)= .ok (t,s):=by
 cases q with
 | none=>rfl
 | some x=>cases h
theorem RG {q:Option Tm}(h:q.isSome=true):Yo E S n t (q,s)=EA E S n s (q.getD Bc):=by
 cases q with
 | none=>cases h
 | some x=>rfl
end
structure ml (w:Tm):Prop where
 ok:okB w=true
 nd:Nd w
 sz:size w<549755813888
 len:(BA w).2.length<549755813888
 head:okB (BA w).1=true
 args:∀x∈(BA w).2,okB x=true
 asz:Ba (BA w).2+(BA w).2.length<size w
theorem WV {w:Tm}(h:okB w=true):ml w:=by
 have h1:=Fk h;have h2:=HF w;have h3:=size_pos (BA w).1;exact⟨h,(CM.1 h).nd,h1,by omega,(Hj h).1,(Hj h).2,by omega⟩
theorem ae {l:List Tm}(h:∀x∈l,okB x=true):MJ (l.take 1):=(Ej fun v hv=>h v (List.mem_of_mem_take hv)).1
end Go.Eu
namespace Go.Proofs.YtboammbpdaoojaaGreat
open Go.Abs Go.Eu
set_option maxHeartbeats 4000000 in
theorem dx:∀(ds:List CH) (hE:Gh ds) (n:Nat),sE ds n:=by
 intro ds hE n
 induction n using Nat.strongRecOn with
 | ind n ih =>
  intro b t c c2 r h1;refine A5 Tryz.func14 O sF (n:=118) O O (Aw (BF O (BN O) fun b4=>BF O (A7 Bw O) fun b6=>Bg O (As (A8 (Bb (α:=Nat×Tm×EP) (fun(m,w,d)=>⟨118,mk [(0,.p (.lst (List.map Bh ds))),(2,.ptr b 0),(4,.ptr b4 0),(6,.ptr b6 0)],[.box b6 [.p (I 0),.p (I 0),.p (.str ⟨#[]⟩),.p (.nils),.p (.nils)],.box b4 ((BO w).map .p),.box b ((II d).map .p)],[]⟩) (fun(m,w,d)=>m) (fun(m,w,d)=>EA ds DU m d w= .ok (r,c2)∧m≤n) ⟨n,t,c⟩ (⟨h1,Nat.le_refl _⟩) ?_ ?_)))))
  ·exact BU ⟨we O,we O,we O,we O,Ap⟩ (leH (is:=[0,1,2]) O (wl (oe O) (wl (oe O) (wl (oe O) (C3)))))
  rintro⟨m,w,d⟩ hC
  try simp only at hC
  obtain⟨hC,hmn⟩:=hC;obtain⟨k,rfl⟩:=ZL hC Ao;have hwo:=XG hC Ao;have hsp:=WV hwo;have hsl:=hsp.len;have hss:=hsp.sz;have hsa:=hsp.asz;refine As (Au Ay 5 [2] O (Av O (fun c1=>?_) (fun c1=>?_)))
  ·(try simp only[sd,se] at c1);have hov:DU.over d=false:=by simpa [DU] using c1
   refine A1 (A8 (Aw (Aq O (BT (i:=1) BY O O Ag) (Aq O (BC O O (VA _ w (Nat.le_refl _) AZ) O) (Ax Ay 3 [] O (BF O (A7 Bw O) fun b7=>Ar Ay 2 [0,1] O (Aw (Aq O (A0 HO O O) ?_))))))));generalize hz:(BA w).1=z;obtain⟨zk,zi,zn,zl,zs⟩:=z;have hzo:okB (.mk zk zi zn zl zs)=true:=hz▸hsp.head;have hzl:=JM hzo;have hzn:=(CM.1 hzo).nd;refine Ar Ay 1 [0] O (A8 (Au Ay 2 [] O (Av O (fun c3=>?_) (fun c3=>?_))))
   ·(try simp only[sd,se] at c3);have hk:=(congrArg Tm.kind hz).trans c3;refine As (Aw (Bq O (Aq O (BK Be O (BQ _)) (Ar Ay 1 [] O (Av O (fun c4=>?_) (fun c4=>?_))))))
    ·(try simp only[sd,se] at c4);have hq:=(OM hwo hov rfl hk An).symm.trans hC;cases hq;refine Au Ay 2 [2,1,1] O (Az (⟨O,_,_,⟨_,_,O,(A9 (i:=1) BY O O Ag),O⟩,(B4 (is:=[3]) O),?_⟩))
     all_goals exact⟨rfl,rfl⟩
    (try simp only[sd,se] at c4);refine A1 (As (Bt (fun k=>Nat.beq k 10) Dn (BP Ay 2 [0] O ?_)));obtain⟨x,hx⟩:=A6 (l:=zs) (i:=1) An;have hxo:=F6 hzo (i:=1) hx;have hq:=(RP hwo hov rfl hk An (by rw[hz];exact hx)).symm.trans hC;obtain⟨hpo,hpe⟩:=Jz (h:=(by rw[hq];simp));rw[hpe] at hq;refine BG O (fun _=>A4 Be O O An (Bd hx) (BD _)) Ap (BP Ay 2 [] O (BG O (fun _=>CY (lo:=0) (hi:=1) Be O (CF (Bv _)) O ⟨_,O⟩ (Nat.zero_le _) AQ (Mx ((BA w).2) 1)) Ap (BG O (fun _=>BC O O (N2 x (((BA w).2).take 1) (by have:=Fk hxo;omega) (CM.1 hxo).nd (ae hsp.args) (by have:=DW (BA w).2 1;omega)) O) Ap (BP Ay 3 [] O (Gi [] O O (A7 Bw O) Aj fun b9=>⟨AB,Ap,?_⟩)))));refine Bj Ay 2 [0,1] O (Bt (fun k=>false) Dn (BP Ay 3 [0] O (F9 O O (B9 [4] O (.inl ⟨O,O,O⟩) (HA b (EP.mk d.steps d.nodes d.forms d.limit d.over) ((CJ x (((BA w).2).take 1) 0).1) ((CJ x (((BA w).2).take 1) 0).2) (CM.1 hpo).nd) ⟨_,_,O,O,O⟩ Am O (.inl O)) AB Ap (BG O (fun _=>BZ O) Ap (BG O (fun _=>CY (lo:=1) Be O (CF (Bv _)) ⟨_,O⟩ O AQ (Nat.le_refl _) (Jo ((BA w).2) 1)) Ap (BG O (fun _=>BC O O (GL ((CJ x (((BA w).2).take 1) 0).1) (((BA w).2).drop 1) AR) O) Ap (Bj Ay 1 [3,1] O ?_)))))));refine⟨⟨k,(apply ((CJ x (((BA w).2).take 1) 0).1) (((BA w).2).drop 1)),((EP.mk d.steps d.nodes d.forms d.limit d.over).result ((CJ x (((BA w).2).take 1) 0).1) ((CJ x (((BA w).2).take 1) 0).2))⟩,AT,⟨hq,by omega⟩,BU ⟨we rfl,we rfl,we rfl,we rfl,trivial⟩ (leH (is:=[2,3,4]) rfl (wl (oe rfl) (wl (oe rfl) (wl (oe rfl) (C3)))))⟩
   (try simp only[sd,se] at c3);refine Au Ay 2 [] O (Av O (fun c4=>?_) (fun c4=>?_))
   ·(try simp only[sd,se] at c4);have hk:=(congrArg Tm.kind hz).trans c4;refine As (Bt (fun k=>Nat.beq k 11) Dn (BP Ay 2 [0] O ?_));obtain⟨x,hx⟩:=A6 (l:=zs) (i:=2) An;have hxo:=F6 hzo (i:=2) hx;obtain⟨v,hv⟩:=A6 (l:=zs) (i:=1) An;have hvo:=F6 hzo (i:=1) hv;have hq:=(R7 hwo hov rfl hk (by rw[hz];exact hv) (by rw[hz];exact hx)).symm.trans hC;rw[←YM hv] at hq;obtain⟨hpo,hpe⟩:=Jz (h:=(by rw[hq];simp));rw[hpe] at hq;refine BG O (fun _=>A4 Be O O An (Bd hx) (BD _)) Ap (BP Ay 3 [0] O (BG O (fun _=>CY (lo:=1) (hi:=2) Be O (CF (Bv _)) ⟨_,O⟩ ⟨_,O⟩ (by first | decide | (simp only[BQ];omega)) (by first | decide | (simp only[BQ];omega)) (kl zs 1 2)) Ap (BG O (fun _=>BC O O (N2 x ((zs.take 2).drop 1) (by have:=Fk hxo;omega) (CM.1 hxo).nd (by rw[YM hv];exact⟨(CM.1 hvo).nd,trivial⟩) (by rw[YM hv];have:=Fk hvo;simp only[Ba];omega)) O) Ap (BP Ay 3 [] O (Gi [] O O (A7 Bw O) Aj fun b11=>⟨AB,Ap,?_⟩)))));refine Bj Ay 2 [0,1] O (A2 (Ax Ay 3 [0] O (Aq O (B9 [4] O (.inl ⟨O,O,O⟩) (HA b (EP.mk d.steps d.nodes d.forms d.limit d.over) ((CJ x ((zs.take 2).drop 1) 0).1) ((CJ x ((zs.take 2).drop 1) 0).2) (CM.1 hpo).nd) ⟨_,_,O,O,O⟩ Am O (.inl O)) (Bq O (Aq O (BC O O (GL ((CJ x ((zs.take 2).drop 1) 0).1) ((BA w).2) AR) O) (Ar Ay 1 [3,1] O ?_))))));refine⟨⟨k,(apply ((CJ x ((zs.take 2).drop 1) 0).1) ((BA w).2)),((EP.mk d.steps d.nodes d.forms d.limit d.over).result ((CJ x ((zs.take 2).drop 1) 0).1) ((CJ x ((zs.take 2).drop 1) 0).2))⟩,AT,⟨hq,by omega⟩,BU ⟨we rfl,we rfl,we rfl,we rfl,trivial⟩ (leH (is:=[2,3,4]) rfl (wl (oe rfl) (wl (oe rfl) (wl (oe rfl) (C3)))))⟩
   (try simp only[sd,se] at c4);refine As (Au Ay 2 [] O (BS [0,2,4,6,7,8,27] 71 (fun y=>y= .p (.bool (decide (zk=9∨zk=10)))) ?_ ?_))
   ·refine Av O (fun c5=>?_) (fun c5=>?_)
    ·(try simp only[sd,se] at c5);exact A1 (⟨O,O,(List.Sublist.refl _),(by refine pB (Bool.eq_iff_iff.2 ?_);simp only[beq_iff_eq,decide_eq_true_eq];omega),⟨O,O,O,O,O,O,O,Ap⟩⟩)
    (try simp only[sd,se] at c5);exact A2 (Ar Ay 2 [] O (⟨O,O,(List.Sublist.refl _),(by refine pB (Bool.eq_iff_iff.2 ?_);simp only[beq_iff_eq,decide_eq_true_eq];omega),⟨O,O,O,O,O,O,O,Ap⟩⟩))
   rintro _ rfl;refine Av O (fun c5=>?_) (fun c5=>?_)
   ·(try simp only[sd,se] at c5);have hk9:zk=9∨zk=10:=by simpa using c5
    refine Aw (Ax Ay 3 [0] O ?_);obtain⟨x,hx⟩:=A6 (l:=zs) (i:=0) An;obtain⟨⟨pr,d2⟩,hr1,hr2,hr3⟩:=J7 ((OL hwo hov rfl (by rw[hz];exact hk9) (by rw[hz];exact hx)).symm.trans hC);refine Aq O (A4 Be O O An (Bd hx) (BD _)) (Ax Ay 2 [] O (Aq O (B9 [3] O (.inl ⟨O,O,O⟩) (ih k An b x (EP.mk d.steps d.nodes d.forms d.limit d.over) d2 pr hr1) ⟨_,_,O,O,O⟩ Am O (.inl O)) (BF O (A7 Bw O) fun b13=>Ar Ay 1 [0,1] O (As (Aw (Aq O (A0 HO O O) ?_))))));obtain⟨prk,pri,prn,prl,prs⟩:=pr;have hprl:=JM hr2;refine Ar Ay 2 [0] O (Av O (fun c6=>?_) (fun c6=>?_))
    ·(try simp only[sd,se] at c6);rw[Lu (r:=(Tm.mk prk pri prn prl prs,d2)) c6] at hr3;cases hr3;refine Aw (Ax Ay 3 [1,0] O (Aq O (Bl Be Bw O O O O O) (Ax Ay 2 [] O (Aq O (Gw O O (GL (.mk zk 0 ⟨#[]⟩ [] [(.mk prk pri prn prl prs:Tm)]:Tm) ((BA w).2) AR) (aw (Dt O) (aw (we O) (Eo)))) (Ar Ay 1 [2,1] O (Az (⟨O,_,_,⟨_,_,O,(A9 (i:=2) BY O O Ag),O⟩,(B4 (is:=[4]) O),?_⟩)))))))
     all_goals exact⟨by show (.agg ((BO (apply (.mk zk 0 ⟨#[]⟩ [] [(.mk prk pri prn prl prs:Tm)]:Tm) ((BA w).2))).map .p):AV)=_;rw[hz];rfl,rfl⟩
    (try simp only[sd,se] at c6);have hp8:=c6;refine A1 (A2 (Ax Ay 7 [0,1] O ?_));obtain⟨x1,hx1⟩:=A6 (l:=prs) (i:=(((1:Int)+(zk:Int):Int) - (9:Int):Int).toNat) An;have hxo:=F6 hr2 (i:=(1+zk - 9).toNat) hx1;have hq:=(Oo (r:=(Tm.mk prk pri prn prl prs,d2)) (h:=(BA w).1) hp8 (by rw[hz];exact hx1)).symm.trans hr3;obtain⟨hpo,hpe⟩:=Jz (h:=(by rw[hq];simp));rw[hpe] at hq;refine Aq O (A4 Be O O An (Bd hx1) (BD _)) (Aq O (BM BY O (BD _)) (Aq O (B9 [4] O (.inl ⟨O,O,O⟩) (HA b d2 x1 0 (CM.1 hpo).nd) ⟨_,_,O,O,O⟩ Am O (.inl O)) (Bq O (Aq O (BC O O (GL x1 ((BA w).2) AR) O) (Ar Ay 1 [3,1] O ?_)))));refine⟨⟨k,(apply x1 ((BA w).2)),(d2.result x1 0)⟩,AT,⟨hq,by omega⟩,BU ⟨we rfl,we rfl,we rfl,we rfl,trivial⟩ (leH (is:=[2,3,4]) rfl (wl (oe rfl) (wl (oe rfl) (wl (oe rfl) (C3)))))⟩
   (try simp only[sd,se] at c5);refine Au Ay 2 [] O (Av O (fun c6=>?_) (fun c6=>?_))
   ·(try simp only[sd,se] at c6);have hk:=(congrArg Tm.kind hz).trans c6;refine Aw (Ax Ay 4 [0] O ?_);obtain⟨⟨q,d2⟩,hc1,hc2⟩:=Iy ((KZ hwo hov rfl hk).symm.trans hC);refine Aq O (B9 [3] O (.inl ⟨O,O,O⟩) (bC k ds (.mk zk zi zn zl zs:Tm) ((BA w).2) b (EP.mk d.steps d.nodes d.forms d.limit d.over) d2 q (ih k An) hE hzo hsp.args An (by rw[←hz];exact hc1)) ⟨_,_,O,O,O⟩ Am O (.inl O)) (Ax Ay 3 [] O (BF O (A7 Bw O) fun b14=>Ar Ay 2 [0,1] O (As (Au Ay 2 [] O (Av O (fun c7=>?_) (fun c7=>?_))))))
    ·(try simp only[sd,se] at c7);rw[Rh (by simpa using c7)] at hc2;cases hc2;refine Au Ay 2 [3,2,1] O (Az (⟨O,_,_,⟨_,_,O,(A9 (i:=2) BY O O Ag),O⟩,(B4 (is:=[4]) O),?_⟩))
     all_goals exact⟨rfl,rfl⟩
    (try simp only[sd,se] at c7);rw[RG (by simpa using c7)] at hc2;have hq:=hc2;refine A1 (A2 (Ar Ay 2 [0,3,1] O ?_));refine⟨⟨k,(q.getD Bc),d2⟩,AT,⟨hq,by omega⟩,BU ⟨we rfl,we rfl,we rfl,we rfl,trivial⟩ (leH (is:=[2,3,4]) rfl (wl (oe rfl) (wl (oe rfl) (wl (oe rfl) (C3)))))⟩
   (try simp only[sd,se] at c6);have hq:=(VG hwo hov rfl (by rw[hz];assumption) (by rw[hz];assumption) (by rw[hz];show ¬zk=9;omega) (by rw[hz];show ¬zk=10;omega) (by rw[hz];assumption)).symm.trans hC;cases hq;refine Au Ay 2 [2,1,1] O (Az (⟨O,_,_,⟨_,_,O,(A9 (i:=1) BY O O Ag),O⟩,(B4 (is:=[3]) O),?_⟩))
   all_goals exact⟨rfl,rfl⟩
  (try simp only[sd,se] at c1);have hq:=(YT (S:=DU) (E:=ds) (n:=k) hwo (by simpa [DU] using c1)).symm.trans hC;cases hq;refine Bf (Au Ay 2 [1,0,1] O (Az (⟨O,_,_,⟨_,_,O,(A9 (i:=0) BY O O Ag),O⟩,(B4 (is:=[2]) O),?_⟩)))
  all_goals exact⟨rfl,rfl⟩
end Go.Proofs.YtboammbpdaoojaaGreat
namespace Go.Eu
open Go.Abs
section
variable {E:List CH}{σ:Type}{S:Sys σ}{R:σ→σ→Prop}
structure e7 (S:Sys σ) (R:σ→σ→Prop):Prop where
 rf:∀s,R s s
 tr:∀{a b c},R a b→R b c→R a c
 rs:∀{s t e s'},S.res s t e=some s'→R s s'
variable (h:e7 S R)
include h
theorem Jk {α:Type}{s:σ}{x:Tm×Int}{k:Tm→σ→Out (α×σ)}{q:α×σ}(hk:∀t s' q,k t s'= .ok q→R s' q.2) (hq:S.put s x k= .ok q):R s q.2:=by
 unfold Sys.put at hq;split at hq
 ·cases hs:S.res s x.1 x.2 with
  | none=>rw[hs] at hq;cases hq
  | some s'=>rw[hs] at hq;exact h.tr (h.rs hs) (hk _ _ _ hq)
 cases hq
theorem OC {W:σ→Tm→Out (Tm×σ)}(hW:∀s t q,W s t= .ok q→R s q.2):∀(k:Nat) (t:Es) (vs:List Tm) (l:Tm) (s:σ) (q:(Option (Tm×List Tm)×Tm)×σ),Dp E S W k t vs l s= .ok q→R s q.2
 | 0,t,vs,l,s,q,hq=>by rw[Dp] at hq;cases hq
 | k+1,t,vs,l,s,q,hq=>by
  by_cases hk:t.kind=1
  ·by_cases hb:t.var<0∨t.var≥(vs.length:Int)∨S.over s=true
   ·rw[JY hk hb] at hq;cases hq;exact h.rf _
   have hlt:t.var.toNat<vs.length:=by omega
   rw[LC hk hb (List.getElem?_eq_getElem hlt)] at hq;obtain⟨r,h1,h2,h3⟩:=J7 hq;have hr:=hW _ _ _ h1;cases hc:DD E r.1 with
   | none=>rw[GP hc] at h3;cases h3;exact hr
   | some p =>
    obtain⟨d,j,f⟩:=p;cases hbr:Cp (En d j).name t.branches with
    | none=>rw[IW hc hbr] at h3;cases h3;exact hr
    | some t'=>rw[IV hc hbr] at h3;exact h.tr hr (OC hW k t' _ _ _ _ h3)
  rw[Hn hk] at hq;cases hq;exact h.rf _
theorem V0 {d:CH}{g m:Tm}{a:List Tm}{s:σ}{q:Option Tm×σ}(hq:Ew E S d g a m s= .ok q):R s q.2:=by
 unfold Ew at hq;split at hq
 ·cases hq;exact h.rf _
 split at hq
 ·cases hq;exact h.rf _
 split at hq
 ·cases hq;exact h.rf _
 exact Jk h (fun t s' q e=>by cases e;exact h.rf _) hq
theorem fO {g b:Tm}{vs rest:List Tm}{s:σ}{q:Option Tm×σ}(hq:HM S g b vs rest s= .ok q):R s q.2:=by
 unfold HM at hq;split at hq
 ·cases hq;exact h.rf _
 split at hq
 ·cases hq
 exact Jk h (fun t s' q e=>by cases e;exact h.rf _) hq
theorem aO {d:CH}{g:Tm}{a:List Tm}{s:σ}{q:Option Tm×σ}(hq:Ep S d g a s= .ok q):R s q.2:=by
 unfold Ep at hq;split at hq
 ·cases hq;exact h.rf _
 exact Jk h (fun t s' q e=>by cases e;exact h.rf _) hq
theorem TB {W:σ→Tm→Out (Tm×σ)}(hW:∀s t q,W s t= .ok q→R s q.2) {n:Nat}{g:Tm}{a:List Tm}{s:σ}{q:Option Tm×σ}(hq:EU E S W n g a s= .ok q):R s q.2:=by
 unfold EU at hq;split at hq
 ·cases hq;exact h.rf _
 split at hq
 ·exact aO h hq
 split at hq
 ·unfold R0 at hq;split at hq
  ·cases hq;exact h.rf _
  obtain⟨r,h1,h2,h3⟩:=J7 hq;exact h.tr (hW _ _ _ h1) (V0 h h3)
 split at hq
 ·unfold JW at hq;split at hq
  ·cases hq;exact h.rf _
  obtain⟨r,h1,h2⟩:=Iy hq;have hr:=OC h hW _ _ _ _ _ _ h1;split at h2
  ·cases h2;exact hr
  split at h2
  ·cases h2;exact hr
  exact h.tr hr (fO h h2)
 cases hq;exact h.rf _
theorem R3:∀(n:Nat) (s:σ) (t:Tm) (q:Tm×σ),EA E S n s t= .ok q→R s q.2
 | 0,s,t,q,hq=>by rw[EA] at hq;cases hq
 | n+1,s,t,q,hq=>by
  have ih:=R3 n;rw[EA] at hq;split at hq
  ·cases hq
  split at hq
  ·cases hq;exact h.rf _
  split at hq
  ·cases hq
  split at hq
  ·split at hq
   ·cases hq;exact h.rf _
   unfold N0 at hq;split at hq
   ·cases hq
   exact Jk h (fun t s' q e=>ih _ _ _ e) hq
  split at hq
  ·unfold U2 at hq;split at hq
   ·exact Jk h (fun t s' q e=>ih _ _ _ e) hq
   cases hq
  split at hq
  ·split at hq
   ·cases hq
   obtain⟨r,h1,h2,h3⟩:=J7 hq;have hr:=ih _ _ _ h1;split at h3
   ·cases h3;exact hr
   unfold My at h3;split at h3
   ·cases h3
   exact h.tr hr (Jk h (fun t s' q e=>ih _ _ _ e) h3)
  split at hq
  ·obtain⟨r,h1,h2⟩:=Iy hq;have hr:=TB h ih h1;split at h2
   ·cases h2;exact hr
   exact h.tr hr (ih _ _ _ h2)
  cases hq;exact h.rf _
end
theorem KK:e7 B1 (fun a b=>b≤a∧(0≤a→0≤b)):=by
 refine⟨fun s=>⟨Int.le_refl _,fun h=>h⟩,fun h1 h2=>⟨by omega,fun h=>h2.2 (h1.2 h)⟩,fun h=>?_⟩;simp only[B1] at h;split at h
 ·cases h
 cases h;omega
theorem QV {E:List CH}{n:Nat}{s s':Int}{t r:Tm}(h:Gg s) (hq:EA E B1 n s t= .ok (r,s')):Gg s':=by
 have h1:=R3 KK n s t _ hq;have h2:=h.1;have h3:=h.2;exact⟨h1.2 h2,by have:=h1.1;simp only at this;omega⟩
def Lo (n:Int):Except Int Unit:=if n - 1<0 then .error 0 else .ok ()
def JZ (n:Int) (x:Tm×Int):Except Int (Tm×Int):=if n - 1<0∨x.2≠0 then .error 0 else .ok (x.1,n - 1)
theorem pY {n:Int}(h:0≤n - 1):Lo n= .ok ():=by rw[Lo,if_neg An]
theorem my {n:Int}(h:n - 1<0):Lo n= .error 0:=by rw[Lo,if_pos h]
end Go.Eu
namespace Go.Eu
theorem WJ {t:Tm}{vs:List Tm}(ht:okB t=true) (hv:∀v∈vs,okB v=true) (hl:vs.length<549755813888):Fy t vs 0=CJ t vs 0 :=
 ZX (Yn hv hl) (CM.1 ht).wt (CM.1 ht).vp (by have:=Fk ht;omega)
theorem eY {n e:Int}{x:Tm×Int}(h:Lo n= .error e):JZ n x= .error e:=by
 unfold Lo at h;split at h
 ·rename_i hn;cases h;rw[JZ,if_pos (.inl hn)]
 cases h
theorem m7 {n:Int}{t:Tm}{vs:List Tm}(hn:0≤n) (ht:okB t=true) (hv:∀v∈vs,okB v=true) (hl:vs.length<549755813888) (he:(Fy t vs 0).2≠0):JZ n (CJ t vs 0)= .error 0:=by
 rw[WJ ht hv hl] at he;rw[JZ,if_pos (.inr he)]
theorem np {n:Int}{t:Tm}{vs:List Tm}{u:Unit}(hn:Lo n= .ok u) (ht:okB t=true) (hv:∀v∈vs,okB v=true) (hl:vs.length<549755813888) (he:(Fy t vs 0).2=0):JZ n (CJ t vs 0)= .ok ((Fy t vs 0).1,n - 1):=by
 rw[WJ ht hv hl] at he ⊢;unfold Lo at hn;split at hn
 ·cases hn
 rw[JZ,if_neg An]
end Go.Eu
namespace Go.Eu
open Go.Abs
section
variable {α:Type}{n n2 e:Int}{x:Tm×Int}{z t:Tm}{k:Tm→Int→Out α}{u:Unit}
theorem KC (hs:B1.put n x k≠ .stuck) (h:JZ n x= .ok (z,n2)):B1.put n x k=k z n2:=by
 rw[(Yt hs).2];unfold JZ at h;split at h
 ·cases h
 rename_i hn;cases h;rw[if_neg hn]
theorem KD (hs:B1.put n x k≠ .stuck) (h:JZ n x= .error e):(B1.put n x k).ex= .error e:=by
 rw[(Yt hs).2];unfold JZ at h;split at h
 ·rename_i hn;cases h;rw[if_pos hn];rfl
 cases h
theorem nc (h:Lo n= .ok u):JZ n (t,0)= .ok (t,n - 1):=by
 unfold Lo at h;split at h
 ·cases h
 rw[JZ,if_neg An]
theorem df (hs:B1.put n (t,0) k≠ .stuck) (h:Lo n= .ok u):B1.put n (t,0) k=k t (n - 1):=KC hs (nc h)
theorem eW (hs:B1.put n (t,0) k≠ .stuck) (h:Lo n= .error e):(B1.put n (t,0) k).ex= .error e:=KD hs (eY h)
end
theorem Q8 {n n2:Int}{x:Tm×Int}{z:Tm}(h:Gg n) (hp:JZ n x= .ok (z,n2)):Gg n2∧z=x.1:=by
 have h1:=h.1;have h2:=h.2;unfold JZ at hp;split at hp
 ·cases hp
 cases hp;exact⟨⟨by omega,by omega⟩,rfl⟩
section
variable {E:List CH}{g m:Tm}{a:List Tm}{s e:Int}{d:CH}{u:Unit}
theorem fA (hs:Ep B1 d g a s≠ .stuck) (he:(Bn d.value g.levels).2=0) (hn:Lo s= .ok u):Ep B1 d g a s= .ok (some (apply (Bn d.value g.levels).1 a),s - 1):=by
 rw[KL he] at hs ⊢;exact df hs hn
theorem eh (hs:Ep B1 d g a s≠ .stuck) (he:(Bn d.value g.levels).2=0) (hn:Lo s= .error e):(Ep B1 d g a s).ex= .error e:=by
 rw[KL he] at hs ⊢;exact eW hs hn
theorem jG {c:CH}{j:Int}{f:List Tm}{r:Tm}(hs:Ew E B1 d g a m s≠ .stuck) (hc:DD E m=some (c,j,f)) (hn:¬(c.name≠d.name∨j≥(d.recs.rules.length:Int))) (hr:d.recs.rules[j.toNat]?=some r) (he:(Bn r g.levels).2=0) (hk:Lo s= .ok u) :
  Ew E B1 d g a m s= .ok (some (apply (apply (apply (Bn r g.levels).1 (a.take (d.fixed+1+d.ctors.length).toNat)) f) (a.drop (CT d+1).toNat)),s - 1):=by
 rw[Mo hc hn hr he] at hs ⊢;exact df hs hk
theorem iZ {c:CH}{j:Int}{f:List Tm}{r:Tm}(hs:Ew E B1 d g a m s≠ .stuck) (hc:DD E m=some (c,j,f)) (hn:¬(c.name≠d.name∨j≥(d.recs.rules.length:Int))) (hr:d.recs.rules[j.toNat]?=some r) (he:(Bn r g.levels).2=0) (hk:Lo s= .error e) :
  (Ew E B1 d g a m s).ex= .error e:=by
 rw[Mo hc hn hr he] at hs ⊢;exact eW hs hk
end
theorem PO {E:List CH}{n k:Nat}{s s':Int}{t:Es}{vs:List Tm}{l:Tm}{q:Option (Tm×List Tm)×Tm}(h:Gg s) (hq:Dp E B1 (EA E B1 n) k t vs l s= .ok (q,s')):Gg s':=by
 have h1:=OC KK (fun s t q=>R3 KK n s t q) k t vs l s _ hq;have h2:=h.1;have h3:=h.2;exact⟨h1.2 h2,by have:=h1.1;simp only at this;omega⟩
theorem XC {E:List CH}{n:Nat}{s s':Int}{g:Tm}{a:List Tm}{q:Option Tm}(h:Gg s) (hq:EU E B1 (EA E B1 n) n g a s= .ok (q,s')):Gg s':=by
 have h1:=TB KK (fun s t q=>R3 KK n s t q) hq;have h2:=h.1;have h3:=h.2;exact⟨h1.2 h2,by have:=h1.1;simp only at this;omega⟩
end Go.Eu
namespace Go.Eu
theorem kG {l:List Tm}{x:Tm}(h:l[0]?=some x):l.take 1=[x]:=by
 cases l with
 | nil=>simp at h
 | cons a l=>simp at h;subst h;rfl
theorem ok_one {x:Tm}(h:okB x=true):∀v∈[x],okB v=true:=fun v hv=>by rw[List.mem_singleton.1 hv];exact h
theorem Jx {x:Tm}:[x].length<549755813888:=by simp
end Go.Eu
namespace Go.Proofs.YtboammbpdaoojaaGreat
open Go.Abs Go.Eu
theorem Y7:∀(fid:Nat) (caps:List AV),Bo Tryz.prog 159 [.fn (.func fid) [] caps] [] (dg (fun b=> .agg [.fn (.func 176) [] [.ptr b 0]]) [.fn (.func fid) [] caps]):=by
 intro fid caps;refine A5 Tryz.func159 O oY (n:=5) O O (Aw (BF O (BN O) fun b1=>BF O (A7 mf O) fun b2=>Bg O (Au Ay 3 [0,0] O (Az (⟨O,_,_,⟨_,_,O,(A9 (i:=0) mw O O O),O⟩,(B4 (is:=[1]) O),?_⟩)))));exact⟨_,O,O⟩
theorem Vt:∀(rep:Tm→Int→Except Int Tm) (fid:Nat) (caps:List AV) (T:List BI) (hr:∀(t:Tm) (d:Int),Nd t→Vp t→t.kind=0→0≤d→d<Dc→Bo Tryz.prog fid ([TV t,.p (I d)]++caps) T (Km (fun(r:Tm)=>TV r) (fun e=> .p (.iface 223 (I e))) (fun r H'=>H'=T) (rep t d))) (bR:Nat) (s:Unit) (t:Tm) (d:Int),Nd t→Vp t→0≤d→d<Dc→Bo Tryz.prog 176 [TV t,.p (I d),.ptr bR 0] (.box bR [.fn (.func fid) [] caps]::T) (Km (fun(r:(Tm×Bool)×Unit)=> .tup [TV r.1.1,.p (.bool r.1.2)]) (fun e=> .p (.iface 223 (I e))) (fun r H'=>H'= .box bR [.fn (.func fid) [] caps]::T) (KF rep s t d)):=by
 intro rep fid caps T hr bR s t d h1 h2 h3 h4;refine A5 Tryz.func176 O pQ (n:=16) O O (Aw (BF O (BN O) fun b3=>BF O (A7 Bw O) fun b5=>Ar Ay 1 [] O (As (Aw (Aq O (A0 HO O O) ?_)))));obtain⟨tk,ti,tn,tl,ts⟩:=t;refine Ar Ay 2 [1] O (Av O (fun c=>?_) (fun c=>?_))
 ·(try simp only[sd,se] at c);refine Aw (Ax Ay 3 [2,1] O (kA [_,_,_] O O O (.inr O) (hr (.mk tk ti tn tl ts) d h1 h2 c h3 h4) (DF _) ?_ ?_))
  rotate_left
  ·intro e _ he;exact⟨O,_,List.nil_sublist _,⟨_,Oj c he,O⟩⟩
  rintro z _ hz rfl;refine Ar Ay 2 [0,1] O (Az (⟨O,_,_,⟨_,_,O,(A9 (i:=0) BY O O Ag),⟨_,_,O,O,O⟩⟩,(Gy [2] [_,_,_] O),?_⟩));exact⟨⟨⟨z,true⟩,()⟩,MX c hz,O,O⟩
 (try simp only[sd,se] at c);refine A1 (Aw (Aq O (BT (i:=1) BY O O O) (Aq O (BC O O (RC (.mk tk ti tn tl ts:Tm) h1) O) (Ar Ay 2 [0,1] O (Az (⟨O,_,_,⟨_,_,O,(A9 (i:=0) BY O O Ag),⟨_,_,O,O,O⟩⟩,(Gy [2] [_,_,_] O),?_⟩))))));exact⟨⟨⟨.mk tk ti tn tl [],false⟩,()⟩,OS c,O,O⟩
theorem bO:∀(t:Tm) (d:Int) (bf bb:Nat) (fr b:Int),(Nd t)→(Vp t)→(t.kind=0)→(0≤d)→(d<Dc)→(-4611686018427387904≤b∧b≤4611686018427387904)→(-2305843009213693952≤fr∧fr≤2305843009213693952)→Bo Tryz.prog 177 [.agg ((BO t).map .p),.p (I d),.ptr bf 0,.ptr bb 0] [.box bf [.p (I fr)],.box bb [.p (I b)]] (Km (fun(r:Tm)=>TV r) (fun e=> .p (.iface 223 (I e))) (fun r H'=>H'=[.box bf [.p (I fr)],.box bb [.p (I b)]]) (YV b fr t d)):=by
 intro t d bf bb fr b h1 h2 h3 h4 h5 h6 h7;obtain⟨tk,ti,tn,tl,ts⟩:=t;have hi:=h2.1 h3;simp only[Dc] at h5;refine A5 Tryz.func177 O pt (n:=32) O O (Aw (BF O (BN O) fun b4=>BF O (A7 Bw O) fun b6=>Bg O (Au Ay 5 [1] O (As (Au Ay 3 [2] O (Av O (fun c=>?_) (fun c=>?_)))))))
 ·(try simp only[sd,se] at c);refine Aw (Aq O (BT (i:=1) BY O O O) (Aq O (BC O O (RC (.mk tk ti tn tl ts:Tm) h1) O) (Ar Ay 1 [0,1] O (Az (⟨O,_,_,⟨_,_,O,(A9 (i:=0) BY O O Ag),O⟩,(B4 (is:=[2,3]) O),?_⟩)))));exact⟨(.mk tk ti tn tl []),Yk c,O,O⟩
 (try simp only[sd,se] at c);refine A1 (As (As (BS [3,4,6] 25 (fun y=>y= .p (.bool ((decide ((b:Int)<(0:Int)))&&(decide (((ti:Int) - (d:Int):Int)<((fr:Int) - (b:Int):Int)))))) ?_ ?_)))
 ·refine A2 (Ax Ay 3 [3] O (BL 19 O (fun g=>?_) (fun g=>?_)))
  ·(try simp only[sd,se] at g);exact Ar Ay 6 [2,3] O (⟨O,O,AK,AI,⟨O,O,O,Ap⟩⟩)
  (try simp only[sd,se] at g);exact Ar Ay 6 [] O (⟨O,O,AK,AI,⟨O,O,O,Ap⟩⟩)
 rintro _ rfl;refine Av O (fun c1=>?_) (fun c1=>?_)
 ·(try simp only[sd,se] at c1);exact A2 (Oz O O O (.inl ⟨O,O,O⟩) (Qh 24) (aw (we O) (Eo)) (⟨O,_,List.nil_sublist _,⟨_,iG An An An,O⟩⟩))
 (try simp only[sd,se] at c1);refine A1 (Aw (Ax Ay 4 [1,3] O (De [] O O O (.inl ⟨O,O,O⟩) (WN ((ti:Int)+(b:Int))) O Am (aw (we O) (Eo)) (fun _ _ h=>(congrArg List.length h).trans O) ?_ ?_)))
 rotate_left
 ·intro e _ he;exact⟨O,_,List.nil_sublist _,⟨_,by rw[W0 An An,he],rfl⟩⟩
 rintro z _ hz rfl;refine Ar Ay 1 [0,1] O (Az (⟨O,_,_,⟨_,_,O,(A9 (i:=0) BY O O Ag),O⟩,(B4 (is:=[2,3]) O),?_⟩));exact⟨z,by rw[W0 An An,hz],rfl,rfl⟩
theorem _root_.Go.AN {α:Prop}(h:α:=by repeat' first | exact trivial | rfl | refine And.intro ?_ ?_):α:=h
theorem XQ:∀(t:Tm) (b fr:Int),(Nd t)→(Vp t)→(size t<Dc)→(-4611686018427387904≤b∧b≤4611686018427387904)→(-2305843009213693952≤fr∧fr≤2305843009213693952)→Bo Tryz.prog 161 [.agg ((BO t).map .p),.p (I b),.p (I fr)] [] (Km (fun(r:Tm)=>TV r) (fun e=> .p (.iface 223 (I e))) (fun r H'=>H'=[]) (Ky b fr t)):=by
 intro t b fr h1 h2 h3 h4 h5;refine A5 Tryz.func161 O nO (n:=11) O O (Aw (BF O (BN O) fun b3=>BF O (BN O) fun b4=>BF O (BN O) fun b5=>BF O (A7 Bw O) fun b6=>Bg O (As (Bt (fun k=>Nat.beq k 1||Nat.beq k 3) Dn (BG O (fun _=>Ei O O) Ap (Ym [(2,.read [.box b3 ((BO t).map .p)] (.agg ((BO t).map .p)))] O O O (.inl ⟨O,O,O⟩) (Y7 177 [.ptr b5 0,.ptr b4 0]) (.inl O) Aj fun bn=>⟨AB,Ap,?_⟩))))));refine BP Ay 1 [4] O ?_;refine Pc [0,2,3] O O O (.inl ⟨O,O,O⟩) (Oq (KF (YV b fr)) (fun _ T=>T=[.box bn [.fn (.func 177) [] [.ptr b5 0,.ptr b4 0]],.box b5 [.p (I fr)],.box b4 [.p (I b)]]) 176 [.ptr bn 0] (fun s t d T hn hp h0 hb hT=>by subst hT;exact Vt (YV b fr) 177 [.ptr b5 0,.ptr b4 0] _ (fun t d g1 g2 g3 g4 g5=>bO t d b5 b4 fr b g1 g2 g3 g4 g5 h4 h5) bn s t d hn hp h0 hb) _ t 0 () _ (Nat.le_refl _) h1 h2 An An rfl) ⟨_,_,rfl,rfl,⟨_,_,rfl,rfl,⟨_,_,rfl,rfl,rfl⟩⟩⟩ Am (DF _) (fun _ _ h=>(congrArg List.length h).trans rfl) Aj Aj rfl AB ?_ ?_
 rotate_left
 ·intro e he _ _ hτ;exact⟨O,_,List.nil_sublist _,⟨_,Pl he,O⟩⟩
 rintro⟨z,_⟩ _ hz rfl;refine⟨AB,AN,?_⟩;refine Bj Ay 1 [1,1] O (Az (⟨O,_,_,⟨_,_,O,(A9 (i:=1) BY O O Ag),O⟩,(List.nil_sublist _),?_⟩));exact⟨z,Q4 hz,O,O⟩
theorem TH:∀(bo be:Nat) (co ce:List AV),Eb Tryz.prog 153 [.ptr bo 0,.ptr be 0] (.ret) [.box bo co,.box be ce] (fun H'=>H'=[.box bo co,.box be ce]):=by
 intro bo be co ce;refine H9 (ty2:=0) Tryz.func153 O kC (n:=9) O O O O O O (Aw (Bq O (Aq O (HL ah O O O) (Bg O ?_))));refine Av O (fun c=>by cases c) (fun c=>?_);exact A1 ⟨.inl O,O,_,(B4 (is:=[0,1]) O),O⟩
theorem Sn:∀(bo be:Nat) (e:Int),Eb Tryz.prog 153 [.ptr bo 0,.ptr be 0] (.pan (.p (.iface 223 (I e)))) [.box bo [.p (I 0),.p (I 0),.p (.str ⟨#[]⟩),.p (.nils),.p (.nils)],.box be [.p (I 0)]] (fun H'=>H'=[.box bo [.p (I 0),.p (I 0),.p (.str ⟨#[]⟩),.p (.lst []),.p (.lst [])],.box be [.p (I e)]]):=by
 intro bo be e;refine H9 (ty2:=0) Tryz.func153 O kC (n:=9) O O O O O O (Aw (Bq O (Aq O (HL ah O O O) (B2 (BR (i:=0) O) (Bg O ?_)))));refine Av O (fun c=>?_) (fun c=>by cases c);exact A2 (Ax Ay 2 [] O (Aq O (BC O O (TG _) O) (Ax Ay 2 [0,0,1,0] O (B2 (BR (i:=0) O) (Bg O ⟨.inl O,O,_,(B4 (is:=[0,1]) O),O⟩)))))
theorem T3:∀(t:Tm) (d:Int) (bd bv:Nat) (dp:Int) (vs:List Tm),Bo Tryz.prog 155 [.agg ((BO t).map .p),.p (I d),.ptr bd 0,.ptr bv 0] [.box bd [.p (I dp)],.box bv [.p (.lst (BE vs))]] (GU (.p (I (Jb vs dp t.index d))) [.box bd [.p (I dp)],.box bv [.p (.lst (BE vs))]]):=by
 intro t d bd bv dp vs;obtain⟨tk,ti,tn,tl,ts⟩:=t;refine A5 Tryz.func155 O ng (n:=23) O O (Aw (BF O (BN O) fun b4=>Ar Ay 1 [] O (As (Aw (Ax Ay 3 [0] O (Aq O (JS O O) (Aq O (B5 (i:=1) DN O O O) (Aq O (JS O O) (Ar Ay 1 [] O (As (BS [7] 21 (fun y=>y= .p (.bool ((decide ((wr ((wr ((ti:Int) - (d:Int)):Int) - (dp:Int)):Int)≥(0:Int)))&&(decide ((wr ((wr ((ti:Int) - (d:Int)):Int) - (dp:Int)):Int)<((vs.length:Nat):Int)))))) ?_ ?_)))))))))))
 ·refine A2 (Ax Ay 3 [] O (BL 16 O (fun g=>?_) (fun g=>?_)))
  ·(try simp only[sd,se] at g);exact Ax Ay 2 [2] O (BB O (BK Be O (BQ _)) (Ar Ay 2 [] O (⟨O,O,AK,AI,⟨O,Ap⟩⟩)))
  (try simp only[sd,se] at g);exact Ar Ay 5 [] O (⟨O,O,AK,AI,⟨O,Ap⟩⟩)
 rintro _ rfl;refine Av O (fun c=>?_) (fun c=>?_)
 ·(try simp only[sd,se] at c);refine Au Ay 2 [] O (Az (⟨O,_,_,⟨_,_,O,O,O⟩,(B4 (is:=[1,2]) O),?_⟩))
  all_goals exact⟨pI (eg An An).symm,rfl⟩
 (try simp only[sd,se] at c);refine A1 (Au Ay 1 [] O (Az (⟨O,_,_,⟨_,_,O,O,O⟩,(B4 (is:=[1,2]) O),?_⟩)))
 all_goals exact⟨pI (hP (ti:=ti) An).symm,rfl⟩
theorem aa:∀(t:Tm) (d:Int) (bv bc bs bd bvs cb:Nat) (dp n:Int) (vs:List Tm) (sz:List Int),(sz.length=vs.length)→Bo Tryz.prog 156 [.agg ((BO t).map .p),.p (I d),.ptr bv 0,.ptr bc 0,.ptr bs 0] [.box bv [.fn (.func 155) [] [.ptr bd 0,.ptr bvs 0]],.box bc [.ptr cb 0],.box bs [.p (.lst (List.map Gl sz))],.box bd [.p (I dp)],.box bvs [.p (.lst (BE vs))],.box cb [.p (I n)]] (Km (fun(r:(Tm×Bool)×Int)=> .tup [TV r.1.1,.p (.bool r.1.2)]) (fun e=> .p (.iface 223 (I e))) (fun r H'=>H'=[.box bv [.fn (.func 155) [] [.ptr bd 0,.ptr bvs 0]],.box bc [.ptr cb 0],.box bs [.p (.lst (List.map Gl sz))],.box bd [.p (I dp)],.box bvs [.p (.lst (BE vs))],.box cb [.p (I r.2)]]) (Ry vs sz dp n t d)):=by
 intro t d bv bc bs bd bvs cb dp n vs sz h1;obtain⟨tk,ti,tn,tl,ts⟩:=t;refine A5 Tryz.func156 O m9 (n:=33) O O (Aw (BF O (BN O) fun b5=>BF O (A7 Bw O) fun b7=>Ar Ay 1 [] O (As (Aw (Ax Ay 3 [2,1] O (Aq O (B9 [5,6] O (.inr O) (T3 (.mk tk ti tn tl ts:Tm) d bd bvs dp vs) ⟨_,_,O,O,⟨_,_,O,O,O⟩⟩ Am O (.inl O)) (Ar Ay 1 [] O (As (BS [3,4,5,7,9] 20 (fun y=>y= .p (.bool (((tk:Int)==(0:Int))&&(decide ((Jb vs dp (.mk tk ti tn tl ts:Tm).index d:Int)≥(0:Int)))))) ?_ ?_)))))))))
 ·refine A2 (Ax Ay 4 [1] O (BL 17 O (fun g=>?_) (fun g=>?_)))
  ·(try simp only[sd,se] at g);exact Ar Ay 3 [] O (⟨O,O,AK,AI,⟨O,O,O,O,O,Ap⟩⟩)
  (try simp only[sd,se] at g);exact Ar Ay 3 [] O (⟨O,O,AK,AI,⟨O,O,O,O,O,Ap⟩⟩)
 rintro _ rfl;refine Av O (fun c=>?_) (fun c=>?_)
 ·(try simp only[sd,se] at c);have hvl:=UZ (vs:=vs) (dp:=dp) (ti:=(Tm.mk tk ti tn tl ts).index) (d:=d) c.2;refine Bt (fun k=>Nat.beq k 5) Dn (BP Ay 3 [3,4] O ?_);obtain⟨x,hx⟩:=A6 (l:=sz) (i:=(Jb vs dp (.mk tk ti tn tl ts:Tm).index d:Int).toNat) An;refine BG O (fun _=>A4 Hh O O An (Lv hx) (O)) Ap (BG O (fun _=>E8 DN O) Ap (Pc [7] O O O (.inl ⟨O,O,O⟩) (fN cb n x) ⟨_,_,O,O,O⟩ Am (aw (we O) (aw (we O) (Eo))) (fun _ _ h=>(congrArg List.length h).trans O) Aj Aj O AB ?_ ?_))
  rotate_left
  ·intro e he _ _ hτ;exact⟨O,_,List.nil_sublist _,⟨_,Ol (RY c hx) he,O⟩⟩
  rintro r _ hz rfl;refine⟨AB,Ap,?_⟩;refine JJ O Aj (As (Bt (fun k=>false) Dn (Bj Ay 6 [1,0,0] O (BH (BR (i:=0) O) (Az (⟨O,_,_,⟨_,_,O,(A9 (i:=0) BY O O O),⟨_,_,O,O,O⟩⟩,(B4 (is:=[2,3,4,5,6,7]) O),?_⟩))))));exact⟨⟨⟨Bc,decide (tk=0)⟩,r⟩,QX (RY c hx) hz,O,O⟩
 (try simp only[sd,se] at c);refine A2 (Aq O (B5 (i:=3) nT O O O) (De [7] O O O (.inl ⟨O,O,O⟩) (fN cb n 1) ⟨_,_,O,O,O⟩ Am (aw (we O) (aw (we O) (Eo))) (fun _ _ h=>(congrArg List.length h).trans O) ?_ ?_))
 rotate_left
 ·intro e _ he;exact⟨O,_,List.nil_sublist _,⟨_,Ol (QZ (by simp_all [Tm.index])) he,O⟩⟩
 rintro r _ hz rfl;refine Bg O (As (Bt (fun k=>false) Dn (Bj Ay 6 [1,0,0] O (BH (BR (i:=0) O) (Az (⟨O,_,_,⟨_,_,O,(A9 (i:=0) BY O O O),⟨_,_,O,O,O⟩⟩,(B4 (is:=[2,3,4,5,6,7]) O),?_⟩))))));exact⟨⟨⟨Bc,decide (tk=0)⟩,r⟩,QX (QZ (by simp_all [Tm.index])) hz,O,O⟩
theorem Z6:∀(t:Tm) (d:Int) (bv bvs bd:Nat) (dp:Int) (vs:List Tm),(Nd t)→(Vp t)→(t.kind=0)→(0≤d)→(d<Dc)→(MJ vs)→(Sy vs)→(∀v∈vs,size v<Dc)→(0≤dp∧dp≤65536)→(vs.length<Dc)→Bo Tryz.prog 160 [.agg ((BO t).map .p),.p (I d),.ptr bv 0,.ptr bvs 0,.ptr bd 0] [.box bv [.fn (.func 155) [] [.ptr bd 0,.ptr bvs 0]],.box bvs [.p (.lst (BE vs))],.box bd [.p (I dp)]] (Km (fun(r:Tm)=>TV r) (fun e=> .p (.iface 223 (I e))) (fun r H'=>H'=[.box bv [.fn (.func 155) [] [.ptr bd 0,.ptr bvs 0]],.box bvs [.p (.lst (BE vs))],.box bd [.p (I dp)]]) (LJ vs dp t d)):=by
 intro t d bv bvs bd dp vs h1 h2 h3 h4 h5 h6 h7 h8 h9 h10;obtain⟨tk,ti,tn,tl,ts⟩:=t;have hti:=h2.1 h3;simp only[Dc] at h5;have hw:wr (dp+d)=dp+d:=EY (by unfold Iz;omega);refine A5 Tryz.func160 O pR (n:=37) O O (Aw (BF O (BN O) fun b5=>BF O (A7 Bw O) fun b7=>Bg O (As (Aw (Ax Ay 3 [2,1] O (Aq O (B9 [4,3] O (.inr O) (T3 (.mk tk ti tn tl ts:Tm) d bd bvs dp vs) ⟨_,_,O,O,⟨_,_,O,O,O⟩⟩ Am O (.inl O)) (Ar Ay 1 [] O (Au Ay 2 [] O (Av O (fun c=>?_) (fun c=>?_))))))))))
 ·(try simp only[sd,se] at c);have hvl:=UZ (vs:=vs) (dp:=dp) (ti:=(Tm.mk tk ti tn tl ts).index) (d:=d) c;refine As (Bt (fun k=>Nat.beq k 7) Dn (BP Ay 2 [3] O ?_));obtain⟨x,hx⟩:=A6 (l:=vs) (i:=(Jb vs dp (.mk tk ti tn tl ts:Tm).index d:Int).toNat) An;refine BG O (fun _=>A4 Be O O An (Bd hx) (BD _)) Ap (BP Ay 3 [4] O (BG O (fun _=>EC O O) Ap (Pc [] O O O (.inl ⟨O,O,O⟩) (XQ x (wr ((dp:Int)+(d:Int))) 0 (DQ h6 hx) (Ml h7 hx) (h8 x (List.mem_of_getElem? hx)) (by rw[hw];omega) An) O Am (aw (we O) (aw (we O) (aw (we O) (Eo)))) (fun _ _ h=>(congrArg List.length h).trans O) Aj Aj O AB ?_ ?_)))
  rotate_left
  ·intro e he _ _ hτ;exact⟨O,_,List.nil_sublist _,⟨_,(Rk (i:=ti) c hx).trans he,O⟩⟩
  rintro z _ hz rfl;refine⟨AB,Ap,?_⟩;refine Bj Ay 1 [0,1] O (Az (⟨O,_,_,⟨_,_,O,(A9 (i:=0) BY O O Ag),O⟩,(B4 (is:=[2,3,4]) O),?_⟩));exact⟨z,(Rk (i:=ti) c hx).trans hz,O,O⟩
 (try simp only[sd,se] at c);refine A1 (As (Aw (Ax Ay 3 [1] O (Aq O (JS O O) (Ar Ay 2 [4] O (Av O (fun c1=>?_) (fun c1=>?_)))))))
 ·(try simp only[sd,se] at c1);refine Aw (Aq O (BT (i:=1) BY O O O) (Aq O (BC O O (RC (.mk tk ti tn tl ts:Tm) h1) O) (Ar Ay 1 [0,1] O (Az (⟨O,_,_,⟨_,_,O,(A9 (i:=0) BY O O Ag),O⟩,(B4 (is:=[2,3,4]) O),?_⟩)))));exact⟨(.mk tk ti tn tl []),VJ (by simpa [Tm.index] using c) An,O,O⟩
 (try simp only[sd,se] at c1);refine A1 (Aw (Ax Ay 3 [1,3] O (Aq O (BK Be O (BQ _)) (Aq O (JS O O) (De [] O O O (.inl ⟨O,O,O⟩) (WN (wr ((ti:Int) - ((vs.length:Nat):Int)))) O Am (aw (we O) (Eo)) (fun _ _ h=>(congrArg List.length h).trans O) ?_ ?_)))))
 rotate_left
 ·intro e _ he;exact⟨O,_,List.nil_sublist _,⟨_,by rw[Uj (by simpa [Tm.index] using c) An,he],rfl⟩⟩
 rintro z _ hz rfl;refine Ar Ay 1 [0,1] O (Az (⟨O,_,_,⟨_,_,O,(A9 (i:=0) BY O O Ag),O⟩,(B4 (is:=[2,3,4]) O),?_⟩));exact⟨z,by rw[Uj (by simpa [Tm.index] using c) An,hz],rfl,rfl⟩
theorem _root_.Go.AG {α:Prop}(h:α:=by simp only[List.length_append,List.length_map,List.length_take,List.length_replicate];omega):α:=h
set_option maxHeartbeats 2000000 in
theorem Zc:∀(t:Tm) (vs:List Tm) (dp:Int),(Nd t)→(Vp t)→(size t<1099511627776)→(MJ vs)→(Sy vs)→(∀v∈vs,size v<Dc)→(0≤dp∧dp≤65536)→(vs.length<Dc)→EZ Tryz.prog 137 [.agg ((BO t).map .p),.p (.lst (BE vs)),.p (I dp)] (.tup [.agg ((BO ((Fy t vs dp).1)).map .p),.p (I ((Fy t vs dp).2))]):=by
 intro t vs dp h1 h2 h3 h4 h5 h6 h7 h8;have h8b:=h8;simp only[Dc] at h8b;refine FL Tryz.func137 O oL (n:=49) O O (Aw (BF O (BN O) fun b3=>BF O (BN O) fun b4=>BF O (BN O) fun b5=>BF O (A7 Bw O) fun b6=>BF O (A7 cP O) fun b7=>Bg O (As (Au Ay 2 [2] O (Av O (fun c=>?_) (fun c=>?_))))))
 ·(try simp only[sd,se] at c);exact absurd c An
 (try simp only[sd,se] at c);refine A1 (Aw (Aq O (Ei O O) (Ny O O O O (Bg O (Aw (Aq O (Ei O O) (BF O (A7 p9 O) fun b8=>Ar Ay 1 [0,0] O (Aw (Aq O (B5 (i:=4) Gj O O O) (Aq O (BK Be O (BQ _)) (R4 O O (Lj Hh jJ O O Am O O O An An An (lK (f:=Gl) (((vs.length:Nat):Int).toNat) 0)) fun b20 cp=>BF O (A7 pd O) fun b9=>Ar Ay 1 [0,0] O (As (Aw (Aq O (B5 (i:=6) Gj O O O) (Aq O (BK Be O (BQ _)) (Ar Ay 1 [] O (A8 ?_)))))))))))))))));refine Bb (α:=Nat×Option Nat×Nat) (fun(i,o,cp1)=>⟨49,mk [(3,.ptr b3 0),(4,.ptr b4 0),(5,.ptr b5 0),(6,.ptr b6 0),(7,.ptr b7 0),(8,.ptr b8 0),(9,.ptr b9 0),(21,.p (.lst (BE vs))),(22,.p (I (vs.length:Nat))),(23,.p (I (i:Int)))],[.box b9 [.vs o (List.map Gl (((vs.take i).map fun v=>(size v:Int))++List.replicate (vs.length - i) 0)).length cp1],.vec o 1 (List.map Gl (((vs.take i).map fun v=>(size v:Int))++List.replicate (vs.length - i) 0)) cp1,.box b8 [.fn (.func 155) [] [.ptr b5 0,.ptr b4 0]],.box b7 [.p (I 0)],.box b6 [.p (I 0),.p (I 0),.p (.str ⟨#[]⟩),.p (.nils),.p (.nils)],.box b5 [.p (I dp)],.box b4 [.p (.lst (BE vs))],.box b3 ((BO t).map .p)],[.clo (.func 153) [.ptr b6 0,.ptr b7 0]]⟩) (fun(i,o,cp1)=>vs.length - i) (fun(i,o,cp1)=>i≤vs.length) ⟨0,(some b20),cp⟩ AP ?_ ?_
 ·exact BU ⟨we O,we O,we O,we O,we O,we O,we O,we O,we O,we O,Ap⟩ (leH (is:=[0,1,2,3,4,5,6,7]) O (wl (YA (aw (we (F5 (f:=Gl) (List.replicate (((vs.length:Nat):Int).toNat) 0) Ao)) (Eo))) (wl (FJ (f:=Gl) (List.replicate (((vs.length:Nat):Int).toNat) 0) Ao) (wl (oe O) (wl (oe O) (wl (oe O) (wl (oe O) (wl (oe O) (wl (oe O) (C3))))))))))
 rintro⟨i,o,cp1⟩ hC
 try simp only at hC
 have hi:=hC;refine Au Ay 1 [] O (As (Av O (fun c1=>?_) (fun c1=>?_)))
 ·(try simp only[sd,se] at c1);refine A1 (As (A8 (Aw (Bq O ?_))));obtain⟨x,hx⟩:=A6 (l:=vs) (i:=i) An;refine Aq O (A4 Be O O An (Bd hx) (BD _)) (Aq O (BM BY O (BD _)) (BF O (A7 Bw O) fun b11=>Ar Ay 2 [0,1] O (Lp (i:=2) O AY fun b hb=>?_)));subst hb;refine Bt (fun k=>false) Dn (BP Ay 3 [1,0] O (BG O (fun _=>BC O O (ZC x (DQ h4 hx) (by have:=h6 x (List.mem_of_getElem? hx);simp only[Dc] at this;omega)) O) Ap (BG O (fun _=>Cv Hh O O An AG) Ap (F9 O O (EJ (i:=2) (j:=i) DN O O O AG O O O O (eV (f:=Gl) (((vs.take i).map fun v=>(size v:Int))++List.replicate (vs.length - i) 0) i (size x:Nat))) AB Ap (JJ O Aj (A2 (Ar Ay 2 [] O ?_)))))));refine⟨⟨i+1,(some b),cp1⟩,AT,by omega,BU ⟨we rfl,we rfl,we rfl,we rfl,we rfl,we rfl,we rfl,we rfl,we rfl,we rfl,trivial⟩ (leH (is:=[1,2,3,4,5,6,7,8]) rfl (wl (YA (aw (we (Sl (f:=Gl) (((vs.take i).map fun v=>(size v:Int))++List.replicate (vs.length - i) 0) Ai)) (Eo))) (wl (FJ (f:=Gl) ((((vs.take i).map fun v=>(size v:Int))++List.replicate (vs.length - i) 0).set i (size x:Nat)) (lQ hx)) (wl (oe rfl) (wl (oe rfl) (wl (oe rfl) (wl (oe rfl) (wl (oe rfl) (wl (oe rfl) (C3))))))))))⟩
 (try simp only[sd,se] at c1);refine Bf (Aw ?_);rw[pc (vs:=vs) (i:=i) An];refine B2 (DM (i:=1) (j:=0) (q:=0) [] O O O (Dx Ap)) (Aq O (CP pF nu O) (BF O (BN O) fun b35=>BF O (A7 pE O) fun b12=>Ar Ay 1 [0,0] O (Aw (Ax Ay 3 [8] O ?_))));refine De [3,0,2,6,7,1] O O O (.inl ⟨O,O,O⟩) (Oq (Ry vs (vs.map fun v=>(size v:Int)) dp) (fun n T=>T=[.box b8 [.fn (.func 155) [] [.ptr b5 0,.ptr b4 0]],.box b12 [.ptr b35 0],.box b9 [.p (.lst (List.map Gl (vs.map fun v=>(size v:Int))))],.box b5 [.p (I dp)],.box b4 [.p (.lst (BE vs))],.box b35 [.p (I n)]]) 156 [.ptr b8 0,.ptr b12 0,.ptr b9 0] (fun n t d T hn hp h0 hb hT=>by subst hT;exact aa t d b8 b12 b9 b5 b4 b35 dp n vs (vs.map fun v=>(size v:Int)) Ao) _ t 0 0 _ (Nat.le_refl _) h1 h2 An AZ rfl) ⟨_,_,rfl,rfl,⟨_,_,rfl,rfl,⟨_,_,rfl,rfl,⟨_,_,rfl,rfl,⟨_,_,rfl,rfl,⟨_,_,rfl,rfl,rfl⟩⟩⟩⟩⟩⟩ Am (DF _) (fun _ _ h=>(congrArg List.length h).trans rfl) ?_ ?_
 rotate_left
 ·intro e _ he;refine⟨_,_,_,O,MS (is:=[1,0]) _ Am ⟨_,_,O,O,⟨_,_,O,O,O⟩⟩,Eb.eq (Sn b6 b7 _) ?_⟩;refine⟨_,[],⟨_,_,O,(A9 (i:=0) BY O O O),⟨_,_,O,(Gr (i:=1) Sf O O),O⟩⟩,(List.nil_sublist _),?_⟩;rw[I0 (Pu he)];exact⟨O,O⟩
 rintro⟨z,n1⟩ _ hz rfl;refine Bg O (As (Bt (fun k=>Nat.beq k 1||Nat.beq k 3) Dn (BG O (fun _=>Ei O O) Ap (Ym [(2,.read [.box b3 ((BO t).map .p)] (.agg ((BO t).map .p)))] O O O (.inl ⟨O,O,O⟩) (Y7 160 [.ptr b8 0,.ptr b4 0,.ptr b5 0]) (.inl O) Aj fun bn=>⟨AB,Ap,?_⟩))));refine BP Ay 1 [9] O ?_;refine Pc [0,4,8,7] O O O (.inl ⟨O,O,O⟩) (Oq (KF (LJ vs dp)) (fun _ T=>T=[.box bn [.fn (.func 160) [] [.ptr b8 0,.ptr b4 0,.ptr b5 0]],.box b8 [.fn (.func 155) [] [.ptr b5 0,.ptr b4 0]],.box b4 [.p (.lst (BE vs))],.box b5 [.p (I dp)]]) 176 [.ptr bn 0] (fun s t d T hn hp h0 hb hT=>by subst hT;exact Vt (LJ vs dp) 160 [.ptr b8 0,.ptr b4 0,.ptr b5 0] [.box b8 [.fn (.func 155) [] [.ptr b5 0,.ptr b4 0]],.box b4 [.p (.lst (BE vs))],.box b5 [.p (I dp)]] (fun t d g1 g2 g3 g4 g5=>Z6 t d b8 b4 b5 dp vs g1 g2 g3 g4 g5 h4 h5 h6 h7 h8) bn s t d hn hp h0 hb) _ t 0 () _ (Nat.le_refl _) h1 h2 An AZ rfl) ⟨_,_,rfl,rfl,⟨_,_,rfl,rfl,⟨_,_,rfl,rfl,⟨_,_,rfl,rfl,rfl⟩⟩⟩⟩ Am (DF _) (fun _ _ h=>(congrArg List.length h).trans rfl) Aj Aj rfl AB ?_ ?_
 rotate_left
 ·intro e he _ _ hτ;refine⟨_,_,_,O,MS (is:=[4,3]) _ Am ⟨_,_,O,O,⟨_,_,O,O,O⟩⟩,Eb.eq (Sn b6 b7 _) ?_⟩;refine⟨_,[],⟨_,_,O,(A9 (i:=0) BY (hτ 6 (SG Aj)) O O),⟨_,_,O,(Gr (i:=1) Sf (hτ 7 (SG Aj)) O),O⟩⟩,(List.nil_sublist _),?_⟩;rw[I0 (P5 hz he)];exact⟨O,O⟩
 rintro⟨z1,_⟩ _ hz1 rfl;refine⟨AB,AN,?_⟩;refine Bj Ay 1 [6,1] O (As (Aw (Aq O (BT (i:=6) BY O O Ag) (Aq O (BC O O (Wj _ z1 (Nat.le_refl _) (jf h4 h5 h1 h2 hz1)) O) (Ar Ay 1 [] O (Av O (fun c2=>?_) (fun c2=>?_)))))))
 ·(try simp only[sd,se] at c2);refine Aw (Aq O (CP HO Bw O) ?_);obtain⟨z1k,z1i,z1n,z1l,z1s⟩:=z1;refine Ar Ay 2 [6,0,5,0] O (BH (BR (i:=6) O) (Az (⟨_,_,_,O,DT (is:=[6,5]) Am ⟨_,_,O,O,⟨_,_,O,O,O⟩⟩,Eb.eq (TH b6 b7 _ _) ?_⟩)));refine⟨_,_,⟨_,_,O,(A9 (i:=0) BY O O O),⟨_,_,O,(Gr (i:=1) Sf O O),O⟩⟩,(List.nil_sublist _),?_⟩;rw[P0 (Mn hz hz1) An]
  all_goals exact⟨rfl,rfl⟩
 (try simp only[sd,se] at c2);refine A1 (Au Ay 3 [6,6,1,5,0] O (Az (⟨_,_,_,O,DT (is:=[6,5]) Am ⟨_,_,O,O,⟨_,_,O,O,O⟩⟩,Eb.eq (TH b6 b7 _ _) ?_⟩)));refine⟨_,_,⟨_,_,O,(A9 (i:=0) BY O O Ag),⟨_,_,O,(Gr (i:=1) Sf O O),O⟩⟩,(List.nil_sublist _),?_⟩;rw[TR (Mn hz hz1) An]
 all_goals exact⟨rfl,rfl⟩
theorem aA:∀(t:Tm) (vs:List Tm),(Nd t)→(Vp t)→(size t<1099511627776)→(MJ vs)→(Sy vs)→(∀v∈vs,size v<Dc)→(vs.length<Dc)→EZ Tryz.prog 105 [.agg ((BO t).map .p),.p (.lst (BE vs))] (.tup [.agg ((BO ((Fy t vs 0).1)).map .p),.p (I ((Fy t vs 0).2))]):=by
 intro t vs h1 h2 h3 h4 h5 h6 h7;refine A5 Tryz.func105 O oA (n:=11) O O (Aw (BF O (BN O) fun b2=>BF O (A7 Bw O) fun b4=>Ar Ay 1 [] O (Aw (Ax Ay 2 [1] O (Aq O (BC O O (Zc t vs 0 h1 h2 h3 h4 h5 h6 An h7) O) (Ar Ay 4 [0,1] O (Az (⟨O,_,_,⟨_,_,O,(A9 (i:=0) BY O O Ag),⟨_,_,O,O,O⟩⟩,(List.nil_sublist _),?_⟩))))))))
 all_goals exact⟨rfl,rfl⟩
theorem OO:∀(m:Nat) (ds:List CH) (n:Int),(Gg n)→Bo Tryz.prog 104 [.ptr m 0] [.box m [.p (.lst (List.map Bh ds)),.p (I n)]] (Km (fun(r:Unit)=> .tup []) (fun _=> .p (.iface 122 .unit)) (fun r H'=>H'=[.box m [.p (.lst (List.map Bh ds)),.p (I (n - 1))]]) (Lo n)):=by
 intro m ds n h1;have hn:=h1.1;have hn2:=h1.2;refine A5 Tryz.func104 O oI (n:=16) O O (Au Ay 8 [0,0,0] O (Au Ay 5 [0] O (Av O (fun c=>?_) (fun c=>?_))))
 ·(try simp only[sd,se] at c);exact A2 (Aq O (CP eG Yy O) (Aq O (JU Aj O) (OZ O O (MY O) (⟨O,_,List.nil_sublist _,⟨_,my An,O⟩⟩))))
 (try simp only[sd,se] at c);refine A1 ⟨O,_,_,O,(B4 (is:=[0]) O),?_⟩;exact⟨(),pY An,O,O⟩
theorem Kp:∀(m:Nat) (ds:List CH) (n:Int) (t:Tm) (vs:List Tm),(Gg n)→(okB t=true)→(∀v∈vs,okB v=true)→(vs.length<549755813888)→Bo Tryz.prog 74 [.ptr m 0,.agg ((BO t).map .p),.p (.lst (BE vs))] [.box m [.p (.lst (List.map Bh ds)),.p (I n)]] (Km (fun(r:Tm×Int)=>TV r.1) (fun _=> .p (.iface 122 .unit)) (fun r H'=>H'=[.box m [.p (.lst (List.map Bh ds)),.p (I r.2)]]) (JZ n (CJ t vs 0))):=by
 intro m ds n t vs h1 h2 h3 h4;have hn:=h1.1;have hto:=CM.1 h2;have hts:=hto.sz;have hvo:=Ej h3;refine A5 Tryz.func74 O rA (n:=22) O O (Aw (BF O (BN O) fun b4=>BF O (A7 Bw O) fun b6=>Bg O (Aw (Bq O (De [2] O O O (.inl ⟨O,O,O⟩) (OO m ds n h1) ⟨_,_,O,O,O⟩ Am (aw (we O) (Eo)) (fun _ _ h=>(congrArg List.length h).trans O) ?_ ?_)))))
 rotate_left
 ·intro e _ he;exact⟨O,_,List.nil_sublist _,⟨_,eY he,O⟩⟩
 rintro _ _ hz rfl;refine Bg O (Aw (Ax Ay 2 [1] O ?_));refine Aq rfl (BC rfl rfl (aA t vs hto.nd hto.vp An hvo.1 hvo.2.2 (fun v hv=>by have:=Fk (h3 v hv);simp only[Dc];omega) AZ) rfl) ?_;refine Ax Ay 3 [] O (BF O (A7 Bw O) fun b7=>Ar Ay 2 [0,1] O (As (Au Ay 2 [] O (Av O (fun c=>?_) (fun c=>?_)))))
 ·(try simp only[sd,se] at c);have hce:=c;exact A2 (Aq O (CP eG Yy O) (Aq O (JU Aj O) (OZ O O (MY O) (⟨O,_,List.nil_sublist _,⟨_,m7 An h2 h3 h4 hce,O⟩⟩))))
 (try simp only[sd,se] at c);refine A1 (Au Ay 2 [0,1,1] O (Az (⟨O,_,_,⟨_,_,O,(A9 (i:=1) BY O O Ag),O⟩,(B4 (is:=[3]) O),?_⟩)));exact⟨⟨(Fy t vs 0).1,n - 1⟩,np hz h2 h3 h4 c,O,O⟩
theorem Kb:∀(l:List Tm),(l.length<549755813888)→Bo Tryz.prog 95 [.p (.lst (BE l))] [] (bJ (fun v=>v) 5 (BE l)):=by
 intro l h1;refine A5 Tryz.func95 O sU (n:=8) O O (Au Ay 1 [] O (As (Aw (Bq O (Ds O O (M0 Be O O) ?_)))));rintro _ ⟨q,rfl,hq⟩;refine Bg O (Av O (fun c=>?_) (fun c=>?_))
 ·(try simp only[sd,se] at c);refine Au Ay 1 [] O (BH (D4 (t:=2) (sz:=5) O) (Az (⟨O,_,_,⟨_,_,O,O,O⟩,(B4 (is:=[0]) O),?_⟩)));rw[show l=[] from List.length_eq_zero_iff.1 (by rw[←BQ,hq c];rfl)]
  all_goals exact⟨_,_,rfl,rfl⟩
 (try simp only[sd,se] at c);refine A1 (Aw (R4 O O (LU Be) fun b5 cp=>Bq O (Er O O (CK (i:=0) (rows':=BE l) Be Be Bw O O O O O O (Bv _) (by simp only[BQ,List.length_nil];omega) (Jf [] l)) fun o cp1=>Ar Ay 1 [] O (Az (⟨O,_,_,⟨_,_,O,O,O⟩,(B4 (is:=[0]) O),?_⟩)))))
 all_goals exact⟨_,_,rfl,rfl⟩
theorem Nu:∀(m:Nat) (ds:List CH) (n:Int) (t:Tm) (vs:List Tm),(Gg n)→(okB t=true)→(∀v∈vs,okB v=true)→(vs.length<549755813888)→Bo Tryz.prog 62 [.ptr m 0,.agg ((BO t).map .p),.p (.lst (BE vs))] [.box m [.p (.lst (List.map Bh ds)),.p (I n)]] (Km (fun(r:Tm×Int)=>TV r.1) (fun _=> .p (.iface 122 .unit)) (fun r H'=>H'=[.box m [.p (.lst (List.map Bh ds)),.p (I r.2)]]) (JZ n (CJ t vs.reverse 0))):=by
 intro m ds n t vs h1 h2 h3 h4;refine A5 Tryz.func62 O qo (n:=16) O O (Aw (BF O (BN O) fun b4=>BF O (A7 Bw O) fun b6=>Bg O (Aw (Bq O (Nl O O O (.inl ⟨O,O,O⟩) (Kb vs h4) (.inl O) fun o cp=>Ar Ay 1 [] O (Aw (Bq O (Aq O (B9 [0] O (.inl ⟨O,O,O⟩) (dS vs o cp AZ) ⟨_,_,O,O,O⟩ Am O (.inl O)) (Bg O (Aw (Ax Ay 3 [2] O (B2 (C5 (t:=9) (x:= .vs o (BE vs.reverse).length cp) (DL vs (l':=vs.reverse) Ao)) (B2 (C5 (t:=7) (x:= .vs o (BE vs.reverse).length cp) (DL vs (l':=vs.reverse) Ao)) (B2 (C5 (t:=10) (x:= .vs o (BE vs.reverse).length cp) (DL vs (l':=vs.reverse) Ao)) (B2 (C5 (t:=14) (x:= .vs o (BE vs.reverse).length cp) (DL vs (l':=vs.reverse) Ao)) ?_)))))))))))))));refine B2 (Ce (i:=0) [9,7,10,14] O (Dx ⟨O,O,O,O,Ap⟩)) (De [2] O O O (.inl ⟨O,O,O⟩) (Kp m ds n t vs.reverse h1 h2 (YH h3) (by rw[List.length_reverse];exact h4)) ⟨_,_,O,O,O⟩ Am (aw (we O) (aw (we O) (aw (we O) (Eo)))) (fun _ _ h=>(congrArg List.length h).trans O) ?_ ?_)
 rotate_left
 ·intro e _ he;exact⟨O,_,List.nil_sublist _,⟨_,he,O⟩⟩
 rintro⟨z,n2⟩ _ hz rfl;refine Ar Ay 1 [0,1] O (Az (⟨O,_,_,⟨_,_,O,(A9 (i:=0) BY O O Ag),O⟩,(B4 (is:=[2]) O),?_⟩));exact⟨⟨z,n2⟩,hz,O,O⟩
theorem Va:∀(m:Nat) (ds:List CH) (s:Int) (x:GR) (g:Tm) (a:List Tm) (d:CH),(Gg s)→(ds[x.decl.toNat]?=some d)→(0≤x.decl)→(DG d)→(okB g=true)→(a.length<549755813888)→(Ep B1 d g a s≠ .stuck)→Bo Tryz.prog 106 [.ptr m 0,.agg ((DX x).map .p),.agg ((BO g).map .p),.p (.lst (BE a))] [.box m [.p (.lst (List.map Bh ds)),.p (I s)]] (Km (fun(r:Option Tm×Int)=> .tup [TV (r.1.getD Bc),.p (.bool r.1.isSome)]) (fun _=> .p (.iface 122 .unit)) (fun r H'=>H'=[.box m [.p (.lst (List.map Bh ds)),.p (I r.2)]]) ((Ep B1 d g a s).ex)):=by
 intro m ds s x g a d h1 h2 h3 h4 h5 h6 h7;obtain⟨gk,gi,gn,gl,gs⟩:=g;have hgo:=CM.1 h5;have hgl:=hgo.nd;simp only[Nd,Dc] at hgl;refine A5 Tryz.func106 O pP (n:=35) O O (Aw (BF O (BN O) fun b5=>BF O (BN O) fun b6=>BF O (A7 Bw O) fun b8=>Ar Ay 1 [] O (As (Bt (fun k=>Nat.beq k 15) Dn (BP Ay 5 [3] O (CU (j:=2) O O O (fun H i hi=>A3 (i:=i) DN O hi (DZ _)) AB Ap (BG O (fun _=>A4 HT O O An (D3 h2) (Cm _)) Ap (BG O (fun _=>By Cz O O) Ap (BG O (fun _=>DC BY O (FA _) (BD _)) Ap (BP Ay 2 [1] O (BG O (fun _=>BC O O (MW d.value gl (CM.1 h4.vl).nd (CM.1 h4.vl).vp (by have:=Fk h4.vl;omega) hgl.2.1 hgl.2.2.1) O) Ap (BP Ay 3 [] O (Gi [] O O (A7 Bw O) Aj fun b10=>⟨AB,Ap,?_⟩)))))))))))));refine Bj Ay 2 [0,1] O (As (Au Ay 2 [] O (Av O (fun c=>?_) (fun c=>?_))))
 ·(try simp only[sd,se] at c);have hce:=c;refine Au Ay 3 [1,0] O (BH (BR (i:=1) O) (Az (⟨O,_,_,⟨_,_,O,(A9 (i:=1) BY O O O),⟨_,_,O,O,O⟩⟩,(B4 (is:=[4]) O),?_⟩)));exact⟨⟨none,s⟩,DA (Kg hce),O,O⟩
 (try simp only[sd,se] at c);have hce:=c;refine A1 (Aw (Bq O (De [4] O O O (.inl ⟨O,O,O⟩) (OO m ds s h1) ⟨_,_,O,O,O⟩ Am (aw (we O) (Eo)) (fun _ _ h=>(congrArg List.length h).trans O) ?_ ?_)))
 rotate_left
 ·intro e _ he;exact⟨O,_,List.nil_sublist _,⟨_,eh h7 hce he,O⟩⟩
 rintro _ _ hz rfl;refine Bg O (Aw (Ax Ay 2 [0] O (Aq O (BC O O (EL ((Bn d.value gl).1) a AZ) O) (Ar Ay 2 [1,1] O (Az (⟨O,_,_,⟨_,_,O,(A9 (i:=1) BY O O Ag),⟨_,_,O,O,O⟩⟩,(B4 (is:=[4]) O),?_⟩))))));exact⟨⟨some (apply (Bn d.value gl).1 a),s - 1⟩,DA (fA h7 hce hz),O,O⟩
theorem UT:∀(m:Nat) (ds:List CH) (s:Int) (d:CH) (g:Tm) (a:List Tm) (mm:Tm),(Gg s)→(Je ds)→(DG d)→(okB g=true)→(a.length<549755813888)→(okB mm=true)→(CT d<a.length)→(Ew ds B1 d g a mm s≠ .stuck)→Bo Tryz.prog 110 [.ptr m 0,.agg ((Bh d).map .p),.agg ((BO g).map .p),.p (.lst (BE a)),.agg ((BO mm).map .p)] [.box m [.p (.lst (List.map Bh ds)),.p (I s)]] (Km (fun(r:Option Tm×Int)=> .tup [TV (r.1.getD Bc),.p (.bool r.1.isSome)]) (fun _=> .p (.iface 122 .unit)) (fun r H'=>H'=[.box m [.p (.lst (List.map Bh ds)),.p (I r.2)]]) ((Ew ds B1 d g a mm s).ex)):=by
 intro m ds s d g a mm h1 h2 h3 h4 h5 h6 h7 h8;obtain⟨gk,gi,gn,gl,gs⟩:=g;have hgo:=CM.1 h4;have hgl:=hgo.nd;simp only[Nd,Dc] at hgl;have hnr:=IH h3;have hcl:=h3.din.cl;have hrl:=h3.din.rl;have hfx:=h3.fx;have hir:=GK h3.din h3.fx;refine A5 Tryz.func110 O oP (n:=82) O O (Aw (BF O (BN O) fun b6=>BF O (BN O) fun b7=>BF O (BN O) fun b9=>BF O (A7 Bw O) fun b10=>Ar Ay 1 [] O (Aw (Ax Ay 2 [1] O (Aq O (B9 [4] O (.inl ⟨O,O,O⟩) (QP m ds s mm h2 h6) ⟨_,_,O,O,O⟩ Am O (.inl O)) (Ax Ay 5 [] O (BF O (A7 JP O) fun b12=>Ar Ay 4 [0,1] O (As (As (BS [0,3,6,7,10,13,14] 42 (fun y=>y= .p (.bool (((!((CO ds mm).2.2.2))||(!((((CO ds mm).1).name).toList==d.name.toList)))||(decide (((CO ds mm).2.1:Int)≥((d.recs.rules.length:Nat):Int)))))) ?_ ?_))))))))))
 ·refine A2 (Ax Ay 3 [] O (BL 28 O (fun g1=>?_) (fun g1=>?_)))
  ·(try simp only[sd,se] at g1);exact Ar Ay 14 [] O (⟨O,O,AK,AI,⟨O,O,O,O,O,O,O,Ap⟩⟩)
  (try simp only[sd,se] at g1);refine BB O (A0 Cz O O) (BB O (A3 (i:=0) Ln O O (DH _)) (BB O (A0 Cz O O) (BB O (A3 (i:=4) Ln O O (DH _)) (BB O (I1 O O) (Ax Ay 2 [] O (BL 35 O (fun g2=>?_) (fun g2=>?_)))))))
  ·(try simp only[sd,se] at g2);exact Ar Ay 7 [] O (⟨O,O,AK,AI,⟨O,O,O,O,O,O,O,Ap⟩⟩)
  (try simp only[sd,se] at g2);exact Ax Ay 3 [] O (BB O (A3 (i:=4) Gj O O (Ck _)) (BB O (BK Be O (BQ _)) (Ar Ay 2 [] O (⟨O,O,AK,AI,⟨O,O,O,O,O,O,O,Ap⟩⟩))))
 rintro _ rfl;refine Av O (fun c=>?_) (fun c=>?_)
 ·(try simp only[sd,se] at c);have hib:=WZ (S:=B1) (h:=(.mk gk gi gn gl gs:Tm)) (a:=a) (s:=s) c;refine Au Ay 3 [1,0] O (BH (BR (i:=1) O) (Az (⟨O,_,_,⟨_,_,O,(A9 (i:=1) BY O O O),⟨_,_,O,O,O⟩⟩,(B4 (is:=[5]) O),?_⟩)));exact⟨⟨none,s⟩,DA hib,O,O⟩
 (try simp only[sd,se] at c);obtain⟨hg1,hg2,hg3⟩:=TN c;have hg4:=c.2;have hfl:=JO h2 hg1;refine A1 (As (Bt (fun k=>Nat.beq k 12) Dn (BP Ay 2 [] O (CU (j:=4) O O O (fun H i hi=>A3 (i:=i) Gj O hi (Ck _)) AB Ap (BG O (fun _=>BZ O) Ap ?_)))));obtain⟨x,hx⟩:=A6 (l:=d.recs.rules) (i:=((CO ds mm).2.1:Int).toNat) An;have hro:=h3.ru _ (List.mem_of_getElem? hx);refine BG O (fun _=>A4 Be O O An (Bd hx) (BD _)) Ap (BP Ay 3 [3] O (BG O (fun _=>BC O O (MW x gl (CM.1 hro).nd (CM.1 hro).vp (by have:=Fk hro;omega) hgl.2.1 hgl.2.2.1) O) Ap (BP Ay 3 [] O (Gi [] O O (A7 Bw O) Aj fun b16=>⟨AB,Ap,?_⟩))));refine Bj Ay 2 [0,1] O (As (Au Ay 2 [] O (Av O (fun c1=>?_) (fun c1=>?_))))
 ·(try simp only[sd,se] at c1);have hce:=c1;refine Au Ay 3 [2,0] O (BH (BR (i:=2) O) (Az (⟨O,_,_,⟨_,_,O,(A9 (i:=2) BY O O O),⟨_,_,O,O,O⟩⟩,(B4 (is:=[6]) O),?_⟩)));exact⟨⟨none,s⟩,DA (L4 (h:=(.mk gk gi gn gl gs:Tm)) hg1 hg2 hx hce),O,O⟩
 (try simp only[sd,se] at c1);have hce:=c1;refine A1 (Aw (Bq O (De [6] O O O (.inl ⟨O,O,O⟩) (OO m ds s h1) ⟨_,_,O,O,O⟩ Am (aw (we O) (Eo)) (fun _ _ h=>(congrArg List.length h).trans O) ?_ ?_)))
 rotate_left
 ·intro e _ he;exact⟨O,_,List.nil_sublist _,⟨_,iZ (g:=(.mk gk gi gn gl gs:Tm)) h8 hg1 hg2 hx hce he,O⟩⟩
 rintro _ _ hz rfl;refine Bg O (As (Bt (fun k=>false) Dn (BP Ay 3 [0] O (CU (j:=5) O O O (fun H i hi=>A3 (i:=i) DN O hi (Cn _)) AB Ap (BP Ay 2 [] O (CU (j:=5) O O O (fun H i hi=>A3 (i:=i) Hg O hi (B8 _)) AB Ap (BG O (fun _=>BK HN O (List.length_map _)) Ap (BG O (fun _=>K7 O O An An) Ap (BG O (fun _=>CY (lo:=0) (hi:=(((d.fixed:Int)+(1:Int):Int)+((d.ctors.length:Nat):Int):Int).toNat) Be O (CF (Bv _)) O ⟨_,pI An⟩ (Nat.zero_le _) AQ (Mx a ((((d.fixed:Int)+(1:Int):Int)+((d.ctors.length:Nat):Int):Int).toNat))) Ap (BG O (fun _=>BC O O (EL ((Bn x gl).1) (a.take ((((d.fixed:Int)+(1:Int):Int)+((d.ctors.length:Nat):Int):Int).toNat)) (by simp only[Dc,List.length_take];omega)) O) Ap ?_))))))))));refine Bj Ay 1 [0,1] O (Aw (Ax Ay 2 [0] O (Aq O (BC O O (EL (apply ((Bn x gl).1) (a.take ((((d.fixed:Int)+(1:Int):Int)+((d.ctors.length:Nat):Int):Int).toNat))) ((CO ds mm).2.2.1) AZ) O) (Ar Ay 1 [0,1] O (As (Bt (fun k=>false) Dn (BP Ay 3 [0,5] O (BG O (fun _=>BC O O (Ox d h3.din h3.fx) O) Ap (BG O (fun _=>K7 O O An An) Ap (BG O (fun _=>CY (lo:=((CT d:Int)+(1:Int):Int).toNat) Be O (CF (Bv _)) ⟨_,pI An⟩ O AQ (Nat.le_refl _) (Jo a (((CT d:Int)+(1:Int):Int).toNat))) Ap (BG O (fun _=>BC O O (EL (apply (apply ((Bn x gl).1) (a.take ((((d.fixed:Int)+(1:Int):Int)+((d.ctors.length:Nat):Int):Int).toNat))) ((CO ds mm).2.2.1)) (a.drop (((CT d:Int)+(1:Int):Int).toNat)) AR) O) Ap ?_)))))))))));refine Bj Ay 2 [2,1] O (Az (⟨O,_,_,⟨_,_,O,(A9 (i:=2) BY O O Ag),⟨_,_,O,O,O⟩⟩,(B4 (is:=[6]) O),?_⟩));exact⟨⟨some _,s - 1⟩,DA (jG (g:=(.mk gk gi gn gl gs:Tm)) h8 hg1 hg2 hx hce hz),O,O⟩
def pK (ds:List CH) (n:Nat):Prop:=∀(m:Nat) (t:Tm) (s:Int),Gg s→EA ds B1 n s t≠ .stuck→Bo Tryz.prog 39 [.ptr m 0,.agg ((BO t).map .p)] [.box m [.p (.lst (List.map Bh ds)),.p (I s)]] (Km (fun(r:Tm×Int)=>TV r.1) (fun _=> .p (.iface 122 .unit)) (fun r H'=>H'=[.box m [.p (.lst (List.map Bh ds)),.p (I r.2)]]) ((EA ds B1 n s t).ex))
theorem OJ:∀(n k m:Nat) (ds:List CH) (t:Es) (vs:List Tm) (s:Int),(pK ds n)→(Je ds)→(Gg s)→(ON t vs)→(Dp ds B1 (EA ds B1 n) k t vs Bc s≠ .stuck)→Bo Tryz.prog 61 [.ptr m 0,.agg ((Ch t).map .p),.p (.lst (BE vs))] [.box m [.p (.lst (List.map Bh ds)),.p (I s)]] (Km (fun(r:(Option (Tm×List Tm)×Tm)×Int)=> .tup [TV (JB r.1),.p (.lst (BE (LG r.1))),.p (.bool r.1.1.isSome),TV r.1.2]) (fun _=> .p (.iface 122 .unit)) (fun r H'=>H'=[.box m [.p (.lst (List.map Bh ds)),.p (I r.2)]]) ((Dp ds B1 (EA ds B1 n) k t vs Bc s).ex)):=by
 intro n k m ds t vs s hW h2 h3 h4 hns;have h4l:=h4.len;generalize hX:Dp ds B1 (EA ds B1 n) k t vs Bc s=X at hns ⊢;refine A5 Tryz.func61 O rq (n:=76) O O (Aw (BF O (BN O) fun b4=>BF O (A7 Bw O) fun b6=>Ax Ay 2 [] O (BF O (A7 Bw O) fun b9=>Bg O (Aw (Bq O (Nl O O O (.inl ⟨O,O,O⟩) (Kb vs An) (.inl O) fun o cp=>Ar Ay 1 [] O (Aw (BF O (A7 Bw O) fun b11=>Bg O (As (A8 ?_))))))))));refine Bb (α:=Nat×Es×List Tm×Tm×Int×Option Nat×Nat) (fun(k2,w,us,l,d,o1,cp1)=>⟨76,mk [(0,.ptr m 0),(4,.ptr b4 0),(6,.ptr b6 0),(9,.ptr b9 0),(10,.vs o1 (BE us).length cp1),(11,.ptr b11 0)],[.box b11 ((BO l).map .p),.vec o1 5 (BE us) cp1,.box b9 [.p (I 0),.p (I 0),.p (.str ⟨#[]⟩),.p (.nils),.p (.nils)],.box b6 [.p (I 0),.p (I 0),.p (.str ⟨#[]⟩),.p (.nils),.p (.nils)],.box b4 ((Ch w).map .p),.box m [.p (.lst (List.map Bh ds)),.p (I d)]],[]⟩) (fun(k2,w,us,l,d,o1,cp1)=>k2) (fun(k2,w,us,l,d,o1,cp1)=>Dp ds B1 (EA ds B1 n) k2 w us l d=X∧ON w us∧Gg d) ⟨k,t,vs,Bc,s,o,cp⟩ (⟨hX,h4,h3⟩) ?_ ?_
 ·exact BU ⟨we O,we O,we O,we O,we O,we O,Ap⟩ (leH (is:=[0,1,2,3,4,5]) O (wl (on (O)) (wl (oe O) (wl (oe O) (wl (oe O) (wl (oe O) (wl (oe O) (C3))))))))
 rintro⟨k2,w,us,l,d,o1,cp1⟩ hC
 try simp only at hC
 obtain⟨hC,hL,hJ⟩:=hC;obtain⟨k1,rfl⟩:=TX hC hns;refine As (Aw (Aq O (A0 FF O O) (Aq O (A3 (i:=4) DN O O (GZ _)) (Ar Ay 1 [] O (Av O (fun c=>?_) (fun c=>?_))))))
 ·(try simp only[sd,se] at c);have hk1:=c;refine A1 (A8 (As (As (BS [0,4,6,9,10,11] 31 (fun y=>y= .p (.bool ((decide ((w.var:Int)<(0:Int)))||(decide ((w.var:Int)≥((us.length:Nat):Int)))))) ?_ ?_))))
  ·refine A2 (Aq O (A0 FF O O) (Aq O (A3 (i:=4) DN O O (DE _)) (Ax Ay 2 [] O (BL 25 O (fun g=>?_) (fun g=>?_)))))
   ·(try simp only[sd,se] at g);exact Ar Ay 6 [] O (⟨O,O,AK,AI,⟨O,O,O,O,O,O,Ap⟩⟩)
   (try simp only[sd,se] at g);exact BB O (A0 FF O O) (BB O (A3 (i:=4) DN O O (DE _)) (BB O (BZ O) (BB O (KX Be O (BQ _)) (Ar Ay 2 [] O (⟨O,O,AK,AI,⟨O,O,O,O,O,O,Ap⟩⟩)))))
  rintro _ rfl;refine Av O (fun c1=>?_) (fun c1=>?_)
  ·(try simp only[sd,se] at c1);rw[JY hk1 (by simpa [B1] using c1)] at hC;refine As (Bt (fun k=>false) Dn (Bj Ay 6 [0,3,0,2,1] O (BH (BR (i:=3) O) (BH (D7 7) (Az (⟨O,_,_,⟨_,_,O,(A9 (i:=3) BY O O O),⟨_,_,O,O,⟨_,_,O,O,⟨_,_,O,(A9 (i:=2) BY O O Ag),O⟩⟩⟩⟩,(B4 (is:=[5]) O),?_⟩))))));exact⟨⟨(none,l),d⟩,DA hC.symm,O,O⟩
  (try simp only[sd,se] at c1);have hcb:=c1;refine A1 (Aw (Ax Ay 3 [] O (Aq O (A3 (i:=4) DN O O (DE _)) (Mp (i:=1) O AY fun b hb=>?_))));subst hb;refine Aq O (Cv Be O O An AH) ?_;obtain⟨y,hy⟩:=A6 (l:=us) (i:=(w.var:Int).toNat) AO;refine Aq O (Ef (i:=1) BY O O (Bd hy)) ?_;rw[LC hk1 (by simpa [B1] using hcb) hy] at hC;have hn0:=hns;rw[←hC] at hn0;have hn1:=T8 hn0;refine De [5] O O O (.inl ⟨O,O,O⟩) (hW m y d hJ hn1) ⟨_,_,O,O,O⟩ Am (aw (we O) (aw (we O) (Eo))) (fun _ _ h=>(congrArg List.length h).trans O) ?_ ?_
  rotate_left
  ·intro e _ he;exact⟨O,_,List.nil_sublist _,⟨_,by rw[←hC];exact Uf hn0 he,rfl⟩⟩
  rintro⟨z,n2⟩ _ hz rfl;obtain⟨hr2,hr3⟩:=UI hn0 hz;rw[hr3] at hC;have hJ2:=QV hJ (HJ hz);refine Ar Ay 1 [0,1] O (Aw (Ax Ay 2 [0] O (Aq O (B9 [5] O (.inl ⟨O,O,O⟩) (QP m ds n2 z h2 hr2) ⟨_,_,O,O,O⟩ Am O (.inl O)) (Ax Ay 5 [] O (BF O (A7 JP O) fun b12=>Ar Ay 4 [0,1] O (As (Au Ay 2 [] O (Av O (fun c2=>?_) (fun c2=>?_)))))))))
  ·(try simp only[sd,se] at c2);rw[GP (Ot c2)] at hC;refine As (Bt (fun k=>false) Dn (Bj Ay 6 [1,4,0,3,1] O (BH (BR (i:=4) O) (BH (D7 7) (Az (⟨O,_,_,⟨_,_,O,(A9 (i:=4) BY O O O),⟨_,_,O,O,⟨_,_,O,O,⟨_,_,O,(A9 (i:=3) BY O O Ag),O⟩⟩⟩⟩,(B4 (is:=[6]) O),?_⟩))))));exact⟨⟨(none,z),n2⟩,DA hC.symm,O,O⟩
  (try simp only[sd,se] at c2);have hcs:=MT c2;have hcf:=Fi hcs;have hlo:=hcf.lo;have hhi:=hcf.hi;have hfl:=JO h2 hcs;refine A1 (As (Bt (fun k=>Nat.beq k 11) Dn (BP Ay 2 [5] O (CU (j:=0) O O O (fun H i hi=>A3 (i:=i) Hg O hi (B8 _)) AB Ap (BG O (fun _=>BZ O) Ap ?_)))));obtain⟨x,hx⟩:=A6 (l:=((CO ds z).1).ctors) (i:=((CO ds z).2.1:Int).toNat) An;refine BG O (fun _=>A4 HN O O An (ES hx) (D5 _)) Ap (BG O (fun _=>By Ik O O) Ap (BG O (fun _=>C6 Ln O (Fb _)) Ap (BG O (fun _=>BC O O (TK w x.name hL.tin.bl) O) Ap (BP Ay 3 [] O (Gi [] O O (A7 Wk O) Aj fun b16=>⟨AB,Ap,?_⟩)))));refine Bj Ay 2 [0,1] O (As (Au Ay 2 [] O (Av O (fun c3=>?_) (fun c3=>?_))))
  ·(try simp only[sd,se] at c3);rw[IW hcs (by rw[En,CW hx];exact WQ c3)] at hC;refine As (Bt (fun k=>false) Dn (Bj Ay 6 [2,5,0,4,1] O (BH (BR (i:=5) O) (BH (D7 7) (Az (⟨O,_,_,⟨_,_,O,(A9 (i:=5) BY O O O),⟨_,_,O,O,⟨_,_,O,O,⟨_,_,O,(A9 (i:=4) BY O O Ag),O⟩⟩⟩⟩,(B4 (is:=[7]) O),?_⟩))))));exact⟨⟨(none,z),n2⟩,DA hC.symm,O,O⟩
  (try simp only[sd,se] at c3);have hbs:=Wn c3;rw[IV hcs (by rw[En,CW hx];exact hbs)] at hC;refine A1 (Au Ay 2 [0,6,1] O (A2 (Ax Ay 2 [] O (Er O O (CK (i:=3) (rows':=BE ((CO ds z).2.2.1)) Be Be Bw O O O O O O (Bv _) (by have:=hL.len;simp only[BQ,List.length_append];omega) (Jf us ((CO ds z).2.2.1))) fun o2 cp2=>Ar Ay 1 [] O (⟨⟨k1,(bT x.name w.branches).1,us++(CO ds z).2.2.1,z,n2,o2,cp2⟩,AT,⟨hC,hL.next h2 hr2 hcs hbs,hJ2⟩,BU ⟨we O,we O,we O,we O,we O,we O,Ap⟩ (leH (is:=[2,3,4,5,6,7]) O (wl (oe O) (wl (oe O) (wl (oe O) (wl (oe O) (wl (oe O) (wl (oe O) (C3))))))))⟩)))))
 (try simp only[sd,se] at c);have hk1:=c;rw[Hn hk1] at hC;refine Bf (Aw (Aq O (A0 FF O O) (Aq O (Bu (i:=4) BY O O (E1 _) (BD _)) (Ar Ay 6 [3,1,2,0] O (BH (Ce (i:=1) [10,74,7] O (Dx ⟨O,O,O,Ap⟩)) (BH (BR (i:=1) O) (Az (⟨O,_,_,⟨_,_,O,(A9 (i:=2) BY O O Ag),⟨_,_,O,O,⟨_,_,O,O,⟨_,_,O,(A9 (i:=1) BY O O O),O⟩⟩⟩⟩,(B4 (is:=[4]) O),?_⟩))))))));exact⟨⟨(some (w.body,us),Bc),d⟩,DA hC.symm,O,O⟩
theorem mJ:∀(n m:Nat) (ds:List CH) (s:Int) (x:GR) (g:Tm) (a:List Tm) (d:CH),(pK ds n)→(Je ds)→(Gg s)→(ds[x.decl.toNat]?=some d)→(0≤x.decl)→(DG d)→(okB g=true)→(a.length<549755813888)→(∀y∈a,okB y=true)→(R0 ds B1 (EA ds B1 n) d g a s≠ .stuck)→Bo Tryz.prog 107 [.ptr m 0,.agg ((DX x).map .p),.agg ((BO g).map .p),.p (.lst (BE a))] [.box m [.p (.lst (List.map Bh ds)),.p (I s)]] (Km (fun(r:Option Tm×Int)=> .tup [TV (r.1.getD Bc),.p (.bool r.1.isSome)]) (fun _=> .p (.iface 122 .unit)) (fun r H'=>H'=[.box m [.p (.lst (List.map Bh ds)),.p (I r.2)]]) ((R0 ds B1 (EA ds B1 n) d g a s).ex)):=by
 intro n m ds s x g a d hW h2 h3 h4 h5 h6 h7 h8 h9 hns;have hnr:=IH h6;generalize hC:R0 ds B1 (EA ds B1 n) d g a s=X at hns ⊢;refine A5 Tryz.func107 O nw (n:=40) O O (Aw (BF O (BN O) fun b5=>BF O (BN O) fun b6=>BF O (A7 Bw O) fun b8=>Ar Ay 1 [] O (As (Bt (fun k=>Nat.beq k 8) Dn (BP Ay 5 [3] O (CU (j:=2) O O O (fun H i hi=>A3 (i:=i) DN O hi (DZ _)) AB Ap (BG O (fun _=>A4 HT O O An (D3 h4) (Cm _)) Ap (BG O (fun _=>BM FW O (Cm _)) Ap (Gi [] O O (A7 JP O) Aj fun b10=>⟨AB,Ap,?_⟩)))))))));refine Bj Ay 1 [0,1] O (Aw (Aq O (BT (i:=0) FW O O Ad) (Aq O (BC O O (Ox d h6.din h6.fx) O) (Ar Ay 1 [] O (As (Aw (Bq O (Aq O (BK Be O (BQ _)) (Ar Ay 2 [] O (Av O (fun c=>?_) (fun c=>?_)))))))))))
 ·(try simp only[sd,se] at c);rw[Ow An] at hC;refine Au Ay 3 [1,0] O (BH (BR (i:=1) O) (Az (⟨O,_,_,⟨_,_,O,(A9 (i:=1) BY O O O),⟨_,_,O,O,O⟩⟩,(B4 (is:=[4]) O),?_⟩)));exact⟨⟨none,s⟩,DA hC.symm,O,O⟩
 (try simp only[sd,se] at c);refine A1 (As (Bt (fun k=>Nat.beq k 9||Nat.beq k 10) Dn (BP Ay 7 [0,2] O ?_)));obtain⟨x1,hx1⟩:=A6 (l:=a) (i:=(CT d:Int).toNat) An;rw[R5 An hx1] at hC;have hn0:=hns;rw[←hC] at hn0;have hn1:=T8 hn0;refine BG O (fun _=>A4 Be O O An (Bd hx1) (BD _)) Ap (BG O (fun _=>BM BY O (BD _)) Ap (Pc [4] O O O (.inl ⟨O,O,O⟩) (hW m x1 s h3 hn1) ⟨_,_,O,O,O⟩ Am (aw (we O) (aw (we O) (Eo))) (fun _ _ h=>(congrArg List.length h).trans O) Aj Aj O AB ?_ ?_))
 rotate_left
 ·intro e he _ _ hτ;exact⟨O,_,List.nil_sublist _,⟨_,by rw[←hC];exact Uf hn0 he,rfl⟩⟩
 rintro⟨z,n2⟩ _ hz rfl;refine⟨AB,Ap,?_⟩;obtain⟨hr2,hr3⟩:=UI hn0 hz;rw[hr3] at hC;simp only at hC;have hJ2:=QV h3 (HJ hz);refine Pc [4] O O O (.inl ⟨O,O,O⟩) (UT m ds n2 d g a z hJ2 h2 h6 h7 h8 hr2 An (by rw[hC];exact hns)) ⟨_,_,O,O,O⟩ Am (aw (we O) (aw (we O) (aw (we O) (aw (we O) (aw (we O) (Eo)))))) (fun _ _ h=>(congrArg List.length h).trans O) Aj Aj O AB ?_ ?_
 rotate_left
 ·intro e he _ _ hτ;exact⟨O,_,List.nil_sublist _,⟨_,by rw[←hC];exact he,rfl⟩⟩
 rintro⟨q,n21⟩ _ hz1 rfl;refine⟨AB,Ap,?_⟩;have hfin:=hz1;refine Bj Ay 4 [1,1] O (Az (⟨O,_,_,⟨_,_,O,(A9 (i:=1) BY O O Ag),⟨_,_,O,O,O⟩⟩,(B4 (is:=[4]) O),?_⟩));exact⟨⟨q,n21⟩,by rw[←hC];exact hfin,rfl,rfl⟩
theorem ZB:∀(m:Nat) (ds:List CH) (n:Int) (g p q:Tm),(Gg n)→(g.kind=9∨g.kind=10)→(p.kids[(1+g.kind - 9).toNat]?=some q)→Bo Tryz.prog 75 [.ptr m 0,.agg ((BO g).map .p),.agg ((BO p).map .p)] [.box m [.p (.lst (List.map Bh ds)),.p (I n)]] (Km (fun(r:Tm×Int)=>TV r.1) (fun _=> .p (.iface 122 .unit)) (fun r H'=>H'=[.box m [.p (.lst (List.map Bh ds)),.p (I r.2)]]) (JZ n (q,0))):=by
 intro m ds n g p q h1 h2 h3;obtain⟨gk,gi,gn,gl,gs⟩:=g;obtain⟨pk,pi,pn,pl,ps⟩:=p;simp only[Tm.kind,Tm.kids] at h2 h3;refine A5 Tryz.func75 O rn (n:=17) O O (Aw (BF O (BN O) fun b4=>BF O (BN O) fun b5=>BF O (A7 Bw O) fun b6=>Bg O (Aw (Bq O (De [3] O O O (.inl ⟨O,O,O⟩) (OO m ds n h1) ⟨_,_,O,O,O⟩ Am (aw (we O) (Eo)) (fun _ _ h=>(congrArg List.length h).trans O) ?_ ?_)))))
 rotate_left
 ·intro e _ he;exact⟨O,_,List.nil_sublist _,⟨_,eY he,O⟩⟩
 rintro _ _ hz rfl;refine Bg O (Aw (Ax Ay 6 [1,2] O (Aq O (A4 Be O O An (Bd h3) (BD _)) (Ar Ay 2 [0,1] O (Az (⟨O,_,_,⟨_,_,O,(A9 (i:=0) BY O O Ag),O⟩,(B4 (is:=[3]) O),?_⟩))))));exact⟨⟨q,n - 1⟩,nc hz,O,O⟩
theorem bu:∀(n m:Nat) (ds:List CH) (s:Int) (x:GR) (g:Tm) (a:List Tm) (d:CH) (f:G7),(pK ds n)→(Gh ds)→(Gg s)→(ds[x.decl.toNat]?=some d)→(0≤x.decl)→(d.funs[x.item.toNat]?=some f)→(0≤x.item)→(okB g=true)→(a.length<549755813888)→(∀y∈a,okB y=true)→(JW ds B1 (EA ds B1 n) n f g a s≠ .stuck)→Bo Tryz.prog 108 [.ptr m 0,.agg ((DX x).map .p),.agg ((BO g).map .p),.p (.lst (BE a))] [.box m [.p (.lst (List.map Bh ds)),.p (I s)]] (Km (fun(r:Option Tm×Int)=> .tup [TV (r.1.getD Bc),.p (.bool r.1.isSome)]) (fun _=> .p (.iface 122 .unit)) (fun r H'=>H'=[.box m [.p (.lst (List.map Bh ds)),.p (I r.2)]]) ((JW ds B1 (EA ds B1 n) n f g a s).ex)):=by
 intro n m ds s x g a d f hW h2 h3 h4 h5 h6 h7 h8 h9 h10 hns;obtain⟨gk,gi,gn,gl,gs⟩:=g;have hgo:=CM.1 h8;have hgl:=hgo.nd;simp only[Nd,Dc] at hgl;have hdm:=List.mem_of_getElem? h4;have hfm:=List.mem_of_getElem? h6;have hfa:=(h2.g.all _ hdm).fu _ hfm;generalize hC:JW ds B1 (EA ds B1 n) n f (.mk gk gi gn gl gs:Tm) a s=X at hns ⊢;refine A5 Tryz.func108 O nH (n:=70) O O (Aw (BF O (BN O) fun b5=>BF O (BN O) fun b6=>BF O (A7 Bw O) fun b8=>Ar Ay 1 [] O (As (Bt (fun k=>Nat.beq k 13) Dn (BP Ay 5 [3] O (CU (j:=2) O O O (fun H i hi=>A3 (i:=i) DN O hi (DZ _)) AB Ap (BG O (fun _=>A4 HT O O An (D3 h4) (Cm _)) Ap (BG O (fun _=>By Cz O O) Ap (BG O (fun _=>C6 HY O (CD _)) Ap (BG O (fun _=>A0 GH O O) Ap (CU (j:=2) O O O (fun H i hi=>A3 (i:=i) DN O hi (Fh _)) AB Ap (BG O (fun _=>A4 GB O O An (EO h6) (DJ _)) Ap (BG O (fun _=>BM Zn O (DJ _)) Ap (Gi [] O O (A7 Vx O) Aj fun b10=>⟨AB,Ap,?_⟩))))))))))))));refine Bj Ay 1 [0,1] O (As (Aw (Bq O (Aq O (BK Be O (BQ _)) (Aq O (A0 Gv O O) (Aq O (A3 (i:=0) DN O O (CL _)) (Ar Ay 1 [] O (Av O (fun c=>?_) (fun c=>?_)))))))))
 ·(try simp only[sd,se] at c);rw[Ki An] at hC;refine Au Ay 3 [1,0] O (BH (BR (i:=1) O) (Az (⟨O,_,_,⟨_,_,O,(A9 (i:=1) BY O O O),⟨_,_,O,O,O⟩⟩,(B4 (is:=[4]) O),?_⟩)));exact⟨⟨none,s⟩,DA hC.symm,O,O⟩
 (try simp only[sd,se] at c);have hl0:¬(a.length:Int)<f.arity:=by omega
 refine A1 (As ?_);rw[Kj hl0] at hC;have hn0:=hns;rw[←hC] at hn0;have hn1:=Iw hn0;obtain⟨e,he⟩ | ⟨⟨q,n2⟩,hz⟩:=FK ((Dp ds B1 (EA ds B1 n) n f.tree (a.take ((f.arity:Int).toNat)) Bc s).ex)
 ·refine Iv ((fun _=> .p (.iface 122 .unit)) e) 7 [.val (.ptr m 0),.val (.ptr b10 (0+7)),.val (.agg ((Ch f.tree).map .p)),.val (.p (.lst (BE a))),.val (.ptr b10 (0+6)),.val (.p (I f.arity)),.val (.p (.lst (BE (a.take ((f.arity:Int).toNat))))),.val (.p .any),.val (.p .any),.val (.p .any),.val (.p .any),.val (.p .any),.val (.p .any),.new [.p (I 0),.p (I 0),.p (.str ⟨#[]⟩),.p (.nils),.p (.nils)],.new [.p (I 0),.p (I 0),.p (.str ⟨#[]⟩),.p (.nils),.p (.nils)],.val (.p .any),.val (.p .any),.val (.p .any),.val (.p .any)] Dn O Aj O Ap (fun _ _=>by exact⟨rfl,_,List.nil_sublist _,⟨_,by rw[←hC];exact Jt hn0 he,rfl⟩⟩) ?_;refine B7 O O (fun Bs=>BZ O) (B7 O O (fun Bs=>A0 Gv O O) (B7 O O (fun Bs=>Bu (i:=Bs.length+0) IY O (CX O) (Db _) (Cl _)) (B7 O O (fun Bs=>BZ O) (B7 O O (fun Bs=>A0 Gv O O) (B7 O O (fun Bs=>A3 (i:=Bs.length+0) DN O (CX O) (CL _)) (B7 O O (fun Bs=>CY (lo:=0) (hi:=(f.arity:Int).toNat) Be O (CF (Bv _)) O ⟨_,pI An⟩ (Nat.zero_le _) AQ (Mx a ((f.arity:Int).toNat))) (Kr (mkp:=(fun _=> .p (.iface 122 .unit))) (e:=e) [4] he O O (.inl ⟨O,O,O⟩) (OJ n n m ds f.tree (a.take ((f.arity:Int).toNat)) s hW h2.g h3 (QC h2 hdm hfm h10) hn1) ⟨_,_,O,O,O⟩ Am (aw (we O) (aw (we O) (aw (we O) (Eo)))) (C9 O O Aj (C9 O O Aj (C9 O O Aj (C9 O O Aj (C9 O O Aj ?_))))))))))));exact U8 O O (fun Bs=>A7 Bw O) fun _=>U8 O O (fun Bs=>A7 Bw O) fun _=>C9 O O Aj (C9 O O Aj (C9 O O Aj (C9 O O Aj K4)))
 rw[Ku hz] at hC;have hlo:=MN h2.g _ _ _ _ _ _ _ (QC h2 hdm hfm h10) (HJ hz);have hJ2:=PO h3 (HJ hz);refine ID [.box b10 ((Ec f).map .p),.box b8 [.p (I 0),.p (I 0),.p (.str ⟨#[]⟩),.p (.nils),.p (.nils)],.box b6 [.p (I gk),.p (I gi),.p (.str gn),.p (.lst (List.map Bz gl)),.p (.lst (BE gs))],.box b5 ((DX x).map .p),.box m [.p (.lst (List.map Bh ds)),.p (I n2)]] 7 [.val (.ptr m 0),.val (.ptr b10 (0+7)),.val (.agg ((Ch f.tree).map .p)),.val (.p (.lst (BE a))),.val (.ptr b10 (0+6)),.val (.p (I f.arity)),.val (.p (.lst (BE (a.take ((f.arity:Int).toNat))))),.val (.tup [.agg ((BO (JB q)).map .p),.p (.lst (BE (LG q))),.p (.bool q.1.isSome),.agg ((BO q.2).map .p)]),.val (.tup [.agg ((BO (JB q)).map .p),.p (.lst (BE (LG q))),.p (.bool q.1.isSome),.agg ((BO q.2).map .p)]),.val (.agg ((BO (JB q)).map .p)),.val (.p (.lst (BE (LG q)))),.val (.p (.bool q.1.isSome)),.val (.agg ((BO q.2).map .p)),.new [.p (I 0),.p (I 0),.p (.str ⟨#[]⟩),.p (.nils),.p (.nils)],.new [.p (I 0),.p (I 0),.p (.str ⟨#[]⟩),.p (.nils),.p (.nils)]] [.p .any,.p (.lst (BE (LG q))),.p (.bool q.1.isSome),.p .any] [10,11,12] Dn O Aj Aj Aj O ?_ ?_
 ·exact Ap
 refine Bk O O (fun Bs=>BZ O) (Bk O O (fun Bs=>A0 Gv O O) (Fz O O O (fun Bs=>Bu (i:=Bs.length+0) IY O (CX O) (Db _) (Cl _)) (fun Bs=>Bu (i:=Bs.length+0) IY O (CX O) (Db _) (Cl _)) (Bk O O (fun Bs=>BZ O) (Bk O O (fun Bs=>A0 Gv O O) (Fz O O O (fun Bs=>A3 (i:=Bs.length+0) DN O (CX O) (CL _)) (fun Bs=>A3 (i:=Bs.length+0) DN O (CX O) (CL _)) (Bk O O (fun Bs=>CY (lo:=0) (hi:=(f.arity:Int).toNat) Be O (CF (Bv _)) O ⟨_,pI An⟩ (Nat.zero_le _) AQ (Mx a ((f.arity:Int).toNat))) ?_))))));refine KB O (fun Bs=>Gx [4] O (.inl ⟨O,O,O⟩) (K6 hz (OJ n n m ds f.tree (a.take ((f.arity:Int).toNat)) s hW h2.g h3 (QC h2 hdm hfm h10) hn1)) ⟨_,_,O,O,O⟩ Am O (aw (we O) (aw (we O) (aw (we O) (Eo))))) (Bk O O (fun Bs=>BZ O) (Bk O O (fun Bs=>DR O O) (Bk O O (fun Bs=>DR O O) (Bk O O (fun Bs=>DR O O) (Bk O O (fun Bs=>DR O O) (Pk O O (fun Bs=>A7 Bw O) fun b11=>Pk O O (fun Bs=>A7 Bw O) fun b14=>J6 ?_))))));refine Dv [.box b11 ((BO (JB q)).map .p),.box b14 [.p (I 0),.p (I 0),.p (.str ⟨#[]⟩),.p (.nils),.p (.nils)],.box b10 ((Ec f).map .p),.box b8 [.p (I 0),.p (I 0),.p (.str ⟨#[]⟩),.p (.nils),.p (.nils)],.box b6 [.p (I gk),.p (I gi),.p (.str gn),.p (.lst (List.map Bz gl)),.p (.lst (BE gs))],.box b5 ((DX x).map .p),.box m [.p (.lst (List.map Bh ds)),.p (I n2)]] O (Cd (i:=0) BY O O O Ag AW (FP _)) (Dv [.box b11 ((BO (JB q)).map .p),.box b14 [.p (I 0),.p (I 0),.p (.str ⟨#[]⟩),.p (.nils),.p (.nils)],.box b10 ((Ec f).map .p),.box b8 [.p (I 0),.p (I 0),.p (.str ⟨#[]⟩),.p (.nils),.p (.nils)],.box b6 [.p (I gk),.p (I gi),.p (.str gn),.p (.lst (List.map Bz gl)),.p (.lst (BE gs))],.box b5 ((DX x).map .p),.box m [.p (.lst (List.map Bh ds)),.p (I n2)]] O (ED O) ?_)
 refine Dv [.box b11 ((BO (JB q)).map .p),.box b14 [.p (I 0),.p (I 0),.p (.str ⟨#[]⟩),.p (.nils),.p (.nils)],.box b10 ((Ec f).map .p),.box b8 [.p (I 0),.p (I 0),.p (.str ⟨#[]⟩),.p (.nils),.p (.nils)],.box b6 [.p (I gk),.p (I gi),.p (.str gn),.p (.lst (List.map Bz gl)),.p (.lst (BE gs))],.box b5 ((DX x).map .p),.box m [.p (.lst (List.map Bh ds)),.p (I n2)]] O (ED O) (Dv [.box b11 ((BO (JB q)).map .p),.box b14 ((BO q.2).map .p),.box b10 ((Ec f).map .p),.box b8 [.p (I 0),.p (I 0),.p (.str ⟨#[]⟩),.p (.nils),.p (.nils)],.box b6 [.p (I gk),.p (I gi),.p (.str gn),.p (.lst (List.map Bz gl)),.p (.lst (BE gs))],.box b5 ((DX x).map .p),.box m [.p (.lst (List.map Bh ds)),.p (I n2)]] O (Cd (i:=1) BY O O O Ag AW (FP _)) (J0 (As (Au Ay 2 [] O (Av O (fun c1=>?_) (fun c1=>?_))))))
 ·(try simp only[sd,se] at c1);rw[JT (.inl (by simpa using c1))] at hC;refine Au Ay 3 [3,0] O (BH (BR (i:=3) O) (Az (⟨O,_,_,⟨_,_,O,(A9 (i:=3) BY O O O),⟨_,_,O,O,O⟩⟩,(B4 (is:=[6]) O),?_⟩)));exact⟨⟨none,n2⟩,DA hC.symm,O,O⟩
 (try simp only[sd,se] at c1);rw[LA (by simpa using c1) rfl] at hC;refine A1 (Aw (Ax Ay 3 [0,4] O (Aq O (BC O O (MW (JB q) gl (CM.1 hlo.1).nd (CM.1 hlo.1).vp (by have:=Fk hlo.1;omega) hgl.2.1 hgl.2.2.1) O) (Ar Ay 5 [0,1] O (As (Au Ay 2 [] O (Av O (fun c2=>?_) (fun c2=>?_))))))))
 ·(try simp only[sd,se] at c2);rw[Kc (h:=(.mk gk gi gn gl gs:Tm)) c2] at hC;refine Au Ay 3 [3,0] O (BH (BR (i:=3) O) (Az (⟨O,_,_,⟨_,_,O,(A9 (i:=3) BY O O O),⟨_,_,O,O,O⟩⟩,(B4 (is:=[6]) O),?_⟩)));exact⟨⟨none,n2⟩,DA hC.symm,O,O⟩
 (try simp only[sd,se] at c2);obtain⟨hb1,hb2,hb3,hb4⟩:=Ut (by rw[hC];exact hns) c2;rw[hb4] at hC;have hn3:=hns;rw[←hC] at hn3;refine A1 (As ?_);obtain⟨e,he⟩ | ⟨⟨z,n21⟩,hz1⟩:=FK (JZ n2 (CJ ((Bn (JB q) gl).1) (LG q).reverse 0))
 ·refine Iv ((fun _=> .p (.iface 122 .unit)) e) 3 [.val (.ptr m 0),.val (.agg ((BO ((Bn (JB q) gl).1)).map .p)),.val (.p (.lst (BE (LG q)))),.val (.p .any),.val (.p (.lst (BE a))),.val (.ptr b10 (0+6)),.val (.p (I f.arity)),.val (.p (.lst (BE (a.drop ((f.arity:Int).toNat))))),.val (.p .any),.val (.p .any),.val (.p .any)] Dn O Aj O Ap (fun _ _=>by exact⟨rfl,_,List.nil_sublist _,⟨_,by rw[←hC];exact KD hn3 he,rfl⟩⟩) ?_;exact B7 O O (fun Bs=>BZ O) (B7 O O (fun Bs=>BT (i:=Bs.length+0) BY O (CX O) Ag) (B7 O O (fun Bs=>BZ O) (Kr (mkp:=(fun _=> .p (.iface 122 .unit))) (e:=e) [6] he O O (.inl ⟨O,O,O⟩) (Nu m ds n2 ((Bn (JB q) gl).1) (LG q) hJ2 hb1 hb2 An) ⟨_,_,O,O,O⟩ Am (aw (we O) (aw (we O) (aw (we O) (Eo)))) (B7 O O (fun Bs=>BZ O) (B7 O O (fun Bs=>A0 Gv O O) (B7 O O (fun Bs=>A3 (i:=Bs.length+2) DN O (CX O) (CL _)) (B7 O O (fun Bs=>CY (lo:=(f.arity:Int).toNat) Be O (CF (Bv _)) ⟨_,pI An⟩ O AQ (Nat.le_refl _) (Jo a ((f.arity:Int).toNat))) (C9 O O Aj (C9 O O Aj (C9 O O Aj K4))))))))))
 rw[KC hn3 hz1] at hC;refine ID [.box b11 ((BO ((Bn (JB q) gl).1)).map .p),.box b14 ((BO q.2).map .p),.box b10 ((Ec f).map .p),.box b8 [.p (I 0),.p (I 0),.p (.str ⟨#[]⟩),.p (.nils),.p (.nils)],.box b6 [.p (I gk),.p (I gi),.p (.str gn),.p (.lst (List.map Bz gl)),.p (.lst (BE gs))],.box b5 ((DX x).map .p),.box m [.p (.lst (List.map Bh ds)),.p (I n21)]] 3 [.val (.ptr m 0),.val (.agg ((BO ((Bn (JB q) gl).1)).map .p)),.val (.p (.lst (BE (LG q)))),.val (.agg ((BO z).map .p)),.val (.p (.lst (BE a))),.val (.ptr b10 (0+6)),.val (.p (I f.arity)),.val (.p (.lst (BE (a.drop ((f.arity:Int).toNat))))),.val (.agg ((BO (apply z (a.drop ((f.arity:Int).toNat)))).map .p))] [.p .any,.p (.bool true)] [] Dn O Aj Aj Aj O ?_ ?_
 ·exact Ap
 refine Bk O O (fun Bs=>BZ O) (Fz O O O (fun Bs=>BT (i:=Bs.length+0) BY O (CX O) Ag) (fun Bs=>BT (i:=Bs.length+0) BY O (CX O) Ag) (Bk O O (fun Bs=>BZ O) (KB O (fun Bs=>Gx [6] O (.inl ⟨O,O,O⟩) (K6 hz1 (Nu m ds n2 ((Bn (JB q) gl).1) (LG q) hJ2 hb1 hb2 An)) ⟨_,_,O,O,O⟩ Am O (aw (we O) (aw (we O) (aw (we O) (Eo))))) (Bk O O (fun Bs=>BZ O) (Bk O O (fun Bs=>A0 Gv O O) (Fz O O O (fun Bs=>A3 (i:=Bs.length+2) DN O (CX O) (CL _)) (fun Bs=>A3 (i:=Bs.length+2) DN O (CX O) (CL _)) (Bk O O (fun Bs=>CY (lo:=(f.arity:Int).toNat) Be O (CF (Bv _)) ⟨_,pI An⟩ O AQ (Nat.le_refl _) (Jo a ((f.arity:Int).toNat))) ?_)))))));refine Bk O O (fun Bs=>BC O O (EL z (a.drop ((f.arity:Int).toNat)) AR) O) (J6 (Dv [.box b11 ((BO ((Bn (JB q) gl).1)).map .p),.box b14 ((BO q.2).map .p),.box b10 ((Ec f).map .p),.box b8 ((BO (apply z (a.drop ((f.arity:Int).toNat)))).map .p),.box b6 [.p (I gk),.p (I gi),.p (.str gn),.p (.lst (List.map Bz gl)),.p (.lst (BE gs))],.box b5 ((DX x).map .p),.box m [.p (.lst (List.map Bh ds)),.p (I n21)]] O (Cd (i:=3) BY O O O Ag AW (FP _)) ?_));refine Dv [.box b11 ((BO ((Bn (JB q) gl).1)).map .p),.box b14 ((BO q.2).map .p),.box b10 ((Ec f).map .p),.box b8 ((BO (apply z (a.drop ((f.arity:Int).toNat)))).map .p),.box b6 [.p (I gk),.p (I gi),.p (.str gn),.p (.lst (List.map Bz gl)),.p (.lst (BE gs))],.box b5 ((DX x).map .p),.box m [.p (.lst (List.map Bh ds)),.p (I n21)]] O (ED O) (J0 (Az (⟨O,_,_,⟨_,_,O,(A9 (i:=3) BY O O Ag),⟨_,_,O,O,O⟩⟩,(B4 (is:=[6]) O),?_⟩)));exact⟨⟨some _,_⟩,DA hC.symm,O,O⟩
set_option maxHeartbeats 4000000 in
theorem fq:∀(n m:Nat) (ds:List CH) (s:Int) (g:Tm) (a:List Tm),(pK ds n)→(Gh ds)→(Gg s)→(okB g=true)→(a.length<549755813888)→(∀y∈a,okB y=true)→(EU ds B1 (EA ds B1 n) n g a s≠ .stuck)→Bo Tryz.prog 76 [.ptr m 0,.agg ((BO g).map .p),.p (.lst (BE a))] [.box m [.p (.lst (List.map Bh ds)),.p (I s)]] (Km (fun(r:Option Tm×Int)=> .tup [TV (r.1.getD Bc),.p (.bool r.1.isSome)]) (fun _=> .p (.iface 122 .unit)) (fun r H'=>H'=[.box m [.p (.lst (List.map Bh ds)),.p (I r.2)]]) ((EU ds B1 (EA ds B1 n) n g a s).ex)):=by
 intro n m ds s g a hW h2 h3 h4 h5 h6 hns;obtain⟨gk,gi,gn,gl,gs⟩:=g;have hgo:=CM.1 h4;have hgl:=hgo.nd;simp only[Nd,Dc] at hgl;generalize hC:EU ds B1 (EA ds B1 n) n (.mk gk gi gn gl gs:Tm) a s=X at hns ⊢;refine A5 Tryz.func76 O rz (n:=40) O O (Aw (BF O (BN O) fun b4=>BF O (A7 Bw O) fun b6=>Ar Ay 1 [] O (Aw (Ax Ay 2 [1] O (Aq O (B9 [2] O (.inl ⟨O,O,O⟩) (Ph m ds s (.mk gk gi gn gl gs:Tm) h2.g.env) ⟨_,_,O,O,O⟩ Am O (.inl O)) (Ax Ay 3 [] O (BF O (A7 Hw O) fun b8=>Ar Ay 2 [0,1] O (As (Au Ay 2 [] O (Av O (fun c=>?_) (fun c=>?_)))))))))))
 ·(try simp only[sd,se] at c);rw[JQ c] at hC;refine Au Ay 3 [1,0] O (BH (BR (i:=1) O) (Az (⟨O,_,_,⟨_,_,O,(A9 (i:=1) BY O O O),⟨_,_,O,O,O⟩⟩,(B4 (is:=[3]) O),?_⟩)));exact⟨⟨none,s⟩,DA hC.symm,O,O⟩
 (try simp only[sd,se] at c);have hu:=c;obtain⟨ix,dd,e1,e2,e3,e4⟩:=Kk hu;have hde:=e2.decl;have hdg:=h2.g.all _ e3;have hel:=h2.g.env.len;have hil:=(List.getElem?_eq_some_iff.1 e1).1;have hfx:=hdg.fx;have hnr:=IH hdg;have hcl:=hdg.din.cl;have hfl:=hdg.din.fl;have hki:=e2.kind;have hkp:(Bp ds (Tm.mk gk gi gn gl gs).name).1.kind=0∨(Bp ds (Tm.mk gk gi gn gl gs).name).1.kind=1∨(Bp ds (Tm.mk gk gi gn gl gs).name).1.kind=2∨(Bp ds (Tm.mk gk gi gn gl gs).name).1.kind=3∨(Bp ds (Tm.mk gk gi gn gl gs).name).1.kind=4∨(Bp ds (Tm.mk gk gi gn gl gs).name).1.kind=5∨(Bp ds (Tm.mk gk gi gn gl gs).name).1.kind=6:=by omega
 refine A1 (As ?_);rcases hkp with hkk | hkk | hkk | hkk | hkk | hkk | hkk
 ·refine A2 (Ax Ay 6 [] O (Aq O (EM Jh Jg Qu O) (Aq O (A0 GH O O) (Aq O (A3 (i:=0) DN O O (Da _)) (Aq O (E6 (j:=0) Jh Jg O O (hkk) O Am) (Ar Ay 1 [] O (As (Aw (Bq O (Aq O (HD Aj (.inl ⟨O,O⟩) O) (Bg O ?_)))))))))));refine Av O (fun c1=>?_) (fun c1=>by cases c1);refine Aw ?_;rw[IK hu An An An] at hC;refine Ar Ay 3 [1,0] O (BH (BR (i:=1) O) (Az (⟨O,_,_,⟨_,_,O,(A9 (i:=1) BY O O O),⟨_,_,O,O,O⟩⟩,(B4 (is:=[3]) O),?_⟩)));exact⟨⟨none,s⟩,DA hC.symm,O,O⟩
 ·refine A2 (Ax Ay 6 [] O (Aq O (EM Jh Jg Qu O) (Aq O (A0 GH O O) (Aq O (A3 (i:=0) DN O O (Da _)) (Aq O (E6 (j:=1) Jh Jg O O (hkk) O Am) (Ar Ay 1 [] O (As (Aw (Bq O (Aq O (HD Aj (.inr ⟨⟨_,_,_,O⟩,O⟩) O) (Bg O ?_)))))))))));refine Av O (fun c1=>by cases c1) (fun c1=>?_);refine A1 (Aw (Ax Ay 4 [0,2] O ?_));rw[I5 hu e4 hkk] at hC;refine De [3] O O O (.inr O) (Va m ds s ((Bp ds (.mk gk gi gn gl gs:Tm).name).1) (.mk gk gi gn gl gs:Tm) a dd h3 e4 An hdg h4 h5 (by rw[hC];exact hns)) ⟨_,_,O,O,O⟩ Am (aw (we O) (aw (we O) (aw (we O) (aw (we O) (Eo))))) (fun _ _ h=>(congrArg List.length h).trans O) ?_ ?_
  rotate_left
  ·intro e _ he;exact⟨O,_,List.nil_sublist _,⟨_,by rw[←hC];exact he,rfl⟩⟩
  rintro⟨q,n2⟩ _ hz rfl;have hfin:=hz;refine Ar Ay 4 [1,1] O (Az (⟨O,_,_,⟨_,_,O,(A9 (i:=1) BY O O Ag),⟨_,_,O,O,O⟩⟩,(B4 (is:=[3]) O),?_⟩));exact⟨⟨q,n2⟩,by rw[←hC];exact hfin,rfl,rfl⟩
 ·refine A2 (Ax Ay 6 [] O (Aq O (EM Jh Jg Qu O) (Aq O (A0 GH O O) (Aq O (A3 (i:=0) DN O O (Da _)) (Aq O (E6 (j:=2) Jh Jg O O (hkk) O Am) (Ar Ay 1 [] O (As (Aw (Bq O (Aq O (HD Aj (.inl ⟨O,O⟩) O) (Bg O ?_)))))))))));refine Av O (fun c1=>?_) (fun c1=>by cases c1);refine Aw ?_;rw[IK hu An An An] at hC;refine Ar Ay 3 [1,0] O (BH (BR (i:=1) O) (Az (⟨O,_,_,⟨_,_,O,(A9 (i:=1) BY O O O),⟨_,_,O,O,O⟩⟩,(B4 (is:=[3]) O),?_⟩)));exact⟨⟨none,s⟩,DA hC.symm,O,O⟩
 ·refine A2 (Ax Ay 6 [] O (Aq O (EM Jh Jg Qu O) (Aq O (A0 GH O O) (Aq O (A3 (i:=0) DN O O (Da _)) (Aq O (E6 (j:=3) Jh Jg O O (hkk) O Am) (Ar Ay 1 [] O (As (Aw (Bq O (Aq O (HD Aj (.inl ⟨O,O⟩) O) (Bg O ?_)))))))))));refine Av O (fun c1=>?_) (fun c1=>by cases c1);refine Aw ?_;rw[IK hu An An An] at hC;refine Ar Ay 3 [1,0] O (BH (BR (i:=1) O) (Az (⟨O,_,_,⟨_,_,O,(A9 (i:=1) BY O O O),⟨_,_,O,O,O⟩⟩,(B4 (is:=[3]) O),?_⟩)));exact⟨⟨none,s⟩,DA hC.symm,O,O⟩
 ·refine A2 (Ax Ay 6 [] O (Aq O (EM Jh Jg Qu O) (Aq O (A0 GH O O) (Aq O (A3 (i:=0) DN O O (Da _)) (Aq O (E6 (j:=4) Jh Jg O O (hkk) O Am) (Ar Ay 1 [] O (As (Aw (Bq O (Aq O (HD Aj (.inl ⟨O,O⟩) O) (Bg O ?_)))))))))));refine Av O (fun c1=>?_) (fun c1=>by cases c1);refine Aw ?_;rw[IK hu An An An] at hC;refine Ar Ay 3 [1,0] O (BH (BR (i:=1) O) (Az (⟨O,_,_,⟨_,_,O,(A9 (i:=1) BY O O O),⟨_,_,O,O,O⟩⟩,(B4 (is:=[3]) O),?_⟩)));exact⟨⟨none,s⟩,DA hC.symm,O,O⟩
 ·refine A2 (Ax Ay 6 [] O (Aq O (EM Jh Jg Qu O) (Aq O (A0 GH O O) (Aq O (A3 (i:=0) DN O O (Da _)) (Aq O (E6 (j:=5) Jh Jg O O (hkk) O Am) (Ar Ay 1 [] O (As (Aw (Bq O (Aq O (HD Aj (.inr ⟨⟨_,_,_,O⟩,O⟩) O) (Bg O ?_)))))))))));refine Av O (fun c1=>by cases c1) (fun c1=>?_);refine A1 (Aw (Ax Ay 4 [0,2] O ?_));rw[Hp hu e4 hkk] at hC;refine De [3] O O O (.inr O) (mJ n m ds s ((Bp ds (.mk gk gi gn gl gs:Tm).name).1) (.mk gk gi gn gl gs:Tm) a dd hW h2.g h3 e4 An hdg h4 h5 h6 (by rw[hC];exact hns)) ⟨_,_,O,O,O⟩ Am (aw (we O) (aw (we O) (aw (we O) (aw (we O) (Eo))))) (fun _ _ h=>(congrArg List.length h).trans O) ?_ ?_
  rotate_left
  ·intro e _ he;exact⟨O,_,List.nil_sublist _,⟨_,by rw[←hC];exact he,rfl⟩⟩
  rintro⟨q,n2⟩ _ hz rfl;have hfin:=hz;refine Ar Ay 4 [1,1] O (Az (⟨O,_,_,⟨_,_,O,(A9 (i:=1) BY O O Ag),⟨_,_,O,O,O⟩⟩,(B4 (is:=[3]) O),?_⟩));exact⟨⟨q,n2⟩,by rw[←hC];exact hfin,rfl,rfl⟩
 refine A2 (Ax Ay 6 [] O (Aq O (EM Jh Jg Qu O) (Aq O (A0 GH O O) (Aq O (A3 (i:=0) DN O O (Da _)) (Aq O (E6 (j:=6) Jh Jg O O (hkk) O Am) (Ar Ay 1 [] O (As (Aw (Bq O (Aq O (HD Aj (.inr ⟨⟨_,_,_,O⟩,O⟩) O) (Bg O ?_)))))))))));refine Av O (fun c1=>by cases c1) (fun c1=>?_);refine A1 (Aw (Ax Ay 4 [0,2] O ?_));obtain⟨fk,ff,f1,f2⟩:=e2.func hkk;have hff:dd.funs[(Bp ds (Tm.mk gk gi gn gl gs).name).1.item.toNat]?=some ff:=by rw[f2];simpa using f1
 rw[HH hu e4 hkk hff] at hC;refine De [3] O O O (.inr O) (bu n m ds s ((Bp ds (.mk gk gi gn gl gs:Tm).name).1) (.mk gk gi gn gl gs:Tm) a dd ff hW h2 h3 e4 An hff An h4 h5 h6 (by rw[hC];exact hns)) ⟨_,_,O,O,O⟩ Am (aw (we O) (aw (we O) (aw (we O) (aw (we O) (Eo))))) (fun _ _ h=>(congrArg List.length h).trans O) ?_ ?_
 rotate_left
 ·intro e _ he;exact⟨O,_,List.nil_sublist _,⟨_,by rw[←hC];exact he,rfl⟩⟩
 rintro⟨q,n2⟩ _ hz rfl;have hfin:=hz;refine Ar Ay 4 [1,1] O (Az (⟨O,_,_,⟨_,_,O,(A9 (i:=1) BY O O Ag),⟨_,_,O,O,O⟩⟩,(B4 (is:=[3]) O),?_⟩));exact⟨⟨q,n2⟩,by rw[←hC];exact hfin,rfl,rfl⟩
theorem tN (t:Tm):∀c∈BO t,c≠ .nils:=by obtain⟨k,i,n,l,s⟩:=t;simp[BO]
theorem FE (l:List Tm):∀r∈BE l,∀c∈r,c≠ .nils:=by
 intro r hr;rw[EE] at hr;obtain⟨t,_,rfl⟩:=List.mem_map.1 hr;exact tN t
set_option maxHeartbeats 4000000 in
theorem MA:∀(ds:List CH) (hE:Gh ds) (n:Nat),pK ds n:=by
 intro ds hE n
 induction n using Nat.strongRecOn with
 | ind n ih =>
  intro m t s h1 hns;generalize hX:EA ds B1 n s t=X at hns ⊢;refine A5 Tryz.func39 O sa (n:=95) O O (Aw (BF O (BN O) fun b3=>BF O (A7 Bw O) fun b4=>Bg O (A8 (Bb (α:=Nat×Tm×Int) (fun(k2,w,d)=>⟨95,mk [(0,.ptr m 0),(3,.ptr b3 0),(4,.ptr b4 0)],[.box b4 [.p (I 0),.p (I 0),.p (.str ⟨#[]⟩),.p (.nils),.p (.nils)],.box b3 ((BO w).map .p),.box m [.p (.lst (List.map Bh ds)),.p (I d)]],[]⟩) (fun(k2,w,d)=>k2) (fun(k2,w,d)=>EA ds B1 k2 d w=X∧Gg d∧k2≤n) ⟨n,t,s⟩ (⟨hX,h1,Nat.le_refl _⟩) ?_ ?_))))
  ·exact BU ⟨we O,we O,we O,Ap⟩ (leH (is:=[0,1,2]) O (wl (oe O) (wl (oe O) (wl (oe O) (C3)))))
  rintro⟨k2,w,d⟩ hC
  try simp only at hC
  obtain⟨hC,hJ,hmn⟩:=hC;obtain⟨k,rfl⟩:=ZL hC hns;have hwo:=XG hC hns;have hsp:=WV hwo;have hsl:=hsp.len;have hss:=hsp.sz;have hsa:=hsp.asz;refine A8 (Aw (Aq O (BT (i:=1) BY O O Ag) (Aq O (BC O O (ML w hsp.nd AZ) O) (Ax Ay 3 [] O (BF O (A7 Bw O) fun b5=>Ar Ay 2 [0,1] O (As (Aw (Bq O (Aq O (BK Be O (BQ _)) (Ar Ay 1 [] O (Av O (fun c=>?_) (fun c=>?_))))))))))))
  ·(try simp only[sd,se] at c);exact A2 (Aq O (CP eG Yy O) (Aq O (JU Aj O) (OZ O O (MY O) (⟨O,_,List.nil_sublist _,⟨_,ic (hC.symm.trans (ZQ hwo O (by simp only[B1];exact decide_eq_true An))),O⟩⟩))))
  (try simp only[sd,se] at c);have hmany:B1.many (BA w).2.length=false:=by simp only[B1];exact decide_eq_false An
  refine A1 (Aw (Aq O (A0 HO O O) ?_));generalize hz:(BA w).1=z;obtain⟨zk,zi,zn,zl,zs⟩:=z;have hzo:okB (.mk zk zi zn zl zs)=true:=hz▸hsp.head;have hzq:=hz;have hzl:=JM hzo;have hzn:=(CM.1 hzo).nd;refine Ar Ay 1 [0] O (A8 (Au Ay 2 [] O (Av O (fun c1=>?_) (fun c1=>?_))))
  ·(try simp only[sd,se] at c1);have hk:=(congrArg Tm.kind hzq).trans c1;refine As (Aw (Bq O (Aq O (BK Be O (BQ _)) (Ar Ay 1 [] O (Av O (fun c2=>?_) (fun c2=>?_))))))
   ·(try simp only[sd,se] at c2);rw[OM hwo rfl hmany hk An] at hC;refine Au Ay 2 [2,1,1] O (Az (⟨O,_,_,⟨_,_,O,(A9 (i:=1) BY O O Ag),O⟩,(B4 (is:=[3]) O),?_⟩));exact⟨⟨_,_⟩,DA hC.symm,O,O⟩
   (try simp only[sd,se] at c2);refine A1 ?_;obtain⟨x,hx⟩:=A6 (l:=zs) (i:=1) An;obtain⟨x1,hx1⟩:=A6 (l:=(BA w).2) (i:=0) An;have hxo:=F6 hzo (i:=1) hx;have hx1o:=hsp.args _ (List.mem_of_getElem? hx1);rw[RP hwo rfl hmany hk An (by rw[hzq];exact hx),kG hx1] at hC;have hn3:=hns;rw[←hC] at hn3;obtain⟨e,he⟩ | ⟨⟨z1,n2⟩,hz⟩:=FK (JZ d (CJ x [x1] 0))
   ·refine Iv ((fun _=> .p (.iface 122 .unit)) e) 9 [.val (.ptr m 0),.val (.ptr b5 (0+4)),.val (.p (.lst (BE zs))),.val (.ref (BO x)),.val (.agg ((BO x).map .p)),.val (.p (.lst (BE ((BA w).2)))),.val (.ref (BO x1)),.val (.agg ((BO x1).map .p)),.val (.p (.lst (BE [x1]))),.val (.p .any),.val (.p (.lst (BE ((BA w).2)))),.val (.p (.lst (BE (((BA w).2).drop 1)))),.val (.p .any),.val (.p .any)] Dn O Aj O Ap (fun _ _=>by exact⟨rfl,_,List.nil_sublist _,⟨_,by rw[←hC];exact KD hn3 he,rfl⟩⟩) ?_;refine B7 O O (fun Bs=>BZ O) (B7 O O (fun Bs=>A0 HO O O) (B7 O O (fun Bs=>B5 (i:=Bs.length+0) Gj O (CX O) O) (B7 O O (fun Bs=>A4 Be O O An (Bd hx) (BD _)) (B7 O O (fun Bs=>BM BY O (BD _)) (B7 O O (fun Bs=>BZ O) (B7 O O (fun Bs=>A4 Be O O An (Bd hx1) (BD _)) (B7 O O (fun Bs=>BM BY O (BD _)) (B7 O O (fun Bs=>Bx (rows:=BE [x1]) Be Bw O O O O (CF (Bv _)) (FE _)) (Kr (mkp:=(fun _=> .p (.iface 122 .unit))) (e:=e) [3] he O O (.inl ⟨O,O,O⟩) (Kp m ds d x [x1] hJ hxo (ok_one hx1o) Jx) ⟨_,_,O,O,O⟩ Am (aw (we O) (aw (we O) (aw (we O) (Eo)))) (B7 O O (fun Bs=>BZ O) ?_))))))))));exact B7 O O (fun Bs=>CY (lo:=1) Be O (CF (Bv _)) ⟨_,O⟩ O AQ (Nat.le_refl _) (Jo ((BA w).2) 1)) (C9 O O Aj (C9 O O Aj K4))
   rw[KC hn3 hz] at hC;have hJ3:=(Q8 hJ hz).1;refine ID [.box b5 [.p (I zk),.p (I zi),.p (.str zn),.p (.lst (List.map Bz zl)),.p (.lst (BE zs))],.box b4 [.p (I 0),.p (I 0),.p (.str ⟨#[]⟩),.p (.nils),.p (.nils)],.box b3 ((BO w).map .p),.box m [.p (.lst (List.map Bh ds)),.p (I n2)]] 9 [.val (.ptr m 0),.val (.ptr b5 (0+4)),.val (.p (.lst (BE zs))),.val (.ref (BO x)),.val (.agg ((BO x).map .p)),.val (.p (.lst (BE ((BA w).2)))),.val (.ref (BO x1)),.val (.agg ((BO x1).map .p)),.val (.p (.lst (BE [x1]))),.val (.agg ((BO z1).map .p)),.val (.p (.lst (BE ((BA w).2)))),.val (.p (.lst (BE (((BA w).2).drop 1)))),.val (.agg ((BO (apply z1 (((BA w).2).drop 1))).map .p))] [.p .any] [] Dn O Aj Aj Aj O ?_ ?_
   ·exact Ap
   refine Bk O O (fun Bs=>BZ O) (Bk O O (fun Bs=>A0 HO O O) (Fz O O O (fun Bs=>B5 (i:=Bs.length+0) Gj O (CX O) O) (fun Bs=>B5 (i:=Bs.length+0) Gj O (CX O) O) (Bk O O (fun Bs=>A4 Be O O An (Bd hx) (BD _)) (Bk O O (fun Bs=>BM BY O (BD _)) (Bk O O (fun Bs=>BZ O) (Bk O O (fun Bs=>A4 Be O O An (Bd hx1) (BD _)) (Bk O O (fun Bs=>BM BY O (BD _)) (Bk O O (fun Bs=>Bx (rows:=BE [x1]) Be Bw O O O O (CF (Bv _)) (FE _)) (KB O (fun Bs=>Gx [3] O (.inl ⟨O,O,O⟩) (K6 hz (Kp m ds d x [x1] hJ hxo (ok_one hx1o) Jx)) ⟨_,_,O,O,O⟩ Am O (aw (we O) (aw (we O) (aw (we O) (Eo))))) (Bk O O (fun Bs=>BZ O) ?_))))))))));refine Bk O O (fun Bs=>CY (lo:=1) Be O (CF (Bv _)) ⟨_,O⟩ O AQ (Nat.le_refl _) (Jo ((BA w).2) 1)) (Bk O O (fun Bs=>BC O O (EL z1 (((BA w).2).drop 1) AR) O) (J6 (Dv [.box b5 [.p (I zk),.p (I zi),.p (.str zn),.p (.lst (List.map Bz zl)),.p (.lst (BE zs))],.box b4 [.p (I 0),.p (I 0),.p (.str ⟨#[]⟩),.p (.nils),.p (.nils)],.box b3 ((BO (apply z1 (((BA w).2).drop 1))).map .p),.box m [.p (.lst (List.map Bh ds)),.p (I n2)]] O (Cd (i:=2) BY O O O Ag AW (FP _)) (J0 ?_))));refine⟨⟨k,(apply z1 (((BA w).2).drop 1)),n2⟩,AT,⟨hC,by assumption,by omega⟩,BU ⟨we rfl,we rfl,we rfl,trivial⟩ (leH (is:=[1,2,3]) rfl (wl (oe rfl) (wl (oe rfl) (wl (oe rfl) (C3)))))⟩
  (try simp only[sd,se] at c1);refine Au Ay 2 [] O (Av O (fun c2=>?_) (fun c2=>?_))
  ·(try simp only[sd,se] at c2);have hk:=(congrArg Tm.kind hzq).trans c2;obtain⟨x,hx⟩:=A6 (l:=zs) (i:=2) An;obtain⟨x1,hx1⟩:=A6 (l:=zs) (i:=1) An;have hxo:=F6 hzo (i:=2) hx;have hx1o:=F6 hzo (i:=1) hx1;rw[R7 hwo rfl hmany hk (by rw[hzq];exact hx1) (by rw[hzq];exact hx)] at hC;have hn3:=hns;rw[←hC] at hn3;obtain⟨e,he⟩ | ⟨⟨z1,n2⟩,hz⟩:=FK (JZ d (CJ x [x1] 0))
   ·refine Iv ((fun _=> .p (.iface 122 .unit)) e) 10 [.val (.ptr m 0),.val (.ptr b5 (0+4)),.val (.p (.lst (BE zs))),.val (.ref (BO x)),.val (.agg ((BO x).map .p)),.val (.ptr b5 (0+4)),.val (.p (.lst (BE zs))),.val (.ref (BO x1)),.val (.agg ((BO x1).map .p)),.val (.p (.lst (BE [x1]))),.val (.p .any),.val (.p (.lst (BE ((BA w).2)))),.val (.p .any),.val (.p .any)] Dn O Aj O Ap (fun _ _=>by exact⟨rfl,_,List.nil_sublist _,⟨_,by rw[←hC];exact KD hn3 he,rfl⟩⟩) ?_;refine B7 O O (fun Bs=>BZ O) (B7 O O (fun Bs=>A0 HO O O) (B7 O O (fun Bs=>B5 (i:=Bs.length+0) Gj O (CX O) O) (B7 O O (fun Bs=>A4 Be O O An (Bd hx) (BD _)) (B7 O O (fun Bs=>BM BY O (BD _)) (B7 O O (fun Bs=>A0 HO O O) (B7 O O (fun Bs=>B5 (i:=Bs.length+0) Gj O (CX O) O) (B7 O O (fun Bs=>A4 Be O O An (Bd hx1) (BD _)) (B7 O O (fun Bs=>BM BY O (BD _)) (B7 O O (fun Bs=>Bx (rows:=BE [x1]) Be Bw O O O O (CF (Bv _)) (FE _)) (Kr (mkp:=(fun _=> .p (.iface 122 .unit))) (e:=e) [3] he O O (.inl ⟨O,O,O⟩) (Kp m ds d x [x1] hJ hxo (ok_one hx1o) Jx) ⟨_,_,O,O,O⟩ Am (aw (we O) (aw (we O) (aw (we O) (Eo)))) ?_))))))))));exact B7 O O (fun Bs=>BZ O) (C9 O O Aj (C9 O O Aj K4))
   rw[KC hn3 hz] at hC;have hJ3:=(Q8 hJ hz).1;refine ID [.box b5 [.p (I zk),.p (I zi),.p (.str zn),.p (.lst (List.map Bz zl)),.p (.lst (BE zs))],.box b4 [.p (I 0),.p (I 0),.p (.str ⟨#[]⟩),.p (.nils),.p (.nils)],.box b3 ((BO w).map .p),.box m [.p (.lst (List.map Bh ds)),.p (I n2)]] 10 [.val (.ptr m 0),.val (.ptr b5 (0+4)),.val (.p (.lst (BE zs))),.val (.ref (BO x)),.val (.agg ((BO x).map .p)),.val (.ptr b5 (0+4)),.val (.p (.lst (BE zs))),.val (.ref (BO x1)),.val (.agg ((BO x1).map .p)),.val (.p (.lst (BE [x1]))),.val (.agg ((BO z1).map .p)),.val (.p (.lst (BE ((BA w).2)))),.val (.agg ((BO (apply z1 ((BA w).2))).map .p))] [.p .any] [] Dn O Aj Aj Aj O ?_ ?_
   ·exact Ap
   refine Bk O O (fun Bs=>BZ O) (Bk O O (fun Bs=>A0 HO O O) (Fz O O O (fun Bs=>B5 (i:=Bs.length+0) Gj O (CX O) O) (fun Bs=>B5 (i:=Bs.length+0) Gj O (CX O) O) (Bk O O (fun Bs=>A4 Be O O An (Bd hx) (BD _)) (Bk O O (fun Bs=>BM BY O (BD _)) (Bk O O (fun Bs=>A0 HO O O) (Fz O O O (fun Bs=>B5 (i:=Bs.length+0) Gj O (CX O) O) (fun Bs=>B5 (i:=Bs.length+0) Gj O (CX O) O) (Bk O O (fun Bs=>A4 Be O O An (Bd hx1) (BD _)) (Bk O O (fun Bs=>BM BY O (BD _)) (Bk O O (fun Bs=>Bx (rows:=BE [x1]) Be Bw O O O O (CF (Bv _)) (FE _)) ?_)))))))));refine KB O (fun Bs=>Gx [3] O (.inl ⟨O,O,O⟩) (K6 hz (Kp m ds d x [x1] hJ hxo (ok_one hx1o) Jx)) ⟨_,_,O,O,O⟩ Am O (aw (we O) (aw (we O) (aw (we O) (Eo))))) (Bk O O (fun Bs=>BZ O) (Bk O O (fun Bs=>BC O O (EL z1 ((BA w).2) AR) O) (J6 (Dv [.box b5 [.p (I zk),.p (I zi),.p (.str zn),.p (.lst (List.map Bz zl)),.p (.lst (BE zs))],.box b4 [.p (I 0),.p (I 0),.p (.str ⟨#[]⟩),.p (.nils),.p (.nils)],.box b3 ((BO (apply z1 ((BA w).2))).map .p),.box m [.p (.lst (List.map Bh ds)),.p (I n2)]] O (Cd (i:=2) BY O O O Ag AW (FP _)) (J0 ?_)))));refine⟨⟨k,(apply z1 ((BA w).2)),n2⟩,AT,⟨hC,by assumption,by omega⟩,BU ⟨we rfl,we rfl,we rfl,trivial⟩ (leH (is:=[1,2,3]) rfl (wl (oe rfl) (wl (oe rfl) (wl (oe rfl) (C3)))))⟩
  (try simp only[sd,se] at c2);refine As (Au Ay 2 [] O (BS [0,3,4,5,6,21] 57 (fun y=>y= .p (.bool (decide (zk=9∨zk=10)))) ?_ ?_))
  ·refine Av O (fun c3=>?_) (fun c3=>?_)
   ·(try simp only[sd,se] at c3);exact A1 (⟨O,O,(List.Sublist.refl _),(by refine pB (Bool.eq_iff_iff.2 ?_);simp only[beq_iff_eq,decide_eq_true_eq];omega),⟨O,O,O,O,O,O,Ap⟩⟩)
   (try simp only[sd,se] at c3);exact A2 (Ar Ay 2 [] O (⟨O,O,(List.Sublist.refl _),(by refine pB (Bool.eq_iff_iff.2 ?_);simp only[beq_iff_eq,decide_eq_true_eq];omega),⟨O,O,O,O,O,O,Ap⟩⟩))
  rintro _ rfl;refine Av O (fun c3=>?_) (fun c3=>?_)
  ·(try simp only[sd,se] at c3);have hk9:zk=9∨zk=10:=by simpa using c3
   refine Aw (Ax Ay 3 [0] O ?_);obtain⟨x,hx⟩:=A6 (l:=zs) (i:=0) An;rw[OL hwo rfl hmany (by rw[hzq];exact hk9) (by rw[hzq];exact hx)] at hC;have hn0:=hns;rw[←hC] at hn0;have hn1:=T8 hn0;refine Aq O (A4 Be O O An (Bd hx) (BD _)) (Aq O (BM BY O (BD _)) (De [3] O O O (.inl ⟨O,O,O⟩) (ih k An m x d hJ hn1) ⟨_,_,O,O,O⟩ Am (aw (we O) (aw (we O) (Eo))) (fun _ _ h=>(congrArg List.length h).trans O) ?_ ?_))
   rotate_left
   ·intro e _ he;exact⟨O,_,List.nil_sublist _,⟨_,by rw[←hC];exact Uf hn0 he,rfl⟩⟩
   rintro⟨pr,n2⟩ _ hz rfl;obtain⟨hr2,hr3⟩:=UI hn0 hz;rw[hr3] at hC;have hJ2:=QV hJ (HJ hz);refine BF O (A7 Bw O) fun b7=>Ar Ay 1 [0,1] O (As (Aw (Aq O (A0 HO O O) ?_)));obtain⟨prk,pri,prn,prl,prs⟩:=pr;have hprl:=JM hr2;refine Ar Ay 2 [0] O (Av O (fun c4=>?_) (fun c4=>?_))
   ·(try simp only[sd,se] at c4);rw[Lu (r:=(Tm.mk prk pri prn prl prs,n2)) c4,hzq] at hC;refine Aw (Ax Ay 3 [1,0] O (Aq O (Bx (rows:=BE [(.mk prk pri prn prl prs:Tm)]) Be Bw O O O O (CF (Bv _)) (FE _)) (Ax Ay 2 [] O (Aq O (Gw O O (EL (.mk zk 0 ⟨#[]⟩ [] [(.mk prk pri prn prl prs:Tm)]:Tm) ((BA w).2) AR) (aw (Dt O) (aw (we O) (Eo)))) (Ar Ay 1 [2,1] O (Az (⟨O,_,_,⟨_,_,O,(A9 (i:=2) BY O O Ag),O⟩,(B4 (is:=[4]) O),?_⟩)))))));exact⟨⟨_,_⟩,DA hC.symm,O,O⟩
   (try simp only[sd,se] at c4);have hp8:=c4;refine A1 (A2 (Ax Ay 3 [1,0] O ?_));obtain⟨cq,hcq⟩:=A6 (l:=prs) (i:=(1+zk - 9).toNat) (by have:=hprl.2.2.2 hp8;omega);have hcqo:=F6 hr2 (i:=(1+zk - 9).toNat) hcq;rw[Oo (r:=(Tm.mk prk pri prn prl prs,n2)) (h:=(BA w).1) hp8 (by rw[hzq];exact hcq)] at hC;have hn3:=hns;rw[←hC] at hn3;refine De [4] O O O (.inl ⟨O,O,O⟩) (ZB m ds n2 (.mk zk zi zn zl zs:Tm) (.mk prk pri prn prl prs:Tm) cq hJ2 hk9 hcq) ⟨_,_,O,O,O⟩ Am (aw (we O) (aw (we O) (aw (we O) (Eo)))) (fun _ _ h=>(congrArg List.length h).trans O) ?_ ?_
   rotate_left
   ·intro e _ he;exact⟨O,_,List.nil_sublist _,⟨_,by rw[←hC];exact KD hn3 he,rfl⟩⟩
   rintro⟨z1,n21⟩ _ hz1 rfl;rw[KC hn3 hz1] at hC;have hJ3:=(Q8 hJ2 hz1).1;refine Bq O (Aq O (BC O O (EL z1 ((BA w).2) AR) O) (Ar Ay 1 [3,1] O ?_));refine⟨⟨k,(apply z1 ((BA w).2)),n21⟩,AT,⟨hC,by assumption,by omega⟩,BU ⟨we rfl,we rfl,we rfl,trivial⟩ (leH (is:=[2,3,4]) rfl (wl (oe rfl) (wl (oe rfl) (wl (oe rfl) (C3)))))⟩
  (try simp only[sd,se] at c3);refine Au Ay 2 [] O (Av O (fun c4=>?_) (fun c4=>?_))
  ·(try simp only[sd,se] at c4);have hk:=(congrArg Tm.kind hzq).trans c4;refine Aw (Ax Ay 3 [0] O ?_);rw[KZ hwo rfl hmany hk,hzq] at hC;have hn0:=hns;rw[←hC] at hn0;have hn1:=Iw hn0;refine De [3] O O O (.inl ⟨O,O,O⟩) (fq k m ds d (.mk zk zi zn zl zs:Tm) ((BA w).2) (ih k An) hE hJ hzo An hsp.args hn1) ⟨_,_,O,O,O⟩ Am (aw (we O) (aw (we O) (aw (we O) (Eo)))) (fun _ _ h=>(congrArg List.length h).trans O) ?_ ?_
   rotate_left
   ·intro e _ he;exact⟨O,_,List.nil_sublist _,⟨_,by rw[←hC];exact Jt hn0 he,rfl⟩⟩
   rintro⟨q,n2⟩ _ hz rfl;rw[Ku hz] at hC;have hJ2:=XC hJ (HJ hz);refine Ax Ay 3 [] O (BF O (A7 Bw O) fun b8=>Ar Ay 2 [0,1] O (As (Au Ay 2 [] O (Av O (fun c5=>?_) (fun c5=>?_)))))
   ·(try simp only[sd,se] at c5);rw[Rh (by simpa using c5)] at hC;refine Au Ay 2 [3,2,1] O (Az (⟨O,_,_,⟨_,_,O,(A9 (i:=2) BY O O Ag),O⟩,(B4 (is:=[4]) O),?_⟩));exact⟨⟨_,_⟩,DA hC.symm,O,O⟩
   (try simp only[sd,se] at c5);rw[RG (by simpa using c5)] at hC;refine A1 (A2 (Ar Ay 2 [0,3,1] O ?_));refine⟨⟨k,(q.getD Bc),n2⟩,AT,⟨hC,by assumption,by omega⟩,BU ⟨we rfl,we rfl,we rfl,trivial⟩ (leH (is:=[2,3,4]) rfl (wl (oe rfl) (wl (oe rfl) (wl (oe rfl) (C3)))))⟩
  (try simp only[sd,se] at c4);rw[VG hwo rfl hmany (by rw[hzq];assumption) (by rw[hzq];assumption) (by rw[hzq];show ¬zk=9;omega) (by rw[hzq];show ¬zk=10;omega) (by rw[hzq];assumption)] at hC;refine Au Ay 2 [2,1,1] O (Az (⟨O,_,_,⟨_,_,O,(A9 (i:=1) BY O O Ag),O⟩,(B4 (is:=[3]) O),?_⟩));exact⟨⟨_,_⟩,DA hC.symm,O,O⟩
theorem iH:∀(be:Nat) (ce:List AV),Eb Tryz.prog 71 [.ptr be 0] (.ret) [.box be ce] (fun H'=>H'=[.box be ce]):=by
 intro be ce;refine H9 (ty2:=0) Tryz.func71 O oK (n:=14) O O O O O O (Aw (Bq O (Aq O (HL ah O O O) (Bg O ?_))));refine Av O (fun c=>by cases c) (fun c=>?_);exact A1 ⟨.inl O,O,_,(B4 (is:=[0]) O),O⟩
theorem jP:∀(be:Nat),Eb Tryz.prog 71 [.ptr be 0] (.pan (.p (.iface 122 (.unit)))) [.box be [.p (I 0)]] (fun H'=>H'=[.box be [.p (I 11)]]):=by
 intro be;refine H9 (ty2:=0) Tryz.func71 O oK (n:=14) O O O O O O (Aw (Bq O (Aq O (HL ah O O O) (Bg O ?_))));refine Av O (fun c=>?_) (fun c=>by cases c);refine Au Ay 1 [0,0] O (Aw (Bq O (Aq O (VI Aj O) (Ax Ay 3 [] O (BF O (A7 Yy O) fun b2=>Aq O (RJ ow O O) (Ar Ay 1 [] O (Au Ay 2 [] O ?_)))))));refine Av O (fun c1=>by cases c1) (fun c1=>?_);exact A1 ⟨.inl O,O,_,(B4 (is:=[1]) O),O⟩
theorem Qi:∀{α:Type}(x:Except Int α) (a:α) (hx:x= .ok a) (cn:α→Int) (G:α→List BI) (fid:Nat) (caps:List AV) (T:List BI) (ds:List CH) (hf:∀m,Bo Tryz.prog fid ([.ptr m 0]++caps) (.box m [.p (.lst (List.map Bh ds)),.p (I 20000)]::T) (Km (fun _=> .tup []) (fun _=> .p (.iface 122 .unit)) (fun a H'=>H'= .box m [.p (.lst (List.map Bh ds)),.p (I (cn a))]::G a) x)),Bo Tryz.prog 37 [.p (.lst (List.map Bh ds)),.fn (.func fid) [] caps] T (GU (.p (I 0)) (G a)):=by
 intro α x a hx cn G fid caps T ds hf;refine FL Tryz.func37 O m6 (n:=11) O O (Aw (BF O (A7 cP O) fun b4=>Bg O (Aw (Aq O (Ei O O) (Ny O O O O (Bg O (Aw (Ax Ay 3 [] O (BF O (BN O) fun b9=>ME (List.Perm.swap _ _ _) (IP [_] O O O (.inr O) (hf b9) (DF _) ?_ ?_))))))))))
 rotate_left
 ·rintro v T2 ⟨e2,h1,_⟩;rw[hx] at h1;cases h1
 rintro v T2 ⟨a2,h1,rfl,rfl⟩;rw[hx] at h1;cases h1;refine Bg O (Au Ay 1 [0,0] O (Az ⟨_,[_],_,O,List.Perm.refl _,Eb.eq (iH b4 _) ?_⟩));refine⟨_,_,⟨_,_,O,(Gr (i:=0) Sf O O),O⟩,(Gy [] [_,_] O),?_⟩
 all_goals exact⟨rfl,rfl⟩
theorem O0:∀{α:Type}(x:Except Int α) (e:Int) (hx:x= .error e) (cn:α→Int) (G:α→List BI) (fid:Nat) (caps:List AV) (T:List BI) (ds:List CH) (hf:∀m,Bo Tryz.prog fid ([.ptr m 0]++caps) (.box m [.p (.lst (List.map Bh ds)),.p (I 20000)]::T) (Km (fun _=> .tup []) (fun _=> .p (.iface 122 .unit)) (fun a H'=>H'= .box m [.p (.lst (List.map Bh ds)),.p (I (cn a))]::G a) x)),Bo Tryz.prog 37 [.p (.lst (List.map Bh ds)),.fn (.func fid) [] caps] T (GU (.p (I 11)) []):=by
 intro α x e hx cn G fid caps T ds hf;refine FL Tryz.func37 O m6 (n:=11) O O (Aw (BF O (A7 cP O) fun b4=>Bg O (Aw (Aq O (Ei O O) (Ny O O O O (Bg O (Aw (Ax Ay 3 [] O (BF O (BN O) fun b9=>ME (List.Perm.swap _ _ _) (IP [_] O O O (.inr O) (hf b9) (DF _) ?_ ?_))))))))))
 ·rintro v T2 ⟨a2,h1,_⟩;rw[hx] at h1;cases h1
 rintro v T2 ⟨e2,h1,rfl⟩;refine⟨_,_,_,O,MS (is:=[0]) _ Am ⟨_,_,O,O,O⟩,Eb.eq (jP b4) ?_⟩;refine⟨_,[],⟨_,_,O,(Gr (i:=0) Sf O O),O⟩,(List.nil_sublist _),?_⟩;exact⟨O,O⟩
end Go.Proofs.YtboammbpdaoojaaGreat
namespace Go.Eu
open Go.Abs
structure Lt (c:EP):Prop where
 ov:c.over=false
 lm:c.limit=1000
 s0:0≤c.steps
 s1:c.steps≤1000
 n0:0≤c.nodes
 n1:c.nodes≤2000
theorem ec:Lt NB:=⟨rfl,rfl,by decide,by decide,by decide,by decide⟩
theorem Ja:e7 DU (fun a b=>b.over=false→a.over=false):=by
 refine⟨fun s h=>h,fun h1 h2 h=>h1 (h2 h),fun h hb=>?_⟩;simp only[DU,Option.some.injEq] at h;subst h;simp only[EP.result,EP.form,Bool.or_eq_false_iff] at hb;exact hb.1
theorem kq {c:EP}{t:Tm}{e:Int}(h:Lt c) (ho:okB t=true) (hv:(c.result t e).over=false):e=0∧Lt (c.result t e)∧(c.result t e).steps=c.steps+1∧(c.result t e).nodes=c.nodes+size t:=by
 have hs:=Fk ho;have h1:=h.s0;have h2:=h.s1;have h3:=h.n0;have h4:=h.n1;have h5:=h.lm;have hw:wr (c.steps+1)=c.steps+1:=EY (by unfold Iz;omega);have hz:Ek t=size t:=OB An;have hw2:wr (c.nodes+size t)=c.nodes+size t:=EY (by unfold Iz;omega);have hw3:wr (2*1000)=2000:=EY (by unfold Iz;omega);have hv':=hv;simp only[EP.result,EP.form,hw,hz,hw2,h5,hw3,Bool.or_eq_false_iff,decide_eq_false_iff_not,bne_eq_false_iff_eq] at hv';have hst:(c.result t e).steps=c.steps+1:=by simp only[EP.result,EP.form,hw]
 have hnd:(c.result t e).nodes=c.nodes+size t:=by simp only[EP.result,EP.form,hz,hw2]
 exact⟨by omega,⟨hv,by simp only[EP.result,EP.form,h5],by omega,by omega,by omega,by omega⟩,hst,hnd⟩
theorem JV {α:Type}{c:EP}{x:Tm×Int}{k:Tm→EP→Out (α×EP)}{k':Tm→Int→Out (α×Int)}{q:α}{c':EP}(hL:Lt c) (hk:∀t c1 q c2,k t c1= .ok (q,c2)→c2.over=false→c1.over=false) (hq:DU.put c x k= .ok (q,c')) (hv:c'.over=false) :
  okB x.1=true∧Lt (c.result x.1 x.2)∧(c.result x.1 x.2).steps=c.steps+1∧(c.result x.1 x.2).nodes=c.nodes+size x.1∧k x.1 (c.result x.1 x.2)= .ok (q,c')∧∀l:Int,1000 - c.steps≤l→B1.put l x k'=k' x.1 (l - 1):=by
 obtain⟨h1,h2⟩:=Jz (h:=(by rw[hq];simp));rw[h2] at hq;obtain⟨h3,h4,h5,h6⟩:=kq hL h1 (hk _ _ _ _ hq hv);refine⟨h1,h4,h5,h6,hq,fun l hl=>?_⟩;have:=h4.s1;unfold Sys.put;rw[if_pos h1];simp only[B1];rw[if_neg An]
section
variable {E:List CH}
structure X8 (c c':EP) (z z':Nat):Prop where
 lt:Lt c'
 st:c.steps≤c'.steps
 nd:c.nodes≤c'.nodes
 sz:(z':Int)≤z+(c'.nodes - c.nodes)
def SW (n:Nat) (W:EP→Tm→Out (Tm×EP)) (V:Int→Tm→Out (Tm×Int)):Prop:=∀c t r c',Lt c→W c t= .ok (r,c')→c'.over=false→(size t:Int)≤30000+c.nodes →
 X8 c c' (size t) (size r)∧∀l:Int,1000 - c.steps≤l→V l t= .ok (r,l - (c'.steps - c.steps))
variable {n:Nat}{W:EP→Tm→Out (Tm×EP)}{V:Int→Tm→Out (Tm×Int)}
theorem Pm (hW:SW n W V) (hO:∀c t r c',W c t= .ok (r,c')→c'.over=false→c.over=false):∀(k:Nat) (t:Es) (vs:List Tm) (la:Tm) (c c':EP) (q:Option (Tm×List Tm)×Tm),Lt c→Dp E DU W k t vs la c= .ok (q,c')→c'.over=false→(∀v∈vs,(size v:Int)≤30000+c.nodes)→(size la:Int)≤30000+c.nodes →
  X8 c c' 0 0∧(q.1=none→(size q.2:Int)≤30000+c'.nodes)∧∀l:Int,1000 - c.steps≤l→Dp E B1 V k t vs la l= .ok (q,l - (c'.steps - c.steps))
 | 0,t,vs,la,c,c',q,hL,h,hv,hz,hla=>by rw[Dp] at h;cases h
 | k+1,t,vs,la,c,c',q,hL,h,hv,hz,hla=>by
  have self:X8 c c 0 0:=⟨hL,Int.le_refl _,Int.le_refl _,by simp⟩;by_cases hk:t.kind=1
  ·by_cases hb:t.var<0∨t.var≥(vs.length:Int)
   ·have hb1:t.var<0∨t.var≥(vs.length:Int)∨DU.over c=true:=by rcases hb with h | h;exact .inl h;exact .inr (.inl h)
    rw[JY hk hb1] at h;cases h;refine⟨self,fun _=>hla,fun l hl=>?_⟩;rw[JY hk (by rcases hb with h | h;exact .inl h;exact .inr (.inl h)),Int.sub_self,Int.sub_zero]
   have hb1:¬(t.var<0∨t.var≥(vs.length:Int)∨DU.over c=true):=by
    have:DU.over c=false:=hL.ov;rw[this];simp;omega
   have hb2:∀l,¬(t.var<0∨t.var≥(vs.length:Int)∨B1.over l=true):=fun l=>by simp[B1];omega
   have hlt:t.var.toNat<vs.length:=by omega
   have hx:=List.getElem?_eq_getElem hlt;have hxm:=List.getElem_mem hlt;rw[LC hk hb1 hx] at h;obtain⟨⟨r,c1⟩,h1,h2,h3⟩:=J7 h;have hv1:c1.over=false:=by
    cases hc:DD E r with
    | none=>rw[GP hc] at h3;cases h3;exact hv
    | some p =>
     obtain⟨d,j,f⟩:=p;cases hbr:Cp (En d j).name t.branches with
     | none=>rw[IW hc hbr] at h3;cases h3;exact hv
     | some t' =>
      rw[IV hc hbr] at h3;exact OC Ja (fun s t q e=>by obtain⟨r',c''⟩:=q;exact hO _ _ _ _ e) _ _ _ _ _ _ h3 hv
   obtain⟨p1,p2⟩:=hW _ _ _ _ hL h1 hv1 (hz _ hxm);have q1:=p1.st;have q2:=p1.nd;have q3:=p1.sz;have q4:=hz _ hxm;have hr:(size r:Int)≤30000+c1.nodes:=by omega
   have hone:X8 c c1 0 0:=⟨p1.lt,p1.st,p1.nd,by simp;omega⟩;have hg:∀l:Int,1000 - c.steps≤l→Dp E B1 V (k+1) t vs la l=P2 E B1 V k t vs (r,l - (c1.steps - c.steps)):=fun l hl=>by
    rw[LC hk (hb2 l) hx,p2 l hl];simp only[Out.chk,Out.bind];rw[if_pos h2]
   cases hc:DD E r with
   | none =>
    rw[GP hc] at h3;cases h3;exact⟨hone,fun _=>hr,fun l hl=>by rw[hg l hl,GP hc]⟩
   | some p =>
    obtain⟨d,j,f⟩:=p;cases hbr:Cp (En d j).name t.branches with
    | none =>
     rw[IW hc hbr] at h3;cases h3;exact⟨hone,fun _=>hr,fun l hl=>by rw[hg l hl,IW hc hbr]⟩
    | some t' =>
     rw[IV hc hbr] at h3;obtain⟨hf,_⟩:=Jw hc h2;obtain⟨s1,s2,s3⟩:=Pm hW hO k t' (vs++f) r c1 c' q p1.lt h3 hv (fun v hm=>by
      rcases List.mem_append.1 hm with hm | hm
      ·have:=hz v hm;omega
      have:=(hf v hm).2;omega) hr
     have e1:=s1.st;have e2:=s1.nd;refine⟨⟨s1.lt,by omega,by omega,by simp;omega⟩,s2,fun l hl=>?_⟩;rw[hg l hl,IV hc hbr];have:=s3 (l - (c1.steps - c.steps)) An;simp only;rw[this];congr 2;omega
  rw[Hn hk] at h;cases h;exact⟨self,(fun e=>by cases e),fun l hl=>by rw[Hn hk,Int.sub_self,Int.sub_zero]⟩
structure aL (c c':EP) (z:Nat) (q:Option Tm):Prop where
 lt:Lt c'
 st:c.steps≤c'.steps
 nd:c.nodes≤c'.nodes
 sz:∀x,q=some x→(size x:Int)≤z+(c'.nodes - c.nodes)
theorem bA {d:CH}{g m:Tm}{a:List Tm}{c c':EP}{q:Option Tm}(hL:Lt c) (h:Ew E DU d g a m c= .ok (q,c')) (hv:c'.over=false):aL c c' (Ba a+a.length) q∧∀l:Int,1000 - c.steps≤l→Ew E B1 d g a m l= .ok (q,l - (c'.steps - c.steps)):=by
 have self:aL c c (Ba a+a.length) none:=⟨hL,Int.le_refl _,Int.le_refl _,fun x e=>by cases e⟩;cases hc:DD E m with
 | none=>rw[Mg hc] at h;cases h;exact⟨self,fun l hl=>by rw[Mg hc,Int.sub_self,Int.sub_zero]⟩
 | some p =>
  obtain⟨e,j,f⟩:=p;by_cases hn:e.name≠d.name∨j≥(d.recs.rules.length:Int)
  ·rw[Qj hc hn] at h;cases h;exact⟨self,fun l hl=>by rw[Qj hc hn,Int.sub_self,Int.sub_zero]⟩
  have hlo:=(Fi hc).lo;have hlt:j.toNat<d.recs.rules.length:=by omega
  have hr:=List.getElem?_eq_getElem hlt;by_cases he:(Bn d.recs.rules[j.toNat] g.levels).2=0
  ·rw[Mo hc hn hr he] at h;obtain⟨h1,h2,h3,h4,h5,h6⟩:=JV hL (fun t c1 q c2 e hv=>by cases e;exact hv) h hv (k':=fun t s'=> .ok (some (apply t (a.drop (CT d+1).toNat)),s'));simp only at h3 h4 h5;cases h5;have u:=C8 (a.drop (CT d+1).toNat) (apply (apply (Bn d.recs.rules[j.toNat] g.levels).1 (a.take (d.fixed+1+d.ctors.length).toNat)) f);have u2:=DW a (CT d+1).toNat;have u3:(a.drop (CT d+1).toNat).length≤a.length:=by rw[List.length_drop];omega
   refine⟨⟨h2,by omega,by omega,fun x e=>?_⟩,fun l hl=>?_⟩
   ·cases e;have:((Ba a+a.length:Nat):Int)=Ba a+a.length:=by omega
    omega
   rw[Mo hc hn hr he,h6 l hl];congr 2;omega
  rw[L4 hc hn hr he] at h;cases h;exact⟨self,fun l hl=>by rw[L4 hc hn hr he,Int.sub_self,Int.sub_zero]⟩
theorem Xa {d:CH}{g:Tm}{a:List Tm}{c c':EP}{q:Option Tm}(hL:Lt c) (h:Ep DU d g a c= .ok (q,c')) (hv:c'.over=false):aL c c' (Ba a+a.length) q∧∀l:Int,1000 - c.steps≤l→Ep B1 d g a l= .ok (q,l - (c'.steps - c.steps)):=by
 by_cases he:(Bn d.value g.levels).2=0
 ·rw[KL he] at h;obtain⟨h1,h2,h3,h4,h5,h6⟩:=JV hL (fun t c1 q c2 e hv=>by cases e;exact hv) h hv (k':=fun t s'=> .ok (some (apply t a),s'));simp only at h3 h4 h5;cases h5;have u:=C8 a (Bn d.value g.levels).1;refine⟨⟨h2,by omega,by omega,fun x e=>by cases e;omega⟩,fun l hl=>?_⟩;rw[KL he,h6 l hl];congr 2;omega
 rw[Kg he] at h;cases h;exact⟨⟨hL,Int.le_refl _,Int.le_refl _,fun x e=>by cases e⟩,fun l hl=>by rw[Kg he,Int.sub_self,Int.sub_zero]⟩
theorem aE {g b:Tm}{vs a:List Tm}{c c':EP}{q:Option Tm}(hL:Lt c) (h:HM DU g b vs a c= .ok (q,c')) (hv:c'.over=false):aL c c' (Ba a+a.length) q∧∀l:Int,1000 - c.steps≤l→HM B1 g b vs a l= .ok (q,l - (c'.steps - c.steps)):=by
 by_cases he:(Bn b g.levels).2=0
 ·have hg:∀{σ:Type} (S:Sys σ) (s:σ),HM S g b vs a s=if okB (Bn b g.levels).1=false∨vs.all okB=false∨1125899906842624≤Ba vs then .stuck else S.put s (CJ (Bn b g.levels).1 vs.reverse 0) fun t s'=> .ok (some (apply t a),s'):=fun S s=>by rw[HM,if_neg An]
  rw[hg] at h;split at h
  ·cases h
  rename_i hn;obtain⟨h1,h2,h3,h4,h5,h6⟩:=JV hL (fun t c1 q c2 e hv=>by cases e;exact hv) h hv (k':=fun t s'=> .ok (some (apply t a),s'));cases h5;have u:=C8 a (CJ (Bn b g.levels).1 vs.reverse 0).1;refine⟨⟨h2,by omega,by omega,fun x e=>by cases e;omega⟩,fun l hl=>?_⟩;rw[hg,if_neg hn,h6 l hl];congr 2;omega
 rw[Kc he] at h;cases h;exact⟨⟨hL,Int.le_refl _,Int.le_refl _,fun x e=>by cases e⟩,fun l hl=>by rw[Kc he,Int.sub_self,Int.sub_zero]⟩
end
section
variable {E:List CH}{n:Nat}
theorem Qd {c:EP}{z:Nat}(hL:Lt c):aL c c z none:=⟨hL,Int.le_refl _,Int.le_refl _,fun x e=>by cases e⟩
theorem YN (hE:Je E) {W:EP→Tm→Out (Tm×EP)}{V:Int→Tm→Out (Tm×Int)}(hW:SW n W V) (hO:∀c t r c',W c t= .ok (r,c')→c'.over=false→c.over=false) {g:Tm}{a:List Tm}{c c':EP}{q:Option Tm}(hL:Lt c) (h:EU E DU W n g a c= .ok (q,c')) (hv:c'.over=false) (hz:(Ba a+a.length:Int)≤30000+c.nodes) (h1z:1≤30000+c.nodes) :
  aL c c' (Ba a+a.length) q∧∀l:Int,1000 - c.steps≤l→EU E B1 V n g a l= .ok (q,l - (c'.steps - c.steps)):=by
 cases hu:Tj E g with
 | false=>rw[JQ hu] at h;cases h;exact⟨Qd hL,fun l hl=>by rw[JQ hu,Int.sub_self,Int.sub_zero]⟩
 | true =>
  obtain⟨i,d,e1,e2,hd,e4⟩:=Kk hu;have hg:=hE.all d hd;have hnr:=IH hg;by_cases k1:(Bp E g.name).1.kind=1
  ·rw[I5 hu e4 k1] at h;obtain⟨s1,s2⟩:=Xa hL h hv;exact⟨s1,fun l hl=>by rw[I5 hu e4 k1];exact s2 l hl⟩
  by_cases k5:(Bp E g.name).1.kind=5
  ·rw[Hp hu e4 k5] at h;by_cases hl:(a.length:Int)≤CT d
   ·rw[Ow hl] at h;cases h;exact⟨Qd hL,fun l hl2=>by rw[Hp hu e4 k5,Ow hl,Int.sub_self,Int.sub_zero]⟩
   have hlt:(CT d).toNat<a.length:=by omega
   have hy:=List.getElem?_eq_getElem hlt;have hys:=Fx (List.getElem_mem hlt);rw[R5 hl hy] at h;obtain⟨⟨r,c1⟩,h1,h2,h3⟩:=J7 h;have hv1:c1.over=false:=V0 Ja h3 hv;obtain⟨p1,p2⟩:=hW _ _ _ _ hL h1 hv1 An;obtain⟨s1,s2⟩:=bA p1.lt h3 hv;have a1:=p1.st;have a2:=p1.nd;have a3:=s1.st;have a4:=s1.nd;refine⟨⟨s1.lt,by omega,by omega,fun x e=>by have:=s1.sz x e;omega⟩,fun l hl2=>?_⟩;rw[Hp hu e4 k5,R5 hl hy,p2 l hl2];simp only[Out.chk,Out.bind];rw[if_pos h2,s2 _ An];congr 2;omega
  by_cases k6:(Bp E g.name).1.kind=6
  ·obtain⟨k,f,h4,h5⟩:=e2.func k6;have hff:d.funs[(Bp E g.name).1.item.toNat]?=some f:=by rw[h5];simpa using h4
   rw[HH hu e4 k6 hff] at h;by_cases hl:(a.length:Int)<f.arity
   ·rw[Ki hl] at h;cases h;exact⟨Qd hL,fun l hl2=>by rw[HH hu e4 k6 hff,Ki hl,Int.sub_self,Int.sub_zero]⟩
   rw[Kj hl] at h;obtain⟨⟨lq,c1⟩,h1,h2⟩:=Iy h;have hts:=DW a f.arity.toNat;have hdl:(a.drop f.arity.toNat).length≤a.length:=by rw[List.length_drop];omega
   have hz0:size Bc=1:=rfl;have hv1:c1.over=false:=by
    cases ho:c1.over with
    | false=>rfl
    | true=>rw[JT (.inr ho)] at h2;cases h2;rw[ho] at hv;cases hv
   obtain⟨p1,p2,p3⟩:=Pm hW hO n f.tree (a.take f.arity.toNat) Bc c c1 lq hL h1 hv1 (fun v hm=>by have:=Fx (List.mem_of_mem_take hm);omega) An;have a1:=p1.st;have a2:=p1.nd;cases hs:lq.1.isSome with
   | false =>
    rw[JT (.inl hs)] at h2;cases h2;refine⟨⟨p1.lt,a1,a2,fun x e=>by cases e⟩,fun l hl2=>?_⟩;rw[HH hu e4 k6 hff,Kj hl,p3 l hl2];simp only[Out.bind];rw[JT (.inl hs)]
   | true =>
    rw[LA hs hv1] at h2;obtain⟨s1,s2⟩:=aE p1.lt h2 hv;have a3:=s1.st;have a4:=s1.nd;refine⟨⟨s1.lt,by omega,by omega,fun x e=>by have:=s1.sz x e;omega⟩,fun l hl2=>?_⟩;rw[HH hu e4 k6 hff,Kj hl,p3 l hl2];simp only[Out.bind];rw[LA hs rfl,s2 _ An];congr 2;omega
  rw[IK hu k1 k5 k6] at h;cases h;exact⟨Qd hL,fun l hl=>by rw[IK hu k1 k5 k6,Int.sub_self,Int.sub_zero]⟩
theorem Fg {n:Nat}{c c':EP}{t r:Tm}(h:EA E DU n c t= .ok (r,c')) (hv:c'.over=false):c.over=false:=R3 Ja n c t _ h hv
theorem Yb (hE:Je E):∀n,SW n (EA E DU n) (EA E B1 n)
 | 0=>fun c t r c' hL h _ _=>by rw[EA] at h;cases h
 | n+1=>fun c t r c' hL h hv hz=>by
  have ih:=Yb hE n;have ho:=XG h Ao;have hov:DU.over c=false:=hL.ov;have hov2:∀l,B1.over l=false:=fun _=>rfl;have hmr:DU.many (BA t).2.length=false:=rfl;have hss:=HF t;have hsp:=size_pos (BA t).1;have n0:=hL.n0;have n1:=hL.n1;have hmp:B1.many (BA t).2.length=false:=by simp only[B1];exact decide_eq_false An
  obtain⟨oh,oa⟩:=Hj ho;have self:X8 c c (size t) (size t):=⟨hL,Int.le_refl _,Int.le_refl _,by omega⟩
  -- what follows a contraction
  have cont:∀(x:Tm) (c1:EP) (k':Int→Out (Tm×Int)),Lt c1→c.steps+1≤c1.steps→c.nodes≤c1.nodes→(size x:Int)≤size t+(c1.nodes - c.nodes)→EA E DU n c1 x= .ok (r,c')→(∀l:Int,1000 - c.steps≤l→k' l=EA E B1 n (l - (c1.steps - c.steps)) x)→X8 c c' (size t) (size r)∧∀l:Int,1000 - c.steps≤l→k' l= .ok (r,l - (c'.steps - c.steps)):=by
   intro x c1 k' g1 g2 g3 g4 g5 g6;obtain⟨p1,p2⟩:=ih _ _ _ _ g1 g5 hv An;have a1:=p1.st;have a2:=p1.nd;have a3:=p1.sz;refine⟨⟨p1.lt,by omega,by omega,by omega⟩,fun l hl=>?_⟩;rw[g6 l hl,p2 _ An];congr 2;omega
  by_cases k5:(BA t).1.kind=5
  ·by_cases hl:(BA t).2.length=0
   ·rw[OM ho hov hmr k5 hl] at h;cases h;exact⟨self,fun l _=>by rw[OM ho (hov2 l) hmp k5 hl,Int.sub_self,Int.sub_zero]⟩
   obtain⟨b,hb,_⟩:=GY oh (i:=1) (by rw[k5];decide);rw[RP ho hov hmr k5 hl hb] at h;obtain⟨h1,h2,h3,h4,h5,h6⟩:=JV hL (fun t c1 q c2 e hv=>Fg e hv) h hv (k':=fun x s'=>EA E B1 n s' (apply x ((BA t).2.drop 1)));have u:=C8 ((BA t).2.drop 1) (CJ b ((BA t).2.take 1) 0).1;have u2:=DW (BA t).2 1;have u3:((BA t).2.drop 1).length≤(BA t).2.length:=by rw[List.length_drop];omega
   refine cont _ _ _ h2 An An An h5 fun l hl2=>?_;rw[RP ho (hov2 l) hmp k5 hl hb,h6 l hl2];congr 1;omega
  by_cases k11:(BA t).1.kind=11
  ·obtain⟨v,hvk,_⟩:=GY oh (i:=1) (by rw[k11];decide);obtain⟨b,hb,_⟩:=GY oh (i:=2) (by rw[k11];decide);rw[R7 ho hov hmr k11 hvk hb] at h;obtain⟨h1,h2,h3,h4,h5,h6⟩:=JV hL (fun t c1 q c2 e hv=>Fg e hv) h hv (k':=fun x s'=>EA E B1 n s' (apply x (BA t).2));have u:=C8 (BA t).2 (CJ b [v] 0).1;refine cont _ _ _ h2 An An An h5 fun l hl2=>?_;rw[R7 ho (hov2 l) hmp k11 hvk hb,h6 l hl2];congr 1;omega
  by_cases k9:(BA t).1.kind=9∨(BA t).1.kind=10
  ·obtain⟨p,hpk,op,sp⟩:=GY oh (i:=0) (by rcases k9 with h | h<;>rw[h]<;>decide);rw[OL ho hov hmr k9 hpk] at h;obtain⟨⟨r1,c1⟩,h1,h2,h3⟩:=J7 h;have hg:∀l:Int,1000 - c.steps≤l→c1.over=false→EA E B1 (n+1) l t=P1 E B1 n (BA t).1 (BA t).2 (r1,l - (c1.steps - c.steps)):=fun l hl hv1=>by
    obtain⟨p1,p2⟩:=ih _ _ _ _ hL h1 hv1 An;rw[OL ho (hov2 l) hmp k9 hpk,p2 l hl];simp only[Out.chk,Out.bind];rw[if_pos h2]
   by_cases k8:r1.kind=8
   ·have har:arity 8=3:=rfl;obtain⟨y,hy,oy,sy⟩:=GY h2 (i:=(1+(BA t).1.kind - 9).toNat) (by show _<arity r1.kind;rw[k8,har];omega);rw[Oo (r:=(r1,c1)) k8 hy] at h3;have hv1:c1.over=false:=by
     have:=Jk Ja (s:=c1) (fun t c1 q e hv=>Fg e hv) h3;exact this hv
    obtain⟨p1,p2⟩:=ih _ _ _ _ hL h1 hv1 An;obtain⟨q1,q2,q3,q4,q5,q6⟩:=JV p1.lt (fun t c1 q c2 e hv=>Fg e hv) h3 hv (k':=fun x s'=>EA E B1 n s' (apply x (BA t).2));have u:=C8 (BA t).2 y;have a1:=p1.st;have a2:=p1.nd;have a3:=p1.sz;simp only at q3 q4 q5 sy;refine cont (apply y (BA t).2) (c1.result y 0) _ q2 An An An q5 fun l hl2=>?_;rw[hg l hl2 hv1,Oo (r:=(r1,l - (c1.steps - c.steps))) k8 hy,q6 _ An];congr 1;simp only;omega
   rw[Lu (r:=(r1,c1)) k8] at h3;cases h3;obtain⟨p1,p2⟩:=ih _ _ _ _ hL h1 hv An;have a1:=p1.st;have a2:=p1.nd;have a3:=p1.sz;have u:=C8 (BA t).2 (Ip (BA t).1.kind r1);have u2:size (Ip (BA t).1.kind r1)=1+size r1:=by simp only[Ip,size,Ba];omega
   refine⟨⟨p1.lt,a1,a2,by simp only;omega⟩,fun l hl=>?_⟩;rw[hg l hl hv,Lu (r:=(r1,l - (c1.steps - c.steps))) k8]
  by_cases k3:(BA t).1.kind=3
  ·rw[KZ ho hov hmr k3] at h;obtain⟨⟨q,c1⟩,h1,h2⟩:=Iy h;have hv1:c1.over=false:=by
    cases hq:q.isSome with
    | false=>rw[Rh hq] at h2;cases h2;exact hv
    | true=>rw[RG hq] at h2;exact Fg h2 hv
   obtain⟨s1,s2⟩:=YN hE ih (fun c t r c' e hv=>Fg e hv) hL h1 hv1 An An;have a1:=s1.st;have a2:=s1.nd;cases hq:q.isSome with
   | false =>
    rw[Rh hq] at h2;cases h2;refine⟨⟨s1.lt,a1,a2,by omega⟩,fun l hl=>?_⟩;rw[KZ ho (hov2 l) hmp k3,s2 l hl];simp only[Out.bind];rw[Rh hq]
   | true =>
    rw[RG hq] at h2;obtain⟨x,rfl⟩:=Option.isSome_iff_exists.1 hq;have a3:=s1.sz x rfl;simp only[Option.getD_some] at h2;obtain⟨p1,p2⟩:=ih _ _ _ _ s1.lt h2 hv An;have b1:=p1.st;have b2:=p1.nd;have b3:=p1.sz;refine⟨⟨p1.lt,by omega,by omega,by omega⟩,fun l hl=>?_⟩;rw[KZ ho (hov2 l) hmp k3,s2 l hl];simp only[Out.bind];rw[RG rfl];simp only[Option.getD_some];rw[p2 _ An];congr 2;omega
  have k9a:(BA t).1.kind≠9:=fun e=>k9 (.inl e);have k9b:(BA t).1.kind≠10:=fun e=>k9 (.inr e);rw[VG ho hov hmr k5 k11 k9a k9b k3] at h;cases h;exact⟨self,fun l _=>by rw[VG ho (hov2 l) hmp k5 k11 k9a k9b k3,Int.sub_self,Int.sub_zero]⟩
end
section
variable {E:List CH}
def kR {α:Type}(c:EP) (o:Int→Out (α×Int)) (q:α):Prop:=∀l:Int,1000 - c.steps≤l→∃l',o l= .ok (q,l')
theorem Zk {c c':EP}{x:Tm×Int}{f:Tm→Tm}{q:Option Tm}(hL:Lt c) (h:DU.put c x (fun t s=> .ok (some (f t),s))= .ok (q,c')) (hv:c'.over=false):kR c (fun l=>B1.put l x fun t s=> .ok (some (f t),s)) q:=by
 obtain⟨h1,h2,h3,h4,h5,h6⟩:=JV hL (fun t c1 q c2 e hv=>by cases e;exact hv) h hv (k':=fun t s=>Out.ok (some (f t),s));cases h5;exact fun l hl=>⟨l - 1,h6 l hl⟩
theorem dC (hE:Je E) {n:Nat}{t:Es}{a:List Tm}{c c':EP}{q:Option Tm}(hL:Lt c) (h:Gn E DU n t a c= .ok (q,c')) (hv:c'.over=false) (hz:∀v∈a,(size v:Int)≤30000+c.nodes):kR c (fun l=>Gn E B1 n t a l) q:=by
 intro l hl;simp only;unfold Gn at h ⊢;obtain⟨⟨lq,c1⟩,h1,h2⟩:=Iy h;have hz0:size Bc=1:=rfl;have n0:=hL.n0;have hg:c1.over=false→X8 c c1 0 0∧∀l:Int,1000 - c.steps≤l→Dp E B1 (EA E B1 n) n t a Bc l= .ok (lq,l - (c1.steps - c.steps)):=fun hv1=>by
  obtain⟨p1,p2,p3⟩:=Pm (Yb hE n) (fun c t r c' e hv=>Fg e hv) n t a Bc c c1 lq hL h1 hv1 hz An;exact⟨p1,p3⟩
 obtain⟨q1,q2⟩:=lq;cases q1 with
 | none =>
  cases h2;obtain⟨p1,p3⟩:=hg hv;rw[p3 l hl];exact⟨_,O⟩
 | some bv =>
  obtain⟨b,vs⟩:=bv;simp only at h2;split at h2
  ·cases h2
  rename_i hn;have hv1:c1.over=false:=Jk Ja (s:=c1) (q:=(q,c')) (fun t c1 q e hv=>by cases e;exact hv) h2 hv;obtain⟨p1,p3⟩:=hg hv1;have a1:=p1.st;rw[p3 l hl];simp only[Out.bind];rw[if_neg hn];exact Zk (f:=fun x=>x) p1.lt h2 hv _ An
end
section
variable {E:List CH}
end
end Go.Eu
